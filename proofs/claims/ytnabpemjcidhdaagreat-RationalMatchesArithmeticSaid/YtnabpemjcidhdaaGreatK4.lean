/- A small program logic over the translated Go code, plain laws, and walks over the functions: several texts in one. No condition. -/
import Derived.Test.YtnabpemjcidhdaaGreatK3
/- Walks over the Go functions, printed by a program of this session over the kit's print, and by hand. -/
set_option linter.unusedVariables false
set_option linter.unusedSimpArgs false
namespace Go.VL
open Go.Proofs
theorem g64 {p q r s : Int} (hp : inB p = true) (hq : inB q = true) (hr : inB r = true) (hs : inB s = true) (p0 : 0 ≤ p) (q0 : 0 < q) (s0 : 0 ≤ s) (lt : p * s < r * q) : VF Tryz.prog 42 [.agg [boolB (zN (p)), u32S (zL (p)), boolB (zN (q)), u32S (zL (q))], .agg [boolB (zN (r)), u32S (zL (r)), boolB (zN (s)), u32S (zL (s))]] (poR (cfQ p q r s)) := by
  refine VF_of P_mixed Tryz.func42 rfl rfl (by kernel_rfl) <| Sq <| Rg <| Vs (Bx 0 rfl) <| Vs (Bx 1 rfl) <| Vs (Al 2 TZ26 rfl) <| Vs (As rfl) <| Nx <| VCode.scope <| Sq <| Rd (by kernel_rfl) <| Vl (Fa TF26_0 rfl) <| Vl (LdS TA24 TS24 rfl) <| Vl (Fa TF26_1 rfl) <| Vl (LdS TA24 TS24 rfl) <| Vl (Fa TF26_0 rfl) <| Vl (LdS TA24 TS24 rfl) <| Vl (Fa TF26_1 rfl) <| Vl (LdS TA24 TS24 rfl) <| Vl (Al 12 TZ24 rfl) <| Vl (Al 13 TZ24 rfl) <| Vl (Al 14 TZ24 rfl) <| Vl (Al 15 TZ24 rfl) <| Vl (StS TS24 rfl) <| Vl (StS TS24 rfl) <| Vl (StS TS24 rfl) <| Vl (StS TS24 rfl) <| ?_
  refine VLog.nil ⟨by kernel_rfl, ?_⟩
  refine Tg <| Sq <| Rg <| Vs (C0 rfl rfl (c28 (n := 1) (by first | omega | assumption | (simp; done) | (simp; omega)) (by first | omega | assumption | (simp; done) | (simp; omega)))) <| Vs (Al 21 TZ24 rfl) <| Vs (StS TS24 rfl) <| Nx <| Sq <| Rg <| Vs (An rfl) <| Nx <| Sq <| VCode.label <| Tg <| VCode.join (α := (List Int) × (Nat)) (fun x_ => match x_ with | (L, mm) => (91, sl [(4, .ptr 2 (0)), (10, .ptr 21 (0)), (11, .own 90 (mm))], en [(2, ⟨4, [vB (false), vS ([]), vB (false), vS ([])], true⟩), (21, ⟨2, [vB (zN (1)), vS (zL (1))], true⟩), (90, rowT 2 fZ (L))])) (fun x_ => match x_ with | (L, mm) => (cfP ((q + s).toNat + 1) p q r s = some L ∧ L.length = mm) ∧ 0 < mm ∧ mm ≤ 8194 ∧ ∀ z ∈ L, inB z = true) ?_ ?_
  · skip
    refine Bk <| VCode.loop (α := ((Int) × (Int) × (Int) × (Int)) ⊕ ((List Int) × (Nat) × (Int) × (Int) × (Int) × (Int))) (fun x_ => match x_ with | .inl (n, d, m, f) => (22, sl [(4, .ptr 2 (0)), (6, .ptr 12 (0)), (7, .ptr 13 (0)), (8, .ptr 14 (0)), (9, .ptr 15 (0)), (10, .ptr 21 (0)), (11, .b .nil)], en [(2, ⟨4, [vB (false), vS ([]), vB (false), vS ([])], true⟩), (12, ⟨2, [vB (zN (n)), vS (zL (n))], true⟩), (13, ⟨2, [vB (zN (d)), vS (zL (d))], true⟩), (14, ⟨2, [vB (zN (m)), vS (zL (m))], true⟩), (15, ⟨2, [vB (zN (f)), vS (zL (f))], true⟩), (21, ⟨2, [vB (zN (1)), vS (zL (1))], true⟩)]) | .inr (L, mm, n, d, m, f) => (91, sl [(4, .ptr 2 (0)), (6, .ptr 12 (0)), (7, .ptr 13 (0)), (8, .ptr 14 (0)), (9, .ptr 15 (0)), (10, .ptr 21 (0)), (11, .own 90 (mm))], en [(2, ⟨4, [vB (false), vS ([]), vB (false), vS ([])], true⟩), (12, ⟨2, [vB (zN (n)), vS (zL (n))], true⟩), (13, ⟨2, [vB (zN (d)), vS (zL (d))], true⟩), (14, ⟨2, [vB (zN (m)), vS (zL (m))], true⟩), (15, ⟨2, [vB (zN (f)), vS (zL (f))], true⟩), (21, ⟨2, [vB (zN (1)), vS (zL (1))], true⟩), (90, rowT 2 fZ (L))])) (fun x_ => match x_ with | .inl (n, d, m, f) => PosI (cfP ((q + s).toNat + 1) p q r s) [] n d m f | .inr (L, mm, n, d, m, f) => PosI (cfP ((q + s).toNat + 1) p q r s) L n d m f ∧ L.length = mm) (fun x_ => match x_ with | .inl (n, d, m, f) => (d + f).toNat | .inr (L, mm, n, d, m, f) => (d + f).toNat) (.inl (p, q, r, s)) (PosI.start p0 q0 s0 lt hp hq hr hs) Wk ?_
    rintro (⟨n, d, m, f⟩ | ⟨L, mm, n, d, m, f⟩) hok
    · change VCode _ _ _ 22 (sl _) (en _) _
      have z1 := hok.pd
      obtain ⟨i1, i2, i3, i4⟩ := hok.i
      have iq := fdiv_in i1 (Int.ne_of_gt hok.pd)
      obtain ⟨im, is⟩ := hok.more
      have hl := hok.len
      have z2 := hok.pf
      refine Bk <| Sq <| Rg <| Vs (LdS TA24 TS24 rfl) <| Vs (LdS TA24 TS24 rfl) <| Vs (C0 rfl rfl (c18 (x := n) (y := d) inT inT (by first | with_reducible assumption | omega))) <| Vs (Mv rfl) <| Vs (Xt rfl) <| Vs (Xt rfl) <| Vs (Xt rfl) <| Vs (Al 29 TZ24 rfl) <| Vs (Al 30 TZ24 rfl) <| Vs (StS TS24 rfl) <| Vs (StS TS24 rfl) <| Vs (As rfl) <| Nx <| Sq <| Rg <| Vs (LdS TA24 TS24 rfl) <| Vs (LdS TA24 TS24 rfl) <| Vs (C0 rfl rfl (c38 (x := (n).fdiv (d)) (y := 1) inT inT)) <| Vs (Mv rfl) <| Vs (Xt rfl) <| Vs (Xt rfl) <| Vs (Al 40 TZ24 rfl) <| Vs (StS TS24 rfl) <| Vs (As rfl) <| Nx <| Sq <| Sq <| Rg <| Vs (Mv rfl) <| Vs (Bi rfl) <| Nx <| Cd rfl (fun hc1 => ?_) (fun hc1 => ?_)
      · replace hc1 := bne_iff_ne.1 hc1
        exact Sq <| Rg <| Vs (Bd TQ26 rfl) <| Vs (Mv rfl) <| Vs (StS TS26 rfl) <| Vs (As rfl) <| Nx <| Re <| Tr <| Iq <| Or <| Iq <| Jr <| Fi (l := [.agg [boolB (false), u32S ([]), boolB (false), u32S ([])], numB .i64 (zE (((n).fdiv (d)) + (1)))]) (Rc (resVar_cell rfl rfl TA26 TS26 (Nat.le_of_ble_eq_true rfl) rfl) (Rc (resVar_tmp rfl rfl) Rn)) (po_none (show cfQ p q r s = none by rw [cfQ, hok.none' hc1]; rfl) hc1 (zE_or _))
      · replace hc1 := bne_eq_false_iff_eq.1 hc1
        have iN := zE_in.1 hc1
        refine Ks <| Tg <| Sq <| Bk <| Sq <| Sq <| Rg <| Vs (LdS TA24 TS24 rfl) <| Vs (Cf rfl rfl (g51 (z := f) inT) rfl) <| Vs (As rfl) <| Nx <| Cd rfl (fun hc2 => ?_) (fun hc2 => ?_)
        · replace hc2 := of_decide_eq_true hc2
          refine Ks <| Tg <| Cd rfl (fun hc3 => ?_) (fun hc3 => ?_)
          · replace hc3 := of_decide_eq_true hc3
            exact Sq <| Rg <| Vs (Mv rfl) <| Vs (LdS TA24 TS24 rfl) <| Vs (sq1 50 rfl (.buildS _ 1 _ 24 [.agg [vB (zN (((n).fdiv (d)) + (1))), vS (zL (((n).fdiv (d)) + (1)))]] 2 _ [vB (zN (((n).fdiv (d)) + (1))), vS (zL (((n).fdiv (d)) + (1)))] rfl TU82 TZ24 TS24 (List.cons_ne_nil _ _) (by decide) rfl rfl)) <| Vs (An1 51 TU82 TS24 TB24 TN24 (x1 := ((n).fdiv (d)) + (1)) (f := fZ) rfl fZ_len) <| Vs (As rfl) <| Nx <| Ke <| Io <| Te <| Io <| Oe <| Ih <| Jg ([((n).fdiv (d)) + (1)], 1) ⟨⟨hok.done hc1 (.inl hc2), rfl⟩, by decide, by decide, one_in iN⟩ (Wt [(90, 51)])
          · replace hc3 := of_decide_eq_false hc3
            exact absurd hc2 hc3
        · replace hc2 := of_decide_eq_false hc2
          refine Rg <| Vs (LdS TA24 TS24 rfl) <| Vs (LdS TA24 TS24 rfl) <| Vs (Bd TQ26 rfl) <| Vs (LdS TA24 TS24 rfl) <| Vs (LdS TA24 TS24 rfl) <| Vs (Bd TQ26 rfl) <| Vs (Cf rfl rfl (g63 (p := ((n).fdiv (d)) + (1)) (q := 1) (r := m) (s := f) inT inT inT inT (by first | omega | assumption | (simp; done) | (simp; omega)) (by first | omega | assumption | (simp; done) | (simp; omega))) rfl) <| Vs (Bi rfl) <| Vs (As rfl) <| Nx <| Cd rfl (fun hc4 => ?_) (fun hc4 => ?_)
          · replace hc4 := of_decide_eq_true hc4
            exact Sq <| Rg <| Vs (Mv rfl) <| Vs (LdS TA24 TS24 rfl) <| Vs (sq1 59 rfl (.buildS _ 1 _ 24 [.agg [vB (zN (((n).fdiv (d)) + (1))), vS (zL (((n).fdiv (d)) + (1)))]] 2 _ [vB (zN (((n).fdiv (d)) + (1))), vS (zL (((n).fdiv (d)) + (1)))] rfl TU82 TZ24 TS24 (List.cons_ne_nil _ _) (by decide) rfl rfl)) <| Vs (An1 60 TU82 TS24 TB24 TN24 (x1 := ((n).fdiv (d)) + (1)) (f := fZ) rfl fZ_len) <| Vs (As rfl) <| Nx <| Ke <| Io <| Te <| Io <| Oe <| Ih <| Jg ([((n).fdiv (d)) + (1)], 1) ⟨⟨hok.done hc1 (.inr (by have h9 := cmp3_lt.1 hc4; rwa [Int.mul_one] at h9)), rfl⟩, by decide, by decide, one_in iN⟩ (Wt [(90, 60)])
          · replace hc4 := of_decide_eq_false hc4
            refine Ks <| Ig <| Tg <| Sq <| Rg <| Vs (Mv rfl) <| Vs (LdS TA24 TS24 rfl) <| Vs (sq1 59 rfl (.buildS _ 1 _ 24 [.agg [vB (zN ((n).fdiv (d))), vS (zL ((n).fdiv (d)))]] 2 _ [vB (zN ((n).fdiv (d))), vS (zL ((n).fdiv (d)))] rfl TU82 TZ24 TS24 (List.cons_ne_nil _ _) (by decide) rfl rfl)) <| Vs (An1 60 TU82 TS24 TB24 TN24 (x1 := (n).fdiv (d)) (f := fZ) rfl fZ_len) <| Vs (As rfl) <| Nx <| Sq <| Rg <| Vs (LdS TA24 TS24 rfl) <| Vs (LdS TA24 TS24 rfl) <| Vs (C0 rfl rfl (c29 (x := (n).fdiv (d)) (y := f) inT inT)) <| Vs (Mv rfl) <| Vs (Xt rfl) <| Vs (Xt rfl) <| Vs (Al 68 TZ24 rfl) <| Vs (StS TS24 rfl) <| Vs (As rfl) <| Nx <| Sq <| Rg <| Vs (LdS TA24 TS24 rfl) <| Vs (LdS TA24 TS24 rfl) <| Vs (C0 rfl rfl (c40 (x := m) (y := ((n).fdiv (d)) * (f)) inT inT)) <| Vs (Mv rfl) <| Vs (Xt rfl) <| Vs (Xt rfl) <| Vs (Al 77 TZ24 rfl) <| Vs (StS TS24 rfl) <| Vs (As rfl) <| Nx <| Rd (by kernel_rfl) <| Vl (LdS TA24 TS24 rfl) <| Vl (LdS TA24 TS24 rfl) <| Vl (LdS TA24 TS24 rfl) <| Vl (LdS TA24 TS24 rfl) <| Vl (StS TS24 rfl) <| Vl (StS TS24 rfl) <| Vl (StS TS24 rfl) <| Vl (StS TS24 rfl) <| ?_
            refine VLog.nil ⟨by kernel_rfl, ?_⟩
            exact Ig <| Go (.inr ([(n).fdiv (d)], 1, f, m - n.fdiv d * f, d, n.fmod d)) ⟨hok.next hc1 hc2 (fun h9 => hc4 (cmp3_lt.2 (by rw [Int.mul_one]; exact h9))), rfl⟩ (Wt [(90, 60)]) (hok.mu (fun h9 => hc4 (cmp3_lt.2 (by rw [Int.mul_one]; exact h9))))
    · change VCode _ _ _ 91 (sl _) (en _) _
      obtain ⟨hok, hm⟩ := hok
      have z1 := hok.pd
      obtain ⟨i1, i2, i3, i4⟩ := hok.i
      have iq := fdiv_in i1 (Int.ne_of_gt hok.pd)
      obtain ⟨im, is⟩ := hok.more
      have hl := hok.len
      have z2 := hok.pf
      refine Bk <| Sq <| Rg <| Vs (LdS TA24 TS24 rfl) <| Vs (LdS TA24 TS24 rfl) <| Vs (C0 rfl rfl (c18 (x := n) (y := d) inT inT (by first | with_reducible assumption | omega))) <| Vs (Mv rfl) <| Vs (Xt rfl) <| Vs (Xt rfl) <| Vs (Xt rfl) <| Vs (Al 98 TZ24 rfl) <| Vs (Al 99 TZ24 rfl) <| Vs (StS TS24 rfl) <| Vs (StS TS24 rfl) <| Vs (As rfl) <| Nx <| Sq <| Rg <| Vs (LdS TA24 TS24 rfl) <| Vs (LdS TA24 TS24 rfl) <| Vs (C0 rfl rfl (c38 (x := (n).fdiv (d)) (y := 1) inT inT)) <| Vs (Mv rfl) <| Vs (Xt rfl) <| Vs (Xt rfl) <| Vs (Al 109 TZ24 rfl) <| Vs (StS TS24 rfl) <| Vs (As rfl) <| Nx <| Sq <| Sq <| Rg <| Vs (Mv rfl) <| Vs (Bi rfl) <| Nx <| Cd rfl (fun hc5 => ?_) (fun hc5 => ?_)
      · replace hc5 := bne_iff_ne.1 hc5
        exact Sq <| Rg <| Vs (Bd TQ26 rfl) <| Vs (Mv rfl) <| Vs (StS TS26 rfl) <| Vs (As rfl) <| Nx <| Re <| Tr <| Iq <| Or <| Iq <| Jr <| Fi (l := [.agg [boolB (false), u32S ([]), boolB (false), u32S ([])], numB .i64 (zE (((n).fdiv (d)) + (1)))]) (Rc (resVar_cell rfl rfl TA26 TS26 (Nat.le_of_ble_eq_true rfl) rfl) (Rc (resVar_tmp rfl rfl) Rn)) (po_none (show cfQ p q r s = none by rw [cfQ, hok.none' hc5]; rfl) hc5 (zE_or _))
      · replace hc5 := bne_eq_false_iff_eq.1 hc5
        have iN := zE_in.1 hc5
        refine Ks <| Tg <| Sq <| Bk <| Sq <| Sq <| Rg <| Vs (LdS TA24 TS24 rfl) <| Vs (Cf rfl rfl (g51 (z := f) inT) rfl) <| Vs (As rfl) <| Nx <| Cd rfl (fun hc6 => ?_) (fun hc6 => ?_)
        · replace hc6 := of_decide_eq_true hc6
          refine Ks <| Tg <| Cd rfl (fun hc7 => ?_) (fun hc7 => ?_)
          · replace hc7 := of_decide_eq_true hc7
            exact Sq <| Rg <| Vs (Mv rfl) <| Vs (LdS TA24 TS24 rfl) <| Vs (sq1 119 rfl (.buildS _ 1 _ 24 [.agg [vB (zN (((n).fdiv (d)) + (1))), vS (zL (((n).fdiv (d)) + (1)))]] 2 _ [vB (zN (((n).fdiv (d)) + (1))), vS (zL (((n).fdiv (d)) + (1)))] rfl TU82 TZ24 TS24 (List.cons_ne_nil _ _) (by decide) rfl rfl)) <| Vs (Ao1 120 TU82 TS24 TB24 TN24 (x1 := ((n).fdiv (d)) + (1)) (f := fZ) rfl fZ_len) <| Vs (As rfl) <| Nx <| Ke <| Io <| Te <| Io <| Oe <| Ih <| Jg ((L) ++ [((n).fdiv (d)) + (1)], (mm) + 1) ⟨⟨hok.done hc5 (.inl hc6), by simp [hm]⟩, by omega, by omega, app_in hok.ins iN⟩ (Wt [(90, 120)])
          · replace hc7 := of_decide_eq_false hc7
            exact absurd hc6 hc7
        · replace hc6 := of_decide_eq_false hc6
          refine Rg <| Vs (LdS TA24 TS24 rfl) <| Vs (LdS TA24 TS24 rfl) <| Vs (Bd TQ26 rfl) <| Vs (LdS TA24 TS24 rfl) <| Vs (LdS TA24 TS24 rfl) <| Vs (Bd TQ26 rfl) <| Vs (Cf rfl rfl (g63 (p := ((n).fdiv (d)) + (1)) (q := 1) (r := m) (s := f) inT inT inT inT (by first | omega | assumption | (simp; done) | (simp; omega)) (by first | omega | assumption | (simp; done) | (simp; omega))) rfl) <| Vs (Bi rfl) <| Vs (As rfl) <| Nx <| Cd rfl (fun hc8 => ?_) (fun hc8 => ?_)
          · replace hc8 := of_decide_eq_true hc8
            exact Sq <| Rg <| Vs (Mv rfl) <| Vs (LdS TA24 TS24 rfl) <| Vs (sq1 128 rfl (.buildS _ 1 _ 24 [.agg [vB (zN (((n).fdiv (d)) + (1))), vS (zL (((n).fdiv (d)) + (1)))]] 2 _ [vB (zN (((n).fdiv (d)) + (1))), vS (zL (((n).fdiv (d)) + (1)))] rfl TU82 TZ24 TS24 (List.cons_ne_nil _ _) (by decide) rfl rfl)) <| Vs (Ao1 129 TU82 TS24 TB24 TN24 (x1 := ((n).fdiv (d)) + (1)) (f := fZ) rfl fZ_len) <| Vs (As rfl) <| Nx <| Ke <| Io <| Te <| Io <| Oe <| Ih <| Jg ((L) ++ [((n).fdiv (d)) + (1)], (mm) + 1) ⟨⟨hok.done hc5 (.inr (by have h9 := cmp3_lt.1 hc8; rwa [Int.mul_one] at h9)), by simp [hm]⟩, by omega, by omega, app_in hok.ins iN⟩ (Wt [(90, 129)])
          · replace hc8 := of_decide_eq_false hc8
            refine Ks <| Ig <| Tg <| Sq <| Rg <| Vs (Mv rfl) <| Vs (LdS TA24 TS24 rfl) <| Vs (sq1 128 rfl (.buildS _ 1 _ 24 [.agg [vB (zN ((n).fdiv (d))), vS (zL ((n).fdiv (d)))]] 2 _ [vB (zN ((n).fdiv (d))), vS (zL ((n).fdiv (d)))] rfl TU82 TZ24 TS24 (List.cons_ne_nil _ _) (by decide) rfl rfl)) <| Vs (Ao1 129 TU82 TS24 TB24 TN24 (x1 := (n).fdiv (d)) (f := fZ) rfl fZ_len) <| Vs (As rfl) <| Nx <| Sq <| Rg <| Vs (LdS TA24 TS24 rfl) <| Vs (LdS TA24 TS24 rfl) <| Vs (C0 rfl rfl (c29 (x := (n).fdiv (d)) (y := f) inT inT)) <| Vs (Mv rfl) <| Vs (Xt rfl) <| Vs (Xt rfl) <| Vs (Al 137 TZ24 rfl) <| Vs (StS TS24 rfl) <| Vs (As rfl) <| Nx <| Sq <| Rg <| Vs (LdS TA24 TS24 rfl) <| Vs (LdS TA24 TS24 rfl) <| Vs (C0 rfl rfl (c40 (x := m) (y := ((n).fdiv (d)) * (f)) inT inT)) <| Vs (Mv rfl) <| Vs (Xt rfl) <| Vs (Xt rfl) <| Vs (Al 146 TZ24 rfl) <| Vs (StS TS24 rfl) <| Vs (As rfl) <| Nx <| Rd (by kernel_rfl) <| Vl (LdS TA24 TS24 rfl) <| Vl (LdS TA24 TS24 rfl) <| Vl (LdS TA24 TS24 rfl) <| Vl (LdS TA24 TS24 rfl) <| Vl (StS TS24 rfl) <| Vl (StS TS24 rfl) <| Vl (StS TS24 rfl) <| Vl (StS TS24 rfl) <| ?_
            refine VLog.nil ⟨by kernel_rfl, ?_⟩
            exact Ig <| Go (.inr ((L) ++ [(n).fdiv (d)], (mm) + 1, f, m - n.fdiv d * f, d, n.fmod d)) ⟨hok.next hc5 hc6 (fun h9 => hc8 (cmp3_lt.2 (by rw [Int.mul_one]; exact h9))), by simp [hm]⟩ (Wt [(90, 129)]) (hok.mu (fun h9 => hc8 (cmp3_lt.2 (by rw [Int.mul_one]; exact h9))))
  · rintro ⟨L, mm⟩ hok
    obtain ⟨⟨hR, hm⟩, m0, m1, hi⟩ := hok
    change VCode _ _ _ 91 (sl _) (en _) _
    refine Sq <| Rd (by kernel_rfl) <| Vl (Mv rfl) <| Vl (Mv rfl) <| Vl (Lo TU82 rfl) <| Vl (Bo rfl suI) <| Vl (IT TU82 TS24 rfl) <| Vl (LT fZ_len TA24 TS24 rfl (gd (d := 0) (by first | omega | (simp; done) | (simp; omega))) rfl) <| Vl (LdS TA24 TS24 rfl) <| Vl (Al 98 TZ24 rfl) <| Vl (Al 99 TZ24 rfl) <| Vl (StS TS24 rfl) <| Vl (StS TS24 rfl) <| ?_
    refine VLog.nil ⟨by kernel_rfl, ?_⟩
    refine Tg <| Sq <| Sq <| Rg <| Vs (Mv rfl) <| Vs (Lo TU82 rfl) <| Vs (Bo rfl suI) <| Vs (As rfl) <| Nx <| Bk <| VCode.loop (α := (Int) × (Int) × (Int)) (fun x_ => match x_ with | (i, a, b) => (100, sl [(4, .ptr 2 (0)), (11, .own 90 (mm)), (21, .ptr 98 (0)), (22, .ptr 99 (0)), (23, vI .i64 (i))], en [(2, ⟨4, [vB (false), vS ([]), vB (false), vS ([])], true⟩), (90, rowT 2 fZ (L)), (98, ⟨2, [vB (zN (a)), vS (zL (a))], true⟩), (99, ⟨2, [vB (zN (b)), vS (zL (b))], true⟩)])) (fun x_ => match x_ with | (i, a, b) => FoldI (cfL (cfP ((q + s).toNat + 1) p q r s)) L (i + 1).toNat a b ∧ -1 ≤ i ∧ i < L.length) (fun x_ => match x_ with | (i, a, b) => (i + 1).toNat) ((((mm : Nat) : Int) - 2), L.getD ((((mm : Nat) : Int) - 1)).toNat 0, 1) ⟨fold0 hR hm m0 hi, by omega, by omega⟩ (Wt []) ?_
    rintro ⟨i, a, b⟩ hok2
    obtain ⟨hF, i0, i1⟩ := hok2
    obtain ⟨ia, ib⟩ := hF.i
    have ie := getD_in hi i.toNat
    change VCode _ _ _ 100 (sl _) (en _) _
    refine Sq <| Sq <| Rg <| Vs (Mv rfl) <| Vs (Bi rfl) <| Nx <| Cd rfl (fun hc9 => ?_) (fun hc9 => ?_)
    · replace hc9 := of_decide_eq_true hc9
      have hF1 := foldi (i := i) (by omega) hF
      refine Ks <| Tg <| Sq <| Bk <| Sq <| Rd (by kernel_rfl) <| Vl (Mv rfl) <| Vl (Mv rfl) <| Vl (IT TU82 TS24 rfl) <| Vl (LT fZ_len TA24 TS24 rfl (gd (d := 0) (by first | omega | (simp; done) | (simp; omega))) rfl) <| Vl (LdS TA24 TS24 rfl) <| Vl (C0 rfl rfl (c29 (x := (L).getD ((i).toNat) 0) (y := a) inT inT)) <| Vl (Mv rfl) <| Vl (Xt rfl) <| Vl (Xt rfl) <| Vl (Al 111 TZ24 rfl) <| Vl (StS TS24 rfl) <| Vl (As rfl) <| ?_
      refine VLog.nil ⟨by kernel_rfl, ?_⟩
      refine Tg <| Sq <| Sq <| Rg <| Vs (Mv rfl) <| Vs (Bi rfl) <| Nx <| Cd rfl (fun hc10 => ?_) (fun hc10 => ?_)
      · replace hc10 := bne_iff_ne.1 hc10
        exact Sq <| Rg <| Vs (Bd TQ26 rfl) <| Vs (Mv rfl) <| Vs (StS TS26 rfl) <| Vs (As rfl) <| Nx <| Re <| Tr <| Iq <| Tr <| Or <| Iq <| Tr <| Fi (l := [.agg [boolB (false), u32S ([]), boolB (false), u32S ([])], numB .i64 (zE (((L).getD ((i).toNat) 0) * (a)))]) (Rc (resVar_cell rfl rfl TA26 TS26 (Nat.le_of_ble_eq_true rfl) rfl) (Rc (resVar_tmp rfl rfl) Rn)) (po_none (show cfQ p q r s = none from hF1.no1 hc10) hc10 (zE_or _))
      · replace hc10 := bne_eq_false_iff_eq.1 hc10
        have iT := zE_in.1 hc10
        refine Ks <| Tg <| Sq <| Rg <| Vs (LdS TA24 TS24 rfl) <| Vs (LdS TA24 TS24 rfl) <| Vs (C0 rfl rfl (c38 (x := ((L).getD ((i).toNat) 0) * (a)) (y := b) inT inT)) <| Vs (Mv rfl) <| Vs (Xt rfl) <| Vs (Xt rfl) <| Vs (StS TS24 rfl) <| Vs (As rfl) <| Nx <| Sq <| Sq <| Rg <| Vs (Mv rfl) <| Vs (Bi rfl) <| Nx <| Cd rfl (fun hc11 => ?_) (fun hc11 => ?_)
        · replace hc11 := bne_iff_ne.1 hc11
          exact Sq <| Rg <| Vs (Bd TQ26 rfl) <| Vs (Mv rfl) <| Vs (StS TS26 rfl) <| Vs (As rfl) <| Nx <| Re <| Tr <| Iq <| Tr <| Or <| Iq <| Tr <| Fi (l := [.agg [boolB (false), u32S ([]), boolB (false), u32S ([])], numB .i64 (zE ((((L).getD ((i).toNat) 0) * (a)) + (b)))]) (Rc (resVar_cell rfl rfl TA26 TS26 (Nat.le_of_ble_eq_true rfl) rfl) (Rc (resVar_tmp rfl rfl) Rn)) (po_none (show cfQ p q r s = none from hF1.no2 hc10 hc11) hc11 (zE_or _))
        · replace hc11 := bne_eq_false_iff_eq.1 hc11
          exact Ks <| Tg <| Rg <| Vs (LdS TA24 TS24 rfl) <| Vs (LdS TA24 TS24 rfl) <| Vs (StS TS24 rfl) <| Vs (StS TS24 rfl) <| VList.nil <| Ig <| Tg <| Rg <| Vs (Mv rfl) <| Vs (Bo rfl suI) <| Vs (As rfl) <| VList.nil <| Go (i - 1, (L).getD ((i)).toNat 0 * a + b, a) ⟨foldn (hF1.next hc10 hc11), by omega, by omega⟩ (Wt [])
    · replace hc9 := of_decide_eq_false hc9
      exact Ke <| Te <| Oe <| Ih <| Tg <| Sq <| Rg <| Vs (LdS TA24 TS24 rfl) <| Vs (LdS TA24 TS24 rfl) <| Vs (Bd TQ26 rfl) <| Vs (StS TS26 rfl) <| Vs (As rfl) <| Nx <| Re <| Fi (l := [.agg [boolB (zN (a)), u32S (zL (a)), boolB (zN (b)), u32S (zL (b))], numB .i64 (0)]) (Rc (resVar_cell rfl rfl TA26 TS26 (Nat.le_of_ble_eq_true rfl) rfl) (Rc (resVar_tmp rfl rfl) Rn)) (po_some (show cfQ p q r s = some (a, b) from foldz (i := i) (by omega) hF))
end Go.VL

/- Walks over the Go functions, printed by a program of this session over the kit's print, and by hand. -/
set_option linter.unusedVariables false
set_option linter.unusedSimpArgs false
namespace Go.VL
open Go.Proofs
theorem g23i (n : Bool) (A : List Int) (m : Bool) (D : List Int) (n2 : Bool) (A2 : List Int) (m2 : Bool) (D2 : List Int) (hA : A.length ≤ 9223372036854775807) (hD : D.length ≤ 9223372036854775807) (hA2 : A2.length ≤ 9223372036854775807) (hD2 : D2.length ≤ 9223372036854775807) (oA : ok32 A) (oD : ok32 D) (oA2 : ok32 A2) (oD2 : ok32 D2) (h : (vR n A m D && vR n2 A2 m2 D2) = false) : VF Tryz.prog 17 [.agg [boolB (n), u32S (A), boolB (m), u32S (D)], .agg [boolB (n2), u32S (A2), boolB (m2), u32S (D2)]] (rR 0 0 1) := by
  exact VF_of P_mixed Tryz.func17 rfl rfl (by kernel_rfl) <| Sq <| Rg <| Vs (Bx 0 rfl) <| Vs (Bx 1 rfl) <| Vs (Al 2 TZ26 rfl) <| Vs (As rfl) <| Nx <| Sq <| Sq <| Rg <| Vs (LdS TA26 TS26 rfl) <| Vs (LdS TA26 TS26 rfl) <| Vs (sq1 6 rfl (.buildS _ 2 _ 26 [.agg [vB (n), vS (A), vB (m), vS (D)], .agg [vB (n2), vS (A2), vB (m2), vS (D2)]] 4 _ [vB (n), vS (A), vB (m), vS (D), vB (n2), vS (A2), vB (m2), vS (D2)] rfl TU71 TZ26 TS26 (List.cons_ne_nil _ _) (by decide) rfl rfl)) <| Vs (Kb (show (vR n A m D && vR n2 A2 m2 D2) = false from h) (Cf rfl rfl (g62 n A m D n2 A2 m2 D2 hA hD hA2 hD2 oA oD oA2 oD2) rfl)) <| Vs (Un rfl) <| Vs (Mv rfl) <| Sk rfl <| Sk rfl <| Sk rfl <| Sk rfl <| Vs (Pk rfl) <| Nx <| Cy rfl <| Sq <| Rg <| Vs (Bd TQ26 rfl) <| Vs (StS TS26 rfl) <| Vs (As rfl) <| Nx <| Re <| Tr <| Fi (l := [.agg [boolB (false), u32S ([]), boolB (false), u32S ([])], numB .i64 (1)]) (Rc (resVar_cell rfl rfl TA26 TS26 (Nat.le_of_ble_eq_true rfl) rfl) (Rc (resVar_tmp rfl rfl) Rn)) (by rw [rR, qB_zero]; rfl)
theorem g23 {p q r s : Int} (ha : okR p q) (hb : okR r s) : VF Tryz.prog 17 [.agg [boolB (zN (p)), u32S (zL (p)), boolB (zN (q)), u32S (zL (q))], .agg [boolB (zN (r)), u32S (zL (r)), boolB (zN (s)), u32S (zL (s))]] (siR p q r s) := by
  obtain ⟨q0, g0, hp, hq⟩ := ha
  obtain ⟨s0, g1, hr, hs⟩ := hb
  refine VF_of P_mixed Tryz.func17 rfl rfl (by kernel_rfl) <| Sq <| Rg <| Vs (Bx 0 rfl) <| Vs (Bx 1 rfl) <| Vs (Al 2 TZ26 rfl) <| Vs (As rfl) <| Nx <| Sq <| Sq <| Rg <| Vs (LdS TA26 TS26 rfl) <| Vs (LdS TA26 TS26 rfl) <| Vs (sq1 6 rfl (.buildS _ 2 _ 26 [.agg [vB (zN (p)), vS (zL (p)), vB (zN (q)), vS (zL (q))], .agg [vB (zN (r)), vS (zL (r)), vB (zN (s)), vS (zL (s))]] 4 _ [vB (zN (p)), vS (zL (p)), vB (zN (q)), vS (zL (q)), vB (zN (r)), vS (zL (r)), vB (zN (s)), vS (zL (s))] rfl TU71 TZ26 TS26 (List.cons_ne_nil _ _) (by decide) rfl rfl)) <| Vs (Cf rfl rfl (g62q ⟨q0, g0, hp, hq⟩ ⟨s0, g1, hr, hs⟩) rfl) <| Vs (Un rfl) <| Vs (Mv rfl) <| Vs (LdS TA26 TS26 rfl) <| Vs (LdS TA26 TS26 rfl) <| Vs (Cf rfl rfl (g63 (p := p) (q := q) (r := r) (s := s) inT inT inT inT (by first | omega | assumption | (simp; done) | (simp; omega)) (by first | omega | assumption | (simp; done) | (simp; omega))) rfl) <| Vs (Bi rfl) <| Vs (Pk rfl) <| Nx <| Cd rfl (fun hc1 => ?_) (fun hc1 => ?_)
  · replace hc1 := of_decide_eq_true hc1
    exact Sq <| Rg <| Vs (Bd TQ26 rfl) <| Vs (StS TS26 rfl) <| Vs (As rfl) <| Nx <| Re <| Tr <| Fi (l := [.agg [boolB (false), u32S ([]), boolB (false), u32S ([])], numB .i64 (1)]) (Rc (resVar_cell rfl rfl TA26 TS26 (Nat.le_of_ble_eq_true rfl) rfl) (Rc (resVar_tmp rfl rfl) Rn)) (si_no hc1)
  · replace hc1 := of_decide_eq_false hc1
    refine Ks <| Tg <| Sq <| Rd (by kernel_rfl) <| Vl (LdS TA26 TS26 rfl) <| Vl (Cf rfl rfl (g36 (p := p) (q := q) (⟨q0, g0, hp, hq⟩)) rfl) <| Vl (LdS TA26 TS26 rfl) <| Vl (Cf rfl rfl (g36 (p := r) (q := s) (⟨s0, g1, hr, hs⟩)) rfl) <| Vl (As rfl) <| Vl (As rfl) <| ?_
    refine VLog.nil ⟨by kernel_rfl, ?_⟩
    refine Tg <| Sq <| Bk <| Sq <| Rg <| Vs (Mv rfl) <| Vs (Bi rfl) <| Vs (Mv rfl) <| Sp 29 rfl (fun hc2 => ?_) (fun hc2 => ?_)
    · replace hc2 := of_decide_eq_true hc2
      refine Vs (Mv rfl) <| Vs (Bi rfl) <| Vs (Pk rfl) <| Vs (As rfl) <| Nx <| Cd rfl (fun hc3 => ?_) (fun hc3 => ?_)
      · replace hc3 := of_decide_eq_true hc3
        exact Sq <| Rg <| Vs (C0 rfl rfl (g18 (k := 0) (d := 1) (by first | omega | assumption | (simp; done) | (simp; omega)) (by first | omega | assumption | (simp; done) | (simp; omega)) (by first | omega | assumption | (simp; done) | (simp; omega)) (by first | omega | assumption | (simp; done) | (simp; omega)))) <| Vs (Xt rfl) <| Vs (Xt rfl) <| Vs (StS TS26 rfl) <| Vs (As rfl) <| Nx <| Re <| Iq <| Tr <| Fi (l := [.agg [boolB (zN (mkN (0) (1))), u32S (zL (mkN (0) (1))), boolB (zN (mkD (0) (1))), u32S (zL (mkD (0) (1)))], numB .i64 (mkE (1))]) (Rc (resVar_cell rfl rfl TA26 TS26 (Nat.le_of_ble_eq_true rfl) rfl) (Rc (resVar_tmp rfl rfl) Rn)) (si_mid (si_lt hc1) hc2 hc3)
      · replace hc3 := of_decide_eq_false hc3
        refine Sq <| Rg <| Vs (Mv rfl) <| Vs (Bi rfl) <| Vs (As rfl) <| Nx <| Cd rfl (fun hc4 => ?_) (fun hc4 => ?_)
        · replace hc4 := of_decide_eq_true hc4
          refine Sq <| Rd (by kernel_rfl) <| Vl (Fa TF26_0 rfl) <| Vl (LdS TA24 TS24 rfl) <| Vl (C0 rfl rfl (g65 (r))) <| Vl (Fa TF26_1 rfl) <| Vl (LdS TA24 TS24 rfl) <| Vl (Bd TQ26 rfl) <| Vl (Fa TF26_0 rfl) <| Vl (LdS TA24 TS24 rfl) <| Vl (C0 rfl rfl (g65 (p))) <| Vl (Fa TF26_1 rfl) <| Vl (LdS TA24 TS24 rfl) <| Vl (Bd TQ26 rfl) <| Vl (C0 rfl rfl (g64 (p := -(r)) (q := s) (r := -(p)) (s := q) inT inT inT inT (by have := mt cmp3_gt.2 hc3; omega) (by first | omega | assumption | (simp; done) | (simp; omega)) (Int.le_of_lt q0) (turn_lt (si_lt hc1)))) <| Vl (Mv rfl) <| Vl (Xt rfl) <| Vl (Xt rfl) <| Vl (Al 47 TZ26 rfl) <| Vl (StS TS26 rfl) <| Vl (As rfl) <| ?_
          refine VLog.nil ⟨by kernel_rfl, ?_⟩
          refine Tg <| Sq <| Sq <| Rg <| Vs (Mv rfl) <| Vs (Bi rfl) <| Nx <| Cd rfl (fun hc5 => ?_) (fun hc5 => ?_)
          · replace hc5 := bne_iff_ne.1 hc5
            exact Sq <| Rg <| Vs (Bd TQ26 rfl) <| Vs (Mv rfl) <| Vs (StS TS26 rfl) <| Vs (As rfl) <| Nx <| Re <| Tr <| Iq <| Tr <| Fi (l := [.agg [boolB (false), u32S ([]), boolB (false), u32S ([])], numB .i64 (poE (cfQ (-(r)) (s) (-(p)) (q)))]) (Rc (resVar_cell rfl rfl TA26 TS26 (Nat.le_of_ble_eq_true rfl) rfl) (Rc (resVar_tmp rfl rfl) Rn)) (si_neg1 (si_lt hc1) hc2 hc3 hc5)
          · replace hc5 := bne_eq_false_iff_eq.1 hc5
            refine Ks <| Tg <| Sq <| Rd (by kernel_rfl) <| Vl (Fa TF26_0 rfl) <| Vl (LdS TA24 TS24 rfl) <| Vl (C0 rfl rfl (g65 (poN (cfQ (-(r)) (s) (-(p)) (q))))) <| Vl (Fa TF26_1 rfl) <| Vl (LdS TA24 TS24 rfl) <| Vl (Bd TQ26 rfl) <| Vl (StS TS26 rfl) <| Vl (As rfl) <| ?_
            refine VLog.nil ⟨by kernel_rfl, ?_⟩
            exact Tg <| Re <| Iq <| Tr <| Fi (l := [.agg [boolB (zN (-(poN (cfQ (-(r)) (s) (-(p)) (q))))), u32S (zL (-(poN (cfQ (-(r)) (s) (-(p)) (q))))), boolB (zN (poD (cfQ (-(r)) (s) (-(p)) (q)))), u32S (zL (poD (cfQ (-(r)) (s) (-(p)) (q))))], numB .i64 (0)]) (Rc (resVar_cell rfl rfl TA26 TS26 (Nat.le_of_ble_eq_true rfl) rfl) (Rc (resVar_tmp rfl rfl) Rn)) (si_neg2 (si_lt hc1) hc2 hc3 hc5)
        · replace hc4 := of_decide_eq_false hc4
          exact absurd hc2 hc4
    · replace hc2 := of_decide_eq_false hc2
      refine Sk rfl <| Sk rfl <| Vs (Pk rfl) <| Vs (As rfl) <| Nx <| Cz rfl <| Sq <| Rg <| Vs (Mv rfl) <| Vs (Bi rfl) <| Vs (As rfl) <| Nx <| Cd rfl (fun hc6 => ?_) (fun hc6 => ?_)
      · replace hc6 := of_decide_eq_true hc6
        exact absurd hc6 hc2
      · replace hc6 := of_decide_eq_false hc6
        exact Ks <| Ig <| Tg <| Sq <| Rg <| Vs (LdS TA26 TS26 rfl) <| Vs (LdS TA26 TS26 rfl) <| Vs (C0 rfl rfl (g64 (p := p) (q := q) (r := r) (s := s) inT inT inT inT (by have h9 := mt cmp3_lt.2 hc2; omega) (by first | omega | assumption | (simp; done) | (simp; omega)) (Int.le_of_lt s0) (si_lt hc1))) <| Vs (Xt rfl) <| Vs (Xt rfl) <| Vs (StS TS26 rfl) <| Vs (As rfl) <| Nx <| Re <| Fi (l := [.agg [boolB (zN (poN (cfQ (p) (q) (r) (s)))), u32S (zL (poN (cfQ (p) (q) (r) (s)))), boolB (zN (poD (cfQ (p) (q) (r) (s)))), u32S (zL (poD (cfQ (p) (q) (r) (s))))], numB .i64 (poE (cfQ (p) (q) (r) (s)))]) (Rc (resVar_cell rfl rfl TA26 TS26 (Nat.le_of_ble_eq_true rfl) rfl) (Rc (resVar_tmp rfl rfl) Rn)) (si_pos (si_lt hc1) hc2)
end Go.VL

/- Walks over the Go functions, printed by a program of this session over the kit's print, and by hand. -/
set_option linter.unusedVariables false
set_option linter.unusedSimpArgs false
namespace Go.VL
open Go.Proofs
theorem g55r (n : Bool) (L : List Int) : VF Tryz.prog 34 [.agg [boolB (n), u32S (L)]] (boolB ((L.length : Int) == 0)) := by
  exact VF_of P_mixed Tryz.func34 rfl rfl (by kernel_rfl) <| Sq <| Rg <| Vs (Bx 0 rfl) <| Vs (As rfl) <| Nx <| Sq <| Rg <| Vs (Fa TF24_1 rfl) <| Vs (Ld TA22 rfl) <| Vs (Ls TK22 rfl) <| Vs (Bi rfl) <| Vs (As rfl) <| Nx <| Re <| Fi (l := [boolB ((((L).length : Int) == 0))]) (Rc (resVar_tmp rfl rfl) Rn) rfl
theorem g55 {z : Int} (h : inB z = true) : VF Tryz.prog 34 [iB z] (boolB (decide (z = 0))) := by
  have := g55r (zN z) (zL z)
  rw [nil_z h] at this
  exact this
theorem g61r (n : Bool) (L : List Int) (hL : L.length ≤ 9223372036854775807) : VF Tryz.prog 83 [.agg [boolB (n), u32S (L)]] (boolB (oneZ n L)) := by
  refine VF_of P_mixed Tryz.func83 rfl rfl (by kernel_rfl) <| Sq <| Rg <| Vs (Bx 0 rfl) <| Vs (As rfl) <| Nx <| Sq <| Rg <| Vs (Fa TF24_0 rfl) <| Vs (Ld TA4 rfl) <| Vs (Un rfl) <| Vs (Mv rfl) <| Sp 6 rfl (fun hc1 => ?_) (fun hc1 => ?_)
  · replace hc1 := bnot_t hc1
    refine Vs (Fa TF24_1 rfl) <| Vs (Ld TA22 rfl) <| Vs (Ls TK22 rfl) <| Vs (Bi rfl) <| Vs (Pk rfl) <| Vs (Mv rfl) <| Sp 12 rfl (fun hc2 => ?_) (fun hc2 => ?_)
    · replace hc2 := eq_of_beq hc2
      exact Vs (Fa TF24_1 rfl) <| Vs (Ld TA22 rfl) <| Vs (IxN (q := 0) TK22 rfl) <| Vs (Lq TA64 rfl) <| Vs (Bi rfl) <| Vs (Pk rfl) <| Vs (As rfl) <| Nx <| Re <| Fi (l := [boolB (((L).getD 0 0 == 1))]) (Rc (resVar_tmp rfl rfl) Rn) (by unfold oneZ; simp [*, oneB])
    · replace hc2 := ne_of_beq_false hc2
      exact Sk rfl <| Sk rfl <| Sk rfl <| Sk rfl <| Sk rfl <| Vs (Pk rfl) <| Vs (As rfl) <| Nx <| Re <| Fi (l := [boolB (false)]) (Rc (resVar_tmp rfl rfl) Rn) (by unfold oneZ; rw [beq_no hc2]; simp [oneB])
  · replace hc1 := bnot_f hc1
    exact Sk rfl <| Sk rfl <| Sk rfl <| Sk rfl <| Vs (Pk rfl) <| Vs (Mv rfl) <| Sk rfl <| Sk rfl <| Sk rfl <| Sk rfl <| Sk rfl <| Vs (Pk rfl) <| Vs (As rfl) <| Nx <| Re <| Fi (l := [boolB (false)]) (Rc (resVar_tmp rfl rfl) Rn) (by unfold oneZ; simp [*, oneB])
theorem g61 {z : Int} (h : inB z = true) : VF Tryz.prog 83 [iB z] (boolB (decide (z = 1))) := by
  have := g61r (zN z) (zL z) (len_zL' z)
  rw [one_z h] at this
  exact this
theorem g21v {x y : Int} (hx : inB x = true) (hy : inB y = true) : VF Tryz.prog 55 [.agg [boolB (zN (x)), u32S (zL (x)), boolB (zN (y)), u32S (zL (y))]] (boolB (decide (0 < y ∧ Int.gcd x y = 1))) := by
  refine VF_of P_mixed Tryz.func55 rfl rfl (by kernel_rfl) <| Sq <| Rg <| Vs (Bx 0 rfl) <| Vs (As rfl) <| Nx <| Sq <| Rg <| Vs (Fa TF26_0 rfl) <| Vs (LdS TA24 TS24 rfl) <| Vs (Cf rfl rfl (d26 (x)) rfl) <| Vs (As rfl) <| Nx <| Sq <| Rg <| Vs (Fa TF26_1 rfl) <| Vs (LdS TA24 TS24 rfl) <| Vs (Cf rfl rfl (d26 (y)) rfl) <| Vs (As rfl) <| Nx <| Sq <| Sq <| Rg <| Vs (Mv rfl) <| Vs (Un rfl) <| Vs (Mv rfl) <| Vs (Mv rfl) <| Vs (Un rfl) <| Vs (Pk rfl) <| Vs (Mv rfl) <| Vs (Fa TF26_1 rfl) <| Vs (Fa TF24_0 rfl) <| Vs (Ld TA4 rfl) <| Vs (Pk rfl) <| Vs (Mv rfl) <| Sp 24 rfl (fun hc1 => ?_) (fun hc1 => ?_)
  · replace hc1 := hc1
    have hy0 := zN_lt hc1
    exact Sk rfl <| Sk rfl <| Sk rfl <| Vs (Pk rfl) <| Nx <| Cy rfl <| Sq <| Rg <| Vs (As rfl) <| Nx <| Re <| Tr <| Fi (l := [boolB (false)]) (Rc (resVar_tmp rfl rfl) Rn) (rvF (by omega))
  · replace hc1 := hc1
    have hy0 := zN_ge hy hc1
    refine Vs (Fa TF26_1 rfl) <| Vs (LdS TA24 TS24 rfl) <| Vs (Cf rfl rfl (g55 (z := y) inT) rfl) <| Vs (Pk rfl) <| Nx <| Cd rfl (fun hc2 => ?_) (fun hc2 => ?_)
    · replace hc2 := of_decide_eq_true hc2
      exact Sq <| Rg <| Vs (As rfl) <| Nx <| Re <| Tr <| Fi (l := [boolB (false)]) (Rc (resVar_tmp rfl rfl) Rn) (rvF (by omega))
    · replace hc2 := of_decide_eq_false hc2
      exact Ks <| Tg <| Sq <| Rg <| Vs (Fa TF26_0 rfl) <| Vs (LdS TA24 TS24 rfl) <| Vs (Fa TF26_1 rfl) <| Vs (LdS TA24 TS24 rfl) <| Vs (C0 rfl rfl (d32 (x := x) (y := y) inT inT)) <| Vs (Mv rfl) <| Vs (Xt rfl) <| Vs (Xt rfl) <| Vs (Al 34 TZ24 rfl) <| Vs (StS TS24 rfl) <| Vs (As rfl) <| Nx <| Sq <| Rg <| Vs (LdS TA24 TS24 rfl) <| Vs (Cf rfl rfl (g61 (z := rdG (x) (y)) inT) rfl) <| Vs (As rfl) <| Nx <| Re <| Fi (l := [boolB (decide (rdG (x) (y) = 1))]) (Rc (resVar_tmp rfl rfl) Rn) (rvG (by omega))
theorem g21i (n : Bool) (A : List Int) (m : Bool) (D : List Int) (hA : A.length ≤ 9223372036854775807) (hD : D.length ≤ 9223372036854775807) (h : (validB n A && validB m D) = false) : VF Tryz.prog 55 [.agg [boolB (n), u32S (A), boolB (m), u32S (D)]] (boolB false) := by
  refine VF_of P_mixed Tryz.func55 rfl rfl (by kernel_rfl) <| Sq <| Rg <| Vs (Bx 0 rfl) <| Vs (As rfl) <| Nx <| Sq <| Rg <| Vs (Fa TF26_0 rfl) <| Vs (LdS TA24 TS24 rfl) <| Vs (Cf rfl rfl (f26 n A hA) rfl) <| Vs (As rfl) <| Nx <| Sq <| Rg <| Vs (Fa TF26_1 rfl) <| Vs (LdS TA24 TS24 rfl) <| Vs (Cf rfl rfl (f26 m D hD) rfl) <| Vs (As rfl) <| Nx <| Sq <| Sq <| Rg <| Vs (Mv rfl) <| Vs (Un rfl) <| Vs (Mv rfl) <| Sp 15 rfl (fun hc1 => ?_) (fun hc1 => ?_)
  · replace hc1 := (bnot_t hc1)
    exact Sk rfl <| Sk rfl <| Vs (Pk rfl) <| Vs (Mv rfl) <| Sk rfl <| Sk rfl <| Sk rfl <| Vs (Pk rfl) <| Vs (Mv rfl) <| Sk rfl <| Sk rfl <| Sk rfl <| Vs (Pk rfl) <| Nx <| Cy rfl <| Sq <| Rg <| Vs (As rfl) <| Nx <| Re <| Tr <| Fi (l := [boolB (false)]) (Rc (resVar_tmp rfl rfl) Rn) rfl
  · replace hc1 := (bnot_f hc1)
    refine Vs (Mv rfl) <| Vs (Un rfl) <| Vs (Pk rfl) <| Vs (Mv rfl) <| Sp 19 rfl (fun hc2 => ?_) (fun hc2 => ?_)
    · replace hc2 := (bnot_t hc2)
      exact Sk rfl <| Sk rfl <| Sk rfl <| Vs (Pk rfl) <| Vs (Mv rfl) <| Sk rfl <| Sk rfl <| Sk rfl <| Vs (Pk rfl) <| Nx <| Cy rfl <| Sq <| Rg <| Vs (As rfl) <| Nx <| Re <| Tr <| Fi (l := [boolB (false)]) (Rc (resVar_tmp rfl rfl) Rn) rfl
    · replace hc2 := (bnot_f hc2)
      simp [hc1, hc2] at h
theorem g21 (n : Bool) (A : List Int) (m : Bool) (D : List Int) (hA : A.length ≤ 9223372036854775807) (hD : D.length ≤ 9223372036854775807) (oA : ok32 A) (oD : ok32 D) : VF Tryz.prog 55 [ratB n A m D] (boolB (vR n A m D)) := by
  cases h : (validB n A && validB m D) with
  | false =>
    have e : vR n A m D = false := by unfold vR; rw [h]; rfl
    rw [e]
    exact g21i n A m D hA hD h
  | true =>
    rw [Bool.and_eq_true] at h
    obtain ⟨x, e1, e2, hx⟩ := as_z oA h.1
    obtain ⟨y, e3, e4, hy⟩ := as_z oD h.2
    rw [e1, e2, e3, e4, vR_z hx hy]
    exact g21v hx hy
theorem g21q {p q : Int} (h : okR p q) : VF Tryz.prog 55 [qB p q] (boolB true) := by
  have := g21v h.2.2.1 h.2.2.2
  rw [decide_eq_true ⟨h.1, h.2.1⟩] at this
  exact this
theorem g38r (n : Bool) (A : List Int) (m : Bool) (B : List Int) (hA : A.length ≤ 9223372036854775807) (hB : B.length ≤ 9223372036854775807) : VF Tryz.prog 20 [.agg [boolB (n), u32S (A)], .agg [boolB (m), u32S (B)]] (boolB (sameB n A m B)) := by
  refine VF_of P_mixed Tryz.func20 rfl rfl (by kernel_rfl) <| Sq <| Rg <| Vs (Bx 0 rfl) <| Vs (Bx 1 rfl) <| Vs (As rfl) <| Nx <| VCode.join (α := (Unit)) (fun u => (2, sl [(2, .ptr 0 (0)), (3, .ptr 1 (0))], en [(0, ⟨2, [vB (n), vS (A)], true⟩), (1, ⟨2, [vB (m), vS (B)], true⟩)])) (fun u => n = m ∧ A.length = B.length) ?_ ?_
  · skip
    refine Sq <| Rg <| Vs (Fa TF24_0 rfl) <| Vs (Ld TA4 rfl) <| Vs (Fa TF24_0 rfl) <| Vs (Ld TA4 rfl) <| Vs (Bb TU4 rfl) <| Vs (Mv rfl) <| Sp 11 rfl (fun hc1 => ?_) (fun hc1 => ?_)
    · replace hc1 := ne_of_beq_false (bnot_t hc1)
      exact Sk rfl <| Sk rfl <| Sk rfl <| Sk rfl <| Sk rfl <| Sk rfl <| Sk rfl <| Vs (Pk rfl) <| Nx <| Cy rfl <| Sq <| Rg <| Vs (As rfl) <| Nx <| Re <| Jr <| Fi (l := [boolB (false)]) (Rc (resVar_tmp rfl rfl) Rn) (by rw [sameB_sign (by assumption)]; rfl)
    · replace hc1 := eq_of_beq (bnot_f hc1)
      refine Vs (Fa TF24_1 rfl) <| Vs (Ld TA22 rfl) <| Vs (Ls TK22 rfl) <| Vs (Fa TF24_1 rfl) <| Vs (Ld TA22 rfl) <| Vs (Ls TK22 rfl) <| Vs (Bi rfl) <| Vs (Pk rfl) <| Nx <| Cd rfl (fun hc2 => ?_) (fun hc2 => ?_)
      · replace hc2 := bne_iff_ne.1 hc2
        exact Sq <| Rg <| Vs (As rfl) <| Nx <| Re <| Jr <| Fi (l := [boolB (false)]) (Rc (resVar_tmp rfl rfl) Rn) (by rw [sameB_len (by omega)]; rfl)
      · replace hc2 := bne_eq_false_iff_eq.1 hc2
        exact Ks <| Jg (()) ⟨by assumption, by omega⟩ Wk
  · intro u hok
    obtain ⟨hnm, hlen⟩ := hok
    change VCode _ _ _ 2 (sl _) (en _) _
    refine Sq <| Sq <| Rg <| Vs (As rfl) <| Nx <| Bk <| VCode.loop (α := (Nat)) (fun i => (2, sl [(2, .ptr 0 (0)), (3, .ptr 1 (0)), (5, vI .i64 ((i : Int)))], en [(0, ⟨2, [vB (n), vS (A)], true⟩), (1, ⟨2, [vB (m), vS (B)], true⟩)])) (fun i => i ≤ A.length ∧ ∀ j, j < i → A.getD j 0 = B.getD j 0) (fun i => A.length - i) (0) ⟨by omega, fun j hj => by omega⟩ Wk ?_
    intro i hok
    change VCode _ _ _ 2 (sl _) (en _) _
    refine Sq <| Sq <| Rg <| Vs (Mv rfl) <| Vs (Fa TF24_1 rfl) <| Vs (Ld TA22 rfl) <| Vs (Ls TK22 rfl) <| Vs (Bi rfl) <| Nx <| Cd rfl (fun hc3 => ?_) (fun hc3 => ?_)
    · replace hc3 := of_decide_eq_true hc3
      refine Ks <| Tg <| Sq <| Bk <| Sq <| Rd (by kernel_rfl) <| Vl (Fa TF24_1 rfl) <| Vl (Ld TA22 rfl) <| Vl (Mv rfl) <| Vl (IxN TK22 rfl) <| Vl (Lq TA64 rfl) <| Vl (Fa TF24_1 rfl) <| Vl (Ld TA22 rfl) <| Vl (Mv rfl) <| Vl (IxN TK22 rfl) <| Vl (Lq TA64 rfl) <| Vl (Bi rfl) <| ?_
      refine VLog.nil ⟨by kernel_rfl, ?_⟩
      refine Tg <| Cd rfl (fun hc4 => ?_) (fun hc4 => ?_)
      · replace hc4 := bne_iff_ne.1 hc4
        exact Sq <| Rg <| Vs (As rfl) <| Nx <| Re <| Iq <| Tr <| Or <| Iq <| Tr <| Fi (l := [boolB (false)]) (Rc (resVar_tmp rfl rfl) Rn) (by rw [sameB_at (i := i) (by omega)]; rfl)
      · replace hc4 := bne_eq_false_iff_eq.1 hc4
        exact Ks <| Ig <| Tg <| Rg <| Vs (Mv rfl) <| Vs (Bo rfl adI) <| Vs (As rfl) <| VList.nil <| Go (i + 1) ⟨by omega, fun j hj => by rcases Nat.lt_or_eq_of_le (Nat.le_of_lt_succ hj) with h | h; exact hok.2 j h; subst h; omega⟩ Wk
    · replace hc3 := of_decide_eq_false hc3
      exact Ke <| Te <| Oe <| Ih <| Tg <| Sq <| Rg <| Vs (As rfl) <| Nx <| Re <| Fi (l := [boolB (true)]) (Rc (resVar_tmp rfl rfl) Rn) (by rw [sameB_yes hnm hlen (fun j hj => hok.2 j (by omega))]; rfl)
theorem g38 {x y : Int} (hx : inB x = true) (hy : inB y = true) : VF Tryz.prog 20 [iB x, iB y] (boolB (decide (x = y))) := by
  have := g38r (zN x) (zL x) (zN y) (zL y) (len_zL' _) (len_zL' _)
  rwa [same_zz hx hy] at this
theorem g22 {p q r s : Int} (hp : inB p = true) (hq : inB q = true) (hr : inB r = true) (hs : inB s = true) : VF Tryz.prog 7 [.agg [boolB (zN (p)), u32S (zL (p)), boolB (zN (q)), u32S (zL (q))], .agg [boolB (zN (r)), u32S (zL (r)), boolB (zN (s)), u32S (zL (s))]] (boolB (decide (p = r ∧ q = s))) := by
  refine VF_of P_mixed Tryz.func7 rfl rfl (by kernel_rfl) <| Sq <| Rg <| Vs (Bx 0 rfl) <| Vs (Bx 1 rfl) <| Vs (As rfl) <| Nx <| Sq <| Rg <| Vs (Fa TF26_0 rfl) <| Vs (LdS TA24 TS24 rfl) <| Vs (Fa TF26_0 rfl) <| Vs (LdS TA24 TS24 rfl) <| Vs (Cf rfl rfl (g38 (x := p) (y := r) inT inT) rfl) <| Vs (Mv rfl) <| Sp 10 rfl (fun hc1 => ?_) (fun hc1 => ?_)
  · replace hc1 := of_decide_eq_true hc1
    exact Vs (Fa TF26_1 rfl) <| Vs (LdS TA24 TS24 rfl) <| Vs (Fa TF26_1 rfl) <| Vs (LdS TA24 TS24 rfl) <| Vs (Cf rfl rfl (g38 (x := q) (y := s) inT inT) rfl) <| Vs (Pk rfl) <| Vs (As rfl) <| Nx <| Re <| Fi (l := [boolB (decide (q = s))]) (Rc (resVar_tmp rfl rfl) Rn) (and_yes hc1)
  · replace hc1 := of_decide_eq_false hc1
    exact Sk rfl <| Sk rfl <| Sk rfl <| Sk rfl <| Sk rfl <| Vs (Pk rfl) <| Vs (As rfl) <| Nx <| Re <| Fi (l := [boolB (false)]) (Rc (resVar_tmp rfl rfl) Rn) (and_no hc1)
theorem g45 {k d : Int} (k0 : -9223372036854775808 ≤ k) (k1 : k ≤ 9223372036854775807) (d0 : -9223372036854775808 ≤ d) (d1 : d ≤ 9223372036854775807) : VF Tryz.prog 14 [numB .i64 (k), numB .i64 (d)] (qB (mkN k d) (mkD k d)) := by
  exact VF_of P_mixed Tryz.func14 rfl rfl (by kernel_rfl) <| Sq <| Rg <| Vs (Al 0 TZ26 rfl) <| Nx <| Sq <| Rg <| Vs (Mv rfl) <| Vs (Mv rfl) <| Vs (C0 rfl rfl (g18 (k := k) (d := d) (by first | omega | assumption | (simp; done) | (simp; omega)) (by first | omega | assumption | (simp; done) | (simp; omega)) (by first | omega | assumption | (simp; done) | (simp; omega)) (by first | omega | assumption | (simp; done) | (simp; omega)))) <| Vs (Mv rfl) <| Vs (Xt rfl) <| Vs (Xt rfl) <| Vs (Al 7 TZ26 rfl) <| Vs (StS TS26 rfl) <| Vs (As rfl) <| Nx <| Sq <| Rg <| Vs (LdS TA26 TS26 rfl) <| Vs (StS TS26 rfl) <| Nx <| Re <| Fi (l := [.agg [boolB (zN (mkN (k) (d))), u32S (zL (mkN (k) (d))), boolB (zN (mkD (k) (d))), u32S (zL (mkD (k) (d)))]]) (Rc (resVar_cell rfl rfl TA26 TS26 (Nat.le_of_ble_eq_true rfl) rfl) Rn) rfl
end Go.VL

/- Walks over the Go functions, printed by a program of this session over the kit's print, and by hand. -/
set_option linter.unusedVariables false
set_option linter.unusedSimpArgs false
namespace Go.VL
open Go.Proofs
theorem okR_lit {p q : Int} (h : (decide (0 < q) && decide (Int.gcd p q = 1) && inB p && inB q) = true) : okR p q := by
  simp only [Bool.and_eq_true, decide_eq_true_eq] at h
  exact ⟨h.1.1.1, h.1.1.2, h.1.2, h.2⟩
theorem g45k (k d : Int) {n m : Int} (hb : -9223372036854775808 ≤ k ∧ k ≤ 9223372036854775807 ∧ -9223372036854775808 ≤ d ∧ d ≤ 9223372036854775807) (hn : mkN k d = n) (hm : mkD k d = m) : VF Tryz.prog 14 [numB .i64 k, numB .i64 d] (qB n m) := by
  subst hn; subst hm; exact g45 hb.1 hb.2.1 hb.2.2.1 hb.2.2.2
theorem g39k {p q r s n d : Int} (ha : okR p q) (hb : okR r s) (hk : addOk p q r s = true) (hn : rdN (p * s + r * q) (q * s) = n) (hd : rdD (p * s + r * q) (q * s) = d) : VF Tryz.prog 5 [qB p q, qB r s] (rR n d 0) := by
  have h := g39 ha hb
  rw [hk] at h; subst hn; subst hd; exact h
theorem g44k {p q r s n d : Int} (ha : okR p q) (hb : okR r s) (hk : subOk p q r s = true) (hn : rdN (p * s - r * q) (q * s) = n) (hd : rdD (p * s - r * q) (q * s) = d) : VF Tryz.prog 8 [qB p q, qB r s] (rR n d 0) := by
  have h := g44 ha hb
  rw [hk] at h; subst hn; subst hd; exact h
theorem g40k {p q r s n d : Int} (ha : okR p q) (hb : okR r s) (hk : mulOk p q r s = true) (hn : rdN (p * r) (q * s) = n) (hd : rdD (p * r) (q * s) = d) : VF Tryz.prog 10 [qB p q, qB r s] (rR n d 0) := by
  have h := g40 ha hb
  rw [hk] at h; subst hn; subst hd; exact h
theorem g46k {p q r s n d : Int} (ha : okR p q) (hb : okR r s) (h0 : r ≠ 0) (hk : mulOk p q s r = true) (hn : rdN (p * s) (q * r) = n) (hd : rdD (p * s) (q * r) = d) : VF Tryz.prog 12 [qB p q, qB r s] (rR n d 0) := by
  have h := g46 ha hb h0
  rw [hk] at h; subst hn; subst hd; exact h
theorem g32k {p q k n : Int} (ha : okR p q) (k0 : -9223372036854775808 ≤ k) (k1 : k ≤ 9223372036854775807) (hn : flZ p q k = n) (hi : inB n = true) : VF Tryz.prog 15 [qB p q, numB .i64 k] (.tup [iB n, numB .i64 0]) := by
  have h := g32 ha k0 k1
  rw [hn, zR_in hi] at h; exact h
theorem g34k {p q n d e : Int} {t : Bool} (ha : okR p q) (hn : sqQn p q = n) (hd : sqQd p q = d) (ht : sqQo p q = t) (he : sqQe p = e) : VF Tryz.prog 16 [qB p q] (.tup [qB n d, boolB t, numB .i64 e]) := by
  subst hn; subst hd; subst ht; subst he; exact g34 ha
theorem g23k {p q r s n d : Int} (ha : okR p q) (hb : okR r s) (h : p * s < r * q) (hn : siQ p q r s = some (n, d)) : VF Tryz.prog 17 [qB p q, qB r s] (rR n d 0) := by
  have h1 := g23 ha hb
  rw [siR, if_pos h, hn] at h1; exact h1
theorem g25k {p q : Int} {t : ByteArray} (ha : okR p q) (ht : txQ p q = t) : VF Tryz.prog 18 [qB p q] (.tup [.lit (.string t), numB .i64 0]) := by
  subst ht; exact g25 ha
theorem g27k {s : ByteArray} {n d e : Int} (hs : s.size ≤ 9223372036854775807) (hn : psP s = n) (hd : psQ s = d) (he : psE s = e) : VF Tryz.prog 19 [.lit (.string s)] (rR n d e) := by
  subst hn; subst hd; subst he; exact g27 s hs
theorem g22t {p q : Int} (hp : inB p = true) (hq : inB q = true) : VF Tryz.prog 7 [qB p q, qB p q] (boolB true) := by
  have h := g22 hp hq hp hq
  rwa [decide_eq_true ⟨rfl, rfl⟩] at h
theorem g38t {x : Int} (hx : inB x = true) : VF Tryz.prog 20 [iB x, iB x] (boolB true) := by
  have h := g38 hx hx
  rwa [decide_eq_true rfl] at h
theorem g15  : VF Tryz.prog 4 [] (boolB true) := by
  refine VF_of P_mixed Tryz.func4 rfl rfl (by kernel_rfl) <| Sq <| Rg <| Vs (As rfl) <| Nx <| Sq <| Rg <| Vs (C0 rfl rfl (g45k (n := 1) (m := 2) (1) (2) (by decide) (by decide) (by decide))) <| Vs (C0 rfl rfl (g45k (n := 1) (m := 3) (1) (3) (by decide) (by decide) (by decide))) <| Vs (C0 rfl rfl (g39k (okR_lit (by decide +kernel)) (okR_lit (by decide +kernel)) (by decide +kernel) (n := 5) (d := 6) (by decide +kernel) (by decide +kernel))) <| Vs (Mv rfl) <| Vs (Xt rfl) <| Vs (Xt rfl) <| Vs (Al 7 TZ26 rfl) <| Vs (StS TS26 rfl) <| Vs (As rfl) <| Nx <| Sq <| Rg <| Vs (C0 rfl rfl (g45k (n := 3) (m := 4) (3) (4) (by decide) (by decide) (by decide))) <| Vs (C0 rfl rfl (g45k (n := -1) (m := 2) ((-1)) (2) (by decide) (by decide) (by decide))) <| Vs (C0 rfl rfl (g46k (okR_lit (by decide +kernel)) (okR_lit (by decide +kernel)) (by decide) (by decide +kernel) (n := -3) (d := 2) (by decide +kernel) (by decide +kernel))) <| Vs (Mv rfl) <| Vs (Xt rfl) <| Vs (Xt rfl) <| Vs (Al 16 TZ26 rfl) <| Vs (StS TS26 rfl) <| Vs (As rfl) <| Nx <| Sq <| Rg <| Vs (C0 rfl rfl (g45k (n := 3) (m := 4) (3) (4) (by decide) (by decide) (by decide))) <| Vs (C0 rfl rfl (g45k (n := 0) (m := 1) (0) (1) (by decide) (by decide) (by decide))) <| Vs (C0 rfl rfl (g46z (okR_lit (by decide +kernel)) (okR_lit (by decide +kernel)))) <| Vs (Mv rfl) <| Vs (Xt rfl) <| Vs (Xt rfl) <| Vs (Al 25 TZ26 rfl) <| Vs (StS TS26 rfl) <| Vs (As rfl) <| Nx <| Sq <| Rg <| Vs (C0 rfl rfl (g45k (n := -7) (m := 2) ((-7)) (2) (by decide) (by decide) (by decide))) <| Vs (C0 rfl rfl (g32k (okR_lit (by decide +kernel)) (by decide) (by decide) (n := -4) (by decide +kernel) (by decide +kernel))) <| Vs (Mv rfl) <| Vs (Xt rfl) <| Vs (Xt rfl) <| Vs (Al 33 TZ24 rfl) <| Vs (StS TS24 rfl) <| Vs (As rfl) <| Nx <| Sq <| Rg <| Vs (C0 rfl rfl (g45k (n := 9) (m := 4) (9) (4) (by decide) (by decide) (by decide))) <| Vs (C0 rfl rfl (g34k (okR_lit (by decide +kernel)) (n := 3) (d := 2) (e := 0) (t := true) (by decide +kernel) (by decide +kernel) (by decide +kernel) (by decide +kernel))) <| Vs (Mv rfl) <| Vs (Xt rfl) <| Vs (Xt rfl) <| Vs (Xt rfl) <| Vs (Al 42 TZ26 rfl) <| Vs (StS TS26 rfl) <| Vs (As rfl) <| Vs (As rfl) <| Nx <| Sq <| Rg <| Vs (C0 rfl rfl (g45k (n := 1) (m := 3) (1) (3) (by decide) (by decide) (by decide))) <| Vs (C0 rfl rfl (g45k (n := 1) (m := 2) (1) (2) (by decide) (by decide) (by decide))) <| Vs (C0 rfl rfl (g23k (okR_lit (by decide +kernel)) (okR_lit (by decide +kernel)) (by decide) (n := 2) (d := 5) (by decide +kernel))) <| ?_
  refine Vs (Mv rfl) <| Vs (Xt rfl) <| Vs (Xt rfl) <| Vs (Al 52 TZ26 rfl) <| Vs (StS TS26 rfl) <| Vs (As rfl) <| Nx <| Sq <| Rg <| Vs (C0 rfl rfl (g45k (n := -3) (m := 4) ((-3)) (4) (by decide) (by decide) (by decide))) <| Vs (C0 rfl rfl (g25k (t := (⟨#[45, 51, 47, 52]⟩ : ByteArray)) (okR_lit (by decide +kernel)) (by decide +kernel))) <| Vs (Mv rfl) <| Vs (Xt rfl) <| Vs (Xt rfl) <| Vs (As rfl) <| Vs (As rfl) <| Nx <| Sq <| Rg <| Vs (C0 rfl rfl (g27k (s := (⟨#[54, 47, 56]⟩ : ByteArray)) (by decide) (n := 0) (d := 0) (e := 3) (by decide +kernel) (by decide +kernel) (by decide +kernel))) <| Vs (Mv rfl) <| Vs (Xt rfl) <| Vs (Xt rfl) <| Vs (Al 66 TZ26 rfl) <| Vs (StS TS26 rfl) <| Vs (As rfl) <| Nx <| Sq <| Rg <| Vs (LdS TA26 TS26 rfl) <| Vs (C0 rfl rfl (g25k (t := (⟨#[50, 47, 53]⟩ : ByteArray)) (okR_lit (by decide +kernel)) (by decide +kernel))) <| Vs (Mv rfl) <| Vs (Xt rfl) <| Vs (Xt rfl) <| Vs (As rfl) <| Vs (As rfl) <| Nx <| Sq <| Rd (by kernel_rfl) <| Vl (Mv rfl) <| Vl (Bi (c := .bool true) rfl) <| Vl (Mv rfl) <| Vl (LdS TA26 TS26 rfl) <| Vl (C0 rfl rfl (g45k (n := 5) (m := 6) (5) (6) (by decide) (by decide) (by decide))) <| Vl (Cf rfl rfl (g22t (by decide +kernel) (by decide +kernel)) rfl) <| Vl (Pk rfl) <| Vl (Mv rfl) <| Vl (Mv rfl) <| Vl (Bi (c := .bool true) rfl) <| Vl (Pk rfl) <| Vl (Mv rfl) <| Vl (LdS TA26 TS26 rfl) <| Vl (C0 rfl rfl (g45k (n := -3) (m := 2) ((-3)) (2) (by decide) (by decide) (by decide))) <| Vl (Cf rfl rfl (g22t (by decide +kernel) (by decide +kernel)) rfl) <| Vl (Pk rfl) <| Vl (Mv rfl) <| Vl (Mv rfl) <| Vl (Bi (c := .bool true) rfl) <| Vl (Pk rfl) <| Vl (Mv rfl) <| Vl (Mv rfl) <| Vl (Bi (c := .bool true) rfl) <| Vl (Pk rfl) <| Vl (Mv rfl) <| Vl (LdS TA24 TS24 rfl) <| Vl (C0 rfl rfl (c28 (n := (-4)) (by first | omega | assumption | (simp; done) | (simp; omega)) (by first | omega | assumption | (simp; done) | (simp; omega)))) <| Vl (Cf rfl rfl (g38t (by decide +kernel)) rfl) <| Vl (Pk rfl) <| Vl (Mv rfl) <| Vl (Mv rfl) <| ?_
  refine Vl (Bi (c := .bool true) rfl) <| Vl (Pk rfl) <| Vl (Mv rfl) <| Vl (Mv rfl) <| Vl (Pk rfl) <| Vl (Mv rfl) <| Vl (LdS TA26 TS26 rfl) <| Vl (C0 rfl rfl (g45k (n := 3) (m := 2) (3) (2) (by decide) (by decide) (by decide))) <| Vl (Cf rfl rfl (g22t (by decide +kernel) (by decide +kernel)) rfl) <| Vl (Pk rfl) <| Vl (Mv rfl) <| Vl (Mv rfl) <| Vl (Bi (c := .bool true) rfl) <| Vl (Pk rfl) <| Vl (Mv rfl) <| Vl (Mv rfl) <| Vl (Bi (c := .bool true) rfl) <| Vl (Pk rfl) <| Vl (Mv rfl) <| Vl (Mv rfl) <| Vl (Bo (c := .bool true) rfl (bop_str_refl _)) <| Vl (Pk rfl) <| Vl (Mv rfl) <| Vl (Mv rfl) <| Vl (Bi (c := .bool true) rfl) <| Vl (Pk rfl) <| Vl (Mv rfl) <| Vl (Mv rfl) <| Vl (Bo (c := .bool true) rfl (bop_str_refl _)) <| Vl (Pk rfl) <| Vl (Mv rfl) <| Vl (Mv rfl) <| Vl (Bi (c := .bool true) rfl) <| Vl (Pk rfl) <| Vl (As rfl) <| ?_
  refine VLog.nil ⟨by kernel_rfl, ?_⟩
  exact Tg <| Re <| Fi (l := [boolB (true)]) (Rc (resVar_tmp rfl rfl) Rn) rfl
end Go.VL

/- Walks over the Go functions, printed by a program of this session over the kit's print, and by hand. -/
set_option linter.unusedVariables false
set_option linter.unusedSimpArgs false
namespace Go.VL
open Go.Proofs
section
variable {x y : Rat} {j k : Nat}
theorem x39 (hx : bdR j x) (hy : bdR k y) (h : j + k + 1 ≤ 4096 := by decide) : VF Tryz.prog 5 [qR x, qR y] (.tup [qR (x + y), numB .i64 0]) := by
  have e := g39 (okR_x hx (by omega)) (okR_x hy (by omega))
  rw [addOk_bd hx hy h, qN, qD, qF, if_pos rfl, if_pos rfl, if_pos rfl, rd_num (ds x y), rd_den (ds x y), add_rat] at e
  exact e
theorem x44 (hx : bdR j x) (hy : bdR k y) (h : j + k + 1 ≤ 4096 := by decide) : VF Tryz.prog 8 [qR x, qR y] (.tup [qR (x - y), numB .i64 0]) := by
  have e := g44 (okR_x hx (by omega)) (okR_x hy (by omega))
  rw [subOk_bd hx hy h, qN, qD, qF, if_pos rfl, if_pos rfl, if_pos rfl, rd_num (ds x y), rd_den (ds x y), sub_rat] at e
  exact e
theorem x40 (hx : bdR j x) (hy : bdR k y) (h : j + k ≤ 4096 := by decide) : VF Tryz.prog 10 [qR x, qR y] (.tup [qR (x * y), numB .i64 0]) := by
  have e := g40 (okR_x hx (by omega)) (okR_x hy (by omega))
  rw [mulOk_bd hx hy h, qN, qD, qF, if_pos rfl, if_pos rfl, if_pos rfl, rd_num (ds x y), rd_den (ds x y), mul_rat] at e
  exact e
theorem x46 (hx : bdR j x) (hy : bdR k y) (h0 : y ≠ 0) (h : j + k ≤ 4096 := by decide) : VF Tryz.prog 12 [qR x, qR y] (.tup [qR (x / y), numB .i64 0]) := by
  have h1 : nu y ≠ 0 := fun hc => h0 (nu_zero.1 hc)
  have e := g46 (okR_x hx (by omega)) (okR_x hy (by omega)) h1
  rw [divOk_bd hx hy h, qN, qD, qF, if_pos rfl, if_pos rfl, if_pos rfl, rd_num (Int.mul_ne_zero (dz x) h1), rd_den (Int.mul_ne_zero (dz x) h1), div_rat] at e
  exact e
theorem x46z (hx : bdR j x) (h : j ≤ 4096 := by decide) : VF Tryz.prog 12 [qR x, qR 0] (.tup [qB 0 0, numB .i64 4]) := g46z (okR_x hx h) (okR_of in_zero in_one)
theorem x36 (hx : bdR j x) (h1 : j ≤ 4096 := by decide) : VF Tryz.prog 41 [qR x] (numB .i64 (cmpR x 0)) := by
  have e := g36 (okR_x hx h1)
  have h := cmp_rat x 0
  rw [show nu (0 : Rat) = 0 from rfl, show de (0 : Rat) = 1 from rfl, Int.mul_one, Int.zero_mul] at h
  rw [h] at e
  exact e
theorem x22 (hx : bdR j x) (hy : bdR k y) (h1 : j ≤ 4096 := by decide) (h2 : k ≤ 4096 := by decide) : VF Tryz.prog 7 [qR x, qR y] (boolB (decide (x = y))) := by
  have e := g22 (bdZ_in hx.1 h1) (bdZ_in hx.2 h1) (bdZ_in hy.1 h2) (bdZ_in hy.2 h2)
  rw [same_x] at e
  exact e
/-- A number of two small integers. -/
theorem x45 (a b : Int) {z : Rat} (hz : Rat.divInt a b = z) (h0 : b ≠ 0) (ha : -9223372036854775808 ≤ a ∧ a ≤ 9223372036854775807) (hb : -9223372036854775808 ≤ b ∧ b ≤ 9223372036854775807) : VF Tryz.prog 14 [numB .i64 a, numB .i64 b] (qR z) := by
  have e := g45 ha.1 ha.2 hb.1 hb.2
  rw [mkN, mkD, if_neg h0, if_neg h0, rd_num h0, rd_den h0, hz] at e
  exact e
end
theorem x22t {x y : Rat} {j k : Nat} (hx : bdR j x) (hy : bdR k y) (h : x = y) (h1 : j ≤ 4096 := by decide) (h2 : k ≤ 4096 := by decide) : VF Tryz.prog 7 [qR x, qR y] (boolB true) := by
  have e := x22 hx hy h1 h2
  rwa [decide_eq_true h] at e
end Go.VL

/- From contracts by value to the given statements: arguments that are rationals. -/
set_option linter.unusedVariables false
set_option linter.unusedSimpArgs false
set_option maxRecDepth 100000
namespace Go.VL
open Go.ChangeShapes Go.WideShapes Go.ChangeAt Go.RowKit Go.ChangeMaps Go.Proofs
section
variable {H : Type} {enc : TypeId × Value → H} {W : World}
/-- An integer's cells, opened. -/
theorem open_intC {fuel : Nat} {l : List Value} {d : DataW H × List MemPlace} (hsz : l.length = 2) (hf : DataW.trod enc Tryz.prog W 0 (fun _ => true) true fuel 24 l = some d) :
    ∃ (b : Bool) (L : List Int) (u : Value), l = [.bool b, u] ∧ u.oneCell' = true ∧ RepB W (fun _ => True) (u32S L) u ∧ ok32 L ∧ L.length ≤ 9223372036854775807 := by
  obtain ⟨xs, n, rfl, hx, hlen, hxl, hxs⟩ := DataW.trod_struct Tryz.underlying24 hf
  have c24 : Tryz.prog.cellsOf 24 = 2 := by kernel_rfl
  have c4 : Tryz.prog.cellsOf 4 = 1 := by kernel_rfl
  have c22 : Tryz.prog.cellsOf 22 = 1 := by kernel_rfl
  have c51 : Tryz.prog.cellsOf 64 = 1 := by kernel_rfl
  have hxl2 : xs.length = 2 := by simpa using hxl
  have e0 : DataW.trod enc Tryz.prog W 0 (fun _ => true) true n 4 ((l.drop 0).take (Tryz.prog.cellsOf 4)) = xs[0]? := hxs 0 _ rfl
  have e1 : DataW.trod enc Tryz.prog W 0 (fun _ => true) true n 22 ((l.drop 1).take (Tryz.prog.cellsOf 22)) = xs[1]? := hxs 1 _ rfl
  rw [c4] at e0
  rw [c22] at e1
  have g0 : xs[0]? = some xs[0] := by simp
  have g1 : xs[1]? = some xs[1] := by simp
  rw [g0] at e0
  rw [g1] at e1
  obtain ⟨a, u, rfl⟩ : ∃ a u, l = [a, u] := by
    match l, hsz with
    | [a, u], _ => exact ⟨a, u, rfl⟩
  obtain ⟨b, hb, _⟩ := DataW.trod_bool Tryz.underlying4 e0
  simp at hb
  subst hb
  rcases open_ints (k := .u32) Tryz.underlying22 Tryz.underlying64 c51 e1 with ⟨h1, _⟩ | ⟨a, len, cap, zs, h1, _, hlc, hcm, hzl, _, hcell, hwf⟩
  · simp at h1
    exact ⟨b, [], u, rfl, by rw [h1]; rfl, by rw [h1]; exact .nilsl 1 (by omega), ok32_nil, by simp⟩
  · simp at h1
    have hzl' : zs.length = cap := by simpa using hzl
    have hm : maxLen ≤ 9223372036854775807 := by decide
    refine ⟨b, zs.take len, u, rfl, by rw [h1]; rfl, ?_, ?_, by simp; omega⟩
    · rw [h1]
      refine .sl a len cap 1 _ (fun j => .int .u32 (zs.getD j 0)) (by simp; omega) hlc hcm (by omega) (fun _ => trivial) (fun j hj => ?_) (fun j hj => rfl) (fun j x hj => ?_)
      · simp at hj
        exact hcell j (by omega)
      · simp only [List.getElem?_map, Option.map_eq_some_iff] at hj
        obtain ⟨q, hq, rfl⟩ := hj
        have hjl := (List.getElem?_eq_some_iff.1 hq).1
        simp at hjl
        rw [List.getElem?_take_of_lt (by omega), getD_get (by omega)] at hq
        injection hq with hq
        subst hq
        exact .lit _ rfl
    · intro x hx
      exact lit_u32 (hwf x (List.mem_of_mem_take hx))
theorem open_rat {v : Value} {d : DataW H} {p : List MemPlace} (hval : Value.okWide Tryz.prog W .any 0 26 v) (h : DataW.Trod enc Tryz.prog W 0 (fun _ => true) true 26 v d p) :
    ∃ (n : Bool) (A : List Int) (m : Bool) (D : List Int), RepB W (fun _ => True) (ratB n A m D) v ∧ (ok32 A ∧ ok32 D) ∧ A.length ≤ 9223372036854775807 ∧ D.length ≤ 9223372036854775807 := by
  obtain ⟨cs, rfl, hsz⟩ := okWide_struct Tryz.underlying26 hval
  obtain ⟨fuel, hf⟩ := h
  obtain ⟨xs, n, rfl, hx, hlen, hxl, hxs⟩ := DataW.trod_struct Tryz.underlying26 hf
  have c27 : Tryz.prog.cellsOf 26 = 4 := by kernel_rfl
  have c24 : Tryz.prog.cellsOf 24 = 2 := by kernel_rfl
  rw [c27] at hsz hlen
  have hcs : (Value.agg cs).cells = cs := rfl
  rw [hcs] at hlen hxs
  have hxl2 : xs.length = 2 := by simpa using hxl
  have e0 : DataW.trod enc Tryz.prog W 0 (fun _ => true) true n 24 ((cs.toList.drop 0).take (Tryz.prog.cellsOf 24)) = xs[0]? := hxs 0 _ rfl
  have e1 : DataW.trod enc Tryz.prog W 0 (fun _ => true) true n 24 ((cs.toList.drop 2).take (Tryz.prog.cellsOf 24)) = xs[1]? := hxs 1 _ rfl
  rw [c24] at e0 e1
  have g0 : xs[0]? = some xs[0] := by simp
  have g1 : xs[1]? = some xs[1] := by simp
  rw [g0] at e0
  rw [g1] at e1
  have hl : cs.toList.length = 4 := by simpa using hsz
  obtain ⟨b1, L1, u1, k1, o1, r1, q1, z1⟩ := open_intC (by rw [List.length_take, List.length_drop]; omega) e0
  obtain ⟨b2, L2, u2, k2, o2, r2, q2, z2⟩ := open_intC (by rw [List.length_take, List.length_drop]; omega) e1
  have hcl : cs.toList = [.bool b1, u1, .bool b2, u2] := by
    rw [List.drop_zero] at k1
    have e := List.take_append_drop 2 cs.toList
    rw [k1] at e
    rw [List.take_of_length_le (by simp; omega)] at k2
    rw [← e, k2]; rfl
  have hcs' : cs = #[.bool b1, u1, .bool b2, u2] := by rw [← Array.toArray_toList (xs := cs), hcl]
  subst hcs'
  refine ⟨b1, L1, b2, L2, ?_, ⟨q1, q2⟩, z1, z2⟩
  refine .agg [.lit (.bool b1), u32S L1, .lit (.bool b2), u32S L2] _ (fun j => match j with | 0 => .bool b1 | 1 => u1 | 2 => .bool b2 | _ => u2) rfl (fun j hj => ?_) (fun j hj => ?_) (fun j x hj => ?_)
  · match j, hj with
    | 0, _ => rfl
    | 1, _ => rfl
    | 2, _ => rfl
    | 3, _ => rfl
  · match j, hj with
    | 0, _ => rfl
    | 1, _ => exact o1
    | 2, _ => rfl
    | 3, _ => exact o2
  · match j, hj with
    | 0, hj => injection hj with hj; subst hj; exact .lit _ rfl
    | 1, hj => injection hj with hj; subst hj; exact r1
    | 2, hj => injection hj with hj; subst hj; exact .lit _ rfl
    | 3, hj => injection hj with hj; subst hj; exact r2
theorem T27 : Tryz.prog.readableRec 26 = true ∧ 26 < Tryz.prog.types.size := ⟨by kernel_rfl, of_decide_eq_true (by kernel_rfl)⟩
end
end Go.VL

/- Plain laws of rationals: what the functions return stays in bounds. No program. -/
set_option linter.unusedVariables false
namespace Go.VL
section
variable {x y p q r s : Int}
theorem rdS_in (h : inB x = true) : inB (rdS x y) = true := by
  unfold rdS; split
  · exact (in_neg x).trans h
  · exact h
theorem rdN_in (hx : inB x = true) : inB (rdN x y) = true := by
  unfold rdN
  by_cases h : rdG x y = 0
  · rw [h, Int.fdiv_zero]; exact in_zero
  · exact fdiv_in (rdS_in hx) h
theorem rdD_in (hy : inB y = true) : inB (rdD x y) = true := by
  unfold rdD
  by_cases h : rdG x y = 0
  · rw [h, Int.fdiv_zero]; exact in_zero
  · exact fdiv_in (rdS_in hy) h
theorem mkN_in (hx : inB x = true) : inB (mkN x y) = true := by
  unfold mkN; split
  · exact in_zero
  · exact rdN_in hx
theorem mkD_in (hy : inB y = true) : inB (mkD x y) = true := by
  unfold mkD; split
  · exact in_zero
  · exact rdD_in hy
theorem sh_nil (z : Int) : shZ z 0 = z := by simp [shZ]
theorem fl_nil {k : Int} (h : ¬ k > 0) (h1 : k ≥ 0) (hi : inB (p.fdiv q) = true) : zR (flZ p q k) = oneB [iB (p.fdiv q), numB .i64 0] := by
  have : k = 0 := by omega
  subst this
  rw [flZ, if_pos (Int.le_refl 0), sh_nil, zR, zE_in.2 hi]; rfl
theorem fl_ins (z : Int) : ∃ w e : Int, inB w = true ∧ zR z = .tup [iB w, numB .i64 e] := by
  cases h : inB z with
  | true => exact ⟨z, zE z, h, rfl⟩
  | false => exact ⟨0, zE z, in_zero, by rw [zR, zB_zero, ← iB_out (z := z) (fun hc => by rw [zE_in.1 hc] at h; cases h)]⟩
theorem sq_ins (hp : inB p = true) (hq : inB q = true) : inB (sqQn p q) = true ∧ inB (sqQd p q) = true := by
  have hs : ∀ z : Int, inB z = true → inB (isq z) = true := fun z hz => by
    by_cases h : 0 ≤ z
    · exact (sq_in h hz).1
    · have : isq z = 0 := by unfold isq; rw [show z.toNat = 0 by omega]; rfl
      rw [this]; exact in_zero
  unfold sqQn sqQd
  split
  · exact ⟨hs _ hp, hs _ hq⟩
  · exact ⟨in_zero, in_zero⟩
end
end Go.VL

/- Plain laws of rationals: a result and its error. No program. -/
set_option linter.unusedVariables false
namespace Go.VL
theorem zE_out {z : Int} (h : zE z ≠ 0) : inB z = false := by
  cases e : inB z with
  | false => rfl
  | true => exact absurd (zE_in.2 e) h
theorem op_bad {ok : Bool} {e n d : Int} (h : ok = false) (he : e ≠ 0) (h2 : e = 0 ∨ e = 2) : rR (qN ok n d) (qD ok n d) (qF ok) = oneB [ratB false [] false [], numB .i64 e] := by
  have : e = 2 := by omega
  subst this; subst h
  rw [← qB_zero]; rfl
theorem op_good {ok : Bool} {n d : Int} (h : ok = true) : rR (qN ok n d) (qD ok n d) (qF ok) = oneB [qB (rdN n d) (rdD n d), numB .i64 0] := by
  subst h; rfl
theorem q_in {ok : Bool} {n d : Int} (h : ok = true → inB n = true ∧ inB d = true) : inB (qN ok n d) = true ∧ inB (qD ok n d) = true := by
  cases ok with
  | false => exact ⟨in_zero, in_zero⟩
  | true => exact ⟨rdN_in (h rfl).1, rdD_in (h rfl).2⟩
section
variable {p q r s : Int}
theorem addOk_in (h : addOk p q r s = true) : inB (p * s + r * q) = true ∧ inB (q * s) = true := by
  simp only [addOk, Bool.and_eq_true] at h; exact ⟨h.1.2, h.2⟩
theorem subOk_in (h : subOk p q r s = true) : inB (p * s - r * q) = true ∧ inB (q * s) = true := by
  simp only [subOk, Bool.and_eq_true] at h; exact ⟨h.1.2, h.2⟩
theorem mulOk_in (h : mulOk p q r s = true) : inB (p * r) = true ∧ inB (q * s) = true := by
  simp only [mulOk, Bool.and_eq_true] at h; exact h
theorem addOk_of (h1 : zE (p * s) = 0) (h2 : zE (r * q) = 0) (h3 : zE (p * s + r * q) = 0) (h4 : zE (q * s) = 0) : addOk p q r s = true := by
  simp only [addOk, Bool.and_eq_true]; exact ⟨⟨⟨zE_in.1 h1, zE_in.1 h2⟩, zE_in.1 h3⟩, zE_in.1 h4⟩
theorem mulOk_of (h1 : zE (p * r) = 0) (h4 : zE (q * s) = 0) : mulOk p q r s = true := by
  simp only [mulOk, Bool.and_eq_true]; exact ⟨zE_in.1 h1, zE_in.1 h4⟩
theorem addOk_1 (h : zE (p * s) ≠ 0) : addOk p q r s = false := by rw [addOk, zE_out h, Bool.false_and, Bool.false_and, Bool.false_and]
theorem addOk_2 (h : zE (r * q) ≠ 0) : addOk p q r s = false := by rw [addOk, zE_out h, Bool.and_false, Bool.false_and, Bool.false_and]
theorem addOk_3 (h : zE (p * s + r * q) ≠ 0) : addOk p q r s = false := by rw [addOk, zE_out h, Bool.and_false, Bool.false_and]
theorem addOk_4 (h : zE (q * s) ≠ 0) : addOk p q r s = false := by rw [addOk, zE_out h, Bool.and_false]
theorem mulOk_1 (h : zE (p * r) ≠ 0) : mulOk p q r s = false := by rw [mulOk, zE_out h, Bool.false_and]
theorem mulOk_2 (h : zE (q * s) ≠ 0) : mulOk p q r s = false := by rw [mulOk, zE_out h, Bool.and_false]
/-- The difference is the sum with the negative. -/
theorem sub_add : subOk p q r s = addOk p q (-r) s := by
  have e : -r * q = -(r * q) := Int.neg_mul _ _
  rw [subOk, addOk, e, Int.sub_eq_add_neg, in_neg]
end
end Go.VL

/- Walks over the Go functions, printed by a program of this session over the kit's print, and by hand. -/
set_option linter.unusedVariables false
set_option linter.unusedSimpArgs false
set_option maxRecDepth 100000
namespace Go.VL
open Go.Proofs
theorem g69 {z : Int} (hz : inB z = true) : VF Tryz.prog 53 [.agg [boolB (zN (z)), u32S (zL (z))]] (iB (-z)) := by
  refine VF_of P_mixed Tryz.func53 rfl rfl (by kernel_rfl) <| Sq <| Rg <| Vs (Bx 0 rfl) <| Vs (Al 1 TZ24 rfl) <| Nx <| Sq <| Sq <| Rg <| Vs (LdS TA24 TS24 rfl) <| Vs (Cf rfl rfl (g55 (z := z) inT) rfl) <| Nx <| Cd rfl (fun hc1 => ?_) (fun hc1 => ?_)
  · replace hc1 := of_decide_eq_true hc1
    exact Sq <| Rg <| Vs (LdS TA24 TS24 rfl) <| Vs (StS TS24 rfl) <| Nx <| Re <| Tr <| Fi (l := [.agg [boolB (zN (z)), u32S (zL (z))]]) (Rc (resVar_cell rfl rfl TA24 TS24 (Nat.le_of_ble_eq_true rfl) rfl) Rn) (retZ (by omega))
  · replace hc1 := of_decide_eq_false hc1
    exact Ks <| Tg <| Sq <| Rg <| Vs (Fa TF24_0 rfl) <| Vs (Ld TA4 rfl) <| Vs (Un rfl) <| Vs (Fa TF24_1 rfl) <| Vs (Ld TA22 rfl) <| Vs (Bd TQ24 rfl) <| Vs (StS TS24 rfl) <| Nx <| Re <| Fi (l := [.agg [boolB ((!zN (z))), u32S (zL (z))]]) (Rc (resVar_cell rfl rfl TA24 TS24 (Nat.le_of_ble_eq_true rfl) rfl) Rn) (negR (mt (by have := zL_nil hz; omega) hc1))
theorem g56 {x y : Int} (hx : inB x = true) (hy : inB y = true) (h0 : y ≠ 0) : VF Tryz.prog 30 [.agg [boolB (zN (x)), u32S (zL (x))], .agg [boolB (zN (y)), u32S (zL (y))]] (qB (rdN x y) (rdD x y)) := by
  have nx : inB (-x) = true := (in_neg x).trans hx
  have ny : inB (-y) = true := (in_neg y).trans hy
  have gi := rdG_in hx hy
  have gn := rdG_ne x h0
  refine VF_of P_mixed Tryz.func30 rfl rfl (by kernel_rfl) <| Sq <| Rg <| Vs (Bx 0 rfl) <| Vs (Bx 1 rfl) <| Vs (Al 2 TZ26 rfl) <| Nx <| Sq <| Rg <| Vs (LdS TA24 TS24 rfl) <| Vs (LdS TA24 TS24 rfl) <| Vs (C0 rfl rfl (d32 (x := x) (y := y) inT inT)) <| Vs (Mv rfl) <| Vs (Xt rfl) <| Vs (Xt rfl) <| Vs (Al 9 TZ24 rfl) <| Vs (StS TS24 rfl) <| Vs (As rfl) <| Nx <| Sq <| Sq <| Rg <| Vs (Fa TF24_0 rfl) <| Vs (Ld TA4 rfl) <| Nx <| Cd rfl (fun hc1 => ?_) (fun hc1 => ?_)
  · (try simp at hc1)
    have hy0 : y < 0 := zN_lt hc1
    exact Sq <| Rg <| Vs (LdS TA24 TS24 rfl) <| Vs (C0 rfl rfl (g69 (z := x) inT)) <| Vs (StS TS24 rfl) <| Nx <| Rg <| Vs (LdS TA24 TS24 rfl) <| Vs (C0 rfl rfl (g69 (z := y) inT)) <| Vs (StS TS24 rfl) <| Nx <| Sq <| Rg <| Vs (LdS TA24 TS24 rfl) <| Vs (LdS TA24 TS24 rfl) <| Vs (C0 rfl rfl (d19 (x := -(x)) (y := rdG (x) (y)) inT inT (by first | with_reducible assumption | omega))) <| Vs (Mv rfl) <| Vs (Xt rfl) <| Vs (Xt rfl) <| Vs (Xt rfl) <| Vs (Al 27 TZ24 rfl) <| Vs (Al 28 TZ24 rfl) <| Vs (StS TS24 rfl) <| Vs (StS TS24 rfl) <| Vs (As rfl) <| Nx <| Sq <| Rg <| Vs (LdS TA24 TS24 rfl) <| Vs (LdS TA24 TS24 rfl) <| Vs (C0 rfl rfl (d19 (x := -(y)) (y := rdG (x) (y)) inT inT (by first | with_reducible assumption | omega))) <| Vs (Mv rfl) <| Vs (Xt rfl) <| Vs (Xt rfl) <| Vs (Xt rfl) <| Vs (Al 39 TZ24 rfl) <| Vs (Al 40 TZ24 rfl) <| Vs (StS TS24 rfl) <| Vs (StS TS24 rfl) <| Vs (As rfl) <| Nx <| Sq <| Rg <| Vs (LdS TA24 TS24 rfl) <| Vs (LdS TA24 TS24 rfl) <| Vs (Bd TQ26 rfl) <| Vs (StS TS26 rfl) <| Nx <| Re <| Fi (l := [.agg [boolB (zN ((-(x)).fdiv (rdG (x) (y)))), u32S (zL ((-(x)).fdiv (rdG (x) (y)))), boolB (zN ((-(y)).fdiv (rdG (x) (y)))), u32S (zL ((-(y)).fdiv (rdG (x) (y))))]]) (Rc (resVar_cell rfl rfl TA26 TS26 (Nat.le_of_ble_eq_true rfl) rfl) Rn) (rdR1 hy0)
  · (try simp at hc1)
    have hy0 : ¬ y < 0 := zN_ge hy hc1
    exact Ks <| Tg <| Sq <| Rg <| Vs (LdS TA24 TS24 rfl) <| Vs (LdS TA24 TS24 rfl) <| Vs (C0 rfl rfl (d19 (x := x) (y := rdG (x) (y)) inT inT (by first | with_reducible assumption | omega))) <| Vs (Mv rfl) <| Vs (Xt rfl) <| Vs (Xt rfl) <| Vs (Xt rfl) <| Vs (Al 21 TZ24 rfl) <| Vs (Al 22 TZ24 rfl) <| Vs (StS TS24 rfl) <| Vs (StS TS24 rfl) <| Vs (As rfl) <| Nx <| Sq <| Rg <| Vs (LdS TA24 TS24 rfl) <| Vs (LdS TA24 TS24 rfl) <| Vs (C0 rfl rfl (d19 (x := y) (y := rdG (x) (y)) inT inT (by first | with_reducible assumption | omega))) <| Vs (Mv rfl) <| Vs (Xt rfl) <| Vs (Xt rfl) <| Vs (Xt rfl) <| Vs (Al 33 TZ24 rfl) <| Vs (Al 34 TZ24 rfl) <| Vs (StS TS24 rfl) <| Vs (StS TS24 rfl) <| Vs (As rfl) <| Nx <| Sq <| Rg <| Vs (LdS TA24 TS24 rfl) <| Vs (LdS TA24 TS24 rfl) <| Vs (Bd TQ26 rfl) <| Vs (StS TS26 rfl) <| Nx <| Re <| Fi (l := [.agg [boolB (zN ((x).fdiv (rdG (x) (y)))), u32S (zL ((x).fdiv (rdG (x) (y)))), boolB (zN ((y).fdiv (rdG (x) (y)))), u32S (zL ((y).fdiv (rdG (x) (y))))]]) (Rc (resVar_cell rfl rfl TA26 TS26 (Nat.le_of_ble_eq_true rfl) rfl) Rn) (rdR3 hy0)
end Go.VL

/- Walks over the Go functions, printed by a program of this session over the kit's print, and by hand. -/
set_option linter.unusedVariables false
set_option linter.unusedSimpArgs false
set_option maxRecDepth 100000
namespace Go.VL
open Go.Proofs
theorem g66 (n : Bool) (A : List Int) (m : Bool) (D : List Int) (n2 : Bool) (A2 : List Int) (m2 : Bool) (D2 : List Int) (hA : A.length ≤ 9223372036854775807) (hD : D.length ≤ 9223372036854775807) (hA2 : A2.length ≤ 9223372036854775807) (hD2 : D2.length ≤ 9223372036854775807) (oA : ok32 A) (oD : ok32 D) (oA2 : ok32 A2) (oD2 : ok32 D2) : VF Tryz.prog 28 [.agg [boolB (n), u32S (A), boolB (m), u32S (D)], .agg [boolB (n2), u32S (A2), boolB (m2), u32S (D2)]] (boolB (vR n A m D && vR n2 A2 m2 D2)) := by
  refine VF_of P_mixed Tryz.func28 rfl rfl (by kernel_rfl) <| Sq <| Rg <| Vs (Bx 0 rfl) <| Vs (Bx 1 rfl) <| Vs (As rfl) <| Nx <| Sq <| Rg <| Vs (LdS TA26 TS26 rfl) <| Vs (Cf rfl rfl (g21 n A m D hA hD oA oD) rfl) <| Vs (As rfl) <| Nx <| Sq <| Rg <| Vs (LdS TA26 TS26 rfl) <| Vs (Cf rfl rfl (g21 n2 A2 m2 D2 hA2 hD2 oA2 oD2) rfl) <| Vs (As rfl) <| Nx <| Sq <| Rg <| Vs (Mv rfl) <| Vs (Mv rfl) <| Sp 12 rfl (fun hc1 => ?_) (fun hc1 => ?_)
  · replace hc1 := hc1
    exact Vs (Mv rfl) <| Vs (Pk rfl) <| Vs (As rfl) <| Nx <| Re <| Fi (l := [boolB (vR n2 A2 m2 D2)]) (Rc (resVar_tmp rfl rfl) Rn) (by rw [hc1]; rfl)
  · replace hc1 := hc1
    exact Sk rfl <| Vs (Pk rfl) <| Vs (As rfl) <| Nx <| Re <| Fi (l := [boolB (false)]) (Rc (resVar_tmp rfl rfl) Rn) (by rw [hc1]; rfl)
theorem g66q {p q r s : Int} (ha : okR p q) (hb : okR r s) : VF Tryz.prog 28 [qB p q, qB r s] (boolB true) := by
  have := g66 (zN p) (zL p) (zN q) (zL q) (zN r) (zL r) (zN s) (zL s) (len_zL' _) (len_zL' _) (len_zL' _) (len_zL' _) (ok32_zL _) (ok32_zL _) (ok32_zL _) (ok32_zL _)
  rw [vR_ok ha, vR_ok hb] at this
  exact this
end Go.VL

/- Walks over the Go functions, printed by a program of this session over the kit's print, and by hand. -/
set_option linter.unusedVariables false
set_option linter.unusedSimpArgs false
set_option maxRecDepth 100000
namespace Go.VL
open Go.Proofs
theorem h24i (n : Bool) (A : List Int) (m : Bool) (D : List Int) (n2 : Bool) (A2 : List Int) (m2 : Bool) (D2 : List Int) (hA : A.length ≤ 9223372036854775807) (hD : D.length ≤ 9223372036854775807) (hA2 : A2.length ≤ 9223372036854775807) (hD2 : D2.length ≤ 9223372036854775807) (oA : ok32 A) (oD : ok32 D) (oA2 : ok32 A2) (oD2 : ok32 D2) (t : Bool) (h : (vR n A m D && vR n2 A2 m2 D2) = false) : VF Tryz.prog 24 [.agg [boolB (n), u32S (A), boolB (m), u32S (D)], .agg [boolB (n2), u32S (A2), boolB (m2), u32S (D2)], boolB (t)] (rR 0 0 1) := by
  exact VF_of P_mixed Tryz.func24 rfl rfl (by kernel_rfl) <| Sq <| Rg <| Vs (Bx 0 rfl) <| Vs (Bx 1 rfl) <| Vs (Al 2 TZ26 rfl) <| Vs (As rfl) <| Nx <| Sq <| Sq <| Rg <| Vs (LdS TA26 TS26 rfl) <| Vs (LdS TA26 TS26 rfl) <| Vs (Kb (show (vR n A m D && vR n2 A2 m2 D2) = false from h) (Cf rfl rfl (g66 n A m D n2 A2 m2 D2 hA hD hA2 hD2 oA oD oA2 oD2) rfl)) <| Vs (Un rfl) <| Nx <| Cy rfl <| Sq <| Rg <| Vs (Bd TQ26 rfl) <| Vs (StS TS26 rfl) <| Vs (As rfl) <| Nx <| Re <| Tr <| Fi (l := [.agg [boolB (false), u32S ([]), boolB (false), u32S ([])], numB .i64 (1)]) (Rc (resVar_cell rfl rfl TA26 TS26 (Nat.le_of_ble_eq_true rfl) rfl) (Rc (resVar_tmp rfl rfl) Rn)) (by rw [rR, qB_zero]; rfl)
theorem h24a {p q r s : Int} (ha : okR p q) (hb : okR r s) : VF Tryz.prog 24 [.agg [boolB (zN (p)), u32S (zL (p)), boolB (zN (q)), u32S (zL (q))], .agg [boolB (zN (r)), u32S (zL (r)), boolB (zN (s)), u32S (zL (s))], boolB (false)] (rR (qN (addOk p q r s) (p * s + r * q) (q * s)) (qD (addOk p q r s) (p * s + r * q) (q * s)) (qF (addOk p q r s))) := by
  obtain ⟨q0, g0, hp, hq⟩ := ha
  obtain ⟨s0, g1, hr, hs⟩ := hb
  have n0 : q * s ≠ 0 := Int.mul_ne_zero (by omega) (by omega)
  refine VF_of P_mixed Tryz.func24 rfl rfl (by kernel_rfl) <| Sq <| Rg <| Vs (Bx 0 rfl) <| Vs (Bx 1 rfl) <| Vs (Al 2 TZ26 rfl) <| Vs (As rfl) <| Nx <| Sq <| Sq <| Rg <| Vs (LdS TA26 TS26 rfl) <| Vs (LdS TA26 TS26 rfl) <| Vs (Cf rfl rfl (g66q ⟨q0, g0, hp, hq⟩ ⟨s0, g1, hr, hs⟩) rfl) <| Vs (Un rfl) <| Nx <| Cz rfl <| Ks <| Tg <| Sq <| Rg <| Vs (Fa TF26_0 rfl) <| Vs (LdS TA24 TS24 rfl) <| Vs (Fa TF26_1 rfl) <| Vs (LdS TA24 TS24 rfl) <| Vs (C0 rfl rfl (d30 (x := p) (y := s) inT inT)) <| Vs (Mv rfl) <| Vs (Xt rfl) <| Vs (Xt rfl) <| Vs (Al 16 TZ24 rfl) <| Vs (StS TS24 rfl) <| Vs (As rfl) <| Nx <| Sq <| Sq <| Rg <| Vs (Mv rfl) <| Vs (Bi rfl) <| Nx <| Cd rfl (fun hc1 => ?_) (fun hc1 => ?_)
  · replace hc1 := bne_iff_ne.1 hc1
    exact Sq <| Rg <| Vs (Bd TQ26 rfl) <| Vs (Mv rfl) <| Vs (StS TS26 rfl) <| Vs (As rfl) <| Nx <| Re <| Tr <| Fi (l := [.agg [boolB (false), u32S ([]), boolB (false), u32S ([])], numB .i64 (zE ((p) * (s)))]) (Rc (resVar_cell rfl rfl TA26 TS26 (Nat.le_of_ble_eq_true rfl) rfl) (Rc (resVar_tmp rfl rfl) Rn)) (op_bad (addOk_1 hc1) hc1 (zE_or _))
  · replace hc1 := bne_eq_false_iff_eq.1 hc1
    have i1 := zE_in.1 hc1
    refine Ks <| Tg <| Sq <| Rg <| Vs (Fa TF26_0 rfl) <| Vs (LdS TA24 TS24 rfl) <| Vs (Fa TF26_1 rfl) <| Vs (LdS TA24 TS24 rfl) <| Vs (C0 rfl rfl (d30 (x := r) (y := q) inT inT)) <| Vs (Mv rfl) <| Vs (Xt rfl) <| Vs (Xt rfl) <| Vs (Al 29 TZ24 rfl) <| Vs (StS TS24 rfl) <| Vs (As rfl) <| Nx <| Sq <| Sq <| Rg <| Vs (Mv rfl) <| Vs (Bi rfl) <| Nx <| Cd rfl (fun hc2 => ?_) (fun hc2 => ?_)
    · replace hc2 := bne_iff_ne.1 hc2
      exact Sq <| Rg <| Vs (Bd TQ26 rfl) <| Vs (Mv rfl) <| Vs (StS TS26 rfl) <| Vs (As rfl) <| Nx <| Re <| Tr <| Fi (l := [.agg [boolB (false), u32S ([]), boolB (false), u32S ([])], numB .i64 (zE ((r) * (q)))]) (Rc (resVar_cell rfl rfl TA26 TS26 (Nat.le_of_ble_eq_true rfl) rfl) (Rc (resVar_tmp rfl rfl) Rn)) (op_bad (addOk_2 hc2) hc2 (zE_or _))
    · replace hc2 := bne_eq_false_iff_eq.1 hc2
      have i2 := zE_in.1 hc2
      refine Ks <| Tg <| Sq <| Sq <| Rg <| Vs (Mv rfl) <| Nx <| Cz rfl <| Ks <| Tg <| Sq <| Rg <| Vs (LdS TA24 TS24 rfl) <| Vs (LdS TA24 TS24 rfl) <| Vs (C0 rfl rfl (d39 (x := (p) * (s)) (y := (r) * (q)) inT inT)) <| Vs (Mv rfl) <| Vs (Xt rfl) <| Vs (Xt rfl) <| Vs (Al 41 TZ24 rfl) <| Vs (StS TS24 rfl) <| Vs (As rfl) <| Nx <| Sq <| Sq <| Rg <| Vs (Mv rfl) <| Vs (Bi rfl) <| Nx <| Cd rfl (fun hc3 => ?_) (fun hc3 => ?_)
      · replace hc3 := bne_iff_ne.1 hc3
        exact Sq <| Rg <| Vs (Bd TQ26 rfl) <| Vs (Mv rfl) <| Vs (StS TS26 rfl) <| Vs (As rfl) <| Nx <| Re <| Tr <| Fi (l := [.agg [boolB (false), u32S ([]), boolB (false), u32S ([])], numB .i64 (zE (((p) * (s)) + ((r) * (q))))]) (Rc (resVar_cell rfl rfl TA26 TS26 (Nat.le_of_ble_eq_true rfl) rfl) (Rc (resVar_tmp rfl rfl) Rn)) (op_bad (addOk_3 hc3) hc3 (zE_or _))
      · replace hc3 := bne_eq_false_iff_eq.1 hc3
        have i3 := zE_in.1 hc3
        refine Ks <| Tg <| Sq <| Rg <| Vs (Fa TF26_1 rfl) <| Vs (LdS TA24 TS24 rfl) <| Vs (Fa TF26_1 rfl) <| Vs (LdS TA24 TS24 rfl) <| Vs (C0 rfl rfl (d30 (x := q) (y := s) inT inT)) <| Vs (Mv rfl) <| Vs (Xt rfl) <| Vs (Xt rfl) <| Vs (Al 54 TZ24 rfl) <| Vs (StS TS24 rfl) <| Vs (As rfl) <| Nx <| Sq <| Sq <| Rg <| Vs (Mv rfl) <| Vs (Bi rfl) <| Nx <| Cd rfl (fun hc4 => ?_) (fun hc4 => ?_)
        · replace hc4 := bne_iff_ne.1 hc4
          exact Sq <| Rg <| Vs (Bd TQ26 rfl) <| Vs (Mv rfl) <| Vs (StS TS26 rfl) <| Vs (As rfl) <| Nx <| Re <| Tr <| Fi (l := [.agg [boolB (false), u32S ([]), boolB (false), u32S ([])], numB .i64 (zE ((q) * (s)))]) (Rc (resVar_cell rfl rfl TA26 TS26 (Nat.le_of_ble_eq_true rfl) rfl) (Rc (resVar_tmp rfl rfl) Rn)) (op_bad (addOk_4 hc4) hc4 (zE_or _))
        · replace hc4 := bne_eq_false_iff_eq.1 hc4
          have i4 := zE_in.1 hc4
          exact Ks <| Tg <| Sq <| Rg <| Vs (LdS TA24 TS24 rfl) <| Vs (LdS TA24 TS24 rfl) <| Vs (C0 rfl rfl (g56 (x := ((p) * (s)) + ((r) * (q))) (y := (q) * (s)) inT inT (by first | with_reducible assumption | omega))) <| Vs (StS TS26 rfl) <| Vs (As rfl) <| Nx <| Re <| Fi (l := [.agg [boolB (zN (rdN (((p) * (s)) + ((r) * (q))) ((q) * (s)))), u32S (zL (rdN (((p) * (s)) + ((r) * (q))) ((q) * (s)))), boolB (zN (rdD (((p) * (s)) + ((r) * (q))) ((q) * (s)))), u32S (zL (rdD (((p) * (s)) + ((r) * (q))) ((q) * (s))))], numB .i64 (0)]) (Rc (resVar_cell rfl rfl TA26 TS26 (Nat.le_of_ble_eq_true rfl) rfl) (Rc (resVar_tmp rfl rfl) Rn)) (op_good (addOk_of hc1 hc2 hc3 hc4))
theorem h24s {p q r s : Int} (ha : okR p q) (hb : okR r s) : VF Tryz.prog 24 [.agg [boolB (zN (p)), u32S (zL (p)), boolB (zN (q)), u32S (zL (q))], .agg [boolB (zN (r)), u32S (zL (r)), boolB (zN (s)), u32S (zL (s))], boolB (true)] (rR (qN (addOk p q (-r) s) (p * s + -(r * q)) (q * s)) (qD (addOk p q (-r) s) (p * s + -(r * q)) (q * s)) (qF (addOk p q (-r) s))) := by
  obtain ⟨q0, g0, hp, hq⟩ := ha
  obtain ⟨s0, g1, hr, hs⟩ := hb
  have n0 : q * s ≠ 0 := Int.mul_ne_zero (by omega) (by omega)
  have en : -r * q = -(r * q) := Int.neg_mul _ _
  have zn : zE (r * q) ≠ 0 → zE (-(r * q)) ≠ 0 := fun h hc => h (zE_in.2 ((in_neg _).symm.trans (zE_in.1 hc)))
  have j2 : inB (r * q) = true → inB (-(r * q)) = true := fun h => (in_neg _).trans h
  refine VF_of P_mixed Tryz.func24 rfl rfl (by kernel_rfl) <| Sq <| Rg <| Vs (Bx 0 rfl) <| Vs (Bx 1 rfl) <| Vs (Al 2 TZ26 rfl) <| Vs (As rfl) <| Nx <| Sq <| Sq <| Rg <| Vs (LdS TA26 TS26 rfl) <| Vs (LdS TA26 TS26 rfl) <| Vs (Cf rfl rfl (g66q ⟨q0, g0, hp, hq⟩ ⟨s0, g1, hr, hs⟩) rfl) <| Vs (Un rfl) <| Nx <| Cz rfl <| Ks <| Tg <| Sq <| Rg <| Vs (Fa TF26_0 rfl) <| Vs (LdS TA24 TS24 rfl) <| Vs (Fa TF26_1 rfl) <| Vs (LdS TA24 TS24 rfl) <| Vs (C0 rfl rfl (d30 (x := p) (y := s) inT inT)) <| Vs (Mv rfl) <| Vs (Xt rfl) <| Vs (Xt rfl) <| Vs (Al 16 TZ24 rfl) <| Vs (StS TS24 rfl) <| Vs (As rfl) <| Nx <| Sq <| Sq <| Rg <| Vs (Mv rfl) <| Vs (Bi rfl) <| Nx <| Cd rfl (fun hc1 => ?_) (fun hc1 => ?_)
  · replace hc1 := bne_iff_ne.1 hc1
    exact Sq <| Rg <| Vs (Bd TQ26 rfl) <| Vs (Mv rfl) <| Vs (StS TS26 rfl) <| Vs (As rfl) <| Nx <| Re <| Tr <| Fi (l := [.agg [boolB (false), u32S ([]), boolB (false), u32S ([])], numB .i64 (zE ((p) * (s)))]) (Rc (resVar_cell rfl rfl TA26 TS26 (Nat.le_of_ble_eq_true rfl) rfl) (Rc (resVar_tmp rfl rfl) Rn)) (op_bad (addOk_1 hc1) hc1 (zE_or _))
  · replace hc1 := bne_eq_false_iff_eq.1 hc1
    have i1 := zE_in.1 hc1
    refine Ks <| Tg <| Sq <| Rg <| Vs (Fa TF26_0 rfl) <| Vs (LdS TA24 TS24 rfl) <| Vs (Fa TF26_1 rfl) <| Vs (LdS TA24 TS24 rfl) <| Vs (C0 rfl rfl (d30 (x := r) (y := q) inT inT)) <| Vs (Mv rfl) <| Vs (Xt rfl) <| Vs (Xt rfl) <| Vs (Al 29 TZ24 rfl) <| Vs (StS TS24 rfl) <| Vs (As rfl) <| Nx <| Sq <| Sq <| Rg <| Vs (Mv rfl) <| Vs (Bi rfl) <| Nx <| Cd rfl (fun hc2 => ?_) (fun hc2 => ?_)
    · replace hc2 := bne_iff_ne.1 hc2
      exact Sq <| Rg <| Vs (Bd TQ26 rfl) <| Vs (Mv rfl) <| Vs (StS TS26 rfl) <| Vs (As rfl) <| Nx <| Re <| Tr <| Fi (l := [.agg [boolB (false), u32S ([]), boolB (false), u32S ([])], numB .i64 (zE ((r) * (q)))]) (Rc (resVar_cell rfl rfl TA26 TS26 (Nat.le_of_ble_eq_true rfl) rfl) (Rc (resVar_tmp rfl rfl) Rn)) (op_bad (addOk_2 (by rw [en]; exact zn hc2)) hc2 (zE_or _))
    · replace hc2 := bne_eq_false_iff_eq.1 hc2
      have i2 := zE_in.1 hc2
      have i2n := j2 i2
      refine Ks <| Tg <| Sq <| Sq <| Rg <| Vs (Mv rfl) <| Nx <| Cy rfl <| Rg <| Vs (LdS TA24 TS24 rfl) <| Vs (C0 rfl rfl (g69 (z := (r) * (q)) inT)) <| Vs (StS TS24 rfl) <| Nx <| Sq <| Rg <| Vs (LdS TA24 TS24 rfl) <| Vs (LdS TA24 TS24 rfl) <| Vs (C0 rfl rfl (d39 (x := (p) * (s)) (y := -((r) * (q))) inT inT)) <| Vs (Mv rfl) <| Vs (Xt rfl) <| Vs (Xt rfl) <| Vs (Al 44 TZ24 rfl) <| Vs (StS TS24 rfl) <| Vs (As rfl) <| Nx <| Sq <| Sq <| Rg <| Vs (Mv rfl) <| Vs (Bi rfl) <| Nx <| Cd rfl (fun hc3 => ?_) (fun hc3 => ?_)
      · replace hc3 := bne_iff_ne.1 hc3
        exact Sq <| Rg <| Vs (Bd TQ26 rfl) <| Vs (Mv rfl) <| Vs (StS TS26 rfl) <| Vs (As rfl) <| Nx <| Re <| Tr <| Fi (l := [.agg [boolB (false), u32S ([]), boolB (false), u32S ([])], numB .i64 (zE (((p) * (s)) + (-((r) * (q)))))]) (Rc (resVar_cell rfl rfl TA26 TS26 (Nat.le_of_ble_eq_true rfl) rfl) (Rc (resVar_tmp rfl rfl) Rn)) (op_bad (addOk_3 (by rw [en]; exact hc3)) hc3 (zE_or _))
      · replace hc3 := bne_eq_false_iff_eq.1 hc3
        have i3 := zE_in.1 hc3
        refine Ks <| Tg <| Sq <| Rg <| Vs (Fa TF26_1 rfl) <| Vs (LdS TA24 TS24 rfl) <| Vs (Fa TF26_1 rfl) <| Vs (LdS TA24 TS24 rfl) <| Vs (C0 rfl rfl (d30 (x := q) (y := s) inT inT)) <| Vs (Mv rfl) <| Vs (Xt rfl) <| Vs (Xt rfl) <| Vs (Al 57 TZ24 rfl) <| Vs (StS TS24 rfl) <| Vs (As rfl) <| Nx <| Sq <| Sq <| Rg <| Vs (Mv rfl) <| Vs (Bi rfl) <| Nx <| Cd rfl (fun hc4 => ?_) (fun hc4 => ?_)
        · replace hc4 := bne_iff_ne.1 hc4
          exact Sq <| Rg <| Vs (Bd TQ26 rfl) <| Vs (Mv rfl) <| Vs (StS TS26 rfl) <| Vs (As rfl) <| Nx <| Re <| Tr <| Fi (l := [.agg [boolB (false), u32S ([]), boolB (false), u32S ([])], numB .i64 (zE ((q) * (s)))]) (Rc (resVar_cell rfl rfl TA26 TS26 (Nat.le_of_ble_eq_true rfl) rfl) (Rc (resVar_tmp rfl rfl) Rn)) (op_bad (addOk_4 hc4) hc4 (zE_or _))
        · replace hc4 := bne_eq_false_iff_eq.1 hc4
          have i4 := zE_in.1 hc4
          exact Ks <| Tg <| Sq <| Rg <| Vs (LdS TA24 TS24 rfl) <| Vs (LdS TA24 TS24 rfl) <| Vs (C0 rfl rfl (g56 (x := ((p) * (s)) + (-((r) * (q)))) (y := (q) * (s)) inT inT (by first | with_reducible assumption | omega))) <| Vs (StS TS26 rfl) <| Vs (As rfl) <| Nx <| Re <| Fi (l := [.agg [boolB (zN (rdN (((p) * (s)) + (-((r) * (q)))) ((q) * (s)))), u32S (zL (rdN (((p) * (s)) + (-((r) * (q)))) ((q) * (s)))), boolB (zN (rdD (((p) * (s)) + (-((r) * (q)))) ((q) * (s)))), u32S (zL (rdD (((p) * (s)) + (-((r) * (q)))) ((q) * (s))))], numB .i64 (0)]) (Rc (resVar_cell rfl rfl TA26 TS26 (Nat.le_of_ble_eq_true rfl) rfl) (Rc (resVar_tmp rfl rfl) Rn)) (op_good (addOk_of hc1 (by rw [en]; exact zE_in.2 ((in_neg _).trans i2)) (by rw [en]; exact hc3) hc4))
theorem h6i (n : Bool) (A : List Int) (m : Bool) (D : List Int) (n2 : Bool) (A2 : List Int) (m2 : Bool) (D2 : List Int) (hA : A.length ≤ 9223372036854775807) (hD : D.length ≤ 9223372036854775807) (hA2 : A2.length ≤ 9223372036854775807) (hD2 : D2.length ≤ 9223372036854775807) (oA : ok32 A) (oD : ok32 D) (oA2 : ok32 A2) (oD2 : ok32 D2) (h : (vR n A m D && vR n2 A2 m2 D2) = false) : VF Tryz.prog 6 [.agg [boolB (n), u32S (A), boolB (m), u32S (D)], .agg [boolB (n2), u32S (A2), boolB (m2), u32S (D2)]] (rR 0 0 1) := by
  exact VF_of P_mixed Tryz.func6 rfl rfl (by kernel_rfl) <| Sq <| Rg <| Vs (Bx 0 rfl) <| Vs (Bx 1 rfl) <| Vs (Al 2 TZ26 rfl) <| Vs (As rfl) <| Nx <| Sq <| Rg <| Vs (LdS TA26 TS26 rfl) <| Vs (LdS TA26 TS26 rfl) <| Vs (C0 rfl rfl (h24i n A m D n2 A2 m2 D2 hA hD hA2 hD2 oA oD oA2 oD2 false h)) <| Vs (Xt rfl) <| Vs (Xt rfl) <| Vs (StS TS26 rfl) <| Vs (As rfl) <| Nx <| Re <| Fi (l := [.agg [boolB (zN (0)), u32S (zL (0)), boolB (zN (0)), u32S (zL (0))], numB .i64 (1)]) (Rc (resVar_cell rfl rfl TA26 TS26 (Nat.le_of_ble_eq_true rfl) rfl) (Rc (resVar_tmp rfl rfl) Rn)) rfl
theorem h9i (n : Bool) (A : List Int) (m : Bool) (D : List Int) (n2 : Bool) (A2 : List Int) (m2 : Bool) (D2 : List Int) (hA : A.length ≤ 9223372036854775807) (hD : D.length ≤ 9223372036854775807) (hA2 : A2.length ≤ 9223372036854775807) (hD2 : D2.length ≤ 9223372036854775807) (oA : ok32 A) (oD : ok32 D) (oA2 : ok32 A2) (oD2 : ok32 D2) (h : (vR n A m D && vR n2 A2 m2 D2) = false) : VF Tryz.prog 9 [.agg [boolB (n), u32S (A), boolB (m), u32S (D)], .agg [boolB (n2), u32S (A2), boolB (m2), u32S (D2)]] (rR 0 0 1) := by
  exact VF_of P_mixed Tryz.func9 rfl rfl (by kernel_rfl) <| Sq <| Rg <| Vs (Bx 0 rfl) <| Vs (Bx 1 rfl) <| Vs (Al 2 TZ26 rfl) <| Vs (As rfl) <| Nx <| Sq <| Rg <| Vs (LdS TA26 TS26 rfl) <| Vs (LdS TA26 TS26 rfl) <| Vs (C0 rfl rfl (h24i n A m D n2 A2 m2 D2 hA hD hA2 hD2 oA oD oA2 oD2 true h)) <| Vs (Xt rfl) <| Vs (Xt rfl) <| Vs (StS TS26 rfl) <| Vs (As rfl) <| Nx <| Re <| Fi (l := [.agg [boolB (zN (0)), u32S (zL (0)), boolB (zN (0)), u32S (zL (0))], numB .i64 (1)]) (Rc (resVar_cell rfl rfl TA26 TS26 (Nat.le_of_ble_eq_true rfl) rfl) (Rc (resVar_tmp rfl rfl) Rn)) rfl
theorem h6 {p q r s : Int} (ha : okR p q) (hb : okR r s) : VF Tryz.prog 6 [.agg [boolB (zN (p)), u32S (zL (p)), boolB (zN (q)), u32S (zL (q))], .agg [boolB (zN (r)), u32S (zL (r)), boolB (zN (s)), u32S (zL (s))]] (rR (qN (addOk p q r s) (p * s + r * q) (q * s)) (qD (addOk p q r s) (p * s + r * q) (q * s)) (qF (addOk p q r s))) := by
  exact VF_of P_mixed Tryz.func6 rfl rfl (by kernel_rfl) <| Sq <| Rg <| Vs (Bx 0 rfl) <| Vs (Bx 1 rfl) <| Vs (Al 2 TZ26 rfl) <| Vs (As rfl) <| Nx <| Sq <| Rg <| Vs (LdS TA26 TS26 rfl) <| Vs (LdS TA26 TS26 rfl) <| Vs (C0 rfl rfl (h24a ha hb)) <| Vs (Xt rfl) <| Vs (Xt rfl) <| Vs (StS TS26 rfl) <| Vs (As rfl) <| Nx <| Re <| Fi (l := [.agg [boolB (zN (qN (addOk p q r s) (p * s + r * q) (q * s))), u32S (zL (qN (addOk p q r s) (p * s + r * q) (q * s))), boolB (zN (qD (addOk p q r s) (p * s + r * q) (q * s))), u32S (zL (qD (addOk p q r s) (p * s + r * q) (q * s)))], numB .i64 (qF (addOk p q r s))]) (Rc (resVar_cell rfl rfl TA26 TS26 (Nat.le_of_ble_eq_true rfl) rfl) (Rc (resVar_tmp rfl rfl) Rn)) rfl
theorem h9 {p q r s : Int} (ha : okR p q) (hb : okR r s) : VF Tryz.prog 9 [.agg [boolB (zN (p)), u32S (zL (p)), boolB (zN (q)), u32S (zL (q))], .agg [boolB (zN (r)), u32S (zL (r)), boolB (zN (s)), u32S (zL (s))]] (rR (qN (addOk p q (-r) s) (p * s + -(r * q)) (q * s)) (qD (addOk p q (-r) s) (p * s + -(r * q)) (q * s)) (qF (addOk p q (-r) s))) := by
  exact VF_of P_mixed Tryz.func9 rfl rfl (by kernel_rfl) <| Sq <| Rg <| Vs (Bx 0 rfl) <| Vs (Bx 1 rfl) <| Vs (Al 2 TZ26 rfl) <| Vs (As rfl) <| Nx <| Sq <| Rg <| Vs (LdS TA26 TS26 rfl) <| Vs (LdS TA26 TS26 rfl) <| Vs (C0 rfl rfl (h24s ha hb)) <| Vs (Xt rfl) <| Vs (Xt rfl) <| Vs (StS TS26 rfl) <| Vs (As rfl) <| Nx <| Re <| Fi (l := [.agg [boolB (zN (qN (addOk p q (-r) s) (p * s + -(r * q)) (q * s))), u32S (zL (qN (addOk p q (-r) s) (p * s + -(r * q)) (q * s))), boolB (zN (qD (addOk p q (-r) s) (p * s + -(r * q)) (q * s))), u32S (zL (qD (addOk p q (-r) s) (p * s + -(r * q)) (q * s)))], numB .i64 (qF (addOk p q (-r) s))]) (Rc (resVar_cell rfl rfl TA26 TS26 (Nat.le_of_ble_eq_true rfl) rfl) (Rc (resVar_tmp rfl rfl) Rn)) rfl
theorem h11i (n : Bool) (A : List Int) (m : Bool) (D : List Int) (n2 : Bool) (A2 : List Int) (m2 : Bool) (D2 : List Int) (hA : A.length ≤ 9223372036854775807) (hD : D.length ≤ 9223372036854775807) (hA2 : A2.length ≤ 9223372036854775807) (hD2 : D2.length ≤ 9223372036854775807) (oA : ok32 A) (oD : ok32 D) (oA2 : ok32 A2) (oD2 : ok32 D2) (h : (vR n A m D && vR n2 A2 m2 D2) = false) : VF Tryz.prog 11 [.agg [boolB (n), u32S (A), boolB (m), u32S (D)], .agg [boolB (n2), u32S (A2), boolB (m2), u32S (D2)]] (rR 0 0 1) := by
  exact VF_of P_mixed Tryz.func11 rfl rfl (by kernel_rfl) <| Sq <| Rg <| Vs (Bx 0 rfl) <| Vs (Bx 1 rfl) <| Vs (Al 2 TZ26 rfl) <| Vs (As rfl) <| Nx <| Sq <| Sq <| Rg <| Vs (LdS TA26 TS26 rfl) <| Vs (LdS TA26 TS26 rfl) <| Vs (Kb (show (vR n A m D && vR n2 A2 m2 D2) = false from h) (Cf rfl rfl (g66 n A m D n2 A2 m2 D2 hA hD hA2 hD2 oA oD oA2 oD2) rfl)) <| Vs (Un rfl) <| Nx <| Cy rfl <| Sq <| Rg <| Vs (Bd TQ26 rfl) <| Vs (StS TS26 rfl) <| Vs (As rfl) <| Nx <| Re <| Tr <| Fi (l := [.agg [boolB (false), u32S ([]), boolB (false), u32S ([])], numB .i64 (1)]) (Rc (resVar_cell rfl rfl TA26 TS26 (Nat.le_of_ble_eq_true rfl) rfl) (Rc (resVar_tmp rfl rfl) Rn)) (by rw [rR, qB_zero]; rfl)
theorem h13i (n : Bool) (A : List Int) (m : Bool) (D : List Int) (n2 : Bool) (A2 : List Int) (m2 : Bool) (D2 : List Int) (hA : A.length ≤ 9223372036854775807) (hD : D.length ≤ 9223372036854775807) (hA2 : A2.length ≤ 9223372036854775807) (hD2 : D2.length ≤ 9223372036854775807) (oA : ok32 A) (oD : ok32 D) (oA2 : ok32 A2) (oD2 : ok32 D2) (h : (vR n A m D && vR n2 A2 m2 D2) = false) : VF Tryz.prog 13 [.agg [boolB (n), u32S (A), boolB (m), u32S (D)], .agg [boolB (n2), u32S (A2), boolB (m2), u32S (D2)]] (rR 0 0 1) := by
  exact VF_of P_mixed Tryz.func13 rfl rfl (by kernel_rfl) <| Sq <| Rg <| Vs (Bx 0 rfl) <| Vs (Bx 1 rfl) <| Vs (Al 2 TZ26 rfl) <| Vs (As rfl) <| Nx <| Sq <| Sq <| Rg <| Vs (LdS TA26 TS26 rfl) <| Vs (LdS TA26 TS26 rfl) <| Vs (Kb (show (vR n A m D && vR n2 A2 m2 D2) = false from h) (Cf rfl rfl (g66 n A m D n2 A2 m2 D2 hA hD hA2 hD2 oA oD oA2 oD2) rfl)) <| Vs (Un rfl) <| Nx <| Cy rfl <| Sq <| Rg <| Vs (Bd TQ26 rfl) <| Vs (StS TS26 rfl) <| Vs (As rfl) <| Nx <| Re <| Tr <| Fi (l := [.agg [boolB (false), u32S ([]), boolB (false), u32S ([])], numB .i64 (1)]) (Rc (resVar_cell rfl rfl TA26 TS26 (Nat.le_of_ble_eq_true rfl) rfl) (Rc (resVar_tmp rfl rfl) Rn)) (by rw [rR, qB_zero]; rfl)
theorem h11 {p q r s : Int} (ha : okR p q) (hb : okR r s) : VF Tryz.prog 11 [.agg [boolB (zN (p)), u32S (zL (p)), boolB (zN (q)), u32S (zL (q))], .agg [boolB (zN (r)), u32S (zL (r)), boolB (zN (s)), u32S (zL (s))]] (rR (qN (mulOk p q r s) (p * r) (q * s)) (qD (mulOk p q r s) (p * r) (q * s)) (qF (mulOk p q r s))) := by
  obtain ⟨q0, g0, hp, hq⟩ := ha
  obtain ⟨s0, g1, hr, hs⟩ := hb
  have n0 : q * s ≠ 0 := Int.mul_ne_zero (by omega) (by omega)
  refine VF_of P_mixed Tryz.func11 rfl rfl (by kernel_rfl) <| Sq <| Rg <| Vs (Bx 0 rfl) <| Vs (Bx 1 rfl) <| Vs (Al 2 TZ26 rfl) <| Vs (As rfl) <| Nx <| Sq <| Sq <| Rg <| Vs (LdS TA26 TS26 rfl) <| Vs (LdS TA26 TS26 rfl) <| Vs (Cf rfl rfl (g66q ⟨q0, g0, hp, hq⟩ ⟨s0, g1, hr, hs⟩) rfl) <| Vs (Un rfl) <| Nx <| Cz rfl <| Ks <| Tg <| Sq <| Rg <| Vs (Fa TF26_0 rfl) <| Vs (LdS TA24 TS24 rfl) <| Vs (Fa TF26_0 rfl) <| Vs (LdS TA24 TS24 rfl) <| Vs (C0 rfl rfl (d30 (x := p) (y := r) inT inT)) <| Vs (Mv rfl) <| Vs (Xt rfl) <| Vs (Xt rfl) <| Vs (Al 16 TZ24 rfl) <| Vs (StS TS24 rfl) <| Vs (As rfl) <| Nx <| Sq <| Sq <| Rg <| Vs (Mv rfl) <| Vs (Bi rfl) <| Nx <| Cd rfl (fun hc1 => ?_) (fun hc1 => ?_)
  · replace hc1 := bne_iff_ne.1 hc1
    exact Sq <| Rg <| Vs (Bd TQ26 rfl) <| Vs (Mv rfl) <| Vs (StS TS26 rfl) <| Vs (As rfl) <| Nx <| Re <| Tr <| Fi (l := [.agg [boolB (false), u32S ([]), boolB (false), u32S ([])], numB .i64 (zE ((p) * (r)))]) (Rc (resVar_cell rfl rfl TA26 TS26 (Nat.le_of_ble_eq_true rfl) rfl) (Rc (resVar_tmp rfl rfl) Rn)) (op_bad (mulOk_1 hc1) hc1 (zE_or _))
  · replace hc1 := bne_eq_false_iff_eq.1 hc1
    have i1 := zE_in.1 hc1
    refine Ks <| Tg <| Sq <| Rg <| Vs (Fa TF26_1 rfl) <| Vs (LdS TA24 TS24 rfl) <| Vs (Fa TF26_1 rfl) <| Vs (LdS TA24 TS24 rfl) <| Vs (C0 rfl rfl (d30 (x := q) (y := s) inT inT)) <| Vs (Mv rfl) <| Vs (Xt rfl) <| Vs (Xt rfl) <| Vs (Al 29 TZ24 rfl) <| Vs (StS TS24 rfl) <| Vs (As rfl) <| Nx <| Sq <| Sq <| Rg <| Vs (Mv rfl) <| Vs (Bi rfl) <| Nx <| Cd rfl (fun hc2 => ?_) (fun hc2 => ?_)
    · replace hc2 := bne_iff_ne.1 hc2
      exact Sq <| Rg <| Vs (Bd TQ26 rfl) <| Vs (Mv rfl) <| Vs (StS TS26 rfl) <| Vs (As rfl) <| Nx <| Re <| Tr <| Fi (l := [.agg [boolB (false), u32S ([]), boolB (false), u32S ([])], numB .i64 (zE ((q) * (s)))]) (Rc (resVar_cell rfl rfl TA26 TS26 (Nat.le_of_ble_eq_true rfl) rfl) (Rc (resVar_tmp rfl rfl) Rn)) (op_bad (mulOk_2 hc2) hc2 (zE_or _))
    · replace hc2 := bne_eq_false_iff_eq.1 hc2
      have i2 := zE_in.1 hc2
      exact Ks <| Tg <| Sq <| Rg <| Vs (LdS TA24 TS24 rfl) <| Vs (LdS TA24 TS24 rfl) <| Vs (C0 rfl rfl (g56 (x := (p) * (r)) (y := (q) * (s)) inT inT (by first | with_reducible assumption | omega))) <| Vs (StS TS26 rfl) <| Vs (As rfl) <| Nx <| Re <| Fi (l := [.agg [boolB (zN (rdN ((p) * (r)) ((q) * (s)))), u32S (zL (rdN ((p) * (r)) ((q) * (s)))), boolB (zN (rdD ((p) * (r)) ((q) * (s)))), u32S (zL (rdD ((p) * (r)) ((q) * (s))))], numB .i64 (0)]) (Rc (resVar_cell rfl rfl TA26 TS26 (Nat.le_of_ble_eq_true rfl) rfl) (Rc (resVar_tmp rfl rfl) Rn)) (op_good (mulOk_of hc1 hc2))
theorem h13 {p q r s : Int} (ha : okR p q) (hb : okR r s) (h0 : r ≠ 0) : VF Tryz.prog 13 [.agg [boolB (zN (p)), u32S (zL (p)), boolB (zN (q)), u32S (zL (q))], .agg [boolB (zN (r)), u32S (zL (r)), boolB (zN (s)), u32S (zL (s))]] (rR (qN (mulOk p q s r) (p * s) (q * r)) (qD (mulOk p q s r) (p * s) (q * r)) (qF (mulOk p q s r))) := by
  obtain ⟨q0, g0, hp, hq⟩ := ha
  obtain ⟨s0, g1, hr, hs⟩ := hb
  have n0 : q * s ≠ 0 := Int.mul_ne_zero (by omega) (by omega)
  have n1 : q * r ≠ 0 := Int.mul_ne_zero (by omega) h0
  refine VF_of P_mixed Tryz.func13 rfl rfl (by kernel_rfl) <| Sq <| Rg <| Vs (Bx 0 rfl) <| Vs (Bx 1 rfl) <| Vs (Al 2 TZ26 rfl) <| Vs (As rfl) <| Nx <| Sq <| Sq <| Rg <| Vs (LdS TA26 TS26 rfl) <| Vs (LdS TA26 TS26 rfl) <| Vs (Cf rfl rfl (g66q ⟨q0, g0, hp, hq⟩ ⟨s0, g1, hr, hs⟩) rfl) <| Vs (Un rfl) <| Nx <| Cz rfl <| Ks <| Tg <| Sq <| Sq <| Rg <| Vs (Fa TF26_0 rfl) <| Vs (LdS TA24 TS24 rfl) <| Vs (Kb (show decide (r = 0) = false from (decide_eq_false h0)) (Cf rfl rfl (g55 (z := r) inT) rfl)) <| Nx <| Cz rfl <| Ks <| Tg <| Sq <| Rg <| Vs (Fa TF26_0 rfl) <| Vs (LdS TA24 TS24 rfl) <| Vs (Fa TF26_1 rfl) <| Vs (LdS TA24 TS24 rfl) <| Vs (C0 rfl rfl (d30 (x := p) (y := s) inT inT)) <| Vs (Mv rfl) <| Vs (Xt rfl) <| Vs (Xt rfl) <| Vs (Al 19 TZ24 rfl) <| Vs (StS TS24 rfl) <| Vs (As rfl) <| Nx <| Sq <| Sq <| Rg <| Vs (Mv rfl) <| Vs (Bi rfl) <| Nx <| Cd rfl (fun hc1 => ?_) (fun hc1 => ?_)
  · replace hc1 := bne_iff_ne.1 hc1
    exact Sq <| Rg <| Vs (Bd TQ26 rfl) <| Vs (Mv rfl) <| Vs (StS TS26 rfl) <| Vs (As rfl) <| Nx <| Re <| Tr <| Fi (l := [.agg [boolB (false), u32S ([]), boolB (false), u32S ([])], numB .i64 (zE ((p) * (s)))]) (Rc (resVar_cell rfl rfl TA26 TS26 (Nat.le_of_ble_eq_true rfl) rfl) (Rc (resVar_tmp rfl rfl) Rn)) (op_bad (mulOk_1 hc1) hc1 (zE_or _))
  · replace hc1 := bne_eq_false_iff_eq.1 hc1
    have i1 := zE_in.1 hc1
    refine Ks <| Tg <| Sq <| Rg <| Vs (Fa TF26_1 rfl) <| Vs (LdS TA24 TS24 rfl) <| Vs (Fa TF26_0 rfl) <| Vs (LdS TA24 TS24 rfl) <| Vs (C0 rfl rfl (d30 (x := q) (y := r) inT inT)) <| Vs (Mv rfl) <| Vs (Xt rfl) <| Vs (Xt rfl) <| Vs (Al 32 TZ24 rfl) <| Vs (StS TS24 rfl) <| Vs (As rfl) <| Nx <| Sq <| Sq <| Rg <| Vs (Mv rfl) <| Vs (Bi rfl) <| Nx <| Cd rfl (fun hc2 => ?_) (fun hc2 => ?_)
    · replace hc2 := bne_iff_ne.1 hc2
      exact Sq <| Rg <| Vs (Bd TQ26 rfl) <| Vs (Mv rfl) <| Vs (StS TS26 rfl) <| Vs (As rfl) <| Nx <| Re <| Tr <| Fi (l := [.agg [boolB (false), u32S ([]), boolB (false), u32S ([])], numB .i64 (zE ((q) * (r)))]) (Rc (resVar_cell rfl rfl TA26 TS26 (Nat.le_of_ble_eq_true rfl) rfl) (Rc (resVar_tmp rfl rfl) Rn)) (op_bad (mulOk_2 hc2) hc2 (zE_or _))
    · replace hc2 := bne_eq_false_iff_eq.1 hc2
      have i2 := zE_in.1 hc2
      exact Ks <| Tg <| Sq <| Rg <| Vs (LdS TA24 TS24 rfl) <| Vs (LdS TA24 TS24 rfl) <| Vs (C0 rfl rfl (g56 (x := (p) * (s)) (y := (q) * (r)) inT inT (by first | with_reducible assumption | omega))) <| Vs (StS TS26 rfl) <| Vs (As rfl) <| Nx <| Re <| Fi (l := [.agg [boolB (zN (rdN ((p) * (s)) ((q) * (r)))), u32S (zL (rdN ((p) * (s)) ((q) * (r)))), boolB (zN (rdD ((p) * (s)) ((q) * (r)))), u32S (zL (rdD ((p) * (s)) ((q) * (r))))], numB .i64 (0)]) (Rc (resVar_cell rfl rfl TA26 TS26 (Nat.le_of_ble_eq_true rfl) rfl) (Rc (resVar_tmp rfl rfl) Rn)) (op_good (mulOk_of hc1 hc2))
theorem h13z {p q s : Int} (ha : okR p q) (hb : okR 0 s) : VF Tryz.prog 13 [.agg [boolB (zN (p)), u32S (zL (p)), boolB (zN (q)), u32S (zL (q))], .agg [boolB (zN (0)), u32S (zL (0)), boolB (zN (s)), u32S (zL (s))]] (rR 0 0 4) := by
  obtain ⟨q0, g0, hp, hq⟩ := ha
  obtain ⟨s0, g1, hr, hs⟩ := hb
  exact VF_of P_mixed Tryz.func13 rfl rfl (by kernel_rfl) <| Sq <| Rg <| Vs (Bx 0 rfl) <| Vs (Bx 1 rfl) <| Vs (Al 2 TZ26 rfl) <| Vs (As rfl) <| Nx <| Sq <| Sq <| Rg <| Vs (LdS TA26 TS26 rfl) <| Vs (LdS TA26 TS26 rfl) <| Vs (Cf rfl rfl (g66q ⟨q0, g0, hp, hq⟩ ⟨s0, g1, hr, hs⟩) rfl) <| Vs (Un rfl) <| Nx <| Cz rfl <| Ks <| Tg <| Sq <| Sq <| Rg <| Vs (Fa TF26_0 rfl) <| Vs (LdS TA24 TS24 rfl) <| Vs (Kb (show decide (0 = 0) = true from (decide_eq_true rfl)) (Cf rfl rfl (g55 (z := 0) inT) rfl)) <| Nx <| Cy rfl <| Sq <| Rg <| Vs (Bd TQ26 rfl) <| Vs (StS TS26 rfl) <| Vs (As rfl) <| Nx <| Re <| Tr <| Fi (l := [.agg [boolB (false), u32S ([]), boolB (false), u32S ([])], numB .i64 (4)]) (Rc (resVar_cell rfl rfl TA26 TS26 (Nat.le_of_ble_eq_true rfl) rfl) (Rc (resVar_tmp rfl rfl) Rn)) (by rw [rR, qB_zero]; rfl)
end Go.VL

/- Walks over the Go functions, printed by a program of this session over the kit's print, and by hand. -/
set_option linter.unusedVariables false
set_option linter.unusedSimpArgs false
set_option maxRecDepth 100000
namespace Go.VL
open Go.Proofs
theorem h3w {n : Bool} {A : List Int} {m : Bool} {D : List Int} {n2 : Bool} {A2 : List Int} {m2 : Bool} {D2 : List Int} {p q e p2 q2 e2 p3 q3 e3 p4 q4 e4 : Int} (i : inB p = true ∧ inB q = true) (i2 : inB p2 = true ∧ inB q2 = true) (i3 : inB p3 = true ∧ inB q3 = true) (i4 : inB p4 = true ∧ inB q4 = true) (h5 : VF Tryz.prog 5 [ratB n A m D, ratB n2 A2 m2 D2] (rR p q e)) (h6 : VF Tryz.prog 6 [ratB n A m D, ratB n2 A2 m2 D2] (rR p q e)) (h8 : VF Tryz.prog 8 [ratB n A m D, ratB n2 A2 m2 D2] (rR p2 q2 e2)) (h9 : VF Tryz.prog 9 [ratB n A m D, ratB n2 A2 m2 D2] (rR p2 q2 e2)) (h10 : VF Tryz.prog 10 [ratB n A m D, ratB n2 A2 m2 D2] (rR p3 q3 e3)) (h11 : VF Tryz.prog 11 [ratB n A m D, ratB n2 A2 m2 D2] (rR p3 q3 e3)) (h12 : VF Tryz.prog 12 [ratB n A m D, ratB n2 A2 m2 D2] (rR p4 q4 e4)) (h13 : VF Tryz.prog 13 [ratB n A m D, ratB n2 A2 m2 D2] (rR p4 q4 e4)) : VF Tryz.prog 3 [.agg [boolB (n), u32S (A), boolB (m), u32S (D)], .agg [boolB (n2), u32S (A2), boolB (m2), u32S (D2)]] (boolB true) := by
  obtain ⟨a, b⟩ := i
  obtain ⟨a2, b2⟩ := i2
  obtain ⟨a3, b3⟩ := i3
  obtain ⟨a4, b4⟩ := i4
  exact VF_of P_mixed Tryz.func3 rfl rfl (by kernel_rfl) <| Sq <| Rg <| Vs (Bx 0 rfl) <| Vs (Bx 1 rfl) <| Vs (As rfl) <| Nx <| Sq <| Rg <| Vs (Cf rfl rfl (g15) rfl) <| Vs (As rfl) <| Nx <| Sq <| Rg <| Vs (LdS TA26 TS26 rfl) <| Vs (LdS TA26 TS26 rfl) <| Vs (C0 rfl rfl (h5)) <| Vs (Mv rfl) <| Vs (Xt rfl) <| Vs (Xt rfl) <| Vs (Al 11 TZ26 rfl) <| Vs (StS TS26 rfl) <| Vs (As rfl) <| Nx <| Sq <| Rg <| Vs (LdS TA26 TS26 rfl) <| Vs (LdS TA26 TS26 rfl) <| Vs (C0 rfl rfl (h6)) <| Vs (Mv rfl) <| Vs (Xt rfl) <| Vs (Xt rfl) <| Vs (Al 20 TZ26 rfl) <| Vs (StS TS26 rfl) <| Vs (As rfl) <| Nx <| Sq <| Sq <| Rg <| Vs (Mv rfl) <| Vs (Mv rfl) <| Vs (Kb (show (e != e) = false from (bne_self_eq_false _)) (Bi rfl)) <| Vs (Mv rfl) <| Vs (LdS TA26 TS26 rfl) <| Vs (LdS TA26 TS26 rfl) <| Vs (Cf rfl rfl (g22t (p := p) (q := q) inT inT) rfl) <| Vs (Un rfl) <| Vs (Pk rfl) <| Nx <| Cz rfl <| Ks <| Tg <| Sq <| Rg <| Vs (LdS TA26 TS26 rfl) <| Vs (LdS TA26 TS26 rfl) <| Vs (C0 rfl rfl (h8)) <| Vs (Mv rfl) <| Vs (Xt rfl) <| Vs (Xt rfl) <| Vs (StS TS26 rfl) <| Vs (As rfl) <| Nx <| Sq <| Rg <| Vs (LdS TA26 TS26 rfl) <| Vs (LdS TA26 TS26 rfl) <| Vs (C0 rfl rfl (h9)) <| Vs (Mv rfl) <| Vs (Xt rfl) <| Vs (Xt rfl) <| Vs (StS TS26 rfl) <| Vs (As rfl) <| Nx <| Sq <| Sq <| Rg <| Vs (Mv rfl) <| Vs (Mv rfl) <| Vs (Kb (show (e2 != e2) = false from (bne_self_eq_false _)) (Bi rfl)) <| Vs (Mv rfl) <| Vs (LdS TA26 TS26 rfl) <| Vs (LdS TA26 TS26 rfl) <| Vs (Cf rfl rfl (g22t (p := p2) (q := q2) inT inT) rfl) <| Vs (Un rfl) <| Vs (Pk rfl) <| Nx <| Cz rfl <| Ks <| Tg <| Sq <| Rg <| Vs (LdS TA26 TS26 rfl) <| Vs (LdS TA26 TS26 rfl) <| Vs (C0 rfl rfl (h10)) <| Vs (Mv rfl) <| Vs (Xt rfl) <| Vs (Xt rfl) <| Vs (StS TS26 rfl) <| Vs (As rfl) <| Nx <| Sq <| Rg <| Vs (LdS TA26 TS26 rfl) <| Vs (LdS TA26 TS26 rfl) <| Vs (C0 rfl rfl (h11)) <| Vs (Mv rfl) <| Vs (Xt rfl) <| Vs (Xt rfl) <| Vs (StS TS26 rfl) <| Vs (As rfl) <| Nx <| Sq <| Sq <| Rg <| Vs (Mv rfl) <| Vs (Mv rfl) <| Vs (Kb (show (e3 != e3) = false from (bne_self_eq_false _)) (Bi rfl)) <| Vs (Mv rfl) <| Vs (LdS TA26 TS26 rfl) <| Vs (LdS TA26 TS26 rfl) <| Vs (Cf rfl rfl (g22t (p := p3) (q := q3) inT inT) rfl) <| Vs (Un rfl) <| Vs (Pk rfl) <| Nx <| Cz rfl <| Ks <| Tg <| Sq <| Rg <| Vs (LdS TA26 TS26 rfl) <| Vs (LdS TA26 TS26 rfl) <| Vs (C0 rfl rfl (h12)) <| Vs (Mv rfl) <| Vs (Xt rfl) <| Vs (Xt rfl) <| Vs (StS TS26 rfl) <| Vs (As rfl) <| Nx <| Sq <| Rg <| Vs (LdS TA26 TS26 rfl) <| Vs (LdS TA26 TS26 rfl) <| Vs (C0 rfl rfl (h13)) <| Vs (Mv rfl) <| Vs (Xt rfl) <| Vs (Xt rfl) <| Vs (StS TS26 rfl) <| Vs (As rfl) <| Nx <| Sq <| Rg <| Vs (Mv rfl) <| Vs (Mv rfl) <| Vs (Mv rfl) <| Vs (Mv rfl) <| Vs (Kb (show (e4 == e4) = true from (decide_eq_true rfl)) (Bi rfl)) <| Vs (Pk rfl) <| Vs (Mv rfl) <| Vs (LdS TA26 TS26 rfl) <| Vs (LdS TA26 TS26 rfl) <| Vs (Cf rfl rfl (g22t (p := p4) (q := q4) inT inT) rfl) <| Vs (Pk rfl) <| Vs (As rfl) <| Nx <| Re <| Fi (l := [boolB (true)]) (Rc (resVar_tmp rfl rfl) Rn) rfl
theorem h3 (n : Bool) (A : List Int) (m : Bool) (D : List Int) (n2 : Bool) (A2 : List Int) (m2 : Bool) (D2 : List Int) (hA : A.length ≤ 9223372036854775807) (hD : D.length ≤ 9223372036854775807) (hA2 : A2.length ≤ 9223372036854775807) (hD2 : D2.length ≤ 9223372036854775807) (oA : ok32 A) (oD : ok32 D) (oA2 : ok32 A2) (oD2 : ok32 D2) : VF Tryz.prog 3 [ratB n A m D, ratB n2 A2 m2 D2] (boolB true) := by
  cases h : (vR n A m D && vR n2 A2 m2 D2) with
  | false =>
    have z : inB 0 = true ∧ inB 0 = true := ⟨in_zero, in_zero⟩
    exact h3w z z z z (g39i n A m D n2 A2 m2 D2 hA hD hA2 hD2 oA oD oA2 oD2 h) (h6i n A m D n2 A2 m2 D2 hA hD hA2 hD2 oA oD oA2 oD2 h) (g44i n A m D n2 A2 m2 D2 hA hD hA2 hD2 oA oD oA2 oD2 h) (h9i n A m D n2 A2 m2 D2 hA hD hA2 hD2 oA oD oA2 oD2 h) (g40i n A m D n2 A2 m2 D2 hA hD hA2 hD2 oA oD oA2 oD2 h) (h11i n A m D n2 A2 m2 D2 hA hD hA2 hD2 oA oD oA2 oD2 h) (g46i n A m D n2 A2 m2 D2 hA hD hA2 hD2 oA oD oA2 oD2 h) (h13i n A m D n2 A2 m2 D2 hA hD hA2 hD2 oA oD oA2 oD2 h)
  | true =>
    rw [Bool.and_eq_true] at h
    obtain ⟨p, q, e1, e2, e3, e4, ok⟩ := as_q oA oD h.1
    obtain ⟨r, s, e5, e6, e7, e8, ok2⟩ := as_q oA2 oD2 h.2
    rw [e1, e2, e3, e4, e5, e6, e7, e8]
    have h9 := h9 ok ok2
    rw [← sub_add, ← Int.sub_eq_add_neg] at h9
    have j1 := q_in (addOk_in (p := p) (q := q) (r := r) (s := s))
    have j2 := q_in (subOk_in (p := p) (q := q) (r := r) (s := s))
    have j3 := q_in (mulOk_in (p := p) (q := q) (r := r) (s := s))
    have j4 := q_in (mulOk_in (p := p) (q := q) (r := s) (s := r))
    by_cases h0 : r = 0
    · subst h0
      exact h3w j1 j2 j3 ⟨in_zero, in_zero⟩ (g39 ok ok2) (h6 ok ok2) (g44 ok ok2) h9 (g40 ok ok2) (h11 ok ok2) (g46z ok ok2) (h13z ok ok2)
    · exact h3w j1 j2 j3 j4 (g39 ok ok2) (h6 ok ok2) (g44 ok ok2) h9 (g40 ok ok2) (h11 ok ok2) (g46 ok ok2 h0) (h13 ok ok2 h0)
end Go.VL

/- Facts of the program's head that the rows ask for. -/
set_option linter.unusedVariables false
set_option maxRecDepth 100000
namespace Go.Proofs.YtnabpemjcidhdaaGreat
theorem init_lit : "harness e01f2dd8dad73cfe4db4618ebe1edd2542e503bc5d7bac161e36f1f2584cee38 cut at straightedge/straightedgelaw02.RationalMatchesArithmetic" = String.ofList ([Char.ofNat 104, Char.ofNat 97, Char.ofNat 114, Char.ofNat 110, Char.ofNat 101, Char.ofNat 115, Char.ofNat 115, Char.ofNat 32, Char.ofNat 101, Char.ofNat 48, Char.ofNat 49, Char.ofNat 102, Char.ofNat 50, Char.ofNat 100, Char.ofNat 100, Char.ofNat 56, Char.ofNat 100, Char.ofNat 97, Char.ofNat 100, Char.ofNat 55, Char.ofNat 51, Char.ofNat 99, Char.ofNat 102, Char.ofNat 101, Char.ofNat 52, Char.ofNat 100, Char.ofNat 98, Char.ofNat 52, Char.ofNat 54, Char.ofNat 49, Char.ofNat 56, Char.ofNat 101, Char.ofNat 98, Char.ofNat 101, Char.ofNat 49, Char.ofNat 101, Char.ofNat 100, Char.ofNat 100, Char.ofNat 50, Char.ofNat 53, Char.ofNat 52, Char.ofNat 50, Char.ofNat 101, Char.ofNat 53, Char.ofNat 48, Char.ofNat 51, Char.ofNat 98, Char.ofNat 99, Char.ofNat 53, Char.ofNat 100, Char.ofNat 55, Char.ofNat 98, Char.ofNat 97, Char.ofNat 99, Char.ofNat 49, Char.ofNat 54, Char.ofNat 49, Char.ofNat 101, Char.ofNat 51, Char.ofNat 54, Char.ofNat 102, Char.ofNat 49, Char.ofNat 102, Char.ofNat 50, Char.ofNat 53, Char.ofNat 56, Char.ofNat 52, Char.ofNat 99, Char.ofNat 101, Char.ofNat 101, Char.ofNat 51, Char.ofNat 56, Char.ofNat 32, Char.ofNat 99, Char.ofNat 117, Char.ofNat 116] ++ Char.ofNat 32 :: [Char.ofNat 97, Char.ofNat 116, Char.ofNat 32, Char.ofNat 115, Char.ofNat 116, Char.ofNat 114, Char.ofNat 97, Char.ofNat 105, Char.ofNat 103, Char.ofNat 104, Char.ofNat 116, Char.ofNat 101, Char.ofNat 100, Char.ofNat 103, Char.ofNat 101, Char.ofNat 47, Char.ofNat 115, Char.ofNat 116, Char.ofNat 114, Char.ofNat 97, Char.ofNat 105, Char.ofNat 103, Char.ofNat 104, Char.ofNat 116, Char.ofNat 101, Char.ofNat 100, Char.ofNat 103, Char.ofNat 101, Char.ofNat 108, Char.ofNat 97, Char.ofNat 119, Char.ofNat 48, Char.ofNat 50, Char.ofNat 46, Char.ofNat 82, Char.ofNat 97, Char.ofNat 116, Char.ofNat 105, Char.ofNat 111, Char.ofNat 110, Char.ofNat 97, Char.ofNat 108, Char.ofNat 77, Char.ofNat 97, Char.ofNat 116, Char.ofNat 99, Char.ofNat 104, Char.ofNat 101, Char.ofNat 115, Char.ofNat 65, Char.ofNat 114, Char.ofNat 105, Char.ofNat 116, Char.ofNat 104, Char.ofNat 109, Char.ofNat 101, Char.ofNat 116, Char.ofNat 105, Char.ofNat 99]) := rfl
theorem init_gen (X : List Char) : behindMainWord (wordsSigns ([Char.ofNat 104, Char.ofNat 97, Char.ofNat 114, Char.ofNat 110, Char.ofNat 101, Char.ofNat 115, Char.ofNat 115, Char.ofNat 32, Char.ofNat 101, Char.ofNat 48, Char.ofNat 49, Char.ofNat 102, Char.ofNat 50, Char.ofNat 100, Char.ofNat 100, Char.ofNat 56, Char.ofNat 100, Char.ofNat 97, Char.ofNat 100, Char.ofNat 55, Char.ofNat 51, Char.ofNat 99, Char.ofNat 102, Char.ofNat 101, Char.ofNat 52, Char.ofNat 100, Char.ofNat 98, Char.ofNat 52, Char.ofNat 54, Char.ofNat 49, Char.ofNat 56, Char.ofNat 101, Char.ofNat 98, Char.ofNat 101, Char.ofNat 49, Char.ofNat 101, Char.ofNat 100, Char.ofNat 100, Char.ofNat 50, Char.ofNat 53, Char.ofNat 52, Char.ofNat 50, Char.ofNat 101, Char.ofNat 53, Char.ofNat 48, Char.ofNat 51, Char.ofNat 98, Char.ofNat 99, Char.ofNat 53, Char.ofNat 100, Char.ofNat 55, Char.ofNat 98, Char.ofNat 97, Char.ofNat 99, Char.ofNat 49, Char.ofNat 54, Char.ofNat 49, Char.ofNat 101, Char.ofNat 51, Char.ofNat 54, Char.ofNat 102, Char.ofNat 49, Char.ofNat 102, Char.ofNat 50, Char.ofNat 53, Char.ofNat 56, Char.ofNat 52, Char.ofNat 99, Char.ofNat 101, Char.ofNat 101, Char.ofNat 51, Char.ofNat 56, Char.ofNat 32, Char.ofNat 99, Char.ofNat 117, Char.ofNat 116] ++ Char.ofNat 32 :: X)) = [Char.ofNat 99, Char.ofNat 117, Char.ofNat 116] :: wordsSigns X := by rfl
theorem init_words : ∃ R, behindMainWord (wordsSigns Tryz.pinned.checked.prog.initOrder.toList) = [Char.ofNat 99, Char.ofNat 117, Char.ofNat 116] :: R :=
  ⟨_, (congrArg (fun l => behindMainWord (wordsSigns l)) ((congrArg String.toList init_lit).trans String.toList_ofList)).trans (init_gen _)⟩
theorem strip (R : List (List Char)) : stripLifts liftWords ([Char.ofNat 99, Char.ofNat 117, Char.ofNat 116] :: R) = ([], [Char.ofNat 99, Char.ofNat 117, Char.ofNat 116] :: R) := by rfl
theorem may_gen (P : Program) (R : List (List Char)) (h : behindMainWord (wordsSigns P.initOrder.toList) = [Char.ofNat 99, Char.ofNat 117, Char.ofNat 116] :: R) (h1 : P.laysLater = false) (h2 : P.bearsReflect = false) (h3 : P.doorFits [] = true) : P.mayEnter = true := by
  unfold Program.mayEnter
  rw [h]
  simp only [strip]
  rw [h1, h2, h3]
  rfl
theorem lifts_gen (P : Program) (R : List (List Char)) (h : behindMainWord (wordsSigns P.initOrder.toList) = [Char.ofNat 99, Char.ofNat 117, Char.ofNat 116] :: R) : P.liftsFinal = false := by
  unfold Program.liftsFinal Program.headLifts
  rw [h]
  simp only [strip]
  rfl
theorem make_gen (P : Program) (R : List (List Char)) (h : behindMainWord (wordsSigns P.initOrder.toList) = [Char.ofNat 99, Char.ofNat 117, Char.ofNat 116] :: R) : P.make = some .cut := by
  unfold Program.make
  rw [h]
  rfl
theorem head_may : Tryz.pinned.checked.prog.mayEnter = true := by
  obtain ⟨R, h⟩ := init_words
  exact may_gen _ R h (by kernel_rfl) (by kernel_rfl) (by kernel_rfl)
theorem head_lifts : Tryz.pinned.checked.prog.liftsFinal = false := by
  obtain ⟨R, h⟩ := init_words
  exact lifts_gen _ R h
theorem head_make : Tryz.pinned.checked.prog.make = some .cut := by
  obtain ⟨R, h⟩ := init_words
  exact make_gen _ R h
end Go.Proofs.YtnabpemjcidhdaaGreat
