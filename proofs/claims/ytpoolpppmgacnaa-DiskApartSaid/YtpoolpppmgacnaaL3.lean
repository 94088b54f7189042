/- DiskApart returns true for every input and leaves the input as it was. No condition. -/
import Derived.Test.YtpoolpppmgacnaaK2
/- A plain model of a disk: one disk of a sector, written and read. -/
set_option linter.unusedVariables false
set_option linter.unusedSimpArgs false
namespace Go.VL
def apD (b : List Int) : Dk := ⟨List.replicate 64 0, [(0, b)], -1, false⟩
theorem ap_ok {b : List Int} (hb : b.length = 64) : (apD b).Ok 64 1 :=
  ⟨by simp [apD], by decide, by decide, by decide, by simp [apD], by simp [apD], fun w hw => by simp only [apD, List.mem_singleton] at hw; subst hw; simp [hb]⟩
theorem ap_w {b : List Int} (hb : b.length = 64) : (newD 1).writeR 64 0 b = (apD b, 0) := by
  have h1 : hasS 64 0 = true := by decide
  have h2 : (newD 1).out = false := by decide
  have h3 : (newD 1).burn = newD 1 := rfl
  rw [Dk.writeR, if_neg (by decide), if_neg (by simp [h1, hb]), h2, h3]
  rfl
theorem ap_s {b : List Int} (hb : b.length = 64) : rdS (apD b) 0 = b := by
  show cpw (cpw (List.replicate 64 0) 0 64 (sec (List.replicate 64 0) 0)) 0 64 b = b
  exact cpw_all (by rw [cpw_len (by simp)]; simp) hb
theorem ap_r {b : List Int} (hb : b.length = 64) : (apD b).readR 64 0 = (apD b, b, 0) := by
  have h1 : hasS 64 0 = true := by decide
  have h2 : (apD b).out = false := rfl
  have h3 : (apD b).burn = apD b := rfl
  rw [Dk.readR, if_neg (by simp [apD]), if_neg (by simp [h1]), if_neg (by simp [h2]), h3, ap_s hb]
theorem new_r : (newD 1).readR 64 0 = (newD 1, List.replicate 64 0, 0) := rfl
theorem new1_ok : (newD 1).Ok 64 0 := newD_ok (z := 1) (by decide) (by decide)
end Go.VL

/- Walks over the Go functions, printed by a program of this session over the kit's print, and by hand. -/
set_option linter.unusedVariables false
set_option linter.unusedSimpArgs false
set_option maxRecDepth 100000
namespace Go.VL
open Go.Proofs
theorem k19n (f : Int) (hf : 0 ≤ f ∧ f < 256) : VG Try.prog 19 [.b (.agg [numB .i64 (0), numB .i64 (0), numB .u8 (f), numB .i64 (64), numB .i64 (0), slK .i64 ([])])] [] (.own 0 64) [some (rowK .u8 (bytL f 64))] := by
  obtain ⟨hf1, hf2⟩ := hf
  refine VGp_of P_mixed Try.func19 rfl rfl (by kernel_rfl) (by simp) rfl <| Sq <| Rg <| Vs (Bx 0 rfl) <| Vs (As rfl) <| Nx <| Sq <| Rg <| Vs (An rfl) <| Nx <| Sq <| Sq <| Rg <| Vs (As rfl) <| Nx <| Bk <| VCode.loop (α := ((Unit)) ⊕ ((Nat) × (List Int))) (fun x_ => match x_ with | .inl (u) => (1, sl [(1, .ptr 0 (0)), (3, .b .nil), (4, vI .i64 (0))], en [(0, ⟨6, [vI .i64 (0), vI .i64 (0), vI .u8 (f), vI .i64 (64), vI .i64 (0), .b (slK .i64 ([]))], true⟩)]) | .inr (i, O) => (10, sl [(1, .ptr 0 (0)), (3, .own 9 (i)), (4, vI .i64 ((i : Int)))], en [(0, ⟨6, [vI .i64 (0), vI .i64 (0), vI .u8 (f), vI .i64 (64), vI .i64 (0), .b (slK .i64 ([]))], true⟩), (9, rowK .u8 (O))])) (fun x_ => match x_ with | .inl (u) => True | .inr (i, O) => 1 ≤ i ∧ i ≤ 100 ∧ (i : Int) < 64 + 1 ∧ O = bytL f i) (fun x_ => match x_ with | .inl (u) => 200 | .inr (i, O) => 100 - i) (.inl (())) trivial Wk ?_
  rintro (u | ⟨i, O⟩) hok2
  · change VCode _ _ _ 1 (sl _) (en _) _
    exact Sq <| Sq <| Rg <| Vs (Mv rfl) <| Vs (Fa TF31_3 rfl) <| Vs (Ld TA3 rfl) <| Vs (Bi (c := .bool true) rfl) <| Vs (Mv rfl) <| Vs (Mv rfl) <| Vs (Bi (c := .bool true) rfl) <| Vs (Pk rfl) <| Nx <| Cy rfl <| Ks <| Tg <| Sq <| Bk <| Rg <| Vs (Mv rfl) <| Vs (Fa TF31_2 rfl) <| Vs (Ld TA5 rfl) <| Vs (Mv rfl) <| Vs (Cv TU3 TU5 rfl (wrapM_u8 _)) <| Vs (Bo (c := .int .u8 (((f + ((0) % 256)) % 256))) rfl (bop_add8)) <| Vs (L1s 15 TK27 rfl) <| Vs (Apn 16 TK27 rfl (Rr rfl) (hm := (by simp only [maxLen, List.length_singleton]; omega))) <| Vs (As rfl) <| VList.nil <| Ig <| Tg <| Rg <| Vs (Mv rfl) <| Vs (Bo rfl adI) <| Vs (As rfl) <| VList.nil <| Go (.inr (1, [(f + 0 % 256) % 256])) (by exact ⟨by decide, by omega, by omega, rfl⟩) (Wr [(9, 16)])
  · change VCode _ _ _ 10 (sl _) (en _) _
    obtain ⟨g1, g2, g3, g4⟩ := hok2
    have gl : O.length = i := by rw [g4]; exact bytL_len _ _
    refine Sq <| Sq <| Rg <| Vs (Mv rfl) <| Vs (Fa TF31_3 rfl) <| Vs (Ld TA3 rfl) <| Vs (Bi rfl) <| Vs (Mv rfl) <| Sp 9 rfl (fun hc1 => ?_) (fun hc1 => ?_)
    · replace hc1 := of_decide_eq_true hc1
      refine Vs (Mv rfl) <| Vs (Bi rfl) <| Vs (Pk rfl) <| Nx <| Cd rfl (fun hc2 => ?_) (fun hc2 => ?_)
      · replace hc2 := of_decide_eq_true hc2
        exact Ks <| Tg <| Sq <| Bk <| Rg <| Vs (Mv rfl) <| Vs (Fa TF31_2 rfl) <| Vs (Ld TA5 rfl) <| Vs (Mv rfl) <| Vs (Cv TU3 TU5 rfl (wrapM_u8 _)) <| Vs (Bo (c := .int .u8 (((f + (((i : Int)) % 256)) % 256))) rfl (bop_add8)) <| Vs (L1s 24 TK27 rfl) <| Vs (Ap 25 TK27 rfl (Rr rfl) (hm := (by simp only [maxLen, List.length_singleton]; omega))) <| Vs (As rfl) <| VList.nil <| Ig <| Tg <| Rg <| Vs (Mv rfl) <| Vs (Bo rfl adI) <| Vs (As rfl) <| VList.nil <| Go (.inr (i + 1, (O) ++ ([((f + (((i : Int)) % 256)) % 256)]))) (by exact ⟨by omega, by omega, by omega, by rw [g4]; rfl⟩) (Wr [(9, 25)])
      · replace hc2 := of_decide_eq_false hc2
        exact Ke <| Te <| Oe <| Ih <| Tg <| Sq <| Rg <| Vs (Mv rfl) <| Vs (As rfl) <| Nx <| Re <| Gg (L1' := [some (rowK .u8 (O))]) [9] (.name _ _ (.own 0 (i)) _ _ rfl rfl rfl .nil) (.one _) (by rw [show i = 64 by omega]) (by rw [g4, show i = 64 by omega])
    · replace hc1 := of_decide_eq_false hc1
      exact Sk rfl <| Sk rfl <| Vs (Pk rfl) <| Nx <| Cz rfl <| Ke <| Te <| Oe <| Ih <| Tg <| Sq <| Rg <| Vs (Mv rfl) <| Vs (As rfl) <| Nx <| Re <| Gg (L1' := [some (rowK .u8 (O))]) [9] (.name _ _ (.own 0 (i)) _ _ rfl rfl rfl .nil) (.one _) (by rw [show i = 64 by omega]) (by rw [g4, show i = 64 by omega])
theorem k20n {n m : Nat} {d : Dk} (hd : d.Ok n m) (hm : m ≤ 100000) (s : Int) {b : List Int} (hb : b.length ≤ 100000) : VG Try.prog 20 [.ptr 0 (0), vI .i64 (s), .own 2 (b.length)] [⟨4, [.own 1 (n), .b (slT 2 penB (d.pen)), vI .i64 (d.fuse), vB (d.off)], true⟩, rowK .u8 (d.dur), rowK .u8 (b)] (vI .i64 (d.writeR n s b).2) [some (⟨4, [.own 1 (n), .b (slT 2 penB (((d.writeR n s b).1).pen)), vI .i64 (((d.writeR n s b).1).fuse), vB (((d.writeR n s b).1).off)], true⟩), some (rowK .u8 (((d.writeR n s b).1).dur)), some (rowK .u8 (b))] := by
  have hlen := hd.len
  have hlo := hd.lo
  have hhi := hd.hi
  have hwh := hd.whole
  have hpl := hd.pen
  obtain ⟨hf1, hf2⟩ := hd.fu
  have hbl := hd.burn.len
  have hbp := hd.burn.pen
  refine VGp_of P_mixed Try.func20 rfl rfl (by kernel_rfl) (by simp) rfl <| Sq <| Rg <| Vs (As rfl) <| Nx <| Sq <| Bk <| Sq <| Rg <| Vs (Mv rfl) <| Vs (Pe TU22 rfl) <| Vs (As rfl) <| Nx <| Cz rfl <| Sq <| Rg <| Vs (Mv rfl) <| Vs (Nk rfl) <| Vs (Fa TF88_3 rfl) <| Vs (Ld TA4 rfl) <| Vs (As rfl) <| Nx <| Cd rfl (fun hc1 => ?_) (fun hc1 => ?_)
  · replace hc1 := hc1
    have e : d.writeR n s b = (d, 290) := by simp [Dk.writeR, hc1]
    exact Sq <| Rg <| Vs (As rfl) <| Nx <| Re <| Iq <| Tr <| Gg (L1' := [some (⟨4, [.own 1 (n), .b (slT 2 penB (d.pen)), vI .i64 (d.fuse), vB (d.off)], true⟩), some (rowK .u8 (d.dur)), some (rowK .u8 (b))]) [0, 1, 2] (.val _ _ _ _ _ rfl rfl rfl .nil) (.one _) (by rw [e]) (by rw [e])
  · replace hc1 := hc1
    refine Sq <| Rg <| Vs (Mv rfl) <| Vs (Mv rfl) <| Gm 14 [0, 1] [] (v := vB ((hasS n s))) [(0, ⟨4, [.own 1 (n), .b (slT 2 penB (d.pen)), vI .i64 (d.fuse), vB (d.off)], true⟩), (1, rowK .u8 (d.dur)), (2, rowK .u8 (b))] rfl (k55 hd hm s) rfl <| Vs (Un rfl) <| Vs (Mv rfl) <| Sp 22 rfl (fun hc2 => ?_) (fun hc2 => ?_)
    · replace hc2 := (bnot_t hc2)
      have e : d.writeR n s b = (d, 1) := by simp [Dk.writeR, hc1, hc2]
      exact Sk rfl <| Sk rfl <| Sk rfl <| Vs (Pk rfl) <| Vs (As rfl) <| Nx <| Cy rfl <| Sq <| Rg <| Vs (As rfl) <| Nx <| Re <| Iq <| Tr <| Gg (L1' := [some (⟨4, [.own 1 (n), .b (slT 2 penB (d.pen)), vI .i64 (d.fuse), vB (d.off)], true⟩), some (rowK .u8 (d.dur)), some (rowK .u8 (b))]) [0, 1, 2] (.val _ _ _ _ _ rfl rfl rfl .nil) (.one _) (by rw [e]) (by rw [e])
    · replace hc2 := (bnot_f hc2)
      refine Vs (Mv rfl) <| Vs (Lo TU27 rfl) <| Vs (Bi rfl) <| Vs (Pk rfl) <| Vs (As rfl) <| Nx <| Cd rfl (fun hc3 => ?_) (fun hc3 => ?_)
      · replace hc3 := bne_iff_ne.1 hc3
        have hbl64 : b.length ≠ 64 := by omega
        have e : d.writeR n s b = (d, 1) := by simp [Dk.writeR, hc1, hbl64]
        exact Sq <| Rg <| Vs (As rfl) <| Nx <| Re <| Iq <| Tr <| Gg (L1' := [some (⟨4, [.own 1 (n), .b (slT 2 penB (d.pen)), vI .i64 (d.fuse), vB (d.off)], true⟩), some (rowK .u8 (d.dur)), some (rowK .u8 (b))]) [0, 1, 2] (.val _ _ _ _ _ rfl rfl rfl .nil) (.one _) (by rw [e]) (by rw [e])
      · replace hc3 := bne_eq_false_iff_eq.1 hc3
        have hbl64 : b.length = 64 := by omega
        have e : d.writeR n s b = ({ d.burn with pen := d.pen ++ [(s, b)] }, if d.out = true then 290 else 0) := by simp [Dk.writeR, hc1, hc2, hbl64]
        have eb := cpw_rep b
        refine Ks <| Ig <| Tg <| Sq <| Rg <| Vs (Mv rfl) <| Gm 23 [0, 1] [] (v := vB (d.out)) [(0, ⟨4, [.own 1 (n), .b (slT 2 penB ((d.burn).pen)), vI .i64 ((d.burn).fuse), vB ((d.burn).off)], true⟩), (1, rowK .u8 ((d.burn).dur)), (2, rowK .u8 (b))] rfl (k56 hd hm) rfl <| Vs (As rfl) <| Nx <| Sq <| Rg <| Vs (Mv rfl) <| Vs (Lo TU27 rfl) <| Vs (Mk 27 TK27 rfl) <| Vs (As rfl) <| Nx <| Sq <| Rg <| Vs (Mv rfl) <| Vs (Mv rfl) <| Vs (Cp3 TK27 rfl (Rr rfl)) <| VList.nil <| Cx (n1 := 3) (S1 := [(0, .ptr 0 (0)), (1, vI .i64 (s)), (7, vB (d.out)), (8, .b (slK .u8 (cpw (List.replicate b.length 0) 0 b.length b)))]) (L1 := [(0, ⟨4, [.own 1 (n), .b (slT 2 penB ((d.burn).pen)), vI .i64 ((d.burn).fuse), vB ((d.burn).off)], true⟩), (1, rowK .u8 ((d.burn).dur)), (2, rowK .u8 (b))]) (Weak.conv (nv := [27]) ⟨⟨⟨_, rfl, .inl rfl⟩, rfl⟩, ⟨⟨_, rfl, .inl rfl⟩, rfl⟩, ⟨⟨_, rfl, .inl rfl⟩, rfl⟩, ⟨⟨_, rfl, cv_own rfl (by rw [cpw_rep, Int.toNat_natCast])⟩, rfl⟩, trivial⟩ ⟨⟨⟨_, rfl, rfl, rfl, ⟨.inl rfl, .inl rfl, .inl rfl, .inl rfl, trivial⟩⟩, Nat.le_of_ble_eq_true rfl, cells_of rfl⟩, ⟨⟨_, rfl, rfl, rfl, Two.same (fun _ => .inl rfl) _⟩, Nat.le_of_ble_eq_true rfl, row_cellsK⟩, ⟨⟨_, rfl, rfl, rfl, Two.same (fun _ => .inl rfl) _⟩, Nat.le_of_ble_eq_true rfl, row_cellsK⟩, trivial⟩ (Nat.le_of_ble_eq_true rfl)) <| Sq <| Rd (by kernel_rfl) <| Vl (Mv rfl) <| Vl (Mv rfl) <| Vl (Nk rfl) <| Vl (Fa TF88_1 rfl) <| Vl (Ld TA86 rfl) <| Vl (Mv rfl) <| Vl (Nk rfl) <| Vl (Fa TF88_1 rfl) <| Vl (Ld TA86 rfl) <| Vl (Lst penB_len TU86 rfl) <| Vl (Mv rfl) <| Vl (Nk rfl) <| Vl (Fa TF88_1 rfl) <| Vl (Ld TA86 rfl) <| Vl (Lst penB_len TU86 rfl) <| Vl (CuT penB_len TU86 TS91 rfl) <| Vl (Mv rfl) <| Vl (Mv rfl) <| Vl (Bd TQ91 rfl) <| Vl (sq1 22 rfl (.buildS _ 1 _ 91 [.agg [vI .i64 (s), .b (slK .u8 (cpw (List.replicate b.length 0) 0 b.length b))]] 2 _ [vI .i64 (s), .b (slK .u8 (cpw (List.replicate b.length 0) 0 b.length b))] rfl TU86 TZ91 TS91 (List.cons_ne_nil _ _) (by decide) rfl rfl)) <| Vl (AcT 23 TU86 TS91 TB91 TN91 (x1 := (s, cpw (List.replicate b.length 0) 0 b.length b)) (f := penB) rfl penB_len) <| Vl (Nk rfl) <| Vl (Fa TF88_1 rfl) <| Vl (St TS86 rfl) <| ?_
        refine VLog.nil ⟨by kernel_rfl, ?_⟩
        refine Cx (n1 := 3) (S1 := [(7, vB (d.out))]) (L1 := [(0, ⟨4, [.own 1 (n), .b (slT 2 penB (d.burn.pen ++ [(s, cpw (List.replicate b.length 0) 0 b.length b)])), vI .i64 ((d.burn).fuse), vB ((d.burn).off)], true⟩), (1, rowK .u8 ((d.burn).dur)), (2, rowK .u8 (b))]) (Weak.conv (nv := [23]) ⟨⟨⟨_, rfl, .inl rfl⟩, rfl⟩, trivial⟩ ⟨⟨⟨_, rfl, rfl, rfl, ⟨.inl rfl, (cv_ownT penB_len rfl (by first | omega | (simp; done) | (simp; omega))), .inl rfl, .inl rfl, trivial⟩⟩, Nat.le_of_ble_eq_true rfl, cells_of rfl⟩, ⟨⟨_, rfl, rfl, rfl, Two.same (fun _ => .inl rfl) _⟩, Nat.le_of_ble_eq_true rfl, row_cellsK⟩, ⟨⟨_, rfl, rfl, rfl, Two.same (fun _ => .inl rfl) _⟩, Nat.le_of_ble_eq_true rfl, row_cellsK⟩, trivial⟩ (Nat.le_of_ble_eq_true rfl)) <| Sq <| Sq <| Rg <| Vs (Mv rfl) <| Nx <| Cd rfl (fun hc4 => ?_) (fun hc4 => ?_)
        · replace hc4 := hc4
          rw [if_pos hc4] at e
          exact Sq <| Rg <| Vs (As rfl) <| Nx <| Re <| Tr <| Gg (L1' := [some (⟨4, [.own 1 (n), .b (slT 2 penB (d.burn.pen ++ [(s, cpw (List.replicate b.length 0) 0 b.length b)])), vI .i64 ((d.burn).fuse), vB ((d.burn).off)], true⟩), some (rowK .u8 ((d.burn).dur)), some (rowK .u8 (b))]) [0, 1, 2] (.val _ _ _ _ _ rfl rfl rfl .nil) (.one _) (by rw [e]) (by rw [e, eb, burn_pen])
        · replace hc4 := hc4
          rw [if_neg (by rw [hc4]; decide)] at e
          exact Ks <| Tg <| Sq <| Rg <| Vs (As rfl) <| Nx <| Re <| Gg (L1' := [some (⟨4, [.own 1 (n), .b (slT 2 penB (d.burn.pen ++ [(s, cpw (List.replicate b.length 0) 0 b.length b)])), vI .i64 ((d.burn).fuse), vB ((d.burn).off)], true⟩), some (rowK .u8 ((d.burn).dur)), some (rowK .u8 (b))]) [0, 1, 2] (.val _ _ _ _ _ rfl rfl rfl .nil) (.one _) (by rw [e]) (by rw [e, eb, burn_pen])
theorem k21n {n m : Nat} {d : Dk} (hd : d.Ok n m) (hm : m ≤ 100000) (s : Int) (h1 : d.off = false) (h2 : hasS n s = true) (h3 : d.out = false) : VG Try.prog 21 [.ptr 0 (0), vI .i64 (s)] [⟨4, [.own 1 (n), .b (slT 2 penB (d.pen)), vI .i64 (d.fuse), vB (d.off)], true⟩, rowK .u8 (d.dur)] (.tup [.own 2 64, vI .i64 0]) [some (⟨4, [.own 1 (n), .b (slT 2 penB ((d.burn).pen)), vI .i64 ((d.burn).fuse), vB ((d.burn).off)], true⟩), some (rowK .u8 ((d.burn).dur)), some (rowK .u8 (rdS d s))] := by
  have hlen := hd.len
  have hlo := hd.lo
  have hhi := hd.hi
  have hwh := hd.whole
  have hpl := hd.pen
  obtain ⟨hf1, hf2⟩ := hd.fu
  have hbl := hd.burn.len
  have hbp := hd.burn.pen
  obtain ⟨j0, j1⟩ := hasS_in h2 hwh
  refine VGp_of P_mixed Try.func21 rfl rfl (by kernel_rfl) (by simp) rfl <| Sq <| Rg <| Vs (As rfl) <| Vs (As rfl) <| Nx <| Sq <| Bk <| Sq <| Rg <| Vs (Mv rfl) <| Vs (Pe TU22 rfl) <| Vs (As rfl) <| Nx <| Cz rfl <| Sq <| Rg <| Vs (Mv rfl) <| Vs (Nk rfl) <| Vs (Fa TF88_3 rfl) <| Vs (Kb (show d.off = false from h1) (Ld TA4 rfl)) <| Vs (As rfl) <| Nx <| Cz rfl <| Sq <| Rg <| Vs (Mv rfl) <| Vs (Mv rfl) <| Gm 14 [0, 1] [] (v := vB ((hasS n s))) [(0, ⟨4, [.own 1 (n), .b (slT 2 penB (d.pen)), vI .i64 (d.fuse), vB (d.off)], true⟩), (1, rowK .u8 (d.dur))] rfl (k55 hd hm s) rfl <| Vs (Kb (show (!(hasS n s)) = false from (by rw [h2]; rfl)) (Un rfl)) <| Vs (As rfl) <| Nx <| Cz rfl <| Sq <| Rg <| Vs (Mv rfl) <| Gm 18 [0, 1] [] (v := vB (d.out)) [(0, ⟨4, [.own 1 (n), .b (slT 2 penB ((d.burn).pen)), vI .i64 ((d.burn).fuse), vB ((d.burn).off)], true⟩), (1, rowK .u8 ((d.burn).dur))] rfl (k56 hd hm) rfl <| Vs (Kb (show d.out = false from h3) (As rfl)) <| Nx <| Cz rfl <| Ks <| Ig <| Tg <| Sq <| Rg <| Vs (Mk 20 TK27 rfl) <| Vs (As rfl) <| Nx <| Sq <| Rg <| Vs (Mv rfl) <| Vs (Mv rfl) <| Vs (Mv rfl) <| Gm 25 [0, 1] [] (v := .win 1 ((s * 64).toNat) (64)) [(0, ⟨4, [.own 1 (n), .b (slT 2 penB ((d.burn).pen)), vI .i64 ((d.burn).fuse), vB ((d.burn).off)], true⟩), (1, rowK .u8 ((d.burn).dur)), (20, rowK .u8 (List.replicate 64 0))] rfl (k57 hd.burn hm j0 j1) rfl <| Vs (Cp3 TK27 rfl (Rw rfl)) <| Nx <| Sq <| Sq <| Rg <| Vs (Mv rfl) <| Vs (Nk rfl) <| Vs (Fa TF88_1 rfl) <| Vs (Ld TA86 rfl) <| Vs (Lst penB_len TU86 rfl) <| Vs (Mv rfl) <| Nx <| Bk <| VCode.loop (α := (Nat) × (List Int)) (fun x_ => match x_ with | (i, R) => (21, sl [(1, vI .i64 (s)), (6, .own 20 (64)), (34, .b (slT 2 penB ((d.burn).pen))), (35, vI .i64 ((((d.burn).pen).length : Int))), (36, vI .i64 ((i : Int)))], en [(0, ⟨4, [.own 1 (n), .b (slT 2 penB ((d.burn).pen)), vI .i64 ((d.burn).fuse), vB ((d.burn).off)], true⟩), (1, rowK .u8 ((d.burn).dur)), (20, rowK .u8 (R))])) (fun x_ => match x_ with | (i, R) => i ≤ d.burn.pen.length ∧ R = rdL s d.burn.pen (cpw (List.replicate 64 0) 0 64 (sec d.burn.dur s)) i) (fun x_ => match x_ with | (i, R) => d.burn.pen.length - i) (0, cpw (List.replicate 64 0) 0 64 (sec d.burn.dur s)) ⟨Nat.zero_le _, rfl⟩ Wk ?_
  rintro ⟨i, R⟩ hok
  obtain ⟨hi, hR⟩ := hok
  have hRl : R.length = 64 := by rw [hR]; exact rdL_len (by rw [cpw_len (by simp)]; simp) i
  change VCode _ _ _ 21 (sl _) (en _) _
  refine Sq <| Rg <| Vs (Bi rfl) <| Nx <| Sq <| Cd rfl (fun hc1 => ?_) (fun hc1 => ?_)
  · replace hc1 := of_decide_eq_true hc1
    refine Ks <| Tg <| Sq <| Bk <| Sq <| Rg <| Vs (IxT penB_len TU86 TS91 rfl (by first | omega | (simp; done) | (simp; omega)) (gd (d := w0) (j := i) (by first | omega | (simp; done) | (simp; omega))) rfl) <| Vs (LqS TA91 TS91 rfl) <| Vs (Al 24 TZ91 rfl) <| Vs (StS TS91 rfl) <| Nx <| Sq <| Rg <| Vs (Fa TF91_0 rfl) <| Vs (Ld TA3 rfl) <| Vs (Mv rfl) <| Vs (Bi rfl) <| Nx <| Cd rfl (fun hc2 => ?_) (fun hc2 => ?_)
    · replace hc2 := eq_of_beq hc2
      exact Rg <| Vs (Mv rfl) <| Vs (Fa TF91_1 rfl) <| Vs (Ld TA27 rfl) <| Vs (Cp3 TK27 rfl rfl) <| VList.nil <| Ig <| Tg <| Rg <| Vs (Bo rfl adI) <| Vs (Mv rfl) <| VList.nil <| Go (i + 1, cpw (R) (0) (64) ((((d.burn).pen).getD (i) w0).2)) (by first | exact ⟨by omega, by simp only [rdL]; rw [if_pos hc2, ← hR]⟩ | exact ⟨by omega, by simp only [rdL]; rw [if_neg hc2]; exact hR⟩) Wk
    · replace hc2 := ne_of_beq_false hc2
      exact Ks <| Ig <| Tg <| Rg <| Vs (Bo rfl adI) <| Vs (Mv rfl) <| VList.nil <| Go (i + 1, R) (by first | exact ⟨by omega, by simp only [rdL]; rw [if_pos hc2, ← hR]⟩ | exact ⟨by omega, by simp only [rdL]; rw [if_neg hc2]; exact hR⟩) Wk
  · replace hc1 := of_decide_eq_false hc1
    have hR2 : R = rdS d s := by
      have hi2 : i = d.burn.pen.length := by omega
      rw [hR, hi2]; simp only [rdS, burn_pen, burn_dur]
    exact Ke <| Te <| Oe <| Ih <| Tg <| Sq <| Rg <| Vs (Mv rfl) <| Vs (As rfl) <| Vs (As rfl) <| Nx <| Re <| Gg (L1' := [some (⟨4, [.own 1 (n), .b (slT 2 penB ((d.burn).pen)), vI .i64 ((d.burn).fuse), vB ((d.burn).off)], true⟩), some (rowK .u8 ((d.burn).dur)), some (rowK .u8 (R))]) [0, 1, 20] (.name _ _ (.own 2 (64)) _ _ rfl rfl rfl (.name _ _ (vI .i64 (0)) _ _ rfl rfl rfl .nil)) (.tup _ rfl rfl) rfl (by rw [hR2])
theorem k20a {b : List Int} (hl : b.length = 64) : VG Try.prog 20 [.ptr 0 0, vI .i64 0, .own 2 64] ([⟨4, [.own 1 (64), .b (slT 2 penB ((newD 1).pen)), vI .i64 ((newD 1).fuse), vB ((newD 1).off)], true⟩, rowK .u8 ((newD 1).dur)] ++ [rowK .u8 b]) (vI .i64 0) [some (⟨4, [.own 1 (64), .b (slT 2 penB ((apD b).pen)), vI .i64 ((apD b).fuse), vB ((apD b).off)], true⟩), some (rowK .u8 ((apD b).dur)), some (rowK .u8 b)] := by
  have h := k20n new1_ok (by decide) 0 (b := b) (by omega)
  rw [ap_w hl, hl] at h
  exact h
theorem k21a {b : List Int} (hl : b.length = 64) : VG Try.prog 21 [.ptr 0 0, vI .i64 0] [⟨4, [.own 1 (64), .b (slT 2 penB ((apD b).pen)), vI .i64 ((apD b).fuse), vB ((apD b).off)], true⟩, rowK .u8 ((apD b).dur)] (.tup [.own 2 64, vI .i64 0]) [some (⟨4, [.own 1 (64), .b (slT 2 penB ((apD b).pen)), vI .i64 ((apD b).fuse), vB ((apD b).off)], true⟩), some (rowK .u8 ((apD b).dur)), some (rowK .u8 b)] := by
  have h := k21n (ap_ok hl) (by decide) 0 rfl (by decide) rfl
  rw [ap_s hl] at h
  exact h
theorem k21b {b : List Int} (hl : b.length = 64) : VG Try.prog 21 [.ptr 0 0, vI .i64 0] [⟨4, [.own 1 (64), .b (slT 2 penB ((apD b).pen)), vI .i64 ((apD b).fuse), vB ((apD b).off)], true⟩, rowK .u8 ((apD b).dur)] (.b (.tup [slK .u8 b, numB .i64 0])) [some (⟨4, [.own 1 (64), .b (slT 2 penB ((apD b).pen)), vI .i64 ((apD b).fuse), vB ((apD b).off)], true⟩), some (rowK .u8 ((apD b).dur))] := by
  have h := k21 (ap_ok hl) (by decide) 0
  rw [ap_r hl] at h
  exact h
theorem k21c : VG Try.prog 21 [.ptr 0 0, vI .i64 0] [⟨4, [.own 1 (64), .b (slT 2 penB ((newD 1).pen)), vI .i64 ((newD 1).fuse), vB ((newD 1).off)], true⟩, rowK .u8 ((newD 1).dur)] (.b (.tup [slK .u8 (List.replicate 64 0), numB .i64 0])) [some (⟨4, [.own 1 (64), .b (slT 2 penB ((newD 1).pen)), vI .i64 ((newD 1).fuse), vB ((newD 1).off)], true⟩), some (rowK .u8 ((newD 1).dur))] := by
  have h := k21 new1_ok (by decide) 0
  rw [new_r] at h
  exact h
theorem k19a {f : Int} {b : List Int} (hf : 0 ≤ f ∧ f < 256) (hb : b = bytL f 64) : VG Try.prog 19 [.b (.agg [numB .i64 0, numB .i64 0, numB .u8 f, numB .i64 64, numB .i64 0, slK .i64 []])] [] (.own 0 64) [some (rowK .u8 b)] := by
  rw [hb]; exact k19n f hf
theorem k19b {f : Int} {b : List Int} (hf : 0 ≤ f ∧ f < 256) (hb : b = bytL f 64) : VF Try.prog 19 [.agg [numB .i64 0, numB .i64 0, numB .u8 f, numB .i64 64, numB .i64 0, slK .i64 []]] (slK .u8 b) := by
  rw [hb]; exact k19 ⟨0, 0, f, 64, 0, []⟩ ⟨hf, by simp only; decide, by simp only; decide, by simp only; decide⟩
end Go.VL

/- Walks over the Go functions, printed by a program of this session over the kit's print, and by hand. -/
set_option linter.unusedVariables false
set_option linter.unusedSimpArgs false
set_option maxRecDepth 100000
namespace Go.VL
open Go.Proofs
theorem g3 (f : Int) (a0 : 0 ≤ f) (b0 : f ≤ 255) (o : Int) (a1 : 0 ≤ o) (b1 : o ≤ 255) : VF Try.prog 3 [numB .u8 (f), numB .u8 (o)] (boolB true) := by
  obtain ⟨b, hb⟩ : ∃ b, b = bytL f 64 := ⟨_, rfl⟩
  have hl64 : b.length = 64 := by rw [hb]; exact bytL_len f 64
  have hf : 0 ≤ f ∧ f < 256 := by omega
  refine VF_of P_mixed Try.func3 rfl rfl (by kernel_rfl) <| Sq <| Rg <| Vs (As rfl) <| Nx <| Sq <| Rg <| Gm 1 [] [] (v := .tup [.ptr 1 (0), vI .i64 (0)]) [(1, ⟨4, [.own 2 (64), .b (slT 2 penB ((newD 1).pen)), vI .i64 ((newD 1).fuse), vB ((newD 1).off)], true⟩), (2, rowK .u8 ((newD 1).dur))] rfl (k17 1 (by decide) (by decide)) rfl <| Vs (Mv rfl) <| Vs (Xv rfl) <| Vs (Xv rfl) <| Vs (As rfl) <| Vs (As rfl) <| Nx <| Sq <| Rg <| Gm 9 [] [] (v := .tup [.ptr 9 (0), vI .i64 (0)]) [(1, ⟨4, [.own 2 (64), .b (slT 2 penB ((newD 1).pen)), vI .i64 ((newD 1).fuse), vB ((newD 1).off)], true⟩), (2, rowK .u8 ((newD 1).dur)), (9, ⟨4, [.own 10 (64), .b (slT 2 penB ((newD 1).pen)), vI .i64 ((newD 1).fuse), vB ((newD 1).off)], true⟩), (10, rowK .u8 ((newD 1).dur))] rfl (k17 1 (by decide) (by decide)) rfl <| Vs (Mv rfl) <| Vs (Xv rfl) <| Vs (Xv rfl) <| Vs (As rfl) <| Vs (As rfl) <| Nx <| Sq <| Sq <| Rg <| Vs (Cf rfl rfl (g18) rfl) <| Vs (Un rfl) <| Vs (Mv rfl) <| Vs (Mv rfl) <| Vs (Bi (c := .bool false) rfl) <| Vs (Pk rfl) <| Vs (Mv rfl) <| Vs (Mv rfl) <| Vs (Bi (c := .bool false) rfl) <| Vs (Pk rfl) <| Vs (Mv rfl) <| Vs (Mv rfl) <| Vs (Pe TU22 rfl) <| Vs (Pk rfl) <| Vs (Mv rfl) <| Vs (Mv rfl) <| Vs (Pe TU22 rfl) <| Vs (Pk rfl) <| Nx <| Cz rfl <| Ks <| Tg <| Sq <| Rg <| Vs (Mv rfl) <| Vs (Bd TQ31 rfl) <| Gm 37 [] [] (v := .own 37 (64)) [(1, ⟨4, [.own 2 (64), .b (slT 2 penB ((newD 1).pen)), vI .i64 ((newD 1).fuse), vB ((newD 1).off)], true⟩), (2, rowK .u8 ((newD 1).dur)), (9, ⟨4, [.own 10 (64), .b (slT 2 penB ((newD 1).pen)), vI .i64 ((newD 1).fuse), vB ((newD 1).off)], true⟩), (10, rowK .u8 ((newD 1).dur)), (37, rowK .u8 (b))] rfl (k19a hf hb) rfl <| Vs (As rfl) <| Nx <| Sq <| Rg <| Vs (Mv rfl) <| Vs (Mv rfl) <| Gm 42 [1, 2, 37] [] (v := vI .i64 (0)) [(1, ⟨4, [.own 2 (64), .b (slT 2 penB ((apD b).pen)), vI .i64 ((apD b).fuse), vB ((apD b).off)], true⟩), (2, rowK .u8 ((apD b).dur)), (9, ⟨4, [.own 10 (64), .b (slT 2 penB ((newD 1).pen)), vI .i64 ((newD 1).fuse), vB ((newD 1).off)], true⟩), (10, rowK .u8 ((newD 1).dur)), (37, rowK .u8 (b))] rfl (k20a hl64) rfl <| Vs (As rfl) <| Nx <| Sq <| Sq <| Rg <| Vs (As rfl) <| Nx <| Bk <| VCode.loop (α := (Nat) × (List Int)) (fun x_ => match x_ with | (i, Bv) => (38, sl [(0, vI .u8 (f)), (1, vI .u8 (o)), (5, .ptr 1 (0)), (7, .ptr 9 (0)), (9, .own 37 (64)), (10, vI .i64 (0)), (11, vI .i64 ((i : Int)))], en [(1, ⟨4, [.own 2 (64), .b (slT 2 penB ((apD b).pen)), vI .i64 ((apD b).fuse), vB ((apD b).off)], true⟩), (2, rowK .u8 ((apD b).dur)), (9, ⟨4, [.own 10 (64), .b (slT 2 penB ((newD 1).pen)), vI .i64 ((newD 1).fuse), vB ((newD 1).off)], true⟩), (10, rowK .u8 ((newD 1).dur)), (37, rowK .u8 (Bv))])) (fun x_ => match x_ with | (i, Bv) => i ≤ 64 ∧ Bv.length = 64) (fun x_ => match x_ with | (i, Bv) => 64 - i) (0, b) ⟨by decide, hl64⟩ Wk ?_
  rintro ⟨i, Bv⟩ hok2
  obtain ⟨hi, hl⟩ := hok2
  change VCode _ _ _ 38 (sl _) (en _) _
  refine Sq <| Sq <| Rg <| Vs (Mv rfl) <| Vs (Mv rfl) <| Vs (Lo TU27 rfl) <| Vs (Bi rfl) <| Nx <| Cd rfl (fun hc1 => ?_) (fun hc1 => ?_)
  · replace hc1 := of_decide_eq_true hc1
    exact Ks <| Tg <| Sq <| Bk <| Rg <| Vs (Mv rfl) <| Vs (Mv rfl) <| Vs (Mv rfl) <| Vs (IrN TK27 rfl) <| Vs (SrK TS5 rfl) <| VList.nil <| Ig <| Tg <| Rg <| Vs (Mv rfl) <| Vs (Bo rfl adI) <| Vs (As rfl) <| VList.nil <| Go (i + 1, (Bv).set ((i)) (o)) ⟨by omega, by rw [List.length_set]; exact hl⟩ Wk
  · replace hc1 := of_decide_eq_false hc1
    refine Ke <| Te <| Oe <| Ih <| Tg <| Sq <| Rg <| Vs (Mv rfl) <| Gm 43 [1, 2] [] (v := .tup [.own 43 (64), vI .i64 (0)]) [(1, ⟨4, [.own 2 (64), .b (slT 2 penB ((apD b).pen)), vI .i64 ((apD b).fuse), vB ((apD b).off)], true⟩), (2, rowK .u8 ((apD b).dur)), (9, ⟨4, [.own 10 (64), .b (slT 2 penB ((newD 1).pen)), vI .i64 ((newD 1).fuse), vB ((newD 1).off)], true⟩), (10, rowK .u8 ((newD 1).dur)), (37, rowK .u8 (Bv)), (43, rowK .u8 (b))] rfl (k21a hl64) rfl <| Vs (Mv rfl) <| Vs (Xv rfl) <| Vs (Xv rfl) <| Vs (As rfl) <| Vs (As rfl) <| Nx <| Sq <| Rg <| Vs (Mv rfl) <| Vs (Bd TQ31 rfl) <| Vs (C0 rfl rfl (k19b hf hb)) <| Vs (As rfl) <| Nx <| Sq <| Rg <| Vs (Mv rfl) <| Vs (Bi (c := .bool true) rfl) <| Vs (Mv rfl) <| Vs (Mv rfl) <| Vs (Bi (c := .bool true) rfl) <| Vs (Pk rfl) <| Vs (Mv rfl) <| Vs (Mv rfl) <| Vs (Mv rfl) <| Vs (Kb (show (eqL b b) = true from (decide_eq_true rfl)) (Cf rfl (Rk (Rr rfl) (Rk rfl Rz)) (k22 (by omega) (by omega)) rfl)) <| Vs (Pk rfl) <| Vs (As rfl) <| Nx <| Sq <| Sq <| Rg <| Vs (As rfl) <| Nx <| Bk <| VCode.loop (α := (Nat) × (List Int)) (fun x_ => match x_ with | (i, Xv) => (44, sl [(1, vI .u8 (o)), (5, .ptr 1 (0)), (7, .ptr 9 (0)), (12, .own 43 (64)), (14, .b (slK .u8 (b))), (15, vB (true)), (16, vI .i64 ((i : Int)))], en [(1, ⟨4, [.own 2 (64), .b (slT 2 penB ((apD b).pen)), vI .i64 ((apD b).fuse), vB ((apD b).off)], true⟩), (2, rowK .u8 ((apD b).dur)), (9, ⟨4, [.own 10 (64), .b (slT 2 penB ((newD 1).pen)), vI .i64 ((newD 1).fuse), vB ((newD 1).off)], true⟩), (10, rowK .u8 ((newD 1).dur)), (43, rowK .u8 (Xv))])) (fun x_ => match x_ with | (i, Xv) => i ≤ 64 ∧ Xv.length = 64) (fun x_ => match x_ with | (i, Xv) => 64 - i) (0, b) ⟨by decide, hl64⟩ Wk ?_
    rintro ⟨i, Xv⟩ hok2
    obtain ⟨hi, hl⟩ := hok2
    change VCode _ _ _ 44 (sl _) (en _) _
    refine Sq <| Sq <| Rg <| Vs (Mv rfl) <| Vs (Mv rfl) <| Vs (Lo TU27 rfl) <| Vs (Bi rfl) <| Nx <| Cd rfl (fun hc2 => ?_) (fun hc2 => ?_)
    · replace hc2 := of_decide_eq_true hc2
      exact Ks <| Tg <| Sq <| Bk <| Rg <| Vs (Mv rfl) <| Vs (Mv rfl) <| Vs (Mv rfl) <| Vs (IrN TK27 rfl) <| Vs (SrK TS5 rfl) <| VList.nil <| Ig <| Tg <| Rg <| Vs (Mv rfl) <| Vs (Bo rfl adI) <| Vs (As rfl) <| VList.nil <| Go (i + 1, (Xv).set ((i)) (o)) ⟨by omega, by rw [List.length_set]; exact hl⟩ Wk
    · replace hc2 := of_decide_eq_false hc2
      exact Ke <| Te <| Oe <| Ih <| Tg <| Sq <| Rg <| Vs (Mv rfl) <| Gm 49 [1, 2] [] (v := .b (.tup [slK .u8 (b), numB .i64 (0)])) [(1, ⟨4, [.own 2 (64), .b (slT 2 penB ((apD b).pen)), vI .i64 ((apD b).fuse), vB ((apD b).off)], true⟩), (2, rowK .u8 ((apD b).dur)), (9, ⟨4, [.own 10 (64), .b (slT 2 penB ((newD 1).pen)), vI .i64 ((newD 1).fuse), vB ((newD 1).off)], true⟩), (10, rowK .u8 ((newD 1).dur)), (43, rowK .u8 (Xv))] rfl (k21b hl64) rfl <| Vs (Mv rfl) <| Vs (Xt rfl) <| Vs (Xt rfl) <| Vs (As rfl) <| Vs (As rfl) <| Nx <| Sq <| Rg <| Vs (Mv rfl) <| Gm 56 [9, 10] [] (v := .b (.tup [slK .u8 (List.replicate 64 0), numB .i64 (0)])) [(1, ⟨4, [.own 2 (64), .b (slT 2 penB ((apD b).pen)), vI .i64 ((apD b).fuse), vB ((apD b).off)], true⟩), (2, rowK .u8 ((apD b).dur)), (9, ⟨4, [.own 10 (64), .b (slT 2 penB ((newD 1).pen)), vI .i64 ((newD 1).fuse), vB ((newD 1).off)], true⟩), (10, rowK .u8 ((newD 1).dur)), (43, rowK .u8 (Xv))] rfl (k21c) rfl <| Vs (Mv rfl) <| Vs (Xt rfl) <| Vs (Xt rfl) <| Vs (As rfl) <| Vs (As rfl) <| Nx <| Sq <| Rg <| Vs (Mv rfl) <| Vs (Mv rfl) <| Vs (Mv rfl) <| Vs (Bi (c := .bool true) rfl) <| Vs (Pk rfl) <| Vs (Mv rfl) <| Vs (Mv rfl) <| Vs (Mv rfl) <| Vs (Kb (show (eqL b b) = true from (decide_eq_true rfl)) (Cf rfl rfl (k22 (by omega) (by omega)) rfl)) <| Vs (Pk rfl) <| Vs (Mv rfl) <| Vs (Mv rfl) <| Vs (Bi (c := .bool true) rfl) <| Vs (Pk rfl) <| Vs (Mv rfl) <| Vs (Mv rfl) <| Vs (Mk 78 TK27 rfl) <| Vs (Kb (show (eqL (List.replicate 64 0) (List.replicate 64 0)) = true from (decide_eq_true rfl)) (Cf rfl (Rk rfl (Rk (Rr rfl (hl := by decide)) Rz)) (k22 (by decide) (by decide)) rfl)) <| Vs (Pk rfl) <| Vs (As rfl) <| Nx <| Re <| Fi (l := [boolB (true)]) (Rc (resVar_tmp rfl rfl) Rn) rfl
end Go.VL

set_option linter.unusedVariables false
set_option linter.unusedSimpArgs false
set_option maxRecDepth 100000
namespace Go.Proofs.Ytpoolpppmgacnaa
open Go.ChangeShapes Go.WideShapes Go.ChangeAt Go.RowKit Go.VL

theorem diskApart_lifted (os : Os) (started : os.Started) (H : Type) (enc : TypeId × Value → H) :
    ReturnsInHanded {} Try.checked os 3 .any (Rows.diskApartSpec.pre6 enc Try.prog Try.f3 Rows.diskApartRow.domain false) (Rows.diskApartSpec.post enc Try.prog Try.f3 false true false false) := by
  refine returnsInHanded_of_change (C := Try.checked) Try_own started (by kernel_rfl) Try.func3
    (ChangeSpec.witness6 (enc := enc) (C := Try.checked) false ⟨#[], #[.int .u8 0, .int .u8 0], []⟩ 8 (by kernel_rfl) (by kernel_rfl) (by kernel_rfl) (by kernel_rfl)) ?_
  intro W base args ds gs before hval0 hW hcnd _
  have hval : ∀ (j : Nat) t v, Try.f3.params[j]? = some t → args[j]? = some v → Value.okWide Try.prog W .any base t v := hval0
  have hW' := hW
  obtain ⟨p, q, hA0, hV, rfl, hfz, hnd⟩ := hW
  have hA : DataW.TrodAll enc Try.prog W 0 (fun _ => true) true Try.f3.params.toList args.toList ds p := hA0
  have hA1 := hA
  rw [Try.params3] at hA hval
  obtain ⟨v0, v1, d0, d1, p0, p1, rfl, rfl, rfl, h0, h1⟩ := trodAll_two hA
  obtain ⟨rfl, rfl⟩ := trodVars_none hV
  obtain ⟨k0, r0, a0, b0⟩ := open_u8 (hval 0 5 v0 rfl rfl) h0
  obtain ⟨k1, r1, a1, b1⟩ := open_u8 (hval 1 5 v1 rfl rfl) h1
  simp only [List.append_nil] at hW'
  have hlt : ∀ x ∈ p0 ++ p1, x.block < W.heap.size := fun x hx => hW'.lt x hx
  have hread : ∀ t ∈ Try.f3.params.toList, Try.prog.readableRec t = true ∧ t < Try.prog.types.size := by rw [Try.params3]; exact types_cons T5 (types_cons T5 (types_nil))
  refine ((g3 k0 a0 b0 k1 a1 b1).runs (xs := [v0, v1]) rfl (reps_cons r0 (reps_cons r1 reps_nil))).mono fun e W' ⟨he, hb⟩ => ?_
  subst he
  exact ⟨_, rfl, post_of_below (pa := _) (pv := []) hW' (fun _ _ _ => trodAll_mk1 shut_true) (fun sp hsp => args_stay Try_laidOut hb hread hA1 hlt hsp) (fun _ _ => rfl) (by simp) hb (ok_one (by kernel_rfl) rfl ok_true)⟩

theorem diskApart_facts : joinedFacts Try.pinned.checked.prog 3 Try.f3 Rows.diskApartSpec Rows.diskApartRow = true := by
  unfold joinedFacts
  rw [head_may, head_lifts, head_make]
  kernel_rfl

theorem diskApart_holds : Rows.DiskApartSaid :=
  OpenClaim.holds_of_wide 3 Try.f3 rfl rfl rfl rfl rfl rfl rfl ⟨rfl, rfl, rfl, rfl, rfl⟩ rfl rfl rfl rfl rfl (by kernel_rfl) Try.func3 diskApart_facts
    (of_decide_eq_true (by kernel_rfl)) (by unfold Func.isWrapper; rw [if_neg (of_decide_eq_false (by kernel_rfl))]; exact ⟨rfl, rfl⟩)
    (fun os started H enc _ => diskApart_lifted os started H enc)

end Go.Proofs.Ytpoolpppmgacnaa
