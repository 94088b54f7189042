/- JournalOwns returns true for every input and leaves the input as it was. No condition. -/
import Derived.Test.YtpoolpppmgacnaaK4
/- Walks over the Go functions, printed by a program of this session over the kit's print, and by hand. -/
set_option linter.unusedVariables false
set_option linter.unusedSimpArgs false
set_option maxRecDepth 100000
namespace Go.VL
open Go.Proofs
theorem z43 (b : List Int) : VF Try.prog 43 [.lit (.pointer none), slK .u8 (b)] (numB .i64 1) := by
  exact VF_of P_mixed Try.func43 rfl rfl (by kernel_rfl) <| Sq <| Rg <| Vs (As rfl) <| Nx <| Sq <| Bk <| Sq <| Rg <| Vs (Mv rfl) <| Vs (Pg TU62 rfl) <| Vs (Mv rfl) <| Sk rfl <| Sk rfl <| Sk rfl <| Vs (Pk rfl) <| Vs (Mv rfl) <| Sk rfl <| Sk rfl <| Sk rfl <| Vs (Pk rfl) <| Vs (As rfl) <| Nx <| Cy rfl <| Sq <| Rg <| Vs (As rfl) <| Nx <| Re <| Iq <| Tr <| Fi (l := [numB .i64 (1)]) (Rc (resVar_tmp rfl rfl) Rn) rfl
theorem z45  : VF Try.prog 45 [.lit (.pointer none)] (slT 1 rwB []) := by
  exact VF_of P_mixed Try.func45 rfl rfl (by kernel_rfl) <| Sq <| Rg <| Vs (As rfl) <| Nx <| Sq <| Sq <| Rg <| Vs (Mv rfl) <| Vs (Pg TU62 rfl) <| Nx <| Cy rfl <| Sq <| Rg <| Vs (As rfl) <| Nx <| Re <| Tr <| Fi (l := [u32S ([])]) (Rc (resVar_tmp rfl rfl) Rn) rfl
theorem z46  : VF Try.prog 46 [.lit (.pointer none)] (numB .i64 0) := by
  exact VF_of P_mixed Try.func46 rfl rfl (by kernel_rfl) <| Sq <| Rg <| Vs (As rfl) <| Nx <| Sq <| Sq <| Rg <| Vs (Mv rfl) <| Vs (Pg TU62 rfl) <| Nx <| Cy rfl <| Sq <| Rg <| Vs (As rfl) <| Nx <| Re <| Tr <| Fi (l := [numB .i64 (0)]) (Rc (resVar_tmp rfl rfl) Rn) rfl
theorem z42  : VF Try.prog 42 [.lit (.pointer none)] (.tup [.lit (.pointer none), slT 1 rwB [], numB .i64 1]) := by
  exact VF_of P_mixed Try.func42 rfl rfl (by kernel_rfl) <| Sq <| Rg <| Vs (As rfl) <| Vs (As rfl) <| Vs (As rfl) <| Nx <| Sq <| Sq <| Rg <| Vs (Mv rfl) <| Vs (Pg TU22 rfl) <| Nx <| Cy rfl <| Sq <| Rg <| Vs (As rfl) <| Vs (As rfl) <| Vs (As rfl) <| Nx <| Re <| Tr <| Fi (l := [.lit (.pointer none), u32S ([]), numB .i64 (1)]) (Rc (resVar_tmp rfl rfl) (Rc (resVar_tmp rfl rfl) (Rc (resVar_tmp rfl rfl) Rn))) rfl
theorem t69o {b : List Int} (hl : b.length ≤ 1000000) : VG Try.prog 69 [.own 0 (b.length)] [rowK .u8 (b)] (.b (slK .u8 b)) [some (rowK .u8 b)] := by
  exact VGp_of P_mixed Try.func69 rfl rfl (by kernel_rfl) (by simp) rfl <| Sq <| Rg <| Vs (As rfl) <| Nx <| Sq <| Sq <| Rg <| Vs (Mv rfl) <| Vs (Ni (t := false) TU27 rfl) <| Nx <| Cz rfl <| Ks <| Tg <| Sq <| Rg <| Vs (L0s 4 TK27 rfl) <| Vs (Mv rfl) <| Vs (Ap 6 TK27 rfl (Rr rfl)) <| Vs (As rfl) <| Nx <| Re <| Gg (L1' := [some (rowK .u8 (b))]) [0] (.val _ _ _ _ _ rfl (Rr rfl) rfl .nil) (.one _) rfl rfl
theorem t68o {n : Int} {b : List Int} (hn : 0 ≤ n ∧ n < 4294967296) (hb : ByR b) (hl : b.length ≤ 5000) : VG Try.prog 68 [vI .i64 (n), .own 0 (b.length)] [rowK .u8 (b)] (.b (slK .u8 (formQ n b))) [some (rowK .u8 b)] := by
  have hcq := cntQ_le b.length
  have hcq2 : cntQ b.length ≤ 100 := by unfold cntQ; omega
  exact VGp_of P_mixed Try.func68 rfl rfl (by kernel_rfl) (by simp) rfl <| Sq <| Rg <| Vs (As rfl) <| Nx <| Sq <| Rg <| Vs (Mv rfl) <| Vs (Lo TU27 rfl) <| Vs (Cf rfl rfl (t65 (by omega)) rfl) <| Vs (Bo rfl muI) <| Vs (Mc 6 TK27 rfl) <| Vs (As rfl) <| Nx <| Sq <| Rg <| Vs (Mv rfl) <| Vs (Mv rfl) <| Vs (Cv TU3 TU59 rfl wrD) <| Gm 11 [6] [] (v := .row 11 (0 + 4) (some (((((cntQ ((b.length : Nat)) : Nat) : Int) * 64)).toNat))) [(0, rowK .u8 (b)), (11, rowK .u8 (([]) ++ leB (n) 4))] rfl (t74 (m := 0) (c := ((((cntQ ((b.length : Nat)) : Nat) : Int) * 64)).toNat) (D := []) (by first | rfl | (simp only [List.length_append, leB_len, List.length_nil]; done) | (simp [leB_len]; omega)) (n) 4 (hn) (by omega) (by omega)) rfl <| Vs (Mv rfl) <| Vs (Lo TU27 rfl) <| Vs (Cv TU3 TU59 rfl wrD) <| Gm 16 [11] [] (v := .row 16 (0 + 4 + 2) (some (((((cntQ ((b.length : Nat)) : Nat) : Int) * 64)).toNat))) [(0, rowK .u8 (b)), (16, rowK .u8 ((([]) ++ leB (n) 4) ++ leB (((b.length : Nat) : Int)) 2))] rfl (t74 (m := 0 + 4) (c := ((((cntQ ((b.length : Nat)) : Nat) : Int) * 64)).toNat) (D := ([]) ++ leB (n) 4) (by first | rfl | (simp only [List.length_append, leB_len, List.length_nil]; done) | (simp [leB_len]; omega)) (((b.length : Nat) : Int)) 2 (by omega) (by omega) (by omega)) rfl <| Vs (As rfl) <| Nx <| Sq <| Rg <| Vs (Mv rfl) <| Vs (Mv rfl) <| Vs (Ac1 21 TK27 rfl (Rr rfl) (hl := (by first | rfl | (simp only [List.length_append, leB_len, List.length_nil]; done) | (simp [leB_len]; omega)))) <| Vs (As rfl) <| Nx <| Sq <| Rg <| Vs (Mv rfl) <| Vs (Mv rfl) <| Vs (Cf rfl (Rk (Rq rfl) Rz) (t40 (headQ_by hb) (by simp; omega)) rfl) <| Gm 26 [21] [] (v := .row 26 (0 + 4 + 2 + (b).length + 4) (some (((((cntQ ((b.length : Nat)) : Nat) : Int) * 64)).toNat))) [(0, rowK .u8 (b)), (26, rowK .u8 ((((([]) ++ leB (n) 4) ++ leB (((b.length : Nat) : Int)) 2) ++ (b)) ++ leB (bv (crcQ (((([]) ++ leB (n) 4) ++ leB (((b.length : Nat) : Int)) 2) ++ (b)))) 4))] rfl (t74 (m := 0 + 4 + 2 + (b).length) (c := ((((cntQ ((b.length : Nat)) : Nat) : Int) * 64)).toNat) (D := ((([]) ++ leB (n) 4) ++ leB (((b.length : Nat) : Int)) 2) ++ (b)) (by first | rfl | (simp only [List.length_append, leB_len, List.length_nil]; done) | (simp [leB_len]; omega)) (bv (crcQ (((([]) ++ leB (n) 4) ++ leB (((b.length : Nat) : Int)) 2) ++ (b)))) 4 (bv_range _) (by omega) (by omega)) rfl <| Vs (As rfl) <| Nx <| Sq <| Rg <| Vs (Mv rfl) <| Vs (Mv rfl) <| Vs (Cq TU27 rfl) <| Vs (Mv rfl) <| Vs (Lv (m := 0 + 4 + 2 + (b).length + 4) TU27 rfl) <| Vs (Bo rfl suI) <| Vs (Az 35 TK27 TU3 rfl (hl := (by first | rfl | (simp only [List.length_append, leB_len, List.length_nil]; done) | (simp [leB_len]; omega)))) <| Vs (As rfl) <| Nx <| Re <| Gg (L1' := [some (rowK .u8 (b))]) [0] (.val _ _ _ _ _ rfl (Rq rfl) rfl .nil) (.one _) (by refine congrArg V.b (congrArg (slK .u8) ?_); simp [formQ, bodyQ, headQ]; omega) rfl
end Go.VL

/- Walks over the Go functions, printed by a program of this session over the kit's print, and by hand. -/
set_option linter.unusedVariables false
set_option linter.unusedSimpArgs false
set_option maxRecDepth 100000
namespace Go.VL
open Go.Proofs
theorem t43O {n m : Nat} {d : Dk} (hd : d.Ok n m) (hm : m ≤ 100000) (hB : d.By) {R : List (List Int)} (hR : R.length ≤ 2000) {ed : Nat} (he : ed ≤ 2000) {fl : Bool} {b : List Int} (hb : ByR b) (hbl : b.length ≤ 100000) (hm2 : m ≤ 80000) (h : (apR n ⟨d, R, ed, fl⟩ b).2 = 0) : VG Try.prog 43 [.ptr 0 (0), .own 4 (b.length)] [⟨4, [.ptr 1 (0), .row 2 (R.length) none, vI .i64 ((ed : Int)), vB (fl)], true⟩, ⟨4, [.own 3 (n), .b (slT 2 penB (d.pen)), vI .i64 (d.fuse), vB (d.off)], true⟩, rowT 1 rwB (R), rowK .u8 (d.dur), rowK .u8 (b)] (vI .i64 0) [some (⟨4, [.ptr 1 (0), .row 5 (R.length + 1) none, vI .i64 (((ed + cntQ b.length : Nat) : Int)), vB (fl)], true⟩), some (⟨4, [.own 3 (n), .b (slT 2 penB (((apR n ⟨d, R, ed, fl⟩ b).1.d).pen)), vI .i64 (((apR n ⟨d, R, ed, fl⟩ b).1.d).fuse), vB (((apR n ⟨d, R, ed, fl⟩ b).1.d).off)], true⟩), none, some (rowK .u8 (((apR n ⟨d, R, ed, fl⟩ b).1.d).dur)), some (rowK .u8 (b)), some (rowT 1 rwB (R ++ [b]))] := by
  have hlen := hd.len
  have hlo := hd.lo
  have hhi := hd.hi
  have hwh := hd.whole
  have hpl := hd.pen
  obtain ⟨hf1, hf2⟩ := hd.fu
  refine VGp_of P_mixed Try.func43 rfl rfl (by kernel_rfl) (by simp) rfl <| Sq <| Rg <| Vs (As rfl) <| Nx <| Sq <| Bk <| Sq <| Rg <| Vs (Mv rfl) <| Vs (Pe TU62 rfl) <| Vs (Mv rfl) <| Vs (Mv rfl) <| Vs (Lo TU27 rfl) <| Vs (Bi rfl) <| Vs (Pk rfl) <| Vs (Mv rfl) <| Sp 14 rfl (fun hc1 => ?_) (fun hc1 => ?_)
  · replace hc1 := of_decide_eq_true hc1
    exfalso; rw [ap_arg (by omega)] at h; exact absurd h (by simp)
  · replace hc1 := of_decide_eq_false hc1
    refine Vs (Mv rfl) <| Vs (Lo TU27 rfl) <| Vs (Bi rfl) <| Vs (Pk rfl) <| Vs (As rfl) <| Nx <| Cd rfl (fun hc2 => ?_) (fun hc2 => ?_)
    · replace hc2 := of_decide_eq_true hc2
      exfalso; rw [ap_arg (by omega)] at h; exact absurd h (by simp)
    · replace hc2 := of_decide_eq_false hc2
      have hck : 1 ≤ cntQ b.length ∧ cntQ b.length ≤ 80 := by unfold cntQ; omega
      refine Sq <| Rg <| Vs (Mv rfl) <| Vs (Nk rfl) <| Vs (Fa TF104_3 rfl) <| Vs (Ld TA4 rfl) <| Vs (As rfl) <| Nx <| Cd rfl (fun hc3 => ?_) (fun hc3 => ?_)
      · replace hc3 := hc3
        exfalso; rw [ap_down (by omega) hc3] at h; exact absurd h (by simp)
      · replace hc3 := hc3
        refine Sq <| Rd (by kernel_rfl) <| Vl (Mv rfl) <| Vl (Nk rfl) <| Vl (Fa TF104_2 rfl) <| Vl (Ld TA3 rfl) <| Vl (Mv rfl) <| Vl (Lo TU27 rfl) <| Vl (Cf rfl rfl (t65 (by omega)) rfl) <| Vl (Bo rfl adI) <| Vl (Mv rfl) <| Vl (Nk rfl) <| Vl (Fa TF104_0 rfl) <| Vl (Ld TA22 rfl) <| Gl [1, 3] [] [(1, some (⟨4, [.own 3 (n), .b (slT 2 penB (d.pen)), vI .i64 (d.fuse), vB (d.off)], true⟩)), (3, some (rowK .u8 (d.dur)))] rfl (k33 hd hm) rfl <| Vl (Bi rfl) <| Vl (As rfl) <| ?_
        refine VLog.nil ⟨by kernel_rfl, ?_⟩
        refine Tg <| Cd rfl (fun hc4 => ?_) (fun hc4 => ?_)
        · replace hc4 := of_decide_eq_true hc4
          exfalso; rw [ap_full (by omega) hc3 (by show n / 64 < ed + cntQ b.length; omega)] at h; exact absurd h (by simp)
        · replace hc4 := of_decide_eq_false hc4
          refine Ks <| Ig <| Tg <| Sq <| Sq <| ?_
          have hfull : ¬ n / 64 < ed + cntQ b.length := by omega
          refine Rg <| Vs (Mv rfl) <| Vs (Mv rfl) <| Vs (Nk rfl) <| Vs (Fa TF104_1 rfl) <| Vs (Ld TA43 rfl) <| Vs (Lv (m := R.length) TU43 rfl) <| Vs (Mv rfl) <| Gm 46 [4] [] (v := .b (slK .u8 (formQ (((R.length : Nat) : Int)) (b)))) [(0, ⟨4, [.ptr 1 (0), .row 2 (R.length) none, vI .i64 ((ed : Int)), vB (fl)], true⟩), (1, ⟨4, [.own 3 (n), .b (slT 2 penB (d.pen)), vI .i64 (d.fuse), vB (d.off)], true⟩), (2, rowT 1 rwB (R)), (3, rowK .u8 (d.dur)), (4, rowK .u8 (b))] rfl (t68o (n := ((R.length : Nat) : Int)) (b := b) (by omega) (hb) (by omega)) rfl <| Gm 47 [0, 1, 2, 3] [] (v := vI .i64 ((wfR n ((ed : Nat) : Int) (formQ (R.length : Int) b) (cntQ b.length) d).2)) [(0, ⟨4, [.ptr 1 (0), .row 2 (R.length) none, vI .i64 (((ed : Nat) : Int)), vB (fl)], true⟩), (1, ⟨4, [.own 3 (n), .b (slT 2 penB (((wfR n ((ed : Nat) : Int) (formQ (R.length : Int) b) (cntQ b.length) d).1).pen)), vI .i64 (((wfR n ((ed : Nat) : Int) (formQ (R.length : Int) b) (cntQ b.length) d).1).fuse), vB (((wfR n ((ed : Nat) : Int) (formQ (R.length : Int) b) (cntQ b.length) d).1).off)], true⟩), (2, rowT 1 rwB (R)), (3, rowK .u8 (((wfR n ((ed : Nat) : Int) (formQ (R.length : Int) b) (cntQ b.length) d).1).dur)), (4, rowK .u8 (b))] rfl (t67 hd hm hB hR he (fl := fl) (F := formQ (R.length : Int) b) (k := cntQ b.length) (formQ_len _ _) (hck) (formQ_by hb) (by omega)) rfl <| Vs (As rfl) <| Nx <| Sq <| Rg <| Vs (Mv rfl) <| Vs (Bi rfl) <| Nx <| Cd rfl (fun hc5 => ?_) (fun hc5 => ?_)
          · replace hc5 := bne_iff_ne.1 hc5
            exfalso; rw [ap_err (j := ⟨d, R, ed, fl⟩) (by omega) hc3 hfull hc5] at h; exact hc5 h
          · replace hc5 := bne_eq_false_iff_eq.1 hc5
            refine Ks <| Tg <| Sq <| ?_
            have e : (apR n ⟨d, R, ed, fl⟩ b) = (⟨(wfR n ((ed : Nat) : Int) (formQ (R.length : Int) b) (cntQ b.length) d).1, R ++ [b], ed + cntQ b.length, fl⟩, 0) := ap_ok (j := ⟨d, R, ed, fl⟩) (by omega) hc3 hfull hc5
            refine Rd (by kernel_rfl) <| Vl (Mv rfl) <| Vl (Mv rfl) <| Vl (Nk rfl) <| Vl (Fa TF104_1 rfl) <| Vl (Ld TA43 rfl) <| Vl (Mv rfl) <| Gl [4] [] [(4, some (rowK .u8 (b)))] rfl (t69o (b := b) (by omega)) rfl <| Vl (sq1 58 rfl (.buildS _ 1 _ 27 [.b (slK .u8 (b))] 1 _ [.b (slK .u8 (b))] rfl TU43 TZ27 TS27 (List.cons_ne_nil _ _) (by decide) rfl rfl)) <| Vl (Aq1 59 TU43 TS27 TB27 TN27 (x1 := b) (f := rwB) rfl rwB_len (hl := (by omega)) (hm := (by simp only [maxLen]; omega))) <| Vl (Nk rfl) <| Vl (Fa TF104_1 rfl) <| Vl (St TS43 rfl) <| ?_
            refine VLog.nil ⟨by kernel_rfl, ?_⟩
            refine Tg <| Sq <| Rd (by kernel_rfl) <| Vl (Mv rfl) <| Vl (Nk rfl) <| Vl (Fa TF104_2 rfl) <| Vl (Ld TA3 rfl) <| Vl (Mv rfl) <| Vl (Lo TU27 rfl) <| Vl (Cf rfl rfl (t65 (by omega)) rfl) <| Vl (Bo rfl adI) <| Vl (Nk rfl) <| Vl (Fa TF104_2 rfl) <| Vl (St TS3 rfl) <| ?_
            refine VLog.nil ⟨by kernel_rfl, ?_⟩
            exact Tg <| Sq <| Rg <| Vs (As rfl) <| Nx <| Re <| Gg (L1' := [some (⟨4, [.ptr 1 (0), .row 5 (R.length + 1) none, vI .i64 ((((ed : Nat) : Int) + ((cntQ ((b.length : Nat)) : Nat) : Int))), vB (fl)], true⟩), some (⟨4, [.own 3 (n), .b (slT 2 penB (((wfR n ((ed : Nat) : Int) (formQ (R.length : Int) b) (cntQ b.length) d).1).pen)), vI .i64 (((wfR n ((ed : Nat) : Int) (formQ (R.length : Int) b) (cntQ b.length) d).1).fuse), vB (((wfR n ((ed : Nat) : Int) (formQ (R.length : Int) b) (cntQ b.length) d).1).off)], true⟩), none, some (rowK .u8 (((wfR n ((ed : Nat) : Int) (formQ (R.length : Int) b) (cntQ b.length) d).1).dur)), some (rowK .u8 (b)), some (rowT 1 rwB ((R) ++ [b]))]) [0, 1, 2, 3, 4, 59] (.val _ _ _ _ _ rfl rfl rfl .nil) (.one _) rfl (by rw [e]; rfl)
theorem j43O {n m : Nat} {j : Jn} {b : List Int} (hj : j.Ok n m) (hm : m ≤ 70000) (hb : ByR b) (hbl : b.length ≤ 100000) (h : (apR n j b).2 = 0) : VG Try.prog 43 [.ptr 0 0, .own 4 b.length] [⟨4, [.ptr 1 (0), .row 2 ((j.R).length) none, vI .i64 ((j.ed : Int)), vB (j.fl)], true⟩, ⟨4, [.own 3 (n), .b (slT 2 penB ((j.d).pen)), vI .i64 ((j.d).fuse), vB ((j.d).off)], true⟩, rowT 1 rwB (j.R), rowK .u8 ((j.d).dur), rowK .u8 (b)] (vI .i64 0) [some (⟨4, [.ptr 1 (0), .row 5 (((apR n j b).1).R.length) none, vI .i64 (((((apR n j b).1)).ed : Int)), vB ((((apR n j b).1)).fl)], true⟩), some (⟨4, [.own 3 (n), .b (slT 2 penB (((((apR n j b).1)).d).pen)), vI .i64 (((((apR n j b).1)).d).fuse), vB (((((apR n j b).1)).d).off)], true⟩), none, some (rowK .u8 (((((apR n j b).1)).d).dur)), some (rowK .u8 (b)), some (rowT 1 rwB (((apR n j b).1).R))] := by
  have hRl := hj.le; have hRe := hj.en; have hn := hj.d.n1024
  have s := apR_shape h
  have t := t43O hj.d (by omega) hj.b (R := j.R) (by omega) (ed := j.ed) (by omega) (fl := j.fl) hb hbl (by omega) h
  rw [s.1, s.2.1, s.2.2.1, List.length_append]
  exact t
end Go.VL

/- Walks over the Go functions, printed by a program of this session over the kit's print, and by hand. -/
set_option linter.unusedVariables false
set_option linter.unusedSimpArgs false
set_option maxRecDepth 100000
namespace Go.VL
open Go.Proofs
theorem t45O {n m : Nat} {d : Dk} (hd : d.Ok n m) (hm : m ≤ 100000) (hB : d.By) {R : List (List Int)} (hR : R.length ≤ 2000) {ed : Nat} (he : ed ≤ 2000) {fl : Bool} (hRn : ∀ r ∈ R, RecOk r) (hR1 : R.length = 1) : VG Try.prog 45 [.ptr 0 (0)] [⟨4, [.ptr 1 (0), .row 2 (R.length) none, vI .i64 ((ed : Int)), vB (fl)], true⟩, ⟨4, [.own 3 (n), .b (slT 2 penB (d.pen)), vI .i64 (d.fuse), vB (d.off)], true⟩, rowT 1 rwB (R), rowK .u8 (d.dur)] (.own 4 1) [some (⟨4, [.ptr 1 (0), .row 2 (R.length) none, vI .i64 ((ed : Int)), vB (fl)], true⟩), some (⟨4, [.own 3 (n), .b (slT 2 penB (d.pen)), vI .i64 (d.fuse), vB (d.off)], true⟩), some (rowT 1 rwB (R)), some (rowK .u8 (d.dur)), some (⟨1, [.own 5 ((R.getD 0 []).length)], true⟩), some (rowK .u8 ((R.getD 0 [])))] := by
  have hlen := hd.len
  have hlo := hd.lo
  have hhi := hd.hi
  have hwh := hd.whole
  have hpl := hd.pen
  obtain ⟨hf1, hf2⟩ := hd.fu
  refine VGp_of P_mixed Try.func45 rfl rfl (by kernel_rfl) (by simp) rfl <| Sq <| Rg <| Vs (As rfl) <| Nx <| Sq <| Sq <| Rg <| Vs (Mv rfl) <| Vs (Pe TU62 rfl) <| Nx <| Cz rfl <| Ks <| Tg <| Sq <| Rg <| Vs (An rfl) <| Nx <| Sq <| Sq <| Rg <| Vs (Mv rfl) <| Vs (Nk rfl) <| Vs (Fa TF104_1 rfl) <| Vs (Ld TA43 rfl) <| Vs (Lv (m := R.length) TU43 rfl) <| Vs (Mv rfl) <| Nx <| Bk <| VCode.loop (α := ((Unit)) ⊕ ((Unit))) (fun x_ => match x_ with | .inl (u) => (4, sl [(3, .b .nil), (11, .row 2 (R.length) none), (12, vI .i64 (((R.length : Nat) : Int))), (13, vI .i64 (((0 : Nat) : Int)))], en [(0, ⟨4, [.ptr 1 (0), .row 2 (R.length) none, vI .i64 ((ed : Int)), vB (fl)], true⟩), (1, ⟨4, [.own 3 (n), .b (slT 2 penB (d.pen)), vI .i64 (d.fuse), vB (d.off)], true⟩), (2, rowT 1 rwB (R)), (3, rowK .u8 (d.dur))]) | .inr (u) => (92, sl [(3, .own 90 (1)), (11, .row 2 (R.length) none), (12, vI .i64 (((R.length : Nat) : Int))), (13, vI .i64 (((1 : Nat) : Int)))], en [(0, ⟨4, [.ptr 1 (0), .row 2 (R.length) none, vI .i64 ((ed : Int)), vB (fl)], true⟩), (1, ⟨4, [.own 3 (n), .b (slT 2 penB (d.pen)), vI .i64 (d.fuse), vB (d.off)], true⟩), (2, rowT 1 rwB (R)), (3, rowK .u8 (d.dur)), (90, ⟨1, [.own 91 ((R.getD 0 []).length)], true⟩), (91, rowK .u8 ((R.getD 0 [])))])) (fun x_ => match x_ with | .inl (u) => True | .inr (u) => True) (fun x_ => match x_ with | .inl (u) => 2 | .inr (u) => 1) (.inl (())) trivial (Wt []) ?_
  rintro (u | u) hok2
  · change VCode _ _ _ 4 (sl _) (en _) _
    refine Sq <| Rg <| Vs (Kb (show decide (((0 : Nat) : Int) < ((R.length : Nat) : Int)) = true from (decide_eq_true (by omega))) (Bi rfl)) <| Nx <| Sq <| Cy rfl <| Ks <| Tg <| Sq <| Bk <| Sq <| ?_
    have hr := hRn _ (getD_mem' (x := []) (show 0 < R.length by omega))
    exact Rg <| Vs (ITq TU43 TS27 rfl) <| Vs (L1T rwB_len TA27 rfl (gd (d := []) (j := (0 : Nat)) (by first | omega | (simp; done) | (simp; omega))) rfl) <| Vs (As rfl) <| Nx <| Rg <| Vs (Mv rfl) <| Vs (Mv rfl) <| Gm 10 [] [] (v := .own 10 (((R).getD ((0 : Nat)) []).length)) [(0, ⟨4, [.ptr 1 (0), .row 2 (R.length) none, vI .i64 ((ed : Int)), vB (fl)], true⟩), (1, ⟨4, [.own 3 (n), .b (slT 2 penB (d.pen)), vI .i64 (d.fuse), vB (d.off)], true⟩), (2, rowT 1 rwB (R)), (3, rowK .u8 (d.dur)), (10, rowK .u8 ((R).getD ((0 : Nat)) []))] rfl (t69n (b := (R).getD ((0 : Nat)) []) (hr.1) (by have := hr.2.1; omega)) rfl <| Vs (sq1 12 rfl (.buildS _ 1 _ 27 [.own 10 (((R).getD ((0 : Nat)) []).length)] 1 _ [.own 10 (((R).getD ((0 : Nat)) []).length)] rfl TU43 TZ27 TS27 (List.cons_ne_nil _ _) (by decide) rfl rfl)) <| Vs (sq1 13 rfl (.appendNO _ _ _ _ _ _ _ _ rfl rfl rfl (Nat.le_of_ble_eq_true rfl) (by decide) TU43 TS27 TB27 TN27 (by decide) (by decide))) <| Vs (As rfl) <| VList.nil <| Ig <| Tg <| Rg <| Vs (Bo rfl adI) <| Vs (Mv rfl) <| VList.nil <| Go (.inr (())) trivial (Wt [(90, 13), (91, 10)])
  · change VCode _ _ _ 92 (sl _) (en _) _
    exact Sq <| Rg <| Vs (Kb (show decide (((1 : Nat) : Int) < ((R.length : Nat) : Int)) = false from (decide_eq_false (by omega))) (Bi rfl)) <| Nx <| Sq <| Cz rfl <| Ke <| Te <| Oe <| Ih <| Tg <| Sq <| Rg <| Vs (Mv rfl) <| Vs (As rfl) <| Nx <| Re <| Gg (L1' := [some (⟨4, [.ptr 1 (0), .row 2 (R.length) none, vI .i64 ((ed : Int)), vB (fl)], true⟩), some (⟨4, [.own 3 (n), .b (slT 2 penB (d.pen)), vI .i64 (d.fuse), vB (d.off)], true⟩), some (rowT 1 rwB (R)), some (rowK .u8 (d.dur)), some (⟨1, [.own 5 ((R.getD 0 []).length)], true⟩), some (rowK .u8 ((R.getD 0 [])))]) [0, 1, 2, 3, 90, 91] (.name _ _ (.own 4 (1)) _ _ rfl rfl rfl .nil) (.one _) rfl rfl
end Go.VL

/- Walks over the Go functions, printed by a program of this session over the kit's print, and by hand. -/
set_option linter.unusedVariables false
set_option linter.unusedSimpArgs false
set_option maxRecDepth 100000
namespace Go.VL
open Go.Proofs
theorem t42O {n m : Nat} {d : Dk} (hd : d.Ok n m) (hm : m ≤ 80000) (hB : d.By) (h : (opR n (n / 64 + 1) [] 0 d).2.2.2 = 0) (h1 : (opR n (n / 64 + 1) [] 0 d).2.1.length = 1) : VG Try.prog 42 [.ptr 0 (0)] [⟨4, [.own 1 (n), .b (slT 2 penB (d.pen)), vI .i64 (d.fuse), vB (d.off)], true⟩, rowK .u8 (d.dur)] (.tup [.ptr 2 0, .own 3 1, vI .i64 0]) [some (⟨4, [.own 1 (n), .b (slT 2 penB (((opR n (n / 64 + 1) [] 0 d).1).pen)), vI .i64 (((opR n (n / 64 + 1) [] 0 d).1).fuse), vB (((opR n (n / 64 + 1) [] 0 d).1).off)], true⟩), some (rowK .u8 (((opR n (n / 64 + 1) [] 0 d).1).dur)), some ⟨4, [.ptr 0 0, .row 4 ((opR n (n / 64 + 1) [] 0 d).2.1).length none, vI .i64 ((opR n (n / 64 + 1) [] 0 d).2.2.1 : Int), vB false], true⟩, some (⟨1, [.own 5 ((((opR n (n / 64 + 1) [] 0 d).2.1).getD 0 []).length)], true⟩), some (rowT 1 rwB ((opR n (n / 64 + 1) [] 0 d).2.1)), some (rowK .u8 (((opR n (n / 64 + 1) [] 0 d).2.1).getD 0 []))] := by
  have hlen := hd.len
  have hlo := hd.lo
  have hhi := hd.hi
  have hwh := hd.whole
  have hpl := hd.pen
  obtain ⟨hf1, hf2⟩ := hd.fu
  refine VGp_of P_mixed Try.func42 rfl rfl (by kernel_rfl) (by simp) rfl <| Sq <| Rg <| Vs (As rfl) <| Vs (As rfl) <| Vs (As rfl) <| Nx <| Sq <| Sq <| Rg <| Vs (Mv rfl) <| Vs (Pe TU22 rfl) <| Nx <| Cz rfl <| Ks <| Tg <| Sq <| Rg <| Vs (Mg 7 1 rfl) <| Vs (BdN TQ104 rfl) <| Vs (Bx 9 rfl) <| Vs (As rfl) <| VList.nil <| Cx (n1 := 10) (S1 := [(0, .ptr 0 (0)), (5, .ptr 9 (0))]) (L1 := [(0, ⟨4, [.own 1 (n), .b (slT 2 penB (d.pen)), vI .i64 (d.fuse), vB (d.off)], true⟩), (1, rowK .u8 (d.dur)), (7, rowT 1 rwB ([])), (9, ⟨4, [.ptr 0 (0), .row 7 (0) none, vI .i64 (0), vB (false)], true⟩)]) (Weak.conv (nv := []) ⟨⟨⟨_, rfl, .inl rfl⟩, rfl⟩, ⟨⟨_, rfl, .inl rfl⟩, rfl⟩, trivial⟩ ⟨⟨⟨_, rfl, rfl, rfl, ⟨.inl rfl, .inl rfl, .inl rfl, .inl rfl, trivial⟩⟩, Nat.le_of_ble_eq_true rfl, cells_of rfl⟩, ⟨⟨_, rfl, rfl, rfl, Two.same (fun _ => .inl rfl) _⟩, Nat.le_of_ble_eq_true rfl, row_cellsK⟩, ⟨⟨_, rfl, rfl, rfl, Two.same (fun _ => .inl rfl) _⟩, Nat.le_of_ble_eq_true rfl, rowT_cells⟩, ⟨⟨_, rfl, rfl, rfl, ⟨.inl rfl, (cv_nil'), .inl rfl, .inl rfl, trivial⟩⟩, Nat.le_of_ble_eq_true rfl, cells_of rfl⟩, trivial⟩ (Nat.le_of_ble_eq_true rfl)) <| Bk <| VCode.loop (α := (Nat) × (Dk) × (List (List Int)) × (Nat)) (fun x_ => match x_ with | (f, q, R, ed) => (91, sl [(0, .ptr 0 (0)), (5, .ptr 9 (0))], en [(0, ⟨4, [.own 1 (n), .b (slT 2 penB (q.pen)), vI .i64 (q.fuse), vB (q.off)], true⟩), (1, rowK .u8 (q.dur)), (9, ⟨4, [.ptr 0 (0), .row 90 (R.length) none, vI .i64 ((ed : Int)), vB (false)], true⟩), (90, rowT 1 rwB (R))])) (fun x_ => match x_ with | (f, q, R, ed) => q.Ok n m ∧ q.By ∧ (∀ r ∈ R, RecOk r) ∧ R.length ≤ ed ∧ ed ≤ n / 64 ∧ n / 64 + 1 ≤ ed + f ∧ opR n f R ed q = (opR n (n / 64 + 1) [] 0 d)) (fun x_ => match x_ with | (f, q, R, ed) => f) (n / 64 + 1, d, [], 0) ⟨hd, hB, fun r hr => (by cases hr), Nat.le_refl _, Nat.zero_le _, by omega, rfl⟩ (Wt [(90, 7)]) ?_
  rintro ⟨f, q, R, ed⟩ hok
  obtain ⟨hq, hqB, hRn, hRe, hen, hfu, hI⟩ := hok
  change VCode _ _ _ 91 (sl _) (en _) _
  refine Bk <| Sq <| Rg <| Vs (Mv rfl) <| ?_
  rcases nx_cases (k := R.length) (ed := ed) hq hqB with h1 | ⟨h0, hr, hF, hfit⟩ | ⟨h0, hr, hF⟩ | ⟨h0, hr, hF, hFB, hFl, hlt⟩
  · skip
    exfalso
    rw [op_err h1 (by omega)] at hI
    rw [← hI] at h
    exact h1 h
  · skip
    have hv : nxV (nxR n R.length ed q) = .b (.tup [slK .u8 (nxR n R.length ed q).2.1, slK .u8 (nxR n R.length ed q).2.2.1, numB .i64 0]) := by simp only [nxV, nilO_of hr.1, nilO_of hF, h0]
    have h64 := t64 hq (by omega) hqB (R := R) (by omega) (ed := ed) (by omega) (fl := false)
    rw [hv] at h64
    have hcl := cntQ_le (nxR n R.length ed q).2.1.length
    have hcl2 : cntQ (nxR n R.length ed q).2.1.length ≤ 66 := by have := hr.2.1; unfold cntQ; omega
    rw [op_rec h0 hr.1 (by omega)] at hI
    have hqo := nx_ok (k := R.length) (ed := ed) hq hqB
    refine Gm 92 [9, 0, 90, 1] [] (v := .b (.tup [slK .u8 ((nxR n R.length ed q).2.1), slK .u8 ((nxR n R.length ed q).2.2.1), numB .i64 (0)])) [(0, ⟨4, [.own 1 (n), .b (slT 2 penB (((nxR n R.length ed q).1).pen)), vI .i64 (((nxR n R.length ed q).1).fuse), vB (((nxR n R.length ed q).1).off)], true⟩), (1, rowK .u8 (((nxR n R.length ed q).1).dur)), (9, ⟨4, [.ptr 0 (0), .row 90 (R.length) none, vI .i64 (((ed : Nat) : Int)), vB (false)], true⟩), (90, rowT 1 rwB (R))] rfl (h64) rfl <| Vs (Mv rfl) <| Vs (Xt rfl) <| Vs (Xt rfl) <| Vs (Xt rfl) <| Vs (As rfl) <| Vs (As rfl) <| Vs (As rfl) <| Nx <| Sq <| Sq <| Rg <| Vs (Mv rfl) <| Vs (Bi (c := .bool false) rfl) <| Nx <| Cz rfl <| Ks <| Tg <| Sq <| Sq <| Rg <| Vs (Mv rfl) <| Vs (Ne2 TU27 rfl (fun h => hr.1 (by simpa using h))) <| Nx <| Cy rfl <| Sq <| Rg <| Vs (Mv rfl) <| Vs (Mv rfl) <| Vs (Nk rfl) <| Vs (Fa TF104_1 rfl) <| Vs (Ld TA43 rfl) <| Vs (Mv rfl) <| Vs (sq1 110 rfl (.buildS _ 1 _ 27 [.b (slK .u8 ((nxR n R.length ed q).2.1))] 1 _ [.b (slK .u8 ((nxR n R.length ed q).2.1))] rfl TU43 TZ27 TS27 (List.cons_ne_nil _ _) (by decide) rfl rfl)) <| Vs (Aq1 111 TU43 TS27 TB27 TN27 (x1 := (nxR n R.length ed q).2.1) (f := rwB) rfl rwB_len (hl := (by omega)) (hm := (by simp only [maxLen]; omega))) <| Vs (Nk rfl) <| Vs (Fa TF104_1 rfl) <| Vs (St TS43 rfl) <| Nx <| Sq <| Rd (by kernel_rfl) <| Vl (Mv rfl) <| Vl (Nk rfl) <| Vl (Fa TF104_2 rfl) <| Vl (Ld TA3 rfl) <| Vl (Mv rfl) <| Vl (Ls TK27 rfl) <| Vl (Cf rfl rfl (t65 (by have := hr.2.1; omega)) rfl) <| Vl (Bo rfl adI) <| Vl (Nk rfl) <| Vl (Fa TF104_2 rfl) <| Vl (St TS3 rfl) <| ?_
    refine VLog.nil ⟨by kernel_rfl, ?_⟩
    refine Tg <| Ke <| Te <| Ih <| ?_
    rw [show R.length + 1 = (R ++ [(nxR n R.length ed q).2.1]).length by simp]
    exact Go (f - 1, (nxR n R.length ed q).1, R ++ [(nxR n R.length ed q).2.1], ed + cntQ (nxR n R.length ed q).2.1.length) ⟨hqo.1, hqo.2, fun r h => (by rcases List.mem_append.1 h with h | h; exact hRn r h; exact (List.mem_singleton.1 h) ▸ hr), by simp only [List.length_append, List.length_singleton]; omega, hfit, by omega, hI⟩ (Wt [(90, 111)])
  · skip
    have hv : nxV (nxR n R.length ed q) = .b (.tup [.nil, .nil, numB .i64 0]) := by simp only [nxV, hr, hF, h0]; rfl
    have h64 := t64 hq (by omega) hqB (R := R) (by omega) (ed := ed) (by omega) (fl := false)
    rw [hv] at h64
    have e : (opR n (n / 64 + 1) [] 0 d) = ((nxR n R.length ed q).1, R, ed, 0) := by rw [← hI, op_end h0 hr (.inl hF) (by omega)]
    have hqo := nx_ok (k := R.length) (ed := ed) hq hqB
    exact Gm 92 [9, 0, 90, 1] [] (v := .b (.tup [.nil, .nil, numB .i64 (0)])) [(0, ⟨4, [.own 1 (n), .b (slT 2 penB (((nxR n R.length ed q).1).pen)), vI .i64 (((nxR n R.length ed q).1).fuse), vB (((nxR n R.length ed q).1).off)], true⟩), (1, rowK .u8 (((nxR n R.length ed q).1).dur)), (9, ⟨4, [.ptr 0 (0), .row 90 (R.length) none, vI .i64 (((ed : Nat) : Int)), vB (false)], true⟩), (90, rowT 1 rwB (R))] rfl (h64) rfl <| Vs (Mv rfl) <| Vs (Xt rfl) <| Vs (Xt rfl) <| Vs (Xt rfl) <| Vs (As rfl) <| Vs (As rfl) <| Vs (As rfl) <| Nx <| Sq <| Sq <| Rg <| Vs (Mv rfl) <| Vs (Bi (c := .bool false) rfl) <| Nx <| Cz rfl <| Ks <| Tg <| Sq <| Sq <| Rg <| Vs (Mv rfl) <| Vs (Nn2 TU27 rfl) <| Nx <| Cz rfl <| Ks <| Tg <| Sq <| Sq <| Rg <| Vs (Mk 104 TK27 rfl) <| Vs (As rfl) <| Nx <| Sq <| Rg <| Vs (Mv rfl) <| Vs (Nn2 TU27 rfl) <| Vs (Mv rfl) <| Sk rfl <| Sk rfl <| Sk rfl <| Sk rfl <| Vs (Pk rfl) <| Nx <| Cz rfl <| Ks <| Tg <| Sq <| Rg <| Vs (Mv rfl) <| Vs (Mv rfl) <| Gm 116 [9, 0, 90, 1] [] (v := .own 116 (1)) [(0, ⟨4, [.own 1 (n), .b (slT 2 penB (((nxR n R.length ed q).1).pen)), vI .i64 (((nxR n R.length ed q).1).fuse), vB (((nxR n R.length ed q).1).off)], true⟩), (1, rowK .u8 (((nxR n R.length ed q).1).dur)), (9, ⟨4, [.ptr 0 (0), .row 90 (R.length) none, vI .i64 (((ed : Nat) : Int)), vB (false)], true⟩), (90, rowT 1 rwB (R)), (104, rowK .u8 (List.replicate 64 0)), (116, ⟨1, [.own 117 ((R.getD 0 []).length)], true⟩), (117, rowK .u8 (R.getD 0 []))] rfl (t45O hqo.1 (by omega) hqo.2 (R := R) (by omega) (ed := ed) (by omega) (fl := false) hRn (by rw [e] at h1; exact h1)) rfl <| Vs (As rfl) <| Vs (As rfl) <| Vs (As rfl) <| Nx <| Re <| Iq <| Or <| Iq <| Gg (L1' := [some (⟨4, [.own 1 (n), .b (slT 2 penB (((nxR n R.length ed q).1).pen)), vI .i64 (((nxR n R.length ed q).1).fuse), vB (((nxR n R.length ed q).1).off)], true⟩), some (rowK .u8 (((nxR n R.length ed q).1).dur)), some (⟨4, [.ptr 0 (0), .row 4 (R.length) none, vI .i64 (((ed : Nat) : Int)), vB (false)], true⟩), some (⟨1, [.own 5 ((R.getD 0 []).length)], true⟩), some (rowT 1 rwB (R)), some (rowK .u8 (R.getD 0 []))]) [0, 1, 9, 116, 90, 117] (.name _ _ (.ptr 2 (0)) _ _ rfl rfl rfl (.name _ _ (.own 3 (1)) _ _ rfl rfl rfl (.name _ _ (vI .i64 (0)) _ _ rfl rfl rfl .nil))) (.tup _ rfl rfl) rfl (by rw [e])
  · skip
    have hv : nxV (nxR n R.length ed q) = .b (.tup [.nil, slK .u8 (nxR n R.length ed q).2.2.1, numB .i64 0]) := by simp only [nxV, nilO_of hF, hr, h0]; rfl
    have h64 := t64 hq (by omega) hqB (R := R) (by omega) (ed := ed) (by omega) (fl := false)
    rw [hv] at h64
    have hqo := nx_ok (k := R.length) (ed := ed) hq hqB
    refine Gm 92 [9, 0, 90, 1] [] (v := .b (.tup [.nil, slK .u8 ((nxR n R.length ed q).2.2.1), numB .i64 (0)])) [(0, ⟨4, [.own 1 (n), .b (slT 2 penB (((nxR n R.length ed q).1).pen)), vI .i64 (((nxR n R.length ed q).1).fuse), vB (((nxR n R.length ed q).1).off)], true⟩), (1, rowK .u8 (((nxR n R.length ed q).1).dur)), (9, ⟨4, [.ptr 0 (0), .row 90 (R.length) none, vI .i64 (((ed : Nat) : Int)), vB (false)], true⟩), (90, rowT 1 rwB (R))] rfl (h64) rfl <| Vs (Mv rfl) <| Vs (Xt rfl) <| Vs (Xt rfl) <| Vs (Xt rfl) <| Vs (As rfl) <| Vs (As rfl) <| Vs (As rfl) <| Nx <| Sq <| Sq <| Rg <| Vs (Mv rfl) <| Vs (Bi (c := .bool false) rfl) <| Nx <| Cz rfl <| Ks <| Tg <| Sq <| Sq <| Rg <| Vs (Mv rfl) <| Vs (Nn2 TU27 rfl) <| Nx <| Cz rfl <| Ks <| Tg <| Sq <| Sq <| Rg <| Vs (Mk 104 TK27 rfl) <| Vs (As rfl) <| Nx <| Sq <| Rg <| Vs (Mv rfl) <| Vs (Ne2 TU27 rfl (fun h => hF (by simpa using h))) <| Vs (Mv rfl) <| Vs (Mv rfl) <| Vs (Mv rfl) <| Vs (Cf rfl (Rk rfl (Rk (Rr rfl) Rz)) (t66 (A := (nxR n R.length ed q).2.2.1) (B := List.replicate 64 0) (hFB) (zer_by)) rfl) <| Vs (Un rfl) <| Vs (Pk rfl) <| Nx <| Cd rfl (fun hc1 => ?_) (fun hc1 => ?_)
    · replace hc1 := of_decide_eq_false (bnot_t hc1)
      rw [op_zero h0 hr hF hc1 (by omega)] at hI
      refine Sq <| Sq <| Rg <| Vs (Mv rfl) <| Vs (Mv rfl) <| Vs (Nk rfl) <| Vs (Fa TF104_2 rfl) <| Vs (Ld TA3 rfl) <| Vs (Mv rfl) <| Gm 120 [0, 1] [104] (v := vI .i64 ((((nxR n R.length ed q).1).writeR n (((ed : Nat) : Int)) (List.replicate 64 0)).2)) [(0, ⟨4, [.own 1 (n), .b (slT 2 penB (((((nxR n R.length ed q).1).writeR n (((ed : Nat) : Int)) (List.replicate 64 0)).1).pen)), vI .i64 (((((nxR n R.length ed q).1).writeR n (((ed : Nat) : Int)) (List.replicate 64 0)).1).fuse), vB (((((nxR n R.length ed q).1).writeR n (((ed : Nat) : Int)) (List.replicate 64 0)).1).off)], true⟩), (1, rowK .u8 (((((nxR n R.length ed q).1).writeR n (((ed : Nat) : Int)) (List.replicate 64 0)).1).dur)), (9, ⟨4, [.ptr 0 (0), .row 90 (R.length) none, vI .i64 (((ed : Nat) : Int)), vB (false)], true⟩), (90, rowT 1 rwB (R))] rfl (k20 hqo.1 (by omega) (((ed : Nat) : Int)) (b := List.replicate 64 0) (by simp)) rfl <| Vs (As rfl) <| Nx <| Sq <| Rg <| Vs (Mv rfl) <| Vs (Bi rfl) <| Nx <| Cd rfl (fun hc2 => ?_) (fun hc2 => ?_)
      · replace hc2 := bne_iff_ne.1 hc2
        exfalso; rw [if_neg hc2] at hI; rw [← hI] at h; exact hc2 h
      · replace hc2 := bne_eq_false_iff_eq.1 hc2
        rw [if_pos hc2] at hI
        refine Ks <| Tg <| Sq <| Rg <| Vs (Mv rfl) <| Gm 125 [0, 1] [] (v := vI .i64 (((((nxR n R.length ed q).1).writeR n (((ed : Nat) : Int)) (List.replicate 64 0)).1).syncR.2)) [(0, ⟨4, [.own 1 (n), .b (slT 2 penB ((((((nxR n R.length ed q).1).writeR n (((ed : Nat) : Int)) (List.replicate 64 0)).1).syncR.1).pen)), vI .i64 ((((((nxR n R.length ed q).1).writeR n (((ed : Nat) : Int)) (List.replicate 64 0)).1).syncR.1).fuse), vB ((((((nxR n R.length ed q).1).writeR n (((ed : Nat) : Int)) (List.replicate 64 0)).1).syncR.1).off)], true⟩), (1, rowK .u8 ((((((nxR n R.length ed q).1).writeR n (((ed : Nat) : Int)) (List.replicate 64 0)).1).syncR.1).dur)), (9, ⟨4, [.ptr 0 (0), .row 90 (R.length) none, vI .i64 (((ed : Nat) : Int)), vB (false)], true⟩), (90, rowT 1 rwB (R))] rfl (k25 (hqo.1.write _ _) (by omega)) rfl <| Vs (As rfl) <| Nx <| Sq <| Rg <| Vs (Mv rfl) <| Vs (Bi rfl) <| Nx <| Cd rfl (fun hc3 => ?_) (fun hc3 => ?_)
        · replace hc3 := bne_iff_ne.1 hc3
          exfalso; rw [if_neg hc3] at hI; rw [← hI] at h; exact hc3 h
        · replace hc3 := bne_eq_false_iff_eq.1 hc3
          rw [if_pos hc3] at hI
          have e := hI.symm
          exact Ks <| Tg <| Sq <| Rg <| Vs (Mv rfl) <| Vs (Mv rfl) <| Gm 131 [9, 0, 90, 1] [] (v := .own 131 (1)) [(0, ⟨4, [.own 1 (n), .b (slT 2 penB ((((((nxR n R.length ed q).1).writeR n (((ed : Nat) : Int)) (List.replicate 64 0)).1).syncR.1).pen)), vI .i64 ((((((nxR n R.length ed q).1).writeR n (((ed : Nat) : Int)) (List.replicate 64 0)).1).syncR.1).fuse), vB ((((((nxR n R.length ed q).1).writeR n (((ed : Nat) : Int)) (List.replicate 64 0)).1).syncR.1).off)], true⟩), (1, rowK .u8 ((((((nxR n R.length ed q).1).writeR n (((ed : Nat) : Int)) (List.replicate 64 0)).1).syncR.1).dur)), (9, ⟨4, [.ptr 0 (0), .row 90 (R.length) none, vI .i64 (((ed : Nat) : Int)), vB (false)], true⟩), (90, rowT 1 rwB (R)), (131, ⟨1, [.own 132 ((R.getD 0 []).length)], true⟩), (132, rowK .u8 (R.getD 0 []))] rfl (t45O (hqo.1.write _ _).sync (by omega) ((hqo.2.writeR n _ zer_by).syncR) (R := R) (by omega) (ed := ed) (by omega) (fl := false) hRn (by rw [e] at h1; exact h1)) rfl <| Vs (As rfl) <| Vs (As rfl) <| Vs (As rfl) <| Nx <| Re <| Iq <| Or <| Iq <| Gg (L1' := [some (⟨4, [.own 1 (n), .b (slT 2 penB ((((((nxR n R.length ed q).1).writeR n (((ed : Nat) : Int)) (List.replicate 64 0)).1).syncR.1).pen)), vI .i64 ((((((nxR n R.length ed q).1).writeR n (((ed : Nat) : Int)) (List.replicate 64 0)).1).syncR.1).fuse), vB ((((((nxR n R.length ed q).1).writeR n (((ed : Nat) : Int)) (List.replicate 64 0)).1).syncR.1).off)], true⟩), some (rowK .u8 ((((((nxR n R.length ed q).1).writeR n (((ed : Nat) : Int)) (List.replicate 64 0)).1).syncR.1).dur)), some (⟨4, [.ptr 0 (0), .row 4 (R.length) none, vI .i64 (((ed : Nat) : Int)), vB (false)], true⟩), some (⟨1, [.own 5 ((R.getD 0 []).length)], true⟩), some (rowT 1 rwB (R)), some (rowK .u8 (R.getD 0 []))]) [0, 1, 9, 131, 90, 132] (.name _ _ (.ptr 2 (0)) _ _ rfl rfl rfl (.name _ _ (.own 3 (1)) _ _ rfl rfl rfl (.name _ _ (vI .i64 (0)) _ _ rfl rfl rfl .nil))) (.tup _ rfl rfl) rfl (by rw [e])
    · replace hc1 := of_decide_eq_true (bnot_f hc1)
      rw [op_end h0 hr (.inr hc1) (by omega)] at hI
      have e := hI.symm
      exact Ks <| Tg <| Sq <| Rg <| Vs (Mv rfl) <| Vs (Mv rfl) <| Gm 116 [9, 0, 90, 1] [] (v := .own 116 (1)) [(0, ⟨4, [.own 1 (n), .b (slT 2 penB (((nxR n R.length ed q).1).pen)), vI .i64 (((nxR n R.length ed q).1).fuse), vB (((nxR n R.length ed q).1).off)], true⟩), (1, rowK .u8 (((nxR n R.length ed q).1).dur)), (9, ⟨4, [.ptr 0 (0), .row 90 (R.length) none, vI .i64 (((ed : Nat) : Int)), vB (false)], true⟩), (90, rowT 1 rwB (R)), (104, rowK .u8 (List.replicate 64 0)), (116, ⟨1, [.own 117 ((R.getD 0 []).length)], true⟩), (117, rowK .u8 (R.getD 0 []))] rfl (t45O hqo.1 (by omega) hqo.2 (R := R) (by omega) (ed := ed) (by omega) (fl := false) hRn (by rw [e] at h1; exact h1)) rfl <| Vs (As rfl) <| Vs (As rfl) <| Vs (As rfl) <| Nx <| Re <| Iq <| Or <| Iq <| Gg (L1' := [some (⟨4, [.own 1 (n), .b (slT 2 penB (((nxR n R.length ed q).1).pen)), vI .i64 (((nxR n R.length ed q).1).fuse), vB (((nxR n R.length ed q).1).off)], true⟩), some (rowK .u8 (((nxR n R.length ed q).1).dur)), some (⟨4, [.ptr 0 (0), .row 4 (R.length) none, vI .i64 (((ed : Nat) : Int)), vB (false)], true⟩), some (⟨1, [.own 5 ((R.getD 0 []).length)], true⟩), some (rowT 1 rwB (R)), some (rowK .u8 (R.getD 0 []))]) [0, 1, 9, 116, 90, 117] (.name _ _ (.ptr 2 (0)) _ _ rfl rfl rfl (.name _ _ (.own 3 (1)) _ _ rfl rfl rfl (.name _ _ (vI .i64 (0)) _ _ rfl rfl rfl .nil))) (.tup _ rfl rfl) rfl (by rw [e])
section
variable {n m : Nat} {j : Jn} {b : List Int} {d : Dk}
theorem j45O (hj : j.Ok n m) (hm : m ≤ 70000) (h1 : j.R.length = 1) : VG Try.prog 45 [.ptr 0 0] [⟨4, [.ptr 1 (0), .row 2 ((j.R).length) none, vI .i64 ((j.ed : Int)), vB (j.fl)], true⟩, ⟨4, [.own 3 (n), .b (slT 2 penB ((j.d).pen)), vI .i64 ((j.d).fuse), vB ((j.d).off)], true⟩, rowT 1 rwB (j.R), rowK .u8 ((j.d).dur)] (.own 4 1) [some (⟨4, [.ptr 1 (0), .row 2 ((j.R).length) none, vI .i64 ((j.ed : Int)), vB (j.fl)], true⟩), some (⟨4, [.own 3 (n), .b (slT 2 penB ((j.d).pen)), vI .i64 ((j.d).fuse), vB ((j.d).off)], true⟩), some (rowT 1 rwB (j.R)), some (rowK .u8 ((j.d).dur)), some (⟨1, [.own 5 (((j.R).getD 0 []).length)], true⟩), some (rowK .u8 ((j.R).getD 0 []))] := by
  have hRl := hj.le; have hRe := hj.en; have hn := hj.d.n1024
  exact t45O hj.d (by omega) hj.b (R := j.R) (by omega) (ed := j.ed) (by omega) (fl := j.fl) hj.r h1
theorem j42O (hd : d.Ok n m) (hm : m ≤ 70000) (hB : d.By) (h : (opR n (n / 64 + 1) [] 0 d).2.2.2 = 0) (h1 : (opJ n d).R.length = 1) : VG Try.prog 42 [.ptr 0 0] [⟨4, [.own 1 (n), .b (slT 2 penB (d.pen)), vI .i64 (d.fuse), vB (d.off)], true⟩, rowK .u8 (d.dur)] (.tup [.ptr 2 0, .own 3 1, vI .i64 0])
    [some (⟨4, [.own 1 (n), .b (slT 2 penB (((opJ n d).d).pen)), vI .i64 (((opJ n d).d).fuse), vB (((opJ n d).d).off)], true⟩), some (rowK .u8 (((opJ n d).d).dur)), some (⟨4, [.ptr 0 (0), .row 4 ((opJ n d).R.length) none, vI .i64 (((opJ n d).ed : Int)), vB ((opJ n d).fl)], true⟩), some (⟨1, [.own 5 ((((opJ n d).R).getD 0 []).length)], true⟩), some (rowT 1 rwB ((opJ n d).R)), some (rowK .u8 (((opJ n d).R).getD 0 []))] := t42O hd (by omega) hB h h1
end
end Go.VL

/- The disk: what stays pending, what is returned. -/
set_option linter.unusedVariables false
set_option linter.unusedSimpArgs false
namespace Go.VL
theorem pen_N {n : Nat} {d : Dk} {a : Ca} (hp : d.pen = []) (hn : ¬ (a.kind = 1 ∧ d.off = false ∧ hasS n a.sector = true ∧ (bytM a).length = 64)) : (d.doR n a).1.pen = [] := by
  unfold Dk.doR
  split
  · unfold Dk.readR
    split
    · exact hp
    · split
      · exact hp
      · split <;> (show d.burn.pen = []; rw [burn_pen]; exact hp)
  · split
    · next h =>
      show (d.writeR n a.sector (bytM a)).1.pen = []
      unfold Dk.writeR
      split
      · exact hp
      · next h0 =>
        split
        · exact hp
        · next h1 =>
          exfalso
          refine hn ⟨h, by simpa using h0, ?_, ?_⟩
          · cases hs : hasS n a.sector with
            | true => rfl
            | false => exact absurd (.inl hs) h1
          · exact Classical.byContradiction fun h2 => h1 (.inr h2)
    · split
      · show d.syncR.1.pen = []
        unfold Dk.syncR
        split
        · exact hp
        · split
          · show d.burn.pen = []; rw [burn_pen]; exact hp
          · rfl
      · split
        · exact hp
        · split
          · rfl
          · split
            · show (d.rotR n a.sector a.n).1.pen = []
              unfold Dk.rotR
              split <;> exact hp
            · exact hp
theorem pen_S {n : Nat} {d : Dk} {a : Ca} (hs : a.kind = 4 ∨ (a.kind = 2 ∧ d.off = false ∧ d.out = false)) : (d.doR n a).1.pen = [] := by
  rcases hs with h | ⟨h, h0, h1⟩
  · simp [Dk.doR, h, Dk.bootR]
  · simp [Dk.doR, h, Dk.syncR, h0, h1]
theorem readR_len {n : Nat} {d : Dk} {s : Int} : (d.readR n s).2.1.length ≤ 100000 := by
  unfold Dk.readR
  split
  · exact Nat.zero_le _
  · split
    · exact Nat.zero_le _
    · split
      · exact Nat.zero_le _
      · show (rdS d s).length ≤ 100000
        rw [rdS_len]; decide
theorem doR_len {n : Nat} {d : Dk} {a : Ca} : (d.doR n a).2.1.length ≤ 100000 := by
  unfold Dk.doR
  split
  · exact readR_len
  · repeat (first | exact Nat.zero_le _ | split)
theorem eqL_refl {A : List Int} : eqL A A = true := decide_eq_true rfl
theorem three {p q : Prop} : p ∨ q ∨ (¬ p ∧ ¬ q) := by
  by_cases h : p
  · exact .inl h
  · by_cases h2 : q
    · exact .inr (.inl h2)
    · exact .inr (.inr ⟨h, h2⟩)
end Go.VL

/- Plain laws of a disk: the specification's way of booting; rows written byte by byte. -/
set_option linter.unusedVariables false
set_option linter.unusedSimpArgs false
namespace Go.VL
def hasQ (keep : List Int) (n : Int) : Bool := keep.any (fun x => x == n)
theorem any_take {keep : List Int} {n : Int} {i : Nat} (h : i < keep.length) : (keep.take (i + 1)).any (fun x => x == n) = ((keep.take i).any (fun x => x == n) || (keep.getD i 0 == n)) := by
  rw [List.take_add_one, List.any_append, List.getElem?_eq_getElem h]
  simp [List.getD_eq_getElem?_getD, h]
theorem hasQ_all {keep : List Int} {n : Int} {i : Nat} (h : ¬ i < keep.length) (h2 : (keep.take i).any (fun x => x == n) = false) : hasQ keep n = false := by
  rw [List.take_of_length_le (by omega)] at h2; exact h2
theorem hasQ_at {keep : List Int} {n : Int} {i : Nat} (h : i < keep.length) (h2 : keep.getD i 0 = n) : hasQ keep n = true := by
  rw [List.getD_eq_getElem?_getD, List.getElem?_eq_getElem h] at h2
  exact List.any_eq_true.2 ⟨_, List.getElem_mem h, by simpa using h2⟩
/-- The last of the first j pending writes that is kept. -/
def lastL (keep : List Int) : Nat → Int
  | 0 => -1
  | j + 1 => if hasQ keep (j : Int) = true then (j : Int) else lastL keep j
theorem lastL_lt (keep : List Int) : ∀ j : Nat, -1 ≤ lastL keep j ∧ lastL keep j < j
  | 0 => by simp [lastL]
  | j + 1 => by
    have := lastL_lt keep j
    simp only [lastL]; split <;> omega
theorem lastL_in {keep : List Int} {i : Int} (h0 : 0 ≤ i) (hq : hasQ keep i = true) : ∀ j : Nat, i < (j : Int) → i ≤ lastL keep j
  | 0, h => by omega
  | j + 1, h => by
    simp only [lastL]
    split
    · omega
    · rename_i hn
      by_cases hij : i = (j : Int)
      · subst hij; exact absurd hq hn
      · exact lastL_in h0 hq j (by omega)
theorem lastL_has {keep : List Int} : ∀ j : Nat, lastL keep j = -1 ∨ hasQ keep (lastL keep j) = true
  | 0 => .inl rfl
  | j + 1 => by
    simp only [lastL]
    split
    · rename_i h; exact .inr h
    · exact lastL_has j
theorem kpL_has {keep : List Int} {N : Nat} {i : Nat} (hi : i < N) : ∀ j, j ≤ keep.length → (kpL keep N j).1.getD i false = (keep.take j).any (fun x => x == (i : Int))
  | 0, _ => by simp [kpL, List.getD_eq_getElem?_getD, hi]
  | j + 1, hj => by
    have ih := kpL_has (keep := keep) hi j (by omega)
    have hjk : j < keep.length := by omega
    rw [any_take hjk, ← ih]
    by_cases h1 : keep.getD j 0 ≥ 0
    · by_cases h2 : keep.getD j 0 < (N : Int)
      · rw [kpL_in h1 h2]
        simp only [List.getD_eq_getElem?_getD]
        rw [List.getElem?_set]
        by_cases h3 : (keep[j]?.getD 0).toNat = i
        · have h1' : 0 ≤ keep[j]?.getD 0 := by simpa [List.getD_eq_getElem?_getD] using h1
          rw [if_pos h3, if_pos (by rw [kpL_len]; omega)]
          have : keep[j]?.getD 0 = (i : Int) := by omega
          simp [this]
        · have h1' : 0 ≤ keep[j]?.getD 0 := by simpa [List.getD_eq_getElem?_getD] using h1
          rw [if_neg h3]
          have : (keep[j]?.getD 0 == (i : Int)) = false := by simp; omega
          simp [this]
      · rw [kpL_hi h2]
        have : (keep.getD j 0 == (i : Int)) = false := by simp only [beq_eq_false_iff_ne]; omega
        rw [this, Bool.or_false]
    · rw [kpL_lo h1]
      have : (keep.getD j 0 == (i : Int)) = false := by simp only [beq_eq_false_iff_ne]; omega
      rw [this, Bool.or_false]
theorem kpL_hasQ {keep : List Int} {N i : Nat} (hi : i < N) : (kpL keep N keep.length).1.getD i false = hasQ keep (i : Int) := by
  rw [kpL_has hi _ (Nat.le_refl _), List.take_length]; rfl
theorem kpL_lastI {keep : List Int} {N : Nat} : ∀ j, j ≤ keep.length → -1 ≤ (kpL keep N j).2 ∧ (kpL keep N j).2 < N ∧ ((kpL keep N j).2 = -1 ∨ (kpL keep N j).2 ∈ keep.take j) ∧ ∀ x ∈ keep.take j, 0 ≤ x → x < (N : Int) → x ≤ (kpL keep N j).2
  | 0, _ => by simp [kpL]; omega
  | j + 1, hj => by
    obtain ⟨a1, a2, a3, a4⟩ := kpL_lastI (keep := keep) (N := N) j (by omega)
    have hjk : j < keep.length := by omega
    have et : keep.take (j + 1) = keep.take j ++ [keep.getD j 0] := by
      rw [List.take_add_one, List.getD_eq_getElem?_getD, List.getElem?_eq_getElem hjk]; rfl
    rw [et]
    by_cases h1 : keep.getD j 0 ≥ 0
    · by_cases h2 : keep.getD j 0 < (N : Int)
      · rw [kpL_in h1 h2]
        simp only
        split
        · rename_i h3
          refine ⟨by omega, h2, .inr (by simp), fun x hx h0 hN => ?_⟩
          rcases List.mem_append.1 hx with hx | hx
          · have := a4 x hx h0 hN; omega
          · have := List.mem_singleton.1 hx; omega
        · rename_i h3
          refine ⟨a1, a2, ?_, fun x hx h0 hN => ?_⟩
          · rcases a3 with a3 | a3
            · exact .inl a3
            · exact .inr (List.mem_append_left _ a3)
          · rcases List.mem_append.1 hx with hx | hx
            · exact a4 x hx h0 hN
            · have := List.mem_singleton.1 hx; omega
      · rw [kpL_hi h2]
        refine ⟨a1, a2, ?_, fun x hx h0 hN => ?_⟩
        · rcases a3 with a3 | a3
          · exact .inl a3
          · exact .inr (List.mem_append_left _ a3)
        · rcases List.mem_append.1 hx with hx | hx
          · exact a4 x hx h0 hN
          · have := List.mem_singleton.1 hx; omega
    · rw [kpL_lo h1]
      refine ⟨a1, a2, ?_, fun x hx h0 hN => ?_⟩
      · rcases a3 with a3 | a3
        · exact .inl a3
        · exact .inr (List.mem_append_left _ a3)
      · rcases List.mem_append.1 hx with hx | hx
        · exact a4 x hx h0 hN
        · have := List.mem_singleton.1 hx; omega
theorem kpL_last {keep : List Int} {N : Nat} : (kpL keep N keep.length).2 = lastL keep N := by
  obtain ⟨a1, a2, a3, a4⟩ := kpL_lastI (keep := keep) (N := N) keep.length (Nat.le_refl _)
  rw [List.take_length] at a3 a4
  have hb := lastL_lt keep N
  have up : (kpL keep N keep.length).2 ≤ lastL keep N := by
    rcases a3 with a3 | a3
    · omega
    · by_cases h0 : (kpL keep N keep.length).2 = -1
      · omega
      · exact lastL_in (by omega) (List.any_eq_true.2 ⟨_, a3, by simp⟩) N a2
  have lo : lastL keep N ≤ (kpL keep N keep.length).2 := by
    rcases lastL_has (keep := keep) N with h | h
    · omega
    · by_cases h0 : lastL keep N = -1
      · omega
      · obtain ⟨x, hx, hx2⟩ := List.any_eq_true.1 h
        have hx3 : x = lastL keep N := by simpa using hx2
        have := a4 x hx (by omega) (by omega)
        omega
  omega
theorem boL_beyond {keep : List Int} {K : List Bool} {l torn : Int} {P : List Pen} {D : List Int} {i : Nat} (hK : ∀ q, q < P.length → K.getD q false = hasQ keep (q : Int)) (hi : (i : Int) = lastL keep P.length + 1) : ∀ j, i ≤ j → j ≤ P.length → boL K l torn P D j = boL K l torn P D i
  | 0, h, _ => by have : i = 0 := by omega
                  subst this; rfl
  | j + 1, h, hj => by
    by_cases hij : i = j + 1
    · rw [hij]
    · have hq : hasQ keep (j : Int) = false := by
        cases hq : hasQ keep (j : Int) with
        | false => rfl
        | true => have := lastL_in (by omega) hq P.length (by omega); omega
      rw [boL_no (by rw [hK j (by omega)]; exact hq)]
      exact boL_beyond hK hi j (by omega) (by omega)
theorem rowsD_same {z s : Nat} {D : List Int} (hs : s < z) : (rowsD z D).set s (sec D (s : Int)) = rowsD z D := by
  apply List.ext_getElem?
  intro j
  rw [List.getElem?_set]
  split
  · rename_i h; subst h; rw [if_pos (by rw [rowsD_len]; exact hs), rowsD_at hs]
  · rfl
theorem rowsD_atI {z : Nat} {s : Int} {D : List Int} (h0 : 0 ≤ s) (h : s < z) : (rowsD z D)[s.toNat]? = some (sec D s) := by
  obtain ⟨k, rfl⟩ : ∃ k : Nat, s = k := ⟨s.toNat, by omega⟩
  exact rowsD_at (by omega)
theorem rowsD_sameI {z : Nat} {s : Int} {D : List Int} (h0 : 0 ≤ s) (h : s < z) : (rowsD z D).set s.toNat (sec D s) = rowsD z D := by
  obtain ⟨k, rfl⟩ : ∃ k : Nat, s = k := ⟨s.toNat, by omega⟩
  exact rowsD_same (by omega)
theorem rowsD_putI {z : Nat} {s : Int} {D b : List Int} (hD : D.length = z * 64) (h0 : 0 ≤ s) (h : s < z) : rowsD z (put D s b) = (rowsD z D).set s.toNat (cpw (sec D s) 0 64 b) := by
  obtain ⟨k, rfl⟩ : ∃ k : Nat, s = k := ⟨s.toNat, by omega⟩
  exact rowsD_put hD (by omega)
theorem set_at {A : List (List Int)} {s : Nat} {R : List Int} (h : s < A.length) : (famD (A.set s R))[s]? = some (rowK .u8 R) := famD_at (by rw [List.getElem?_set_self h])
theorem own_rhA {b i m t : Nat} {l : List (Nat × Nat)} {s : Slots} (h1 : b ≤ i) (h2 : i < 100000) (hs : s t = some (.own i m)) : s t = some ((V.own i m).ren (rhA b l)) := by
  rw [hs]; simp only [V.ren, V.ren2, V.ren1, V.ren0, rhA_fam h1 h2]
theorem own_low {i m n1 : Nat} (h : i < n1) : (V.own i m).all.all (fun i => decide (i < n1)) = true := by simp [V.all, V.all2, V.all1, V.all0, h]
theorem Fam.putD {E : Env} {b s : Nat} {A : List (List Int)} {R R' : List Int} (h : Fam E b (famD (A.set s R))) : Fam (setAt E (b + s) (some (rowK .u8 R'))) b (famD (A.set s R')) := by
  rw [← famD_set (R := R)]; exact Fam.put h
theorem Fam.putR {E : Env} {b s : Nat} {A : List (List Int)} {R' : List Int} (h : Fam E b (famD A)) : Fam (setAt E (b + s) (some (rowK .u8 R'))) b (famD (A.set s R')) := by
  have e : famD (A.set s R') = (famD A).set s (rowK .u8 R') := by simp only [famD, List.map_set]
  rw [e]; exact Fam.put h
theorem cpw_snoc {D b : List Int} {i : Nat} (hD : D.length = 64) (hb : b.length = 64) (hi : i < 64) : (cpw D 0 64 (b.take i)).set i (b.getD i 0) = cpw D 0 64 (b.take (i + 1)) := by
  have e : ∀ k, k ≤ 64 → cpw D 0 64 (b.take k) = b.take k ++ D.drop k := fun k hk => by
    have h1 : (b.take k).length = k := by simp; omega
    have h2 : Nat.min k 64 = k := Nat.min_eq_left hk
    simp only [cpw, h1, h2, List.take_zero, List.nil_append, Nat.zero_add]
    rw [List.take_of_length_le (by omega)]
  rw [e i (by omega), e (i + 1) (by omega)]
  apply List.ext_getElem?
  intro j
  rw [List.getElem?_set]
  by_cases hij : i = j
  · subst hij
    rw [if_pos rfl, if_pos (by simp; omega), List.getElem?_append_left (by simp; omega), List.getElem?_take_of_lt (by omega), List.getD_eq_getElem?_getD, List.getElem?_eq_getElem (by omega)]
    rfl
  · rw [if_neg hij]
    by_cases hj : j < i
    · rw [List.getElem?_append_left (by simp; omega), List.getElem?_append_left (by simp; omega), List.getElem?_take_of_lt hj, List.getElem?_take_of_lt (by omega)]
    · rw [List.getElem?_append_right (by simp; omega), List.getElem?_append_right (by simp; omega), List.length_take, List.length_take, List.getElem?_drop, List.getElem?_drop]
      congr 1; omega
theorem sec_getD {D : List Int} {s : Int} {k : Nat} (hk : k < 64) : (sec D s).getD k 0 = D.getD ((s * 64).toNat + k) 0 := by
  rw [List.getD_eq_getElem?_getD, List.getD_eq_getElem?_getD, sec_get, if_pos hk]
theorem hasS_no {z : Nat} {s : Int} (h : s < 0 ∨ s ≥ (z : Int)) : hasS (z * 64) s = false := by
  cases hq : hasS (z * 64) s with
  | false => rfl
  | true =>
    simp only [hasS, Bool.and_eq_true, decide_eq_true_eq] at hq
    omega
theorem hasS_yes {z : Nat} {s : Int} (h0 : ¬ s < 0) (h1 : ¬ s ≥ (z : Int)) : hasS (z * 64) s = true := hasS_of (by omega) (by omega)
/-- The reference's way of reading. -/
theorem rdL_none {s : Int} {P : List Pen} {R0 : List Int} {i : Nat} (h : ¬ (P.getD i w0).1 = s) : rdL s P R0 (i + 1) = rdL s P R0 i := by rw [rdL, if_neg h]
theorem rdL_some {s : Int} {P : List Pen} {R0 : List Int} {i : Nat} (h : (P.getD i w0).1 = s) (hR : R0.length = 64) (h2 : (P.getD i w0).2.length = 64) : rdL s P R0 (i + 1) = (P.getD i w0).2 := by
  rw [rdL, if_pos h]; exact cpw_all (rdL_len hR i) h2
theorem rdS_sec {d : Dk} {s : Int} (h : (sec d.dur s).length = 64) : rdS d s = rdL s d.pen (sec d.dur s) d.pen.length := by
  rw [rdS, cpw_all (by simp) h]
theorem Two.app {p : V → V → Prop} : ∀ {l m l' m' : List V}, Two p l m → Two p l' m' → Two p (l ++ l') (m ++ m')
  | [], [], _, _, _, h => h
  | x :: l, y :: m, _, _, h, h2 => ⟨h.1, Two.app h.2 h2⟩
  | [], _ :: _, _, _, h, _ => h.elim
  | _ :: _, [], _, _, h, _ => h.elim
/-- From one region to the next, values told by their contents, with a family. -/
theorem Weak.convF {k n1 b : Nat} {s : Slots} {E : Env} {nv : List Nat} {S1 : List (Nat × V)} {L1 : List (Nat × Ent)} {F : List Ent}
    (h1 : AllS (fun t y => (∃ x, s t = some x ∧ ConvV (upds E (nv.map (cool E))) x y) ∧ y.all.all (fun i => decide (i < n1)) = true) S1)
    (h2 : AllE (fun i e1 => (∃ e, upds E (nv.map (cool E)) i = some e ∧ e1.sz = e.sz ∧ e1.hot = e.hot ∧ Two (ConvV (upds E (nv.map (cool E)))) e.cells e1.cells) ∧ i < n1 ∧ ∀ v ∈ e1.cells, v.all1.all (fun i => decide (i < n1)) = true) L1)
    (hF : Fam (upds E (nv.map (cool E))) b F) (hP : ∀ e ∈ F, Plain e) (hb : b + F.length ≤ n1) (hk : k ≤ n1) : Weak k s E n1 (sl S1) (enF L1 b F) := by
  refine .inr ⟨nv, sl S1, enF L1 b F, fun i => i, ⟨fun t y ht => ?_, fun i e1 he => ?_⟩, hk, fun _ _ => rfl, fun t x ht => ?_, fun i e he => ?_, fun i j e e' _ _ h => h⟩
  · exact (h1.get _ (lookup_mem ht)).1
  · rcases enF_inv he with h | ⟨j, rfl, h⟩
    · obtain ⟨⟨e, q1, q2, q3, q4⟩, _⟩ := h2.get _ (lookup_mem h)
      exact ⟨e, q1, q2, q3, q4.len, q4.get⟩
    · exact ⟨e1, hF j e1 h, rfl, rfl, rfl, fun j y hj => ⟨y, hj, .inl rfl⟩⟩
  · obtain ⟨_, a2⟩ := h1.get _ (lookup_mem ht)
    exact ⟨by rw [V.ren_id]; exact ht, fun i hi => by simpa using List.all_eq_true.1 a2 i hi⟩
  · rcases enF_inv he with h | ⟨j, rfl, h⟩
    · obtain ⟨_, a2, a3⟩ := h2.get _ (lookup_mem h)
      exact ⟨by rw [Ent.ren_id]; exact he, a2, fun v hv j hj => by simpa using List.all_eq_true.1 (a3 v hv) j hj⟩
    · have hj := (List.getElem?_eq_some_iff.1 h).1
      have hp := hP e (List.mem_of_getElem? h)
      exact ⟨by rw [Ent.ren_id]; exact he, by omega, fun v hv i hi => (hp.low hv hi).elim⟩
theorem CxF {k n n1 b : Nat} {s : Slots} {E : Env} {P : Program} {c : Code} {X : VExit → Nat → Slots → Env → Prop} {S1 : List (Nat × V)} {L1 : List (Nat × Ent)} {F : List Ent} (hw : Weak k s E n1 (sl S1) (enF L1 b F)) (h : VCode P k c n1 (sl S1) (enF L1 b F) X) : Then P k c X .normal n s E := .inr ⟨_, _, _, hw, h⟩
section
variable {P : Program} {ops : Array Oper} {o : Oper} {n : Nat} {s : Slots} {E : Env} {T el by' : Nat} {x y : Operand} {i j d m : Nat} {v w : V} {ik : IntKind} {L : List Int}
theorem ApF (q : Nat) (K : SlT P T el (numB ik 0) by') (h : (runs ops s o.guard, o.dst, o.op, ev s x, E i, ev s y, n) = (some true, some d, .call { callee := .builtin .append, args := #[x, y], argTypes := #[T, T] }, some (.own i 0), some (rowK ik []), some w, q)) (hne : i ∉ w.names)
    (hr : res E w = some (slK ik L)) (hm : L.length * by' ≤ 140737488355328 ∧ L.length ≤ maxLen) : Stp P ops o n s E (q + 1) (setAt s d (some (.own q L.length))) (setAt (setAt E i none) q (some (rowK ik L))) [i, q] := by
  simp only [Prod.mk.injEq] at h
  obtain ⟨h1, h2, h3, h4, h5, h6, rfl⟩ := h
  have := Eff.append (P := P) (id := n) x y T el i 0 (rowK ik []) w (L.map (numB ik)) by' h4 h5 rfl rfl rfl h6 hr hne K.u K.s K.b (by rw [K.z]; rfl) (by simpa using hm.1) (by simpa using hm.2) lits_allK
  rw [List.length_map, Nat.zero_add] at this
  have e : (⟨1, (rowK ik []).cells ++ (L.map (numB ik)).map .b, true⟩ : Ent) = rowK ik L := by simp only [rowK, List.map_map, List.map_nil, List.nil_append]; rfl
  rw [e] at this
  exact st2 h1 h2 (h3 ▸ this)
/-- An element with a name is appended. -/
theorem AoN {α : Type} {sz : Nat} {f : α → List B} {A : List α} {cs : List V} (q : Nat) (hu : P.underlying T = some (.slice el)) (hs : szOf P el = some sz) (hb : (P.info? el).map (·.bytes) = some by') (hz : (zeroOf P el).map List.length = some sz)
    (h : (n, runs ops s o.guard, o.dst, o.op, ev s x, E i, ev s y, E j, Nat.beq j i, cs.length) = (q, some true, some d, .call { callee := .builtin .append, args := #[x, y], argTypes := #[T, T] }, some (.own i m), some (rowT sz f A), some (.own j 1), some ⟨sz, cs, true⟩, false, sz)) (hf : ∀ x, (f x).length = sz) (hA : A.length = m)
    (hm : (m + 1) * by' ≤ 140737488355328 ∧ m + 1 ≤ maxLen) :
    Stp P ops o n s E (q + 1) (setAt s d (some (.own q (m + 1)))) (setAt (setAt E i none) q (some ⟨sz, (rowT sz f A).cells ++ cs, true⟩)) [i, q] := by
  simp only [Prod.mk.injEq] at h
  obtain ⟨rfl, h1, h2, h3, h4, h5, h6, h7, h8, h9⟩ := h
  have hne : j ≠ i := fun e => by rw [e, Nat.beq_refl] at h8; cases h8
  have := Eff.appendOO (P := P) (id := n) x y T el i m (rowT sz f A) j 1 ⟨sz, cs, true⟩ by' h4 h5 rfl (by simp only [rowT, List.length_map, cellsT_len hf, hA]) h6 h7 rfl (by simp [rowT, h9]) hne (by decide) hu hs hb hz hm.1 hm.2
  have e : (⟨(rowT sz f A).sz, (rowT sz f A).cells ++ (⟨sz, cs, true⟩ : Ent).cells.take (1 * (rowT sz f A).sz), true⟩ : Ent) = ⟨sz, (rowT sz f A).cells ++ cs, true⟩ := by
    simp only [rowT, Nat.one_mul]
    rw [List.take_of_length_le (by omega)]
  rw [e] at this
  exact st2 h1 h2 (h3 ▸ this)
end
theorem cpw_nil {D : List Int} : cpw D 0 64 [] = D := by simp [cpw]
theorem sec_set {z : Nat} {D : List Int} {s : Int} {k : Nat} {x : Int} (hD : D.length = z * 64) (h0 : 0 ≤ s) (h : s < z) (hk : k < 64) : rowsD z (D.set ((s * 64).toNat + k) x) = (rowsD z D).set s.toNat ((sec D s).set k x) := by
  apply List.ext_getElem?
  intro j
  rw [List.getElem?_set]
  by_cases hj : j < z
  · rw [rowsD_at hj]
    by_cases hsj : s.toNat = j
    · rw [if_pos hsj, if_pos (by rw [rowsD_len]; omega)]
      have : s = (j : Int) := by omega
      subst this
      congr 1
      apply List.ext_getElem?
      intro q
      rw [sec_get, List.getElem?_set, List.getElem?_set, sec_get, sec_len (by omega) (by omega)]
      by_cases hq : q < 64
      · rw [if_pos hq]
        by_cases hkq : k = q
        · subst hkq; rw [if_pos rfl, if_pos (by omega), if_pos rfl, if_pos hk]
        · rw [if_neg (by omega), if_neg hkq, if_pos hq]
      · rw [if_neg hq, if_neg (by omega), if_neg hq]
    · rw [if_neg hsj, rowsD_at hj]
      congr 1
      apply List.ext_getElem?
      intro q
      rw [sec_get, sec_get]
      by_cases hq : q < 64
      · rw [if_pos hq, if_pos hq, List.getElem?_set, if_neg (by omega)]
      · rw [if_neg hq, if_neg hq]
  · have e1 : (rowsD z (D.set ((s * 64).toNat + k) x))[j]? = none := List.getElem?_eq_none (by rw [rowsD_len]; omega)
    have e2 : (rowsD z D)[j]? = none := List.getElem?_eq_none (by rw [rowsD_len]; omega)
    rw [e1, if_neg (by omega), e2]
end Go.VL

/- Plain laws of a disk: a pending write told by its contents. -/
set_option linter.unusedVariables false
set_option linter.unusedSimpArgs false
namespace Go.VL
theorem pen_conv {p : V → V → Prop} {A : List Pen} {w : Pen} {x y : V} (hp : ∀ x, p x x) (h1 : p x (.b (numB .i64 w.1))) (h2 : p y (.b (slK .u8 w.2))) : Two p ((rowT 2 penB A).cells ++ [x, y]) (rowT 2 penB (A ++ [w])).cells := by
  have e : (rowT 2 penB (A ++ [w])).cells = (rowT 2 penB A).cells ++ [.b (numB .i64 w.1), .b (slK .u8 w.2)] := by
    simp only [rowT, cellsT_append, List.map_append]; rfl
  rw [e]
  exact Two.app (Two.same hp _) ⟨h1, h2, trivial⟩
theorem pen_conv1 {p : V → V → Prop} {w : Pen} {x y : V} (h1 : p x (.b (numB .i64 w.1))) (h2 : p y (.b (slK .u8 w.2))) : Two p [x, y] (rowT 2 penB [w]).cells := ⟨h1, h2, trivial⟩
theorem box_bound {c m z q : Nat} {pl : Nat} {t : Bool} {f : Int} (hm : m = z) (hc : 2 ≤ c) : ∀ v ∈ (⟨4, [.own 1 z, .own (c + z) pl, vB t, vI .i64 f], true⟩ : Ent).cells, ∀ i ∈ v.all1, i < c + m + [q].length := fun v hv i hi => by
  simp only [List.mem_cons, List.not_mem_nil, or_false] at hv
  rcases hv with rfl | rfl | rfl | rfl
  · simp [V.all1, V.all0] at hi; simp; omega
  · simp [V.all1, V.all0] at hi; simp; omega
  · simp [V.all1, V.all0, vB] at hi
  · simp [V.all1, V.all0, vI] at hi
theorem box_ren {c m z q pl : Nat} {t : Bool} {f : Int} {E : Env} {i : Nat} (hm : m = z) (hc : 2 ≤ c) (h : E i = some ⟨4, [.own 1 z, .own q pl, vB t, vI .i64 f], true⟩) : E i = some ((⟨4, [.own 1 z, .own (c + z) pl, vB t, vI .i64 f], true⟩ : Ent).ren (rhE c m [q])) := by
  rw [h]
  have e1 : rhE c m [q] 1 = 1 := by unfold rhE; rw [if_pos (.inl (by omega))]
  have e2 := rhE_new (c := c) (q := q) hm
  simp only [Ent.ren, List.map_cons, List.map_nil, V.ren1, V.ren0, e1, e2, vB, vI]
theorem Fam.cool1 {E : Env} {b q : Nat} {F : List Ent} (h : Fam E b F) (hq : 100000 ≤ q) (hb : b + F.length ≤ 100000) : Fam (upds E ([q].map (cool E))) b F := by
  show Fam (setAt E q _) b F
  exact Fam.skip h (.inr (by omega))
end Go.VL

/- A small program logic over the translated Go code, further part: calls that are lent families, in regions whose order is open. -/
set_option linter.unusedVariables false
set_option linter.unusedSimpArgs false
namespace Go.VL
open Go.RowKit
/-- The table of what the operations look at and write is in order, pair by pair. -/
def PreP (t : List Nat) (j : Nat) (y : List Nat × List Nat) : Nat → List (List Nat × List Nat) → Prop
  | _, [] => True
  | i, x :: r => ((t.getD j 0).testBit i = true ∨ (x.2 = [] ∧ y.2 = []) ∨ (apartIds x.2 (y.1 ++ y.2) = true ∧ apartIds y.2 (x.1 ++ x.2) = true)) ∧ PreP t j y (i + 1) r
def LogP (t : List Nat) : Nat → List (List Nat × List Nat) → List (List Nat × List Nat) → Prop
  | _, _, [] => True
  | j, pre, y :: r => PreP t j y 0 pre ∧ LogP t (j + 1) (pre ++ [y]) r
theorem PreP.get {t : List Nat} {j : Nat} {y : List Nat × List Nat} : ∀ {pre : List (List Nat × List Nat)} {i : Nat}, PreP t j y i pre → ∀ q x, pre[q]? = some x → (t.getD j 0).testBit (i + q) = true ∨ (x.2 = [] ∧ y.2 = []) ∨ (apartIds x.2 (y.1 ++ y.2) = true ∧ apartIds y.2 (x.1 ++ x.2) = true)
  | [], i, _, q, x, h => by simp at h
  | z :: r, i, hp, q, x, h => by
    cases q with
    | zero => simp at h; subst h; exact hp.1
    | succ q => have := PreP.get hp.2 q x (by simpa using h); rwa [show i + 1 + q = i + (q + 1) by omega] at this
theorem LogP.get {t : List Nat} : ∀ {log pre : List (List Nat × List Nat)} {j : Nat}, pre.length = j → LogP t j pre log → ∀ q y, log[q]? = some y → ∀ i x, i < j + q → (pre ++ log)[i]? = some x →
    (t.getD (j + q) 0).testBit i = true ∨ (x.2 = [] ∧ y.2 = []) ∨ (apartIds x.2 (y.1 ++ y.2) = true ∧ apartIds y.2 (x.1 ++ x.2) = true)
  | [], pre, j, hl, _, q, y, h, i, x, hi, hx => by simp at h
  | z :: r, pre, j, hl, hp, q, y, h, i, x, hi, hx => by
    cases q with
    | zero =>
      simp at h; subst h
      rw [List.getElem?_append_left (by omega)] at hx
      have := PreP.get hp.1 i x hx
      simpa using this
    | succ q =>
      have := LogP.get (pre := pre ++ [z]) (j := j + 1) (by simp [hl]) hp.2 q y (by simpa using h) i x (by omega) (by simpa using hx)
      rwa [show j + 1 + q = j + (q + 1) by omega] at this
theorem logOk_of {t : List Nat} {log : List (List Nat × List Nat)} (h : LogP t 0 [] log) : logOk t log = true := by
  unfold logOk
  refine List.all_eq_true.2 fun j hj => List.all_eq_true.2 fun i hi => ?_
  have hj := List.mem_range.1 hj
  have hi := List.mem_range.1 hi
  have e1 := List.getElem?_eq_getElem hj
  have e2 := List.getElem?_eq_getElem (show i < log.length by omega)
  have := LogP.get (pre := []) (j := 0) rfl h j _ e1 i _ (by omega) (show ([] ++ log)[i]? = some log[i] from e2)
  rw [Nat.zero_add] at this
  rw [e1, e2]
  simp only [Bool.or_eq_true]
  rcases this with h | ⟨h1, h2⟩ | ⟨h1, h2⟩
  · exact .inl h
  · right; simp [h1, h2]
  · right; simp [h1, h2]
theorem apart_nil (l : List Nat) : apartIds l ([] ++ []) = true := List.all_eq_true.2 fun x _ => rfl
/-- What a call leaves of its first entries. -/
def UsF (σ : Nat → Nat) (lc : List Nat) : Nat → List (Option Ent) → List (Nat × Option Ent) → Prop
  | _, [], [] => True
  | j, e :: r, p :: us => (p.1 = lc.getD j 0 ∧ p.2 = e.map (Ent.ren σ)) ∧ UsF σ lc (j + 1) r us
  | _, _, _ => False
theorem UsF.eq {σ : Nat → Nat} {lc : List Nat} : ∀ {L : List (Option Ent)} {us : List (Nat × Option Ent)} {j : Nat}, UsF σ lc j L us → us = (List.range L.length).map fun i => (lc.getD (j + i) 0, ((L[i]?).join).map (Ent.ren σ))
  | [], [], j, _ => rfl
  | e :: r, p :: us, j, h => by
    obtain ⟨⟨h1, h2⟩, h3⟩ := h
    rw [List.length_cons, List.range_succ_eq_map, List.map_cons, List.map_map, UsF.eq h3]
    congr 1
    · exact Prod.ext (by simpa using h1) (by simpa using h2)
    · exact List.map_congr_left fun i _ => by simp [Nat.add_assoc, Nat.add_comm 1 i]
  | [], _ :: _, _, h => h.elim
  | _ :: _, [], _, h => h.elim
section
variable {P : Program} {ops : Array Oper} {o : Oper} {r : List Oper} {n : Nat} {s : Slots} {E : Env} {d : Nat} {v : V}
variable {fop : Operand} {args : Array Operand} {ts : Array TypeId} {f : FuncId} {caps vs xs : List V}
theorem upds_fam {lc : List Nat} {b c : Nat} {F : List Ent} {Lc1 N : List (Option Ent)} {usc usn : List (Nat × Option Ent)} (hlc : lc.length = c) (hc : Lc1.length = c) (hnd : lc.Nodup) (hok : okF b lc = true) (hF : Fam E b F) (hP : ∀ e ∈ F, Plain e) (hb : b + F.length ≤ 100000) (hn : 100000 ≤ n) (hnl : ∀ i ∈ lc, i ≠ n) (hN : N.length ≤ 1)
    (h1 : UsF (sgC lc b c F.length n) lc 0 Lc1 usc) (h2 : usn = (List.range N.length).map fun i => (n, ((N[i]?).join).map (Ent.ren (sgC lc b c F.length n)))) :
    upds E ((List.range (Lc1 ++ (F.map some ++ N)).length).map fun j => (sgC lc b c F.length n j, (tab (Lc1 ++ (F.map some ++ N)) j).map (Ent.ren (sgC lc b c F.length n)))) = upds E (usc ++ usn) := by
  have hlen : (Lc1 ++ (F.map some ++ N)).length = c + F.length + N.length := by simp [hc]; omega
  generalize hσ : sgC lc b c F.length n = σ at *
  have s0 : ∀ j, j < c → σ j = lc.getD j 0 ∧ lc.getD j 0 ∈ lc := fun j hj => by
    subst hσ
    refine ⟨by unfold sgC; rw [if_pos hj], ?_⟩
    rw [List.getD_eq_getElem?_getD, List.getElem?_eq_getElem (by omega)]
    exact List.getElem_mem _
  have s1 : ∀ j, j < F.length → σ (c + j) = b + j := fun j hj => by subst hσ; unfold sgC; rw [if_neg (by omega), if_pos (by omega), Nat.add_sub_cancel_left]
  have s2 : ∀ j, σ (c + F.length + j) = n + j := fun j => by subst hσ; unfold sgC; rw [if_neg (by omega), if_neg (by omega), Nat.add_sub_cancel_left]
  have split3 : ∀ j, j < c + F.length + N.length → j < c ∨ (∃ q, q < F.length ∧ j = c + q) ∨ (N.length = 1 ∧ j = c + F.length) := fun j hj => by
    by_cases h1 : j < c
    · exact .inl h1
    · by_cases h2 : j < c + F.length
      · exact .inr (.inl ⟨j - c, by omega, by omega⟩)
      · exact .inr (.inr ⟨by omega, by omega⟩)
  have inj : ∀ i j, i < c + F.length + N.length → j < c + F.length + N.length → σ i = σ j → i = j := fun i j hi hj h => by
    rcases split3 i hi with a | ⟨q, a, rfl⟩ | ⟨a1, a⟩ <;> rcases split3 j hj with a' | ⟨q', a', rfl⟩ | ⟨a1', a'⟩
    · rw [(s0 i a).1, (s0 j a').1, List.getD_eq_getElem?_getD, List.getD_eq_getElem?_getD, List.getElem?_eq_getElem (by omega), List.getElem?_eq_getElem (by omega)] at h
      exact (List.getElem_inj hnd).1 h
    · rw [(s0 i a).1, s1 q' a'] at h
      have := okF_get hok (s0 i a).2
      omega
    · have := s2 0
      rw [a', (s0 i a).1] at h
      simp only [Nat.add_zero] at this
      rw [this] at h
      exact absurd h (hnl _ (s0 i a).2)
    · rw [(s0 j a').1, s1 q a] at h
      have := okF_get hok (s0 j a').2
      omega
    · rw [s1 q a, s1 q' a'] at h; omega
    · have := s2 0
      simp only [Nat.add_zero] at this
      rw [a', s1 q a, this] at h; omega
    · have := s2 0
      simp only [Nat.add_zero] at this
      rw [a, (s0 j a').1, this] at h
      exact absurd h.symm (hnl _ (s0 j a').2)
    · have := s2 0
      simp only [Nat.add_zero] at this
      rw [a, s1 q' a', this] at h; omega
    · omega
  have e2 : usc ++ usn = (List.range c ++ (List.range N.length).map (fun i => c + F.length + i)).map fun j => (σ j, (tab (Lc1 ++ (F.map some ++ N)) j).map (Ent.ren σ)) := by
    rw [List.map_append]
    congr 1
    · rw [UsF.eq h1, hc]
      exact List.map_congr_left fun j hj => by
        have hj := List.mem_range.1 hj
        rw [Nat.zero_add, (s0 j hj).1]
        congr 1
        unfold tab
        rw [List.getElem?_append_left (by omega)]
    · rw [h2, List.map_map]
      exact List.map_congr_left fun i hi => by
        have hi := List.mem_range.1 hi
        have h0 : i = 0 := by omega
        subst h0
        have s20 := s2 0
        simp only [Nat.add_zero] at s20
        simp only [Function.comp, Nat.add_zero, s20]
        congr 1
        unfold tab
        rw [List.getElem?_append_right (by omega), List.getElem?_append_right (by simp; omega)]
        congr 2
        rw [List.length_map]
        congr 1
        omega
  have nd2 : (List.range c ++ (List.range N.length).map (fun i => c + F.length + i)).Nodup := by
    refine List.nodup_append.2 ⟨List.nodup_range, ?_, fun a ha b' hb' => ?_⟩
    · rcases Nat.eq_zero_or_pos N.length with h0 | h0
      · rw [h0]; exact List.nodup_nil
      · rw [show N.length = 1 by omega]; simp [List.range_succ]
    · have := List.mem_range.1 ha
      obtain ⟨q, _, rfl⟩ := List.mem_map.1 hb'
      omega
  have in2 : ∀ j ∈ List.range c ++ (List.range N.length).map (fun i => c + F.length + i), j < c + F.length + N.length := fun j hj => by
    rcases List.mem_append.1 hj with h | h
    · have := List.mem_range.1 h; omega
    · obtain ⟨q, hq, rfl⟩ := List.mem_map.1 h
      have := List.mem_range.1 hq; omega
  rw [e2]
  funext i
  rcases upds_map E σ (fun j => (tab (Lc1 ++ (F.map some ++ N)) j).map (Ent.ren σ)) (List.range (Lc1 ++ (F.map some ++ N)).length) (fun x hx y hy => inj x y (by rw [← hlen]; exact List.mem_range.1 hx) (by rw [← hlen]; exact List.mem_range.1 hy)) List.nodup_range i with ⟨j, k1, k2, k3⟩ | ⟨k1, k2⟩
  · rw [k3]
    have hj : j < c + F.length + N.length := by rw [← hlen]; exact List.mem_range.1 k1
    rcases upds_map E σ (fun j => (tab (Lc1 ++ (F.map some ++ N)) j).map (Ent.ren σ)) (List.range c ++ (List.range N.length).map (fun i => c + F.length + i)) (fun x hx y hy => inj x y (in2 x hx) (in2 y hy)) nd2 i with ⟨j', l1, l2, l3⟩ | ⟨l1, l2⟩
    · rw [l3]
      rw [inj j j' hj (in2 j' l1) (k2.trans l2.symm)]
    · rw [l2]
      rcases split3 j hj with a | ⟨q, a, rfl⟩ | ⟨a1, a⟩
      · exact absurd k2 (l1 j (List.mem_append_left _ (List.mem_range.2 a)))
      · rw [s1 q a] at k2
        subst k2
        have hq : F[q]? = some F[q] := List.getElem?_eq_getElem a
        rw [hF q _ hq]
        unfold tab
        rw [List.getElem?_append_right (by omega), hc, Nat.add_sub_cancel_left, List.getElem?_append_left (by simpa using a), List.getElem?_map, hq]
        simp only [Option.map_some, Option.join_some]
        rw [(hP _ (List.getElem_mem a)).ren]
      · exact absurd k2 (l1 j (List.mem_append_right _ (List.mem_map.2 ⟨0, List.mem_range.2 (by omega), by omega⟩)))
  · rw [k2]
    rcases upds_map E σ (fun j => (tab (Lc1 ++ (F.map some ++ N)) j).map (Ent.ren σ)) (List.range c ++ (List.range N.length).map (fun i => c + F.length + i)) (fun x hx y hy => inj x y (in2 x hx) (in2 y hy)) nd2 i with ⟨j', l1, l2, l3⟩ | ⟨l1, l2⟩
    · exact absurd l2 (k1 j' (List.mem_range.2 (by rw [hlen]; exact in2 j' l1)))
    · rw [l2]
end
section
variable {P : Program} {ops : Array Oper} {o : Oper} {r : List Oper} {n : Nat} {s : Slots} {E : Env} {d : Nat} {v : V}
variable {fop : Operand} {args : Array Operand} {ts : Array TypeId} {f : FuncId} {caps vs xs : List V}
theorem box_sgC {lc : List Nat} {b c m z n pl is : Nat} {t : Bool} {x : Int} (hm : m = z) (hc : 2 ≤ c) (h1 : lc.getD 1 0 = is) : (⟨4, [.own is z, .own n pl, vB t, vI .i64 x], true⟩ : Ent) = (⟨4, [.own 1 z, .own (c + z) pl, vB t, vI .i64 x], true⟩ : Ent).ren (sgC lc b c m n) := by
  have e1 : sgC lc b c m n 1 = is := by unfold sgC; rw [if_pos (by omega)]; exact h1
  have e2 : sgC lc b c m n (c + z) = n := by subst hm; unfold sgC; rw [if_neg (by omega), if_neg (by omega), Nat.sub_self, Nat.add_zero]
  simp only [Ent.ren, List.map_cons, List.map_nil, V.ren1, V.ren0, e1, e2, vB, vI]
theorem GlF {R : List (List Nat × List Nat) → Nat → Slots → Env → Prop} {log : List (List Nat × List Nat)} (q : Nat) (lc : List Nat) {b c : Nat} {Lc F : List Ent} {Lc1 N : List (Option Ent)} {rr : V} (usc usn : List (Nat × Option Ent))
    (h : (n, runs ops s o.guard, o.dst, o.op, ev s fop, evs s args.toList) = (q, some true, some d, .call { callee := .value fop, args := args, argTypes := ts }, some (.fn f caps), some vs))
    (hv : VG P f xs (Lc ++ F) rr (Lc1 ++ (F.map some ++ N))) (hr : rr.ren (sgC lc b c F.length q) = v) (hF : Fam E b F) (hP : ∀ e ∈ F, Plain e) (hb : b + F.length ≤ 100000)
    (hx : Args E (rhC lc b c) (Lc ++ F).length [] (vs ++ caps) xs)
    (hl : AllT (fun j e => E (lc.getD j 0) = some (e.ren (rhC lc b c)) ∧ ([] : List Nat).contains (lc.getD j 0) = false ∧ ∀ v ∈ e.cells, ∀ i ∈ v.all1, i < c + F.length) 0 Lc)
    (h1 : UsF (sgC lc b c F.length q) lc 0 Lc1 usc) (h2 : usn = (List.range N.length).map fun i => (q, ((N[i]?).join).map (Ent.ren (sgC lc b c F.length q))))
    (h3 : ∀ LK W, VLog P ops r (q + 1) (setAt s d (some v)) (upds E (usc ++ usn)) (log ++ [(LK, W)]) R)
    (hcs : (Lc.length, Lc1.length, lc.length) = (c, c, c) := by rfl) (hnd : lc.Nodup := by decide) (hoks : (okF b lc && Nat.ble 100000 q && lc.all (fun i => !(i == q)) && Nat.ble N.length 1) = true := by rfl) : VLog P ops (o :: r) n s E log R := by
  simp only [Prod.mk.injEq] at h hcs; obtain ⟨rfl, g1, g2, g4, g5, g6⟩ := h
  obtain ⟨c1, c2, c3⟩ := hcs
  simp only [Bool.and_eq_true] at hoks
  obtain ⟨⟨⟨k1, k2⟩, k3⟩, k4⟩ := hoks
  have k2 := Nat.le_of_ble_eq_true k2
  have k4 := Nat.le_of_ble_eq_true k4
  have hlen : (Lc ++ F).length = c + F.length := by simp [c1]
  have nmE : nm (rhC lc b c) (Lc ++ F).length n = sgC lc b c F.length n := nm_sgC hlen
  have hcall : CallL P n s E (.call { callee := .value fop, args := args, argTypes := ts }) v (([] : List Nat).map (cool E) ++ (List.range (Lc1 ++ (F.map some ++ N)).length).map fun j => (sgC lc b c F.length n j, (tab (Lc1 ++ (F.map some ++ N)) j).map (Ent.ren (sgC lc b c F.length n)))) ((List.range (Lc ++ F).length).map (rhC lc b c) ++ []) := by
    have := CallL.mk (P := P) (id := n) (s := s) (E := E) fop args ts f caps vs xs (Lc ++ F) rr (Lc1 ++ (F.map some ++ N)) (rhC lc b c) [] _ g5 g6 hx (lent_fam c1 c3 hnd k1 (by rfl) hb hF hP hl) hv (by simp [c1, c2]; omega) rfl
    rw [nmE, hr] at this
    exact this
  refine .inl ⟨g1, some v, _, _, .inr ⟨v, rfl, by rw [g4]; exact hcall⟩, ?_⟩
  · have e := upds_fam (E := E) (n := n) c3 c2 hnd k1 hF hP hb k2 (fun i hi => by
      have := List.all_eq_true.1 k3 i hi
      simpa using this) k4 h1 h2
    rw [g2]
    show VLog P ops r (n + 1) (setAt s d (some v)) (upds E ([] ++ _)) _ R
    rw [List.nil_append, e]
    exact h3 _ _
end
end Go.VL

/- A small program logic over the translated Go code, further part: families that a function makes. -/
set_option linter.unusedVariables false
set_option linter.unusedSimpArgs false
namespace Go.VL
open Go.RowKit
theorem Fam.nil {E : Env} {b : Nat} : Fam E b (famD []) := fun j e h => by simp [famD] at h
def zRow : List Int := List.replicate 64 0
theorem famD_snoc {m : Nat} : famD (List.replicate (m + 1) zRow) = famD (List.replicate m zRow) ++ [rowK .u8 zRow] := by
  rw [List.replicate_succ', famD, famD, List.map_append]; rfl
theorem rowsD_new {z : Nat} : rowsD z (List.replicate (z * 64) 0) = List.replicate z zRow := by
  refine List.eq_replicate_iff.2 ⟨rowsD_len, fun b hb => ?_⟩
  simp only [rowsD, List.mem_map, List.mem_range] at hb
  obtain ⟨s, hs, rfl⟩ := hb
  rw [sec, List.drop_replicate, List.take_replicate, zRow]
  congr 1; omega
theorem new_hot {Lc1 : List (Option Ent)} {C : List (List Int)} (h : (Lc1.all fun | some e => e.hot | none => true) = true) : (((Lc1 ++ ((famD C).map some ++ [])).drop ([] : List Ent).length).all fun | some e => e.hot | none => true) = true := by
  rw [List.length_nil, List.drop_zero, List.all_append, List.append_nil, h, Bool.true_and, List.all_eq_true]
  intro x hx
  simp only [famD, List.map_map, List.mem_map] at hx
  obtain ⟨c, _, rfl⟩ := hx
  rfl
theorem WB1 {n1 b m : Nat} {s : Slots} {E : Env} {S1 : List (Nat × V)} {L1 : List (Nat × Ent)} {F F1 : List Ent} {e0 : Ent} (l : List (Nat × Nat)) (q : Nat) (hm : F.length = m) (hF : Fam E b F) (hP : ∀ e ∈ F, Plain e) (he : E q = some e0) (hP0 : Plain e0) (hF1 : F1 = F ++ [e0]) (hb : b + m + 1 ≤ 100000)
    (h2 : AllE (fun i e => E (rhB b l m q i) = some (e.ren (rhB b l m q)) ∧ i < n1 ∧ ∀ v ∈ e.cells, v.all1.all (fun i => decide (i < n1)) = true) L1)
    (hc : (ckA b l (L1.map (·.1)) && decide (100000 ≤ q) && !((L1.map (·.1)).map (rl l)).contains q) = true := by rfl) (hn : Nat.ble 100000 n1 = true := by rfl)
    (h1 : AllS (fun t x => s t = some (x.ren (rhB b l m q)) ∧ x.all.all (fun i => decide (i < n1)) = true) S1 := by repeat' (first | exact trivial | refine ⟨⟨rfl, rfl⟩, ?_⟩)) :
    Weak 0 s E n1 (sl S1) (enF L1 b F1) := by
  subst hm
  exact WB l q hF hP he hP0 hF1 hb h2 hc hn h1
section
variable {P : Program} {s : Slots} {E : Env} {n : Nat} {e : VExit} {fn : Func} {r : V}
/-- The end of a function that makes a family. -/
theorem GgN {c b : Nat} {F F' : List Ent} {Lc1 Lc1' : List (Option Ent)} {r' : V} {l : List V} (lc : List Nat) (hg : ResG P s E (rhC lc b c) (Lc1' ++ (F'.map some ++ [])) fn.results.toList l) (ho : ResOf l r') (hr : r' = r) (hF : Fam E b F') (hP : ∀ e ∈ F', Plain e) (hb : b + F'.length ≤ 100000)
    (h1 : AllO (fun j e => E (lc.getD j 0) = some (e.ren (rhC lc b c)) ∧ ∀ v ∈ e.cells, ∀ i ∈ v.all1, i < c + F'.length) 0 Lc1') (hL : (Lc1', F') = (Lc1, F)) (hcs : (Lc1'.length, lc.length) = (c, c) := by rfl) (hok : okF b lc = true := by rfl) (hnd : lc.Nodup := by decide) (he : match (generalizing := false) e with | .exit _ => False | _ => True := by trivial) :
    PostG P fn 0 r (Lc1 ++ (F.map some ++ [])) e n s E := by
  simp only [Prod.mk.injEq] at hL
  obtain ⟨rfl, rfl⟩ := hL
  exact postG he (WeakR.famN lc hcs hF hP hb hok hnd h1) hg ho hr rfl
theorem low_in {x : V} {c : Nat} {Lc1 : List (Option Ent)} {L2 : List (Option Ent)} (hc : Lc1.length = c) (h : x.all.all (fun i => decide (i < c)) = true) : x.all.all (fun i => decide (i < (Lc1 ++ L2).length)) = true := by
  rw [List.all_eq_true] at h ⊢
  intro i hi
  have := of_decide_eq_true (h i hi)
  exact decide_eq_true (by rw [List.length_append, hc]; omega)
end
section
variable {P : Program} {ops : Array Oper} {o : Oper} {r : List Oper} {n d : Nat} {s : Slots} {E : Env} {Q : Nat → Slots → Env → Prop} {v : V}
variable {fop : Operand} {args : Array Operand} {ts : Array TypeId} {f : FuncId} {caps vs xs : List V}
/-- The caller's number for the callee's. -/
def nw (q j : Nat) : Nat := q + j
theorem safe_nw {q c m b : Nat} (hb : b = q + c) : safeE b m = (safeE c m).ren (nw q) := (safe_ren fun j _ => by unfold nw; omega).symm
/-- A call that makes a family. -/
theorem GmN (q : Nat) {c b : Nat} {F : List Ent} {Lc1 : List (Option Ent)} {rr : V} (L2 : List (Nat × Ent)) (h : (n, runs ops s o.guard, o.dst, o.op, ev s fop, evs s args.toList) = (q, some true, some d, .call { callee := .value fop, args := args, argTypes := ts }, some (.fn f caps), some vs))
    (hv : VG P f xs [] rr (Lc1 ++ (F.map some ++ []))) (hr : rr.ren (nw q) = v) (hP : ∀ e ∈ F, Plain e) (hb : b + F.length ≤ 100000) (hx : Args E id 0 [] (vs ++ caps) xs)
    (ha : AllE (fun i e => (∃ j e0, j < c ∧ Lc1[j]? = some (some e0) ∧ q + j = i ∧ e = e0.ren (nw q)) ∨ (E i = some e ∧ i < q)) L2)
    (h3 : VList P ops r 100000 (setAt s d (some v)) (enF L2 b F) Q) (hcs : (Lc1.length, b) = (c, q + c) := by rfl) (hoks : okF b (L2.map (·.1)) = true := by rfl) : VList P ops (o :: r) n s E Q := by
  simp only [Prod.mk.injEq] at h hcs; obtain ⟨rfl, h1, h2, h4, h5, h6⟩ := h
  obtain ⟨c1, rfl⟩ := hcs
  have e0 : nm id ([] : List Ent).length n = nw n := by
    funext j; unfold nm nw; rw [List.length_nil, if_neg (by omega)]; omega
  have hcg : CallG P n s E (.call { callee := .value fop, args := args, argTypes := ts }) (rr.ren (nm id ([] : List Ent).length n)) 100000 (enF L2 (n + c) F) := by
    refine CallG.mk fop args ts f caps vs xs [] rr _ id [] 100000 _ h5 h6 hx ⟨fun j e he => (by simp at he), fun i j hi => (by simp at hi)⟩ hv ?_ (fun i e he => ?_)
    · simp only [List.length_append, List.length_map, c1, List.length_nil]; omega
    · rw [e0]
      rcases enF_inv he with h | ⟨j, rfl, h⟩
      · rcases ha.get _ (lookup_mem h) with ⟨j, e', h1, h2, h3, h4⟩ | ⟨h1, h2⟩
        · exact .inl ⟨j, e', by rw [List.getElem?_append_left (by omega)]; exact h2, h3, h4⟩
        · exact .inr ⟨h1, fun j hj => by simp at hj⟩
      · have hj := (List.getElem?_eq_some_iff.1 h).1
        refine .inl ⟨c + j, e, ?_, by unfold nw; omega, ((hP e (List.mem_of_getElem? h)).ren _).symm⟩
        rw [List.getElem?_append_right (by omega), c1, Nat.add_sub_cancel_left, List.append_nil, List.getElem?_map, h]; rfl
  refine VList.goV h1 h2 (by rw [h4]; exact hcg) ?_ h3
  rw [e0]; exact hr
/-- A call that is not lent the family. -/
theorem GmK (q q2 : Nat) (l nv : List Nat) {b : Nat} {F L0 : List Ent} {L1 : List (Option Ent)} {rr : V} (L2 : List (Nat × Ent)) (h : (n, runs ops s o.guard, o.dst, o.op, ev s fop, evs s args.toList) = (q, some true, some d, .call { callee := .value fop, args := args, argTypes := ts }, some (.fn f caps), some vs)) (hv : VG P f xs L0 rr L1) (hr : rr.ren (nm (rho l) L0.length q) = v)
    (hF : Fam E b F) (hb : b + F.length ≤ 100000)
    (h3 : VList P ops r q2 (setAt s d (some v)) (enF L2 b F) Q)
    (hx : Args E (rho l) L0.length nv (vs ++ caps) xs := by repeat' (first | exact Args.nil | refine Args.name _ _ _ _ rfl rfl ?_ | refine Args.val _ _ _ _ (by first | rfl | exact Rr rfl | exact Ra rfl) rfl ?_))
    (hl : Lent E (rho l) nv L0 := by refine Lent.of rfl (by decide) ?_; repeat' (first | exact trivial | refine ⟨⟨by first | exact rowK_ren' | exact rowT_ren' | rfl, rfl, by first | exact row_cellsK | exact rowT_cells | exact cells_of rfl⟩, ?_⟩))
    (ha : AllE (fun i e => (∃ j e0, L1[j]? = some (some e0) ∧ nm (rho l) L0.length q j = i ∧ e = e0.ren (nm (rho l) L0.length q)) ∨ (upds E (nv.map (cool E)) i = some e ∧ l.contains i = false)) L2 := by
      repeat' (first | exact trivial | refine ⟨.inl ⟨0, _, rfl, rfl, by first | exact rowK_ren.symm | exact rowT_ren.symm | rfl⟩, ?_⟩ | refine ⟨.inl ⟨1, _, rfl, rfl, by first | exact rowK_ren.symm | exact rowT_ren.symm | rfl⟩, ?_⟩ | refine ⟨.inl ⟨2, _, rfl, rfl, by first | exact rowK_ren.symm | exact rowT_ren.symm | rfl⟩, ?_⟩ | refine ⟨.inl ⟨3, _, rfl, rfl, by first | exact rowK_ren.symm | exact rowT_ren.symm | rfl⟩, ?_⟩ | refine ⟨.inr ⟨rfl, rfl⟩, ?_⟩))
    (hk : l.length = L0.length := by rfl) (hoks : (okF b l && okF b nv && Nat.ble (q + (L1.length - L0.length)) q2) = true := by rfl) : VList P ops (o :: r) n s E Q := by
  simp only [Prod.mk.injEq] at h; obtain ⟨rfl, h1, h2, h4, h5, h6⟩ := h
  simp only [Bool.and_eq_true] at hoks
  obtain ⟨⟨k1, k2⟩, k3⟩ := hoks
  refine VList.goV h1 h2 (h4 ▸ .mk _ _ _ _ _ _ _ _ _ _ _ nv _ (enF L2 b F) h5 h6 hx hl hv (Nat.le_of_ble_eq_true k3) (fun i e he => ?_)) hr h3
  rcases enF_inv he with h | ⟨j, rfl, h⟩
  · rcases ha.get _ (lookup_mem h) with h | ⟨h1, h2⟩
    · exact .inl h
    · refine .inr ⟨h1, fun j hj e => ?_⟩
      simp only [rho, List.getD_eq_getElem?_getD] at e
      rw [List.getElem?_eq_getElem (by omega)] at e
      have : i ∈ l := by rw [← e]; exact List.getElem_mem _
      simp [this] at h2
  · have hj := (List.getElem?_eq_some_iff.1 h).1
    refine .inr ⟨?_, fun j' hj' e => ?_⟩
    · rw [upds_app]
      · exact hF j _ h
      · intro p hp
        obtain ⟨x, hx, rfl⟩ := List.mem_map.1 hp
        have := okF_get k2 hx
        simp only [cool]
        omega
    · simp only [rho, List.getD_eq_getElem?_getD] at e
      rw [List.getElem?_eq_getElem (by omega)] at e
      have := okF_get k1 (List.getElem_mem (h := by omega) : l[j'] ∈ l)
      simp only [Option.getD_some] at e
      omega
end
end Go.VL

/- A small program logic over the translated Go code, further part: a row of names of a family of rows, whose rows grow. -/
set_option linter.unusedVariables false
set_option linter.unusedSimpArgs false
namespace Go.VL
open Go.RowKit
/-- Rows of byte strings, told by their contents. -/
def cwB (L : List (List Int)) : List B := [slT 1 rwB L]
theorem cwB_len : ∀ l, (cwB l).length = 1 := fun _ => rfl
abbrev Css := List (List (List Int))
def famT (C : Css) : List Ent := C.map (rowT 1 rwB)
theorem famT_len {C : Css} : (famT C).length = C.length := by simp [famT]
theorem famT_plain {C : Css} : ∀ e ∈ famT C, Plain e := fun e he => by
  obtain ⟨c, _, rfl⟩ := List.mem_map.1 he
  exact plainT
theorem famT_at {C : Css} {s : Nat} (h : s < C.length) : (famT C)[s]? = some (rowT 1 rwB (C.getD s [])) := by simp [famT, h]
theorem famT_set {C : Css} {s : Nat} {L : List (List Int)} : famT (C.set s L) = (famT C).set s (rowT 1 rwB L) := by simp [famT, List.map_set]
theorem famT_snoc {m : Nat} {L : List (List Int)} : famT (List.replicate (m + 1) L) = famT (List.replicate m L) ++ [rowT 1 rwB L] := by
  rw [List.replicate_succ', famT, famT, List.map_append]; rfl
theorem Fam.nilT {E : Env} {b : Nat} : Fam E b (famT []) := fun j e h => by simp [famT] at h
/-- The row of names: k cells are nil still. -/
def hdrL (b : Nat) (C : Css) : List V := (List.range C.length).map fun j => .own (b + j) (C.getD j []).length
def hdr (b : Nat) (C : Css) (k : Nat) : Ent := ⟨1, hdrL b C ++ List.replicate k (.b .nil), true⟩
section
variable {b k s q n n1 i : Nat} {C : Css} {E : Env} {l : List (Nat × Nat)} {ρ : Nat → Nat}
theorem hdrL_len : (hdrL b C).length = C.length := by simp [hdrL]
theorem hdr_len : (hdr b C k).cells.length = C.length + k := by simp [hdr, hdrL]
theorem hdr_at (h : s < C.length) : (hdr b C k).cells[s]? = some (.own (b + s) (C.getD s []).length) := by
  rw [hdr, List.getElem?_append_left (by rw [hdrL_len]; exact h)]; simp [hdrL, h]
theorem hdr_nil (h : s = C.length) (hk : 0 < k) : (hdr b C k).cells[s]? = some (.b .nil) := by
  subst h
  rw [hdr, List.getElem?_append_right (by rw [hdrL_len]; omega), hdrL_len, Nat.sub_self, List.getElem?_replicate, if_pos hk]
theorem hdrL_low {v : V} (hv : v ∈ hdrL b C) : ∀ i ∈ v.all1, i < b + C.length := fun i hi => by
  simp only [hdrL, List.mem_map, List.mem_range] at hv
  obtain ⟨j, hj, rfl⟩ := hv
  simp [V.all1, V.all0] at hi; omega
theorem hdr_low (h : b + C.length ≤ n1) : ∀ v ∈ (hdr b C k).cells, v.all1.all (fun i => decide (i < n1)) = true := fun v hv => by
  refine List.all_eq_true.2 fun i hi => decide_eq_true ?_
  simp only [hdr, List.mem_append, List.mem_replicate] at hv
  rcases hv with hv | ⟨_, rfl⟩
  · have := hdrL_low hv i hi; omega
  · simp [V.all1, V.all0] at hi
theorem hdrL_ren (h : ∀ j, j < C.length → ρ (b + j) = b + j) : (hdrL b C).map (V.ren1 ρ) = hdrL b C := by
  simp only [hdrL, List.map_map]
  exact List.map_congr_left fun j hj => by
    simp only [Function.comp, V.ren1, V.ren0]
    rw [h j (List.mem_range.1 hj)]
theorem nil_ren : (List.replicate k (V.b .nil)).map (V.ren1 ρ) = List.replicate k (V.b .nil) := by rw [List.map_replicate]; rfl
theorem hdr_ren (h : ∀ j, j < C.length → ρ (b + j) = b + j) : (hdr b C k).ren ρ = hdr b C k := by
  simp only [hdr, Ent.ren, List.map_append, hdrL_ren h, nil_ren]
theorem hdr_rhA (hn : b + C.length ≤ 100000) (h : E i = some (hdr b C k)) : E i = some ((hdr b C k).ren (rhA b l)) := by
  rw [hdr_ren (fun j hj => rhA_fam (by omega) (by omega))]; exact h
/-- The first nil cell is set to a new row. -/
theorem hdr_grow (hs : s = C.length) : (hdr b C (k + 1)).cells.set s (.own q n) = hdrL b C ++ (.own q n :: List.replicate k (.b .nil)) := by
  subst hs
  rw [hdr, List.replicate_succ, List.set_append_right _ _ (by rw [hdrL_len]; omega), hdrL_len, Nat.sub_self]; rfl
theorem hdr_rhB {L : List (List Int)} (hs : s = C.length) (hm : b + C.length < 100000) (hn : n = L.length) (h : E i = some ⟨1, (hdr b C (k + 1)).cells.set s (.own q n), true⟩) : E i = some ((hdr b (C ++ [L]) k).ren (rhB b l C.length q)) := by
  rw [h, hdr_grow hs]
  simp only [hdr, Ent.ren, Option.some.injEq, Ent.mk.injEq, true_and, and_true, List.map_append, nil_ren]
  have e : (hdrL b (C ++ [L])).map (V.ren1 (rhB b l C.length q)) = hdrL b C ++ [.own q n] := by
    simp only [hdrL, List.length_append, List.length_singleton, List.range_succ, List.map_append, List.map_map]
    congr 1
    · exact List.map_congr_left fun j hj => by
        have := List.mem_range.1 hj
        simp only [Function.comp, V.ren1, V.ren0, rhB]
        rw [if_neg (by omega), if_neg (by omega), List.getD_eq_getElem?_getD, List.getD_eq_getElem?_getD, List.getElem?_append_left this]
    · simp only [List.map_cons, List.map_nil, Function.comp, V.ren1, V.ren0, rhB]
      rw [if_neg (by omega), if_pos trivial, hn, List.getD_eq_getElem?_getD, List.getElem?_append_right (Nat.le_refl _), Nat.sub_self]; rfl
  rw [e, List.append_assoc]; rfl
/-- A cell is set to a new row in place of an old one. -/
theorem hdr_rhU {L : List (List Int)} (hs : s < C.length) (hm : b + C.length ≤ 100000) (hn : n = L.length) (h : E i = some ⟨1, (hdr b C 0).cells.set s (.own q n), true⟩) : E i = some ((hdr b (C.set s L) 0).ren (rhB b l s q)) := by
  rw [h]
  simp only [hdr, Ent.ren, Option.some.injEq, Ent.mk.injEq, true_and, and_true, List.replicate_zero, List.append_nil]
  apply List.ext_getElem?
  intro j
  rw [List.getElem?_set, hdrL_len, List.getElem?_map]
  by_cases hj : j < C.length
  · have h2 : (hdrL b (C.set s L))[j]? = some (.own (b + j) ((C.set s L).getD j []).length) := by simp [hdrL, hj]
    have h3 : (hdrL b C)[j]? = some (.own (b + j) (C.getD j []).length) := by simp [hdrL, hj]
    rw [h2, h3]
    by_cases hsj : s = j
    · subst hsj
      rw [if_pos rfl, if_pos hj]
      simp only [Option.map_some, V.ren1, V.ren0, rhB]
      rw [if_neg (by omega), if_pos trivial, hn]
      simp [List.getD_eq_getElem?_getD, hj]
    · rw [if_neg hsj]
      simp only [Option.map_some, V.ren1, V.ren0, rhB]
      rw [if_neg (by omega), if_neg (by omega)]
      simp [List.getD_eq_getElem?_getD, hj, hsj]
  · have z1 : (hdrL b (C.set s L))[j]? = none := List.getElem?_eq_none (by rw [hdrL_len, List.length_set]; omega)
    have z2 : (hdrL b C)[j]? = none := List.getElem?_eq_none (by rw [hdrL_len]; omega)
    rw [z1, z2]
    by_cases hsj : s = j
    · omega
    · rw [if_neg hsj]; rfl
end
/-- A row of the family is put in place of another. -/
theorem WU {n1 b sx : Nat} {s : Slots} {E : Env} {S1 : List (Nat × V)} {L1 : List (Nat × Ent)} {F F1 : List Ent} {e0 : Ent} (l : List (Nat × Nat)) (q : Nat) (hF : ∀ j e, F[j]? = some e → j ≠ sx → E (b + j) = some e) (hs : sx < F.length) (hP : ∀ e ∈ F, Plain e) (he : E q = some e0) (hP0 : Plain e0) (hF1 : F1 = F.set sx e0) (hb : b + F.length ≤ 100000)
    (h2 : AllE (fun i e => E (rhB b l sx q i) = some (e.ren (rhB b l sx q)) ∧ i < n1 ∧ ∀ v ∈ e.cells, v.all1.all (fun i => decide (i < n1)) = true) L1)
    (hc : (ckA b l (L1.map (·.1)) && decide (100000 ≤ q) && !((L1.map (·.1)).map (rl l)).contains q) = true := by rfl) (hn : Nat.ble 100000 n1 = true := by rfl)
    (h1 : AllS (fun t x => s t = some (x.ren (rhB b l sx q)) ∧ x.all.all (fun i => decide (i < n1)) = true) S1 := by repeat' (first | exact trivial | refine ⟨⟨rfl, rfl⟩, ?_⟩)) :
    Weak 0 s E n1 (sl S1) (enF L1 b F1) := by
  subst hF1
  have hn := Nat.le_of_ble_eq_true hn
  simp only [ckA, Bool.and_eq_true, decide_eq_true_eq, Bool.not_eq_true'] at hc
  obtain ⟨⟨⟨⟨⟨c1, c2⟩, c3⟩, c4⟩, c5⟩, c6⟩ := hc
  have far : ∀ i ∈ L1.map (·.1), rhB b l sx q i = rl l i ∧ (rl l i < b ∨ 100000 ≤ rl l i) ∧ rl l i ≠ q := fun i hi => by
    have e1 := okF_get c2 hi
    have hm : rl l i ∈ (L1.map (·.1)).map (rl l) := List.mem_map.2 ⟨i, hi, rfl⟩
    refine ⟨by unfold rhB; rw [if_pos e1], okF_get c3 hm, fun h => ?_⟩
    rw [h] at hm
    have h7 : ((L1.map (·.1)).map (rl l)).contains q = true := List.elem_eq_true_of_mem hm
    rw [h7] at c6; cases c6
  have fam : ∀ j, j < F.length → j ≠ sx → rhB b l sx q (b + j) = b + j := fun j hj hne => by unfold rhB; rw [if_neg (by omega), if_neg (by omega)]
  have last : rhB b l sx q (b + sx) = q := by unfold rhB; rw [if_neg (by omega), if_pos rfl]
  have two : ∀ i, b ≤ i ∧ i < b + (F.set sx e0).length → (i < b + F.length ∧ i ≠ b + sx ∧ rhB b l sx q i = i) ∨ (i = b + sx ∧ rhB b l sx q i = q) := fun i hi => by
    rw [List.length_set] at hi
    by_cases h : i = b + sx
    · exact .inr ⟨h, by rw [h]; exact last⟩
    · obtain ⟨j, rfl⟩ : ∃ j, i = b + j := ⟨i - b, by omega⟩
      exact .inl ⟨by omega, h, fam j (by omega) (by omega)⟩
  refine WeakF (rhB b l sx q) (Nat.zero_le _) (fun i hi => by omega) h1 h2 (fun j e hj => ?_) (by rw [List.length_set]; omega) (fun i j hi hj h => ?_)
  · rw [List.getElem?_set] at hj
    by_cases hjs : sx = j
    · subst hjs
      rw [if_pos rfl, if_pos hs] at hj
      injection hj with hj
      subst hj
      rw [last]
      exact ⟨he, hP0⟩
    · rw [if_neg hjs] at hj
      have hl := (List.getElem?_eq_some_iff.1 hj).1
      rw [fam j hl (fun h => hjs h.symm)]
      exact ⟨hF j e hj (fun h => hjs h.symm), hP e (List.mem_of_getElem? hj)⟩
  · rcases hi with hi | hi <;> rcases hj with hj | hj
    · rw [(far i hi).1, (far j hj).1] at h
      have := List.all_eq_true.1 (List.all_eq_true.1 c4 i hi) j hj
      simpa [h] using this
    · obtain ⟨f1, f2, f3⟩ := far i hi
      rw [f1] at h
      rcases two j hj with ⟨g1, g0, g2⟩ | ⟨g1, g2⟩
      · rw [g2] at h; omega
      · rw [g2] at h; exact absurd h f3
    · obtain ⟨f1, f2, f3⟩ := far j hj
      rw [f1] at h
      rcases two i hi with ⟨g1, g0, g2⟩ | ⟨g1, g2⟩
      · rw [g2] at h; omega
      · rw [g2] at h; exact absurd h.symm f3
    · rcases two i hi with ⟨g1, g0, g2⟩ | ⟨g1, g2⟩ <;> rcases two j hj with ⟨k1, k0, k2⟩ | ⟨k1, k2⟩
      · rw [g2, k2] at h; exact h
      · rw [g2, k2] at h; omega
      · rw [g2, k2] at h; omega
      · omega
theorem upds_cool {E : Env} {x : Nat} : ∀ (nv : List Nat) (E0 : Env), upds E0 (nv.map (cool E)) x = if x ∈ nv then (cool E x).2 else E0 x
  | [], E0 => by simp [upds]
  | y :: nv, E0 => by
    rw [List.map_cons, upds, upds_cool nv]
    by_cases h : x ∈ nv
    · rw [if_pos h, if_pos (List.mem_cons_of_mem _ h)]
    · rw [if_neg h]
      by_cases hy : x = y
      · subst hy; rw [if_pos (List.mem_cons_self)]; exact setAt_self _ _ _
      · rw [if_neg (by simp [h, hy])]; exact setAt_ne _ _ hy
/-- All rows told by their contents. -/
theorem Weak.convA {k n1 b : Nat} (ih : Nat) {s : Slots} {E : Env} {S1 : List (Nat × V)} {L1 : List (Nat × Ent)} {C : Css} (hF : Fam E b (famT C)) (hh : E ih = some (hdr b C 0)) (hb : b + C.length ≤ 100000)
    (h2 : AllE (fun i e => ((i = ih ∧ e = rowT 1 cwB C) ∨ E i = some e) ∧ i < n1 ∧ ∀ v ∈ e.cells, v.all1.all (fun i => decide (i < n1)) = true) L1)
    (h1 : AllS (fun t x => s t = some x ∧ x.all.all (fun i => decide (i < n1)) = true) S1 := by repeat' (first | exact trivial | refine ⟨⟨rfl, rfl⟩, ?_⟩)) (hok : okF b (ih :: L1.map (·.1)) = true := by rfl) (hk : k ≤ n1 := by exact Nat.zero_le _) : Weak k s E n1 (sl S1) (en L1) := by
  have out : ∀ i, i < b ∨ 100000 ≤ i → upds E (((List.range C.length).map (b + ·)).map (cool E)) i = E i := fun i hi => by
    rw [upds_cool, if_neg]
    intro h
    obtain ⟨j, hj, rfl⟩ := List.mem_map.1 h
    have := List.mem_range.1 hj
    omega
  refine .inr ⟨(List.range C.length).map (b + ·), sl S1, en L1, fun i => i, ⟨fun t y ht => ?_, fun i e1 he => ?_⟩, hk, fun _ _ => rfl, fun t x ht => ?_, fun i e he => ?_, fun i j e e' _ _ h => h⟩
  · exact ⟨y, (h1.get _ (lookup_mem ht)).1, .inl rfl⟩
  · have hi := okF_get hok (List.mem_cons_of_mem _ (List.mem_map.2 ⟨_, lookup_mem he, rfl⟩))
    rcases (h2.get _ (lookup_mem he)).1 with ⟨rfl, rfl⟩ | h
    · refine ⟨hdr b C 0, by rw [out i hi]; exact hh, rfl, rfl, ?_, fun j y hj => ?_⟩
      · simp only [rowT, List.length_map, cellsT_len cwB_len, hdr_len]; omega
      · have hjl : j < C.length := by
          have := (List.getElem?_eq_some_iff.1 hj).1
          simp only [rowT, List.length_map, cellsT_len cwB_len] at this; omega
        refine ⟨_, hdr_at hjl, ?_⟩
        have e1 := rowT_cell (f := cwB) (sz := 1) (L := C) (j := j) (k := 0) cwB_len (gd (d := []) hjl) rfl (by decide)
        rw [Nat.mul_one, Nat.add_zero, hj] at e1
        injection e1 with e1
        rw [e1]
        refine cv_ownT rwB_len ?_ rfl
        rw [upds_cool, if_pos (List.mem_map.2 ⟨j, List.mem_range.2 hjl, rfl⟩)]
        have := hF j _ (famT_at hjl)
        simp only [cool, this, Option.map_some]
    · exact ⟨e1, by rw [out i hi]; exact h, rfl, rfl, rfl, fun j y hj => ⟨y, hj, .inl rfl⟩⟩
  · obtain ⟨_, a2⟩ := h1.get _ (lookup_mem ht)
    exact ⟨by rw [V.ren_id]; exact ht, fun i hi => by simpa using List.all_eq_true.1 a2 i hi⟩
  · obtain ⟨_, a2, a3⟩ := h2.get _ (lookup_mem he)
    exact ⟨by rw [Ent.ren_id]; exact he, a2, fun v hv j hj => by simpa using List.all_eq_true.1 (a3 v hv) j hj⟩
section
variable {P : Program} {ops : Array Oper} {o : Oper} {n : Nat} {s : Slots} {E : Env} {T el by' : Nat} {x y p : Operand} {i j d m off : Nat} {v w : V} {ik : IntKind} {e : Ent}
theorem MkN {a : Int} (q : Nat) (hu : P.underlying T = some (.slice el)) (hz : (zeroOf P el).map (List.map nilB) = some [.nil]) (hs : szOf P el = some 1) (hb : (P.info? el).map (·.bytes) = some by')
    (h : (runs ops s o.guard, o.dst, o.op, ev s x, n, Nat.ble by' 1000) = (some true, some d, .makeSlice T x x, some (vI ik a), q, true)) (h0 : 0 ≤ a := by omega) (h1 : a ≤ 100000000000 := by omega) :
    Stp P ops o n s E (q + 1) (setAt s d (some (.own q a.toNat))) (setAt E q (some ⟨1, List.replicate a.toNat (.b .nil), true⟩)) [q] := by
  simp only [Prod.mk.injEq] at h; obtain ⟨b1, b2, b3, b4, rfl, b5⟩ := h
  have b5 := Nat.le_of_ble_eq_true b5
  refine st1 b1 b2 (b3 ▸ ?_)
  have hm : (by' : Int) * a ≤ 1000 * 100000000000 := Int.le_trans (Int.mul_le_mul_of_nonneg_right (show (by' : Int) ≤ 1000 by omega) h0) (by omega)
  have := Eff.makeN (P := P) (id := n) (E := E) T x a el [.nil] by' ik b4 hu hz hs hb (by simp) h0 (by omega) (by omega)
  have e : (some ⟨[B.nil].length, ((List.replicate a.toNat [B.nil]).flatten).map .b, true⟩ : Option Ent) = some ⟨1, List.replicate a.toNat (.b .nil), true⟩ := by
    rw [show (List.replicate a.toNat [B.nil]).flatten = List.replicate a.toNat B.nil by
      rw [List.flatten_replicate_singleton], List.map_replicate]; rfl
  rw [e] at this
  exact this
theorem So {q m : Nat} (hn : szOf P T = some 1) (h : (runs ops s o.guard, o.dst, o.op, ev s p, ev s x) = (some true, none, .store T p x, some (.ptr i off), some (.own q m))) (he : E i = some e) (hh : e.hot = true) (hl : off < e.cells.length) :
    Stp P ops o n s E (n + 1) s (setAt E i (some { e with cells := e.cells.set off (.own q m) })) [i] := by
  simp only [Prod.mk.injEq] at h
  exact stS h.1 h.2.1 (h.2.2.1 ▸ .store1 _ _ _ _ _ _ _ h.2.2.2.1 he hh h.2.2.2.2 rfl hn hl rfl)
theorem AoF {α : Type} {sz : Nat} {f : α → List B} {A : List α} {x1 : α} (q : Nat) (hu : P.underlying T = some (.slice el)) (hs : szOf P el = some sz) (hb : (P.info? el).map (·.bytes) = some by') (hz : (zeroOf P el).map List.length = some sz)
    (h : (n, runs ops s o.guard, o.dst, o.op, ev s x, ev s y, E j) = (q, some true, some d, .call { callee := .builtin .append, args := #[x, y], argTypes := #[T, T] }, some (.own i m), some (.own j 1), some ⟨sz, (f x1).map .b, true⟩)) (he : E i = some (rowT sz f A)) (hij : j ≠ i) (hf : ∀ x, (f x).length = sz) (hA : A.length = m)
    (hm : (m + 1) * by' ≤ 140737488355328 ∧ m + 1 ≤ maxLen) :
    Stp P ops o n s E (q + 1) (setAt s d (some (.own q (m + 1)))) (setAt (setAt E i none) q (some (rowT sz f (A ++ [x1])))) [i, q] := by
  simp only [Prod.mk.injEq] at h
  obtain ⟨rfl, h1, h2, h3, h4, h6, h7⟩ := h
  have := Eff.appendOO (P := P) (id := n) x y T el i m (rowT sz f A) j 1 ⟨sz, (f x1).map .b, true⟩ by' h4 he rfl (by simp only [rowT, List.length_map, cellsT_len hf, hA]) h6 h7 rfl (by simp [rowT, hf]) hij (by decide) hu hs hb hz hm.1 hm.2
  have e : (⟨(rowT sz f A).sz, (rowT sz f A).cells ++ (⟨sz, (f x1).map .b, true⟩ : Ent).cells.take (1 * (rowT sz f A).sz), true⟩ : Ent) = rowT sz f (A ++ [x1]) := by
    simp only [rowT, Nat.one_mul]
    rw [List.take_of_length_le (by simp [hf])]
    simp [cellsT, List.flatMap_append]
  rw [e] at this
  exact st2 h1 h2 (h3 ▸ this)
end
section
variable {b k k0 s q n n1 i : Nat} {C C1 : Css} {E : Env} {l : List (Nat × Nat)}
theorem hdr_rhA' (k0 : Nat) (hk : k0 = k) (hn : b + C.length ≤ 100000) (h : E i = some (hdr b C k0)) : E i = some ((hdr b C k).ren (rhA b l)) := by subst hk; exact hdr_rhA hn h
theorem hdr_rhB' {m : Nat} {L : List (List Int)} (k0 : Nat) (hk : k0 = k + 1) (C : Css) (hC : C1 = C ++ [L]) (hm : C.length = m) (hb : b + m < 100000) (hn : n = L.length) (h : E i = some ⟨1, (hdr b C k0).cells.set m (.own q n), true⟩) : E i = some ((hdr b C1 k).ren (rhB b l m q)) := by
  subst hk hC hm; exact hdr_rhB rfl hb hn h
theorem hdrS_low (h : b + C.length ≤ n1) (hq : q < n1) : ∀ v ∈ (hdr b C k).cells.set s (.own q n), v.all1.all (fun i => decide (i < n1)) = true := fun v hv => by
  rcases List.mem_or_eq_of_mem_set hv with h1 | rfl
  · exact hdr_low h v h1
  · simp [V.all1, V.all0, hq]
end
theorem ap1 {a b c : Nat} {l m : List Nat} (hl : l = [c]) (hm : m = []) (h1 : a ≠ c) (h2 : b ≠ c) : apartIds [a, b] (l ++ m) = true := by
  subst hl hm
  simp [apartIds, h1, h2]
end Go.VL

/- The disk: what a sector holds behind a Boot is what was durable, or a pending write, but for one that is torn. -/
set_option linter.unusedVariables false
set_option linter.unusedSimpArgs false
namespace Go.VL
def wholeB (L : List (List Int)) (b : List Int) : Bool := L.any fun x => eqL x b
/-- How many bytes are equal. -/
def cutN : List Int → List Int → Nat
  | a :: A, b :: B => if a = b then cutN A B + 1 else 0
  | _, _ => 0
def mixK (L : List (List Int)) (b : List Int) (i : Nat) (k : Nat) : Bool := eqL (b.drop (cutN b (L.getD i []))) ((L.getD k []).drop (cutN b (L.getD i [])))
def mixI (L : List (List Int)) (b : List Int) (i : Nat) : Bool := (List.range i).any fun k => mixK L b i k
def mixedB (L : List (List Int)) (b : List Int) : Bool := (List.range L.length).any fun i => mixI L b i
theorem cutN_of : ∀ {A B : List Int} {i : Nat}, i ≤ A.length → A.length = B.length → A.take i = B.take i → (i = A.length ∨ A.getD i 0 ≠ B.getD i 0) → cutN A B = i
  | [], B, i, h, _, _, _ => by
    have : i = 0 := by simpa using h
    subst this
    cases B <;> rfl
  | a :: A, [], i, h, hl, _, _ => by simp at hl
  | a :: A, b :: B, 0, h, hl, ht, hd => by
    rcases hd with hd | hd
    · simp at hd
    · rw [cutN, if_neg (by simpa using hd)]
  | a :: A, b :: B, i + 1, h, hl, ht, hd => by
    simp only [List.take_succ_cons, List.cons.injEq] at ht
    rw [cutN, if_pos ht.1, cutN_of (by simpa using h) (by simpa using hl) ht.2 (by simpa using hd)]
theorem cutN_le : ∀ {A B : List Int}, cutN A B ≤ A.length
  | [], B => by cases B <;> exact Nat.zero_le _
  | a :: A, [] => Nat.zero_le _
  | a :: A, b :: B => by
    rw [cutN]
    split
    · have := cutN_le (A := A) (B := B); simp; omega
    · exact Nat.zero_le _
theorem cutN_ge : ∀ {A B : List Int} {t : Nat}, t ≤ A.length → t ≤ B.length → A.take t = B.take t → t ≤ cutN A B
  | A, B, 0, _, _, _ => Nat.zero_le _
  | [], B, t + 1, h, _, _ => by simp at h
  | a :: A, [], t + 1, _, h, _ => by simp at h
  | a :: A, b :: B, t + 1, h, h2, ht => by
    simp only [List.take_succ_cons, List.cons.injEq] at ht
    rw [cutN, if_pos ht.1]
    have := cutN_ge (t := t) (by simpa using h) (by simpa using h2) ht.2
    omega
theorem mixed_of {L : List (List Int)} {b : List Int} {i k t : Nat} (hk : k < i) (hi : i < L.length) (hL : ∀ x ∈ L, x.length = 64) (ht : t ≤ 64) (hb : b = (L.getD i []).take t ++ (L.getD k []).drop t) : mixedB L b = true := by
  have h1 : (L.getD i []).length = 64 := hL _ (getD_mem' hi)
  have h2 : (L.getD k []).length = 64 := hL _ (getD_mem' (by omega))
  refine List.any_eq_true.2 ⟨i, List.mem_range.2 hi, List.any_eq_true.2 ⟨k, List.mem_range.2 hk, decide_eq_true ?_⟩⟩
  have htl : ((L.getD i []).take t).length = t := by rw [List.length_take]; omega
  have hbl : b.length = 64 := by rw [hb, List.length_append, htl, List.length_drop, h2]; omega
  have hge : t ≤ cutN b (L.getD i []) := cutN_ge (by omega) (by omega) (by rw [hb, List.take_append_of_le_length (by omega), List.take_take, Nat.min_self])
  have e : b.drop t = (L.getD k []).drop t := by rw [hb, List.drop_append_of_le_length (by omega), List.drop_of_length_le (by omega), List.nil_append]
  obtain ⟨q, hq⟩ : ∃ q, cutN b (L.getD i []) = t + q := ⟨cutN b (L.getD i []) - t, by omega⟩
  rw [hq, ← List.drop_drop, ← List.drop_drop, e]
theorem whole_of {L : List (List Int)} {b : List Int} (h : b ∈ L) : wholeB L b = true := List.any_eq_true.2 ⟨b, h, decide_eq_true rfl⟩
/-- What was ever written to a sector. -/
def lst (P : List Pen) (s : Nat) : Nat → List (List Int)
  | 0 => [zRow]
  | j + 1 => if (P.getD j w0).1 = (s : Int) then lst P s j ++ [(P.getD j w0).2] else lst P s j
theorem lst_app {P : List Pen} {w : Pen} {s : Nat} : ∀ j, j ≤ P.length → lst (P ++ [w]) s j = lst P s j
  | 0, _ => rfl
  | j + 1, h => by
    have e : (P ++ [w]).getD j w0 = P.getD j w0 := by
      rw [List.getD_eq_getElem?_getD, List.getD_eq_getElem?_getD, List.getElem?_append_left (by omega)]
    rw [lst, lst, e, lst_app j (by omega)]
theorem lst_snoc {P : List Pen} {w : Pen} {s : Nat} : lst (P ++ [w]) s (P.length + 1) = if w.1 = (s : Int) then lst P s P.length ++ [w.2] else lst P s P.length := by
  have e : (P ++ [w]).getD P.length w0 = w := by simp [List.getD_eq_getElem?_getD]
  rw [lst, e, lst_app _ (Nat.le_refl _)]
theorem lst_len {P : List Pen} {s : Nat} : ∀ j, (lst P s j).length ≤ j + 1
  | 0 => Nat.le_refl _
  | j + 1 => by
    have := lst_len (P := P) (s := s) j
    rw [lst]
    split
    · rw [List.length_append]; simp; omega
    · omega
theorem lst_64 {P : List Pen} {s : Nat} (hP : ∀ w ∈ P, w.2.length = 64) : ∀ j, j ≤ P.length → ∀ x ∈ lst P s j, x.length = 64
  | 0, _, x, hx => by
    simp only [lst, List.mem_singleton] at hx
    subst hx; rfl
  | j + 1, h, x, hx => by
    rw [lst] at hx
    split at hx
    · rcases List.mem_append.1 hx with hx | hx
      · exact lst_64 hP j (by omega) x hx
      · rw [List.mem_singleton.1 hx]; exact hP _ (getD_mem' (by omega))
    · exact lst_64 hP j (by omega) x hx
def MixO (L : List (List Int)) (b : List Int) : Prop := ∃ i k t, k < i ∧ i < L.length ∧ t ≤ 64 ∧ b = (L.getD i []).take t ++ (L.getD k []).drop t
theorem MixO.app {L : List (List Int)} {b y : List Int} (h : MixO L b) : MixO (L ++ [y]) b := by
  obtain ⟨i, k, t, h1, h2, h3, h4⟩ := h
  have e : ∀ j, j < L.length → (L ++ [y]).getD j [] = L.getD j [] := fun j hj => by
    rw [List.getD_eq_getElem?_getD, List.getD_eq_getElem?_getD, List.getElem?_append_left hj]
  exact ⟨i, k, t, h1, by rw [List.length_append]; omega, h3, by rw [e i h2, e k (by omega)]; exact h4⟩
theorem tear_j {z m : Nat} {d : Dk} (hd : d.Ok (z * 64) m) (h0 : ∀ s : Nat, s < z → sec d.dur s = zRow) {K : List Bool} {last torn : Int} : ∀ j, j ≤ d.pen.length → ∀ s : Nat, s < z →
    sec (boL K last torn d.pen d.dur j) s ∈ lst d.pen s j ∨ (last < (j : Int) ∧ (d.pen.getD last.toNat w0).1 = (s : Int) ∧ MixO (lst d.pen s j) (sec (boL K last torn d.pen d.dur j) s))
  | 0, _, s, hs => .inl (by rw [boL, h0 s hs]; exact List.mem_singleton.2 rfl)
  | j + 1, hj, s, hs => by
    have ih := tear_j hd h0 (K := K) (last := last) (torn := torn) j (by omega) s hs
    obtain ⟨j0, j1, j2⟩ := hd.at (i := j) (by omega)
    have hlen := boL_len hd (K := K) (last := last) (torn := torn) j (by omega)
    have hsl : (sec (boL K last torn d.pen d.dur j) (s : Int)).length = 64 := sec_len (by omega) (by rw [hlen]; omega)
    by_cases hw : (d.pen.getD j w0).1 = (s : Int)
    · have el : lst d.pen s (j + 1) = lst d.pen s j ++ [(d.pen.getD j w0).2] := by rw [lst, if_pos hw]
      have keep : ∀ b, (b ∈ lst d.pen s j ∨ (last < (j : Int) ∧ (d.pen.getD last.toNat w0).1 = (s : Int) ∧ MixO (lst d.pen s j) b)) → (b ∈ lst d.pen s (j + 1) ∨ (last < ((j + 1 : Nat) : Int) ∧ (d.pen.getD last.toNat w0).1 = (s : Int) ∧ MixO (lst d.pen s (j + 1)) b)) := fun b h => by
        rw [el]
        rcases h with h | ⟨h1, h2, h3⟩
        · exact .inl (List.mem_append_left _ h)
        · exact .inr ⟨by omega, h2, h3.app⟩
      by_cases hK : K.getD j false = true
      · rw [boL, if_pos hK]
        have e1 : sec (put (boL K last torn d.pen d.dur j) (d.pen.getD j w0).1 (tearB last torn j (d.pen.getD j w0).2)) (s : Int) = cpw (sec (boL K last torn d.pen d.dur j) (s : Int)) 0 64 (tearB last torn j (d.pen.getD j w0).2) := by
          rw [hw]; exact sec_put_same (by omega) (by rw [hlen]; omega)
        rw [e1]
        by_cases ht : (j : Int) = last ∧ torn ≥ 0 ∧ torn < ((d.pen.getD j w0).2.length : Int)
        · rw [tearB, if_pos ht]
          obtain ⟨t1, t2, t3⟩ := ht
          have e2 : cpw (sec (boL K last torn d.pen d.dur j) (s : Int)) 0 64 ((d.pen.getD j w0).2.take torn.toNat) = (d.pen.getD j w0).2.take torn.toNat ++ (sec (boL K last torn d.pen d.dur j) (s : Int)).drop torn.toNat := by
            have l1 : ((d.pen.getD j w0).2.take torn.toNat).length = torn.toNat := by rw [List.length_take]; omega
            have l2 : Nat.min torn.toNat 64 = torn.toNat := Nat.min_eq_left (by omega)
            simp only [cpw, List.take_zero, List.nil_append, l1, l2, Nat.zero_add]
            rw [List.take_of_length_le (by omega)]
          rw [e2, el]
          rcases ih with h | ⟨h1, _, _⟩
          · refine .inr ⟨by omega, ?_, ?_⟩
            · rw [← t1]; simpa using hw
            · obtain ⟨k, hk, hk2⟩ := List.mem_iff_getElem.1 h
              refine ⟨(lst d.pen s j).length, k, torn.toNat, hk, by simp, by omega, ?_⟩
              have g1 : (lst d.pen s j ++ [(d.pen.getD j w0).2]).getD (lst d.pen s j).length [] = (d.pen.getD j w0).2 := by simp [List.getD_eq_getElem?_getD]
              have g2 : (lst d.pen s j ++ [(d.pen.getD j w0).2]).getD k [] = (lst d.pen s j)[k] := by
                rw [List.getD_eq_getElem?_getD, List.getElem?_append_left hk, List.getElem?_eq_getElem hk]; rfl
              rw [g1, g2, hk2]
          · omega
        · rw [tearB, if_neg ht, cpw_all hsl j2, el]
          exact .inl (List.mem_append_right _ (List.mem_singleton.2 rfl))
      · rw [boL, if_neg hK]; exact keep _ ih
    · have el : lst d.pen s (j + 1) = lst d.pen s j := by rw [lst, if_neg hw]
      have e1 : sec (boL K last torn d.pen d.dur (j + 1)) (s : Int) = sec (boL K last torn d.pen d.dur j) (s : Int) := by
        rw [boL]
        split
        · exact sec_put j0 (by rw [hlen]; exact j1) (by omega) hw
        · rfl
      rw [e1, el]
      rcases ih with h | ⟨h1, h2, h3⟩
      · exact .inl h
      · exact .inr ⟨by omega, h2, h3⟩
/-- What the contents are. -/
structure TrI (z : Nat) (d : Dk) (C : Css) : Prop where
  off : d.off = false
  fuse : d.fuse = -1
  dur : d.dur = List.replicate (z * 64) 0
  len : C.length = z
  con : ∀ s, s < z → C.getD s [] = lst d.pen s d.pen.length
theorem sec_zero {z s : Nat} (h : s < z) : sec (List.replicate (z * 64) 0) (s : Int) = zRow := by
  rw [sec, List.drop_replicate, List.take_replicate, zRow]
  congr 1; omega
theorem TrI.new {z : Nat} : TrI z (newD z) (List.replicate z [zRow]) := ⟨rfl, rfl, rfl, by simp, fun s hs => by
  have : (newD z).pen = [] := rfl
  rw [this]
  simp [List.getD_eq_getElem?_getD, hs, lst]⟩
def wrK (d : Dk) (s : Nat) (b : List Int) : Dk := { d with pen := d.pen ++ [((s : Int), b)] }
theorem TrI.write {z s : Nat} {d : Dk} {C : Css} {b : List Int} (h : TrI z d C) (hs : s < z) : TrI z (wrK d s b) (C.set s (C.getD s [] ++ [b])) := by
  refine ⟨h.off, h.fuse, h.dur, by rw [List.length_set]; exact h.len, fun i hi => ?_⟩
  have hl := h.len
  show _ = lst (d.pen ++ [((s : Int), b)]) i (d.pen ++ [((s : Int), b)]).length
  rw [List.length_append, List.length_singleton, lst_snoc]
  by_cases hsi : s = i
  · subst hsi
    rw [if_pos rfl, ← h.con s hs]
    simp [List.getD_eq_getElem?_getD, hl, hs]
  · rw [if_neg (by simp only; omega), ← h.con i hi]
    simp [List.getD_eq_getElem?_getD, hsi]
theorem wr_ok {z m s : Nat} {d : Dk} {b : List Int} (hd : d.Ok (z * 64) m) (hs : s < z) (hb : b.length = 64) : (wrK d s b).Ok (z * 64) (m + 1) := by
  refine { hd with pen := by have := hd.pen; simp only [wrK, List.length_append, List.length_singleton]; omega, ins := fun w hw => ?_ }
  rcases List.mem_append.1 hw with h | h
  · exact hd.ins w h
  · rw [List.mem_singleton.1 h]; exact ⟨by simp only; omega, by simp only; omega, hb⟩
theorem wr_eq {z s : Nat} {d : Dk} {b : List Int} (h0 : d.off = false) (h1 : d.fuse = -1) (hs : s < z) (hb : b.length = 64) : d.writeR (z * 64) (s : Int) b = (wrK d s b, 0) := by
  have hh : hasS (z * 64) (s : Int) = true := hasS_yes (by omega) (by omega)
  have ho : d.out = false := by simp [Dk.out, h1]
  have hbu : d.burn = d := by simp [Dk.burn, h1]
  simp [Dk.writeR, h0, hh, hb, ho, hbu, wrK]
/-- The sector that may be torn. -/
def tornS (d : Dk) (keep : List Int) : Int := (d.pen.getD (kpL keep d.pen.length keep.length).2.toNat w0).1
theorem TrI.law {z m : Nat} {d : Dk} {C : Css} (h : TrI z d C) (hd : d.Ok (z * 64) m) (keep : List Int) (torn : Int) {i : Nat} (hi : i < z) :
    wholeB (C.getD i []) (rdS (d.bootR keep torn) (i : Int)) = true ∨ (mixedB (C.getD i []) (rdS (d.bootR keep torn) (i : Int)) = true ∧ tornS d keep = (i : Int)) := by
  have e : rdS (d.bootR keep torn) (i : Int) = sec (d.bootR keep torn).dur (i : Int) := by
    rw [rdS_sec (sec_len (by omega) (by rw [(hd.boot keep torn).len]; omega))]; rfl
  rw [e, h.con i hi]
  have h0 : ∀ s : Nat, s < z → sec d.dur s = zRow := fun s hs => by rw [h.dur]; exact sec_zero hs
  rcases tear_j hd h0 (K := (kpL keep d.pen.length keep.length).1) (last := (kpL keep d.pen.length keep.length).2) (torn := torn) d.pen.length (Nat.le_refl _) i hi with h1 | ⟨_, h1, i', k, t, h2, h3, h4, h5⟩
  · exact .inl (whole_of h1)
  · exact .inr ⟨mixed_of h2 h3 (lst_64 (fun w hw => (hd.ins w hw).2.2) _ (Nat.le_refl _)) h4 h5, h1⟩
theorem TrI.all {z m : Nat} {d : Dk} {C : Css} (h : TrI z d C) (hd : d.Ok (z * 64) m) {i : Nat} (hi : i < z) : (∀ x ∈ C.getD i [], x.length = 64) ∧ (C.getD i []).length ≤ m + 1 := by
  rw [h.con i hi]
  have := lst_len (P := d.pen) (s := i) d.pen.length
  have := hd.pen
  exact ⟨lst_64 (fun w hw => (hd.ins w hw).2.2) _ (Nat.le_refl _), by omega⟩
theorem whole_step {L : List (List Int)} {b : List Int} {i : Nat} (hi : i < L.length) (h : (L.take i).any (fun x => eqL x b) = false) (h2 : eqL (L.getD i []) b = false) : (L.take (i + 1)).any (fun x => eqL x b) = false := by
  have e : L[i]? = some (L.getD i []) := gd hi
  rw [List.take_add_one, List.any_append, h, Bool.false_or, e]
  show ((eqL (L.getD i []) b) || false) = false
  rw [h2]; rfl
theorem any_last {f : Nat → Bool} {i : Nat} : (List.range (i + 1)).any f = ((List.range i).any f || f i) := by
  rw [List.range_succ, List.any_append]; simp
end Go.VL

/- The journal, plain: a disk that does not fail. -/
set_option linter.unusedVariables false
set_option linter.unusedSimpArgs false
namespace Go.VL
structure Dk.Up (d : Dk) : Prop where
  off : d.off = false
  fuse : d.fuse = -1
section
variable {z m k t s : Nat} {d : Dk} {b : List Int}
theorem rdL_app {P Q : List Pen} {s : Int} {R : List Int} : ∀ i, i ≤ P.length → rdL s (P ++ Q) R i = rdL s P R i
  | 0, _ => rfl
  | i + 1, h => by
    have e := rdL_app (P := P) (Q := Q) (s := s) (R := R) i (by omega)
    have : (P ++ Q).getD i w0 = P.getD i w0 := by simp [List.getD_eq_getElem?_getD, List.getElem?_append_left (show i < P.length by omega)]
    simp only [rdL]
    rw [this, e]
theorem rdS_write (hb : b.length = 64) : rdS (wrK d s b) (t : Int) = if s = t then b else rdS d t := by
  have hR : (cpw (List.replicate 64 0) 0 64 (sec d.dur t)).length = 64 := by rw [cpw_len (by simp)]; simp
  have h1 : rdL (t : Int) d.pen (cpw (List.replicate 64 0) 0 64 (sec d.dur t)) d.pen.length = rdS d t := rfl
  have h2 := rdL_len (s := (t : Int)) (P := d.pen) hR d.pen.length
  have e : (d.pen ++ [((s : Int), b)]).getD d.pen.length w0 = ((s : Int), b) := by simp
  unfold rdS wrK
  simp only [List.length_append, List.length_singleton]
  rw [rdL, e, rdL_app _ (Nat.le_refl _)]
  by_cases h : s = t
  · subst h; rw [if_pos rfl, if_pos rfl, cpw_all h2 hb]
  · rw [if_neg (by omega), if_neg h]
theorem sec_put_at {D : List Int} {s : Int} (h0 : 0 ≤ s) (h1 : s * 64 + 64 ≤ D.length) : sec (put D s b) s = cpw (sec D s) 0 64 b := by
  apply List.ext_getElem?
  intro j
  have hl := sec_len h0 h1
  rw [sec_get, cpw_get (by omega), put, cpw_get (by omega), sec_get]
  by_cases hj : j < 64
  · rw [if_pos hj, if_pos hj]
    by_cases h2 : j < min b.length 64
    · rw [if_pos (by omega), if_pos (by omega)]; congr 1; omega
    · rw [if_neg (by omega), if_neg (by omega)]
  · rw [if_neg hj, if_neg hj, if_neg (by omega)]
theorem sec_syL (hd : d.Ok (z * 64) m) (ht : t < z) : ∀ i, i ≤ d.pen.length → sec (syL d.pen d.dur i) (t : Int) = rdL (t : Int) d.pen (sec d.dur t) i
  | 0, _ => rfl
  | i + 1, hi => by
    have hl := syL_len hd i (by omega)
    obtain ⟨a, b, c⟩ := hd.at (i := i) (by omega)
    simp only [syL, rdL]
    by_cases h : (d.pen.getD i w0).1 = (t : Int)
    · rw [if_pos h, ← sec_syL hd ht i (by omega), ← h, sec_put_at a (by rw [hl]; exact b)]
    · rw [if_neg h, sec_put a (by rw [hl]; exact b) (by omega) h, sec_syL hd ht i (by omega)]
theorem rdS_eq (hd : d.Ok (z * 64) m) (ht : t < z) : rdS d (t : Int) = rdL (t : Int) d.pen (sec d.dur t) d.pen.length := by
  have hl : (sec d.dur (t : Int)).length = 64 := sec_len (by omega) (by have := hd.len; omega)
  unfold rdS
  rw [cpw_all (by simp) hl]
def syK (d : Dk) : Dk := { d with dur := syL d.pen d.dur d.pen.length, pen := [] }
theorem rdS_sync (hd : d.Ok (z * 64) m) (ht : t < z) : rdS (syK d) (t : Int) = rdS d t := by
  have h2 : (syK d).Ok (z * 64) m := { hd with len := syL_len hd _ (Nat.le_refl _), pen := Nat.zero_le _, ins := fun w hw => by cases hw }
  rw [rdS_eq hd ht, rdS_eq h2 ht, ← sec_syL hd ht _ (Nat.le_refl _)]
  rfl
theorem sync_up (h : d.Up) : d.syncR = (syK d, 0) := by
  simp [Dk.syncR, h.off, out_none h.fuse, burn_none h.fuse, syK]
theorem syK_up (h : d.Up) : (syK d).Up := ⟨h.off, h.fuse⟩
theorem wrK_up (h : d.Up) : (wrK d s b).Up := ⟨h.off, h.fuse⟩
theorem write_up (h : d.Up) (hs : s < z) (hb : b.length = 64) : d.writeR (z * 64) (s : Int) b = (wrK d s b, 0) := wr_eq h.off h.fuse hs hb
theorem read_upS (h : d.Up) (hs : s < z) : d.readR (z * 64) (s : Int) = (d, rdS d s, 0) := read_up h.off h.fuse (hasS_of (by omega) (by omega))
theorem up_new : (newD z).Up := ⟨rfl, rfl⟩
theorem new_zer (ht : t < z) : rdS (newD z) (t : Int) = zer := by
  unfold rdS newD
  simp only [List.length_nil, rdL]
  rw [sec_zero ht]; rfl
end
/-- The sectors of a form lie on the disk from one sector on. -/
def Lies (d : Dk) (ed k : Nat) (F : List Int) : Prop := ∀ j, j < k → rdS d ((ed + j : Nat) : Int) = secF F j
section
variable {z m k ed : Nat} {d : Dk} {F : List Int}
theorem wrSec_up (hF : F.length = k * 64) : ∀ (q j : Nat) (d : Dk), d.Up → j + q = k → ed + k ≤ z →
    ∃ d', wrSec (z * 64) (ed : Int) F j q d = (d', 0) ∧ d'.Up ∧ ∀ t : Nat, rdS d' (t : Int) = if ed + j ≤ t ∧ t < ed + k then secF F (t - ed) else rdS d t
  | 0, j, d, h, hj, hz => ⟨d, rfl, h, fun t => by rw [if_neg (by omega)]⟩
  | q + 1, j, d, h, hj, hz => by
    have hl : (secF F j).length = 64 := secF_len hF (by omega)
    have hw : d.writeR (z * 64) ((ed : Int) + (j : Int)) (secF F j) = (wrK d (ed + j) (secF F j), 0) := by
      rw [show (ed : Int) + (j : Int) = ((ed + j : Nat) : Int) by omega]; exact write_up h (by omega) hl
    obtain ⟨d', h1, h2, h3⟩ := wrSec_up hF q (j + 1) (wrK d (ed + j) (secF F j)) (wrK_up h) (by omega) hz
    refine ⟨d', by rw [wrSec, hw, if_pos rfl]; exact h1, h2, fun t => ?_⟩
    rw [h3 t, rdS_write hl]
    by_cases ht : ed + j = t
    · subst ht
      rw [if_neg (by omega), if_pos rfl, if_pos (by omega)]
      congr 1; omega
    · by_cases h4 : ed + (j + 1) ≤ t ∧ t < ed + k
      · rw [if_pos h4, if_pos (by omega)]
      · rw [if_neg h4, if_neg ht, if_neg (by omega)]
theorem syK_ok (hd : d.Ok (z * 64) m) : (syK d).Ok (z * 64) m := { hd with len := syL_len hd _ (Nat.le_refl _), pen := Nat.zero_le _, ins := fun w hw => by cases hw }
/-- What writing a form does to a disk that does not fail. -/
theorem wfR_up (hd : d.Ok (z * 64) m) (hb : d.By) (h : d.Up) (hF : F.length = k * 64) (hFB : ByR F) (hk : 1 ≤ k ∧ k ≤ 80) (hz : ed + k ≤ z) :
    ∃ d', wfR (z * 64) (ed : Int) F k d = (d', 0) ∧ d'.Up ∧ (∀ t : Nat, t < z → rdS d' (t : Int) = if ed ≤ t ∧ t < ed + k then secF F (t - ed) else if t = ed + k then zer else rdS d t) ∧ d'.pen = [] := by
  have hzz : ((z * 64 : Nat) : Int) / 64 = (z : Int) := by omega
  obtain ⟨d1, a1, a2, a3, a4⟩ : ∃ d1, wfA (z * 64) (ed : Int) k d = (d1, 0) ∧ d1.Up ∧ (∀ t : Nat, t < z → rdS d1 (t : Int) = if t = ed + k then zer else rdS d t) ∧ d1.Ok (z * 64) (m + 1) := by
    by_cases hq : ed + k < z
    · refine ⟨wrK d (ed + k) zer, ?_, wrK_up h, fun t ht => ?_, wr_ok hd hq (by simp)⟩
      · rw [wfA_y (by omega), show (ed : Int) + (k : Int) = ((ed + k : Nat) : Int) by omega]; exact write_up h hq (by simp)
      · rw [rdS_write (by simp)]
        by_cases h1 : t = ed + k
        · rw [if_pos h1.symm, if_pos h1]
        · rw [if_neg (fun e => h1 e.symm), if_neg h1]
    · exact ⟨d, wfA_n (by omega), h, fun t ht => by rw [if_neg (by omega)], hd.mono (by omega)⟩
  obtain ⟨d2, b1, b2, b3⟩ := wrSec_up (z := z) (ed := ed) hF (k - 1) 1 d1 a2 (by omega) hz
  have b4 : d2.Ok (z * 64) (m + 1 + (k - 1)) := by have hby : d1.By := by
                                                    have := hb
                                                    have e : d1 = (wfA (z * 64) (ed : Int) k d).1 := by rw [a1]
                                                    rw [e]; unfold wfA
                                                    split
                                                    · exact hb.writeR _ _ .rep
                                                    · exact hb
                                                   have := (wrSec_ok (n := z * 64) (F := F) (e := (ed : Int)) (k - 1) 1 d1 a4 hby hFB).1
                                                   rw [b1] at this; exact this
  have hl0 : (secF F 0).length = 64 := secF_len hF (by omega)
  have hok3 := syK_ok b4
  have hok4 := wr_ok (s := ed) (b := secF F 0) hok3 (by omega) hl0
  have hw : (syK d2).writeR (z * 64) (ed : Int) (secF F 0) = (wrK (syK d2) ed (secF F 0), 0) := write_up (syK_up b2) (by omega) hl0
  refine ⟨syK (wrK (syK d2) ed (secF F 0)), ?_, syK_up (wrK_up (syK_up b2)), fun t ht => ?_, rfl⟩
  · rw [wfR_ok (by rw [a1]), a1, wfB, b1]
    simp only
    rw [if_pos trivial, wfC_ok (by rw [sync_up b2]) (by rw [sync_up b2]; simp only; rw [hw]), sync_up b2]
    simp only
    rw [hw]
    exact sync_up (wrK_up (syK_up b2))
  · rw [rdS_sync hok4 ht, rdS_write hl0]
    by_cases h1 : ed = t
    · subst h1; rw [if_pos rfl, if_pos (by omega), Nat.sub_self]
    · rw [if_neg h1, rdS_sync b4 ht, b3 t]
      by_cases h2 : ed ≤ t ∧ t < ed + k
      · rw [if_pos (by omega), if_pos h2]
      · rw [if_neg (by omega), if_neg h2, a3 t ht]
end
end Go.VL

/- The journal, plain: without failures what was appended is what is read. -/
set_option linter.unusedVariables false
set_option linter.unusedSimpArgs false
namespace Go.VL
section
variable {z m k ed t n : Nat} {d d' : Dk} {F r b : List Int} {R R0 R' : List (List Int)}
theorem form_eq (k : Int) (r : List Int) : formQ k r = (leB k 4 ++ leB (r.length : Int) 2) ++ (r ++ (leB (bv (crcQ (headQ k r))) 4 ++ List.replicate (cntQ r.length * 64 - (r.length + 10)) 0)) := by
  simp [formQ, bodyQ, headQ, List.append_assoc]
theorem form_take4 (k : Int) (r : List Int) : (formQ k r).take 4 = leB k 4 := by
  rw [form_eq, List.append_assoc, List.take_append_of_le_length (by simp), List.take_of_length_le (by simp)]
theorem leB2 (n : Int) : leB n 2 = [n % 256, n / 256 % 256] := by simp [leB]
theorem form_4 (k : Int) (r : List Int) : (formQ k r).getD 4 0 = (r.length : Int) % 256 ∧ (formQ k r).getD 5 0 = (r.length : Int) / 256 % 256 := by
  rw [form_eq, leB2, List.append_assoc]
  constructor
  · rw [List.getD_eq_getElem?_getD, List.getElem?_append_right (by simp)]; simp
  · rw [List.getD_eq_getElem?_getD, List.getElem?_append_right (by simp)]; simp
theorem form_rec (k : Int) (r : List Int) : recQ (formQ k r) r.length = r := by
  have hl : (leB k 4 ++ leB (r.length : Int) 2).length = 6 := by simp
  unfold recQ
  rw [form_eq, List.drop_take, List.drop_append_of_le_length (by omega), List.drop_of_length_le (by omega), List.nil_append, show 6 + r.length - 6 = r.length by omega]
  exact List.take_left' rfl
theorem getD_take64 {F : List Int} {i : Nat} (hi : i < 64) : (F.take 64).getD i 0 = F.getD i 0 := by
  simp [List.getD_eq_getElem?_getD, List.getElem?_take, hi]
theorem secF_zero (F : List Int) : secF F 0 = F.take 64 := by simp [secF]
theorem form_size {k : Int} (h : RecOk r) : sizeQ (secF (formQ k r) 0) = r.length := by
  have h4 := form_4 k r
  have hl := h.2.1
  unfold sizeQ
  rw [secF_zero, getD_take64 (by decide), getD_take64 (by decide), h4.1, h4.2]
  omega
theorem rdAll_up (hu : d.Up) (hL : Lies d ed k F) (hz : ed + k ≤ z) : ∀ (q i : Nat), i + q = k → rdAll (z * 64) (ed : Int) i q d (F.take (i * 64)) = (d, F.take (k * 64), 0)
  | 0, i, h => by rw [rdAll, show i = k by omega]
  | q + 1, i, h => by
    have hr : d.readR (z * 64) ((ed : Int) + (i : Int)) = (d, secF F i, 0) := by
      rw [show (ed : Int) + (i : Int) = ((ed + i : Nat) : Int) by omega, read_upS hu (by omega), hL i (by omega)]
    have e : F.take (i * 64) ++ secF F i = F.take ((i + 1) * 64) := by
      unfold secF
      conv => rhs; rw [← List.take_append_drop (i * 64) (F.take ((i + 1) * 64))]
      rw [List.take_take, Nat.min_eq_left (by omega)]
    rw [rdAll, hr, if_pos rfl]
    show rdAll _ _ _ _ d (F.take (i * 64) ++ secF F i) = _
    rw [e]
    exact rdAll_up hu hL hz q (i + 1) (by omega)
/-- The record is read. -/
theorem nx_rec (hu : d.Up) (hr : RecOk r) (hL : Lies d ed (cntQ r.length) (formQ k r)) (hz : ed + cntQ r.length ≤ z) : nxR (z * 64) k ed d = (d, r, secF (formQ k r) 0, 0) := by
  have hc : 1 ≤ cntQ r.length := by unfold cntQ; omega
  have hl := formQ_len (k : Int) r
  have h0 : d.readR (z * 64) (ed : Int) = (d, secF (formQ k r) 0, 0) := by rw [read_upS hu (by omega)]; have := hL 0 (by omega); simp only [Nat.add_zero] at this; rw [this]
  have h1 : ¬ z * 64 / 64 ≤ ed := by omega
  have hs := form_size (k := (k : Int)) hr
  have h2 : FitQ (z * 64) k ed (d.readR (z * 64) (ed : Int)).2.1 := by
    rw [h0]
    refine ⟨?_, ?_, ?_, ?_⟩
    · simp only [secF_zero, List.take_take]; exact form_take4 _ _
    · simp only [hs]; exact List.length_pos_iff.2 hr.1
    · simp only [hs]; exact hr.2.1
    · simp only [hs]; rw [Nat.mul_div_cancel _ (by decide)]; exact hz
  have ha := rdAll_up hu hL hz (cntQ r.length - 1) 1 (by omega)
  rw [Nat.one_mul, List.take_of_length_le (show (formQ (k : Int) r).length ≤ cntQ r.length * 64 by omega)] at ha
  rw [nx_fit h1 (by rw [h0]) h2 rfl]
  rw [h0]
  simp only [hs]
  rw [secF_zero, ha]
  simp only [form_rec, ↓reduceIte]
theorem nx_full (h : z ≤ ed) : nxR (z * 64) k ed d = (d, [], [], 0) := nx_end (by omega)
theorem nx_zer (hu : d.Up) (h : ed < z) (h0 : rdS d (ed : Int) = zer) : nxR (z * 64) k ed d = (d, [], zer, 0) := by
  have hr : d.readR (z * 64) (ed : Int) = (d, zer, 0) := by rw [read_upS hu h, h0]
  rw [nx_unfit (by omega) (by rw [hr]) (by
    rw [hr]; rintro ⟨_, g2, _⟩
    have : sizeQ zer = 0 := by decide
    simp only [this] at g2; omega), hr]
/-- The records lie on the disk from a sector on. -/
def Holds (d : Dk) : Nat → Nat → List (List Int) → Prop
  | _, _, [] => True
  | k, ed, r :: R => Lies d ed (cntQ r.length) (formQ k r) ∧ Holds d (k + 1) (ed + cntQ r.length) R
def totQ : List (List Int) → Nat
  | [] => 0
  | r :: R => cntQ r.length + totQ R
theorem totQ_app : totQ (R ++ R') = totQ R + totQ R' := by
  induction R with
  | nil => simp [totQ]
  | cons r R ih => simp only [List.cons_append, totQ, ih]; omega
theorem holds_app : ∀ {R : List (List Int)} {k ed : Nat}, Holds d k ed (R ++ R') ↔ Holds d k ed R ∧ Holds d (k + R.length) (ed + totQ R) R'
  | [], k, ed => by simp [Holds, totQ]
  | r :: R, k, ed => by
    simp only [List.cons_append, Holds, holds_app (R := R), totQ, List.length_cons]
    rw [show k + 1 + R.length = k + (R.length + 1) by omega, show ed + cntQ r.length + totQ R = ed + (cntQ r.length + totQ R) by omega]
    exact and_assoc.symm
theorem holds_congr {e : Nat} (h : ∀ t, t < e → rdS d' (t : Int) = rdS d t) : ∀ {R : List (List Int)} {k ed : Nat}, ed + totQ R ≤ e → Holds d k ed R → Holds d' k ed R
  | [], k, ed, _, _ => trivial
  | r :: R, k, ed, he, hh => by
    simp only [totQ] at he
    exact ⟨fun j hj => (h _ (by omega)).trans (hh.1 j hj), holds_congr h (by omega) hh.2⟩
theorem op_up (hu : d.Up) : ∀ (R : List (List Int)) {f : Nat} {R0 : List (List Int)} {ed : Nat}, Holds d R0.length ed R → (∀ r ∈ R, RecOk r) → ed + totQ R ≤ z → (ed + totQ R < z → rdS d ((ed + totQ R : Nat) : Int) = zer) → z + 1 ≤ ed + f →
    opR (z * 64) f R0 ed d = (d, R0 ++ R, ed + totQ R, 0)
  | [], f, R0, ed, hh, hr, hz, he, hf => by
    simp only [totQ, Nat.add_zero, List.append_nil] at *
    by_cases h : z ≤ ed
    · rw [op_end (by rw [nx_full h]) (by rw [nx_full h]) (.inl (by rw [nx_full h])) (by omega), nx_full h]
    · have hx := nx_zer (z := z) (k := R0.length) hu (by omega) (he (by omega))
      rw [op_end (by rw [hx]) (by rw [hx]) (.inr (by rw [hx])) (by omega), hx]
  | r :: R, f, R0, ed, hh, hr, hz, he, hf => by
    simp only [totQ] at hz he ⊢
    have h1 := hr r (by simp)
    have hx := nx_rec (z := z) hu h1 hh.1 (by omega)
    have hc := cntQ_le r.length
    rw [op_rec (by rw [hx]) (by rw [hx]; exact h1.1) (by omega), hx]
    have := op_up hu R (f := f - 1) (R0 := R0 ++ [r]) (ed := ed + cntQ r.length) (by simpa using hh.2) (fun x hx => hr x (by simp [hx])) (by omega) (fun h => by have := he (by omega); rwa [show ed + cntQ r.length + totQ R = ed + (cntQ r.length + totQ R) by omega]) (by omega)
    rw [this]
    simp [Nat.add_assoc]
end
/-- A journal on a disk that does not fail. -/
structure JI (z : Nat) (j : Jn) : Prop where
  up : j.d.Up
  h : Holds j.d 0 0 j.R
  ed : j.ed = totQ j.R
  le : j.ed ≤ z
  e : j.ed < z → rdS j.d (j.ed : Int) = zer
  fl : j.fl = false
  pen : j.d.pen = []
section
variable {z m : Nat} {j : Jn} {b : List Int} {d : Dk}
theorem JI.open (h : JI z j) (hr : ∀ r ∈ j.R, RecOk r) : opR (z * 64) (z * 64 / 64 + 1) [] 0 j.d = (j.d, j.R, j.ed, 0) := by
  have := op_up h.up j.R (f := z * 64 / 64 + 1) (R0 := []) (ed := 0) (z := z) h.h hr (by have := h.ed; have := h.le; omega) (fun h1 => by have := h.e (by have := h.ed; omega); rw [Nat.zero_add, ← h.ed]; exact this) (by omega)
  rw [this, Nat.zero_add, h.ed]; rfl
theorem JI.openJ (h : JI z j) (hr : ∀ r ∈ j.R, RecOk r) : (opR (z * 64) (z * 64 / 64 + 1) [] 0 j.d).2.2.2 = 0 ∧ opJ (z * 64) j.d = j := by
  have := h.open hr
  refine ⟨by rw [this], ?_⟩
  unfold opJ
  rw [this, ← h.fl]
theorem JI.new (hz : 1 ≤ z) : JI z ⟨newD z, [], 0, false⟩ := ⟨up_new, trivial, rfl, Nat.zero_le _, fun _ => new_zer (by omega), rfl, rfl⟩
theorem JI.append (h : JI z j) (hj : j.Ok (z * 64) m) (hb : RecOk b) (hz : j.ed + cntQ b.length ≤ z) : (apR (z * 64) j b).2 = 0 ∧ JI z (apR (z * 64) j b).1 ∧ (apR (z * 64) j b).1.R = j.R ++ [b] ∧ (apR (z * 64) j b).1.ed = j.ed + cntQ b.length := by
  have hl := List.length_pos_iff.2 hb.1
  have hl2 := hb.2.1
  obtain ⟨d', w1, w2, w3, w4⟩ := wfR_up (ed := j.ed) hj.d hj.b h.up (formQ_len (j.R.length : Int) b) (formQ_by hb.2.2) ⟨by unfold cntQ; omega, by unfold cntQ; omega⟩ hz
  have hw : wrJ (z * 64) j b = (d', 0) := w1
  have e := ap_ok (n := z * 64) (j := j) (b := b) (by omega) h.fl (by omega) (by rw [hw])
  rw [e]
  simp only [hw]
  have hc : 1 ≤ cntQ b.length := by unfold cntQ; omega
  refine ⟨trivial, ⟨w2, ?_, ?_, hz, fun hq => ?_, h.fl, w4⟩, trivial, trivial⟩
  · refine holds_app.2 ⟨holds_congr (e := j.ed) (fun t ht => ?_) (by have := h.ed; omega) h.h, ?_⟩
    · rw [w3 t (by omega), if_neg (by omega), if_neg (by omega)]
    · rw [Nat.zero_add, Nat.zero_add, ← h.ed]
      refine ⟨fun q hq => ?_, trivial⟩
      rw [w3 (j.ed + q) (by omega), if_pos (by omega), Nat.add_sub_cancel_left]
  · show j.ed + cntQ b.length = totQ (j.R ++ [b])
    rw [totQ_app, h.ed]; simp [totQ]
  · show rdS d' ((j.ed + cntQ b.length : Nat) : Int) = zer
    have hq : j.ed + cntQ b.length < z := hq
    rw [w3 _ hq, if_neg (by omega), if_pos rfl]
theorem JI.full (h : JI z j) (hl : 1 ≤ b.length ∧ b.length ≤ 4096) (hz : z < j.ed + cntQ b.length) : apR (z * 64) j b = (j, 8) := ap_full (by omega) h.fl (by omega)
theorem room_iff (hl : 1 ≤ b.length ∧ b.length ≤ 4096) (hz : j.ed ≤ z) : ((b.length : Int) > roomQ (z * 64) j.ed) ↔ z < j.ed + cntQ b.length := by
  unfold roomQ cntQ
  repeat' split
  all_goals omega
end
end Go.VL

/- A number told by another text. -/
set_option linter.unusedVariables false
namespace Go.VL
theorem Ki {P : Program} {ops : Array Oper} {o : Oper} {n n' d : Nat} {s : Slots} {E E' : Env} {ik : IntKind} {a b : Int} {l : List Nat} (h : a = b) (hs : Stp P ops o n s E n' (setAt s d (some (vI ik a))) E' l) : Stp P ops o n s E n' (setAt s d (some (vI ik b))) E' l := h ▸ hs
theorem cellsT_take {α : Type} {f : α → List B} {sz : Nat} (hf : ∀ x, (f x).length = sz) : ∀ (A : List α) (k : Nat), (cellsT f A).take (k * sz) = cellsT f (A.take k)
  | [], k => by simp [cellsT]
  | x :: A, 0 => by simp [cellsT]
  | x :: A, k + 1 => by
    have h := cellsT_take hf A k
    simp only [cellsT, List.flatMap_cons, List.take_succ_cons] at h ⊢
    rw [List.take_append, hf, List.take_of_length_le (by rw [hf]; rw [Nat.add_mul]; omega), show (k + 1) * sz - sz = k * sz by rw [Nat.add_mul]; omega, h]
section
variable {P : Program} {ops : Array Oper} {o : Oper} {n d sz : Nat} {s : Slots} {E : Env} {x hi : Operand} {T el : TypeId} {ik : IntKind} {b : Int}
/-- A slice of structs by value, cut above. -/
theorem CtT {α : Type} {f : α → List B} {A : List α} (hf : ∀ x, (f x).length = sz) (hu : P.underlying T = some (.slice el)) (hs : szOf P el = some sz) (h : (runs ops s o.guard, o.dst, o.op, ev s x, ev s hi) = (some true, some d, .slice T x none (some hi) none, some (.b (slT sz f A)), some (vI ik b))) (h0 : 0 ≤ b := by first | omega | (simp; done) | (simp; omega)) (h1 : b ≤ A.length := by first | omega | (simp; done) | (simp; omega)) :
    Stp P ops o n s E (n + 1) (setAt s d (some (.b (slT sz f (A.take b.toNat))))) E [] := by
  simp only [Prod.mk.injEq] at h; obtain ⟨g2, g3, g4, g5, g6⟩ := h
  refine st0 g2 g3 (g4 ▸ ?_)
  have hl := cellsT_len hf (L := A)
  have := Eff.slSl (P := P) (id := n) (E := E) T x none (some hi) sz (cellsT f A) el ik ik 0 b g5 hu hs (.inl ⟨rfl, rfl⟩) (.inr ⟨hi, rfl, g6⟩) (Int.le_refl _) h0 (by rw [hl]; exact_mod_cast Nat.mul_le_mul_right sz (by omega : b.toNat ≤ A.length))
  simp only [Int.toNat_zero, Nat.zero_mul, List.drop_zero, cellsT_take hf] at this
  exact this
end
end Go.VL

/- Walks over the Go functions, printed by a program of this session over the kit's print, and by hand. -/
set_option linter.unusedVariables false
set_option linter.unusedSimpArgs false
set_option maxRecDepth 100000
namespace Go.VL
open Go.Proofs
theorem t47 {A B : List Int} (hA : ByR A) (hB : ByR B) : VF Try.prog 47 [slK .u8 (A), slK .u8 (B)] (boolB (decide (A = B))) := by
  exact VF_of P_mixed Try.func47 rfl rfl (by kernel_rfl) <| Sq <| Rg <| Vs (As rfl) <| Nx <| Sq <| Rg <| Vs (Mv rfl) <| Vs (TsV TK27 TU5 TU9 rfl (hA)) <| Vs (Mv rfl) <| Vs (TsV TK27 TU5 TU9 rfl (hB)) <| Vs (Bi rfl) <| Vs (As rfl) <| Nx <| Re <| Fi (l := [boolB (((bytesOf (A)).toList == (bytesOf (B)).toList))]) (Rc (resVar_tmp rfl rfl) Rn) (by rw [bytes_eq hA hB]; rfl)
theorem t44 {A B : List (List Int)} (hA : ∀ a ∈ A, ByR a) (hB : ∀ a ∈ B, ByR a) (lA : A.length ≤ 9223372036854775807) : VF Try.prog 44 [slT 1 rwB (A), slT 1 rwB (B)] (boolB (decide (A = B))) := by
  refine VF_of P_mixed Try.func44 rfl rfl (by kernel_rfl) <| Sq <| Rg <| Vs (As rfl) <| Nx <| Sq <| Sq <| Rg <| Vs (Mv rfl) <| Vs (Lst rwB_len TU43 rfl) <| Vs (Mv rfl) <| Vs (Lst rwB_len TU43 rfl) <| Vs (Bi rfl) <| Nx <| Cd rfl (fun hc1 => ?_) (fun hc1 => ?_)
  · replace hc1 := bne_iff_ne.1 hc1
    exact Sq <| Rg <| Vs (As rfl) <| Nx <| Re <| Tr <| Fi (l := [boolB (false)]) (Rc (resVar_tmp rfl rfl) Rn) (by rw [decide_eq_false (fun h : A = B => hc1 (by rw [h]))]; rfl)
  · replace hc1 := bne_eq_false_iff_eq.1 hc1
    refine Ks <| Tg <| Sq <| Sq <| Rg <| Vs (As rfl) <| Nx <| Bk <| VCode.loop (α := (Nat)) (fun i => (0, sl [(0, .b (slT 1 rwB (A))), (1, .b (slT 1 rwB (B))), (5, vI .i64 ((i : Int)))], en [])) (fun i => i ≤ A.length ∧ A.take i = B.take i) (fun i => A.length - i) (0) ⟨Nat.zero_le _, rfl⟩ Wk ?_
    intro i hok
    obtain ⟨hi, ht⟩ := hok
    have hll : A.length = B.length := by omega
    change VCode _ _ _ 0 (sl _) (en _) _
    refine Sq <| Sq <| Rg <| Vs (Mv rfl) <| Vs (Mv rfl) <| Vs (Lst rwB_len TU43 rfl) <| Vs (Bi rfl) <| Nx <| Cd rfl (fun hc2 => ?_) (fun hc2 => ?_)
    · replace hc2 := of_decide_eq_true hc2
      refine Ks <| Tg <| Sq <| Bk <| Sq <| Rd (by kernel_rfl) <| Vl (Mv rfl) <| Vl (Mv rfl) <| Vl (IxT rwB_len TU43 TS27 rfl (by first | omega | (simp; done) | (simp; omega)) (gd (d := []) (j := i) (by first | omega | (simp; done) | (simp; omega))) rfl) <| Vl (Lq TA27 rfl) <| Vl (Mv rfl) <| Vl (Mv rfl) <| Vl (IxT rwB_len TU43 TS27 rfl (by first | omega | (simp; done) | (simp; omega)) (gd (d := []) (j := i) (by first | omega | (simp; done) | (simp; omega))) rfl) <| Vl (Lq TA27 rfl) <| Vl (Cf rfl rfl (t47 (A := (A).getD (i) []) (B := (B).getD (i) []) (hA _ (getD_mem' (by omega))) (hB _ (getD_mem' (by omega)))) rfl) <| Vl (Un rfl) <| ?_
      refine VLog.nil ⟨by kernel_rfl, ?_⟩
      refine Tg <| Cd rfl (fun hc3 => ?_) (fun hc3 => ?_)
      · replace hc3 := of_decide_eq_false (bnot_t hc3)
        exact Sq <| Rg <| Vs (As rfl) <| Nx <| Re <| Iq <| Tr <| Or <| Iq <| Tr <| Fi (l := [boolB (false)]) (Rc (resVar_tmp rfl rfl) Rn) (by rw [decide_eq_false (fun h : A = B => hc3 (by rw [h]))]; rfl)
      · replace hc3 := of_decide_eq_true (bnot_f hc3)
        exact Ks <| Ig <| Tg <| Rg <| Vs (Mv rfl) <| Vs (Bo rfl adI) <| Vs (As rfl) <| VList.nil <| Go (i + 1) ⟨by omega, by rw [take_snocD (by omega), take_snocD (by omega), ht, hc3]⟩ Wk
    · replace hc2 := of_decide_eq_false hc2
      exact Ke <| Te <| Oe <| Ih <| Tg <| Sq <| Rg <| Vs (As rfl) <| Nx <| Re <| Fi (l := [boolB (true)]) (Rc (resVar_tmp rfl rfl) Rn) (by rw [decide_eq_true (show A = B by rw [← List.take_length (l := A), ← List.take_length (l := B), ← hll, show A.length = i by omega]; exact ht)]; rfl)
end Go.VL

/- Walks over the Go functions, printed by a program of this session over the kit's print, and by hand. -/
set_option linter.unusedVariables false
set_option linter.unusedSimpArgs false
set_option maxRecDepth 100000
namespace Go.VL
open Go.Proofs
theorem j43P {n m l : Nat} {j : Jn} {b : List Int} (hj : j.Ok n m) (hm : m ≤ 70000) (hl : l = b.length) (hb : ByR b) (hbl : b.length ≤ 100000) (h : (apR n j b).2 = 0) : VG Try.prog 43 [.ptr 0 0, .own 4 l] [⟨4, [.ptr 1 (0), .row 2 ((j.R).length) none, vI .i64 ((j.ed : Int)), vB (j.fl)], true⟩, ⟨4, [.own 3 (n), .b (slT 2 penB ((j.d).pen)), vI .i64 ((j.d).fuse), vB ((j.d).off)], true⟩, rowT 1 rwB (j.R), rowK .u8 ((j.d).dur), rowK .u8 (b)] (vI .i64 0) [some (⟨4, [.ptr 1 (0), .row 5 (((apR n j b).1).R.length) none, vI .i64 (((((apR n j b).1)).ed : Int)), vB ((((apR n j b).1)).fl)], true⟩), some (⟨4, [.own 3 (n), .b (slT 2 penB (((((apR n j b).1)).d).pen)), vI .i64 (((((apR n j b).1)).d).fuse), vB (((((apR n j b).1)).d).off)], true⟩), none, some (rowK .u8 (((((apR n j b).1)).d).dur)), some (rowK .u8 (b)), some (rowT 1 rwB (((apR n j b).1).R))] := by
  subst hl; exact j43O hj hm hb hbl h
theorem g13 (b : List Int) (hb : ByR b) (hbl : b.length ≤ 9223372036854775807) : VF Try.prog 13 [slK .u8 (b)] (boolB true) := by
  have hJn := JI.new (z := 20) (by decide)
  obtain ⟨ho, hoj⟩ := hJn.openJ (fun r hr => by cases hr)
  have ho : (opR (20 * 64) (20 * 64 / 64 + 1) [] 0 (newD 20)).2.2.2 = 0 := ho
  have hd0 := newD_ok (z := 20) (by decide) (by decide)
  have hj0k := opJ_ok hd0 (newD_by 20)
  obtain ⟨j0, e0⟩ : ∃ j, opJ (20 * 64) (newD 20) = j := ⟨_, rfl⟩
  have hJ0 : JI 20 j0 := by rw [← e0]; exact hoj ▸ hJn
  have hR0 : j0.R = [] ∧ j0.ed = 0 := by rw [← e0, show opJ (20 * 64) (newD 20) = _ from hoj]; exact ⟨rfl, rfl⟩
  rw [e0] at hj0k
  refine VF_of P_mixed Try.func13 rfl rfl (by kernel_rfl) <| Sq <| Rg <| Vs (As rfl) <| Nx <| Sq <| Rg <| Vs (Cf rfl rfl (t39) rfl) <| Vs (As rfl) <| Nx <| Sq <| Rg <| Vs (As rfl) <| Nx <| Sq <| Sq <| Rg <| Vs (Mv rfl) <| Vs (Mv rfl) <| Vs (Cf rfl rfl (z43 b) rfl) <| Vs (Bi (c := .bool false) rfl) <| Vs (Mv rfl) <| Vs (Mv rfl) <| Vs (C0 rfl rfl (z45)) <| Vs (Lst rwB_len TU43 rfl) <| Vs (Kb (show ((([]).length : Int) != 0) = false from rfl) (Bi rfl)) <| Vs (Pk rfl) <| Vs (Mv rfl) <| Vs (Mv rfl) <| Vs (Cf rfl rfl (z46) rfl) <| Vs (Bi (c := .bool false) rfl) <| Vs (Pk rfl) <| Nx <| Cz rfl <| Ks <| Tg <| Sq <| Rg <| Vs (C0 rfl rfl (z42)) <| Vs (Mv rfl) <| Vs (Xt rfl) <| Vs (Xt rfl) <| Vs (Xt rfl) <| Vs (As rfl) <| Vs (As rfl) <| Vs (As rfl) <| Nx <| Sq <| Sq <| Rg <| Vs (Mv rfl) <| Vs (Bi (c := .bool false) rfl) <| Nx <| Cz rfl <| Ks <| Tg <| Sq <| Sq <| Rg <| Vs (Mv rfl) <| Vs (Ls TK27 rfl) <| Vs (Bi rfl) <| Vs (Mv rfl) <| Sp 44 rfl (fun hc1 => ?_) (fun hc1 => ?_)
  · replace hc1 := eq_of_beq hc1
    exact Sk rfl <| Sk rfl <| Sk rfl <| Vs (Pk rfl) <| Nx <| Cy rfl <| Sq <| Rg <| Vs (Mv rfl) <| Vs (As rfl) <| Nx <| Re <| Tr <| Fi (l := [boolB (true)]) (Rc (resVar_tmp rfl rfl) Rn) rfl
  · replace hc1 := ne_of_beq_false hc1
    refine Vs (Mv rfl) <| Vs (Ls TK27 rfl) <| Vs (Bi rfl) <| Vs (Pk rfl) <| Nx <| Cd rfl (fun hc2 => ?_) (fun hc2 => ?_)
    · replace hc2 := of_decide_eq_true hc2
      exact Sq <| Rg <| Vs (Mv rfl) <| Vs (As rfl) <| Nx <| Re <| Tr <| Fi (l := [boolB (true)]) (Rc (resVar_tmp rfl rfl) Rn) rfl
    · replace hc2 := of_decide_eq_false hc2
      refine Ks <| Tg <| Sq <| ?_
      have hb0 : 0 < b.length := by omega
      have hrec : RecOk b := ⟨List.length_pos_iff.1 hb0, by omega, hb⟩
      have hap := hJ0.append hj0k hrec (by rw [hR0.2]; unfold cntQ; omega)
      have hok1 := hj0k.append hb
      have hR1 : (apR (20 * 64) j0 b).1.R = [b] := by rw [hap.2.2.1, hR0.1]; rfl
      have hJ1 := hap.2.1
      obtain ⟨j1, hj1⟩ : ∃ j, (apR (20 * 64) j0 b).1 = j := ⟨_, rfl⟩
      rw [hj1] at hok1 hR1 hJ1
      have hop := hJ1.openJ hok1.r
      have hR1l : j1.R.length = 1 := by rw [hR1]; rfl
      have hg : j1.R.getD 0 [] = b := by rw [hR1]; rfl
      have hgl : 0 < (j1.R.getD 0 []).length := by rw [hg]; exact hb0
      exact Rg <| Gm 37 [] [] (v := .tup [.ptr 37 (0), vI .i64 (0)]) [(37, ⟨4, [.own 38 ((20 * 64)), .b (slT 2 penB ((newD 20).pen)), vI .i64 ((newD 20).fuse), vB ((newD 20).off)], true⟩), (38, rowK .u8 ((newD 20).dur))] rfl (k17z 20 (by decide) (by decide)) rfl <| Vs (Mv rfl) <| Vs (Xv rfl) <| Vs (Xv rfl) <| Vs (As rfl) <| Vs (As rfl) <| Nx <| Sq <| Sq <| Rg <| Vs (Mv rfl) <| Vs (Bi (c := .bool false) rfl) <| Vs (Mv rfl) <| Vs (Mv rfl) <| Vs (Pe TU22 rfl) <| Vs (Pk rfl) <| Nx <| Cz rfl <| Ks <| Tg <| Sq <| Rg <| Vs (Mv rfl) <| Gm 52 [37, 38] [] (v := .tup [.ptr 52 (0), .b (slT 1 rwB (j0.R)), vI .i64 (0)]) [(37, ⟨4, [.own 38 ((20 * 64)), .b (slT 2 penB ((j0.d).pen)), vI .i64 ((j0.d).fuse), vB ((j0.d).off)], true⟩), (38, rowK .u8 ((j0.d).dur)), (52, ⟨4, [.ptr 37 (0), .row 53 (j0.R.length) none, vI .i64 ((j0.ed : Int)), vB (j0.fl)], true⟩), (53, rowT 1 rwB (j0.R))] rfl ((by have t := j42 hd0 (by decide) (newD_by 20) ho; rw [e0] at t; exact t)) rfl <| Vs (Mv rfl) <| Vs (Xv rfl) <| Vs (Xv rfl) <| Vs (Xv rfl) <| Vs (As rfl) <| Vs (As rfl) <| Vs (As rfl) <| Nx <| Sq <| Sq <| Rg <| Vs (Mv rfl) <| Vs (Bi (c := .bool false) rfl) <| Vs (Mv rfl) <| Vs (Mv rfl) <| Vs (Pe TU62 rfl) <| Vs (Pk rfl) <| Nx <| Cz rfl <| Ks <| Tg <| Sq <| Rg <| Vs (L0s 68 TK27 rfl) <| Vs (Mv rfl) <| Vs (Ap 70 TK27 rfl rfl) <| Vs (As rfl) <| Nx <| Sq <| Sq <| Rg <| Vs (Mv rfl) <| Vs (Mv rfl) <| Gm 74 [52, 37, 53, 38, 70] [] (v := vI .i64 (0)) [(37, ⟨4, [.own 38 ((20 * 64)), .b (slT 2 penB ((j1.d).pen)), vI .i64 ((j1.d).fuse), vB ((j1.d).off)], true⟩), (38, rowK .u8 ((j1.d).dur)), (52, ⟨4, [.ptr 37 (0), .row 74 (j1.R.length) none, vI .i64 ((j1.ed : Int)), vB (j1.fl)], true⟩), (70, rowK .u8 (b)), (74, rowT 1 rwB (j1.R))] rfl ((by have t := j43P hj0k (by decide) (l := (0) + (b).length) (b := b) (by omega) (hb) (by omega) hap.1; rw [hj1] at t; exact t)) rfl <| Vs (Bi (c := .bool false) rfl) <| Nx <| Cz rfl <| Ks <| Tg <| Sq <| Rg <| Vs (Mv rfl) <| Vs (IrN (q := 0) TK27 rfl) <| Vs (LrK TA5 rfl) <| Vs (Bo (c := .int .u8 (((BitVec.ofInt 8 ((b).getD (0) 0) ^^^ BitVec.ofInt 8 (1)).toNat : Int))) rfl (bop_xor8)) <| Vs (IrN (q := 0) TK27 rfl) <| Vs (SrK TS5 rfl) <| Nx <| Sq <| Rg <| Vs (Mv rfl) <| Gm 84 [52, 37, 74, 38] [] (v := .own 84 (1)) [(37, ⟨4, [.own 38 ((20 * 64)), .b (slT 2 penB ((j1.d).pen)), vI .i64 ((j1.d).fuse), vB ((j1.d).off)], true⟩), (38, rowK .u8 ((j1.d).dur)), (52, ⟨4, [.ptr 37 (0), .row 74 (j1.R.length) none, vI .i64 ((j1.ed : Int)), vB (j1.fl)], true⟩), (70, rowK .u8 ((b).set (0) (((BitVec.ofInt 8 ((b).getD (0) 0) ^^^ BitVec.ofInt 8 (1)).toNat : Int)))), (74, rowT 1 rwB (j1.R)), (84, ⟨1, [.own 85 (((j1.R).getD 0 []).length)], true⟩), (85, rowK .u8 ((j1.R).getD 0 []))] rfl (j45O hok1 (by decide) hR1l) rfl <| Vs (As rfl) <| Nx <| Sq <| Sq <| Rg <| Vs (Mv rfl) <| Vs (Lo TU43 rfl) <| Vs (Kb (show (((1 : Nat) : Int) != 1) = false from rfl) (Bi rfl)) <| Vs (Mv rfl) <| Vs (Mv rfl) <| Vs (IrS TU43 TS27 rfl) <| Vs (Ld TA27 rfl) <| Vs (Mv rfl) <| Vs (Kb (show (decide ((j1.R).getD 0 [] = b)) = true from (decide_eq_true hg)) (Cf rfl (Rk (Rr rfl) (Rk rfl Rz)) (t47 (A := (j1.R).getD 0 []) (B := b) (by rw [hg]; exact hb) (hb)) rfl)) <| Vs (Un rfl) <| Vs (Pk rfl) <| Nx <| Cz rfl <| Ks <| Tg <| Sq <| Rg <| Vs (Mv rfl) <| Vs (IrS TU43 TS27 rfl) <| Vs (Ld TA27 rfl) <| Vs (IrN (q := 0) TK27 rfl) <| Vs (LrK TA5 rfl) <| Vs (Bo (c := .int .u8 (((BitVec.ofInt 8 (((j1.R).getD 0 []).getD (0) 0) ^^^ BitVec.ofInt 8 (1)).toNat : Int))) rfl (bop_xor8)) <| Vs (IrN (q := 0) TK27 rfl) <| Vs (SrK TS5 rfl) <| Nx <| Sq <| Rg <| Vs (Mv rfl) <| Gm 108 [37, 38] [] (v := .tup [.ptr 108 (0), .own 109 (1), vI .i64 (0)]) [(37, ⟨4, [.own 38 ((20 * 64)), .b (slT 2 penB ((j1.d).pen)), vI .i64 ((j1.d).fuse), vB ((j1.d).off)], true⟩), (38, rowK .u8 ((j1.d).dur)), (52, ⟨4, [.ptr 37 (0), .row 74 (j1.R.length) none, vI .i64 ((j1.ed : Int)), vB (j1.fl)], true⟩), (70, rowK .u8 ((b).set (0) (((BitVec.ofInt 8 ((b).getD (0) 0) ^^^ BitVec.ofInt 8 (1)).toNat : Int)))), (74, rowT 1 rwB (j1.R)), (84, ⟨1, [.own 85 (((j1.R).getD 0 []).length)], true⟩), (85, rowK .u8 (((j1.R).getD 0 []).set (0) (((BitVec.ofInt 8 (((j1.R).getD 0 []).getD (0) 0) ^^^ BitVec.ofInt 8 (1)).toNat : Int)))), (108, ⟨4, [.ptr 37 (0), .row 110 (j1.R.length) none, vI .i64 ((j1.ed : Int)), vB (j1.fl)], true⟩), (109, ⟨1, [.own 111 (((j1.R).getD 0 []).length)], true⟩), (110, rowT 1 rwB (j1.R)), (111, rowK .u8 ((j1.R).getD 0 []))] rfl ((by have t := j42O hok1.d (by decide) hok1.b hop.1 (by rw [hop.2]; exact hR1l); rw [hop.2] at t; exact t)) rfl <| Vs (Mv rfl) <| Vs (Xv rfl) <| Vs (Xv rfl) <| Vs (Xv rfl) <| Vs (As rfl) <| Vs (As rfl) <| Vs (As rfl) <| Nx <| Sq <| Sq <| Rg <| Vs (Mv rfl) <| Vs (Bi (c := .bool false) rfl) <| Vs (Mv rfl) <| Vs (Mv rfl) <| Vs (Lo TU43 rfl) <| Vs (Kb (show (((1 : Nat) : Int) != 1) = false from rfl) (Bi rfl)) <| Vs (Pk rfl) <| Vs (Mv rfl) <| Vs (Mv rfl) <| Vs (IrS TU43 TS27 rfl) <| Vs (Ld TA27 rfl) <| Vs (Mv rfl) <| Vs (Kb (show (decide ((j1.R).getD 0 [] = b)) = true from (decide_eq_true hg)) (Cf rfl (Rk (Rr rfl) (Rk rfl Rz)) (t47 (A := (j1.R).getD 0 []) (B := b) (by rw [hg]; exact hb) (hb)) rfl)) <| Vs (Un rfl) <| Vs (Pk rfl) <| Nx <| Cz rfl <| Ks <| Tg <| Sq <| Rg <| Vs (Mv rfl) <| Vs (IrS TU43 TS27 rfl) <| Vs (Ld TA27 rfl) <| Vs (IrN (q := 0) TK27 rfl) <| Vs (LrK TA5 rfl) <| Vs (Bo (c := .int .u8 (((BitVec.ofInt 8 (((j1.R).getD 0 []).getD (0) 0) ^^^ BitVec.ofInt 8 (1)).toNat : Int))) rfl (bop_xor8)) <| Vs (IrN (q := 0) TK27 rfl) <| Vs (SrK TS5 rfl) <| Nx <| Sq <| Rg <| Vs (Mv rfl) <| Gm 144 [52, 37, 74, 38] [] (v := .own 144 (1)) [(37, ⟨4, [.own 38 ((20 * 64)), .b (slT 2 penB ((j1.d).pen)), vI .i64 ((j1.d).fuse), vB ((j1.d).off)], true⟩), (38, rowK .u8 ((j1.d).dur)), (52, ⟨4, [.ptr 37 (0), .row 74 (j1.R.length) none, vI .i64 ((j1.ed : Int)), vB (j1.fl)], true⟩), (70, rowK .u8 ((b).set (0) (((BitVec.ofInt 8 ((b).getD (0) 0) ^^^ BitVec.ofInt 8 (1)).toNat : Int)))), (74, rowT 1 rwB (j1.R)), (84, ⟨1, [.own 85 (((j1.R).getD 0 []).length)], true⟩), (85, rowK .u8 (((j1.R).getD 0 []).set (0) (((BitVec.ofInt 8 (((j1.R).getD 0 []).getD (0) 0) ^^^ BitVec.ofInt 8 (1)).toNat : Int)))), (108, ⟨4, [.ptr 37 (0), .row 110 (j1.R.length) none, vI .i64 ((j1.ed : Int)), vB (j1.fl)], true⟩), (109, ⟨1, [.own 111 (((j1.R).getD 0 []).length)], true⟩), (110, rowT 1 rwB (j1.R)), (111, rowK .u8 (((j1.R).getD 0 []).set (0) (((BitVec.ofInt 8 (((j1.R).getD 0 []).getD (0) 0) ^^^ BitVec.ofInt 8 (1)).toNat : Int)))), (144, ⟨1, [.own 145 (((j1.R).getD 0 []).length)], true⟩), (145, rowK .u8 ((j1.R).getD 0 []))] rfl (j45O hok1 (by decide) hR1l) rfl <| Vs (As rfl) <| Nx <| Sq <| Rg <| Vs (Mv rfl) <| Vs (Mv rfl) <| Vs (Mv rfl) <| Vs (Lo TU43 rfl) <| Vs (Kb (show (((1 : Nat) : Int) == 1) = true from rfl) (Bi rfl)) <| Vs (Pk rfl) <| Vs (Mv rfl) <| Vs (Mv rfl) <| Vs (IrS TU43 TS27 rfl) <| Vs (Ld TA27 rfl) <| Vs (Mv rfl) <| Vs (Kb (show (decide ((j1.R).getD 0 [] = b)) = true from (decide_eq_true hg)) (Cf rfl (Rk (Rr rfl) (Rk rfl Rz)) (t47 (A := (j1.R).getD 0 []) (B := b) (by rw [hg]; exact hb) (hb)) rfl)) <| Vs (Pk rfl) <| Vs (As rfl) <| Nx <| Re <| Fi (l := [boolB (true)]) (Rc (resVar_tmp rfl rfl) Rn) rfl
end Go.VL

set_option linter.unusedVariables false
set_option linter.unusedSimpArgs false
set_option maxRecDepth 100000
namespace Go.Proofs.Ytpoolpppmgacnaa
open Go.ChangeShapes Go.WideShapes Go.ChangeAt Go.RowKit Go.VL

theorem journalOwns_lifted (os : Os) (started : os.Started) (H : Type) (enc : TypeId × Value → H) :
    ReturnsInHanded {} Try.checked os 13 .any (Rows.journalOwnsSpec.pre6 enc Try.prog Try.f13 Rows.journalOwnsRow.domain false) (Rows.journalOwnsSpec.post enc Try.prog Try.f13 false true false false) := by
  refine returnsInHanded_of_change (C := Try.checked) Try_own started (by kernel_rfl) Try.func13
    (ChangeSpec.witness6 (enc := enc) (C := Try.checked) false ⟨#[], #[.slice none 0 0], []⟩ 8 (by kernel_rfl) (by kernel_rfl) (by kernel_rfl) (by kernel_rfl)) ?_
  intro W base args ds gs before hval0 hW hcnd _
  have hval : ∀ (j : Nat) t v, Try.f13.params[j]? = some t → args[j]? = some v → Value.okWide Try.prog W .any base t v := hval0
  have hW' := hW
  obtain ⟨p, q, hA0, hV, rfl, hfz, hnd⟩ := hW
  have hA : DataW.TrodAll enc Try.prog W 0 (fun _ => true) true Try.f13.params.toList args.toList ds p := hA0
  have hA1 := hA
  rw [Try.params13] at hA hval
  obtain ⟨v0, d0, rfl, rfl, h0⟩ := trodAll_one hA
  obtain ⟨rfl, rfl⟩ := trodVars_none hV
  obtain ⟨c0, r0, o0, l0⟩ := open_bytes (hval 0 27 v0 rfl rfl) h0
  simp only [List.append_nil] at hW'
  have hlt : ∀ x ∈ p, x.block < W.heap.size := fun x hx => hW'.lt x hx
  have hread : ∀ t ∈ Try.f13.params.toList, Try.prog.readableRec t = true ∧ t < Try.prog.types.size := by rw [Try.params13]; exact types_cons T27 (types_nil)
  refine ((g13 c0 o0 l0).runs (xs := [v0]) rfl (reps_cons r0 reps_nil)).mono fun e W' ⟨he, hb⟩ => ?_
  subst he
  exact ⟨_, rfl, post_of_below (pa := _) (pv := []) hW' (fun _ _ _ => trodAll_mk1 shut_true) (fun sp hsp => args_stay Try_laidOut hb hread hA1 hlt hsp) (fun _ _ => rfl) (by simp) hb (ok_one (by kernel_rfl) rfl ok_true)⟩

theorem journalOwns_facts : joinedFacts Try.pinned.checked.prog 13 Try.f13 Rows.journalOwnsSpec Rows.journalOwnsRow = true := by
  unfold joinedFacts
  rw [head_may, head_lifts, head_make]
  kernel_rfl

theorem journalOwns_holds : Rows.JournalOwnsSaid :=
  OpenClaim.holds_of_wide 13 Try.f13 rfl rfl rfl rfl rfl rfl rfl ⟨rfl, rfl, rfl, rfl, rfl⟩ rfl rfl rfl rfl rfl (by kernel_rfl) Try.func13 journalOwns_facts
    (of_decide_eq_true (by kernel_rfl)) (by unfold Func.isWrapper; rw [if_neg (of_decide_eq_false (by kernel_rfl))]; exact ⟨rfl, rfl⟩)
    (fun os started H enc _ => journalOwns_lifted os started H enc)

end Go.Proofs.Ytpoolpppmgacnaa
