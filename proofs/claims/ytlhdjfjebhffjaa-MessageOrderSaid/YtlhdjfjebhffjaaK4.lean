/- A small program logic over the translated Go code, plain laws, and walks over the functions: several texts in one. No condition. -/
import Derived.Laws.StructEq
import Derived.Lib.Bytealg
import Derived.Lib.ConvBytes
import Derived.Shelf.Strings.Repeat
import Derived.Test.YtlhdjfjebhffjaaK3
/- Walks over the Go functions, printed by a program of this session over the kit's print, and by hand. -/
set_option linter.unusedVariables false
set_option linter.unusedSimpArgs false
set_option maxRecDepth 100000
namespace Go.VL
open Go.Proofs
theorem hNE : ∀ (v : Value) W, (callFunc 105 #[v]).run Try.prog W = .ok (.value v) W := fun v W => by
  rw [run_callFunc_extern Try.func105 (by kernel_rfl) (by kernel_rfl) (by kernel_rfl) (e := Extern.AbiNoEscape.same) (by kernel_rfl)]; rfl
theorem c81 : Try.prog.cellsOf 81 = 2 := by kernel_rfl
theorem c5 : Try.prog.cellsOf 5 = 1 := by kernel_rfl
theorem lies81 : ∀ q, liesAt Try.prog Try.prog.depth 81 (q + 1) 0 79 1 = true := fun q => by kernel_rfl
theorem w93F {L : List Int} {m : Nat} : VG Try.prog 93 [.ptr 0 (0)] [⟨2, [.b (.lit (.pointer none)), .row 1 (m) none], ⟨true, some 81⟩⟩, rowG 5 (L)] (.b (.tup [])) [some (⟨2, [.ptr 0 (0), .row 1 (m) none], ⟨true, some 81⟩⟩), some (rowG 5 (L))] := by
  exact VGp_of P_mixed Try.func93 rfl rfl (by kernel_rfl) (by simp) rfl <| Sq <| Rg <| Vs (Mv rfl) <| Vs (Nk rfl) <| Vs (Fa TF79_0 rfl) <| Vs (Ld TA77 rfl) <| Vs (Pg TU77 rfl) <| Nx <| Cy rfl <| Rg <| Vs (Mv rfl) <| Vs (Mv rfl) <| Vs (TuU TU77 TU140 TS79 rfl) <| Vs (Nesc hNE rfl) <| Vs (TfU TU140 TU77 TS79 c81 lies81 rfl) <| Vs (Nk rfl) <| Vs (Fa TF79_0 rfl) <| Vs (St TS77 rfl) <| VList.nil <| Gg (L1' := [some (⟨2, [.ptr 0 (0), .row 1 (m) none], ⟨true, some 81⟩⟩), some (rowG 5 (L))]) [0, 1] .nil (.vals _ [] rfl rfl) rfl rfl
theorem w93U {L : List Int} {m : Nat} : VG Try.prog 93 [.ptr 0 (0)] [⟨2, [.ptr 0 (0), .row 1 (m) none], ⟨true, some 81⟩⟩, rowG 5 (L)] (.b (.tup [])) [some (⟨2, [.ptr 0 (0), .row 1 (m) none], ⟨true, some 81⟩⟩), some (rowG 5 (L))] := by
  exact VGp_of P_mixed Try.func93 rfl rfl (by kernel_rfl) (by simp) rfl <| Sq <| Rg <| Vs (Mv rfl) <| Vs (Nk rfl) <| Vs (Fa TF79_0 rfl) <| Vs (Ld TA77 rfl) <| Vs (Pe TU77 rfl) <| Nx <| Cz rfl <| Sq <| Rg <| Vs (Mv rfl) <| Vs (Nk rfl) <| Vs (Fa TF79_0 rfl) <| Vs (Ld TA77 rfl) <| Vs (Mv rfl) <| Vs (PnE TU77 TS79 rfl) <| Nx <| Cz rfl <| Ks <| Gg (L1' := [some (⟨2, [.ptr 0 (0), .row 1 (m) none], ⟨true, some 81⟩⟩), some (rowG 5 (L))]) [0, 1] .nil (.vals _ [] rfl rfl) rfl rfl
theorem w69F {L : List Int} {m : Nat} (hL : L.length = m) (hm : m ≤ 1000000) (c : Int) : VG Try.prog 69 [.ptr 0 (0), vI .u8 (c)] [⟨2, [.b (.lit (.pointer none)), .row 1 (m) none], ⟨true, some 81⟩⟩, rowG 5 (L)] (.b (.lit .nilIface)) [some (⟨2, [.ptr 0 (0), .row 2 (m + 1) none], ⟨true, some 81⟩⟩), none, some (rowG 5 (L ++ [c]))] := by
  exact VGp_of P_mixed Try.func69 rfl rfl (by kernel_rfl) (by simp) rfl <| Sq <| Rg <| Vs (As rfl) <| Nx <| Sq <| Rg <| Vs (Mv rfl) <| Gm 4 [0, 1] [] (v := .b (.tup [])) [(0, ⟨2, [.ptr 0 (0), .row 1 (m) none], ⟨true, some 81⟩⟩), (1, rowG 5 (L))] rfl (w93F (L := L) (m := m)) rfl <| Nx <| Sq <| Rg <| Vs (Mv rfl) <| Vs (Mv rfl) <| Vs (Nk rfl) <| Vs (Fa TF79_1 rfl) <| Vs (Ld TA23 rfl) <| Vs (Mv rfl) <| Vs (L1s 11 TK23 rfl) <| Vs (ArG 12 TK23 rfl (Rr rfl)) <| Vs (Nk rfl) <| Vs (Fa TF79_1 rfl) <| Vs (St TS23 rfl) <| Nx <| Sq <| Rg <| Vs (As rfl) <| Nx <| Re <| Gg (L1' := [some (⟨2, [.ptr 0 (0), .row 2 (m + ([c]).length) none], ⟨true, some 81⟩⟩), none, some (rowG 5 ((L) ++ ([c])))]) [0, 1, 12] (.val _ _ _ _ _ rfl rfl rfl .nil) (.one _) rfl rfl
theorem w69U {L : List Int} {m : Nat} (hL : L.length = m) (hm : m ≤ 1000000) (c : Int) : VG Try.prog 69 [.ptr 0 (0), vI .u8 (c)] [⟨2, [.ptr 0 (0), .row 1 (m) none], ⟨true, some 81⟩⟩, rowG 5 (L)] (.b (.lit .nilIface)) [some (⟨2, [.ptr 0 (0), .row 2 (m + 1) none], ⟨true, some 81⟩⟩), none, some (rowG 5 (L ++ [c]))] := by
  exact VGp_of P_mixed Try.func69 rfl rfl (by kernel_rfl) (by simp) rfl <| Sq <| Rg <| Vs (As rfl) <| Nx <| Sq <| Rg <| Vs (Mv rfl) <| Gm 4 [0, 1] [] (v := .b (.tup [])) [(0, ⟨2, [.ptr 0 (0), .row 1 (m) none], ⟨true, some 81⟩⟩), (1, rowG 5 (L))] rfl (w93U (L := L) (m := m)) rfl <| Nx <| Sq <| Rg <| Vs (Mv rfl) <| Vs (Mv rfl) <| Vs (Nk rfl) <| Vs (Fa TF79_1 rfl) <| Vs (Ld TA23 rfl) <| Vs (Mv rfl) <| Vs (L1s 11 TK23 rfl) <| Vs (ArG 12 TK23 rfl (Rr rfl)) <| Vs (Nk rfl) <| Vs (Fa TF79_1 rfl) <| Vs (St TS23 rfl) <| Nx <| Sq <| Rg <| Vs (As rfl) <| Nx <| Re <| Gg (L1' := [some (⟨2, [.ptr 0 (0), .row 2 (m + ([c]).length) none], ⟨true, some 81⟩⟩), none, some (rowG 5 ((L) ++ ([c])))]) [0, 1, 12] (.val _ _ _ _ _ rfl rfl rfl .nil) (.one _) rfl rfl
end Go.VL

/- Walks over the Go functions, printed by a program of this session over the kit's print, and by hand. -/
set_option linter.unusedVariables false
set_option linter.unusedSimpArgs false
set_option maxRecDepth 100000
namespace Go.VL
open Go.Proofs
theorem w70 {L : List Int} {m : Nat} (hL : L.length = m) (hm : m ≤ 500000) {str : ByteArray} (hs : str.size ≤ 100000) : VG Try.prog 70 [.ptr 0 (0), .b (.lit (.string (str)))] [⟨2, [.ptr 0 (0), .row 1 (m) none], ⟨true, some 81⟩⟩, rowG 5 (L)] (.b (.tup [numB .i64 (str.size : Int), .lit .nilIface])) [some (⟨2, [.ptr 0 (0), .row 2 (m + str.size) none], ⟨true, some 81⟩⟩), none, some (rowG 5 (L ++ strL str))] := by
  exact VGp_of P_mixed Try.func70 rfl rfl (by kernel_rfl) (by simp) rfl <| Sq <| Rg <| Vs (As rfl) <| Vs (As rfl) <| Nx <| Sq <| Rg <| Vs (Mv rfl) <| Gm 5 [0, 1] [] (v := .b (.tup [])) [(0, ⟨2, [.ptr 0 (0), .row 1 (m) none], ⟨true, some 81⟩⟩), (1, rowG 5 (L))] rfl (w93U (L := L) (m := m)) rfl <| Nx <| Sq <| Rg <| Vs (Mv rfl) <| Vs (Mv rfl) <| Vs (Nk rfl) <| Vs (Fa TF79_1 rfl) <| Vs (Ld TA23 rfl) <| Vs (Mv rfl) <| Vs (AsG 12 TK23 TU9 rfl) <| Vs (Nk rfl) <| Vs (Fa TF79_1 rfl) <| Vs (St TS23 rfl) <| Nx <| Sq <| Rg <| Vs (Mv rfl) <| Vs (Lt TU9 rfl) <| Vs (As rfl) <| Vs (As rfl) <| Nx <| Re <| Gg (L1' := [some (⟨2, [.ptr 0 (0), .row 2 (m + (str).size) none], ⟨true, some 81⟩⟩), none, some (rowG 5 ((L) ++ strL (str)))]) [0, 1, 12] (.val _ _ _ _ _ rfl rfl rfl (.val _ _ _ _ _ rfl rfl rfl .nil)) (.vals _ [numB .i64 (((str).size : Int)), .lit .nilIface] rfl rfl) rfl rfl
theorem w40 {L : List Int} {m : Nat} (hL : L.length = m) (h0 : 0 < m) (hm : m ≤ 1000000) (h8 : ByR L) : VG Try.prog 40 [.ptr 0 (0)] [⟨2, [.ptr 0 (0), .row 1 (m) none], ⟨true, some 81⟩⟩, rowG 5 (L)] (.b (.lit (.string (bytesOf L)))) [some (⟨2, [.ptr 0 (0), .row 1 (m) none], ⟨true, some 81⟩⟩), none] := by
  refine VGp_of P_mixed Try.func40 rfl rfl (by kernel_rfl) (by simp) rfl <| Sq <| Rg <| Vs (As rfl) <| Nx <| Sq <| Rd (by kernel_rfl) <| Vl (Mv rfl) <| Vl (Nk rfl) <| Vl (Fa TF79_1 rfl) <| Vl (Ld TA23 rfl) <| Vl (SdG rfl) <| Vl (Mv rfl) <| Vl (Nk rfl) <| Vl (Fa TF79_1 rfl) <| Vl (Ld TA23 rfl) <| Vl (Lv (m := m) TU23 rfl) <| Vl (UsG (m := (m : Nat)) TU116 c5 rfl (h8)) <| Vl (As rfl) <| ?_
  refine VLog.nil ⟨by kernel_rfl, ?_⟩
  exact Tg <| Re <| Gg (L1' := [some (⟨2, [.ptr 0 (0), .row 1 (m) none], ⟨true, some 81⟩⟩), none]) [0, 1] (.val _ _ _ _ _ rfl rfl rfl .nil) (.one _) rfl rfl
theorem w37U {L : List Int} {m : Nat} (hL : L.length = m) (hm : m ≤ 500000) {n : Int} (hn : 0 ≤ n ∧ n ≤ 9223372036854775807) : VG Try.prog 37 [.ptr 0 (0), vI .i64 (n)] [⟨2, [.ptr 0 (0), .row 1 (m) none], ⟨true, some 81⟩⟩, rowG 5 (L)] (.b (.tup [])) [some (⟨2, [.ptr 0 (0), .row 2 (m + (numQ n.toNat).length) none], ⟨true, some 81⟩⟩), none, some (rowG 5 (L ++ numQ n.toNat))] := by
  have hnl := numQ_len (n := n.toNat) (by omega)
  refine VGp_of P_mixed Try.func37 rfl rfl (by kernel_rfl) (by simp) rfl <| Sq <| Bk <| VCode.loop (α := (Int) × (Nat) × (List Int)) (fun x_ => match x_ with | (x, q, R) => (91, sl [(0, .ptr 0 (0)), (1, vI .i64 (x))], en [(0, ⟨2, [.ptr 0 (0), .row 90 (q) none], ⟨true, some 81⟩⟩), (90, rowG 5 (R))])) (fun x_ => match x_ with | (x, q, R) => 0 ≤ x ∧ x ≤ 9223372036854775807 ∧ R ++ numQ x.toNat = L ++ numQ n.toNat ∧ R.length = q ∧ q + (numQ x.toNat).length = m + (numQ n.toNat).length) (fun x_ => match x_ with | (x, q, R) => x.toNat) (n, m, L) ⟨hn.1, hn.2, rfl, hL, rfl⟩ (Wr [(90, 1)]) ?_
  rintro ⟨x, q, R⟩ ⟨hx0, hx1, hR, hq, hq2⟩
  have hql := numQ_len1 x.toNat
  change VCode _ _ _ 91 (sl _) (en _) _
  refine Sq <| Sq <| Rg <| Vs (Mv rfl) <| Vs (Bi rfl) <| Nx <| Cd rfl (fun hc1 => ?_) (fun hc1 => ?_)
  · replace hc1 := of_decide_eq_true hc1
    exact Ks <| Tg <| Sq <| Bk <| Rg <| Vs (Mv rfl) <| Vs (Nk rfl) <| Vs (Fa TF81_0 rfl) <| Vs (Mv rfl) <| Vs (Cv TU3 TU5 rfl (wrapM_u8 _)) <| Vs (Bo (c := .int .u8 ((x % 128 + 128))) rfl (bop_or128)) <| Gm 99 [0, 90] [] (v := .b (.lit .nilIface)) [(0, ⟨2, [.ptr 0 (0), .row 99 (q + 1) none], ⟨true, some 81⟩⟩), (99, rowG 5 ((R) ++ [(x % 128 + 128)]))] rfl (w69U (L := R) (m := q) (by omega) (by omega) ((x % 128 + 128))) rfl <| VList.nil <| Ig <| Tg <| Rg <| Vs (Mv rfl) <| Vs (Bo (c := .int .i64 ((x / 128))) rfl ((srI 128))) <| Vs (As rfl) <| VList.nil <| Go (x / 128, q + 1, R ++ [x % 128 + 128]) ⟨by omega, by omega, num_step (by assumption) hR, by simp; omega, num_len (by assumption) hq2⟩ (Wr [(90, 99)])
  · replace hc1 := of_decide_eq_false hc1
    exact Ke <| Te <| Oe <| Ih <| Tg <| Rg <| Vs (Mv rfl) <| Vs (Nk rfl) <| Vs (Fa TF81_0 rfl) <| Vs (Mv rfl) <| Vs (Cv TU3 TU5 rfl (wrapM_u8 _)) <| Gm 98 [0, 90] [] (v := .b (.lit .nilIface)) [(0, ⟨2, [.ptr 0 (0), .row 98 (q + 1) none], ⟨true, some 81⟩⟩), (98, rowG 5 ((R) ++ [((x) % 256)]))] rfl (w69U (L := R) (m := q) (by omega) (by omega) (((x) % 256))) rfl <| VList.nil <| Gg (L1' := [some (⟨2, [.ptr 0 (0), .row 2 (q + 1) none], ⟨true, some 81⟩⟩), none, some (rowG 5 ((R) ++ [((x) % 256)]))]) [0, 1, 98] .nil (.vals _ [] rfl rfl) rfl (by rw [num_fin (by omega) hx0 hR, num_finl (by omega) hx0 hq2])
end Go.VL

/- Walks over the Go functions, printed by a program of this session over the kit's print, and by hand. -/
set_option linter.unusedVariables false
set_option linter.unusedSimpArgs false
set_option maxRecDepth 100000
namespace Go.VL
open Go.Proofs
theorem w37F {L : List Int} {m : Nat} (hL : L.length = m) (hm : m ≤ 500000) {n : Int} (hn : 0 ≤ n ∧ n ≤ 9223372036854775807) : VG Try.prog 37 [.ptr 0 (0), vI .i64 (n)] [⟨2, [.b (.lit (.pointer none)), .row 1 (m) none], ⟨true, some 81⟩⟩, rowG 5 (L)] (.b (.tup [])) [some (⟨2, [.ptr 0 (0), .row 2 (m + (numQ n.toNat).length) none], ⟨true, some 81⟩⟩), none, some (rowG 5 (L ++ numQ n.toNat))] := by
  have hnl := numQ_len (n := n.toNat) (by omega)
  refine VGp_of P_mixed Try.func37 rfl rfl (by kernel_rfl) (by simp) rfl <| Sq <| Bk <| VCode.loop (α := ((Unit)) ⊕ ((Int) × (Nat) × (List Int))) (fun x_ => match x_ with | .inl (u) => (2, sl [(0, .ptr 0 (0)), (1, vI .i64 (n))], en [(0, ⟨2, [.b (.lit (.pointer none)), .row 1 (m) none], ⟨true, some 81⟩⟩), (1, rowG 5 (L))]) | .inr (x, q, R) => (91, sl [(0, .ptr 0 (0)), (1, vI .i64 (x))], en [(0, ⟨2, [.ptr 0 (0), .row 90 (q) none], ⟨true, some 81⟩⟩), (90, rowG 5 (R))])) (fun x_ => match x_ with | .inl (u) => True | .inr (x, q, R) => 0 ≤ x ∧ x ≤ 9223372036854775807 ∧ R ++ numQ x.toNat = L ++ numQ n.toNat ∧ R.length = q ∧ q + (numQ x.toNat).length = m + (numQ n.toNat).length) (fun x_ => match x_ with | .inl (u) => n.toNat + 1 | .inr (x, q, R) => x.toNat) (.inl (())) trivial Wk ?_
  rintro (u | ⟨x, q, R⟩) hok2
  · change VCode _ _ _ 2 (sl _) (en _) _
    have hx0 : 0 ≤ n := hn.1
    have hR : L ++ numQ n.toNat = L ++ numQ n.toNat := rfl
    have hq2 : m + (numQ n.toNat).length = m + (numQ n.toNat).length := rfl
    refine Sq <| Sq <| Rg <| Vs (Mv rfl) <| Vs (Bi rfl) <| Nx <| Cd rfl (fun hc1 => ?_) (fun hc1 => ?_)
    · replace hc1 := of_decide_eq_true hc1
      exact Ks <| Tg <| Sq <| Bk <| Rg <| Vs (Mv rfl) <| Vs (Nk rfl) <| Vs (Fa TF81_0 rfl) <| Vs (Mv rfl) <| Vs (Cv TU3 TU5 rfl (wrapM_u8 _)) <| Vs (Bo (c := .int .u8 ((n % 128 + 128))) rfl (bop_or128)) <| Gm 10 [0, 1] [] (v := .b (.lit .nilIface)) [(0, ⟨2, [.ptr 0 (0), .row 10 (m + 1) none], ⟨true, some 81⟩⟩), (10, rowG 5 ((L) ++ [(n % 128 + 128)]))] rfl (w69F (L := L) (m := m) (by omega) (by omega) ((n % 128 + 128))) rfl <| VList.nil <| Ig <| Tg <| Rg <| Vs (Mv rfl) <| Vs (Bo (c := .int .i64 ((n / 128))) rfl ((srI 128))) <| Vs (As rfl) <| VList.nil <| Go (.inr (n / 128, m + 1, L ++ [n % 128 + 128])) ⟨by omega, by omega, num_step hc1 rfl, by simp; omega, num_len hc1 rfl⟩ (Wr [(90, 10)])
    · replace hc1 := of_decide_eq_false hc1
      exact Ke <| Te <| Oe <| Ih <| Tg <| Rg <| Vs (Mv rfl) <| Vs (Nk rfl) <| Vs (Fa TF81_0 rfl) <| Vs (Mv rfl) <| Vs (Cv TU3 TU5 rfl (wrapM_u8 _)) <| Gm 9 [0, 1] [] (v := .b (.lit .nilIface)) [(0, ⟨2, [.ptr 0 (0), .row 9 (m + 1) none], ⟨true, some 81⟩⟩), (9, rowG 5 ((L) ++ [((n) % 256)]))] rfl (w69F (L := L) (m := m) (by omega) (by omega) (((n) % 256))) rfl <| VList.nil <| Gg (L1' := [some (⟨2, [.ptr 0 (0), .row 2 (m + 1) none], ⟨true, some 81⟩⟩), none, some (rowG 5 ((L) ++ [((n) % 256)]))]) [0, 1, 9] .nil (.vals _ [] rfl rfl) rfl (by rw [num_fin (by omega) hx0 hR, num_finl (by omega) hx0 hq2])
  · change VCode _ _ _ 91 (sl _) (en _) _
    obtain ⟨hx0, hx1, hR, hq, hq2⟩ := hok2
    have hql := numQ_len1 x.toNat
    refine Sq <| Sq <| Rg <| Vs (Mv rfl) <| Vs (Bi rfl) <| Nx <| Cd rfl (fun hc2 => ?_) (fun hc2 => ?_)
    · replace hc2 := of_decide_eq_true hc2
      exact Ks <| Tg <| Sq <| Bk <| Rg <| Vs (Mv rfl) <| Vs (Nk rfl) <| Vs (Fa TF81_0 rfl) <| Vs (Mv rfl) <| Vs (Cv TU3 TU5 rfl (wrapM_u8 _)) <| Vs (Bo (c := .int .u8 ((x % 128 + 128))) rfl (bop_or128)) <| Gm 99 [0, 90] [] (v := .b (.lit .nilIface)) [(0, ⟨2, [.ptr 0 (0), .row 99 (q + 1) none], ⟨true, some 81⟩⟩), (99, rowG 5 ((R) ++ [(x % 128 + 128)]))] rfl (w69U (L := R) (m := q) (by omega) (by omega) ((x % 128 + 128))) rfl <| VList.nil <| Ig <| Tg <| Rg <| Vs (Mv rfl) <| Vs (Bo (c := .int .i64 ((x / 128))) rfl ((srI 128))) <| Vs (As rfl) <| VList.nil <| Go (.inr (x / 128, q + 1, R ++ [x % 128 + 128])) ⟨by omega, by omega, num_step (by assumption) hR, by simp; omega, num_len (by assumption) hq2⟩ (Wr [(90, 99)])
    · replace hc2 := of_decide_eq_false hc2
      exact Ke <| Te <| Oe <| Ih <| Tg <| Rg <| Vs (Mv rfl) <| Vs (Nk rfl) <| Vs (Fa TF81_0 rfl) <| Vs (Mv rfl) <| Vs (Cv TU3 TU5 rfl (wrapM_u8 _)) <| Gm 98 [0, 90] [] (v := .b (.lit .nilIface)) [(0, ⟨2, [.ptr 0 (0), .row 98 (q + 1) none], ⟨true, some 81⟩⟩), (98, rowG 5 ((R) ++ [((x) % 256)]))] rfl (w69U (L := R) (m := q) (by omega) (by omega) (((x) % 256))) rfl <| VList.nil <| Gg (L1' := [some (⟨2, [.ptr 0 (0), .row 2 (q + 1) none], ⟨true, some 81⟩⟩), none, some (rowG 5 ((R) ++ [((x) % 256)]))]) [0, 1, 98] .nil (.vals _ [] rfl rfl) rfl (by rw [num_fin (by omega) hx0 hR, num_finl (by omega) hx0 hq2])
theorem w38 {L : List Int} {m : Nat} (hL : L.length = m) (hm : m ≤ 400000) {str : ByteArray} (hs : str.size ≤ 90000) : VG Try.prog 38 [.ptr 0 (0), .b (.lit (.string (str)))] [⟨2, [.ptr 0 (0), .row 1 (m) none], ⟨true, some 81⟩⟩, rowG 5 (L)] (.b (.tup [])) [some (⟨2, [.ptr 0 (0), .row 2 (m + (txtQ str).length) none], ⟨true, some 81⟩⟩), none, some (rowG 5 (L ++ txtQ str))] := by
  have hnl := numQ_len (n := ((str.size : Int)).toNat) (by omega)
  exact VGp_of P_mixed Try.func38 rfl rfl (by kernel_rfl) (by simp) rfl <| Sq <| Rg <| Vs (Mv rfl) <| Vs (Mv rfl) <| Vs (Lt TU9 rfl) <| Gm 5 [0, 1] [] (v := .b (.tup [])) [(0, ⟨2, [.ptr 0 (0), .row 5 (m + (numQ (((str).size : Int)).toNat).length) none], ⟨true, some 81⟩⟩), (5, rowG 5 ((L) ++ (numQ (((str).size : Int)).toNat)))] rfl (w37U (L := L) (m := m) (by omega) (by omega) (n := ((str).size : Int)) (by omega)) rfl <| Nx <| Rg <| Vs (Mv rfl) <| Vs (Nk rfl) <| Vs (Fa TF81_0 rfl) <| Vs (Mv rfl) <| Gm 11 [0, 5] [] (v := .b (.tup [numB .i64 (((str).size : Int)), .lit .nilIface])) [(0, ⟨2, [.ptr 0 (0), .row 11 (m + (numQ (((str).size : Int)).toNat).length + (str).size) none], ⟨true, some 81⟩⟩), (11, rowG 5 (((L) ++ (numQ (((str).size : Int)).toNat)) ++ strL (str)))] rfl (w70 (L := (L) ++ (numQ (((str).size : Int)).toNat)) (m := m + (numQ (((str).size : Int)).toNat).length) (by rw [List.length_append, hL]) (by omega) (str := str) (by omega)) rfl <| VList.nil <| Gg (L1' := [some (⟨2, [.ptr 0 (0), .row 2 (m + (numQ (((str).size : Int)).toNat).length + (str).size) none], ⟨true, some 81⟩⟩), none, some (rowG 5 (((L) ++ (numQ (((str).size : Int)).toNat)) ++ strL (str)))]) [0, 1, 11] .nil (.vals _ [] rfl rfl) rfl (by simp only [txtQ, List.length_append, strL_len, Int.toNat_natCast, List.append_assoc, Nat.add_assoc])
theorem w71 {L : List Int} {m : Nat} (hL : L.length = m) (hm : m ≤ 400000) {l : List Int} (hl : l.length ≤ 1000) (h32 : ok32 l) : VG Try.prog 71 [.ptr 0 (0), vS (l)] [⟨2, [.ptr 0 (0), .row 1 (m) none], ⟨true, some 81⟩⟩, rowG 5 (L)] (.b (.tup [])) [some (⟨2, [.ptr 0 (0), .row 2 (m + (magQ l).length) none], ⟨true, some 81⟩⟩), none, some (rowG 5 (L ++ magQ l))] := by
  have hnl := numQ_len (n := ((l.length : Int)).toNat) (by omega)
  refine VGp_of P_mixed Try.func71 rfl rfl (by kernel_rfl) (by simp) rfl <| Sq <| Rg <| Vs (Mv rfl) <| Vs (Mv rfl) <| Vs (Ls TK52 rfl) <| Gm 5 [0, 1] [] (v := .b (.tup [])) [(0, ⟨2, [.ptr 0 (0), .row 5 (m + (numQ (((l).length : Int)).toNat).length) none], ⟨true, some 81⟩⟩), (5, rowG 5 ((L) ++ (numQ (((l).length : Int)).toNat)))] rfl (w37U (L := L) (m := m) (by omega) (by omega) (n := ((l).length : Int)) (by omega)) rfl <| Nx <| Sq <| Rg <| Vs (Mv rfl) <| Vs (Ls TK52 rfl) <| Vs (Mv rfl) <| Nx <| Bk <| VCode.loop (α := (Nat) × (Nat) × (List Int)) (fun x_ => match x_ with | (i, q, R) => (91, sl [(0, .ptr 0 (0)), (10, vS (l)), (11, vI .i64 (((l).length : Int))), (12, vI .i64 ((i : Int)))], en [(0, ⟨2, [.ptr 0 (0), .row 90 (q) none], ⟨true, some 81⟩⟩), (90, rowG 5 (R))])) (fun x_ => match x_ with | (i, q, R) => i ≤ l.length ∧ R = L ++ numQ ((l.length : Int)).toNat ++ limsQ (l.take i) ∧ R.length = q ∧ q = m + (numQ ((l.length : Int)).toNat).length + 4 * i) (fun x_ => match x_ with | (i, q, R) => l.length - i) (0, m + (numQ ((l.length : Int)).toNat).length, L ++ numQ ((l.length : Int)).toNat) ⟨Nat.zero_le _, by simp [limsQ], by rw [List.length_append, hL], by omega⟩ (Wr [(90, 5)]) ?_
  rintro ⟨i, q, R⟩ hok
  obtain ⟨hi, hR, hRl, hq⟩ := hok
  change VCode _ _ _ 91 (sl _) (en _) _
  refine Sq <| Rg <| Vs (Bi rfl) <| Nx <| Sq <| Cd rfl (fun hc1 => ?_) (fun hc1 => ?_)
  · replace hc1 := of_decide_eq_true hc1
    obtain ⟨x0, hx0⟩ : ∃ x0, l.getD i 0 = x0 := ⟨_, rfl⟩
    have hx1 : 0 ≤ x0 ∧ x0 < 4294967296 := by rw [← hx0]; have := ok32_getD h32 i; omega
    refine Ks <| Tg <| Sq <| Bk <| Sq <| Rg <| Vs (IxN TK52 rfl) <| Vs (Lq TA53 rfl) <| Vs (As rfl) <| Nx <| Sq <| Rg <| Vs (Mv rfl) <| Nx <| Bk <| VCode.loop (α := (Nat) × (Int) × (Nat) × (List Int)) (fun x_ => match x_ with | (k, x, q2, R2) => (91, sl [(0, .ptr 0 (0)), (5, vI .u32 (x)), (10, vS (l)), (11, vI .i64 (((l).length : Int))), (12, vI .i64 ((i : Int))), (16, vI .i64 ((k : Int)))], en [(0, ⟨2, [.ptr 0 (0), .row 90 (q2) none], ⟨true, some 81⟩⟩), (90, rowG 5 (R2))])) (fun x_ => match x_ with | (k, x, q2, R2) => k ≤ 4 ∧ x = x0 / 256 ^ k ∧ R2 = R ++ leB x0 k ∧ R2.length = q2 ∧ q2 = q + k) (fun x_ => match x_ with | (k, x, q2, R2) => 4 - k) (0, l.getD i 0, q, R) ⟨by decide, by rw [hx0]; simp, by simp [leB], hRl, rfl⟩ Wk ?_
    rintro ⟨k, x, q2, R2⟩ hok
    obtain ⟨hk, hx, hR2, hR2l, hq2⟩ := hok
    have hx2 : 0 ≤ x ∧ x < 4294967296 := by rw [hx]; exact ⟨Int.ediv_nonneg hx1.1 (Int.le_of_lt (Int.pow_pos (by decide))), Int.lt_of_le_of_lt (Int.ediv_le_self _ hx1.1) hx1.2⟩
    change VCode _ _ _ 91 (sl _) (en _) _
    refine Sq <| Rg <| Vs (Bi rfl) <| Nx <| Sq <| Cd rfl (fun hc2 => ?_) (fun hc2 => ?_)
    · replace hc2 := of_decide_eq_true hc2
      exact Ks <| Tg <| Sq <| Bk <| Sq <| Rg <| Vs (Mv rfl) <| Vs (Nk rfl) <| Vs (Fa TF81_0 rfl) <| Vs (Mv rfl) <| Vs (Cv TU53 TU5 rfl (wrapM_u8 _)) <| Gm 97 [0, 90] [] (v := .b (.lit .nilIface)) [(0, ⟨2, [.ptr 0 (0), .row 97 (q2 + 1) none], ⟨true, some 81⟩⟩), (97, rowG 5 ((R2) ++ [((x) % 256)]))] rfl (w69U (L := R2) (m := q2) (by omega) (by omega) (((x) % 256))) rfl <| Nx <| Rg <| Vs (Mv rfl) <| Vs (Bo rfl (srD 256)) <| Vs (As rfl) <| VList.nil <| Ig <| Tg <| Rg <| Vs (Bo rfl adI) <| Vs (Mv rfl) <| VList.nil <| Go (k + 1, (x / 256), q2 + 1, (R2) ++ [((x) % 256)]) ⟨by omega, by rw [hx, div_step], by rw [hR2, leB, hx, List.append_assoc], by rw [List.length_append, hR2l]; rfl, by omega⟩ (Wr [(90, 97)])
    · replace hc2 := of_decide_eq_false hc2
      have hk4 : k = 4 := by omega
      exact Ke <| Te <| Oe <| Ih <| Ig <| Tg <| Rg <| Vs (Bo rfl adI) <| Vs (Mv rfl) <| VList.nil <| Go (i + 1, q2, R2) ⟨by omega, by rw [hR2, hk4, hR, lims_take (by omega), hx0]; simp only [List.append_assoc], hR2l, by omega⟩ Wk
  · replace hc1 := of_decide_eq_false hc1
    exact Ke <| Te <| Oe <| Ih <| Gg (L1' := [some (⟨2, [.ptr 0 (0), .row 2 (q) none], ⟨true, some 81⟩⟩), none, some (rowG 5 (R))]) [0, 1, 90] .nil (.vals _ [] rfl rfl) rfl (by rw [hR, List.take_of_length_le (by omega)]; simp only [magQ, Int.toNat_natCast, List.append_assoc, List.length_append, hq, limsQ_len]; rw [show i = l.length by omega]; simp only [Nat.add_assoc])
end Go.VL

/- Walks over the Go functions, printed by a program of this session over the kit's print, and by hand. -/
set_option linter.unusedVariables false
set_option linter.unusedSimpArgs false
namespace Go.VL
open Go.Proofs
theorem g51r (n : Bool) (L : List Int) : VF Try.prog 50 [.agg [boolB (n), u32S (L)]] (boolB ((L.length : Int) == 0)) := by
  exact VF_of P_mixed Try.func50 rfl rfl (by kernel_rfl) <| Sq <| Rg <| Vs (Bx 0 rfl) <| Vs (As rfl) <| Nx <| Sq <| Rg <| Vs (Fa TF55_1 rfl) <| Vs (Ld TA52 rfl) <| Vs (Ls TK52 rfl) <| Vs (Bi rfl) <| Vs (As rfl) <| Nx <| Re <| Fi (l := [boolB ((((L).length : Int) == 0))]) (Rc (resVar_tmp rfl rfl) Rn) rfl
theorem g51 {z : Int} (h : inB z = true) : VF Try.prog 50 [iB z] (boolB (decide (z = 0))) := by
  have := g51r (zN z) (zL z)
  rw [nil_z h] at this
  exact this
theorem g58r (n : Bool) (L : List Int) (hL : L.length ≤ 9223372036854775807) : VF Try.prog 78 [.agg [boolB (n), u32S (L)]] (boolB (oneZ n L)) := by
  refine VF_of P_mixed Try.func78 rfl rfl (by kernel_rfl) <| Sq <| Rg <| Vs (Bx 0 rfl) <| Vs (As rfl) <| Nx <| Sq <| Rg <| Vs (Fa TF55_0 rfl) <| Vs (Ld TA4 rfl) <| Vs (Un rfl) <| Vs (Mv rfl) <| Sp 6 rfl (fun hc1 => ?_) (fun hc1 => ?_)
  · replace hc1 := bnot_t hc1
    refine Vs (Fa TF55_1 rfl) <| Vs (Ld TA52 rfl) <| Vs (Ls TK52 rfl) <| Vs (Bi rfl) <| Vs (Pk rfl) <| Vs (Mv rfl) <| Sp 12 rfl (fun hc2 => ?_) (fun hc2 => ?_)
    · replace hc2 := eq_of_beq hc2
      exact Vs (Fa TF55_1 rfl) <| Vs (Ld TA52 rfl) <| Vs (IxN (q := 0) TK52 rfl) <| Vs (Lq TA53 rfl) <| Vs (Bi rfl) <| Vs (Pk rfl) <| Vs (As rfl) <| Nx <| Re <| Fi (l := [boolB (((L).getD 0 0 == 1))]) (Rc (resVar_tmp rfl rfl) Rn) (by unfold oneZ; simp [*, oneB])
    · replace hc2 := ne_of_beq_false hc2
      exact Sk rfl <| Sk rfl <| Sk rfl <| Sk rfl <| Sk rfl <| Vs (Pk rfl) <| Vs (As rfl) <| Nx <| Re <| Fi (l := [boolB (false)]) (Rc (resVar_tmp rfl rfl) Rn) (by unfold oneZ; rw [beq_no hc2]; simp [oneB])
  · replace hc1 := bnot_f hc1
    exact Sk rfl <| Sk rfl <| Sk rfl <| Sk rfl <| Vs (Pk rfl) <| Vs (Mv rfl) <| Sk rfl <| Sk rfl <| Sk rfl <| Sk rfl <| Sk rfl <| Vs (Pk rfl) <| Vs (As rfl) <| Nx <| Re <| Fi (l := [boolB (false)]) (Rc (resVar_tmp rfl rfl) Rn) (by unfold oneZ; simp [*, oneB])
theorem g58 {z : Int} (h : inB z = true) : VF Try.prog 78 [iB z] (boolB (decide (z = 1))) := by
  have := g58r (zN z) (zL z) (len_zL' z)
  rw [one_z h] at this
  exact this
theorem g65 (z : Int) : VF Try.prog 76 [.agg [boolB (zN (z)), u32S (zL (z))]] (iB (-z)) := by
  refine VF_of P_mixed Try.func76 rfl rfl (by kernel_rfl) <| Sq <| Rg <| Vs (Bx 0 rfl) <| Vs (Al 1 TZ55 rfl) <| Nx <| Sq <| Sq <| Rg <| Vs (Fa TF55_1 rfl) <| Vs (Ld TA52 rfl) <| Vs (Ls TK52 rfl) <| Vs (Bi rfl) <| Nx <| Cd rfl (fun hc1 => ?_) (fun hc1 => ?_)
  · replace hc1 := eq_of_beq hc1
    exact Sq <| Rg <| Vs (Bd TQ55 rfl) <| Vs (StS TS55 rfl) <| Nx <| Re <| Tr <| Fi (l := [.agg [boolB (false), u32S ([])]]) (Rc (resVar_cell rfl rfl TA55 TS55 (Nat.le_of_ble_eq_true rfl) rfl) Rn) (iB_nil hc1)
  · replace hc1 := ne_of_beq_false hc1
    refine Ks <| Tg <| Sq <| Rd (by kernel_rfl) <| Vl (Fa TF55_0 rfl) <| Vl (Ld TA4 rfl) <| Vl (Un rfl) <| Vl (L0s 9 TK52 rfl) <| Vl (Fa TF55_1 rfl) <| Vl (Ld TA52 rfl) <| Vl (Ap0 12 TK52 rfl rfl (hm := (by have := len_zL z; simp only [maxLen]; omega))) <| Vl (Bd TQ55 rfl) <| Vl (StS TS55 rfl) <| ?_
    refine VLog.nil ⟨by kernel_rfl, ?_⟩
    exact Tg <| Re <| Fi (l := [.agg [boolB ((!zN (z))), u32S (zL (z))]]) (Rc (resVar_cell rfl rfl TA55 TS55 (Nat.le_of_ble_eq_true rfl) (Ra rfl (hl := rfl))) Rn) (negR hc1)
theorem g53 (z : Int) : VF Try.prog 52 [.agg [boolB (zN (z)), u32S (zL (z))]] (iB z) := by
  refine VF_of P_mixed Try.func52 rfl rfl (by kernel_rfl) <| Sq <| Rg <| Vs (Bx 0 rfl) <| Vs (Al 1 TZ55 rfl) <| Nx <| Sq <| Rd (by kernel_rfl) <| Vl (Fa TF55_0 rfl) <| Vl (Ld TA4 rfl) <| Vl (Fa TF55_1 rfl) <| Vl (Ld TA52 rfl) <| Vl (Apc TK52 rfl rfl (hm := (by have := len_zL z; simp [maxLen]; omega))) <| Vl (Bd TQ55 rfl) <| Vl (StS TS55 rfl) <| ?_
  refine VLog.nil ⟨by kernel_rfl, ?_⟩
  exact Tg <| Re <| Fi (l := [.agg [boolB (zN (z)), u32S (zL (z))]]) (Rc (resVar_cell rfl rfl TA55 TS55 (Nat.le_of_ble_eq_true rfl) rfl) Rn) rfl
theorem g52 {x y : Int} (hx : inB x = true) (hy : inB y = true) (h0 : y ≠ 0) : VF Try.prog 51 [.agg [boolB (zN (x)), u32S (zL (x))], .agg [boolB (zN (y)), u32S (zL (y))]] (qB (rdN x y) (rdD x y)) := by
  refine VF_of P_mixed Try.func51 rfl rfl (by kernel_rfl) <| Sq <| Rg <| Vs (Bx 0 rfl) <| Vs (Bx 1 rfl) <| Vs (Al 2 TZ57 rfl) <| Nx <| Sq <| Sq <| Rg <| Vs (Fa TF55_0 rfl) <| Vs (Ld TA4 rfl) <| Nx <| Cd rfl (fun hc1 => ?_) (fun hc1 => ?_)
  · (try simp at hc1)
    have hy0 : y < 0 := zN_lt hc1
    have nx : inB (-x) = true := (in_neg x).trans hx
    have ny : inB (-y) = true := (in_neg y).trans hy
    refine Rd (by kernel_rfl) <| Vl (LdS TA55 TS55 rfl) <| Vl (C0 rfl rfl (g65 (x))) <| Vl (LdS TA55 TS55 rfl) <| Vl (C0 rfl rfl (g65 (y))) <| Vl (StS TS55 rfl) <| Vl (StS TS55 rfl) <| ?_
    refine VLog.nil ⟨by kernel_rfl, ?_⟩
    refine Tg <| Sq <| Rg <| Vs (LdS TA55 TS55 rfl) <| Vs (LdS TA55 TS55 rfl) <| Vs (C0 rfl rfl (c31n (x := x) (y := y) inT inT)) <| Vs (Mv rfl) <| Vs (Xt rfl) <| Vs (Xt rfl) <| Vs (Al 17 TZ55 rfl) <| Vs (StS TS55 rfl) <| Vs (As rfl) <| Nx <| Sq <| Sq <| Rg <| Vs (LdS TA55 TS55 rfl) <| Vs (Cf rfl rfl (g58 (z := rdG (x) (y)) inT) rfl) <| Vs (Un rfl) <| Nx <| Cd rfl (fun hc2 => ?_) (fun hc2 => ?_)
    · replace hc2 := of_decide_eq_false (bnot_t hc2)
      exact Sq <| Rg <| Vs (LdS TA55 TS55 rfl) <| Vs (LdS TA55 TS55 rfl) <| Vs (C0 rfl rfl (c18 (x := -(x)) (y := rdG (x) (y)) inT inT (by exact rdG_ne _ h0))) <| Vs (Mv rfl) <| Vs (Xt rfl) <| Vs (Xt rfl) <| Vs (Xt rfl) <| Vs (StS TS55 rfl) <| Nx <| Rg <| Vs (LdS TA55 TS55 rfl) <| Vs (LdS TA55 TS55 rfl) <| Vs (C0 rfl rfl (c18 (x := -(y)) (y := rdG (x) (y)) inT inT (by exact rdG_ne _ h0))) <| Vs (Mv rfl) <| Vs (Xt rfl) <| Vs (Xt rfl) <| Vs (Xt rfl) <| Vs (StS TS55 rfl) <| Nx <| Sq <| Rg <| Vs (LdS TA55 TS55 rfl) <| Vs (LdS TA55 TS55 rfl) <| Vs (Bd TQ57 rfl) <| Vs (StS TS57 rfl) <| Nx <| Re <| Fi (l := [.agg [boolB (zN ((-(x)).fdiv (rdG (x) (y)))), u32S (zL ((-(x)).fdiv (rdG (x) (y)))), boolB (zN ((-(y)).fdiv (rdG (x) (y)))), u32S (zL ((-(y)).fdiv (rdG (x) (y))))]]) (Rc (resVar_cell rfl rfl TA57 TS57 (Nat.le_of_ble_eq_true rfl) rfl) Rn) (rdR1 hy0)
    · replace hc2 := of_decide_eq_true (bnot_f hc2)
      exact Ks <| Tg <| Sq <| Rg <| Vs (LdS TA55 TS55 rfl) <| Vs (LdS TA55 TS55 rfl) <| Vs (Bd TQ57 rfl) <| Vs (StS TS57 rfl) <| Nx <| Re <| Fi (l := [.agg [boolB (zN (-(x))), u32S (zL (-(x))), boolB (zN (-(y))), u32S (zL (-(y)))]]) (Rc (resVar_cell rfl rfl TA57 TS57 (Nat.le_of_ble_eq_true rfl) rfl) Rn) (rdR2 hy0 hc2)
  · (try simp at hc1)
    have hy0 : ¬ y < 0 := zN_ge hy hc1
    refine Ks <| Tg <| Sq <| Rg <| Vs (LdS TA55 TS55 rfl) <| Vs (LdS TA55 TS55 rfl) <| Vs (C0 rfl rfl (c31 (x := x) (y := y) inT inT)) <| Vs (Mv rfl) <| Vs (Xt rfl) <| Vs (Xt rfl) <| Vs (Al 11 TZ55 rfl) <| Vs (StS TS55 rfl) <| Vs (As rfl) <| Nx <| Sq <| Sq <| Rg <| Vs (LdS TA55 TS55 rfl) <| Vs (Cf rfl rfl (g58 (z := rdG (x) (y)) inT) rfl) <| Vs (Un rfl) <| Nx <| Cd rfl (fun hc3 => ?_) (fun hc3 => ?_)
    · replace hc3 := of_decide_eq_false (bnot_t hc3)
      exact Sq <| Rg <| Vs (LdS TA55 TS55 rfl) <| Vs (LdS TA55 TS55 rfl) <| Vs (C0 rfl rfl (c18 (x := x) (y := rdG (x) (y)) inT inT (by exact rdG_ne _ h0))) <| Vs (Mv rfl) <| Vs (Xt rfl) <| Vs (Xt rfl) <| Vs (Xt rfl) <| Vs (StS TS55 rfl) <| Nx <| Rg <| Vs (LdS TA55 TS55 rfl) <| Vs (LdS TA55 TS55 rfl) <| Vs (C0 rfl rfl (c18 (x := y) (y := rdG (x) (y)) inT inT (by exact rdG_ne _ h0))) <| Vs (Mv rfl) <| Vs (Xt rfl) <| Vs (Xt rfl) <| Vs (Xt rfl) <| Vs (StS TS55 rfl) <| Nx <| Sq <| Rg <| Vs (LdS TA55 TS55 rfl) <| Vs (LdS TA55 TS55 rfl) <| Vs (Bd TQ57 rfl) <| Vs (StS TS57 rfl) <| Nx <| Re <| Fi (l := [.agg [boolB (zN ((x).fdiv (rdG (x) (y)))), u32S (zL ((x).fdiv (rdG (x) (y)))), boolB (zN ((y).fdiv (rdG (x) (y)))), u32S (zL ((y).fdiv (rdG (x) (y))))]]) (Rc (resVar_cell rfl rfl TA57 TS57 (Nat.le_of_ble_eq_true rfl) rfl) Rn) (rdR3 hy0)
    · replace hc3 := of_decide_eq_true (bnot_f hc3)
      exact Ks <| Tg <| Sq <| Rg <| Vs (LdS TA55 TS55 rfl) <| Vs (LdS TA55 TS55 rfl) <| Vs (Bd TQ57 rfl) <| Vs (StS TS57 rfl) <| Nx <| Re <| Fi (l := [.agg [boolB (zN (x)), u32S (zL (x)), boolB (zN (y)), u32S (zL (y))]]) (Rc (resVar_cell rfl rfl TA57 TS57 (Nat.le_of_ble_eq_true rfl) rfl) Rn) (rdR4 hy0 hc3)
theorem g20v {x y : Int} (hx : inB x = true) (hy : inB y = true) : VF Try.prog 68 [.agg [boolB (zN (x)), u32S (zL (x)), boolB (zN (y)), u32S (zL (y))]] (boolB (decide (0 < y ∧ Int.gcd x y = 1))) := by
  refine VF_of P_mixed Try.func68 rfl rfl (by kernel_rfl) <| Sq <| Rg <| Vs (Bx 0 rfl) <| Vs (As rfl) <| Nx <| Sq <| Sq <| Rg <| Vs (Fa TF57_0 rfl) <| Vs (LdS TA55 TS55 rfl) <| Vs (Cf rfl rfl (c36 (x)) rfl) <| Vs (Un rfl) <| Vs (Mv rfl) <| Vs (Fa TF57_1 rfl) <| Vs (LdS TA55 TS55 rfl) <| Vs (Cf rfl rfl (c36 (y)) rfl) <| Vs (Un rfl) <| Vs (Pk rfl) <| Vs (Mv rfl) <| Vs (Fa TF57_1 rfl) <| Vs (Fa TF55_0 rfl) <| Vs (Ld TA4 rfl) <| Vs (Pk rfl) <| Vs (Mv rfl) <| Sp 20 rfl (fun hc1 => ?_) (fun hc1 => ?_)
  · (try simp at hc1)
    have hy0 := zN_lt hc1
    exact Sk rfl <| Sk rfl <| Sk rfl <| Vs (Pk rfl) <| Nx <| Cy rfl <| Sq <| Rg <| Vs (As rfl) <| Nx <| Re <| Tr <| Fi (l := [boolB (false)]) (Rc (resVar_tmp rfl rfl) Rn) (rvF (by omega))
  · (try simp at hc1)
    have hy0 := zN_ge hy hc1
    refine Vs (Fa TF57_1 rfl) <| Vs (LdS TA55 TS55 rfl) <| Vs (Cf rfl rfl (g51 (z := y) inT) rfl) <| Vs (Pk rfl) <| Nx <| Cd rfl (fun hc2 => ?_) (fun hc2 => ?_)
    · replace hc2 := of_decide_eq_true hc2
      exact Sq <| Rg <| Vs (As rfl) <| Nx <| Re <| Tr <| Fi (l := [boolB (false)]) (Rc (resVar_tmp rfl rfl) Rn) (rvF (by omega))
    · replace hc2 := of_decide_eq_false hc2
      refine Ks <| Tg <| Sq <| Sq <| Rg <| Vs (Fa TF57_1 rfl) <| Vs (LdS TA55 TS55 rfl) <| Vs (Cf rfl rfl (g58 (z := y) inT) rfl) <| Nx <| Cd rfl (fun hc3 => ?_) (fun hc3 => ?_)
      · replace hc3 := of_decide_eq_true hc3
        exact Sq <| Rg <| Vs (As rfl) <| Nx <| Re <| Tr <| Fi (l := [boolB (true)]) (Rc (resVar_tmp rfl rfl) Rn) (rv1 hc3)
      · replace hc3 := of_decide_eq_false hc3
        exact Ks <| Tg <| Sq <| Rg <| Vs (Fa TF57_0 rfl) <| Vs (LdS TA55 TS55 rfl) <| Vs (Fa TF57_1 rfl) <| Vs (LdS TA55 TS55 rfl) <| Vs (C0 rfl rfl (c31 (x := x) (y := y) inT inT)) <| Vs (Mv rfl) <| Vs (Xt rfl) <| Vs (Xt rfl) <| Vs (Al 33 TZ55 rfl) <| Vs (StS TS55 rfl) <| Vs (As rfl) <| Nx <| Sq <| Rg <| Vs (LdS TA55 TS55 rfl) <| Vs (Cf rfl rfl (g58 (z := rdG (x) (y)) inT) rfl) <| Vs (As rfl) <| Nx <| Re <| Fi (l := [boolB (decide (rdG (x) (y) = 1))]) (Rc (resVar_tmp rfl rfl) Rn) (rvG (by omega))
theorem g20i (n : Bool) (A : List Int) (m : Bool) (D : List Int) (hA : A.length ≤ 9223372036854775807) (hD : D.length ≤ 9223372036854775807) (h : (validB n A && validB m D) = false) : VF Try.prog 68 [.agg [boolB (n), u32S (A), boolB (m), u32S (D)]] (boolB false) := by
  refine VF_of P_mixed Try.func68 rfl rfl (by kernel_rfl) <| Sq <| Rg <| Vs (Bx 0 rfl) <| Vs (As rfl) <| Nx <| Sq <| Sq <| Rg <| Vs (Fa TF57_0 rfl) <| Vs (LdS TA55 TS55 rfl) <| Vs (Cf rfl rfl (f36 n A hA) rfl) <| Vs (Un rfl) <| Vs (Mv rfl) <| Sp 9 rfl (fun hc1 => ?_) (fun hc1 => ?_)
  · replace hc1 := (bnot_t hc1)
    exact Sk rfl <| Sk rfl <| Sk rfl <| Sk rfl <| Vs (Pk rfl) <| Vs (Mv rfl) <| Sk rfl <| Sk rfl <| Sk rfl <| Vs (Pk rfl) <| Vs (Mv rfl) <| Sk rfl <| Sk rfl <| Sk rfl <| Vs (Pk rfl) <| Nx <| Cy rfl <| Sq <| Rg <| Vs (As rfl) <| Nx <| Re <| Tr <| Fi (l := [boolB (false)]) (Rc (resVar_tmp rfl rfl) Rn) rfl
  · replace hc1 := (bnot_f hc1)
    refine Vs (Fa TF57_1 rfl) <| Vs (LdS TA55 TS55 rfl) <| Vs (Cf rfl rfl (f36 m D hD) rfl) <| Vs (Un rfl) <| Vs (Pk rfl) <| Vs (Mv rfl) <| Sp 15 rfl (fun hc2 => ?_) (fun hc2 => ?_)
    · replace hc2 := (bnot_t hc2)
      exact Sk rfl <| Sk rfl <| Sk rfl <| Vs (Pk rfl) <| Vs (Mv rfl) <| Sk rfl <| Sk rfl <| Sk rfl <| Vs (Pk rfl) <| Nx <| Cy rfl <| Sq <| Rg <| Vs (As rfl) <| Nx <| Re <| Tr <| Fi (l := [boolB (false)]) (Rc (resVar_tmp rfl rfl) Rn) rfl
    · replace hc2 := (bnot_f hc2)
      simp [hc1, hc2] at h
theorem g20 (n : Bool) (A : List Int) (m : Bool) (D : List Int) (hA : A.length ≤ 9223372036854775807) (hD : D.length ≤ 9223372036854775807) (oA : ok32 A) (oD : ok32 D) : VF Try.prog 68 [ratB n A m D] (boolB (vR n A m D)) := by
  cases h : (validB n A && validB m D) with
  | false =>
    have e : vR n A m D = false := by unfold vR; rw [h]; rfl
    rw [e]
    exact g20i n A m D hA hD h
  | true =>
    rw [Bool.and_eq_true] at h
    obtain ⟨x, e1, e2, hx⟩ := as_z oA h.1
    obtain ⟨y, e3, e4, hy⟩ := as_z oD h.2
    rw [e1, e2, e3, e4, vR_z hx hy]
    exact g20v hx hy
theorem g20q {p q : Int} (h : okR p q) : VF Try.prog 68 [qB p q] (boolB true) := by
  have := g20v h.2.2.1 h.2.2.2
  rw [decide_eq_true ⟨h.1, h.2.1⟩] at this
  exact this
end Go.VL

/- Walks over the Go functions, printed by a program of this session over the kit's print, and by hand. -/
set_option linter.unusedVariables false
set_option linter.unusedSimpArgs false
set_option maxRecDepth 100000
namespace Go.VL
open Go.Proofs
theorem w39 {L : List Int} {k : Nat} (hL : L.length = k) (hm : k ≤ 300000) {m : Mov} (h0 : 0 ≤ m.step) (h1 : 0 ≤ m.coord) (hk : m.Ok) (hnm : m.nm.length ≤ 16) (hdm : m.dm.length ≤ 16) : VG Try.prog 39 [.ptr 0 (0), .b (.agg [numB .i64 (m.step), numB .i64 (m.coord), boolB (m.nn), u32S (m.nm), boolB (m.dn), u32S (m.dm)])] [⟨2, [.ptr 0 (0), .row 1 (k) none], ⟨true, some 81⟩⟩, rowG 5 (L)] (.b (.tup [])) [some (⟨2, [.ptr 0 (0), .row 2 (k + (mvQ m).length) none], ⟨true, some 81⟩⟩), none, some (rowG 5 (L ++ mvQ m))] := by
  have hs := hk.step
  have hc := hk.coord
  have hl1 := numQ_len (n := m.step.toNat) (by omega)
  have hl2 := numQ_len (n := m.coord.toNat) (by omega)
  have hl3 := magQ_len (l := m.nm) (by omega)
  have hl4 := magQ_len (l := m.dm) (by omega)
  refine VGp_of P_mixed Try.func39 rfl rfl (by kernel_rfl) (by simp) rfl <| Sq <| Rg <| Vs (Bx 2 rfl) <| Nx <| Sq <| Rg <| Vs (Mv rfl) <| Vs (Fa TF61_0 rfl) <| Vs (Ld TA3 rfl) <| Gm 6 [0, 1] [] (v := .b (.tup [])) [(0, ⟨2, [.ptr 0 (0), .row 6 (k + (numQ (m.step).toNat).length) none], ⟨true, some 81⟩⟩), (2, ⟨6, [vI .i64 (m.step), vI .i64 (m.coord), vB (m.nn), vS (m.nm), vB (m.dn), vS (m.dm)], true⟩), (6, rowG 5 ((L) ++ (numQ (m.step).toNat)))] rfl (w37U (L := L) (m := k) (hL) (by omega) (n := m.step) (by omega)) rfl <| Nx <| Sq <| Rg <| Vs (Mv rfl) <| Vs (Fa TF61_1 rfl) <| Vs (Ld TA3 rfl) <| Gm 11 [0, 6] [] (v := .b (.tup [])) [(0, ⟨2, [.ptr 0 (0), .row 11 (k + (numQ (m.step).toNat).length + (numQ (m.coord).toNat).length) none], ⟨true, some 81⟩⟩), (2, ⟨6, [vI .i64 (m.step), vI .i64 (m.coord), vB (m.nn), vS (m.nm), vB (m.dn), vS (m.dm)], true⟩), (11, rowG 5 (((L) ++ (numQ (m.step).toNat)) ++ (numQ (m.coord).toNat)))] rfl (w37U (L := (L) ++ (numQ (m.step).toNat)) (m := k + (numQ (m.step).toNat).length) (by first | omega | (simp only [List.length_append, List.length_singleton]; omega)) (by omega) (n := m.coord) (by omega)) rfl <| Nx <| Sq <| Sq <| Rg <| Vs (Fa TF61_2 rfl) <| Vs (Fa TF57_0 rfl) <| Vs (Fa TF55_0 rfl) <| Vs (Ld TA4 rfl) <| Nx <| Cd rfl (fun hc1 => ?_) (fun hc1 => ?_)
  · replace hc1 := hc1
    exact Rg <| Vs (Mv rfl) <| Vs (Nk rfl) <| Vs (Fa TF81_0 rfl) <| Gm 20 [0, 11] [] (v := .b (.lit .nilIface)) [(0, ⟨2, [.ptr 0 (0), .row 20 (k + (numQ (m.step).toNat).length + (numQ (m.coord).toNat).length + 1) none], ⟨true, some 81⟩⟩), (2, ⟨6, [vI .i64 (m.step), vI .i64 (m.coord), vB (m.nn), vS (m.nm), vB (m.dn), vS (m.dm)], true⟩), (20, rowG 5 ((((L) ++ (numQ (m.step).toNat)) ++ (numQ (m.coord).toNat)) ++ [1]))] rfl (w69U (L := ((L) ++ (numQ (m.step).toNat)) ++ (numQ (m.coord).toNat)) (m := k + (numQ (m.step).toNat).length + (numQ (m.coord).toNat).length) (by first | omega | (simp only [List.length_append, List.length_singleton]; omega)) (by omega) (1)) rfl <| Nx <| Sq <| Rg <| Vs (Mv rfl) <| Vs (Fa TF61_2 rfl) <| Vs (Fa TF57_0 rfl) <| Vs (Fa TF55_1 rfl) <| Vs (Ld TA52 rfl) <| Gm 27 [0, 20] [] (v := .b (.tup [])) [(0, ⟨2, [.ptr 0 (0), .row 27 (k + (numQ (m.step).toNat).length + (numQ (m.coord).toNat).length + 1 + (magQ (m.nm)).length) none], ⟨true, some 81⟩⟩), (2, ⟨6, [vI .i64 (m.step), vI .i64 (m.coord), vB (m.nn), vS (m.nm), vB (m.dn), vS (m.dm)], true⟩), (27, rowG 5 (((((L) ++ (numQ (m.step).toNat)) ++ (numQ (m.coord).toNat)) ++ [1]) ++ magQ (m.nm)))] rfl (w71 (L := (((L) ++ (numQ (m.step).toNat)) ++ (numQ (m.coord).toNat)) ++ [1]) (m := k + (numQ (m.step).toNat).length + (numQ (m.coord).toNat).length + 1) (by first | omega | (simp only [List.length_append, List.length_singleton]; omega)) (by omega) (l := m.nm) (by omega) (hk.nm.1)) rfl <| Nx <| Rg <| Vs (Mv rfl) <| Vs (Fa TF61_2 rfl) <| Vs (Fa TF57_1 rfl) <| Vs (Fa TF55_1 rfl) <| Vs (Ld TA52 rfl) <| Gm 34 [0, 27] [] (v := .b (.tup [])) [(0, ⟨2, [.ptr 0 (0), .row 34 (k + (numQ (m.step).toNat).length + (numQ (m.coord).toNat).length + 1 + (magQ (m.nm)).length + (magQ (m.dm)).length) none], ⟨true, some 81⟩⟩), (2, ⟨6, [vI .i64 (m.step), vI .i64 (m.coord), vB (m.nn), vS (m.nm), vB (m.dn), vS (m.dm)], true⟩), (34, rowG 5 ((((((L) ++ (numQ (m.step).toNat)) ++ (numQ (m.coord).toNat)) ++ [1]) ++ magQ (m.nm)) ++ magQ (m.dm)))] rfl (w71 (L := ((((L) ++ (numQ (m.step).toNat)) ++ (numQ (m.coord).toNat)) ++ [1]) ++ magQ (m.nm)) (m := k + (numQ (m.step).toNat).length + (numQ (m.coord).toNat).length + 1 + (magQ (m.nm)).length) (by first | omega | (simp only [List.length_append, List.length_singleton]; omega)) (by omega) (l := m.dm) (by omega) (hk.dm.1)) rfl <| VList.nil <| Gg (L1' := [some (⟨2, [.ptr 0 (0), .row 2 (k + (numQ (m.step).toNat).length + (numQ (m.coord).toNat).length + 1 + (magQ (m.nm)).length + (magQ (m.dm)).length) none], ⟨true, some 81⟩⟩), none, some (rowG 5 ((((((L) ++ (numQ (m.step).toNat)) ++ (numQ (m.coord).toNat)) ++ [1]) ++ magQ (m.nm)) ++ magQ (m.dm)))]) [0, 1, 34] .nil (.vals _ [] rfl rfl) rfl (by simp only [mvQ, sgnQ, hc1, if_true, List.length_append, List.length_singleton, List.append_assoc, Nat.add_assoc]; try rfl)
  · replace hc1 := hc1
    exact Rg <| Vs (Mv rfl) <| Vs (Nk rfl) <| Vs (Fa TF81_0 rfl) <| Gm 20 [0, 11] [] (v := .b (.lit .nilIface)) [(0, ⟨2, [.ptr 0 (0), .row 20 (k + (numQ (m.step).toNat).length + (numQ (m.coord).toNat).length + 1) none], ⟨true, some 81⟩⟩), (2, ⟨6, [vI .i64 (m.step), vI .i64 (m.coord), vB (m.nn), vS (m.nm), vB (m.dn), vS (m.dm)], true⟩), (20, rowG 5 ((((L) ++ (numQ (m.step).toNat)) ++ (numQ (m.coord).toNat)) ++ [0]))] rfl (w69U (L := ((L) ++ (numQ (m.step).toNat)) ++ (numQ (m.coord).toNat)) (m := k + (numQ (m.step).toNat).length + (numQ (m.coord).toNat).length) (by first | omega | (simp only [List.length_append, List.length_singleton]; omega)) (by omega) (0)) rfl <| Nx <| Sq <| Rg <| Vs (Mv rfl) <| Vs (Fa TF61_2 rfl) <| Vs (Fa TF57_0 rfl) <| Vs (Fa TF55_1 rfl) <| Vs (Ld TA52 rfl) <| Gm 27 [0, 20] [] (v := .b (.tup [])) [(0, ⟨2, [.ptr 0 (0), .row 27 (k + (numQ (m.step).toNat).length + (numQ (m.coord).toNat).length + 1 + (magQ (m.nm)).length) none], ⟨true, some 81⟩⟩), (2, ⟨6, [vI .i64 (m.step), vI .i64 (m.coord), vB (m.nn), vS (m.nm), vB (m.dn), vS (m.dm)], true⟩), (27, rowG 5 (((((L) ++ (numQ (m.step).toNat)) ++ (numQ (m.coord).toNat)) ++ [0]) ++ magQ (m.nm)))] rfl (w71 (L := (((L) ++ (numQ (m.step).toNat)) ++ (numQ (m.coord).toNat)) ++ [0]) (m := k + (numQ (m.step).toNat).length + (numQ (m.coord).toNat).length + 1) (by first | omega | (simp only [List.length_append, List.length_singleton]; omega)) (by omega) (l := m.nm) (by omega) (hk.nm.1)) rfl <| Nx <| Rg <| Vs (Mv rfl) <| Vs (Fa TF61_2 rfl) <| Vs (Fa TF57_1 rfl) <| Vs (Fa TF55_1 rfl) <| Vs (Ld TA52 rfl) <| Gm 34 [0, 27] [] (v := .b (.tup [])) [(0, ⟨2, [.ptr 0 (0), .row 34 (k + (numQ (m.step).toNat).length + (numQ (m.coord).toNat).length + 1 + (magQ (m.nm)).length + (magQ (m.dm)).length) none], ⟨true, some 81⟩⟩), (2, ⟨6, [vI .i64 (m.step), vI .i64 (m.coord), vB (m.nn), vS (m.nm), vB (m.dn), vS (m.dm)], true⟩), (34, rowG 5 ((((((L) ++ (numQ (m.step).toNat)) ++ (numQ (m.coord).toNat)) ++ [0]) ++ magQ (m.nm)) ++ magQ (m.dm)))] rfl (w71 (L := ((((L) ++ (numQ (m.step).toNat)) ++ (numQ (m.coord).toNat)) ++ [0]) ++ magQ (m.nm)) (m := k + (numQ (m.step).toNat).length + (numQ (m.coord).toNat).length + 1 + (magQ (m.nm)).length) (by first | omega | (simp only [List.length_append, List.length_singleton]; omega)) (by omega) (l := m.dm) (by omega) (hk.dm.1)) rfl <| VList.nil <| Gg (L1' := [some (⟨2, [.ptr 0 (0), .row 2 (k + (numQ (m.step).toNat).length + (numQ (m.coord).toNat).length + 1 + (magQ (m.nm)).length + (magQ (m.dm)).length) none], ⟨true, some 81⟩⟩), none, some (rowG 5 ((((((L) ++ (numQ (m.step).toNat)) ++ (numQ (m.coord).toNat)) ++ [0]) ++ magQ (m.nm)) ++ magQ (m.dm)))]) [0, 1, 34] .nil (.vals _ [] rfl rfl) rfl (by simp only [mvQ, sgnQ, hc1, if_true, List.length_append, List.length_singleton, List.append_assoc, Nat.add_assoc]; try rfl)
theorem m32 (a n b : Int) : VF Try.prog 32 [numB .i64 (a), numB .i64 (n), numB .i64 (b)] (boolB (btw a n b)) := by
  refine VF_of P_mixed Try.func32 rfl rfl (by kernel_rfl) <| Sq <| Rg <| Vs (As rfl) <| Nx <| Sq <| Rg <| Vs (Mv rfl) <| Vs (Mv rfl) <| Vs (Bi rfl) <| Vs (Mv rfl) <| Sp 10 rfl (fun hc1 => ?_) (fun hc1 => ?_)
  · replace hc1 := of_decide_eq_true hc1
    refine Vs (Mv rfl) <| Vs (Mv rfl) <| Vs (Bi rfl) <| Vs (Pk rfl) <| Vs (As rfl) <| Nx <| Re <| Fi (Rc (resVar_tmp rfl rfl) Rn) (by refine congrArg boolB ?_; simp [btw, *])
  · replace hc1 := of_decide_eq_false hc1
    refine Sk rfl <| Sk rfl <| Sk rfl <| Vs (Pk rfl) <| Vs (As rfl) <| Nx <| Re <| Fi (Rc (resVar_tmp rfl rfl) Rn) (by refine congrArg boolB ?_; simp [btw, *])
theorem m63 (n : Int) : VF Try.prog 63 [numB .i64 (n)] (boolB (seenB n)) := by
  exact VF_of P_mixed Try.func63 rfl rfl (by kernel_rfl) <| Sq <| Rg <| Vs (As rfl) <| Nx <| Sq <| Rg <| Vs (Mv rfl) <| Vs (Cf rfl rfl (m32 0 n 65535) rfl) <| Vs (Un rfl) <| Vs (As rfl) <| Nx <| Re <| Fi (l := [boolB ((!(btw 0 n 65535)))]) (Rc (resVar_tmp rfl rfl) Rn) rfl
theorem m65 (s : ByteArray) : VF Try.prog 65 [.lit (.string (s))] (boolB (nameB s)) := by
  exact VF_of P_mixed Try.func65 rfl rfl (by kernel_rfl) <| Sq <| Rg <| Vs (As rfl) <| Nx <| Sq <| Rg <| Vs (Mv rfl) <| Vs (Lt TU9 rfl) <| Vs (Bi rfl) <| Vs (As rfl) <| Nx <| Re <| Fi (l := [boolB (decide (((s).size : Int) > 200))]) (Rc (resVar_tmp rfl rfl) Rn) rfl
theorem m67 {m : Mov} (hk : m.Ok) : VF Try.prog 67 [.agg [numB .i64 (m.step), numB .i64 (m.coord), boolB (m.nn), u32S (m.nm), boolB (m.dn), u32S (m.dm)]] (boolB (moveB m)) := by
  refine VF_of P_mixed Try.func67 rfl rfl (by kernel_rfl) <| Sq <| Rg <| Vs (Bx 0 rfl) <| Vs (As rfl) <| Nx <| Sq <| Rg <| Vs (Fa TF61_0 rfl) <| Vs (Ld TA3 rfl) <| Vs (Cf rfl rfl (m32 0 (m.step) 65535) rfl) <| Vs (Un rfl) <| Vs (Mv rfl) <| Sp 7 rfl (fun hc1 => ?_) (fun hc1 => ?_)
  · replace hc1 := (bnot_t hc1)
    refine Sk rfl <| Sk rfl <| Sk rfl <| Sk rfl <| Vs (Pk rfl) <| Vs (Mv rfl) <| Sk rfl <| Sk rfl <| Sk rfl <| Sk rfl <| Sk rfl <| Sk rfl <| Sk rfl <| Sk rfl <| Sk rfl <| Sk rfl <| Sk rfl <| Sk rfl <| Vs (Pk rfl) <| Vs (Mv rfl) <| Sk rfl <| Sk rfl <| Sk rfl <| Sk rfl <| Vs (Pk rfl) <| Vs (As rfl) <| Nx <| Re <| Fi (Rc (resVar_tmp rfl rfl) Rn) (by refine congrArg boolB ?_; first | rfl | simp [moveB, *])
  · replace hc1 := (bnot_f hc1)
    refine Vs (Fa TF61_1 rfl) <| Vs (Ld TA3 rfl) <| Vs (Cf rfl rfl (m32 0 (m.coord) 1) rfl) <| Vs (Un rfl) <| Vs (Pk rfl) <| Vs (Mv rfl) <| Sp 13 rfl (fun hc2 => ?_) (fun hc2 => ?_)
    · replace hc2 := (bnot_t hc2)
      refine Sk rfl <| Sk rfl <| Sk rfl <| Sk rfl <| Sk rfl <| Sk rfl <| Sk rfl <| Sk rfl <| Sk rfl <| Sk rfl <| Sk rfl <| Sk rfl <| Vs (Pk rfl) <| Vs (Mv rfl) <| Sk rfl <| Sk rfl <| Sk rfl <| Sk rfl <| Vs (Pk rfl) <| Vs (As rfl) <| Nx <| Re <| Fi (Rc (resVar_tmp rfl rfl) Rn) (by refine congrArg boolB ?_; first | rfl | simp [moveB, *])
    · replace hc2 := (bnot_f hc2)
      refine Vs (Fa TF61_2 rfl) <| Vs (Fa TF57_0 rfl) <| Vs (Fa TF55_1 rfl) <| Vs (Ld TA52 rfl) <| Vs (Ls TK52 rfl) <| Vs (Fa TF61_2 rfl) <| Vs (Fa TF57_1 rfl) <| Vs (Fa TF55_1 rfl) <| Vs (Ld TA52 rfl) <| Vs (Ls TK52 rfl) <| Vs (Ki (show (if ((m.dm).length : Int) > ((m.nm).length : Int) then ((m.dm).length : Int) else ((m.nm).length : Int)) = (mxI (m.nm.length : Int) (m.dm.length : Int)) from rfl) (Mx rfl)) <| Vs (Bi rfl) <| Vs (Pk rfl) <| Vs (Mv rfl) <| Sp 27 rfl (fun hc3 => ?_) (fun hc3 => ?_)
      · replace hc3 := of_decide_eq_true hc3
        refine Sk rfl <| Sk rfl <| Sk rfl <| Sk rfl <| Vs (Pk rfl) <| Vs (As rfl) <| Nx <| Re <| Fi (Rc (resVar_tmp rfl rfl) Rn) (by refine congrArg boolB ?_; first | rfl | simp [moveB, *])
      · replace hc3 := of_decide_eq_false hc3
        refine Vs (Fa TF61_2 rfl) <| Vs (LdS TA57 TS57 rfl) <| Vs (Cf rfl rfl (g20 (m.nn) (m.nm) (m.dn) (m.dm) hk.nm.2 hk.dm.2 hk.nm.1 hk.dm.1) rfl) <| Vs (Un rfl) <| Vs (Pk rfl) <| Vs (As rfl) <| Nx <| Re <| Fi (Rc (resVar_tmp rfl rfl) Rn) (by refine congrArg boolB ?_; first | rfl | simp [moveB, *])
theorem m90 {l : List Int} (hl : l.length ≤ 9223372036854775807) : VG Try.prog 90 [.b (slK .i64 (l)), .fn 63 []] [] (vI .i64 (ixQ seenB l)) [] := by
  refine VGp_of P_mixed Try.func90 rfl rfl (by kernel_rfl) (by simp) rfl <| Sq <| Rg <| Vs (As rfl) <| Nx <| Sq <| Sq <| Rg <| Vs (Mv rfl) <| Vs (Ls TK28 rfl) <| Vs (Mv rfl) <| Nx <| Bk <| VCode.loop (α := (Nat)) (fun i => (0, sl [(0, .b (slK .i64 (l))), (1, .fn 63 []), (7, vI .i64 (((l).length : Int))), (8, vI .i64 ((i : Int)))], en [])) (fun i => i ≤ l.length ∧ ∀ j, j < i → seenB (l.getD j 0) = false) (fun i => l.length - i) (0) ⟨Nat.zero_le _, fun j h => absurd h (Nat.not_lt_zero _)⟩ Wk ?_
  intro i hok
  obtain ⟨hi, hb⟩ := hok
  change VCode _ _ _ 0 (sl _) (en _) _
  refine Sq <| Rg <| Vs (Bi rfl) <| Nx <| Sq <| Cd rfl (fun hc1 => ?_) (fun hc1 => ?_)
  · replace hc1 := of_decide_eq_true hc1
    refine Ks <| Tg <| Sq <| Bk <| Sq <| Rg <| Vs (Mv rfl) <| Vs (As rfl) <| Nx <| Sq <| Rg <| Vs (Mv rfl) <| Vs (Mv rfl) <| Vs (Mv rfl) <| Vs (IxN TK28 rfl) <| Vs (Lq TA3 rfl) <| Gm 8 [] [] (v := vB ((seenB ((l).getD (i) 0)))) [] rfl (VG.ofVF (m63 ((l).getD (i) 0))) rfl <| Nx <| Cd rfl (fun hc2 => ?_) (fun hc2 => ?_)
    · replace hc2 := hc2
      exact Sq <| Rg <| Vs (Mv rfl) <| Vs (As rfl) <| Nx <| Re <| Iq <| Tr <| Or <| Iq <| Tr <| Gg (L1' := []) [] (.val _ _ _ _ _ rfl rfl rfl .nil) (.one _) (by rw [ix_at (d := 0) (by omega) hb hc2]) rfl
    · replace hc2 := hc2
      exact Ks <| Ig <| Tg <| Rg <| Vs (Bo rfl adI) <| Vs (Mv rfl) <| VList.nil <| Go (i + 1) ⟨by omega, fun j h => by rcases Nat.lt_or_ge j i with h9 | h9; exact hb j h9; rw [show j = i by omega]; exact hc2⟩ Wk
  · replace hc1 := of_decide_eq_false hc1
    exact Ke <| Te <| Oe <| Ih <| Tg <| Sq <| Rg <| Vs (As rfl) <| Nx <| Re <| Gg (L1' := []) [] (.val _ _ _ _ _ rfl rfl rfl .nil) (.one _) (by rw [ix_no (fun j h => hb j (by omega))]) rfl
theorem m91 {l : List ByteArray} (hl : l.length ≤ 9223372036854775807) : VG Try.prog 91 [.b (slT 1 stB (l)), .fn 65 []] [] (vI .i64 (ixQ nameB l)) [] := by
  refine VGp_of P_mixed Try.func91 rfl rfl (by kernel_rfl) (by simp) rfl <| Sq <| Rg <| Vs (As rfl) <| Nx <| Sq <| Sq <| Rg <| Vs (Mv rfl) <| Vs (Lst stB_len TU35 rfl) <| Vs (Mv rfl) <| Nx <| Bk <| VCode.loop (α := (Nat)) (fun i => (0, sl [(0, .b (slT 1 stB (l))), (1, .fn 65 []), (7, vI .i64 (((l).length : Int))), (8, vI .i64 ((i : Int)))], en [])) (fun i => i ≤ l.length ∧ ∀ j, j < i → nameB (l.getD j ByteArray.empty) = false) (fun i => l.length - i) (0) ⟨Nat.zero_le _, fun j h => absurd h (Nat.not_lt_zero _)⟩ Wk ?_
  intro i hok
  obtain ⟨hi, hb⟩ := hok
  change VCode _ _ _ 0 (sl _) (en _) _
  refine Sq <| Rg <| Vs (Bi rfl) <| Nx <| Sq <| Cd rfl (fun hc1 => ?_) (fun hc1 => ?_)
  · replace hc1 := of_decide_eq_true hc1
    refine Ks <| Tg <| Sq <| Bk <| Sq <| Rg <| Vs (Mv rfl) <| Vs (As rfl) <| Nx <| Sq <| Rg <| Vs (Mv rfl) <| Vs (Mv rfl) <| Vs (Mv rfl) <| Vs (IxT stB_len TU35 TS9 rfl (by first | omega | (simp; done) | (simp; omega)) (gd (d := (ByteArray.empty)) (j := i) (by first | omega | (simp; done) | (simp; omega))) rfl) <| Vs (Lq TA9 rfl) <| Gm 8 [] [] (v := vB ((nameB ((l).getD (i) (ByteArray.empty))))) [] rfl (VG.ofVF (m65 ((l).getD (i) (ByteArray.empty)))) rfl <| Nx <| Cd rfl (fun hc2 => ?_) (fun hc2 => ?_)
    · replace hc2 := hc2
      exact Sq <| Rg <| Vs (Mv rfl) <| Vs (As rfl) <| Nx <| Re <| Iq <| Tr <| Or <| Iq <| Tr <| Gg (L1' := []) [] (.val _ _ _ _ _ rfl rfl rfl .nil) (.one _) (by rw [ix_at (d := ByteArray.empty) (by omega) hb hc2]) rfl
    · replace hc2 := hc2
      exact Ks <| Ig <| Tg <| Rg <| Vs (Bo rfl adI) <| Vs (Mv rfl) <| VList.nil <| Go (i + 1) ⟨by omega, fun j h => by rcases Nat.lt_or_ge j i with h9 | h9; exact hb j h9; rw [show j = i by omega]; exact hc2⟩ Wk
  · replace hc1 := of_decide_eq_false hc1
    exact Ke <| Te <| Oe <| Ih <| Tg <| Sq <| Rg <| Vs (As rfl) <| Nx <| Re <| Gg (L1' := []) [] (.val _ _ _ _ _ rfl rfl rfl .nil) (.one _) (by rw [ix_no (fun j h => hb j (by omega))]) rfl
theorem m92 {l : List Mov} (hl : l.length ≤ 9223372036854775807) (hm : ∀ m ∈ l, m.Ok) : VG Try.prog 92 [.b (slT 6 mvB (l)), .fn 67 []] [] (vI .i64 (ixQ moveB l)) [] := by
  refine VGp_of P_mixed Try.func92 rfl rfl (by kernel_rfl) (by simp) rfl <| Sq <| Rg <| Vs (As rfl) <| Nx <| Sq <| Sq <| Rg <| Vs (Mv rfl) <| Vs (Lst mvB_len TU36 rfl) <| Vs (Mv rfl) <| Nx <| Bk <| VCode.loop (α := (Nat)) (fun i => (0, sl [(0, .b (slT 6 mvB (l))), (1, .fn 67 []), (7, vI .i64 (((l).length : Int))), (8, vI .i64 ((i : Int)))], en [])) (fun i => i ≤ l.length ∧ ∀ j, j < i → moveB (l.getD j mv0) = false) (fun i => l.length - i) (0) ⟨Nat.zero_le _, fun j h => absurd h (Nat.not_lt_zero _)⟩ Wk ?_
  intro i hok
  obtain ⟨hi, hb⟩ := hok
  change VCode _ _ _ 0 (sl _) (en _) _
  refine Sq <| Rg <| Vs (Bi rfl) <| Nx <| Sq <| Cd rfl (fun hc1 => ?_) (fun hc1 => ?_)
  · replace hc1 := of_decide_eq_true hc1
    refine Ks <| Tg <| Sq <| Bk <| Sq <| Rg <| Vs (Mv rfl) <| Vs (As rfl) <| Nx <| Sq <| Rg <| Vs (Mv rfl) <| Vs (Mv rfl) <| Vs (Mv rfl) <| Vs (IxT mvB_len TU36 TS61 rfl (by first | omega | (simp; done) | (simp; omega)) (gd (d := mv0) (j := i) (by first | omega | (simp; done) | (simp; omega))) rfl) <| Vs (LqS TA61 TS61 rfl) <| Gm 8 [] [] (v := vB ((moveB ((l).getD (i) mv0)))) [] rfl (VG.ofVF (m67 (hm _ (getD_mem' (by omega))))) rfl <| Nx <| Cd rfl (fun hc2 => ?_) (fun hc2 => ?_)
    · replace hc2 := hc2
      exact Sq <| Rg <| Vs (Mv rfl) <| Vs (As rfl) <| Nx <| Re <| Iq <| Tr <| Or <| Iq <| Tr <| Gg (L1' := []) [] (.val _ _ _ _ _ rfl rfl rfl .nil) (.one _) (by rw [ix_at (d := mv0) (by omega) hb hc2]) rfl
    · replace hc2 := hc2
      exact Ks <| Ig <| Tg <| Rg <| Vs (Bo rfl adI) <| Vs (Mv rfl) <| VList.nil <| Go (i + 1) ⟨by omega, fun j h => by rcases Nat.lt_or_ge j i with h9 | h9; exact hb j h9; rw [show j = i by omega]; exact hc2⟩ Wk
  · replace hc1 := of_decide_eq_false hc1
    exact Ke <| Te <| Oe <| Ih <| Tg <| Sq <| Rg <| Vs (As rfl) <| Nx <| Re <| Gg (L1' := []) [] (.val _ _ _ _ _ rfl rfl rfl .nil) (.one _) (by rw [ix_no (fun j h => hb j (by omega))]) rfl
theorem m62 {l : List Int} (hl : l.length ≤ 9223372036854775807) : VG Try.prog 62 [.b (slK .i64 (l)), .fn 63 []] [] (.b (boolB (l.any seenB))) [] := by
  exact VGp_of P_mixed Try.func62 rfl rfl (by kernel_rfl) (by simp) rfl <| Sq <| Rg <| Vs (As rfl) <| Nx <| Sq <| Rg <| Vs (Mv rfl) <| Vs (Mv rfl) <| Gm 3 [] [] (v := vI .i64 ((ixQ seenB l))) [] rfl (m90 (l := l) (hl)) rfl <| Vs (Bi rfl) <| Vs (As rfl) <| Nx <| Re <| Gg (L1' := []) [] (.val _ _ _ _ _ rfl rfl rfl .nil) (.one _) (by rw [← ix_ge]) rfl
theorem m64 {l : List ByteArray} (hl : l.length ≤ 9223372036854775807) : VG Try.prog 64 [.b (slT 1 stB (l)), .fn 65 []] [] (.b (boolB (l.any nameB))) [] := by
  exact VGp_of P_mixed Try.func64 rfl rfl (by kernel_rfl) (by simp) rfl <| Sq <| Rg <| Vs (As rfl) <| Nx <| Sq <| Rg <| Vs (Mv rfl) <| Vs (Mv rfl) <| Gm 3 [] [] (v := vI .i64 ((ixQ nameB l))) [] rfl (m91 (l := l) (hl)) rfl <| Vs (Bi rfl) <| Vs (As rfl) <| Nx <| Re <| Gg (L1' := []) [] (.val _ _ _ _ _ rfl rfl rfl .nil) (.one _) (by rw [← ix_ge]) rfl
theorem m66 {l : List Mov} (hl : l.length ≤ 9223372036854775807) (hm : ∀ m ∈ l, m.Ok) : VG Try.prog 66 [.b (slT 6 mvB (l)), .fn 67 []] [] (.b (boolB (l.any moveB))) [] := by
  exact VGp_of P_mixed Try.func66 rfl rfl (by kernel_rfl) (by simp) rfl <| Sq <| Rg <| Vs (As rfl) <| Nx <| Sq <| Rg <| Vs (Mv rfl) <| Vs (Mv rfl) <| Gm 3 [] [] (v := vI .i64 ((ixQ moveB l))) [] rfl (m92 (l := l) (hl) (hm)) rfl <| Vs (Bi rfl) <| Vs (As rfl) <| Nx <| Re <| Gg (L1' := []) [] (.val _ _ _ _ _ rfl rfl rfl .nil) (.one _) (by rw [← ix_ge]) rfl
end Go.VL

/- Walks over the Go functions, printed by a program of this session over the kit's print, and by hand. -/
set_option linter.unusedVariables false
set_option linter.unusedSimpArgs false
set_option maxRecDepth 100000
namespace Go.VL
open Go.Proofs
theorem m36 {e : Edt} (h : e.Ok) : VF Try.prog 36 [.agg [numB .i64 (e.au), numB .i64 (e.sq), numB .i64 (e.st), slK .i64 (e.seen), numB .i64 (e.kind), .lit (.string (e.text)), slT 1 stB (e.names), slT 6 mvB (e.moves), numB .i64 (e.oa), numB .i64 (e.os), numB .i64 (e.pk)]] (boolB (encQ e)) := by
  refine VF_of P_mixed Try.func36 rfl rfl (by kernel_rfl) <| Sq <| Rg <| Vs (Bx 0 rfl) <| Vs (As rfl) <| Nx <| Sq <| Bk <| VCode.join (α := (Bool)) (fun b1 => (1, sl [(1, .ptr 0 (0)), (3, vB (b1))], en [(0, ⟨11, [vI .i64 (e.au), vI .i64 (e.sq), vI .i64 (e.st), .b (slK .i64 (e.seen)), vI .i64 (e.kind), .b (.lit (.string (e.text))), .b (slT 1 stB (e.names)), .b (slT 6 mvB (e.moves)), vI .i64 (e.oa), vI .i64 (e.os), vI .i64 (e.pk)], true⟩)])) (fun b1 => encA e = !b1) ?_ ?_
  · skip
    refine Sq <| Rg <| Vs (Fa TF38_0 rfl) <| Vs (Fa TF34_0 rfl) <| Vs (Ld TA3 rfl) <| Vs (Cf rfl rfl (m32 1 (e.au) 12) rfl) <| Vs (Un rfl) <| Vs (As rfl) <| Nx <| Cd rfl (fun hc1 => ?_) (fun hc1 => ?_)
    · replace hc1 := (bnot_t hc1)
      exact Ks <| Jg ((!(btw 1 (e.au) 12))) (by simp [encA, *]) Wk
    · replace hc1 := (bnot_f hc1)
      refine Sq <| Rg <| Vs (Fa TF38_0 rfl) <| Vs (Fa TF34_1 rfl) <| Vs (Ld TA3 rfl) <| Vs (Cf rfl rfl (m32 1 (e.sq) 65535) rfl) <| Vs (Un rfl) <| Vs (As rfl) <| Nx <| Cd rfl (fun hc2 => ?_) (fun hc2 => ?_)
      · replace hc2 := (bnot_t hc2)
        exact Ks <| Jg ((!(btw 1 (e.sq) 65535))) (by simp [encA, *]) Wk
      · replace hc2 := (bnot_f hc2)
        exact Rg <| Vs (Fa TF38_1 rfl) <| Vs (Ld TA3 rfl) <| Vs (Cf rfl rfl (m32 1 (e.st) 2147483647) rfl) <| Vs (Un rfl) <| Vs (As rfl) <| VList.nil <| Jg ((!(btw 1 (e.st) 2147483647))) (by simp [encA, *]) Wk
  · intro b1 hA
    change VCode _ _ _ 1 (sl _) (en _) _
    refine Cd rfl (fun hc3 => ?_) (fun hc3 => ?_)
    · replace hc3 := hc3
      refine Sq <| Rg <| Vs (As rfl) <| Nx <| Re <| Iq <| Tr <| Fi (Rc (resVar_tmp rfl rfl) Rn) (by refine congrArg boolB ?_; simp only [encQ, encD, Bool.not_true, Bool.not_false, Bool.true_and, Bool.false_and, *])
    · replace hc3 := hc3
      refine VCode.join (α := (Bool)) (fun b2 => (1, sl [(1, .ptr 0 (0)), (18, vB (b2))], en [(0, ⟨11, [vI .i64 (e.au), vI .i64 (e.sq), vI .i64 (e.st), .b (slK .i64 (e.seen)), vI .i64 (e.kind), .b (.lit (.string (e.text))), .b (slT 1 stB (e.names)), .b (slT 6 mvB (e.moves)), vI .i64 (e.oa), vI .i64 (e.os), vI .i64 (e.pk)], true⟩)])) (fun b2 => encB e = !b2) ?_ ?_
      · skip
        refine Sq <| Rg <| Vs (Fa TF38_2 rfl) <| Vs (Ld TA28 rfl) <| Vs (Ls TK28 rfl) <| Vs (Bi rfl) <| Vs (As rfl) <| Nx <| Cd rfl (fun hc4 => ?_) (fun hc4 => ?_)
        · replace hc4 := of_decide_eq_true hc4
          exact Ks <| Jg (decide (((e.seen).length : Int) > 12)) (by simp [encB, *]) Wk
        · replace hc4 := of_decide_eq_false hc4
          refine Sq <| Rg <| Vs (Fa TF38_4 rfl) <| Vs (Ld TA9 rfl) <| Vs (Lt TU9 rfl) <| Vs (Bi rfl) <| Vs (As rfl) <| Nx <| Cd rfl (fun hc5 => ?_) (fun hc5 => ?_)
          · replace hc5 := of_decide_eq_true hc5
            exact Ks <| Jg (decide (((e.text).size : Int) > 200)) (by simp [encB, *]) Wk
          · replace hc5 := of_decide_eq_false hc5
            exact Rg <| Vs (Fa TF38_5 rfl) <| Vs (Ld TA35 rfl) <| Vs (Lst stB_len TU35 rfl) <| Vs (Fa TF38_6 rfl) <| Vs (Ld TA36 rfl) <| Vs (Lst mvB_len TU36 rfl) <| Vs (Ki (show (if ((e.moves).length : Int) > ((e.names).length : Int) then ((e.moves).length : Int) else ((e.names).length : Int)) = (mxI (e.names.length : Int) (e.moves.length : Int)) from rfl) (Mx rfl)) <| Vs (Bi rfl) <| Vs (As rfl) <| VList.nil <| Jg (decide ((mxI (e.names.length : Int) (e.moves.length : Int)) > 4)) (by simp [encB, *]) Wk
      · intro b2 hB
        change VCode _ _ _ 1 (sl _) (en _) _
        refine Cd rfl (fun hc6 => ?_) (fun hc6 => ?_)
        · replace hc6 := hc6
          refine Sq <| Rg <| Vs (As rfl) <| Nx <| Re <| Iq <| Tr <| Fi (Rc (resVar_tmp rfl rfl) Rn) (by refine congrArg boolB ?_; simp only [encQ, encD, Bool.not_true, Bool.not_false, Bool.true_and, Bool.false_and, *])
        · replace hc6 := hc6
          refine VCode.join (α := (Bool)) (fun b3 => (1, sl [(1, .ptr 0 (0)), (35, vB (b3))], en [(0, ⟨11, [vI .i64 (e.au), vI .i64 (e.sq), vI .i64 (e.st), .b (slK .i64 (e.seen)), vI .i64 (e.kind), .b (.lit (.string (e.text))), .b (slT 1 stB (e.names)), .b (slT 6 mvB (e.moves)), vI .i64 (e.oa), vI .i64 (e.os), vI .i64 (e.pk)], true⟩)])) (fun b3 => encC e = !b3) ?_ ?_
          · skip
            refine Sq <| Rg <| Vs (Fa TF38_3 rfl) <| Vs (Ld TA3 rfl) <| Vs (Cf rfl rfl (m32 1 (e.kind) 5) rfl) <| Vs (Un rfl) <| Vs (As rfl) <| Nx <| Cd rfl (fun hc7 => ?_) (fun hc7 => ?_)
            · replace hc7 := (bnot_t hc7)
              exact Ks <| Jg ((!(btw 1 (e.kind) 5))) (by simp [encC, *]) Wk
            · replace hc7 := (bnot_f hc7)
              refine Sq <| Rg <| Vs (Fa TF38_7 rfl) <| Vs (Fa TF34_0 rfl) <| Vs (Ld TA3 rfl) <| Vs (Cf rfl rfl (m32 0 (e.oa) 12) rfl) <| Vs (Un rfl) <| Vs (As rfl) <| Nx <| Cd rfl (fun hc8 => ?_) (fun hc8 => ?_)
              · replace hc8 := (bnot_t hc8)
                exact Ks <| Jg ((!(btw 0 (e.oa) 12))) (by simp [encC, *]) Wk
              · replace hc8 := (bnot_f hc8)
                refine Sq <| Rg <| Vs (Fa TF38_7 rfl) <| Vs (Fa TF34_1 rfl) <| Vs (Ld TA3 rfl) <| Vs (Cf rfl rfl (m32 0 (e.os) 65535) rfl) <| Vs (Un rfl) <| Vs (As rfl) <| Nx <| Cd rfl (fun hc9 => ?_) (fun hc9 => ?_)
                · replace hc9 := (bnot_t hc9)
                  exact Ks <| Jg ((!(btw 0 (e.os) 65535))) (by simp [encC, *]) Wk
                · replace hc9 := (bnot_f hc9)
                  exact Rg <| Vs (Fa TF38_8 rfl) <| Vs (Ld TA3 rfl) <| Vs (Cf rfl rfl (m32 0 (e.pk) 1) rfl) <| Vs (Un rfl) <| Vs (As rfl) <| VList.nil <| Jg ((!(btw 0 (e.pk) 1))) (by simp [encC, *]) Wk
          · intro b3 hC
            change VCode _ _ _ 1 (sl _) (en _) _
            refine Cd rfl (fun hc10 => ?_) (fun hc10 => ?_)
            · replace hc10 := hc10
              refine Sq <| Rg <| Vs (As rfl) <| Nx <| Re <| Iq <| Tr <| Fi (Rc (resVar_tmp rfl rfl) Rn) (by refine congrArg boolB ?_; simp only [encQ, encD, Bool.not_true, Bool.not_false, Bool.true_and, Bool.false_and, *])
            · replace hc10 := hc10
              refine Sq <| Rg <| Vs (Fa TF38_2 rfl) <| Vs (Ld TA28 rfl) <| Gm 3 [] [] (v := vB (((e.seen).any seenB))) [(0, ⟨11, [vI .i64 (e.au), vI .i64 (e.sq), vI .i64 (e.st), .b (slK .i64 (e.seen)), vI .i64 (e.kind), .b (.lit (.string (e.text))), .b (slT 1 stB (e.names)), .b (slT 6 mvB (e.moves)), vI .i64 (e.oa), vI .i64 (e.os), vI .i64 (e.pk)], true⟩)] rfl (m62 (l := e.seen) (h.seen.2)) rfl <| Vs (As rfl) <| Nx <| Cd rfl (fun hc11 => ?_) (fun hc11 => ?_)
              · replace hc11 := hc11
                refine Sq <| Rg <| Vs (As rfl) <| Nx <| Re <| Iq <| Tr <| Fi (Rc (resVar_tmp rfl rfl) Rn) (by refine congrArg boolB ?_; simp only [encQ, encD, Bool.not_true, Bool.not_false, Bool.true_and, Bool.false_and, *])
              · replace hc11 := hc11
                refine Sq <| Rg <| Vs (Fa TF38_5 rfl) <| Vs (Ld TA35 rfl) <| Gm 7 [] [] (v := vB (((e.names).any nameB))) [(0, ⟨11, [vI .i64 (e.au), vI .i64 (e.sq), vI .i64 (e.st), .b (slK .i64 (e.seen)), vI .i64 (e.kind), .b (.lit (.string (e.text))), .b (slT 1 stB (e.names)), .b (slT 6 mvB (e.moves)), vI .i64 (e.oa), vI .i64 (e.os), vI .i64 (e.pk)], true⟩)] rfl (m64 (l := e.names) (h.names)) rfl <| Vs (As rfl) <| Nx <| Cd rfl (fun hc12 => ?_) (fun hc12 => ?_)
                · replace hc12 := hc12
                  refine Sq <| Rg <| Vs (As rfl) <| Nx <| Re <| Iq <| Tr <| Fi (Rc (resVar_tmp rfl rfl) Rn) (by refine congrArg boolB ?_; simp only [encQ, encD, Bool.not_true, Bool.not_false, Bool.true_and, Bool.false_and, *])
                · replace hc12 := hc12
                  refine Ks <| Ig <| Tg <| Sq <| Rg <| Vs (Fa TF38_6 rfl) <| Vs (Ld TA36 rfl) <| Gm 11 [] [] (v := vB (((e.moves).any moveB))) [(0, ⟨11, [vI .i64 (e.au), vI .i64 (e.sq), vI .i64 (e.st), .b (slK .i64 (e.seen)), vI .i64 (e.kind), .b (.lit (.string (e.text))), .b (slT 1 stB (e.names)), .b (slT 6 mvB (e.moves)), vI .i64 (e.oa), vI .i64 (e.os), vI .i64 (e.pk)], true⟩)] rfl (m66 (l := e.moves) (h.moves.2) (h.moves.1)) rfl <| Vs (Un rfl) <| Vs (As rfl) <| Nx <| Re <| Fi (Rc (resVar_tmp rfl rfl) Rn) (by refine congrArg boolB ?_; simp only [encQ, encD, Bool.not_true, Bool.not_false, Bool.true_and, Bool.false_and, *])
end Go.VL

/- Walks over the Go functions, printed by a program of this session over the kit's print, and by hand. -/
set_option linter.unusedVariables false
set_option linter.unusedSimpArgs false
set_option maxRecDepth 100000
namespace Go.VL
open Go.Proofs
theorem m16 {e : Edt} (h : e.Ok) : VF Try.prog 16 [.agg [numB .i64 (e.au), numB .i64 (e.sq), numB .i64 (e.st), slK .i64 (e.seen), numB .i64 (e.kind), .lit (.string (e.text)), slT 1 stB (e.names), slT 6 mvB (e.moves), numB .i64 (e.oa), numB .i64 (e.os), numB .i64 (e.pk)]] (.tup [.lit (.string (if encQ e then bytesOf (formE e) else ⟨#[]⟩)), numB .i64 (if encQ e then 0 else 3)]) := by
  refine VF_of P_mixed Try.func16 rfl rfl (by kernel_rfl) <| Sq <| Rg <| Vs (Bx 0 rfl) <| Vs (As rfl) <| Vs (AgT 2 (B := 5) rfl) <| Nx <| Sq <| Sq <| Rg <| Vs (LdS TA38 TS38 rfl) <| Vs (Cf rfl rfl (m36 (e := e) h) rfl) <| Vs (Un rfl) <| Nx <| Cd rfl (fun hc1 => ?_) (fun hc1 => ?_)
  · replace hc1 := (bnot_t hc1)
    exact Sq <| Rg <| Vs (As rfl) <| Vs (AgT 7 (B := 5) rfl) <| Nx <| Re <| Tr <| Fi (l := [.lit (.string ((⟨#[]⟩ : ByteArray))), numB .i64 (3)]) (Rc (resVar_tmp rfl rfl) (Rc (resVar_tmp rfl rfl) Rn)) (by rw [hc1]; first | rfl | (rw [← hfin]; rfl))
  · replace hc1 := (bnot_f hc1)
    refine Ks <| Tg <| Sq <| ?_
    have hE : e.En := enc_iff.1 (by assumption)
    obtain ⟨ha1, ha2⟩ := hE.au
    obtain ⟨hs1, hs2⟩ := hE.sq
    obtain ⟨ht1, ht2⟩ := hE.st
    have hsl := hE.seenl
    have htx := hE.text
    have hnl := hE.namesl
    have hml := hE.movesl
    obtain ⟨hk1, hk2⟩ := hE.kind
    obtain ⟨ho1, ho2⟩ := hE.oa
    obtain ⟨hp1, hp2⟩ := hE.os
    obtain ⟨hq1, hq2⟩ := hE.pk
    have := numQ_len (n := e.au.toNat) (by omega)
    have := numQ_len (n := e.sq.toNat) (by omega)
    have := numQ_len (n := e.st.toNat) (by omega)
    have := numQ_len (n := ((e.seen.length : Int)).toNat) (by omega)
    have := numQ_len (n := e.kind.toNat) (by omega)
    have := numQ_len (n := ((e.names.length : Int)).toNat) (by omega)
    have := numQ_len (n := ((e.moves.length : Int)).toNat) (by omega)
    have := numQ_len (n := e.oa.toNat) (by omega)
    have := numQ_len (n := e.os.toNat) (by omega)
    have := numQ_len (n := e.pk.toNat) (by omega)
    have htl := txtQ_len htx
    refine Rg <| Vs (AlT 6 TY81 rfl) <| VList.nil <| Cx (n1 := 7) (S1 := [(1, .ptr 0 (0)), (4, .ptr 6 (0))]) (L1 := [(0, ⟨11, [vI .i64 (e.au), vI .i64 (e.sq), vI .i64 (e.st), .b (slK .i64 (e.seen)), vI .i64 (e.kind), .b (.lit (.string (e.text))), .b (slT 1 stB (e.names)), .b (slT 6 mvB (e.moves)), vI .i64 (e.oa), vI .i64 (e.os), vI .i64 (e.pk)], true⟩), (2, rowG 5 ([])), (6, ⟨2, [.b (.lit (.pointer none)), .row 2 (0) none], ⟨true, some 81⟩⟩)]) (Weak.conv (nv := []) ⟨⟨⟨_, rfl, .inl rfl⟩, rfl⟩, ⟨⟨_, rfl, .inl rfl⟩, rfl⟩, trivial⟩ ⟨⟨⟨_, rfl, rfl, rfl, ⟨.inl rfl, .inl rfl, .inl rfl, .inl rfl, .inl rfl, .inl rfl, .inl rfl, .inl rfl, .inl rfl, .inl rfl, .inl rfl, trivial⟩⟩, Nat.le_of_ble_eq_true rfl, cells_of rfl⟩, ⟨⟨_, rfl, rfl, rfl, Two.same (fun _ => .inl rfl) _⟩, Nat.le_of_ble_eq_true rfl, row_cellsG⟩, ⟨⟨_, rfl, rfl, rfl, ⟨.inl rfl, (cv_nil'), trivial⟩⟩, Nat.le_of_ble_eq_true rfl, cells_of rfl⟩, trivial⟩ (Nat.le_of_ble_eq_true rfl)) <| Sq <| Rg <| Vs (Fa TF38_0 rfl) <| Vs (Fa TF34_0 rfl) <| Vs (Ld TA3 rfl) <| Gm 10 [6, 2] [] (v := .b (.tup [])) [(0, ⟨11, [vI .i64 (e.au), vI .i64 (e.sq), vI .i64 (e.st), .b (slK .i64 (e.seen)), vI .i64 (e.kind), .b (.lit (.string (e.text))), .b (slT 1 stB (e.names)), .b (slT 6 mvB (e.moves)), vI .i64 (e.oa), vI .i64 (e.os), vI .i64 (e.pk)], true⟩), (6, ⟨2, [.ptr 6 (0), .row 10 (0 + (numQ (e.au).toNat).length) none], ⟨true, some 81⟩⟩), (10, rowG 5 (([]) ++ (numQ (e.au).toNat)))] rfl (w37F (L := []) (m := 0) (by first | exact hRl | omega | (simp only [List.length_append, List.length_singleton, List.length_nil]; done) | (simp only [List.length_append, List.length_singleton, List.length_nil]; omega)) (by omega) (n := e.au) (by omega)) rfl <| Nx <| Sq <| Rg <| Vs (Fa TF38_0 rfl) <| Vs (Fa TF34_1 rfl) <| Vs (Ld TA3 rfl) <| Gm 15 [6, 10] [] (v := .b (.tup [])) [(0, ⟨11, [vI .i64 (e.au), vI .i64 (e.sq), vI .i64 (e.st), .b (slK .i64 (e.seen)), vI .i64 (e.kind), .b (.lit (.string (e.text))), .b (slT 1 stB (e.names)), .b (slT 6 mvB (e.moves)), vI .i64 (e.oa), vI .i64 (e.os), vI .i64 (e.pk)], true⟩), (6, ⟨2, [.ptr 6 (0), .row 15 (0 + (numQ (e.au).toNat).length + (numQ (e.sq).toNat).length) none], ⟨true, some 81⟩⟩), (15, rowG 5 ((([]) ++ (numQ (e.au).toNat)) ++ (numQ (e.sq).toNat)))] rfl (w37U (L := ([]) ++ (numQ (e.au).toNat)) (m := 0 + (numQ (e.au).toNat).length) (by first | exact hRl | omega | (simp only [List.length_append, List.length_singleton, List.length_nil]; done) | (simp only [List.length_append, List.length_singleton, List.length_nil]; omega)) (by omega) (n := e.sq) (by omega)) rfl <| Nx <| Sq <| Rg <| Vs (Fa TF38_1 rfl) <| Vs (Ld TA3 rfl) <| Gm 19 [6, 15] [] (v := .b (.tup [])) [(0, ⟨11, [vI .i64 (e.au), vI .i64 (e.sq), vI .i64 (e.st), .b (slK .i64 (e.seen)), vI .i64 (e.kind), .b (.lit (.string (e.text))), .b (slT 1 stB (e.names)), .b (slT 6 mvB (e.moves)), vI .i64 (e.oa), vI .i64 (e.os), vI .i64 (e.pk)], true⟩), (6, ⟨2, [.ptr 6 (0), .row 19 (0 + (numQ (e.au).toNat).length + (numQ (e.sq).toNat).length + (numQ (e.st).toNat).length) none], ⟨true, some 81⟩⟩), (19, rowG 5 (((([]) ++ (numQ (e.au).toNat)) ++ (numQ (e.sq).toNat)) ++ (numQ (e.st).toNat)))] rfl (w37U (L := (([]) ++ (numQ (e.au).toNat)) ++ (numQ (e.sq).toNat)) (m := 0 + (numQ (e.au).toNat).length + (numQ (e.sq).toNat).length) (by first | exact hRl | omega | (simp only [List.length_append, List.length_singleton, List.length_nil]; done) | (simp only [List.length_append, List.length_singleton, List.length_nil]; omega)) (by omega) (n := e.st) (by omega)) rfl <| Nx <| Sq <| Rg <| Vs (Fa TF38_2 rfl) <| Vs (Ld TA28 rfl) <| Vs (Ls TK28 rfl) <| Gm 24 [6, 19] [] (v := .b (.tup [])) [(0, ⟨11, [vI .i64 (e.au), vI .i64 (e.sq), vI .i64 (e.st), .b (slK .i64 (e.seen)), vI .i64 (e.kind), .b (.lit (.string (e.text))), .b (slT 1 stB (e.names)), .b (slT 6 mvB (e.moves)), vI .i64 (e.oa), vI .i64 (e.os), vI .i64 (e.pk)], true⟩), (6, ⟨2, [.ptr 6 (0), .row 24 (0 + (numQ (e.au).toNat).length + (numQ (e.sq).toNat).length + (numQ (e.st).toNat).length + (numQ (((e.seen).length : Int)).toNat).length) none], ⟨true, some 81⟩⟩), (24, rowG 5 ((((([]) ++ (numQ (e.au).toNat)) ++ (numQ (e.sq).toNat)) ++ (numQ (e.st).toNat)) ++ (numQ (((e.seen).length : Int)).toNat)))] rfl (w37U (L := ((([]) ++ (numQ (e.au).toNat)) ++ (numQ (e.sq).toNat)) ++ (numQ (e.st).toNat)) (m := 0 + (numQ (e.au).toNat).length + (numQ (e.sq).toNat).length + (numQ (e.st).toNat).length) (by first | exact hRl | omega | (simp only [List.length_append, List.length_singleton, List.length_nil]; done) | (simp only [List.length_append, List.length_singleton, List.length_nil]; omega)) (by omega) (n := ((e.seen).length : Int)) (by omega)) rfl <| Nx <| Sq <| Sq <| Rg <| Vs (Fa TF38_2 rfl) <| Vs (Ld TA28 rfl) <| Vs (Ls TK28 rfl) <| Vs (Mv rfl) <| Nx <| Bk <| VCode.loop (α := (Nat) × (Nat) × (List Int)) (fun x_ => match x_ with | (i, q, R) => (191, sl [(1, .ptr 0 (0)), (4, .ptr 6 (0)), (30, .b (slK .i64 (e.seen))), (31, vI .i64 (((e.seen).length : Int))), (32, vI .i64 ((i : Int)))], en [(0, ⟨11, [vI .i64 (e.au), vI .i64 (e.sq), vI .i64 (e.st), .b (slK .i64 (e.seen)), vI .i64 (e.kind), .b (.lit (.string (e.text))), .b (slT 1 stB (e.names)), .b (slT 6 mvB (e.moves)), vI .i64 (e.oa), vI .i64 (e.os), vI .i64 (e.pk)], true⟩), (6, ⟨2, [.ptr 6 (0), .row 190 (q) none], ⟨true, some 81⟩⟩), (190, rowG 5 (R))])) (fun x_ => match x_ with | (i, q, R) => i ≤ e.seen.length ∧ R = hdQ e ++ seenQ (e.seen.take i) ∧ R.length = q ∧ q ≤ 40 + 9 * i) (fun x_ => match x_ with | (i, q, R) => e.seen.length - i) (0, 0 + (numQ (e.au).toNat).length + (numQ (e.sq).toNat).length + (numQ (e.st).toNat).length + (numQ (((e.seen).length : Int)).toNat).length, (((([]) ++ (numQ (e.au).toNat)) ++ (numQ (e.sq).toNat)) ++ (numQ (e.st).toNat)) ++ (numQ (((e.seen).length : Int)).toNat)) ⟨Nat.zero_le _, by simp [hdQ, seenQ], by simp; omega, by omega⟩ (Wr [(190, 24)]) ?_
    rintro ⟨i, q, R⟩ hok
    obtain ⟨hi, hR, hRl, hq⟩ := hok
    change VCode _ _ _ 191 (sl _) (en _) _
    refine Sq <| Rg <| Vs (Bi rfl) <| Nx <| Sq <| Cd rfl (fun hc2 => ?_) (fun hc2 => ?_)
    · replace hc2 := of_decide_eq_true hc2
      obtain ⟨hx1, hx2⟩ := hE.seen _ (getD_mem' (x := 0) (show i < e.seen.length by omega))
      have := numQ_len (n := (e.seen.getD i 0).toNat) (by omega)
      exact Ks <| Tg <| Sq <| Bk <| Sq <| Rg <| Vs (IxN TK28 rfl) <| Vs (Lq TA3 rfl) <| Vs (As rfl) <| Nx <| Rg <| Vs (Mv rfl) <| Gm 196 [6, 190] [] (v := .b (.tup [])) [(0, ⟨11, [vI .i64 (e.au), vI .i64 (e.sq), vI .i64 (e.st), .b (slK .i64 (e.seen)), vI .i64 (e.kind), .b (.lit (.string (e.text))), .b (slT 1 stB (e.names)), .b (slT 6 mvB (e.moves)), vI .i64 (e.oa), vI .i64 (e.os), vI .i64 (e.pk)], true⟩), (6, ⟨2, [.ptr 6 (0), .row 196 (q + (numQ ((e.seen).getD (i) 0).toNat).length) none], ⟨true, some 81⟩⟩), (196, rowG 5 ((R) ++ (numQ ((e.seen).getD (i) 0).toNat)))] rfl (w37U (L := R) (m := q) (by first | exact hRl | omega | (simp only [List.length_append, List.length_singleton, List.length_nil]; done) | (simp only [List.length_append, List.length_singleton, List.length_nil]; omega)) (by omega) (n := (e.seen).getD (i) 0) (by omega)) rfl <| VList.nil <| Ig <| Tg <| Rg <| Vs (Bo rfl adI) <| Vs (Mv rfl) <| VList.nil <| Go (i + 1, q + (numQ ((e.seen).getD (i) 0).toNat).length, (R) ++ (numQ ((e.seen).getD (i) 0).toNat)) ⟨by omega, by rw [app1_take seenQ_app (d := 0) (by omega), hR, List.append_assoc], by rw [List.length_append, hRl], by omega⟩ (Wr [(190, 196)])
    · replace hc2 := of_decide_eq_false hc2
      refine Ke <| Te <| Oe <| Ih <| Tg <| Sq <| ?_
      rw [List.take_of_length_le (by omega)] at hR
      refine Rg <| Vs (Fa TF38_3 rfl) <| Vs (Ld TA3 rfl) <| Gm 194 [6, 190] [] (v := .b (.tup [])) [(0, ⟨11, [vI .i64 (e.au), vI .i64 (e.sq), vI .i64 (e.st), .b (slK .i64 (e.seen)), vI .i64 (e.kind), .b (.lit (.string (e.text))), .b (slT 1 stB (e.names)), .b (slT 6 mvB (e.moves)), vI .i64 (e.oa), vI .i64 (e.os), vI .i64 (e.pk)], true⟩), (6, ⟨2, [.ptr 6 (0), .row 194 (q + (numQ (e.kind).toNat).length) none], ⟨true, some 81⟩⟩), (194, rowG 5 ((R) ++ (numQ (e.kind).toNat)))] rfl (w37U (L := R) (m := q) (by first | exact hRl | omega | (simp only [List.length_append, List.length_singleton, List.length_nil]; done) | (simp only [List.length_append, List.length_singleton, List.length_nil]; omega)) (by omega) (n := e.kind) (by omega)) rfl <| Nx <| Sq <| Rg <| Vs (Fa TF38_4 rfl) <| Vs (Ld TA9 rfl) <| Gm 198 [6, 194] [] (v := .b (.tup [])) [(0, ⟨11, [vI .i64 (e.au), vI .i64 (e.sq), vI .i64 (e.st), .b (slK .i64 (e.seen)), vI .i64 (e.kind), .b (.lit (.string (e.text))), .b (slT 1 stB (e.names)), .b (slT 6 mvB (e.moves)), vI .i64 (e.oa), vI .i64 (e.os), vI .i64 (e.pk)], true⟩), (6, ⟨2, [.ptr 6 (0), .row 198 (q + (numQ (e.kind).toNat).length + (txtQ (e.text)).length) none], ⟨true, some 81⟩⟩), (198, rowG 5 (((R) ++ (numQ (e.kind).toNat)) ++ txtQ (e.text)))] rfl (w38 (L := (R) ++ (numQ (e.kind).toNat)) (m := q + (numQ (e.kind).toNat).length) (by first | exact hRl | omega | (simp only [List.length_append, List.length_singleton, List.length_nil]; done) | (simp only [List.length_append, List.length_singleton, List.length_nil]; omega)) (by omega) (str := e.text) (by omega)) rfl <| Nx <| Sq <| Rg <| Vs (Fa TF38_5 rfl) <| Vs (Ld TA35 rfl) <| Vs (Lst stB_len TU35 rfl) <| Gm 203 [6, 198] [] (v := .b (.tup [])) [(0, ⟨11, [vI .i64 (e.au), vI .i64 (e.sq), vI .i64 (e.st), .b (slK .i64 (e.seen)), vI .i64 (e.kind), .b (.lit (.string (e.text))), .b (slT 1 stB (e.names)), .b (slT 6 mvB (e.moves)), vI .i64 (e.oa), vI .i64 (e.os), vI .i64 (e.pk)], true⟩), (6, ⟨2, [.ptr 6 (0), .row 203 (q + (numQ (e.kind).toNat).length + (txtQ (e.text)).length + (numQ (((e.names).length : Int)).toNat).length) none], ⟨true, some 81⟩⟩), (203, rowG 5 ((((R) ++ (numQ (e.kind).toNat)) ++ txtQ (e.text)) ++ (numQ (((e.names).length : Int)).toNat)))] rfl (w37U (L := ((R) ++ (numQ (e.kind).toNat)) ++ txtQ (e.text)) (m := q + (numQ (e.kind).toNat).length + (txtQ (e.text)).length) (by first | exact hRl | omega | (simp only [List.length_append, List.length_singleton, List.length_nil]; done) | (simp only [List.length_append, List.length_singleton, List.length_nil]; omega)) (by omega) (n := ((e.names).length : Int)) (by omega)) rfl <| Nx <| Sq <| Sq <| Rg <| Vs (Fa TF38_5 rfl) <| Vs (Ld TA35 rfl) <| Vs (Lst stB_len TU35 rfl) <| Vs (Mv rfl) <| Nx <| Bk <| VCode.loop (α := (Nat) × (Nat) × (List Int)) (fun x_ => match x_ with | (i, q, R) => (591, sl [(1, .ptr 0 (0)), (4, .ptr 6 (0)), (50, .b (slT 1 stB (e.names))), (51, vI .i64 (((e.names).length : Int))), (52, vI .i64 ((i : Int)))], en [(0, ⟨11, [vI .i64 (e.au), vI .i64 (e.sq), vI .i64 (e.st), .b (slK .i64 (e.seen)), vI .i64 (e.kind), .b (.lit (.string (e.text))), .b (slT 1 stB (e.names)), .b (slT 6 mvB (e.moves)), vI .i64 (e.oa), vI .i64 (e.os), vI .i64 (e.pk)], true⟩), (6, ⟨2, [.ptr 6 (0), .row 590 (q) none], ⟨true, some 81⟩⟩), (590, rowG 5 (R))])) (fun x_ => match x_ with | (i, q, R) => i ≤ e.names.length ∧ R = (hdQ e ++ seenQ e.seen ++ numQ e.kind.toNat ++ txtQ e.text ++ numQ e.names.length) ++ namesQ (e.names.take i) ∧ R.length = q ∧ q ≤ 500 + 209 * i) (fun x_ => match x_ with | (i, q, R) => e.names.length - i) (0, q + (numQ (e.kind).toNat).length + (txtQ (e.text)).length + (numQ (((e.names).length : Int)).toNat).length, (((R) ++ (numQ (e.kind).toNat)) ++ txtQ (e.text)) ++ (numQ (((e.names).length : Int)).toNat)) ⟨Nat.zero_le _, by rw [hR]; simp [namesQ, List.append_assoc], by simp; omega, by omega⟩ (Wr [(590, 203)]) ?_
      rintro ⟨i, q, R⟩ hok
      obtain ⟨hi, hR, hRl, hq⟩ := hok
      change VCode _ _ _ 591 (sl _) (en _) _
      refine Sq <| Rg <| Vs (Bi rfl) <| Nx <| Sq <| Cd rfl (fun hc3 => ?_) (fun hc3 => ?_)
      · replace hc3 := of_decide_eq_true hc3
        refine Ks <| Tg <| Sq <| Bk <| Sq <| ?_
        have hnm := hE.names _ (getD_mem' (x := ByteArray.empty) (show i < e.names.length by omega))
        have htm := txtQ_len hnm
        exact Rg <| Vs (IxT stB_len TU35 TS9 rfl (by first | omega | (simp; done) | (simp; omega)) (gd (d := (ByteArray.empty)) (j := i) (by first | omega | (simp; done) | (simp; omega))) rfl) <| Vs (Lq TA9 rfl) <| Vs (As rfl) <| Nx <| Rg <| Vs (Mv rfl) <| Gm 596 [6, 590] [] (v := .b (.tup [])) [(0, ⟨11, [vI .i64 (e.au), vI .i64 (e.sq), vI .i64 (e.st), .b (slK .i64 (e.seen)), vI .i64 (e.kind), .b (.lit (.string (e.text))), .b (slT 1 stB (e.names)), .b (slT 6 mvB (e.moves)), vI .i64 (e.oa), vI .i64 (e.os), vI .i64 (e.pk)], true⟩), (6, ⟨2, [.ptr 6 (0), .row 596 (q + (txtQ ((e.names).getD (i) (ByteArray.empty))).length) none], ⟨true, some 81⟩⟩), (596, rowG 5 ((R) ++ txtQ ((e.names).getD (i) (ByteArray.empty))))] rfl (w38 (L := R) (m := q) (by first | exact hRl | omega | (simp only [List.length_append, List.length_singleton, List.length_nil]; done) | (simp only [List.length_append, List.length_singleton, List.length_nil]; omega)) (by omega) (str := (e.names).getD (i) (ByteArray.empty)) (by omega)) rfl <| VList.nil <| Ig <| Tg <| Rg <| Vs (Bo rfl adI) <| Vs (Mv rfl) <| VList.nil <| Go (i + 1, q + (txtQ ((e.names).getD (i) (ByteArray.empty))).length, (R) ++ txtQ ((e.names).getD (i) (ByteArray.empty))) ⟨by omega, by rw [app1_take namesQ_app (d := ByteArray.empty) (by omega), hR, List.append_assoc], by rw [List.length_append, hRl], by omega⟩ (Wr [(590, 596)])
      · replace hc3 := of_decide_eq_false hc3
        refine Ke <| Te <| Oe <| Ih <| Tg <| Sq <| ?_
        rw [List.take_of_length_le (by omega)] at hR
        refine Rg <| Vs (Fa TF38_6 rfl) <| Vs (Ld TA36 rfl) <| Vs (Lst mvB_len TU36 rfl) <| Gm 595 [6, 590] [] (v := .b (.tup [])) [(0, ⟨11, [vI .i64 (e.au), vI .i64 (e.sq), vI .i64 (e.st), .b (slK .i64 (e.seen)), vI .i64 (e.kind), .b (.lit (.string (e.text))), .b (slT 1 stB (e.names)), .b (slT 6 mvB (e.moves)), vI .i64 (e.oa), vI .i64 (e.os), vI .i64 (e.pk)], true⟩), (6, ⟨2, [.ptr 6 (0), .row 595 (q + (numQ (((e.moves).length : Int)).toNat).length) none], ⟨true, some 81⟩⟩), (595, rowG 5 ((R) ++ (numQ (((e.moves).length : Int)).toNat)))] rfl (w37U (L := R) (m := q) (by first | exact hRl | omega | (simp only [List.length_append, List.length_singleton, List.length_nil]; done) | (simp only [List.length_append, List.length_singleton, List.length_nil]; omega)) (by omega) (n := ((e.moves).length : Int)) (by omega)) rfl <| Nx <| Sq <| Sq <| Rg <| Vs (Fa TF38_6 rfl) <| Vs (Ld TA36 rfl) <| Vs (Lst mvB_len TU36 rfl) <| Vs (Mv rfl) <| Nx <| Bk <| VCode.loop (α := (Nat) × (Nat) × (List Int)) (fun x_ => match x_ with | (i, q, R) => (991, sl [(1, .ptr 0 (0)), (4, .ptr 6 (0)), (64, .b (slT 6 mvB (e.moves))), (65, vI .i64 (((e.moves).length : Int))), (66, vI .i64 ((i : Int)))], en [(0, ⟨11, [vI .i64 (e.au), vI .i64 (e.sq), vI .i64 (e.st), .b (slK .i64 (e.seen)), vI .i64 (e.kind), .b (.lit (.string (e.text))), .b (slT 1 stB (e.names)), .b (slT 6 mvB (e.moves)), vI .i64 (e.oa), vI .i64 (e.os), vI .i64 (e.pk)], true⟩), (6, ⟨2, [.ptr 6 (0), .row 990 (q) none], ⟨true, some 81⟩⟩), (990, rowG 5 (R))])) (fun x_ => match x_ with | (i, q, R) => i ≤ e.moves.length ∧ R = ((hdQ e ++ seenQ e.seen ++ numQ e.kind.toNat ++ txtQ e.text ++ numQ e.names.length) ++ namesQ e.names ++ numQ e.moves.length) ++ movesQ (e.moves.take i) ∧ R.length = q ∧ q ≤ 1400 + 165 * i) (fun x_ => match x_ with | (i, q, R) => e.moves.length - i) (0, q + (numQ (((e.moves).length : Int)).toNat).length, (R) ++ (numQ (((e.moves).length : Int)).toNat)) ⟨Nat.zero_le _, by rw [hR]; simp [movesQ, List.append_assoc], by simp; omega, by omega⟩ (Wr [(990, 595)]) ?_
        rintro ⟨i, q, R⟩ hok
        obtain ⟨hi, hR, hRl, hq⟩ := hok
        change VCode _ _ _ 991 (sl _) (en _) _
        refine Sq <| Rg <| Vs (Bi rfl) <| Nx <| Sq <| Cd rfl (fun hc4 => ?_) (fun hc4 => ?_)
        · replace hc4 := of_decide_eq_true hc4
          refine Ks <| Tg <| Sq <| Bk <| Sq <| ?_
          have hm := hE.moves _ (getD_mem' (x := mv0) (show i < e.moves.length by omega))
          have hmm := mvQ_len hm
          exact Rg <| Vs (IxT mvB_len TU36 TS61 rfl (by first | omega | (simp; done) | (simp; omega)) (gd (d := mv0) (j := i) (by first | omega | (simp; done) | (simp; omega))) rfl) <| Vs (LqS TA61 TS61 rfl) <| Vs (Al 994 TZ61 rfl) <| Vs (StS TS61 rfl) <| Nx <| Rg <| Vs (LdS TA61 TS61 rfl) <| Gm 997 [6, 990] [] (v := .b (.tup [])) [(0, ⟨11, [vI .i64 (e.au), vI .i64 (e.sq), vI .i64 (e.st), .b (slK .i64 (e.seen)), vI .i64 (e.kind), .b (.lit (.string (e.text))), .b (slT 1 stB (e.names)), .b (slT 6 mvB (e.moves)), vI .i64 (e.oa), vI .i64 (e.os), vI .i64 (e.pk)], true⟩), (6, ⟨2, [.ptr 6 (0), .row 997 (q + (mvQ ((e.moves).getD (i) mv0)).length) none], ⟨true, some 81⟩⟩), (994, ⟨6, [vI .i64 (((e.moves).getD (i) mv0).step), vI .i64 (((e.moves).getD (i) mv0).coord), vB (((e.moves).getD (i) mv0).nn), vS (((e.moves).getD (i) mv0).nm), vB (((e.moves).getD (i) mv0).dn), vS (((e.moves).getD (i) mv0).dm)], true⟩), (997, rowG 5 ((R) ++ mvQ ((e.moves).getD (i) mv0)))] rfl (w39 (L := R) (k := q) (by first | exact hRl | omega | (simp only [List.length_append, List.length_singleton, List.length_nil]; done) | (simp only [List.length_append, List.length_singleton, List.length_nil]; omega)) (by omega) (m := (e.moves).getD (i) mv0) (by have := hm.step; omega) (by have := hm.coord; omega) (h.moves.1 _ (getD_mem' (by omega))) (hm.nm) (hm.dm)) rfl <| VList.nil <| Ig <| Tg <| Rg <| Vs (Bo rfl adI) <| Vs (Mv rfl) <| VList.nil <| Go (i + 1, q + (mvQ ((e.moves).getD (i) mv0)).length, (R) ++ mvQ ((e.moves).getD (i) mv0)) ⟨by omega, by rw [app1_take movesQ_app (d := mv0) (by omega), hR, List.append_assoc], by rw [List.length_append, hRl], by omega⟩ (Wr [(990, 997)])
        · replace hc4 := of_decide_eq_false hc4
          refine Ke <| Te <| Oe <| Ih <| Tg <| Sq <| ?_
          rw [List.take_of_length_le (by omega)] at hR
          have h1n := numQ_len1 e.pk.toNat
          have hfin : R ++ numQ e.oa.toNat ++ numQ e.os.toNat ++ numQ e.pk.toNat = formE e := by rw [hR]; simp [formE, List.append_assoc]
          exact Rg <| Vs (Fa TF38_7 rfl) <| Vs (Fa TF34_0 rfl) <| Vs (Ld TA3 rfl) <| Gm 995 [6, 990] [] (v := .b (.tup [])) [(0, ⟨11, [vI .i64 (e.au), vI .i64 (e.sq), vI .i64 (e.st), .b (slK .i64 (e.seen)), vI .i64 (e.kind), .b (.lit (.string (e.text))), .b (slT 1 stB (e.names)), .b (slT 6 mvB (e.moves)), vI .i64 (e.oa), vI .i64 (e.os), vI .i64 (e.pk)], true⟩), (6, ⟨2, [.ptr 6 (0), .row 995 (q + (numQ (e.oa).toNat).length) none], ⟨true, some 81⟩⟩), (995, rowG 5 ((R) ++ (numQ (e.oa).toNat)))] rfl (w37U (L := R) (m := q) (by first | exact hRl | omega | (simp only [List.length_append, List.length_singleton, List.length_nil]; done) | (simp only [List.length_append, List.length_singleton, List.length_nil]; omega)) (by omega) (n := e.oa) (by omega)) rfl <| Nx <| Sq <| Rg <| Vs (Fa TF38_7 rfl) <| Vs (Fa TF34_1 rfl) <| Vs (Ld TA3 rfl) <| Gm 1000 [6, 995] [] (v := .b (.tup [])) [(0, ⟨11, [vI .i64 (e.au), vI .i64 (e.sq), vI .i64 (e.st), .b (slK .i64 (e.seen)), vI .i64 (e.kind), .b (.lit (.string (e.text))), .b (slT 1 stB (e.names)), .b (slT 6 mvB (e.moves)), vI .i64 (e.oa), vI .i64 (e.os), vI .i64 (e.pk)], true⟩), (6, ⟨2, [.ptr 6 (0), .row 1000 (q + (numQ (e.oa).toNat).length + (numQ (e.os).toNat).length) none], ⟨true, some 81⟩⟩), (1000, rowG 5 (((R) ++ (numQ (e.oa).toNat)) ++ (numQ (e.os).toNat)))] rfl (w37U (L := (R) ++ (numQ (e.oa).toNat)) (m := q + (numQ (e.oa).toNat).length) (by first | exact hRl | omega | (simp only [List.length_append, List.length_singleton, List.length_nil]; done) | (simp only [List.length_append, List.length_singleton, List.length_nil]; omega)) (by omega) (n := e.os) (by omega)) rfl <| Nx <| Sq <| Rg <| Vs (Fa TF38_8 rfl) <| Vs (Ld TA3 rfl) <| Gm 1004 [6, 1000] [] (v := .b (.tup [])) [(0, ⟨11, [vI .i64 (e.au), vI .i64 (e.sq), vI .i64 (e.st), .b (slK .i64 (e.seen)), vI .i64 (e.kind), .b (.lit (.string (e.text))), .b (slT 1 stB (e.names)), .b (slT 6 mvB (e.moves)), vI .i64 (e.oa), vI .i64 (e.os), vI .i64 (e.pk)], true⟩), (6, ⟨2, [.ptr 6 (0), .row 1004 (q + (numQ (e.oa).toNat).length + (numQ (e.os).toNat).length + (numQ (e.pk).toNat).length) none], ⟨true, some 81⟩⟩), (1004, rowG 5 ((((R) ++ (numQ (e.oa).toNat)) ++ (numQ (e.os).toNat)) ++ (numQ (e.pk).toNat)))] rfl (w37U (L := ((R) ++ (numQ (e.oa).toNat)) ++ (numQ (e.os).toNat)) (m := q + (numQ (e.oa).toNat).length + (numQ (e.os).toNat).length) (by first | exact hRl | omega | (simp only [List.length_append, List.length_singleton, List.length_nil]; done) | (simp only [List.length_append, List.length_singleton, List.length_nil]; omega)) (by omega) (n := e.pk) (by omega)) rfl <| Nx <| Sq <| Rg <| Vs (Fa TF81_0 rfl) <| Gm 1007 [6, 1004] [] (v := .b (.lit (.string (bytesOf ((((R) ++ (numQ (e.oa).toNat)) ++ (numQ (e.os).toNat)) ++ (numQ (e.pk).toNat)))))) [(0, ⟨11, [vI .i64 (e.au), vI .i64 (e.sq), vI .i64 (e.st), .b (slK .i64 (e.seen)), vI .i64 (e.kind), .b (.lit (.string (e.text))), .b (slT 1 stB (e.names)), .b (slT 6 mvB (e.moves)), vI .i64 (e.oa), vI .i64 (e.os), vI .i64 (e.pk)], true⟩), (6, ⟨2, [.ptr 6 (0), .row 1004 (q + (numQ (e.oa).toNat).length + (numQ (e.os).toNat).length + (numQ (e.pk).toNat).length) none], ⟨true, some 81⟩⟩)] rfl (w40 (L := (((R) ++ (numQ (e.oa).toNat)) ++ (numQ (e.os).toNat)) ++ (numQ (e.pk).toNat)) (m := q + (numQ (e.oa).toNat).length + (numQ (e.os).toNat).length + (numQ (e.pk).toNat).length) (by first | exact hRl | omega | (simp only [List.length_append, List.length_singleton, List.length_nil]; done) | (simp only [List.length_append, List.length_singleton, List.length_nil]; omega)) (by omega) (by omega) (by rw [hfin]; exact formE_by e)) rfl <| Vs (As rfl) <| Vs (AgT 1009 (B := 5) rfl) <| Nx <| Re <| Fi (l := [.lit (.string (bytesOf ((((R) ++ (numQ (e.oa).toNat)) ++ (numQ (e.os).toNat)) ++ (numQ (e.pk).toNat)))), numB .i64 (0)]) (Rc (resVar_tmp rfl rfl) (Rc (resVar_tmp rfl rfl) Rn)) (by rw [hc1]; first | rfl | (rw [← hfin]; rfl))
end Go.VL

/- strings.Repeat at this program: the kit's contract over the library's lay-out, brought to values. -/
set_option linter.unusedVariables false
set_option linter.unusedSimpArgs false
namespace Go.Proofs
open Go.Shelf
def TryRep_ren : Go.Shelf.Ren := ⟨fun | 105 => /-f-/ 94 | 212 => /-f-/ 106 | 99 => /-f-/ 107 | 165 => /-f-/ 108 | 166 => /-f-/ 70 | 170 => /-f-/ 109 | 169 => /-f-/ 40 | 263 => /-f-/ 119 | 264 => /-f-/ 120 | 206 => /-f-/ 121 | 240 => /-f-/ 93 | 241 => /-f-/ 122 | 276 => /-f-/ 105 | 277 => /-f-/ 125 | n => n, fun | 9 => /-t-/ 9 | 3 => /-t-/ 3 | 4 => /-t-/ 4 | 20 => /-t-/ 20 | 0 => /-t-/ 0 | 46 => /-t-/ 71 | 109 => /-t-/ 142 | 5 => /-t-/ 5 | 72 => /-t-/ 79 | 76 => /-t-/ 113 | 51 => /-t-/ 53 | 146 => /-t-/ 151 | 53 => /-t-/ 22 | 148 => /-t-/ 153 | 70 => /-t-/ 77 | 37 => /-t-/ 23 | 75 => /-t-/ 111 | 127 => /-t-/ 116 | 164 => /-t-/ 140 | 80 => /-t-/ 84 | n => n, fun | n => n⟩
theorem TryRep : Go.Proofs.Lays.n105 Try.prog TryRep_ren := {
  mixed := by kernel_rfl,
  f99 := Try.func107.trans (congrArg some (by kernel_rfl)),
  f105 := Try.func94.trans (congrArg some (by kernel_rfl)),
  f165 := Try.func108.trans (congrArg some (by kernel_rfl)),
  f166 := Try.func70.trans (congrArg some (by kernel_rfl)),
  f169 := Try.func40.trans (congrArg some (by kernel_rfl)),
  f170 := Try.func109.trans (congrArg some (by kernel_rfl)),
  f206 := Try.func121.trans (congrArg some (by kernel_rfl)),
  f212 := Try.func106.trans (congrArg some (by kernel_rfl)),
  f240 := Try.func93.trans (congrArg some (by kernel_rfl)),
  f241 := Try.func122.trans (congrArg some (by kernel_rfl)),
  f263 := Try.func119.trans (congrArg some (by kernel_rfl)),
  f264 := Try.func120.trans (congrArg some (by kernel_rfl)),
  f276 := Try.func105.trans (congrArg some (by kernel_rfl)),
  f277 := Try.func125.trans (congrArg some (by kernel_rfl)),
  t0 := Try.underlying0,
  a0 := Try.isAgg0,
  z0 := Try.sizeOf0,
  v0 := Try.zeroValue0,
  t3 := Try.underlying3,
  a3 := Try.isAgg3,
  z3 := Try.sizeOf3,
  v3 := Try.zeroValue3,
  t4 := Try.underlying4,
  a4 := Try.isAgg4,
  z4 := Try.sizeOf4,
  v4 := Try.zeroValue4,
  t5 := Try.underlying5,
  a5 := Try.isAgg5,
  z5 := Try.sizeOf5,
  v5 := Try.zeroValue5,
  t9 := Try.underlying9,
  a9 := Try.isAgg9,
  z9 := Try.sizeOf9,
  v9 := Try.zeroValue9,
  t20 := Try.underlying20,
  a20 := Try.isAgg20,
  z20 := Try.sizeOf20,
  v20 := Try.zeroValue20,
  t37 := Try.underlying23,
  a37 := Try.isAgg23,
  z37 := Try.sizeOf23,
  v37 := Try.zeroValue23,
  t46 := Try.underlying71,
  a46 := Try.isAgg71,
  z46 := Try.sizeOf71,
  v46 := Try.zeroValue71,
  t51 := Try.underlying53,
  a51 := Try.isAgg53,
  z51 := Try.sizeOf53,
  v51 := Try.zeroValue53,
  t53 := Try.underlying22,
  a53 := Try.isAgg22,
  z53 := Try.sizeOf22,
  v53 := Try.zeroValue22,
  t70 := Try.underlying77,
  a70 := Try.isAgg77,
  z70 := Try.sizeOf77,
  v70 := Try.zeroValue77,
  t72 := Try.underlying79,
  a72 := Try.isAgg79,
  z72 := Try.sizeOf79,
  v72 := Try.zeroValue79,
  t75 := Try.underlying111,
  a75 := Try.isAgg111,
  z75 := Try.sizeOf111,
  v75 := Try.zeroValue111,
  t76 := Try.underlying113,
  a76 := Try.isAgg113,
  z76 := Try.sizeOf113,
  v76 := Try.zeroValue113,
  t109 := Try.underlying142,
  a109 := Try.isAgg142,
  z109 := Try.sizeOf142,
  v109 := Try.zeroValue142,
  t127 := Try.underlying116,
  a127 := Try.isAgg116,
  z127 := Try.sizeOf116,
  v127 := Try.zeroValue116,
  t146 := Try.underlying151,
  a146 := Try.isAgg151,
  z146 := Try.sizeOf151,
  v146 := Try.zeroValue151,
  t148 := Try.underlying153,
  a148 := Try.isAgg153,
  z148 := Try.sizeOf153,
  v148 := Try.zeroValue153,
  t164 := Try.underlying140,
  a164 := Try.isAgg140,
  z164 := Try.sizeOf140,
  v164 := Try.zeroValue140 }
end Go.Proofs
namespace Go.VL
open Go.Proofs
theorem TryRepX : Go.Proofs.Builder.Extra Try.prog TryRep_ren := {
  sizeBuilder := by kernel_rfl,
  liesBuilder := by kernel_rfl,
  t5 := Try.underlying5,
  a5 := Try.isAgg5,
  z5 := Try.sizeOf5,
  v5 := Try.zeroValue5,
  infoByte := by kernel_rfl,
  cellsByte := by kernel_rfl,
  sizeByte := by kernel_rfl,
  neB5 := by decide }
theorem repL1 (x : UInt8) : ∀ n, Lib.repeatL [x] n = List.replicate n x
  | 0 => rfl
  | n + 1 => by rw [Lib.repeatL, repL1 x n]; rfl
theorem m94 {n : Int} (h0 : 0 ≤ n) (h1 : n ≤ 1000) : VF Try.prog 94 [.lit (.string ((⟨#[0]⟩ : ByteArray))), numB .i64 n] (.lit (.string (bytesOf (List.replicate n.toNat 0)))) := by
  refine ⟨⟨_, _, Try.func94, rfl, by kernel_rfl⟩, fun w Q xs hs ha => ?_⟩
  obtain ⟨u0, g0, r0⟩ := ha 0 _ rfl
  obtain ⟨u1, g1, r1⟩ := ha 1 _ rfl
  cases r0
  cases r1
  have e : xs = #[.string (⟨#[0]⟩ : ByteArray), .int .i64 n] := by
    apply Array.ext_getElem?
    intro i
    match i with
    | 0 => exact g0
    | 1 => exact g1
    | i + 2 => rw [Array.getElem?_eq_none (by rw [hs]; simp), Array.getElem?_eq_none (by simp)]
  subst e
  have k := Go.Proofs.Any.strings_Repeat TryRep TryRepX ⟨#[0]⟩ n.toNat w (by omega) (by show 1 * n.toNat ≤ _; omega)
  rw [show ((n.toNat : Nat) : Int) = n by omega] at k
  refine k.mono fun e w' ⟨he, hb⟩ => ⟨_, he, ?_, ⟨hb.os, hb.tape, hb.output, hb.size, hb.block⟩⟩
  have hl : Lib.repeatL (⟨#[0]⟩ : ByteArray).data.toList n.toNat = (List.replicate n.toNat (0 : Int)).map byteOf := by
    rw [List.map_replicate]; exact repL1 0 n.toNat
  rw [hl]
  exact RepB.lit _ rfl
end Go.VL

/- Walks over the Go functions, printed by a program of this session over the kit's print, and by hand. -/
set_option linter.unusedVariables false
set_option linter.unusedSimpArgs false
set_option maxRecDepth 100000
namespace Go.VL
open Go.Proofs
theorem w44 {r : Rdr} (c : Int) : VG Try.prog 44 [.ptr 0 (0), vI .i64 (c)] [⟨2, [.b (.lit (.string (bytesOf (r).s))), vI .i64 ((r).e)], true⟩] (.b (.tup [])) [some (⟨2, [.b (.lit (.string (bytesOf (r.fail c).s))), vI .i64 ((r.fail c).e)], true⟩)] := by
  refine VGp_of P_mixed Try.func44 rfl rfl (by kernel_rfl) (by simp) rfl <| Sq <| Rg <| Vs (Mv rfl) <| Vs (Nk rfl) <| Vs (Fa TF87_1 rfl) <| Vs (Ld TA29 rfl) <| Vs (Bi rfl) <| Nx <| Cd rfl (fun hc1 => ?_) (fun hc1 => ?_)
  · replace hc1 := eq_of_beq hc1
    exact Rg <| Vs (Mv rfl) <| Vs (Mv rfl) <| Vs (Mv rfl) <| Vs (Nk rfl) <| Vs (Fa TF87_1 rfl) <| Vs (St TS29 rfl) <| Vs (Nk rfl) <| Vs (Fa TF87_0 rfl) <| Vs (St TS9 rfl) <| VList.nil <| Gg (L1' := [some (⟨2, [.b (.lit (.string ((⟨#[]⟩ : ByteArray)))), vI .i64 (c)], true⟩)]) [0] .nil (.vals _ [] rfl rfl) rfl (by first | (rw [Rdr.fail, if_pos hc1]; rfl) | rw [Rdr.fail, if_neg hc1])
  · replace hc1 := ne_of_beq_false hc1
    exact Ks <| Gg (L1' := [some (⟨2, [.b (.lit (.string (bytesOf (r).s))), vI .i64 ((r).e)], true⟩)]) [0] .nil (.vals _ [] rfl rfl) rfl (by first | (rw [Rdr.fail, if_pos hc1]; rfl) | rw [Rdr.fail, if_neg hc1])
theorem w72 {r : Rdr} {n : Int} (h0 : 0 ≤ n) (h1 : n ≤ 1000) : VG Try.prog 72 [.ptr 0 (0), vI .i64 (n)] [⟨2, [.b (.lit (.string (bytesOf (r).s))), vI .i64 ((r).e)], true⟩] (.b (.lit (.string (bytesOf (r.takeS n))))) [some (⟨2, [.b (.lit (.string (bytesOf (r.takeR n).s))), vI .i64 ((r.takeR n).e)], true⟩)] := by
  refine VGp_of P_mixed Try.func72 rfl rfl (by kernel_rfl) (by simp) rfl <| Sq <| Rg <| Vs (As rfl) <| Nx <| Sq <| Sq <| Rg <| Vs (Mv rfl) <| Vs (Nk rfl) <| Vs (Fa TF87_0 rfl) <| Vs (Ld TA9 rfl) <| Vs (Ki (show ((bytesOf (r).s).size : Int) = (r.s.length : Int) from by rw [bytesOf_size]) (Lt TU9 rfl)) <| Vs (Mv rfl) <| Vs (Bi rfl) <| Nx <| Cd rfl (fun hc1 => ?_) (fun hc1 => ?_)
  · replace hc1 := of_decide_eq_true hc1
    exact Sq <| Rg <| Vs (Mv rfl) <| Gm 10 [0] [] (v := .b (.tup [])) [(0, ⟨2, [.b (.lit (.string (bytesOf ((r).fail 9).s))), vI .i64 (((r).fail 9).e)], true⟩)] rfl (w44 (r := r) (9)) rfl <| Nx <| Sq <| Rg <| Vs (Mv rfl) <| Vs (Cf rfl rfl (m94 (n := n) (by omega) (by omega)) rfl) <| Vs (As rfl) <| Nx <| Re <| Tr <| Gg (L1' := [some (⟨2, [.b (.lit (.string (bytesOf ((r).fail 9).s))), vI .i64 (((r).fail 9).e)], true⟩)]) [0] (.val _ _ _ _ _ rfl rfl rfl .nil) (.one _) (by rw [Rdr.takeS, if_pos hc1]) (by rw [Rdr.takeR, if_pos hc1])
  · replace hc1 := of_decide_eq_false hc1
    exact Ks <| Tg <| Sq <| Rg <| Vs (Mv rfl) <| Vs (Nk rfl) <| Vs (Fa TF87_0 rfl) <| Vs (Ld TA9 rfl) <| Vs (Mv rfl) <| Vs (Kt (show (bytesOf (r).s).extract 0 (n).toNat = bytesOf (r.s.take n.toNat) from bytesOf_take) (Tt TU9 rfl (h1 := (by rw [bytesOf_size]; omega)))) <| Vs (As rfl) <| Nx <| Sq <| Rg <| Vs (Mv rfl) <| Vs (Mv rfl) <| Vs (Nk rfl) <| Vs (Fa TF87_0 rfl) <| Vs (Ld TA9 rfl) <| Vs (Mv rfl) <| Vs (Kt (show (bytesOf (r).s).extract (n).toNat (bytesOf (r).s).size = bytesOf (r.s.drop n.toNat) from bytesOf_drop) (Tf TU9 rfl (h1 := (by rw [bytesOf_size]; omega)))) <| Vs (Nk rfl) <| Vs (Fa TF87_0 rfl) <| Vs (St TS9 rfl) <| Nx <| Sq <| Rg <| Vs (Mv rfl) <| Vs (As rfl) <| Nx <| Re <| Gg (L1' := [some (⟨2, [.b (.lit (.string (bytesOf (r.s.drop n.toNat)))), vI .i64 ((r).e)], true⟩)]) [0] (.val _ _ _ _ _ rfl rfl rfl .nil) (.one _) (by rw [Rdr.takeS, if_neg hc1]) (by rw [Rdr.takeR, if_neg hc1])
theorem w41 {r : Rdr} {m : Int} : VG Try.prog 41 [.ptr 0 (0), vI .i64 (m)] [⟨2, [.b (.lit (.string (bytesOf (r).s))), vI .i64 ((r).e)], true⟩] (vI .i64 (r.num m)) [some (⟨2, [.b (.lit (.string (bytesOf (r.numR m).s))), vI .i64 ((r.numR m).e)], true⟩)] := by
  refine VGp_of P_mixed Try.func41 rfl rfl (by kernel_rfl) (by simp) rfl <| Sq <| Rg <| Vs (As rfl) <| Nx <| Sq <| Rg <| Vs (As rfl) <| Vs (As rfl) <| Nx <| VCode.join (α := (Int) × (Rdr)) (fun x_ => match x_ with | (n, R) => (1, sl [(0, .ptr 0 (0)), (1, vI .i64 (m)), (5, vI .i64 (n))], en [(0, ⟨2, [.b (.lit (.string (bytesOf (R).s))), vI .i64 ((R).e)], true⟩)])) (fun x_ => match x_ with | (n, R) => nlp 5 r 0 0 = (n, R)) ?_ ?_
  · skip
    refine Bk <| VCode.loop (α := (Int) × (Nat) × (Rdr)) (fun x_ => match x_ with | (n, i, R) => (1, sl [(0, .ptr 0 (0)), (1, vI .i64 (m)), (5, vI .i64 (n)), (6, vI .i64 ((i : Int)))], en [(0, ⟨2, [.b (.lit (.string (bytesOf (R).s))), vI .i64 ((R).e)], true⟩)])) (fun x_ => match x_ with | (n, i, R) => i ≤ 4 ∧ 0 ≤ n ∧ n < 128 ^ i ∧ nlp (5 - i) R n i = nlp 5 r 0 0) (fun x_ => match x_ with | (n, i, R) => 5 - i) (0, 0, r) ⟨by decide, by decide, by decide, rfl⟩ Wk ?_
    rintro ⟨n, i, R⟩ hok
    obtain ⟨hi, h0, h1, hN⟩ := hok
    have hx := nx_rng (r := R) h0 h1
    change VCode _ _ _ 1 (sl _) (en _) _
    refine Bk <| Sq <| Rg <| Vs (Mv rfl) <| Gm 2 [0] [] (v := .b (.lit (.string (bytesOf ((R).takeS 1))))) [(0, ⟨2, [.b (.lit (.string (bytesOf ((R).takeR 1).s))), vI .i64 (((R).takeR 1).e)], true⟩)] rfl (w72 (r := R) (n := 1) (by omega) (by omega)) rfl <| Vs (Ki (show at8 (bytesOf ((R).takeS 1)) (0) = (cB R) from at8_take (by decide)) (TiN (q := 0) TU9 rfl (h1 := (by rw [takeS_size (by decide)]; decide)))) <| Vs (Cv TU5 TU3 rfl (wrI (h := (by have := cB_rng R; omega)))) <| Vs (As rfl) <| Nx <| Sq <| Rg <| Vs (Mv rfl) <| Vs (Mv rfl) <| Vs (Bo (c := .int .i64 ((cB R % 128))) rfl (bop_and127 (cB_rng R))) <| Vs (Mv rfl) <| Vs (Bo rfl muI) <| Vs (Bo (c := .int .i64 ((cB R % 128 * 128 ^ i))) rfl (bop_shl7 (by omega) hi)) <| Vs (Bo (c := .int .i64 ((nxB R n i))) rfl (bop_or7 (by omega) hi h0 h1)) <| Vs (As rfl) <| Nx <| Sq <| Rg <| Vs (Mv rfl) <| Vs (Bo rfl adI) <| Vs (As rfl) <| Nx <| Sq <| Sq <| Rg <| Vs (Mv rfl) <| Vs (Bi rfl) <| Nx <| Cd rfl (fun hc1 => ?_) (fun hc1 => ?_)
    · replace hc1 := of_decide_eq_true hc1
      refine Sq <| Sq <| Rg <| Vs (Mv rfl) <| Vs (Bi rfl) <| Vs (Mv rfl) <| Sp 25 rfl (fun hc2 => ?_) (fun hc2 => ?_)
      · replace hc2 := of_decide_eq_true hc2
        exact Sk rfl <| Sk rfl <| Sk rfl <| Sk rfl <| Sk rfl <| Sk rfl <| Vs (Pk rfl) <| Nx <| Cy rfl <| Rg <| Vs (Mv rfl) <| Gm 30 [0] [] (v := .b (.tup [])) [(0, ⟨2, [.b (.lit (.string (bytesOf (((R).takeR 1).fail 3).s))), vI .i64 ((((R).takeR 1).fail 3).e)], true⟩)] rfl (w44 (r := (R).takeR 1) (3)) rfl <| Nx <| Ke <| Te <| Io <| Oe <| Ih <| Jg ((nxB R n i), (((R).takeR 1).fail 3)) (by first | exact nlp_a hN hi (by omega) (by omega) | exact nlp_b hN hi (by omega) (by omega) | exact nlp_c hN (by omega) (by omega)) Wk
      · replace hc2 := of_decide_eq_false hc2
        refine Vs (Mv rfl) <| Vs (Bi rfl) <| Vs (Mv rfl) <| Sp 28 rfl (fun hc3 => ?_) (fun hc3 => ?_)
        · replace hc3 := eq_of_beq hc3
          refine Vs (Mv rfl) <| Vs (Bi rfl) <| Vs (Pk rfl) <| Vs (Pk rfl) <| Nx <| Cd rfl (fun hc4 => ?_) (fun hc4 => ?_)
          · replace hc4 := of_decide_eq_true hc4
            exact Rg <| Vs (Mv rfl) <| Gm 30 [0] [] (v := .b (.tup [])) [(0, ⟨2, [.b (.lit (.string (bytesOf (((R).takeR 1).fail 3).s))), vI .i64 ((((R).takeR 1).fail 3).e)], true⟩)] rfl (w44 (r := (R).takeR 1) (3)) rfl <| Nx <| Ke <| Te <| Io <| Oe <| Ih <| Jg ((nxB R n i), (((R).takeR 1).fail 3)) (by first | exact nlp_a hN hi (by omega) (by omega) | exact nlp_b hN hi (by omega) (by omega) | exact nlp_c hN (by omega) (by omega)) Wk
          · replace hc4 := of_decide_eq_false hc4
            exact Ks <| Tg <| Ke <| Te <| Io <| Oe <| Ih <| Jg ((nxB R n i), ((R).takeR 1)) (by first | exact nlp_a hN hi (by omega) (by omega) | exact nlp_b hN hi (by omega) (by omega) | exact nlp_c hN (by omega) (by omega)) Wk
        · replace hc3 := ne_of_beq_false hc3
          exact Sk rfl <| Sk rfl <| Vs (Pk rfl) <| Vs (Pk rfl) <| Nx <| Cz rfl <| Ks <| Tg <| Ke <| Te <| Io <| Oe <| Ih <| Jg ((nxB R n i), ((R).takeR 1)) (by first | exact nlp_a hN hi (by omega) (by omega) | exact nlp_b hN hi (by omega) (by omega) | exact nlp_c hN (by omega) (by omega)) Wk
    · replace hc1 := of_decide_eq_false hc1
      refine Ks <| Tg <| Sq <| Rg <| Vs (Mv rfl) <| Vs (Bi rfl) <| Nx <| Cd rfl (fun hc5 => ?_) (fun hc5 => ?_)
      · replace hc5 := eq_of_beq hc5
        exact Sq <| Rg <| Vs (Mv rfl) <| Gm 22 [0] [] (v := .b (.tup [])) [(0, ⟨2, [.b (.lit (.string (bytesOf (((R).takeR 1).fail 3).s))), vI .i64 ((((R).takeR 1).fail 3).e)], true⟩)] rfl (w44 (r := (R).takeR 1) (3)) rfl <| Nx <| Ke <| Io <| Oe <| Ih <| Jg ((nxB R n i), (((R).takeR 1).fail 3)) (by first | exact nlp_a hN hi (by omega) (by omega) | exact nlp_b hN hi (by omega) (by omega) | exact nlp_c hN (by omega) (by omega)) Wk
      · replace hc5 := ne_of_beq_false hc5
        exact Ks <| Ig <| Go (nxB R n i, i + 1, (R).takeR 1) ⟨by omega, hx.1, hx.2, nlp_d hN hi (by omega) (by omega)⟩ Wk
  · rintro ⟨n, R⟩ hN
    change VCode _ _ _ 1 (sl _) (en _) _
    refine Sq <| Sq <| Rg <| Vs (Mv rfl) <| Vs (Mv rfl) <| Vs (Bi rfl) <| Nx <| Cd rfl (fun hc6 => ?_) (fun hc6 => ?_)
    · replace hc6 := of_decide_eq_true hc6
      refine Rg <| Vs (Mv rfl) <| Gm 5 [0] [] (v := .b (.tup [])) [(0, ⟨2, [.b (.lit (.string (bytesOf ((R).fail 3).s))), vI .i64 (((R).fail 3).e)], true⟩)] rfl (w44 (r := R) (3)) rfl <| Nx <| Sq <| Sq <| Rg <| Vs (Mv rfl) <| Vs (Nk rfl) <| Vs (Fa TF87_1 rfl) <| Vs (Ld TA29 rfl) <| Vs (Bi rfl) <| Nx <| Cd rfl (fun hc7 => ?_) (fun hc7 => ?_)
      · replace hc7 := bne_iff_ne.1 hc7
        exact Sq <| Rg <| Vs (As rfl) <| Nx <| Re <| Tr <| Gg (L1' := [some (⟨2, [.b (.lit (.string (bytesOf ((R).fail 3).s))), vI .i64 (((R).fail 3).e)], true⟩)]) [0] (.val _ _ _ _ _ rfl rfl rfl .nil) (.one _) (by first | (simp only [Rdr.num, Rdr.numR, hN, if_pos, if_neg, *]; done) | simp [Rdr.num, Rdr.numR, hN, *]) (by first | (simp only [Rdr.num, Rdr.numR, hN, if_pos, if_neg, *]; done) | simp [Rdr.num, Rdr.numR, hN, *])
      · replace hc7 := bne_eq_false_iff_eq.1 hc7
        exact Ks <| Tg <| Sq <| Rg <| Vs (Mv rfl) <| Vs (As rfl) <| Nx <| Re <| Gg (L1' := [some (⟨2, [.b (.lit (.string (bytesOf ((R).fail 3).s))), vI .i64 (((R).fail 3).e)], true⟩)]) [0] (.val _ _ _ _ _ rfl rfl rfl .nil) (.one _) (by first | (simp only [Rdr.num, Rdr.numR, hN, if_pos, if_neg, *]; done) | simp [Rdr.num, Rdr.numR, hN, *]) (by first | (simp only [Rdr.num, Rdr.numR, hN, if_pos, if_neg, *]; done) | simp [Rdr.num, Rdr.numR, hN, *])
    · replace hc6 := of_decide_eq_false hc6
      refine Ks <| Tg <| Sq <| Sq <| Rg <| Vs (Mv rfl) <| Vs (Nk rfl) <| Vs (Fa TF87_1 rfl) <| Vs (Ld TA29 rfl) <| Vs (Bi rfl) <| Nx <| Cd rfl (fun hc8 => ?_) (fun hc8 => ?_)
      · replace hc8 := bne_iff_ne.1 hc8
        exact Sq <| Rg <| Vs (As rfl) <| Nx <| Re <| Tr <| Gg (L1' := [some (⟨2, [.b (.lit (.string (bytesOf (R).s))), vI .i64 ((R).e)], true⟩)]) [0] (.val _ _ _ _ _ rfl rfl rfl .nil) (.one _) (by first | (simp only [Rdr.num, Rdr.numR, hN, if_pos, if_neg, *]; done) | simp [Rdr.num, Rdr.numR, hN, *]) (by first | (simp only [Rdr.num, Rdr.numR, hN, if_pos, if_neg, *]; done) | simp [Rdr.num, Rdr.numR, hN, *])
      · replace hc8 := bne_eq_false_iff_eq.1 hc8
        exact Ks <| Tg <| Sq <| Rg <| Vs (Mv rfl) <| Vs (As rfl) <| Nx <| Re <| Gg (L1' := [some (⟨2, [.b (.lit (.string (bytesOf (R).s))), vI .i64 ((R).e)], true⟩)]) [0] (.val _ _ _ _ _ rfl rfl rfl .nil) (.one _) (by first | (simp only [Rdr.num, Rdr.numR, hN, if_pos, if_neg, *]; done) | simp [Rdr.num, Rdr.numR, hN, *]) (by first | (simp only [Rdr.num, Rdr.numR, hN, if_pos, if_neg, *]; done) | simp [Rdr.num, Rdr.numR, hN, *])
end Go.VL

/- Walks over the Go functions, printed by a program of this session over the kit's print, and by hand. -/
set_option linter.unusedVariables false
set_option linter.unusedSimpArgs false
set_option maxRecDepth 100000
namespace Go.VL
open Go.Proofs
theorem w42 {r : Rdr} : VG Try.prog 42 [.ptr 0 (0)] [⟨2, [.b (.lit (.string (bytesOf (r).s))), vI .i64 ((r).e)], true⟩] (.b (.lit (.string r.txtB))) [some (⟨2, [.b (.lit (.string (bytesOf (r.txtR).s))), vI .i64 ((r.txtR).e)], true⟩)] := by
  exact VGp_of P_mixed Try.func42 rfl rfl (by kernel_rfl) (by simp) rfl <| Sq <| Rg <| Vs (As rfl) <| Nx <| Sq <| Rg <| Vs (Mv rfl) <| Vs (Mv rfl) <| Gm 4 [0] [] (v := vI .i64 (((r).num 200))) [(0, ⟨2, [.b (.lit (.string (bytesOf ((r).numR 200).s))), vI .i64 (((r).numR 200).e)], true⟩)] rfl (w41 (r := r) (m := 200)) rfl <| Gm 5 [0] [] (v := .b (.lit (.string (bytesOf (((r).numR 200).takeS (((r).num 200))))))) [(0, ⟨2, [.b (.lit (.string (bytesOf (((r).numR 200).takeR (((r).num 200))).s))), vI .i64 ((((r).numR 200).takeR (((r).num 200))).e)], true⟩)] rfl (w72 (r := (r).numR 200) (n := ((r).num 200)) ((num_rng r (by decide)).1) (by have := num_rng r (m := 200) (by decide); omega)) rfl <| Vs (As rfl) <| Nx <| Re <| Gg (L1' := [some (⟨2, [.b (.lit (.string (bytesOf (((r).numR 200).takeR (((r).num 200))).s))), vI .i64 ((((r).numR 200).takeR (((r).num 200))).e)], true⟩)]) [0] (.val _ _ _ _ _ rfl rfl rfl .nil) (.one _) rfl rfl
theorem w73 {r : Rdr} : VG Try.prog 73 [.ptr 0 (0)] [⟨2, [.b (.lit (.string (bytesOf (r).s))), vI .i64 ((r).e)], true⟩] (.b (slK .u32 r.lims)) [some (⟨2, [.b (.lit (.string (bytesOf (r.limsR).s))), vI .i64 ((r.limsR).e)], true⟩)] := by
  have hn := num_rng r (m := 16) (by decide)
  refine VGp_of P_mixed Try.func73 rfl rfl (by kernel_rfl) (by simp) rfl <| Sq <| Rg <| Vs (As rfl) <| Nx <| Sq <| Rg <| Vs (Nr 2 1 rfl) <| Nx <| Sq <| Sq <| Rg <| Vs (Mv rfl) <| Gm 4 [0] [] (v := vI .i64 (((r).num 16))) [(0, ⟨2, [.b (.lit (.string (bytesOf ((r).numR 16).s))), vI .i64 (((r).numR 16).e)], true⟩), (2, rowK .u32 ([]))] rfl (w41 (r := r) (m := 16)) rfl <| Vs (Mv rfl) <| Nx <| Bk <| VCode.loop (α := (Nat) × (Nat) × (Rdr) × (List Int)) (fun x_ => match x_ with | (i, k, R, L) => (91, sl [(0, .ptr 0 (0)), (3, .row 90 (k) none), (6, vI .i64 (((r).num 16))), (7, vI .i64 ((i : Int)))], en [(0, ⟨2, [.b (.lit (.string (bytesOf (R).s))), vI .i64 ((R).e)], true⟩), (90, rowK .u32 (L))])) (fun x_ => match x_ with | (i, k, R, L) => i ≤ (r.num 16).toNat ∧ R = itR Rdr.limR i (r.numR 16) ∧ L = itL Rdr.lim Rdr.limR i (r.numR 16) ∧ L.length = k ∧ k = i) (fun x_ => match x_ with | (i, k, R, L) => (r.num 16).toNat - i) (0, 0, ((r).numR 16), []) ⟨Nat.zero_le _, rfl, rfl, rfl, rfl⟩ (Wr [(90, 2)]) ?_
  rintro ⟨i, k, R, L⟩ hok
  obtain ⟨hi, hR, hL, hk, hki⟩ := hok
  have g0 := lb_rng R 0
  have g1 := lb_rng R 1
  have g2 := lb_rng R 2
  have g3 := lb_rng R 3
  change VCode _ _ _ 91 (sl _) (en _) _
  refine Sq <| Rg <| Vs (Bi rfl) <| Nx <| Sq <| Cd rfl (fun hc1 => ?_) (fun hc1 => ?_)
  · replace hc1 := of_decide_eq_true hc1
    refine Ks <| Tg <| Sq <| Bk <| Sq <| Rg <| Vs (Mv rfl) <| Gm 93 [0] [] (v := .b (.lit (.string (bytesOf ((R).takeS 4))))) [(0, ⟨2, [.b (.lit (.string (bytesOf ((R).takeR 4).s))), vI .i64 (((R).takeR 4).e)], true⟩), (90, rowK .u32 (L))] rfl (w72 (r := R) (n := 4) (by decide) (by decide)) rfl <| Vs (As rfl) <| Nx <| Rd (by kernel_rfl) <| Vl (Mv rfl) <| Vl (Mv rfl) <| Vl (Ki (show at8 (bytesOf ((R).takeS 4)) (0) = (lb R 0) from lb_at (by decide)) (TiN (q := 0) TU9 rfl (h1 := (by rw [takeS_size (by decide)]; decide)))) <| Vl (Cv TU5 TU53 rfl (wrD (h := (by have := lb_rng R 0; omega)))) <| Vl (Mv rfl) <| Vl (Ki (show at8 (bytesOf ((R).takeS 4)) (1) = (lb R 1) from lb_at (by decide)) (TiN (q := 1) TU9 rfl (h1 := (by rw [takeS_size (by decide)]; decide)))) <| Vl (Cv TU5 TU53 rfl (wrD (h := (by have := lb_rng R 1; omega)))) <| Vl (Bo (c := .int .u32 (lb R 1 * 256)) rfl (bop_shlL_u32 (q := 256) (by decide) (by decide) rfl (by omega))) <| Vl (Bo (c := .int .u32 (lb R 0 + lb R 1 * 256)) rfl (bop_orR_u32 (q := 256) 8 rfl (by omega) ⟨lb R 1, by omega, rfl⟩ (by omega))) <| Vl (Mv rfl) <| Vl (Ki (show at8 (bytesOf ((R).takeS 4)) (2) = (lb R 2) from lb_at (by decide)) (TiN (q := 2) TU9 rfl (h1 := (by rw [takeS_size (by decide)]; decide)))) <| Vl (Cv TU5 TU53 rfl (wrD (h := (by have := lb_rng R 2; omega)))) <| Vl (Bo (c := .int .u32 (lb R 2 * 65536)) rfl (bop_shlL_u32 (q := 65536) (by decide) (by decide) rfl (by omega))) <| Vl (Bo (c := .int .u32 (lb R 0 + lb R 1 * 256 + lb R 2 * 65536)) rfl (bop_orR_u32 (q := 65536) 16 rfl (by omega) ⟨lb R 2, by omega, rfl⟩ (by omega))) <| Vl (Mv rfl) <| Vl (Ki (show at8 (bytesOf ((R).takeS 4)) (3) = (lb R 3) from lb_at (by decide)) (TiN (q := 3) TU9 rfl (h1 := (by rw [takeS_size (by decide)]; decide)))) <| Vl (Cv TU5 TU53 rfl (wrD (h := (by have := lb_rng R 3; omega)))) <| Vl (Bo (c := .int .u32 (lb R 3 * 16777216)) rfl (bop_shlL_u32 (q := 16777216) (by decide) (by decide) rfl (by omega))) <| Vl (Bo (c := .int .u32 (lb R 0 + lb R 1 * 256 + lb R 2 * 65536 + lb R 3 * 16777216)) rfl (bop_orR_u32 (q := 16777216) 24 rfl (by omega) ⟨lb R 3, by omega, rfl⟩ (by omega))) <| Vl (L1s 114 TK52 rfl) <| Vl (Ar 115 TK52 rfl (Rr rfl)) <| Vl (As rfl) <| ?_
    refine VLog.nil ⟨by kernel_rfl, ?_⟩
    exact Ig <| Tg <| Rg <| Vs (Bo rfl adI) <| Vs (Mv rfl) <| VList.nil <| Go (i + 1, k + ([lb R 0 + lb R 1 * 256 + lb R 2 * 65536 + lb R 3 * 16777216]).length, ((R).takeR 4), (L) ++ ([lb R 0 + lb R 1 * 256 + lb R 2 * 65536 + lb R 3 * 16777216])) ⟨by omega, by rw [itR, ← hR]; first | done | rfl, by rw [itL, ← hL, ← hR]; first | done | rfl, by rw [List.length_append, hk]; first | done | rfl, by rw [hki]; first | done | rfl⟩ (Wr [(90, 115)])
  · replace hc1 := of_decide_eq_false hc1
    have hfin : i = (r.num 16).toNat := by omega
    exact Ke <| Te <| Oe <| Ih <| Tg <| Sq <| Rg <| Vs (Mv rfl) <| Vs (As rfl) <| Nx <| Re <| Gg (L1' := [some (⟨2, [.b (.lit (.string (bytesOf (R).s))), vI .i64 ((R).e)], true⟩)]) [0] (.val _ _ _ _ _ rfl (Rq rfl) rfl .nil) (.one _) (by rw [hL, hfin]; rfl) (by rw [hR, hfin]; rfl)
theorem w43 {r : Rdr} : VG Try.prog 43 [.ptr 0 (0)] [⟨2, [.b (.lit (.string (bytesOf (r).s))), vI .i64 ((r).e)], true⟩] (.b (.agg [numB .i64 (r.mov.step), numB .i64 (r.mov.coord), boolB (r.mov.nn), u32S (r.mov.nm), boolB (r.mov.dn), u32S (r.mov.dm)])) [some (⟨2, [.b (.lit (.string (bytesOf (r.movR).s))), vI .i64 ((r.movR).e)], true⟩)] := by
  refine VGp_of P_mixed Try.func43 rfl rfl (by kernel_rfl) (by simp) rfl <| Sq <| Rg <| Vs (Al 1 TZ61 rfl) <| Nx <| Sq <| Rg <| Vs (Mv rfl) <| Gm 3 [0] [] (v := vI .i64 (((r).num 2147483647))) [(0, ⟨2, [.b (.lit (.string (bytesOf ((r).numR 2147483647).s))), vI .i64 (((r).numR 2147483647).e)], true⟩), (1, ⟨6, [vI .i64 (0), vI .i64 (0), vB (false), vS ([]), vB (false), vS ([])], true⟩)] rfl (w41 (r := r) (m := 2147483647)) rfl <| Vs (Mv rfl) <| Gm 5 [0] [] (v := vI .i64 ((((r).numR 2147483647).num 2147483647))) [(0, ⟨2, [.b (.lit (.string (bytesOf (((r).numR 2147483647).numR 2147483647).s))), vI .i64 ((((r).numR 2147483647).numR 2147483647).e)], true⟩), (1, ⟨6, [vI .i64 (0), vI .i64 (0), vB (false), vS ([]), vB (false), vS ([])], true⟩)] rfl (w41 (r := (r).numR 2147483647) (m := 2147483647)) rfl <| Vs (Bd TQ61 rfl) <| Vs (Al 7 TZ61 rfl) <| Vs (StS TS61 rfl) <| Nx <| Sq <| Rg <| Vs (Mv rfl) <| Gm 10 [0] [] (v := .b (.lit (.string (bytesOf ((((r).numR 2147483647).numR 2147483647).takeS 1))))) [(0, ⟨2, [.b (.lit (.string (bytesOf ((((r).numR 2147483647).numR 2147483647).takeR 1).s))), vI .i64 (((((r).numR 2147483647).numR 2147483647).takeR 1).e)], true⟩), (1, ⟨6, [vI .i64 (0), vI .i64 (0), vB (false), vS ([]), vB (false), vS ([])], true⟩), (7, ⟨6, [vI .i64 (((r).num 2147483647)), vI .i64 ((((r).numR 2147483647).num 2147483647)), vB (false), vS ([]), vB (false), vS ([])], true⟩)] rfl (w72 (r := ((r).numR 2147483647).numR 2147483647) (n := 1) (by decide) (by decide)) rfl <| Vs (Ki (show at8 (bytesOf ((((r).numR 2147483647).numR 2147483647).takeS 1)) (0) = (cB r.mv2) from at8_take (by decide)) (TiN (q := 0) TU9 rfl (h1 := (by rw [takeS_size (by decide)]; decide)))) <| Vs (As rfl) <| Nx <| VCode.join (α := (Rdr)) (fun R => (8, sl [(0, .ptr 0 (0)), (2, .ptr 1 (0)), (3, .ptr 7 (0)), (4, vI .u8 ((cB r.mv2)))], en [(0, ⟨2, [.b (.lit (.string (bytesOf (R).s))), vI .i64 ((R).e)], true⟩), (1, ⟨6, [vI .i64 (0), vI .i64 (0), vB (false), vS ([]), vB (false), vS ([])], true⟩), (7, ⟨6, [vI .i64 (((r).num 2147483647)), vI .i64 ((((r).numR 2147483647).num 2147483647)), vB (false), vS ([]), vB (false), vS ([])], true⟩)])) (fun R => R = r.mv4) ?_ ?_
  · skip
    refine Sq <| Rg <| Vs (Mv rfl) <| Vs (Bi rfl) <| Nx <| Cd rfl (fun hc1 => ?_) (fun hc1 => ?_)
    · replace hc1 := of_decide_eq_true hc1
      exact Rg <| Vs (Mv rfl) <| Gm 16 [0] [] (v := .b (.tup [])) [(0, ⟨2, [.b (.lit (.string (bytesOf (((((r).numR 2147483647).numR 2147483647).takeR 1).fail 3).s))), vI .i64 ((((((r).numR 2147483647).numR 2147483647).takeR 1).fail 3).e)], true⟩), (1, ⟨6, [vI .i64 (0), vI .i64 (0), vB (false), vS ([]), vB (false), vS ([])], true⟩), (7, ⟨6, [vI .i64 (((r).num 2147483647)), vI .i64 ((((r).numR 2147483647).num 2147483647)), vB (false), vS ([]), vB (false), vS ([])], true⟩)] rfl (w44 (r := (((r).numR 2147483647).numR 2147483647).takeR 1) (3)) rfl <| VList.nil <| Jg ((((((r).numR 2147483647).numR 2147483647).takeR 1).fail 3)) (by rw [Rdr.mv4, if_pos (by assumption)]; rfl) Wk
    · replace hc1 := of_decide_eq_false hc1
      exact Ks <| Jg (((((r).numR 2147483647).numR 2147483647).takeR 1)) (by rw [Rdr.mv4, if_neg (by omega)]; rfl) Wk
  · intro R hR
    change VCode _ _ _ 8 (sl _) (en _) _
    exact Sq <| Rg <| Vs (Mv rfl) <| Vs (Bi rfl) <| Vs (Mv rfl) <| Gm 11 [0] [] (v := vS (((R).lims))) [(0, ⟨2, [.b (.lit (.string (bytesOf ((R).limsR).s))), vI .i64 (((R).limsR).e)], true⟩), (1, ⟨6, [vI .i64 (0), vI .i64 (0), vB (false), vS ([]), vB (false), vS ([])], true⟩), (7, ⟨6, [vI .i64 (((r).num 2147483647)), vI .i64 ((((r).numR 2147483647).num 2147483647)), vB (false), vS ([]), vB (false), vS ([])], true⟩)] rfl (w73 (r := R)) rfl <| Vs (Bd TQ55 rfl) <| Vs (Fa TF61_2 rfl) <| Vs (Fa TF57_0 rfl) <| Vs (StS TS55 rfl) <| Nx <| Sq <| Rg <| Vs (Mv rfl) <| Gm 17 [0] [] (v := vS ((((R).limsR).lims))) [(0, ⟨2, [.b (.lit (.string (bytesOf (((R).limsR).limsR).s))), vI .i64 ((((R).limsR).limsR).e)], true⟩), (1, ⟨6, [vI .i64 (0), vI .i64 (0), vB (false), vS ([]), vB (false), vS ([])], true⟩), (7, ⟨6, [vI .i64 (((r).num 2147483647)), vI .i64 ((((r).numR 2147483647).num 2147483647)), vB (((cB r.mv2) == 1)), vS (((R).lims)), vB (false), vS ([])], true⟩)] rfl (w73 (r := (R).limsR)) rfl <| Vs (Bd TQ55 rfl) <| Vs (Fa TF61_2 rfl) <| Vs (Fa TF57_1 rfl) <| Vs (StS TS55 rfl) <| Nx <| Sq <| Rg <| Vs (LdS TA61 TS61 rfl) <| Vs (StS TS61 rfl) <| Nx <| Re <| Gg (L1' := [some (⟨2, [.b (.lit (.string (bytesOf (((R).limsR).limsR).s))), vI .i64 ((((R).limsR).limsR).e)], true⟩)]) [0] (.val _ _ _ _ _ (resV_cellS rfl rfl TA61 TS61 (Nat.le_of_ble_eq_true rfl)) rfl rfl .nil) (.one _) (by rw [hR]; rfl) (by rw [hR]; rfl)
end Go.VL

/- Walks over the Go functions, printed by a program of this session over the kit's print, and by hand. -/
set_option linter.unusedVariables false
set_option linter.unusedSimpArgs false
set_option maxRecDepth 100000
namespace Go.VL
open Go.Proofs
theorem m17 {s : List Int} : VG Try.prog 17 [.b (.lit (.string (bytesOf s)))] [] (.b (.tup [.agg [numB .i64 ((decQ s).au), numB .i64 ((decQ s).sq), numB .i64 ((decQ s).st), slK .i64 ((decQ s).seen), numB .i64 ((decQ s).kind), .lit (.string ((decQ s).text)), slT 1 stB ((decQ s).names), slT 6 mvB ((decQ s).moves), numB .i64 ((decQ s).oa), numB .i64 ((decQ s).os), numB .i64 ((decQ s).pk)], numB .i64 (decE s)])) [] := by
  have hn1 : (rd0 s).h3.num 12 = ((((rd0 s).numR 2147483647).numR 2147483647).numR 2147483647).num 12 := rfl
  have hb1 := num_rng (rd0 s).h3 (m := 12) (by decide)
  have hb2 := num_rng (rd0 s).h6 (m := 4) (by decide)
  have hb3 := num_rng (rd0 s).h7 (m := 4) (by decide)
  refine VGw_of P_mixed Try.func17 rfl rfl (by kernel_rfl) (by simp) rfl <| Sq <| Rg <| Vs (Al 0 TZ38 rfl) <| Vs (As rfl) <| Nx <| Sq <| Rg <| Vs (Mv rfl) <| Vs (Bd TQ87 rfl) <| Vs (Bx 4 rfl) <| Vs (As rfl) <| Nx <| Sq <| Rg <| Vs (Mg 6 1 rfl) <| Gm 7 [4] [] (v := vI .i64 (((rd0 s).num 2147483647))) [(0, ⟨11, [vI .i64 (0), vI .i64 (0), vI .i64 (0), vS ([]), vI .i64 (0), .b (.lit (.string ((⟨#[]⟩ : ByteArray)))), vS ([]), vS ([]), vI .i64 (0), vI .i64 (0), vI .i64 (0)], true⟩), (4, ⟨2, [.b (.lit (.string (bytesOf ((rd0 s).numR 2147483647).s))), vI .i64 (((rd0 s).numR 2147483647).e)], true⟩), (6, rowK .i64 ([]))] rfl (w41 (r := rd0 s) (m := 2147483647)) rfl <| Vs (Mg 8 1 rfl) <| Gm 9 [4] [] (v := vI .i64 ((((rd0 s).numR 2147483647).num 2147483647))) [(0, ⟨11, [vI .i64 (0), vI .i64 (0), vI .i64 (0), vS ([]), vI .i64 (0), .b (.lit (.string ((⟨#[]⟩ : ByteArray)))), vS ([]), vS ([]), vI .i64 (0), vI .i64 (0), vI .i64 (0)], true⟩), (4, ⟨2, [.b (.lit (.string (bytesOf (((rd0 s).numR 2147483647).numR 2147483647).s))), vI .i64 ((((rd0 s).numR 2147483647).numR 2147483647).e)], true⟩), (6, rowK .i64 ([])), (8, rowT 1 stB ([]))] rfl (w41 (r := (rd0 s).numR 2147483647) (m := 2147483647)) rfl <| Vs (Bd TQ34 rfl) <| Vs (Mg 11 6 rfl) <| Gm 12 [4] [] (v := vI .i64 (((((rd0 s).numR 2147483647).numR 2147483647).num 2147483647))) [(0, ⟨11, [vI .i64 (0), vI .i64 (0), vI .i64 (0), vS ([]), vI .i64 (0), .b (.lit (.string ((⟨#[]⟩ : ByteArray)))), vS ([]), vS ([]), vI .i64 (0), vI .i64 (0), vI .i64 (0)], true⟩), (4, ⟨2, [.b (.lit (.string (bytesOf ((((rd0 s).numR 2147483647).numR 2147483647).numR 2147483647).s))), vI .i64 (((((rd0 s).numR 2147483647).numR 2147483647).numR 2147483647).e)], true⟩), (6, rowK .i64 ([])), (8, rowT 1 stB ([])), (11, rowT 6 mvB ([]))] rfl (w41 (r := ((rd0 s).numR 2147483647).numR 2147483647) (m := 2147483647)) rfl <| Vs (BdM TQ38 rfl) <| Vs (Al 14 TZ38 rfl) <| Vs (StS TS38 rfl) <| VList.nil <| Cx (n1 := 15) (S1 := [(2, .ptr 0 (0)), (4, .ptr 4 (0)), (5, .ptr 14 (0))]) (L1 := [(0, ⟨11, [vI .i64 (0), vI .i64 (0), vI .i64 (0), vS ([]), vI .i64 (0), .b (.lit (.string ((⟨#[]⟩ : ByteArray)))), vS ([]), vS ([]), vI .i64 (0), vI .i64 (0), vI .i64 (0)], true⟩), (4, ⟨2, [.b (.lit (.string (bytesOf ((((rd0 s).numR 2147483647).numR 2147483647).numR 2147483647).s))), vI .i64 (((((rd0 s).numR 2147483647).numR 2147483647).numR 2147483647).e)], true⟩), (6, rowK .i64 ([])), (8, rowT 1 stB ([])), (11, rowT 6 mvB ([])), (14, ⟨11, [vI .i64 (((rd0 s).num 2147483647)), vI .i64 ((((rd0 s).numR 2147483647).num 2147483647)), vI .i64 (((((rd0 s).numR 2147483647).numR 2147483647).num 2147483647)), .row 6 (0) none, vI .i64 (0), .b (.lit (.string ((⟨#[]⟩ : ByteArray)))), .row 8 (0) none, .row 11 (0) none, vI .i64 (0), vI .i64 (0), vI .i64 (0)], true⟩)]) (Weak.conv (nv := []) ⟨⟨⟨_, rfl, .inl rfl⟩, rfl⟩, ⟨⟨_, rfl, .inl rfl⟩, rfl⟩, ⟨⟨_, rfl, .inl rfl⟩, rfl⟩, trivial⟩ ⟨⟨⟨_, rfl, rfl, rfl, ⟨.inl rfl, .inl rfl, .inl rfl, .inl rfl, .inl rfl, .inl rfl, .inl rfl, .inl rfl, .inl rfl, .inl rfl, .inl rfl, trivial⟩⟩, Nat.le_of_ble_eq_true rfl, cells_of rfl⟩, ⟨⟨_, rfl, rfl, rfl, ⟨.inl rfl, .inl rfl, trivial⟩⟩, Nat.le_of_ble_eq_true rfl, cells_of rfl⟩, ⟨⟨_, rfl, rfl, rfl, Two.same (fun _ => .inl rfl) _⟩, Nat.le_of_ble_eq_true rfl, row_cellsK⟩, ⟨⟨_, rfl, rfl, rfl, Two.same (fun _ => .inl rfl) _⟩, Nat.le_of_ble_eq_true rfl, rowT_cells⟩, ⟨⟨_, rfl, rfl, rfl, Two.same (fun _ => .inl rfl) _⟩, Nat.le_of_ble_eq_true rfl, rowT_cells⟩, ⟨⟨_, rfl, rfl, rfl, ⟨.inl rfl, .inl rfl, .inl rfl, (cv_nil'), .inl rfl, .inl rfl, (cv_nil'), (cv_nil'), .inl rfl, .inl rfl, .inl rfl, trivial⟩⟩, Nat.le_of_ble_eq_true rfl, cells_of rfl⟩, trivial⟩ (Nat.le_of_ble_eq_true rfl)) <| Sq <| Sq <| Rg <| Vs (Mv rfl) <| Gm 16 [4] [] (v := vI .i64 ((((((rd0 s).numR 2147483647).numR 2147483647).numR 2147483647).num 12))) [(0, ⟨11, [vI .i64 (0), vI .i64 (0), vI .i64 (0), vS ([]), vI .i64 (0), .b (.lit (.string ((⟨#[]⟩ : ByteArray)))), vS ([]), vS ([]), vI .i64 (0), vI .i64 (0), vI .i64 (0)], true⟩), (4, ⟨2, [.b (.lit (.string (bytesOf (((((rd0 s).numR 2147483647).numR 2147483647).numR 2147483647).numR 12).s))), vI .i64 ((((((rd0 s).numR 2147483647).numR 2147483647).numR 2147483647).numR 12).e)], true⟩), (6, rowK .i64 ([])), (8, rowT 1 stB ([])), (11, rowT 6 mvB ([])), (14, ⟨11, [vI .i64 (((rd0 s).num 2147483647)), vI .i64 ((((rd0 s).numR 2147483647).num 2147483647)), vI .i64 (((((rd0 s).numR 2147483647).numR 2147483647).num 2147483647)), .row 6 (0) none, vI .i64 (0), .b (.lit (.string ((⟨#[]⟩ : ByteArray)))), .row 8 (0) none, .row 11 (0) none, vI .i64 (0), vI .i64 (0), vI .i64 (0)], true⟩)] rfl (w41 (r := (((rd0 s).numR 2147483647).numR 2147483647).numR 2147483647) (m := 12)) rfl <| Vs (Mv rfl) <| Nx <| Bk <| VCode.loop (α := (Nat) × (Nat) × (Rdr) × (List Int)) (fun x_ => match x_ with | (i1, k1, R1, L1) => (191, sl [(2, .ptr 0 (0)), (4, .ptr 4 (0)), (5, .ptr 14 (0)), (18, vI .i64 ((((((rd0 s).numR 2147483647).numR 2147483647).numR 2147483647).num 12))), (19, vI .i64 ((i1 : Int)))], en [(0, ⟨11, [vI .i64 (0), vI .i64 (0), vI .i64 (0), vS ([]), vI .i64 (0), .b (.lit (.string ((⟨#[]⟩ : ByteArray)))), vS ([]), vS ([]), vI .i64 (0), vI .i64 (0), vI .i64 (0)], true⟩), (4, ⟨2, [.b (.lit (.string (bytesOf (R1).s))), vI .i64 ((R1).e)], true⟩), (8, rowT 1 stB ([])), (11, rowT 6 mvB ([])), (14, ⟨11, [vI .i64 (((rd0 s).num 2147483647)), vI .i64 ((((rd0 s).numR 2147483647).num 2147483647)), vI .i64 (((((rd0 s).numR 2147483647).numR 2147483647).num 2147483647)), .row 190 (k1) none, vI .i64 (0), .b (.lit (.string ((⟨#[]⟩ : ByteArray)))), .row 8 (0) none, .row 11 (0) none, vI .i64 (0), vI .i64 (0), vI .i64 (0)], true⟩), (190, rowK .i64 (L1))])) (fun x_ => match x_ with | (i1, k1, R1, L1) => i1 ≤ ((rd0 s).h3.num 12).toNat ∧ R1 = itR (fun r => r.numR M31) i1 ((rd0 s).h3.numR 12) ∧ L1 = itL (fun r => r.num M31) (fun r => r.numR M31) i1 ((rd0 s).h3.numR 12) ∧ L1.length = k1 ∧ k1 = i1) (fun x_ => match x_ with | (i1, k1, R1, L1) => ((rd0 s).h3.num 12).toNat - i1) (0, 0, (((((rd0 s).numR 2147483647).numR 2147483647).numR 2147483647).numR 12), []) ⟨Nat.zero_le _, rfl, rfl, rfl, rfl⟩ (Wt [(190, 6)]) ?_
  rintro ⟨i1, k1, R1, L1⟩ hok
  obtain ⟨hi1, hR1, hL1, hk1, hki1⟩ := hok
  change VCode _ _ _ 191 (sl _) (en _) _
  refine Sq <| Rg <| Vs (Bi rfl) <| Nx <| Sq <| Cd rfl (fun hc1 => ?_) (fun hc1 => ?_)
  · replace hc1 := of_decide_eq_true hc1
    refine Ks <| Tg <| Sq <| Bk <| Rd (by kernel_rfl) <| Vl (Fa TF38_2 rfl) <| Vl (Ld TA28 rfl) <| Vl (Mv rfl) <| Gl [4] [] [(4, some (⟨2, [.b (.lit (.string (bytesOf ((R1).numR 2147483647).s))), vI .i64 (((R1).numR 2147483647).e)], true⟩))] rfl (w41 (r := R1) (m := 2147483647)) rfl <| Vl (L1s 196 TK28 rfl) <| Vl (Ar 197 TK28 rfl (Rr rfl)) <| Vl (Fa TF38_2 rfl) <| Vl (St TS28 rfl) <| ?_
    refine VLog.nil ⟨by kernel_rfl, ?_⟩
    exact Ig <| Tg <| Rg <| Vs (Bo rfl adI) <| Vs (Mv rfl) <| VList.nil <| Go (i1 + 1, k1 + ([((R1).num 2147483647)]).length, ((R1).numR 2147483647), (L1) ++ ([((R1).num 2147483647)])) ⟨by omega, by rw [itR, ← hR1]; first | done | rfl, by rw [itL, ← hL1, ← hR1]; first | done | rfl, by rw [List.length_append, hk1]; first | done | rfl, by rw [hki1]; first | done | rfl⟩ (Wt [(190, 197)])
  · replace hc1 := of_decide_eq_false hc1
    refine Ke <| Te <| Oe <| Ih <| Tg <| Sq <| ?_
    have hf1 : i1 = ((rd0 s).h3.num 12).toNat := by omega
    rw [hf1] at hR1 hL1
    have hn2 : (rd0 s).h6.num 4 = ((R1).numR 2147483647).txtR.num 4 := by rw [hR1]; rfl
    refine Rg <| Vs (Mv rfl) <| Gm 193 [4] [] (v := vI .i64 (((R1).num 2147483647))) [(0, ⟨11, [vI .i64 (0), vI .i64 (0), vI .i64 (0), vS ([]), vI .i64 (0), .b (.lit (.string ((⟨#[]⟩ : ByteArray)))), vS ([]), vS ([]), vI .i64 (0), vI .i64 (0), vI .i64 (0)], true⟩), (4, ⟨2, [.b (.lit (.string (bytesOf ((R1).numR 2147483647).s))), vI .i64 (((R1).numR 2147483647).e)], true⟩), (8, rowT 1 stB ([])), (11, rowT 6 mvB ([])), (14, ⟨11, [vI .i64 (((rd0 s).num 2147483647)), vI .i64 ((((rd0 s).numR 2147483647).num 2147483647)), vI .i64 (((((rd0 s).numR 2147483647).numR 2147483647).num 2147483647)), .row 190 (k1) none, vI .i64 (0), .b (.lit (.string ((⟨#[]⟩ : ByteArray)))), .row 8 (0) none, .row 11 (0) none, vI .i64 (0), vI .i64 (0), vI .i64 (0)], true⟩), (190, rowK .i64 (L1))] rfl (w41 (r := R1) (m := 2147483647)) rfl <| Vs (Mv rfl) <| Gm 195 [4] [] (v := .b (.lit (.string (((R1).numR 2147483647).txtB)))) [(0, ⟨11, [vI .i64 (0), vI .i64 (0), vI .i64 (0), vS ([]), vI .i64 (0), .b (.lit (.string ((⟨#[]⟩ : ByteArray)))), vS ([]), vS ([]), vI .i64 (0), vI .i64 (0), vI .i64 (0)], true⟩), (4, ⟨2, [.b (.lit (.string (bytesOf (((R1).numR 2147483647).txtR).s))), vI .i64 ((((R1).numR 2147483647).txtR).e)], true⟩), (8, rowT 1 stB ([])), (11, rowT 6 mvB ([])), (14, ⟨11, [vI .i64 (((rd0 s).num 2147483647)), vI .i64 ((((rd0 s).numR 2147483647).num 2147483647)), vI .i64 (((((rd0 s).numR 2147483647).numR 2147483647).num 2147483647)), .row 190 (k1) none, vI .i64 (0), .b (.lit (.string ((⟨#[]⟩ : ByteArray)))), .row 8 (0) none, .row 11 (0) none, vI .i64 (0), vI .i64 (0), vI .i64 (0)], true⟩), (190, rowK .i64 (L1))] rfl (w42 (r := (R1).numR 2147483647)) rfl <| Vs (Fa TF38_3 rfl) <| Vs (St TS3 rfl) <| Vs (Fa TF38_4 rfl) <| Vs (St TS9 rfl) <| Nx <| Sq <| Sq <| Rg <| Vs (Mv rfl) <| Gm 201 [4] [] (v := vI .i64 (((((R1).numR 2147483647).txtR).num 4))) [(0, ⟨11, [vI .i64 (0), vI .i64 (0), vI .i64 (0), vS ([]), vI .i64 (0), .b (.lit (.string ((⟨#[]⟩ : ByteArray)))), vS ([]), vS ([]), vI .i64 (0), vI .i64 (0), vI .i64 (0)], true⟩), (4, ⟨2, [.b (.lit (.string (bytesOf ((((R1).numR 2147483647).txtR).numR 4).s))), vI .i64 (((((R1).numR 2147483647).txtR).numR 4).e)], true⟩), (8, rowT 1 stB ([])), (11, rowT 6 mvB ([])), (14, ⟨11, [vI .i64 (((rd0 s).num 2147483647)), vI .i64 ((((rd0 s).numR 2147483647).num 2147483647)), vI .i64 (((((rd0 s).numR 2147483647).numR 2147483647).num 2147483647)), .row 190 (k1) none, vI .i64 (((R1).num 2147483647)), .b (.lit (.string (((R1).numR 2147483647).txtB))), .row 8 (0) none, .row 11 (0) none, vI .i64 (0), vI .i64 (0), vI .i64 (0)], true⟩), (190, rowK .i64 (L1))] rfl (w41 (r := ((R1).numR 2147483647).txtR) (m := 4)) rfl <| Vs (Mv rfl) <| Nx <| Bk <| VCode.loop (α := (Nat) × (Nat) × (Rdr) × (List ByteArray)) (fun x_ => match x_ with | (i2, k2, R2, L2) => (591, sl [(2, .ptr 0 (0)), (4, .ptr 4 (0)), (5, .ptr 14 (0)), (36, vI .i64 (((((R1).numR 2147483647).txtR).num 4))), (37, vI .i64 ((i2 : Int)))], en [(0, ⟨11, [vI .i64 (0), vI .i64 (0), vI .i64 (0), vS ([]), vI .i64 (0), .b (.lit (.string ((⟨#[]⟩ : ByteArray)))), vS ([]), vS ([]), vI .i64 (0), vI .i64 (0), vI .i64 (0)], true⟩), (4, ⟨2, [.b (.lit (.string (bytesOf (R2).s))), vI .i64 ((R2).e)], true⟩), (11, rowT 6 mvB ([])), (14, ⟨11, [vI .i64 (((rd0 s).num 2147483647)), vI .i64 ((((rd0 s).numR 2147483647).num 2147483647)), vI .i64 (((((rd0 s).numR 2147483647).numR 2147483647).num 2147483647)), .row 190 (k1) none, vI .i64 (((R1).num 2147483647)), .b (.lit (.string (((R1).numR 2147483647).txtB))), .row 590 (k2) none, .row 11 (0) none, vI .i64 (0), vI .i64 (0), vI .i64 (0)], true⟩), (190, rowK .i64 (L1)), (590, rowT 1 stB (L2))])) (fun x_ => match x_ with | (i2, k2, R2, L2) => i2 ≤ ((rd0 s).h6.num 4).toNat ∧ R2 = itR Rdr.txtR i2 ((rd0 s).h6.numR 4) ∧ L2 = itL Rdr.txtB Rdr.txtR i2 ((rd0 s).h6.numR 4) ∧ L2.length = k2 ∧ k2 = i2) (fun x_ => match x_ with | (i2, k2, R2, L2) => ((rd0 s).h6.num 4).toNat - i2) (0, 0, ((((R1).numR 2147483647).txtR).numR 4), []) ⟨Nat.zero_le _, (by rw [hR1]; rfl), rfl, rfl, rfl⟩ (Wt [(590, 8)]) ?_
    rintro ⟨i2, k2, R2, L2⟩ hok
    obtain ⟨hi2, hR2, hL2, hk2, hki2⟩ := hok
    change VCode _ _ _ 591 (sl _) (en _) _
    refine Sq <| Rg <| Vs (Bi rfl) <| Nx <| Sq <| Cd rfl (fun hc2 => ?_) (fun hc2 => ?_)
    · replace hc2 := of_decide_eq_true hc2
      refine Ks <| Tg <| Sq <| Bk <| Rd (by kernel_rfl) <| Vl (Fa TF38_5 rfl) <| Vl (Ld TA35 rfl) <| Vl (Mv rfl) <| Gl [4] [] [(4, some (⟨2, [.b (.lit (.string (bytesOf ((R2).txtR).s))), vI .i64 (((R2).txtR).e)], true⟩))] rfl (w42 (r := R2)) rfl <| Vl (sq1 596 rfl (.buildS _ 1 _ 9 [.b (.lit (.string ((R2).txtB)))] 1 _ [.b (.lit (.string ((R2).txtB)))] rfl TU35 TZ9 TS9 (List.cons_ne_nil _ _) (by decide) rfl rfl)) <| Vl (Aq1 597 TU35 TS9 TB9 TN9 (x1 := (R2).txtB) (f := stB) rfl stB_len) <| Vl (Fa TF38_5 rfl) <| Vl (St TS35 rfl) <| ?_
      refine VLog.nil ⟨by kernel_rfl, ?_⟩
      exact Ig <| Tg <| Rg <| Vs (Bo rfl adI) <| Vs (Mv rfl) <| VList.nil <| Go (i2 + 1, k2 + 1, ((R2).txtR), (L2) ++ [(R2).txtB]) ⟨by omega, by rw [itR, ← hR2]; first | done | rfl, by rw [itL, ← hL2, ← hR2]; first | done | rfl, by rw [List.length_append, hk2]; first | done | rfl, by rw [hki2]; first | done | rfl⟩ (Wt [(590, 597)])
    · replace hc2 := of_decide_eq_false hc2
      refine Ke <| Te <| Oe <| Ih <| Tg <| Sq <| Sq <| ?_
      have hf2 : i2 = ((rd0 s).h6.num 4).toNat := by omega
      rw [hf2] at hR2 hL2
      have hn3 : (rd0 s).h7.num 4 = (R2).num 4 := by rw [hR2]; rfl
      refine Rg <| Vs (Mv rfl) <| Gm 593 [4] [] (v := vI .i64 (((R2).num 4))) [(0, ⟨11, [vI .i64 (0), vI .i64 (0), vI .i64 (0), vS ([]), vI .i64 (0), .b (.lit (.string ((⟨#[]⟩ : ByteArray)))), vS ([]), vS ([]), vI .i64 (0), vI .i64 (0), vI .i64 (0)], true⟩), (4, ⟨2, [.b (.lit (.string (bytesOf ((R2).numR 4).s))), vI .i64 (((R2).numR 4).e)], true⟩), (11, rowT 6 mvB ([])), (14, ⟨11, [vI .i64 (((rd0 s).num 2147483647)), vI .i64 ((((rd0 s).numR 2147483647).num 2147483647)), vI .i64 (((((rd0 s).numR 2147483647).numR 2147483647).num 2147483647)), .row 190 (k1) none, vI .i64 (((R1).num 2147483647)), .b (.lit (.string (((R1).numR 2147483647).txtB))), .row 590 (k2) none, .row 11 (0) none, vI .i64 (0), vI .i64 (0), vI .i64 (0)], true⟩), (190, rowK .i64 (L1)), (590, rowT 1 stB (L2))] rfl (w41 (r := R2) (m := 4)) rfl <| Vs (Mv rfl) <| Nx <| Bk <| VCode.loop (α := (Nat) × (Nat) × (Rdr) × (List Mov)) (fun x_ => match x_ with | (i3, k3, R3, L3) => (991, sl [(2, .ptr 0 (0)), (4, .ptr 4 (0)), (5, .ptr 14 (0)), (48, vI .i64 (((R2).num 4))), (49, vI .i64 ((i3 : Int)))], en [(0, ⟨11, [vI .i64 (0), vI .i64 (0), vI .i64 (0), vS ([]), vI .i64 (0), .b (.lit (.string ((⟨#[]⟩ : ByteArray)))), vS ([]), vS ([]), vI .i64 (0), vI .i64 (0), vI .i64 (0)], true⟩), (4, ⟨2, [.b (.lit (.string (bytesOf (R3).s))), vI .i64 ((R3).e)], true⟩), (14, ⟨11, [vI .i64 (((rd0 s).num 2147483647)), vI .i64 ((((rd0 s).numR 2147483647).num 2147483647)), vI .i64 (((((rd0 s).numR 2147483647).numR 2147483647).num 2147483647)), .row 190 (k1) none, vI .i64 (((R1).num 2147483647)), .b (.lit (.string (((R1).numR 2147483647).txtB))), .row 590 (k2) none, .row 990 (k3) none, vI .i64 (0), vI .i64 (0), vI .i64 (0)], true⟩), (190, rowK .i64 (L1)), (590, rowT 1 stB (L2)), (990, rowT 6 mvB (L3))])) (fun x_ => match x_ with | (i3, k3, R3, L3) => i3 ≤ ((rd0 s).h7.num 4).toNat ∧ R3 = itR Rdr.movR i3 ((rd0 s).h7.numR 4) ∧ L3 = itL Rdr.mov Rdr.movR i3 ((rd0 s).h7.numR 4) ∧ L3.length = k3 ∧ k3 = i3) (fun x_ => match x_ with | (i3, k3, R3, L3) => ((rd0 s).h7.num 4).toNat - i3) (0, 0, ((R2).numR 4), []) ⟨Nat.zero_le _, (by rw [hR2]; rfl), rfl, rfl, rfl⟩ (Wt [(990, 11)]) ?_
      rintro ⟨i3, k3, R3, L3⟩ hok
      obtain ⟨hi3, hR3, hL3, hk3, hki3⟩ := hok
      change VCode _ _ _ 991 (sl _) (en _) _
      refine Sq <| Rg <| Vs (Bi rfl) <| Nx <| Sq <| Cd rfl (fun hc3 => ?_) (fun hc3 => ?_)
      · replace hc3 := of_decide_eq_true hc3
        refine Ks <| Tg <| Sq <| Bk <| Rd (by kernel_rfl) <| Vl (Fa TF38_6 rfl) <| Vl (Ld TA36 rfl) <| Vl (Mv rfl) <| Gl [4] [] [(4, some (⟨2, [.b (.lit (.string (bytesOf ((R3).movR).s))), vI .i64 (((R3).movR).e)], true⟩))] rfl (w43 (r := R3)) rfl <| Vl (sq1 996 rfl (.buildS _ 1 _ 61 [.b (.agg [numB .i64 ((R3).mov.step), numB .i64 ((R3).mov.coord), boolB ((R3).mov.nn), u32S ((R3).mov.nm), boolB ((R3).mov.dn), u32S ((R3).mov.dm)])] 6 _ [vI .i64 ((R3).mov.step), vI .i64 ((R3).mov.coord), vB ((R3).mov.nn), vS ((R3).mov.nm), vB ((R3).mov.dn), vS ((R3).mov.dm)] rfl TU36 TZ61 TS61 (List.cons_ne_nil _ _) (by decide) rfl rfl)) <| Vl (Aq1 997 TU36 TS61 TB61 TN61 (x1 := (R3).mov) (f := mvB) rfl mvB_len) <| Vl (Fa TF38_6 rfl) <| Vl (St TS36 rfl) <| ?_
        refine VLog.nil ⟨by kernel_rfl, ?_⟩
        exact Ig <| Tg <| Rg <| Vs (Bo rfl adI) <| Vs (Mv rfl) <| VList.nil <| Go (i3 + 1, k3 + 1, ((R3).movR), (L3) ++ [(R3).mov]) ⟨by omega, by rw [itR, ← hR3]; first | done | rfl, by rw [itL, ← hL3, ← hR3]; first | done | rfl, by rw [List.length_append, hk3]; first | done | rfl, by rw [hki3]; first | done | rfl⟩ (Wt [(990, 997)])
      · replace hc3 := of_decide_eq_false hc3
        refine Ke <| Te <| Oe <| Ih <| Tg <| Sq <| ?_
        have hf3 : i3 = ((rd0 s).h7.num 4).toNat := by omega
        rw [hf3] at hR3 hL3
        refine Rg <| Vs (Mv rfl) <| Gm 993 [4] [] (v := vI .i64 (((R3).num 2147483647))) [(0, ⟨11, [vI .i64 (0), vI .i64 (0), vI .i64 (0), vS ([]), vI .i64 (0), .b (.lit (.string ((⟨#[]⟩ : ByteArray)))), vS ([]), vS ([]), vI .i64 (0), vI .i64 (0), vI .i64 (0)], true⟩), (4, ⟨2, [.b (.lit (.string (bytesOf ((R3).numR 2147483647).s))), vI .i64 (((R3).numR 2147483647).e)], true⟩), (14, ⟨11, [vI .i64 (((rd0 s).num 2147483647)), vI .i64 ((((rd0 s).numR 2147483647).num 2147483647)), vI .i64 (((((rd0 s).numR 2147483647).numR 2147483647).num 2147483647)), .row 190 (k1) none, vI .i64 (((R1).num 2147483647)), .b (.lit (.string (((R1).numR 2147483647).txtB))), .row 590 (k2) none, .row 990 (k3) none, vI .i64 (0), vI .i64 (0), vI .i64 (0)], true⟩), (190, rowK .i64 (L1)), (590, rowT 1 stB (L2)), (990, rowT 6 mvB (L3))] rfl (w41 (r := R3) (m := 2147483647)) rfl <| Vs (Mv rfl) <| Gm 995 [4] [] (v := vI .i64 ((((R3).numR 2147483647).num 2147483647))) [(0, ⟨11, [vI .i64 (0), vI .i64 (0), vI .i64 (0), vS ([]), vI .i64 (0), .b (.lit (.string ((⟨#[]⟩ : ByteArray)))), vS ([]), vS ([]), vI .i64 (0), vI .i64 (0), vI .i64 (0)], true⟩), (4, ⟨2, [.b (.lit (.string (bytesOf (((R3).numR 2147483647).numR 2147483647).s))), vI .i64 ((((R3).numR 2147483647).numR 2147483647).e)], true⟩), (14, ⟨11, [vI .i64 (((rd0 s).num 2147483647)), vI .i64 ((((rd0 s).numR 2147483647).num 2147483647)), vI .i64 (((((rd0 s).numR 2147483647).numR 2147483647).num 2147483647)), .row 190 (k1) none, vI .i64 (((R1).num 2147483647)), .b (.lit (.string (((R1).numR 2147483647).txtB))), .row 590 (k2) none, .row 990 (k3) none, vI .i64 (0), vI .i64 (0), vI .i64 (0)], true⟩), (190, rowK .i64 (L1)), (590, rowT 1 stB (L2)), (990, rowT 6 mvB (L3))] rfl (w41 (r := (R3).numR 2147483647) (m := 2147483647)) rfl <| Vs (Bd TQ34 rfl) <| Vs (Fa TF38_7 rfl) <| Vs (StS TS34 rfl) <| Nx <| Sq <| ?_
        have hr9 : ((R3.numR 2147483647).numR 2147483647).numR 2147483647 = (rd0 s).h9 := by rw [hR3]; rfl
        have hEE : (⟨(rd0 s).num M31, ((rd0 s).numR M31).num M31, (((rd0 s).numR M31).numR M31).num M31, L1, R1.num M31, (R1.numR M31).txtB, L2, L3, R3.num M31, (R3.numR M31).num M31, ((R3.numR M31).numR M31).num M31⟩ : Edt) = (rd0 s).edt := by rw [hL3, hL2, hL1, hR3, hR1]; rfl
        refine Rg <| Vs (Mv rfl) <| Gm 1000 [4] [] (v := vI .i64 (((((R3).numR 2147483647).numR 2147483647).num 2147483647))) [(0, ⟨11, [vI .i64 (0), vI .i64 (0), vI .i64 (0), vS ([]), vI .i64 (0), .b (.lit (.string ((⟨#[]⟩ : ByteArray)))), vS ([]), vS ([]), vI .i64 (0), vI .i64 (0), vI .i64 (0)], true⟩), (4, ⟨2, [.b (.lit (.string (bytesOf ((((R3).numR 2147483647).numR 2147483647).numR 2147483647).s))), vI .i64 (((((R3).numR 2147483647).numR 2147483647).numR 2147483647).e)], true⟩), (14, ⟨11, [vI .i64 (((rd0 s).num 2147483647)), vI .i64 ((((rd0 s).numR 2147483647).num 2147483647)), vI .i64 (((((rd0 s).numR 2147483647).numR 2147483647).num 2147483647)), .row 190 (k1) none, vI .i64 (((R1).num 2147483647)), .b (.lit (.string (((R1).numR 2147483647).txtB))), .row 590 (k2) none, .row 990 (k3) none, vI .i64 (((R3).num 2147483647)), vI .i64 ((((R3).numR 2147483647).num 2147483647)), vI .i64 (0)], true⟩), (190, rowK .i64 (L1)), (590, rowT 1 stB (L2)), (990, rowT 6 mvB (L3))] rfl (w41 (r := ((R3).numR 2147483647).numR 2147483647) (m := 2147483647)) rfl <| Vs (Fa TF38_8 rfl) <| Vs (St TS3 rfl) <| VList.nil <| Cx (n1 := 15) (S1 := [(2, .ptr 0 (0)), (4, .ptr 4 (0)), (5, .ptr 14 (0))]) (L1 := [(0, ⟨11, [vI .i64 (0), vI .i64 (0), vI .i64 (0), vS ([]), vI .i64 (0), .b (.lit (.string ((⟨#[]⟩ : ByteArray)))), vS ([]), vS ([]), vI .i64 (0), vI .i64 (0), vI .i64 (0)], true⟩), (4, ⟨2, [.b (.lit (.string (bytesOf ((((R3).numR 2147483647).numR 2147483647).numR 2147483647).s))), vI .i64 (((((R3).numR 2147483647).numR 2147483647).numR 2147483647).e)], true⟩), (14, ⟨11, [vI .i64 (((rd0 s).num 2147483647)), vI .i64 ((((rd0 s).numR 2147483647).num 2147483647)), vI .i64 (((((rd0 s).numR 2147483647).numR 2147483647).num 2147483647)), .b (slK .i64 (L1)), vI .i64 (((R1).num 2147483647)), .b (.lit (.string (((R1).numR 2147483647).txtB))), .b (slT 1 stB (L2)), .b (slT 6 mvB (L3)), vI .i64 (((R3).num 2147483647)), vI .i64 ((((R3).numR 2147483647).num 2147483647)), vI .i64 (((((R3).numR 2147483647).numR 2147483647).num 2147483647))], true⟩)]) (Weak.conv (nv := [190, 590, 990]) ⟨⟨⟨_, rfl, .inl rfl⟩, rfl⟩, ⟨⟨_, rfl, .inl rfl⟩, rfl⟩, ⟨⟨_, rfl, .inl rfl⟩, rfl⟩, trivial⟩ ⟨⟨⟨_, rfl, rfl, rfl, ⟨.inl rfl, .inl rfl, .inl rfl, .inl rfl, .inl rfl, .inl rfl, .inl rfl, .inl rfl, .inl rfl, .inl rfl, .inl rfl, trivial⟩⟩, Nat.le_of_ble_eq_true rfl, cells_of rfl⟩, ⟨⟨_, rfl, rfl, rfl, ⟨.inl rfl, .inl rfl, trivial⟩⟩, Nat.le_of_ble_eq_true rfl, cells_of rfl⟩, ⟨⟨_, rfl, rfl, rfl, ⟨.inl rfl, .inl rfl, .inl rfl, (cv_rw rfl (by first | omega | (simp; done) | (simp; omega))), .inl rfl, .inl rfl, (cv_rwT stB_len rfl (by first | omega | (simp; done) | (simp; omega))), (cv_rwT mvB_len rfl (by first | omega | (simp; done) | (simp; omega))), .inl rfl, .inl rfl, .inl rfl, trivial⟩⟩, Nat.le_of_ble_eq_true rfl, cells_of rfl⟩, trivial⟩ (Nat.le_of_ble_eq_true rfl)) <| VCode.join (α := (Rdr)) (fun F => (15, sl [(2, .ptr 0 (0)), (4, .ptr 4 (0)), (5, .ptr 14 (0))], en [(0, ⟨11, [vI .i64 (0), vI .i64 (0), vI .i64 (0), vS ([]), vI .i64 (0), .b (.lit (.string ((⟨#[]⟩ : ByteArray)))), vS ([]), vS ([]), vI .i64 (0), vI .i64 (0), vI .i64 (0)], true⟩), (4, ⟨2, [.b (.lit (.string (bytesOf (F).s))), vI .i64 ((F).e)], true⟩), (14, ⟨11, [vI .i64 (((rd0 s).num 2147483647)), vI .i64 ((((rd0 s).numR 2147483647).num 2147483647)), vI .i64 (((((rd0 s).numR 2147483647).numR 2147483647).num 2147483647)), .b (slK .i64 (L1)), vI .i64 (((R1).num 2147483647)), .b (.lit (.string (((R1).numR 2147483647).txtB))), .b (slT 1 stB (L2)), .b (slT 6 mvB (L3)), vI .i64 (((R3).num 2147483647)), vI .i64 ((((R3).numR 2147483647).num 2147483647)), vI .i64 (((((R3).numR 2147483647).numR 2147483647).num 2147483647))], true⟩)])) (fun F => F = (rd0 s).fin) ?_ ?_
        · skip
          refine Sq <| Rg <| Vs (Mv rfl) <| Vs (Nk rfl) <| Vs (Fa TF87_1 rfl) <| Vs (Ld TA29 rfl) <| Vs (Bi rfl) <| Vs (Mv rfl) <| Sp 73 rfl (fun hc4 => ?_) (fun hc4 => ?_)
          · replace hc4 := eq_of_beq hc4
            refine Vs (Mv rfl) <| Vs (Nk rfl) <| Vs (Fa TF87_0 rfl) <| Vs (Ld TA9 rfl) <| Vs (Bi rfl) <| Vs (Mv rfl) <| Sp 79 rfl (fun hc5 => ?_) (fun hc5 => ?_)
            · replace hc5 := strEq_f (bnot_t hc5)
              exact Sk rfl <| Sk rfl <| Sk rfl <| Vs (Pk rfl) <| Vs (Pk rfl) <| Nx <| Cy rfl <| Rg <| Vs (Mv rfl) <| Gm 33 [4] [] (v := .b (.tup [])) [(0, ⟨11, [vI .i64 (0), vI .i64 (0), vI .i64 (0), vS ([]), vI .i64 (0), .b (.lit (.string ((⟨#[]⟩ : ByteArray)))), vS ([]), vS ([]), vI .i64 (0), vI .i64 (0), vI .i64 (0)], true⟩), (4, ⟨2, [.b (.lit (.string (bytesOf (((((R3).numR 2147483647).numR 2147483647).numR 2147483647).fail 3).s))), vI .i64 ((((((R3).numR 2147483647).numR 2147483647).numR 2147483647).fail 3).e)], true⟩), (14, ⟨11, [vI .i64 (((rd0 s).num 2147483647)), vI .i64 ((((rd0 s).numR 2147483647).num 2147483647)), vI .i64 (((((rd0 s).numR 2147483647).numR 2147483647).num 2147483647)), .b (slK .i64 (L1)), vI .i64 (((R1).num 2147483647)), .b (.lit (.string (((R1).numR 2147483647).txtB))), .b (slT 1 stB (L2)), .b (slT 6 mvB (L3)), vI .i64 (((R3).num 2147483647)), vI .i64 ((((R3).numR 2147483647).num 2147483647)), vI .i64 (((((R3).numR 2147483647).numR 2147483647).num 2147483647))], true⟩)] rfl (w44 (r := (((R3).numR 2147483647).numR 2147483647).numR 2147483647) (3)) rfl <| VList.nil <| Jg ((((((R3).numR 2147483647).numR 2147483647).numR 2147483647).fail 3)) (by rw [fin_a (by rw [← hr9]; exact hc4) (.inl (by rw [← hr9]; exact fun h => hc5 (bytesOf_nil.2 h))), hr9]) Wk
            · replace hc5 := strEq_t (bnot_f hc5)
              refine Vs (LdS TA38 TS38 rfl) <| Vs (Cf rfl rfl (m36 (e := ⟨(rd0 s).num M31, ((rd0 s).numR M31).num M31, (((rd0 s).numR M31).numR M31).num M31, L1, R1.num M31, (R1.numR M31).txtB, L2, L3, R3.num M31, (R3.numR M31).num M31, ((R3.numR M31).numR M31).num M31⟩) (hEE ▸ edt_ok _)) rfl) <| Vs (Un rfl) <| Vs (Pk rfl) <| Vs (Pk rfl) <| Nx <| Cd rfl (fun hc6 => ?_) (fun hc6 => ?_)
              · replace hc6 := (bnot_t hc6)
                exact Rg <| Vs (Mv rfl) <| Gm 33 [4] [] (v := .b (.tup [])) [(0, ⟨11, [vI .i64 (0), vI .i64 (0), vI .i64 (0), vS ([]), vI .i64 (0), .b (.lit (.string ((⟨#[]⟩ : ByteArray)))), vS ([]), vS ([]), vI .i64 (0), vI .i64 (0), vI .i64 (0)], true⟩), (4, ⟨2, [.b (.lit (.string (bytesOf (((((R3).numR 2147483647).numR 2147483647).numR 2147483647).fail 3).s))), vI .i64 ((((((R3).numR 2147483647).numR 2147483647).numR 2147483647).fail 3).e)], true⟩), (14, ⟨11, [vI .i64 (((rd0 s).num 2147483647)), vI .i64 ((((rd0 s).numR 2147483647).num 2147483647)), vI .i64 (((((rd0 s).numR 2147483647).numR 2147483647).num 2147483647)), .b (slK .i64 (L1)), vI .i64 (((R1).num 2147483647)), .b (.lit (.string (((R1).numR 2147483647).txtB))), .b (slT 1 stB (L2)), .b (slT 6 mvB (L3)), vI .i64 (((R3).num 2147483647)), vI .i64 ((((R3).numR 2147483647).num 2147483647)), vI .i64 (((((R3).numR 2147483647).numR 2147483647).num 2147483647))], true⟩)] rfl (w44 (r := (((R3).numR 2147483647).numR 2147483647).numR 2147483647) (3)) rfl <| VList.nil <| Jg ((((((R3).numR 2147483647).numR 2147483647).numR 2147483647).fail 3)) (by rw [fin_a (by rw [← hr9]; exact hc4) (.inr (by rw [← hEE]; assumption)), hr9]) Wk
              · replace hc6 := (bnot_f hc6)
                exact Ks <| Jg (((((R3).numR 2147483647).numR 2147483647).numR 2147483647)) (by rw [fin_b (by rw [← hr9]; exact hc4) (by rw [← hr9]; exact bytesOf_nil.1 (by assumption)) (by rw [← hEE]; assumption), hr9]) Wk
          · replace hc4 := ne_of_beq_false hc4
            exact Sk rfl <| Sk rfl <| Sk rfl <| Sk rfl <| Sk rfl <| Sk rfl <| Sk rfl <| Sk rfl <| Sk rfl <| Sk rfl <| Vs (Pk rfl) <| Nx <| Cz rfl <| Ks <| Jg (((((R3).numR 2147483647).numR 2147483647).numR 2147483647)) (by rw [fin_c (by rw [← hr9]; exact hc4), hr9]) Wk
        · intro F hF
          change VCode _ _ _ 15 (sl _) (en _) _
          refine Sq <| Sq <| Rg <| Vs (Mv rfl) <| Vs (Nk rfl) <| Vs (Fa TF87_1 rfl) <| Vs (Ld TA29 rfl) <| Vs (Bi rfl) <| Nx <| Cd rfl (fun hc7 => ?_) (fun hc7 => ?_)
          · replace hc7 := bne_iff_ne.1 hc7
            refine Sq <| Rd (by kernel_rfl) <| Vl (BdM TQ38 rfl) <| Vl (Mv rfl) <| Vl (Nk rfl) <| Vl (Fa TF87_1 rfl) <| Vl (Ld TA29 rfl) <| Vl (StS TS38 rfl) <| Vl (As rfl) <| ?_
            refine VLog.nil ⟨by kernel_rfl, ?_⟩
            exact Tg <| Re <| Tr <| Px (n1 := 1) (S2 := [(2, .ptr 0 (0)), (3, vI .i64 ((F).e))]) (L2 := [(0, ⟨11, [vI .i64 (0), vI .i64 (0), vI .i64 (0), .b (slK .i64 ([])), vI .i64 (0), .b (.lit (.string ((⟨#[]⟩ : ByteArray)))), .b (slT 1 stB ([])), .b (slT 6 mvB ([])), vI .i64 (0), vI .i64 (0), vI .i64 (0)], true⟩)]) (Weak.conv (nv := []) ⟨⟨⟨_, rfl, .inl rfl⟩, rfl⟩, ⟨⟨_, rfl, .inl rfl⟩, rfl⟩, trivial⟩ ⟨⟨⟨_, rfl, rfl, rfl, ⟨.inl rfl, .inl rfl, .inl rfl, (cv_nil rfl), .inl rfl, .inl rfl, (cv_nil rfl), (cv_nil rfl), .inl rfl, .inl rfl, .inl rfl, trivial⟩⟩, Nat.le_of_ble_eq_true rfl, cells_of rfl⟩, trivial⟩ (Nat.le_of_ble_eq_true rfl)) <| Gg (L1' := []) [] (.val _ _ _ _ _ (resV_cellS rfl rfl TA38 TS38 (Nat.le_of_ble_eq_true rfl)) rfl rfl (.val _ _ _ _ _ rfl rfl rfl .nil)) (.vals _ [.agg [numB .i64 (0), numB .i64 (0), numB .i64 (0), slK .i64 ([]), numB .i64 (0), .lit (.string ((⟨#[]⟩ : ByteArray))), slT 1 stB ([]), slT 6 mvB ([]), numB .i64 (0), numB .i64 (0), numB .i64 (0)], numB .i64 ((F).e)] rfl rfl) (by rw [decQ_a (show ¬ decE s = 0 from by unfold decE; rw [← hF]; assumption), show decE s = F.e from by unfold decE; rw [hF]]; first | done | rfl) rfl
          · replace hc7 := bne_eq_false_iff_eq.1 hc7
            exact Ks <| Tg <| Sq <| Rg <| Vs (LdS TA38 TS38 rfl) <| Vs (StS TS38 rfl) <| Vs (As rfl) <| Nx <| Re <| Pw <| Gg (L1' := []) [] (.val _ _ _ _ _ (resV_cellS rfl rfl TA38 TS38 (Nat.le_of_ble_eq_true rfl)) rfl rfl (.val _ _ _ _ _ rfl rfl rfl .nil)) (.vals _ [.agg [numB .i64 (((rd0 s).num 2147483647)), numB .i64 ((((rd0 s).numR 2147483647).num 2147483647)), numB .i64 (((((rd0 s).numR 2147483647).numR 2147483647).num 2147483647)), slK .i64 (L1), numB .i64 (((R1).num 2147483647)), .lit (.string (((R1).numR 2147483647).txtB)), slT 1 stB (L2), slT 6 mvB (L3), numB .i64 (((R3).num 2147483647)), numB .i64 ((((R3).numR 2147483647).num 2147483647)), numB .i64 (((((R3).numR 2147483647).numR 2147483647).num 2147483647))], numB .i64 (0)] rfl rfl) (by rw [decQ_b (show decE s = 0 from by unfold decE; rw [← hF]; omega), show decE s = 0 from by unfold decE; rw [← hF]; omega, ← hEE]; first | done | rfl) rfl
end Go.VL

/- Arrays that are built of their parts. -/
set_option linter.unusedVariables false
set_option linter.unusedSimpArgs false
namespace Go.VL
open Go.Proofs
section
variable {P : Program} {w0 W : World} {P0 : Nat → Prop} {E0 E : Env} {pl0 pl : Plan} {N : Frm} {id : Nat} {s : Slots} {a : Act} {o : Oper} {K : Act → World → Prop} {Qx : Exit → Act → World → Prop}
theorem eff_buildA {T el : TypeId} {m : Nat} {parts : Array (Nat × Operand)} {vs cs : List V} {z : List B} (h : evs s (parts.toList.map (·.2)) = some vs) (hz : zeroOf P T = some z) (hu : P.underlying T = some (.array m el)) (hs : szOf P el = some 1)
    (hc : putParts (fun k => some (k * 1, 1)) ((parts.toList.map (·.1)).zip vs) (z.map .b) = some cs) (ho : o.op = .build T parts)
    (S : Sim w0 P0 E0 pl0 N E pl s a W) (hf : pl id = none) (hK : Next w0 P0 E0 pl0 pl N id s a o K E (.agg cs)) : Oper.wp P o a W K Qx := by
  obtain ⟨i, zv, hi, hz1, hz2⟩ := zeroOf_runL hz
  obtain ⟨p1, p2⟩ := parts_rep S h
  obtain ⟨cs', c1, c2⟩ := fill_rep hc p1 p2 (zero_csL W (Qf (FF w0 P0) E pl) pl hz2)
  obtain ⟨ie, hie, hsz⟩ := info_of_sz hs
  have hbuilt : P.built T (parts.map fun (i, x) => (i, a.eval x)).toList = some cs' := by
    unfold Program.built
    simp only [hi, hu, hz1, hie, hsz]
    exact c1
  refine wp_val (v := .agg cs) (u := .agg cs') S hf ?_ ⟨cs', rfl, c2.1, c2.2⟩ hK
  simp [execOp, ho, run_build (P := P) W T _ cs' hbuilt]
end
section
variable {P : Program} {w0 W W1 : World} {P0 F : Nat → Prop} {E0 E E1 : Env} {pl0 pl pl1 : Plan} {N : Frm} {id : Nat} {s : Slots} {a : Act} {o : Oper} {K : Act → World → Prop} {Qx : Exit → Act → World → Prop}
theorem eff_buildR {T el : TypeId} {len sz : Nat} {parts : Array (Nat × Operand)} {vs cs : List V} {z : List B} (h : evs s (parts.toList.map (·.2)) = some vs) (hu : P.underlying T = some (.slice el)) (hz : zeroOf P el = some z) (hs : szOf P el = some z.length)
    (h0 : z ≠ []) (hm : len * z.length ≤ 16777216) (hsz : sz = z.length) (hc : putParts (fun k => some (k * sz, sz)) ((parts.toList.map (·.1)).zip vs) (((List.replicate len z).flatten).map .b) = some cs) (ho : o.op = .buildSlice T len parts)
    (S : Sim w0 P0 E0 pl0 N E pl s a W) (hf : pl id = none) (hK : Next w0 P0 E0 pl0 pl N id s a o K (setAt E id (some ⟨sz, cs, true⟩)) (.row id len (some len))) : Oper.wp P o a W K Qx := by
  subst hsz
  obtain ⟨i, zv, hi, hz1, hz2⟩ := zeroOf_run hz
  obtain ⟨p1, p2⟩ := parts_rep S h
  obtain ⟨q1, q2⟩ := zero_cs (T := el) (i := i) W (Qf (FF w0 P0) E pl) pl hz2
  simp only [List.length_map] at q1
  have hpos : 0 < z.length := List.length_pos_iff.2 h0
  have hlen : ((List.replicate len z).flatten).length = len * z.length := by simp
  have hstart : RepCs W (Qf (FF w0 P0) E pl) pl ((Array.range (len * z.length)).map (zv.cells[· % zv.cells.size]!)) (((List.replicate len z).flatten).map .b) := by
    refine ⟨by simp, fun j x hj => ?_⟩
    simp only [List.getElem?_map, Option.map_eq_some_iff] at hj
    obtain ⟨y, hy, rfl⟩ := hj
    have hjl : j < len * z.length := by
      have := (List.getElem?_eq_some_iff.1 hy).1
      rwa [hlen] at this
    rw [madeZ z len j hjl] at hy
    obtain ⟨u, hu1, hu2, hu3⟩ := q2 (j % z.length) (.b y) (by simp [hy])
    refine ⟨u, ?_, hu2, hu3⟩
    rw [← q1] at hu1
    have h5 : zv.cells[j % zv.cells.size]! = u := by rw [getElem!_def, hu1]
    simp [hjl, h5]
  obtain ⟨cs', c1, c2⟩ := fill_rep hc p1 p2 hstart
  have hsize : cs.length = len * z.length := by
    have gen : ∀ {ks : List (Nat × V)} {l l' : List V}, putParts (fun k => some (k * z.length, z.length)) ks l = some l' → l'.length = l.length := by
      intro ks
      induction ks with
      | nil => intro l l' h; simp [putParts] at h; rw [h]
      | cons p ks ih =>
        intro l l' h
        obtain ⟨k, v⟩ := p
        simp only [putParts] at h
        split at h
        · rename_i hok
          rw [ih h]
          simp
          omega
        · cases h
    rw [gen hc]; simp
  refine wp_new (v := .row id len (some len)) (cur := cs') (T := el) (c := len) (u := .slice (some ⟨W.heap.size, 0, none⟩) len len) S hf ?_ (by rw [c2.1, hsize]) (by rw [c2.1]; exact Nat.le_refl _) (by
      have : len ≤ len * z.length := Nat.le_mul_of_pos_right _ hpos
      simp only [maxLen]; omega) hpos c2.2 (fun Q => .inr ⟨W.heap.size, len, by simp, Nat.le_refl _, rfl, fun q h => by injection h with h; exact h.symm⟩) hK
  have hm' : ¬ (2 ^ 24 < len * z.length) := by omega
  have c1' : Instr.fill (fun i => some (i * z.length, z.length)) ((Array.range (len * z.length)).map (zv.cells[· % zv.cells.size]!)) (List.map (fun x : Nat × Operand => (x.fst, a.eval x.snd)) parts.toList) = some cs' := by
    rw [← c1]; simp only [Array.toList_map]
  by_cases hl0 : len * z.length = 0
  · have hlen0 : len = 0 := by
      rcases Nat.mul_eq_zero.1 hl0 with h | h
      · exact h
      · omega
    subst hlen0
    have hr0 : Array.range 0 = #[] := rfl
    simp only [Nat.zero_mul, hr0, Array.map_empty] at c1'
    have c1'' : Instr.fill (fun i => some (i * z.length, z.length)) (#[] : Array Value) (List.map (fun x : Nat × Operand => (x.fst, a.eval x.snd)) parts.toList) = some cs' := by rw [← c1']
    simp [execOp, ho, Instr.buildSlice, run_underlying hu, run_sizeOf hs, newRow, World.alloc_eq, hr0, c1'']
  · simp [execOp, ho, Instr.buildSlice, run_underlying hu, run_sizeOf hs, hl0, hm', hi, hz1, zeroValue, typeInfo, newRow, World.alloc_eq]
    rw [c1']
    simp [World.alloc_eq]
end
theorem Eff.convC {P : Program} {id : Nat} {s : Slots} {E : Env} {T el : TypeId} {x : Operand} {i m : Nat} {L : List Int} (hx : ev s x = some (.row i m (some m))) (he : E i = some (rowK .u8 L)) (hl : L.length = m) (h0 : L ≠ []) (hu : P.underlying T = some (.slice el)) (hel : P.underlying el = some (.int .u8)) :
    Eff P id s E (.convert T T x) (some (.cut 1 (L.map (numB .u8)))) [(i, none)] :=
  .sem _ _ _ fun s' E' k1 k2 w0 W P0 E0 pl0 pl N a o K Qx ho S hf hK => by
    have hx' : ev s' x = some (.row i m (some m)) := by rw [← k1 x (by simp [Op.operands])]; exact hx
    have he' : E' i = some (rowK .u8 L) := by rw [← k2 i (mem_idsOf hx (by simp [V.ids, V.names]))]; exact he
    have hlen : 0 < L.length := List.length_pos_iff.2 h0
    obtain ⟨g, c, hp, hmc, hxv, hcm⟩ : ∃ g c', pl i = some (g, c') ∧ m ≤ c' ∧ a.eval x = .slice (some ⟨g, 0, none⟩) m c' ∧ m = c' := by
      rcases (show RowRep pl i m (some m) (a.eval x) from S.ev hx') with ⟨h, _⟩ | ⟨g, c, h1, h2, h3, h4⟩
      · cases h
      · exact ⟨g, c, h1, h2, h3, h4 m rfl⟩
    obtain ⟨c1, cur, T0, rfl, _, q2, q3, q4, q5, q6, q7, q8⟩ := (S.eok.ent i _ he').pos hp (.inl (by simpa [rowK] using hlen))
    have hX : Hot E' pl g := ⟨i, _, c1, he', rfl, hp⟩
    have hg : g < W.heap.size := (Array.getElem?_eq_some_iff.1 q2).1
    have hsh : W.shape? g = some (T0, cur.size) := by unfold World.shape?; rw [q2]
    obtain ⟨W1, hW1⟩ : ∃ W1, W.freeze ⟨g, cur.size, none⟩ 1 = W1 := ⟨_, rfl⟩
    have hW1' : W1 = { W with heap := W1.heap } := by rw [← hW1]; unfold World.freeze; rw [if_neg (by decide)]
    have hheap : ∀ k, k ≠ g → W1.heap[k]? = W.heap[k]? := fun k hk => by
      rw [← hW1]; unfold World.freeze; rw [if_neg (by decide)]
      show (W.heap.modify g _)[k]? = _
      rw [Array.getElem?_modify, if_neg (fun h => hk h.symm)]
    have hsize : W1.heap.size = W.heap.size := by
      rw [← hW1]; unfold World.freeze; rw [if_neg (by decide)]
      show (W.heap.modify g _).size = _
      simp
    have hat : W1.heap[g]? = some (.cells cur T0 (cur.size, cur.size + 1)) := by
      rw [← hW1]; unfold World.freeze; rw [if_neg (by decide)]
      show (W.heap.modify g _)[g]? = _
      rw [Array.getElem?_modify, if_pos rfl, q2]; rfl
    have hrun : (execOp a.eval o).run P W = .ok (.value (.slice (some ⟨g, 0, none⟩) m (c1 + 1))) W1 := by
      simp [execOp, ho, hxv, convert, run_underlying hu, run_underlying hel, markStringish, hsh, hW1]
    have hh : ∀ k, Hot (setAt E' i none) pl k → Hot E' pl k ∨ W.heap.size ≤ k := fun k hk => .inl (hot_drop hk)
    have hng : ¬ Hot (setAt E' i none) pl g := fun hk => by
      obtain ⟨j, e, c, h1, h2, h3⟩ := hk
      by_cases hj : j = i
      · subst hj; rw [setAt_self] at h1; cases h1
      · rw [setAt_ne _ _ hj] at h1
        exact hj (S.eok.inj j i e _ g c c1 h1 he' h3 hp)
    have S1 : Sim w0 P0 E0 pl0 N (setAt E' i none) pl s' a W1 := by
      refine S.step (fun k => k = g) (by rw [hW1']) (by rw [hW1']) (by rw [hW1']) (Nat.le_of_eq hsize.symm) (fun k _ hk => hheap k hk) (fun k h => h ▸ hX) (fun _ _ h => h) hh ⟨fun j e' hj => ?_, fun j j' e1 e2 g1 c1' c2 hi hj pi pj => ?_⟩
      · by_cases h : j = i
        · subst h; rw [setAt_self] at hj; cases hj
        · rw [setAt_ne _ _ h] at hj
          exact (S.eok.ent j e' hj).move (fun k => k = g) (fun k _ hk => hheap k hk) (fun k h => h ▸ hX) (fun _ _ h => h) hh (fun g' c' hp' hgg => by
            subst hgg
            exact h (S.eok.inj j i e' _ g' c' c1 hj he' hp' hp))
      · have old : ∀ (j : Nat) (e1 : Ent), setAt E' i none j = some e1 → E' j = some e1 := fun j e1 h => by
          by_cases hji : j = i
          · subst hji; rw [setAt_self] at h; cases h
          · rwa [setAt_ne _ _ hji] at h
        exact S.eok.inj j j' e1 e2 g1 c1' c2 (old _ _ hi) (old _ _ hj) pi pj
    unfold Oper.wp
    rw [hrun]
    refine hK _ pl W1 S1 (fun k hk h => h) ?_
    have hce : ∀ (j : Nat) (x : B), (L.map (numB .u8))[j]? = some x → ∃ u : Value, cur[j]? = some u ∧ u.oneCell' = true ∧ RepB W (Qf (FF w0 P0) E' pl) x u := fun j x hj => q8 j (.b x) (by
      rw [List.getElem?_map, Option.map_eq_some_iff] at hj
      obtain ⟨y, hy, rfl⟩ := hj
      simp [rowK, hy])
    refine ⟨RepB.sl ⟨g, 0, none⟩ m (c1 + 1) 1 (L.map (numB .u8)) (fun j => cur.getD j default) (by simp [hl]) hmc q6 (by decide) (fun _ => ⟨q3, hng⟩) (fun j hj => ?_) (fun j hj => ?_) (fun j x hj => ?_), some ⟨g, 0, none⟩, m, c1 + 1, rfl, .inl hcm.symm⟩
    · have hj' : j < cur.size := by simp [rowK] at q5 hj; omega
      rw [add_plain]
      unfold World.cell?
      simp [hat, hj']
    · obtain ⟨u, hu1, hu2, _⟩ := hce j _ (List.getElem?_eq_getElem hj)
      have hj' := (Array.getElem?_eq_some_iff.1 hu1)
      obtain ⟨hlt, rfl⟩ := hj'
      simp [hlt] ; exact hu2
    · obtain ⟨u, hu1, _, hu3⟩ := hce j x hj
      obtain ⟨hlt, rfl⟩ := Array.getElem?_eq_some_iff.1 hu1
      have : cur.getD j default = cur[j] := by simp [hlt]
      rw [this]
      exact hu3.move (fun k hk _ => hheap k (fun h => hk.2 (h ▸ hX))) (fun k hk _ => ⟨hk.1, fun h => hk.2 (hot_drop h)⟩)
section
variable {P : Program} {id n d : Nat} {s : Slots} {E : Env} {ops : Array Oper} {o : Oper} {T el : TypeId}
theorem Eff.buildA {m : Nat} {parts : Array (Nat × Operand)} {vs cs : List V} {z : List B} (h : evs s (parts.toList.map (·.2)) = some vs) (hz : zeroOf P T = some z) (hu : P.underlying T = some (.array m el)) (hs : szOf P el = some 1)
    (hc : putParts (fun k => some (k * 1, 1)) ((parts.toList.map (·.1)).zip vs) (z.map .b) = some cs) : Eff P id s E (.build T parts) (some (.agg cs)) [] :=
  .sem _ _ _ fun s' E' k1 k2 w0 W P0 E0 pl0 pl N a o K Qx ho S hf hK =>
    eff_buildA (by rw [← h, evs_congr (fun x hx => (k1 x (by simpa [Op.operands] using hx)).symm)]) hz hu hs hc ho S hf hK
theorem BdA {m : Nat} {parts : Array (Nat × Operand)} {z : List B} {vs cs : List V} (hz : zeroOf P T = some z) (hu : P.underlying T = some (.array m el)) (hs : szOf P el = some 1)
    (h : (runs ops s o.guard, o.dst, o.op, evs s (parts.toList.map (·.2)), putParts (fun k => some (k * 1, 1)) ((parts.toList.map (·.1)).zip vs) (z.map .b)) = (some true, some d, .build T parts, some vs, some cs)) :
    Stp P ops o n s E (n + 1) (setAt s d (some (.agg cs))) E [] := by
  simp only [Prod.mk.injEq] at h
  exact st0 h.1 h.2.1 (h.2.2.1 ▸ Eff.buildA h.2.2.2.1 hz hu hs h.2.2.2.2)
theorem Eff.buildR {len sz : Nat} {parts : Array (Nat × Operand)} {vs cs : List V} {z : List B} (h : evs s (parts.toList.map (·.2)) = some vs) (hu : P.underlying T = some (.slice el)) (hz : zeroOf P el = some z) (hs : szOf P el = some z.length)
    (h0 : z ≠ []) (hm : len * z.length ≤ 16777216) (hsz : sz = z.length) (hc : putParts (fun k => some (k * sz, sz)) ((parts.toList.map (·.1)).zip vs) (((List.replicate len z).flatten).map .b) = some cs) :
    Eff P id s E (.buildSlice T len parts) (some (.row id len (some len))) [(id, some ⟨sz, cs, true⟩)] :=
  .sem _ _ _ fun s' E' k1 k2 w0 W P0 E0 pl0 pl N a o K Qx ho S hf hK =>
    eff_buildR (by rw [← h, evs_congr (fun x hx => (k1 x (by simpa [Op.operands] using hx)).symm)]) hu hz hs h0 hm hsz hc ho S hf hK
end
section
variable {P : Program} {ops : Array Oper} {o : Oper} {n d i m : Nat} {s : Slots} {E : Env} {x y : Operand} {T el : TypeId} {D L : List Int}
theorem TcC {by' : Nat} (K : SlT P T el (numB .u8 0) by') (hel : P.underlying el = some (.int .u8)) (h : (runs ops s o.guard, o.dst, o.op, ev s x, E i) = (some true, some d, .convert T T x, some (.row i m (some m)), some (rowK .u8 L))) (h0 : L ≠ [] := by simp) (hl : L.length = m := by first | omega | (simp; done) | (simp; omega)) :
    Stp P ops o n s E (n + 1) (setAt s d (some (.cut 1 (L.map (numB .u8))))) (setAt E i none) [i] := by
  simp only [Prod.mk.injEq] at h; exact st1 h.1 h.2.1 (h.2.2.1 ▸ Eff.convC h.2.2.2.1 h.2.2.2.2 hl h0 K.u hel)
theorem AcB {j m' : Nat} (q : Nat) {by' : Nat} (K : SlT P T el (numB .u8 0) by')
    (h : (n, runs ops s o.guard, o.dst, o.op, ev s x, ev s y, E j) = (q, some true, some d, .call { callee := .builtin .append, args := #[x, y], argTypes := #[T, T] }, some (.cut 1 (D.map (numB .u8))), some (.own j m'), some (rowK .u8 L)))
    (hl : L.length = m') (h0 : 1 < m') (hm : (D.length + m') * by' ≤ 140737488355328 ∧ D.length + m' ≤ maxLen) :
    Stp P ops o n s E (q + 1) (setAt s d (some (.own q (D.length + m')))) (setAt E q (some (rowK .u8 (D ++ L)))) [q] := by
  have := Ac (P := P) (ops := ops) (o := o) (n := n) (s := s) (E := E) (d := d) (x := x) (y := y) (T := T) (m := D.length) (m' := m') q K.u K.s K.b (by rw [K.z]; rfl) h (by simp) rfl (by simp [rowK, hl]) ⟨by omega, fun _ => h0⟩ hm.1 hm.2
  have e : (some ⟨1, (D.map (numB .u8)).map .b ++ (rowK .u8 L).cells.take (m' * 1), true⟩ : Option Ent) = some (rowK .u8 (D ++ L)) := by
    rw [Nat.mul_one, List.take_of_length_le (by simp [rowK, hl])]
    simp [rowK]
  rw [e] at this
  exact this
end
section
variable {P : Program} {ops : Array Oper} {o : Oper} {n d by' : Nat} {s : Slots} {E : Env} {x lo : Operand} {T el : TypeId} {z' : B} {ik ik' : IntKind} {L : List Int} {a : Int}
theorem CfB (K : SlT P T el z' by') (h : (runs ops s o.guard, o.dst, o.op, ev s x, ev s lo) = (some true, some d, .slice T x (some lo) none none, some (.b (slK ik L)), some (vI ik' a))) (h0 : 0 ≤ a := by omega) (h1 : a ≤ L.length := by omega) :
    Stp P ops o n s E (n + 1) (setAt s d (some (.b (slK ik (L.drop a.toNat))))) E [] := by
  simp only [Prod.mk.injEq] at h; obtain ⟨h2, h3, h4, h5, h6⟩ := h
  refine st0 h2 h3 (h4 ▸ ?_)
  have := Eff.slSl (P := P) (id := n) (E := E) T x (some lo) none 1 (L.map (numB ik)) el ik' ik' a _ h5 K.u K.s (.inr ⟨lo, rfl, h6⟩) (.inl ⟨rfl, rfl⟩) h0 (by simp; omega) (by simp)
  simp only [Nat.mul_one, Nat.div_one, Int.toNat_natCast, List.take_length, ← List.map_drop] at this
  exact this
end
/-- The bytes of a string, in memory of their own that is only read. -/
theorem Eff.strBytes {P : Program} {id : Nat} {s : Slots} {E : Env} {T T' el : TypeId} {u : TypeDesc} {x : Operand} {str : ByteArray} (hx : ev s x = some (.b (.lit (.string str)))) (hs : P.underlying T = some u) (hd : P.underlying T' = some (.slice el)) (hel : P.underlying el = some (.int .u8)) (hm : str.size ≤ maxLen) :
    Eff P id s E (.convert T T' x) (some (.b (slK .u8 (strL str)))) [] :=
  .sem _ _ _ fun s' E' k1 k2 w0 W P0 E0 pl0 pl N a o K Qx ho S hf hK => by
    have hx' : ev s' x = some (.b (.lit (.string str))) := by rw [← k1 x (by simp [Op.operands])]; exact hx
    have hxv := rep_lit (S.ev hx')
    have hrun : (execOp a.eval o).run P W = .ok (.value (.slice (some ⟨W.heap.size, 0, none⟩) str.size (grownCap W str.size 0 el))) (Lib.bytesWorld W el str) := by
      simp [execOp, ho, hxv, Lib.run_convert_string_bytes W T T' el str hs hd hel]
    have hW : Lib.bytesWorld W el str = { W.drew with heap := (Lib.bytesWorld W el str).heap } := by
      unfold Lib.bytesWorld World.freeze; rw [if_neg (by decide)]; rfl
    have hsz := Lib.bytesWorld_size W el str
    have hold : ∀ k, k < W.heap.size → (Lib.bytesWorld W el str).heap[k]? = W.heap[k]? := fun k hk => Lib.bytesWorld_at_old W el str k hk
    have S1 : Sim w0 P0 E0 pl0 N E' pl s' a (Lib.bytesWorld W el str) := by
      refine S.step (fun _ => False) (by rw [hW]; rfl) (by rw [hW]; rfl) (by rw [hW]; rfl) (by omega) (fun k hk _ => hold k hk) (fun k h => h.elim) (fun _ _ h => h) (fun k hk => .inl hk) ⟨fun i e he => ?_, S.eok.inj⟩
      exact (S.eok.ent i e he).move (fun _ => False) (fun k hk _ => hold k hk) (fun k h => h.elim) (fun _ _ h => h) (fun k hk => .inl hk) (fun _ _ _ h => h)
    unfold Oper.wp
    rw [hrun]
    refine hK _ pl _ S1 (fun k hk h => h) ?_
    refine RepB.sl ⟨W.heap.size, 0, none⟩ str.size (grownCap W str.size 0 el) 1 ((strL str).map (numB .u8)) (fun j => .int .u8 (str.data.toList.getD j 0).toNat) (by simp) (grownCap_ge W str.size 0 el) (grownCap_le_maxLen W str.size 0 el hm) (by decide) (fun _ => ?_) (fun j hj => ?_) (fun j hj => rfl) (fun j y hj => ?_)
    · exact ⟨.inr S.keep.size, fun hk => Nat.lt_irrefl _ (Hot.lt S.eok hk)⟩
    · rw [add_plain, Nat.zero_add]
      exact Lib.bytesWorld_cell W el str j (by simpa using hj)
    · rw [List.getElem?_map, Option.map_eq_some_iff] at hj
      obtain ⟨y, hy, rfl⟩ := hj
      simp only [strL, List.getElem?_map, Option.map_eq_some_iff] at hy
      obtain ⟨z, hz, rfl⟩ := hy
      rw [show str.data.toList.getD j 0 = z by rw [List.getD_eq_getElem?_getD, hz]; rfl]
      exact RepB.lit _ rfl
section
variable {P : Program} {ops : Array Oper} {o : Oper} {n d : Nat} {s : Slots} {E : Env} {x : Operand} {T T' el : TypeId} {L : List Int} {str : ByteArray} {u : TypeDesc}
theorem TyB (hs : P.underlying T = some u) (hd : P.underlying T' = some (.slice el)) (hel : P.underlying el = some (.int .u8)) (h : (runs ops s o.guard, o.dst, o.op, ev s x) = (some true, some d, .convert T T' x, some (.b (.lit (.string str))))) (hL : strL str = L) (hm : L.length ≤ maxLen) :
    Stp P ops o n s E (n + 1) (setAt s d (some (.b (slK .u8 L)))) E [] := by
  subst hL
  simp only [Prod.mk.injEq] at h
  exact st0 h.1 h.2.1 (h.2.2.1 ▸ Eff.strBytes h.2.2.2 hs hd hel (by simpa using hm))
end
end Go.VL

/- The keyed hash, plain. -/
set_option linter.unusedVariables false
set_option linter.unusedSimpArgs false
namespace Go.VL
def wv (x : BitVec 64) : Int := (x.toNat : Int)
theorem wv_range (x : BitVec 64) : 0 ≤ wv x ∧ wv x < 18446744073709551616 := by
  have := x.isLt
  unfold wv; omega
theorem ofInt_wv (x : BitVec 64) : BitVec.ofInt 64 (wv x) = x := by
  apply BitVec.eq_of_toNat_eq
  simp [wv]
theorem wrap_w (x : Int) : IntKind.wrap .u64 x = wv (BitVec.ofInt 64 x) := by
  rw [wrapM_u64, wv, BitVec.toNat_ofInt]; omega
theorem wv_ofInt {x : Int} (h : 0 ≤ x ∧ x < 18446744073709551616) : wv (BitVec.ofInt 64 x) = x := by
  rw [← wrap_w, wrap_u64 h]
theorem wv_inj {x y : BitVec 64} (h : wv x = wv y) : x = y := BitVec.eq_of_toNat_eq (by unfold wv at h; omega)
theorem wrap_wv (x : BitVec 64) : IntKind.wrap .u64 (x.toNat : Int) = wv x := wrap_u64 (wv_range x)
theorem bop_xor_w (x y : BitVec 64) : bop .xor (.int .u64 (wv x)) (.int .u64 (wv y)) = some (.int .u64 (wv (x ^^^ y))) := by
  show some (Value.int .u64 (IntKind.wrap .u64 ((BitVec.ofInt 64 (wv x) ^^^ BitVec.ofInt 64 (wv y)).toNat : Int))) = _
  rw [ofInt_wv, ofInt_wv, wrap_wv]
theorem bop_xor_wc (x : BitVec 64) (c : Int) : bop .xor (.int .u64 (wv x)) (.int .u64 c) = some (.int .u64 (wv (x ^^^ BitVec.ofInt 64 c))) := by
  show some (Value.int .u64 (IntKind.wrap .u64 ((BitVec.ofInt 64 (wv x) ^^^ BitVec.ofInt 64 c).toNat : Int))) = _
  rw [ofInt_wv, wrap_wv]
theorem bop_or_w (x y : BitVec 64) : bop .or (.int .u64 (wv x)) (.int .u64 (wv y)) = some (.int .u64 (wv (x ||| y))) := by
  show some (Value.int .u64 (IntKind.wrap .u64 ((BitVec.ofInt 64 (wv x) ||| BitVec.ofInt 64 (wv y)).toNat : Int))) = _
  rw [ofInt_wv, ofInt_wv, wrap_wv]
theorem bop_add_w (x y : BitVec 64) : bop .add (.int .u64 (wv x)) (.int .u64 (wv y)) = some (.int .u64 (wv (x + y))) := by
  show some (Value.int .u64 (IntKind.wrap .u64 (wv x + wv y))) = _
  rw [wrapM_u64]
  congr 2
theorem bop_shl_w (x : BitVec 64) (k : Nat) (hk : k ≤ 64) {y : Int} (hy : y = (k : Int)) {ik : IntKind} : bop .shl (.int .u64 (wv x)) (.int ik y) = some (.int .u64 (wv (x <<< k))) := by
  subst hy
  have hm : min ((k : Int)).toNat 64 = k := by omega
  have h0 : (0 : Int) ≤ (k : Int) := by omega
  simp only [bop, h0, if_true, IntKind.bits, hm]
  rw [wrapM_u64]
  congr 2
  simp only [wv, BitVec.toNat_shiftLeft, Nat.shiftLeft_eq]
  rw [Int.natCast_emod, Int.natCast_mul, Int.natCast_pow]; rfl
theorem bop_shr_w (x : BitVec 64) (k : Nat) (hk : k ≤ 64) {y : Int} (hy : y = (k : Int)) {ik : IntKind} : bop .shr (.int .u64 (wv x)) (.int ik y) = some (.int .u64 (wv (x >>> k))) := by
  subst hy
  rw [bop_shr_u64 (by omega) (by omega)]
  congr 2
  simp only [wv, BitVec.toNat_ushiftRight, Int.toNat_natCast, Nat.shiftRight_eq_div_pow]
  rfl
theorem bop_and63 {x : Int} (h : 0 ≤ x ∧ x < 64) : bop .and (.int .u64 x) (.int .u64 63) = some (.int .u64 x) := by
  have := bop_mask_u64 (x := x) (y := 63) (q := 64) 6 rfl rfl (by decide) (by omega)
  rw [Int.emod_eq_of_lt h.1 h.2] at this; exact this
def w8 (c : Int) : BitVec 64 := BitVec.ofInt 64 c
structure HS where
  a : BitVec 64
  b : BitVec 64
  c : BitVec 64
  d : BitVec 64
def rol (x : BitVec 64) (k : Nat) : BitVec 64 := x <<< k ||| x >>> (64 - k)
def rnd (v : HS) : HS :=
  ⟨rol (v.a + v.b) 32 + (rol v.d 16 ^^^ (v.c + v.d)),
   rol (rol v.b 13 ^^^ (v.a + v.b)) 17 ^^^ ((v.c + v.d) + (rol v.b 13 ^^^ (v.a + v.b))),
   rol ((v.c + v.d) + (rol v.b 13 ^^^ (v.a + v.b))) 32,
   rol (rol v.d 16 ^^^ (v.c + v.d)) 21 ^^^ (rol (v.a + v.b) 32 + (rol v.d 16 ^^^ (v.c + v.d)))⟩
def itH (f : HS → HS) : Nat → HS → HS
  | 0, v => v
  | i + 1, v => f (itH f i v)
def wordH (v : HS) (m : BitVec 64) : HS :=
  ⟨(itH rnd 2 ⟨v.a, v.b, v.c, v.d ^^^ m⟩).a ^^^ m, (itH rnd 2 ⟨v.a, v.b, v.c, v.d ^^^ m⟩).b, (itH rnd 2 ⟨v.a, v.b, v.c, v.d ^^^ m⟩).c, (itH rnd 2 ⟨v.a, v.b, v.c, v.d ^^^ m⟩).d⟩
def wordQ (L : List Int) : Nat → BitVec 64
  | 0 => 0#64
  | i + 1 => wordQ L i ||| w8 (L.getD i 0) <<< (8 * i)
def lastQ (L : List Int) : Nat → BitVec 64 → BitVec 64
  | 0, m => m
  | k + 1, m => lastQ L k (m ||| w8 (L.getD k 0) <<< (8 * k))
def hashB (L : List Int) : Nat → HS → HS
  | 0, v => v
  | i + 1, v => wordH (hashB L i v) (wordQ ((L.drop (8 * i)).take 8) 8)
def initH (k0 k1 : BitVec 64) : HS := ⟨k0 ^^^ BitVec.ofInt 64 8317987319222330741, k1 ^^^ BitVec.ofInt 64 7237128888997146477, k0 ^^^ BitVec.ofInt 64 7816392313619706465, k1 ^^^ BitVec.ofInt 64 8387220255154660723⟩
def finH (v : HS) : HS := itH rnd 4 ⟨v.a, v.b, v.c ^^^ BitVec.ofInt 64 255, v.d⟩
def outH (v : HS) : BitVec 64 := v.a ^^^ v.b ^^^ v.c ^^^ v.d
def lstQ (L : List Int) : BitVec 64 := lastQ (L.drop (8 * (L.length / 8))) (L.length % 8) (BitVec.ofInt 64 (L.length : Int) <<< 56)
def hashQ (k0 k1 : BitVec 64) (L : List Int) : BitVec 64 := outH (finH (wordH (hashB L (L.length / 8) (initH k0 k1)) (lstQ L)))
/-- The key of an author. -/
def keyL (a i : Int) : List Int := [115, 116, 114, 97, 105, 103, 104, 116, 101, 100, 103, 101] ++ [a % 256, i % 256]
def m0 : BitVec 64 := BitVec.ofInt 64 506097522914230528
def m1 : BitVec 64 := BitVec.ofInt 64 1084818905618843912
def keyQ (a i : Int) : BitVec 64 := hashQ m0 m1 (keyL a i)
def k0Q (a : Int) : BitVec 64 := if btw 1 a 12 then keyQ a 0 else 0#64
def k1Q (a : Int) : BitVec 64 := if btw 1 a 12 then keyQ a 1 else 0#64
def keyE (a : Int) : Int := if btw 1 a 12 then 0 else 1
def tagW (h : BitVec 64) : Nat → List Int
  | 0 => []
  | i + 1 => tagW h i ++ [wv (h >>> (8 * i)) % 256]
def tagQ (a : Int) (L : List Int) : List Int := tagW (hashQ (k0Q a) (k1Q a) L) 8
theorem tagW_len (h : BitVec 64) : ∀ i, (tagW h i).length = i
  | 0 => rfl
  | i + 1 => by rw [tagW, List.length_append, tagW_len h i]; rfl
theorem tagW_by (h : BitVec 64) : ∀ i, ByR (tagW h i)
  | 0 => fun x hx => by cases hx
  | i + 1 => (tagW_by h i).append (fun x hx => by simp at hx; omega)
theorem tagQ_len {a : Int} {L : List Int} : (tagQ a L).length = 8 := tagW_len _ _
theorem tagQ_by {a : Int} {L : List Int} : ByR (tagQ a L) := tagW_by _ _
theorem keyL_by (a i : Int) : ByR (keyL a i) := by
  intro x hx
  simp only [keyL, List.mem_append, List.mem_cons, List.not_mem_nil, or_false] at hx
  rcases hx with hx | hx
  · rcases hx with h | h | h | h | h | h | h | h | h | h | h | h <;> subst h <;> decide
  · rcases hx with h | h <;> subst h <;> omega
def keyA (a : Int) : Nat → List Int
  | 0 => [0, 0]
  | i + 1 => (keyA a i).set i (wv (keyQ a (i : Int)))
theorem bytesOf_strL (b : ByteArray) : bytesOf (strL b) = b := by
  unfold bytesOf strL
  rw [List.map_map]
  have : (byteOf ∘ fun x : UInt8 => (x.toNat : Int)) = id := by funext x; exact byteOf_cast x
  rw [this, List.map_id]
theorem strL_bytesOf {L : List Int} (h : ByR L) : strL (bytesOf L) = L := by
  unfold strL bytesOf
  simp only [List.map_map]
  have : ∀ x ∈ L, ((fun x : UInt8 => (x.toNat : Int)) ∘ byteOf) x = x := fun x hx => byteOf_toNat (h x hx)
  rw [List.map_congr_left this, List.map_id']
theorem bytesOf_app {A B : List Int} : bytesOf A ++ bytesOf B = bytesOf (A ++ B) := by
  apply ByteArray.ext
  simp [bytesOf]
theorem take_set1 {R : List Int} {i : Nat} {v : Int} (h : i < R.length) : (R.set i v).take (i + 1) = R.take i ++ [v] := by
  apply List.ext_getElem?
  intro j
  by_cases h1 : j < i
  · rw [List.getElem?_take_of_lt (by omega), List.getElem?_set_ne (by omega), List.getElem?_append_left (by simp; omega), List.getElem?_take_of_lt h1]
  · by_cases h2 : j = i
    · subst h2
      rw [List.getElem?_take_of_lt (by omega), List.getElem?_set_self h, List.getElem?_append_right (by simp; omega), List.length_take, Nat.min_eq_left (Nat.le_of_lt h), Nat.sub_self]; rfl
    · rw [List.getElem?_eq_none (by simp; omega), List.getElem?_eq_none (by simp; omega)]
/-- What is sealed and opened. -/
def sealE (e : Edt) : List Int := formE e ++ tagQ e.au (formE e)
def bodyL (s : List Int) : List Int := s.take (s.length - 8)
def opnE (s : List Int) : Int := if s.length < 8 then 9 else if decE (bodyL s) = 0 then (if tagQ (decQ (bodyL s)).au (bodyL s) = s.drop (s.length - 8) then 0 else 310) else decE (bodyL s)
def opnQ (s : List Int) : Edt := if opnE s = 0 then decQ (bodyL s) else edt0
noncomputable def sameQ (a b : Edt) : Bool := @decide (a = b) (Classical.propDecidable _)
theorem sameQ_t {a b : Edt} (h : a = b) : sameQ a b = true := by unfold sameQ; exact @decide_eq_true _ (Classical.propDecidable _) h
theorem sameQ_f {a b : Edt} (h : a ≠ b) : sameQ a b = false := by unfold sameQ; exact @decide_eq_false _ (Classical.propDecidable _) h
theorem sameQ_iff {a b : Edt} : sameQ a b = true ↔ a = b := ⟨fun h => Classical.byContradiction (fun k => by rw [sameQ_f k] at h; exact absurd h (by decide)), sameQ_t⟩
def sameI (n : Bool) (A : List Int) (m : Bool) (B : List Int) : Bool := n == m && A == B
theorem list_eqD {α : Type} {A B : List α} {d : α} (hl : A.length = B.length) (h : ∀ j, j < A.length → A.getD j d = B.getD j d) : A = B := by
  apply List.ext_getElem hl
  intro j h1 h2
  have := h j h1
  rw [List.getD_eq_getElem?_getD, List.getD_eq_getElem?_getD, List.getElem?_eq_getElem h1, List.getElem?_eq_getElem h2] at this
  exact this
theorem mov_eqQ {a b : Mov} (h1 : a.step = b.step) (h2 : a.coord = b.coord) (h3 : (sameI a.nn a.nm b.nn b.nm && sameI a.dn a.dm b.dn b.dm) = true) : a = b := by
  cases a; cases b
  simp only [sameI, Bool.and_eq_true, beq_iff_eq] at h1 h2 h3
  obtain ⟨⟨h3, h4⟩, h5, h6⟩ := h3
  subst h1; subst h2; subst h3; subst h4; subst h5; subst h6; rfl
theorem sameI_refl (n : Bool) (A : List Int) : sameI n A n A = true := by simp [sameI]
theorem edt_eqQ {a b : Edt} (h1 : a.au = b.au) (h2 : a.sq = b.sq) (h3 : a.st = b.st) (h4 : a.seen = b.seen) (h5 : a.kind = b.kind) (h6 : a.text = b.text) (h7 : a.names = b.names) (h8 : a.moves = b.moves) (h9 : a.oa = b.oa) (h10 : a.os = b.os) (h11 : a.pk = b.pk) : a = b := by
  cases a; cases b
  simp only at h1 h2 h3 h4 h5 h6 h7 h8 h9 h10 h11
  subst h1; subst h2; subst h3; subst h4; subst h5; subst h6; subst h7; subst h8; subst h9; subst h10; subst h11; rfl
end Go.VL

/- Walks over the Go functions, printed by a program of this session over the kit's print, and by hand. -/
set_option linter.unusedVariables false
set_option linter.unusedSimpArgs false
set_option maxRecDepth 100000
namespace Go.VL
open Go.Proofs
theorem m55 (x : BitVec 64) (k : Nat) (h0 : 0 < k) (h1 : k < 64) : VF Try.prog 55 [numB .u64 (wv (x)), numB .i64 ((k : Int))] (numB .u64 (wv (rol x k))) := by
  exact VF_of P_mixed Try.func55 rfl rfl (by kernel_rfl) <| Sq <| Rg <| Vs (As rfl) <| Nx <| Sq <| Rg <| Vs (Mv rfl) <| Vs (Cv TU3 TU71 rfl wrW) <| Vs (Bo (c := .int .u64 ((k : Int))) rfl (bop_and63 (by omega))) <| Vs (As rfl) <| Nx <| Sq <| Rg <| Vs (Mv rfl) <| Vs (Mv rfl) <| Vs (Bo (c := .int .u64 (wv (x <<< k))) rfl (bop_shl_w x k (by omega) rfl)) <| Vs (Mv rfl) <| Vs (Mv rfl) <| Vs (Bo rfl suW) <| Vs (Bo (c := .int .u64 (wv (x >>> (64 - k)))) rfl (bop_shr_w x (64 - k) (by omega) (by omega))) <| Vs (Bo (c := .int .u64 (wv (x <<< k ||| (x >>> (64 - k))))) rfl (bop_or_w _ _)) <| Vs (As rfl) <| Nx <| Re <| Fi (l := [numB .u64 (wv (x <<< k ||| (x >>> (64 - k))))]) (Rc (resVar_tmp rfl rfl) Rn) rfl
theorem w30 {v : HS} {n : Nat} (hn : n ≤ 100) : VG Try.prog 30 [.ptr 0 (0), vI .i64 ((n : Int))] [⟨4, [vI .u64 (wv ((v).a)), vI .u64 (wv ((v).b)), vI .u64 (wv ((v).c)), vI .u64 (wv ((v).d))], true⟩] (.b (.tup [])) [some (⟨4, [vI .u64 (wv ((itH rnd n v).a)), vI .u64 (wv ((itH rnd n v).b)), vI .u64 (wv ((itH rnd n v).c)), vI .u64 (wv ((itH rnd n v).d))], true⟩)] := by
  refine VGp_of P_mixed Try.func30 rfl rfl (by kernel_rfl) (by simp) rfl <| Sq <| Rg <| Vs (Mv rfl) <| Vs (Mv rfl) <| Nx <| Bk <| VCode.loop (α := (Nat) × (HS)) (fun x_ => match x_ with | (i, u) => (1, sl [(0, .ptr 0 (0)), (4, vI .i64 ((n : Int))), (5, vI .i64 ((i : Int)))], en [(0, ⟨4, [vI .u64 (wv ((u).a)), vI .u64 (wv ((u).b)), vI .u64 (wv ((u).c)), vI .u64 (wv ((u).d))], true⟩)])) (fun x_ => match x_ with | (i, u) => i ≤ n ∧ u = itH rnd i v) (fun x_ => match x_ with | (i, u) => n - i) (0, v) ⟨Nat.zero_le _, rfl⟩ Wk ?_
  rintro ⟨i, u⟩ hok
  obtain ⟨hi, hu⟩ := hok
  change VCode _ _ _ 1 (sl _) (en _) _
  refine Sq <| Rg <| Vs (Bi rfl) <| Nx <| Sq <| Cd rfl (fun hc1 => ?_) (fun hc1 => ?_)
  · replace hc1 := of_decide_eq_true hc1
    refine Ks <| Tg <| Sq <| Bk <| Sq <| Rd (by kernel_rfl) <| Vl (Mv rfl) <| Vl (Nk rfl) <| Vl (Ia TU67 TS22 rfl) <| Vl (Ld TA22 rfl) <| Vl (Mv rfl) <| Vl (Nk rfl) <| Vl (Ia TU67 TS22 rfl) <| Vl (Ld TA22 rfl) <| Vl (Bo (c := .int .u64 (wv ((u).a + ((u).b)))) rfl (bop_add_w _ _)) <| Vl (Nk rfl) <| Vl (Ia TU67 TS22 rfl) <| Vl (St TS22 rfl) <| ?_
    refine VLog.nil ⟨by kernel_rfl, ?_⟩
    refine Tg <| Sq <| Rd (by kernel_rfl) <| Vl (Mv rfl) <| Vl (Mv rfl) <| Vl (Nk rfl) <| Vl (Ia TU67 TS22 rfl) <| Vl (Ld TA22 rfl) <| Vl (Cf rfl rfl (m55 ((u).b) 13 (by decide) (by decide)) rfl) <| Vl (Mv rfl) <| Vl (Nk rfl) <| Vl (Ia TU67 TS22 rfl) <| Vl (Ld TA22 rfl) <| Vl (Bo (c := .int .u64 (wv (rol ((u).b) 13 ^^^ ((u).a + ((u).b))))) rfl (bop_xor_w _ _)) <| Vl (Nk rfl) <| Vl (Ia TU67 TS22 rfl) <| Vl (St TS22 rfl) <| ?_
    refine VLog.nil ⟨by kernel_rfl, ?_⟩
    refine Tg <| Sq <| Rd (by kernel_rfl) <| Vl (Mv rfl) <| Vl (Mv rfl) <| Vl (Nk rfl) <| Vl (Ia TU67 TS22 rfl) <| Vl (Ld TA22 rfl) <| Vl (Cf rfl rfl (m55 ((u).a + ((u).b)) 32 (by decide) (by decide)) rfl) <| Vl (Nk rfl) <| Vl (Ia TU67 TS22 rfl) <| Vl (St TS22 rfl) <| ?_
    refine VLog.nil ⟨by kernel_rfl, ?_⟩
    refine Tg <| Sq <| Rd (by kernel_rfl) <| Vl (Mv rfl) <| Vl (Nk rfl) <| Vl (Ia TU67 TS22 rfl) <| Vl (Ld TA22 rfl) <| Vl (Mv rfl) <| Vl (Nk rfl) <| Vl (Ia TU67 TS22 rfl) <| Vl (Ld TA22 rfl) <| Vl (Bo (c := .int .u64 (wv ((u).c + ((u).d)))) rfl (bop_add_w _ _)) <| Vl (Nk rfl) <| Vl (Ia TU67 TS22 rfl) <| Vl (St TS22 rfl) <| ?_
    refine VLog.nil ⟨by kernel_rfl, ?_⟩
    refine Tg <| Sq <| Rd (by kernel_rfl) <| Vl (Mv rfl) <| Vl (Mv rfl) <| Vl (Nk rfl) <| Vl (Ia TU67 TS22 rfl) <| Vl (Ld TA22 rfl) <| Vl (Cf rfl rfl (m55 ((u).d) 16 (by decide) (by decide)) rfl) <| Vl (Mv rfl) <| Vl (Nk rfl) <| Vl (Ia TU67 TS22 rfl) <| Vl (Ld TA22 rfl) <| Vl (Bo (c := .int .u64 (wv (rol ((u).d) 16 ^^^ ((u).c + ((u).d))))) rfl (bop_xor_w _ _)) <| Vl (Nk rfl) <| Vl (Ia TU67 TS22 rfl) <| Vl (St TS22 rfl) <| ?_
    refine VLog.nil ⟨by kernel_rfl, ?_⟩
    refine Tg <| Sq <| Rd (by kernel_rfl) <| Vl (Mv rfl) <| Vl (Nk rfl) <| Vl (Ia TU67 TS22 rfl) <| Vl (Ld TA22 rfl) <| Vl (Mv rfl) <| Vl (Nk rfl) <| Vl (Ia TU67 TS22 rfl) <| Vl (Ld TA22 rfl) <| Vl (Bo (c := .int .u64 (wv (rol ((u).a + ((u).b)) 32 + (rol ((u).d) 16 ^^^ ((u).c + ((u).d)))))) rfl (bop_add_w _ _)) <| Vl (Nk rfl) <| Vl (Ia TU67 TS22 rfl) <| Vl (St TS22 rfl) <| ?_
    refine VLog.nil ⟨by kernel_rfl, ?_⟩
    refine Tg <| Sq <| Rd (by kernel_rfl) <| Vl (Mv rfl) <| Vl (Mv rfl) <| Vl (Nk rfl) <| Vl (Ia TU67 TS22 rfl) <| Vl (Ld TA22 rfl) <| Vl (Cf rfl rfl (m55 (rol ((u).d) 16 ^^^ ((u).c + ((u).d))) 21 (by decide) (by decide)) rfl) <| Vl (Mv rfl) <| Vl (Nk rfl) <| Vl (Ia TU67 TS22 rfl) <| Vl (Ld TA22 rfl) <| Vl (Bo (c := .int .u64 (wv (rol (rol ((u).d) 16 ^^^ ((u).c + ((u).d))) 21 ^^^ (rol ((u).a + ((u).b)) 32 + (rol ((u).d) 16 ^^^ ((u).c + ((u).d))))))) rfl (bop_xor_w _ _)) <| Vl (Nk rfl) <| Vl (Ia TU67 TS22 rfl) <| Vl (St TS22 rfl) <| ?_
    refine VLog.nil ⟨by kernel_rfl, ?_⟩
    refine Tg <| Sq <| Rd (by kernel_rfl) <| Vl (Mv rfl) <| Vl (Nk rfl) <| Vl (Ia TU67 TS22 rfl) <| Vl (Ld TA22 rfl) <| Vl (Mv rfl) <| Vl (Nk rfl) <| Vl (Ia TU67 TS22 rfl) <| Vl (Ld TA22 rfl) <| Vl (Bo (c := .int .u64 (wv ((u).c + ((u).d) + (rol ((u).b) 13 ^^^ ((u).a + ((u).b)))))) rfl (bop_add_w _ _)) <| Vl (Nk rfl) <| Vl (Ia TU67 TS22 rfl) <| Vl (St TS22 rfl) <| ?_
    refine VLog.nil ⟨by kernel_rfl, ?_⟩
    refine Tg <| Sq <| Rd (by kernel_rfl) <| Vl (Mv rfl) <| Vl (Mv rfl) <| Vl (Nk rfl) <| Vl (Ia TU67 TS22 rfl) <| Vl (Ld TA22 rfl) <| Vl (Cf rfl rfl (m55 (rol ((u).b) 13 ^^^ ((u).a + ((u).b))) 17 (by decide) (by decide)) rfl) <| Vl (Mv rfl) <| Vl (Nk rfl) <| Vl (Ia TU67 TS22 rfl) <| Vl (Ld TA22 rfl) <| Vl (Bo (c := .int .u64 (wv (rol (rol ((u).b) 13 ^^^ ((u).a + ((u).b))) 17 ^^^ ((u).c + ((u).d) + (rol ((u).b) 13 ^^^ ((u).a + ((u).b))))))) rfl (bop_xor_w _ _)) <| Vl (Nk rfl) <| Vl (Ia TU67 TS22 rfl) <| Vl (St TS22 rfl) <| ?_
    refine VLog.nil ⟨by kernel_rfl, ?_⟩
    refine Tg <| Rd (by kernel_rfl) <| Vl (Mv rfl) <| Vl (Mv rfl) <| Vl (Nk rfl) <| Vl (Ia TU67 TS22 rfl) <| Vl (Ld TA22 rfl) <| Vl (Cf rfl rfl (m55 ((u).c + ((u).d) + (rol ((u).b) 13 ^^^ ((u).a + ((u).b)))) 32 (by decide) (by decide)) rfl) <| Vl (Nk rfl) <| Vl (Ia TU67 TS22 rfl) <| Vl (St TS22 rfl) <| ?_
    refine VLog.nil ⟨by kernel_rfl, ?_⟩
    exact Ig <| Tg <| Rg <| Vs (Bo rfl adI) <| Vs (Mv rfl) <| VList.nil <| Go (i + 1, (⟨rol ((u).a + ((u).b)) 32 + (rol ((u).d) 16 ^^^ ((u).c + ((u).d))), rol (rol ((u).b) 13 ^^^ ((u).a + ((u).b))) 17 ^^^ ((u).c + ((u).d) + (rol ((u).b) 13 ^^^ ((u).a + ((u).b)))), rol ((u).c + ((u).d) + (rol ((u).b) 13 ^^^ ((u).a + ((u).b)))) 32, rol (rol ((u).d) 16 ^^^ ((u).c + ((u).d))) 21 ^^^ (rol ((u).a + ((u).b)) 32 + (rol ((u).d) 16 ^^^ ((u).c + ((u).d))))⟩ : HS)) ⟨by omega, by rw [itH, ← hu]; rfl⟩ Wk
  · replace hc1 := of_decide_eq_false hc1
    have hin : i = n := by omega
    exact Ke <| Te <| Oe <| Ih <| Gg (L1' := [some (⟨4, [vI .u64 (wv ((u).a)), vI .u64 (wv ((u).b)), vI .u64 (wv ((u).c)), vI .u64 (wv ((u).d))], true⟩)]) [0] .nil (.vals _ [] rfl rfl) rfl (by rw [hu, hin])
theorem w28 {v : HS} {m : BitVec 64} : VG Try.prog 28 [.ptr 0 (0), vI .u64 (wv (m))] [⟨4, [vI .u64 (wv ((v).a)), vI .u64 (wv ((v).b)), vI .u64 (wv ((v).c)), vI .u64 (wv ((v).d))], true⟩] (.b (.tup [])) [some (⟨4, [vI .u64 (wv ((wordH v m).a)), vI .u64 (wv ((wordH v m).b)), vI .u64 (wv ((wordH v m).c)), vI .u64 (wv ((wordH v m).d))], true⟩)] := by
  refine VGp_of P_mixed Try.func28 rfl rfl (by kernel_rfl) (by simp) rfl <| Sq <| Rd (by kernel_rfl) <| Vl (Mv rfl) <| Vl (Nk rfl) <| Vl (Ia TU67 TS22 rfl) <| Vl (Ld TA22 rfl) <| Vl (Mv rfl) <| Vl (Bo (c := .int .u64 (wv ((v).d ^^^ (m)))) rfl (bop_xor_w _ _)) <| Vl (Nk rfl) <| Vl (Ia TU67 TS22 rfl) <| Vl (St TS22 rfl) <| ?_
  refine VLog.nil ⟨by kernel_rfl, ?_⟩
  refine Tg <| Sq <| Rg <| Vs (Mv rfl) <| Gm 11 [0] [] (v := .b (.tup [])) [(0, ⟨4, [vI .u64 (wv ((itH rnd 2 ((⟨(v).a, (v).b, (v).c, (v).d ^^^ (m)⟩ : HS))).a)), vI .u64 (wv ((itH rnd 2 ((⟨(v).a, (v).b, (v).c, (v).d ^^^ (m)⟩ : HS))).b)), vI .u64 (wv ((itH rnd 2 ((⟨(v).a, (v).b, (v).c, (v).d ^^^ (m)⟩ : HS))).c)), vI .u64 (wv ((itH rnd 2 ((⟨(v).a, (v).b, (v).c, (v).d ^^^ (m)⟩ : HS))).d))], true⟩)] rfl (w30 (v := (⟨(v).a, (v).b, (v).c, (v).d ^^^ (m)⟩ : HS)) (n := 2) (by decide)) rfl <| Nx <| Rd (by kernel_rfl) <| Vl (Mv rfl) <| Vl (Nk rfl) <| Vl (Ia TU67 TS22 rfl) <| Vl (Ld TA22 rfl) <| Vl (Mv rfl) <| Vl (Bo (c := .int .u64 (wv ((itH rnd 2 ((⟨(v).a, (v).b, (v).c, (v).d ^^^ (m)⟩ : HS))).a ^^^ (m)))) rfl (bop_xor_w _ _)) <| Vl (Nk rfl) <| Vl (Ia TU67 TS22 rfl) <| Vl (St TS22 rfl) <| ?_
  refine VLog.nil ⟨by kernel_rfl, ?_⟩
  exact Gg (L1' := [some (⟨4, [vI .u64 (wv ((itH rnd 2 ((⟨(v).a, (v).b, (v).c, (v).d ^^^ (m)⟩ : HS))).a ^^^ (m))), vI .u64 (wv ((itH rnd 2 ((⟨(v).a, (v).b, (v).c, (v).d ^^^ (m)⟩ : HS))).b)), vI .u64 (wv ((itH rnd 2 ((⟨(v).a, (v).b, (v).c, (v).d ^^^ (m)⟩ : HS))).c)), vI .u64 (wv ((itH rnd 2 ((⟨(v).a, (v).b, (v).c, (v).d ^^^ (m)⟩ : HS))).d))], true⟩)]) [0] .nil (.vals _ [] rfl rfl) rfl rfl
theorem m29 {L : List Int} (hL : L.length ≤ 7) (n : Int) : VF Try.prog 29 [slK .u8 (L), numB .i64 (n)] (numB .u64 (wv (lastQ L L.length (BitVec.ofInt 64 n <<< 56)))) := by
  refine VF_of P_mixed Try.func29 rfl rfl (by kernel_rfl) <| Sq <| Rg <| Vs (As rfl) <| Nx <| Sq <| Rg <| Vs (Mv rfl) <| Vs (Cv TU3 TU22 rfl (wrap_w _)) <| Vs (Bo (c := .int .u64 (wv (BitVec.ofInt 64 n <<< 56))) rfl (bop_shl_w _ 56 (by decide) rfl)) <| Vs (As rfl) <| Nx <| Sq <| Sq <| Rg <| Vs (Mv rfl) <| Vs (Ls TK23 rfl) <| Nx <| Bk <| Sq <| Bk <| Sq <| Bk <| Sq <| Bk <| Sq <| Bk <| Sq <| Bk <| Sq <| Bk <| Sq <| Bk <| Sq <| Sq <| Sq <| Rg <| Vs (Bi rfl) <| Vs (As rfl) <| Nx <| Cd rfl (fun hc1 => ?_) (fun hc1 => ?_)
  · replace hc1 := eq_of_beq hc1
    exact Ke <| Te <| Te <| Ih <| Tg <| Rg <| Vs (Mv rfl) <| Vs (Mv rfl) <| Vs (IxN (q := 6) TK23 rfl) <| Vs (Lq TA5 rfl) <| Vs (Cv TU5 TU22 rfl (wrap_w _)) <| Vs (Bo (c := .int .u64 (wv (w8 (L.getD 6 0) <<< (8 * 6)))) rfl (bop_shl_w _ (8 * 6) (by decide) rfl)) <| Vs (Bo (c := .int .u64 (wv (BitVec.ofInt 64 n <<< 56 ||| (w8 (L.getD 6 0) <<< (8 * 6))))) rfl (bop_or_w _ _)) <| Vs (As rfl) <| VList.nil <| Ig <| Tg <| Rg <| Vs (Mv rfl) <| Vs (Mv rfl) <| Vs (IxN (q := 5) TK23 rfl) <| Vs (Lq TA5 rfl) <| Vs (Cv TU5 TU22 rfl (wrap_w _)) <| Vs (Bo (c := .int .u64 (wv (w8 (L.getD 5 0) <<< (8 * 5)))) rfl (bop_shl_w _ (8 * 5) (by decide) rfl)) <| Vs (Bo (c := .int .u64 (wv (BitVec.ofInt 64 n <<< 56 ||| (w8 (L.getD 6 0) <<< (8 * 6)) ||| (w8 (L.getD 5 0) <<< (8 * 5))))) rfl (bop_or_w _ _)) <| Vs (As rfl) <| VList.nil <| Ig <| Tg <| Rg <| Vs (Mv rfl) <| Vs (Mv rfl) <| Vs (IxN (q := 4) TK23 rfl) <| Vs (Lq TA5 rfl) <| Vs (Cv TU5 TU22 rfl (wrap_w _)) <| Vs (Bo (c := .int .u64 (wv (w8 (L.getD 4 0) <<< (8 * 4)))) rfl (bop_shl_w _ (8 * 4) (by decide) rfl)) <| Vs (Bo (c := .int .u64 (wv (BitVec.ofInt 64 n <<< 56 ||| (w8 (L.getD 6 0) <<< (8 * 6)) ||| (w8 (L.getD 5 0) <<< (8 * 5)) ||| (w8 (L.getD 4 0) <<< (8 * 4))))) rfl (bop_or_w _ _)) <| Vs (As rfl) <| VList.nil <| Ig <| Tg <| Rg <| Vs (Mv rfl) <| Vs (Mv rfl) <| Vs (IxN (q := 3) TK23 rfl) <| Vs (Lq TA5 rfl) <| Vs (Cv TU5 TU22 rfl (wrap_w _)) <| Vs (Bo (c := .int .u64 (wv (w8 (L.getD 3 0) <<< (8 * 3)))) rfl (bop_shl_w _ (8 * 3) (by decide) rfl)) <| Vs (Bo (c := .int .u64 (wv (BitVec.ofInt 64 n <<< 56 ||| (w8 (L.getD 6 0) <<< (8 * 6)) ||| (w8 (L.getD 5 0) <<< (8 * 5)) ||| (w8 (L.getD 4 0) <<< (8 * 4)) ||| (w8 (L.getD 3 0) <<< (8 * 3))))) rfl (bop_or_w _ _)) <| Vs (As rfl) <| VList.nil <| Ig <| Tg <| Rg <| Vs (Mv rfl) <| Vs (Mv rfl) <| Vs (IxN (q := 2) TK23 rfl) <| Vs (Lq TA5 rfl) <| Vs (Cv TU5 TU22 rfl (wrap_w _)) <| Vs (Bo (c := .int .u64 (wv (w8 (L.getD 2 0) <<< (8 * 2)))) rfl (bop_shl_w _ (8 * 2) (by decide) rfl)) <| Vs (Bo (c := .int .u64 (wv (BitVec.ofInt 64 n <<< 56 ||| (w8 (L.getD 6 0) <<< (8 * 6)) ||| (w8 (L.getD 5 0) <<< (8 * 5)) ||| (w8 (L.getD 4 0) <<< (8 * 4)) ||| (w8 (L.getD 3 0) <<< (8 * 3)) ||| (w8 (L.getD 2 0) <<< (8 * 2))))) rfl (bop_or_w _ _)) <| Vs (As rfl) <| VList.nil <| Ig <| Tg <| Rg <| Vs (Mv rfl) <| Vs (Mv rfl) <| Vs (IxN (q := 1) TK23 rfl) <| Vs (Lq TA5 rfl) <| Vs (Cv TU5 TU22 rfl (wrap_w _)) <| Vs (Bo (c := .int .u64 (wv (w8 (L.getD 1 0) <<< (8 * 1)))) rfl (bop_shl_w _ (8 * 1) (by decide) rfl)) <| Vs (Bo (c := .int .u64 (wv (BitVec.ofInt 64 n <<< 56 ||| (w8 (L.getD 6 0) <<< (8 * 6)) ||| (w8 (L.getD 5 0) <<< (8 * 5)) ||| (w8 (L.getD 4 0) <<< (8 * 4)) ||| (w8 (L.getD 3 0) <<< (8 * 3)) ||| (w8 (L.getD 2 0) <<< (8 * 2)) ||| (w8 (L.getD 1 0) <<< (8 * 1))))) rfl (bop_or_w _ _)) <| Vs (As rfl) <| VList.nil <| Ig <| Tg <| Sq <| Rg <| Vs (Mv rfl) <| Vs (Mv rfl) <| Vs (IxN (q := 0) TK23 rfl) <| Vs (Lq TA5 rfl) <| Vs (Cv TU5 TU22 rfl (wrap_w _)) <| Vs (Bo (c := .int .u64 (wv (BitVec.ofInt 64 n <<< 56 ||| (w8 (L.getD 6 0) <<< (8 * 6)) ||| (w8 (L.getD 5 0) <<< (8 * 5)) ||| (w8 (L.getD 4 0) <<< (8 * 4)) ||| (w8 (L.getD 3 0) <<< (8 * 3)) ||| (w8 (L.getD 2 0) <<< (8 * 2)) ||| (w8 (L.getD 1 0) <<< (8 * 1)) ||| (w8 (L.getD 0 0))))) rfl (bop_or_w _ _)) <| Vs (As rfl) <| Nx <| Ke <| Ih <| Tg <| Sq <| Rg <| Vs (Mv rfl) <| Vs (As rfl) <| Nx <| Re <| Fi (l := [numB .u64 (wv (BitVec.ofInt 64 n <<< 56 ||| (w8 (L.getD 6 0) <<< (8 * 6)) ||| (w8 (L.getD 5 0) <<< (8 * 5)) ||| (w8 (L.getD 4 0) <<< (8 * 4)) ||| (w8 (L.getD 3 0) <<< (8 * 3)) ||| (w8 (L.getD 2 0) <<< (8 * 2)) ||| (w8 (L.getD 1 0) <<< (8 * 1)) ||| (w8 (L.getD 0 0))))]) (Rc (resVar_tmp rfl rfl) Rn) (by rw [show L.length = 7 from by omega]; simp only [lastQ, Nat.mul_zero, BitVec.shiftLeft_zero]; rfl)
  · replace hc1 := ne_of_beq_false hc1
    refine Ks <| Tg <| Sq <| Sq <| Rg <| Vs (Bi rfl) <| Vs (As rfl) <| Nx <| Cd rfl (fun hc2 => ?_) (fun hc2 => ?_)
    · replace hc2 := eq_of_beq hc2
      exact Ke <| Te <| Te <| Io <| Te <| Ih <| Tg <| Rg <| Vs (Mv rfl) <| Vs (Mv rfl) <| Vs (IxN (q := 5) TK23 rfl) <| Vs (Lq TA5 rfl) <| Vs (Cv TU5 TU22 rfl (wrap_w _)) <| Vs (Bo (c := .int .u64 (wv (w8 (L.getD 5 0) <<< (8 * 5)))) rfl (bop_shl_w _ (8 * 5) (by decide) rfl)) <| Vs (Bo (c := .int .u64 (wv (BitVec.ofInt 64 n <<< 56 ||| (w8 (L.getD 5 0) <<< (8 * 5))))) rfl (bop_or_w _ _)) <| Vs (As rfl) <| VList.nil <| Ig <| Tg <| Rg <| Vs (Mv rfl) <| Vs (Mv rfl) <| Vs (IxN (q := 4) TK23 rfl) <| Vs (Lq TA5 rfl) <| Vs (Cv TU5 TU22 rfl (wrap_w _)) <| Vs (Bo (c := .int .u64 (wv (w8 (L.getD 4 0) <<< (8 * 4)))) rfl (bop_shl_w _ (8 * 4) (by decide) rfl)) <| Vs (Bo (c := .int .u64 (wv (BitVec.ofInt 64 n <<< 56 ||| (w8 (L.getD 5 0) <<< (8 * 5)) ||| (w8 (L.getD 4 0) <<< (8 * 4))))) rfl (bop_or_w _ _)) <| Vs (As rfl) <| VList.nil <| Ig <| Tg <| Rg <| Vs (Mv rfl) <| Vs (Mv rfl) <| Vs (IxN (q := 3) TK23 rfl) <| Vs (Lq TA5 rfl) <| Vs (Cv TU5 TU22 rfl (wrap_w _)) <| Vs (Bo (c := .int .u64 (wv (w8 (L.getD 3 0) <<< (8 * 3)))) rfl (bop_shl_w _ (8 * 3) (by decide) rfl)) <| Vs (Bo (c := .int .u64 (wv (BitVec.ofInt 64 n <<< 56 ||| (w8 (L.getD 5 0) <<< (8 * 5)) ||| (w8 (L.getD 4 0) <<< (8 * 4)) ||| (w8 (L.getD 3 0) <<< (8 * 3))))) rfl (bop_or_w _ _)) <| Vs (As rfl) <| VList.nil <| Ig <| Tg <| Rg <| Vs (Mv rfl) <| Vs (Mv rfl) <| Vs (IxN (q := 2) TK23 rfl) <| Vs (Lq TA5 rfl) <| Vs (Cv TU5 TU22 rfl (wrap_w _)) <| Vs (Bo (c := .int .u64 (wv (w8 (L.getD 2 0) <<< (8 * 2)))) rfl (bop_shl_w _ (8 * 2) (by decide) rfl)) <| Vs (Bo (c := .int .u64 (wv (BitVec.ofInt 64 n <<< 56 ||| (w8 (L.getD 5 0) <<< (8 * 5)) ||| (w8 (L.getD 4 0) <<< (8 * 4)) ||| (w8 (L.getD 3 0) <<< (8 * 3)) ||| (w8 (L.getD 2 0) <<< (8 * 2))))) rfl (bop_or_w _ _)) <| Vs (As rfl) <| VList.nil <| Ig <| Tg <| Rg <| Vs (Mv rfl) <| Vs (Mv rfl) <| Vs (IxN (q := 1) TK23 rfl) <| Vs (Lq TA5 rfl) <| Vs (Cv TU5 TU22 rfl (wrap_w _)) <| Vs (Bo (c := .int .u64 (wv (w8 (L.getD 1 0) <<< (8 * 1)))) rfl (bop_shl_w _ (8 * 1) (by decide) rfl)) <| Vs (Bo (c := .int .u64 (wv (BitVec.ofInt 64 n <<< 56 ||| (w8 (L.getD 5 0) <<< (8 * 5)) ||| (w8 (L.getD 4 0) <<< (8 * 4)) ||| (w8 (L.getD 3 0) <<< (8 * 3)) ||| (w8 (L.getD 2 0) <<< (8 * 2)) ||| (w8 (L.getD 1 0) <<< (8 * 1))))) rfl (bop_or_w _ _)) <| Vs (As rfl) <| VList.nil <| Ig <| Tg <| Sq <| Rg <| Vs (Mv rfl) <| Vs (Mv rfl) <| Vs (IxN (q := 0) TK23 rfl) <| Vs (Lq TA5 rfl) <| Vs (Cv TU5 TU22 rfl (wrap_w _)) <| Vs (Bo (c := .int .u64 (wv (BitVec.ofInt 64 n <<< 56 ||| (w8 (L.getD 5 0) <<< (8 * 5)) ||| (w8 (L.getD 4 0) <<< (8 * 4)) ||| (w8 (L.getD 3 0) <<< (8 * 3)) ||| (w8 (L.getD 2 0) <<< (8 * 2)) ||| (w8 (L.getD 1 0) <<< (8 * 1)) ||| (w8 (L.getD 0 0))))) rfl (bop_or_w _ _)) <| Vs (As rfl) <| Nx <| Ke <| Ih <| Tg <| Sq <| Rg <| Vs (Mv rfl) <| Vs (As rfl) <| Nx <| Re <| Fi (l := [numB .u64 (wv (BitVec.ofInt 64 n <<< 56 ||| (w8 (L.getD 5 0) <<< (8 * 5)) ||| (w8 (L.getD 4 0) <<< (8 * 4)) ||| (w8 (L.getD 3 0) <<< (8 * 3)) ||| (w8 (L.getD 2 0) <<< (8 * 2)) ||| (w8 (L.getD 1 0) <<< (8 * 1)) ||| (w8 (L.getD 0 0))))]) (Rc (resVar_tmp rfl rfl) Rn) (by rw [show L.length = 6 from by omega]; simp only [lastQ, Nat.mul_zero, BitVec.shiftLeft_zero]; rfl)
    · replace hc2 := ne_of_beq_false hc2
      refine Ks <| Tg <| Sq <| Sq <| Rg <| Vs (Bi rfl) <| Vs (As rfl) <| Nx <| Cd rfl (fun hc3 => ?_) (fun hc3 => ?_)
      · replace hc3 := eq_of_beq hc3
        exact Ke <| Te <| Te <| Io <| Te <| Io <| Te <| Ih <| Tg <| Rg <| Vs (Mv rfl) <| Vs (Mv rfl) <| Vs (IxN (q := 4) TK23 rfl) <| Vs (Lq TA5 rfl) <| Vs (Cv TU5 TU22 rfl (wrap_w _)) <| Vs (Bo (c := .int .u64 (wv (w8 (L.getD 4 0) <<< (8 * 4)))) rfl (bop_shl_w _ (8 * 4) (by decide) rfl)) <| Vs (Bo (c := .int .u64 (wv (BitVec.ofInt 64 n <<< 56 ||| (w8 (L.getD 4 0) <<< (8 * 4))))) rfl (bop_or_w _ _)) <| Vs (As rfl) <| VList.nil <| Ig <| Tg <| Rg <| Vs (Mv rfl) <| Vs (Mv rfl) <| Vs (IxN (q := 3) TK23 rfl) <| Vs (Lq TA5 rfl) <| Vs (Cv TU5 TU22 rfl (wrap_w _)) <| Vs (Bo (c := .int .u64 (wv (w8 (L.getD 3 0) <<< (8 * 3)))) rfl (bop_shl_w _ (8 * 3) (by decide) rfl)) <| Vs (Bo (c := .int .u64 (wv (BitVec.ofInt 64 n <<< 56 ||| (w8 (L.getD 4 0) <<< (8 * 4)) ||| (w8 (L.getD 3 0) <<< (8 * 3))))) rfl (bop_or_w _ _)) <| Vs (As rfl) <| VList.nil <| Ig <| Tg <| Rg <| Vs (Mv rfl) <| Vs (Mv rfl) <| Vs (IxN (q := 2) TK23 rfl) <| Vs (Lq TA5 rfl) <| Vs (Cv TU5 TU22 rfl (wrap_w _)) <| Vs (Bo (c := .int .u64 (wv (w8 (L.getD 2 0) <<< (8 * 2)))) rfl (bop_shl_w _ (8 * 2) (by decide) rfl)) <| Vs (Bo (c := .int .u64 (wv (BitVec.ofInt 64 n <<< 56 ||| (w8 (L.getD 4 0) <<< (8 * 4)) ||| (w8 (L.getD 3 0) <<< (8 * 3)) ||| (w8 (L.getD 2 0) <<< (8 * 2))))) rfl (bop_or_w _ _)) <| Vs (As rfl) <| VList.nil <| Ig <| Tg <| Rg <| Vs (Mv rfl) <| Vs (Mv rfl) <| Vs (IxN (q := 1) TK23 rfl) <| Vs (Lq TA5 rfl) <| Vs (Cv TU5 TU22 rfl (wrap_w _)) <| Vs (Bo (c := .int .u64 (wv (w8 (L.getD 1 0) <<< (8 * 1)))) rfl (bop_shl_w _ (8 * 1) (by decide) rfl)) <| Vs (Bo (c := .int .u64 (wv (BitVec.ofInt 64 n <<< 56 ||| (w8 (L.getD 4 0) <<< (8 * 4)) ||| (w8 (L.getD 3 0) <<< (8 * 3)) ||| (w8 (L.getD 2 0) <<< (8 * 2)) ||| (w8 (L.getD 1 0) <<< (8 * 1))))) rfl (bop_or_w _ _)) <| Vs (As rfl) <| VList.nil <| Ig <| Tg <| Sq <| Rg <| Vs (Mv rfl) <| Vs (Mv rfl) <| Vs (IxN (q := 0) TK23 rfl) <| Vs (Lq TA5 rfl) <| Vs (Cv TU5 TU22 rfl (wrap_w _)) <| Vs (Bo (c := .int .u64 (wv (BitVec.ofInt 64 n <<< 56 ||| (w8 (L.getD 4 0) <<< (8 * 4)) ||| (w8 (L.getD 3 0) <<< (8 * 3)) ||| (w8 (L.getD 2 0) <<< (8 * 2)) ||| (w8 (L.getD 1 0) <<< (8 * 1)) ||| (w8 (L.getD 0 0))))) rfl (bop_or_w _ _)) <| Vs (As rfl) <| Nx <| Ke <| Ih <| Tg <| Sq <| Rg <| Vs (Mv rfl) <| Vs (As rfl) <| Nx <| Re <| Fi (l := [numB .u64 (wv (BitVec.ofInt 64 n <<< 56 ||| (w8 (L.getD 4 0) <<< (8 * 4)) ||| (w8 (L.getD 3 0) <<< (8 * 3)) ||| (w8 (L.getD 2 0) <<< (8 * 2)) ||| (w8 (L.getD 1 0) <<< (8 * 1)) ||| (w8 (L.getD 0 0))))]) (Rc (resVar_tmp rfl rfl) Rn) (by rw [show L.length = 5 from by omega]; simp only [lastQ, Nat.mul_zero, BitVec.shiftLeft_zero]; rfl)
      · replace hc3 := ne_of_beq_false hc3
        refine Ks <| Tg <| Sq <| Sq <| Rg <| Vs (Bi rfl) <| Vs (As rfl) <| Nx <| Cd rfl (fun hc4 => ?_) (fun hc4 => ?_)
        · replace hc4 := eq_of_beq hc4
          exact Ke <| Te <| Te <| Io <| Te <| Io <| Te <| Io <| Te <| Ih <| Tg <| Rg <| Vs (Mv rfl) <| Vs (Mv rfl) <| Vs (IxN (q := 3) TK23 rfl) <| Vs (Lq TA5 rfl) <| Vs (Cv TU5 TU22 rfl (wrap_w _)) <| Vs (Bo (c := .int .u64 (wv (w8 (L.getD 3 0) <<< (8 * 3)))) rfl (bop_shl_w _ (8 * 3) (by decide) rfl)) <| Vs (Bo (c := .int .u64 (wv (BitVec.ofInt 64 n <<< 56 ||| (w8 (L.getD 3 0) <<< (8 * 3))))) rfl (bop_or_w _ _)) <| Vs (As rfl) <| VList.nil <| Ig <| Tg <| Rg <| Vs (Mv rfl) <| Vs (Mv rfl) <| Vs (IxN (q := 2) TK23 rfl) <| Vs (Lq TA5 rfl) <| Vs (Cv TU5 TU22 rfl (wrap_w _)) <| Vs (Bo (c := .int .u64 (wv (w8 (L.getD 2 0) <<< (8 * 2)))) rfl (bop_shl_w _ (8 * 2) (by decide) rfl)) <| Vs (Bo (c := .int .u64 (wv (BitVec.ofInt 64 n <<< 56 ||| (w8 (L.getD 3 0) <<< (8 * 3)) ||| (w8 (L.getD 2 0) <<< (8 * 2))))) rfl (bop_or_w _ _)) <| Vs (As rfl) <| VList.nil <| Ig <| Tg <| Rg <| Vs (Mv rfl) <| Vs (Mv rfl) <| Vs (IxN (q := 1) TK23 rfl) <| Vs (Lq TA5 rfl) <| Vs (Cv TU5 TU22 rfl (wrap_w _)) <| Vs (Bo (c := .int .u64 (wv (w8 (L.getD 1 0) <<< (8 * 1)))) rfl (bop_shl_w _ (8 * 1) (by decide) rfl)) <| Vs (Bo (c := .int .u64 (wv (BitVec.ofInt 64 n <<< 56 ||| (w8 (L.getD 3 0) <<< (8 * 3)) ||| (w8 (L.getD 2 0) <<< (8 * 2)) ||| (w8 (L.getD 1 0) <<< (8 * 1))))) rfl (bop_or_w _ _)) <| Vs (As rfl) <| VList.nil <| Ig <| Tg <| Sq <| Rg <| Vs (Mv rfl) <| Vs (Mv rfl) <| Vs (IxN (q := 0) TK23 rfl) <| Vs (Lq TA5 rfl) <| Vs (Cv TU5 TU22 rfl (wrap_w _)) <| Vs (Bo (c := .int .u64 (wv (BitVec.ofInt 64 n <<< 56 ||| (w8 (L.getD 3 0) <<< (8 * 3)) ||| (w8 (L.getD 2 0) <<< (8 * 2)) ||| (w8 (L.getD 1 0) <<< (8 * 1)) ||| (w8 (L.getD 0 0))))) rfl (bop_or_w _ _)) <| Vs (As rfl) <| Nx <| Ke <| Ih <| Tg <| Sq <| Rg <| Vs (Mv rfl) <| Vs (As rfl) <| Nx <| Re <| Fi (l := [numB .u64 (wv (BitVec.ofInt 64 n <<< 56 ||| (w8 (L.getD 3 0) <<< (8 * 3)) ||| (w8 (L.getD 2 0) <<< (8 * 2)) ||| (w8 (L.getD 1 0) <<< (8 * 1)) ||| (w8 (L.getD 0 0))))]) (Rc (resVar_tmp rfl rfl) Rn) (by rw [show L.length = 4 from by omega]; simp only [lastQ, Nat.mul_zero, BitVec.shiftLeft_zero]; rfl)
        · replace hc4 := ne_of_beq_false hc4
          refine Ks <| Tg <| Sq <| Sq <| Rg <| Vs (Bi rfl) <| Vs (As rfl) <| Nx <| Cd rfl (fun hc5 => ?_) (fun hc5 => ?_)
          · replace hc5 := eq_of_beq hc5
            exact Ke <| Te <| Te <| Io <| Te <| Io <| Te <| Io <| Te <| Io <| Te <| Ih <| Tg <| Rg <| Vs (Mv rfl) <| Vs (Mv rfl) <| Vs (IxN (q := 2) TK23 rfl) <| Vs (Lq TA5 rfl) <| Vs (Cv TU5 TU22 rfl (wrap_w _)) <| Vs (Bo (c := .int .u64 (wv (w8 (L.getD 2 0) <<< (8 * 2)))) rfl (bop_shl_w _ (8 * 2) (by decide) rfl)) <| Vs (Bo (c := .int .u64 (wv (BitVec.ofInt 64 n <<< 56 ||| (w8 (L.getD 2 0) <<< (8 * 2))))) rfl (bop_or_w _ _)) <| Vs (As rfl) <| VList.nil <| Ig <| Tg <| Rg <| Vs (Mv rfl) <| Vs (Mv rfl) <| Vs (IxN (q := 1) TK23 rfl) <| Vs (Lq TA5 rfl) <| Vs (Cv TU5 TU22 rfl (wrap_w _)) <| Vs (Bo (c := .int .u64 (wv (w8 (L.getD 1 0) <<< (8 * 1)))) rfl (bop_shl_w _ (8 * 1) (by decide) rfl)) <| Vs (Bo (c := .int .u64 (wv (BitVec.ofInt 64 n <<< 56 ||| (w8 (L.getD 2 0) <<< (8 * 2)) ||| (w8 (L.getD 1 0) <<< (8 * 1))))) rfl (bop_or_w _ _)) <| Vs (As rfl) <| VList.nil <| Ig <| Tg <| Sq <| Rg <| Vs (Mv rfl) <| Vs (Mv rfl) <| Vs (IxN (q := 0) TK23 rfl) <| Vs (Lq TA5 rfl) <| Vs (Cv TU5 TU22 rfl (wrap_w _)) <| Vs (Bo (c := .int .u64 (wv (BitVec.ofInt 64 n <<< 56 ||| (w8 (L.getD 2 0) <<< (8 * 2)) ||| (w8 (L.getD 1 0) <<< (8 * 1)) ||| (w8 (L.getD 0 0))))) rfl (bop_or_w _ _)) <| Vs (As rfl) <| Nx <| Ke <| Ih <| Tg <| Sq <| Rg <| Vs (Mv rfl) <| Vs (As rfl) <| Nx <| Re <| Fi (l := [numB .u64 (wv (BitVec.ofInt 64 n <<< 56 ||| (w8 (L.getD 2 0) <<< (8 * 2)) ||| (w8 (L.getD 1 0) <<< (8 * 1)) ||| (w8 (L.getD 0 0))))]) (Rc (resVar_tmp rfl rfl) Rn) (by rw [show L.length = 3 from by omega]; simp only [lastQ, Nat.mul_zero, BitVec.shiftLeft_zero]; rfl)
          · replace hc5 := ne_of_beq_false hc5
            refine Ks <| Tg <| Sq <| Sq <| Rg <| Vs (Bi rfl) <| Vs (As rfl) <| Nx <| Cd rfl (fun hc6 => ?_) (fun hc6 => ?_)
            · replace hc6 := eq_of_beq hc6
              exact Ke <| Te <| Te <| Io <| Te <| Io <| Te <| Io <| Te <| Io <| Te <| Io <| Te <| Ih <| Tg <| Rg <| Vs (Mv rfl) <| Vs (Mv rfl) <| Vs (IxN (q := 1) TK23 rfl) <| Vs (Lq TA5 rfl) <| Vs (Cv TU5 TU22 rfl (wrap_w _)) <| Vs (Bo (c := .int .u64 (wv (w8 (L.getD 1 0) <<< (8 * 1)))) rfl (bop_shl_w _ (8 * 1) (by decide) rfl)) <| Vs (Bo (c := .int .u64 (wv (BitVec.ofInt 64 n <<< 56 ||| (w8 (L.getD 1 0) <<< (8 * 1))))) rfl (bop_or_w _ _)) <| Vs (As rfl) <| VList.nil <| Ig <| Tg <| Sq <| Rg <| Vs (Mv rfl) <| Vs (Mv rfl) <| Vs (IxN (q := 0) TK23 rfl) <| Vs (Lq TA5 rfl) <| Vs (Cv TU5 TU22 rfl (wrap_w _)) <| Vs (Bo (c := .int .u64 (wv (BitVec.ofInt 64 n <<< 56 ||| (w8 (L.getD 1 0) <<< (8 * 1)) ||| (w8 (L.getD 0 0))))) rfl (bop_or_w _ _)) <| Vs (As rfl) <| Nx <| Ke <| Ih <| Tg <| Sq <| Rg <| Vs (Mv rfl) <| Vs (As rfl) <| Nx <| Re <| Fi (l := [numB .u64 (wv (BitVec.ofInt 64 n <<< 56 ||| (w8 (L.getD 1 0) <<< (8 * 1)) ||| (w8 (L.getD 0 0))))]) (Rc (resVar_tmp rfl rfl) Rn) (by rw [show L.length = 2 from by omega]; simp only [lastQ, Nat.mul_zero, BitVec.shiftLeft_zero]; rfl)
            · replace hc6 := ne_of_beq_false hc6
              refine Ks <| Tg <| Sq <| Rg <| Vs (Bi rfl) <| Vs (As rfl) <| Nx <| Cd rfl (fun hc7 => ?_) (fun hc7 => ?_)
              · replace hc7 := eq_of_beq hc7
                exact Ke <| Te <| Io <| Te <| Io <| Te <| Io <| Te <| Io <| Te <| Io <| Te <| Io <| Te <| Ih <| Tg <| Sq <| Rg <| Vs (Mv rfl) <| Vs (Mv rfl) <| Vs (IxN (q := 0) TK23 rfl) <| Vs (Lq TA5 rfl) <| Vs (Cv TU5 TU22 rfl (wrap_w _)) <| Vs (Bo (c := .int .u64 (wv (BitVec.ofInt 64 n <<< 56 ||| (w8 (L.getD 0 0))))) rfl (bop_or_w _ _)) <| Vs (As rfl) <| Nx <| Ke <| Ih <| Tg <| Sq <| Rg <| Vs (Mv rfl) <| Vs (As rfl) <| Nx <| Re <| Fi (l := [numB .u64 (wv (BitVec.ofInt 64 n <<< 56 ||| (w8 (L.getD 0 0))))]) (Rc (resVar_tmp rfl rfl) Rn) (by rw [show L.length = 1 from by omega]; simp only [lastQ, Nat.mul_zero, BitVec.shiftLeft_zero]; rfl)
              · replace hc7 := ne_of_beq_false hc7
                exact Ks <| Tg <| Ke <| Io <| Te <| Io <| Te <| Io <| Te <| Io <| Te <| Io <| Te <| Io <| Te <| Io <| Te <| Ih <| Tg <| Sq <| Rg <| Vs (Mv rfl) <| Vs (As rfl) <| Nx <| Re <| Fi (l := [numB .u64 (wv (BitVec.ofInt 64 n <<< 56))]) (Rc (resVar_tmp rfl rfl) Rn) (by rw [show L.length = 0 from by omega]; simp only [lastQ, Nat.mul_zero, BitVec.shiftLeft_zero]; rfl)
end Go.VL

/- Walks over the Go functions, printed by a program of this session over the kit's print, and by hand. -/
set_option linter.unusedVariables false
set_option linter.unusedSimpArgs false
set_option maxRecDepth 100000
namespace Go.VL
open Go.Proofs
theorem m10 {k0 k1 : BitVec 64} {b : List Int} (h8 : ByR b) (hb : b.length ≤ 4611686018427387904) : VF Try.prog 10 [.agg [numB .u64 (wv (k0)), numB .u64 (wv (k1))], slK .u8 (b)] (numB .u64 (wv (hashQ k0 k1 b))) := by
  refine VF_of P_mixed Try.func10 rfl rfl (by kernel_rfl) <| Sq <| Rg <| Vs (Bx 0 rfl) <| Vs (As rfl) <| Nx <| Sq <| Rg <| Vs (Ia TU25 TS22 rfl) <| Vs (Ld TA22 rfl) <| Vs (Bo (c := .int .u64 (wv (k0 ^^^ BitVec.ofInt 64 8317987319222330741))) rfl (bop_xor_wc _ _)) <| Vs (Ia TU25 TS22 rfl) <| Vs (Ld TA22 rfl) <| Vs (Bo (c := .int .u64 (wv (k1 ^^^ BitVec.ofInt 64 7237128888997146477))) rfl (bop_xor_wc _ _)) <| Vs (Ia TU25 TS22 rfl) <| Vs (Ld TA22 rfl) <| Vs (Bo (c := .int .u64 (wv (k0 ^^^ BitVec.ofInt 64 7816392313619706465))) rfl (bop_xor_wc _ _)) <| Vs (Ia TU25 TS22 rfl) <| Vs (Ld TA22 rfl) <| Vs (Bo (c := .int .u64 (wv (k1 ^^^ BitVec.ofInt 64 8387220255154660723))) rfl (bop_xor_wc _ _)) <| Vs (BdA TZ67 TU67 TS22 rfl) <| Vs (Bx 15 rfl) <| Vs (As rfl) <| Nx <| Sq <| Rg <| Vs (Mv rfl) <| Vs (As rfl) <| Nx <| Sq <| Bk <| VCode.loop (α := (Nat) × (List Int) × (HS)) (fun x_ => match x_ with | (i, T, u) => (16, sl [(1, .b (slK .u8 (b))), (5, .ptr 15 (0)), (6, .b (slK .u8 (T)))], en [(15, ⟨4, [vI .u64 (wv ((u).a)), vI .u64 (wv ((u).b)), vI .u64 (wv ((u).c)), vI .u64 (wv ((u).d))], true⟩)])) (fun x_ => match x_ with | (i, T, u) => i ≤ b.length / 8 ∧ T = b.drop (8 * i) ∧ u = hashB b i (initH k0 k1)) (fun x_ => match x_ with | (i, T, u) => b.length / 8 - i) (0, b, (⟨k0 ^^^ BitVec.ofInt 64 8317987319222330741, k1 ^^^ BitVec.ofInt 64 7237128888997146477, k0 ^^^ BitVec.ofInt 64 7816392313619706465, k1 ^^^ BitVec.ofInt 64 8387220255154660723⟩ : HS)) ⟨Nat.zero_le _, rfl, rfl⟩ Wk ?_
  rintro ⟨i, T, u⟩ hok
  obtain ⟨hi, hT, hu⟩ := hok
  have hTl : T.length = b.length - 8 * i := by rw [hT, List.length_drop]
  change VCode _ _ _ 16 (sl _) (en _) _
  refine Sq <| Sq <| Rg <| Vs (Mv rfl) <| Vs (Ls TK23 rfl) <| Vs (Bi rfl) <| Nx <| Cd rfl (fun hc1 => ?_) (fun hc1 => ?_)
  · replace hc1 := of_decide_eq_true hc1
    refine Ks <| Tg <| Bk <| Sq <| Rg <| Vs (As rfl) <| Nx <| Sq <| Sq <| Rg <| Vs (Mv rfl) <| Vs (Ct TK23 rfl) <| Vs (Ls TK23 rfl) <| Vs (Mv rfl) <| Nx <| Bk <| VCode.loop (α := (Nat) × (BitVec 64)) (fun x_ => match x_ with | (j, M) => (16, sl [(1, .b (slK .u8 (b))), (5, .ptr 15 (0)), (6, .b (slK .u8 (T))), (7, vI .u64 (wv (M))), (29, .b (slK .u8 (T.take 8))), (30, vI .i64 (((T.take 8).length : Int))), (31, vI .i64 ((j : Int)))], en [(15, ⟨4, [vI .u64 (wv ((u).a)), vI .u64 (wv ((u).b)), vI .u64 (wv ((u).c)), vI .u64 (wv ((u).d))], true⟩)])) (fun x_ => match x_ with | (j, M) => j ≤ 8 ∧ M = wordQ (T.take 8) j) (fun x_ => match x_ with | (j, M) => 8 - j) (0, 0#64) ⟨by decide, rfl⟩ Wk ?_
    rintro ⟨j, M⟩ hok
    obtain ⟨hj, hM⟩ := hok
    have ht8 : ((T.take 8).length : Int) = 8 := by rw [List.length_take]; omega
    change VCode _ _ _ 16 (sl _) (en _) _
    refine Sq <| Rg <| Vs (Bi rfl) <| Nx <| Sq <| Cd rfl (fun hc2 => ?_) (fun hc2 => ?_)
    · replace hc2 := of_decide_eq_true hc2
      exact Ks <| Tg <| Sq <| Bk <| Sq <| Rg <| Vs (Mv rfl) <| Vs (IxN TK23 rfl) <| Vs (Lq TA5 rfl) <| Vs (As rfl) <| Vs (As rfl) <| Nx <| Rg <| Vs (Mv rfl) <| Vs (Mv rfl) <| Vs (Cv TU5 TU22 rfl (wrap_w _)) <| Vs (Mv rfl) <| Vs (Bo rfl muI) <| Vs (Bo (c := .int .u64 (wv (w8 ((T.take 8).getD j 0) <<< (8 * j)))) rfl (bop_shl_w _ (8 * j) (by omega) (by omega))) <| Vs (Bo (c := .int .u64 (wv (M ||| (w8 ((T.take 8).getD j 0) <<< (8 * j))))) rfl (bop_or_w _ _)) <| Vs (As rfl) <| VList.nil <| Ig <| Tg <| Rg <| Vs (Bo rfl adI) <| Vs (Mv rfl) <| VList.nil <| Go (j + 1, (M ||| (w8 ((T.take 8).getD j 0) <<< (8 * j)))) ⟨by omega, by rw [wordQ, ← hM]⟩ Wk
    · replace hc2 := of_decide_eq_false hc2
      have hM8 : wordQ (T.take 8) 8 = M := by rw [hM, show j = 8 by omega]
      exact Ke <| Te <| Oe <| Ih <| Tg <| Sq <| Rg <| Vs (Mv rfl) <| Vs (Mv rfl) <| Gm 19 [15] [] (v := .b (.tup [])) [(15, ⟨4, [vI .u64 (wv ((wordH u (M)).a)), vI .u64 (wv ((wordH u (M)).b)), vI .u64 (wv ((wordH u (M)).c)), vI .u64 (wv ((wordH u (M)).d))], true⟩)] rfl (w28 (v := u) (m := M)) rfl <| Nx <| Rg <| Vs (Mv rfl) <| Vs (CfB TK23 rfl) <| Vs (As rfl) <| VList.nil <| Ig <| Go (i + 1, (T.drop 8), wordH u (M)) ⟨by omega, by rw [hT, List.drop_drop, Nat.mul_succ], by rw [hashB, ← hu, ← hT, hM8]; first | done | rfl⟩ Wk
  · replace hc1 := of_decide_eq_false hc1
    have hi8 : i = b.length / 8 := by omega
    have hT8 : T.length = b.length % 8 := by omega
    rw [hi8] at hT hu
    refine Ke <| Te <| Oe <| Ih <| Tg <| Sq <| Rg <| Vs (Mv rfl) <| Vs (Mv rfl) <| Vs (Mv rfl) <| Vs (Ls TK23 rfl) <| Vs (Cf rfl rfl (m29 (L := T) (by omega) (((b).length : Int))) rfl) <| Gm 24 [15] [] (v := .b (.tup [])) [(15, ⟨4, [vI .u64 (wv ((wordH u (lastQ (T) (T).length (BitVec.ofInt 64 (((b).length : Int)) <<< 56))).a)), vI .u64 (wv ((wordH u (lastQ (T) (T).length (BitVec.ofInt 64 (((b).length : Int)) <<< 56))).b)), vI .u64 (wv ((wordH u (lastQ (T) (T).length (BitVec.ofInt 64 (((b).length : Int)) <<< 56))).c)), vI .u64 (wv ((wordH u (lastQ (T) (T).length (BitVec.ofInt 64 (((b).length : Int)) <<< 56))).d))], true⟩)] rfl (w28 (v := u) (m := lastQ (T) (T).length (BitVec.ofInt 64 (((b).length : Int)) <<< 56))) rfl <| Nx <| Sq <| ?_
    have hlq : lastQ T T.length (BitVec.ofInt 64 (b.length : Int) <<< 56) = lstQ b := by rw [hT8, hT]; rfl
    refine Rd (by kernel_rfl) <| Vl (Mv rfl) <| Vl (Nk rfl) <| Vl (Ia TU67 TS22 rfl) <| Vl (Ld TA22 rfl) <| Vl (Bo (c := .int .u64 (wv ((wordH u (lastQ (T) (T).length (BitVec.ofInt 64 (((b).length : Int)) <<< 56))).c ^^^ BitVec.ofInt 64 255))) rfl (bop_xor_wc _ _)) <| Vl (Nk rfl) <| Vl (Ia TU67 TS22 rfl) <| Vl (St TS22 rfl) <| ?_
    refine VLog.nil ⟨by kernel_rfl, ?_⟩
    refine Tg <| Sq <| Rg <| Vs (Mv rfl) <| Gm 34 [15] [] (v := .b (.tup [])) [(15, ⟨4, [vI .u64 (wv ((itH rnd 4 ((⟨(wordH u (lastQ (T) (T).length (BitVec.ofInt 64 (((b).length : Int)) <<< 56))).a, (wordH u (lastQ (T) (T).length (BitVec.ofInt 64 (((b).length : Int)) <<< 56))).b, (wordH u (lastQ (T) (T).length (BitVec.ofInt 64 (((b).length : Int)) <<< 56))).c ^^^ BitVec.ofInt 64 255, (wordH u (lastQ (T) (T).length (BitVec.ofInt 64 (((b).length : Int)) <<< 56))).d⟩ : HS))).a)), vI .u64 (wv ((itH rnd 4 ((⟨(wordH u (lastQ (T) (T).length (BitVec.ofInt 64 (((b).length : Int)) <<< 56))).a, (wordH u (lastQ (T) (T).length (BitVec.ofInt 64 (((b).length : Int)) <<< 56))).b, (wordH u (lastQ (T) (T).length (BitVec.ofInt 64 (((b).length : Int)) <<< 56))).c ^^^ BitVec.ofInt 64 255, (wordH u (lastQ (T) (T).length (BitVec.ofInt 64 (((b).length : Int)) <<< 56))).d⟩ : HS))).b)), vI .u64 (wv ((itH rnd 4 ((⟨(wordH u (lastQ (T) (T).length (BitVec.ofInt 64 (((b).length : Int)) <<< 56))).a, (wordH u (lastQ (T) (T).length (BitVec.ofInt 64 (((b).length : Int)) <<< 56))).b, (wordH u (lastQ (T) (T).length (BitVec.ofInt 64 (((b).length : Int)) <<< 56))).c ^^^ BitVec.ofInt 64 255, (wordH u (lastQ (T) (T).length (BitVec.ofInt 64 (((b).length : Int)) <<< 56))).d⟩ : HS))).c)), vI .u64 (wv ((itH rnd 4 ((⟨(wordH u (lastQ (T) (T).length (BitVec.ofInt 64 (((b).length : Int)) <<< 56))).a, (wordH u (lastQ (T) (T).length (BitVec.ofInt 64 (((b).length : Int)) <<< 56))).b, (wordH u (lastQ (T) (T).length (BitVec.ofInt 64 (((b).length : Int)) <<< 56))).c ^^^ BitVec.ofInt 64 255, (wordH u (lastQ (T) (T).length (BitVec.ofInt 64 (((b).length : Int)) <<< 56))).d⟩ : HS))).d))], true⟩)] rfl (w30 (v := (⟨(wordH u (lastQ (T) (T).length (BitVec.ofInt 64 (((b).length : Int)) <<< 56))).a, (wordH u (lastQ (T) (T).length (BitVec.ofInt 64 (((b).length : Int)) <<< 56))).b, (wordH u (lastQ (T) (T).length (BitVec.ofInt 64 (((b).length : Int)) <<< 56))).c ^^^ BitVec.ofInt 64 255, (wordH u (lastQ (T) (T).length (BitVec.ofInt 64 (((b).length : Int)) <<< 56))).d⟩ : HS)) (n := 4) (by decide)) rfl <| Nx <| Sq <| Rd (by kernel_rfl) <| Vl (Mv rfl) <| Vl (Nk rfl) <| Vl (Ia TU67 TS22 rfl) <| Vl (Ld TA22 rfl) <| Vl (Mv rfl) <| Vl (Nk rfl) <| Vl (Ia TU67 TS22 rfl) <| Vl (Ld TA22 rfl) <| Vl (Bo (c := .int .u64 (wv ((itH rnd 4 ((⟨(wordH u (lastQ (T) (T).length (BitVec.ofInt 64 (((b).length : Int)) <<< 56))).a, (wordH u (lastQ (T) (T).length (BitVec.ofInt 64 (((b).length : Int)) <<< 56))).b, (wordH u (lastQ (T) (T).length (BitVec.ofInt 64 (((b).length : Int)) <<< 56))).c ^^^ BitVec.ofInt 64 255, (wordH u (lastQ (T) (T).length (BitVec.ofInt 64 (((b).length : Int)) <<< 56))).d⟩ : HS))).a ^^^ ((itH rnd 4 ((⟨(wordH u (lastQ (T) (T).length (BitVec.ofInt 64 (((b).length : Int)) <<< 56))).a, (wordH u (lastQ (T) (T).length (BitVec.ofInt 64 (((b).length : Int)) <<< 56))).b, (wordH u (lastQ (T) (T).length (BitVec.ofInt 64 (((b).length : Int)) <<< 56))).c ^^^ BitVec.ofInt 64 255, (wordH u (lastQ (T) (T).length (BitVec.ofInt 64 (((b).length : Int)) <<< 56))).d⟩ : HS))).b)))) rfl (bop_xor_w _ _)) <| Vl (Mv rfl) <| Vl (Nk rfl) <| Vl (Ia TU67 TS22 rfl) <| Vl (Ld TA22 rfl) <| Vl (Bo (c := .int .u64 (wv ((itH rnd 4 ((⟨(wordH u (lastQ (T) (T).length (BitVec.ofInt 64 (((b).length : Int)) <<< 56))).a, (wordH u (lastQ (T) (T).length (BitVec.ofInt 64 (((b).length : Int)) <<< 56))).b, (wordH u (lastQ (T) (T).length (BitVec.ofInt 64 (((b).length : Int)) <<< 56))).c ^^^ BitVec.ofInt 64 255, (wordH u (lastQ (T) (T).length (BitVec.ofInt 64 (((b).length : Int)) <<< 56))).d⟩ : HS))).a ^^^ ((itH rnd 4 ((⟨(wordH u (lastQ (T) (T).length (BitVec.ofInt 64 (((b).length : Int)) <<< 56))).a, (wordH u (lastQ (T) (T).length (BitVec.ofInt 64 (((b).length : Int)) <<< 56))).b, (wordH u (lastQ (T) (T).length (BitVec.ofInt 64 (((b).length : Int)) <<< 56))).c ^^^ BitVec.ofInt 64 255, (wordH u (lastQ (T) (T).length (BitVec.ofInt 64 (((b).length : Int)) <<< 56))).d⟩ : HS))).b) ^^^ ((itH rnd 4 ((⟨(wordH u (lastQ (T) (T).length (BitVec.ofInt 64 (((b).length : Int)) <<< 56))).a, (wordH u (lastQ (T) (T).length (BitVec.ofInt 64 (((b).length : Int)) <<< 56))).b, (wordH u (lastQ (T) (T).length (BitVec.ofInt 64 (((b).length : Int)) <<< 56))).c ^^^ BitVec.ofInt 64 255, (wordH u (lastQ (T) (T).length (BitVec.ofInt 64 (((b).length : Int)) <<< 56))).d⟩ : HS))).c)))) rfl (bop_xor_w _ _)) <| Vl (Mv rfl) <| Vl (Nk rfl) <| Vl (Ia TU67 TS22 rfl) <| Vl (Ld TA22 rfl) <| Vl (Bo (c := .int .u64 (wv ((itH rnd 4 ((⟨(wordH u (lastQ (T) (T).length (BitVec.ofInt 64 (((b).length : Int)) <<< 56))).a, (wordH u (lastQ (T) (T).length (BitVec.ofInt 64 (((b).length : Int)) <<< 56))).b, (wordH u (lastQ (T) (T).length (BitVec.ofInt 64 (((b).length : Int)) <<< 56))).c ^^^ BitVec.ofInt 64 255, (wordH u (lastQ (T) (T).length (BitVec.ofInt 64 (((b).length : Int)) <<< 56))).d⟩ : HS))).a ^^^ ((itH rnd 4 ((⟨(wordH u (lastQ (T) (T).length (BitVec.ofInt 64 (((b).length : Int)) <<< 56))).a, (wordH u (lastQ (T) (T).length (BitVec.ofInt 64 (((b).length : Int)) <<< 56))).b, (wordH u (lastQ (T) (T).length (BitVec.ofInt 64 (((b).length : Int)) <<< 56))).c ^^^ BitVec.ofInt 64 255, (wordH u (lastQ (T) (T).length (BitVec.ofInt 64 (((b).length : Int)) <<< 56))).d⟩ : HS))).b) ^^^ ((itH rnd 4 ((⟨(wordH u (lastQ (T) (T).length (BitVec.ofInt 64 (((b).length : Int)) <<< 56))).a, (wordH u (lastQ (T) (T).length (BitVec.ofInt 64 (((b).length : Int)) <<< 56))).b, (wordH u (lastQ (T) (T).length (BitVec.ofInt 64 (((b).length : Int)) <<< 56))).c ^^^ BitVec.ofInt 64 255, (wordH u (lastQ (T) (T).length (BitVec.ofInt 64 (((b).length : Int)) <<< 56))).d⟩ : HS))).c) ^^^ ((itH rnd 4 ((⟨(wordH u (lastQ (T) (T).length (BitVec.ofInt 64 (((b).length : Int)) <<< 56))).a, (wordH u (lastQ (T) (T).length (BitVec.ofInt 64 (((b).length : Int)) <<< 56))).b, (wordH u (lastQ (T) (T).length (BitVec.ofInt 64 (((b).length : Int)) <<< 56))).c ^^^ BitVec.ofInt 64 255, (wordH u (lastQ (T) (T).length (BitVec.ofInt 64 (((b).length : Int)) <<< 56))).d⟩ : HS))).d)))) rfl (bop_xor_w _ _)) <| Vl (As rfl) <| ?_
    refine VLog.nil ⟨by kernel_rfl, ?_⟩
    exact Tg <| Re <| Fi (l := [numB .u64 (wv ((itH rnd 4 ((⟨(wordH u (lastQ (T) (T).length (BitVec.ofInt 64 (((b).length : Int)) <<< 56))).a, (wordH u (lastQ (T) (T).length (BitVec.ofInt 64 (((b).length : Int)) <<< 56))).b, (wordH u (lastQ (T) (T).length (BitVec.ofInt 64 (((b).length : Int)) <<< 56))).c ^^^ BitVec.ofInt 64 255, (wordH u (lastQ (T) (T).length (BitVec.ofInt 64 (((b).length : Int)) <<< 56))).d⟩ : HS))).a ^^^ ((itH rnd 4 ((⟨(wordH u (lastQ (T) (T).length (BitVec.ofInt 64 (((b).length : Int)) <<< 56))).a, (wordH u (lastQ (T) (T).length (BitVec.ofInt 64 (((b).length : Int)) <<< 56))).b, (wordH u (lastQ (T) (T).length (BitVec.ofInt 64 (((b).length : Int)) <<< 56))).c ^^^ BitVec.ofInt 64 255, (wordH u (lastQ (T) (T).length (BitVec.ofInt 64 (((b).length : Int)) <<< 56))).d⟩ : HS))).b) ^^^ ((itH rnd 4 ((⟨(wordH u (lastQ (T) (T).length (BitVec.ofInt 64 (((b).length : Int)) <<< 56))).a, (wordH u (lastQ (T) (T).length (BitVec.ofInt 64 (((b).length : Int)) <<< 56))).b, (wordH u (lastQ (T) (T).length (BitVec.ofInt 64 (((b).length : Int)) <<< 56))).c ^^^ BitVec.ofInt 64 255, (wordH u (lastQ (T) (T).length (BitVec.ofInt 64 (((b).length : Int)) <<< 56))).d⟩ : HS))).c) ^^^ ((itH rnd 4 ((⟨(wordH u (lastQ (T) (T).length (BitVec.ofInt 64 (((b).length : Int)) <<< 56))).a, (wordH u (lastQ (T) (T).length (BitVec.ofInt 64 (((b).length : Int)) <<< 56))).b, (wordH u (lastQ (T) (T).length (BitVec.ofInt 64 (((b).length : Int)) <<< 56))).c ^^^ BitVec.ofInt 64 255, (wordH u (lastQ (T) (T).length (BitVec.ofInt 64 (((b).length : Int)) <<< 56))).d⟩ : HS))).d)))]) (Rc (resVar_tmp rfl rfl) Rn) (by rw [hlq, hu]; rfl)
end Go.VL

/- Two numbers side by side, compared. -/
set_option linter.unusedVariables false
set_option linter.unusedSimpArgs false
namespace Go.VL
open Go.Proofs
/-- How two values of a type of two numbers are compared. -/
structure EqT (P : Program) (T : TypeId) (k : IntKind) : Prop where
  g : P.eqGuardType P.depth T = false
  r : ∀ (a b c d : Int) (w : World), (Op.equalIn 10000 T (.agg #[.int k a, .int k b]) (.agg #[.int k c, .int k d])).run P w = .ok (a == c && b == d) w
theorem rep_two {W : World} {Q : Nat → Prop} {pl : Plan} {k : IntKind} {a b : Int} {v : Value} (h : Rep W Q pl (.agg [vI k a, vI k b]) v) : v = .agg #[.int k a, .int k b] := by
  obtain ⟨arr, rfl, hs, hr⟩ := h
  obtain ⟨y0, g0, _, r0⟩ := hr 0 _ rfl
  obtain ⟨y1, g1, _, r1⟩ := hr 1 _ rfl
  cases (show RepB W Q (.lit (.int k a)) y0 from r0)
  cases (show RepB W Q (.lit (.int k b)) y1 from r1)
  congr 1
  apply Array.ext_getElem?
  intro i
  match i with
  | 0 => exact g0
  | 1 => exact g1
  | i + 2 => rw [Array.getElem?_eq_none (by rw [hs]; simp), Array.getElem?_eq_none (by simp)]
theorem Eff.neAg {P : Program} {id : Nat} {s : Slots} {E : Env} {T T' : TypeId} {x y : Operand} {k : IntKind} {a b c d : Int} (hq : EqT P T k) (hx : ev s x = some (.agg [vI k a, vI k b])) (hy : ev s y = some (.agg [vI k c, vI k d])) :
    Eff P id s E (.binOp .neq T x y T') (some (vB (!(a == c && b == d)))) [] :=
  .sem _ _ _ fun s' E' k1 k2 w0 W P0 E0 pl0 pl N a0 o K Qx ho S hf hK => by
    have hx' : ev s' x = some (.agg [vI k a, vI k b]) := by rw [← k1 x (by simp [Op.operands])]; exact hx
    have hy' : ev s' y = some (.agg [vI k c, vI k d]) := by rw [← k1 y (by simp [Op.operands])]; exact hy
    have hxv := rep_two (S.ev hx')
    have hyv := rep_two (S.ev hy')
    refine wp_val (v := vB (!(a == c && b == d))) (u := .bool (!(a == c && b == d))) S hf ?_ (RepB.lit _ rfl) hK
    have h1 := run_eqGuard_agg (P := P) (w := W) .neq T x y #[.int k a, .int k b] #[.int k c, .int k d] hq.g
    have h2 := run_neq_struct (P := P) (w := W) T #[.int k a, .int k b] #[.int k c, .int k d]
    rw [hq.r a b c d W] at h2
    simp [execOp, ho, hxv, hyv, h1, h2]
theorem NeA {P : Program} {ops : Array Oper} {o : Oper} {n d : Nat} {s : Slots} {E : Env} {x y : Operand} {T T' : TypeId} {k : IntKind} {a b c e : Int} (hq : EqT P T k) (h : (runs ops s o.guard, o.dst, o.op, ev s x, ev s y) = (some true, some d, .binOp .neq T x y T', some (.agg [vI k a, vI k b]), some (.agg [vI k c, vI k e]))) :
    Stp P ops o n s E (n + 1) (setAt s d (some (vB (!(a == c && b == e))))) E [] := by
  simp only [Prod.mk.injEq] at h
  exact st0 h.1 h.2.1 (h.2.2.1 ▸ Eff.neAg hq h.2.2.2.1 h.2.2.2.2)
end Go.VL

/- Walks over the Go functions, printed by a program of this session over the kit's print, and by hand. -/
set_option linter.unusedVariables false
set_option linter.unusedSimpArgs false
set_option maxRecDepth 100000
namespace Go.VL
open Go.Proofs
theorem eq34 : EqT Try.prog 34 .i64 := ⟨by kernel_rfl, fun a b c d w => by
  have u3 := Try.underlying3
  have a3 := Try.isAgg3
  have z3 := Try.sizeOf3
  have hS : Try.prog.underlying 34 = some (.struct (Try.prog.fieldsOf 34)) := by kernel_rfl
  rw [show (10000 : Nat) = 9999 + 1 from rfl, run_equalIn_agg w 9999 34 _ _ hS (by kernel_rfl)]
  simp only [Program.fieldsOf, Try.underlying34]
  go_simp
  by_cases h1 : a = c <;> by_cases h2 : b = d <;> simp [h1, h2]⟩
theorem eq25 : EqT Try.prog 25 .u64 := ⟨by kernel_rfl, fun a b c d w => by
  have u3 := Try.underlying22
  have a3 := Try.isAgg22
  have z3 := Try.sizeOf22
  rw [show (10000 : Nat) = 9999 + 1 from rfl, Op.equalIn]
  simp only [Sem.run_bind, run_underlying Try.underlying25, Result.andThen_ok]
  simp only [Std.Legacy.Range.forIn_eq_forIn_range', Std.Legacy.Range.size, Nat.sub_zero, Nat.add_sub_cancel, Nat.div_one, List.range'_succ, List.range'_zero, List.forIn_cons, List.forIn_nil]
  go_simp
  by_cases h1 : a = c <;> by_cases h2 : b = d <;> simp [h1, h2]⟩
theorem m13 (a : Int) : VF Try.prog 13 [numB .i64 (a)] (.tup [.agg [numB .u64 (wv (k0Q a)), numB .u64 (wv (k1Q a))], numB .i64 (keyE a)]) := by
  refine VF_of P_mixed Try.func13 rfl rfl (by kernel_rfl) <| Sq <| Rg <| Vs (Al 0 TZ25 rfl) <| Vs (As rfl) <| Nx <| Sq <| Sq <| Rg <| Vs (Mv rfl) <| Vs (Cf rfl rfl (m32 1 a 12) rfl) <| Vs (Un rfl) <| Nx <| Cd rfl (fun hc1 => ?_) (fun hc1 => ?_)
  · replace hc1 := (bnot_t hc1)
    exact Sq <| Rg <| Vs (LdA (ik := .u64) (L := List.replicate 2 0) TA25 TS25 rfl) <| Vs (SaA (ik := .u64) (D := List.replicate 2 0) (L := List.replicate 2 0) TS25 rfl) <| Vs (As rfl) <| Nx <| Re <| Tr <| Fi (l := [agK .u64 (List.replicate 2 0), numB .i64 (1)]) (Rc (resVar_arr rfl rfl TA25 TS25) (Rc (resVar_tmp rfl rfl) Rn)) (by unfold k0Q k1Q keyE; rw [hc1]; rfl)
  · replace hc1 := (bnot_f hc1)
    refine Ks <| Tg <| Sq <| Sq <| Rg <| Vs (Mv rfl) <| Nx <| Bk <| VCode.loop (α := (Nat) × (List Int)) (fun x_ => match x_ with | (i, A) => (1, sl [(0, vI .i64 (a)), (2, .ptr 0 (0)), (9, vI .i64 ((i : Int)))], en [(0, arrK .u64 2 (A))])) (fun x_ => match x_ with | (i, A) => i ≤ 2 ∧ A = keyA a i ∧ A.length = 2) (fun x_ => match x_ with | (i, A) => 2 - i) (0, List.replicate 2 0) ⟨by decide, rfl, rfl⟩ (Wa []) ?_
    rintro ⟨i, A⟩ hok
    obtain ⟨hi, hA, hAl⟩ := hok
    change VCode _ _ _ 1 (sl _) (en _) _
    refine Sq <| Rg <| Vs (Bi rfl) <| Nx <| Sq <| Cd rfl (fun hc2 => ?_) (fun hc2 => ?_)
    · replace hc2 := of_decide_eq_true hc2
      exact Ks <| Tg <| Sq <| Bk <| Sq <| Rg <| Vs (Mv rfl) <| Vs (As rfl) <| Nx <| Rg <| Vs (Mv rfl) <| Vs (BdA TZ25 TU25 TS22 rfl) <| Vs (sq1 6 rfl (Eff.buildR (len := 12) (el := 5) (vs := [vI .u8 (115), vI .u8 (116), vI .u8 (114), vI .u8 (97), vI .u8 (105), vI .u8 (103), vI .u8 (104), vI .u8 (116), vI .u8 (101), vI .u8 (100), vI .u8 (103), vI .u8 (101)]) (sz := 1) (cs := [vI .u8 (115), vI .u8 (116), vI .u8 (114), vI .u8 (97), vI .u8 (105), vI .u8 (103), vI .u8 (104), vI .u8 (116), vI .u8 (101), vI .u8 (100), vI .u8 (103), vI .u8 (101)]) rfl TU23 TZ5 TS5 (List.cons_ne_nil _ _) (by decide) rfl rfl)) <| Vs (TcC (L := [115, 116, 114, 97, 105, 103, 104, 116, 101, 100, 103, 101]) TK23 TU5 rfl) <| Vs (Mv rfl) <| Vs (Cv TU3 TU5 rfl (wrapM_u8 _)) <| Vs (Mv rfl) <| Vs (Cv TU3 TU5 rfl (wrapM_u8 _)) <| Vs (L2s 12 TK23 rfl) <| Vs (AcB 13 TK23 rfl rfl (by decide) (by simp [maxLen])) <| Vs (Cf rfl (Rk rfl (Rk (Rr rfl) Rz)) (m10 (k0 := m0) (k1 := m1) (b := ([115, 116, 114, 97, 105, 103, 104, 116, 101, 100, 103, 101]) ++ ([((a) % 256), (((i : Int)) % 256)])) (by exact keyL_by a (i : Int)) (by simp)) rfl) <| Vs (Ia TU25 TS22 rfl) <| Vs (SrA TS22 rfl) <| VList.nil <| Ig <| Tg <| Rg <| Vs (Bo rfl adI) <| Vs (Mv rfl) <| VList.nil <| Go (i + 1, ((A).set (0 + i) (wv (hashQ m0 m1 (([115, 116, 114, 97, 105, 103, 104, 116, 101, 100, 103, 101]) ++ ([((a) % 256), (((i : Int)) % 256)])))))) ⟨by omega, by rw [keyA, ← hA, Nat.zero_add]; rfl, by rw [List.length_set]; exact hAl⟩ (Wa [])
    · replace hc2 := of_decide_eq_false hc2
      exact Ke <| Te <| Oe <| Ih <| Tg <| Sq <| Rg <| Vs (LdA (ik := .u64) (L := A) TA25 TS25 rfl) <| Vs (SaA (ik := .u64) (D := A) (L := A) TS25 rfl) <| Vs (As rfl) <| Nx <| Re <| Fi (l := [agK .u64 (A), numB .i64 (0)]) (Rc (resVar_arr rfl rfl TA25 TS25) (Rc (resVar_tmp rfl rfl) Rn)) (by rw [hA, show i = 2 by omega]; unfold k0Q k1Q keyE; rw [hc1]; rfl)
theorem m45 (a : Int) {L : List Int} (h8 : ByR L) (hL : L.length ≤ 1000000000) : VF Try.prog 45 [numB .i64 (a), .lit (.string (bytesOf L))] (.lit (.string (bytesOf (tagQ a L)))) := by
  refine VF_of P_mixed Try.func45 rfl rfl (by kernel_rfl) <| Sq <| Rg <| Vs (As rfl) <| Nx <| Sq <| Rg <| Vs (Mv rfl) <| Vs (C0 rfl rfl (m13 a)) <| Vs (Mv rfl) <| Vs (Xt rfl) <| Vs (Xt rfl) <| Vs (Al 6 TZ25 rfl) <| Vs (StS TS25 rfl) <| Vs (As rfl) <| Nx <| Sq <| Rg <| Vs (LdS TA25 TS25 rfl) <| Vs (Mv rfl) <| Vs (TyB TU9 TU23 TU5 rfl (strL_bytesOf h8) (by simp only [maxLen]; omega)) <| Vs (Cf rfl rfl (m10 (k0 := k0Q a) (k1 := k1Q a) (b := L) (h8) (by omega)) rfl) <| Vs (As rfl) <| Nx <| Sq <| Rg <| Vs (Mk 14 TK23 rfl) <| Vs (As rfl) <| Nx <| Sq <| Sq <| Rg <| Vs (Mv rfl) <| Vs (Lo TU23 rfl) <| Vs (Mv rfl) <| Nx <| Bk <| VCode.loop (α := (Nat) × (List Int)) (fun x_ => match x_ with | (i, R) => (15, sl [(7, vI .u64 (wv (hashQ (k0Q a) (k1Q a) (L)))), (8, .own 14 (8)), (21, vI .i64 (((8 : Nat) : Int))), (22, vI .i64 ((i : Int)))], en [(14, rowK .u8 (R))])) (fun x_ => match x_ with | (i, R) => i ≤ 8 ∧ R.length = 8 ∧ R.take i = tagW (hashQ (k0Q a) (k1Q a) L) i) (fun x_ => match x_ with | (i, R) => 8 - i) (0, List.replicate 8 0) ⟨by decide, by simp, rfl⟩ Wk ?_
  rintro ⟨i, R⟩ hok
  obtain ⟨hi, hRl, hR⟩ := hok
  change VCode _ _ _ 15 (sl _) (en _) _
  refine Sq <| Rg <| Vs (Bi rfl) <| Nx <| Sq <| Cd rfl (fun hc1 => ?_) (fun hc1 => ?_)
  · replace hc1 := of_decide_eq_true hc1
    exact Ks <| Tg <| Sq <| Bk <| Sq <| Rg <| Vs (Mv rfl) <| Vs (As rfl) <| Nx <| Rg <| Vs (Mv rfl) <| Vs (Mv rfl) <| Vs (Mv rfl) <| Vs (Mv rfl) <| Vs (Bo rfl muI) <| Vs (Bo (c := .int .u64 (wv (hashQ (k0Q a) (k1Q a) (L) >>> (8 * i)))) rfl (bop_shr_w _ (8 * i) (by omega) (by omega))) <| Vs (Cv TU22 TU5 rfl (wrapM_u8 _)) <| Vs (IrN TK23 rfl) <| Vs (SrK TS5 rfl) <| VList.nil <| Ig <| Tg <| Rg <| Vs (Bo rfl adI) <| Vs (Mv rfl) <| VList.nil <| Go (i + 1, (R).set ((i)) (((wv (hashQ (k0Q a) (k1Q a) (L) >>> (8 * i))) % 256))) ⟨by omega, by rw [List.length_set]; exact hRl, by rw [take_set1 (by omega), hR]; rfl⟩ Wk
  · replace hc1 := of_decide_eq_false hc1
    have hfin : R = tagQ a L := by rw [← List.take_of_length_le (i := i) (show R.length ≤ i by omega), hR, show i = 8 by omega]; rfl
    exact Ke <| Te <| Oe <| Ih <| Tg <| Sq <| Rg <| Vs (Mv rfl) <| Vs (Ts TK23 TU5 TU9 rfl (by rw [hfin]; exact tagQ_by)) <| Vs (As rfl) <| Nx <| Re <| Fi (l := [.lit (.string (bytesOf (R)))]) (Rc (resVar_tmp rfl rfl) Rn) (by rw [hfin]; rfl)
end Go.VL

/- Plain laws of rationals: comparing by integer parts. No program. -/
set_option linter.unusedVariables false
set_option linter.unusedSimpArgs false
namespace Go.VL
section
variable {n d m f a b : Int}
theorem cmp3_hi (h : b < a) : cmp3 a b = 1 := by unfold cmp3; split <;> (try split) <;> omega
theorem cmp3_lo (h : a < b) : cmp3 a b = -1 := by unfold cmp3; split <;> (try split) <;> omega
theorem cmp3_same (h : a = b) : cmp3 a b = 0 := by unfold cmp3; split <;> (try split) <;> omega
theorem cmp3_turn (a b : Int) : cmp3 b a = -cmp3 a b := by unfold cmp3; split <;> (try split) <;> (try split) <;> (try split) <;> omega
theorem cmp3_nil : cmp3 a b = 0 ↔ a = b := by unfold cmp3; split <;> (try split) <;> omega
theorem fm_range (h : 0 < d) : 0 ≤ n.fmod d ∧ n.fmod d < d := ⟨Int.fmod_nonneg_of_pos n h, Int.fmod_lt_of_pos n h⟩
theorem fm_eq (n d : Int) : n = d * n.fdiv d + n.fmod d := (Int.mul_fdiv_add_fmod n d).symm
/-- The difference of two fractions by their integer parts. -/
theorem fr_dif (n d m f : Int) : n * f - m * d = d * f * (n.fdiv d - m.fdiv f) + (n.fmod d * f - m.fmod f * d) := by
  have h1 := fm_eq n d
  have h2 := fm_eq m f
  generalize n.fdiv d = q at *
  generalize m.fdiv f = p at *
  generalize n.fmod d = r at *
  generalize m.fmod f = s at *
  subst h1; subst h2
  rw [Int.add_mul, Int.add_mul, Int.mul_sub]
  have e1 : d * q * f = d * f * q := by rw [Int.mul_assoc, Int.mul_comm q f, ← Int.mul_assoc]
  have e2 : f * p * d = d * f * p := by rw [Int.mul_comm (f * p) d, ← Int.mul_assoc]
  rw [e1, e2]; omega
theorem rem_rng (hd : 0 < d) (hf : 0 < f) : n.fmod d * f - m.fmod f * d < d * f ∧ -(d * f) < n.fmod d * f - m.fmod f * d := by
  obtain ⟨a1, a2⟩ := fm_range (n := n) hd
  obtain ⟨b1, b2⟩ := fm_range (n := m) hf
  have h1 : n.fmod d * f < d * f := Int.mul_lt_mul_of_pos_right a2 hf
  have h2 : m.fmod f * d < f * d := Int.mul_lt_mul_of_pos_right b2 hd
  have h3 : 0 ≤ n.fmod d * f := Int.mul_nonneg a1 (by omega)
  have h4 : 0 ≤ m.fmod f * d := Int.mul_nonneg b1 (by omega)
  rw [Int.mul_comm f d] at h2
  omega
theorem cmp_part (hd : 0 < d) (hf : 0 < f) (h : cmp3 (n.fdiv d) (m.fdiv f) ≠ 0) : cmp3 (n * f) (m * d) = cmp3 (n.fdiv d) (m.fdiv f) := by
  have h1 := fr_dif n d m f
  obtain ⟨h2, h3⟩ := rem_rng (n := n) (m := m) hd hf
  have hp : 0 < d * f := Int.mul_pos hd hf
  generalize n.fdiv d = q at *
  generalize m.fdiv f = p at *
  generalize hG : d * f = g at *
  have hne : q ≠ p := fun e => h (cmp3_nil.2 e)
  rcases Int.lt_or_gt_of_ne hne with hl | hl
  · have h4 : g * (q - p) ≤ g * (-1) := Int.mul_le_mul_of_nonneg_left (by omega) (by omega)
    rw [cmp3_lo hl, cmp3_lo (by omega)]
  · have h4 : g * 1 ≤ g * (q - p) := Int.mul_le_mul_of_nonneg_left (by omega) (by omega)
    rw [cmp3_hi hl, cmp3_hi (by omega)]
theorem cmp3_sub {a b c e : Int} (h : a - b = c - e) : cmp3 a b = cmp3 c e := by unfold cmp3; split <;> (try split) <;> (try split) <;> (try split) <;> omega
theorem cmp_rest (h : n.fdiv d = m.fdiv f) : cmp3 (n * f) (m * d) = cmp3 (n.fmod d * f) (m.fmod f * d) := by
  have h1 := fr_dif n d m f
  rw [h, Int.sub_self, Int.mul_zero, Int.zero_add] at h1
  exact cmp3_sub h1
/-- The invariant of the comparison by integer parts. -/
structure CmpI (C n d m f σ : Int) : Prop where
  pd : 0 < d
  pf : 0 < f
  g : σ = 1 ∨ σ = -1
  c : σ * cmp3 (n * f) (m * d) = C
  i : inB n = true ∧ inB d = true ∧ inB m = true ∧ inB f = true
theorem CmpI.part {C σ : Int} (h : CmpI C n d m f σ) (hc : cmp3 (n.fdiv d) (m.fdiv f) ≠ 0) : σ * cmp3 (n.fdiv d) (m.fdiv f) = C := by rw [← h.c, cmp_part h.pd h.pf hc]
theorem CmpI.eq {C σ : Int} (h : CmpI C n d m f σ) (hc : cmp3 (n.fdiv d) (m.fdiv f) = 0) : σ * cmp3 (n.fmod d * f) (m.fmod f * d) = C := by rw [← h.c, cmp_rest (cmp3_nil.1 hc)]
theorem CmpI.both {C σ : Int} (h : CmpI C n d m f σ) (hc : cmp3 (n.fdiv d) (m.fdiv f) = 0) (hr : n.fmod d = 0) (hs : m.fmod f = 0) : 0 = C := by
  rw [← h.eq hc, hr, hs, Int.zero_mul, Int.zero_mul, cmp3_same rfl, Int.mul_zero]
theorem CmpI.left {C σ : Int} (h : CmpI C n d m f σ) (hc : cmp3 (n.fdiv d) (m.fdiv f) = 0) (hr : n.fmod d = 0) (hs : ¬ m.fmod f = 0) : -σ = C := by
  have h1 := fm_range (n := m) h.pf
  have h2 : 0 < m.fmod f * d := Int.mul_pos (by omega) h.pd
  rw [← h.eq hc, hr, Int.zero_mul, cmp3_lo h2]; omega
theorem CmpI.right {C σ : Int} (h : CmpI C n d m f σ) (hc : cmp3 (n.fdiv d) (m.fdiv f) = 0) (hr : ¬ n.fmod d = 0) (hs : m.fmod f = 0) : σ = C := by
  have h1 := fm_range (n := n) h.pd
  have h2 : 0 < n.fmod d * f := Int.mul_pos (by omega) h.pf
  rw [← h.eq hc, hs, Int.zero_mul, cmp3_hi h2, Int.mul_one]
theorem CmpI.rng {C σ : Int} (h : CmpI C n d m f σ) (a b : Int) : -9223372036854775808 ≤ σ * cmp3 a b ∧ σ * cmp3 a b ≤ 9223372036854775807 := by
  have := cmp3_range a b
  rcases h.g with h | h <;> rw [h] <;> omega
theorem fmod_in' (hn : inB n = true) (hd : inB d = true) (h0 : 0 < d) : inB (n.fmod d) = true := by
  obtain ⟨a1, a2⟩ := fm_range (n := n) h0
  simp only [inB, decide_eq_true_eq] at hd ⊢
  omega
theorem CmpI.next {C σ : Int} (h : CmpI C n d m f σ) (hc : cmp3 (n.fdiv d) (m.fdiv f) = 0) (hr : ¬ n.fmod d = 0) (hs : ¬ m.fmod f = 0) : CmpI C d (n.fmod d) f (m.fmod f) (-σ) := by
  have h1 := fm_range (n := n) h.pd
  have h2 := fm_range (n := m) h.pf
  refine ⟨by omega, by omega, by rcases h.g with h | h <;> omega, ?_, h.i.2.1, fmod_in' h.i.1 h.i.2.1 h.pd, h.i.2.2.2, fmod_in' h.i.2.2.1 h.i.2.2.2 h.pf⟩
  have e := h.eq hc
  rw [cmp3_turn, Int.mul_comm d, Int.mul_comm f]
  rw [← e, Int.neg_mul_neg]
/-- The other way round. -/
theorem CmpI.swap {C : Int} (h : CmpI C n d m f 1) (hc : cmp3 (n.fdiv d) (m.fdiv f) = 0) (hr : ¬ n.fmod d = 0) (hs : ¬ m.fmod f = 0) : CmpI C f (m.fmod f) d (n.fmod d) 1 := by
  have h1 := h.next hc hr hs
  refine ⟨h1.pf, h1.pd, .inl rfl, ?_, h1.i.2.2.1, h1.i.2.2.2, h1.i.1, h1.i.2.1⟩
  have e := h1.c
  rw [cmp3_turn] at e
  rw [← e]; omega
theorem CmpI.start {C : Int} (hd : 0 < d) (hf : 0 < f) (h1 : inB n = true) (h2 : inB d = true) (h3 : inB m = true) (h4 : inB f = true) (hc : C = cmp3 (n * f) (m * d)) : CmpI C n d m f 1 := ⟨hd, hf, .inl rfl, by rw [hc]; omega, h1, h2, h3, h4⟩
end
/-- The sign. -/
theorem sgn_zero {p : Int} (h : p = 0) : numB .i64 (cmp3 p 0) = oneB [numB .i64 0] := by rw [cmp3_same h]; rfl
theorem sgn_neg {p : Int} (h : zN p = true) : numB .i64 (cmp3 p 0) = oneB [numB .i64 (-1)] := by rw [cmp3_lo (zN_lt h)]; rfl
theorem sgn_pos {p : Int} (hp : inB p = true) (h0 : ¬ p = 0) (h : zN p = false) : numB .i64 (cmp3 p 0) = oneB [numB .i64 1] := by rw [cmp3_hi (by have := zN_ge hp h; omega)]; rfl
/-- The integer part of a times a power of two. -/
def flZ (p q k : Int) : Int := if k ≤ 0 then shZ (p.fdiv q) k else if inB (shZ p k) = true then (shZ p k).fdiv q else shZ p k
theorem fl_low {p q k : Int} (h : k ≤ 0) : zR (flZ p q k) = oneB [iB (shZ (p.fdiv q) k), numB .i64 (zE (shZ (p.fdiv q) k))] := by rw [flZ, if_pos h]; rfl
theorem iB_out {z : Int} (h : zE z ≠ 0) : iB z = intB false [] := by
  have h1 : inB z = false := by rw [Bool.eq_false_iff]; exact fun hc => h (zE_in.2 hc)
  have h2 : zL z = [] := by unfold zL; rw [if_neg (by rw [h1]; decide)]
  have h3 : zN z = false := by unfold zN; rw [h1]; rfl
  rw [iB, h2, h3]
theorem fl_out {p q k : Int} (h : ¬ k ≤ 0) (hz : zE (shZ p k) ≠ 0) : zR (flZ p q k) = oneB [intB false [], numB .i64 (zE (shZ p k))] := by
  have h1 : ¬ inB (shZ p k) = true := fun hc => hz (zE_in.2 hc)
  rw [flZ, if_neg h, if_neg h1, ← iB_out hz]; rfl
theorem fl_in {p q k : Int} (h : ¬ k ≤ 0) (hz : zE (shZ p k) = 0) (hq : q ≠ 0) : zR (flZ p q k) = oneB [iB ((shZ p k).fdiv q), numB .i64 0] := by
  have h1 := zE_in.1 hz
  rw [flZ, if_neg h, if_pos h1, zR, zE_in.2 (fdiv_in h1 hq)]; rfl
/-- The square root. -/
def sqQo (p q : Int) : Bool := decide (0 ≤ p) && (decide (isq p * isq p = p) && decide (isq q * isq q = q))
def sqQn (p q : Int) : Int := if sqQo p q then isq p else 0
def sqQd (p q : Int) : Int := if sqQo p q then isq q else 0
def sqQe (p : Int) : Int := if 0 ≤ p then 0 else 5
abbrev sqRR (p q : Int) : B := .tup [qB (sqQn p q) (sqQd p q), boolB (sqQo p q), numB .i64 (sqQe p)]
theorem sq_neg {p q : Int} (h : ¬ 0 ≤ p) : sqRR p q = oneB [ratB false [] false [], boolB false, numB .i64 5] := by
  have h1 : sqQo p q = false := by simp [sqQo, h]
  rw [sqRR, sqQn, sqQd, h1, sqQe, if_neg h, ← qB_zero]; rfl
theorem sq_no {p q : Int} (h : 0 ≤ p) (h1 : ¬ (isq p * isq p = p ∧ isq q * isq q = q)) : sqRR p q = oneB [ratB false [] false [], boolB false, numB .i64 0] := by
  have h1 : sqQo p q = false := by simp only [sqQo, decide_eq_true h, Bool.true_and, ← Bool.decide_and]; exact decide_eq_false h1
  rw [sqRR, sqQn, sqQd, h1, sqQe, if_pos h, ← qB_zero]; rfl
theorem sq_yes {p q : Int} (h : 0 ≤ p) (h1 : isq p * isq p = p) (h2 : isq q * isq q = q) : sqRR p q = oneB [qB (isq p) (isq q), boolB true, numB .i64 0] := by
  have h1 : sqQo p q = true := by simp only [sqQo, decide_eq_true h, decide_eq_true h1, decide_eq_true h2]; rfl
  rw [sqRR, sqQn, sqQd, h1, sqQe, if_pos h]; rfl
/-- The text. -/
def txQ (p q : Int) : ByteArray := if q = 1 then txB p else txB p ++ (⟨#[47]⟩ : ByteArray) ++ txB q
theorem zero_le {p : Int} (hp : inB p = true) (h : zN p = false) : 0 ≤ p := by have := zN_ge hp h; omega
theorem in_i64 {k : Int} (h0 : -9223372036854775808 ≤ k) (h1 : k ≤ 9223372036854775807) : inB k = true := by
  have hl : (9223372036854775808 : Int) < limit := by decide +kernel
  simp only [inB, decide_eq_true_eq]; omega
end Go.VL

/- Plain laws of rationals: reading and writing texts. No program. -/
set_option linter.unusedVariables false
set_option linter.unusedSimpArgs false
namespace Go.VL
open Go.Proofs
abbrev slashB : ByteArray := ⟨#[47]⟩
abbrev noneB : ByteArray := ⟨#[]⟩
/-- The place of the first slash. -/
def ixB (s : ByteArray) : Int := Lib.indexByte s.data.toList (47 : Int).toNat.toUInt8
theorem indexByte_lt (c : UInt8) : ∀ l : List UInt8, Lib.indexByte l c < (l.length : Int) ∧ -1 ≤ Lib.indexByte l c
  | [] => by unfold Lib.indexByte; simp
  | b :: l => by
    have := indexByte_lt c l
    unfold Lib.indexByte
    simp only [List.length_cons]
    split
    · omega
    · split <;> rename_i h1 h2
      · omega
      · omega
theorem ixB_lt (s : ByteArray) : ixB s < (s.size : Int) ∧ -1 ≤ ixB s := by
  have := indexByte_lt (47 : Int).toNat.toUInt8 s.data.toList
  rwa [Array.length_toList] at this
def cuF (s : ByteArray) : Bool := decide (0 ≤ ixB s)
def cuA (s : ByteArray) : ByteArray := if 0 ≤ ixB s then s.extract 0 (ixB s).toNat else s
def cuB (s : ByteArray) : ByteArray := if 0 ≤ ixB s then s.extract (ixB s + 1).toNat s.size else noneB
abbrev cuR (s : ByteArray) : B := .tup [.lit (.string (cuA s)), .lit (.string (cuB s)), boolB (cuF s)]
theorem cu_yes {s : ByteArray} (h : ixB s ≥ 0) : cuR s = .tup [.lit (.string (s.extract 0 (ixB s).toNat)), .lit (.string (s.extract (ixB s + 1).toNat s.size)), boolB true] := by
  rw [cuR, cuA, cuB, cuF, if_pos h, if_pos h, decide_eq_true h]
theorem cu_no {s : ByteArray} (h : ¬ ixB s ≥ 0) : cuR s = .tup [.lit (.string s), .lit (.string noneB), boolB false] := by
  rw [cuR, cuA, cuB, cuF, if_neg h, if_neg h, decide_eq_false h]
theorem extract_size' (s : ByteArray) (a b : Nat) : (s.extract a b).size ≤ s.size := by
  rw [ByteArray.size_extract]; omega
theorem cu_size (s : ByteArray) : (cuA s).size ≤ s.size ∧ (cuB s).size ≤ s.size := by
  unfold cuA cuB
  split
  · exact ⟨extract_size' _ _ _, extract_size' _ _ _⟩
  · exact ⟨Nat.le_refl _, Nat.zero_le _⟩
/-- What reading an integer yields, and its error. -/
def pW (s : ByteArray) : Int := if okS s = true then clip (pZ s) else 0
def pX (s : ByteArray) : Int := prE (okS s) (pZ s)
theorem pW_in (s : ByteArray) : inB (pW s) = true := by
  unfold pW; split
  · exact in_clip _
  · exact in_zero
theorem prR_W (s : ByteArray) : prR s = .tup [iB (pW s), numB .i64 (pX s)] := by
  unfold pW pX
  cases h : okS s with
  | false => rw [pr_bad h, if_neg (by decide), zB_zero]; rfl
  | true => rw [pr_ok h, if_pos rfl, iB_clip, prE_true rfl]
def vQ (p q : Int) : Bool := decide (0 < q ∧ Int.gcd p q = 1)
def psE (s : ByteArray) : Int := if pX (cuA s) ≠ 0 then pX (cuA s) else if cuF s = false then 0 else if pX (cuB s) ≠ 0 then pX (cuB s) else if pW (cuB s) = 1 ∨ vQ (pW (cuA s)) (pW (cuB s)) = false then 3 else 0
def psP (s : ByteArray) : Int := if psE s = 0 then pW (cuA s) else 0
def psQ (s : ByteArray) : Int := if psE s = 0 then (if cuF s = true then pW (cuB s) else 1) else 0
abbrev psR (s : ByteArray) : B := rR (psP s) (psQ s) (psE s)
section
variable {s : ByteArray}
theorem ps_bad {e : Int} (h : psE s = e) (h0 : e ≠ 0) : psR s = oneB [ratB false [] false [], numB .i64 e] := by
  rw [psR, psP, psQ, h, if_neg h0, if_neg h0, ← qB_zero]; rfl
theorem ps1 (h : pX (cuA s) ≠ 0) : psE s = pX (cuA s) := by rw [psE, if_pos h]
theorem ps2 (h : pX (cuA s) = 0) (hf : cuF s = false) : psR s = oneB [qB (pW (cuA s)) 1, numB .i64 0] := by
  have h1 : psE s = 0 := by rw [psE, if_neg (by simp [h]), if_pos hf]
  rw [psR, psP, psQ, h1, if_pos rfl, if_pos rfl, if_neg (by simp [hf])]; rfl
theorem ps3 (h : pX (cuA s) = 0) (hf : cuF s = true) (h2 : pX (cuB s) ≠ 0) : psE s = pX (cuB s) := by rw [psE, if_neg (by simp [h]), if_neg (by simp [hf]), if_pos h2]
theorem ps4 (h : pX (cuA s) = 0) (hf : cuF s = true) (h2 : pX (cuB s) = 0) (h3 : pW (cuB s) = 1 ∨ vQ (pW (cuA s)) (pW (cuB s)) = false) : psE s = 3 := by
  rw [psE, if_neg (by simp [h]), if_neg (by simp [hf]), if_neg (by simp [h2]), if_pos h3]
theorem ps5 (h : pX (cuA s) = 0) (hf : cuF s = true) (h2 : pX (cuB s) = 0) (h3 : ¬ pW (cuB s) = 1) (h4 : vQ (pW (cuA s)) (pW (cuB s)) = true) : psR s = oneB [qB (pW (cuA s)) (pW (cuB s)), numB .i64 0] := by
  have h1 : psE s = 0 := by rw [psE, if_neg (by simp [h]), if_neg (by simp [hf]), if_neg (by simp [h2]), if_neg (by rintro (h | h); exact h3 h; rw [h4] at h; cases h)]
  rw [psR, psP, psQ, h1, if_pos rfl, if_pos rfl, if_pos hf]; rfl
end
theorem txQ_one {p q : Int} (h : q = 1) : B.tup [.lit (.string (txQ p q)), numB .i64 0] = oneB [.lit (.string (txB p)), numB .i64 0] := by rw [txQ, if_pos h]; rfl
theorem txQ_two {p q : Int} (h : ¬ q = 1) : B.tup [.lit (.string (txQ p q)), numB .i64 0] = oneB [.lit (.string (txB p ++ slashB ++ txB q)), numB .i64 0] := by rw [txQ, if_neg h]; rfl
theorem tx_add1 {p : Int} (hp : inB p = true) : (txB p).size + slashB.size ≤ 9223372036854775807 := by
  have := tx_size p hp
  have h1 : slashB.size = 1 := rfl
  omega
theorem tx_add2 {p q : Int} (hp : inB p = true) (hq : inB q = true) : (txB p ++ slashB).size + (txB q).size ≤ 9223372036854775807 := by
  have := tx_size p hp
  have := tx_size q hq
  have h1 : slashB.size = 1 := rfl
  rw [ByteArray.size_append]; omega
theorem bop_str_add {x y : ByteArray} (h : x.size + y.size ≤ 9223372036854775807) : bop .add (.string x) (.string y) = some (.string (x ++ y)) := by
  simp only [bop]; rw [if_pos h]
end Go.VL

/- Walks over the Go functions, printed by a program of this session over the kit's print, and by hand. -/
set_option linter.unusedVariables false
set_option linter.unusedSimpArgs false
set_option maxRecDepth 100000
namespace Go.VL
open Go.Proofs
theorem m16t {e : Edt} (h : e.Ok) (he : encQ e = true) : VF Try.prog 16 [.agg [numB .i64 (e.au), numB .i64 (e.sq), numB .i64 (e.st), slK .i64 (e.seen), numB .i64 (e.kind), .lit (.string (e.text)), slT 1 stB (e.names), slT 6 mvB (e.moves), numB .i64 (e.oa), numB .i64 (e.os), numB .i64 (e.pk)]] (.tup [.lit (.string (bytesOf (formE e))), numB .i64 0]) := by
  have := m16 h; rw [he] at this; exact this
theorem m16f {e : Edt} (h : e.Ok) (he : encQ e = false) : VF Try.prog 16 [.agg [numB .i64 (e.au), numB .i64 (e.sq), numB .i64 (e.st), slK .i64 (e.seen), numB .i64 (e.kind), .lit (.string (e.text)), slT 1 stB (e.names), slT 6 mvB (e.moves), numB .i64 (e.oa), numB .i64 (e.os), numB .i64 (e.pk)]] (.tup [.lit (.string (⟨#[]⟩ : ByteArray)), numB .i64 3]) := by
  have := m16 h; rw [he] at this; exact this
theorem m18t {e : Edt} (h : e.Ok) (he : encQ e = true) (hl : (formE e).length ≤ 1000000) : VF Try.prog 18 [.agg [numB .i64 (e.au), numB .i64 (e.sq), numB .i64 (e.st), slK .i64 (e.seen), numB .i64 (e.kind), .lit (.string (e.text)), slT 1 stB (e.names), slT 6 mvB (e.moves), numB .i64 (e.oa), numB .i64 (e.os), numB .i64 (e.pk)]] (.tup [.lit (.string (bytesOf (sealE e))), numB .i64 0]) := by
  exact VF_of P_mixed Try.func18 rfl rfl (by kernel_rfl) <| Sq <| Rg <| Vs (Bx 0 rfl) <| Vs (As rfl) <| Vs (As rfl) <| Nx <| Sq <| Rg <| Vs (LdS TA38 TS38 rfl) <| Vs (C0 rfl rfl (m16t (e := e) h he)) <| Vs (Mv rfl) <| Vs (Xt rfl) <| Vs (Xt rfl) <| Vs (As rfl) <| Vs (As rfl) <| Nx <| Sq <| Sq <| Rg <| Vs (Mv rfl) <| Vs (Bi (c := .bool false) rfl) <| Nx <| Cz rfl <| Ks <| Tg <| Sq <| Rg <| Vs (Mv rfl) <| Vs (Fa TF38_0 rfl) <| Vs (Fa TF34_0 rfl) <| Vs (Ld TA3 rfl) <| Vs (Mv rfl) <| Vs (Cf rfl rfl (m45 (e.au) (L := formE e) (formE_by e) (by omega)) rfl) <| Vs (Kt (show bytesOf (formE e) ++ bytesOf (tagQ (e.au) (formE e)) = bytesOf (sealE e) from bytesOf_app) (Bo (c := .string (bytesOf (formE e) ++ bytesOf (tagQ (e.au) (formE e)))) rfl (bop_str_add (by rw [bytesOf_size, bytesOf_size, tagQ_len]; omega)))) <| Vs (As rfl) <| Vs (As rfl) <| Nx <| Re <| Fi (l := [.lit (.string (bytesOf (sealE e))), numB .i64 (0)]) (Rc (resVar_tmp rfl rfl) (Rc (resVar_tmp rfl rfl) Rn)) rfl
theorem m18f {e : Edt} (h : e.Ok) (he : encQ e = false) (hl : (formE e).length ≤ 1000000) : VF Try.prog 18 [.agg [numB .i64 (e.au), numB .i64 (e.sq), numB .i64 (e.st), slK .i64 (e.seen), numB .i64 (e.kind), .lit (.string (e.text)), slT 1 stB (e.names), slT 6 mvB (e.moves), numB .i64 (e.oa), numB .i64 (e.os), numB .i64 (e.pk)]] (.tup [.lit (.string (⟨#[]⟩ : ByteArray)), numB .i64 3]) := by
  exact VF_of P_mixed Try.func18 rfl rfl (by kernel_rfl) <| Sq <| Rg <| Vs (Bx 0 rfl) <| Vs (As rfl) <| Vs (As rfl) <| Nx <| Sq <| Rg <| Vs (LdS TA38 TS38 rfl) <| Vs (C0 rfl rfl (m16f (e := e) h he)) <| Vs (Mv rfl) <| Vs (Xt rfl) <| Vs (Xt rfl) <| Vs (As rfl) <| Vs (As rfl) <| Nx <| Sq <| Sq <| Rg <| Vs (Mv rfl) <| Vs (Bi (c := .bool true) rfl) <| Nx <| Cy rfl <| Sq <| Rg <| Vs (Mv rfl) <| Vs (As rfl) <| Vs (As rfl) <| Nx <| Re <| Tr <| Fi (l := [.lit (.string ((⟨#[]⟩ : ByteArray))), numB .i64 (3)]) (Rc (resVar_tmp rfl rfl) (Rc (resVar_tmp rfl rfl) Rn)) rfl
end Go.VL

/- Walks over the Go functions, printed by a program of this session over the kit's print, and by hand. -/
set_option linter.unusedVariables false
set_option linter.unusedSimpArgs false
set_option maxRecDepth 100000
namespace Go.VL
open Go.Proofs
theorem bInj {A B : List Int} (hA : ByR A) (hB : ByR B) (h : bytesOf A = bytesOf B) : A = B := by rw [← strL_bytesOf hA, h, strL_bytesOf hB]
theorem opn_0 {s : List Int} (h : ¬ opnE s = 0) : opnQ s = edt0 := by rw [opnQ, if_neg h]
theorem opn_1 {s : List Int} (h : opnE s = 0) : opnQ s = decQ (bodyL s) := by rw [opnQ, if_pos h]
theorem m19 {s : List Int} (h8 : ByR s) (hs : s.length ≤ 1000000) : VG Try.prog 19 [.b (.lit (.string (bytesOf s)))] [] (.b (.tup [.agg [numB .i64 ((opnQ s).au), numB .i64 ((opnQ s).sq), numB .i64 ((opnQ s).st), slK .i64 ((opnQ s).seen), numB .i64 ((opnQ s).kind), .lit (.string ((opnQ s).text)), slT 1 stB ((opnQ s).names), slT 6 mvB ((opnQ s).moves), numB .i64 ((opnQ s).oa), numB .i64 ((opnQ s).os), numB .i64 ((opnQ s).pk)], numB .i64 (opnE s)])) [] := by
  refine VGw_of P_mixed Try.func19 rfl rfl (by kernel_rfl) (by simp) rfl <| Sq <| Rg <| Vs (Al 0 TZ38 rfl) <| Vs (As rfl) <| Nx <| Sq <| Rg <| Vs (Mv rfl) <| Vs (Ki (show ((bytesOf s).size : Int) = (s.length : Int) from by rw [bytesOf_size]) (Lt TU9 rfl)) <| Vs (Bo rfl suI) <| Vs (As rfl) <| Nx <| Sq <| Sq <| Rg <| Vs (Mv rfl) <| Vs (Bi rfl) <| Nx <| Cd rfl (fun hc1 => ?_) (fun hc1 => ?_)
  · replace hc1 := of_decide_eq_true hc1
    exact Sq <| Rg <| Vs (BdM TQ38 rfl) <| Vs (StS TS38 rfl) <| Vs (As rfl) <| Nx <| Re <| Tr <| Px (n1 := 1) (S2 := [(2, .ptr 0 (0)), (3, vI .i64 (9))]) (L2 := [(0, ⟨11, [vI .i64 (0), vI .i64 (0), vI .i64 (0), .b (slK .i64 ([])), vI .i64 (0), .b (.lit (.string ((⟨#[]⟩ : ByteArray)))), .b (slT 1 stB ([])), .b (slT 6 mvB ([])), vI .i64 (0), vI .i64 (0), vI .i64 (0)], true⟩)]) (Weak.conv (nv := []) ⟨⟨⟨_, rfl, .inl rfl⟩, rfl⟩, ⟨⟨_, rfl, .inl rfl⟩, rfl⟩, trivial⟩ ⟨⟨⟨_, rfl, rfl, rfl, ⟨.inl rfl, .inl rfl, .inl rfl, (cv_nil rfl), .inl rfl, .inl rfl, (cv_nil rfl), (cv_nil rfl), .inl rfl, .inl rfl, .inl rfl, trivial⟩⟩, Nat.le_of_ble_eq_true rfl, cells_of rfl⟩, trivial⟩ (Nat.le_of_ble_eq_true rfl)) <| Gg (L1' := []) [] (.val _ _ _ _ _ (resV_cellS rfl rfl TA38 TS38 (Nat.le_of_ble_eq_true rfl)) rfl rfl (.val _ _ _ _ _ rfl rfl rfl .nil)) (.vals _ [.agg [numB .i64 (0), numB .i64 (0), numB .i64 (0), slK .i64 ([]), numB .i64 (0), .lit (.string ((⟨#[]⟩ : ByteArray))), slT 1 stB ([]), slT 6 mvB ([]), numB .i64 (0), numB .i64 (0), numB .i64 (0)], numB .i64 (9)] rfl rfl) (by rw [show opnE s = 9 from by rw [opnE, if_pos (by omega)], opn_0 (show ¬ opnE s = 0 from by rw [opnE, if_pos (by omega)]; decide)]) rfl
  · replace hc1 := of_decide_eq_false hc1
    refine Ks <| Tg <| Sq <| Rg <| Vs (Mv rfl) <| Vs (Mv rfl) <| Vs (Kt (show (bytesOf s).extract 0 (((s.length : Int) - 8)).toNat = bytesOf (bodyL s) from by rw [bytesOf_take, show ((s.length : Int) - 8).toNat = s.length - 8 by omega]; rfl) (Tt TU9 rfl (h1 := (by rw [bytesOf_size]; omega)))) <| Gm 11 [] [] (v := .b (.tup [.agg [numB .i64 ((decQ (bodyL s)).au), numB .i64 ((decQ (bodyL s)).sq), numB .i64 ((decQ (bodyL s)).st), slK .i64 ((decQ (bodyL s)).seen), numB .i64 ((decQ (bodyL s)).kind), .lit (.string ((decQ (bodyL s)).text)), slT 1 stB ((decQ (bodyL s)).names), slT 6 mvB ((decQ (bodyL s)).moves), numB .i64 ((decQ (bodyL s)).oa), numB .i64 ((decQ (bodyL s)).os), numB .i64 ((decQ (bodyL s)).pk)], numB .i64 ((decE (bodyL s)))])) [(0, ⟨11, [vI .i64 (0), vI .i64 (0), vI .i64 (0), vS ([]), vI .i64 (0), .b (.lit (.string ((⟨#[]⟩ : ByteArray)))), vS ([]), vS ([]), vI .i64 (0), vI .i64 (0), vI .i64 (0)], true⟩)] rfl (m17 (s := bodyL s)) rfl <| Vs (Mv rfl) <| Vs (Xt rfl) <| Vs (Xt rfl) <| Vs (Al 15 TZ38 rfl) <| Vs (StS TS38 rfl) <| Vs (As rfl) <| Nx <| Sq <| Bk <| Sq <| Rg <| Vs (Mv rfl) <| Vs (Bi rfl) <| Vs (As rfl) <| Nx <| Cd rfl (fun hc2 => ?_) (fun hc2 => ?_)
    · replace hc2 := bne_iff_ne.1 hc2
      exact Sq <| Rg <| Vs (BdM TQ38 rfl) <| Vs (Mv rfl) <| Vs (StS TS38 rfl) <| Vs (As rfl) <| Nx <| Re <| Iq <| Tr <| Px (n1 := 1) (S2 := [(2, .ptr 0 (0)), (3, vI .i64 ((decE (bodyL s))))]) (L2 := [(0, ⟨11, [vI .i64 (0), vI .i64 (0), vI .i64 (0), .b (slK .i64 ([])), vI .i64 (0), .b (.lit (.string ((⟨#[]⟩ : ByteArray)))), .b (slT 1 stB ([])), .b (slT 6 mvB ([])), vI .i64 (0), vI .i64 (0), vI .i64 (0)], true⟩)]) (Weak.conv (nv := []) ⟨⟨⟨_, rfl, .inl rfl⟩, rfl⟩, ⟨⟨_, rfl, .inl rfl⟩, rfl⟩, trivial⟩ ⟨⟨⟨_, rfl, rfl, rfl, ⟨.inl rfl, .inl rfl, .inl rfl, (cv_nil rfl), .inl rfl, .inl rfl, (cv_nil rfl), (cv_nil rfl), .inl rfl, .inl rfl, .inl rfl, trivial⟩⟩, Nat.le_of_ble_eq_true rfl, cells_of rfl⟩, trivial⟩ (Nat.le_of_ble_eq_true rfl)) <| Gg (L1' := []) [] (.val _ _ _ _ _ (resV_cellS rfl rfl TA38 TS38 (Nat.le_of_ble_eq_true rfl)) rfl rfl (.val _ _ _ _ _ rfl rfl rfl .nil)) (.vals _ [.agg [numB .i64 (0), numB .i64 (0), numB .i64 (0), slK .i64 ([]), numB .i64 (0), .lit (.string ((⟨#[]⟩ : ByteArray))), slT 1 stB ([]), slT 6 mvB ([]), numB .i64 (0), numB .i64 (0), numB .i64 (0)], numB .i64 ((decE (bodyL s)))] rfl rfl) (by rw [opn_0 (show ¬ opnE s = 0 from by rw [opnE, if_neg (by omega), if_neg (by assumption)]; assumption), show opnE s = decE (bodyL s) from by rw [opnE, if_neg (by omega), if_neg (by assumption)]]) rfl
    · replace hc2 := bne_eq_false_iff_eq.1 hc2
      refine Sq <| Rd (by kernel_rfl) <| Vl (Fa TF38_0 rfl) <| Vl (Fa TF34_0 rfl) <| Vl (Ld TA3 rfl) <| Vl (Mv rfl) <| Vl (Mv rfl) <| Vl (Kt (show (bytesOf s).extract 0 (((s.length : Int) - 8)).toNat = bytesOf (bodyL s) from by rw [bytesOf_take, show ((s.length : Int) - 8).toNat = s.length - 8 by omega]; rfl) (Tt TU9 rfl (h1 := (by rw [bytesOf_size]; omega)))) <| Vl (Cf rfl rfl (m45 ((decQ (bodyL s)).au) (L := bodyL s) (h8.take _) (by unfold bodyL; rw [List.length_take]; omega)) rfl) <| Vl (Mv rfl) <| Vl (Mv rfl) <| Vl (Kt (show (bytesOf s).extract (((s.length : Int) - 8)).toNat (bytesOf s).size = bytesOf (s.drop (s.length - 8)) from by rw [show ((s.length : Int) - 8).toNat = s.length - 8 by omega, bytesOf_drop]) (Tf TU9 rfl (h1 := (by rw [bytesOf_size]; omega)))) <| Vl (Bi rfl) <| Vl (As rfl) <| ?_
      refine VLog.nil ⟨by kernel_rfl, ?_⟩
      refine Tg <| Cd rfl (fun hc3 => ?_) (fun hc3 => ?_)
      · replace hc3 := strEq_f (bnot_t hc3)
        exact Sq <| Rg <| Vs (BdM TQ38 rfl) <| Vs (StS TS38 rfl) <| Vs (As rfl) <| Nx <| Re <| Iq <| Tr <| Px (n1 := 1) (S2 := [(2, .ptr 0 (0)), (3, vI .i64 (310))]) (L2 := [(0, ⟨11, [vI .i64 (0), vI .i64 (0), vI .i64 (0), .b (slK .i64 ([])), vI .i64 (0), .b (.lit (.string ((⟨#[]⟩ : ByteArray)))), .b (slT 1 stB ([])), .b (slT 6 mvB ([])), vI .i64 (0), vI .i64 (0), vI .i64 (0)], true⟩)]) (Weak.conv (nv := []) ⟨⟨⟨_, rfl, .inl rfl⟩, rfl⟩, ⟨⟨_, rfl, .inl rfl⟩, rfl⟩, trivial⟩ ⟨⟨⟨_, rfl, rfl, rfl, ⟨.inl rfl, .inl rfl, .inl rfl, (cv_nil rfl), .inl rfl, .inl rfl, (cv_nil rfl), (cv_nil rfl), .inl rfl, .inl rfl, .inl rfl, trivial⟩⟩, Nat.le_of_ble_eq_true rfl, cells_of rfl⟩, trivial⟩ (Nat.le_of_ble_eq_true rfl)) <| Gg (L1' := []) [] (.val _ _ _ _ _ (resV_cellS rfl rfl TA38 TS38 (Nat.le_of_ble_eq_true rfl)) rfl rfl (.val _ _ _ _ _ rfl rfl rfl .nil)) (.vals _ [.agg [numB .i64 (0), numB .i64 (0), numB .i64 (0), slK .i64 ([]), numB .i64 (0), .lit (.string ((⟨#[]⟩ : ByteArray))), slT 1 stB ([]), slT 6 mvB ([]), numB .i64 (0), numB .i64 (0), numB .i64 (0)], numB .i64 (310)] rfl rfl) (by have he : opnE s = 310 := (by rw [opnE, if_neg (by omega), if_pos (by assumption), if_neg (fun k => absurd (congrArg bytesOf k) (by assumption))]); rw [opn_0 (show ¬ opnE s = 0 from by rw [he]; decide), he]) rfl
      · replace hc3 := strEq_t (bnot_f hc3)
        exact Ks <| Ig <| Tg <| Sq <| Rg <| Vs (LdS TA38 TS38 rfl) <| Vs (StS TS38 rfl) <| Vs (As rfl) <| Nx <| Re <| Pw <| Gg (L1' := []) [] (.val _ _ _ _ _ (resV_cellS rfl rfl TA38 TS38 (Nat.le_of_ble_eq_true rfl)) rfl rfl (.val _ _ _ _ _ rfl rfl rfl .nil)) (.vals _ [.agg [numB .i64 ((decQ (bodyL s)).au), numB .i64 ((decQ (bodyL s)).sq), numB .i64 ((decQ (bodyL s)).st), slK .i64 ((decQ (bodyL s)).seen), numB .i64 ((decQ (bodyL s)).kind), .lit (.string ((decQ (bodyL s)).text)), slT 1 stB ((decQ (bodyL s)).names), slT 6 mvB ((decQ (bodyL s)).moves), numB .i64 ((decQ (bodyL s)).oa), numB .i64 ((decQ (bodyL s)).os), numB .i64 ((decQ (bodyL s)).pk)], numB .i64 (0)] rfl rfl) (by have he : opnE s = 0 := (by rw [opnE, if_neg (by omega), if_pos (by assumption), if_pos (bInj tagQ_by (h8.drop _) (by assumption))]); rw [opn_1 he, he]) rfl
end Go.VL

/- Walks over the Go functions, printed by a program of this session over the kit's print, and by hand. -/
set_option linter.unusedVariables false
set_option linter.unusedSimpArgs false
set_option maxRecDepth 100000
namespace Go.VL
open Go.Proofs
theorem m74 (n : Bool) (A : List Int) (m : Bool) (B : List Int) (hA : A.length ≤ 9223372036854775807) : VF Try.prog 74 [.agg [boolB (n), u32S (A)], .agg [boolB (m), u32S (B)]] (boolB (sameI n A m B)) := by
  refine VF_of P_mixed Try.func74 rfl rfl (by kernel_rfl) <| Sq <| Rg <| Vs (Bx 0 rfl) <| Vs (Bx 1 rfl) <| Vs (As rfl) <| Nx <| Sq <| Sq <| Rg <| Vs (Fa TF55_0 rfl) <| Vs (Ld TA4 rfl) <| Vs (Fa TF55_0 rfl) <| Vs (Ld TA4 rfl) <| Vs (Bb TU4 rfl) <| Vs (Mv rfl) <| Sp 11 rfl (fun hc1 => ?_) (fun hc1 => ?_)
  · replace hc1 := ne_of_beq_false (bnot_t hc1)
    refine Sk rfl <| Sk rfl <| Sk rfl <| Sk rfl <| Sk rfl <| Sk rfl <| Sk rfl <| Vs (Pk rfl) <| Nx <| Cy rfl <| Sq <| Rg <| Vs (As rfl) <| Nx <| Re <| Tr <| Fi (Rc (resVar_tmp rfl rfl) Rn) (by refine congrArg boolB ?_; simp_all [sameI])
  · replace hc1 := eq_of_beq (bnot_f hc1)
    refine Vs (Fa TF55_1 rfl) <| Vs (Ld TA52 rfl) <| Vs (Ls TK52 rfl) <| Vs (Fa TF55_1 rfl) <| Vs (Ld TA52 rfl) <| Vs (Ls TK52 rfl) <| Vs (Bi rfl) <| Vs (Pk rfl) <| Nx <| Cd rfl (fun hc2 => ?_) (fun hc2 => ?_)
    · replace hc2 := bne_iff_ne.1 hc2
      refine Sq <| Rg <| Vs (As rfl) <| Nx <| Re <| Tr <| Fi (Rc (resVar_tmp rfl rfl) Rn) (by refine congrArg boolB ?_; have hl : A ≠ B := (fun k => by rw [k] at hc2; exact hc2 rfl); simp_all [sameI])
    · replace hc2 := bne_eq_false_iff_eq.1 hc2
      refine Ks <| Tg <| Sq <| Sq <| Rg <| Vs (As rfl) <| Nx <| Bk <| ?_
      have hlen : A.length = B.length := by omega
      refine VCode.loop (α := (Nat)) (fun i => (2, sl [(2, .ptr 0 (0)), (3, .ptr 1 (0)), (5, vI .i64 ((i : Int)))], en [(0, ⟨2, [vB (n), vS (A)], true⟩), (1, ⟨2, [vB (m), vS (B)], true⟩)])) (fun i => i ≤ A.length ∧ ∀ j, j < i → A.getD j 0 = B.getD j 0) (fun i => A.length - i) (0) ⟨Nat.zero_le _, fun j h => absurd h (Nat.not_lt_zero _)⟩ Wk ?_
      intro i hok
      obtain ⟨hi, hb⟩ := hok
      change VCode _ _ _ 2 (sl _) (en _) _
      refine Sq <| Sq <| Rg <| Vs (Mv rfl) <| Vs (Fa TF55_1 rfl) <| Vs (Ld TA52 rfl) <| Vs (Ls TK52 rfl) <| Vs (Bi rfl) <| Nx <| Cd rfl (fun hc3 => ?_) (fun hc3 => ?_)
      · replace hc3 := of_decide_eq_true hc3
        refine Ks <| Tg <| Sq <| Bk <| Sq <| Rd (by kernel_rfl) <| Vl (Fa TF55_1 rfl) <| Vl (Ld TA52 rfl) <| Vl (Mv rfl) <| Vl (IxN TK52 rfl) <| Vl (Lq TA53 rfl) <| Vl (Fa TF55_1 rfl) <| Vl (Ld TA52 rfl) <| Vl (Mv rfl) <| Vl (IxN TK52 rfl) <| Vl (Lq TA53 rfl) <| Vl (Bi rfl) <| ?_
        refine VLog.nil ⟨by kernel_rfl, ?_⟩
        refine Tg <| Cd rfl (fun hc4 => ?_) (fun hc4 => ?_)
        · replace hc4 := bne_iff_ne.1 hc4
          refine Sq <| Rg <| Vs (As rfl) <| Nx <| Re <| Iq <| Tr <| Or <| Iq <| Tr <| Fi (Rc (resVar_tmp rfl rfl) Rn) (by refine congrArg boolB ?_; have hl : A ≠ B := (fun k => by subst k; simp_all); simp_all [sameI])
        · replace hc4 := bne_eq_false_iff_eq.1 hc4
          exact Ks <| Ig <| Tg <| Rg <| Vs (Mv rfl) <| Vs (Bo rfl adI) <| Vs (As rfl) <| VList.nil <| Go (i + 1) ⟨by omega, fun j h => by rcases Nat.lt_or_ge j i with h9 | h9; exact hb j h9; rw [show j = i by omega]; assumption⟩ Wk
      · replace hc3 := of_decide_eq_false hc3
        refine Ke <| Te <| Oe <| Ih <| Tg <| Sq <| Rg <| Vs (As rfl) <| Nx <| Re <| Fi (Rc (resVar_tmp rfl rfl) Rn) (by refine congrArg boolB ?_; have hl : A = B := list_eqD (d := 0) hlen (fun j hj => hb j (by omega)); simp_all [sameI])
theorem m46 (n : Bool) (A : List Int) (m : Bool) (D : List Int) (n1 : Bool) (A1 : List Int) (m1 : Bool) (D1 : List Int) (hA : A.length ≤ 9223372036854775807) (hD : D.length ≤ 9223372036854775807) : VF Try.prog 46 [.agg [boolB (n), u32S (A), boolB (m), u32S (D)], .agg [boolB (n1), u32S (A1), boolB (m1), u32S (D1)]] (boolB (sameI n A n1 A1 && sameI m D m1 D1)) := by
  refine VF_of P_mixed Try.func46 rfl rfl (by kernel_rfl) <| Sq <| Rg <| Vs (Bx 0 rfl) <| Vs (Bx 1 rfl) <| Vs (As rfl) <| Nx <| Sq <| Rg <| Vs (Fa TF57_0 rfl) <| Vs (LdS TA55 TS55 rfl) <| Vs (Fa TF57_0 rfl) <| Vs (LdS TA55 TS55 rfl) <| Vs (Cf rfl rfl (m74 n A n1 A1 (hA)) rfl) <| Vs (As rfl) <| Nx <| Sq <| Rg <| Vs (Fa TF57_1 rfl) <| Vs (LdS TA55 TS55 rfl) <| Vs (Fa TF57_1 rfl) <| Vs (LdS TA55 TS55 rfl) <| Vs (Cf rfl rfl (m74 m D m1 D1 (hD)) rfl) <| Vs (As rfl) <| Nx <| Sq <| Rg <| Vs (Mv rfl) <| Vs (Mv rfl) <| Sp 18 rfl (fun hc1 => ?_) (fun hc1 => ?_)
  · replace hc1 := hc1
    refine Vs (Mv rfl) <| Vs (Pk rfl) <| Vs (As rfl) <| Nx <| Re <| Fi (Rc (resVar_tmp rfl rfl) Rn) (by refine congrArg boolB ?_; simp_all)
  · replace hc1 := hc1
    refine Sk rfl <| Vs (Pk rfl) <| Vs (As rfl) <| Nx <| Re <| Fi (Rc (resVar_tmp rfl rfl) Rn) (by refine congrArg boolB ?_; simp_all)
theorem m20 (a b : Edt) (ha : a.Ok) : VF Try.prog 20 [.agg [numB .i64 (a.au), numB .i64 (a.sq), numB .i64 (a.st), slK .i64 (a.seen), numB .i64 (a.kind), .lit (.string (a.text)), slT 1 stB (a.names), slT 6 mvB (a.moves), numB .i64 (a.oa), numB .i64 (a.os), numB .i64 (a.pk)], .agg [numB .i64 (b.au), numB .i64 (b.sq), numB .i64 (b.st), slK .i64 (b.seen), numB .i64 (b.kind), .lit (.string (b.text)), slT 1 stB (b.names), slT 6 mvB (b.moves), numB .i64 (b.oa), numB .i64 (b.os), numB .i64 (b.pk)]] (boolB (sameQ a b)) := by
  have hl1 := ha.seen.2
  have hl2 := ha.names
  have hl3 := ha.moves.2
  refine VF_of P_mixed Try.func20 rfl rfl (by kernel_rfl) <| Sq <| Rg <| Vs (Bx 0 rfl) <| Vs (Bx 1 rfl) <| Vs (As rfl) <| Nx <| Sq <| Sq <| Rg <| Vs (Fa TF38_0 rfl) <| Vs (LdS TA34 TS34 rfl) <| Vs (Fa TF38_0 rfl) <| Vs (LdS TA34 TS34 rfl) <| Vs (NeA eq34 rfl) <| Vs (Mv rfl) <| Sp 13 rfl (fun hc1 => ?_) (fun hc1 => ?_)
  · replace hc1 := hc1
    exact Sk rfl <| Sk rfl <| Sk rfl <| Sk rfl <| Sk rfl <| Vs (Pk rfl) <| Vs (Mv rfl) <| Sk rfl <| Sk rfl <| Sk rfl <| Sk rfl <| Sk rfl <| Vs (Pk rfl) <| Vs (Mv rfl) <| Sk rfl <| Sk rfl <| Sk rfl <| Sk rfl <| Sk rfl <| Vs (Pk rfl) <| Vs (Mv rfl) <| Sk rfl <| Sk rfl <| Sk rfl <| Sk rfl <| Sk rfl <| Vs (Pk rfl) <| Vs (Mv rfl) <| Sk rfl <| Sk rfl <| Sk rfl <| Sk rfl <| Sk rfl <| Vs (Pk rfl) <| Nx <| Cy rfl <| Sq <| Rg <| Vs (As rfl) <| Nx <| Re <| Tr <| Fi (l := [boolB (false)]) (Rc (resVar_tmp rfl rfl) Rn) (by first | (rw [sameQ_t (edt_eqQ (by simp_all) (by simp_all) hc2 ess hc3 hc4 enn emm (by simp_all) (by simp_all) hc6)]; rfl) | (rw [sameQ_f (fun k => by subst k; first | exact absurd rfl (by assumption) | simp_all [sameI_refl])]; rfl))
  · replace hc1 := hc1
    refine Vs (Fa TF38_1 rfl) <| Vs (Ld TA3 rfl) <| Vs (Fa TF38_1 rfl) <| Vs (Ld TA3 rfl) <| Vs (Bi rfl) <| Vs (Pk rfl) <| Vs (Mv rfl) <| Sp 20 rfl (fun hc2 => ?_) (fun hc2 => ?_)
    · replace hc2 := bne_iff_ne.1 hc2
      exact Sk rfl <| Sk rfl <| Sk rfl <| Sk rfl <| Sk rfl <| Vs (Pk rfl) <| Vs (Mv rfl) <| Sk rfl <| Sk rfl <| Sk rfl <| Sk rfl <| Sk rfl <| Vs (Pk rfl) <| Vs (Mv rfl) <| Sk rfl <| Sk rfl <| Sk rfl <| Sk rfl <| Sk rfl <| Vs (Pk rfl) <| Vs (Mv rfl) <| Sk rfl <| Sk rfl <| Sk rfl <| Sk rfl <| Sk rfl <| Vs (Pk rfl) <| Nx <| Cy rfl <| Sq <| Rg <| Vs (As rfl) <| Nx <| Re <| Tr <| Fi (l := [boolB (false)]) (Rc (resVar_tmp rfl rfl) Rn) (by first | (rw [sameQ_t (edt_eqQ (by simp_all) (by simp_all) hc2 ess hc3 hc4 enn emm (by simp_all) (by simp_all) hc6)]; rfl) | (rw [sameQ_f (fun k => by subst k; first | exact absurd rfl (by assumption) | simp_all [sameI_refl])]; rfl))
    · replace hc2 := bne_eq_false_iff_eq.1 hc2
      refine Vs (Fa TF38_3 rfl) <| Vs (Ld TA3 rfl) <| Vs (Fa TF38_3 rfl) <| Vs (Ld TA3 rfl) <| Vs (Bi rfl) <| Vs (Pk rfl) <| Vs (Mv rfl) <| Sp 27 rfl (fun hc3 => ?_) (fun hc3 => ?_)
      · replace hc3 := bne_iff_ne.1 hc3
        exact Sk rfl <| Sk rfl <| Sk rfl <| Sk rfl <| Sk rfl <| Vs (Pk rfl) <| Vs (Mv rfl) <| Sk rfl <| Sk rfl <| Sk rfl <| Sk rfl <| Sk rfl <| Vs (Pk rfl) <| Vs (Mv rfl) <| Sk rfl <| Sk rfl <| Sk rfl <| Sk rfl <| Sk rfl <| Vs (Pk rfl) <| Nx <| Cy rfl <| Sq <| Rg <| Vs (As rfl) <| Nx <| Re <| Tr <| Fi (l := [boolB (false)]) (Rc (resVar_tmp rfl rfl) Rn) (by first | (rw [sameQ_t (edt_eqQ (by simp_all) (by simp_all) hc2 ess hc3 hc4 enn emm (by simp_all) (by simp_all) hc6)]; rfl) | (rw [sameQ_f (fun k => by subst k; first | exact absurd rfl (by assumption) | simp_all [sameI_refl])]; rfl))
      · replace hc3 := bne_eq_false_iff_eq.1 hc3
        refine Vs (Fa TF38_4 rfl) <| Vs (Ld TA9 rfl) <| Vs (Fa TF38_4 rfl) <| Vs (Ld TA9 rfl) <| Vs (Bi rfl) <| Vs (Pk rfl) <| Vs (Mv rfl) <| Sp 34 rfl (fun hc4 => ?_) (fun hc4 => ?_)
        · replace hc4 := strEq_f (bnot_t hc4)
          exact Sk rfl <| Sk rfl <| Sk rfl <| Sk rfl <| Sk rfl <| Vs (Pk rfl) <| Vs (Mv rfl) <| Sk rfl <| Sk rfl <| Sk rfl <| Sk rfl <| Sk rfl <| Vs (Pk rfl) <| Nx <| Cy rfl <| Sq <| Rg <| Vs (As rfl) <| Nx <| Re <| Tr <| Fi (l := [boolB (false)]) (Rc (resVar_tmp rfl rfl) Rn) (by first | (rw [sameQ_t (edt_eqQ (by simp_all) (by simp_all) hc2 ess hc3 hc4 enn emm (by simp_all) (by simp_all) hc6)]; rfl) | (rw [sameQ_f (fun k => by subst k; first | exact absurd rfl (by assumption) | simp_all [sameI_refl])]; rfl))
        · replace hc4 := strEq_t (bnot_f hc4)
          refine Vs (Fa TF38_7 rfl) <| Vs (LdS TA34 TS34 rfl) <| Vs (Fa TF38_7 rfl) <| Vs (LdS TA34 TS34 rfl) <| Vs (NeA eq34 rfl) <| Vs (Pk rfl) <| Vs (Mv rfl) <| Sp 41 rfl (fun hc5 => ?_) (fun hc5 => ?_)
          · replace hc5 := hc5
            exact Sk rfl <| Sk rfl <| Sk rfl <| Sk rfl <| Sk rfl <| Vs (Pk rfl) <| Nx <| Cy rfl <| Sq <| Rg <| Vs (As rfl) <| Nx <| Re <| Tr <| Fi (l := [boolB (false)]) (Rc (resVar_tmp rfl rfl) Rn) (by first | (rw [sameQ_t (edt_eqQ (by simp_all) (by simp_all) hc2 ess hc3 hc4 enn emm (by simp_all) (by simp_all) hc6)]; rfl) | (rw [sameQ_f (fun k => by subst k; first | exact absurd rfl (by assumption) | simp_all [sameI_refl])]; rfl))
          · replace hc5 := hc5
            refine Vs (Fa TF38_8 rfl) <| Vs (Ld TA3 rfl) <| Vs (Fa TF38_8 rfl) <| Vs (Ld TA3 rfl) <| Vs (Bi rfl) <| Vs (Pk rfl) <| Nx <| Cd rfl (fun hc6 => ?_) (fun hc6 => ?_)
            · replace hc6 := bne_iff_ne.1 hc6
              exact Sq <| Rg <| Vs (As rfl) <| Nx <| Re <| Tr <| Fi (l := [boolB (false)]) (Rc (resVar_tmp rfl rfl) Rn) (by first | (rw [sameQ_t (edt_eqQ (by simp_all) (by simp_all) hc2 ess hc3 hc4 enn emm (by simp_all) (by simp_all) hc6)]; rfl) | (rw [sameQ_f (fun k => by subst k; first | exact absurd rfl (by assumption) | simp_all [sameI_refl])]; rfl))
            · replace hc6 := bne_eq_false_iff_eq.1 hc6
              refine Ks <| Tg <| Sq <| Sq <| Rg <| Vs (Fa TF38_2 rfl) <| Vs (Ld TA28 rfl) <| Vs (Ls TK28 rfl) <| Vs (Fa TF38_2 rfl) <| Vs (Ld TA28 rfl) <| Vs (Ls TK28 rfl) <| Vs (Bi rfl) <| Vs (Mv rfl) <| Sp 55 rfl (fun hc7 => ?_) (fun hc7 => ?_)
              · replace hc7 := bne_iff_ne.1 hc7
                exact Sk rfl <| Sk rfl <| Sk rfl <| Sk rfl <| Sk rfl <| Sk rfl <| Sk rfl <| Vs (Pk rfl) <| Vs (Mv rfl) <| Sk rfl <| Sk rfl <| Sk rfl <| Sk rfl <| Sk rfl <| Sk rfl <| Sk rfl <| Vs (Pk rfl) <| Nx <| Cy rfl <| Sq <| Rg <| Vs (As rfl) <| Nx <| Re <| Tr <| Fi (l := [boolB (false)]) (Rc (resVar_tmp rfl rfl) Rn) (by first | (rw [sameQ_t (edt_eqQ (by simp_all) (by simp_all) hc2 ess hc3 hc4 enn emm (by simp_all) (by simp_all) hc6)]; rfl) | (rw [sameQ_f (fun k => by subst k; first | exact absurd rfl (by assumption) | simp_all [sameI_refl])]; rfl))
              · replace hc7 := bne_eq_false_iff_eq.1 hc7
                refine Vs (Fa TF38_5 rfl) <| Vs (Ld TA35 rfl) <| Vs (Lst stB_len TU35 rfl) <| Vs (Fa TF38_5 rfl) <| Vs (Ld TA35 rfl) <| Vs (Lst stB_len TU35 rfl) <| Vs (Bi rfl) <| Vs (Pk rfl) <| Vs (Mv rfl) <| Sp 64 rfl (fun hc8 => ?_) (fun hc8 => ?_)
                · replace hc8 := bne_iff_ne.1 hc8
                  exact Sk rfl <| Sk rfl <| Sk rfl <| Sk rfl <| Sk rfl <| Sk rfl <| Sk rfl <| Vs (Pk rfl) <| Nx <| Cy rfl <| Sq <| Rg <| Vs (As rfl) <| Nx <| Re <| Tr <| Fi (l := [boolB (false)]) (Rc (resVar_tmp rfl rfl) Rn) (by first | (rw [sameQ_t (edt_eqQ (by simp_all) (by simp_all) hc2 ess hc3 hc4 enn emm (by simp_all) (by simp_all) hc6)]; rfl) | (rw [sameQ_f (fun k => by subst k; first | exact absurd rfl (by assumption) | simp_all [sameI_refl])]; rfl))
                · replace hc8 := bne_eq_false_iff_eq.1 hc8
                  refine Vs (Fa TF38_6 rfl) <| Vs (Ld TA36 rfl) <| Vs (Lst mvB_len TU36 rfl) <| Vs (Fa TF38_6 rfl) <| Vs (Ld TA36 rfl) <| Vs (Lst mvB_len TU36 rfl) <| Vs (Bi rfl) <| Vs (Pk rfl) <| Nx <| Cd rfl (fun hc9 => ?_) (fun hc9 => ?_)
                  · replace hc9 := bne_iff_ne.1 hc9
                    exact Sq <| Rg <| Vs (As rfl) <| Nx <| Re <| Tr <| Fi (l := [boolB (false)]) (Rc (resVar_tmp rfl rfl) Rn) (by first | (rw [sameQ_t (edt_eqQ (by simp_all) (by simp_all) hc2 ess hc3 hc4 enn emm (by simp_all) (by simp_all) hc6)]; rfl) | (rw [sameQ_f (fun k => by subst k; first | exact absurd rfl (by assumption) | simp_all [sameI_refl])]; rfl))
                  · replace hc9 := bne_eq_false_iff_eq.1 hc9
                    refine Ks <| Tg <| Sq <| Sq <| Rg <| Vs (As rfl) <| Nx <| Bk <| VCode.loop (α := (Nat)) (fun i1 => (2, sl [(2, .ptr 0 (0)), (3, .ptr 1 (0)), (5, vI .i64 ((i1 : Int)))], en [(0, ⟨11, [vI .i64 (a.au), vI .i64 (a.sq), vI .i64 (a.st), .b (slK .i64 (a.seen)), vI .i64 (a.kind), .b (.lit (.string (a.text))), .b (slT 1 stB (a.names)), .b (slT 6 mvB (a.moves)), vI .i64 (a.oa), vI .i64 (a.os), vI .i64 (a.pk)], true⟩), (1, ⟨11, [vI .i64 (b.au), vI .i64 (b.sq), vI .i64 (b.st), .b (slK .i64 (b.seen)), vI .i64 (b.kind), .b (.lit (.string (b.text))), .b (slT 1 stB (b.names)), .b (slT 6 mvB (b.moves)), vI .i64 (b.oa), vI .i64 (b.os), vI .i64 (b.pk)], true⟩)])) (fun i1 => i1 ≤ a.seen.length ∧ ∀ j, j < i1 → a.seen.getD j 0 = b.seen.getD j 0) (fun i1 => a.seen.length - i1) (0) ⟨Nat.zero_le _, fun j h => absurd h (Nat.not_lt_zero _)⟩ Wk ?_
                    intro i1 hok
                    obtain ⟨hi1, hb1⟩ := hok
                    change VCode _ _ _ 2 (sl _) (en _) _
                    refine Sq <| Sq <| Rg <| Vs (Mv rfl) <| Vs (Fa TF38_2 rfl) <| Vs (Ld TA28 rfl) <| Vs (Ls TK28 rfl) <| Vs (Bi rfl) <| Nx <| Cd rfl (fun hc10 => ?_) (fun hc10 => ?_)
                    · replace hc10 := of_decide_eq_true hc10
                      refine Ks <| Tg <| Sq <| Bk <| Sq <| Rd (by kernel_rfl) <| Vl (Fa TF38_2 rfl) <| Vl (Ld TA28 rfl) <| Vl (Mv rfl) <| Vl (IxN TK28 rfl) <| Vl (Lq TA3 rfl) <| Vl (Fa TF38_2 rfl) <| Vl (Ld TA28 rfl) <| Vl (Mv rfl) <| Vl (IxN TK28 rfl) <| Vl (Lq TA3 rfl) <| Vl (Bi rfl) <| ?_
                      refine VLog.nil ⟨by kernel_rfl, ?_⟩
                      refine Tg <| Cd rfl (fun hc11 => ?_) (fun hc11 => ?_)
                      · replace hc11 := bne_iff_ne.1 hc11
                        exact Sq <| Rg <| Vs (As rfl) <| Nx <| Re <| Iq <| Tr <| Or <| Iq <| Tr <| Fi (l := [boolB (false)]) (Rc (resVar_tmp rfl rfl) Rn) (by first | (rw [sameQ_t (edt_eqQ (by simp_all) (by simp_all) hc2 ess hc3 hc4 enn emm (by simp_all) (by simp_all) hc6)]; rfl) | (rw [sameQ_f (fun k => by subst k; first | exact absurd rfl (by assumption) | simp_all [sameI_refl])]; rfl))
                      · replace hc11 := bne_eq_false_iff_eq.1 hc11
                        exact Ks <| Ig <| Tg <| Rg <| Vs (Mv rfl) <| Vs (Bo rfl adI) <| Vs (As rfl) <| VList.nil <| Go (i1 + 1) ⟨by omega, fun j h => by rcases Nat.lt_or_ge j i1 with h9 | h9; exact hb1 j h9; rw [show j = i1 by omega]; assumption⟩ Wk
                    · replace hc10 := of_decide_eq_false hc10
                      refine Ke <| Te <| Oe <| Ih <| Tg <| Sq <| Sq <| ?_
                      have ess : a.seen = b.seen := list_eqD (d := 0) (by omega) (fun j hj => hb1 j (by omega))
                      refine Rg <| Vs (As rfl) <| Nx <| Bk <| VCode.loop (α := (Nat)) (fun i2 => (2, sl [(2, .ptr 0 (0)), (3, .ptr 1 (0)), (6, vI .i64 ((i2 : Int)))], en [(0, ⟨11, [vI .i64 (a.au), vI .i64 (a.sq), vI .i64 (a.st), .b (slK .i64 (a.seen)), vI .i64 (a.kind), .b (.lit (.string (a.text))), .b (slT 1 stB (a.names)), .b (slT 6 mvB (a.moves)), vI .i64 (a.oa), vI .i64 (a.os), vI .i64 (a.pk)], true⟩), (1, ⟨11, [vI .i64 (b.au), vI .i64 (b.sq), vI .i64 (b.st), .b (slK .i64 (b.seen)), vI .i64 (b.kind), .b (.lit (.string (b.text))), .b (slT 1 stB (b.names)), .b (slT 6 mvB (b.moves)), vI .i64 (b.oa), vI .i64 (b.os), vI .i64 (b.pk)], true⟩)])) (fun i2 => i2 ≤ a.names.length ∧ ∀ j, j < i2 → a.names.getD j ByteArray.empty = b.names.getD j ByteArray.empty) (fun i2 => a.names.length - i2) (0) ⟨Nat.zero_le _, fun j h => absurd h (Nat.not_lt_zero _)⟩ Wk ?_
                      intro i2 hok
                      obtain ⟨hi2, hb2⟩ := hok
                      change VCode _ _ _ 2 (sl _) (en _) _
                      refine Sq <| Sq <| Rg <| Vs (Mv rfl) <| Vs (Fa TF38_5 rfl) <| Vs (Ld TA35 rfl) <| Vs (Lst stB_len TU35 rfl) <| Vs (Bi rfl) <| Nx <| Cd rfl (fun hc12 => ?_) (fun hc12 => ?_)
                      · replace hc12 := of_decide_eq_true hc12
                        refine Ks <| Tg <| Sq <| Bk <| Sq <| Rd (by kernel_rfl) <| Vl (Fa TF38_5 rfl) <| Vl (Ld TA35 rfl) <| Vl (Mv rfl) <| Vl (IxT stB_len TU35 TS9 rfl (by first | omega | (simp; done) | (simp; omega)) (gd (d := (ByteArray.empty)) (j := i2) (by first | omega | (simp; done) | (simp; omega))) rfl) <| Vl (Lq TA9 rfl) <| Vl (Fa TF38_5 rfl) <| Vl (Ld TA35 rfl) <| Vl (Mv rfl) <| Vl (IxT stB_len TU35 TS9 rfl (by first | omega | (simp; done) | (simp; omega)) (gd (d := (ByteArray.empty)) (j := i2) (by first | omega | (simp; done) | (simp; omega))) rfl) <| Vl (Lq TA9 rfl) <| Vl (Bi rfl) <| ?_
                        refine VLog.nil ⟨by kernel_rfl, ?_⟩
                        refine Tg <| Cd rfl (fun hc13 => ?_) (fun hc13 => ?_)
                        · replace hc13 := strEq_f (bnot_t hc13)
                          exact Sq <| Rg <| Vs (As rfl) <| Nx <| Re <| Iq <| Tr <| Or <| Iq <| Tr <| Fi (l := [boolB (false)]) (Rc (resVar_tmp rfl rfl) Rn) (by first | (rw [sameQ_t (edt_eqQ (by simp_all) (by simp_all) hc2 ess hc3 hc4 enn emm (by simp_all) (by simp_all) hc6)]; rfl) | (rw [sameQ_f (fun k => by subst k; first | exact absurd rfl (by assumption) | simp_all [sameI_refl])]; rfl))
                        · replace hc13 := strEq_t (bnot_f hc13)
                          exact Ks <| Ig <| Tg <| Rg <| Vs (Mv rfl) <| Vs (Bo rfl adI) <| Vs (As rfl) <| VList.nil <| Go (i2 + 1) ⟨by omega, fun j h => by rcases Nat.lt_or_ge j i2 with h9 | h9; exact hb2 j h9; rw [show j = i2 by omega]; assumption⟩ Wk
                      · replace hc12 := of_decide_eq_false hc12
                        refine Ke <| Te <| Oe <| Ih <| Tg <| Sq <| Sq <| ?_
                        have enn : a.names = b.names := list_eqD (d := ByteArray.empty) (by omega) (fun j hj => hb2 j (by omega))
                        refine Rg <| Vs (As rfl) <| Nx <| Bk <| VCode.loop (α := (Nat)) (fun i3 => (2, sl [(2, .ptr 0 (0)), (3, .ptr 1 (0)), (7, vI .i64 ((i3 : Int)))], en [(0, ⟨11, [vI .i64 (a.au), vI .i64 (a.sq), vI .i64 (a.st), .b (slK .i64 (a.seen)), vI .i64 (a.kind), .b (.lit (.string (a.text))), .b (slT 1 stB (a.names)), .b (slT 6 mvB (a.moves)), vI .i64 (a.oa), vI .i64 (a.os), vI .i64 (a.pk)], true⟩), (1, ⟨11, [vI .i64 (b.au), vI .i64 (b.sq), vI .i64 (b.st), .b (slK .i64 (b.seen)), vI .i64 (b.kind), .b (.lit (.string (b.text))), .b (slT 1 stB (b.names)), .b (slT 6 mvB (b.moves)), vI .i64 (b.oa), vI .i64 (b.os), vI .i64 (b.pk)], true⟩)])) (fun i3 => i3 ≤ a.moves.length ∧ ∀ j, j < i3 → a.moves.getD j mv0 = b.moves.getD j mv0) (fun i3 => a.moves.length - i3) (0) ⟨Nat.zero_le _, fun j h => absurd h (Nat.not_lt_zero _)⟩ Wk ?_
                        intro i3 hok
                        obtain ⟨hi3, hb3⟩ := hok
                        change VCode _ _ _ 2 (sl _) (en _) _
                        refine Sq <| Sq <| Rg <| Vs (Mv rfl) <| Vs (Fa TF38_6 rfl) <| Vs (Ld TA36 rfl) <| Vs (Lst mvB_len TU36 rfl) <| Vs (Bi rfl) <| Nx <| Cd rfl (fun hc14 => ?_) (fun hc14 => ?_)
                        · replace hc14 := of_decide_eq_true hc14
                          refine Ks <| Tg <| Sq <| Bk <| Sq <| Rd (by kernel_rfl) <| Vl (Fa TF38_6 rfl) <| Vl (Ld TA36 rfl) <| Vl (Mv rfl) <| Vl (IxT mvB_len TU36 TS61 rfl (by first | omega | (simp; done) | (simp; omega)) (gd (d := mv0) (j := i3) (by first | omega | (simp; done) | (simp; omega))) rfl) <| Vl (Fr TF61_0 rfl) <| Vl (Lq TA3 rfl) <| Vl (Fa TF38_6 rfl) <| Vl (Ld TA36 rfl) <| Vl (Mv rfl) <| Vl (IxT mvB_len TU36 TS61 rfl (by first | omega | (simp; done) | (simp; omega)) (gd (d := mv0) (j := i3) (by first | omega | (simp; done) | (simp; omega))) rfl) <| Vl (Fr TF61_0 rfl) <| Vl (Lq TA3 rfl) <| Vl (Bi rfl) <| Vl (Mv rfl) <| Sl 129 rfl (fun hc15 => ?_) (fun hc15 => ?_)
                          · replace hc15 := bne_iff_ne.1 hc15
                            refine Lk rfl <| Lk rfl <| Lk rfl <| Lk rfl <| Lk rfl <| Lk rfl <| Lk rfl <| Lk rfl <| Lk rfl <| Lk rfl <| Lk rfl <| Lk rfl <| Lk rfl <| Vl (Pk rfl) <| Vl (Mv rfl) <| Lk rfl <| Lk rfl <| Lk rfl <| Lk rfl <| Lk rfl <| Lk rfl <| Lk rfl <| Lk rfl <| Lk rfl <| Lk rfl <| Lk rfl <| Lk rfl <| Lk rfl <| Lk rfl <| Vl (Pk rfl) <| ?_
                            refine VLog.nil ⟨by kernel_rfl, ?_⟩
                            exact Tg <| Cy rfl <| Sq <| Rg <| Vs (As rfl) <| Nx <| Re <| Iq <| Tr <| Or <| Iq <| Tr <| Fi (l := [boolB (false)]) (Rc (resVar_tmp rfl rfl) Rn) (by first | (rw [sameQ_t (edt_eqQ (by simp_all) (by simp_all) hc2 ess hc3 hc4 enn emm (by simp_all) (by simp_all) hc6)]; rfl) | (rw [sameQ_f (fun k => by subst k; first | exact absurd rfl (by assumption) | simp_all [sameI_refl])]; rfl))
                          · replace hc15 := bne_eq_false_iff_eq.1 hc15
                            refine Vl (Fa TF38_6 rfl) <| Vl (Ld TA36 rfl) <| Vl (Mv rfl) <| Vl (IxT mvB_len TU36 TS61 rfl (by first | omega | (simp; done) | (simp; omega)) (gd (d := mv0) (j := i3) (by first | omega | (simp; done) | (simp; omega))) rfl) <| Vl (Fr TF61_1 rfl) <| Vl (Lq TA3 rfl) <| Vl (Fa TF38_6 rfl) <| Vl (Ld TA36 rfl) <| Vl (Mv rfl) <| Vl (IxT mvB_len TU36 TS61 rfl (by first | omega | (simp; done) | (simp; omega)) (gd (d := mv0) (j := i3) (by first | omega | (simp; done) | (simp; omega))) rfl) <| Vl (Fr TF61_1 rfl) <| Vl (Lq TA3 rfl) <| Vl (Bi rfl) <| Vl (Pk rfl) <| Vl (Mv rfl) <| Sl 144 rfl (fun hc16 => ?_) (fun hc16 => ?_)
                            · replace hc16 := bne_iff_ne.1 hc16
                              refine Lk rfl <| Lk rfl <| Lk rfl <| Lk rfl <| Lk rfl <| Lk rfl <| Lk rfl <| Lk rfl <| Lk rfl <| Lk rfl <| Lk rfl <| Lk rfl <| Lk rfl <| Lk rfl <| Vl (Pk rfl) <| ?_
                              refine VLog.nil ⟨by kernel_rfl, ?_⟩
                              exact Tg <| Cy rfl <| Sq <| Rg <| Vs (As rfl) <| Nx <| Re <| Iq <| Tr <| Or <| Iq <| Tr <| Fi (l := [boolB (false)]) (Rc (resVar_tmp rfl rfl) Rn) (by first | (rw [sameQ_t (edt_eqQ (by simp_all) (by simp_all) hc2 ess hc3 hc4 enn emm (by simp_all) (by simp_all) hc6)]; rfl) | (rw [sameQ_f (fun k => by subst k; first | exact absurd rfl (by assumption) | simp_all [sameI_refl])]; rfl))
                            · replace hc16 := bne_eq_false_iff_eq.1 hc16
                              refine Vl (Fa TF38_6 rfl) <| Vl (Ld TA36 rfl) <| Vl (Mv rfl) <| Vl (IxT mvB_len TU36 TS61 rfl (by first | omega | (simp; done) | (simp; omega)) (gd (d := mv0) (j := i3) (by first | omega | (simp; done) | (simp; omega))) rfl) <| Vl (Fr TF61_2 rfl) <| Vl (LqS TA57 TS57 rfl) <| Vl (Fa TF38_6 rfl) <| Vl (Ld TA36 rfl) <| Vl (Mv rfl) <| Vl (IxT mvB_len TU36 TS61 rfl (by first | omega | (simp; done) | (simp; omega)) (gd (d := mv0) (j := i3) (by first | omega | (simp; done) | (simp; omega))) rfl) <| Vl (Fr TF61_2 rfl) <| Vl (LqS TA57 TS57 rfl) <| Vl (Cf rfl rfl (m46 (((a.moves).getD (i3) mv0).nn) (((a.moves).getD (i3) mv0).nm) (((a.moves).getD (i3) mv0).dn) (((a.moves).getD (i3) mv0).dm) (((b.moves).getD (i3) mv0).nn) (((b.moves).getD (i3) mv0).nm) (((b.moves).getD (i3) mv0).dn) (((b.moves).getD (i3) mv0).dm) ((ha.moves.1 _ (getD_mem' (by omega))).nm.2) ((ha.moves.1 _ (getD_mem' (by omega))).dm.2)) rfl) <| Vl (Un rfl) <| Vl (Pk rfl) <| ?_
                              refine VLog.nil ⟨by kernel_rfl, ?_⟩
                              refine Tg <| Cd rfl (fun hc17 => ?_) (fun hc17 => ?_)
                              · replace hc17 := (bnot_t hc17)
                                exact Sq <| Rg <| Vs (As rfl) <| Nx <| Re <| Iq <| Tr <| Or <| Iq <| Tr <| Fi (l := [boolB (false)]) (Rc (resVar_tmp rfl rfl) Rn) (by first | (rw [sameQ_t (edt_eqQ (by simp_all) (by simp_all) hc2 ess hc3 hc4 enn emm (by simp_all) (by simp_all) hc6)]; rfl) | (rw [sameQ_f (fun k => by subst k; first | exact absurd rfl (by assumption) | simp_all [sameI_refl])]; rfl))
                              · replace hc17 := (bnot_f hc17)
                                exact Ks <| Ig <| Tg <| Rg <| Vs (Mv rfl) <| Vs (Bo rfl adI) <| Vs (As rfl) <| VList.nil <| Go (i3 + 1) ⟨by omega, fun j h => by rcases Nat.lt_or_ge j i3 with h9 | h9; exact hb3 j h9; rw [show j = i3 by omega]; exact mov_eqQ (by assumption) (by assumption) (by assumption)⟩ Wk
                        · replace hc14 := of_decide_eq_false hc14
                          refine Ke <| Te <| Oe <| Ih <| Tg <| Sq <| ?_
                          have emm : a.moves = b.moves := list_eqD (d := mv0) (by omega) (fun j hj => hb3 j (by omega))
                          exact Rg <| Vs (As rfl) <| Nx <| Re <| Fi (l := [boolB (true)]) (Rc (resVar_tmp rfl rfl) Rn) (by first | (rw [sameQ_t (edt_eqQ (by simp_all) (by simp_all) hc2 ess hc3 hc4 enn emm (by simp_all) (by simp_all) hc6)]; rfl) | (rw [sameQ_f (fun k => by subst k; first | exact absurd rfl (by assumption) | simp_all [sameI_refl])]; rfl))
end Go.VL
