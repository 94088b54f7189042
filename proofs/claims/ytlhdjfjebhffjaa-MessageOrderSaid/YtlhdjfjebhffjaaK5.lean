/- A small program logic over the translated Go code, plain laws, and walks over the functions: several texts in one. No condition. -/
import Derived.KernelRfl
import Derived.Test.YtlhdjfjebhffjaaK4
/- The message, plain: the order of edits, the examples. -/
set_option linter.unusedVariables false
set_option linter.unusedSimpArgs false
namespace Go.VL
def cmpQ (a b : Int) : Int := if a < b then -1 else if a > b then 1 else 0
def orL : List Int → Int
  | [] => 0
  | x :: l => if x ≠ 0 then x else orL l
theorem orL_at : ∀ {L : List Int} {i : Nat}, i < L.length → (∀ j, j < i → L.getD j 0 = 0) → L.getD i 0 ≠ 0 → orL L = L.getD i 0
  | [], i, h, _, _ => absurd h (Nat.not_lt_zero _)
  | x :: l, 0, _, _, h => by
    rw [orL, if_pos (by simpa using h)]; rfl
  | x :: l, i + 1, hi, hb, h => by
    have h0 := hb 0 (by omega)
    simp only [List.getD_cons_zero] at h0
    rw [orL, if_neg (by rw [h0]; decide)]
    simp only [List.getD_cons_succ] at h ⊢
    exact orL_at (by simpa using hi) (fun j hj => by have := hb (j + 1) (by omega); simpa using this) h
theorem orL_no : ∀ {L : List Int}, (∀ j, j < L.length → L.getD j 0 = 0) → orL L = 0
  | [], _ => rfl
  | x :: l, hb => by
    have h0 := hb 0 (by simp)
    simp only [List.getD_cons_zero] at h0
    rw [orL, if_neg (by rw [h0]; decide)]
    exact orL_no (fun j hj => by have := hb (j + 1) (by simpa using hj); simpa using this)
def lessP (a b : Edt) : Prop := a.st < b.st ∨ a.st = b.st ∧ (a.au < b.au ∨ a.au = b.au ∧ a.sq < b.sq)
instance (a b : Edt) : Decidable (lessP a b) := by unfold lessP; infer_instance
def lessQ (a b : Edt) : Bool := decide (lessP a b)
theorem cmpE3 {a b : Edt} : decide (orL [cmpQ a.st b.st, cmpQ a.au b.au, cmpQ a.sq b.sq] < 0) = lessQ a b := by
  unfold lessQ
  apply decide_eq_decide.2
  unfold lessP
  simp only [orL, cmpQ]
  repeat' split
  all_goals omega
theorem less_irr (a : Edt) : lessQ a a = false := by
  unfold lessQ lessP; apply decide_eq_false; omega
theorem less_iff {a b : Edt} : lessQ a b = true ↔ lessP a b := by unfold lessQ; exact decide_eq_true_iff
theorem less_no {a b : Edt} : lessQ a b = false ↔ ¬ lessP a b := by unfold lessQ; exact decide_eq_false_iff_not
theorem less_asym {a b : Edt} (h : lessQ a b = true) : lessQ b a = false := by
  rw [less_iff] at h; rw [less_no]; unfold lessP at *; omega
theorem less_trans {a b c : Edt} (h : lessQ a b = true) (k : lessQ b c = true) : lessQ a c = true := by
  rw [less_iff] at *; unfold lessP at *; omega
theorem less_st {a b : Edt} (h : lessQ a b = false) (k : lessQ b a = false) : (a.st != b.st) = false := by
  rw [less_no] at *; unfold lessP at *
  rw [bne_eq_false_iff_eq]; omega
theorem less_id {a b : Edt} (h : lessQ a b = false) (k : lessQ b a = false) : (!(a.au == b.au && a.sq == b.sq)) = false := by
  rw [less_no] at *; unfold lessP at *
  have h1 : a.au = b.au := by omega
  have h2 : a.sq = b.sq := by omega
  simp [h1, h2]
def befQ (a b : Edt) : Bool := btw 1 a.au (b.seen.length : Int) && decide (b.seen.getD (a.au - 1).toNat 0 ≥ a.sq)
def svQ (a b : Edt) (i : Nat) : Bool := decide (1 ≤ a.au ∧ a.au ≤ (i : Int) ∧ b.seen.getD (a.au - 1).toNat 0 ≥ a.sq)
theorem sv_0 {a b : Edt} : svQ a b 0 = false := by unfold svQ; apply decide_eq_false; omega
theorem sv_t {a b : Edt} {i : Nat} (h : svQ a b i = true) : svQ a b (i + 1) = true := by
  unfold svQ at *; rw [decide_eq_true_iff] at *; omega
theorem sv_n {a b : Edt} {i : Nat} (h1 : (i : Int) + 1 = a.au) : svQ a b (i + 1) = decide (b.seen.getD i 0 ≥ a.sq) := by
  unfold svQ; apply decide_eq_decide.2
  rw [show (a.au - 1).toNat = i by omega]
  omega
theorem sv_m {a b : Edt} {i : Nat} (h : svQ a b i = false) (h1 : ¬ (i : Int) + 1 = a.au) : svQ a b (i + 1) = false := by
  unfold svQ at *; rw [decide_eq_false_iff_not] at *; omega
theorem sv_bef {a b : Edt} {i : Nat} (h : i = b.seen.length) : svQ a b i = befQ a b := by
  subst h
  unfold svQ befQ btw
  rw [← Bool.decide_and, ← Bool.decide_and]
  apply decide_eq_decide.2; omega
/-- The chapter's examples. -/
def e0 : Edt := ⟨2, 1, 300, [3, 0], 2, ⟨#[65]⟩, [], [], 0, 0, 0⟩
def fm : List Int := [2, 1, 172, 2, 2, 3, 0, 2, 1, 65, 0, 0, 0, 0, 0]
theorem form_e0 : formE e0 = fm := by
  have n300 : numQ 300 = [172, 2] := by rw [numQ_hi (by decide), numQ_lo (by decide)]; rfl
  have lo : ∀ n : Nat, n < 128 → numQ n = [(n : Int)] := fun n h => numQ_lo h
  simp only [formE, hdQ, e0, seenQ, namesQ, movesQ, txtQ, List.length_cons, List.length_nil]
  simp only [show (⟨#[65]⟩ : ByteArray).size = 1 from rfl, show (2 : Int).toNat = 2 from rfl, show (1 : Int).toNat = 1 from rfl, show (300 : Int).toNat = 300 from rfl, show (3 : Int).toNat = 3 from rfl, show (0 : Int).toNat = 0 from rfl, n300, lo 2 (by decide), lo 1 (by decide), lo 3 (by decide), lo 0 (by decide)]
  rfl
theorem e0_en : encQ e0 = true := by kernel_rfl
theorem e0_ok : e0.Ok := by
  have r : ∀ x : Int, 0 ≤ x → x ≤ 1000 → rg64 x := fun x h0 h1 => by unfold rg64; omega
  refine mk_eok (r _ (by decide) (by decide)) (r _ (by decide) (by decide)) (r _ (by decide) (by decide)) (r _ (by decide) (by decide)) (r _ (by decide) (by decide)) (r _ (by decide) (by decide)) (r _ (by decide) (by decide)) ⟨fun x hx => ?_, by simp⟩ (by simp) ⟨fun m hm => (by cases hm), by simp⟩
  simp at hx; rcases hx with rfl | rfl <;> exact r _ (by decide) (by decide)
theorem dec_fm : decE fm = 0 := by kernel_rfl
theorem decQ_fm : decQ fm = e0 := by kernel_rfl
theorem dec_fm1 : decE (fm.take 14) = 9 := by kernel_rfl
theorem dec_fm2 : decE (fm ++ [0]) = 3 := by kernel_rfl
theorem dec_fm3 : decE [2, 1, 172, 130, 0] = 3 := by kernel_rfl
theorem key13 : keyE 13 = 1 := by kernel_rfl
def bq : Nat → List Int
  | 0 => []
  | i + 1 => bq i ++ [(i : Int) % 256]
theorem bq_len : ∀ i, (bq i).length = i
  | 0 => rfl
  | i + 1 => by rw [bq, List.length_append, bq_len i]; rfl
theorem bq_by : ∀ i, ByR (bq i)
  | 0 => fun x hx => by cases hx
  | i + 1 => (bq_by i).append (fun x hx => by simp at hx; omega)
theorem hash0 : (wv (hashQ m0 m1 []) == 8246050544436514353) = true := by kernel_rfl
theorem hash1 : (wv (hashQ m0 m1 ((bq 15).take 1)) == 8428550223375919101) = true := by kernel_rfl
theorem hash15 : (wv (hashQ m0 m1 (bq 15)) == 11613035633349379557) = true := by kernel_rfl
theorem body_seal {e : Edt} : bodyL (sealE e) = formE e ∧ (sealE e).drop ((sealE e).length - 8) = tagQ e.au (formE e) ∧ (sealE e).length = (formE e).length + 8 := by
  have hl : (sealE e).length = (formE e).length + 8 := by rw [sealE, List.length_append, tagQ_len]
  refine ⟨?_, ?_, hl⟩
  · rw [bodyL, hl, Nat.add_sub_cancel]; exact List.take_left
  · rw [hl, Nat.add_sub_cancel]; exact List.drop_left
theorem opn_seal {e : Edt} (h : decE (formE e) = 0) (k : decQ (formE e) = e) : opnE (sealE e) = 0 ∧ opnQ (sealE e) = e := by
  obtain ⟨h1, h2, h3⟩ := body_seal (e := e)
  have ho : opnE (sealE e) = 0 := by
    rw [opnE, if_neg (by omega), h1, if_pos h, k, h2, if_pos rfl]
  exact ⟨ho, by rw [opnQ, if_pos ho, h1, k]⟩
end Go.VL

/- Walks over the Go functions, printed by a program of this session over the kit's print, and by hand. -/
set_option linter.unusedVariables false
set_option linter.unusedSimpArgs false
set_option maxRecDepth 100000
namespace Go.VL
open Go.Proofs
theorem m75 (x : Int) : VF Try.prog 75 [numB .i64 (x)] (boolB false) := by
  refine VF_of P_mixed Try.func75 rfl rfl (by kernel_rfl) <| Sq <| Rg <| Vs (As rfl) <| Nx <| Sq <| Rg <| Vs (Mv rfl) <| Vs (Mv rfl) <| Vs (Bi rfl) <| Vs (As rfl) <| Nx <| Re <| Fi (Rc (resVar_tmp rfl rfl) Rn) (by refine congrArg boolB ?_; simp)
theorem m48 (x y : Int) : VF Try.prog 48 [numB .i64 (x), numB .i64 (y)] (numB .i64 (cmpQ x y)) := by
  refine VF_of P_mixed Try.func48 rfl rfl (by kernel_rfl) <| Sq <| Rg <| Vs (As rfl) <| Nx <| Sq <| Rg <| Vs (Mv rfl) <| Vs (Cf rfl rfl (m75 x) rfl) <| Vs (As rfl) <| Nx <| Sq <| Rg <| Vs (Mv rfl) <| Vs (Cf rfl rfl (m75 y) rfl) <| Vs (As rfl) <| Nx <| Sq <| Sq <| Rg <| Vs (Mv rfl) <| Nx <| Cz rfl <| Ks <| Tg <| Sq <| Sq <| Rg <| Vs (Mv rfl) <| Nx <| Cz rfl <| Ks <| Tg <| Sq <| Sq <| Rg <| Vs (Mv rfl) <| Vs (Mv rfl) <| Vs (Bi rfl) <| Nx <| Cd rfl (fun hc1 => ?_) (fun hc1 => ?_)
  · replace hc1 := of_decide_eq_true hc1
    exact Sq <| Rg <| Vs (As rfl) <| Nx <| Re <| Tr <| Fi (l := [numB .i64 ((-1))]) (Rc (resVar_tmp rfl rfl) Rn) (by rw [show cmpQ x y = -1 from by unfold cmpQ; rw [if_pos (by assumption)]]; rfl)
  · replace hc1 := of_decide_eq_false hc1
    refine Ks <| Tg <| Sq <| Sq <| Rg <| Vs (Mv rfl) <| Vs (Mv rfl) <| Vs (Bi rfl) <| Nx <| Cd rfl (fun hc2 => ?_) (fun hc2 => ?_)
    · replace hc2 := of_decide_eq_true hc2
      exact Sq <| Rg <| Vs (As rfl) <| Nx <| Re <| Tr <| Fi (l := [numB .i64 (1)]) (Rc (resVar_tmp rfl rfl) Rn) (by rw [show cmpQ x y = 1 from by unfold cmpQ; rw [if_neg (by assumption), if_pos (by assumption)]]; rfl)
    · replace hc2 := of_decide_eq_false hc2
      exact Ks <| Tg <| Sq <| Rg <| Vs (As rfl) <| Nx <| Re <| Fi (l := [numB .i64 (0)]) (Rc (resVar_tmp rfl rfl) Rn) (by rw [show cmpQ x y = 0 from by unfold cmpQ; rw [if_neg (by assumption), if_neg (by assumption)]]; rfl)
theorem m47 {L : List Int} (hL : L.length ≤ 1000) : VF Try.prog 47 [slK .i64 (L)] (numB .i64 (orL L)) := by
  refine VF_of P_mixed Try.func47 rfl rfl (by kernel_rfl) <| Sq <| Rg <| Vs (As rfl) <| Nx <| Sq <| Rg <| Vs (As rfl) <| Nx <| Sq <| Sq <| Rg <| Vs (Mv rfl) <| Vs (Ls TK28 rfl) <| Vs (Mv rfl) <| Nx <| Bk <| VCode.loop (α := (Nat)) (fun i => (0, sl [(3, vI .i64 (0)), (6, .b (slK .i64 (L))), (7, vI .i64 (((L).length : Int))), (8, vI .i64 ((i : Int)))], en [])) (fun i => i ≤ L.length ∧ ∀ j, j < i → L.getD j 0 = 0) (fun i => L.length - i) (0) ⟨Nat.zero_le _, fun j h => absurd h (Nat.not_lt_zero _)⟩ Wk ?_
  intro i hok
  obtain ⟨hi, hb⟩ := hok
  change VCode _ _ _ 0 (sl _) (en _) _
  refine Sq <| Rg <| Vs (Bi rfl) <| Nx <| Sq <| Cd rfl (fun hc1 => ?_) (fun hc1 => ?_)
  · replace hc1 := of_decide_eq_true hc1
    refine Ks <| Tg <| Sq <| Bk <| Sq <| Rg <| Vs (IxN TK28 rfl) <| Vs (Lq TA3 rfl) <| Vs (As rfl) <| Nx <| Sq <| Rg <| Vs (Mv rfl) <| Vs (Mv rfl) <| Vs (Bi rfl) <| Nx <| Cd rfl (fun hc2 => ?_) (fun hc2 => ?_)
    · replace hc2 := bne_iff_ne.1 hc2
      exact Sq <| Rg <| Vs (Mv rfl) <| Vs (As rfl) <| Nx <| Re <| Iq <| Tr <| Or <| Iq <| Tr <| Fi (l := [numB .i64 ((L).getD (i) 0)]) (Rc (resVar_tmp rfl rfl) Rn) (by rw [orL_at (by omega) hb (by assumption)]; rfl)
    · replace hc2 := bne_eq_false_iff_eq.1 hc2
      exact Ks <| Ig <| Tg <| Rg <| Vs (Bo rfl adI) <| Vs (Mv rfl) <| VList.nil <| Go (i + 1) ⟨by omega, fun j h => by rcases Nat.lt_or_ge j i with h9 | h9; exact hb j h9; rw [show j = i by omega]; assumption⟩ Wk
  · replace hc1 := of_decide_eq_false hc1
    exact Ke <| Te <| Oe <| Ih <| Tg <| Sq <| Rg <| Vs (Mv rfl) <| Vs (As rfl) <| Nx <| Re <| Fi (l := [numB .i64 (0)]) (Rc (resVar_tmp rfl rfl) Rn) (by rw [orL_no (fun j hj => hb j (by omega))]; rfl)
theorem m22 (a b : Edt) : VF Try.prog 22 [.agg [numB .i64 (a.au), numB .i64 (a.sq), numB .i64 (a.st), slK .i64 (a.seen), numB .i64 (a.kind), .lit (.string (a.text)), slT 1 stB (a.names), slT 6 mvB (a.moves), numB .i64 (a.oa), numB .i64 (a.os), numB .i64 (a.pk)], .agg [numB .i64 (b.au), numB .i64 (b.sq), numB .i64 (b.st), slK .i64 (b.seen), numB .i64 (b.kind), .lit (.string (b.text)), slT 1 stB (b.names), slT 6 mvB (b.moves), numB .i64 (b.oa), numB .i64 (b.os), numB .i64 (b.pk)]] (boolB (lessQ a b)) := by
  refine VF_of P_mixed Try.func22 rfl rfl (by kernel_rfl) <| Sq <| Rg <| Vs (Bx 0 rfl) <| Vs (Bx 1 rfl) <| Vs (As rfl) <| Nx <| Sq <| Rd (by kernel_rfl) <| Vl (Fa TF38_1 rfl) <| Vl (Ld TA3 rfl) <| Vl (Fa TF38_1 rfl) <| Vl (Ld TA3 rfl) <| Vl (Cf rfl rfl (m48 (a.st) (b.st)) rfl) <| Vl (Fa TF38_0 rfl) <| Vl (Fa TF34_0 rfl) <| Vl (Ld TA3 rfl) <| Vl (Fa TF38_0 rfl) <| Vl (Fa TF34_0 rfl) <| Vl (Ld TA3 rfl) <| Vl (Cf rfl rfl (m48 (a.au) (b.au)) rfl) <| Vl (Fa TF38_0 rfl) <| Vl (Fa TF34_1 rfl) <| Vl (Ld TA3 rfl) <| Vl (Fa TF38_0 rfl) <| Vl (Fa TF34_1 rfl) <| Vl (Ld TA3 rfl) <| Vl (Cf rfl rfl (m48 (a.sq) (b.sq)) rfl) <| Vl (sq1 22 rfl (.buildS _ 3 _ 3 [vI .i64 ((cmpQ (a.st) (b.st))), vI .i64 ((cmpQ (a.au) (b.au))), vI .i64 ((cmpQ (a.sq) (b.sq)))] 1 _ [vI .i64 ((cmpQ (a.st) (b.st))), vI .i64 ((cmpQ (a.au) (b.au))), vI .i64 ((cmpQ (a.sq) (b.sq)))] rfl TU28 TZ3 TS3 (List.cons_ne_nil _ _) (by decide) rfl rfl)) <| Vl (Cf rfl (Rk (Rr rfl) Rz) (m47 (L := [(cmpQ (a.st) (b.st)), (cmpQ (a.au) (b.au)), (cmpQ (a.sq) (b.sq))]) (by simp)) rfl) <| Vl (Bi rfl) <| Vl (As rfl) <| ?_
  refine VLog.nil ⟨by kernel_rfl, ?_⟩
  refine Tg <| Re <| Fi (Rc (resVar_tmp rfl rfl) Rn) (by refine congrArg boolB ?_; exact cmpE3.symm)
theorem m23 (a b : Edt) : VF Try.prog 23 [.agg [numB .i64 (a.au), numB .i64 (a.sq), numB .i64 (a.st), slK .i64 (a.seen), numB .i64 (a.kind), .lit (.string (a.text)), slT 1 stB (a.names), slT 6 mvB (a.moves), numB .i64 (a.oa), numB .i64 (a.os), numB .i64 (a.pk)], .agg [numB .i64 (b.au), numB .i64 (b.sq), numB .i64 (b.st), slK .i64 (b.seen), numB .i64 (b.kind), .lit (.string (b.text)), slT 1 stB (b.names), slT 6 mvB (b.moves), numB .i64 (b.oa), numB .i64 (b.os), numB .i64 (b.pk)]] (boolB (lessQ a b)) := by
  refine VF_of P_mixed Try.func23 rfl rfl (by kernel_rfl) <| Sq <| Rg <| Vs (Bx 0 rfl) <| Vs (Bx 1 rfl) <| Vs (As rfl) <| Nx <| Sq <| Sq <| Rg <| Vs (Fa TF38_1 rfl) <| Vs (Ld TA3 rfl) <| Vs (Fa TF38_1 rfl) <| Vs (Ld TA3 rfl) <| Vs (Bi rfl) <| Nx <| Cd rfl (fun hc1 => ?_) (fun hc1 => ?_)
  · replace hc1 := bne_iff_ne.1 hc1
    refine Sq <| Rg <| Vs (Fa TF38_1 rfl) <| Vs (Ld TA3 rfl) <| Vs (Fa TF38_1 rfl) <| Vs (Ld TA3 rfl) <| Vs (Bi rfl) <| Vs (As rfl) <| Nx <| Re <| Tr <| Fi (Rc (resVar_tmp rfl rfl) Rn) (by refine congrArg boolB ?_; unfold lessQ; apply decide_eq_decide.2; unfold lessP; omega)
  · replace hc1 := bne_eq_false_iff_eq.1 hc1
    refine Ks <| Tg <| Sq <| Sq <| Rg <| Vs (Fa TF38_0 rfl) <| Vs (Fa TF34_0 rfl) <| Vs (Ld TA3 rfl) <| Vs (Fa TF38_0 rfl) <| Vs (Fa TF34_0 rfl) <| Vs (Ld TA3 rfl) <| Vs (Bi rfl) <| Nx <| Cd rfl (fun hc2 => ?_) (fun hc2 => ?_)
    · replace hc2 := bne_iff_ne.1 hc2
      refine Sq <| Rg <| Vs (Fa TF38_0 rfl) <| Vs (Fa TF34_0 rfl) <| Vs (Ld TA3 rfl) <| Vs (Fa TF38_0 rfl) <| Vs (Fa TF34_0 rfl) <| Vs (Ld TA3 rfl) <| Vs (Bi rfl) <| Vs (As rfl) <| Nx <| Re <| Tr <| Fi (Rc (resVar_tmp rfl rfl) Rn) (by refine congrArg boolB ?_; unfold lessQ; apply decide_eq_decide.2; unfold lessP; omega)
    · replace hc2 := bne_eq_false_iff_eq.1 hc2
      refine Ks <| Tg <| Sq <| Rg <| Vs (Fa TF38_0 rfl) <| Vs (Fa TF34_1 rfl) <| Vs (Ld TA3 rfl) <| Vs (Fa TF38_0 rfl) <| Vs (Fa TF34_1 rfl) <| Vs (Ld TA3 rfl) <| Vs (Bi rfl) <| Vs (As rfl) <| Nx <| Re <| Fi (Rc (resVar_tmp rfl rfl) Rn) (by refine congrArg boolB ?_; unfold lessQ; apply decide_eq_decide.2; unfold lessP; omega)
theorem m24 (a b : Edt) (ha : a.Ok) : VF Try.prog 24 [.agg [numB .i64 (a.au), numB .i64 (a.sq), numB .i64 (a.st), slK .i64 (a.seen), numB .i64 (a.kind), .lit (.string (a.text)), slT 1 stB (a.names), slT 6 mvB (a.moves), numB .i64 (a.oa), numB .i64 (a.os), numB .i64 (a.pk)], .agg [numB .i64 (b.au), numB .i64 (b.sq), numB .i64 (b.st), slK .i64 (b.seen), numB .i64 (b.kind), .lit (.string (b.text)), slT 1 stB (b.names), slT 6 mvB (b.moves), numB .i64 (b.oa), numB .i64 (b.os), numB .i64 (b.pk)]] (boolB (befQ a b)) := by
  have hr := ha.au
  unfold rg64 at hr
  refine VF_of P_mixed Try.func24 rfl rfl (by kernel_rfl) <| Sq <| Rg <| Vs (Bx 0 rfl) <| Vs (Bx 1 rfl) <| Vs (As rfl) <| Nx <| Sq <| Rd (by kernel_rfl) <| Vl (Fa TF38_0 rfl) <| Vl (Fa TF34_0 rfl) <| Vl (Ld TA3 rfl) <| Vl (Fa TF38_2 rfl) <| Vl (Ld TA28 rfl) <| Vl (Ls TK28 rfl) <| Vl (Cf rfl rfl (m32 1 (a.au) (((b.seen).length : Int))) rfl) <| Vl (Mv rfl) <| Sl 12 rfl (fun hc1 => ?_) (fun hc1 => ?_)
  · replace hc1 := hc1
    have hb := btw_t.1 hc1
    refine Vl (Fa TF38_2 rfl) <| Vl (Ld TA28 rfl) <| Vl (Fa TF38_0 rfl) <| Vl (Fa TF34_0 rfl) <| Vl (Ld TA3 rfl) <| Vl (Bo rfl (suI (h := (by omega)))) <| Vl (Ix TK28 rfl) <| Vl (Lq TA3 rfl) <| Vl (Fa TF38_0 rfl) <| Vl (Fa TF34_1 rfl) <| Vl (Ld TA3 rfl) <| Vl (Bi rfl) <| Vl (Pk rfl) <| Vl (As rfl) <| ?_
    refine VLog.nil ⟨by kernel_rfl, ?_⟩
    refine Tg <| Re <| Fi (Rc (resVar_tmp rfl rfl) Rn) (by refine congrArg boolB ?_; rw [befQ, hc1, Bool.true_and])
  · replace hc1 := hc1
    refine Lk rfl <| Lk rfl <| Lk rfl <| Lk rfl <| Lk rfl <| Lk rfl <| Lk rfl <| Lk rfl <| Lk rfl <| Lk rfl <| Lk rfl <| Lk rfl <| Vl (Pk rfl) <| Vl (As rfl) <| ?_
    refine VLog.nil ⟨by kernel_rfl, ?_⟩
    refine Tg <| Re <| Fi (Rc (resVar_tmp rfl rfl) Rn) (by refine congrArg boolB ?_; rw [befQ, hc1, Bool.false_and])
def sb1 (x : Int) : Int := if x = -9223372036854775808 then 9223372036854775807 else x - 1
theorem bop_sub1 {x : Int} (h : rg64 x) : bop .sub (.int .i64 x) (.int .i64 1) = some (.int .i64 (sb1 x)) := by
  unfold rg64 at h
  by_cases h1 : x = -9223372036854775808
  · subst h1; rfl
  · rw [bop_sub_i64 (by omega), sb1, if_neg h1]
theorem m25 (a b : Edt) (ha : a.Ok) : VF Try.prog 25 [.agg [numB .i64 (a.au), numB .i64 (a.sq), numB .i64 (a.st), slK .i64 (a.seen), numB .i64 (a.kind), .lit (.string (a.text)), slT 1 stB (a.names), slT 6 mvB (a.moves), numB .i64 (a.oa), numB .i64 (a.os), numB .i64 (a.pk)], .agg [numB .i64 (b.au), numB .i64 (b.sq), numB .i64 (b.st), slK .i64 (b.seen), numB .i64 (b.kind), .lit (.string (b.text)), slT 1 stB (b.names), slT 6 mvB (b.moves), numB .i64 (b.oa), numB .i64 (b.os), numB .i64 (b.pk)]] (boolB (befQ a b)) := by
  refine VF_of P_mixed Try.func25 rfl rfl (by kernel_rfl) <| Sq <| Rg <| Vs (Bx 0 rfl) <| Vs (Bx 1 rfl) <| Vs (As rfl) <| Nx <| Sq <| Rg <| Vs (Fa TF38_0 rfl) <| Vs (Fa TF34_0 rfl) <| Vs (Ld TA3 rfl) <| Vs (Bo (c := .int .i64 ((sb1 a.au))) rfl (bop_sub1 ha.au)) <| Vs (As rfl) <| Nx <| Sq <| Rd (by kernel_rfl) <| Vl (Fa TF38_0 rfl) <| Vl (Fa TF34_0 rfl) <| Vl (Ld TA3 rfl) <| Vl (Bi rfl) <| Vl (Mv rfl) <| Sl 14 rfl (fun hc1 => ?_) (fun hc1 => ?_)
  · replace hc1 := of_decide_eq_true hc1
    have hsb : sb1 a.au = a.au - 1 := by unfold sb1; rw [if_neg (by omega)]
    refine Vl (Mv rfl) <| Vl (Fa TF38_2 rfl) <| Vl (Ld TA28 rfl) <| Vl (Ls TK28 rfl) <| Vl (Bi rfl) <| Vl (Pk rfl) <| Vl (Mv rfl) <| Sl 21 rfl (fun hc2 => ?_) (fun hc2 => ?_)
    · replace hc2 := of_decide_eq_true hc2
      refine Vl (Fa TF38_2 rfl) <| Vl (Ld TA28 rfl) <| Vl (Mv rfl) <| Vl (Ix TK28 rfl) <| Vl (Lq TA3 rfl) <| Vl (Fa TF38_0 rfl) <| Vl (Fa TF34_1 rfl) <| Vl (Ld TA3 rfl) <| Vl (Bi rfl) <| Vl (Pk rfl) <| Vl (As rfl) <| ?_
      refine VLog.nil ⟨by kernel_rfl, ?_⟩
      refine Tg <| Re <| Fi (Rc (resVar_tmp rfl rfl) Rn) (by refine congrArg boolB ?_; rw [befQ, btw_t.2 ⟨by omega, by omega⟩, Bool.true_and, hsb])
    · replace hc2 := of_decide_eq_false hc2
      refine Lk rfl <| Lk rfl <| Lk rfl <| Lk rfl <| Lk rfl <| Lk rfl <| Lk rfl <| Lk rfl <| Lk rfl <| Vl (Pk rfl) <| Vl (As rfl) <| ?_
      refine VLog.nil ⟨by kernel_rfl, ?_⟩
      refine Tg <| Re <| Fi (Rc (resVar_tmp rfl rfl) Rn) (by refine congrArg boolB ?_; rw [befQ, show btw 1 a.au (b.seen.length : Int) = false from Bool.eq_false_iff.2 (fun k => by have := btw_t.1 k; omega), Bool.false_and])
  · replace hc1 := of_decide_eq_false hc1
    refine Lk rfl <| Lk rfl <| Lk rfl <| Lk rfl <| Lk rfl <| Vl (Pk rfl) <| Vl (Mv rfl) <| Lk rfl <| Lk rfl <| Lk rfl <| Lk rfl <| Lk rfl <| Lk rfl <| Lk rfl <| Lk rfl <| Lk rfl <| Vl (Pk rfl) <| Vl (As rfl) <| ?_
    refine VLog.nil ⟨by kernel_rfl, ?_⟩
    refine Tg <| Re <| Fi (Rc (resVar_tmp rfl rfl) Rn) (by refine congrArg boolB ?_; rw [befQ, show btw 1 a.au (b.seen.length : Int) = false from Bool.eq_false_iff.2 (fun k => by have := btw_t.1 k; omega), Bool.false_and])
end Go.VL

/- Walks over the Go functions, printed by a program of this session over the kit's print, and by hand. -/
set_option linter.unusedVariables false
set_option linter.unusedSimpArgs false
set_option maxRecDepth 100000
namespace Go.VL
open Go.Proofs
theorem m16s : VF Try.prog 16 [.agg [numB .i64 (e0.au), numB .i64 (e0.sq), numB .i64 (e0.st), slK .i64 (e0.seen), numB .i64 (e0.kind), .lit (.string (e0.text)), slT 1 stB (e0.names), slT 6 mvB (e0.moves), numB .i64 (e0.oa), numB .i64 (e0.os), numB .i64 (e0.pk)]] (.tup [.lit (.string (bytesOf fm)), numB .i64 0]) := by
  have := m16t e0_ok e0_en; rw [form_e0] at this; exact this
theorem d17 {s : List Int} {e : Int} {q : Edt} (he : decE s = e) (hq : decQ s = q) : VG Try.prog 17 [.b (.lit (.string (bytesOf s)))] [] (.b (.tup [.agg [numB .i64 (q.au), numB .i64 (q.sq), numB .i64 (q.st), slK .i64 (q.seen), numB .i64 (q.kind), .lit (.string (q.text)), slT 1 stB (q.names), slT 6 mvB (q.moves), numB .i64 (q.oa), numB .i64 (q.os), numB .i64 (q.pk)], numB .i64 e])) [] := by
  subst he; subst hq; exact m17
theorem d19 {s : List Int} {e : Int} {q : Edt} (h8 : ByR s) (hs : s.length ≤ 1000000) (he : opnE s = e) (hq : opnQ s = q) : VG Try.prog 19 [.b (.lit (.string (bytesOf s)))] [] (.b (.tup [.agg [numB .i64 (q.au), numB .i64 (q.sq), numB .i64 (q.st), slK .i64 (q.seen), numB .i64 (q.kind), .lit (.string (q.text)), slT 1 stB (q.names), slT 6 mvB (q.moves), numB .i64 (q.oa), numB .i64 (q.os), numB .i64 (q.pk)], numB .i64 e])) [] := by
  subst he; subst hq; exact m19 h8 hs
theorem m18s : VF Try.prog 18 [.agg [numB .i64 (e0.au), numB .i64 (e0.sq), numB .i64 (e0.st), slK .i64 (e0.seen), numB .i64 (e0.kind), .lit (.string (e0.text)), slT 1 stB (e0.names), slT 6 mvB (e0.moves), numB .i64 (e0.oa), numB .i64 (e0.os), numB .i64 (e0.pk)]] (.tup [.lit (.string (bytesOf (sealE e0))), numB .i64 0]) := m18t e0_ok e0_en (by rw [form_e0]; decide)
theorem fm_by : ByR fm := fun x hx => by simp only [fm, List.mem_cons, List.not_mem_nil, or_false] at hx; rcases hx with h | h | h | h | h | h | h | h | h | h | h | h | h | h | h <;> subst h <;> decide
theorem seal_by (e : Edt) : ByR (sealE e) := (formE_by e).append tagQ_by
theorem m13s : VF Try.prog 13 [numB .i64 13] (.tup [.agg [numB .u64 (wv (k0Q 13)), numB .u64 (wv (k1Q 13))], numB .i64 1]) := by
  have := m13 13; rw [key13] at this; exact this
theorem m9  : VF Try.prog 9 [] (boolB true) := by
  refine VF_of P_mixed Try.func9 rfl rfl (by kernel_rfl) <| Sq <| Rg <| Vs (As rfl) <| Nx <| Sq <| Rg <| Vs (BdA TZ25 TU25 TS22 rfl) <| Vs (Al 2 TZ25 rfl) <| Vs (StS TS25 rfl) <| Nx <| Sq <| Rg <| Vs (Nr 4 1 rfl) <| Nx <| Sq <| Sq <| Rg <| Vs (As rfl) <| Nx <| Bk <| VCode.loop (α := (Nat) × (Nat) × (List Int)) (fun x_ => match x_ with | (i, k, R) => (91, sl [(1, .ptr 2 (0)), (2, .row 90 (k) none), (3, vI .i64 ((i : Int)))], en [(2, ⟨2, [vI .u64 (506097522914230528), vI .u64 (1084818905618843912)], true⟩), (90, rowK .u8 (R))])) (fun x_ => match x_ with | (i, k, R) => i ≤ 15 ∧ R = bq i ∧ k = i ∧ R.length = k) (fun x_ => match x_ with | (i, k, R) => 15 - i) (0, 0, []) ⟨by decide, rfl, rfl, rfl⟩ (Wr [(90, 4)]) ?_
  rintro ⟨i, k, R⟩ hok
  obtain ⟨hi, hR, hki, hRl⟩ := hok
  change VCode _ _ _ 91 (sl _) (en _) _
  refine Sq <| Sq <| Rg <| Vs (Mv rfl) <| Vs (Bi rfl) <| Nx <| Cd rfl (fun hc1 => ?_) (fun hc1 => ?_)
  · replace hc1 := of_decide_eq_true hc1
    exact Ks <| Tg <| Sq <| Bk <| Rg <| Vs (Mv rfl) <| Vs (Mv rfl) <| Vs (Cv TU3 TU5 rfl (wrapM_u8 _)) <| Vs (L1s 96 TK23 rfl) <| Vs (Ar 97 TK23 rfl (Rr rfl)) <| Vs (As rfl) <| VList.nil <| Ig <| Tg <| Rg <| Vs (Mv rfl) <| Vs (Bo rfl adI) <| Vs (As rfl) <| VList.nil <| Go (i + 1, k + ([(((i : Int)) % 256)]).length, (R) ++ ([(((i : Int)) % 256)])) ⟨by omega, by rw [bq, ← hR], by rw [hki]; rfl, by rw [List.length_append, hRl]; first | done | rfl⟩ (Wr [(90, 97)])
  · replace hc1 := of_decide_eq_false hc1
    have h15 : i = 15 := by omega
    rw [h15] at hR
    have hRl15 : R.length = 15 := by rw [hR]; rfl
    refine Ke <| Te <| Oe <| Ih <| Cx (n1 := 3) (S1 := [(1, .ptr 2 (0)), (2, .b (slK .u8 (R)))]) (L1 := [(2, ⟨2, [vI .u64 (506097522914230528), vI .u64 (1084818905618843912)], true⟩)]) (Weak.conv (nv := [90]) ⟨⟨⟨_, rfl, .inl rfl⟩, rfl⟩, ⟨⟨_, rfl, cv_rw rfl (by first | omega | (simp; done) | (simp; omega))⟩, rfl⟩, trivial⟩ ⟨⟨⟨_, rfl, rfl, rfl, ⟨.inl rfl, .inl rfl, trivial⟩⟩, Nat.le_of_ble_eq_true rfl, cells_of rfl⟩, trivial⟩ (Nat.le_of_ble_eq_true rfl)) <| Sq <| Rg <| Vs (Bd TQ34 rfl) <| Vs (L2s 4 TK28 rfl) <| Vs (BdM TQ38 rfl) <| Vs (Al 6 TZ38 rfl) <| Vs (StS TS38 rfl) <| VList.nil <| Cx (n1 := 7) (S1 := [(1, .ptr 2 (0)), (2, .b (slK .u8 (R))), (4, .ptr 6 (0))]) (L1 := [(2, ⟨2, [vI .u64 (506097522914230528), vI .u64 (1084818905618843912)], true⟩), (6, ⟨11, [vI .i64 (2), vI .i64 (1), vI .i64 (300), .b (slK .i64 ([3, 0])), vI .i64 (2), .b (.lit (.string ((⟨#[65]⟩ : ByteArray)))), .b (slT 1 stB ([])), .b (slT 6 mvB ([])), vI .i64 (0), vI .i64 (0), vI .i64 (0)], true⟩)]) (Weak.conv (nv := [4]) ⟨⟨⟨_, rfl, .inl rfl⟩, rfl⟩, ⟨⟨_, rfl, .inl rfl⟩, rfl⟩, ⟨⟨_, rfl, .inl rfl⟩, rfl⟩, trivial⟩ ⟨⟨⟨_, rfl, rfl, rfl, ⟨.inl rfl, .inl rfl, trivial⟩⟩, Nat.le_of_ble_eq_true rfl, cells_of rfl⟩, ⟨⟨_, rfl, rfl, rfl, ⟨.inl rfl, .inl rfl, .inl rfl, (cv_own rfl (by first | omega | (simp; done) | (simp; omega))), .inl rfl, .inl rfl, (cv_nil rfl), (cv_nil rfl), .inl rfl, .inl rfl, .inl rfl, trivial⟩⟩, Nat.le_of_ble_eq_true rfl, cells_of rfl⟩, trivial⟩ (Nat.le_of_ble_eq_true rfl)) <| Sq <| Rg <| Vs (LdS TA38 TS38 rfl) <| Vs (C0 rfl rfl (m16s)) <| Vs (Mv rfl) <| Vs (Xt rfl) <| Vs (Xt rfl) <| Vs (As rfl) <| Vs (As rfl) <| Nx <| Sq <| Rg <| Vs (Kt (show (⟨#[2, 1, 172, 2, 2, 3, 0, 2, 1, 65, 0, 0, 0, 0, 0]⟩ : ByteArray) = bytesOf fm from rfl) (As rfl)) <| Nx <| Sq <| Rg <| Vs (Mv rfl) <| Gm 16 [] [] (v := .b (.tup [.agg [numB .i64 (e0.au), numB .i64 (e0.sq), numB .i64 (e0.st), slK .i64 (e0.seen), numB .i64 (e0.kind), .lit (.string (e0.text)), slT 1 stB (e0.names), slT 6 mvB (e0.moves), numB .i64 (e0.oa), numB .i64 (e0.os), numB .i64 (e0.pk)], numB .i64 (0)])) [(2, ⟨2, [vI .u64 (506097522914230528), vI .u64 (1084818905618843912)], true⟩), (6, ⟨11, [vI .i64 (2), vI .i64 (1), vI .i64 (300), .b (slK .i64 ([3, 0])), vI .i64 (2), .b (.lit (.string ((⟨#[65]⟩ : ByteArray)))), .b (slT 1 stB ([])), .b (slT 6 mvB ([])), vI .i64 (0), vI .i64 (0), vI .i64 (0)], true⟩)] rfl (d17 dec_fm decQ_fm) rfl <| Vs (Mv rfl) <| Vs (Xt rfl) <| Vs (Xt rfl) <| Vs (Al 20 TZ38 rfl) <| Vs (StS TS38 rfl) <| Vs (As rfl) <| Nx <| Sq <| Rg <| Vs (Mv rfl) <| Vs (Mv rfl) <| Vs (Lt TU9 rfl) <| Vs (Ki (show (((bytesOf fm).size : Int) - 1) = (14 : Int) from rfl) (Bo rfl (suI (h := (by rw [bytesOf_size]; decide))))) <| Vs (Kt (show (bytesOf fm).extract 0 ((14 : Int)).toNat = bytesOf (fm.take 14) from by rw [bytesOf_take]; rfl) (Tt TU9 rfl (h1 := (by rw [bytesOf_size]; decide)))) <| Gm 28 [] [] (v := .b (.tup [.agg [numB .i64 (edt0.au), numB .i64 (edt0.sq), numB .i64 (edt0.st), slK .i64 (edt0.seen), numB .i64 (edt0.kind), .lit (.string (edt0.text)), slT 1 stB (edt0.names), slT 6 mvB (edt0.moves), numB .i64 (edt0.oa), numB .i64 (edt0.os), numB .i64 (edt0.pk)], numB .i64 (9)])) [(2, ⟨2, [vI .u64 (506097522914230528), vI .u64 (1084818905618843912)], true⟩), (6, ⟨11, [vI .i64 (2), vI .i64 (1), vI .i64 (300), .b (slK .i64 ([3, 0])), vI .i64 (2), .b (.lit (.string ((⟨#[65]⟩ : ByteArray)))), .b (slT 1 stB ([])), .b (slT 6 mvB ([])), vI .i64 (0), vI .i64 (0), vI .i64 (0)], true⟩), (20, ⟨11, [vI .i64 (e0.au), vI .i64 (e0.sq), vI .i64 (e0.st), .b (slK .i64 (e0.seen)), vI .i64 (e0.kind), .b (.lit (.string (e0.text))), .b (slT 1 stB (e0.names)), .b (slT 6 mvB (e0.moves)), vI .i64 (e0.oa), vI .i64 (e0.os), vI .i64 (e0.pk)], true⟩)] rfl (d17 dec_fm1 (decQ_a (by rw [dec_fm1]; decide))) rfl <| Vs (Mv rfl) <| Vs (Xt rfl) <| Vs (Xt rfl) <| Vs (Al 32 TZ38 rfl) <| Vs (StS TS38 rfl) <| Vs (As rfl) <| Nx <| Sq <| Rg <| Vs (Mv rfl) <| Vs (Kt (show bytesOf fm ++ (⟨#[0]⟩ : ByteArray) = bytesOf (fm ++ [0]) from bytesOf_app (A := fm) (B := [0])) (Bo (c := .string (bytesOf fm ++ (⟨#[0]⟩ : ByteArray))) rfl (bop_str_add (by rw [bytesOf_size]; decide)))) <| Gm 37 [] [] (v := .b (.tup [.agg [numB .i64 (edt0.au), numB .i64 (edt0.sq), numB .i64 (edt0.st), slK .i64 (edt0.seen), numB .i64 (edt0.kind), .lit (.string (edt0.text)), slT 1 stB (edt0.names), slT 6 mvB (edt0.moves), numB .i64 (edt0.oa), numB .i64 (edt0.os), numB .i64 (edt0.pk)], numB .i64 (3)])) [(2, ⟨2, [vI .u64 (506097522914230528), vI .u64 (1084818905618843912)], true⟩), (6, ⟨11, [vI .i64 (2), vI .i64 (1), vI .i64 (300), .b (slK .i64 ([3, 0])), vI .i64 (2), .b (.lit (.string ((⟨#[65]⟩ : ByteArray)))), .b (slT 1 stB ([])), .b (slT 6 mvB ([])), vI .i64 (0), vI .i64 (0), vI .i64 (0)], true⟩), (20, ⟨11, [vI .i64 (e0.au), vI .i64 (e0.sq), vI .i64 (e0.st), .b (slK .i64 (e0.seen)), vI .i64 (e0.kind), .b (.lit (.string (e0.text))), .b (slT 1 stB (e0.names)), .b (slT 6 mvB (e0.moves)), vI .i64 (e0.oa), vI .i64 (e0.os), vI .i64 (e0.pk)], true⟩), (32, ⟨11, [vI .i64 (edt0.au), vI .i64 (edt0.sq), vI .i64 (edt0.st), .b (slK .i64 (edt0.seen)), vI .i64 (edt0.kind), .b (.lit (.string (edt0.text))), .b (slT 1 stB (edt0.names)), .b (slT 6 mvB (edt0.moves)), vI .i64 (edt0.oa), vI .i64 (edt0.os), vI .i64 (edt0.pk)], true⟩)] rfl (d17 dec_fm2 (decQ_a (by rw [dec_fm2]; decide))) rfl <| Vs (Mv rfl) <| Vs (Xt rfl) <| Vs (Xt rfl) <| Vs (Al 41 TZ38 rfl) <| Vs (StS TS38 rfl) <| Vs (As rfl) <| Nx <| Sq <| Rg <| Gm 44 [] [] (v := .b (.tup [.agg [numB .i64 (edt0.au), numB .i64 (edt0.sq), numB .i64 (edt0.st), slK .i64 (edt0.seen), numB .i64 (edt0.kind), .lit (.string (edt0.text)), slT 1 stB (edt0.names), slT 6 mvB (edt0.moves), numB .i64 (edt0.oa), numB .i64 (edt0.os), numB .i64 (edt0.pk)], numB .i64 (3)])) [(2, ⟨2, [vI .u64 (506097522914230528), vI .u64 (1084818905618843912)], true⟩), (6, ⟨11, [vI .i64 (2), vI .i64 (1), vI .i64 (300), .b (slK .i64 ([3, 0])), vI .i64 (2), .b (.lit (.string ((⟨#[65]⟩ : ByteArray)))), .b (slT 1 stB ([])), .b (slT 6 mvB ([])), vI .i64 (0), vI .i64 (0), vI .i64 (0)], true⟩), (20, ⟨11, [vI .i64 (e0.au), vI .i64 (e0.sq), vI .i64 (e0.st), .b (slK .i64 (e0.seen)), vI .i64 (e0.kind), .b (.lit (.string (e0.text))), .b (slT 1 stB (e0.names)), .b (slT 6 mvB (e0.moves)), vI .i64 (e0.oa), vI .i64 (e0.os), vI .i64 (e0.pk)], true⟩), (32, ⟨11, [vI .i64 (edt0.au), vI .i64 (edt0.sq), vI .i64 (edt0.st), .b (slK .i64 (edt0.seen)), vI .i64 (edt0.kind), .b (.lit (.string (edt0.text))), .b (slT 1 stB (edt0.names)), .b (slT 6 mvB (edt0.moves)), vI .i64 (edt0.oa), vI .i64 (edt0.os), vI .i64 (edt0.pk)], true⟩), (41, ⟨11, [vI .i64 (edt0.au), vI .i64 (edt0.sq), vI .i64 (edt0.st), .b (slK .i64 (edt0.seen)), vI .i64 (edt0.kind), .b (.lit (.string (edt0.text))), .b (slT 1 stB (edt0.names)), .b (slT 6 mvB (edt0.moves)), vI .i64 (edt0.oa), vI .i64 (edt0.os), vI .i64 (edt0.pk)], true⟩)] rfl (d17 (s := [2, 1, 172, 130, 0]) dec_fm3 (decQ_a (by rw [dec_fm3]; decide))) rfl <| Vs (Mv rfl) <| ?_
    refine Vs (Xt rfl) <| Vs (Xt rfl) <| Vs (Al 48 TZ38 rfl) <| Vs (StS TS38 rfl) <| Vs (As rfl) <| Nx <| Sq <| Rg <| Vs (C0 rfl rfl (m13s)) <| Vs (Mv rfl) <| Vs (Xt rfl) <| Vs (Xt rfl) <| Vs (Al 55 TZ25 rfl) <| Vs (StS TS25 rfl) <| Vs (As rfl) <| Nx <| Sq <| Rg <| Vs (LdS TA38 TS38 rfl) <| Vs (C0 rfl rfl (m18s)) <| Vs (Mv rfl) <| Vs (Xt rfl) <| Vs (Xt rfl) <| Vs (As rfl) <| Vs (As rfl) <| Nx <| Sq <| Rg <| Vs (Mv rfl) <| Gm 66 [] [] (v := .b (.tup [.agg [numB .i64 (e0.au), numB .i64 (e0.sq), numB .i64 (e0.st), slK .i64 (e0.seen), numB .i64 (e0.kind), .lit (.string (e0.text)), slT 1 stB (e0.names), slT 6 mvB (e0.moves), numB .i64 (e0.oa), numB .i64 (e0.os), numB .i64 (e0.pk)], numB .i64 (0)])) [(2, ⟨2, [vI .u64 (506097522914230528), vI .u64 (1084818905618843912)], true⟩), (6, ⟨11, [vI .i64 (2), vI .i64 (1), vI .i64 (300), .b (slK .i64 ([3, 0])), vI .i64 (2), .b (.lit (.string ((⟨#[65]⟩ : ByteArray)))), .b (slT 1 stB ([])), .b (slT 6 mvB ([])), vI .i64 (0), vI .i64 (0), vI .i64 (0)], true⟩), (20, ⟨11, [vI .i64 (e0.au), vI .i64 (e0.sq), vI .i64 (e0.st), .b (slK .i64 (e0.seen)), vI .i64 (e0.kind), .b (.lit (.string (e0.text))), .b (slT 1 stB (e0.names)), .b (slT 6 mvB (e0.moves)), vI .i64 (e0.oa), vI .i64 (e0.os), vI .i64 (e0.pk)], true⟩), (32, ⟨11, [vI .i64 (edt0.au), vI .i64 (edt0.sq), vI .i64 (edt0.st), .b (slK .i64 (edt0.seen)), vI .i64 (edt0.kind), .b (.lit (.string (edt0.text))), .b (slT 1 stB (edt0.names)), .b (slT 6 mvB (edt0.moves)), vI .i64 (edt0.oa), vI .i64 (edt0.os), vI .i64 (edt0.pk)], true⟩), (41, ⟨11, [vI .i64 (edt0.au), vI .i64 (edt0.sq), vI .i64 (edt0.st), .b (slK .i64 (edt0.seen)), vI .i64 (edt0.kind), .b (.lit (.string (edt0.text))), .b (slT 1 stB (edt0.names)), .b (slT 6 mvB (edt0.moves)), vI .i64 (edt0.oa), vI .i64 (edt0.os), vI .i64 (edt0.pk)], true⟩), (48, ⟨11, [vI .i64 (edt0.au), vI .i64 (edt0.sq), vI .i64 (edt0.st), .b (slK .i64 (edt0.seen)), vI .i64 (edt0.kind), .b (.lit (.string (edt0.text))), .b (slT 1 stB (edt0.names)), .b (slT 6 mvB (edt0.moves)), vI .i64 (edt0.oa), vI .i64 (edt0.os), vI .i64 (edt0.pk)], true⟩), (55, ⟨2, [vI .u64 (wv (k0Q 13)), vI .u64 (wv (k1Q 13))], true⟩)] rfl (d19 (seal_by e0) (by rw [body_seal.2.2, form_e0]; decide) (opn_seal (by rw [form_e0]; exact dec_fm) (by rw [form_e0]; exact decQ_fm)).1 (opn_seal (by rw [form_e0]; exact dec_fm) (by rw [form_e0]; exact decQ_fm)).2) rfl <| Vs (Mv rfl) <| Vs (Xt rfl) <| Vs (Xt rfl) <| Vs (Al 70 TZ38 rfl) <| Vs (StS TS38 rfl) <| Vs (As rfl) <| Nx <| Sq <| Rd (by kernel_rfl) <| Vl (LdS TA25 TS25 rfl) <| Vl (Cf rfl rfl (m10 (k0 := m0) (k1 := m1) (b := []) (fun x hx => (by cases hx)) (by decide)) rfl) <| Vl (Kb (show (wv (hashQ m0 m1 ([])) == 8246050544436514353) = true from hash0) (Bi rfl)) <| Vl (Mv rfl) <| Vl (LdS TA25 TS25 rfl) <| Vl (Mv rfl) <| Vl (Ct TK23 rfl) <| Vl (Cf rfl rfl (m10 (k0 := m0) (k1 := m1) (b := R.take 1) (by rw [hR]; exact (bq_by 15).take 1) (by rw [List.length_take]; omega)) rfl) <| Vl (Kb (show (wv (hashQ m0 m1 (R.take 1)) == 8428550223375919101) = true from by rw [hR]; exact hash1) (Bi rfl)) <| Vl (Pk rfl) <| Vl (Mv rfl) <| Vl (LdS TA25 TS25 rfl) <| Vl (Mv rfl) <| Vl (Cf rfl rfl (m10 (k0 := m0) (k1 := m1) (b := R) (by rw [hR]; exact bq_by 15) (by rw [hR]; decide)) rfl) <| Vl (Kb (show (wv (hashQ m0 m1 (R)) == 11613035633349379557) = true from by rw [hR]; exact hash15) (Bi rfl)) <| Vl (Pk rfl) <| Vl (As rfl) <| ?_
    refine VLog.nil ⟨by kernel_rfl, ?_⟩
    exact Tg <| Sq <| Rg <| Vs (Mv rfl) <| Vs (Bi (c := .bool true) rfl) <| Vs (Mv rfl) <| Vs (Mv rfl) <| Vs (Mv rfl) <| Vs (Bo (c := .bool true) rfl (bop_str_refl _)) <| Vs (Pk rfl) <| Vs (Mv rfl) <| Vs (Mv rfl) <| Vs (Bi (c := .bool true) rfl) <| Vs (Pk rfl) <| Vs (Mv rfl) <| Vs (LdS TA38 TS38 rfl) <| Vs (LdS TA38 TS38 rfl) <| Vs (Kb (show (sameQ e0 e0) = true from sameQ_t rfl) (Cf rfl rfl (m20 e0 e0 (e0_ok)) rfl)) <| Vs (Pk rfl) <| Vs (Mv rfl) <| Vs (Mv rfl) <| Vs (Bi (c := .bool true) rfl) <| Vs (Pk rfl) <| Vs (Mv rfl) <| Vs (Mv rfl) <| Vs (Bi (c := .bool true) rfl) <| Vs (Pk rfl) <| Vs (Mv rfl) <| Vs (Mv rfl) <| Vs (Bi (c := .bool true) rfl) <| Vs (Pk rfl) <| Vs (Mv rfl) <| Vs (Mv rfl) <| Vs (Bi (c := .bool true) rfl) <| Vs (Pk rfl) <| Vs (As rfl) <| Nx <| Sq <| Rg <| Vs (Mv rfl) <| Vs (Mv rfl) <| Vs (Mv rfl) <| Vs (Pk rfl) <| Vs (Mv rfl) <| Vs (Mv rfl) <| Vs (Bi (c := .bool true) rfl) <| Vs (Pk rfl) <| Vs (Mv rfl) <| Vs (Mv rfl) <| Vs (Lt TU9 rfl) <| Vs (Mv rfl) <| Vs (Lt TU9 rfl) <| Vs (Bo rfl (adI (h := (by rw [bytesOf_size]; decide)))) <| Vs (Kb (show (((bytesOf (sealE e0)).size : Int) == (((bytesOf fm).size : Int) + 8)) = true from by rw [bytesOf_size, bytesOf_size, body_seal.2.2, form_e0]; rfl) (Bi rfl)) <| Vs (Pk rfl) <| Vs (Mv rfl) <| Vs (Mv rfl) <| Vs (Bi (c := .bool true) rfl) <| Vs (Pk rfl) <| Vs (Mv rfl) <| Vs (LdS TA38 TS38 rfl) <| Vs (LdS TA38 TS38 rfl) <| Vs (Kb (show (sameQ e0 e0) = true from sameQ_t rfl) (Cf rfl rfl (m20 e0 e0 (e0_ok)) rfl)) <| Vs (Pk rfl) <| Vs (As rfl) <| Nx <| Re <| Fi (l := [boolB (true)]) (Rc (resVar_tmp rfl rfl) Rn) rfl
end Go.VL
