/- A small program logic over the translated Go code, plain laws, and walks over the functions: several texts in one. No condition. -/
import Derived.Test.YtnabpemjcidhdaaGreatK1
/- A small program logic over the translated Go code, further part: its steps in a short form. -/
set_option linter.unusedVariables false
set_option linter.unusedSimpArgs false
namespace Go.VL
open Go.RowKit

/-- Arithmetic, in short. -/
theorem adI {x y : Int} (h : -9223372036854775808 ≤ x + y ∧ x + y ≤ 9223372036854775807 := by first | omega | (simp; done) | (simp; omega)) : bop .add (.int .i64 x) (.int .i64 y) = some (.int .i64 (x + y)) := bop_add_i64 h
theorem suI {x y : Int} (h : -9223372036854775808 ≤ x - y ∧ x - y ≤ 9223372036854775807 := by first | omega | (simp; done) | (simp; omega)) : bop .sub (.int .i64 x) (.int .i64 y) = some (.int .i64 (x - y)) := bop_sub_i64 h
theorem muI {x y : Int} (h : -9223372036854775808 ≤ x * y ∧ x * y ≤ 9223372036854775807 := by first | omega | (simp; done) | (simp; omega)) : bop .mul (.int .i64 x) (.int .i64 y) = some (.int .i64 (x * y)) := bop_mul_i64 h
theorem quI {x y : Int} (h0 : 0 ≤ x := by first | omega | (simp; done) | (simp; omega)) (h1 : 0 < y := by first | omega | (simp; done) | (simp; omega)) (h2 : x ≤ 9223372036854775807 := by first | omega | (simp; done) | (simp; omega)) : bop .quo (.int .i64 x) (.int .i64 y) = some (.int .i64 (x / y)) := bop_quo_i64 h0 h1 h2
theorem reI {x y : Int} (h0 : 0 ≤ x := by first | omega | (simp; done) | (simp; omega)) (h1 : 0 < y := by first | omega | (simp; done) | (simp; omega)) : bop .rem (.int .i64 x) (.int .i64 y) = some (.int .i64 (x % y)) := bop_rem_i64 h0 h1
theorem shI {x y : Int} {k' : IntKind} (h0 : 0 ≤ y := by first | omega | (simp; done) | (simp; omega)) (h1 : y ≤ 64 := by first | omega | (simp; done) | (simp; omega)) : bop .shr (.int .i64 x) (.int k' y) = some (.int .i64 (x / 2 ^ y.toNat)) := bop_shr_i64 h0 h1
theorem srI (q : Int) {x y : Int} {k' : IntKind} (h0 : 0 ≤ y := by decide) (h1 : y ≤ 64 := by decide) (hq : (2 : Int) ^ y.toNat = q := by decide) : bop .shr (.int .i64 x) (.int k' y) = some (.int .i64 (x / q)) := by subst hq; exact bop_shr_i64 h0 h1
theorem nvI {x : Int} (h : -9223372036854775808 ≤ (0 - x) ∧ (0 - x) ≤ 9223372036854775807 := by first | omega | (simp; done) | (simp; omega)) : uop .neg (.int .i64 x) = some (.int .i64 (-x)) := uop_neg_i64 h
theorem wrI {x : Int} (h : -9223372036854775808 ≤ x ∧ x ≤ 9223372036854775807 := by first | omega | (simp; done) | (simp; omega)) : IntKind.wrap .i64 x = x := wrap_i64 h
theorem adW {x y : Int} (h : 0 ≤ x + y ∧ x + y < 18446744073709551616 := by first | omega | (simp; done) | (simp; omega)) : bop .add (.int .u64 x) (.int .u64 y) = some (.int .u64 (x + y)) := bop_add_u64 h
theorem suW {x y : Int} (h : 0 ≤ x - y ∧ x - y < 18446744073709551616 := by first | omega | (simp; done) | (simp; omega)) : bop .sub (.int .u64 x) (.int .u64 y) = some (.int .u64 (x - y)) := bop_sub_u64 h
theorem muW {x y : Int} (h : 0 ≤ x * y ∧ x * y < 18446744073709551616 := by first | omega | (simp; done) | (simp; omega)) : bop .mul (.int .u64 x) (.int .u64 y) = some (.int .u64 (x * y)) := bop_mul_u64 h
theorem quW {x y : Int} (h0 : 0 ≤ x := by first | omega | (simp; done) | (simp; omega)) (h1 : 0 < y := by first | omega | (simp; done) | (simp; omega)) (h2 : x < 18446744073709551616 := by first | omega | (simp; done) | (simp; omega)) : bop .quo (.int .u64 x) (.int .u64 y) = some (.int .u64 (x / y)) := bop_quo_u64 h0 h1 h2
theorem reW {x y : Int} (h0 : 0 ≤ x := by first | omega | (simp; done) | (simp; omega)) (h1 : 0 < y := by first | omega | (simp; done) | (simp; omega)) : bop .rem (.int .u64 x) (.int .u64 y) = some (.int .u64 (x % y)) := bop_rem_u64 h0 h1
theorem shW {x y : Int} {k' : IntKind} (h0 : 0 ≤ y := by first | omega | (simp; done) | (simp; omega)) (h1 : y ≤ 64 := by first | omega | (simp; done) | (simp; omega)) : bop .shr (.int .u64 x) (.int k' y) = some (.int .u64 (x / 2 ^ y.toNat)) := bop_shr_u64 h0 h1
theorem srW (q : Int) {x y : Int} {k' : IntKind} (h0 : 0 ≤ y := by decide) (h1 : y ≤ 64 := by decide) (hq : (2 : Int) ^ y.toNat = q := by decide) : bop .shr (.int .u64 x) (.int k' y) = some (.int .u64 (x / q)) := by subst hq; exact bop_shr_u64 h0 h1
theorem nvW {x : Int} (h : 0 ≤ (0 - x) ∧ (0 - x) < 18446744073709551616 := by first | omega | (simp; done) | (simp; omega)) : uop .neg (.int .u64 x) = some (.int .u64 (-x)) := uop_neg_u64 h
theorem wrW {x : Int} (h : 0 ≤ x ∧ x < 18446744073709551616 := by first | omega | (simp; done) | (simp; omega)) : IntKind.wrap .u64 x = x := wrap_u64 h
theorem adD {x y : Int} (h : 0 ≤ x + y ∧ x + y < 4294967296 := by first | omega | (simp; done) | (simp; omega)) : bop .add (.int .u32 x) (.int .u32 y) = some (.int .u32 (x + y)) := bop_add_u32 h
theorem suD {x y : Int} (h : 0 ≤ x - y ∧ x - y < 4294967296 := by first | omega | (simp; done) | (simp; omega)) : bop .sub (.int .u32 x) (.int .u32 y) = some (.int .u32 (x - y)) := bop_sub_u32 h
theorem muD {x y : Int} (h : 0 ≤ x * y ∧ x * y < 4294967296 := by first | omega | (simp; done) | (simp; omega)) : bop .mul (.int .u32 x) (.int .u32 y) = some (.int .u32 (x * y)) := bop_mul_u32 h
theorem quD {x y : Int} (h0 : 0 ≤ x := by first | omega | (simp; done) | (simp; omega)) (h1 : 0 < y := by first | omega | (simp; done) | (simp; omega)) (h2 : x < 4294967296 := by first | omega | (simp; done) | (simp; omega)) : bop .quo (.int .u32 x) (.int .u32 y) = some (.int .u32 (x / y)) := bop_quo_u32 h0 h1 h2
theorem reD {x y : Int} (h0 : 0 ≤ x := by first | omega | (simp; done) | (simp; omega)) (h1 : 0 < y := by first | omega | (simp; done) | (simp; omega)) : bop .rem (.int .u32 x) (.int .u32 y) = some (.int .u32 (x % y)) := bop_rem_u32 h0 h1
theorem shD {x y : Int} {k' : IntKind} (h0 : 0 ≤ y := by first | omega | (simp; done) | (simp; omega)) (h1 : y ≤ 32 := by first | omega | (simp; done) | (simp; omega)) : bop .shr (.int .u32 x) (.int k' y) = some (.int .u32 (x / 2 ^ y.toNat)) := bop_shr_u32 h0 h1
theorem srD (q : Int) {x y : Int} {k' : IntKind} (h0 : 0 ≤ y := by decide) (h1 : y ≤ 32 := by decide) (hq : (2 : Int) ^ y.toNat = q := by decide) : bop .shr (.int .u32 x) (.int k' y) = some (.int .u32 (x / q)) := by subst hq; exact bop_shr_u32 h0 h1
theorem nvD {x : Int} (h : 0 ≤ (0 - x) ∧ (0 - x) < 4294967296 := by first | omega | (simp; done) | (simp; omega)) : uop .neg (.int .u32 x) = some (.int .u32 (-x)) := uop_neg_u32 h
theorem wrD {x : Int} (h : 0 ≤ x ∧ x < 4294967296 := by first | omega | (simp; done) | (simp; omega)) : IntKind.wrap .u32 x = x := wrap_u32 h
theorem adB {x y : Int} (h : 0 ≤ x + y ∧ x + y < 256 := by first | omega | (simp; done) | (simp; omega)) : bop .add (.int .u8 x) (.int .u8 y) = some (.int .u8 (x + y)) := bop_add_u8 h
theorem suB {x y : Int} (h : 0 ≤ x - y ∧ x - y < 256 := by first | omega | (simp; done) | (simp; omega)) : bop .sub (.int .u8 x) (.int .u8 y) = some (.int .u8 (x - y)) := bop_sub_u8 h
theorem muB {x y : Int} (h : 0 ≤ x * y ∧ x * y < 256 := by first | omega | (simp; done) | (simp; omega)) : bop .mul (.int .u8 x) (.int .u8 y) = some (.int .u8 (x * y)) := bop_mul_u8 h
theorem quB {x y : Int} (h0 : 0 ≤ x := by first | omega | (simp; done) | (simp; omega)) (h1 : 0 < y := by first | omega | (simp; done) | (simp; omega)) (h2 : x < 256 := by first | omega | (simp; done) | (simp; omega)) : bop .quo (.int .u8 x) (.int .u8 y) = some (.int .u8 (x / y)) := bop_quo_u8 h0 h1 h2
theorem reB {x y : Int} (h0 : 0 ≤ x := by first | omega | (simp; done) | (simp; omega)) (h1 : 0 < y := by first | omega | (simp; done) | (simp; omega)) : bop .rem (.int .u8 x) (.int .u8 y) = some (.int .u8 (x % y)) := bop_rem_u8 h0 h1
theorem shB {x y : Int} {k' : IntKind} (h0 : 0 ≤ y := by first | omega | (simp; done) | (simp; omega)) (h1 : y ≤ 8 := by first | omega | (simp; done) | (simp; omega)) : bop .shr (.int .u8 x) (.int k' y) = some (.int .u8 (x / 2 ^ y.toNat)) := bop_shr_u8 h0 h1
theorem srB (q : Int) {x y : Int} {k' : IntKind} (h0 : 0 ≤ y := by decide) (h1 : y ≤ 8 := by decide) (hq : (2 : Int) ^ y.toNat = q := by decide) : bop .shr (.int .u8 x) (.int k' y) = some (.int .u8 (x / q)) := by subst hq; exact bop_shr_u8 h0 h1
theorem nvB {x : Int} (h : 0 ≤ (0 - x) ∧ (0 - x) < 256 := by first | omega | (simp; done) | (simp; omega)) : uop .neg (.int .u8 x) = some (.int .u8 (-x)) := uop_neg_u8 h
theorem wrB {x : Int} (h : 0 ≤ x ∧ x < 256 := by first | omega | (simp; done) | (simp; omega)) : IntKind.wrap .u8 x = x := wrap_u8 h
theorem apw {a : Nat} (h : 0 + a ≤ 1000000000000) : a * 4 ≤ 140737488355328 ∧ a ≤ maxLen := by simp only [maxLen]; omega
/-- One operation that is carried out. -/
def Stp (P : Program) (ops : Array Oper) (o : Oper) (n : Nat) (s : Slots) (E : Env) (n' : Nat) (s' : Slots) (E' : Env) (ids : List Nat) : Prop :=
  runs ops s o.guard = some true ∧ ∃ v us, Eff P n s E o.op v us ∧ us.map (·.1) = ids ∧ n' = n + 1 ∧ s' = putv s o.dst (some (v.getD undefV)) ∧ E' = upds E us

section
variable {P : Program} {ops : Array Oper} {o : Oper} {r : List Oper} {n n' id : Nat} {s s' : Slots} {E E' : Env} {Q : Nat → Slots → Env → Prop} {d i : Nat} {v w u : V} {ids : List Nat}
variable {log : List (List Nat × List Nat)} {R : List (List Nat × List Nat) → Nat → Slots → Env → Prop}
theorem Vs (h : Stp P ops o n s E n' s' E' ids) (k : VList P ops r n' s' E' Q) : VList P ops (o :: r) n s E Q := by
  obtain ⟨h1, v, us, h2, h3, rfl, rfl, rfl⟩ := h
  exact .inl ⟨h1, v, us, h2, k⟩
theorem Vl (h : Stp P ops o n s E n' s' E' ids) (k : VLog P ops r n' s' E' (log ++ [(looks s o.op, ids)]) R) : VLog P ops (o :: r) n s E log R := by
  obtain ⟨h1, v, us, h2, rfl, rfl, rfl, rfl⟩ := h
  exact .inl ⟨h1, v, us, h2, k⟩
theorem Sk (h : (runs ops s o.guard, o.dst) = (some false, some d)) (k : VList P ops r (n + 1) (setAt s d (some undefV)) E Q) : VList P ops (o :: r) n s E Q := by
  injection h with h1 hd
  exact VList.skip h1 hd rfl k
theorem Lk (h : (runs ops s o.guard, o.dst) = (some false, some d)) (k : VLog P ops r (n + 1) (setAt s d (some undefV)) E (log ++ [([], [])]) R) : VLog P ops (o :: r) n s E log R := by
  injection h with h1 hd
  exact VLog.skip h1 hd rfl k
theorem st0 (a : runs ops s o.guard = some true) (b : o.dst = some d) (c : Eff P n s E o.op (some v) []) : Stp P ops o n s E (n + 1) (setAt s d (some v)) E [] :=
  ⟨a, _, _, c, rfl, rfl, by rw [b]; rfl, rfl⟩
theorem st1 {e : Option Ent} (a : runs ops s o.guard = some true) (b : o.dst = some d) (c : Eff P n s E o.op (some v) [(i, e)]) : Stp P ops o n s E (n + 1) (setAt s d (some v)) (setAt E i e) [i] :=
  ⟨a, _, _, c, rfl, rfl, by rw [b]; rfl, rfl⟩
theorem st2 {j : Nat} {e e' : Option Ent} (a : runs ops s o.guard = some true) (b : o.dst = some d) (c : Eff P n s E o.op (some v) [(i, e), (j, e')]) : Stp P ops o n s E (n + 1) (setAt s d (some v)) (setAt (setAt E i e) j e') [i, j] :=
  ⟨a, _, _, c, rfl, rfl, by rw [b]; rfl, rfl⟩
theorem stN {us : List (Nat × Option Ent)} (a : runs ops s o.guard = some true) (b : o.dst = some d) (c : Eff P n s E o.op (some v) us) : Stp P ops o n s E (n + 1) (setAt s d (some v)) (upds E us) (us.map (·.1)) :=
  ⟨a, _, _, c, rfl, rfl, by rw [b]; rfl, rfl⟩
theorem stS {e : Option Ent} (a : runs ops s o.guard = some true) (b : o.dst = none) (c : Eff P n s E o.op none [(i, e)]) : Stp P ops o n s E (n + 1) s (setAt E i e) [i] :=
  ⟨a, _, _, c, rfl, rfl, by rw [b]; rfl, rfl⟩

variable {x y z p ix : Operand} {T T' T2 el m off k fo sz : Nat} {ik ik' : IntKind} {t : Bool} {e : Ent} {a b c : Value} {l cs : List V} {L D : List Int} {j q : Int} {A B' : List Int}
theorem Mv (h : (runs ops s o.guard, o.dst, o.op, ev s x) = (some true, some d, .move x, some v)) : Stp P ops o n s E (n + 1) (setAt s d (some v)) E [] := by
  simp only [Prod.mk.injEq] at h; exact st0 h.1 h.2.1 (h.2.2.1 ▸ .move _ _ h.2.2.2)
theorem As (h : (runs ops s o.guard, o.dst, o.op, ev s x) = (some true, some d, .assign x, some v)) : Stp P ops o n s E (n + 1) (setAt s d (some v)) E [] := by
  simp only [Prod.mk.injEq] at h; exact st0 h.1 h.2.1 (h.2.2.1 ▸ .assign _ _ h.2.2.2)
theorem An (h : (runs ops s o.guard, o.dst, o.op) = (some true, some d, .assign (.const (.slice none 0 0)))) : Stp P ops o n s E (n + 1) (setAt s d (some (.b .nil))) E [] := by
  simp only [Prod.mk.injEq] at h; exact st0 h.1 h.2.1 (h.2.2 ▸ .assignNil)
theorem Pk {c a b : Operand} (h : (runs ops s o.guard, o.dst, o.op, ev s c, ev s (if t then a else b)) = (some true, some d, .pick c a b, some (vB t), some v)) : Stp P ops o n s E (n + 1) (setAt s d (some v)) E [] := by
  simp only [Prod.mk.injEq] at h; exact st0 h.1 h.2.1 (h.2.2.1 ▸ .pick _ _ _ _ _ h.2.2.2.1 h.2.2.2.2)
theorem Al (q : Nat) {c : B} {l : List B} (hz : zeroOf P T = some (c :: l)) (h : (runs ops s o.guard, o.dst, o.op, n) = (some true, some d, .alloc T, q)) : Stp P ops o n s E (q + 1) (setAt s d (some (.ptr q 0))) (setAt E q (some ⟨(c :: l).length, (c :: l).map .b, true⟩)) [q] := by
  simp only [Prod.mk.injEq] at h; obtain ⟨h1, h2, h3, rfl⟩ := h; exact st1 h1 h2 (h3 ▸ .alloc _ _ hz (List.cons_ne_nil _ _))
theorem Bx (q : Nat) {c : V} (h : (runs ops s o.guard, o.dst, o.op, ev s x, n, v.cells, v.noTup) = (some true, some d, .box T x, some v, q, c :: cs, true)) : Stp P ops o n s E (q + 1) (setAt s d (some (.ptr q 0))) (setAt E q (some ⟨(c :: cs).length, c :: cs, true⟩)) [q] := by
  simp only [Prod.mk.injEq] at h; obtain ⟨h1, h2, h3, h4, rfl, h5, h6⟩ := h
  have := Eff.box (P := P) (id := n) (E := E) T x v h4 (by rw [h5]; exact List.cons_ne_nil _ _) h6
  rw [h5] at this
  exact st1 h1 h2 (h3 ▸ this)
theorem Ld (ha : aggOf P T = some false) (h : (runs ops s o.guard, o.dst, o.op, ev s p, E i, e.cells[off]?) = (some true, some d, .load T p, some (.ptr i off), some e, some v)) : Stp P ops o n s E (n + 1) (setAt s d (some v)) E [] := by
  simp only [Prod.mk.injEq] at h; exact st0 h.1 h.2.1 (h.2.2.1 ▸ .load1 _ _ _ _ _ _ h.2.2.2.1 h.2.2.2.2.1 ha h.2.2.2.2.2)
theorem LdS (ha : aggOf P T = some true) (hs : szOf P T = some m) (h : (runs ops s o.guard, o.dst, o.op, ev s p, E i, Nat.ble (off + m) e.cells.length, (e.cells.drop off).take m) = (some true, some d, .load T p, some (.ptr i off), some e, true, l)) : Stp P ops o n s E (n + 1) (setAt s d (some (.agg l))) E [] := by
  simp only [Prod.mk.injEq] at h; obtain ⟨h1, h2, h3, h4, h5, h6, rfl⟩ := h; exact st0 h1 h2 (h3 ▸ .loadS _ _ _ _ _ _ h4 h5 ha hs (Nat.le_of_ble_eq_true h6))
theorem Lq {l : List B} {x : B} (ha : aggOf P T = some false) (h : (runs ops s o.guard, o.dst, o.op, ev s p, l[0]?) = (some true, some d, .load T p, some (.rd l), some x)) : Stp P ops o n s E (n + 1) (setAt s d (some (.b x))) E [] := by
  simp only [Prod.mk.injEq] at h; exact st0 h.1 h.2.1 (h.2.2.1 ▸ .loadRd1 _ _ _ _ h.2.2.2.1 ha h.2.2.2.2)
theorem LqS {l l' : List B} (ha : aggOf P T = some true) (hs : szOf P T = some m) (h : (runs ops s o.guard, o.dst, o.op, ev s p, Nat.ble m l.length, l.take m) = (some true, some d, .load T p, some (.rd l), true, l')) : Stp P ops o n s E (n + 1) (setAt s d (some (.b (.agg l')))) E [] := by
  simp only [Prod.mk.injEq] at h; obtain ⟨h1, h2, h3, h4, h5, rfl⟩ := h; exact st0 h1 h2 (h3 ▸ .loadRdS _ _ _ _ h4 ha hs (Nat.le_of_ble_eq_true h5))
theorem Lr (ha : aggOf P T = some false) (h : (runs ops s o.guard, o.dst, o.op, ev s p, E i) = (some true, some d, .load T p, some (.ptr i off), some (row L))) (h1 : off < L.length := by first | omega | (simp; done) | (simp; omega)) : Stp P ops o n s E (n + 1) (setAt s d (some (vI .u32 (L.getD off 0)))) E [] := by
  simp only [Prod.mk.injEq] at h; exact st0 h.1 h.2.1 (h.2.2.1 ▸ Eff.load32 h.2.2.2.1 h.2.2.2.2 ha h1)
theorem LrK (ha : aggOf P T = some false) (h : (runs ops s o.guard, o.dst, o.op, ev s p, E i) = (some true, some d, .load T p, some (.ptr i off), some (rowK ik L))) (h1 : off < L.length := by first | omega | (simp; done) | (simp; omega)) : Stp P ops o n s E (n + 1) (setAt s d (some (vI ik (L.getD off 0)))) E [] := by
  simp only [Prod.mk.injEq] at h; exact st0 h.1 h.2.1 (h.2.2.1 ▸ Eff.loadK h.2.2.2.1 h.2.2.2.2 ha h1)
theorem St (hn : szOf P T = some 1) (h : (runs ops s o.guard, o.dst, o.op, ev s p, E i, e.hot, ev s x, v.cells, Nat.ble (off + 1) e.cells.length, v.noTup) = (some true, none, .store T p x, some (.ptr i off), some e, true, some v, [v], true, true)) :
    Stp P ops o n s E (n + 1) s (setAt E i (some { e with cells := e.cells.set off v })) [i] := by
  simp only [Prod.mk.injEq] at h; obtain ⟨h1, h2, h3, h4, h5, h6, h7, h8, h9, h10⟩ := h; exact stS h1 h2 (h3 ▸ .store1 _ _ _ _ _ _ _ h4 h5 h6 h7 h8 hn (Nat.le_of_ble_eq_true h9) h10)
theorem StS (hn : szOf P T = some m) (h : (runs ops s o.guard, o.dst, o.op, ev s p, E i, e.hot, ev s x, v.cells.length, Nat.ble (off + m) e.cells.length, v.noTup, e.cells.take off ++ (v.cells ++ e.cells.drop (off + m))) = (some true, none, .store T p x, some (.ptr i off), some e, true, some v, m, true, true, l)) :
    Stp P ops o n s E (n + 1) s (setAt E i (some { e with cells := l })) [i] := by
  simp only [Prod.mk.injEq] at h; obtain ⟨h1, h2, h3, h4, h5, h6, h7, rfl, h9, h10, rfl⟩ := h; exact stS h1 h2 (h3 ▸ .store _ _ _ _ _ _ _ h4 h5 h6 h7 hn (Nat.le_of_ble_eq_true h9) h10)
theorem Sr (hn : szOf P T = some 1) (h : (runs ops s o.guard, o.dst, o.op, ev s p, E i, ev s x) = (some true, none, .store T p x, some (.ptr i off), some (row L), some (vI .u32 j))) (h1 : off < L.length := by first | omega | (simp; done) | (simp; omega)) :
    Stp P ops o n s E (n + 1) s (setAt E i (some (row (L.set off j)))) [i] := by
  simp only [Prod.mk.injEq] at h; exact stS h.1 h.2.1 (h.2.2.1 ▸ Eff.store32 h.2.2.2.1 h.2.2.2.2.1 h.2.2.2.2.2 hn h1)
theorem SrK (hn : szOf P T = some 1) (h : (runs ops s o.guard, o.dst, o.op, ev s p, E i, ev s x) = (some true, none, .store T p x, some (.ptr i off), some (rowK ik L), some (vI ik j))) (h1 : off < L.length := by first | omega | (simp; done) | (simp; omega)) :
    Stp P ops o n s E (n + 1) s (setAt E i (some (rowK ik (L.set off j)))) [i] := by
  simp only [Prod.mk.injEq] at h; exact stS h.1 h.2.1 (h.2.2.1 ▸ Eff.storeK h.2.2.2.1 h.2.2.2.2.1 h.2.2.2.2.2 hn h1)
theorem Bi {op : BinOp} (h : (runs ops s o.guard, o.dst, o.op, ev s x, ev s y, bop op a b) = (some true, some d, .binOp op T x y T', some (.b (.lit a)), some (.b (.lit b)), some c)) : Stp P ops o n s E (n + 1) (setAt s d (some (.b (.lit c)))) E [] := by
  simp only [Prod.mk.injEq] at h; exact st0 h.1 h.2.1 (h.2.2.1 ▸ .bin _ _ _ _ _ _ _ _ h.2.2.2.1 h.2.2.2.2.1 h.2.2.2.2.2)
theorem Bo {op : BinOp} (h : (runs ops s o.guard, o.dst, o.op, ev s x, ev s y) = (some true, some d, .binOp op T x y T', some (.b (.lit a)), some (.b (.lit b)))) (hb : bop op a b = some c) : Stp P ops o n s E (n + 1) (setAt s d (some (.b (.lit c)))) E [] := by
  simp only [Prod.mk.injEq] at h; exact st0 h.1 h.2.1 (h.2.2.1 ▸ .bin _ _ _ _ _ _ _ _ h.2.2.2.1 h.2.2.2.2 hb)
theorem Bb {op : BinOp} (hu : P.underlying T = some .bool) (h : (runs ops s o.guard, o.dst, o.op, ev s x, ev s y, bopBool op a b) = (some true, some d, .binOp op T x y T', some (.b (.lit a)), some (.b (.lit b)), some c)) : Stp P ops o n s E (n + 1) (setAt s d (some (.b (.lit c)))) E [] := by
  simp only [Prod.mk.injEq] at h; exact st0 h.1 h.2.1 (h.2.2.1 ▸ .binB _ _ _ _ _ _ _ _ h.2.2.2.1 h.2.2.2.2.1 hu h.2.2.2.2.2)
theorem Ni (hu : P.underlying T = some (.slice el)) (h : (runs ops s o.guard, o.dst, o.op, ev s x, v.isNil) = (some true, some d, .binOp .eql T x (.const (.slice none 0 0)) T', some v, some t)) : Stp P ops o n s E (n + 1) (setAt s d (some (vB t))) E [] := by
  simp only [Prod.mk.injEq] at h; exact st0 h.1 h.2.1 (h.2.2.1 ▸ .isNil _ _ _ _ _ _ _ h.2.2.2.1 rfl hu h.2.2.2.2)
theorem Nn (hu : P.underlying T = some (.slice el)) (h : (runs ops s o.guard, o.dst, o.op, ev s x, v.isNil) = (some true, some d, .binOp .neq T x (.const (.slice none 0 0)) T', some v, some t)) : Stp P ops o n s E (n + 1) (setAt s d (some (vB (!t)))) E [] := by
  simp only [Prod.mk.injEq] at h; exact st0 h.1 h.2.1 (h.2.2.1 ▸ .notNil _ _ _ _ _ _ _ h.2.2.2.1 rfl hu h.2.2.2.2)
theorem Un {op : UnOp} (h : (runs ops s o.guard, o.dst, o.op, ev s x, uop op a) = (some true, some d, .unOp op T x, some (.b (.lit a)), some c)) : Stp P ops o n s E (n + 1) (setAt s d (some (.b (.lit c)))) E [] := by
  simp only [Prod.mk.injEq] at h; exact st0 h.1 h.2.1 (h.2.2.1 ▸ .un _ _ _ _ _ h.2.2.2.1 h.2.2.2.2)
theorem Uo {op : UnOp} (h : (runs ops s o.guard, o.dst, o.op, ev s x) = (some true, some d, .unOp op T x, some (.b (.lit a)))) (hb : uop op a = some c) : Stp P ops o n s E (n + 1) (setAt s d (some (.b (.lit c)))) E [] := by
  simp only [Prod.mk.injEq] at h; exact st0 h.1 h.2.1 (h.2.2.1 ▸ .un _ _ _ _ _ h.2.2.2 hb)
theorem Cv {u : TypeDesc} (hu : P.underlying T = some u) (hu' : P.underlying T' = some (.int ik')) (h : (runs ops s o.guard, o.dst, o.op, ev s x) = (some true, some d, .convert T T' x, some (vI ik j))) (hw : IntKind.wrap ik' j = q) : Stp P ops o n s E (n + 1) (setAt s d (some (vI ik' q))) E [] := by
  simp only [Prod.mk.injEq] at h; exact st0 h.1 h.2.1 (h.2.2.1 ▸ Eff.convW h.2.2.2 hu hu' hw)
theorem Fa {f : Bool} {k' : Nat} (hf : fieldOf P T k = some (fo, m, f)) (h : (runs ops s o.guard, o.dst, o.op, ev s p, off + fo) = (some true, some d, .fieldAddr T p k, some (.ptr i off), k')) : Stp P ops o n s E (n + 1) (setAt s d (some (.ptr i k'))) E [] := by
  simp only [Prod.mk.injEq] at h; obtain ⟨h1, h2, h3, h4, rfl⟩ := h; exact st0 h1 h2 (h3 ▸ .fieldAddr _ _ _ _ _ _ _ _ h4 hf)
theorem Fr {l l' : List B} {f : Bool} (hf : fieldOf P T k = some (fo, m, f)) (h : (runs ops s o.guard, o.dst, o.op, ev s p, Nat.ble (fo + 1) l.length, l.drop fo) = (some true, some d, .fieldAddr T p k, some (.rd l), true, l')) : Stp P ops o n s E (n + 1) (setAt s d (some (.rd l'))) E [] := by
  simp only [Prod.mk.injEq] at h; obtain ⟨h1, h2, h3, h4, h5, rfl⟩ := h; exact st0 h1 h2 (h3 ▸ .fieldRd _ _ _ _ _ _ _ h4 hf (Nat.le_of_ble_eq_true h5))
/-- A field of one cell. -/
theorem Fd (hf : fieldOf P T k = some (fo, 1, false)) (h : (runs ops s o.guard, o.dst, o.op, ev s x, v.cells[fo]?, v.noTup) = (some true, some d, .field T x k, some v, some w, true)) (hc : v.cells ≠ [v]) : Stp P ops o n s E (n + 1) (setAt s d (some w)) E [] := by
  simp only [Prod.mk.injEq] at h; exact st0 h.1 h.2.1 (h.2.2.1 ▸ .field1 _ _ _ _ _ _ h.2.2.2.1 hc hf h.2.2.2.2.1 h.2.2.2.2.2)
/-- What is known of a type of slices. -/
structure SlT (P : Program) (T el : Nat) (z : B) (bytes : Nat) : Prop where
  u : P.underlying T = some (.slice el)
  s : szOf P el = some 1
  z : zeroOf P el = some [z]
  b : (P.info? el).map (·.bytes) = some bytes
theorem Ix {z' : B} {by' : Nat} (K : SlT P T el z' by') (h : (runs ops s o.guard, o.dst, o.op, ev s x, ev s y) = (some true, some d, .indexAddr T x y, some (.b (slK ik L)), some (vI ik' j))) (h0 : 0 ≤ j := by first | omega | (simp; done) | (simp; omega)) (h1 : j < L.length := by first | omega | (simp; done) | (simp; omega)) :
    Stp P ops o n s E (n + 1) (setAt s d (some (.rd [numB ik (L.getD j.toNat 0)]))) E [] := by
  simp only [Prod.mk.injEq] at h; obtain ⟨a, b, c, e, f⟩ := h
  refine st0 a b (c ▸ ?_)
  have h2 : j.toNat < L.length := by omega
  have := Eff.indexSl (P := P) (id := n) (E := E) T x y 1 (L.map (numB ik)) ik' j el e f K.u K.s h0 (by simp; omega)
  rw [drop_one _ _ (numB ik (L.getD j.toNat 0)) (by rw [List.getElem?_map, getD_get h2]; rfl)] at this
  exact this
theorem IxN {z' : B} {by' q : Nat} (K : SlT P T el z' by') (h : (runs ops s o.guard, o.dst, o.op, ev s x, ev s y) = (some true, some d, .indexAddr T x y, some (.b (slK ik L)), some (vI ik' (q : Int)))) (h1 : q < L.length := by first | omega | (simp; done) | (simp; omega)) :
    Stp P ops o n s E (n + 1) (setAt s d (some (.rd [numB ik (L.getD q 0)]))) E [] := Ix K h (by omega) (by omega)
theorem Ir {z' : B} {by' : Nat} (K : SlT P T el z' by') (h : (runs ops s o.guard, o.dst, o.op, ev s x, ev s y) = (some true, some d, .indexAddr T x y, some (.own i m), some (vI ik' j))) (h0 : 0 ≤ j := by first | omega | (simp; done) | (simp; omega)) (h1 : j < m := by first | omega | (simp; done) | (simp; omega)) :
    Stp P ops o n s E (n + 1) (setAt s d (some (.ptr i j.toNat))) E [] := by
  simp only [Prod.mk.injEq] at h; exact st0 h.1 h.2.1 (h.2.2.1 ▸ Eff.indexRow h.2.2.2.1 h.2.2.2.2 K.u K.s h0 h1)
theorem IrN {z' : B} {by' q : Nat} (K : SlT P T el z' by') (h : (runs ops s o.guard, o.dst, o.op, ev s x, ev s y) = (some true, some d, .indexAddr T x y, some (.own i m), some (vI ik' (q : Int)))) (h1 : q < m := by first | omega | (simp; done) | (simp; omega)) :
    Stp P ops o n s E (n + 1) (setAt s d (some (.ptr i q))) E [] := Ir K h (by omega) (by omega)
/-- Structs in a row that is written down. -/
theorem IrS (hu : P.underlying T = some (.slice el)) (hs : szOf P el = some sz) (h : (runs ops s o.guard, o.dst, o.op, ev s x, ev s y, decide (0 ≤ j ∧ j < m), j.toNat * sz) = (some true, some d, .indexAddr T x y, some (.own i m), some (vI ik' j), true, k)) :
    Stp P ops o n s E (n + 1) (setAt s d (some (.ptr i k))) E [] := by
  simp only [Prod.mk.injEq] at h; obtain ⟨h1, h2, h3, h4, h5, h6, rfl⟩ := h
  have := of_decide_eq_true h6
  exact st0 h1 h2 (h3 ▸ .indexOwn _ _ _ _ _ _ _ _ _ h4 h5 hu hs this.1 this.2)
theorem IxS {l l' : List B} (hu : P.underlying T = some (.slice el)) (hs : szOf P el = some sz) (h : (runs ops s o.guard, o.dst, o.op, ev s x, ev s y, decide (0 ≤ j ∧ (j.toNat + 1) * sz ≤ l.length), (l.drop (j.toNat * sz)).take sz) = (some true, some d, .indexAddr T x y, some (.b (.sl sz l)), some (vI ik' j), true, l')) :
    Stp P ops o n s E (n + 1) (setAt s d (some (.rd l'))) E [] := by
  simp only [Prod.mk.injEq] at h; obtain ⟨h1, h2, h3, h4, h5, h6, rfl⟩ := h
  have := of_decide_eq_true h6
  exact st0 h1 h2 (h3 ▸ .indexSl _ _ _ _ _ _ _ _ h4 h5 hu hs this.1 this.2)
theorem Ls {z' : B} {by' : Nat} (K : SlT P T el z' by') (h : (runs ops s o.guard, o.dst, o.op, ev s x) = (some true, some d, .call { callee := .builtin .len, args := #[x], argTypes := #[T] }, some (.b (slK ik L)))) : Stp P ops o n s E (n + 1) (setAt s d (some (vI .i64 L.length))) E [] := by
  simp only [Prod.mk.injEq] at h; exact st0 h.1 h.2.1 (h.2.2.1 ▸ .len _ _ _ _ _ h.2.2.2 K.u (by simp [V.len]))
theorem Lo (hu : P.underlying T = some (.slice el)) (h : (runs ops s o.guard, o.dst, o.op, ev s x) = (some true, some d, .call { callee := .builtin .len, args := #[x], argTypes := #[T] }, some (.own i m))) : Stp P ops o n s E (n + 1) (setAt s d (some (vI .i64 m))) E [] := by
  simp only [Prod.mk.injEq] at h; exact st0 h.1 h.2.1 (h.2.2.1 ▸ .len _ _ _ _ _ h.2.2.2 hu rfl)
theorem Lv (hu : P.underlying T = some (.slice el)) (h : (runs ops s o.guard, o.dst, o.op, ev s x, v.len) = (some true, some d, .call { callee := .builtin .len, args := #[x], argTypes := #[T] }, some v, some m)) : Stp P ops o n s E (n + 1) (setAt s d (some (vI .i64 m))) E [] := by
  simp only [Prod.mk.injEq] at h; exact st0 h.1 h.2.1 (h.2.2.1 ▸ .len _ _ _ _ _ h.2.2.2.1 hu h.2.2.2.2)
theorem Lw (m : Nat) {l : List B} (hu : P.underlying T = some (.slice el)) (h : (runs ops s o.guard, o.dst, o.op, ev s x, l.length) = (some true, some d, .call { callee := .builtin .len, args := #[x], argTypes := #[T] }, some (.b (.sl sz l)), m * sz)) (h0 : 0 < sz := by decide) : Stp P ops o n s E (n + 1) (setAt s d (some (vI .i64 m))) E [] := by
  simp only [Prod.mk.injEq] at h; exact st0 h.1 h.2.1 (h.2.2.1 ▸ .len _ _ _ _ _ h.2.2.2.1 hu (by simp only [V.len]; rw [h.2.2.2.2, Nat.mul_div_cancel _ h0]))
theorem Lt {str : ByteArray} (hu : P.underlying T = some .string) (h : (runs ops s o.guard, o.dst, o.op, ev s x) = (some true, some d, .call { callee := .builtin .len, args := #[x], argTypes := #[T] }, some (.b (.lit (.string str))))) : Stp P ops o n s E (n + 1) (setAt s d (some (vI .i64 str.size))) E [] := by
  simp only [Prod.mk.injEq] at h; exact st0 h.1 h.2.1 (h.2.2.1 ▸ .lenStr _ _ _ h.2.2.2 hu)
theorem Mx {ts : Array TypeId} {x' y' : Int} (h : (runs ops s o.guard, o.dst, o.op, ev s x, ev s y) = (some true, some d, .call { callee := .builtin .max, args := #[x, y], argTypes := ts }, some (vI ik x'), some (vI ik y'))) : Stp P ops o n s E (n + 1) (setAt s d (some (vI ik (if y' > x' then y' else x')))) E [] := by
  simp only [Prod.mk.injEq] at h; exact st0 h.1 h.2.1 (h.2.2.1 ▸ .max _ _ _ _ _ _ h.2.2.2.1 h.2.2.2.2)
theorem Mi {ts : Array TypeId} {x' y' : Int} (h : (runs ops s o.guard, o.dst, o.op, ev s x, ev s y) = (some true, some d, .call { callee := .builtin .min, args := #[x, y], argTypes := ts }, some (vI ik x'), some (vI ik y'))) : Stp P ops o n s E (n + 1) (setAt s d (some (vI ik (if y' < x' then y' else x')))) E [] := by
  simp only [Prod.mk.injEq] at h; exact st0 h.1 h.2.1 (h.2.2.1 ▸ .min _ _ _ _ _ _ h.2.2.2.1 h.2.2.2.2)
theorem Xt {l : List B} {y : B} (h : (runs ops s o.guard, o.dst, o.op, ev s x, l[k]?) = (some true, some d, .extract x k, some (.b (.tup l)), some y)) : Stp P ops o n s E (n + 1) (setAt s d (some (.b y))) E [] := by
  simp only [Prod.mk.injEq] at h; exact st0 h.1 h.2.1 (h.2.2.1 ▸ .extract _ _ _ _ h.2.2.2.1 h.2.2.2.2)
theorem Xv (h : (runs ops s o.guard, o.dst, o.op, ev s x, l[k]?) = (some true, some d, .extract x k, some (.tup l), some w)) : Stp P ops o n s E (n + 1) (setAt s d (some w)) E [] := by
  simp only [Prod.mk.injEq] at h; exact st0 h.1 h.2.1 (h.2.2.1 ▸ .extractV _ _ _ _ h.2.2.2.1 h.2.2.2.2)
theorem Mf {f : FuncId} {caps : Array Operand} (h : (runs ops s o.guard, o.dst, o.op, evs s caps.toList, l.all V.leaf) = (some true, some d, .makeFunc (.func f) #[] caps, some l, true)) : Stp P ops o n s E (n + 1) (setAt s d (some (.fn f l))) E [] := by
  simp only [Prod.mk.injEq] at h; exact st0 h.1 h.2.1 (h.2.2.1 ▸ .makeFunc _ _ _ h.2.2.2.1 h.2.2.2.2)
theorem Mk (q : Nat) {by' : Nat} (K : SlT P T el (numB ik' 0) by') (h : (runs ops s o.guard, o.dst, o.op, ev s x, n, Nat.ble by' 8) = (some true, some d, .makeSlice T x x, some (vI ik j), q, true)) (h0 : 0 ≤ j := by first | omega | (simp; done) | (simp; omega)) (h1 : j ≤ 1000000000000 := by first | omega | (simp; done) | (simp; omega)) :
    Stp P ops o n s E (q + 1) (setAt s d (some (.own q j.toNat))) (setAt E q (some (rowK ik' (List.replicate j.toNat 0)))) [q] := by
  simp only [Prod.mk.injEq] at h; obtain ⟨a, b, c, e, rfl, f⟩ := h
  have f := Nat.le_of_ble_eq_true f
  refine st1 a b (c ▸ ?_)
  have hm : (by' : Int) * j ≤ 8 * 1000000000000 := Int.le_trans (Int.mul_le_mul_of_nonneg_right (show (by' : Int) ≤ 8 by omega) h0) (by omega)
  have := Eff.make (P := P) (id := n) (E := E) T x j el [numB ik' 0] by' ik e K.u K.z K.s K.b (by simp) h0 (by omega) (by omega)
  have e : (some ⟨[numB ik' 0].length, ((List.replicate j.toNat [numB ik' 0]).flatten).map .b, true⟩ : Option Ent) = some (rowK ik' (List.replicate j.toNat 0)) := by
    simp only [rowK, List.length_singleton, List.map_replicate]
    congr 2
    induction j.toNat with
    | zero => rfl
    | succ q ih => simp [List.replicate_succ, ih]
  rw [e] at this
  exact this
/-- Creating steps at a given number. -/
theorem sq1 (q : Nat) {e : Option Ent} (a : (n, runs ops s o.guard, o.dst) = (q, some true, some d)) (c : Eff P q s E o.op (some v) [(i, e)]) : Stp P ops o n s E (q + 1) (setAt s d (some v)) (setAt E i e) [i] := by
  simp only [Prod.mk.injEq] at a; obtain ⟨rfl, a, b⟩ := a; exact st1 a b c
theorem sqN (q : Nat) {us : List (Nat × Option Ent)} (a : (n, runs ops s o.guard, o.dst) = (q, some true, some d)) (c : Eff P q s E o.op (some v) us) : Stp P ops o n s E (q + 1) (setAt s d (some v)) (upds E us) (us.map (·.1)) := by
  simp only [Prod.mk.injEq] at a; obtain ⟨rfl, a, b⟩ := a; exact stN a b c
theorem L0s (q : Nat) {by' : Nat} (K : SlT P T el (numB ik 0) by') (h : (runs ops s o.guard, o.dst, o.op, n) = (some true, some d, .buildSlice T 0 #[], q)) :
    Stp P ops o n s E (q + 1) (setAt s d (some (.own q 0))) (setAt E q (some (rowK ik []))) [q] := by
  simp only [Prod.mk.injEq] at h; obtain ⟨h1, h2, h3, rfl⟩ := h
  exact st1 h1 h2 (h3 ▸ .buildS T 0 #[] el [] 1 [numB ik 0] [] rfl K.u K.z K.s (by simp) (by simp) rfl rfl)
theorem L1s (q : Nat) {by' : Nat} (K : SlT P T el (numB ik 0) by') (h : (runs ops s o.guard, o.dst, o.op, ev s x, n) = (some true, some d, .buildSlice T 1 #[(0, x)], some (vI ik j), q)) :
    Stp P ops o n s E (q + 1) (setAt s d (some (.own q 1))) (setAt E q (some (rowK ik [j]))) [q] := by
  simp only [Prod.mk.injEq] at h; obtain ⟨h1, h2, h3, h4, rfl⟩ := h
  exact st1 h1 h2 (h3 ▸ Eff.litsK1 h4 K.u K.z K.s)
theorem L2s (q : Nat) {by' : Nat} {j' : Int} (K : SlT P T el (numB ik 0) by') (h : (runs ops s o.guard, o.dst, o.op, ev s x, ev s y, n) = (some true, some d, .buildSlice T 2 #[(0, x), (1, y)], some (vI ik j), some (vI ik j'), q)) :
    Stp P ops o n s E (q + 1) (setAt s d (some (.own q 2))) (setAt E q (some (rowK ik [j, j']))) [q] := by
  simp only [Prod.mk.injEq] at h; obtain ⟨h1, h2, h3, h4, h5, rfl⟩ := h
  exact st1 h1 h2 (h3 ▸ .buildS T 2 #[(0, x), (1, y)] el [vI ik j, vI ik j'] 1 [numB ik 0] [vI ik j, vI ik j'] (by simp [evs, h4, h5]) K.u K.z K.s (by simp) (by simp) rfl rfl)
/-- What is known of a type of structs: the zero cells, where the fields lie. -/
structure StT (P : Program) (T : TypeId) (z : List B) (fl : List (Nat × Nat)) : Prop where
  z : zeroOf P T = some z
  p : ∃ fs, P.underlying T = some (.struct fs) ∧ fs.toList.all (fun f => (szOf P f.type).isSome) = true
  f : ∀ k q, fl[k]? = some q → places P T k = some q
theorem putParts_mono {f g : Nat → Option (Nat × Nat)} (h : ∀ k q, f k = some q → g k = some q) : ∀ {l : List (Nat × V)} {cs cs' : List V}, putParts f l cs = some cs' → putParts g l cs = some cs'
  | [], _, _, hc => hc
  | (k, v) :: r, cs, cs', hc => by
    simp only [putParts] at hc ⊢
    cases hf : f k with
    | none => rw [hf] at hc; cases hc
    | some q =>
      rw [hf] at hc; rw [h k q hf]
      obtain ⟨fo, m⟩ := q
      simp only at hc ⊢
      split at hc
      · rename_i hi; rw [if_pos hi]; exact putParts_mono h hc
      · cases hc
theorem Bd {parts : Array (Nat × Operand)} {z : List B} {fl : List (Nat × Nat)} {vs : List V} (K : StT P T z fl) (h : (runs ops s o.guard, o.dst, o.op, evs s (parts.toList.map (·.2)), putParts (fun k => fl[k]?) ((parts.toList.map (·.1)).zip vs) (z.map .b)) = (some true, some d, .build T parts, some vs, some cs)) :
    Stp P ops o n s E (n + 1) (setAt s d (some (.agg cs))) E [] := by
  simp only [Prod.mk.injEq] at h; obtain ⟨h1, h2, h3, h4, h5⟩ := h
  exact st0 h1 h2 (h3 ▸ .build _ _ _ _ _ h4 K.z K.p (putParts_mono K.f h5))
theorem Ct {hi : Operand} {z' : B} {by' : Nat} (K : SlT P T el z' by') (h : (runs ops s o.guard, o.dst, o.op, ev s x, ev s hi) = (some true, some d, .slice T x none (some hi) none, some (.b (slK ik L)), some (vI ik' j))) (h0 : 0 ≤ j := by first | omega | (simp; done) | (simp; omega)) (h1 : j ≤ L.length := by first | omega | (simp; done) | (simp; omega)) :
    Stp P ops o n s E (n + 1) (setAt s d (some (.b (slK ik (L.take j.toNat))))) E [] := by
  simp only [Prod.mk.injEq] at h; obtain ⟨a, b, c, e, f⟩ := h
  refine st0 a b (c ▸ ?_)
  have := Eff.slSl (P := P) (id := n) (E := E) T x none (some hi) 1 (L.map (numB ik)) el ik' ik' 0 j e K.u K.s (.inl ⟨rfl, rfl⟩) (.inr ⟨hi, rfl, f⟩) (by omega) h0 (by simp; omega)
  simp only [Nat.mul_one, Int.toNat_zero, List.drop_zero, ← List.map_take] at this
  exact this
theorem Tt {hi : Operand} {str : ByteArray} (hu : P.underlying T = some .string) (h : (runs ops s o.guard, o.dst, o.op, ev s x, ev s hi) = (some true, some d, .slice T x none (some hi) none, some (.b (.lit (.string str))), some (vI ik' j))) (h0 : 0 ≤ j := by first | omega | (simp; done) | (simp; omega)) (h1 : j ≤ str.size := by first | omega | (simp; done) | (simp; omega)) :
    Stp P ops o n s E (n + 1) (setAt s d (some (.b (.lit (.string (str.extract 0 j.toNat)))))) E [] := by
  simp only [Prod.mk.injEq] at h; exact st0 h.1 h.2.1 (h.2.2.1 ▸ .strTo _ _ _ _ _ _ h.2.2.2.1 h.2.2.2.2 hu h0 h1)
theorem Tf {lo : Operand} {str : ByteArray} (hu : P.underlying T = some .string) (h : (runs ops s o.guard, o.dst, o.op, ev s x, ev s lo) = (some true, some d, .slice T x (some lo) none none, some (.b (.lit (.string str))), some (vI ik' j))) (h0 : 0 ≤ j := by first | omega | (simp; done) | (simp; omega)) (h1 : j ≤ str.size := by first | omega | (simp; done) | (simp; omega)) :
    Stp P ops o n s E (n + 1) (setAt s d (some (.b (.lit (.string (str.extract j.toNat str.size)))))) E [] := by
  simp only [Prod.mk.injEq] at h; exact st0 h.1 h.2.1 (h.2.2.1 ▸ .strFrom _ _ _ _ _ _ h.2.2.2.1 h.2.2.2.2 hu h0 h1)
theorem TfN {lo : Operand} {str : ByteArray} {q : Nat} (hu : P.underlying T = some .string) (h : (runs ops s o.guard, o.dst, o.op, ev s x, ev s lo) = (some true, some d, .slice T x (some lo) none none, some (.b (.lit (.string str))), some (vI ik' (q : Int)))) (h1 : q ≤ str.size := by first | omega | (simp; done) | (simp; omega)) :
    Stp P ops o n s E (n + 1) (setAt s d (some (.b (.lit (.string (str.extract q str.size)))))) E [] := by
  simp only [Prod.mk.injEq] at h; exact st0 h.1 h.2.1 (h.2.2.1 ▸ Eff.strFromN h.2.2.2.1 h.2.2.2.2 hu h1)
theorem Ti {str : ByteArray} {z : Int} (hu : P.underlying T = some .string) (h : (runs ops s o.guard, o.dst, o.op, ev s x, ev s y) = (some true, some d, .index T x y, some (.b (.lit (.string str))), some (vI ik' j))) (hv : ((str.data.getD j.toNat 0).toNat : Int) = z) (h0 : 0 ≤ j := by first | omega | (simp; done) | (simp; omega)) (h1 : j.toNat < str.size := by first | omega | (simp; done) | (simp; omega)) :
    Stp P ops o n s E (n + 1) (setAt s d (some (vI .u8 z))) E [] := by
  simp only [Prod.mk.injEq] at h; exact st0 h.1 h.2.1 (h.2.2.1 ▸ Eff.indexT h.2.2.2.1 h.2.2.2.2 hu h0 h1 hv)
theorem TiN {str : ByteArray} {q : Nat} (hu : P.underlying T = some .string) (h : (runs ops s o.guard, o.dst, o.op, ev s x, ev s y) = (some true, some d, .index T x y, some (.b (.lit (.string str))), some (vI ik' (q : Int)))) (h1 : q < str.size := by first | omega | (simp; done) | (simp; omega)) :
    Stp P ops o n s E (n + 1) (setAt s d (some (vI .u8 (at8 str q)))) E [] := by
  simp only [Prod.mk.injEq] at h; exact st0 h.1 h.2.1 (h.2.2.1 ▸ Eff.indexSN h.2.2.2.1 h.2.2.2.2 hu h1)
/-- The contents of what is given. -/
theorem Rr (he : E i = some (rowK ik L)) (hl : L.length = m := by first | omega | (simp; done) | (simp; omega) | (simp [*]; done) | (simp [*]; omega)) : res E (.own i m) = some (slK ik L) := res_rowK he hl
theorem Ra {t : Bool} (he : E i = some (rowK .u32 L)) (hl : L.length = m := by first | omega | (simp; done) | (simp; omega) | (simp [*]; done) | (simp [*]; omega)) : res E (.agg [vB t, .own i m]) = some (intB t L) := res_agg he hl
theorem Cp {z' : B} {by' : Nat} (K : SlT P T el z' by') (h : (runs ops s o.guard, o.dst, o.op, ev s x, E i, ev s y) = (some true, some d, .call { callee := .builtin .copy, args := #[x, y], argTypes := #[T, T'] }, some (.own i m), some (rowK ik D), some w)) (hr : res E w = some (slK ik L)) (hl : m ≤ D.length := by first | omega | (simp; done) | (simp; omega)) :
    Stp P ops o n s E (n + 1) (setAt s d (some (vI .i64 (Nat.min L.length m)))) (setAt E i (some (rowK ik (L.take (Nat.min L.length m) ++ D.drop (Nat.min L.length m))))) [i] := by
  simp only [Prod.mk.injEq] at h; obtain ⟨h1, h2, h3, h4, h5, h6⟩ := h
  have := Eff.copy (P := P) (id := n) x y T T' el i m (rowK ik D) w (L.map (numB ik)) h4 h5 rfl rfl (by simpa [rowK] using hl) h6 hr K.u K.s lits_allK
  rw [List.length_map] at this
  have e : (some { rowK ik D with cells := ((L.map (numB ik)).take (Nat.min L.length m)).map .b ++ (rowK ik D).cells.drop (Nat.min L.length m) } : Option Ent) = some (rowK ik (L.take (Nat.min L.length m) ++ D.drop (Nat.min L.length m))) := by
    simp only [rowK, List.map_append, List.map_take, List.map_drop, List.map_map]
    rfl
  rw [e] at this
  exact st1 h1 h2 (h3 ▸ this)
theorem Ap (q : Nat) {by' : Nat} (K : SlT P T el (numB ik 0) by') (h : (runs ops s o.guard, o.dst, o.op, ev s x, E i, ev s y, n, w.names.contains i) = (some true, some d, .call { callee := .builtin .append, args := #[x, y], argTypes := #[T, T] }, some (.own i m), some (rowK ik D), some w, q, false)) (hr : res E w = some (slK ik L)) (hl : D.length = m := by first | omega | (simp; done) | (simp; omega))
    (hm : (m + L.length) * by' ≤ 140737488355328 ∧ m + L.length ≤ maxLen := by first | (simp [maxLen]; done) | (simp [maxLen]; omega) | (simp only [maxLen]; omega)) :
    Stp P ops o n s E (q + 1) (setAt s d (some (.own q (m + L.length)))) (setAt (setAt E i none) q (some (rowK ik (D ++ L)))) [i, q] := by
  simp only [Prod.mk.injEq] at h; obtain ⟨h1, h2, h3, h4, h5, h6, rfl, h7⟩ := h
  have hne : i ∉ w.names := fun hc => by simp [hc] at h7
  exact st2 h1 h2 (h3 ▸ Eff.appendK h4 h5 hl h6 hr hne K.u K.s K.b K.z hm)
theorem Ap0 (q : Nat) {by' : Nat} (K : SlT P T el (numB ik 0) by') (h : (runs ops s o.guard, o.dst, o.op, ev s x, E i, ev s y, n, w.names.contains i) = (some true, some d, .call { callee := .builtin .append, args := #[x, y], argTypes := #[T, T] }, some (.own i 0), some (rowK ik []), some w, q, false)) (hr : res E w = some (slK ik L))
    (hm : L.length * by' ≤ 140737488355328 ∧ L.length ≤ maxLen := by first | (simp [maxLen]; done) | (simp [maxLen]; omega) | (simp only [maxLen]; omega)) :
    Stp P ops o n s E (q + 1) (setAt s d (some (.own q L.length))) (setAt (setAt E i none) q (some (rowK ik L))) [i, q] := by
  have := Ap q K h hr rfl (by rw [Nat.zero_add]; exact hm)
  rwa [Nat.zero_add] at this
theorem Apn (q : Nat) {by' : Nat} (K : SlT P T el (numB ik 0) by') (h : (runs ops s o.guard, o.dst, o.op, ev s x, ev s y, n) = (some true, some d, .call { callee := .builtin .append, args := #[x, y], argTypes := #[T, T] }, some (.b .nil), some w, q)) (hr : res E w = some (slK ik L)) (h0 : L ≠ [] := by first | omega | (simp; done) | (simp; omega))
    (hm : L.length * by' ≤ 140737488355328 ∧ L.length ≤ maxLen := by first | (simp [maxLen]; done) | (simp [maxLen]; omega) | (simp only [maxLen]; omega)) :
    Stp P ops o n s E (q + 1) (setAt s d (some (.own q L.length))) (setAt E q (some (rowK ik L))) [q] := by
  simp only [Prod.mk.injEq] at h; obtain ⟨h1, h2, h3, h4, h5, rfl⟩ := h
  exact st1 h1 h2 (h3 ▸ Eff.appendNilK h4 h5 hr h0 K.u K.s K.b K.z hm)
theorem Apc {by' : Nat} (K : SlT P T el (numB ik 0) by') (h : (runs ops s o.guard, o.dst, o.op, ev s y) = (some true, some d, .call { callee := .builtin .append, args := #[.const (.slice none 0 0), y], argTypes := #[T, T] }, some w)) (hr : res E w = some (slK ik L))
    (hm : L.length * by' ≤ 140737488355328 ∧ L.length ≤ maxLen := by first | (simp [maxLen]; done) | (simp [maxLen]; omega) | (simp only [maxLen]; omega)) :
    Stp P ops o n s E (n + 1) (setAt s d (some (.b (slK ik L)))) E [] := by
  simp only [Prod.mk.injEq] at h; obtain ⟨h1, h2, h3, h4⟩ := h
  exact st0 h1 h2 (h3 ▸ .appendNilB _ _ _ _ _ _ _ rfl h4 hr K.u K.s K.b (by rw [K.z]; rfl) (by simpa using hm.1) (by simpa using hm.2) lits_allK)
theorem Ts {by' : Nat} (K : SlT P T el (numB .u8 0) by') (he : P.underlying el = some (.int .u8)) (hu : P.underlying T' = some .string) (h : (runs ops s o.guard, o.dst, o.op, ev s x, E i) = (some true, some d, .convert T T' x, some (.own i m), some (rowK .u8 L))) (h8 : ok8 L) (hl : L.length = m := by first | omega | (simp; done) | (simp; omega)) :
    Stp P ops o n s E (n + 1) (setAt s d (some (.b (.lit (.string (bytesOf L)))))) E [] := by
  simp only [Prod.mk.injEq] at h; exact st0 h.1 h.2.1 (h.2.2.1 ▸ Eff.toStrK h.2.2.2.1 h.2.2.2.2 hl h8 K.u he hu)
/-- Calls by contracts. -/
theorem Cf {f : FuncId} {args : Array Operand} {ts : Array TypeId} {vs : List V} {xs : List B} {rr : B} (h : (runs ops s o.guard, o.dst, o.op, evs s args.toList) = (some true, some d, .call { callee := .value (.func f), args := args, argTypes := ts }, some vs)) (hx : ress E vs = some xs) (hf : VF P f xs rr) (hr : rr.flat = true) :
    Stp P ops o n s E (n + 1) (setAt s d (some (.b rr))) E [] := by
  simp only [Prod.mk.injEq] at h; exact st0 h.1 h.2.1 (h.2.2.1 ▸ .callF _ _ _ _ _ _ h.2.2.2 hx hf hr)
theorem C0 {f : FuncId} {args : Array Operand} {ts : Array TypeId} {vs : List V} {xs : List B} {rr : B} (h : (runs ops s o.guard, o.dst, o.op, evs s args.toList, vs.flatMap V.names) = (some true, some d, .call { callee := .value (.func f), args := args, argTypes := ts }, some vs, [])) (hx : ress E vs = some xs) (hf : VF P f xs rr) :
    Stp P ops o n s E (n + 1) (setAt s d (some (.b rr))) E [] := by
  simp only [Prod.mk.injEq] at h; exact st0 h.1 h.2.1 (h.2.2.1 ▸ Eff.callV0 h.2.2.2.1 hx hf h.2.2.2.2)
theorem Cc {f : FuncId} {args : Array Operand} {ts : Array TypeId} {vs : List V} {xs : List B} {rr : B} (h : (runs ops s o.guard, o.dst, o.op, evs s args.toList) = (some true, some d, .call { callee := .value (.func f), args := args, argTypes := ts }, some vs)) (hx : ress E vs = some xs) (hf : VF P f xs rr) :
    Stp P ops o n s E (n + 1) (setAt s d (some (.b rr))) (upds E ((vs.flatMap V.names).map (cool E))) (((vs.flatMap V.names).map (cool E)).map (·.1)) := by
  simp only [Prod.mk.injEq] at h; exact stN h.1 h.2.1 (h.2.2.1 ▸ .callV _ _ _ _ _ _ h.2.2.2 hx hf)
theorem Cm {f : FuncId} {args : Array Operand} {rest : List Operand} {ts : Array TypeId} {vs : List V} {xs : List B} {rr : B} {L' : List Int} (h : (runs ops s o.guard, o.dst, o.op, args.toList, ev s x, E i, evs s rest, (vs.flatMap V.names).contains i) = (some true, some d, .call { callee := .value (.func f), args := args, argTypes := ts }, x :: rest, some (.own i m), some (rowK .u32 L), some vs, false))
    (hx : ress E vs = some xs) (hf : VM P f (L.map u32B) xs rr (L'.map u32B)) (hl : L.length = m := by first | omega | (simp; done) | (simp; omega) | (simp [*]; done) | (simp [*]; omega)) :
    Stp P ops o n s E (n + 1) (setAt s d (some (.b rr))) (setAt E i (some (rowK .u32 L'))) [i] := by
  simp only [Prod.mk.injEq] at h; obtain ⟨h1, h2, h3, h4, h5, h6, h7, h8⟩ := h
  have hni : i ∉ vs.flatMap V.names := fun hc => by simp [hc] at h8
  exact st1 h1 h2 (h3 ▸ Eff.callMr (L := L) (L' := L') h4 h5 h6 hl h7 hx hni hf)
theorem Cn {f : FuncId} {args : Array Operand} {ts : Array TypeId} {xs : List Value} {rr : Value} (h : (runs ops s o.guard, o.dst, o.op, evs s args.toList) = (some true, some d, .call { callee := .value (.func f), args := args, argTypes := ts }, some (xs.map fun x => .b (.lit x)))) (hf : NF P f xs rr) :
    Stp P ops o n s E (n + 1) (setAt s d (some (.b (.lit rr)))) E [] := by
  simp only [Prod.mk.injEq] at h; exact st0 h.1 h.2.1 (h.2.2.1 ▸ .callN _ _ _ _ _ h.2.2.2 hf)
/-- A boolean that is known. -/
theorem Kb {t t' : Bool} (h : t = t') (k : Stp P ops o n s E n' (setAt s d (some (vB t))) E' ids) : Stp P ops o n s E n' (setAt s d (some (vB t'))) E' ids := h ▸ k
/-- Two ways. -/
theorem Sp (d : Nat) {t : Bool} (hs : s d = some (vB t)) (h1 : t = true → VList P ops r n (setAt s d (some (vB true))) E Q) (h2 : t = false → VList P ops r n (setAt s d (some (vB false))) E Q) : VList P ops r n s E Q := VList.split t hs h1 h2
theorem Sl (d : Nat) {t : Bool} (hs : s d = some (vB t)) (h1 : t = true → VLog P ops r n (setAt s d (some (vB true))) E log R) (h2 : t = false → VLog P ops r n (setAt s d (some (vB false))) E log R) : VLog P ops r n s E log R := VLog.split t hs h1 h2
theorem Gv (q : Nat) {E2 : Env} (h : (runs ops s o.guard, o.dst) = (some true, some d)) (h2 : CallG P n s E o.op w q E2) (hv : w = v) (h3 : VList P ops r q (setAt s d (some v)) E2 Q) : VList P ops (o :: r) n s E Q := by
  injection h with h1 hd; exact VList.goV h1 hd h2 hv h3
end
section
variable {P : Program} {ops : Array Oper} {n k rid id : Nat} {s : Slots} {E : Env} {X : VExit → Nat → Slots → Env → Prop} {a b : Code} {c : Operand} {e : VExit}
theorem Rg (h : VList P ops ops.toList n s E (X .normal)) : VCode P k (.region rid ops false) n s E X := h
theorem Rd (h1 : drawOk ops = true) (h : VLog P ops ops.toList n s E [] fun log n s E => logOk (bef ops) log = true ∧ X .normal n s E) : VCode P k (.region rid ops true) n s E X := ⟨h1, h⟩
theorem Sq (h : VCode P k a n s E (Then P k b X)) : VCode P k (.seq a b) n s E X := h
theorem Nx (h : VCode P k b n s E X) : VList P ops [] n s E (Then P k b X .normal) := .inl h
theorem Nv (h : X .normal n s E) : VList P ops [] n s E (X .normal) := h
theorem Cd {t : Bool} (hc : ev s c = some (vB t)) (h1 : t = true → VCode P k a n s E X) (h2 : t = false → VCode P k b n s E X) : VCode P k (.cond c a b) n s E X := ⟨t, hc, h1, h2⟩
theorem Cy (hc : ev s c = some (vB true)) (h : VCode P k a n s E X) : VCode P k (.cond c a b) n s E X := ⟨true, hc, fun _ => h, fun h => Bool.noConfusion h⟩
theorem Cz (hc : ev s c = some (vB false)) (h : VCode P k b n s E X) : VCode P k (.cond c a b) n s E X := ⟨false, hc, fun h => Bool.noConfusion h, fun _ => h⟩
theorem Bk (h : VCode P k b n s E (InBlock id X)) : VCode P k (.block id b) n s E X := h
theorem Re (h : X .ret n s E) : VCode P k .ret n s E X := h
theorem Ks (h : X .normal n s E) : VCode P k .skip n s E X := h
theorem Ke {i : Nat} (h : X (.exit i) n s E) : VCode P k (.exit i) n s E X := h
theorem Tg (h : VCode P k b n s E X) : Then P k b X .normal n s E := .inl h
theorem Tr (h : X .ret n s E) : Then P k b X .ret n s E := h
theorem Te {i : Nat} (h : X (.exit i) n s E) : Then P k b X (.exit i) n s E := h
theorem Ig (h : X .normal n s E) : InBlock id X .normal n s E := h
theorem Iq (h : X .ret n s E) : InBlock id X .ret n s E := h
theorem Ih (h : X .normal n s E) : InBlock id X (.exit id) n s E := InBlock.here h
theorem Io {i : Nat} (h : X (.exit i) n s E) (hi : i ≠ id := by decide) : InBlock id X (.exit i) n s E := InBlock.out hi h
/-- Renaming, written down. -/
def rl (l : List (Nat × Nat)) : Nat → Nat := fun i => (l.lookup i).getD i
theorem cells_of {n1 : Nat} {e : Ent} (h : (e.cells.all fun v => v.all1.all fun i => decide (i < n1)) = true) : ∀ v ∈ e.cells, v.all1.all (fun i => decide (i < n1)) = true := List.all_eq_true.1 h
theorem rowK_ren' {ik : IntKind} {ρ : Nat → Nat} {L : List Int} : some (rowK ik L) = some ((rowK ik L).ren ρ) := by rw [rowK_ren]
/-- Less is told. -/
theorem Wk {k n1 : Nat} {S1 : List (Nat × V)} {L1 : List (Nat × Ent)}
    (h1 : AllS (fun t x => s t = some x ∧ x.all.all (fun i => decide (i < n1)) = true) S1 := by repeat' (first | exact trivial | refine ⟨⟨rfl, rfl⟩, ?_⟩))
    (h2 : AllE (fun i e => E i = some e ∧ i < n1 ∧ ∀ v ∈ e.cells, v.all1.all (fun i => decide (i < n1)) = true) L1 := by repeat' (first | exact trivial | refine ⟨⟨rfl, Nat.le_of_ble_eq_true rfl, by first | exact row_cellsK | exact cells_of rfl⟩, ?_⟩)) (hk : k ≤ n1 := by exact Nat.le_of_ble_eq_true rfl) : Weak k s E n1 (sl S1) (en L1) := Weak.of hk h1 h2
theorem Wr {k n1 : Nat} {S1 : List (Nat × V)} {L1 : List (Nat × Ent)} (l : List (Nat × Nat))
    (hlow : (List.range k).all (fun i => rl l i == i) = true := by rfl) (hinj : (L1.map (·.1)).all (fun i => (L1.map (·.1)).all fun j => !(rl l i == rl l j) || i == j) = true := by rfl)
    (h1 : AllS (fun t x => s t = some (x.ren (rl l)) ∧ x.all.all (fun i => decide (i < n1)) = true) S1 := by repeat' (first | exact trivial | refine ⟨⟨rfl, rfl⟩, ?_⟩))
    (h2 : AllE (fun i e => E (rl l i) = some (e.ren (rl l)) ∧ i < n1 ∧ ∀ v ∈ e.cells, v.all1.all (fun i => decide (i < n1)) = true) L1 := by repeat' (first | exact trivial | refine ⟨⟨by first | exact rowK_ren' | rfl, Nat.le_of_ble_eq_true rfl, by first | exact row_cellsK | exact cells_of rfl⟩, ?_⟩)) (hk : k ≤ n1 := by exact Nat.le_of_ble_eq_true rfl) : Weak k s E n1 (sl S1) (en L1) :=
  Weak.ofR (rl l) hk hlow hinj h1 h2
theorem Go {α : Type} {st : α → Nat × Slots × Env} {ok : α → Prop} {μ : α → Nat} {x : α} (y : α) (h1 : ok y) (h3 : Weak k s E (st y).1 (st y).2.1 (st y).2.2) (h2 : μ y < μ x := by first | (dsimp only; omega) | omega) : Round k st ok μ x X .normal n s E := ⟨y, h1, h2, h3⟩
theorem Or {α : Type} {st : α → Nat × Slots × Env} {ok : α → Prop} {μ : α → Nat} {x : α} (h : X .ret n s E) : Round k st ok μ x X .ret n s E := h
theorem Oe {α : Type} {st : α → Nat × Slots × Env} {ok : α → Prop} {μ : α → Nat} {x : α} {i : Nat} (h : X (.exit i) n s E) : Round k st ok μ x X (.exit i) n s E := h
theorem Jg {α : Type} {st : α → Nat × Slots × Env} {J : α → Prop} (y : α) (h1 : J y) (h3 : Weak k s E (st y).1 (st y).2.1 (st y).2.2) : Joins k st J X .normal n s E := ⟨y, h1, h3⟩
theorem Jr {α : Type} {st : α → Nat × Slots × Env} {J : α → Prop} (h : X .ret n s E) : Joins k st J X .ret n s E := h
theorem Je {α : Type} {st : α → Nat × Slots × Env} {J : α → Prop} {i : Nat} (h : X (.exit i) n s E) : Joins k st J X (.exit i) n s E := h
/-- The end. -/
theorem Fi {fn : Func} {A : Prop} {l : List B} {r : B} (h : resVars P s E fn.results.toList = some l) (hr : r = oneB l) (he : A := by trivial) : A ∧ ∃ l, resVars P s E fn.results.toList = some l ∧ r = oneB l := ⟨he, l, h, hr⟩
theorem Rc {w : ResultVar} {b : B} {vs : List ResultVar} {l : List B} (h1 : resVar P s E w = some b) (h2 : resVars P s E vs = some l) : resVars P s E (w :: vs) = some (b :: l) := resVars_cons h1 h2
theorem Rn : resVars P s E [] = some [] := rfl
theorem Rk {w : V} {b : B} {vs : List V} {l : List B} (h1 : res E w = some b) (h2 : ress E vs = some l) : ress E (w :: vs) = some (b :: l) := ress_cons h1 h2
theorem Rz : ress E [] = some [] := rfl
end
end Go.VL

/- A small program logic over the translated Go code, further part: facts of this program's types. -/
set_option linter.unusedVariables false
set_option maxRecDepth 100000
namespace Go.VL
open Go.Proofs
theorem TA4 : aggOf Tryz.prog 4 = some false := by kernel_rfl
theorem TA5 : aggOf Tryz.prog 5 = some false := by kernel_rfl
theorem TA22 : aggOf Tryz.prog 22 = some false := by kernel_rfl
theorem TA24 : aggOf Tryz.prog 24 = some true := by kernel_rfl
theorem TA64 : aggOf Tryz.prog 64 = some false := by kernel_rfl
theorem TF24_0 : fieldOf Tryz.prog 24 0 = some (0, 1, false) := by kernel_rfl
theorem TF24_1 : fieldOf Tryz.prog 24 1 = some (1, 1, false) := by kernel_rfl
theorem TK22 : SlT Tryz.prog 22 64 (numB .u32 (0)) 4 := ⟨Tryz.underlying22, by kernel_rfl, by kernel_rfl, by kernel_rfl⟩
theorem TK83 : SlT Tryz.prog 83 5 (numB .u8 (0)) 1 := ⟨Tryz.underlying83, by kernel_rfl, by kernel_rfl, by kernel_rfl⟩
theorem TQ24 : StT Tryz.prog 24 [boolB (false), u32S ([])] [(0, 1), (1, 1)] := ⟨by kernel_rfl, ⟨_, Tryz.underlying24, by kernel_rfl⟩, fun k q h => match k, h with | 0, h => by injection h with h; subst h; kernel_rfl | 1, h => by injection h with h; subst h; kernel_rfl | k + 2, h => by simp at h⟩
theorem TS5 : szOf Tryz.prog 5 = some 1 := by kernel_rfl
theorem TS24 : szOf Tryz.prog 24 = some 2 := by kernel_rfl
theorem TS64 : szOf Tryz.prog 64 = some 1 := by kernel_rfl
theorem TU3 : Tryz.prog.underlying 3 = some (.int .i64) := Tryz.underlying3
theorem TU4 : Tryz.prog.underlying 4 = some .bool := Tryz.underlying4
theorem TU5 : Tryz.prog.underlying 5 = some (.int .u8) := Tryz.underlying5
theorem TU9 : Tryz.prog.underlying 9 = some .string := Tryz.underlying9
theorem TU22 : Tryz.prog.underlying 22 = some (.slice 64) := Tryz.underlying22
theorem TU64 : Tryz.prog.underlying 64 = some (.int .u32) := Tryz.underlying64
theorem TU65 : Tryz.prog.underlying 65 = some (.int .u64) := Tryz.underlying65
theorem TU83 : Tryz.prog.underlying 83 = some (.slice 5) := Tryz.underlying83
theorem TZ24 : zeroOf Tryz.prog 24 = some [boolB (false), u32S ([])] := by kernel_rfl
end Go.VL

/- Walks over the Go functions, printed by a program of this session over the kit's print, and by hand. -/
set_option linter.unusedVariables false
set_option linter.unusedSimpArgs false
namespace Go.VL
open Go.Proofs
theorem f64 (L : List Int) (hL : L.length ≤ 1000000000) (ho : ok32 L) : VF Tryz.prog 78 [u32S (L)] (u32S (dg (val L))) := by
  refine VF_of P_mixed Tryz.func78 rfl rfl (by kernel_rfl) <| Sq <| Rg <| Vs (As rfl) <| Nx <| Sq <| Rg <| Vs (Mv rfl) <| Vs (Ls TK22 rfl) <| Vs (As rfl) <| Nx <| Sq <| Bk <| VCode.loop (α := (Int)) (fun k => (0, sl [(0, vS (L)), (3, vI .i64 (k))], en [])) (fun k => 0 ≤ k ∧ k ≤ L.length ∧ ∀ i : Nat, k ≤ i → i < L.length → L.getD i 0 = 0) (fun k => k.toNat) ((L.length : Int)) ⟨by omega, by omega, fun i h1 h2 => by omega⟩ Wk ?_
  intro k hok
  change VCode _ _ _ 0 (sl _) (en _) _
  refine Sq <| Sq <| Rg <| Vs (Mv rfl) <| Vs (Bi rfl) <| Vs (Mv rfl) <| Sp 8 rfl (fun hc1 => ?_) (fun hc1 => ?_)
  · replace hc1 := of_decide_eq_true hc1
    refine Vs (Mv rfl) <| Vs (Mv rfl) <| Vs (Bo rfl suI) <| Vs (Ix TK22 rfl) <| Vs (Lq TA64 rfl) <| Vs (Bi rfl) <| Vs (Pk rfl) <| Nx <| Cd rfl (fun hc2 => ?_) (fun hc2 => ?_)
    · replace hc2 := eq_of_beq hc2
      exact Ks <| Tg <| Bk <| Rg <| Vs (Mv rfl) <| Vs (Bo rfl suI) <| Vs (As rfl) <| VList.nil <| Ig <| Go (k - 1) (by obtain ⟨h1, h2, h3⟩ := hok; refine ⟨by omega, by omega, fun i hi hl => ?_⟩; by_cases hq : k ≤ i; exact h3 i hq hl; have e : i = (k - 1).toNat := (by omega); rw [e]; assumption) Wk
    · replace hc2 := ne_of_beq_false hc2
      exact Ke <| Te <| Oe <| Ih <| Tg <| Sq <| Rg <| Vs (Mv rfl) <| Vs (Mv rfl) <| Vs (Ct TK22 rfl) <| Vs (As rfl) <| Nx <| Re <| Fi (l := [u32S ((L).take (k).toNat)]) (Rc (resVar_tmp rfl rfl) Rn) (by rw [dg_take (k := k.toNat) ho (by omega) (fun i h1 h2 => hok.2.2 i (by omega) h2) (.inr (by have e : k.toNat - 1 = (k - 1).toNat := (by omega); rw [e]; assumption))]; rfl)
  · replace hc1 := of_decide_eq_false hc1
    exact Sk rfl <| Sk rfl <| Sk rfl <| Sk rfl <| Sk rfl <| Sk rfl <| Vs (Pk rfl) <| Nx <| Cz rfl <| Ke <| Te <| Oe <| Ih <| Tg <| Sq <| Rg <| Vs (Mv rfl) <| Vs (Mv rfl) <| Vs (Ct TK22 rfl) <| Vs (As rfl) <| Nx <| Re <| Fi (l := [u32S ((L).take (k).toNat)]) (Rc (resVar_tmp rfl rfl) Rn) (by rw [dg_take (k := k.toNat) ho (by omega) (fun i h1 h2 => hok.2.2 i (by omega) h2) (.inl (by omega))]; rfl)
theorem f36 (neg : Bool) (L : List Int) (hL : L.length ≤ 9223372036854775807) : VF Tryz.prog 62 [.agg [boolB (neg), u32S (L)]] (boolB (validB neg L)) := by
  refine VF_of P_mixed Tryz.func62 rfl rfl (by kernel_rfl) <| Sq <| Rg <| Vs (Bx 0 rfl) <| Vs (As rfl) <| Nx <| Sq <| Rg <| Vs (Fa TF24_1 rfl) <| Vs (Ld TA22 rfl) <| Vs (Ls TK22 rfl) <| Vs (As rfl) <| Nx <| Sq <| Sq <| Rg <| Vs (Mv rfl) <| Vs (Bi rfl) <| Nx <| Cd rfl (fun hc1 => ?_) (fun hc1 => ?_)
  · replace hc1 := eq_of_beq hc1
    exact Sq <| Rg <| Vs (Fa TF24_0 rfl) <| Vs (Ld TA4 rfl) <| Vs (Un rfl) <| Vs (As rfl) <| Nx <| Re <| Tr <| Fi (l := [boolB ((!neg))]) (Rc (resVar_tmp rfl rfl) Rn) (by rw [validB_nil (by omega)]; rfl)
  · replace hc1 := ne_of_beq_false hc1
    refine Ks <| Tg <| Sq <| Rg <| Vs (Mv rfl) <| Vs (Bi rfl) <| Vs (Mv rfl) <| Sp 14 rfl (fun hc2 => ?_) (fun hc2 => ?_)
    · replace hc2 := of_decide_eq_true hc2
      exact Vs (Fa TF24_1 rfl) <| Vs (Ld TA22 rfl) <| Vs (Mv rfl) <| Vs (Bo rfl suI) <| Vs (Ix TK22 rfl) <| Vs (Lq TA64 rfl) <| Vs (Bi rfl) <| Vs (Pk rfl) <| Vs (As rfl) <| Nx <| Re <| Fi (l := [boolB (((L).getD ((((L).length : Int) - 1)).toNat 0 != 0))]) (Rc (resVar_tmp rfl rfl) Rn) (by rw [validB_some (q := ((((L).length : Int) - 1)).toNat) (by omega) (by omega) (by omega)]; rfl)
    · replace hc2 := of_decide_eq_false hc2
      exact Sk rfl <| Sk rfl <| Sk rfl <| Sk rfl <| Sk rfl <| Sk rfl <| Sk rfl <| Vs (Pk rfl) <| Vs (As rfl) <| Nx <| Re <| Fi (l := [boolB (false)]) (Rc (resVar_tmp rfl rfl) Rn) (by rw [validB_long (by omega)]; rfl)
theorem f50 (n : Bool) (A : List Int) (m : Bool) (B : List Int) (hA : A.length ≤ 9223372036854775807) (hB : B.length ≤ 9223372036854775807) : VF Tryz.prog 64 [.agg [boolB (n), u32S (A)], .agg [boolB (m), u32S (B)]] (boolB (validB n A && validB m B)) := by
  refine VF_of P_mixed Tryz.func64 rfl rfl (by kernel_rfl) <| Sq <| Rg <| Vs (Bx 0 rfl) <| Vs (Bx 1 rfl) <| Vs (As rfl) <| Nx <| Sq <| Rg <| Vs (LdS TA24 TS24 rfl) <| Vs (Cf rfl rfl (f36 _ _ (by first | omega | assumption | (simp; done) | (simp; omega))) rfl) <| Vs (Mv rfl) <| Sp 7 rfl (fun hc1 => ?_) (fun hc1 => ?_)
  · replace hc1 := hc1
    exact Vs (LdS TA24 TS24 rfl) <| Vs (Cf rfl rfl (f36 _ _ (by first | omega | assumption | (simp; done) | (simp; omega))) rfl) <| Vs (Pk rfl) <| Vs (As rfl) <| Nx <| Re <| Fi (l := [boolB ((validB (m) (B)))]) (Rc (resVar_tmp rfl rfl) Rn) (by rw [hc1, Bool.true_and]; rfl)
  · replace hc1 := hc1
    exact Sk rfl <| Sk rfl <| Vs (Pk rfl) <| Vs (As rfl) <| Nx <| Re <| Fi (l := [boolB (false)]) (Rc (resVar_tmp rfl rfl) Rn) (by rw [hc1, Bool.false_and]; rfl)
theorem f52 (A B : List Int) (hA : A.length ≤ 900000000) (hB : B.length ≤ 900000000) (oA : ok32 A) (oB : ok32 B) : VF Tryz.prog 66 [u32S (A), u32S (B)] (u32S (dg (val A + val B))) := by
  refine VF_of P_mixed Tryz.func66 rfl rfl (by kernel_rfl) <| Sq <| Rg <| Vs (As rfl) <| Nx <| VCode.join (α := (List Int) × (List Int)) (fun x_ => match x_ with | (X, Y) => (0, sl [(0, vS (X)), (1, vS (Y))], en [])) (fun x_ => match x_ with | (X, Y) => (ok32 X ∧ ok32 Y) ∧ Y.length ≤ X.length ∧ X.length ≤ 900000000 ∧ val X + val Y = val A + val B) ?_ ?_
  · skip
    refine Sq <| Rg <| Vs (Mv rfl) <| Vs (Ls TK22 rfl) <| Vs (Mv rfl) <| Vs (Ls TK22 rfl) <| Vs (Bi rfl) <| Nx <| Cd rfl (fun hc1 => ?_) (fun hc1 => ?_)
    · replace hc1 := of_decide_eq_true hc1
      exact Rg <| Vs (Mv rfl) <| Vs (Mv rfl) <| Vs (As rfl) <| Vs (As rfl) <| VList.nil <| Jg (B, A) ⟨⟨oB, oA⟩, by omega, by omega, by omega⟩ Wk
    · replace hc1 := of_decide_eq_false hc1
      exact Ks <| Jg (A, B) ⟨⟨oA, oB⟩, by omega, by omega, by omega⟩ Wk
  · rintro ⟨X, Y⟩ hok
    obtain ⟨⟨hX, hY⟩, hl, hLX, he⟩ := hok
    change VCode _ _ _ 0 (sl _) (en _) _
    refine Sq <| Rg <| Vs (Mv rfl) <| Vs (Ls TK22 rfl) <| Vs (Bo rfl adI) <| Vs (Mk 3 TK22 rfl) <| Vs (As rfl) <| Nx <| Sq <| Rg <| Vs (Mv rfl) <| Vs (Mv rfl) <| Vs (Cp TK22 rfl rfl) <| Nx <| Sq <| Rg <| Vs (As rfl) <| Nx <| Sq <| Sq <| Rg <| Vs (Mv rfl) <| Vs (Ls TK22 rfl) <| Vs (Mv rfl) <| Nx <| Bk <| VCode.loop (α := (Nat) × (Int) × (List Int)) (fun x_ => match x_ with | (n, c, O) => (4, sl [(0, vS (X)), (1, vS (Y)), (5, .own 3 (((((X).length : Int) + 1)).toNat)), (6, vI .u64 (c)), (24, vI .i64 (((X).length : Int))), (25, vI .i64 ((n : Int)))], en [(3, rowK .u32 (O))])) (fun x_ => match x_ with | (n, c, O) => SumInv X Y O n c) (fun x_ => match x_ with | (n, c, O) => X.length - n) (0, 0, (X).take (Nat.min (X).length (((X).length : Int) + 1).toNat) ++ (List.replicate (((X).length : Int) + 1).toNat 0).drop (Nat.min (X).length (((X).length : Int) + 1).toNat)) (SumInv.start (by first | omega | (simp; done) | (simp; omega))) Wk ?_
    rintro ⟨n, c, O⟩ hok
    change VCode _ _ _ 4 (sl _) (en _) _
    refine Sq <| Rg <| Vs (Bi rfl) <| Nx <| Sq <| Cd rfl (fun hc2 => ?_) (fun hc2 => ?_)
    · replace hc2 := of_decide_eq_true hc2
      refine Ks <| Tg <| Sq <| Bk <| Sq <| Rg <| Vs (Mv rfl) <| Vs (As rfl) <| Nx <| Sq <| ?_
      have hx := ok32_getD hX n
      have hy := ok32_getD hY n
      have h0 := hok.c0
      have h1 := hok.c1
      have hO := hok.len
      refine Rg <| Vs (Mv rfl) <| Vs (Mv rfl) <| Vs (IxN TK22 rfl) <| Vs (Lq TA64 rfl) <| Vs (Cv TU64 TU65 rfl wrW) <| Vs (Mv rfl) <| Vs (Bo rfl adW) <| Vs (As rfl) <| Nx <| Sq <| Sq <| Rg <| Vs (Mv rfl) <| Vs (Mv rfl) <| Vs (Ls TK22 rfl) <| Vs (Bi rfl) <| Nx <| Cd rfl (fun hc3 => ?_) (fun hc3 => ?_)
      · replace hc3 := of_decide_eq_true hc3
        exact Rg <| Vs (Mv rfl) <| Vs (Mv rfl) <| Vs (Mv rfl) <| Vs (IxN TK22 rfl) <| Vs (Lq TA64 rfl) <| Vs (Cv TU64 TU65 rfl wrW) <| Vs (Bo rfl adW) <| Vs (As rfl) <| Nx <| Sq <| Rg <| Vs (Mv rfl) <| Vs (Mv rfl) <| Vs (Mv rfl) <| Vs (Cv TU65 TU64 rfl (wrapM_u32 _)) <| Vs (IrN TK22 rfl) <| Vs (SrK TS64 rfl) <| Nx <| Rg <| Vs (Mv rfl) <| Vs (Bo rfl (srW 4294967296)) <| Vs (As rfl) <| VList.nil <| Ig <| Tg <| Rg <| Vs (Bo rfl adI) <| Vs (Mv rfl) <| VList.nil <| Go (n + 1, (X.getD n 0 + c + Y.getD n 0) / 4294967296, O.set n ((X.getD n 0 + c + Y.getD n 0) % 4294967296)) (SumInv.step hX hY hok (by omega) (by first | rfl | (rw [getD_out (L := Y) (by omega)]; omega))) Wk
      · replace hc3 := of_decide_eq_false hc3
        exact Ks <| Tg <| Sq <| Rg <| Vs (Mv rfl) <| Vs (Mv rfl) <| Vs (Mv rfl) <| Vs (Cv TU65 TU64 rfl (wrapM_u32 _)) <| Vs (IrN TK22 rfl) <| Vs (SrK TS64 rfl) <| Nx <| Rg <| Vs (Mv rfl) <| Vs (Bo rfl (srW 4294967296)) <| Vs (As rfl) <| VList.nil <| Ig <| Tg <| Rg <| Vs (Bo rfl adI) <| Vs (Mv rfl) <| VList.nil <| Go (n + 1, (X.getD n 0 + c) / 4294967296, O.set n ((X.getD n 0 + c) % 4294967296)) (SumInv.step hX hY hok (by omega) (by first | rfl | (rw [getD_out (L := Y) (by omega)]; omega))) Wk
    · replace hc2 := of_decide_eq_false hc2
      refine Ke <| Te <| Oe <| Ih <| Tg <| Sq <| ?_
      have hn := hok.le
      have hO := hok.len
      obtain ⟨e1, e2⟩ := hok.fin (by omega) hl
      exact Rg <| Vs (Mv rfl) <| Vs (Mv rfl) <| Vs (Ls TK22 rfl) <| Vs (Mv rfl) <| Vs (Cv TU65 TU64 rfl (wrapM_u32 _)) <| Vs (IrN TK22 rfl) <| Vs (SrK TS64 rfl) <| Nx <| Sq <| Rg <| Vs (Mv rfl) <| Vs (Cc rfl (Rk (Rr rfl) Rz) (f64 _ (by first | omega | assumption | (simp; done) | (simp; omega)) (e2))) <| Vs (As rfl) <| Nx <| Re <| Fi (l := [u32S (dg (val ((O).set (((X).length)) (((c) % 4294967296)))))]) (Rc (resVar_tmp rfl rfl) Rn) (by rw [e1, he]; rfl)
theorem f53 (A B : List Int) (hA : A.length ≤ 900000000) (hB : B.length ≤ 900000000) (oA : ok32 A) (oB : ok32 B) (hl : B.length ≤ A.length) (hv : val B ≤ val A) : VF Tryz.prog 67 [u32S (A), u32S (B)] (u32S (dg (val A - val B))) := by
  refine VF_of P_mixed Tryz.func67 rfl rfl (by kernel_rfl) <| Sq <| Rg <| Vs (As rfl) <| Nx <| Sq <| Rg <| Vs (Mv rfl) <| Vs (Ls TK22 rfl) <| Vs (Mk 3 TK22 rfl) <| Vs (As rfl) <| Nx <| Sq <| Rg <| Vs (Mv rfl) <| Vs (Mv rfl) <| Vs (Cp TK22 rfl rfl) <| Nx <| Sq <| Rg <| Vs (As rfl) <| Nx <| Sq <| Sq <| Rg <| Vs (Mv rfl) <| Vs (Ls TK22 rfl) <| Vs (Mv rfl) <| Nx <| Bk <| VCode.loop (α := (Nat) × (Int) × (List Int)) (fun x_ => match x_ with | (n, c, O) => (4, sl [(0, vS (A)), (1, vS (B)), (5, .own 3 ((((A).length : Int)).toNat)), (6, vI .u64 (c)), (16, vI .i64 (((A).length : Int))), (17, vI .i64 ((n : Int)))], en [(3, rowK .u32 (O))])) (fun x_ => match x_ with | (n, c, O) => DiffInv A B O n c) (fun x_ => match x_ with | (n, c, O) => A.length - n) (0, 0, (A).take (Nat.min (A).length (((A).length : Int)).toNat) ++ (List.replicate (((A).length : Int)).toNat 0).drop (Nat.min (A).length (((A).length : Int)).toNat)) (DiffInv.start (by simp)) Wk ?_
  rintro ⟨n, c, O⟩ hok
  change VCode _ _ _ 4 (sl _) (en _) _
  refine Sq <| Rg <| Vs (Bi rfl) <| Nx <| Sq <| Cd rfl (fun hc1 => ?_) (fun hc1 => ?_)
  · replace hc1 := of_decide_eq_true hc1
    refine Ks <| Tg <| Sq <| Bk <| Sq <| Rg <| Vs (Mv rfl) <| Vs (As rfl) <| Nx <| Sq <| ?_
    have hx := ok32_getD oA n
    have hy := ok32_getD oB n
    have h0 := hok.c0
    have h1 := hok.c1
    have hO := hok.len
    refine Rg <| Vs (Mv rfl) <| Vs (Mv rfl) <| Vs (IxN TK22 rfl) <| Vs (Lq TA64 rfl) <| Vs (Cv TU64 TU65 rfl wrW) <| Vs (Mv rfl) <| Vs (Bo (c := .int .u64 ((((A).getD (n) 0 - c) % 18446744073709551616))) rfl (bopM_sub_u64 _ _)) <| Vs (As rfl) <| Nx <| Sq <| Sq <| Rg <| Vs (Mv rfl) <| Vs (Mv rfl) <| Vs (Ls TK22 rfl) <| Vs (Bi rfl) <| Nx <| Cd rfl (fun hc2 => ?_) (fun hc2 => ?_)
    · replace hc2 := of_decide_eq_true hc2
      exact Rg <| Vs (Mv rfl) <| Vs (Mv rfl) <| Vs (Mv rfl) <| Vs (IxN TK22 rfl) <| Vs (Lq TA64 rfl) <| Vs (Cv TU64 TU65 rfl wrW) <| Vs (Bo (c := .int .u64 ((((((A).getD (n) 0 - c) % 18446744073709551616) - (B).getD (n) 0) % 18446744073709551616))) rfl (bopM_sub_u64 _ _)) <| Vs (As rfl) <| Nx <| Sq <| Rg <| Vs (Mv rfl) <| Vs (Mv rfl) <| Vs (Mv rfl) <| Vs (Cv TU65 TU64 rfl (wrapM_u32 _)) <| Vs (IrN TK22 rfl) <| Vs (SrK TS64 rfl) <| Nx <| Rg <| Vs (Mv rfl) <| Vs (Bo rfl (srW 9223372036854775808)) <| Vs (As rfl) <| VList.nil <| Ig <| Tg <| Rg <| Vs (Bo rfl adI) <| Vs (Mv rfl) <| VList.nil <| Go (n + 1, ((A.getD n 0 - c) % 18446744073709551616 - B.getD n 0) % 18446744073709551616 / 9223372036854775808, O.set n (((A.getD n 0 - c) % 18446744073709551616 - B.getD n 0) % 18446744073709551616 % 4294967296)) (DiffInv.step oA oB hok (by omega) (by first | omega | (rw [getD_out (L := B) (by omega)]; omega))) Wk
    · replace hc2 := of_decide_eq_false hc2
      exact Ks <| Tg <| Sq <| Rg <| Vs (Mv rfl) <| Vs (Mv rfl) <| Vs (Mv rfl) <| Vs (Cv TU65 TU64 rfl (wrapM_u32 _)) <| Vs (IrN TK22 rfl) <| Vs (SrK TS64 rfl) <| Nx <| Rg <| Vs (Mv rfl) <| Vs (Bo rfl (srW 9223372036854775808)) <| Vs (As rfl) <| VList.nil <| Ig <| Tg <| Rg <| Vs (Bo rfl adI) <| Vs (Mv rfl) <| VList.nil <| Go (n + 1, (A.getD n 0 - c) % 18446744073709551616 / 9223372036854775808, O.set n ((A.getD n 0 - c) % 18446744073709551616 % 4294967296)) (DiffInv.step oA oB hok (by omega) (by first | omega | (rw [getD_out (L := B) (by omega)]; omega))) Wk
  · replace hc1 := of_decide_eq_false hc1
    refine Ke <| Te <| Oe <| Ih <| Tg <| Sq <| ?_
    have hn := hok.le
    have hO := hok.len
    obtain ⟨e1, e2⟩ := hok.fin oB (by omega) hl hv
    exact Rg <| Vs (Mv rfl) <| Vs (Cc rfl (Rk (Rr rfl) Rz) (f64 _ (by first | omega | assumption | (simp; done) | (simp; omega)) (e2))) <| Vs (As rfl) <| Nx <| Re <| Fi (l := [u32S (dg (val (O)))]) (Rc (resVar_tmp rfl rfl) Rn) (by rw [e1]; rfl)
theorem f60 (A : List Int) (d : Int) (hA : A.length ≤ 900000000) (oA : ok32 A) (hd : 0 < d) (hd1 : d < 4294967296) : VF Tryz.prog 75 [u32S (A), numB .u32 (d)] (.tup [u32S (dg (val A / d)), numB .u32 (val A % d)]) := by
  refine VF_of P_mixed Tryz.func75 rfl rfl (by kernel_rfl) <| Sq <| Rg <| Vs (As rfl) <| Vs (As rfl) <| Nx <| Sq <| Rg <| Vs (Mv rfl) <| Vs (Ls TK22 rfl) <| Vs (Mk 4 TK22 rfl) <| Vs (As rfl) <| Nx <| Sq <| Rg <| Vs (As rfl) <| Nx <| Sq <| Sq <| Rg <| Vs (Mv rfl) <| Vs (Ls TK22 rfl) <| Vs (Mv rfl) <| Nx <| Bk <| VCode.loop (α := (Nat) × (Int) × (List Int)) (fun x_ => match x_ with | (n, r, O) => (5, sl [(0, vS (A)), (1, vI .u32 (d)), (6, .own 4 ((((A).length : Int)).toNat)), (7, vI .u64 (r)), (15, vI .i64 (((A).length : Int))), (16, vI .i64 ((n : Int)))], en [(4, rowK .u32 (O))])) (fun x_ => match x_ with | (n, r, O) => SmallInv A O d n r) (fun x_ => match x_ with | (n, r, O) => A.length - n) (0, 0, List.replicate (((A).length : Int)).toNat 0) (SmallInv.start (by simp) hd) Wk ?_
  rintro ⟨n, r, O⟩ hok
  change VCode _ _ _ 5 (sl _) (en _) _
  refine Sq <| Rg <| Vs (Bi rfl) <| Nx <| Sq <| Cd rfl (fun hc1 => ?_) (fun hc1 => ?_)
  · replace hc1 := of_decide_eq_true hc1
    refine Ks <| Tg <| Sq <| Bk <| Sq <| Rg <| Vs (Mv rfl) <| Vs (As rfl) <| Nx <| Sq <| Rg <| Vs (Mv rfl) <| Vs (Ls TK22 rfl) <| Vs (Bo rfl suI) <| Vs (Mv rfl) <| Vs (Bo rfl suI) <| Vs (As rfl) <| Nx <| Sq <| ?_
    have hx := ok32_getD oA ((((A).length : Int) - 1) - (n : Int)).toNat
    have h0 := hok.r0
    have h1 := hok.r1
    have hO := hok.len
    have hw := div_word ⟨h0, h1⟩ hd1 hx rfl
    exact Rg <| Vs (Mv rfl) <| Vs (Bo (c := .int .u64 ((r * 4294967296))) rfl (bop_shlL_u64 (q := 4294967296) (by decide) (by decide) (by decide) (by omega))) <| Vs (Mv rfl) <| Vs (Mv rfl) <| Vs (Ix TK22 rfl) <| Vs (Lq TA64 rfl) <| Vs (Cv TU64 TU65 rfl wrW) <| Vs (Bo (c := .int .u64 (((r * 4294967296) + (A).getD (((((A).length : Int) - 1) - (n : Int))).toNat 0))) rfl (bop_or_u64 (q := 4294967296) 32 (by decide) ⟨r, h0, rfl⟩ hx (by omega))) <| Vs (As rfl) <| Nx <| Sq <| Rg <| Vs (Mv rfl) <| Vs (Mv rfl) <| Vs (Mv rfl) <| Vs (Mv rfl) <| Vs (Cv TU64 TU65 rfl wrW) <| Vs (Bo rfl quW) <| Vs (Cv TU65 TU64 rfl (wrapM_u32 _)) <| Vs (Ir TK22 rfl) <| Vs (SrK TS64 rfl) <| Nx <| Rg <| Vs (Mv rfl) <| Vs (Mv rfl) <| Vs (Cv TU64 TU65 rfl wrW) <| Vs (Bo rfl reW) <| Vs (As rfl) <| VList.nil <| Ig <| Tg <| Rg <| Vs (Bo rfl adI) <| Vs (Mv rfl) <| VList.nil <| Go (n + 1, ((r * 4294967296) + (A).getD ((((A).length : Int) - 1) - (n : Int)).toNat 0) % d, O.set ((((A).length : Int) - 1) - (n : Int)).toNat ((((r * 4294967296) + (A).getD ((((A).length : Int) - 1) - (n : Int)).toNat 0) / d) % 4294967296)) (hok.step oA hd1 (by omega) rfl) Wk
  · replace hc1 := of_decide_eq_false hc1
    refine Ke <| Te <| Oe <| Ih <| Tg <| Sq <| ?_
    have hn := hok.le
    have hO := hok.len
    have h0 := hok.r0
    have h1 := hok.r1
    obtain ⟨e1, e2, e3⟩ := hok.fin (by omega) oA
    exact Rg <| Vs (Mv rfl) <| Vs (Cc rfl (Rk (Rr rfl) Rz) (f64 _ (by first | omega | assumption | (simp; done) | (simp; omega)) (e1))) <| Vs (Mv rfl) <| Vs (Cv TU65 TU64 rfl (wrapM_u32 _)) <| Vs (As rfl) <| Vs (As rfl) <| Nx <| Re <| Fi (l := [u32S (dg (val (O))), numB .u32 (((r) % 4294967296))]) (Rc (resVar_tmp rfl rfl) (Rc (resVar_tmp rfl rfl) Rn)) (by rw [e2, e3, show val A % d % 4294967296 = val A % d by omega]; rfl)
theorem f63 (A B : List Int) (hA : A.length ≤ 400000000) (hB : B.length ≤ 400000000) (oA : ok32 A) (oB : ok32 B) : VF Tryz.prog 72 [u32S (A), u32S (B)] (u32S (dg (val A * val B))) := by
  refine VF_of P_mixed Tryz.func72 rfl rfl (by kernel_rfl) <| Sq <| Rg <| Vs (As rfl) <| Nx <| Sq <| Rg <| Vs (Mv rfl) <| Vs (Ls TK22 rfl) <| Vs (Mv rfl) <| Vs (Ls TK22 rfl) <| Vs (Bo rfl adI) <| Vs (Mk 6 TK22 rfl) <| Vs (As rfl) <| Nx <| Sq <| Sq <| Rg <| Vs (Mv rfl) <| Vs (Ls TK22 rfl) <| Vs (Mv rfl) <| Nx <| Bk <| VCode.loop (α := (Nat) × (List Int)) (fun x_ => match x_ with | (n, O) => (7, sl [(0, vS (A)), (1, vS (B)), (5, .own 6 (((((A).length : Int) + ((B).length : Int))).toNat)), (17, vI .i64 (((A).length : Int))), (18, vI .i64 ((n : Int)))], en [(6, rowK .u32 (O))])) (fun x_ => match x_ with | (n, O) => ProdInv A B O n) (fun x_ => match x_ with | (n, O) => A.length - n) (0, List.replicate (((A).length : Int) + ((B).length : Int)).toNat 0) (ProdInv.start (by first | rfl | (congr 1; omega))) Wk ?_
  rintro ⟨n, O⟩ hok
  change VCode _ _ _ 7 (sl _) (en _) _
  refine Sq <| Rg <| Vs (Bi rfl) <| Nx <| Sq <| Cd rfl (fun hc1 => ?_) (fun hc1 => ?_)
  · replace hc1 := of_decide_eq_true hc1
    refine Ks <| Tg <| Sq <| Bk <| Sq <| Rg <| Vs (Mv rfl) <| Vs (As rfl) <| Nx <| Sq <| Rg <| Vs (As rfl) <| Nx <| Sq <| Sq <| Rg <| Vs (Mv rfl) <| Vs (Ls TK22 rfl) <| Vs (Mv rfl) <| Nx <| Bk <| VCode.loop (α := (Nat) × (Int) × (List Int)) (fun x_ => match x_ with | (k, c, O) => (7, sl [(0, vS (A)), (1, vS (B)), (5, .own 6 (((((A).length : Int) + ((B).length : Int))).toNat)), (6, vI .i64 ((n : Int))), (7, vI .u64 (c)), (17, vI .i64 (((A).length : Int))), (18, vI .i64 ((n : Int))), (22, vI .i64 (((B).length : Int))), (23, vI .i64 ((k : Int)))], en [(6, rowK .u32 (O))])) (fun x_ => match x_ with | (k, c, O) => ProdIn A B O n k c) (fun x_ => match x_ with | (k, c, O) => B.length - k) (0, 0, O) (hok.enter (by omega)) Wk ?_
    rintro ⟨k, c, O⟩ hok2
    change VCode _ _ _ 7 (sl _) (en _) _
    refine Sq <| Rg <| Vs (Bi rfl) <| Nx <| Sq <| Cd rfl (fun hc2 => ?_) (fun hc2 => ?_)
    · replace hc2 := of_decide_eq_true hc2
      refine Ks <| Tg <| Sq <| Bk <| Sq <| Rg <| Vs (Mv rfl) <| Vs (As rfl) <| Nx <| Sq <| ?_
      have hi : (((n : Int)) + ((k : Int))).toNat = n + k := (by omega)
      have hx := ok32_getD oA n
      have hy := ok32_getD oB k
      have hxy := mul_small hx hy
      have hz := ok32_getD hok2.ok (((n : Int)) + ((k : Int))).toNat
      have h0 := hok2.c0
      have h1 := hok2.c1
      have hO := hok2.len
      have hkl := hok2.le
      refine Rd (by kernel_rfl) <| Vl (Mv rfl) <| Vl (Mv rfl) <| Vl (IxN TK22 rfl) <| Vl (Lq TA64 rfl) <| Vl (Cv TU64 TU65 rfl wrW) <| Vl (Mv rfl) <| Vl (Mv rfl) <| Vl (IxN TK22 rfl) <| Vl (Lq TA64 rfl) <| Vl (Cv TU64 TU65 rfl wrW) <| Vl (Bo rfl muW) <| Vl (Mv rfl) <| Vl (Mv rfl) <| Vl (Mv rfl) <| Vl (Bo rfl adI) <| Vl (Ir TK22 rfl) <| Vl (LrK TA64 rfl) <| Vl (Cv TU64 TU65 rfl wrW) <| Vl (Bo rfl adW) <| Vl (Mv rfl) <| Vl (Bo rfl adW) <| Vl (As rfl) <| ?_
      refine VLog.nil ⟨by kernel_rfl, ?_⟩
      exact Tg <| Sq <| Rg <| Vs (Mv rfl) <| Vs (Mv rfl) <| Vs (Mv rfl) <| Vs (Bo rfl adI) <| Vs (Mv rfl) <| Vs (Cv TU65 TU64 rfl (wrapM_u32 _)) <| Vs (Ir TK22 rfl) <| Vs (SrK TS64 rfl) <| Nx <| Rg <| Vs (Mv rfl) <| Vs (Bo rfl (srW 4294967296)) <| Vs (As rfl) <| VList.nil <| Ig <| Tg <| Rg <| Vs (Bo rfl adI) <| Vs (Mv rfl) <| VList.nil <| Go (k + 1, (A.getD n 0 * B.getD k 0 + O.getD (((n : Int)) + ((k : Int))).toNat 0 + c) / 4294967296, O.set (((n : Int)) + ((k : Int))).toNat ((A.getD n 0 * B.getD k 0 + O.getD (((n : Int)) + ((k : Int))).toNat 0 + c) % 4294967296)) (by rw [hi]; exact hok2.step oA oB (by omega) rfl) Wk
    · replace hc2 := of_decide_eq_false hc2
      refine Ke <| Te <| Oe <| Ih <| Tg <| ?_
      have hO := hok2.len
      have hkl := hok2.le
      have h0 := hok2.c0
      have h1 := hok2.c1
      exact Rg <| Vs (Mv rfl) <| Vs (Mv rfl) <| Vs (Mv rfl) <| Vs (Ls TK22 rfl) <| Vs (Bo rfl adI) <| Vs (Mv rfl) <| Vs (Cv TU65 TU64 rfl (wrapM_u32 _)) <| Vs (Ir TK22 rfl) <| Vs (SrK TS64 rfl) <| VList.nil <| Ig <| Tg <| Rg <| Vs (Bo rfl adI) <| Vs (Mv rfl) <| VList.nil <| Go (n + 1, O.set (((n : Int)) + ((B).length : Int)).toNat (c % 4294967296)) (by have hi : (((n : Int)) + ((B).length : Int)).toNat = n + B.length := (by omega); rw [hi]; exact hok2.leave (by omega)) Wk
  · replace hc1 := of_decide_eq_false hc1
    refine Ke <| Te <| Oe <| Ih <| Tg <| Sq <| ?_
    have hn := hok.le
    have hO := hok.len
    have e1 := hok.fin (by omega)
    exact Rg <| Vs (Mv rfl) <| Vs (Cc rfl (Rk (Rr rfl) Rz) (f64 _ (by first | omega | assumption | (simp; done) | (simp; omega)) (hok.ok))) <| Vs (As rfl) <| Nx <| Re <| Fi (l := [u32S (dg (val (O)))]) (Rc (resVar_tmp rfl rfl) Rn) (by rw [e1]; rfl)
theorem f67 (L : List Int) (n : Int) (hL : L.length ≤ 400000000) (oL : ok32 L) (h0 : 0 ≤ n) (h1 : n ≤ 1000000000) : VF Tryz.prog 68 [u32S (L), numB .i64 (n)] (u32S (dg (val L * 2 ^ n.toNat))) := by
  refine VF_of P_mixed Tryz.func68 rfl rfl (by kernel_rfl) <| Sq <| Rg <| Vs (As rfl) <| Nx <| Sq <| Rg <| Vs (Mv rfl) <| Vs (Ls TK22 rfl) <| Vs (Mv rfl) <| Vs (Bo rfl quI) <| Vs (Bo rfl adI) <| Vs (Bo rfl adI) <| Vs (Mk 7 TK22 rfl) <| Vs (As rfl) <| Nx <| Sq <| Sq <| Rg <| Vs (Mv rfl) <| Vs (Ls TK22 rfl) <| Vs (Mv rfl) <| Nx <| Bk <| VCode.loop (α := (Nat) × (List Int)) (fun x_ => match x_ with | (k, O) => (8, sl [(0, vS (L)), (1, vI .i64 (n)), (5, .own 7 ((((((L).length : Int) + (n / 32)) + 1)).toNat)), (16, vI .i64 (((L).length : Int))), (17, vI .i64 ((k : Int)))], en [(7, rowK .u32 (O))])) (fun x_ => match x_ with | (k, O) => LeftInv L O (n / 32).toNat (n % 32).toNat k) (fun x_ => match x_ with | (k, O) => L.length - k) (0, List.replicate ((((L).length : Int) + (n / 32)) + 1).toNat 0) (by have e : ((((L).length : Int) + (n / 32)) + 1).toNat = L.length + (n / 32).toNat + 1 := (by omega); show LeftInv L (List.replicate _ 0) _ _ 0; rw [e]; exact LeftInv.start) Wk ?_
  rintro ⟨k, O⟩ hok
  change VCode _ _ _ 8 (sl _) (en _) _
  refine Sq <| Rg <| Vs (Bi rfl) <| Nx <| Sq <| Cd rfl (fun hc1 => ?_) (fun hc1 => ?_)
  · replace hc1 := of_decide_eq_true hc1
    refine Ks <| Tg <| Sq <| Bk <| Sq <| Rg <| Vs (Mv rfl) <| Vs (As rfl) <| Nx <| Sq <| ?_
    have hx := ok32_getD oL k
    have hs := shl_word (r := (n % 32).toNat) (by omega) hx
    have hO := hok.len
    have hi : (((k : Int)) + (n / 32)).toNat = k + (n / 32).toNat := (by omega)
    have hi1 : ((((k : Int)) + (n / 32)) + 1).toNat = k + (n / 32).toNat + 1 := (by omega)
    have hz := ok32_getD hok.ok (k + (n / 32).toNat)
    have htop := hok.top
    have hsum := hok.sum oL (by omega) (by omega) rfl
    rw [← hi] at hz htop hsum
    exact Rg <| Vs (Mv rfl) <| Vs (Mv rfl) <| Vs (IxN TK22 rfl) <| Vs (Lq TA64 rfl) <| Vs (Cv TU64 TU65 rfl wrW) <| Vs (Mv rfl) <| Vs (Bo rfl reI) <| Vs (Bo (c := .int .u64 (((L).getD (k) 0 * 2 ^ ((n % 32)).toNat))) rfl (bop_shl_u64 (by omega) (by omega) (by omega))) <| Vs (As rfl) <| Nx <| Sq <| Rg <| Vs (Mv rfl) <| Vs (Mv rfl) <| Vs (Mv rfl) <| Vs (Bo rfl quI) <| Vs (Bo rfl adI) <| Vs (Ir TK22 rfl) <| Vs (LrK TA64 rfl) <| Vs (Mv rfl) <| Vs (Cv TU65 TU64 rfl (wrapM_u32 _)) <| Vs (Bo (c := .int .u32 (((O).getD ((((k : Int) + (n / 32))).toNat) 0 + ((((L).getD (k) 0 * 2 ^ ((n % 32)).toNat)) % 4294967296)))) rfl (bop_orR_u32 (q := 2 ^ (n % 32).toNat) (n % 32).toNat rfl ⟨hz.1, htop⟩ (shl_low (by omega) hx.1) (by omega))) <| Vs (Ir TK22 rfl) <| Vs (SrK TS64 rfl) <| Nx <| Rg <| Vs (Mv rfl) <| Vs (Mv rfl) <| Vs (Mv rfl) <| Vs (Bo rfl quI) <| Vs (Bo rfl adI) <| Vs (Bo rfl adI) <| Vs (Mv rfl) <| Vs (Bo rfl (srW 4294967296)) <| Vs (Cv TU65 TU64 rfl (wrapM_u32 _)) <| Vs (Ir TK22 rfl) <| Vs (SrK TS64 rfl) <| VList.nil <| Ig <| Tg <| Rg <| Vs (Bo rfl adI) <| Vs (Mv rfl) <| VList.nil <| Go (k + 1, ((O).set ((((k : Int)) + (n / 32)).toNat) ((O).getD ((((k : Int)) + (n / 32)).toNat) 0 + (((L).getD (k) 0 * 2 ^ (n % 32).toNat) % 4294967296))).set (((((k : Int)) + (n / 32)) + 1).toNat) ((((L).getD (k) 0 * 2 ^ (n % 32).toNat) / 4294967296) % 4294967296)) (by show LeftInv L (((O).set ((((k : Int)) + (n / 32)).toNat) ((O).getD ((((k : Int)) + (n / 32)).toNat) 0 + (((L).getD (k) 0 * 2 ^ (n % 32).toNat) % 4294967296))).set (((((k : Int)) + (n / 32)) + 1).toNat) ((((L).getD (k) 0 * 2 ^ (n % 32).toNat) / 4294967296) % 4294967296)) _ _ (k + 1); rw [hi, hi1]; exact hok.step oL (by omega) (by omega) rfl) Wk
  · replace hc1 := of_decide_eq_false hc1
    refine Ke <| Te <| Oe <| Ih <| Tg <| Sq <| ?_
    have hle := hok.le
    have hO := hok.len
    have e1 := hok.fin (m := n.toNat) (by omega) (by omega)
    exact Rg <| Vs (Mv rfl) <| Vs (Cc rfl (Rk (Rr rfl) Rz) (f64 _ (by first | omega | assumption | (simp; done) | (simp; omega)) (hok.ok))) <| Vs (As rfl) <| Nx <| Re <| Fi (l := [u32S (dg (val (O)))]) (Rc (resVar_tmp rfl rfl) Rn) (by rw [e1]; rfl)
theorem f74 (A B : List Int) (hA : A.length ≤ 900000000) (hB : B.length ≤ 900000000) (oA : ok32 A) (oB : ok32 B) (hn : A.length ≠ B.length → cmp3 (val A) (val B) = if A.length < B.length then -1 else 1) : VF Tryz.prog 71 [u32S (A), u32S (B)] (numB .i64 (cmp3 (val A) (val B))) := by
  refine VF_of P_mixed Tryz.func71 rfl rfl (by kernel_rfl) <| Sq <| Rg <| Vs (As rfl) <| Nx <| Sq <| Sq <| Rg <| Vs (Mv rfl) <| Vs (Ls TK22 rfl) <| Vs (Mv rfl) <| Vs (Ls TK22 rfl) <| Vs (Bi rfl) <| Nx <| Cd rfl (fun hc1 => ?_) (fun hc1 => ?_)
  · replace hc1 := bne_iff_ne.1 hc1
    refine Sq <| Sq <| Rg <| Vs (Mv rfl) <| Vs (Ls TK22 rfl) <| Vs (Mv rfl) <| Vs (Ls TK22 rfl) <| Vs (Bi rfl) <| Nx <| Cd rfl (fun hc2 => ?_) (fun hc2 => ?_)
    · replace hc2 := of_decide_eq_true hc2
      exact Sq <| Rg <| Vs (As rfl) <| Nx <| Re <| Tr <| Tr <| Fi (l := [numB .i64 ((-1))]) (Rc (resVar_tmp rfl rfl) Rn) (by rw [hn (by omega), if_pos (by omega)]; rfl)
    · replace hc2 := of_decide_eq_false hc2
      exact Ks <| Tg <| Sq <| Rg <| Vs (As rfl) <| Nx <| Re <| Tr <| Fi (l := [numB .i64 (1)]) (Rc (resVar_tmp rfl rfl) Rn) (by rw [hn (by omega), if_neg (by omega)]; rfl)
  · replace hc1 := bne_eq_false_iff_eq.1 hc1
    refine Ks <| Tg <| Sq <| Sq <| Rg <| Vs (Mv rfl) <| Vs (Ls TK22 rfl) <| Vs (Mv rfl) <| Nx <| Bk <| VCode.loop (α := (Nat)) (fun n => (0, sl [(0, vS (A)), (1, vS (B)), (18, vI .i64 (((A).length : Int))), (19, vI .i64 ((n : Int)))], en [])) (fun n => CmpInv A B n) (fun n => A.length - n) (0) (CmpInv.start (by omega)) Wk ?_
    intro n hok
    change VCode _ _ _ 0 (sl _) (en _) _
    refine Sq <| Rg <| Vs (Bi rfl) <| Nx <| Sq <| Cd rfl (fun hc3 => ?_) (fun hc3 => ?_)
    · replace hc3 := of_decide_eq_true hc3
      refine Ks <| Tg <| Sq <| Bk <| Sq <| Rg <| Vs (Mv rfl) <| Vs (As rfl) <| Nx <| Sq <| Rg <| Vs (Mv rfl) <| Vs (Ls TK22 rfl) <| Vs (Bo rfl suI) <| Vs (Mv rfl) <| Vs (Bo rfl suI) <| Vs (As rfl) <| Nx <| Sq <| ?_
      have hlen := hok.len
      refine Rd (by kernel_rfl) <| Vl (Mv rfl) <| Vl (Mv rfl) <| Vl (Ix TK22 rfl) <| Vl (Lq TA64 rfl) <| Vl (Mv rfl) <| Vl (Mv rfl) <| Vl (Ix TK22 rfl) <| Vl (Lq TA64 rfl) <| Vl (Bi rfl) <| ?_
      refine VLog.nil ⟨by kernel_rfl, ?_⟩
      refine Tg <| Cd rfl (fun hc4 => ?_) (fun hc4 => ?_)
      · replace hc4 := bne_iff_ne.1 hc4
        refine Sq <| Sq <| Rd (by kernel_rfl) <| Vl (Mv rfl) <| Vl (Mv rfl) <| Vl (Ix TK22 rfl) <| Vl (Lq TA64 rfl) <| Vl (Mv rfl) <| Vl (Mv rfl) <| Vl (Ix TK22 rfl) <| Vl (Lq TA64 rfl) <| Vl (Bi rfl) <| ?_
        refine VLog.nil ⟨by kernel_rfl, ?_⟩
        refine Tg <| Cd rfl (fun hc5 => ?_) (fun hc5 => ?_)
        · replace hc5 := of_decide_eq_true hc5
          exact Sq <| Rg <| Vs (As rfl) <| Nx <| Re <| Tr <| Iq <| Tr <| Or <| Iq <| Tr <| Fi (l := [numB .i64 ((-1))]) (Rc (resVar_tmp rfl rfl) Rn) (by rw [hok.diff (q := ((((A).length : Int) - 1) - (n : Int)).toNat) oA oB (by omega) hc4, if_pos hc5]; rfl)
        · replace hc5 := of_decide_eq_false hc5
          exact Ks <| Tg <| Sq <| Rg <| Vs (As rfl) <| Nx <| Re <| Iq <| Tr <| Or <| Iq <| Tr <| Fi (l := [numB .i64 (1)]) (Rc (resVar_tmp rfl rfl) Rn) (by rw [hok.diff (q := ((((A).length : Int) - 1) - (n : Int)).toNat) oA oB (by omega) hc4, if_neg hc5]; rfl)
      · replace hc4 := bne_eq_false_iff_eq.1 hc4
        exact Ks <| Ig <| Tg <| Rg <| Vs (Bo rfl adI) <| Vs (Mv rfl) <| VList.nil <| Go (n + 1) (hok.step (q := ((((A).length : Int) - 1) - (n : Int)).toNat) (by omega) hc4) Wk
    · replace hc3 := of_decide_eq_false hc3
      refine Ke <| Te <| Oe <| Ih <| Tg <| Sq <| ?_
      have hle := hok.le
      exact Rg <| Vs (As rfl) <| Nx <| Re <| Fi (l := [numB .i64 (0)]) (Rc (resVar_tmp rfl rfl) Rn) (by rw [hok.fin (by omega)]; rfl)
theorem f54 (neg : Bool) (L : List Int) (hL : L.length ≤ 1000000000) (oL : ok32 L) : VF Tryz.prog 47 [boolB (neg), u32S (L)] (zR (sg neg (val L))) := by
  refine VF_of P_mixed Tryz.func47 rfl rfl (by kernel_rfl) <| Sq <| Rg <| Vs (Al 0 TZ24 rfl) <| Vs (As rfl) <| Nx <| Sq <| Rg <| Vs (Mv rfl) <| Vs (C0 rfl rfl (f64 _ (by first | omega | assumption | (simp; done) | (simp; omega)) (by first | omega | assumption | (simp; done) | (simp; omega)))) <| Vs (As rfl) <| Nx <| Sq <| Sq <| ?_
  have hv := val_nonneg oL
  refine Rg <| Vs (Mv rfl) <| Vs (Ls TK22 rfl) <| Vs (Bi rfl) <| Nx <| Cd rfl (fun hc1 => ?_) (fun hc1 => ?_)
  · replace hc1 := of_decide_eq_true hc1
    exact Sq <| Rg <| Vs (Bd TQ24 rfl) <| Vs (StS TS24 rfl) <| Vs (As rfl) <| Nx <| Re <| Tr <| Fi (l := [.agg [boolB (false), u32S ([])], numB .i64 (2)]) (Rc (resVar_cell rfl rfl TA24 TS24 (Nat.le_of_ble_eq_true rfl) rfl) (Rc (resVar_tmp rfl rfl) Rn)) (by obtain ⟨r1, r2, r3⟩ := res_big (neg := neg) hv hc1; rw [zR, r1, r2, r3]; rfl)
  · replace hc1 := of_decide_eq_false hc1
    refine Ks <| Tg <| Sq <| Rg <| Vs (Mv rfl) <| Vs (Ls TK22 rfl) <| Vs (Mk 10 TK22 rfl) <| Vs (As rfl) <| Nx <| Sq <| Rg <| Vs (Mv rfl) <| Vs (Mv rfl) <| Vs (Cp TK22 rfl rfl) <| Nx <| Sq <| Rg <| Vs (Mv rfl) <| Vs (Mv rfl) <| Sp 20 rfl (fun hc2 => ?_) (fun hc2 => ?_)
    · (try simp at hc2)
      exact Vs (Mv rfl) <| Vs (Ls TK22 rfl) <| Vs (Bi rfl) <| Vs (Pk rfl) <| Vs (Mv rfl) <| Vs (Bd TQ24 rfl) <| Vs (StS TS24 rfl) <| Vs (As rfl) <| Nx <| Re <| Fi (l := [.agg [boolB (decide (((dg (val (L))).length : Int) > 0)), u32S ((dg (val (L))).take (Nat.min (dg (val (L))).length ((((dg (val (L))).length : Int)).toNat)) ++ (List.replicate (((dg (val (L))).length : Int)).toNat 0).drop (Nat.min (dg (val (L))).length ((((dg (val (L))).length : Int)).toNat)))], numB .i64 (0)]) (Rc (resVar_cell rfl rfl TA24 TS24 (Nat.le_of_ble_eq_true rfl) (Ra rfl (hl := (by simp)))) (Rc (resVar_tmp rfl rfl) Rn)) (by obtain ⟨r1, r2, r3⟩ := res_small (neg := neg) hv hc1; rw [zR, r1, r2, r3, copy_all, hc2, Bool.true_and]; rfl)
    · (try simp at hc2)
      exact Sk rfl <| Sk rfl <| Sk rfl <| Vs (Pk rfl) <| Vs (Mv rfl) <| Vs (Bd TQ24 rfl) <| Vs (StS TS24 rfl) <| Vs (As rfl) <| Nx <| Re <| Fi (l := [.agg [boolB (false), u32S ((dg (val (L))).take (Nat.min (dg (val (L))).length ((((dg (val (L))).length : Int)).toNat)) ++ (List.replicate (((dg (val (L))).length : Int)).toNat 0).drop (Nat.min (dg (val (L))).length ((((dg (val (L))).length : Int)).toNat)))], numB .i64 (0)]) (Rc (resVar_cell rfl rfl TA24 TS24 (Nat.le_of_ble_eq_true rfl) (Ra rfl (hl := (by simp)))) (Rc (resVar_tmp rfl rfl) Rn)) (by obtain ⟨r1, r2, r3⟩ := res_small (neg := neg) hv hc1; rw [zR, r1, r2, r3, copy_all, hc2, Bool.false_and]; rfl)
theorem f75 (n : Bool) (A : List Int) (m : Bool) (B : List Int) (hA : A.length ≤ 128) (hB : B.length ≤ 128) (nA : norm A) (nB : norm B) : VF Tryz.prog 79 [boolB (n), u32S (A), boolB (m), u32S (B)] (zR (sg n (val A) + sg m (val B))) := by
  refine VF_of P_mixed Tryz.func79 rfl rfl (by kernel_rfl) <| Sq <| Rg <| Vs (Al 0 TZ24 rfl) <| Vs (As rfl) <| Nx <| Sq <| Sq <| ?_
  have oA := nA.1
  have oB := nB.1
  have vA := val_nonneg oA
  have vB := val_nonneg oB
  have la := len_dg (v := val A + val B) (by omega) 129
  have lb := val_lt oA
  have lc := val_lt oB
  refine Rg <| Vs (Mv rfl) <| Vs (Mv rfl) <| Vs (Bb TU4 rfl) <| Nx <| Cd rfl (fun hc1 => ?_) (fun hc1 => ?_)
  · replace hc1 := eq_of_beq hc1
    exact Sq <| Rg <| Vs (Mv rfl) <| Vs (Mv rfl) <| Vs (Mv rfl) <| Vs (C0 rfl rfl (f52 _ _ (by first | omega | assumption | (simp; done) | (simp; omega)) (by first | omega | assumption | (simp; done) | (simp; omega)) (by first | omega | assumption | (simp; done) | (simp; omega)) (by first | omega | assumption | (simp; done) | (simp; omega)))) <| Vs (C0 rfl rfl (f54 _ _ (add_len nA.1 nB.1 hA hB) (ok32_dg _))) <| Vs (Xt rfl) <| Vs (Xt rfl) <| Vs (StS TS24 rfl) <| Vs (As rfl) <| Nx <| Re <| Tr <| Fi (l := [.agg [boolB (zN (sg (n) (val (dg (val (A) + val (B)))))), u32S (zL (sg (n) (val (dg (val (A) + val (B))))))], numB .i64 (zE (sg (n) (val (dg (val (A) + val (B))))))]) (Rc (resVar_cell rfl rfl TA24 TS24 (Nat.le_of_ble_eq_true rfl) rfl) (Rc (resVar_tmp rfl rfl) Rn)) (by rw [val_dg (by omega), sg_add, ← hc1]; rfl)
  · replace hc1 := ne_of_beq_false hc1
    refine Ks <| Tg <| Sq <| Sq <| Rg <| Vs (Mv rfl) <| Vs (Mv rfl) <| Vs (Cf rfl rfl (f74 _ _ (by first | omega | assumption | (simp; done) | (simp; omega)) (by first | omega | assumption | (simp; done) | (simp; omega)) (by first | omega | assumption | (simp; done) | (simp; omega)) (by first | omega | assumption | (simp; done) | (simp; omega)) (fun h => cmp_len nA nB h)) rfl) <| Vs (Bi rfl) <| Nx <| Cd rfl (fun hc2 => ?_) (fun hc2 => ?_)
    · replace hc2 := of_decide_eq_true hc2
      exact Sq <| Rg <| Vs (Mv rfl) <| Vs (Mv rfl) <| Vs (Mv rfl) <| Vs (C0 rfl rfl (f53 _ _ (by first | omega | assumption | (simp; done) | (simp; omega)) (by first | omega | assumption | (simp; done) | (simp; omega)) (by first | omega | assumption | (simp; done) | (simp; omega)) (by first | omega | assumption | (simp; done) | (simp; omega)) (norm_le_len nA nB (Int.le_of_lt (cmp3_lt.1 hc2))) (Int.le_of_lt (cmp3_lt.1 hc2)))) <| Vs (C0 rfl rfl (f54 _ _ (sub_len nB.1 nA.1 hB) (ok32_dg _))) <| Vs (Xt rfl) <| Vs (Xt rfl) <| Vs (StS TS24 rfl) <| Vs (As rfl) <| Nx <| Re <| Tr <| Fi (l := [.agg [boolB (zN (sg (m) (val (dg (val (B) - val (A)))))), u32S (zL (sg (m) (val (dg (val (B) - val (A))))))], numB .i64 (zE (sg (m) (val (dg (val (B) - val (A))))))]) (Rc (resVar_cell rfl rfl TA24 TS24 (Nat.le_of_ble_eq_true rfl) rfl) (Rc (resVar_tmp rfl rfl) Rn)) (by have h2 := cmp3_lt.1 hc2; rw [val_dg (by omega), sg_mix hc1]; rfl)
    · replace hc2 := of_decide_eq_false hc2
      exact Ks <| Tg <| Sq <| Rg <| Vs (Mv rfl) <| Vs (Mv rfl) <| Vs (Mv rfl) <| Vs (C0 rfl rfl (f53 _ _ (by first | omega | assumption | (simp; done) | (simp; omega)) (by first | omega | assumption | (simp; done) | (simp; omega)) (by first | omega | assumption | (simp; done) | (simp; omega)) (by first | omega | assumption | (simp; done) | (simp; omega)) (norm_le_len nB nA (by have := mt cmp3_lt.2 hc2; omega)) ((by have := mt cmp3_lt.2 hc2; omega)))) <| Vs (C0 rfl rfl (f54 _ _ (sub_len nA.1 nB.1 hA) (ok32_dg _))) <| Vs (Xt rfl) <| Vs (Xt rfl) <| Vs (StS TS24 rfl) <| Vs (As rfl) <| Nx <| Re <| Fi (l := [.agg [boolB (zN (sg (n) (val (dg (val (A) - val (B)))))), u32S (zL (sg (n) (val (dg (val (A) - val (B))))))], numB .i64 (zE (sg (n) (val (dg (val (A) - val (B))))))]) (Rc (resVar_cell rfl rfl TA24 TS24 (Nat.le_of_ble_eq_true rfl) rfl) (Rc (resVar_tmp rfl rfl) Rn)) (by have h2 := mt cmp3_lt.2 hc2; rw [val_dg (by omega), sg_mix' hc1]; rfl)
theorem f38 (n : Bool) (A : List Int) (m : Bool) (B : List Int) (hA : A.length ≤ 9223372036854775807) (hB : B.length ≤ 9223372036854775807) (oA : ok32 A) (oB : ok32 B) : VF Tryz.prog 51 [.agg [boolB (n), u32S (A)], .agg [boolB (m), u32S (B)]] (gR (validB n A && validB m B) (zOf n A + zOf m B)) := by
  refine VF_of P_mixed Tryz.func51 rfl rfl (by kernel_rfl) <| Sq <| Rg <| Vs (Bx 0 rfl) <| Vs (Bx 1 rfl) <| Vs (Al 2 TZ24 rfl) <| Vs (As rfl) <| Nx <| Sq <| Sq <| Rg <| Vs (LdS TA24 TS24 rfl) <| Vs (LdS TA24 TS24 rfl) <| Vs (Cf rfl rfl (f50 _ _ _ _ (by first | omega | assumption | (simp; done) | (simp; omega)) (by first | omega | assumption | (simp; done) | (simp; omega))) rfl) <| Vs (Un rfl) <| Nx <| Cd rfl (fun hc1 => ?_) (fun hc1 => ?_)
  · replace hc1 := (bnot_t hc1)
    exact Sq <| Rg <| Vs (Bd TQ24 rfl) <| Vs (StS TS24 rfl) <| Vs (As rfl) <| Nx <| Re <| Tr <| Fi (l := [.agg [boolB (false), u32S ([])], numB .i64 (1)]) (Rc (resVar_cell rfl rfl TA24 TS24 (Nat.le_of_ble_eq_true rfl) rfl) (Rc (resVar_tmp rfl rfl) Rn)) (by rw [gR_false hc1]; rfl)
  · replace hc1 := (bnot_f hc1)
    refine Ks <| Tg <| Sq <| ?_
    obtain ⟨v1, v2⟩ := Bool.and_eq_true_iff.1 hc1
    obtain ⟨nA, lA, sA⟩ := valid_norm oA v1
    obtain ⟨nB, lB, sB⟩ := valid_norm oB v2
    exact Rg <| Vs (Fa TF24_0 rfl) <| Vs (Ld TA4 rfl) <| Vs (Fa TF24_1 rfl) <| Vs (Ld TA22 rfl) <| Vs (Fa TF24_0 rfl) <| Vs (Ld TA4 rfl) <| Vs (Fa TF24_1 rfl) <| Vs (Ld TA22 rfl) <| Vs (C0 rfl rfl (f75 _ _ _ _ (by first | omega | assumption | (simp; done) | (simp; omega)) (by first | omega | assumption | (simp; done) | (simp; omega)) (nA) (nB))) <| Vs (Xt rfl) <| Vs (Xt rfl) <| Vs (StS TS24 rfl) <| Vs (As rfl) <| Nx <| Re <| Fi (l := [.agg [boolB (zN (sg (n) (val (A)) + sg (m) (val (B)))), u32S (zL (sg (n) (val (A)) + sg (m) (val (B))))], numB .i64 (zE (sg (n) (val (A)) + sg (m) (val (B))))]) (Rc (resVar_cell rfl rfl TA24 TS24 (Nat.le_of_ble_eq_true rfl) rfl) (Rc (resVar_tmp rfl rfl) Rn)) (by rw [gR_true hc1]; rfl)
theorem f40 (n : Bool) (A : List Int) (m : Bool) (B : List Int) (hA : A.length ≤ 9223372036854775807) (hB : B.length ≤ 9223372036854775807) (oA : ok32 A) (oB : ok32 B) : VF Tryz.prog 74 [.agg [boolB (n), u32S (A)], .agg [boolB (m), u32S (B)]] (gR (validB n A && validB m B) (zOf n A - zOf m B)) := by
  refine VF_of P_mixed Tryz.func74 rfl rfl (by kernel_rfl) <| Sq <| Rg <| Vs (Bx 0 rfl) <| Vs (Bx 1 rfl) <| Vs (Al 2 TZ24 rfl) <| Vs (As rfl) <| Nx <| Sq <| Sq <| Rg <| Vs (LdS TA24 TS24 rfl) <| Vs (LdS TA24 TS24 rfl) <| Vs (Cf rfl rfl (f50 _ _ _ _ (by first | omega | assumption | (simp; done) | (simp; omega)) (by first | omega | assumption | (simp; done) | (simp; omega))) rfl) <| Vs (Un rfl) <| Nx <| Cd rfl (fun hc1 => ?_) (fun hc1 => ?_)
  · replace hc1 := (bnot_t hc1)
    exact Sq <| Rg <| Vs (Bd TQ24 rfl) <| Vs (StS TS24 rfl) <| Vs (As rfl) <| Nx <| Re <| Tr <| Fi (l := [.agg [boolB (false), u32S ([])], numB .i64 (1)]) (Rc (resVar_cell rfl rfl TA24 TS24 (Nat.le_of_ble_eq_true rfl) rfl) (Rc (resVar_tmp rfl rfl) Rn)) (by rw [gR_false hc1]; rfl)
  · replace hc1 := (bnot_f hc1)
    refine Ks <| Tg <| Sq <| ?_
    obtain ⟨v1, v2⟩ := Bool.and_eq_true_iff.1 hc1
    obtain ⟨nA, lA, sA⟩ := valid_norm oA v1
    obtain ⟨nB, lB, sB⟩ := valid_norm oB v2
    exact Rg <| Vs (Fa TF24_0 rfl) <| Vs (Ld TA4 rfl) <| Vs (Fa TF24_1 rfl) <| Vs (Ld TA22 rfl) <| Vs (Fa TF24_0 rfl) <| Vs (Ld TA4 rfl) <| Vs (Un rfl) <| Vs (Fa TF24_1 rfl) <| Vs (Ld TA22 rfl) <| Vs (C0 rfl rfl (f75 _ _ _ _ (by first | omega | assumption | (simp; done) | (simp; omega)) (by first | omega | assumption | (simp; done) | (simp; omega)) (by first | omega | assumption | (simp; done) | (simp; omega)) (by first | omega | assumption | (simp; done) | (simp; omega)))) <| Vs (Xt rfl) <| Vs (Xt rfl) <| Vs (StS TS24 rfl) <| Vs (As rfl) <| Nx <| Re <| Fi (l := [.agg [boolB (zN (sg (n) (val (A)) + sg ((!m)) (val (B)))), u32S (zL (sg (n) (val (A)) + sg ((!m)) (val (B))))], numB .i64 (zE (sg (n) (val (A)) + sg ((!m)) (val (B))))]) (Rc (resVar_cell rfl rfl TA24 TS24 (Nat.le_of_ble_eq_true rfl) rfl) (Rc (resVar_tmp rfl rfl) Rn)) (by rw [gR_true hc1, show zOf n A - zOf m B = sg n (val A) + sg (!m) (val B) from sg_sub]; rfl)
theorem f29 (n : Bool) (A : List Int) (m : Bool) (B : List Int) (hA : A.length ≤ 9223372036854775807) (hB : B.length ≤ 9223372036854775807) (oA : ok32 A) (oB : ok32 B) : VF Tryz.prog 50 [.agg [boolB (n), u32S (A)], .agg [boolB (m), u32S (B)]] (gR (validB n A && validB m B) (zOf n A * zOf m B)) := by
  refine VF_of P_mixed Tryz.func50 rfl rfl (by kernel_rfl) <| Sq <| Rg <| Vs (Bx 0 rfl) <| Vs (Bx 1 rfl) <| Vs (Al 2 TZ24 rfl) <| Vs (As rfl) <| Nx <| Sq <| Sq <| Rg <| Vs (LdS TA24 TS24 rfl) <| Vs (LdS TA24 TS24 rfl) <| Vs (Cf rfl rfl (f50 _ _ _ _ (by first | omega | assumption | (simp; done) | (simp; omega)) (by first | omega | assumption | (simp; done) | (simp; omega))) rfl) <| Vs (Un rfl) <| Nx <| Cd rfl (fun hc1 => ?_) (fun hc1 => ?_)
  · replace hc1 := (bnot_t hc1)
    exact Sq <| Rg <| Vs (Bd TQ24 rfl) <| Vs (StS TS24 rfl) <| Vs (As rfl) <| Nx <| Re <| Tr <| Fi (l := [.agg [boolB (false), u32S ([])], numB .i64 (1)]) (Rc (resVar_cell rfl rfl TA24 TS24 (Nat.le_of_ble_eq_true rfl) rfl) (Rc (resVar_tmp rfl rfl) Rn)) (by rw [gR_false hc1]; rfl)
  · replace hc1 := (bnot_f hc1)
    refine Ks <| Tg <| Sq <| ?_
    obtain ⟨v1, v2⟩ := Bool.and_eq_true_iff.1 hc1
    obtain ⟨nA, lA, sA⟩ := valid_norm oA v1
    obtain ⟨nB, lB, sB⟩ := valid_norm oB v2
    have m0 := Int.mul_nonneg (val_nonneg oA) (val_nonneg oB)
    refine Rd (by kernel_rfl) <| Vl (Fa TF24_0 rfl) <| Vl (Ld TA4 rfl) <| Vl (Fa TF24_0 rfl) <| Vl (Ld TA4 rfl) <| Vl (Bb TU4 rfl) <| Vl (Fa TF24_1 rfl) <| Vl (Ld TA22 rfl) <| Vl (Fa TF24_1 rfl) <| Vl (Ld TA22 rfl) <| Vl (C0 rfl rfl (f63 _ _ (by first | omega | assumption | (simp; done) | (simp; omega)) (by first | omega | assumption | (simp; done) | (simp; omega)) (by first | omega | assumption | (simp; done) | (simp; omega)) (by first | omega | assumption | (simp; done) | (simp; omega)))) <| Vl (C0 rfl rfl (f54 _ _ (mul_len oA oB lA lB) (ok32_dg _))) <| Vl (Xt rfl) <| Vl (Xt rfl) <| Vl (StS TS24 rfl) <| Vl (As rfl) <| ?_
    refine VLog.nil ⟨by kernel_rfl, ?_⟩
    exact Tg <| Re <| Fi (l := [.agg [boolB (zN (sg ((!(n == m))) (val (dg (val (A) * val (B)))))), u32S (zL (sg ((!(n == m))) (val (dg (val (A) * val (B))))))], numB .i64 (zE (sg ((!(n == m))) (val (dg (val (A) * val (B))))))]) (Rc (resVar_cell rfl rfl TA24 TS24 (Nat.le_of_ble_eq_true rfl) rfl) (Rc (resVar_tmp rfl rfl) Rn)) (by rw [gR_true hc1, show zOf n A * zOf m B = sg (!(n == m)) (val A * val B) from sg_mul, val_dg m0]; rfl)
theorem f33 (n : Bool) (A : List Int) (m : Bool) (B : List Int) (hA : A.length ≤ 9223372036854775807) (hB : B.length ≤ 9223372036854775807) (oA : ok32 A) (oB : ok32 B) : VF Tryz.prog 73 [.agg [boolB (n), u32S (A)], .agg [boolB (m), u32S (B)]] (.tup [numB .i64 (cC (validB n A && validB m B) (zOf n A) (zOf m B)), numB .i64 (cE (validB n A && validB m B))]) := by
  refine VF_of P_mixed Tryz.func73 rfl rfl (by kernel_rfl) <| Sq <| Rg <| Vs (Bx 0 rfl) <| Vs (Bx 1 rfl) <| Vs (As rfl) <| Vs (As rfl) <| Nx <| Sq <| Sq <| Rg <| Vs (LdS TA24 TS24 rfl) <| Vs (LdS TA24 TS24 rfl) <| Vs (Cf rfl rfl (f50 _ _ _ _ (by first | omega | assumption | (simp; done) | (simp; omega)) (by first | omega | assumption | (simp; done) | (simp; omega))) rfl) <| Vs (Un rfl) <| Nx <| Cd rfl (fun hc1 => ?_) (fun hc1 => ?_)
  · replace hc1 := (bnot_t hc1)
    exact Sq <| Rg <| Vs (As rfl) <| Vs (As rfl) <| Nx <| Re <| Tr <| Fi (l := [numB .i64 (0), numB .i64 (1)]) (Rc (resVar_tmp rfl rfl) (Rc (resVar_tmp rfl rfl) Rn)) (by rw [cC_false hc1, cE_false hc1]; rfl)
  · replace hc1 := (bnot_f hc1)
    refine Ks <| Tg <| Sq <| ?_
    obtain ⟨v1, v2⟩ := Bool.and_eq_true_iff.1 hc1
    obtain ⟨nA, lA, sA⟩ := valid_norm oA v1
    obtain ⟨nB, lB, sB⟩ := valid_norm oB v2
    have hr := cmp3_range (val A) (val B)
    refine Rg <| Vs (Fa TF24_1 rfl) <| Vs (Ld TA22 rfl) <| Vs (Fa TF24_1 rfl) <| Vs (Ld TA22 rfl) <| Vs (Cf rfl rfl (f74 _ _ (by first | omega | assumption | (simp; done) | (simp; omega)) (by first | omega | assumption | (simp; done) | (simp; omega)) (by first | omega | assumption | (simp; done) | (simp; omega)) (by first | omega | assumption | (simp; done) | (simp; omega)) (fun h => cmp_len nA nB h)) rfl) <| Vs (As rfl) <| Nx <| Sq <| Bk <| Sq <| Rg <| Vs (Fa TF24_0 rfl) <| Vs (Ld TA4 rfl) <| Vs (Mv rfl) <| Sp 19 rfl (fun hc2 => ?_) (fun hc2 => ?_)
    · (try simp at hc2)
      refine Vs (Fa TF24_0 rfl) <| Vs (Ld TA4 rfl) <| Vs (Pk rfl) <| Vs (As rfl) <| Nx <| Cd rfl (fun hc3 => ?_) (fun hc3 => ?_)
      · (try simp at hc3)
        exact Sq <| Rg <| Vs (Mv rfl) <| Vs (Uo rfl nvI) <| Vs (As rfl) <| Vs (As rfl) <| Nx <| Re <| Iq <| Tr <| Fi (l := [numB .i64 ((-cmp3 (val (A)) (val (B)))), numB .i64 (0)]) (Rc (resVar_tmp rfl rfl) (Rc (resVar_tmp rfl rfl) Rn)) (by rw [cC_true hc1, cE_true hc1]; have vA := val_nonneg oA; have vB := val_nonneg oB; subst_vars; first | contradiction | (rw [cmp3_nn]; rfl) | (rw [cmp3_np (neg_pos nA sA rfl) vB]; rfl) | (rw [cmp3_pn vA (neg_pos nB sB rfl)]; rfl) | (rw [cmp3_pp]; rfl))
      · (try simp at hc3)
        refine Sq <| Rg <| Vs (Fa TF24_0 rfl) <| Vs (Ld TA4 rfl) <| Vs (As rfl) <| Nx <| Cd rfl (fun hc4 => ?_) (fun hc4 => ?_)
        · (try simp at hc4)
          exact Sq <| Rg <| Vs (As rfl) <| Vs (As rfl) <| Nx <| Re <| Iq <| Tr <| Fi (l := [numB .i64 ((-1)), numB .i64 (0)]) (Rc (resVar_tmp rfl rfl) (Rc (resVar_tmp rfl rfl) Rn)) (by rw [cC_true hc1, cE_true hc1]; have vA := val_nonneg oA; have vB := val_nonneg oB; subst_vars; first | contradiction | (rw [cmp3_nn]; rfl) | (rw [cmp3_np (neg_pos nA sA rfl) vB]; rfl) | (rw [cmp3_pn vA (neg_pos nB sB rfl)]; rfl) | (rw [cmp3_pp]; rfl))
        · (try simp at hc4)
          refine Sq <| Rg <| Vs (Fa TF24_0 rfl) <| Vs (Ld TA4 rfl) <| Vs (As rfl) <| Nx <| Cd rfl (fun hc5 => ?_) (fun hc5 => ?_)
          · (try simp at hc5)
            exact Sq <| Rg <| Vs (As rfl) <| Vs (As rfl) <| Nx <| Re <| Iq <| Tr <| Fi (l := [numB .i64 (1), numB .i64 (0)]) (Rc (resVar_tmp rfl rfl) (Rc (resVar_tmp rfl rfl) Rn)) (by rw [cC_true hc1, cE_true hc1]; have vA := val_nonneg oA; have vB := val_nonneg oB; subst_vars; first | contradiction | (rw [cmp3_nn]; rfl) | (rw [cmp3_np (neg_pos nA sA rfl) vB]; rfl) | (rw [cmp3_pn vA (neg_pos nB sB rfl)]; rfl) | (rw [cmp3_pp]; rfl))
          · (try simp at hc5)
            exact Ks <| Ig <| Tg <| Sq <| Rg <| Vs (Mv rfl) <| Vs (As rfl) <| Vs (As rfl) <| Nx <| Re <| Fi (l := [numB .i64 (cmp3 (val (A)) (val (B))), numB .i64 (0)]) (Rc (resVar_tmp rfl rfl) (Rc (resVar_tmp rfl rfl) Rn)) (by rw [cC_true hc1, cE_true hc1]; have vA := val_nonneg oA; have vB := val_nonneg oB; subst_vars; first | contradiction | (rw [cmp3_nn]; rfl) | (rw [cmp3_np (neg_pos nA sA rfl) vB]; rfl) | (rw [cmp3_pn vA (neg_pos nB sB rfl)]; rfl) | (rw [cmp3_pp]; rfl))
    · (try simp at hc2)
      refine Sk rfl <| Sk rfl <| Vs (Pk rfl) <| Vs (As rfl) <| Nx <| Cz rfl <| Sq <| Rg <| Vs (Fa TF24_0 rfl) <| Vs (Ld TA4 rfl) <| Vs (As rfl) <| Nx <| Cd rfl (fun hc6 => ?_) (fun hc6 => ?_)
      · (try simp at hc6)
        exact Sq <| Rg <| Vs (As rfl) <| Vs (As rfl) <| Nx <| Re <| Iq <| Tr <| Fi (l := [numB .i64 ((-1)), numB .i64 (0)]) (Rc (resVar_tmp rfl rfl) (Rc (resVar_tmp rfl rfl) Rn)) (by rw [cC_true hc1, cE_true hc1]; have vA := val_nonneg oA; have vB := val_nonneg oB; subst_vars; first | contradiction | (rw [cmp3_nn]; rfl) | (rw [cmp3_np (neg_pos nA sA rfl) vB]; rfl) | (rw [cmp3_pn vA (neg_pos nB sB rfl)]; rfl) | (rw [cmp3_pp]; rfl))
      · (try simp at hc6)
        refine Sq <| Rg <| Vs (Fa TF24_0 rfl) <| Vs (Ld TA4 rfl) <| Vs (As rfl) <| Nx <| Cd rfl (fun hc7 => ?_) (fun hc7 => ?_)
        · (try simp at hc7)
          exact Sq <| Rg <| Vs (As rfl) <| Vs (As rfl) <| Nx <| Re <| Iq <| Tr <| Fi (l := [numB .i64 (1), numB .i64 (0)]) (Rc (resVar_tmp rfl rfl) (Rc (resVar_tmp rfl rfl) Rn)) (by rw [cC_true hc1, cE_true hc1]; have vA := val_nonneg oA; have vB := val_nonneg oB; subst_vars; first | contradiction | (rw [cmp3_nn]; rfl) | (rw [cmp3_np (neg_pos nA sA rfl) vB]; rfl) | (rw [cmp3_pn vA (neg_pos nB sB rfl)]; rfl) | (rw [cmp3_pp]; rfl))
        · (try simp at hc7)
          exact Ks <| Ig <| Tg <| Sq <| Rg <| Vs (Mv rfl) <| Vs (As rfl) <| Vs (As rfl) <| Nx <| Re <| Fi (l := [numB .i64 (cmp3 (val (A)) (val (B))), numB .i64 (0)]) (Rc (resVar_tmp rfl rfl) (Rc (resVar_tmp rfl rfl) Rn)) (by rw [cC_true hc1, cE_true hc1]; have vA := val_nonneg oA; have vB := val_nonneg oB; subst_vars; first | contradiction | (rw [cmp3_nn]; rfl) | (rw [cmp3_np (neg_pos nA sA rfl) vB]; rfl) | (rw [cmp3_pn vA (neg_pos nB sB rfl)]; rfl) | (rw [cmp3_pp]; rfl))
end Go.VL

/- Walks over the Go functions, printed by a program of this session over the kit's print, and by hand. -/
set_option linter.unusedVariables false
set_option linter.unusedSimpArgs false
namespace Go.VL
open Go.Proofs
theorem f68 (L : List Int) (n : Int) (hL : L.length ≤ 900000000) (nL : norm L) (h0 : 0 ≤ n) (h1 : n ≤ 1000000000) : VF Tryz.prog 69 [u32S (L), numB .i64 (n)] (.tup [u32S (dg (val L / 2 ^ n.toNat)), boolB (decide (val L % 2 ^ n.toNat ≠ 0))]) := by
  refine VF_of P_mixed Tryz.func69 rfl rfl (by kernel_rfl) <| Sq <| Rg <| Vs (As rfl) <| Vs (As rfl) <| Nx <| Sq <| Rg <| Vs (Mv rfl) <| Vs (Bo rfl quI) <| Vs (As rfl) <| Nx <| Sq <| Sq <| ?_
  have oL := nL.1
  have hr : (n % 32).toNat < 32 := (by omega)
  have hm : n.toNat = 32 * (n / 32).toNat + (n % 32).toNat := (by omega)
  refine Rg <| Vs (Mv rfl) <| Vs (Mv rfl) <| Vs (Ls TK22 rfl) <| Vs (Bi rfl) <| Nx <| Cd rfl (fun hc1 => ?_) (fun hc1 => ?_)
  · replace hc1 := of_decide_eq_true hc1
    exact Sq <| Rg <| Vs (Mv rfl) <| Vs (Ls TK22 rfl) <| Vs (Bi rfl) <| Vs (As rfl) <| Vs (As rfl) <| Nx <| Re <| Tr <| Fi (l := [u32S ([]), boolB (decide (((L).length : Int) > 0))]) (Rc (resVar_tmp rfl rfl) (Rc (resVar_tmp rfl rfl) Rn)) (by obtain ⟨w1, w2⟩ := right_out nL hm (by omega); rw [w1, w2]; rfl)
  · replace hc1 := of_decide_eq_false hc1
    refine Ks <| Tg <| VCode.join (α := (Bool)) (fun b => (0, sl [(0, vS (L)), (1, vI .i64 (n)), (6, vI .i64 ((n / 32))), (7, vB (b))], en [])) (fun b => b = decide (val L % 2 ^ n.toNat ≠ 0)) ?_ ?_
    · skip
      have hq : (n / 32).toNat < L.length := (by omega)
      have h2 := two_pow_pos (n % 32).toNat
      have h3 := two_pow_lt hr
      have hx := ok32_getD oL (n / 32).toNat
      refine Rd (by kernel_rfl) <| Vl (Mv rfl) <| Vl (Mv rfl) <| Vl (Ct TK22 rfl) <| Vl (C0 rfl rfl (f64 _ (by first | omega | assumption | (simp; done) | (simp; omega)) (ok32_take oL _))) <| Vl (Ls TK22 rfl) <| Vl (Bi rfl) <| Vl (Mv rfl) <| Sl 26 rfl (fun hc2 => ?_) (fun hc2 => ?_)
      · replace hc2 := of_decide_eq_true hc2
        refine Lk rfl <| Lk rfl <| Lk rfl <| Lk rfl <| Lk rfl <| Lk rfl <| Lk rfl <| Lk rfl <| Lk rfl <| Lk rfl <| Vl (Pk rfl) <| Vl (As rfl) <| ?_
        refine VLog.nil ⟨by kernel_rfl, ?_⟩
        exact Jg (true) (by rw [eq_comm, decide_eq_true_iff]; exact (right_lost oL hr hm hq).2 (.inl hc2)) Wk
      · replace hc2 := of_decide_eq_false hc2
        refine Vl (Mv rfl) <| Vl (Mv rfl) <| Vl (Ix TK22 rfl) <| Vl (Lq TA64 rfl) <| Vl (Mv rfl) <| Vl (Bo rfl reI) <| Vl (Bo (c := .int .u32 ((1 * 2 ^ ((n % 32)).toNat))) rfl (bop_shl_u32 (by omega) (by omega) (by omega))) <| Vl (Bo (c := .int .u32 (((1 * 2 ^ ((n % 32)).toNat) - 1))) rfl (bop_sub_u32 (by omega))) <| Vl (Bo (c := .int .u32 (((L).getD ((n / 32)).toNat 0 % 2 ^ (n % 32).toNat))) rfl (bop_mask_u32 (q := 2 ^ (n % 32).toNat) (n % 32).toNat rfl (by omega) (by omega) hx)) <| Vl (Bi rfl) <| Vl (Pk rfl) <| Vl (As rfl) <| ?_
        refine VLog.nil ⟨by kernel_rfl, ?_⟩
        exact Jg (((L).getD (n / 32).toNat 0 % 2 ^ (n % 32).toNat != 0)) (by rw [Bool.eq_iff_iff, decide_eq_true_iff, right_lost oL hr hm hq, bne_iff_ne]; exact ⟨fun h => .inr h, fun h => h.resolve_left hc2⟩) Wk
    · intro b hok
      change VCode _ _ _ 0 (sl _) (en _) _
      refine Sq <| Rg <| Vs (Mv rfl) <| Vs (Ls TK22 rfl) <| Vs (Mv rfl) <| Vs (Bo rfl suI) <| Vs (Mk 4 TK22 rfl) <| Vs (As rfl) <| Nx <| Sq <| Sq <| Rg <| Vs (Mv rfl) <| Vs (Lo TU22 rfl) <| Vs (Mv rfl) <| Nx <| Bk <| VCode.loop (α := (Nat) × (List Int)) (fun x_ => match x_ with | (k, O) => (5, sl [(0, vS (L)), (1, vI .i64 (n)), (6, vI .i64 ((n / 32))), (7, vB (b)), (8, .own 4 (((((L).length : Int) - (n / 32))).toNat)), (44, vI .i64 (((((((L).length : Int) - (n / 32))).toNat : Nat) : Int))), (45, vI .i64 ((k : Int)))], en [(4, rowK .u32 (O))])) (fun x_ => match x_ with | (k, O) => RightInv L O (n / 32).toNat (n % 32).toNat k) (fun x_ => match x_ with | (k, O) => L.length - k) (0, List.replicate (((L).length : Int) - (n / 32)).toNat 0) (RightInv.start (by omega) (by simp; omega)) Wk ?_
      rintro ⟨k, O⟩ hok2
      change VCode _ _ _ 5 (sl _) (en _) _
      refine Sq <| Rg <| Vs (Bi rfl) <| Nx <| Sq <| Cd rfl (fun hc3 => ?_) (fun hc3 => ?_)
      · replace hc3 := of_decide_eq_true hc3
        refine Ks <| Tg <| Sq <| Bk <| Sq <| Rg <| Vs (Mv rfl) <| Vs (As rfl) <| Nx <| Sq <| ?_
        have hO := hok2.len
        have hi : (((k : Int)) + (n / 32)).toNat = k + (n / 32).toNat := (by omega)
        have hi1 : ((((k : Int)) + (n / 32)) + 1).toNat = k + (n / 32).toNat + 1 := (by omega)
        have hx := ok32_getD oL (((k : Int)) + (n / 32)).toNat
        have hy := ok32_getD oL ((((k : Int)) + (n / 32)) + 1).toNat
        refine Rg <| Vs (Mv rfl) <| Vs (Mv rfl) <| Vs (Mv rfl) <| Vs (Bo rfl adI) <| Vs (Ix TK22 rfl) <| Vs (Lq TA64 rfl) <| Vs (Cv TU64 TU65 rfl wrW) <| Vs (As rfl) <| Nx <| Sq <| Sq <| Rg <| Vs (Mv rfl) <| Vs (Mv rfl) <| Vs (Bo rfl adI) <| Vs (Bo rfl adI) <| Vs (Mv rfl) <| Vs (Ls TK22 rfl) <| Vs (Bi rfl) <| Nx <| Cd rfl (fun hc4 => ?_) (fun hc4 => ?_)
        · replace hc4 := of_decide_eq_true hc4
          exact Rg <| Vs (Mv rfl) <| Vs (Mv rfl) <| Vs (Mv rfl) <| Vs (Mv rfl) <| Vs (Bo rfl adI) <| Vs (Bo rfl adI) <| Vs (Ix TK22 rfl) <| Vs (Lq TA64 rfl) <| Vs (Cv TU64 TU65 rfl wrW) <| Vs (Bo (c := .int .u64 (((L).getD ((((k : Int) + (n / 32)) + 1)).toNat 0 * 4294967296))) rfl (bop_shlL_u64 (q := 4294967296) (by decide) (by decide) (by decide) (by omega))) <| Vs (Bo (c := .int .u64 (((L).getD (((k : Int) + (n / 32))).toNat 0 + ((L).getD ((((k : Int) + (n / 32)) + 1)).toNat 0 * 4294967296)))) rfl (bop_orR_u64 (q := 4294967296) 32 (by decide) hx ⟨_, hy.1, rfl⟩ (by omega))) <| Vs (As rfl) <| Nx <| Rg <| Vs (Mv rfl) <| Vs (Mv rfl) <| Vs (Mv rfl) <| Vs (Mv rfl) <| Vs (Bo rfl reI) <| Vs (Bo rfl shW) <| Vs (Cv TU65 TU64 rfl (wrapM_u32 _)) <| Vs (IrN TK22 rfl) <| Vs (SrK TS64 rfl) <| VList.nil <| Ig <| Tg <| Rg <| Vs (Bo rfl adI) <| Vs (Mv rfl) <| VList.nil <| Go (k + 1, O.set k (((L).getD ((((k : Int)) + (n / 32)).toNat) 0 + (L).getD (((((k : Int)) + (n / 32)) + 1).toNat) 0 * 4294967296) / 2 ^ ((n % 32)).toNat % 4294967296)) (hok2.step oL hr (by omega) (by rw [hi]; first | (rw [hi1]; omega) | (rw [getD_out (i := k + (n / 32).toNat + 1) (by omega)]; omega))) Wk
        · replace hc4 := of_decide_eq_false hc4
          exact Ks <| Tg <| Rg <| Vs (Mv rfl) <| Vs (Mv rfl) <| Vs (Mv rfl) <| Vs (Mv rfl) <| Vs (Bo rfl reI) <| Vs (Bo rfl shW) <| Vs (Cv TU65 TU64 rfl (wrapM_u32 _)) <| Vs (IrN TK22 rfl) <| Vs (SrK TS64 rfl) <| VList.nil <| Ig <| Tg <| Rg <| Vs (Bo rfl adI) <| Vs (Mv rfl) <| VList.nil <| Go (k + 1, O.set k ((L).getD ((((k : Int)) + (n / 32)).toNat) 0 / 2 ^ ((n % 32)).toNat % 4294967296)) (hok2.step oL hr (by omega) (by rw [hi]; first | (rw [hi1]; omega) | (rw [getD_out (i := k + (n / 32).toNat + 1) (by omega)]; omega))) Wk
      · replace hc3 := of_decide_eq_false hc3
        refine Ke <| Te <| Oe <| Ih <| Tg <| Sq <| ?_
        have hO := hok2.len
        have hle := hok2.le
        obtain ⟨e1, e2⟩ := hok2.fin oL (by omega) hm
        exact Rg <| Vs (Mv rfl) <| Vs (Cc rfl (Rk (Rr rfl) Rz) (f64 _ (by first | omega | assumption | (simp; done) | (simp; omega)) (e2))) <| Vs (Mv rfl) <| Vs (As rfl) <| Vs (As rfl) <| Nx <| Re <| Fi (l := [u32S (dg (val (O))), boolB (b)]) (Rc (resVar_tmp rfl rfl) (Rc (resVar_tmp rfl rfl) Rn)) (by rw [← hok, e1]; rfl)
end Go.VL

/- Walks over the Go functions, printed by a program of this session over the kit's print, and by hand. -/
set_option linter.unusedVariables false
set_option linter.unusedSimpArgs false
namespace Go.VL
open Go.Proofs
theorem f27 (n : Bool) (A : List Int) (k : Int) (hA : A.length ≤ 9223372036854775807) (oA : ok32 A) (k0 : -9223372036854775808 ≤ k) (k1 : k ≤ 9223372036854775807) : VF Tryz.prog 38 [.agg [boolB (n), u32S (A)], numB .i64 (k)] (gR (validB n A) (shZ (zOf n A) k)) := by
  refine VF_of P_mixed Tryz.func38 rfl rfl (by kernel_rfl) <| Sq <| Rg <| Vs (Bx 0 rfl) <| Vs (Al 1 TZ24 rfl) <| Vs (As rfl) <| Nx <| Sq <| Sq <| Rg <| Vs (LdS TA24 TS24 rfl) <| Vs (Cf rfl rfl (f36 _ _ (by first | omega | assumption | (simp; done) | (simp; omega))) rfl) <| Vs (Un rfl) <| Nx <| Cd rfl (fun hc1 => ?_) (fun hc1 => ?_)
  · replace hc1 := (bnot_t hc1)
    exact Sq <| Rg <| Vs (Bd TQ24 rfl) <| Vs (StS TS24 rfl) <| Vs (As rfl) <| Nx <| Re <| Tr <| Fi (l := [.agg [boolB (false), u32S ([])], numB .i64 (1)]) (Rc (resVar_cell rfl rfl TA24 TS24 (Nat.le_of_ble_eq_true rfl) rfl) (Rc (resVar_tmp rfl rfl) Rn)) (by rw [gR_false hc1]; rfl)
  · replace hc1 := (bnot_f hc1)
    refine Ks <| Tg <| Sq <| Sq <| ?_
    obtain ⟨nA, lA, sA⟩ := valid_norm oA hc1
    refine Rg <| Vs (Fa TF24_1 rfl) <| Vs (Ld TA22 rfl) <| Vs (Ls TK22 rfl) <| Vs (Bi rfl) <| Nx <| Cd rfl (fun hc2 => ?_) (fun hc2 => ?_)
    · replace hc2 := eq_of_beq hc2
      exact Sq <| Rg <| Vs (Bd TQ24 rfl) <| Vs (StS TS24 rfl) <| Vs (As rfl) <| Nx <| Re <| Tr <| Fi (l := [.agg [boolB (false), u32S ([])], numB .i64 (0)]) (Rc (resVar_cell rfl rfl TA24 TS24 (Nat.le_of_ble_eq_true rfl) rfl) (Rc (resVar_tmp rfl rfl) Rn)) (by rw [gR_true hc1, zOf, norm_zero nA (by omega), show sg n 0 = 0 by cases n <;> rfl, shZ_zero, zR_zero]; rfl)
    · replace hc2 := ne_of_beq_false hc2
      refine Ks <| Tg <| Sq <| Sq <| ?_
      have vA := val_nonneg oA
      have bP := norm_pos nA (fun e => hc2 (by rw [e]; rfl))
      have vl := val_limit oA lA
      refine Rg <| Vs (Mv rfl) <| Vs (Bi rfl) <| Nx <| Cd rfl (fun hc3 => ?_) (fun hc3 => ?_)
      · replace hc3 := of_decide_eq_true hc3
        refine Sq <| Sq <| Rg <| Vs (Mv rfl) <| Vs (Bi rfl) <| Nx <| Cd rfl (fun hc4 => ?_) (fun hc4 => ?_)
        · replace hc4 := of_decide_eq_true hc4
          exact Sq <| Rg <| Vs (Bd TQ24 rfl) <| Vs (StS TS24 rfl) <| Vs (As rfl) <| Nx <| Re <| Tr <| Tr <| Fi (l := [.agg [boolB (false), u32S ([])], numB .i64 (2)]) (Rc (resVar_cell rfl rfl TA24 TS24 (Nat.le_of_ble_eq_true rfl) rfl) (Rc (resVar_tmp rfl rfl) Rn)) (by rw [gR_true hc1, zR_big (shl_big bP hc4)]; rfl)
        · replace hc4 := of_decide_eq_false hc4
          refine Ks <| Tg <| Sq <| ?_
          have hk2 : (dg (val A * 2 ^ k.toNat)).length ≤ 1000000000 := shl_len oA lA (by omega)
          refine Rd (by kernel_rfl) <| Vl (Fa TF24_0 rfl) <| Vl (Ld TA4 rfl) <| Vl (Fa TF24_1 rfl) <| Vl (Ld TA22 rfl) <| Vl (Mv rfl) <| Vl (C0 rfl rfl (f67 _ _ (by omega) (oA) (by omega) (by omega))) <| Vl (C0 rfl rfl (f54 _ _ (hk2) (ok32_dg _))) <| Vl (Xt rfl) <| Vl (Xt rfl) <| Vl (StS TS24 rfl) <| Vl (As rfl) <| ?_
          refine VLog.nil ⟨by kernel_rfl, ?_⟩
          exact Tg <| Re <| Tr <| Fi (l := [.agg [boolB (zN (sg (n) (val (dg (val (A) * 2 ^ (k).toNat))))), u32S (zL (sg (n) (val (dg (val (A) * 2 ^ (k).toNat)))))], numB .i64 (zE (sg (n) (val (dg (val (A) * 2 ^ (k).toNat)))))]) (Rc (resVar_cell rfl rfl TA24 TS24 (Nat.le_of_ble_eq_true rfl) rfl) (Rc (resVar_tmp rfl rfl) Rn)) (by rw [gR_true hc1, zOf, sg_shl hc3, val_dg (Int.mul_nonneg vA (Int.le_of_lt (two_pow_pos _)))]; rfl)
      · replace hc3 := of_decide_eq_false hc3
        refine Ks <| Tg <| Sq <| ?_
        have hm0 : 0 ≤ (-(if (-4096 : Int) > k then (-4096) else k)) ∧ (-(if (-4096 : Int) > k then (-4096) else k)) ≤ 4096 := by split <;> omega
        have q0 : 0 ≤ val A / 2 ^ (-(if (-4096) > k then (-4096) else k)).toNat := Int.ediv_nonneg vA (Int.le_of_lt (two_pow_pos _))
        have hq1 : (dg (val A / 2 ^ (-(if (-4096) > k then (-4096) else k)).toNat)).length ≤ 128 := Nat.le_trans (len_le oA q0 (Int.ediv_le_self _ vA)) lA
        refine Rg <| Vs (Fa TF24_1 rfl) <| Vs (Ld TA22 rfl) <| Vs (Mv rfl) <| Vs (Mx rfl) <| Vs (Uo rfl (nvI (h := (by omega)))) <| Vs (C0 rfl rfl (f68 _ _ (by omega) (nA) (by omega) (by omega))) <| Vs (Mv rfl) <| Vs (Xt rfl) <| Vs (Xt rfl) <| Vs (As rfl) <| Vs (As rfl) <| Nx <| VCode.join (α := (List Int)) (fun Q => (2, sl [(2, .ptr 0 (0)), (4, .ptr 1 (0)), (6, vS (Q))], en [(0, ⟨2, [vB (n), vS (A)], true⟩), (1, ⟨2, [vB (false), vS ([])], true⟩)])) (fun Q => (norm Q ∧ Q.length ≤ 1000000000) ∧ sg n (val Q) = shZ (zOf n A) k) ?_ ?_
        · skip
          refine Sq <| Rg <| Vs (Fa TF24_0 rfl) <| Vs (Ld TA4 rfl) <| Vs (Mv rfl) <| Sp 42 rfl (fun hc5 => ?_) (fun hc5 => ?_)
          · (try simp at hc5)
            refine Vs (Mv rfl) <| Vs (Pk rfl) <| Nx <| Cd rfl (fun hc6 => ?_) (fun hc6 => ?_)
            · replace hc6 := of_decide_eq_true hc6
              exact Rg <| Vs (Mv rfl) <| Vs (L1s 29 TK22 rfl) <| Vs (Cc rfl (Rk rfl (Rk (Rr rfl) Rz)) (f52 _ _ (by first | omega | assumption | (simp; done) | (simp; omega)) (by first | omega | assumption | (simp; done) | (simp; omega)) (ok32_dg _) (ok32_cons.2 ⟨by omega, ok32_nil⟩))) <| Vs (As rfl) <| VList.nil <| Jg (dg (val (dg (val A / 2 ^ (-(if (-4096) > k then (-4096) else k)).toNat)) + val ([1]))) ⟨⟨norm_dg _, add_len (ok32_dg _) (B := [1]) (ok32_cons.2 ⟨by omega, ok32_nil⟩) hq1 (by simp)⟩, shr_plus vA vl (by omega) rfl hc5 hc6⟩ Wk
            · replace hc6 := of_decide_eq_false hc6
              exact Ks <| Jg (dg (val A / 2 ^ (-(if (-4096) > k then (-4096) else k)).toNat)) ⟨⟨norm_dg _, (by omega)⟩, shr_same vA vl (by omega) rfl (fun h => hc6 h.2)⟩ Wk
          · (try simp at hc5)
            exact Sk rfl <| Vs (Pk rfl) <| Nx <| Cz rfl <| Ks <| Jg (dg (val A / 2 ^ (-(if (-4096) > k then (-4096) else k)).toNat)) ⟨⟨norm_dg _, (by omega)⟩, shr_same vA vl (by omega) rfl (fun h => Bool.noConfusion (h.1.symm.trans hc5))⟩ Wk
        · intro Q hok
          obtain ⟨⟨nQ, lQ⟩, j3⟩ := hok
          change VCode _ _ _ 2 (sl _) (en _) _
          exact Sq <| Rg <| Vs (Fa TF24_0 rfl) <| Vs (Ld TA4 rfl) <| Vs (Mv rfl) <| Vs (C0 rfl rfl (f54 _ _ (lQ) (nQ.1))) <| Vs (Xt rfl) <| Vs (Xt rfl) <| Vs (StS TS24 rfl) <| Vs (As rfl) <| Nx <| Re <| Fi (l := [.agg [boolB (zN (sg (n) (val (Q)))), u32S (zL (sg (n) (val (Q))))], numB .i64 (zE (sg (n) (val (Q))))]) (Rc (resVar_cell rfl rfl TA24 TS24 (Nat.le_of_ble_eq_true rfl) rfl) (Rc (resVar_tmp rfl rfl) Rn)) (by rw [gR_true hc1, ← j3]; rfl)
end Go.VL

/- Walks over the Go functions, printed by a program of this session over the kit's print, and by hand. -/
set_option linter.unusedVariables false
set_option linter.unusedSimpArgs false
namespace Go.VL
open Go.Proofs
theorem f69 (L : List Int) (hL : L.length ≤ 2) (oL : ok32 L) : VF Tryz.prog 90 [u32S (L)] (numB .u64 (val L)) := by
  refine VF_of P_mixed Tryz.func90 rfl rfl (by kernel_rfl) <| Sq <| Rg <| Vs (As rfl) <| Nx <| Sq <| Rg <| Vs (As rfl) <| Nx <| Sq <| Sq <| Rg <| Vs (Mv rfl) <| Vs (Ls TK22 rfl) <| Vs (Mv rfl) <| Nx <| Bk <| VCode.loop (α := (Nat) × (Int)) (fun x_ => match x_ with | (k, c) => (0, sl [(0, vS (L)), (3, vI .u64 (c)), (6, vI .i64 (((L).length : Int))), (7, vI .i64 ((k : Int)))], en [])) (fun x_ => match x_ with | (k, c) => k ≤ L.length ∧ c = val (L.take k)) (fun x_ => match x_ with | (k, c) => L.length - k) (0, 0) ⟨by omega, rfl⟩ Wk ?_
  rintro ⟨k, c⟩ hok
  change VCode _ _ _ 0 (sl _) (en _) _
  refine Sq <| Rg <| Vs (Bi rfl) <| Nx <| Sq <| Cd rfl (fun hc1 => ?_) (fun hc1 => ?_)
  · replace hc1 := of_decide_eq_true hc1
    refine Ks <| Tg <| Sq <| Bk <| Sq <| Rg <| Vs (Mv rfl) <| Vs (As rfl) <| Nx <| ?_
    have hx := ok32_getD oL k
    have hp : (2 : Int) ^ ((32 * (k : Int))).toNat = 4294967296 ^ k := by rw [show ((32 * (k : Int))).toNat = 32 * k by omega, pow_two_words]
    have hs := word_shl (k := k) (by omega) hx
    have hc := val_lt (ok32_take oL k)
    have hc0 := val_nonneg (ok32_take oL k)
    rw [List.length_take, Nat.min_eq_left (by omega), ← hok.2] at hc
    rw [← hok.2] at hc0
    rw [← hp] at hs hc
    exact Rg <| Vs (Mv rfl) <| Vs (Mv rfl) <| Vs (Mv rfl) <| Vs (IxN TK22 rfl) <| Vs (Lq TA64 rfl) <| Vs (Cv TU64 TU65 rfl wrW) <| Vs (Mv rfl) <| Vs (Bo rfl muI) <| Vs (Bo (c := .int .u64 (((L).getD (k) 0 * 2 ^ ((32 * (k : Int))).toNat))) rfl (bop_shl_u64 (by omega) (by omega) (by omega))) <| Vs (Bo (c := .int .u64 ((c + ((L).getD (k) 0 * 2 ^ ((32 * (k : Int))).toNat)))) rfl (bop_orR_u64 (q := 2 ^ ((32 * (k : Int))).toNat) ((32 * (k : Int))).toNat rfl ⟨hc0, hc⟩ ⟨_, hx.1, rfl⟩ (by omega))) <| Vs (As rfl) <| VList.nil <| Ig <| Tg <| Rg <| Vs (Bo rfl adI) <| Vs (Mv rfl) <| VList.nil <| Go (k + 1, (c + (L).getD (k) 0 * 2 ^ ((32 * (k : Int))).toNat)) ⟨by omega, by rw [val_take_step, ← hok.2, hp, Int.mul_comm]⟩ Wk
  · replace hc1 := of_decide_eq_false hc1
    exact Ke <| Te <| Oe <| Ih <| Tg <| Sq <| Rg <| Vs (Mv rfl) <| Vs (As rfl) <| Nx <| Re <| Fi (l := [numB .u64 (c)]) (Rc (resVar_tmp rfl rfl) Rn) (by have h := hok.1; rw [hok.2, List.take_of_length_le (by omega)]; rfl)
set_option maxRecDepth 100000 in
set_option maxHeartbeats 2000000 in
theorem f84 (x : Int) (h0 : 0 ≤ x) (h1 : x < 4294967296) : VF Tryz.prog 94 [numB .u32 (x)] (numB .i64 (blen x.toNat : Nat)) := by
  refine VF_of P_mixed Tryz.func94 rfl rfl (by kernel_rfl) <| Sq <| Rg <| Vs (As rfl) <| Nx <| Sq <| Sq <| Rg <| Vs (Mv rfl) <| Vs (Bi rfl) <| Nx <| Cd rfl (fun hc1 => ?_) (fun hc1 => ?_)
  · replace hc1 := of_decide_eq_true hc1
    refine Sq <| Rg <| Vs (Mv rfl) <| Vs (Bo rfl (srD 65536)) <| Vs (As rfl) <| Nx <| Rg <| Vs (As rfl) <| Nx <| Sq <| Sq <| Rg <| Vs (Mv rfl) <| Vs (Bi rfl) <| Nx <| Cd rfl (fun hc2 => ?_) (fun hc2 => ?_)
    · replace hc2 := of_decide_eq_true hc2
      exact Sq <| Rg <| Vs (Mv rfl) <| Vs (Bo rfl (srD 256)) <| Vs (As rfl) <| Nx <| Rg <| Vs (Mv rfl) <| Vs (Bo rfl adI) <| Vs (As rfl) <| Nx <| Sq <| Rg <| Vs (Mv rfl) <| Vs (Mv rfl) <| Vs (Cv TU64 TU5 rfl wrB) <| Vs (Ti (z := ((tab8.data.getD (((x / 65536) / 256)).toNat 0).toNat : Int)) TU9 rfl rfl (h1 := (show _ < 256 from by omega))) <| Vs (Cv TU5 TU3 rfl (wrI (h := (by have ht := tab8_le (x / 65536 / 256).toNat; have ht2 := tab8_le (x / 65536).toNat; have ht3 := tab8_le (x / 256).toNat; have ht4 := tab8_le x.toNat; omega)))) <| Vs (Bo rfl (adI (h := (by have ht := tab8_le (x / 65536 / 256).toNat; have ht2 := tab8_le (x / 65536).toNat; have ht3 := tab8_le (x / 256).toNat; have ht4 := tab8_le x.toNat; omega)))) <| Vs (As rfl) <| Nx <| Re <| Fi (l := [numB .i64 (((16 + 8) + ((tab8.data.getD (((x / 65536) / 256)).toNat 0).toNat : Int)))]) (Rc (resVar_tmp rfl rfl) Rn) (by rw [len32_a (y := x / 65536) 16 h0 (by simp) (by omega), len32_a (y := x / 65536 / 256) 8 (by omega) (by simp) (by omega), tab8_get (by omega)]; exact congrArg (numB .i64) (by omega))
    · replace hc2 := of_decide_eq_false hc2
      exact Ks <| Tg <| Sq <| Rg <| Vs (Mv rfl) <| Vs (Mv rfl) <| Vs (Cv TU64 TU5 rfl wrB) <| Vs (Ti (z := ((tab8.data.getD ((x / 65536)).toNat 0).toNat : Int)) TU9 rfl rfl (h1 := (show _ < 256 from by omega))) <| Vs (Cv TU5 TU3 rfl (wrI (h := (by have ht := tab8_le (x / 65536 / 256).toNat; have ht2 := tab8_le (x / 65536).toNat; have ht3 := tab8_le (x / 256).toNat; have ht4 := tab8_le x.toNat; omega)))) <| Vs (Bo rfl (adI (h := (by have ht := tab8_le (x / 65536 / 256).toNat; have ht2 := tab8_le (x / 65536).toNat; have ht3 := tab8_le (x / 256).toNat; have ht4 := tab8_le x.toNat; omega)))) <| Vs (As rfl) <| Nx <| Re <| Fi (l := [numB .i64 ((16 + ((tab8.data.getD ((x / 65536)).toNat 0).toNat : Int)))]) (Rc (resVar_tmp rfl rfl) Rn) (by rw [len32_a (y := x / 65536) 16 h0 (by simp) (by omega), tab8_get (by omega)]; exact congrArg (numB .i64) (by omega))
  · replace hc1 := of_decide_eq_false hc1
    refine Ks <| Tg <| Sq <| Sq <| Rg <| Vs (Mv rfl) <| Vs (Bi rfl) <| Nx <| Cd rfl (fun hc3 => ?_) (fun hc3 => ?_)
    · replace hc3 := of_decide_eq_true hc3
      exact Sq <| Rg <| Vs (Mv rfl) <| Vs (Bo rfl (srD 256)) <| Vs (As rfl) <| Nx <| Rg <| Vs (Mv rfl) <| Vs (Bo rfl adI) <| Vs (As rfl) <| Nx <| Sq <| Rg <| Vs (Mv rfl) <| Vs (Mv rfl) <| Vs (Cv TU64 TU5 rfl wrB) <| Vs (Ti (z := ((tab8.data.getD ((x / 256)).toNat 0).toNat : Int)) TU9 rfl rfl (h1 := (show _ < 256 from by omega))) <| Vs (Cv TU5 TU3 rfl (wrI (h := (by have ht := tab8_le (x / 65536 / 256).toNat; have ht2 := tab8_le (x / 65536).toNat; have ht3 := tab8_le (x / 256).toNat; have ht4 := tab8_le x.toNat; omega)))) <| Vs (Bo rfl (adI (h := (by have ht := tab8_le (x / 65536 / 256).toNat; have ht2 := tab8_le (x / 65536).toNat; have ht3 := tab8_le (x / 256).toNat; have ht4 := tab8_le x.toNat; omega)))) <| Vs (As rfl) <| Nx <| Re <| Fi (l := [numB .i64 (((0 + 8) + ((tab8.data.getD ((x / 256)).toNat 0).toNat : Int)))]) (Rc (resVar_tmp rfl rfl) Rn) (by rw [len32_a (y := x / 256) 8 h0 (by simp) (by omega), tab8_get (by omega)]; exact congrArg (numB .i64) (by omega))
    · replace hc3 := of_decide_eq_false hc3
      exact Ks <| Tg <| Sq <| Rg <| Vs (Mv rfl) <| Vs (Mv rfl) <| Vs (Cv TU64 TU5 rfl wrB) <| Vs (Ti (z := ((tab8.data.getD (x).toNat 0).toNat : Int)) TU9 rfl rfl (h1 := (show _ < 256 from by omega))) <| Vs (Cv TU5 TU3 rfl (wrI (h := (by have ht := tab8_le (x / 65536 / 256).toNat; have ht2 := tab8_le (x / 65536).toNat; have ht3 := tab8_le (x / 256).toNat; have ht4 := tab8_le x.toNat; omega)))) <| Vs (Bo rfl (adI (h := (by have ht := tab8_le (x / 65536 / 256).toNat; have ht2 := tab8_le (x / 65536).toNat; have ht3 := tab8_le (x / 256).toNat; have ht4 := tab8_le x.toNat; omega)))) <| Vs (As rfl) <| Nx <| Re <| Fi (l := [numB .i64 ((0 + ((tab8.data.getD (x).toNat 0).toNat : Int)))]) (Rc (resVar_tmp rfl rfl) Rn) (by rw [tab8_get (by omega)]; exact congrArg (numB .i64) (by omega))
theorem f81 (x : Int) (h0 : 0 ≤ x) (h1 : x < 4294967296) : VF Tryz.prog 91 [numB .u32 (x)] (numB .i64 ((32 - blen x.toNat : Nat) : Int)) := by
  refine VF_of P_mixed Tryz.func91 rfl rfl (by kernel_rfl) <| Sq <| Rg <| Vs (As rfl) <| Nx <| Sq <| Rg <| Vs (Mv rfl) <| Vs (Cf rfl rfl (f84 _ (by first | omega | assumption | (simp; done) | (simp; omega)) (by first | omega | assumption | (simp; done) | (simp; omega))) rfl) <| ?_
  have hb := (blen_lt 32 x.toNat).2 (by omega)
  exact Vs (Bo rfl suI) <| Vs (As rfl) <| Nx <| Re <| Fi (l := [numB .i64 ((32 - ((blen (x).toNat : Nat) : Int)))]) (Rc (resVar_tmp rfl rfl) Rn) (by exact congrArg (numB .i64) (by omega))
theorem f77 (L : List Int) (hL : L.length ≤ 1000000000) (nL : norm L) : VF Tryz.prog 70 [u32S (L)] (numB .i64 ((blen (val L).toNat : Nat) : Int)) := by
  refine VF_of P_mixed Tryz.func70 rfl rfl (by kernel_rfl) <| Sq <| Rg <| Vs (As rfl) <| Nx <| Sq <| Sq <| Rg <| Vs (Mv rfl) <| Vs (Ls TK22 rfl) <| Vs (Bi rfl) <| Nx <| Cd rfl (fun hc1 => ?_) (fun hc1 => ?_)
  · replace hc1 := eq_of_beq hc1
    exact Sq <| Rg <| Vs (As rfl) <| Nx <| Re <| Tr <| Fi (l := [numB .i64 (0)]) (Rc (resVar_tmp rfl rfl) Rn) (by rw [norm_zero nL (by omega)]; exact congrArg (numB .i64) (by simp [blen_zero]))
  · replace hc1 := ne_of_beq_false hc1
    refine Ks <| Tg <| Sq <| ?_
    have hx := ok32_getD nL.1 ((((L).length : Int) - 1)).toNat
    have e := blen_val (q := ((((L).length : Int) - 1)).toNat) nL (by omega) (by omega)
    refine Rg <| Vs (Mv rfl) <| Vs (Ls TK22 rfl) <| Vs (Bo rfl suI) <| Vs (Bo rfl muI) <| Vs (Mv rfl) <| Vs (Mv rfl) <| Vs (Ls TK22 rfl) <| Vs (Bo rfl suI) <| Vs (Ix TK22 rfl) <| Vs (Lq TA64 rfl) <| Vs (Cf rfl rfl (f84 _ (by first | omega | assumption | (simp; done) | (simp; omega)) (by first | omega | assumption | (simp; done) | (simp; omega))) rfl) <| ?_
    have hb := (blen_lt 32 ((L).getD ((((L).length : Int) - 1)).toNat 0).toNat).2 (by omega)
    exact Vs (Bo rfl adI) <| Vs (As rfl) <| Nx <| Re <| Fi (l := [numB .i64 (((32 * (((L).length : Int) - 1)) + ((blen ((L).getD ((((L).length : Int) - 1)).toNat 0).toNat : Nat) : Int)))]) (Rc (resVar_tmp rfl rfl) Rn) (by rw [e]; exact congrArg (numB .i64) (by omega))
theorem f28 (n : Int) (h0 : -9223372036854775808 ≤ n) (h1 : n ≤ 9223372036854775807) : VF Tryz.prog 21 [numB .i64 (n)] (intB (zN n) (zL n)) := by
  refine VF_of P_mixed Tryz.func21 rfl rfl (by kernel_rfl) <| Sq <| Rg <| Vs (Al 0 TZ24 rfl) <| Nx <| Sq <| Rg <| Vs (Mv rfl) <| Vs (Cv TU3 TU65 rfl (wrapM_u64 _)) <| Vs (As rfl) <| Nx <| Sq <| Sq <| Rg <| Vs (Mv rfl) <| Vs (Bi rfl) <| Nx <| Cd rfl (fun hc1 => ?_) (fun hc1 => ?_)
  · replace hc1 := of_decide_eq_true hc1
    exact Rg <| Vs (Mv rfl) <| Vs (Uo (c := .int .u64 (((0 - ((n) % 18446744073709551616)) % 18446744073709551616))) rfl (uopM_neg_u64 _)) <| Vs (As rfl) <| Nx <| Sq <| Rg <| Vs (Mv rfl) <| Vs (Bi rfl) <| Vs (Mv rfl) <| Vs (Cv TU65 TU64 rfl (wrapM_u32 _)) <| Vs (Mv rfl) <| Vs (Bo rfl (srW 4294967296)) <| Vs (Cv TU65 TU64 rfl (wrapM_u32 _)) <| Vs (L2s 16 TK22 rfl) <| Vs (Cc rfl (Rk rfl (Rk (Rr rfl) Rz)) (f54 _ _ (by simp) (ok32_two (by omega) (by omega)))) <| Vs (Mv rfl) <| Vs (Xt rfl) <| Vs (Xt rfl) <| Vs (Al 21 TZ24 rfl) <| Vs (StS TS24 rfl) <| Vs (As rfl) <| Nx <| Sq <| Rg <| Vs (LdS TA24 TS24 rfl) <| Vs (StS TS24 rfl) <| Nx <| Re <| Fi (l := [.agg [boolB (zN (sg (decide (n < 0)) (val ([((((0 - ((n) % 18446744073709551616)) % 18446744073709551616)) % 4294967296), (((((0 - ((n) % 18446744073709551616)) % 18446744073709551616) / 4294967296)) % 4294967296)])))), u32S (zL (sg (decide (n < 0)) (val ([((((0 - ((n) % 18446744073709551616)) % 18446744073709551616)) % 4294967296), (((((0 - ((n) % 18446744073709551616)) % 18446744073709551616) / 4294967296)) % 4294967296)]))))]]) (Rc (resVar_cell rfl rfl TA24 TS24 (Nat.le_of_ble_eq_true rfl) rfl) Rn) (by rw [of_val (by omega), show sg (decide (n < 0)) ((0 - n % 18446744073709551616) % 18446744073709551616) = n by simp only [sg, decide_eq_true hc1, if_true]; omega]; rfl)
  · replace hc1 := of_decide_eq_false hc1
    exact Ks <| Tg <| Sq <| Rg <| Vs (Mv rfl) <| Vs (Bi rfl) <| Vs (Mv rfl) <| Vs (Cv TU65 TU64 rfl (wrapM_u32 _)) <| Vs (Mv rfl) <| Vs (Bo rfl (srW 4294967296)) <| Vs (Cv TU65 TU64 rfl (wrapM_u32 _)) <| Vs (L2s 13 TK22 rfl) <| Vs (Cc rfl (Rk rfl (Rk (Rr rfl) Rz)) (f54 _ _ (by simp) (ok32_two (by omega) (by omega)))) <| Vs (Mv rfl) <| Vs (Xt rfl) <| Vs (Xt rfl) <| Vs (Al 18 TZ24 rfl) <| Vs (StS TS24 rfl) <| Vs (As rfl) <| Nx <| Sq <| Rg <| Vs (LdS TA24 TS24 rfl) <| Vs (StS TS24 rfl) <| Nx <| Re <| Fi (l := [.agg [boolB (zN (sg (decide (n < 0)) (val ([((((n) % 18446744073709551616)) % 4294967296), (((((n) % 18446744073709551616) / 4294967296)) % 4294967296)])))), u32S (zL (sg (decide (n < 0)) (val ([((((n) % 18446744073709551616)) % 4294967296), (((((n) % 18446744073709551616) / 4294967296)) % 4294967296)]))))]]) (Rc (resVar_cell rfl rfl TA24 TS24 (Nat.le_of_ble_eq_true rfl) rfl) Rn) (by rw [of_val (by omega), show sg (decide (n < 0)) (n % 18446744073709551616) = n by simp only [sg, decide_eq_false hc1, Bool.false_eq_true, if_false]; omega]; rfl)
end Go.VL

/- Walks over the Go functions, printed by a program of this session over the kit's print, and by hand. -/
set_option linter.unusedVariables false
set_option linter.unusedSimpArgs false
namespace Go.VL
open Go.Proofs
theorem f82 (U V : List Int) (j : Nat) (q : Int) (hU : U.length ≤ 900000000) (oU : ok32 U) (oV : ok32 V) (hq : 0 ≤ q ∧ q < 4294967296) (hj : j + V.length < U.length) (hz : ∀ k, j + V.length < k → U.getD k 0 = 0) (hl : (q - 1) * val V ≤ val (U.drop j)) (hr : val (U.drop j) < (q + 1) * val V) (hVp : 0 < val V) : VM Tryz.prog 92 ((U).map u32B) [numB .i64 ((j : Int)), u32S (V), numB .u64 (q)] (numB .u32 (val (U.drop j) / val V)) ((pad U.length (took U V j)).map u32B) := by
  refine VMr_of P_mixed Tryz.func92 rfl rfl (by kernel_rfl) (pad_len (took_range oU oV (by omega) hVp).1 (took_range oU oV (by omega) hVp).2).1 rfl <| Sq <| Rg <| Vs (As rfl) <| Nx <| Sq <| Rg <| Vs (As rfl) <| Vs (As rfl) <| Nx <| Sq <| Sq <| Rg <| Vs (Mv rfl) <| Vs (Ls TK22 rfl) <| Vs (Mv rfl) <| Nx <| Bk <| VCode.loop (α := (Nat) × (Int) × (Int) × (List Int)) (fun x_ => match x_ with | (i, c, w, O) => (1, sl [(0, .own 0 ((U).length)), (1, vI .i64 ((j : Int))), (2, vS (V)), (3, vI .u64 (q)), (9, vI .u64 (c)), (10, vI .u64 (w)), (18, vI .i64 (((V).length : Int))), (19, vI .i64 ((i : Int)))], en [(0, rowK .u32 (O))])) (fun x_ => match x_ with | (i, c, w, O) => TakeInv U V O q j i c w) (fun x_ => match x_ with | (i, c, w, O) => V.length - i) (0, 0, 0, U) (TakeInv.start oU) Wk ?_
  rintro ⟨i, c, w, O⟩ hok
  change VCode _ _ _ 1 (sl _) (en _) _
  refine Sq <| Rg <| Vs (Bi rfl) <| Nx <| Sq <| Cd rfl (fun hc1 => ?_) (fun hc1 => ?_)
  · replace hc1 := of_decide_eq_true hc1
    refine Ks <| Tg <| Sq <| Bk <| Sq <| Rg <| Vs (Mv rfl) <| Vs (As rfl) <| Nx <| Sq <| ?_
    have hi : (((j : Int)) + ((i : Int))).toNat = j + i := (by omega)
    have hv := ok32_getD oV i
    have hp := take_prod hq hv ⟨hok.c0, hok.c1⟩
    have hqv := mul_small hq hv
    have h0 := hok.c0
    have h1 := hok.c1
    have hlen := hok.len
    have hO := ok32_getD hok.ok ((((j : Int)) + ((i : Int))).toNat)
    exact Rg <| Vs (Mv rfl) <| Vs (Mv rfl) <| Vs (Mv rfl) <| Vs (IxN TK22 rfl) <| Vs (Lq TA64 rfl) <| Vs (Cv TU64 TU65 rfl wrW) <| Vs (Bo rfl muW) <| Vs (Mv rfl) <| Vs (Bo rfl adW) <| Vs (As rfl) <| Nx <| Sq <| Rg <| Vs (Mv rfl) <| Vs (Bo rfl (srW 4294967296)) <| Vs (As rfl) <| Nx <| Sq <| Rg <| Vs (Mv rfl) <| Vs (Mv rfl) <| Vs (Mv rfl) <| Vs (Bo rfl adI) <| Vs (Ir TK22 rfl) <| Vs (LrK TA64 rfl) <| Vs (Cv TU64 TU65 rfl wrW) <| Vs (Mv rfl) <| Vs (Bo (c := .int .u64 ((((q * (V).getD (i) 0) + c) % 4294967296))) rfl (bop_mask_u64 (q := 4294967296) 32 (by decide) (by decide) (by decide) (by omega))) <| Vs (Bo (c := .int .u64 ((((O).getD ((((j : Int) + (i : Int))).toNat) 0 - (((q * (V).getD (i) 0) + c) % 4294967296)) % 18446744073709551616))) rfl (bopM_sub_u64 _ _)) <| Vs (Mv rfl) <| Vs (Bo (c := .int .u64 ((((((O).getD ((((j : Int) + (i : Int))).toNat) 0 - (((q * (V).getD (i) 0) + c) % 4294967296)) % 18446744073709551616) - w) % 18446744073709551616))) rfl (bopM_sub_u64 _ _)) <| Vs (As rfl) <| Nx <| Sq <| Rg <| Vs (Mv rfl) <| Vs (Mv rfl) <| Vs (Mv rfl) <| Vs (Bo rfl adI) <| Vs (Mv rfl) <| Vs (Cv TU65 TU64 rfl (wrapM_u32 _)) <| Vs (Ir TK22 rfl) <| Vs (SrK TS64 rfl) <| Nx <| Rg <| Vs (Mv rfl) <| Vs (Bo rfl (srW 9223372036854775808)) <| Vs (As rfl) <| VList.nil <| Ig <| Tg <| Rg <| Vs (Bo rfl adI) <| Vs (Mv rfl) <| VList.nil <| Go (i + 1, (q * (V).getD (i) 0 + c) / 4294967296, (((((O).getD ((((j : Int)) + ((i : Int))).toNat) 0 - ((q * (V).getD (i) 0 + c) % 4294967296)) % 18446744073709551616) - w) % 18446744073709551616) / 9223372036854775808, (O).set ((((j : Int)) + ((i : Int))).toNat) ((((((O).getD ((((j : Int)) + ((i : Int))).toNat) 0 - ((q * (V).getD (i) 0 + c) % 4294967296)) % 18446744073709551616) - w) % 18446744073709551616) % 4294967296)) (by show TakeInv U V ((O).set ((((j : Int)) + ((i : Int))).toNat) ((((((O).getD ((((j : Int)) + ((i : Int))).toNat) 0 - ((q * (V).getD (i) 0 + c) % 4294967296)) % 18446744073709551616) - w) % 18446744073709551616) % 4294967296)) q j (i + 1) _ _; rw [hi]; exact hok.step oV hq (by omega) hj rfl rfl) Wk
  · replace hc1 := of_decide_eq_false hc1
    refine Ke <| Te <| Oe <| Ih <| Tg <| Sq <| ?_
    have hn : (((j : Int)) + (((V).length : Int))).toNat = j + V.length := (by omega)
    have hlen := hok.len
    have hle := hok.le
    have h0 := hok.c0
    have h1 := hok.c1
    have hi : i = V.length := (by omega)
    subst hi
    have hO := ok32_getD hok.ok ((((j : Int)) + (((V).length : Int))).toNat)
    refine Rg <| Vs (Mv rfl) <| Vs (Mv rfl) <| Vs (Mv rfl) <| Vs (Ls TK22 rfl) <| Vs (Bo rfl adI) <| Vs (Ir TK22 rfl) <| Vs (LrK TA64 rfl) <| Vs (Cv TU64 TU65 rfl wrW) <| Vs (Mv rfl) <| Vs (Bo (c := .int .u64 ((((O).getD ((((j : Int) + ((V).length : Int))).toNat) 0 - c) % 18446744073709551616))) rfl (bopM_sub_u64 _ _)) <| Vs (Mv rfl) <| Vs (Bo (c := .int .u64 ((((((O).getD ((((j : Int) + ((V).length : Int))).toNat) 0 - c) % 18446744073709551616) - w) % 18446744073709551616))) rfl (bopM_sub_u64 _ _)) <| Vs (As rfl) <| Nx <| Sq <| Rg <| Vs (Mv rfl) <| Vs (Mv rfl) <| Vs (Mv rfl) <| Vs (Ls TK22 rfl) <| Vs (Bo rfl adI) <| Vs (Mv rfl) <| Vs (Cv TU65 TU64 rfl (wrapM_u32 _)) <| Vs (Ir TK22 rfl) <| Vs (SrK TS64 rfl) <| Nx <| Sq <| Sq <| Rg <| Vs (Mv rfl) <| Vs (Bo rfl (srW 9223372036854775808)) <| Vs (Bi rfl) <| Nx <| Cd rfl (fun hc2 => ?_) (fun hc2 => ?_)
    · replace hc2 := eq_of_beq hc2
      refine Sq <| ?_
      rw [hn] at hc2
      obtain ⟨g1, g2⟩ := hok.good rfl hj rfl hc2
      obtain ⟨d1, d2⟩ := take_good oU oV g2 (by simp [hlen]) (by omega) hVp hr g1
      exact Rg <| Vs (Mv rfl) <| Vs (Cv TU65 TU64 rfl (wrapM_u32 _)) <| Vs (As rfl) <| Nx <| Re <| Tr <| ⟨trivial, ⟨_, (Rc (resVar_tmp rfl rfl) Rn), (by rw [d1, show q % 4294967296 = q by omega]; rfl)⟩, (show some (rowK .u32 ((O).set ((((j : Int) + ((V).length : Int))).toNat) ((((((((O).getD ((((j : Int) + ((V).length : Int))).toNat) 0 - c) % 18446744073709551616) - w) % 18446744073709551616)) % 4294967296)))) = some (rowK .u32 (pad U.length (took U V j))) from (by rw [hn, d2]))⟩
    · replace hc2 := ne_of_beq_false hc2
      refine Ks <| Tg <| Sq <| ?_
      rw [hn] at hc2
      obtain ⟨hb1, hb2⟩ := hok.bad rfl hj rfl hc2
      have hWz : ∀ k, j + V.length < k → ((O).set (j + V.length) ((((((O).getD (j + V.length) 0 - c) % 18446744073709551616) - w) % 18446744073709551616) % 4294967296)).getD k 0 = 0 := fun k hk => (by rw [getD_set_ne (by omega), hok.same k (by omega)]; exact hz k hk)
      refine Rg <| Vs (As rfl) <| Nx <| Sq <| Sq <| Rg <| Vs (Mv rfl) <| Vs (Ls TK22 rfl) <| Vs (Mv rfl) <| Nx <| Bk <| VCode.loop (α := (Nat) × (Int) × (List Int)) (fun x_ => match x_ with | (i, c2, O2) => (1, sl [(0, .own 0 ((U).length)), (1, vI .i64 ((j : Int))), (2, vS (V)), (3, vI .u64 (q)), (9, vI .u64 (c2)), (81, vI .i64 (((V).length : Int))), (82, vI .i64 ((i : Int)))], en [(0, rowK .u32 (O2))])) (fun x_ => match x_ with | (i, c2, O2) => BackInv ((O).set (j + V.length) ((((((O).getD ((((j : Int)) + (((V).length : Int))).toNat) 0 - c) % 18446744073709551616) - w) % 18446744073709551616) % 4294967296)) V O2 j i c2) (fun x_ => match x_ with | (i, c2, O2) => V.length - i) (0, 0, (O).set ((((j : Int)) + (((V).length : Int))).toNat) ((((((O).getD ((((j : Int)) + (((V).length : Int))).toNat) 0 - c) % 18446744073709551616) - w) % 18446744073709551616) % 4294967296)) (by rw [hn]; exact BackInv.start hb2) Wk ?_
      rintro ⟨i, c2, O2⟩ hok2
      change VCode _ _ _ 1 (sl _) (en _) _
      refine Sq <| Rg <| Vs (Bi rfl) <| Nx <| Sq <| Cd rfl (fun hc3 => ?_) (fun hc3 => ?_)
      · replace hc3 := of_decide_eq_true hc3
        refine Ks <| Tg <| Sq <| Bk <| Sq <| Rg <| Vs (Mv rfl) <| Vs (As rfl) <| Nx <| Sq <| ?_
        have hi : (((j : Int)) + ((i : Int))).toNat = j + i := (by omega)
        have hv := ok32_getD oV i
        have hlen2 := hok2.len
        have hO2 := ok32_getD hok2.ok ((((j : Int)) + ((i : Int))).toNat)
        have h3 := hok2.c0
        have h4 := hok2.c1
        simp only [List.length_set] at hlen2
        refine Rd (by kernel_rfl) <| Vl (Mv rfl) <| Vl (Mv rfl) <| Vl (Mv rfl) <| Vl (Bo rfl adI) <| Vl (Ir TK22 rfl) <| Vl (LrK TA64 rfl) <| Vl (Cv TU64 TU65 rfl wrW) <| Vl (Mv rfl) <| Vl (Mv rfl) <| Vl (IxN TK22 rfl) <| Vl (Lq TA64 rfl) <| Vl (Cv TU64 TU65 rfl wrW) <| Vl (Bo rfl adW) <| Vl (Mv rfl) <| Vl (Bo rfl adW) <| Vl (As rfl) <| ?_
        refine VLog.nil ⟨by kernel_rfl, ?_⟩
        exact Tg <| Sq <| Rg <| Vs (Mv rfl) <| Vs (Mv rfl) <| Vs (Mv rfl) <| Vs (Bo rfl adI) <| Vs (Mv rfl) <| Vs (Cv TU65 TU64 rfl (wrapM_u32 _)) <| Vs (Ir TK22 rfl) <| Vs (SrK TS64 rfl) <| Nx <| Rg <| Vs (Mv rfl) <| Vs (Bo rfl (srW 4294967296)) <| Vs (As rfl) <| VList.nil <| Ig <| Tg <| Rg <| Vs (Bo rfl adI) <| Vs (Mv rfl) <| VList.nil <| Go (i + 1, (((O2).getD ((((j : Int)) + ((i : Int))).toNat) 0 + (V).getD (i) 0) + c2) / 4294967296, (O2).set ((((j : Int)) + ((i : Int))).toNat) ((((O2).getD ((((j : Int)) + ((i : Int))).toNat) 0 + (V).getD (i) 0) + c2) % 4294967296)) (by rw [hi]; exact hok2.step oV (by omega) (by simp [hlen]; omega) rfl) Wk
      · replace hc3 := of_decide_eq_false hc3
        refine Ke <| Te <| Oe <| Ih <| Tg <| Sq <| ?_
        have hlen2 := hok2.len
        simp only [List.length_set] at hlen2
        have hle2 := hok2.le
        have h3 := hok2.c0
        have h4 := hok2.c1
        have hi2 : i = V.length := (by omega)
        subst hi2
        have hov := take_over oU oV hj hl hz (by simp [hlen]) hb1 hWz hok2
        obtain ⟨f1, f2⟩ := hok2.fin rfl (by simp [hlen]; omega) hov
        obtain ⟨d1, d2, d3⟩ := take_bad oU oV hb2 f2 hj hVp hl (by simp [hlen]) (by simp [hlen2, hlen]) hb1 hWz f1
        exact Rg <| Vs (Mv rfl) <| Vs (Mv rfl) <| Vs (Mv rfl) <| Vs (Ls TK22 rfl) <| Vs (Bo rfl adI) <| Vs (Ir TK22 rfl) <| Vs (LrK TA64 rfl) <| Vs (Mv rfl) <| Vs (Cv TU65 TU64 rfl (wrapM_u32 _)) <| Vs (Bo (c := .int .u32 ((((O2).getD ((((j : Int) + ((V).length : Int))).toNat) 0 + ((c2) % 4294967296)) % 4294967296))) rfl (bopM_add_u32 _ _)) <| Vs (Ir TK22 rfl) <| Vs (SrK TS64 rfl) <| Nx <| Sq <| Rg <| Vs (Mv rfl) <| Vs (Bo (c := .int .u64 (((q - 1) % 18446744073709551616))) rfl (bopM_sub_u64 _ _)) <| Vs (Cv TU65 TU64 rfl (wrapM_u32 _)) <| Vs (As rfl) <| Nx <| Re <| ⟨trivial, ⟨_, (Rc (resVar_tmp rfl rfl) Rn), (by rw [d1, show (q - 1) % 18446744073709551616 % 4294967296 = q - 1 by omega]; rfl)⟩, (show some (rowK .u32 ((O2).set ((((j : Int) + ((V).length : Int))).toNat) ((((O2).getD ((((j : Int) + ((V).length : Int))).toNat) 0 + ((c2) % 4294967296)) % 4294967296)))) = some (rowK .u32 (pad U.length (took U V j))) from (by rw [hn, show c2 % 4294967296 = c2 by omega, d2]))⟩
theorem f83 (U V : List Int) (j : Nat) (p : Int) (hU : U.length ≤ 900000000) (hV : V.length ≤ 900000000) (oU : ok32 U) (oV : ok32 V) (h2 : 2 ≤ V.length) (hj : j + V.length < U.length) (hF : DigFix (val (U.drop j)) (val V) ((V).getD ((((V).length : Int) - 1)).toNat 0) ((V).getD ((((V).length : Int) - 2)).toNat 0) ((U).getD ((((j : Int) + ((V).length : Int)) - 1)).toNat 0) ((U).getD ((((j : Int) + ((V).length : Int)) - 2)).toNat 0) ((((U).getD (((j : Int) + ((V).length : Int))).toNat 0 * 4294967296) + (U).getD ((((j : Int) + ((V).length : Int)) - 1)).toNat 0)) p) : VF Tryz.prog 93 [u32S (U), numB .i64 ((j : Int)), u32S (V)] (numB .u64 (digF ((V).getD ((((V).length : Int) - 1)).toNat 0) ((V).getD ((((V).length : Int) - 2)).toNat 0) ((U).getD ((((j : Int) + ((V).length : Int)) - 2)).toNat 0) ((((U).getD (((j : Int) + ((V).length : Int))).toNat 0 * 4294967296) + (U).getD ((((j : Int) + ((V).length : Int)) - 1)).toNat 0)))) := by
  refine VF_of P_mixed Tryz.func93 rfl rfl (by kernel_rfl) <| Sq <| Rg <| Vs (As rfl) <| Nx <| Sq <| Rg <| Vs (Mv rfl) <| Vs (Ls TK22 rfl) <| Vs (As rfl) <| Nx <| Sq <| ?_
  have a1 := ok32_getD oU (((j : Int) + ((V).length : Int))).toNat
  have a2 := ok32_getD oU ((((j : Int) + ((V).length : Int)) - 1)).toNat
  have a3 := ok32_getD oU ((((j : Int) + ((V).length : Int)) - 2)).toNat
  have b1 := ok32_getD oV ((((V).length : Int) - 1)).toNat
  have b2 := ok32_getD oV ((((V).length : Int) - 2)).toNat
  have hv1 := hF.v1l
  refine Rd (by kernel_rfl) <| Vl (Mv rfl) <| Vl (Mv rfl) <| Vl (Mv rfl) <| Vl (Bo rfl adI) <| Vl (Ix TK22 rfl) <| Vl (Lq TA64 rfl) <| Vl (Cv TU64 TU65 rfl wrW) <| Vl (Bo (c := .int .u64 (((U).getD (((j : Int) + ((V).length : Int))).toNat 0 * 4294967296))) rfl (bop_shlL_u64 (q := 4294967296) (by decide) (by decide) (by decide) (by omega))) <| Vl (Mv rfl) <| Vl (Mv rfl) <| Vl (Mv rfl) <| Vl (Bo rfl adI) <| Vl (Bo rfl suI) <| Vl (Ix TK22 rfl) <| Vl (Lq TA64 rfl) <| Vl (Cv TU64 TU65 rfl wrW) <| Vl (Bo (c := .int .u64 ((((U).getD (((j : Int) + ((V).length : Int))).toNat 0 * 4294967296) + (U).getD ((((j : Int) + ((V).length : Int)) - 1)).toNat 0))) rfl (bop_or_u64 (q := 4294967296) 32 (by decide) ⟨_, a1.1, rfl⟩ a2 (by omega))) <| Vl (As rfl) <| ?_
  refine VLog.nil ⟨by kernel_rfl, ?_⟩
  refine Tg <| Sq <| Rg <| Vs (Mv rfl) <| Vs (Mv rfl) <| Vs (Mv rfl) <| Vs (Bo rfl suI) <| Vs (Ix TK22 rfl) <| Vs (Lq TA64 rfl) <| Vs (Cv TU64 TU65 rfl wrW) <| Vs (Bo rfl quW) <| Vs (As rfl) <| Nx <| Sq <| Rg <| Vs (Mv rfl) <| Vs (Mv rfl) <| Vs (Mv rfl) <| Vs (Bo rfl suI) <| Vs (Ix TK22 rfl) <| Vs (Lq TA64 rfl) <| Vs (Cv TU64 TU65 rfl wrW) <| Vs (Bo rfl reW) <| Vs (As rfl) <| Nx <| Sq <| Bk <| VCode.loop (α := (Nat) × (Int) × (Int)) (fun x_ => match x_ with | (f, q, r) => (0, sl [(0, vS (U)), (1, vI .i64 ((j : Int))), (2, vS (V)), (7, vI .i64 (((V).length : Int))), (9, vI .u64 (q)), (10, vI .u64 (r))], en [])) (fun x_ => match x_ with | (f, q, r) => DigInv (val (U.drop j)) (val V) ((V).getD ((((V).length : Int) - 1)).toNat 0) ((V).getD ((((V).length : Int) - 2)).toNat 0) ((U).getD ((((j : Int) + ((V).length : Int)) - 2)).toNat 0) ((((U).getD (((j : Int) + ((V).length : Int))).toNat 0 * 4294967296) + (U).getD ((((j : Int) + ((V).length : Int)) - 1)).toNat 0)) p q r ∧ digL f ((V).getD ((((V).length : Int) - 1)).toNat 0) ((V).getD ((((V).length : Int) - 2)).toNat 0) ((U).getD ((((j : Int) + ((V).length : Int)) - 2)).toNat 0) q r = digF ((V).getD ((((V).length : Int) - 1)).toNat 0) ((V).getD ((((V).length : Int) - 2)).toNat 0) ((U).getD ((((j : Int) + ((V).length : Int)) - 2)).toNat 0) ((((U).getD (((j : Int) + ((V).length : Int))).toNat 0 * 4294967296) + (U).getD ((((j : Int) + ((V).length : Int)) - 1)).toNat 0)) ∧ q < f) (fun x_ => match x_ with | (f, q, r) => f) (((((U).getD (((j : Int) + ((V).length : Int))).toNat 0 * 4294967296) + (U).getD ((((j : Int) + ((V).length : Int)) - 1)).toNat 0) / ((V).getD ((((V).length : Int) - 1)).toNat 0)).toNat + 1, (((U).getD (((j : Int) + ((V).length : Int))).toNat 0 * 4294967296) + (U).getD ((((j : Int) + ((V).length : Int)) - 1)).toNat 0) / ((V).getD ((((V).length : Int) - 1)).toNat 0), (((U).getD (((j : Int) + ((V).length : Int))).toNat 0 * 4294967296) + (U).getD ((((j : Int) + ((V).length : Int)) - 1)).toNat 0) % ((V).getD ((((V).length : Int) - 1)).toNat 0)) ⟨DigInv.start hF rfl rfl, rfl, by have := (DigInv.start hF rfl rfl).q0; omega⟩ Wk ?_
  rintro ⟨f, q, r⟩ hok
  change VCode _ _ _ 0 (sl _) (en _) _
  refine Sq <| Sq <| ?_
  obtain ⟨hD, hQ, hf⟩ := hok
  have r0 := hD.r0
  have r1 := hD.r1
  have q0 := hD.q0
  have qle := hD.qle hF
  refine Rd (by kernel_rfl) <| Vl (Mv rfl) <| Vl (Bi rfl) <| Vl (Mv rfl) <| Sl 48 rfl (fun hc1 => ?_) (fun hc1 => ?_)
  · replace hc1 := of_decide_eq_true hc1
    refine Lk rfl <| Lk rfl <| Lk rfl <| Lk rfl <| Lk rfl <| Lk rfl <| Lk rfl <| Lk rfl <| Lk rfl <| Lk rfl <| Lk rfl <| Lk rfl <| Lk rfl <| Lk rfl <| Lk rfl <| Lk rfl <| Lk rfl <| Lk rfl <| Lk rfl <| Lk rfl <| Vl (Pk rfl) <| ?_
    refine VLog.nil ⟨by kernel_rfl, ?_⟩
    refine Tg <| Cy rfl <| Ks <| Tg <| Bk <| Sq <| ?_
    have ht : 4294967296 ≤ q ∨ r * 4294967296 + (U).getD ((((j : Int) + ((V).length : Int)) - 2)).toNat 0 < q * (V).getD ((((V).length : Int) - 2)).toNat 0 := (by omega)
    have hp0 := hD.pos hF ht
    refine Rg <| Vs (Mv rfl) <| Vs (Bo rfl suW) <| Vs (As rfl) <| Nx <| Sq <| Rg <| Vs (Mv rfl) <| Vs (Mv rfl) <| Vs (Mv rfl) <| Vs (Bo rfl suI) <| Vs (Ix TK22 rfl) <| Vs (Lq TA64 rfl) <| Vs (Cv TU64 TU65 rfl wrW) <| Vs (Bo rfl adW) <| Vs (As rfl) <| Nx <| Sq <| Rg <| Vs (Mv rfl) <| Vs (Bi rfl) <| Nx <| Cd rfl (fun hc2 => ?_) (fun hc2 => ?_)
    · replace hc2 := of_decide_eq_true hc2
      exact Ke <| Io <| Oe <| Ih <| Tg <| Sq <| Rg <| Vs (Mv rfl) <| Vs (As rfl) <| Nx <| Re <| Fi (l := [numB .u64 ((q - 1))]) (Rc (resVar_tmp rfl rfl) Rn) (by rw [← hQ, digL_break (by omega) ht (by omega)]; rfl)
    · replace hc2 := of_decide_eq_false hc2
      exact Ks <| Ig <| Go (f - 1, q - 1, r + (V).getD ((((V).length : Int) - 1)).toNat 0) ⟨(hD.step hF ht (by omega)).1, by rw [← hQ, digL_go (by omega) ht (by omega)], by omega⟩ Wk
  · replace hc1 := of_decide_eq_false hc1
    refine Vl (Mv rfl) <| Vl (Mv rfl) <| Vl (Mv rfl) <| Vl (Bo rfl suI) <| Vl (Ix TK22 rfl) <| Vl (Lq TA64 rfl) <| Vl (Cv TU64 TU65 rfl wrW) <| ?_
    have hm := mul_small (x := q) (y := (V).getD ((((V).length : Int) - 2)).toNat 0) (by omega) b2
    refine Vl (Bo rfl muW) <| Vl (Mv rfl) <| Vl (Bo (c := .int .u64 ((r * 4294967296))) rfl (bop_shlL_u64 (q := 4294967296) (by decide) (by decide) (by decide) (by omega))) <| Vl (Mv rfl) <| Vl (Mv rfl) <| Vl (Mv rfl) <| Vl (Bo rfl adI) <| Vl (Bo rfl suI) <| Vl (Ix TK22 rfl) <| Vl (Lq TA64 rfl) <| Vl (Cv TU64 TU65 rfl wrW) <| Vl (Bo (c := .int .u64 (((r * 4294967296) + (U).getD ((((j : Int) + ((V).length : Int)) - 2)).toNat 0))) rfl (bop_or_u64 (q := 4294967296) 32 (by decide) ⟨_, r0, rfl⟩ a3 (by omega))) <| Vl (Bi rfl) <| Vl (Pk rfl) <| ?_
    refine VLog.nil ⟨by kernel_rfl, ?_⟩
    refine Tg <| Cd rfl (fun hc3 => ?_) (fun hc3 => ?_)
    · replace hc3 := of_decide_eq_true hc3
      refine Ks <| Tg <| Bk <| Sq <| ?_
      have ht : 4294967296 ≤ q ∨ r * 4294967296 + (U).getD ((((j : Int) + ((V).length : Int)) - 2)).toNat 0 < q * (V).getD ((((V).length : Int) - 2)).toNat 0 := (by omega)
      have hp0 := hD.pos hF ht
      refine Rg <| Vs (Mv rfl) <| Vs (Bo rfl suW) <| Vs (As rfl) <| Nx <| Sq <| Rg <| Vs (Mv rfl) <| Vs (Mv rfl) <| Vs (Mv rfl) <| Vs (Bo rfl suI) <| Vs (Ix TK22 rfl) <| Vs (Lq TA64 rfl) <| Vs (Cv TU64 TU65 rfl wrW) <| Vs (Bo rfl adW) <| Vs (As rfl) <| Nx <| Sq <| Rg <| Vs (Mv rfl) <| Vs (Bi rfl) <| Nx <| Cd rfl (fun hc4 => ?_) (fun hc4 => ?_)
      · replace hc4 := of_decide_eq_true hc4
        exact Ke <| Io <| Oe <| Ih <| Tg <| Sq <| Rg <| Vs (Mv rfl) <| Vs (As rfl) <| Nx <| Re <| Fi (l := [numB .u64 ((q - 1))]) (Rc (resVar_tmp rfl rfl) Rn) (by rw [← hQ, digL_break (by omega) ht (by omega)]; rfl)
      · replace hc4 := of_decide_eq_false hc4
        exact Ks <| Ig <| Go (f - 1, q - 1, r + (V).getD ((((V).length : Int) - 1)).toNat 0) ⟨(hD.step hF ht (by omega)).1, by rw [← hQ, digL_go (by omega) ht (by omega)], by omega⟩ Wk
    · replace hc3 := of_decide_eq_false hc3
      exact Ke <| Te <| Oe <| Ih <| Tg <| Sq <| Rg <| Vs (Mv rfl) <| Vs (As rfl) <| Nx <| Re <| Fi (l := [numB .u64 (q)]) (Rc (resVar_tmp rfl rfl) Rn) (by rw [← hQ, digL_stop (by omega) (by omega)]; rfl)
end Go.VL

/- Walks over the Go functions, printed by a program of this session over the kit's print, and by hand. -/
set_option linter.unusedVariables false
set_option linter.unusedSimpArgs false
namespace Go.VL
open Go.Proofs
theorem f51 (A B : List Int) (hA : A.length ≤ 300000000) (hB : B.length ≤ 300000000) (nA : norm A) (nB : norm B) (h0 : 0 < val B) : VF Tryz.prog 65 [u32S (A), u32S (B)] (.tup [u32S (dg (val A / val B)), u32S (dg (val A % val B))]) := by
  refine VF_of P_mixed Tryz.func65 rfl rfl (by kernel_rfl) <| Sq <| Rg <| Vs (As rfl) <| Vs (As rfl) <| Nx <| Sq <| Sq <| Rg <| Vs (Mv rfl) <| Vs (Mv rfl) <| Vs (Cf rfl rfl (f74 _ _ (by first | omega | assumption | (simp; done) | (simp; omega)) (by first | omega | assumption | (simp; done) | (simp; omega)) (nA.1) (nB.1) (fun h => cmp_len nA nB h)) rfl) <| Vs (Bi rfl) <| Nx <| Cd rfl (fun hc1 => ?_) (fun hc1 => ?_)
  · replace hc1 := of_decide_eq_true hc1
    refine Sq <| ?_
    have vA := val_nonneg nA.1
    have lt := cmp3_lt.1 hc1
    exact Rg <| Vs (Mv rfl) <| Vs (As rfl) <| Vs (As rfl) <| Nx <| Re <| Tr <| Fi (l := [u32S ([]), u32S (A)]) (Rc (resVar_tmp rfl rfl) (Rc (resVar_tmp rfl rfl) Rn)) (by rw [Int.ediv_eq_zero_of_lt vA lt, Int.emod_eq_of_lt vA lt, dg_zero, dg_val nA]; rfl)
  · replace hc1 := of_decide_eq_false hc1
    refine Ks <| Tg <| Sq <| Sq <| ?_
    have vA := val_nonneg nA.1
    have hge := mt cmp3_lt.2 hc1
    have hBA := norm_le_len nB nA (by omega)
    refine Rg <| Vs (Mv rfl) <| Vs (Ls TK22 rfl) <| Vs (Bi rfl) <| Nx <| Cd rfl (fun hc2 => ?_) (fun hc2 => ?_)
    · replace hc2 := eq_of_beq hc2
      refine Sq <| ?_
      have h1w := one_word (B := B) (by omega)
      have hb0 := ok32_getD nB.1 0
      have hm0 := Int.emod_nonneg (val A) (show B.getD 0 0 ≠ 0 by omega)
      have hm1 := Int.emod_lt_of_pos (val A) (show 0 < B.getD 0 0 by omega)
      exact Rg <| Vs (Mv rfl) <| Vs (Mv rfl) <| Vs (IxN (q := 0) TK22 rfl) <| Vs (Lq TA64 rfl) <| Vs (C0 rfl rfl (f60 _ _ (by first | omega | assumption | (simp; done) | (simp; omega)) (nA.1) (by omega) (by omega))) <| Vs (Mv rfl) <| Vs (Xt rfl) <| Vs (Xt rfl) <| Vs (As rfl) <| Vs (As rfl) <| Nx <| Sq <| Rg <| Vs (Mv rfl) <| Vs (Mv rfl) <| Vs (L1s 21 TK22 rfl) <| Vs (Cc rfl (Rk (Rr rfl) Rz) (f64 _ (by first | omega | assumption | (simp; done) | (simp; omega)) (ok32_cons.2 ⟨by omega, ok32_nil⟩))) <| Vs (As rfl) <| Vs (As rfl) <| Nx <| Re <| Tr <| Fi (l := [u32S (dg (val (A) / ((B).getD 0 0))), u32S (dg (val ([(val (A) % ((B).getD 0 0))])))]) (Rc (resVar_tmp rfl rfl) (Rc (resVar_tmp rfl rfl) Rn)) (by rw [h1w, show val [val A % B.getD 0 0] = val A % B.getD 0 0 by simp [val]]; rfl)
    · replace hc2 := ne_of_beq_false hc2
      refine Ks <| Tg <| Sq <| ?_
      have hx := ok32_getD nB.1 (((B).length : Int) - 1).toNat
      have hne : B.length ≠ 0 := fun e => (by rw [norm_zero nB e] at h0; omega)
      refine Rg <| Vs (Mv rfl) <| Vs (Mv rfl) <| Vs (Ls TK22 rfl) <| Vs (Bo rfl suI) <| Vs (Ix TK22 rfl) <| Vs (Lq TA64 rfl) <| Vs (Cf rfl rfl (f81 _ (hx.1) (hx.2)) rfl) <| Vs (As rfl) <| Nx <| VCode.join (α := (Nat)) (fun s => (0, sl [(0, vS (A)), (1, vS (B)), (8, vI .i64 ((s : Int))), (9, vS (dg (val B * 2 ^ s)))], en [])) (fun s => s + blen (B.getD (B.length - 1) 0).toNat = 32) ?_ ?_
      · skip
        exact Rg <| Vs (Mv rfl) <| Vs (Mv rfl) <| Vs (C0 rfl rfl (f67 _ _ (by first | omega | assumption | (simp; done) | (simp; omega)) (nB.1) (by first | omega | assumption | (simp; done) | (simp; omega)) (by first | omega | assumption | (simp; done) | (simp; omega)))) <| Vs (As rfl) <| VList.nil <| Jg (32 - blen ((B).getD (((B).length : Int) - 1).toNat 0).toNat) (by have := (blen_lt 32 (B.getD (B.length - 1) 0).toNat).2 (by have := ok32_getD nB.1 (B.length - 1); omega); rw [show (((B).length : Int) - 1).toNat = B.length - 1 by omega]; omega) Wk
      · intro s hok
        obtain ⟨w1, w2, w3, w4⟩ := shifted (q := B.length - 1) nB (by omega) hok
        have hp2 := two_pow_pos s
        have oV := ok32_dg (val B * 2 ^ s)
        have hV : 0 < val (dg (val B * 2 ^ s)) := (by rw [w3]; exact Int.mul_pos h0 hp2)
        change VCode _ _ _ 0 (sl _) (en _) _
        refine Sq <| Rg <| Vs (Mv rfl) <| Vs (Ls TK22 rfl) <| Vs (Bo rfl adI) <| Vs (Mk 3 TK22 rfl) <| Vs (As rfl) <| Nx <| Sq <| Rg <| Vs (Mv rfl) <| Vs (Mv rfl) <| Vs (Mv rfl) <| Vs (C0 rfl rfl (f67 _ _ (by first | omega | assumption | (simp; done) | (simp; omega)) (nA.1) (by first | omega | assumption | (simp; done) | (simp; omega)) (by first | omega | assumption | (simp; done) | (simp; omega)))) <| Vs (Cp TK22 rfl rfl) <| Nx <| Sq <| Rg <| Vs (Mv rfl) <| Vs (Ls TK22 rfl) <| Vs (Mv rfl) <| Vs (Ls TK22 rfl) <| Vs (Bo rfl suI) <| Vs (Bo rfl adI) <| Vs (Mk 16 TK22 rfl) <| Vs (As rfl) <| Nx <| Sq <| Sq <| Rg <| Vs (Mv rfl) <| Vs (Lo TU22 rfl) <| Vs (Mv rfl) <| Nx <| Bk <| VCode.loop (α := (Nat) × (List Int) × (List Int)) (fun x_ => match x_ with | (k, O, Q) => (17, sl [(8, vI .i64 ((s : Int))), (9, vS (dg (val B * 2 ^ s))), (10, .own 3 (((((A).length : Int) + 1)).toNat)), (11, .own 16 ((((((A).length : Int) - ((B).length : Int)) + 1)).toNat)), (63, vI .i64 ((((((((A).length : Int) - ((B).length : Int)) + 1)).toNat : Nat) : Int))), (64, vI .i64 ((k : Int)))], en [(3, rowK .u32 (O)), (16, rowK .u32 (Q))])) (fun x_ => match x_ with | (k, O, Q) => k ≤ (A.length - B.length + 1) ∧ DivInv (val A * 2 ^ s) (dg (val B * 2 ^ s)) O Q (A.length - B.length + 1) ((A.length - B.length + 1) - k)) (fun x_ => match x_ with | (k, O, Q) => (A.length - B.length + 1) - k) (0, (dg (val A * 2 ^ s)).take (Nat.min (dg (val A * 2 ^ s)).length (((A).length : Int) + 1).toNat) ++ (List.replicate (((A).length : Int) + 1).toNat 0).drop (Nat.min (dg (val A * 2 ^ s)).length (((A).length : Int) + 1).toNat), List.replicate ((((A).length : Int) - ((B).length : Int)) + 1).toNat 0) ⟨by omega, by rw [Nat.sub_zero]; exact div_start nA nB hne hBA w4 w3 w1 (by omega) rfl (by omega)⟩ Wk ?_
        rintro ⟨k, O, Q⟩ hok3
        change VCode _ _ _ 17 (sl _) (en _) _
        refine Sq <| Rg <| Vs (Bi rfl) <| Nx <| Sq <| Cd rfl (fun hc3 => ?_) (fun hc3 => ?_)
        · replace hc3 := of_decide_eq_true hc3
          refine Ks <| Tg <| Sq <| Bk <| Sq <| Rg <| Vs (Mv rfl) <| Vs (As rfl) <| Nx <| Sq <| ?_
          obtain ⟨j, hj⟩ : ∃ j : Nat, j + 1 + k = (A.length - B.length + 1) := ⟨A.length - B.length - k, by omega⟩
          have hD : DivInv (val A * 2 ^ s) (dg (val B * 2 ^ s)) O Q (A.length - B.length + 1) (j + 1) := (by have h := hok3.2; rwa [show (A.length - B.length + 1) - k = j + 1 by omega] at h)
          have hol := hD.olen
          have hql := hD.qlen
          have hv2 : 2 ≤ ((dg (val B * 2 ^ s))).length := (by rw [w1]; omega)
          have hF : DigFix (val (O.drop j)) (val (dg (val B * 2 ^ s))) (((dg (val B * 2 ^ s))).getD (((((dg (val B * 2 ^ s))).length : Int) - 1)).toNat 0) (((dg (val B * 2 ^ s))).getD (((((dg (val B * 2 ^ s))).length : Int) - 2)).toNat 0) ((O).getD (((((j : Nat) : Int) + (((dg (val B * 2 ^ s))).length : Int)) - 1)).toNat 0) ((O).getD (((((j : Nat) : Int) + (((dg (val B * 2 ^ s))).length : Int)) - 2)).toNat 0) ((((O).getD ((((j : Nat) : Int) + (((dg (val B * 2 ^ s))).length : Int))).toNat 0 * 4294967296) + (O).getD (((((j : Nat) : Int) + (((dg (val B * 2 ^ s))).length : Int)) - 1)).toNat 0)) (4294967296 ^ (((dg (val B * 2 ^ s))).length - 2)) := digFix' hD.ok oV hv2 (by omega) hD.lt (by rw [w1]; exact w2) (by omega) (by omega) (by omega) (by omega) (by omega)
          have hs := digF_spec hF
          exact Rg <| Vs (Mv rfl) <| Vs (Lo TU22 rfl) <| Vs (Bo rfl suI) <| Vs (Mv rfl) <| Vs (Bo (c := .int .i64 ((j : Int))) rfl (by rw [bop_sub_i64 (by omega)]; exact congrArg (fun z => some (Value.int .i64 z)) (by omega))) <| Vs (As rfl) <| Nx <| Rg <| Vs (Mv rfl) <| Vs (Mv rfl) <| Vs (Mv rfl) <| Vs (Mv rfl) <| Vs (Mv rfl) <| Vs (Mv rfl) <| Vs (Mv rfl) <| Vs (Mv rfl) <| Vs (Cf rfl (Rk (Rr rfl) (Rk rfl (Rk rfl Rz))) (f83 _ _ _ _ (by omega) (by omega) (hD.ok) (oV) (hv2) (by omega) (hF)) rfl) <| Vs (Cm rfl rfl (f82 _ _ _ _ (by omega) (hD.ok) (oV) (⟨hs.1, hs.2.1⟩) (by omega) (fun k hk => hD.high oV hk) (hs.2.2.1) (hs.2.2.2) (hV))) <| Vs (IrN TK22 rfl) <| Vs (SrK TS64 rfl) <| VList.nil <| Ig <| Tg <| Rg <| Vs (Bo rfl adI) <| Vs (Mv rfl) <| VList.nil <| Go (k + 1, pad (O).length (took (O) (dg (val B * 2 ^ s)) (j)), (Q).set (j) (val ((O).drop (j)) / val (dg (val B * 2 ^ s)))) ⟨by omega, by rw [show A.length - B.length + 1 - (k + 1) = j by omega]; exact hD.step oV hV⟩ Wk
        · replace hc3 := of_decide_eq_false hc3
          refine Ke <| Te <| Oe <| Ih <| Tg <| Sq <| ?_
          have hle := hok3.1
          have hD : DivInv (val A * 2 ^ s) (dg (val B * 2 ^ s)) O Q (A.length - B.length + 1) 0 := (by have h := hok3.2; rwa [show (A.length - B.length + 1) - k = 0 by omega] at h)
          obtain ⟨f1, f2, f3⟩ := hD.fin h0 w3 vA
          have vO := val_nonneg hD.ok
          have hol := hD.olen
          have hql := hD.qlen
          exact Rg <| Vs (Mv rfl) <| Vs (Cc rfl (Rk (Rr rfl) Rz) (f64 _ (by omega) (hD.ok))) <| Vs (Mv rfl) <| Vs (C0 rfl rfl (f68 _ _ (Nat.le_trans ((len_dg vO O.length).2 (val_lt hD.ok)) (by omega)) (norm_dg _) (by first | omega | assumption | (simp; done) | (simp; omega)) (by first | omega | assumption | (simp; done) | (simp; omega)))) <| Vs (Mv rfl) <| Vs (Xt rfl) <| Vs (Xt rfl) <| Vs (As rfl) <| Vs (As rfl) <| Nx <| Sq <| Rg <| Vs (Mv rfl) <| Vs (Cc rfl (Rk (Rr rfl) Rz) (f64 _ (by first | omega | assumption | (simp; done) | (simp; omega)) (f1))) <| Vs (Mv rfl) <| Vs (As rfl) <| Vs (As rfl) <| Nx <| Re <| Fi (l := [u32S (dg (val (Q))), u32S (dg (val (dg (val (O))) / 2 ^ ((s : Int)).toNat))]) (Rc (resVar_tmp rfl rfl) (Rc (resVar_tmp rfl rfl) Rn)) (by rw [val_dg vO, Int.toNat_natCast, f3, f2]; rfl)
end Go.VL

/- Walks over the Go functions, printed by a program of this session over the kit's print, and by hand. -/
set_option linter.unusedVariables false
set_option linter.unusedSimpArgs false
namespace Go.VL
open Go.Proofs
theorem f31 (n : Bool) (A : List Int) (m : Bool) (B : List Int) (hA : A.length ≤ 9223372036854775807) (hB : B.length ≤ 9223372036854775807) (oA : ok32 A) (oB : ok32 B) : VF Tryz.prog 63 [.agg [boolB (n), u32S (A)], .agg [boolB (m), u32S (B)]] (gR (validB n A && validB m B) ((Int.gcd (zOf n A) (zOf m B) : Nat) : Int)) := by
  refine VF_of P_mixed Tryz.func63 rfl rfl (by kernel_rfl) <| Sq <| Rg <| Vs (Bx 0 rfl) <| Vs (Bx 1 rfl) <| Vs (Al 2 TZ24 rfl) <| Vs (As rfl) <| Nx <| Sq <| Sq <| Rg <| Vs (LdS TA24 TS24 rfl) <| Vs (LdS TA24 TS24 rfl) <| Vs (Cf rfl rfl (f50 _ _ _ _ (by first | omega | assumption | (simp; done) | (simp; omega)) (by first | omega | assumption | (simp; done) | (simp; omega))) rfl) <| Vs (Un rfl) <| Nx <| Cd rfl (fun hc1 => ?_) (fun hc1 => ?_)
  · replace hc1 := (bnot_t hc1)
    exact Sq <| Rg <| Vs (Bd TQ24 rfl) <| Vs (StS TS24 rfl) <| Vs (As rfl) <| Nx <| Re <| Tr <| Fi (l := [.agg [boolB (false), u32S ([])], numB .i64 (1)]) (Rc (resVar_cell rfl rfl TA24 TS24 (Nat.le_of_ble_eq_true rfl) rfl) (Rc (resVar_tmp rfl rfl) Rn)) (by rw [gR_false hc1]; rfl)
  · replace hc1 := (bnot_f hc1)
    refine Ks <| Tg <| Sq <| ?_
    obtain ⟨v1, v2⟩ := Bool.and_eq_true_iff.1 hc1
    obtain ⟨nA, lA, sA⟩ := valid_norm oA v1
    obtain ⟨nB, lB, sB⟩ := valid_norm oB v2
    refine Rd (by kernel_rfl) <| Vl (Fa TF24_1 rfl) <| Vl (Ld TA22 rfl) <| Vl (Fa TF24_1 rfl) <| Vl (Ld TA22 rfl) <| Vl (As rfl) <| Vl (As rfl) <| ?_
    refine VLog.nil ⟨by kernel_rfl, ?_⟩
    refine Tg <| VCode.join (α := (List Int) × (List Int)) (fun x_ => match x_ with | (X, Y) => (3, sl [(4, .ptr 2 (0)), (6, vS (X)), (7, vS (Y))], en [(2, ⟨2, [vB (false), vS ([])], true⟩)])) (fun x_ => match x_ with | (X, Y) => (norm X ∧ norm Y) ∧ (X.length ≤ 128 ∧ Y.length ≤ 2) ∧ Int.gcd (val X) (val Y) = Int.gcd (val A) (val B) ∧ (X.length > 2 → Y.length = 0)) ?_ ?_
    · skip
      refine Bk <| VCode.loop (α := (List Int) × (List Int)) (fun x_ => match x_ with | (X, Y) => (3, sl [(4, .ptr 2 (0)), (6, vS (X)), (7, vS (Y))], en [(2, ⟨2, [vB (false), vS ([])], true⟩)])) (fun x_ => match x_ with | (X, Y) => (norm X ∧ norm Y) ∧ (X.length ≤ 128 ∧ Y.length ≤ 128) ∧ Int.gcd (val X) (val Y) = Int.gcd (val A) (val B)) (fun x_ => match x_ with | (X, Y) => (val Y).toNat) (A, B) ⟨⟨nA, nB⟩, ⟨lA, lB⟩, rfl⟩ Wk ?_
      rintro ⟨X, Y⟩ hok
      obtain ⟨⟨nX, nY⟩, ⟨lX, lY⟩, hg⟩ := hok
      change VCode _ _ _ 3 (sl _) (en _) _
      refine Sq <| Sq <| Rg <| Vs (Mv rfl) <| Vs (Ls TK22 rfl) <| Vs (Bi rfl) <| Vs (Mv rfl) <| Sp 24 rfl (fun hc2 => ?_) (fun hc2 => ?_)
      · replace hc2 := of_decide_eq_true hc2
        refine Vs (Mv rfl) <| Vs (Ls TK22 rfl) <| Vs (Bi rfl) <| Vs (Mv rfl) <| Sp 28 rfl (fun hc3 => ?_) (fun hc3 => ?_)
        · replace hc3 := of_decide_eq_true hc3
          refine Sk rfl <| Sk rfl <| Sk rfl <| Vs (Pk rfl) <| Vs (Pk rfl) <| Nx <| Cy rfl <| Ks <| Tg <| Bk <| Sq <| ?_
          have yP := norm_pos nY (fun e => by rw [e] at hc2; simp at hc2)
          have m0 := Int.emod_nonneg (val X) (show val Y ≠ 0 by omega)
          have m1 := Int.emod_lt_of_pos (val X) yP
          have hR : (dg (val X % val Y)).length ≤ 128 := Nat.le_trans (len_le nY.1 m0 (Int.le_of_lt m1)) lY
          exact Rg <| Vs (Mv rfl) <| Vs (Mv rfl) <| Vs (C0 rfl rfl (f51 _ _ (by first | omega | assumption | (simp; done) | (simp; omega)) (by first | omega | assumption | (simp; done) | (simp; omega)) (nX) (nY) (yP))) <| Vs (Mv rfl) <| Vs (Xt rfl) <| Vs (Xt rfl) <| Vs (As rfl) <| Vs (As rfl) <| Nx <| Rg <| Vs (Mv rfl) <| Vs (Mv rfl) <| Vs (As rfl) <| Vs (As rfl) <| VList.nil <| Ig <| Go (Y, dg (val X % val Y)) ⟨⟨nY, norm_dg _⟩, ⟨lY, hR⟩, by rw [val_dg m0, gcd_swap (val_nonneg nX.1) (Int.le_of_lt yP), hg]⟩ Wk (by show (val (dg (val X % val Y))).toNat < (val Y).toNat; rw [val_dg m0]; omega)
        · replace hc3 := of_decide_eq_false hc3
          refine Vs (Mv rfl) <| Vs (Ls TK22 rfl) <| Vs (Bi rfl) <| Vs (Pk rfl) <| Vs (Pk rfl) <| Nx <| Cd rfl (fun hc4 => ?_) (fun hc4 => ?_)
          · replace hc4 := of_decide_eq_true hc4
            refine Ks <| Tg <| Bk <| Sq <| ?_
            have yP := norm_pos nY (fun e => by rw [e] at hc2; simp at hc2)
            have m0 := Int.emod_nonneg (val X) (show val Y ≠ 0 by omega)
            have m1 := Int.emod_lt_of_pos (val X) yP
            have hR : (dg (val X % val Y)).length ≤ 128 := Nat.le_trans (len_le nY.1 m0 (Int.le_of_lt m1)) lY
            exact Rg <| Vs (Mv rfl) <| Vs (Mv rfl) <| Vs (C0 rfl rfl (f51 _ _ (by first | omega | assumption | (simp; done) | (simp; omega)) (by first | omega | assumption | (simp; done) | (simp; omega)) (nX) (nY) (yP))) <| Vs (Mv rfl) <| Vs (Xt rfl) <| Vs (Xt rfl) <| Vs (As rfl) <| Vs (As rfl) <| Nx <| Rg <| Vs (Mv rfl) <| Vs (Mv rfl) <| Vs (As rfl) <| Vs (As rfl) <| VList.nil <| Ig <| Go (Y, dg (val X % val Y)) ⟨⟨nY, norm_dg _⟩, ⟨lY, hR⟩, by rw [val_dg m0, gcd_swap (val_nonneg nX.1) (Int.le_of_lt yP), hg]⟩ Wk (by show (val (dg (val X % val Y))).toNat < (val Y).toNat; rw [val_dg m0]; omega)
          · replace hc4 := of_decide_eq_false hc4
            exact Ke <| Te <| Oe <| Ih <| Jg (X, Y) ⟨⟨nX, nY⟩, ⟨lX, by omega⟩, hg, by omega⟩ Wk
      · replace hc2 := of_decide_eq_false hc2
        exact Sk rfl <| Sk rfl <| Sk rfl <| Sk rfl <| Sk rfl <| Sk rfl <| Sk rfl <| Sk rfl <| Vs (Pk rfl) <| Nx <| Cz rfl <| Ke <| Te <| Oe <| Ih <| Jg (X, Y) ⟨⟨nX, nY⟩, ⟨lX, by omega⟩, hg, by omega⟩ Wk
    · rintro ⟨X, Y⟩ hok
      obtain ⟨⟨nX, nY⟩, ⟨lX, lY⟩, hg, hXY⟩ := hok
      change VCode _ _ _ 3 (sl _) (en _) _
      refine Sq <| Sq <| Rg <| Vs (Mv rfl) <| Vs (Ls TK22 rfl) <| Vs (Bi rfl) <| Nx <| Cd rfl (fun hc5 => ?_) (fun hc5 => ?_)
      · replace hc5 := of_decide_eq_true hc5
        exact Sq <| Rg <| Vs (Mv rfl) <| Vs (C0 rfl rfl (f54 _ _ (by first | omega | assumption | (simp; done) | (simp; omega)) (nX.1))) <| Vs (Xt rfl) <| Vs (Xt rfl) <| Vs (StS TS24 rfl) <| Vs (As rfl) <| Nx <| Re <| Tr <| Fi (l := [.agg [boolB (zN (sg (false) (val (X)))), u32S (zL (sg (false) (val (X))))], numB .i64 (zE (sg (false) (val (X))))]) (Rc (resVar_cell rfl rfl TA24 TS24 (Nat.le_of_ble_eq_true rfl) rfl) (Rc (resVar_tmp rfl rfl) Rn)) (by rw [gR_true hc1, gcd_sg, ← hg, norm_zero nY (hXY (by omega)), gcd_val_zero (val_nonneg nX.1)]; rfl)
      · replace hc5 := of_decide_eq_false hc5
        refine Ks <| Tg <| Sq <| ?_
        have wX := word_lt nX.1 (by omega)
        have wY := word_lt nY.1 (by omega)
        refine Rg <| Vs (Mv rfl) <| Vs (Cf rfl rfl (f69 _ (by first | omega | assumption | (simp; done) | (simp; omega)) (nX.1)) rfl) <| Vs (Mv rfl) <| Vs (Cf rfl rfl (f69 _ (by first | omega | assumption | (simp; done) | (simp; omega)) (nY.1)) rfl) <| Vs (As rfl) <| Vs (As rfl) <| Nx <| Sq <| Bk <| VCode.loop (α := (Int) × (Int)) (fun x_ => match x_ with | (x, y) => (3, sl [(4, .ptr 2 (0)), (10, vI .u64 (x)), (11, vI .u64 (y))], en [(2, ⟨2, [vB (false), vS ([])], true⟩)])) (fun x_ => match x_ with | (x, y) => (0 ≤ x ∧ x < 18446744073709551616) ∧ (0 ≤ y ∧ y < 18446744073709551616) ∧ Int.gcd x y = Int.gcd (val A) (val B)) (fun x_ => match x_ with | (x, y) => y.toNat) (val X, val Y) ⟨wX, wY, hg⟩ Wk ?_
        rintro ⟨x, y⟩ hok2
        obtain ⟨hx, hy, hg2⟩ := hok2
        change VCode _ _ _ 3 (sl _) (en _) _
        refine Sq <| Sq <| Rg <| Vs (Mv rfl) <| Vs (Bi rfl) <| Nx <| Cd rfl (fun hc6 => ?_) (fun hc6 => ?_)
        · replace hc6 := of_decide_eq_true hc6
          refine Ks <| Tg <| Bk <| Rd (by kernel_rfl) <| Vl (Mv rfl) <| Vl (Mv rfl) <| Vl (Mv rfl) <| Vl (Bo rfl reW) <| Vl (As rfl) <| Vl (As rfl) <| ?_
          refine VLog.nil ⟨by kernel_rfl, ?_⟩
          exact Ig <| Go (y, x % y) (by have e1 := Int.emod_nonneg x (show y ≠ 0 by omega); have e2 := Int.emod_lt_of_pos x (show 0 < y by omega); exact ⟨hy, by omega, by rw [gcd_swap hx.1 hy.1, hg2]⟩) Wk (by have e1 := Int.emod_nonneg x (show y ≠ 0 by omega); have e2 := Int.emod_lt_of_pos x (show 0 < y by omega); show (x % y).toNat < y.toNat; omega)
        · replace hc6 := of_decide_eq_false hc6
          exact Ke <| Te <| Oe <| Ih <| Tg <| Sq <| Rg <| Vs (Mv rfl) <| Vs (Cv TU65 TU64 rfl (wrapM_u32 _)) <| Vs (Mv rfl) <| Vs (Bo rfl (srW 4294967296)) <| Vs (Cv TU65 TU64 rfl (wrapM_u32 _)) <| Vs (L2s 10 TK22 rfl) <| Vs (Cc rfl (Rk rfl (Rk (Rr rfl) Rz)) (f54 _ _ (by simp) (ok32_two (by omega) (by omega)))) <| Vs (Xt rfl) <| Vs (Xt rfl) <| Vs (StS TS24 rfl) <| Vs (As rfl) <| Nx <| Re <| Fi (l := [.agg [boolB (zN (sg (false) (val ([((x) % 4294967296), (((x / 4294967296)) % 4294967296)])))), u32S (zL (sg (false) (val ([((x) % 4294967296), (((x / 4294967296)) % 4294967296)]))))], numB .i64 (zE (sg (false) (val ([((x) % 4294967296), (((x / 4294967296)) % 4294967296)]))))]) (Rc (resVar_cell rfl rfl TA24 TS24 (Nat.le_of_ble_eq_true rfl) rfl) (Rc (resVar_tmp rfl rfl) Rn)) (by rw [gR_true hc1, gcd_sg, gcd_words x hx.1 hx.2, ← hg2, show y = 0 by omega, gcd_val_zero hx.1]; rfl)
end Go.VL

/- Walks over the Go functions, printed by a program of this session over the kit's print, and by hand. -/
set_option linter.unusedVariables false
set_option linter.unusedSimpArgs false
namespace Go.VL
open Go.Proofs
theorem f44 (n : Bool) (A : List Int) (hA : A.length ≤ 9223372036854775807) (oA : ok32 A) : VF Tryz.prog 39 [.agg [boolB (n), u32S (A)]] (sqR (validB n A) (zOf n A)) := by
  refine VF_of P_mixed Tryz.func39 rfl rfl (by kernel_rfl) <| Sq <| Rg <| Vs (Bx 0 rfl) <| Vs (Al 1 TZ24 rfl) <| Vs (As rfl) <| Vs (As rfl) <| Nx <| Sq <| Sq <| Rg <| Vs (LdS TA24 TS24 rfl) <| Vs (Cf rfl rfl (f36 _ _ (by first | omega | assumption | (simp; done) | (simp; omega))) rfl) <| Vs (Un rfl) <| Nx <| Cd rfl (fun hc1 => ?_) (fun hc1 => ?_)
  · replace hc1 := (bnot_t hc1)
    exact Sq <| Rg <| Vs (Bd TQ24 rfl) <| Vs (StS TS24 rfl) <| Vs (As rfl) <| Vs (As rfl) <| Nx <| Re <| Tr <| Fi (l := [.agg [boolB (false), u32S ([])], boolB (false), numB .i64 (1)]) (Rc (resVar_cell rfl rfl TA24 TS24 (Nat.le_of_ble_eq_true rfl) rfl) (Rc (resVar_tmp rfl rfl) (Rc (resVar_tmp rfl rfl) Rn))) (by rw [sqR_bad hc1]; rfl)
  · replace hc1 := (bnot_f hc1)
    refine Ks <| Tg <| Sq <| Sq <| ?_
    obtain ⟨nA, lA, sA⟩ := valid_norm oA hc1
    refine Rg <| Vs (Fa TF24_0 rfl) <| Vs (Ld TA4 rfl) <| Nx <| Cd rfl (fun hc2 => ?_) (fun hc2 => ?_)
    · (try simp at hc2)
      exact Sq <| Rg <| Vs (Bd TQ24 rfl) <| Vs (StS TS24 rfl) <| Vs (As rfl) <| Vs (As rfl) <| Nx <| Re <| Tr <| Fi (l := [.agg [boolB (false), u32S ([])], boolB (false), numB .i64 (5)]) (Rc (resVar_cell rfl rfl TA24 TS24 (Nat.le_of_ble_eq_true rfl) rfl) (Rc (resVar_tmp rfl rfl) (Rc (resVar_tmp rfl rfl) Rn))) (by rw [sqR_neg hc1 (by have := neg_pos nA sA hc2; simp [zOf, sg, hc2]; omega)]; rfl)
    · (try simp at hc2)
      refine Ks <| Tg <| Sq <| Sq <| ?_
      have vA := val_nonneg oA
      have zA : zOf n A = val A := by rw [hc2]; rfl
      refine Rg <| Vs (Fa TF24_1 rfl) <| Vs (Ld TA22 rfl) <| Vs (Ls TK22 rfl) <| Vs (Bi rfl) <| Nx <| Cd rfl (fun hc3 => ?_) (fun hc3 => ?_)
      · replace hc3 := eq_of_beq hc3
        exact Sq <| Rg <| Vs (Bd TQ24 rfl) <| Vs (StS TS24 rfl) <| Vs (As rfl) <| Vs (As rfl) <| Nx <| Re <| Tr <| Fi (l := [.agg [boolB (false), u32S ([])], boolB (true), numB .i64 (0)]) (Rc (resVar_cell rfl rfl TA24 TS24 (Nat.le_of_ble_eq_true rfl) rfl) (Rc (resVar_tmp rfl rfl) (Rc (resVar_tmp rfl rfl) Rn))) (by rw [sqR_ok hc1 (by omega), zA, norm_zero nA (by omega), sq_zero]; rfl)
      · replace hc3 := ne_of_beq_false hc3
        refine Ks <| Tg <| Sq <| ?_
        have bP := norm_pos nA (fun e => hc3 (by rw [e]; rfl))
        have bl : blen (val A).toNat ≤ 4096 := (blen_lt 4096 (val A).toNat).2 (blen_limit vA (val_limit oA lA))
        have isp := isq_pos bP
        have hx0 : 0 ≤ val [1] * 2 ^ ((((blen (val A).toNat : Nat) : Int) + 1) / 2).toNat := Int.mul_nonneg (by decide) (Int.le_of_lt (two_pow_pos _))
        have hX0 : (dg (val [1] * 2 ^ ((((blen (val A).toNat : Nat) : Int) + 1) / 2).toNat)).length ≤ 1000 := start_len (by omega)
        refine Rg <| Vs (L1s 13 TK22 rfl) <| Vs (Fa TF24_1 rfl) <| Vs (Ld TA22 rfl) <| Vs (Cf rfl rfl (f77 _ (by first | omega | assumption | (simp; done) | (simp; omega)) (nA)) rfl) <| Vs (Bo rfl adI) <| Vs (Bo rfl quI) <| Vs (Cc rfl (Rk (Rr rfl) (Rk rfl Rz)) (f67 _ _ (by first | omega | assumption | (simp; done) | (simp; omega)) (ok32_cons.2 ⟨by omega, ok32_nil⟩) (by first | omega | assumption | (simp; done) | (simp; omega)) (by first | omega | assumption | (simp; done) | (simp; omega)))) <| Vs (As rfl) <| Nx <| Sq <| Bk <| VCode.loop (α := (List Int)) (fun X => (2, sl [(1, .ptr 0 (0)), (2, .ptr 1 (0)), (5, vS (X))], en [(0, ⟨2, [vB (n), vS (A)], true⟩), (1, ⟨2, [vB (false), vS ([])], true⟩)])) (fun X => norm X ∧ X.length ≤ 1000 ∧ isq (val A) ≤ val X) (fun X => (val X).toNat) (dg (val [1] * 2 ^ ((((blen (val A).toNat : Nat) : Int) + 1) / 2).toNat)) ⟨norm_dg _, hX0, by rw [val_dg hx0]; exact newton_start vA (by omega)⟩ Wk ?_
        intro X hok
        obtain ⟨nX, lX, sX⟩ := hok
        have xP : 0 < val X := by omega
        have q0 := Int.ediv_nonneg vA (Int.le_of_lt xP)
        have lQ : (dg (val A / val X)).length ≤ 128 := Nat.le_trans (len_le oA q0 (Int.ediv_le_self _ vA)) lA
        have eY : val (dg (val (dg (val X + val (dg (val A / val X)))) / 2 ^ (1 : Int).toNat)) = (val X + val A / val X) / 2 := newton_dg vA xP
        have hN := newton_ge vA xP
        have lS : (dg (val X + val (dg (val A / val X)))).length ≤ 900000000 := sum_len nX.1 (ok32_dg _) lX lQ
        change VCode _ _ _ 2 (sl _) (en _) _
        refine Bk <| Sq <| Rg <| Vs (Fa TF24_1 rfl) <| Vs (Ld TA22 rfl) <| Vs (Mv rfl) <| Vs (C0 rfl rfl (f51 _ _ (by first | omega | assumption | (simp; done) | (simp; omega)) (by first | omega | assumption | (simp; done) | (simp; omega)) (nA) (nX) (xP))) <| Vs (Mv rfl) <| Vs (Xt rfl) <| Vs (Xt rfl) <| Vs (As rfl) <| Vs (As rfl) <| Nx <| Sq <| Rg <| Vs (Mv rfl) <| Vs (Mv rfl) <| Vs (C0 rfl rfl (f52 _ _ (by first | omega | assumption | (simp; done) | (simp; omega)) (by first | omega | assumption | (simp; done) | (simp; omega)) (nX.1) (ok32_dg _))) <| Vs (C0 rfl rfl (f68 _ _ (lS) (norm_dg _) (by first | omega | assumption | (simp; done) | (simp; omega)) (by first | omega | assumption | (simp; done) | (simp; omega)))) <| Vs (Mv rfl) <| Vs (Xt rfl) <| Vs (Xt rfl) <| Vs (As rfl) <| Vs (As rfl) <| Nx <| Sq <| Sq <| Rg <| Vs (Mv rfl) <| Vs (Mv rfl) <| Vs (Cf rfl rfl (f74 _ _ (Nat.le_trans (norm_le_len (norm_dg _) (norm_dg _) (newton_len vA xP)) (Nat.le_trans lS (by omega))) (by first | omega | assumption | (simp; done) | (simp; omega)) (ok32_dg _) (nX.1) (fun h => cmp_len (norm_dg _) nX h)) rfl) <| Vs (Bi rfl) <| Nx <| Cd rfl (fun hc4 => ?_) (fun hc4 => ?_)
        · replace hc4 := of_decide_eq_true hc4
          refine Ke <| Te <| Io <| Oe <| Ih <| Tg <| Sq <| ?_
          have hge := cmp3_ge hc4
          have eX := newton_stop vA xP sX (by rw [← eY]; exact hge)
          have lX2 : X.length ≤ 128 := by rw [← dg_val nX, eX]; exact Nat.le_trans (isq_len oA rfl) lA
          have mX := mul_len2 nX.1 nX.1 lX2 lX2
          have xx := Int.mul_nonneg (Int.le_of_lt xP) (Int.le_of_lt xP)
          refine Rg <| Vs (Mv rfl) <| Vs (C0 rfl rfl (f54 _ _ (by first | omega | assumption | (simp; done) | (simp; omega)) (nX.1))) <| Vs (Mv rfl) <| Vs (Xt rfl) <| Vs (Xt rfl) <| Vs (Al 29 TZ24 rfl) <| Vs (StS TS24 rfl) <| Vs (As rfl) <| Nx <| Sq <| Rd (by kernel_rfl) <| Vl (LdS TA24 TS24 rfl) <| Vl (Mv rfl) <| Vl (Mv rfl) <| Vl (C0 rfl rfl (f63 _ _ (by first | omega | assumption | (simp; done) | (simp; omega)) (by first | omega | assumption | (simp; done) | (simp; omega)) (nX.1) (nX.1))) <| Vl (Fa TF24_1 rfl) <| Vl (Ld TA22 rfl) <| Vl (Cf rfl rfl (f74 _ _ (by first | omega | assumption | (simp; done) | (simp; omega)) (by first | omega | assumption | (simp; done) | (simp; omega)) (ok32_dg _) (oA) (fun h => cmp_len (norm_dg _) nA h)) rfl) <| Vl (Bi rfl) <| Vl (Mv rfl) <| Vl (StS TS24 rfl) <| Vl (As rfl) <| Vl (As rfl) <| ?_
          refine VLog.nil ⟨by kernel_rfl, ?_⟩
          exact Tg <| Re <| Fi (l := [.agg [boolB (zN (sg (false) (val (X)))), u32S (zL (sg (false) (val (X))))], boolB ((cmp3 (val (dg (val (X) * val (X)))) (val (A)) == 0)), numB .i64 (zE (sg (false) (val (X))))]) (Rc (resVar_cell rfl rfl TA24 TS24 (Nat.le_of_ble_eq_true rfl) rfl) (Rc (resVar_tmp rfl rfl) (Rc (resVar_tmp rfl rfl) Rn))) (by rw [sqR_ok hc1 (by omega), zA, ← eX, ← sq_eq xx, ← zE_small (Int.le_of_lt xP) (val_limit nX.1 lX2)]; rfl)
        · replace hc4 := of_decide_eq_false hc4
          exact Ks <| Tg <| Rg <| Vs (Mv rfl) <| Vs (As rfl) <| VList.nil <| Ig <| Go (dg (val (dg (val X + val (dg (val A / val X)))) / 2 ^ (1 : Int).toNat)) ⟨norm_dg _, Nat.le_trans (norm_le_len (norm_dg _) nX (Int.le_of_lt (cmp3_nge hc4))) lX, by rw [eY]; exact hN⟩ Wk (by have h := cmp3_nge hc4; show (val (dg (val (dg (val X + val (dg (val A / val X)))) / 2 ^ (1 : Int).toNat))).toNat < (val X).toNat; omega)
end Go.VL

/- Walks over the Go functions, printed by a program of this session over the kit's print, and by hand. -/
set_option linter.unusedVariables false
set_option linter.unusedSimpArgs false
namespace Go.VL
open Go.Proofs
theorem f22 (n : Bool) (A : List Int) (hA : A.length ≤ 9223372036854775807) (oA : ok32 A) : VF Tryz.prog 43 [.agg [boolB (n), u32S (A)]] (.tup [.lit (.string (tS (validB n A) (zOf n A))), numB .i64 (tE (validB n A))]) := by
  refine VF_of P_mixed Tryz.func43 rfl rfl (by kernel_rfl) <| Sq <| Rg <| Vs (Bx 0 rfl) <| Vs (As rfl) <| Vs (As rfl) <| Nx <| Sq <| Sq <| Rg <| Vs (LdS TA24 TS24 rfl) <| Vs (Cf rfl rfl (f36 _ _ (by first | omega | assumption | (simp; done) | (simp; omega))) rfl) <| Vs (Un rfl) <| Nx <| Cd rfl (fun hc1 => ?_) (fun hc1 => ?_)
  · replace hc1 := (bnot_t hc1)
    exact Sq <| Rg <| Vs (As rfl) <| Vs (As rfl) <| Nx <| Re <| Tr <| Fi (l := [.lit (.string ((⟨#[]⟩ : ByteArray))), numB .i64 (1)]) (Rc (resVar_tmp rfl rfl) (Rc (resVar_tmp rfl rfl) Rn)) (by rw [tS_false hc1, tE, hc1]; rfl)
  · replace hc1 := (bnot_f hc1)
    refine Ks <| Tg <| Sq <| ?_
    obtain ⟨nA, lA, sA⟩ := valid_norm oA hc1
    have vA := val_nonneg oA
    have tlen := dd_val_len oA lA
    refine Rg <| Vs (An rfl) <| Nx <| Sq <| Sq <| Rg <| Vs (Fa TF24_1 rfl) <| Vs (Ld TA22 rfl) <| Vs (As rfl) <| Nx <| Bk <| VCode.loop (α := ((Unit)) ⊕ ((List Int) × (Nat) × (List Int))) (fun x_ => match x_ with | .inl (u) => (1, sl [(1, .ptr 0 (0)), (4, .b .nil), (5, vS (A))], en [(0, ⟨2, [vB (n), vS (A)], true⟩)]) | .inr (L, m, D) => (91, sl [(1, .ptr 0 (0)), (4, .own 90 (m)), (5, vS (L))], en [(0, ⟨2, [vB (n), vS (A)], true⟩), (90, rowK .u8 (D))])) (fun x_ => match x_ with | .inl (u) => True | .inr (L, m, D) => (norm L ∧ L.length ≤ 128) ∧ D.length = m ∧ dd (val A).toNat = D ++ dd (val L).toNat) (fun x_ => match x_ with | .inl (u) => (val A).toNat + 1 | .inr (L, m, D) => (val L).toNat) (.inl (())) trivial Wk ?_
    rintro (u | ⟨L, m, D⟩) hok
    · change VCode _ _ _ 1 (sl _) (en _) _
      refine Sq <| Sq <| Rg <| Vs (Mv rfl) <| Vs (Ls TK22 rfl) <| Vs (Bi rfl) <| Nx <| Cd rfl (fun hc2 => ?_) (fun hc2 => ?_)
      · replace hc2 := of_decide_eq_true hc2
        have lP : 0 < val A := norm_pos nA (fun e => by rw [e] at hc2; simp at hc2)
        have q0 : 0 ≤ val A / 1000000000 := by omega
        have lQ : (dg (val A / 1000000000)).length ≤ 128 := Nat.le_trans (len_le nA.1 q0 (by omega)) lA
        have hT0 : TxIn (val A) (val (dg (val A / 1000000000))) (val A % 1000000000) 0 [] := by rw [val_dg q0]; exact TxIn.start rfl lP
        refine Ks <| Tg <| Bk <| Sq <| Rg <| Vs (Mv rfl) <| Vs (C0 rfl rfl (f60 _ _ (by first | omega | assumption | (simp; done) | (simp; omega)) (by first | exact nL.1 | exact nA.1) (by first | omega | assumption | (simp; done) | (simp; omega)) (by first | omega | assumption | (simp; done) | (simp; omega)))) <| Vs (Mv rfl) <| Vs (Xt rfl) <| Vs (Xt rfl) <| Vs (As rfl) <| Vs (As rfl) <| Nx <| Sq <| Sq <| Rg <| Vs (Mv rfl) <| Nx <| Bk <| VCode.loop (α := ((Unit)) ⊕ ((Nat) × (Int) × (Nat) × (List Int))) (fun x_ => match x_ with | .inl (u2) => (1, sl [(1, .ptr 0 (0)), (4, .b .nil), (6, vS (dg (val (A) / (1000000000)))), (7, vI .u32 ((val A % 1000000000))), (24, vI .i64 (0))], en [(0, ⟨2, [vB (n), vS (A)], true⟩)]) | .inr (k, r, m2, D2) => (92, sl [(1, .ptr 0 (0)), (4, .own 91 (m2)), (6, vS (dg (val (A) / (1000000000)))), (7, vI .u32 (r)), (24, vI .i64 ((k : Int)))], en [(0, ⟨2, [vB (n), vS (A)], true⟩), (91, rowK .u8 (D2))])) (fun x_ => match x_ with | .inl (u2) => True | .inr (k, r, m2, D2) => TxIn (val A) (val (dg (val A / 1000000000))) r k D2 ∧ D2.length = m2) (fun x_ => match x_ with | .inl (u2) => 10 | .inr (k, r, m2, D2) => 9 - k) (.inl (())) trivial Wk ?_
        rintro (u2 | ⟨k, r, m2, D2⟩) hok2
        · change VCode _ _ _ 1 (sl _) (en _) _
          refine Sq <| Rg <| Vs (Bi rfl) <| Nx <| Sq <| Cd rfl (fun hc3 => ?_) (fun hc3 => ?_)
          · replace hc3 := of_decide_eq_true hc3
            refine Ks <| Tg <| Sq <| Bk <| Sq <| Rg <| Vs (Mv rfl) <| Vs (As rfl) <| Nx <| Sq <| Sq <| Rg <| Vs (Mv rfl) <| Vs (Ls TK22 rfl) <| Vs (Bi rfl) <| Vs (Mv rfl) <| Sp 30 rfl (fun hc4 => ?_) (fun hc4 => ?_)
            · replace hc4 := eq_of_beq hc4
              refine Vs (Mv rfl) <| Vs (Bi rfl) <| Vs (Pk rfl) <| Vs (Mv rfl) <| Sp 34 rfl (fun hc5 => ?_) (fun hc5 => ?_)
              · replace hc5 := eq_of_beq hc5
                refine Vs (Mv rfl) <| Vs (Bi rfl) <| Vs (Pk rfl) <| Nx <| Cd rfl (fun hc6 => ?_) (fun hc6 => ?_)
                · replace hc6 := of_decide_eq_true hc6
                  exfalso; omega
                · replace hc6 := of_decide_eq_false hc6
                  exact Ks <| Tg <| Sq <| Rg <| Vs (Mv rfl) <| Vs (Mv rfl) <| Vs (Bo rfl reD) <| Vs (Bo rfl adD) <| Vs (Cv TU64 TU5 rfl wrB) <| Vs (L1s 20 TK83 rfl) <| Vs (Apn 21 TK83 rfl (Rr rfl)) <| Vs (As rfl) <| Nx <| Rg <| Vs (Mv rfl) <| Vs (Bo rfl quD) <| Vs (As rfl) <| VList.nil <| Ig <| Tg <| Rg <| Vs (Bo rfl adI) <| Vs (Mv rfl) <| VList.nil <| Go (.inr (1, (val A % 1000000000) / 10, ([(48 + ((val A % 1000000000) % 10))]).length, [(48 + ((val A % 1000000000) % 10))])) ⟨hT0.step (by omega) (.inl rfl), rfl⟩ (Wr [(91, 21)])
              · replace hc5 := ne_of_beq_false hc5
                exact Sk rfl <| Sk rfl <| Vs (Pk rfl) <| Nx <| Cz rfl <| Ks <| Tg <| Sq <| Rg <| Vs (Mv rfl) <| Vs (Mv rfl) <| Vs (Bo rfl reD) <| Vs (Bo rfl adD) <| Vs (Cv TU64 TU5 rfl wrB) <| Vs (L1s 20 TK83 rfl) <| Vs (Apn 21 TK83 rfl (Rr rfl)) <| Vs (As rfl) <| Nx <| Rg <| Vs (Mv rfl) <| Vs (Bo rfl quD) <| Vs (As rfl) <| VList.nil <| Ig <| Tg <| Rg <| Vs (Bo rfl adI) <| Vs (Mv rfl) <| VList.nil <| Go (.inr (1, (val A % 1000000000) / 10, ([(48 + ((val A % 1000000000) % 10))]).length, [(48 + ((val A % 1000000000) % 10))])) ⟨hT0.step (by omega) (.inl rfl), rfl⟩ (Wr [(91, 21)])
            · replace hc4 := ne_of_beq_false hc4
              exact Sk rfl <| Sk rfl <| Vs (Pk rfl) <| Vs (Mv rfl) <| Sk rfl <| Sk rfl <| Vs (Pk rfl) <| Nx <| Cz rfl <| Ks <| Tg <| Sq <| Rg <| Vs (Mv rfl) <| Vs (Mv rfl) <| Vs (Bo rfl reD) <| Vs (Bo rfl adD) <| Vs (Cv TU64 TU5 rfl wrB) <| Vs (L1s 20 TK83 rfl) <| Vs (Apn 21 TK83 rfl (Rr rfl)) <| Vs (As rfl) <| Nx <| Rg <| Vs (Mv rfl) <| Vs (Bo rfl quD) <| Vs (As rfl) <| VList.nil <| Ig <| Tg <| Rg <| Vs (Bo rfl adI) <| Vs (Mv rfl) <| VList.nil <| Go (.inr (1, (val A % 1000000000) / 10, ([(48 + ((val A % 1000000000) % 10))]).length, [(48 + ((val A % 1000000000) % 10))])) ⟨hT0.step (by omega) (.inl rfl), rfl⟩ (Wr [(91, 21)])
          · replace hc3 := of_decide_eq_false hc3
            exfalso; omega
        · change VCode _ _ _ 92 (sl _) (en _) _
          obtain ⟨hT, hm2⟩ := hok2
          have hk9 := hT.k9
          have hr0 := hT.r0
          have hr9 := hT.r9
          have hD2 := Nat.le_trans hT.len tlen
          refine Sq <| Rg <| Vs (Bi rfl) <| Nx <| Sq <| Cd rfl (fun hc7 => ?_) (fun hc7 => ?_)
          · replace hc7 := of_decide_eq_true hc7
            refine Ks <| Tg <| Sq <| Bk <| Sq <| Rg <| Vs (Mv rfl) <| Vs (As rfl) <| Nx <| Sq <| Sq <| Rg <| Vs (Mv rfl) <| Vs (Ls TK22 rfl) <| Vs (Bi rfl) <| Vs (Mv rfl) <| Sp 30 rfl (fun hc8 => ?_) (fun hc8 => ?_)
            · replace hc8 := eq_of_beq hc8
              refine Vs (Mv rfl) <| Vs (Bi rfl) <| Vs (Pk rfl) <| Vs (Mv rfl) <| Sp 34 rfl (fun hc9 => ?_) (fun hc9 => ?_)
              · replace hc9 := eq_of_beq hc9
                refine Vs (Mv rfl) <| Vs (Bi rfl) <| Vs (Pk rfl) <| Nx <| Cd rfl (fun hc10 => ?_) (fun hc10 => ?_)
                · replace hc10 := of_decide_eq_true hc10
                  exact Ke <| Te <| Io <| Te <| Oe <| Ih <| Tg <| Rg <| Vs (Mv rfl) <| Vs (As rfl) <| VList.nil <| Ig <| Go (.inr (dg (val (A) / (1000000000)), m2, D2)) ⟨⟨norm_dg _, lQ⟩, hm2, hT.done (dgz (by omega)) (by omega)⟩ (Wr [(90, 91)]) (by show (val (dg _)).toNat < (val A).toNat + 1; rw [val_dg q0]; omega)
                · replace hc10 := of_decide_eq_false hc10
                  exact Ks <| Tg <| Sq <| Rg <| Vs (Mv rfl) <| Vs (Mv rfl) <| Vs (Bo rfl reD) <| Vs (Bo rfl adD) <| Vs (Cv TU64 TU5 rfl wrB) <| Vs (L1s 111 TK83 rfl) <| Vs (Ap 112 TK83 rfl (Rr rfl)) <| Vs (As rfl) <| Nx <| Rg <| Vs (Mv rfl) <| Vs (Bo rfl quD) <| Vs (As rfl) <| VList.nil <| Ig <| Tg <| Rg <| Vs (Bo rfl adI) <| Vs (Mv rfl) <| VList.nil <| Go (.inr (k + 1, r / 10, (m2) + ([(48 + (r % 10))]).length, (D2) ++ ([(48 + (r % 10))]))) ⟨hT.step (by omega) (by first | (left; omega) | (right; rintro ⟨a1, a2⟩; first | omega | exact absurd (dgl a1) (by omega))), by simp [hm2]⟩ (Wr [(91, 112)])
              · replace hc9 := ne_of_beq_false hc9
                exact Sk rfl <| Sk rfl <| Vs (Pk rfl) <| Nx <| Cz rfl <| Ks <| Tg <| Sq <| Rg <| Vs (Mv rfl) <| Vs (Mv rfl) <| Vs (Bo rfl reD) <| Vs (Bo rfl adD) <| Vs (Cv TU64 TU5 rfl wrB) <| Vs (L1s 111 TK83 rfl) <| Vs (Ap 112 TK83 rfl (Rr rfl)) <| Vs (As rfl) <| Nx <| Rg <| Vs (Mv rfl) <| Vs (Bo rfl quD) <| Vs (As rfl) <| VList.nil <| Ig <| Tg <| Rg <| Vs (Bo rfl adI) <| Vs (Mv rfl) <| VList.nil <| Go (.inr (k + 1, r / 10, (m2) + ([(48 + (r % 10))]).length, (D2) ++ ([(48 + (r % 10))]))) ⟨hT.step (by omega) (by first | (left; omega) | (right; rintro ⟨a1, a2⟩; first | omega | exact absurd (dgl a1) (by omega))), by simp [hm2]⟩ (Wr [(91, 112)])
            · replace hc8 := ne_of_beq_false hc8
              exact Sk rfl <| Sk rfl <| Vs (Pk rfl) <| Vs (Mv rfl) <| Sk rfl <| Sk rfl <| Vs (Pk rfl) <| Nx <| Cz rfl <| Ks <| Tg <| Sq <| Rg <| Vs (Mv rfl) <| Vs (Mv rfl) <| Vs (Bo rfl reD) <| Vs (Bo rfl adD) <| Vs (Cv TU64 TU5 rfl wrB) <| Vs (L1s 111 TK83 rfl) <| Vs (Ap 112 TK83 rfl (Rr rfl)) <| Vs (As rfl) <| Nx <| Rg <| Vs (Mv rfl) <| Vs (Bo rfl quD) <| Vs (As rfl) <| VList.nil <| Ig <| Tg <| Rg <| Vs (Bo rfl adI) <| Vs (Mv rfl) <| VList.nil <| Go (.inr (k + 1, r / 10, (m2) + ([(48 + (r % 10))]).length, (D2) ++ ([(48 + (r % 10))]))) ⟨hT.step (by omega) (by first | (left; omega) | (right; rintro ⟨a1, a2⟩; first | omega | exact absurd (dgl a1) (by omega))), by simp [hm2]⟩ (Wr [(91, 112)])
          · replace hc7 := of_decide_eq_false hc7
            exact Ke <| Te <| Oe <| Ih <| Tg <| Rg <| Vs (Mv rfl) <| Vs (As rfl) <| VList.nil <| Ig <| Go (.inr (dg (val (A) / (1000000000)), m2, D2)) ⟨⟨norm_dg _, lQ⟩, hm2, hT.full (by omega)⟩ (Wr [(90, 91)]) (by show (val (dg _)).toNat < (val A).toNat + 1; rw [val_dg q0]; omega)
      · replace hc2 := of_decide_eq_false hc2
        refine Ke <| Te <| Oe <| Ih <| Tg <| VCode.join (α := (Nat) × (List Int)) (fun x_ => match x_ with | (m, D) => (91, sl [(1, .ptr 0 (0)), (4, .own 90 (m))], en [(0, ⟨2, [vB (n), vS (A)], true⟩), (90, rowK .u8 (D))])) (fun x_ => match x_ with | (m, D) => D.length = m ∧ D = txD (val A)) ?_ ?_
        · skip
          refine Sq <| Rg <| Vs (Mv rfl) <| Vs (Lv (m := 0) TU83 rfl) <| Vs (Bi rfl) <| Nx <| Cd rfl (fun hc11 => ?_) (fun hc11 => ?_)
          · replace hc11 := eq_of_beq hc11
            exact Rg <| Vs (L1s 7 TK83 rfl) <| Vs (As rfl) <| VList.nil <| Jg (1, [48]) ⟨rfl, txD_none vA (D := []) (by rw [norm_zero nA (by omega)]; exact dd_zero) rfl⟩ (Wr [(90, 7)])
          · replace hc11 := ne_of_beq_false hc11
            exfalso; omega
        · rintro ⟨m, D⟩ hok
          obtain ⟨hm, hD⟩ := hok
          have hDl := txD_len oA lA (v := val A) rfl
          rw [← hD] at hDl
          change VCode _ _ _ 91 (sl _) (en _) _
          refine VCode.join (α := (Nat) × (List Int)) (fun x_ => match x_ with | (m, D) => (91, sl [(4, .own 90 (m))], en [(90, rowK .u8 (D))])) (fun x_ => match x_ with | (m, D) => (D.length = m ∧ m ≤ 10000) ∧ D = txD (val A) ++ (if n = true then [45] else [])) ?_ ?_
          · skip
            refine Sq <| Rg <| Vs (Fa TF24_0 rfl) <| Vs (Ld TA4 rfl) <| Nx <| Cd rfl (fun hc12 => ?_) (fun hc12 => ?_)
            · (try simp at hc12)
              exact Rg <| Vs (Mv rfl) <| Vs (L1s 94 TK83 rfl) <| Vs (Ap 95 TK83 rfl (Rr rfl)) <| Vs (As rfl) <| VList.nil <| Jg ((m) + ([45]).length, (D) ++ ([45])) ⟨⟨by simp [hm], by simp; omega⟩, by rw [if_pos (by assumption), hD]⟩ (Wr [(90, 95)])
            · (try simp at hc12)
              exact Ks <| Jg (m, D) ⟨⟨hm, by omega⟩, by rw [if_neg (by simp [*]), hD, List.append_nil]⟩ Wk
          · rintro ⟨m, D⟩ hok
            obtain ⟨⟨hm, hm1⟩, hD⟩ := hok
            change VCode _ _ _ 91 (sl _) (en _) _
            refine Sq <| Sq <| Rg <| Vs (Mv rfl) <| Vs (Lo TU83 rfl) <| Vs (Bo rfl quI) <| Vs (Mv rfl) <| Nx <| Bk <| VCode.loop (α := (Nat) × (List Int)) (fun x_ => match x_ with | (i, D3) => (91, sl [(4, .own 90 (m)), (60, vI .i64 ((((m : Nat) : Int) / 2))), (61, vI .i64 ((i : Int)))], en [(90, rowK .u8 (D3))])) (fun x_ => match x_ with | (i, D3) => RevInv D D3 i) (fun x_ => match x_ with | (i, D3) => D.length - i) (0, D) (RevInv.start _) Wk ?_
            rintro ⟨i, D3⟩ hok3
            change VCode _ _ _ 91 (sl _) (en _) _
            refine Sq <| Rg <| Vs (Bi rfl) <| Nx <| Sq <| Cd rfl (fun hc13 => ?_) (fun hc13 => ?_)
            · replace hc13 := of_decide_eq_true hc13
              refine Ks <| Tg <| Sq <| Bk <| Sq <| Rg <| Vs (Mv rfl) <| Vs (As rfl) <| Nx <| Sq <| Rg <| Vs (Mv rfl) <| Vs (Lo TU83 rfl) <| Vs (Bo rfl suI) <| Vs (Mv rfl) <| Vs (Bo rfl suI) <| Vs (As rfl) <| Nx <| ?_
              have hl3 := hok3.len
              have hle3 := hok3.le
              refine Rd (by kernel_rfl) <| Vl (Mv rfl) <| Vl (Mv rfl) <| Vl (Mv rfl) <| Vl (Mv rfl) <| Vl (Mv rfl) <| Vl (Mv rfl) <| Vl (Ir TK83 rfl) <| Vl (LrK TA5 rfl) <| Vl (Mv rfl) <| Vl (Mv rfl) <| Vl (IrN TK83 rfl) <| Vl (LrK TA5 rfl) <| Vl (IrN TK83 rfl) <| Vl (SrK TS5 rfl) <| Vl (Ir TK83 rfl) <| Vl (SrK TS5 rfl) <| ?_
              refine VLog.nil ⟨by kernel_rfl, ?_⟩
              exact Ig <| Tg <| Rg <| Vs (Bo rfl adI) <| Vs (Mv rfl) <| VList.nil <| Go (i + 1, ((D3).set ((i)) ((D3).getD ((((((m : Nat) : Int) - 1) - (i : Int))).toNat) 0)).set ((((((m : Nat) : Int) - 1) - (i : Int))).toNat) ((D3).getD ((i)) 0)) (hok3.step (by omega) (by omega)) Wk
            · replace hc13 := of_decide_eq_false hc13
              refine Ke <| Te <| Oe <| Ih <| Tg <| Sq <| ?_
              have hl3 := hok3.len
              have hle3 := hok3.le
              exact Rg <| Vs (Mv rfl) <| Vs (Ts TK83 TU5 TU9 rfl (by rw [hok3.fin (by omega), hD]; exact tx_ok8)) <| Vs (As rfl) <| Vs (As rfl) <| Nx <| Re <| Fi (l := [.lit (.string (bytesOf (D3))), numB .i64 (0)]) (Rc (resVar_tmp rfl rfl) (Rc (resVar_tmp rfl rfl) Rn)) (by rw [tS_true hc1, txB, txL_sg vA (neg_pos nA sA), ← hD, ← hok3.fin (by omega)]; simp [tE, hc1]; rfl)
    · change VCode _ _ _ 91 (sl _) (en _) _
      obtain ⟨⟨nL, lL⟩, hm, hd⟩ := hok
      refine Sq <| Sq <| Rg <| Vs (Mv rfl) <| Vs (Ls TK22 rfl) <| Vs (Bi rfl) <| Nx <| Cd rfl (fun hc14 => ?_) (fun hc14 => ?_)
      · replace hc14 := of_decide_eq_true hc14
        have lP : 0 < val L := norm_pos nL (fun e => by rw [e] at hc14; simp at hc14)
        have q0 : 0 ≤ val L / 1000000000 := by omega
        have lQ : (dg (val L / 1000000000)).length ≤ 128 := Nat.le_trans (len_le nL.1 q0 (by omega)) lL
        have hT0 : TxIn (val A) (val (dg (val L / 1000000000))) (val L % 1000000000) 0 D := by rw [val_dg q0]; exact TxIn.start hd lP
        refine Ks <| Tg <| Bk <| Sq <| Rg <| Vs (Mv rfl) <| Vs (C0 rfl rfl (f60 _ _ (by first | omega | assumption | (simp; done) | (simp; omega)) (by first | exact nL.1 | exact nA.1) (by first | omega | assumption | (simp; done) | (simp; omega)) (by first | omega | assumption | (simp; done) | (simp; omega)))) <| Vs (Mv rfl) <| Vs (Xt rfl) <| Vs (Xt rfl) <| Vs (As rfl) <| Vs (As rfl) <| Nx <| Sq <| Sq <| Rg <| Vs (Mv rfl) <| Nx <| Bk <| VCode.loop (α := (Nat) × (Int) × (Nat) × (List Int)) (fun x_ => match x_ with | (k, r, m2, D2) => (92, sl [(1, .ptr 0 (0)), (4, .own 91 (m2)), (6, vS (dg (val (L) / (1000000000)))), (7, vI .u32 (r)), (24, vI .i64 ((k : Int)))], en [(0, ⟨2, [vB (n), vS (A)], true⟩), (91, rowK .u8 (D2))])) (fun x_ => match x_ with | (k, r, m2, D2) => TxIn (val A) (val (dg (val L / 1000000000))) r k D2 ∧ D2.length = m2) (fun x_ => match x_ with | (k, r, m2, D2) => 9 - k) (0, (val L % 1000000000), m, D) ⟨hT0, hm⟩ (Wr [(91, 90)]) ?_
        rintro ⟨k, r, m2, D2⟩ hok2
        obtain ⟨hT, hm2⟩ := hok2
        have hk9 := hT.k9
        have hr0 := hT.r0
        have hr9 := hT.r9
        have hD2 := Nat.le_trans hT.len tlen
        change VCode _ _ _ 92 (sl _) (en _) _
        refine Sq <| Rg <| Vs (Bi rfl) <| Nx <| Sq <| Cd rfl (fun hc15 => ?_) (fun hc15 => ?_)
        · replace hc15 := of_decide_eq_true hc15
          refine Ks <| Tg <| Sq <| Bk <| Sq <| Rg <| Vs (Mv rfl) <| Vs (As rfl) <| Nx <| Sq <| Sq <| Rg <| Vs (Mv rfl) <| Vs (Ls TK22 rfl) <| Vs (Bi rfl) <| Vs (Mv rfl) <| Sp 30 rfl (fun hc16 => ?_) (fun hc16 => ?_)
          · replace hc16 := eq_of_beq hc16
            refine Vs (Mv rfl) <| Vs (Bi rfl) <| Vs (Pk rfl) <| Vs (Mv rfl) <| Sp 34 rfl (fun hc17 => ?_) (fun hc17 => ?_)
            · replace hc17 := eq_of_beq hc17
              refine Vs (Mv rfl) <| Vs (Bi rfl) <| Vs (Pk rfl) <| Nx <| Cd rfl (fun hc18 => ?_) (fun hc18 => ?_)
              · replace hc18 := of_decide_eq_true hc18
                exact Ke <| Te <| Io <| Te <| Oe <| Ih <| Tg <| Rg <| Vs (Mv rfl) <| Vs (As rfl) <| VList.nil <| Ig <| Go (.inr (dg (val (L) / (1000000000)), m2, D2)) ⟨⟨norm_dg _, lQ⟩, hm2, hT.done (dgz (by omega)) (by omega)⟩ (Wr [(90, 91)]) (by show (val (dg _)).toNat < (val L).toNat; rw [val_dg q0]; omega)
              · replace hc18 := of_decide_eq_false hc18
                exact Ks <| Tg <| Sq <| Rg <| Vs (Mv rfl) <| Vs (Mv rfl) <| Vs (Bo rfl reD) <| Vs (Bo rfl adD) <| Vs (Cv TU64 TU5 rfl wrB) <| Vs (L1s 111 TK83 rfl) <| Vs (Ap 112 TK83 rfl (Rr rfl)) <| Vs (As rfl) <| Nx <| Rg <| Vs (Mv rfl) <| Vs (Bo rfl quD) <| Vs (As rfl) <| VList.nil <| Ig <| Tg <| Rg <| Vs (Bo rfl adI) <| Vs (Mv rfl) <| VList.nil <| Go (k + 1, r / 10, (m2) + ([(48 + (r % 10))]).length, (D2) ++ ([(48 + (r % 10))])) ⟨hT.step (by omega) (by first | (left; omega) | (right; rintro ⟨a1, a2⟩; first | omega | exact absurd (dgl a1) (by omega))), by simp [hm2]⟩ (Wr [(91, 112)])
            · replace hc17 := ne_of_beq_false hc17
              exact Sk rfl <| Sk rfl <| Vs (Pk rfl) <| Nx <| Cz rfl <| Ks <| Tg <| Sq <| Rg <| Vs (Mv rfl) <| Vs (Mv rfl) <| Vs (Bo rfl reD) <| Vs (Bo rfl adD) <| Vs (Cv TU64 TU5 rfl wrB) <| Vs (L1s 111 TK83 rfl) <| Vs (Ap 112 TK83 rfl (Rr rfl)) <| Vs (As rfl) <| Nx <| Rg <| Vs (Mv rfl) <| Vs (Bo rfl quD) <| Vs (As rfl) <| VList.nil <| Ig <| Tg <| Rg <| Vs (Bo rfl adI) <| Vs (Mv rfl) <| VList.nil <| Go (k + 1, r / 10, (m2) + ([(48 + (r % 10))]).length, (D2) ++ ([(48 + (r % 10))])) ⟨hT.step (by omega) (by first | (left; omega) | (right; rintro ⟨a1, a2⟩; first | omega | exact absurd (dgl a1) (by omega))), by simp [hm2]⟩ (Wr [(91, 112)])
          · replace hc16 := ne_of_beq_false hc16
            exact Sk rfl <| Sk rfl <| Vs (Pk rfl) <| Vs (Mv rfl) <| Sk rfl <| Sk rfl <| Vs (Pk rfl) <| Nx <| Cz rfl <| Ks <| Tg <| Sq <| Rg <| Vs (Mv rfl) <| Vs (Mv rfl) <| Vs (Bo rfl reD) <| Vs (Bo rfl adD) <| Vs (Cv TU64 TU5 rfl wrB) <| Vs (L1s 111 TK83 rfl) <| Vs (Ap 112 TK83 rfl (Rr rfl)) <| Vs (As rfl) <| Nx <| Rg <| Vs (Mv rfl) <| Vs (Bo rfl quD) <| Vs (As rfl) <| VList.nil <| Ig <| Tg <| Rg <| Vs (Bo rfl adI) <| Vs (Mv rfl) <| VList.nil <| Go (k + 1, r / 10, (m2) + ([(48 + (r % 10))]).length, (D2) ++ ([(48 + (r % 10))])) ⟨hT.step (by omega) (by first | (left; omega) | (right; rintro ⟨a1, a2⟩; first | omega | exact absurd (dgl a1) (by omega))), by simp [hm2]⟩ (Wr [(91, 112)])
        · replace hc15 := of_decide_eq_false hc15
          exact Ke <| Te <| Oe <| Ih <| Tg <| Rg <| Vs (Mv rfl) <| Vs (As rfl) <| VList.nil <| Ig <| Go (.inr (dg (val (L) / (1000000000)), m2, D2)) ⟨⟨norm_dg _, lQ⟩, hm2, hT.full (by omega)⟩ (Wr [(90, 91)]) (by show (val (dg _)).toNat < (val L).toNat; rw [val_dg q0]; omega)
      · replace hc14 := of_decide_eq_false hc14
        refine Ke <| Te <| Oe <| Ih <| Tg <| VCode.join (α := (Nat) × (List Int)) (fun x_ => match x_ with | (m, D) => (91, sl [(1, .ptr 0 (0)), (4, .own 90 (m))], en [(0, ⟨2, [vB (n), vS (A)], true⟩), (90, rowK .u8 (D))])) (fun x_ => match x_ with | (m, D) => D.length = m ∧ D = txD (val A)) ?_ ?_
        · skip
          refine Sq <| Rg <| Vs (Mv rfl) <| Vs (Lo TU83 rfl) <| Vs (Bi rfl) <| Nx <| Cd rfl (fun hc19 => ?_) (fun hc19 => ?_)
          · replace hc19 := eq_of_beq hc19
            exact Rg <| Vs (L1s 97 TK83 rfl) <| Vs (As rfl) <| VList.nil <| Jg (1, [48]) ⟨rfl, txD_none vA (by rw [hd, norm_zero nL (by omega), show (0 : Int).toNat = 0 from rfl, dd_zero, List.append_nil]) (by omega)⟩ (Wr [(90, 97)])
          · replace hc19 := ne_of_beq_false hc19
            exact Ks <| Jg (m, D) ⟨hm, txD_some vA (by rw [hd, norm_zero nL (by omega), show (0 : Int).toNat = 0 from rfl, dd_zero, List.append_nil]) (by omega)⟩ Wk
        · rintro ⟨m, D⟩ hok
          obtain ⟨hm, hD⟩ := hok
          have hDl := txD_len oA lA (v := val A) rfl
          rw [← hD] at hDl
          change VCode _ _ _ 91 (sl _) (en _) _
          refine VCode.join (α := (Nat) × (List Int)) (fun x_ => match x_ with | (m, D) => (91, sl [(4, .own 90 (m))], en [(90, rowK .u8 (D))])) (fun x_ => match x_ with | (m, D) => (D.length = m ∧ m ≤ 10000) ∧ D = txD (val A) ++ (if n = true then [45] else [])) ?_ ?_
          · skip
            refine Sq <| Rg <| Vs (Fa TF24_0 rfl) <| Vs (Ld TA4 rfl) <| Nx <| Cd rfl (fun hc20 => ?_) (fun hc20 => ?_)
            · (try simp at hc20)
              exact Rg <| Vs (Mv rfl) <| Vs (L1s 94 TK83 rfl) <| Vs (Ap 95 TK83 rfl (Rr rfl)) <| Vs (As rfl) <| VList.nil <| Jg ((m) + ([45]).length, (D) ++ ([45])) ⟨⟨by simp [hm], by simp; omega⟩, by rw [if_pos (by assumption), hD]⟩ (Wr [(90, 95)])
            · (try simp at hc20)
              exact Ks <| Jg (m, D) ⟨⟨hm, by omega⟩, by rw [if_neg (by simp [*]), hD, List.append_nil]⟩ Wk
          · rintro ⟨m, D⟩ hok
            obtain ⟨⟨hm, hm1⟩, hD⟩ := hok
            change VCode _ _ _ 91 (sl _) (en _) _
            refine Sq <| Sq <| Rg <| Vs (Mv rfl) <| Vs (Lo TU83 rfl) <| Vs (Bo rfl quI) <| Vs (Mv rfl) <| Nx <| Bk <| VCode.loop (α := (Nat) × (List Int)) (fun x_ => match x_ with | (i, D3) => (91, sl [(4, .own 90 (m)), (60, vI .i64 ((((m : Nat) : Int) / 2))), (61, vI .i64 ((i : Int)))], en [(90, rowK .u8 (D3))])) (fun x_ => match x_ with | (i, D3) => RevInv D D3 i) (fun x_ => match x_ with | (i, D3) => D.length - i) (0, D) (RevInv.start _) Wk ?_
            rintro ⟨i, D3⟩ hok3
            change VCode _ _ _ 91 (sl _) (en _) _
            refine Sq <| Rg <| Vs (Bi rfl) <| Nx <| Sq <| Cd rfl (fun hc21 => ?_) (fun hc21 => ?_)
            · replace hc21 := of_decide_eq_true hc21
              refine Ks <| Tg <| Sq <| Bk <| Sq <| Rg <| Vs (Mv rfl) <| Vs (As rfl) <| Nx <| Sq <| Rg <| Vs (Mv rfl) <| Vs (Lo TU83 rfl) <| Vs (Bo rfl suI) <| Vs (Mv rfl) <| Vs (Bo rfl suI) <| Vs (As rfl) <| Nx <| ?_
              have hl3 := hok3.len
              have hle3 := hok3.le
              refine Rd (by kernel_rfl) <| Vl (Mv rfl) <| Vl (Mv rfl) <| Vl (Mv rfl) <| Vl (Mv rfl) <| Vl (Mv rfl) <| Vl (Mv rfl) <| Vl (Ir TK83 rfl) <| Vl (LrK TA5 rfl) <| Vl (Mv rfl) <| Vl (Mv rfl) <| Vl (IrN TK83 rfl) <| Vl (LrK TA5 rfl) <| Vl (IrN TK83 rfl) <| Vl (SrK TS5 rfl) <| Vl (Ir TK83 rfl) <| Vl (SrK TS5 rfl) <| ?_
              refine VLog.nil ⟨by kernel_rfl, ?_⟩
              exact Ig <| Tg <| Rg <| Vs (Bo rfl adI) <| Vs (Mv rfl) <| VList.nil <| Go (i + 1, ((D3).set ((i)) ((D3).getD ((((((m : Nat) : Int) - 1) - (i : Int))).toNat) 0)).set ((((((m : Nat) : Int) - 1) - (i : Int))).toNat) ((D3).getD ((i)) 0)) (hok3.step (by omega) (by omega)) Wk
            · replace hc21 := of_decide_eq_false hc21
              refine Ke <| Te <| Oe <| Ih <| Tg <| Sq <| ?_
              have hl3 := hok3.len
              have hle3 := hok3.le
              exact Rg <| Vs (Mv rfl) <| Vs (Ts TK83 TU5 TU9 rfl (by rw [hok3.fin (by omega), hD]; exact tx_ok8)) <| Vs (As rfl) <| Vs (As rfl) <| Nx <| Re <| Fi (l := [.lit (.string (bytesOf (D3))), numB .i64 (0)]) (Rc (resVar_tmp rfl rfl) (Rc (resVar_tmp rfl rfl) Rn)) (by rw [tS_true hc1, txB, txL_sg vA (neg_pos nA sA), ← hD, ← hok3.fin (by omega)]; simp [tE, hc1]; rfl)
end Go.VL

/- Walks over the Go functions, printed by a program of this session over the kit's print, and by hand. -/
set_option linter.unusedVariables false
set_option linter.unusedSimpArgs false
namespace Go.VL
open Go.Proofs
theorem f62 (s : ByteArray) (hs : s.size ≤ 9223372036854775807) : VF Tryz.prog 77 [.lit (.string (s))] (dcR s) := by
  refine VF_of P_mixed Tryz.func77 rfl rfl (by kernel_rfl) <| Sq <| Rg <| Vs (As rfl) <| Vs (As rfl) <| Vs (As rfl) <| Nx <| VCode.join (α := (Bool)) (fun b => (0, sl [(0, .b (.lit (.string (s)))), (5, vB (b))], en [])) (fun b => b = negS s) ?_ ?_
  · skip
    refine Rg <| Vs (Mv rfl) <| Vs (Lt TU9 rfl) <| Vs (Bi rfl) <| Vs (Mv rfl) <| Sp 11 rfl (fun hc1 => ?_) (fun hc1 => ?_)
    · replace hc1 := of_decide_eq_true hc1
      exact Vs (Mv rfl) <| Vs (TiN (q := 0) TU9 rfl) <| Vs (Bi rfl) <| Vs (Pk rfl) <| Vs (As rfl) <| VList.nil <| Jg ((at8 (s) (0) == 45)) (neg_in (by omega)) Wk
    · replace hc1 := of_decide_eq_false hc1
      exact Sk rfl <| Sk rfl <| Sk rfl <| Vs (Pk rfl) <| Vs (As rfl) <| VList.nil <| Jg (false) (neg_out (by omega)).symm Wk
  · intro b hok
    have hb := hok
    change VCode _ _ _ 0 (sl _) (en _) _
    refine Sq <| Rg <| Vs (Mv rfl) <| Vs (As rfl) <| Nx <| VCode.join (α := (ByteArray)) (fun d => (0, sl [(0, .b (.lit (.string (s)))), (5, vB (b)), (6, .b (.lit (.string (d))))], en [])) (fun d => d = digS s) ?_ ?_
    · skip
      refine Sq <| Rg <| Vs (Mv rfl) <| Nx <| Cd rfl (fun hc2 => ?_) (fun hc2 => ?_)
      · replace hc2 := hc2
        refine Rg <| ?_
        have hsz := neg_size (hb.symm.trans hc2)
        exact Vs (Mv rfl) <| Vs (TfN (q := 1) TU9 rfl) <| Vs (As rfl) <| VList.nil <| Jg ((s).extract (1) (s).size) (dig_yes (hb.symm.trans hc2)) Wk
      · replace hc2 := hc2
        exact Ks <| Jg (s) (dig_no (hb.symm.trans hc2)) Wk
    · intro d hok
      have hd := hok
      have hds := digS_size s
      rw [← hd] at hds
      change VCode _ _ _ 0 (sl _) (en _) _
      refine VCode.join (α := (Unit)) (fun u => (0, sl [(5, vB (b)), (6, .b (.lit (.string (d))))], en [])) (fun u => preS s = true) ?_ ?_
      · skip
        refine Sq <| Rg <| Vs (Mv rfl) <| Vs (Bi rfl) <| Vs (Mv rfl) <| Sp 22 rfl (fun hc3 => ?_) (fun hc3 => ?_)
        · replace hc3 := strEq_t hc3
          exact Sk rfl <| Sk rfl <| Sk rfl <| Sk rfl <| Sk rfl <| Sk rfl <| Sk rfl <| Vs (Pk rfl) <| Nx <| Cy rfl <| Sq <| Rg <| Vs (As rfl) <| Vs (As rfl) <| Vs (As rfl) <| Nx <| Re <| Jr <| Fi (l := [.lit (.string ((⟨#[]⟩ : ByteArray))), boolB (false), boolB (false)]) (Rc (resVar_tmp rfl rfl) (Rc (resVar_tmp rfl rfl) (Rc (resVar_tmp rfl rfl) Rn))) (by rw [dc_bad (ok_empty (by rw [← hd]; assumption))]; rfl)
        · replace hc3 := strEq_f hc3
          refine Vs (Mv rfl) <| ?_
          have hpos := size_pos hc3
          refine Vs (TiN (q := 0) TU9 rfl) <| Vs (Bi rfl) <| Vs (Mv rfl) <| Sp 26 rfl (fun hc4 => ?_) (fun hc4 => ?_)
          · replace hc4 := eq_of_beq hc4
            refine Vs (Mv rfl) <| Vs (Bi rfl) <| Vs (Pk rfl) <| Vs (Pk rfl) <| Nx <| Cd rfl (fun hc5 => ?_) (fun hc5 => ?_)
            · replace hc5 := strEq_f (bnot_t hc5)
              exact Sq <| Rg <| Vs (As rfl) <| Vs (As rfl) <| Vs (As rfl) <| Nx <| Re <| Jr <| Fi (l := [.lit (.string ((⟨#[]⟩ : ByteArray))), boolB (false), boolB (false)]) (Rc (resVar_tmp rfl rfl) (Rc (resVar_tmp rfl rfl) (Rc (resVar_tmp rfl rfl) Rn))) (by rw [dc_bad (ok_zero (by rw [← hd]; assumption) (by assumption))]; rfl)
            · replace hc5 := strEq_t (bnot_f hc5)
              exact Ks <| Jg (()) (pre_a (by rw [← hd]; assumption) (by assumption)) Wk
          · replace hc4 := ne_of_beq_false hc4
            exact Sk rfl <| Sk rfl <| Vs (Pk rfl) <| Vs (Pk rfl) <| Nx <| Cz rfl <| Ks <| Jg (()) (pre_b (by rw [← hd]; assumption) (by rw [← hd]; assumption)) Wk
      · intro u hok
        change VCode _ _ _ 0 (sl _) (en _) _
        refine Sq <| Sq <| Rg <| Vs (Mv rfl) <| Vs (Lt TU9 rfl) <| Vs (Mv rfl) <| Nx <| Bk <| VCode.loop (α := (Nat)) (fun i => (0, sl [(5, vB (b)), (6, .b (.lit (.string (d)))), (32, vI .i64 (((d).size : Int))), (33, vI .i64 ((i : Int)))], en [])) (fun i => i ≤ d.size ∧ ∀ j, j < i → 48 ≤ at8 d j ∧ at8 d j ≤ 57) (fun i => d.size - i) (0) ⟨by omega, fun j hj => by omega⟩ Wk ?_
        intro i hok2
        change VCode _ _ _ 0 (sl _) (en _) _
        refine Sq <| Rg <| Vs (Bi rfl) <| Nx <| Sq <| Cd rfl (fun hc6 => ?_) (fun hc6 => ?_)
        · replace hc6 := of_decide_eq_true hc6
          refine Ks <| Tg <| Sq <| Bk <| Sq <| ?_
          have hr := at8_range d i
          refine Rg <| Vs (Mv rfl) <| Vs (As rfl) <| Nx <| Sq <| Rg <| Vs (Mv rfl) <| Vs (Mv rfl) <| Vs (TiN (q := i) TU9 rfl) <| Vs (Bi rfl) <| Vs (Mv rfl) <| Sp 40 rfl (fun hc7 => ?_) (fun hc7 => ?_)
          · replace hc7 := of_decide_eq_true hc7
            exact Sk rfl <| Sk rfl <| Sk rfl <| Sk rfl <| Vs (Pk rfl) <| Nx <| Cy rfl <| Sq <| Rg <| Vs (As rfl) <| Vs (As rfl) <| Vs (As rfl) <| Nx <| Re <| Iq <| Tr <| Or <| Iq <| Tr <| Fi (l := [.lit (.string ((⟨#[]⟩ : ByteArray))), boolB (false), boolB (false)]) (Rc (resVar_tmp rfl rfl) (Rc (resVar_tmp rfl rfl) (Rc (resVar_tmp rfl rfl) Rn))) (by rw [dc_bad (ok_bad (i := i) (by rw [← hd]; omega) (by rw [← hd]; omega))]; rfl)
          · replace hc7 := of_decide_eq_false hc7
            refine Vs (Mv rfl) <| Vs (Mv rfl) <| Vs (TiN (q := i) TU9 rfl) <| Vs (Bi rfl) <| Vs (Pk rfl) <| Nx <| Cd rfl (fun hc8 => ?_) (fun hc8 => ?_)
            · replace hc8 := of_decide_eq_true hc8
              exact Sq <| Rg <| Vs (As rfl) <| Vs (As rfl) <| Vs (As rfl) <| Nx <| Re <| Iq <| Tr <| Or <| Iq <| Tr <| Fi (l := [.lit (.string ((⟨#[]⟩ : ByteArray))), boolB (false), boolB (false)]) (Rc (resVar_tmp rfl rfl) (Rc (resVar_tmp rfl rfl) (Rc (resVar_tmp rfl rfl) Rn))) (by rw [dc_bad (ok_bad (i := i) (by rw [← hd]; omega) (by rw [← hd]; omega))]; rfl)
            · replace hc8 := of_decide_eq_false hc8
              exact Ks <| Ig <| Tg <| Rg <| Vs (Bo rfl adI) <| Vs (Mv rfl) <| VList.nil <| Go (i + 1) ⟨by omega, fun j hj => by rcases Nat.lt_or_eq_of_le (Nat.le_of_lt_succ hj) with h | h; exact hok2.2 j h; subst h; omega⟩ Wk
        · replace hc6 := of_decide_eq_false hc6
          exact Ke <| Te <| Oe <| Ih <| Tg <| Sq <| Rg <| Vs (Mv rfl) <| Vs (Mv rfl) <| Vs (As rfl) <| Vs (As rfl) <| Vs (As rfl) <| Nx <| Re <| Fi (l := [.lit (.string (d)), boolB (b), boolB (true)]) (Rc (resVar_tmp rfl rfl) (Rc (resVar_tmp rfl rfl) (Rc (resVar_tmp rfl rfl) Rn))) (by rw [dc_ok (ok_good hok (fun j hj => by rw [← hd] at hj ⊢; exact hok2.2 j (by omega))), ← hd, ← hb]; rfl)
theorem f24 (s : ByteArray) (hs : s.size ≤ 9223372036854775807) : VF Tryz.prog 46 [.lit (.string (s))] (prR s) := by
  refine VF_of P_mixed Tryz.func46 rfl rfl (by kernel_rfl) <| Sq <| Rg <| Vs (Al 0 TZ24 rfl) <| Vs (As rfl) <| Nx <| Sq <| Rg <| Vs (Mv rfl) <| Vs (Cf rfl rfl (f62 _ (by first | omega | assumption | (simp; done) | (simp; omega))) rfl) <| Vs (Mv rfl) <| Vs (Xt rfl) <| Vs (Xt rfl) <| Vs (Xt rfl) <| Vs (As rfl) <| Vs (As rfl) <| Vs (As rfl) <| Nx <| Sq <| Sq <| Rg <| Vs (Mv rfl) <| Vs (Un rfl) <| Nx <| Cd rfl (fun hc1 => ?_) (fun hc1 => ?_)
  · replace hc1 := (bnot_t hc1)
    exact Sq <| Rg <| Vs (Bd TQ24 rfl) <| Vs (StS TS24 rfl) <| Vs (As rfl) <| Nx <| Re <| Tr <| Fi (l := [.agg [boolB (false), u32S ([])], numB .i64 (3)]) (Rc (resVar_cell rfl rfl TA24 TS24 (Nat.le_of_ble_eq_true rfl) rfl) (Rc (resVar_tmp rfl rfl) Rn)) (by rw [pr_bad hc1]; rfl)
  · replace hc1 := (bnot_f hc1)
    refine Ks <| Tg <| Sq <| Sq <| ?_
    have hk := hc1
    have hnum : ∀ i, i < (dS s).size → 48 ≤ at8 (dS s) i ∧ at8 (dS s) i ≤ 57 := fun i hi => dS_num hi
    have hds := dS_size s
    refine Rg <| Vs (Mv rfl) <| Vs (Lt TU9 rfl) <| Vs (Bi rfl) <| Nx <| Cd rfl (fun hc2 => ?_) (fun hc2 => ?_)
    · replace hc2 := of_decide_eq_true hc2
      exact Sq <| Rg <| Vs (Bd TQ24 rfl) <| Vs (StS TS24 rfl) <| Vs (As rfl) <| Nx <| Re <| Tr <| Fi (l := [.agg [boolB (false), u32S ([])], numB .i64 (2)]) (Rc (resVar_cell rfl rfl TA24 TS24 (Nat.le_of_ble_eq_true rfl) rfl) (Rc (resVar_tmp rfl rfl) Rn)) (by rw [pr_ok hk, pZ, zR_big (by rw [sg_abs (by have := digits_big hk (by rw [← dS_ok hk]; omega); have := pow_pos 128; unfold limit at *; omega)]; exact digits_big hk (by rw [← dS_ok hk]; omega))]; rfl)
    · replace hc2 := of_decide_eq_false hc2
      refine Ks <| Tg <| Sq <| Rg <| Vs (As rfl) <| Nx <| Sq <| Sq <| Rg <| Vs (As rfl) <| Nx <| Bk <| VCode.loop (α := (Nat) × (List Int)) (fun x_ => match x_ with | (i, X) => (1, sl [(2, .ptr 0 (0)), (4, .b (.lit (.string (dS (s))))), (5, vB ((okS (s) && negS (s)))), (7, vS (X)), (8, vI .i64 ((i : Int)))], en [(0, ⟨2, [vB (false), vS ([])], true⟩)])) (fun x_ => match x_ with | (i, X) => (norm X ∧ X.length ≤ 1400) ∧ val X = pvn (dS s) i ∧ i ≤ (dS s).size + 9) (fun x_ => match x_ with | (i, X) => (dS s).size + 9 - i) (0, []) ⟨⟨⟨ok32_nil, .inl rfl⟩, by simp⟩, rfl, by omega⟩ Wk ?_
      rintro ⟨i, X⟩ hok
      obtain ⟨⟨nX, lX⟩, hX, hi⟩ := hok
      have hp := pvn_range hnum i
      change VCode _ _ _ 1 (sl _) (en _) _
      refine Sq <| Sq <| Rg <| Vs (Mv rfl) <| Vs (Mv rfl) <| Vs (Lt TU9 rfl) <| Vs (Bi rfl) <| Nx <| Cd rfl (fun hc3 => ?_) (fun hc3 => ?_)
      · replace hc3 := of_decide_eq_true hc3
        refine Ks <| Tg <| Sq <| Bk <| Sq <| Rg <| Vs (As rfl) <| Vs (As rfl) <| Nx <| Sq <| Sq <| Rg <| Vs (Mv rfl) <| Vs (As rfl) <| Nx <| Bk <| VCode.loop (α := (Nat) × (Int) × (Int)) (fun x_ => match x_ with | (k, p, c) => (1, sl [(2, .ptr 0 (0)), (4, .b (.lit (.string (dS (s))))), (5, vB ((okS (s) && negS (s)))), (7, vS (X)), (8, vI .i64 ((i : Int))), (9, vI .u32 (p)), (10, vI .u32 (c)), (11, vI .i64 ((k : Int)))], en [(0, ⟨2, [vB (false), vS ([])], true⟩)])) (fun x_ => match x_ with | (k, p, c) => PartInv (dS s) i k p c) (fun x_ => match x_ with | (k, p, c) => (dS s).size - k) (i, 0, 1) (PartInv.start (by omega)) Wk ?_
        rintro ⟨k, p, c⟩ hI
        change VCode _ _ _ 1 (sl _) (en _) _
        refine Sq <| Sq <| Rg <| Vs (Mv rfl) <| Vs (Mv rfl) <| Vs (Bo rfl adI) <| Vs (Mv rfl) <| Vs (Lt TU9 rfl) <| Vs (Mi rfl) <| Vs (Bi rfl) <| Nx <| Cd rfl (fun hc4 => ?_) (fun hc4 => ?_)
        · replace hc4 := of_decide_eq_true hc4
          refine Ks <| Tg <| Sq <| Bk <| Sq <| ?_
          have hd := hnum k (by split at hc4 <;> omega)
          have hks : k < (dS s).size ∧ k < i + 9 := by split at hc4 <;> omega
          have hc8 := hI.c8 hks.2
          have hp0 := hI.p0
          have hp1 := hI.p1
          have hc9 := hI.c9
          exact Rg <| Vs (Mv rfl) <| Vs (Bo rfl muD) <| Vs (Mv rfl) <| Vs (Mv rfl) <| Vs (TiN (q := k) TU9 rfl) <| Vs (Bo rfl suB) <| Vs (Cv TU5 TU64 rfl wrD) <| Vs (Bo rfl adD) <| Vs (As rfl) <| Nx <| Rg <| Vs (Mv rfl) <| Vs (Bo rfl muD) <| Vs (As rfl) <| VList.nil <| Ig <| Tg <| Rg <| Vs (Mv rfl) <| Vs (Bo rfl adI) <| Vs (As rfl) <| VList.nil <| Go (k + 1, ((p * 10) + (at8 (dS s) k - 48)), (c * 10)) (hI.step (hnum k (by omega)) (by omega) (by omega)) Wk
        · replace hc4 := of_decide_eq_false hc4
          refine Ke <| Te <| Oe <| Ih <| Tg <| ?_
          have hp0 := hI.p0
          have hp1 := hI.p1
          have hc9 := hI.c9
          have hke : (dS s).size ≤ k ∨ i + 9 ≤ k := by split at hc4 <;> omega
          have hg := group hX hI hp.1
          have hlen : (dg (val (dg (val X * val [c])) + val (dg (val [p])))).length ≤ 1400 := by have h := ten_len (v := pvn (dS s) k) (i := k) (pvn_range hnum k).1 (pvn_range hnum k).2; rw [← hg, dg_val (norm_dg _)] at h; have := hI.les; omega
          exact Rg <| Vs (Mv rfl) <| Vs (Mv rfl) <| Vs (L1s 10 TK22 rfl) <| Vs (Cc rfl (Rk rfl (Rk (Rr rfl) Rz)) (f63 _ _ (by first | omega | assumption | (simp; done) | (simp; omega)) (by first | omega | assumption | (simp; done) | (simp; omega)) (nX.1) (ok32_cons.2 ⟨by omega, ok32_nil⟩))) <| Vs (Mv rfl) <| Vs (L1s 13 TK22 rfl) <| Vs (Cc rfl (Rk (Rr rfl) Rz) (f64 _ (by first | omega | assumption | (simp; done) | (simp; omega)) (ok32_cons.2 ⟨by omega, ok32_nil⟩))) <| Vs (C0 rfl rfl (f52 _ _ (mulw_len nX.1 lX (by omega) (by omega)) (Nat.le_trans (len_le (L := [p]) (ok32_cons.2 ⟨by omega, ok32_nil⟩) (by simp [val]; omega) (by simp [val])) (by simp)) (ok32_dg _) (ok32_dg _))) <| Vs (As rfl) <| VList.nil <| Ig <| Tg <| Rg <| Vs (Mv rfl) <| Vs (Bo rfl adI) <| Vs (As rfl) <| VList.nil <| Go (i + 9, dg (val (dg (val X * val [c])) + val (dg (val [p])))) ⟨⟨norm_dg _, hlen⟩, by rw [hg]; rcases Nat.lt_or_ge k (i + 9) with h | h; exact pvn_out (by omega) (by omega); rw [show k = i + 9 by have := hI.le9; omega], by omega⟩ Wk
      · replace hc3 := of_decide_eq_false hc3
        refine Ke <| Te <| Oe <| Ih <| Tg <| Sq <| ?_
        have e1 : pvn (dS s) i = pv (bl (digS s)) := by rw [pvn_all (by omega), dS_ok hk]
        exact Rg <| Vs (Mv rfl) <| Vs (Mv rfl) <| Vs (C0 rfl rfl (f54 _ _ (by first | omega | assumption | (simp; done) | (simp; omega)) (nX.1))) <| Vs (Xt rfl) <| Vs (Xt rfl) <| Vs (StS TS24 rfl) <| Vs (As rfl) <| Nx <| Re <| Fi (l := [.agg [boolB (zN (sg ((okS (s) && negS (s))) (val (X)))), u32S (zL (sg ((okS (s) && negS (s))) (val (X))))], numB .i64 (zE (sg ((okS (s) && negS (s))) (val (X))))]) (Rc (resVar_cell rfl rfl TA24 TS24 (Nat.le_of_ble_eq_true rfl) rfl) (Rc (resVar_tmp rfl rfl) Rn)) (by rw [pr_ok hk, pZ, ← e1, ← hX, hk, Bool.true_and]; rfl)
end Go.VL

/- Plain laws of equal integers and of numbers given back. No program here. -/
set_option linter.unusedVariables false
set_option linter.unusedSimpArgs false
namespace Go.VL

def sameB (n : Bool) (A : List Int) (m : Bool) (B : List Int) : Bool := decide (n = m ∧ A = B)
theorem sameB_sign {n m : Bool} {A B : List Int} (h : ¬ n = m) : sameB n A m B = false := by unfold sameB; simp [h]
theorem sameB_len {n m : Bool} {A B : List Int} (h : A.length ≠ B.length) : sameB n A m B = false := by
  unfold sameB; rw [decide_eq_false_iff_not]; intro hc; exact h (by rw [hc.2])
theorem sameB_at {n m : Bool} {A B : List Int} {i : Nat} (h : A.getD i 0 ≠ B.getD i 0) : sameB n A m B = false := by
  unfold sameB; rw [decide_eq_false_iff_not]; intro hc; exact h (by rw [hc.2])
theorem sameB_yes {n m : Bool} {A B : List Int} (h : n = m) (hl : A.length = B.length) (hg : ∀ i, i < A.length → A.getD i 0 = B.getD i 0) : sameB n A m B = true := by
  unfold sameB; rw [decide_eq_true_iff]; exact ⟨h, list_ext_getD hl hg⟩
theorem sameB_refl (n : Bool) (A : List Int) : sameB n A n A = true := by unfold sameB; simp
theorem sameB_iff {n m : Bool} {A B : List Int} : sameB n A m B = true ↔ n = m ∧ A = B := by unfold sameB; rw [decide_eq_true_iff]
/-- What a number gives back is valid and stands for it. -/
theorem z_big {z : Int} (h : inB z = false) : zN z = false ∧ zL z = [] := by simp [zN, zL, h]
theorem z_in {z : Int} (h : inB z = true) : zN z = decide (z < 0) ∧ zL z = dg z.natAbs := by simp [zN, zL, h]
theorem zOf_z {z : Int} (h : inB z = true) : zOf (zN z) (zL z) = z := by
  obtain ⟨h1, h2⟩ := z_in h
  rw [zOf, h1, h2, val_dg (by omega)]
  unfold sg
  by_cases h0 : z < 0
  · rw [if_pos (by simpa using h0)]; omega
  · rw [if_neg (by simpa using h0)]; omega
theorem ok32_zL (z : Int) : ok32 (zL z) := by
  unfold zL; split
  · exact ok32_dg _
  · exact ok32_nil
theorem len_zL (z : Int) : (zL z).length ≤ 128 := by
  by_cases h : inB z = true
  · rw [(z_in h).2]
    refine (len_limit (by omega)).2 ?_
    simpa [inB] using h
  · rw [(z_big (by simpa using h)).2]; simp
theorem valid_zz (z : Int) : validB (zN z) (zL z) = true := by
  by_cases h : inB z = true
  · obtain ⟨h1, h2⟩ := z_in h
    by_cases hl : (zL z).length = 0
    · rw [validB_nil hl, h1]
      rw [h2] at hl
      have := (dg_nil (show 0 ≤ (z.natAbs : Int) by omega)).1 hl
      have h3 : ¬ z < 0 := by omega
      simp [h3]
    · rw [validB_some hl (len_zL z) rfl]
      have := (norm_dg (z.natAbs : Int)).2
      rw [← h2] at this
      rw [bne_iff_ne]
      exact this.resolve_left hl
  · obtain ⟨h1, h2⟩ := z_big (show inB z = false by simpa using h)
    rw [h1, h2]; rfl
theorem zOf_big {z : Int} (h : inB z = false) : zOf (zN z) (zL z) = 0 := by
  obtain ⟨h1, h2⟩ := z_big h
  rw [h1, h2]; rfl
/-- A valid integer is what its number gives back. -/
theorem in_of_valid {n : Bool} {A : List Int} (oA : ok32 A) (h : validB n A = true) : inB (zOf n A) = true := by
  obtain ⟨nA, lA, sA⟩ := valid_norm oA h
  rw [zOf, inB_sg (val_nonneg oA), decide_eq_true_iff]
  exact val_limit oA lA
theorem z_of {n : Bool} {A : List Int} (oA : ok32 A) (h : validB n A = true) : zN (zOf n A) = n ∧ zL (zOf n A) = A := by
  obtain ⟨nA, lA, sA⟩ := valid_norm oA h
  obtain ⟨h1, h2⟩ := z_in (in_of_valid oA h)
  have vA := val_nonneg oA
  refine ⟨?_, ?_⟩
  · rw [h1, sg_neg vA]
    cases n
    · rfl
    · have := neg_pos nA sA rfl
      simp [this]
  · rw [h2, sg_abs vA, dg_val nA]
/-- Two numbers in the range are the same integer if they are equal. -/
theorem same_zz {y z : Int} (hy : inB y = true) (hz : inB z = true) : sameB (zN y) (zL y) (zN z) (zL z) = decide (y = z) := by
  rw [Bool.eq_iff_iff, sameB_iff, decide_eq_true_iff]
  refine ⟨fun h => ?_, fun h => by subst h; exact ⟨rfl, rfl⟩⟩
  rw [← zOf_z hy, ← zOf_z hz, h.1, h.2]
theorem small_in {z : Int} (h1 : -9223372036854775808 ≤ z) (h2 : z ≤ 9223372036854775807) : inB z = true := by
  unfold inB limit
  rw [decide_eq_true_iff]
  have h3 := pow_mono (show 2 ≤ 128 by omega)
  have h4 : (4294967296 : Int) ^ 2 = 18446744073709551616 := rfl
  rw [h4] at h3
  omega
theorem zR_in {z : Int} (h : inB z = true) : zR z = .tup [intB (zN z) (zL z), numB .i64 0] := by rw [zR, zE_in.2 h]
theorem gR_in {ok : Bool} {z : Int} (ho : ok = true) (h : inB z = true) : gR ok z = .tup [intB (zN z) (zL z), numB .i64 0] := by rw [gR_true ho, zR_in h]
theorem okS_m0 : okS ⟨#[45, 48]⟩ = false := by decide +kernel
theorem txB_m12 : txB (-12) = ⟨#[45, 49, 50]⟩ := by
  have h : txD (((-12 : Int).natAbs : Nat) : Int) = [50, 49] := by
    have e : (((-12 : Int).natAbs : Nat) : Int) = 12 := rfl
    rw [e]
    unfold txD
    rw [if_neg (by decide)]
    have e2 : (12 : Int).toNat = 12 := rfl
    rw [e2, dd_pos (by decide), dd_pos (by decide), show 12 / 10 / 10 = 0 from rfl, dd_zero]
    rfl
  unfold txB txL
  rw [h]
  rfl
end Go.VL

/- Walks over the Go functions, printed by a program of this session over the kit's print, and by hand. -/
set_option linter.unusedVariables false
set_option linter.unusedSimpArgs false
namespace Go.VL
open Go.Proofs
theorem f26 (neg : Bool) (L : List Int) (hL : L.length ≤ 9223372036854775807) : VF Tryz.prog 56 [.agg [boolB (neg), u32S (L)]] (boolB (validB neg L)) := by
  refine VF_of P_mixed Tryz.func56 rfl rfl (by kernel_rfl) <| Sq <| Rg <| Vs (Bx 0 rfl) <| Vs (As rfl) <| Nx <| Sq <| Sq <| Rg <| Vs (Fa TF24_1 rfl) <| Vs (Ld TA22 rfl) <| Vs (Ls TK22 rfl) <| Vs (Bi rfl) <| Nx <| Cd rfl (fun hc1 => ?_) (fun hc1 => ?_)
  · replace hc1 := of_decide_eq_true hc1
    exact Sq <| Rg <| Vs (As rfl) <| Nx <| Re <| Tr <| Fi (l := [boolB (false)]) (Rc (resVar_tmp rfl rfl) Rn) (by rw [validB_long (by omega)]; rfl)
  · replace hc1 := of_decide_eq_false hc1
    refine Ks <| Tg <| Sq <| Sq <| Rg <| Vs (Fa TF24_1 rfl) <| Vs (Ld TA22 rfl) <| Vs (Ls TK22 rfl) <| Vs (Bi rfl) <| Nx <| Cd rfl (fun hc2 => ?_) (fun hc2 => ?_)
    · replace hc2 := eq_of_beq hc2
      exact Sq <| Rg <| Vs (Fa TF24_0 rfl) <| Vs (Ld TA4 rfl) <| Vs (Un rfl) <| Vs (As rfl) <| Nx <| Re <| Tr <| Fi (l := [boolB ((!neg))]) (Rc (resVar_tmp rfl rfl) Rn) (by rw [validB_nil (by omega)]; rfl)
    · replace hc2 := ne_of_beq_false hc2
      exact Ks <| Tg <| Sq <| Rg <| Vs (Fa TF24_1 rfl) <| Vs (Ld TA22 rfl) <| Vs (Fa TF24_1 rfl) <| Vs (Ld TA22 rfl) <| Vs (Ls TK22 rfl) <| Vs (Bo rfl suI) <| Vs (Ix TK22 rfl) <| Vs (Lq TA64 rfl) <| Vs (Bi rfl) <| Vs (As rfl) <| Nx <| Re <| Fi (l := [boolB (((L).getD ((((L).length : Int) - 1)).toNat 0 != 0))]) (Rc (resVar_tmp rfl rfl) Rn) (by rw [validB_some (q := ((((L).length : Int) - 1)).toNat) (by omega) (by omega) (by omega)]; rfl)
end Go.VL

/- Walks over the Go functions, printed by a program of this session over the kit's print, and by hand. -/
set_option linter.unusedVariables false
set_option linter.unusedSimpArgs false
namespace Go.VL
open Go.Proofs
theorem f18 (n : Bool) (A : List Int) (m : Bool) (B : List Int) (hA : A.length ≤ 9223372036854775807) (hB : B.length ≤ 9223372036854775807) (oA : ok32 A) (oB : ok32 B) : VF Tryz.prog 37 [.agg [boolB (n), u32S (A)], .agg [boolB (m), u32S (B)]] (dmR (validB n A && validB m B) (zOf n A) (zOf m B)) := by
  refine VF_of P_mixed Tryz.func37 rfl rfl (by kernel_rfl) <| Sq <| Rg <| Vs (Bx 0 rfl) <| Vs (Bx 1 rfl) <| Vs (Al 2 TZ24 rfl) <| Vs (Al 3 TZ24 rfl) <| Vs (As rfl) <| Nx <| Sq <| Sq <| Rg <| Vs (LdS TA24 TS24 rfl) <| Vs (LdS TA24 TS24 rfl) <| Vs (Cf rfl rfl (f50 _ _ _ _ (by first | omega | assumption | (simp; done) | (simp; omega)) (by first | omega | assumption | (simp; done) | (simp; omega))) rfl) <| Vs (Un rfl) <| Nx <| Cd rfl (fun hc1 => ?_) (fun hc1 => ?_)
  · replace hc1 := (bnot_t hc1)
    exact Sq <| Rg <| Vs (Bd TQ24 rfl) <| Vs (Bd TQ24 rfl) <| Vs (StS TS24 rfl) <| Vs (StS TS24 rfl) <| Vs (As rfl) <| Nx <| Re <| Tr <| Fi (l := [.agg [boolB (false), u32S ([])], .agg [boolB (false), u32S ([])], numB .i64 (1)]) (Rc (resVar_cell rfl rfl TA24 TS24 (Nat.le_of_ble_eq_true rfl) rfl) (Rc (resVar_cell rfl rfl TA24 TS24 (Nat.le_of_ble_eq_true rfl) rfl) (Rc (resVar_tmp rfl rfl) Rn))) (by rw [dmR_bad hc1]; rfl)
  · replace hc1 := (bnot_f hc1)
    refine Ks <| Tg <| Sq <| Sq <| ?_
    obtain ⟨v1, v2⟩ := Bool.and_eq_true_iff.1 hc1
    obtain ⟨nA, lA, sA⟩ := valid_norm oA v1
    obtain ⟨nB, lB, sB⟩ := valid_norm oB v2
    refine Rg <| Vs (Fa TF24_1 rfl) <| Vs (Ld TA22 rfl) <| Vs (Ls TK22 rfl) <| Vs (Bi rfl) <| Nx <| Cd rfl (fun hc2 => ?_) (fun hc2 => ?_)
    · replace hc2 := eq_of_beq hc2
      exact Sq <| Rg <| Vs (Bd TQ24 rfl) <| Vs (Bd TQ24 rfl) <| Vs (StS TS24 rfl) <| Vs (StS TS24 rfl) <| Vs (As rfl) <| Nx <| Re <| Tr <| Fi (l := [.agg [boolB (false), u32S ([])], .agg [boolB (false), u32S ([])], numB .i64 (4)]) (Rc (resVar_cell rfl rfl TA24 TS24 (Nat.le_of_ble_eq_true rfl) rfl) (Rc (resVar_cell rfl rfl TA24 TS24 (Nat.le_of_ble_eq_true rfl) rfl) (Rc (resVar_tmp rfl rfl) Rn))) (by rw [dmR_zero hc1 (by rw [zOf, norm_zero nB (by omega), sg_zero])]; rfl)
    · replace hc2 := ne_of_beq_false hc2
      refine Ks <| Tg <| Sq <| ?_
      have vA := val_nonneg oA
      have bP := norm_pos nB (fun e => hc2 (by rw [e]; rfl))
      have q0 := Int.ediv_nonneg vA (Int.le_of_lt bP)
      have m0 := Int.emod_nonneg (val A) (show val B ≠ 0 by omega)
      have m1 := Int.emod_lt_of_pos (val A) bP
      have hq1 : (dg (val A / val B)).length ≤ 128 := Nat.le_trans (len_le oA q0 (Int.ediv_le_self _ vA)) lA
      have hr1 : (dg (val A % val B)).length ≤ B.length := len_le oB m0 (Int.le_of_lt m1)
      have hy : zOf m B ≠ 0 := fun e => (by have := sg_zero.1 e; omega)
      refine Rg <| Vs (Fa TF24_1 rfl) <| Vs (Ld TA22 rfl) <| Vs (Fa TF24_1 rfl) <| Vs (Ld TA22 rfl) <| Vs (C0 rfl rfl (f51 _ _ (by first | omega | assumption | (simp; done) | (simp; omega)) (by first | omega | assumption | (simp; done) | (simp; omega)) (nA) (nB) (by first | omega | assumption | (simp; done) | (simp; omega)))) <| Vs (Mv rfl) <| Vs (Xt rfl) <| Vs (Xt rfl) <| Vs (As rfl) <| Vs (As rfl) <| Nx <| VCode.join (α := (List Int) × (List Int)) (fun x_ => match x_ with | (Q, R) => (4, sl [(2, .ptr 0 (0)), (3, .ptr 1 (0)), (4, .ptr 2 (0)), (5, .ptr 3 (0)), (7, vS (Q)), (8, vS (R))], en [(0, ⟨2, [vB (n), vS (A)], true⟩), (1, ⟨2, [vB (m), vS (B)], true⟩), (2, ⟨2, [vB (false), vS ([])], true⟩), (3, ⟨2, [vB (false), vS ([])], true⟩)])) (fun x_ => match x_ with | (Q, R) => (norm Q ∧ norm R) ∧ (sg (!(n == m)) (val Q) = (zOf n A).fdiv (zOf m B) ∧ sg m (val R) = (zOf n A).fmod (zOf m B)) ∧ Q.length ≤ 1000000000 ∧ R.length ≤ 1000000000) ?_ ?_
      · skip
        refine Sq <| Rg <| Vs (Fa TF24_0 rfl) <| Vs (Ld TA4 rfl) <| Vs (Fa TF24_0 rfl) <| Vs (Ld TA4 rfl) <| Vs (Bb TU4 rfl) <| Vs (Mv rfl) <| Sp 38 rfl (fun hc3 => ?_) (fun hc3 => ?_)
        · replace hc3 := ne_of_beq_false (bnot_t hc3)
          refine Vs (Mv rfl) <| Vs (Ls TK22 rfl) <| Vs (Bi rfl) <| Vs (Pk rfl) <| Nx <| Cd rfl (fun hc4 => ?_) (fun hc4 => ?_)
          · replace hc4 := of_decide_eq_true hc4
            exact Sq <| Rg <| Vs (Mv rfl) <| Vs (L1s 34 TK22 rfl) <| Vs (Cc rfl (Rk rfl (Rk (Rr rfl) Rz)) (f52 _ _ (by first | omega | assumption | (simp; done) | (simp; omega)) (by first | omega | assumption | (simp; done) | (simp; omega)) (ok32_dg _) (ok32_cons.2 ⟨by omega, ok32_nil⟩))) <| Vs (As rfl) <| Nx <| Rg <| Vs (Fa TF24_1 rfl) <| Vs (Ld TA22 rfl) <| Vs (Mv rfl) <| Vs (C0 rfl rfl (f53 _ _ (by first | omega | assumption | (simp; done) | (simp; omega)) (by first | omega | assumption | (simp; done) | (simp; omega)) (oB) (ok32_dg _) (by first | omega | assumption | (simp; done) | (simp; omega)) ((by rw [val_dg m0]; omega)))) <| Vs (As rfl) <| VList.nil <| Jg (dg (val (dg (val A / val B)) + val ([1])), dg (val B - val (dg (val A % val B)))) (by obtain ⟨e1, e2⟩ := fdiv_odd (a := val A) hc3 vA bP (by have := dg_nil m0; omega); refine ⟨⟨norm_dg _, norm_dg _⟩, ⟨?_, ?_⟩, add_len (ok32_dg _) (B := [1]) (ok32_cons.2 ⟨by omega, ok32_nil⟩) hq1 (by simp), sub_len oB (ok32_dg _) lB⟩; rw [zOf, zOf, e1, val_dg q0, val_dg (by simp [val]; omega)]; simp [sg, hc3, val]; rw [zOf, zOf, e2, val_dg m0, val_dg (by omega)]) Wk
          · replace hc4 := of_decide_eq_false hc4
            exact Ks <| Jg (dg (val A / val B), dg (val A % val B)) (by obtain ⟨e1, e2⟩ := fdiv_even (a := val A) hc3 vA bP (by have := dg_nil m0; omega); refine ⟨⟨norm_dg _, norm_dg _⟩, ⟨?_, ?_⟩, by omega, by omega⟩; rw [zOf, zOf, e1, val_dg q0]; simp [sg, hc3]; rw [zOf, zOf, e2, val_dg m0]) Wk
        · replace hc3 := eq_of_beq (bnot_f hc3)
          exact Sk rfl <| Sk rfl <| Sk rfl <| Vs (Pk rfl) <| Nx <| Cz rfl <| Ks <| Jg (dg (val A / val B), dg (val A % val B)) (by subst hc3; obtain ⟨e1, e2⟩ := fdiv_same (n := n) vA bP; refine ⟨⟨norm_dg _, norm_dg _⟩, ⟨?_, ?_⟩, by omega, by omega⟩; rw [zOf, zOf, e1, val_dg q0]; simp [sg]; rw [zOf, zOf, e2, val_dg m0]) Wk
      · rintro ⟨Q, R⟩ hok
        obtain ⟨⟨nQ, nR⟩, ⟨j3, j4⟩, j5, j6⟩ := hok
        change VCode _ _ _ 4 (sl _) (en _) _
        refine Sq <| Rg <| Vs (Fa TF24_0 rfl) <| Vs (Ld TA4 rfl) <| Vs (Fa TF24_0 rfl) <| Vs (Ld TA4 rfl) <| Vs (Bb TU4 rfl) <| Vs (Mv rfl) <| Vs (C0 rfl rfl (f54 _ _ (by first | omega | assumption | (simp; done) | (simp; omega)) (nQ.1))) <| Vs (Mv rfl) <| Vs (Xt rfl) <| Vs (Xt rfl) <| Vs (Al 14 TZ24 rfl) <| Vs (StS TS24 rfl) <| Vs (As rfl) <| Nx <| Sq <| Sq <| Rg <| Vs (Mv rfl) <| Vs (Bi rfl) <| Nx <| Cd rfl (fun hc5 => ?_) (fun hc5 => ?_)
        · replace hc5 := bne_iff_ne.1 hc5
          exact Sq <| Rg <| Vs (Bd TQ24 rfl) <| Vs (Bd TQ24 rfl) <| Vs (Mv rfl) <| Vs (StS TS24 rfl) <| Vs (StS TS24 rfl) <| Vs (As rfl) <| Nx <| Re <| Tr <| Fi (l := [.agg [boolB (false), u32S ([])], .agg [boolB (false), u32S ([])], numB .i64 (zE (sg ((!(n == m))) (val (Q))))]) (Rc (resVar_cell rfl rfl TA24 TS24 (Nat.le_of_ble_eq_true rfl) rfl) (Rc (resVar_cell rfl rfl TA24 TS24 (Nat.le_of_ble_eq_true rfl) rfl) (Rc (resVar_tmp rfl rfl) Rn))) (by rw [dmR_big hc1 hy (by rw [← j3]; exact hc5), ← j3]; rfl)
        · replace hc5 := bne_eq_false_iff_eq.1 hc5
          refine Ks <| Tg <| Sq <| Rg <| Vs (Fa TF24_0 rfl) <| Vs (Ld TA4 rfl) <| Vs (Mv rfl) <| Vs (C0 rfl rfl (f54 _ _ (by first | omega | assumption | (simp; done) | (simp; omega)) (nR.1))) <| Vs (Mv rfl) <| Vs (Xt rfl) <| Vs (Xt rfl) <| Vs (Al 26 TZ24 rfl) <| Vs (StS TS24 rfl) <| Vs (As rfl) <| Nx <| Sq <| Rd (by kernel_rfl) <| Vl (LdS TA24 TS24 rfl) <| Vl (LdS TA24 TS24 rfl) <| Vl (StS TS24 rfl) <| Vl (StS TS24 rfl) <| Vl (As rfl) <| ?_
          refine VLog.nil ⟨by kernel_rfl, ?_⟩
          exact Tg <| Re <| Fi (l := [.agg [boolB (zN (sg ((!(n == m))) (val (Q)))), u32S (zL (sg ((!(n == m))) (val (Q))))], .agg [boolB (zN (sg (m) (val (R)))), u32S (zL (sg (m) (val (R))))], numB .i64 (0)]) (Rc (resVar_cell rfl rfl TA24 TS24 (Nat.le_of_ble_eq_true rfl) rfl) (Rc (resVar_cell rfl rfl TA24 TS24 (Nat.le_of_ble_eq_true rfl) rfl) (Rc (resVar_tmp rfl rfl) Rn))) (by rw [dmR_ok hc1 hy (by rw [← j3]; exact hc5), ← j3, ← j4]; rfl)
end Go.VL

/- Walks over the Go functions, printed by a program of this session over the kit's print, and by hand. -/
set_option linter.unusedVariables false
set_option linter.unusedSimpArgs false
namespace Go.VL
open Go.Proofs
theorem bop_str_refl (s : ByteArray) : bop .eql (.string s) (.string s) = some (.bool true) := by simp [bop]
theorem len63 {L : List Int} (h : L.length ≤ 128) : L.length ≤ 9223372036854775807 := by omega
theorem w18 : VF Tryz.prog 37 [intB (zN 7) (zL 7), intB (zN (-2)) (zL (-2))] (.tup [intB (zN (-4)) (zL (-4)), intB (zN (-1)) (zL (-1)), numB .i64 0]) := by
  have h := f18 (zN 7) (zL 7) (zN (-2)) (zL (-2)) (len63 (len_zL _)) (len63 (len_zL _)) (ok32_zL _) (ok32_zL _)
  rw [zOf_z (small_in (by decide) (by decide)), zOf_z (small_in (by decide) (by decide)), valid_zz, valid_zz] at h
  have e1 : (7 : Int).fdiv (-2) = -4 := by decide
  have e2 : (7 : Int).fmod (-2) = -1 := by decide
  rw [dmR_ok (ok := true && true) rfl (by decide) (zE_in.2 (by rw [e1]; exact small_in (by decide) (by decide))), e1, e2] at h
  exact h
theorem w31 : VF Tryz.prog 63 [intB (zN (-12)) (zL (-12)), intB (zN 18) (zL 18)] (.tup [intB (zN 6) (zL 6), numB .i64 0]) := by
  have h := f31 (zN (-12)) (zL (-12)) (zN 18) (zL 18) (len63 (len_zL _)) (len63 (len_zL _)) (ok32_zL _) (ok32_zL _)
  rw [zOf_z (small_in (by decide) (by decide)), zOf_z (small_in (by decide) (by decide)), valid_zz, valid_zz] at h
  have e1 : ((Int.gcd (-12) 18 : Nat) : Int) = 6 := by decide
  rw [e1, gR_in (ok := true && true) rfl (small_in (by decide) (by decide))] at h
  exact h
theorem w27 : VF Tryz.prog 38 [intB (zN (-5)) (zL (-5)), numB .i64 (-1)] (.tup [intB (zN (-3)) (zL (-3)), numB .i64 0]) := by
  have h := f27 (zN (-5)) (zL (-5)) (-1) (len63 (len_zL _)) (ok32_zL _) (by decide) (by decide)
  rw [zOf_z (small_in (by decide) (by decide)), valid_zz] at h
  have e1 : shZ (-5) (-1) = -3 := by decide
  rw [e1, gR_in rfl (small_in (by decide) (by decide))] at h
  exact h
theorem w22 : VF Tryz.prog 43 [intB (zN (-12)) (zL (-12))] (.tup [.lit (.string (⟨#[45, 49, 50]⟩ : ByteArray)), numB .i64 0]) := by
  have h := f22 (zN (-12)) (zL (-12)) (len63 (len_zL _)) (ok32_zL _)
  rw [zOf_z (small_in (by decide) (by decide)), valid_zz, tS_true rfl, txB_m12] at h
  exact h
theorem w24 : VF Tryz.prog 46 [.lit (.string (⟨#[45, 48]⟩ : ByteArray))] (.tup [intB false [], numB .i64 3]) := by
  have h := f24 ⟨#[45, 48]⟩ (by decide)
  rw [pr_bad okS_m0] at h
  exact h
end Go.VL

/- Plain laws: a text is read as the integer it was made of, and no other text is. No program here. -/
set_option linter.unusedVariables false
set_option linter.unusedSimpArgs false
namespace Go.VL

theorem bytesOf_size (L : List Int) : (bytesOf L).size = L.length := by
  show (L.map byteOf).toArray.size = _
  simp
theorem ok8_getD {L : List Int} (h : ok8 L) (i : Nat) : 0 ≤ L.getD i 0 ∧ L.getD i 0 < 256 := by
  by_cases hi : i < L.length
  · have := h (L.getD i 0) (List.mem_of_getElem? (getD_get hi)); exact this
  · rw [getD_out (by omega)]; omega
theorem at8_of {L : List Int} (h : ok8 L) {i : Nat} (hi : i < L.length) : at8 (bytesOf L) i = L.getD i 0 := by
  have e : (bytesOf L).data.getD i 0 = byteOf (L.getD i 0) := by
    show ((L.map byteOf).toArray).getD i 0 = _
    simp [Array.getD, hi, List.getD_eq_getElem?_getD]
  unfold at8
  rw [e, byteOf_toNat (ok8_getD h i)]
theorem bl_of {L : List Int} (h : ok8 L) : bl (bytesOf L) = L := by
  refine list_ext_getD (by rw [bl_len, bytesOf_size]) (fun j hj => ?_)
  rw [bl_len, bytesOf_size] at hj
  have := bl_get (d := bytesOf L) (i := j) (by rw [bytesOf_size]; exact hj)
  rw [List.getD_eq_getElem?_getD, this, at8_of h hj]
  rfl
theorem byteOf_cast (b : UInt8) : byteOf (b.toNat : Int) = b := by
  unfold byteOf
  rw [Int.toNat_natCast]
  exact UInt8.ofNat_toNat
theorem of_bl (d : ByteArray) : bytesOf (bl d) = d := by
  refine ByteArray.ext (Array.ext' ?_)
  show ((bl d).map byteOf).toArray.toList = _
  unfold bl
  rw [List.map_map]
  have : (byteOf ∘ fun b : UInt8 => (b.toNat : Int)) = id := funext byteOf_cast
  rw [this]; simp
theorem bl_ok8 (d : ByteArray) : ok8 (bl d) := fun x hx => by
  unfold bl at hx
  obtain ⟨b, _, rfl⟩ := List.mem_map.1 hx
  have := UInt8.toNat_lt b
  omega
theorem extract_of (x : Int) (L : List Int) : (bytesOf (x :: L)).extract 1 (bytesOf (x :: L)).size = bytesOf L := by
  refine ByteArray.ext (Array.ext' ?_)
  rw [ByteArray.data_extract]
  show (((x :: L).map byteOf).toArray.extract 1 _).toList = ((L.map byteOf).toArray).toList
  rw [bytesOf_size]
  simp
  exact List.take_of_length_le (by simp)
/-- The value of written digits. -/
theorem pv_dd (n : Nat) : pv (dd n).reverse = n := by
  induction n using Nat.strongRecOn with
  | _ n ih =>
    by_cases h : n = 0
    · subst h; rw [dd_zero]; rfl
    · rw [dd_pos h, List.reverse_cons, pv_snoc, ih (n / 10) (by omega)]; omega
theorem pv_txD {v : Int} (h : 0 ≤ v) : pv (txD v).reverse = v := by
  unfold txD; split
  · rename_i h0; subst h0; rfl
  · rw [pv_dd]; omega
theorem dd_last {n : Nat} (h : n ≠ 0) : (dd n).reverse.getD 0 0 ≠ 48 := by
  induction n using Nat.strongRecOn with
  | _ n ih =>
    rw [dd_pos h, List.reverse_cons]
    by_cases h0 : n / 10 = 0
    · rw [h0, dd_zero]; simp; omega
    · have := ih (n / 10) (by omega) h0
      have hl : 0 < (dd (n / 10)).reverse.length := by rw [dd_pos h0]; simp
      rw [List.getD_eq_getElem?_getD, List.getElem?_append_left hl, ← List.getD_eq_getElem?_getD]
      exact this
theorem txD_ne {v : Int} (hv : 0 ≤ v) : 0 < (txD v).length := by
  unfold txD; split
  · simp
  · rw [dd_pos (by omega)]; simp
theorem txD_ok8 (v : Int) : ok8 (txD v).reverse := fun x hx => by
  have := txD_range v x (by simpa using hx); omega
theorem tx_ok8' (z : Int) : ok8 (txL z) := by
  have h := tx_ok8 (n := decide (z < 0)) (v := (z.natAbs : Int))
  unfold txL
  by_cases h0 : z < 0
  · simpa [h0] using h
  · simpa [h0] using h
theorem txL_neg {z : Int} (h : z < 0) : txL z = 45 :: (txD (z.natAbs : Int)).reverse := by unfold txL; simp [h]
theorem txL_pos {z : Int} (h : ¬ z < 0) : txL z = (txD (z.natAbs : Int)).reverse := by unfold txL; simp [h]
theorem negS_tx (z : Int) : negS (txB z) = decide (z < 0) := by
  unfold negS txB
  have hd := txD_ne (v := (z.natAbs : Int)) (by omega)
  by_cases h : z < 0
  · rw [at8_of (tx_ok8' z) (by rw [txL_neg h]; simp), bytesOf_size, txL_neg h]; simp [h]
  · rw [at8_of (tx_ok8' z) (by rw [txL_pos h]; simpa using hd), bytesOf_size, txL_pos h]
    have hm : (txD (z.natAbs : Int)).reverse.getD 0 0 ∈ txD (z.natAbs : Int) := by
      have := List.mem_of_getElem? (getD_get (L := (txD (z.natAbs : Int)).reverse) (i := 0) (by simpa using hd))
      simpa using this
    have := txD_range _ _ hm
    rw [decide_eq_false h, decide_eq_false_iff_not]
    rintro ⟨_, hc⟩
    omega
theorem digS_tx (z : Int) : digS (txB z) = bytesOf (txD (z.natAbs : Int)).reverse := by
  unfold digS
  rw [negS_tx]
  by_cases h : z < 0
  · rw [if_pos (by simpa using h)]; unfold txB; rw [txL_neg h]; exact extract_of _ _
  · rw [if_neg (by simpa using h)]; unfold txB; rw [txL_pos h]
theorem okS_tx (z : Int) : okS (txB z) = true := by
  have hd := txD_ne (v := (z.natAbs : Int)) (by omega)
  refine ok_good ?_ (fun i hi => ?_)
  · unfold preS
    rw [decide_eq_true_iff, digS_tx]
    refine ⟨fun e => ?_, fun ⟨h1, h2⟩ => ?_⟩
    · have := congrArg ByteArray.size e
      rw [bytesOf_size] at this
      have e0 : (⟨#[]⟩ : ByteArray).size = 0 := rfl
      rw [e0] at this
      simp at this
      rw [this] at hd; simp at hd
    · rw [at8_of (txD_ok8 _) (by simpa using hd)] at h1
      by_cases h0 : z = 0
      · subst h0; exact h2 rfl
      · refine dd_last (n := z.natAbs) (by omega) ?_
        have e : txD (z.natAbs : Int) = dd z.natAbs := by unfold txD; rw [if_neg (by omega), Int.toNat_natCast]
        rw [e] at h1; exact h1
  · rw [digS_tx] at hi ⊢
    rw [bytesOf_size] at hi
    rw [at8_of (txD_ok8 _) hi]
    have := List.mem_of_getElem? (getD_get hi)
    exact txD_range _ _ (by simpa using this)
theorem pZ_tx (z : Int) : pZ (txB z) = z := by
  unfold pZ
  rw [negS_tx, digS_tx, bl_of (txD_ok8 _), pv_txD (by omega)]
  unfold sg
  by_cases h : z < 0
  · rw [if_pos (by simpa using h)]; omega
  · rw [if_neg (by simpa using h)]; omega
/-- Only that text. -/
theorem dd_pv : ∀ (R : List Int), (∀ x ∈ R, 48 ≤ x ∧ x ≤ 57) → R ≠ [] → R.reverse.getD 0 0 ≠ 48 → 0 < pv R.reverse ∧ dd (pv R.reverse).toNat = R
  | [], _, h, _ => absurd rfl h
  | x :: R, hx, _, hl => by
    rw [List.reverse_cons, pv_snoc]
    have h1 := hx x (by simp)
    by_cases h0 : R = []
    · subst h0
      simp at hl ⊢
      have e : pv [] = 0 := rfl
      rw [e]
      refine ⟨by omega, ?_⟩
      rw [dd_pos (by omega), show (0 * 10 + (x - 48)).toNat / 10 = 0 by omega, dd_zero]
      congr 1; omega
    · have hlen : 0 < R.reverse.length := by simpa [List.length_pos_iff] using h0
      rw [List.reverse_cons, List.getD_eq_getElem?_getD, List.getElem?_append_left hlen, ← List.getD_eq_getElem?_getD] at hl
      obtain ⟨i1, i2⟩ := dd_pv R (fun y hy => hx y (by simp [hy])) h0 hl
      refine ⟨by omega, ?_⟩
      rw [dd_pos (by omega)]
      congr 1
      · omega
      · rw [show (pv R.reverse * 10 + (x - 48)).toNat / 10 = (pv R.reverse).toNat by omega]; exact i2
theorem bl_cons {s : ByteArray} (h : negS s = true) : bl s = 45 :: bl (s.extract 1 s.size) := by
  have h0 := neg_size h
  have h1 : at8 s 0 = 45 := by unfold negS at h; rw [decide_eq_true_iff] at h; exact h.2
  have hb : bl s = (bl s).getD 0 0 :: (bl s).drop 1 := by
    have hl : 0 < (bl s).length := by rw [bl_len]; exact h0
    cases hh : bl s with
    | nil => rw [hh] at hl; simp at hl
    | cons x r => rfl
  have h2 : (bl s).getD 0 0 = 45 := by rw [List.getD_eq_getElem?_getD, bl_get h0, h1]; rfl
  rw [hb, h2]
  congr 1
  unfold bl
  rw [ByteArray.data_extract]
  have e : s.data.toList.length = s.size := by rw [Array.length_toList]; rfl
  rw [← List.map_drop, Array.toList_extract, List.extract_eq_take_drop]
  congr 1
  rw [List.take_of_length_le]
  simp [e]
theorem tx_pZ {s : ByteArray} (h : okS s = true) : txB (pZ s) = s := by
  have hn : ∀ i, i < (digS s).size → 48 ≤ at8 (digS s) i ∧ at8 (digS s) i ≤ 57 := fun i hi => by
    have := dS_num (s := s) (i := i) (by rw [dS_ok h]; exact hi)
    rwa [dS_ok h] at this
  have hr : ∀ x ∈ (bl (digS s)).reverse, 48 ≤ x ∧ x ≤ 57 := fun x hx => by
    rw [List.mem_reverse] at hx
    obtain ⟨i, hi⟩ := List.mem_iff_getElem?.1 hx
    have hlt := (List.getElem?_eq_some_iff.1 hi).1
    rw [bl_len] at hlt
    rw [bl_get hlt] at hi
    injection hi with hi
    subst hi
    exact hn i hlt
  have hp : preS s = true := by simp only [okS, Bool.and_eq_true] at h; exact h.1
  simp only [preS, decide_eq_true_iff] at hp
  have hs0 := size_pos hp.1
  have hne : (bl (digS s)).reverse ≠ [] := fun e => by
    have := congrArg List.length e
    rw [List.length_reverse, bl_len] at this
    have e0 : ([] : List Int).length = 0 := rfl
    omega
  have hat : (bl (digS s)).getD 0 0 = at8 (digS s) 0 := by rw [List.getD_eq_getElem?_getD, bl_get hs0]; rfl
  have key : 0 ≤ pv (bl (digS s)) ∧ (txD (pv (bl (digS s)))).reverse = bl (digS s) ∧ (negS s = true → 0 < pv (bl (digS s))) := by
    by_cases h48 : at8 (digS s) 0 = 48
    · have hs : s = ⟨#[48]⟩ := Classical.byContradiction fun hc => hp.2 ⟨h48, hc⟩
      subst hs
      have e1 : negS ⟨#[48]⟩ = false := by decide +kernel
      have e2 : digS ⟨#[48]⟩ = ⟨#[48]⟩ := by unfold digS; rw [e1]; rfl
      rw [e2, e1]
      have e3 : bl ⟨#[48]⟩ = [48] := rfl
      rw [e3]
      have e4 : pv [48] = 0 := rfl
      rw [e4]
      exact ⟨by omega, by unfold txD; rw [if_pos rfl]; rfl, fun h => by cases h⟩
    · obtain ⟨k1, k2⟩ := dd_pv _ hr hne (by rw [List.reverse_reverse, hat]; exact h48)
      rw [List.reverse_reverse] at k1 k2
      refine ⟨by omega, ?_, fun _ => k1⟩
      unfold txD
      rw [if_neg (by omega), k2, List.reverse_reverse]
  obtain ⟨k0, k1, k2⟩ := key
  unfold txB pZ
  rw [txL_sg k0 k2]
  by_cases hneg : negS s = true
  · rw [if_pos hneg, List.reverse_append, k1]
    show bytesOf (45 :: bl (digS s)) = s
    rw [← dig_yes hneg, ← bl_cons hneg, of_bl]
  · rw [if_neg hneg, List.append_nil, k1, of_bl, ← dig_no (by simpa using hneg)]
theorem tx_size (z : Int) (h : inB z = true) : (txB z).size ≤ 1281 := by
  unfold txB
  rw [bytesOf_size]
  unfold txL
  rw [List.length_reverse, List.length_append]
  have h1 : (txD (z.natAbs : Int)).length ≤ 1280 := by
    refine txD_len (A := dg (z.natAbs : Int)) (ok32_dg _) ((len_limit (by omega)).2 (by simpa [inB] using h)) (val_dg (by omega)).symm
  have h2 : (if z < 0 then [(45 : Int)] else []).length ≤ 1 := by split <;> simp
  omega
end Go.VL

/- Plain laws that the statements about integers need. No program here. -/
set_option linter.unusedVariables false
set_option linter.unusedSimpArgs false
namespace Go.VL

theorem prE_zero {ok : Bool} {z : Int} (h : prE ok z = 0) : ok = true ∧ inB z = true := by
  unfold prE at h
  split at h
  · rename_i ho; exact ⟨ho, zE_in.1 h⟩
  · omega
theorem prE_true {ok : Bool} {z : Int} (h : ok = true) : prE ok z = zE z := by rw [prE, if_pos h]
theorem gE_zero {ok : Bool} {z : Int} : gE ok z = 0 ↔ ok = true ∧ inB z = true := by
  unfold gE
  split
  · rename_i ho; rw [zE_in]; exact ⟨fun h => ⟨ho, h⟩, fun h => h.2⟩
  · rename_i ho; exact ⟨fun h => by omega, fun h => absurd h.1 ho⟩
theorem gg_no {ok : Bool} {z : Int} (h : ok = false) : gN ok z = false ∧ gL ok z = [] := by subst h; simp [gN, gL]
theorem gg_yes {ok : Bool} {z : Int} (h : ok = true) : gN ok z = zN z ∧ gL ok z = zL z := by subst h; simp [gN, gL]
theorem ok32_gL (ok : Bool) (z : Int) : ok32 (gL ok z) := by
  cases ok
  · rw [(gg_no rfl).2]; exact ok32_nil
  · rw [(gg_yes rfl).2]; exact ok32_zL z
theorem len_gL (ok : Bool) (z : Int) : (gL ok z).length ≤ 128 := by
  cases ok
  · rw [(gg_no rfl).2]; simp
  · rw [(gg_yes rfl).2]; exact len_zL z
theorem len_gL' (ok : Bool) (z : Int) : (gL ok z).length ≤ 9223372036854775807 := Nat.le_trans (len_gL ok z) (by omega)
theorem len_zL' (z : Int) : (zL z).length ≤ 9223372036854775807 := Nat.le_trans (len_zL z) (by omega)
theorem valid_gg (ok : Bool) (z : Int) : validB (gN ok z) (gL ok z) = true := by
  cases ok
  · rw [(gg_no rfl).1, (gg_no rfl).2]; rfl
  · rw [(gg_yes rfl).1, (gg_yes rfl).2]; exact valid_zz z
theorem zOf_gg {ok : Bool} {z : Int} (h : ok = true) (hz : inB z = true) : zOf (gN ok z) (gL ok z) = z := by
  rw [(gg_yes h).1, (gg_yes h).2]; exact zOf_z hz
theorem tS_small {ok : Bool} {z : Int} (h : ok = true → inB z = true) : (tS ok z).size ≤ 9223372036854775807 := by
  unfold tS; split
  · rename_i ho; have := tx_size z (h ho); omega
  · exact Nat.zero_le _
theorem rd1 {n : Bool} {A : List Int} (oA : ok32 A) (h : validB n A = true) : prE (okS (tS (validB n A) (zOf n A))) (pZ (tS (validB n A) (zOf n A))) = 0 := by
  rw [tS_true h, okS_tx, pZ_tx, prE_true rfl]
  exact zE_in.2 (in_of_valid oA h)
theorem rd2 {n : Bool} {A : List Int} (oA : ok32 A) (h : validB n A = true) : sameB (gN (okS (tS (validB n A) (zOf n A))) (pZ (tS (validB n A) (zOf n A)))) (gL (okS (tS (validB n A) (zOf n A))) (pZ (tS (validB n A) (zOf n A)))) n A = true := by
  rw [tS_true h, okS_tx, pZ_tx, (gg_yes rfl).1, (gg_yes rfl).2, (z_of oA h).1, (z_of oA h).2]
  exact sameB_refl n A
theorem rd3 {s : ByteArray} (h : prE (okS s) (pZ s) = 0) : tS (validB (gN (okS s) (pZ s)) (gL (okS s) (pZ s))) (zOf (gN (okS s) (pZ s)) (gL (okS s) (pZ s))) = s := by
  obtain ⟨h1, h2⟩ := prE_zero h
  rw [valid_gg, zOf_gg h1 h2, tS_true rfl, tx_pZ h1]
theorem tE_true {ok : Bool} (h : ok = true) : tE ok = 0 := by rw [tE, if_pos h]
theorem str_refl {s t : ByteArray} (h : s = t) : (s.toList == t.toList) = true := by subst h; simp
theorem beq_yes {x y : Int} (h : x = y) : (x == y) = true := by simp [h]
theorem beq_no {x y : Int} (h : x ≠ y) : (x == y) = false := by simp [h]
theorem bne_yes {x y : Int} (h : x ≠ y) : (x != y) = true := by simp [h]
theorem bne_no {x y : Int} (h : x = y) : (x != y) = false := by simp [h]
end Go.VL

/- Plain laws that the statements about rings and orders of integers need. No program here. -/
set_option linter.unusedVariables false
set_option linter.unusedSimpArgs false
namespace Go.VL

theorem same_gg {ok ok' : Bool} {z z' : Int} (h : ok = true) (h' : ok' = true) (e : z = z') : sameB (gN ok z) (gL ok z) (gN ok' z') (gL ok' z') = true := by
  subst e; rw [h, h']; exact sameB_refl _ _
theorem gz {ok : Bool} {z : Int} (h : gE ok z = 0) : zOf (gN ok z) (gL ok z) = z := zOf_gg (gE_zero.1 h).1 (gE_zero.1 h).2
theorem go {ok : Bool} {z : Int} (h : gE ok z = 0) : ok = true := (gE_zero.1 h).1
theorem ring_add {o1 o2 o3 o4 : Bool} {a b c : Int} (e : gE o1 (a + b) = 0) (f : gE o2 (zOf (gN o1 (a + b)) (gL o1 (a + b)) + c) = 0) (g : gE o3 (b + c) = 0) (h : gE o4 (a + zOf (gN o3 (b + c)) (gL o3 (b + c))) = 0) :
    sameB (gN o2 (zOf (gN o1 (a + b)) (gL o1 (a + b)) + c)) (gL o2 (zOf (gN o1 (a + b)) (gL o1 (a + b)) + c)) (gN o4 (a + zOf (gN o3 (b + c)) (gL o3 (b + c)))) (gL o4 (a + zOf (gN o3 (b + c)) (gL o3 (b + c)))) = true :=
  same_gg (go f) (go h) (by rw [gz e, gz g]; omega)
theorem ring_mul {o1 o2 o3 o4 : Bool} {a b c : Int} (e : gE o1 (a * b) = 0) (f : gE o2 (zOf (gN o1 (a * b)) (gL o1 (a * b)) * c) = 0) (g : gE o3 (b * c) = 0) (h : gE o4 (a * zOf (gN o3 (b * c)) (gL o3 (b * c))) = 0) :
    sameB (gN o2 (zOf (gN o1 (a * b)) (gL o1 (a * b)) * c)) (gL o2 (zOf (gN o1 (a * b)) (gL o1 (a * b)) * c)) (gN o4 (a * zOf (gN o3 (b * c)) (gL o3 (b * c)))) (gL o4 (a * zOf (gN o3 (b * c)) (gL o3 (b * c)))) = true :=
  same_gg (go f) (go h) (by rw [gz e, gz g, Int.mul_assoc])
theorem ring_dist {o1 o2 o3 o4 o5 : Bool} {a b c : Int} (e : gE o1 (a * b) = 0) (f : gE o2 (a * c) = 0) (g : gE o3 (b + c) = 0) (h : gE o4 (a * zOf (gN o3 (b + c)) (gL o3 (b + c))) = 0)
    (i : gE o5 (zOf (gN o1 (a * b)) (gL o1 (a * b)) + zOf (gN o2 (a * c)) (gL o2 (a * c))) = 0) :
    sameB (gN o4 (a * zOf (gN o3 (b + c)) (gL o3 (b + c)))) (gL o4 (a * zOf (gN o3 (b + c)) (gL o3 (b + c)))) (gN o5 (zOf (gN o1 (a * b)) (gL o1 (a * b)) + zOf (gN o2 (a * c)) (gL o2 (a * c)))) (gL o5 (zOf (gN o1 (a * b)) (gL o1 (a * b)) + zOf (gN o2 (a * c)) (gL o2 (a * c)))) = true :=
  same_gg (go h) (go i) (by rw [gz e, gz f, gz g, Int.mul_add])
theorem ring_dist' {o1 o2 o3 o4 o5 : Bool} {a b c : Int} (e : gE o1 (a * b) = 0) (f : gE o2 (a * c) = 0) (g : gE o3 (b - c) = 0) (h : gE o4 (a * zOf (gN o3 (b - c)) (gL o3 (b - c))) = 0)
    (i : gE o5 (zOf (gN o1 (a * b)) (gL o1 (a * b)) - zOf (gN o2 (a * c)) (gL o2 (a * c))) = 0) :
    sameB (gN o4 (a * zOf (gN o3 (b - c)) (gL o3 (b - c)))) (gL o4 (a * zOf (gN o3 (b - c)) (gL o3 (b - c)))) (gN o5 (zOf (gN o1 (a * b)) (gL o1 (a * b)) - zOf (gN o2 (a * c)) (gL o2 (a * c)))) (gL o5 (zOf (gN o1 (a * b)) (gL o1 (a * b)) - zOf (gN o2 (a * c)) (gL o2 (a * c)))) = true :=
  same_gg (go h) (go i) (by rw [gz e, gz f, gz g, Int.mul_sub])
theorem comm_E {u v : Bool} {x y : Int} (h : x = y) : gE (u && v) x = gE (v && u) y := by rw [Bool.and_comm, h]
theorem comm_same {u v : Bool} {x y : Int} (h : x = y) : sameB (gN (u && v) x) (gL (u && v) x) (gN (v && u) y) (gL (v && u) y) = true := by rw [Bool.and_comm, h]; exact sameB_refl _ _
theorem cmp3_anti (a b : Int) : cmp3 a b = -cmp3 b a := by
  unfold cmp3
  rcases Int.lt_trichotomy a b with h | h | h
  · rw [if_pos h, if_neg (by omega), if_neg (by omega)]
  · subst h; simp
  · rw [if_neg (by omega), if_neg (by omega), if_pos h]; rfl
theorem cmp3_le {a b : Int} : cmp3 a b ≤ 0 ↔ a ≤ b := by unfold cmp3; split <;> (try split) <;> omega
theorem cmp3_gt {a b : Int} : cmp3 a b > 0 ↔ b < a := by unfold cmp3; split <;> (try split) <;> omega
theorem cmp3_le' {a b : Int} : cmp3 a b ≥ 0 ↔ b ≤ a := by unfold cmp3; split <;> (try split) <;> omega
theorem cmp_same {n m : Bool} {A B : List Int} (oA : ok32 A) (oB : ok32 B) (va : validB n A = true) (vb : validB m B = true) : (cmp3 (zOf n A) (zOf m B) == 0) = sameB n A m B := by
  rw [Bool.eq_iff_iff, beq_iff_eq, cmp3_zero, sameB_iff]
  refine ⟨fun h => ?_, fun h => by rw [h.1, h.2]⟩
  have e1 := z_of oA va
  have e2 := z_of oB vb
  rw [h] at e1
  exact ⟨e1.1.symm.trans e2.1, e1.2.symm.trans e2.2⟩
theorem cmp3_shift {a b : Int} (c : Int) : cmp3 (a + c) (b + c) = cmp3 a b := by
  unfold cmp3
  rcases Int.lt_trichotomy a b with h | h | h
  · rw [if_pos h, if_pos (by omega)]
  · subst h; simp
  · rw [if_neg (by omega), if_neg (by omega), if_neg (by omega), if_neg (by omega)]
theorem in_zero : inB 0 = true := small_in (by decide) (by decide)
theorem ord_diff {o : Bool} {a b : Int} (h : gE o (a - b) = 0) : cC (validB (gN o (a - b)) (gL o (a - b)) && validB (zN 0) (zL 0)) (zOf (gN o (a - b)) (gL o (a - b))) (zOf (zN 0) (zL 0)) = cmp3 a b := by
  rw [valid_gg, valid_zz, cC_true (ok := true && true) rfl, gz h, zOf_z in_zero]
  have := cmp3_shift (a := a - b) (b := 0) b
  rw [show a - b + b = a by omega, show 0 + b = b by omega] at this
  exact this.symm
theorem ord_add {o1 o2 : Bool} {a b c : Int} (h1 : gE o1 (a + c) = 0) (h2 : gE o2 (b + c) = 0) :
    cC (validB (gN o1 (a + c)) (gL o1 (a + c)) && validB (gN o2 (b + c)) (gL o2 (b + c))) (zOf (gN o1 (a + c)) (gL o1 (a + c))) (zOf (gN o2 (b + c)) (gL o2 (b + c))) = cmp3 a b := by
  rw [valid_gg, valid_gg, cC_true (ok := true && true) rfl, gz h1, gz h2]
  exact cmp3_shift c
theorem beq_bool {x y : Bool} (h : x = y) : (x == y) = true := by subst h; simp
theorem vv {u v : Bool} (h1 : u = true) (h2 : v = true) : (u && v) = true := by rw [h1, h2]; rfl
end Go.VL

/- Plain laws that the statements about squares and division of integers need. No program here. -/
set_option linter.unusedVariables false
set_option linter.unusedSimpArgs false
namespace Go.VL

theorem in_le {x y : Int} (h : inB y = true) (h0 : 0 ≤ x) (h1 : x ≤ y) : inB x = true := by
  unfold inB at *; rw [decide_eq_true_iff] at *; omega
theorem in_abs {x : Int} (h0 : 0 ≤ x) (h1 : x < limit) : inB x = true := by unfold inB; rw [decide_eq_true_iff]; omega
theorem in_lt {x : Int} (h : inB x = true) : x < limit := by unfold inB at h; rw [decide_eq_true_iff] at h; omega
theorem four_limit : 16 < limit := by
  unfold limit
  have h3 := pow_mono (show 1 ≤ 128 by omega)
  have h4 : (4294967296 : Int) ^ 1 = 4294967296 := rfl
  rw [h4] at h3; omega
section sq
variable {n : Bool} {A : List Int}
theorem sq_z (va : validB n A = true) (oA : ok32 A) (hn : n = false) : 0 ≤ zOf n A ∧ inB (zOf n A) = true ∧ sqOk (validB n A) (zOf n A) = true := by
  have h := val_nonneg oA
  have e : zOf n A = val A := by rw [hn]; rfl
  refine ⟨by omega, in_of_valid oA va, ?_⟩
  unfold sqOk; rw [va]; simp; omega
theorem sq_in {z : Int} (h0 : 0 ≤ z) (hz : inB z = true) : inB (isq z) = true ∧ inB (isq z * isq z) = true ∧ inB (isq z + 1) = true := by
  obtain ⟨s0, s1, s2⟩ := isq_spec h0
  have h1 := isq_le h0
  refine ⟨in_le hz s0 h1, in_le hz (Int.mul_nonneg s0 s0) s1, ?_⟩
  by_cases h : isq z ≤ 2
  · have := four_limit; exact in_abs (by omega) (by omega)
  · have h2 := Int.mul_le_mul_of_nonneg_left (show 2 ≤ isq z by omega) s0
    exact in_le hz (by omega) (by omega)
theorem sq_x (va : validB n A = true) (oA : ok32 A) (hn : n = false) : zOf (gN (sqOk (validB n A) (zOf n A)) (isq (zOf n A))) (gL (sqOk (validB n A) (zOf n A)) (isq (zOf n A))) = isq (zOf n A) := by
  obtain ⟨h1, h2, h3⟩ := sq_z va oA hn
  exact zOf_gg h3 (sq_in h1 h2).1
theorem sqE_zero (va : validB n A = true) (oA : ok32 A) (hn : n = false) : sqE (validB n A) (zOf n A) = 0 := by
  obtain ⟨h1, h2, h3⟩ := sq_z va oA hn
  unfold sqE; rw [if_pos va, if_neg (by omega)]
end sq
theorem gE_in {ok : Bool} {z : Int} (h : ok = true) (hz : inB z = true) : gE ok z = 0 := gE_zero.2 ⟨h, hz⟩
theorem in_one : inB 1 = true := small_in (by decide) (by decide)
theorem isq_sq {z : Int} (h : 0 ≤ z) : isq (z * z) = z := isq_uniq h (Int.le_refl _) (by rw [Int.add_mul, Int.mul_add]; omega)
theorem gE_two {ok : Bool} {z : Int} (h : ok = true) (h2 : gE ok z ≠ 2) : gE ok z = 0 := by
  unfold gE at *; rw [if_pos h] at *; unfold zE at *; split <;> simp_all
/-- The quotient of two integers in the range is in the range. -/
theorem fdiv_in {x y : Int} (hx : inB x = true) (hy : y ≠ 0) : inB (x.fdiv y) = true := by
  obtain ⟨n, a, ha, rfl⟩ : ∃ (n : Bool) (a : Int), 0 ≤ a ∧ x = sg n a := by
    by_cases h : x < 0
    · exact ⟨true, -x, by omega, by simp [sg]⟩
    · exact ⟨false, x, by omega, by simp [sg]⟩
  obtain ⟨m, b, hb, rfl⟩ : ∃ (m : Bool) (b : Int), 0 < b ∧ y = sg m b := by
    by_cases h : y < 0
    · exact ⟨true, -y, by omega, by simp [sg]⟩
    · exact ⟨false, y, by omega, by simp [sg]⟩
  rw [inB_sg ha, decide_eq_true_iff] at hx
  have q0 := Int.ediv_nonneg ha (Int.le_of_lt hb)
  have q1 := Int.ediv_le_self b ha
  by_cases h : n = m
  · subst h
    rw [(fdiv_same ha hb).1]; exact in_abs q0 (by omega)
  · by_cases hr : a % b = 0
    · rw [(fdiv_even h ha hb hr).1]
      unfold inB; rw [decide_eq_true_iff]; omega
    · rw [(fdiv_odd h ha hb hr).1]
      have hb1 : b ≠ 1 := fun e => hr (by rw [e]; exact Int.emod_one _)
      have h2 : a / b * 2 ≤ a := by
        have h3 := Int.mul_ediv_self_le (x := a) (k := b) (by omega)
        have h4 := Int.mul_le_mul_of_nonneg_right (show 2 ≤ b by omega) q0
        rw [Int.mul_comm (a / b) 2]; omega
      have h5 : a ≠ 0 := fun e => hr (by rw [e]; exact Int.zero_emod _)
      unfold inB; rw [decide_eq_true_iff]; omega
theorem fmod_in {x y : Int} (hy : y ≠ 0) (hyb : inB y = true) : inB (x.fmod y) = true ∧ ((x.fmod y).natAbs < y.natAbs) ∧ (x.fmod y = 0 ∨ (x.fmod y < 0 ↔ y < 0)) := by
  have h : (x.fmod y).natAbs < y.natAbs ∧ (x.fmod y = 0 ∨ (x.fmod y < 0 ↔ y < 0)) := by
    obtain ⟨n, a, ha, rfl⟩ : ∃ (n : Bool) (a : Int), 0 ≤ a ∧ x = sg n a := by
      by_cases h : x < 0
      · exact ⟨true, -x, by omega, by simp [sg]⟩
      · exact ⟨false, x, by omega, by simp [sg]⟩
    obtain ⟨m, b, hb, rfl⟩ : ∃ (m : Bool) (b : Int), 0 < b ∧ y = sg m b := by
      by_cases h : y < 0
      · exact ⟨true, -y, by omega, by simp [sg]⟩
      · exact ⟨false, y, by omega, by simp [sg]⟩
    have m0 := Int.emod_nonneg a (show b ≠ 0 by omega)
    have m1 := Int.emod_lt_of_pos a hb
    by_cases h : n = m
    · subst h
      rw [(fdiv_same ha hb).2]
      cases n <;> simp [sg] <;> omega
    · by_cases hr : a % b = 0
      · rw [(fdiv_even h ha hb hr).2, hr]
        cases m <;> simp [sg] <;> omega
      · rw [(fdiv_odd h ha hb hr).2]
        cases m <;> simp [sg] <;> omega
  refine ⟨?_, h⟩
  unfold inB at *; rw [decide_eq_true_iff] at *; omega
theorem sq_c {ok v : Bool} {x q w : Int} (hx : x = q) (ho : ok = true) (hq : inB (q * q) = true) (hv : v = true) : cC (validB (gN ok (x * x)) (gL ok (x * x)) && v) (zOf (gN ok (x * x)) (gL ok (x * x))) w = cmp3 (q * q) w := by
  subst hx; rw [valid_gg, hv, cC_true (ok := true && true) rfl, zOf_gg ho hq]
theorem sq_d {ok v : Bool} {x q w : Int} (hx : x = q) (ho : ok = true) (h2 : gE ok (x * x) ≠ 2) (hv : v = true) : cC (validB (gN ok (x * x)) (gL ok (x * x)) && v) (zOf (gN ok (x * x)) (gL ok (x * x))) w = cmp3 (q * q) w := by
  have h := gE_two ho h2
  subst hx; rw [valid_gg, hv, cC_true (ok := true && true) rfl, gz h]
theorem cmp3_one {a w : Int} (h : w < a) : cmp3 a w = 1 := by unfold cmp3; rw [if_neg (by omega), if_neg (by omega)]
theorem sq_is {v : Bool} {z : Int} (h : sqOk v z = true) : sqB v z = (cmp3 (isq z * isq z) z == 0) := by
  rw [sqB, h, Bool.true_and, Bool.eq_iff_iff, beq_iff_eq, cmp3_zero, decide_eq_true_iff]
theorem sqE_pos {v : Bool} {z : Int} (h : v = true) (hz : 0 ≤ z) : sqE v z = 0 := by unfold sqE; rw [if_pos h, if_neg (by omega)]
theorem sqB_sq {v : Bool} {z' z : Int} (h : v = true) (e : z' = z * z) (hz : 0 ≤ z) : sqB v z' = true := by
  subst e
  have h1 := Int.mul_nonneg hz hz
  unfold sqB sqOk
  rw [h, isq_sq hz]; simp; exact h1
theorem sq_back {v n : Bool} {z' : Int} {A : List Int} (h : v = true) (e : z' = zOf n A * zOf n A) (hz : 0 ≤ zOf n A) (oA : ok32 A) (va : validB n A = true) : sameB (gN (sqOk v z') (isq z')) (gL (sqOk v z') (isq z')) n A = true := by
  subst e
  have h1 := Int.mul_nonneg hz hz
  have h2 : sqOk v (zOf n A * zOf n A) = true := by unfold sqOk; rw [h]; simp; exact h1
  rw [h2, isq_sq hz, (gg_yes rfl).1, (gg_yes rfl).2, (z_of oA va).1, (z_of oA va).2]
  exact sameB_refl _ _
/-- Division. -/
theorem dmE_bad {ok : Bool} {x y : Int} (h : ok = false) : dmE ok x y = 1 := by unfold dmE; rw [h]; rfl
theorem dmE_nil {ok : Bool} {x y : Int} (h : ok = true) (hy : y = 0) : dmE ok x y = 4 := by unfold dmE; rw [if_pos h, if_pos hy]
theorem dmE_yes {ok : Bool} {x y : Int} (h : ok = true) (hx : inB x = true) (hy : y ≠ 0) : dmE ok x y = 0 := by unfold dmE; rw [if_pos h, if_neg hy]; exact zE_in.2 (fdiv_in hx hy)
theorem okQ_yes {ok : Bool} {x y : Int} (h : ok = true) (hx : inB x = true) (hy : y ≠ 0) : okQ ok x y = true := by unfold okQ; rw [h, fdiv_in hx hy]; simp [hy]
theorem zOf_len {n : Bool} {A : List Int} (h : (A.length : Int) = 0) : zOf n A = 0 := by
  have : A = [] := List.length_eq_zero_iff.1 (by omega)
  subst this; cases n <;> rfl
theorem zOf_ne {n : Bool} {A : List Int} (oA : ok32 A) (v : validB n A = true) (h : (A.length : Int) ≠ 0) : zOf n A ≠ 0 := by
  obtain ⟨nA, lA, sA⟩ := valid_norm oA v
  have := norm_pos nA (fun e => h (by rw [e]; rfl))
  intro hc
  have := sg_zero.1 hc
  omega
theorem zOf_mag {n : Bool} {A : List Int} : zOf false A = val A := rfl
theorem val_abs {n : Bool} {A : List Int} (oA : ok32 A) : val A = ((zOf n A).natAbs : Int) := (sg_abs (val_nonneg oA)).symm
/-- A magnitude is a valid integer. -/
theorem valid_mag {n : Bool} {A : List Int} (v : validB n A = true) : validB false A = true := by
  by_cases h : A.length = 0
  · rw [validB_nil h]; rfl
  · unfold validB at *; rw [if_neg h] at *; exact v
theorem cE_yes {ok : Bool} (h : ok = true) : cE ok = 0 := cE_true h
theorem div_less {okr m : Bool} {r y : Int} {B : List Int} (oB : ok32 B) (vB' : validB m B = true) (ho : okr = true) (hr : inB r = true) (hy : y = zOf m B) (h : r.natAbs < y.natAbs) : cC (validB false (gL okr r) && validB false B) (zOf false (gL okr r)) (zOf false B) = -1 := by
  rw [valid_mag (n := gN okr r) (valid_gg okr r), valid_mag vB', cC_true (ok := true && true) rfl, zOf_mag (n := false), zOf_mag (n := false), val_abs (n := gN okr r) (ok32_gL _ _), val_abs (n := m) oB, zOf_gg ho hr]
  subst hy
  unfold cmp3; rw [if_pos (by omega)]
theorem div_sign {okr m : Bool} {r : Int} {B : List Int} (vB' : validB m B = true) (ho : okr = true) (hr : inB r = true) (h : r = 0 ∨ (r < 0 ↔ zOf m B < 0)) (hy : zOf m B ≠ 0)
    (hc : cC (validB (gN okr r) (gL okr r) && validB (zN 0) (zL 0)) (zOf (gN okr r) (gL okr r)) (zOf (zN 0) (zL 0)) ≠ 0) :
    cC (validB (gN okr r) (gL okr r) && validB (zN 0) (zL 0)) (zOf (gN okr r) (gL okr r)) (zOf (zN 0) (zL 0)) = cC (validB m B && validB (zN 0) (zL 0)) (zOf m B) (zOf (zN 0) (zL 0)) := by
  rw [valid_gg, valid_zz, cC_true (ok := true && true) rfl, zOf_gg ho hr, zOf_z in_zero] at *
  rw [vB', cC_true (ok := true && true) rfl]
  rw [Ne, cmp3_zero] at hc
  have h' := h.resolve_left hc
  unfold cmp3
  by_cases h0 : r < 0
  · rw [if_pos h0, if_pos (h'.1 h0)]
  · rw [if_neg h0, if_neg hc, if_neg (fun hh => h0 (h'.2 hh)), if_neg hy]
theorem div_back {g n o1 o2 : Bool} {x y : Int} {A : List Int} (oA : ok32 A) (va : validB n A = true) (hx : x = zOf n A) (hg : g = true) (hq : inB (x.fdiv y) = true) (hr : inB (x.fmod y) = true)
    (h1 : gE o1 (zOf (gN g (x.fdiv y)) (gL g (x.fdiv y)) * y) = 0)
    (h2 : gE o2 (zOf (gN o1 (zOf (gN g (x.fdiv y)) (gL g (x.fdiv y)) * y)) (gL o1 (zOf (gN g (x.fdiv y)) (gL g (x.fdiv y)) * y)) + zOf (gN g (x.fmod y)) (gL g (x.fmod y))) = 0) :
    sameB (gN o2 (zOf (gN o1 (zOf (gN g (x.fdiv y)) (gL g (x.fdiv y)) * y)) (gL o1 (zOf (gN g (x.fdiv y)) (gL g (x.fdiv y)) * y)) + zOf (gN g (x.fmod y)) (gL g (x.fmod y))))
      (gL o2 (zOf (gN o1 (zOf (gN g (x.fdiv y)) (gL g (x.fdiv y)) * y)) (gL o1 (zOf (gN g (x.fdiv y)) (gL g (x.fdiv y)) * y)) + zOf (gN g (x.fmod y)) (gL g (x.fmod y)))) n A = true := by
  have e : zOf (gN o1 (zOf (gN g (x.fdiv y)) (gL g (x.fdiv y)) * y)) (gL o1 (zOf (gN g (x.fdiv y)) (gL g (x.fdiv y)) * y)) + zOf (gN g (x.fmod y)) (gL g (x.fmod y)) = zOf n A := by
    rw [gz h1, zOf_gg hg hq, zOf_gg hg hr, ← hx]
    rw [Int.fmod_def x y, Int.mul_comm y]; omega
  rw [e, go h2, (gg_yes rfl).1, (gg_yes rfl).2, (z_of oA va).1, (z_of oA va).2]
  exact sameB_refl _ _
end Go.VL

/- Plain laws that the statements about divisors and shifts of integers need. No program here. -/
set_option linter.unusedVariables false
set_option linter.unusedSimpArgs false
namespace Go.VL

theorem gcd_in {x y : Int} (hx : inB x = true) (hy : inB y = true) : inB ((Int.gcd x y : Nat) : Int) = true := by
  unfold inB at *
  rw [decide_eq_true_iff] at *
  by_cases h : y = 0
  · subst h; rw [Int.gcd_zero_right]; omega
  · have h1 : Int.gcd x y ≤ y.natAbs := Nat.le_of_dvd (by omega) (Nat.gcd_dvd_right _ _)
    omega
theorem gcd_pos {x y : Int} (h : y ≠ 0) : ((Int.gcd x y : Nat) : Int) ≠ 0 := by
  have : 0 < Int.gcd x y := Nat.gcd_pos_of_pos_right _ (by omega)
  omega
theorem fmod_split (x y : Int) : x = x.fmod y + y * x.fdiv y := by rw [Int.fmod_def]; omega
theorem gcd_fmod (x y : Int) : Int.gcd y (x.fmod y) = Int.gcd x y := by
  have a1 := Int.gcd_dvd_left y (x.fmod y)
  have a2 := Int.gcd_dvd_right y (x.fmod y)
  have b1 := Int.gcd_dvd_left x y
  have b2 := Int.gcd_dvd_right x y
  have h1 : ((Int.gcd y (x.fmod y) : Nat) : Int) ∣ x := by
    have h : ((Int.gcd y (x.fmod y) : Nat) : Int) ∣ x.fmod y + y * x.fdiv y := Int.dvd_add a2 (Int.dvd_mul_of_dvd_left a1)
    rwa [← fmod_split] at h
  have h2 : ((Int.gcd x y : Nat) : Int) ∣ x.fmod y := by
    rw [Int.fmod_def]; exact Int.dvd_sub b1 (Int.dvd_mul_of_dvd_left b2)
  have k1 := Int.dvd_coe_gcd h1 a1
  have k2 := Int.dvd_coe_gcd b2 h2
  exact Nat.dvd_antisymm (Int.natCast_dvd_natCast.1 k1) (Int.natCast_dvd_natCast.1 k2)
theorem fmod_dvd {x g : Int} (h : g ∣ x) (hg : 0 ≤ g) : x.fmod g = 0 := by
  rw [Int.fmod_eq_emod_of_nonneg x hg]; exact Int.emod_eq_zero_of_dvd h
theorem gL_zero (ok : Bool) : gL ok 0 = [] := by
  cases ok <;> simp [gL, zL, in_zero, dg_zero]
theorem gcd_abs (x y z : Int) : ((Int.gcd (x * z) (y * z) : Nat) : Int) = ((Int.gcd x y : Nat) : Int) * (z.natAbs : Int) := by
  rw [Int.gcd_mul_right, Int.natCast_mul]
section eu
variable {n m k : Bool} {A B C : List Int} {x y : Int}
theorem eu_x {o : Bool} {w G : Int} (hG : G = ((Int.gcd x y : Nat) : Int)) (h : w = x ∨ w = y) : ((gL o (w.fmod G)).length : Int) = 0 := by
  have hd : G ∣ w := by
    subst hG
    rcases h with h | h
    · rw [h]; exact Int.gcd_dvd_left x y
    · rw [h]; exact Int.gcd_dvd_right x y
  rw [fmod_dvd hd (by omega), gL_zero]; rfl
theorem eu_mul {o1 o2 o3 o4 : Bool} {z g c : Int} (h1 : o1 = true) (h2 : o2 = true) (hp : gE o3 (x * z) = 0) (hq : gE o4 (y * z) = 0) (hg : g = ((Int.gcd x y : Nat) : Int)) (hc : c = (z.natAbs : Int)) :
    gE o1 ((Int.gcd (zOf (gN o3 (x * z)) (gL o3 (x * z))) (zOf (gN o4 (y * z)) (gL o4 (y * z))) : Nat) : Int) = 0 ∧ gE o2 (g * c) = 0 ∧
      sameB (gN o1 ((Int.gcd (zOf (gN o3 (x * z)) (gL o3 (x * z))) (zOf (gN o4 (y * z)) (gL o4 (y * z))) : Nat) : Int)) (gL o1 ((Int.gcd (zOf (gN o3 (x * z)) (gL o3 (x * z))) (zOf (gN o4 (y * z)) (gL o4 (y * z))) : Nat) : Int)) (gN o2 (g * c)) (gL o2 (g * c)) = true := by
  subst hg; subst hc
  rw [gz hp, gz hq]
  have hi := gcd_in (gE_zero.1 hp).2 (gE_zero.1 hq).2
  refine ⟨gE_in h1 hi, ?_, same_gg h1 h2 (gcd_abs x y z)⟩
  rw [← gcd_abs]; exact gE_in h2 hi
end eu
/-- Shifts. -/
theorem shZ_up {z k : Int} (h : 0 ≤ k) : shZ z k = z * 2 ^ k.toNat := by unfold shZ; rw [if_pos h]
theorem shZ_down {z k : Int} (h : 0 ≤ k) : shZ z (-k) = z.fdiv (2 ^ k.toNat) := by
  unfold shZ
  by_cases h0 : k = 0
  · subst h0; rw [if_pos (by omega)]; simp
  · rw [if_neg (by omega), Int.neg_neg]
theorem shZ_back {z k : Int} (h : 0 ≤ k) : shZ (shZ z k) (-k) = z := by
  rw [shZ_up h, shZ_down h]
  have hp := two_pow_pos k.toNat
  exact Int.mul_fdiv_cancel z (by omega)
theorem two_in {k : Int} (h0 : 0 ≤ k) (h : k ≤ 4095) : inB (2 ^ k.toNat) = true := by
  have h1 := two_mono (show k.toNat + 1 ≤ 4096 by omega)
  rw [← limit_two, Int.pow_succ] at h1
  have h2 := two_pow_pos k.toNat
  exact in_abs (by omega) (by omega)
theorem one_shZ {k : Int} (h0 : 0 ≤ k) : shZ (zOf (zN 1) (zL 1)) k = 2 ^ k.toNat := by
  rw [zOf_z in_one, shZ_up h0, Int.one_mul]
section ha
variable {n : Bool} {A : List Int} {k : Int}
theorem ha_back {o1 o2 : Bool} (h0 : 0 ≤ k) (oA : ok32 A) (va : validB n A = true) (he : gE o1 (shZ (zOf n A) k) = 0) (ho : o2 = true) :
    gE o2 (shZ (zOf (gN o1 (shZ (zOf n A) k)) (gL o1 (shZ (zOf n A) k))) (-k)) = 0 ∧
      sameB (gN o2 (shZ (zOf (gN o1 (shZ (zOf n A) k)) (gL o1 (shZ (zOf n A) k))) (-k))) (gL o2 (shZ (zOf (gN o1 (shZ (zOf n A) k)) (gL o1 (shZ (zOf n A) k))) (-k))) n A = true := by
  rw [gz he, shZ_back h0]
  refine ⟨gE_in ho (in_of_valid oA va), ?_⟩
  rw [ho, (gg_yes rfl).1, (gg_yes rfl).2, (z_of oA va).1, (z_of oA va).2]
  exact sameB_refl _ _
theorem ha_p {o : Bool} (h0 : 0 ≤ k) (h1 : k ≤ 4095) (ho : o = true) : gE o (shZ (zOf (zN 1) (zL 1)) k) = 0 ∧ zOf (gN o (shZ (zOf (zN 1) (zL 1)) k)) (gL o (shZ (zOf (zN 1) (zL 1)) k)) = 2 ^ k.toNat := by
  rw [one_shZ h0]
  exact ⟨gE_in ho (two_in h0 h1), zOf_gg ho (two_in h0 h1)⟩
end ha
theorem ha_q {z p k : Int} {o v : Bool} (h0 : 0 ≤ k) (hz : inB z = true) (hp : p = 2 ^ k.toNat) (ho : o = true) (hv : v = true) :
    dmE o z p = 0 ∧ gE v (shZ z (-k)) = 0 ∧ sameB (gN (okQ o z p) (z.fdiv p)) (gL (okQ o z p) (z.fdiv p)) (gN v (shZ z (-k))) (gL v (shZ z (-k))) = true := by
  subst hp
  have h2 := two_pow_pos k.toNat
  rw [shZ_down h0]
  exact ⟨dmE_yes ho hz (by omega), gE_in hv (fdiv_in hz (by omega)), same_gg (okQ_yes ho hz (by omega)) hv rfl⟩
theorem bop_and_4095 {x : Int} (h0 : -9223372036854775808 ≤ x) (h1 : x ≤ 9223372036854775807) : bop .and (.int .i64 x) (.int .i64 4095) = some (.int .i64 (x % 4096)) := by
  have hb : ((BitVec.ofInt 64 x &&& BitVec.ofInt 64 4095).toNat : Int) = x % 4096 := by
    rw [BitVec.toNat_and]
    have e : (BitVec.ofInt 64 4095).toNat = 2 ^ 12 - 1 := by decide
    rw [e, Nat.and_two_pow_sub_one_eq_mod]
    have e2 : ((BitVec.ofInt 64 x).toNat : Int) = x % 18446744073709551616 := by
      rw [BitVec.toNat_ofInt]; omega
    omega
  have hw : IntKind.i64.wrap (x % 4096) = x % 4096 := wrap_i64 (by omega)
  simp only [bop]
  show some (Value.int .i64 (IntKind.i64.wrap ((BitVec.ofInt 64 x &&& BitVec.ofInt 64 4095).toNat : Int))) = _
  rw [hb, hw]
end Go.VL

/- The contracts of the integer's functions at numbers. -/
set_option linter.unusedVariables false
set_option linter.unusedSimpArgs false
namespace Go.VL
open Go.Proofs
abbrev iB (z : Int) : B := intB (zN z) (zL z)
section
variable {x y : Int}
theorem c29 (hx : inB x = true) (hy : inB y = true) : VF Tryz.prog 50 [iB x, iB y] (zR (x * y)) := by
  have h := f29 (zN x) (zL x) (zN y) (zL y) (len_zL' _) (len_zL' _) (ok32_zL _) (ok32_zL _)
  rw [zOf_z hx, zOf_z hy, valid_zz, valid_zz, Bool.and_self, gR_true rfl] at h
  exact h
theorem c38 (hx : inB x = true) (hy : inB y = true) : VF Tryz.prog 51 [iB x, iB y] (zR (x + y)) := by
  have h := f38 (zN x) (zL x) (zN y) (zL y) (len_zL' _) (len_zL' _) (ok32_zL _) (ok32_zL _)
  rw [zOf_z hx, zOf_z hy, valid_zz, valid_zz, Bool.and_self, gR_true rfl] at h
  exact h
theorem c40 (hx : inB x = true) (hy : inB y = true) : VF Tryz.prog 74 [iB x, iB y] (zR (x - y)) := by
  have h := f40 (zN x) (zL x) (zN y) (zL y) (len_zL' _) (len_zL' _) (ok32_zL _) (ok32_zL _)
  rw [zOf_z hx, zOf_z hy, valid_zz, valid_zz, Bool.and_self, gR_true rfl] at h
  exact h
theorem c33 (hx : inB x = true) (hy : inB y = true) : VF Tryz.prog 73 [iB x, iB y] (.tup [numB .i64 (cmp3 x y), numB .i64 0]) := by
  have h := f33 (zN x) (zL x) (zN y) (zL y) (len_zL' _) (len_zL' _) (ok32_zL _) (ok32_zL _)
  rw [zOf_z hx, zOf_z hy, valid_zz, valid_zz] at h
  exact h
theorem c18 (hx : inB x = true) (hy : inB y = true) (h0 : y ≠ 0) : VF Tryz.prog 37 [iB x, iB y] (.tup [iB (x.fdiv y), iB (x.fmod y), numB .i64 0]) := by
  have h := f18 (zN x) (zL x) (zN y) (zL y) (len_zL' _) (len_zL' _) (ok32_zL _) (ok32_zL _)
  rw [zOf_z hx, zOf_z hy, valid_zz, valid_zz, Bool.and_self, dmR_ok rfl h0 (zE_in.2 (fdiv_in hx h0))] at h
  exact h
theorem c31 (hx : inB x = true) (hy : inB y = true) : VF Tryz.prog 63 [iB x, iB y] (.tup [iB ((Int.gcd x y : Nat) : Int), numB .i64 0]) := by
  have h := f31 (zN x) (zL x) (zN y) (zL y) (len_zL' _) (len_zL' _) (ok32_zL _) (ok32_zL _)
  rw [zOf_z hx, zOf_z hy, valid_zz, valid_zz, Bool.and_self, gR_in rfl (gcd_in hx hy)] at h
  exact h
theorem c31n (hx : inB (-x) = true) (hy : inB (-y) = true) : VF Tryz.prog 63 [iB (-x), iB (-y)] (.tup [iB ((Int.gcd x y : Nat) : Int), numB .i64 0]) := by
  have h := c31 hx hy
  rw [Int.gcd_neg, Int.neg_gcd] at h
  exact h
theorem c36 (x : Int) : VF Tryz.prog 62 [iB x] (boolB true) := by
  have h := f36 (zN x) (zL x) (len_zL' _)
  rw [valid_zz] at h
  exact h
theorem c28 {n : Int} (h0 : -9223372036854775808 ≤ n) (h1 : n ≤ 9223372036854775807) : VF Tryz.prog 21 [numB .i64 n] (iB n) := f28 n h0 h1
theorem c27 (hx : inB x = true) (h0 : -9223372036854775808 ≤ y) (h1 : y ≤ 9223372036854775807) : VF Tryz.prog 38 [iB x, numB .i64 y] (zR (shZ x y)) := by
  have h := f27 (zN x) (zL x) y (len_zL' _) (ok32_zL _) h0 h1
  rw [zOf_z hx, valid_zz, gR_true rfl] at h
  exact h
theorem c44 (hx : inB x = true) (h0 : 0 ≤ x) : VF Tryz.prog 39 [iB x] (.tup [iB (isq x), boolB (decide (isq x * isq x = x)), numB .i64 0]) := by
  have h := f44 (zN x) (zL x) (len_zL' _) (ok32_zL _)
  rw [zOf_z hx, valid_zz] at h
  have e1 : sqOk true x = true := by simp [sqOk, h0]
  simp only [sqR, e1, sqB, gN, gL, Bool.true_and, if_true] at h
  rw [sqE_pos rfl h0] at h
  exact h
theorem c22 (hx : inB x = true) : VF Tryz.prog 43 [iB x] (.tup [.lit (.string (txB x)), numB .i64 0]) := by
  have h := f22 (zN x) (zL x) (len_zL' _) (ok32_zL _)
  rw [zOf_z hx, valid_zz, tS_true rfl, tE_true rfl] at h
  exact h
end
/-- An integer that is valid, by its number. -/
theorem as_z {n : Bool} {A : List Int} (oA : ok32 A) (h : validB n A = true) : ∃ z : Int, n = zN z ∧ A = zL z ∧ inB z = true :=
  ⟨zOf n A, (z_of oA h).1.symm, (z_of oA h).2.symm, in_of_valid oA h⟩
theorem zL_nil {z : Int} (h : inB z = true) : (zL z).length = 0 ↔ z = 0 := by
  constructor
  · intro h0
    apply Classical.byContradiction
    intro hz
    have := zOf_z h
    rw [show zL z = [] from List.eq_nil_of_length_eq_zero h0] at this
    simp [zOf, sg, val] at this
    exact hz this.symm
  · rintro rfl
    have : zL 0 = [] := by simp [zL, in_zero, dg, dgN_zero]
    rw [this]; rfl
end Go.VL

/- Plain laws of rationals: numerators and denominators in lowest terms. No program. -/
set_option linter.unusedVariables false
set_option linter.unusedSimpArgs false
namespace Go.VL
abbrev qB (p q : Int) : B := .agg [boolB (zN p), u32S (zL p), boolB (zN q), u32S (zL q)]
abbrev ratB (n : Bool) (A : List Int) (m : Bool) (D : List Int) : B := .agg [boolB n, u32S A, boolB m, u32S D]
theorem retQ {p q p' q' : Int} (hp : p' = p) (hq : q' = q) : qB p' q' = oneB [qB p q] := by subst hp; subst hq; rfl
theorem retZ {p p' : Int} (hp : p' = p) : iB p' = oneB [iB p] := by subst hp; rfl
theorem zB_zero : iB 0 = intB false [] := by
  have h1 : zN 0 = false := by simp [zN]
  have h2 : zL 0 = [] := by simp [zL, in_zero, dg, dgN_zero]
  simp only [iB, h1, h2]
theorem in_neg (z : Int) : inB (-z) = inB z := by unfold inB; rw [Int.natAbs_neg]
theorem zL_neg (z : Int) : zL (-z) = zL z := by unfold zL; rw [in_neg, Int.natAbs_neg]
theorem zN_neg {z : Int} (h : (zL z).length ≠ 0) : zN (-z) = !zN z := by
  have hz : inB z = true := by
    cases h' : inB z with
    | true => rfl
    | false => rw [(z_big h').2] at h; exact absurd rfl h
  have h0 : z ≠ 0 := fun e => h ((zL_nil hz).2 e)
  unfold zN
  rw [in_neg, hz]
  simp only [Bool.true_and]
  by_cases h1 : z < 0
  · rw [decide_eq_true h1, decide_eq_false (by omega)]; rfl
  · rw [decide_eq_false h1, decide_eq_true (by omega)]; rfl
theorem iB_nil {z : Int} (h : ((zL z).length : Int) = 0) : iB (-z) = intB false [] := by
  have h0 : (zL z).length = 0 := by omega
  cases h' : inB z with
  | true => rw [(zL_nil h').1 h0, Int.neg_zero]; exact zB_zero
  | false =>
    have := z_big (show inB (-z) = false by rw [in_neg]; exact h')
    simp only [iB, this.1, this.2]
theorem negR {z : Int} (h : ((zL z).length : Int) ≠ 0) : iB (-z) = oneB [.agg [boolB (!zN z), u32S (zL z)]] := by
  have h0 : (zL z).length ≠ 0 := by omega
  simp only [iB, zL_neg, zN_neg h0]; rfl
/-- Is it one? -/
def oneZ (n : Bool) (A : List Int) : Bool := !n && ((A.length : Int) == 1) && (A.getD 0 0 == 1)
theorem one_z {z : Int} (h : inB z = true) : oneZ (zN z) (zL z) = decide (z = 1) := by
  have e1 : zN 1 = false ∧ zL 1 = [1] := by
    refine ⟨by simp [zN], ?_⟩
    simp only [zL, in_one, if_true]
    decide +kernel
  by_cases h1 : z = 1
  · subst h1
    rw [e1.1, e1.2]; rfl
  · rw [decide_eq_false h1]
    cases hq : oneZ (zN z) (zL z) with
    | false => rfl
    | true =>
      exfalso
      unfold oneZ at hq
      simp only [Bool.and_eq_true, Bool.not_eq_true', beq_iff_eq] at hq
      obtain ⟨⟨h2, h3⟩, h4⟩ := hq
      have h5 := zOf_z h
      have h6 : zL z = [1] := by
        match hl : zL z with
        | [] => rw [hl] at h3; simp at h3
        | [a] => rw [hl] at h4; simp at h4; rw [h4]
        | a :: b :: r => rw [hl] at h3; simp at h3; omega
      rw [h2, h6] at h5
      simp [zOf, sg, val] at h5
      exact h1 h5.symm
theorem nil_z {z : Int} (h : inB z = true) : (((zL z).length : Int) == 0) = decide (z = 0) := by
  have := zL_nil h
  by_cases h0 : z = 0
  · rw [decide_eq_true h0, beq_yes]; have := this.2 h0; omega
  · rw [decide_eq_false h0, beq_no]; intro e; exact h0 (this.1 (by omega))

/-- In lowest terms. -/
def rdG (x y : Int) : Int := ((Int.gcd x y : Nat) : Int)
def rdS (x y : Int) : Int := if y < 0 then -x else x
def rdN (x y : Int) : Int := (rdS x y).fdiv (rdG x y)
def rdD (x y : Int) : Int := (rdS y y).fdiv (rdG x y)
theorem gcd_neg2 (x y : Int) : ((Int.gcd (-x) (-y) : Nat) : Int) = rdG x y := by unfold rdG; rw [Int.gcd_neg, Int.neg_gcd]
theorem rd_one {x y : Int} (hg : rdG x y = 1) : rdN x y = rdS x y ∧ rdD x y = rdS y y := by
  unfold rdN rdD
  rw [hg]
  simp
/-- A valid number. -/
def okR (p q : Int) : Prop := 0 < q ∧ Int.gcd p q = 1 ∧ inB p = true ∧ inB q = true
def vR (n : Bool) (A : List Int) (m : Bool) (D : List Int) : Bool := validB n A && validB m D && decide (0 < zOf m D ∧ Int.gcd (zOf n A) (zOf m D) = 1)
theorem vR_z {x y : Int} (hx : inB x = true) (hy : inB y = true) : vR (zN x) (zL x) (zN y) (zL y) = decide (0 < y ∧ Int.gcd x y = 1) := by
  unfold vR
  rw [valid_zz, valid_zz, zOf_z hx, zOf_z hy]; rfl
theorem vR_ok {p q : Int} (h : okR p q) : vR (zN p) (zL p) (zN q) (zL q) = true := by
  rw [vR_z h.2.2.1 h.2.2.2]; exact decide_eq_true ⟨h.1, h.2.1⟩
theorem as_q {n : Bool} {A : List Int} {m : Bool} {D : List Int} (oA : ok32 A) (oD : ok32 D) (h : vR n A m D = true) : ∃ p q : Int, n = zN p ∧ A = zL p ∧ m = zN q ∧ D = zL q ∧ okR p q := by
  unfold vR at h
  rw [Bool.and_eq_true, Bool.and_eq_true] at h
  obtain ⟨⟨h1, h2⟩, h34⟩ := h
  have h5 := of_decide_eq_true h34
  obtain ⟨p, e1, e2, hp⟩ := as_z oA h1
  obtain ⟨q, e3, e4, hq⟩ := as_z oD h2
  rw [e1, e2, e3, e4, zOf_z hp, zOf_z hq] at h5
  exact ⟨p, q, e1, e2, e3, e4, h5.1, h5.2, hp, hq⟩
theorem zN_lt {z : Int} (h : zN z = true) : z < 0 := by
  unfold zN at h
  rw [Bool.and_eq_true] at h
  exact of_decide_eq_true h.2
theorem zN_ge {z : Int} (hz : inB z = true) (h : zN z = false) : ¬ z < 0 := fun hc => by
  unfold zN at h
  rw [hz, decide_eq_true hc] at h
  cases h
theorem zN_no {z : Int} (h : ¬ z < 0) : zN z = false := by unfold zN; rw [decide_eq_false h, Bool.and_false]
theorem zN_yes {z : Int} (hz : inB z = true) (h : z < 0) : zN z = true := by unfold zN; rw [hz, decide_eq_true h]; rfl
theorem rdG_in {x y : Int} (hx : inB x = true) (hy : inB y = true) : inB (rdG x y) = true := gcd_in hx hy
theorem rdG_ne (x : Int) {y : Int} (h : y ≠ 0) : rdG x y ≠ 0 := gcd_pos h
theorem qB_zero : qB 0 0 = ratB false [] false [] := by
  have h1 : zN 0 = false := by simp [zN]
  have h2 : zL 0 = [] := by simp [zL, in_zero, dg, dgN_zero]
  simp only [qB, h1, h2]
section
variable {x y : Int}
theorem rdR1 (h : y < 0) : qB (rdN x y) (rdD x y) = oneB [qB ((-x).fdiv (rdG x y)) ((-y).fdiv (rdG x y))] := retQ (by simp only [rdN, rdS, if_pos h]) (by simp only [rdD, rdS, if_pos h])
theorem rdR2 (h : y < 0) (hg : rdG x y = 1) : qB (rdN x y) (rdD x y) = oneB [qB (-x) (-y)] := retQ (by rw [(rd_one hg).1, rdS, if_pos h]) (by rw [(rd_one hg).2, rdS, if_pos h])
theorem rdR3 (h : ¬ y < 0) : qB (rdN x y) (rdD x y) = oneB [qB (x.fdiv (rdG x y)) (y.fdiv (rdG x y))] := retQ (by simp only [rdN, rdS, if_neg h]) (by simp only [rdD, rdS, if_neg h])
theorem rdR4 (h : ¬ y < 0) (hg : rdG x y = 1) : qB (rdN x y) (rdD x y) = oneB [qB x y] := retQ (by rw [(rd_one hg).1, rdS, if_neg h]) (by rw [(rd_one hg).2, rdS, if_neg h])
theorem rvF (h : ¬ 0 < y) : boolB (decide (0 < y ∧ Int.gcd x y = 1)) = oneB [boolB false] := by rw [decide_eq_false (fun hc => h hc.1)]; rfl
theorem rv1 (h : y = 1) : boolB (decide (0 < y ∧ Int.gcd x y = 1)) = oneB [boolB true] := by
  rw [decide_eq_true]; rfl
  subst h
  exact ⟨by omega, by simp⟩
theorem rvG (h : 0 < y) : boolB (decide (0 < y ∧ Int.gcd x y = 1)) = oneB [boolB (decide (rdG x y = 1))] := by
  show _ = boolB (decide (rdG x y = 1))
  congr 3
  apply propext
  unfold rdG
  constructor
  · rintro ⟨_, h2⟩; omega
  · intro h2; exact ⟨h, by omega⟩
end
def mkN (x y : Int) : Int := if y = 0 then 0 else rdN x y
def mkD (x y : Int) : Int := if y = 0 then 0 else rdD x y
def mkE (y : Int) : Int := if y = 0 then 4 else 0
abbrev rR (p q e : Int) : B := .tup [qB p q, numB .i64 e]
theorem mkR0 {x y : Int} (h : y = 0) : rR (mkN x y) (mkD x y) (mkE y) = oneB [ratB false [] false [], numB .i64 4] := by
  simp only [mkN, mkD, mkE, if_pos h, rR, qB_zero]; rfl
theorem mkR1 {x y : Int} (h : y ≠ 0) : rR (mkN x y) (mkD x y) (mkE y) = oneB [qB (rdN x y) (rdD x y), numB .i64 0] := by
  simp only [mkN, mkD, mkE, if_neg h, rR]; rfl
end Go.VL
