/- A small program logic over the translated Go code, plain laws, and walks over the functions: several texts in one. No condition. -/
import Derived.DataElems
import Derived.KernelRfl
import Derived.LoopIn
import Derived.LoopNIn
import Derived.OwnWalkIn
import Derived.RangeFuncBox
import Derived.RangeFuncLeaves
import Derived.RangeFuncNested
import Derived.Shelf.Abstract
import Derived.TacticsInMore
import Derived.Test.YtpoolpppmgacnaaProg
import Derived.WalkKit
import Derived.Test.YtpoolpppmgacnaaK2
/- Short steps for rows that may be nil, rows whose room is known, arrays, calls that are given nil. -/
set_option linter.unusedVariables false
set_option linter.unusedSimpArgs false
namespace Go.VL
open Go.RowKit

/-- What is given to a call, nil as such. -/
def evN (s : Slots) : Operand → Option V
  | .const (.slice none 0 0) => some (.b .nil)
  | x => ev s x
def evsN (s : Slots) : List Operand → Option (List V)
  | [] => some []
  | x :: r => match evN s x, evsN s r with
    | some v, some vs => some (v :: vs)
    | _, _ => none
section
variable {P : Program} {w0 W W1 : World} {P0 F : Nat → Prop} {E0 E E1 : Env} {pl0 pl pl1 : Plan} {N : Frm} {id : Nat} {s s' : Slots} {a : Act} {o : Oper} {K : Act → World → Prop} {Qx : Exit → Act → World → Prop}
theorem Sim.evN (S : Sim w0 P0 E0 pl0 N E pl s a W) {x : Operand} {v : V} (h : Go.VL.evN s x = some v) : Rep W (Qf (FF w0 P0) E pl) pl v (a.eval x) := by
  unfold Go.VL.evN at h
  split at h
  · injection h with h; subst h; exact RepB.nil
  · exact S.ev h
theorem evsN_get : ∀ {xs : List Operand} {vs : List V}, evsN s xs = some vs → vs.length = xs.length ∧ ∀ (j : Nat) (v : V), vs[j]? = some v → ∃ x, xs[j]? = some x ∧ evN s x = some v
  | [], vs, h => by
    simp [evsN] at h; subst h
    exact ⟨rfl, fun j x hj => by simp at hj⟩
  | x :: r, vs, h => by
    unfold evsN at h
    split at h
    · rename_i v ws hv hws
      injection h with h; subst h
      obtain ⟨h1, h2⟩ := evsN_get hws
      refine ⟨by simp [h1], fun j y hj => ?_⟩
      cases j with
      | zero => simp at hj; subst hj; exact ⟨x, rfl, hv⟩
      | succ j => exact h2 j y (by simpa using hj)
    · cases h
theorem evN_congr {x : Operand} (h : ev s x = ev s' x) : evN s x = evN s' x := by
  unfold evN; split <;> first | rfl | exact h
theorem evsN_congr : ∀ {xs : List Operand}, (∀ x ∈ xs, ev s x = ev s' x) → evsN s xs = evsN s' xs
  | [], _ => rfl
  | x :: r, h => by
    unfold evsN
    rw [evN_congr (h x (by simp)), evsN_congr (xs := r) (fun y hy => h y (by simp [hy]))]
/-- A call that is given values alone and yields a new entry. -/
theorem Eff.callB {f : FuncId} {args : Array Operand} {ts : Array TypeId} {ys : List B} {r : V} {e0 : Ent} (h : evsN s args.toList = some (ys.map .b)) (hv : VG P f (ys.map .b) [] r [some e0]) :
    Eff P id s E (.call { callee := .value (.func f), args := args, argTypes := ts }) (some (r.ren (nm (fun i => i) 0 id))) [(id, some (e0.ren (nm (fun i => i) 0 id)))] :=
  .sem _ _ _ fun s' E' k1 k2 w0 W P0 E0 pl0 pl N a o K Qx ho S hf hK => by
    have h' : evsN s' args.toList = some (ys.map .b) := by rw [← evsN_congr (fun x hx => k1 x (by simp [Op.operands, Call.operands]; exact .inr (by simpa using hx)))]; exact h
    obtain ⟨e1, e2⟩ := evsN_get h'
    have hcs : a.eval (.func f) = .func (.func f) #[] #[] := rfl
    unfold Oper.wp
    rw [run_enterV hv.1 hcs ho, Oper.upon_enter]
    have hA : ∀ ys : List B, Args E' (fun i => i) 0 [] (ys.map .b) (ys.map .b) := by
      intro ys
      induction ys with
      | nil => exact .nil
      | cons y ys ih => exact .name _ _ _ _ rfl rfl ih
    refine Calls.mono (hv.call (us := args.map a.eval ++ #[]) (E2 := setAt E' id (some (e0.ren (nm (fun i => i) 0 id)))) (ρ := fun i => i) (nv := []) (n := id) S (.inr (.inr ⟨rfl, hf⟩)) (hA ys) ⟨fun j e he => by simp at he, fun i j hi => by simp at hi⟩ (fun i e he => ?_) (by simp; simpa using e1.symm) (fun j v hj => ?_)) ?_
    · by_cases hi : i = id
      · subst hi
        rw [setAt_self] at he
        injection he with he
        exact .inl ⟨0, e0, rfl, by simp [nm], he.symm⟩
      · rw [setAt_ne _ _ hi] at he
        exact .inr ⟨he, fun j hj => by simp at hj⟩
    · obtain ⟨x, hx1, hx2⟩ := e2 j v hj
      exact ⟨a.eval x, by simp; exact ⟨x, by simpa using hx1, rfl⟩, S.evN hx2⟩
    · rintro e W' ⟨u, pl2, rfl, S2, q1, q2, q3⟩
      exact hK u pl2 W' S2 (fun i hi hn => q2 (Nat.le_refl _) i hi hn) q3
end
section
variable {P : Program} {ops : Array Oper} {o : Oper} {n n' : Nat} {s s' : Slots} {E E' : Env} {d i : Nat} {v w u : V} {x y z p ix : Operand} {T T' T2 el m off k sz c : Nat} {ik ik' : IntKind} {e : Ent} {L D : List Int} {j : Int}
theorem Mg (q sz : Nat) (h : (runs ops s o.guard, o.dst, o.op, ev s x, n) = (some true, some d, .move x, some v, q)) (h0 : 0 < sz := by decide) : Stp P ops o n s E (q + 1) (setAt s d (some v)) (setAt E q (some ⟨sz, [], true⟩)) [q] := by
  simp only [Prod.mk.injEq] at h; obtain ⟨h1, h2, h3, h4, rfl⟩ := h; exact st1 h1 h2 (h3 ▸ Eff.moveG h4 h0)
theorem Nr (q sz : Nat) (h : (runs ops s o.guard, o.dst, o.op, n) = (some true, some d, .assign (.const (.slice none 0 0)), q)) (h0 : 0 < sz := by decide) : Stp P ops o n s E (q + 1) (setAt s d (some (.row q 0 none))) (setAt E q (some ⟨sz, [], true⟩)) [q] := by
  simp only [Prod.mk.injEq] at h; obtain ⟨h1, h2, h3, rfl⟩ := h; exact st1 h1 h2 (h3 ▸ Eff.nilRow h0)
/-- Rows of numbers. -/
theorem Ar (q : Nat) {by' : Nat} (K : SlT P T el (numB ik 0) by') (h : (runs ops s o.guard, o.dst, o.op, ev s x, E i, ev s y, n) = (some true, some d, .call { callee := .builtin .append, args := #[x, y], argTypes := #[T, T] }, some (.row i m none), some (rowK ik D), some w, q)) (hr : res E w = some (slK ik L)) (hl : D.length = m := by first | omega | (simp; done) | (simp; omega))
    (hm : (m + L.length) * by' ≤ 140737488355328 ∧ m + L.length ≤ maxLen := by first | (simp [maxLen]; done) | (simp [maxLen]; omega) | (simp only [maxLen]; omega)) :
    Stp P ops o n s E (q + 1) (setAt s d (some (.row q (m + L.length) none))) (setAt (setAt E i none) q (some (rowK ik (D ++ L)))) [i, q] := by
  simp only [Prod.mk.injEq] at h; obtain ⟨h1, h2, h3, h4, h5, h6, rfl⟩ := h
  have := Eff.appendRowL (id := n) (E := E) h4 h5 rfl rfl (by simp [rowK, hl]) h6 hr K.u K.s K.b (by rw [K.z]; rfl) (by simpa using hm.1) (by simpa using hm.2) (by rw [List.all_map]; simp [B.isLit])
  have e1 : (⟨1, (rowK ik D).cells ++ (L.map (numB ik)).map .b, true⟩ : Ent) = rowK ik (D ++ L) := by simp [rowK]
  rw [List.length_map, e1] at this
  exact st2 h1 h2 (h3 ▸ this)
/-- The same where the room is known. -/
theorem Ac1 (q : Nat) {by' : Nat} (K : SlT P T el (numB ik 0) by') (h : (runs ops s o.guard, o.dst, o.op, ev s x, E i, ev s y, n) = (some true, some d, .call { callee := .builtin .append, args := #[x, y], argTypes := #[T, T] }, some (.row i m (some c)), some (rowK ik D), some w, q)) (hr : res E w = some (slK ik L)) (hc : m + L.length ≤ c := by first | omega | (simp; done) | (simp; omega)) (hl : D.length = m := by first | omega | (simp; done) | (simp; omega))
    (hm : (m + L.length) * by' ≤ 140737488355328 ∧ m + L.length ≤ maxLen := by first | (simp [maxLen]; done) | (simp [maxLen]; omega) | (simp only [maxLen]; omega)) :
    Stp P ops o n s E (q + 1) (setAt s d (some (.row q (m + L.length) (some c)))) (setAt (setAt E i none) q (some (rowK ik (D ++ L)))) [i, q] := by
  simp only [Prod.mk.injEq] at h; obtain ⟨h1, h2, h3, h4, h5, h6, rfl⟩ := h
  have := Eff.appendCap (id := n) (E := E) h4 h5 rfl rfl (by simp [rowK, hl]) h6 hr (by simpa using hc) K.u K.s K.b (by rw [K.z]; rfl) (by simpa using hm.1) (by simpa using hm.2) (by rw [List.all_map]; simp [B.isLit])
  have e1 : (⟨1, (rowK ik D).cells ++ (L.map (numB ik)).map .b, true⟩ : Ent) = rowK ik (D ++ L) := by simp [rowK]
  rw [List.length_map, e1] at this
  exact st2 h1 h2 (h3 ▸ this)
theorem Az (q : Nat) (K : SlT P T el (numB ik 0) 1) (hu : P.underlying T' = some (.int ik')) (h : (runs ops s o.guard, o.dst, o.op, ev s x, E i, ev s y, n) = (some true, some d, .call { callee := .builtin .append, args := #[x, y], argTypes := #[T, T'] }, some (.row i m (some c)), some (rowK ik D), some (vI .i64 j), q)) (h0 : 0 ≤ j := by first | omega | (simp; done) | (simp; omega))
    (hc : m + j ≤ c := by first | omega | (simp; done) | (simp; omega)) (hl : D.length = m := by first | omega | (simp; done) | (simp; omega)) (hm : c ≤ 140737488355328 := by first | omega | (simp; done) | (simp; omega)) :
    Stp P ops o n s E (q + 1) (setAt s d (some (.row q (m + j.toNat) (some c)))) (setAt (setAt E i none) q (some (rowK ik (D ++ List.replicate j.toNat 0)))) [i, q] := by
  simp only [Prod.mk.injEq] at h; obtain ⟨h1, h2, h3, h4, h5, h6, rfl⟩ := h
  have := Eff.appendZ (id := n) (E := E) h4 h5 rfl rfl (by simp [rowK, hl]) h6 h0 hc K.u hu K.s K.b K.z hm rfl
  have e1 : (⟨1, (rowK ik D).cells ++ (List.replicate j.toNat (numB ik 0)).map .b, true⟩ : Ent) = rowK ik (D ++ List.replicate j.toNat 0) := by simp [rowK]
  rw [e1] at this
  exact st2 h1 h2 (h3 ▸ this)
theorem Mc (q : Nat) {by' : Nat} (K : SlT P T el (numB ik 0) by') (h : (runs ops s o.guard, o.dst, o.op, ev s x, ev s y, n, Nat.ble by' 8) = (some true, some d, .makeSlice T x y, some (vI .i64 0), some (vI .i64 j), q, true)) (h0 : 0 ≤ j := by first | omega | (simp; done) | (simp; omega)) (h1 : j ≤ 1000000000000 := by first | omega | (simp; done) | (simp; omega)) :
    Stp P ops o n s E (q + 1) (setAt s d (some (.row q 0 (some j.toNat)))) (setAt E q (some (rowK ik []))) [q] := by
  simp only [Prod.mk.injEq] at h; obtain ⟨a, b, c, e, f, rfl, g⟩ := h
  have g := Nat.le_of_ble_eq_true g
  have hm : (by' : Int) * j ≤ 8 * 1000000000000 := Int.le_trans (Int.mul_le_mul_of_nonneg_right (show (by' : Int) ≤ 8 by omega) h0) (by omega)
  exact st1 a b (c ▸ Eff.makeCap (id := n) (E := E) e f K.u K.z K.s K.b (by simp) h0 (by omega) (by omega))
theorem Cq (hu : P.underlying T = some (.slice el)) (h : (runs ops s o.guard, o.dst, o.op, ev s x) = (some true, some d, .call { callee := .builtin .cap, args := #[x], argTypes := #[T] }, some (.row i m (some c)))) : Stp P ops o n s E (n + 1) (setAt s d (some (vI .i64 c))) E [] := by
  simp only [Prod.mk.injEq] at h; exact st0 h.1 h.2.1 (h.2.2.1 ▸ Eff.capRow h.2.2.2 hu)
/-- Rows by their contents. -/
theorem Rq {q : Option Nat} (he : E i = some (rowK ik L)) (hl : L.length = m := by first | omega | (simp; done) | (simp; omega) | (simp [*]; done) | (simp [*]; omega)) : res E (.row i m q) = some (slK ik L) := res_rowK he hl
theorem res_rowTq {α : Type} {f : α → List B} {A : List α} {q : Option Nat} (hf : ∀ x, (f x).length = sz) (he : E i = some (rowT sz f A)) (hl : A.length = m) : res E (.row i m q) = some (slT sz f A) := res_rowT hf he hl
/-- Elements of arrays. -/
theorem Ia (hu : P.underlying T = some (.array m el)) (hs : szOf P el = some 1) (h : (runs ops s o.guard, o.dst, o.op, ev s x, ev s y) = (some true, some d, .indexAddr T x y, some (.ptr i off), some (vI ik' j))) (h0 : 0 ≤ j := by first | omega | (simp; done) | (simp; omega)) (h1 : j < m := by first | omega | (simp; done) | (simp; omega)) :
    Stp P ops o n s E (n + 1) (setAt s d (some (.ptr i (off + j.toNat)))) E [] := by
  simp only [Prod.mk.injEq] at h
  have := Eff.indexArr (P := P) (id := n) (E := E) h.2.2.2.1 h.2.2.2.2 hu hs h0 h1
  rw [Nat.mul_one] at this
  exact st0 h.1 h.2.1 (h.2.2.1 ▸ this)
/-- Elements of rows that may be nil. -/
theorem Iqr {z' : B} {by' : Nat} {c : Option Nat} (K : SlT P T el z' by') (h : (runs ops s o.guard, o.dst, o.op, ev s x, ev s y) = (some true, some d, .indexAddr T x y, some (.row i m c), some (vI ik' j))) (h0 : 0 ≤ j := by first | omega | (simp; done) | (simp; omega)) (h1 : j < m := by first | omega | (simp; done) | (simp; omega)) :
    Stp P ops o n s E (n + 1) (setAt s d (some (.ptr i j.toNat))) E [] := by
  simp only [Prod.mk.injEq] at h
  have := Eff.indexRowQ (P := P) (id := n) (E := E) h.2.2.2.1 h.2.2.2.2 K.u K.s h0 h1
  rw [Nat.mul_one] at this
  exact st0 h.1 h.2.1 (h.2.2.1 ▸ this)
theorem ITq (hu : P.underlying T = some (.slice el)) (hs : szOf P el = some sz) {c : Option Nat} (h : (runs ops s o.guard, o.dst, o.op, ev s x, ev s y) = (some true, some d, .indexAddr T x y, some (.row i m c), some (vI ik' j))) (h0 : 0 ≤ j := by first | omega | (simp; done) | (simp; omega)) (h1 : j < m := by first | omega | (simp; done) | (simp; omega)) :
    Stp P ops o n s E (n + 1) (setAt s d (some (.ptr i (j.toNat * sz)))) E [] := by
  simp only [Prod.mk.injEq] at h
  exact st0 h.1 h.2.1 (h.2.2.1 ▸ Eff.indexRowQ (P := P) (id := n) (E := E) h.2.2.2.1 h.2.2.2.2 hu hs h0 h1)
/-- A slice with elements is not nil. -/
theorem Ne1 {l : List B} (hu : P.underlying T = some (.slice el)) (h : (runs ops s o.guard, o.dst, o.op, ev s x) = (some true, some d, .binOp .eql T x (.const (.slice none 0 0)) T', some (.b (.sl sz l)))) (hl : l ≠ []) : Stp P ops o n s E (n + 1) (setAt s d (some (vB false))) E [] := by
  simp only [Prod.mk.injEq] at h; exact st0 h.1 h.2.1 (h.2.2.1 ▸ Eff.notNilV (eq := true) h.2.2.2 hl hu)
theorem Ne2 {l : List B} (hu : P.underlying T = some (.slice el)) (h : (runs ops s o.guard, o.dst, o.op, ev s x) = (some true, some d, .binOp .neq T x (.const (.slice none 0 0)) T', some (.b (.sl sz l)))) (hl : l ≠ []) : Stp P ops o n s E (n + 1) (setAt s d (some (vB true))) E [] := by
  simp only [Prod.mk.injEq] at h; exact st0 h.1 h.2.1 (h.2.2.1 ▸ Eff.notNilV (eq := false) h.2.2.2 hl hu)
/-- A call that is given values alone, nil as such, and yields a new entry. -/
theorem Cb (q : Nat) {f : FuncId} {args : Array Operand} {ts : Array TypeId} (ys : List B) {r : V} {e0 e1 : Ent} (h : (runs ops s o.guard, o.dst, o.op, evsN s args.toList, n, r.ren (nm (fun i => i) 0 q)) = (some true, some d, .call { callee := .value (.func f), args := args, argTypes := ts }, some (ys.map .b), q, v)) (hv : VG P f (ys.map .b) [] r [some e0]) (he : e0.ren (nm (fun i => i) 0 q) = e1) :
    Stp P ops o n s E (q + 1) (setAt s d (some v)) (setAt E q (some e1)) [q] := by
  simp only [Prod.mk.injEq] at h; obtain ⟨h1, h2, h3, h4, rfl, rfl⟩ := h; subst he; exact st1 h1 h2 (h3 ▸ Eff.callB h4 hv)
/-- Rows of structs, one more. -/
theorem Aq1 {α : Type} {f : α → List B} {A : List α} (q : Nat) {by' i2 : Nat} {e2 : Ent} (hu : P.underlying T = some (.slice el)) (hs : szOf P el = some sz) (hb : (P.info? el).map (·.bytes) = some by') (hz : (zeroOf P el).map List.length = some sz) {x1 : α}
    (h : (runs ops s o.guard, o.dst, o.op, ev s x, E i, ev s y, E i2, e2.cells, e2.sz, n) = (some true, some d, .call { callee := .builtin .append, args := #[x, y], argTypes := #[T, T] }, some (.row i m none), some (rowT sz f A), some (.own i2 1), some e2, (f x1).map .b, sz, q)) (hf : ∀ x, (f x).length = sz)
    (hl : A.length = m := by first | omega | (simp; done) | (simp; omega)) (hm : (m + 1) * by' ≤ 140737488355328 ∧ m + 1 ≤ maxLen := by first | (simp [maxLen]; done) | (simp [maxLen]; omega) | (simp only [maxLen]; omega)) :
    Stp P ops o n s E (q + 1) (setAt s d (some (.row q (m + 1) none))) (setAt (setAt E i none) q (some (rowT sz f (A ++ [x1])))) [i, q] := by
  simp only [Prod.mk.injEq] at h; obtain ⟨h1, h2, h3, h4, h5, h6, h7, h8, h9, rfl⟩ := h
  have hl2 : e2.cells.length = sz := by rw [h8, List.length_map, hf]
  have := Eff.appendRowO (P := P) (id := n) (E := E) h4 h5 rfl (by simp only [rowT, List.length_map, cellsT_len hf, hl]) h6 (.inl rfl) h7 h9 (by show 1 * sz ≤ _; rw [Nat.one_mul, hl2]; exact Nat.le_refl _) hu hs hb hz hm.1 hm.2
  have e : (⟨(rowT sz f A).sz, (rowT sz f A).cells ++ e2.cells.take (1 * (rowT sz f A).sz), true⟩ : Ent) = rowT sz f (A ++ [x1]) := by
    have h11 : e2.cells.take (1 * sz) = (f x1).map .b := by rw [Nat.one_mul, List.take_of_length_le (by rw [hl2]; exact Nat.le_refl _), h8]
    show (⟨sz, (cellsT f A).map .b ++ e2.cells.take (1 * sz), true⟩ : Ent) = _
    rw [h11]
    simp [rowT, cellsT]
  rw [e] at this
  exact st2 h1 h2 (h3 ▸ this)
/-- The same by value. -/
theorem AqV {α : Type} {f : α → List B} {A A' : List α} (q : Nat) {by' : Nat} (hu : P.underlying T = some (.slice el)) (hs : szOf P el = some sz) (hb : (P.info? el).map (·.bytes) = some by') (hz : (zeroOf P el).map List.length = some sz)
    (h : (runs ops s o.guard, o.dst, o.op, ev s x, E i, ev s y, n) = (some true, some d, .call { callee := .builtin .append, args := #[x, y], argTypes := #[T, T] }, some (.row i m none), some (rowT sz f A), some (.b (slT sz f A')), q)) (hf : ∀ x, (f x).length = sz) (h0 : 0 < sz := by decide)
    (hl : A.length = m := by first | omega | (simp; done) | (simp; omega)) (hm : (m + A'.length) * by' ≤ 140737488355328 ∧ m + A'.length ≤ maxLen := by first | (simp [maxLen]; done) | (simp [maxLen]; omega) | (simp only [maxLen]; omega)) :
    Stp P ops o n s E (q + 1) (setAt s d (some (.row q (m + A'.length) none))) (setAt (setAt E i none) q (some (rowT sz f (A ++ A')))) [i, q] := by
  simp only [Prod.mk.injEq] at h; obtain ⟨h1, h2, h3, h4, h5, h6, rfl⟩ := h
  have := Eff.appendRowV (P := P) (id := n) (E := E) (e := rowT sz f A) (l := cellsT f A') (m := A'.length) h4 h5 rfl (by simp only [rowT, List.length_map, cellsT_len hf, hl]) h6 (cellsT_len hf A') h0 hu hs hb hz hm.1 hm.2
  have e : (⟨(rowT sz f A).sz, (rowT sz f A).cells ++ (cellsT f A').map .b, true⟩ : Ent) = rowT sz f (A ++ A') := by
    show (⟨sz, (cellsT f A).map .b ++ (cellsT f A').map .b, true⟩ : Ent) = _
    simp [rowT, cellsT]
  rw [e] at this
  exact st2 h1 h2 (h3 ▸ this)
theorem cv_rw {q : Option Nat} (he : E i = some { rowK ik L with hot := false }) (hl : L.length = m) : ConvV E (.row i m q) (.b (slK ik L)) := by
  rcases (cv_own he hl : ConvV E (.own i m) _) with h | ⟨b, h1, h2, h3⟩ | ⟨h, _⟩ | h
  · cases h
  · exact .inr (.inl ⟨b, h1, h2, h3⟩)
  · cases h
  · exact h.elim
theorem cv_rwT {α : Type} {f : α → List B} {A : List α} {q : Option Nat} (hf : ∀ x, (f x).length = sz) (he : E i = some { rowT sz f A with hot := false }) (hl : A.length = m) : ConvV E (.row i m q) (.b (slT sz f A)) := by
  rcases (cv_ownT hf he hl : ConvV E (.own i m) _) with h | ⟨b, h1, h2, h3⟩ | ⟨h, _⟩ | h
  · cases h
  · exact .inr (.inl ⟨b, h1, h2, h3⟩)
  · cases h
  · exact h.elim
/-- Values told by less. -/
theorem cv_own' {i n : Nat} : ConvV E (.own i n) (.row i n none) := .inr (.inr (.inr ⟨rfl, rfl⟩))
theorem cv_nil' {i : Nat} : ConvV E (.b .nil) (.row i 0 none) := .inr (.inr (.inr rfl))
theorem cv_cap' {i n c : Nat} : ConvV E (.row i n (some c)) (.row i n none) := .inr (.inr (.inr ⟨rfl, rfl⟩))
theorem cv_capO {i n c : Nat} : ConvV E (.row i n (some c)) (.own i n) := .inr (.inr (.inr ⟨rfl, rfl⟩))
end
end Go.VL

/- Arrays of numbers: an entry that holds one, and short steps. -/
set_option linter.unusedVariables false
set_option linter.unusedSimpArgs false
namespace Go.VL
open Go.RowKit

def aL (k : IntKind) (L : List Int) : List V := L.map fun x => .b (numB k x)
/-- An entry that is an array of n numbers. -/
def arrK (k : IntKind) (n : Nat) (L : List Int) : Ent := ⟨n, aL k L, true⟩
abbrev agK (k : IntKind) (L : List Int) : B := .agg (L.map (numB k))
theorem aL_len {k : IntKind} {L : List Int} : (aL k L).length = L.length := by simp [aL]
theorem bs_aL {k : IntKind} : ∀ {L : List Int}, bs (aL k L) = some (L.map (numB k))
  | [] => rfl
  | x :: r => by simp only [aL, List.map_cons, bs]; have := bs_aL (k := k) (L := r); simp only [aL] at this; rw [this]; rfl
theorem resLs_aL {E : Env} {k : IntKind} : ∀ {L : List Int}, resLs E (aL k L) = some (L.map (numB k))
  | [] => rfl
  | x :: r => by simp only [aL, List.map_cons, resLs, resL]; have := resLs_aL (E := E) (k := k) (L := r); simp only [aL] at this; rw [this]
theorem res_aL {E : Env} {k : IntKind} {L : List Int} : res E (.agg (aL k L)) = some (agK k L) := by simp only [res, resLs_aL]; rfl
theorem arr_ren {k : IntKind} {n : Nat} {L : List Int} {ρ : Nat → Nat} : (arrK k n L).ren ρ = arrK k n L := by
  simp only [arrK, Ent.ren, aL, List.map_map]; rfl
theorem arr_cells {k : IntKind} {n n1 : Nat} {L : List Int} : ∀ v ∈ (arrK k n L).cells, v.all1.all (fun i => decide (i < n1)) = true := fun v hv => by
  simp only [arrK, aL, List.mem_map] at hv
  obtain ⟨x, _, rfl⟩ := hv
  rfl
theorem arr_ren' {k : IntKind} {n : Nat} {L : List Int} {ρ : Nat → Nat} : some (arrK k n L) = some ((arrK k n L).ren ρ) := by rw [arr_ren]
/-- Less is told, with arrays. -/
theorem Wa {k n1 : Nat} {s : Slots} {E : Env} {S1 : List (Nat × V)} {L1 : List (Nat × Ent)} (l : List (Nat × Nat))
    (hlow : (List.range k).all (fun i => rl l i == i) = true := by rfl) (hinj : (L1.map (·.1)).all (fun i => (L1.map (·.1)).all fun j => !(rl l i == rl l j) || i == j) = true := by rfl)
    (h1 : AllS (fun t x => s t = some (x.ren (rl l)) ∧ x.all.all (fun i => decide (i < n1)) = true) S1 := by repeat' (first | exact trivial | refine ⟨⟨rfl, rfl⟩, ?_⟩))
    (h2 : AllE (fun i e => E (rl l i) = some (e.ren (rl l)) ∧ i < n1 ∧ ∀ v ∈ e.cells, v.all1.all (fun i => decide (i < n1)) = true) L1 := by repeat' (first | exact trivial | refine ⟨⟨by first | exact arr_ren' | exact rowK_ren' | exact rowT_ren' | rfl, Nat.le_of_ble_eq_true rfl, by first | exact arr_cells | exact row_cellsK | exact rowT_cells | exact cells_of rfl⟩, ?_⟩)) (hk : k ≤ n1 := by exact Nat.le_of_ble_eq_true rfl) : Weak k s E n1 (sl S1) (en L1) :=
  Weak.ofR (rl l) hk hlow hinj h1 h2
section
variable {P : Program} {ops : Array Oper} {o : Oper} {n n' : Nat} {s s' : Slots} {E E' : Env} {d i : Nat} {v w u : V} {x y z p ix : Operand} {T T' T2 el m off k sz c : Nat} {ik ik' : IntKind} {e : Ent} {L D : List Int} {j : Int}
theorem LrA (ha : aggOf P T = some false) (h : (runs ops s o.guard, o.dst, o.op, ev s p, E i) = (some true, some d, .load T p, some (.ptr i off), some (arrK ik m L))) (h1 : off < L.length := by first | omega | (simp; done) | (simp; omega)) : Stp P ops o n s E (n + 1) (setAt s d (some (vI ik (L.getD off 0)))) E [] := by
  simp only [Prod.mk.injEq] at h
  refine st0 h.1 h.2.1 (h.2.2.1 ▸ .load1 _ _ _ _ _ _ h.2.2.2.1 h.2.2.2.2 ha ?_)
  simp only [arrK, aL, List.getElem?_map, List.getElem?_eq_getElem h1, Option.map_some, List.getD_eq_getElem?_getD, Option.getD_some]
theorem SrA (hn : szOf P T = some 1) (h : (runs ops s o.guard, o.dst, o.op, ev s p, E i, ev s x) = (some true, none, .store T p x, some (.ptr i off), some (arrK ik m L), some (vI ik j))) (h1 : off < L.length := by first | omega | (simp; done) | (simp; omega)) :
    Stp P ops o n s E (n + 1) s (setAt E i (some (arrK ik m (L.set off j)))) [i] := by
  simp only [Prod.mk.injEq] at h
  have := Eff.store1 (P := P) (id := n) (E := E) T p x i off (arrK ik m L) (vI ik j) h.2.2.2.1 h.2.2.2.2.1 rfl h.2.2.2.2.2 rfl hn (by simpa [arrK, aL_len] using h1) rfl
  have e : ({ arrK ik m L with cells := (arrK ik m L).cells.set off (vI ik j) } : Ent) = arrK ik m (L.set off j) := by simp only [arrK, aL, List.map_set]
  rw [e] at this
  exact stS h.1 h.2.1 (h.2.2.1 ▸ this)
theorem LdA (ha : aggOf P T = some true) (hs : szOf P T = some m) (h : (runs ops s o.guard, o.dst, o.op, ev s p, E i) = (some true, some d, .load T p, some (.ptr i 0), some (arrK ik m L))) (h1 : L.length = m := by first | omega | (simp; done) | (simp; omega)) : Stp P ops o n s E (n + 1) (setAt s d (some (.agg (aL ik L)))) E [] := by
  simp only [Prod.mk.injEq] at h
  have := Eff.loadS (P := P) (id := n) T p i 0 _ m h.2.2.2.1 h.2.2.2.2 ha hs (by simp [arrK, aL_len, h1])
  have e : (((arrK ik m L).cells.drop 0).take m) = aL ik L := by simp only [arrK, List.drop_zero]; exact List.take_of_length_le (by rw [aL_len]; omega)
  rw [e] at this
  exact st0 h.1 h.2.1 (h.2.2.1 ▸ this)
/-- The whole array is stored. -/
theorem SaA (hs : szOf P T = some m) (h : (runs ops s o.guard, o.dst, o.op, ev s p, E i, ev s x, v.cells, v.noTup) = (some true, none, .store T p x, some (.ptr i 0), some (arrK ik m D), some v, aL ik L, true)) (h1 : L.length = m := by first | omega | (simp; done) | (simp; omega)) (h2 : D.length = m := by first | omega | (simp; done) | (simp; omega)) :
    Stp P ops o n s E (n + 1) s (setAt E i (some (arrK ik m L))) [i] := by
  simp only [Prod.mk.injEq] at h
  obtain ⟨a, b, c, e, f, g, q, t⟩ := h
  have := Eff.store (P := P) (id := n) (E := E) T p x i 0 (arrK ik m D) v e f rfl g (by rw [q, aL_len, h1]; exact hs) (by rw [q, aL_len]; simp [arrK, aL_len]; omega) t
  have e : ({ arrK ik m D with cells := (arrK ik m D).cells.take 0 ++ (v.cells ++ (arrK ik m D).cells.drop (0 + v.cells.length)) } : Ent) = arrK ik m L := by
    rw [q]
    simp only [arrK, List.take_zero, List.nil_append, Nat.zero_add, aL_len]
    rw [List.drop_of_length_le (by rw [aL_len]; omega), List.append_nil]
  rw [e] at this
  exact stS a b (c ▸ this)
theorem SaB (ik : IntKind) (D L : List Int) (hs : szOf P T = some m) (h : (runs ops s o.guard, o.dst, o.op, ev s p, E i, ev s x) = (some true, none, .store T p x, some (.ptr i 0), some (arrK ik m D), some (.b (agK ik L)))) (h1 : L.length = m := by first | omega | (simp; done) | (simp; omega)) (h2 : D.length = m := by first | omega | (simp; done) | (simp; omega)) :
    Stp P ops o n s E (n + 1) s (setAt E i (some (arrK ik m L))) [i] := by
  simp only [Prod.mk.injEq] at h
  obtain ⟨a, b, c, e, f, g⟩ := h
  have q : (V.b (agK ik L)).cells = aL ik L := by simp only [V.cells, aL, List.map_map]; rfl
  exact SaA (v := .b (agK ik L)) (D := D) hs (by simp only [Prod.mk.injEq]; exact ⟨a, b, c, e, f, g, q, rfl⟩) h1 h2
theorem resVar_arr {t : Nat} (hs : s t = some (.ptr i 0)) (he : E i = some (arrK ik m L)) (ha : aggOf P T = some true) (hn : szOf P T = some m) (h1 : L.length = m := by first | omega | (simp; done) | (simp; omega)) : resVar P s E (.cell t T) = some (agK ik L) := by
  refine resVar_cell hs he ha hn (by simp [arrK, aL_len, h1]) ?_
  have e : (((arrK ik m L).cells.drop 0).take m) = aL ik L := by simp only [arrK, List.drop_zero]; exact List.take_of_length_le (by rw [aL_len]; omega)
  rw [e]; exact res_aL
end
end Go.VL

/- A small program logic over the translated Go code, further part: facts of this program's types. -/
set_option linter.unusedVariables false
set_option maxRecDepth 100000
namespace Go.VL
open Go.Proofs
theorem TA4 : aggOf Try.prog 4 = some false := by kernel_rfl
theorem TA5 : aggOf Try.prog 5 = some false := by kernel_rfl
theorem TA59 : aggOf Try.prog 59 = some false := by kernel_rfl
theorem TK27 : SlT Try.prog 27 5 (numB .u8 (0)) 1 := ⟨Try.underlying27, by kernel_rfl, by kernel_rfl, by kernel_rfl⟩
theorem TS5 : szOf Try.prog 5 = some 1 := by kernel_rfl
theorem TS59 : szOf Try.prog 59 = some 1 := by kernel_rfl
theorem TU3 : Try.prog.underlying 3 = some (.int .i64) := Try.underlying3
theorem TU4 : Try.prog.underlying 4 = some .bool := Try.underlying4
theorem TU5 : Try.prog.underlying 5 = some (.int .u8) := Try.underlying5
theorem TU9 : Try.prog.underlying 9 = some .string := Try.underlying9
theorem TU27 : Try.prog.underlying 27 = some (.slice 5) := Try.underlying27
theorem TU59 : Try.prog.underlying 59 = some (.int .u32) := Try.underlying59
end Go.VL

/- A small program logic over the translated Go code, further part: facts of this program's types. -/
set_option linter.unusedVariables false
set_option maxRecDepth 100000
namespace Go.VL
open Go.Proofs
theorem TA3 : aggOf Try.prog 3 = some false := by kernel_rfl
theorem TA22 : aggOf Try.prog 22 = some false := by kernel_rfl
theorem TA23 : aggOf Try.prog 23 = some false := by kernel_rfl
theorem TA27 : aggOf Try.prog 27 = some false := by kernel_rfl
theorem TA29 : aggOf Try.prog 29 = some false := by kernel_rfl
theorem TA31 : aggOf Try.prog 31 = some true := by kernel_rfl
theorem TA39 : aggOf Try.prog 39 = some true := by kernel_rfl
theorem TA43 : aggOf Try.prog 43 = some false := by kernel_rfl
theorem TA62 : aggOf Try.prog 62 = some false := by kernel_rfl
theorem TA74 : aggOf Try.prog 74 = some true := by kernel_rfl
theorem TA86 : aggOf Try.prog 86 = some false := by kernel_rfl
theorem TA91 : aggOf Try.prog 91 = some true := by kernel_rfl
theorem TA93 : aggOf Try.prog 93 = some false := by kernel_rfl
theorem TA99 : aggOf Try.prog 99 = some true := by kernel_rfl
theorem TA100 : aggOf Try.prog 100 = some true := by kernel_rfl
theorem TB4 : (Try.prog.info? 4).map (·.bytes) = some 1 := by kernel_rfl
theorem TB27 : (Try.prog.info? 27).map (·.bytes) = some 24 := by kernel_rfl
theorem TB43 : (Try.prog.info? 43).map (·.bytes) = some 24 := by kernel_rfl
theorem TB91 : (Try.prog.info? 91).map (·.bytes) = some 32 := by kernel_rfl
theorem TB99 : (Try.prog.info? 99).map (·.bytes) = some 32 := by kernel_rfl
theorem TF31_0 : fieldOf Try.prog 31 0 = some (0, 1, false) := by kernel_rfl
theorem TF31_1 : fieldOf Try.prog 31 1 = some (1, 1, false) := by kernel_rfl
theorem TF31_2 : fieldOf Try.prog 31 2 = some (2, 1, false) := by kernel_rfl
theorem TF31_3 : fieldOf Try.prog 31 3 = some (3, 1, false) := by kernel_rfl
theorem TF31_4 : fieldOf Try.prog 31 4 = some (4, 1, false) := by kernel_rfl
theorem TF31_5 : fieldOf Try.prog 31 5 = some (5, 1, false) := by kernel_rfl
theorem TF39_0 : fieldOf Try.prog 39 0 = some (0, 1, false) := by kernel_rfl
theorem TF39_1 : fieldOf Try.prog 39 1 = some (1, 1, false) := by kernel_rfl
theorem TF74_0 : fieldOf Try.prog 74 0 = some (0, 1, false) := by kernel_rfl
theorem TF74_1 : fieldOf Try.prog 74 1 = some (1, 1, false) := by kernel_rfl
theorem TF74_2 : fieldOf Try.prog 74 2 = some (2, 1, false) := by kernel_rfl
theorem TF74_3 : fieldOf Try.prog 74 3 = some (3, 1, false) := by kernel_rfl
theorem TF88_0 : fieldOf Try.prog 88 0 = some (0, 1, false) := by kernel_rfl
theorem TF88_1 : fieldOf Try.prog 88 1 = some (1, 1, false) := by kernel_rfl
theorem TF88_2 : fieldOf Try.prog 88 2 = some (2, 1, false) := by kernel_rfl
theorem TF88_3 : fieldOf Try.prog 88 3 = some (3, 1, false) := by kernel_rfl
theorem TF91_0 : fieldOf Try.prog 91 0 = some (0, 1, false) := by kernel_rfl
theorem TF91_1 : fieldOf Try.prog 91 1 = some (1, 1, false) := by kernel_rfl
theorem TF95_0 : fieldOf Try.prog 95 0 = some (0, 1, false) := by kernel_rfl
theorem TF95_1 : fieldOf Try.prog 95 1 = some (1, 1, false) := by kernel_rfl
theorem TF95_2 : fieldOf Try.prog 95 2 = some (2, 1, false) := by kernel_rfl
theorem TF95_3 : fieldOf Try.prog 95 3 = some (3, 1, false) := by kernel_rfl
theorem TF99_0 : fieldOf Try.prog 99 0 = some (0, 1, false) := by kernel_rfl
theorem TF99_1 : fieldOf Try.prog 99 1 = some (1, 1, false) := by kernel_rfl
theorem TF104_0 : fieldOf Try.prog 104 0 = some (0, 1, false) := by kernel_rfl
theorem TF104_1 : fieldOf Try.prog 104 1 = some (1, 1, false) := by kernel_rfl
theorem TF104_2 : fieldOf Try.prog 104 2 = some (2, 1, false) := by kernel_rfl
theorem TF104_3 : fieldOf Try.prog 104 3 = some (3, 1, false) := by kernel_rfl
theorem TK29 : SlT Try.prog 29 3 (numB .i64 (0)) 8 := ⟨Try.underlying29, by kernel_rfl, by kernel_rfl, by kernel_rfl⟩
theorem TK43 : SlT Try.prog 43 27 (u32S ([])) 24 := ⟨Try.underlying43, by kernel_rfl, by kernel_rfl, by kernel_rfl⟩
theorem TK47 : SlT Try.prog 47 43 (u32S ([])) 24 := ⟨Try.underlying47, by kernel_rfl, by kernel_rfl, by kernel_rfl⟩
theorem TN27 : (zeroOf Try.prog 27).map List.length = some 1 := by kernel_rfl
theorem TN91 : (zeroOf Try.prog 91).map List.length = some 2 := by kernel_rfl
theorem TN99 : (zeroOf Try.prog 99).map List.length = some 2 := by kernel_rfl
theorem TQ31 : StT Try.prog 31 [numB .i64 (0), numB .i64 (0), numB .u8 (0), numB .i64 (0), numB .i64 (0), u32S ([])] [(0, 1), (1, 1), (2, 1), (3, 1), (4, 1), (5, 1)] := ⟨by kernel_rfl, ⟨_, Try.underlying31, by kernel_rfl⟩, fun k q h => match k, h with | 0, h => by injection h with h; subst h; kernel_rfl | 1, h => by injection h with h; subst h; kernel_rfl | 2, h => by injection h with h; subst h; kernel_rfl | 3, h => by injection h with h; subst h; kernel_rfl | 4, h => by injection h with h; subst h; kernel_rfl | 5, h => by injection h with h; subst h; kernel_rfl | k + 6, h => by simp at h⟩
theorem TQ39 : StT Try.prog 39 [u32S ([]), numB .i64 (0)] [(0, 1), (1, 1)] := ⟨by kernel_rfl, ⟨_, Try.underlying39, by kernel_rfl⟩, fun k q h => match k, h with | 0, h => by injection h with h; subst h; kernel_rfl | 1, h => by injection h with h; subst h; kernel_rfl | k + 2, h => by simp at h⟩
theorem TQ88 : StT Try.prog 88 [u32S ([]), u32S ([]), numB .i64 (0), boolB (false)] [(0, 1), (1, 1), (2, 1), (3, 1)] := ⟨by kernel_rfl, ⟨_, Try.underlying88, by kernel_rfl⟩, fun k q h => match k, h with | 0, h => by injection h with h; subst h; kernel_rfl | 1, h => by injection h with h; subst h; kernel_rfl | 2, h => by injection h with h; subst h; kernel_rfl | 3, h => by injection h with h; subst h; kernel_rfl | k + 4, h => by simp at h⟩
theorem TQ91 : StT Try.prog 91 [numB .i64 (0), u32S ([])] [(0, 1), (1, 1)] := ⟨by kernel_rfl, ⟨_, Try.underlying91, by kernel_rfl⟩, fun k q h => match k, h with | 0, h => by injection h with h; subst h; kernel_rfl | 1, h => by injection h with h; subst h; kernel_rfl | k + 2, h => by simp at h⟩
theorem TQ95 : StT Try.prog 95 [u32S ([]), u32S ([]), boolB (false), numB .i64 (0)] [(0, 1), (1, 1), (2, 1), (3, 1)] := ⟨by kernel_rfl, ⟨_, Try.underlying95, by kernel_rfl⟩, fun k q h => match k, h with | 0, h => by injection h with h; subst h; kernel_rfl | 1, h => by injection h with h; subst h; kernel_rfl | 2, h => by injection h with h; subst h; kernel_rfl | 3, h => by injection h with h; subst h; kernel_rfl | k + 4, h => by simp at h⟩
theorem TQ99 : StT Try.prog 99 [numB .i64 (0), u32S ([])] [(0, 1), (1, 1)] := ⟨by kernel_rfl, ⟨_, Try.underlying99, by kernel_rfl⟩, fun k q h => match k, h with | 0, h => by injection h with h; subst h; kernel_rfl | 1, h => by injection h with h; subst h; kernel_rfl | k + 2, h => by simp at h⟩
theorem TQ104 : StT Try.prog 104 [.lit (.pointer none), u32S ([]), numB .i64 (0), boolB (false)] [(0, 1), (1, 1), (2, 1), (3, 1)] := ⟨by kernel_rfl, ⟨_, Try.underlying104, by kernel_rfl⟩, fun k q h => match k, h with | 0, h => by injection h with h; subst h; kernel_rfl | 1, h => by injection h with h; subst h; kernel_rfl | 2, h => by injection h with h; subst h; kernel_rfl | 3, h => by injection h with h; subst h; kernel_rfl | k + 4, h => by simp at h⟩
theorem TS3 : szOf Try.prog 3 = some 1 := by kernel_rfl
theorem TS4 : szOf Try.prog 4 = some 1 := by kernel_rfl
theorem TS23 : szOf Try.prog 23 = some 1 := by kernel_rfl
theorem TS27 : szOf Try.prog 27 = some 1 := by kernel_rfl
theorem TS31 : szOf Try.prog 31 = some 6 := by kernel_rfl
theorem TS39 : szOf Try.prog 39 = some 2 := by kernel_rfl
theorem TS43 : szOf Try.prog 43 = some 1 := by kernel_rfl
theorem TS74 : szOf Try.prog 74 = some 4 := by kernel_rfl
theorem TS86 : szOf Try.prog 86 = some 1 := by kernel_rfl
theorem TS91 : szOf Try.prog 91 = some 2 := by kernel_rfl
theorem TS93 : szOf Try.prog 93 = some 1 := by kernel_rfl
theorem TS99 : szOf Try.prog 99 = some 2 := by kernel_rfl
theorem TS100 : szOf Try.prog 100 = some 16 := by kernel_rfl
theorem TU22 : Try.prog.underlying 22 = some (Go.TypeDesc.pointer 88) := Try.underlying22
theorem TU29 : Try.prog.underlying 29 = some (.slice 3) := Try.underlying29
theorem TU37 : Try.prog.underlying 37 = some (.slice 31) := Try.underlying37
theorem TU43 : Try.prog.underlying 43 = some (.slice 27) := Try.underlying43
theorem TU45 : Try.prog.underlying 45 = some (.slice 4) := Try.underlying45
theorem TU47 : Try.prog.underlying 47 = some (.slice 43) := Try.underlying47
theorem TU50 : Try.prog.underlying 50 = some (Go.TypeDesc.pointer 95) := Try.underlying50
theorem TU62 : Try.prog.underlying 62 = some (Go.TypeDesc.pointer 104) := Try.underlying62
theorem TU69 : Try.prog.underlying 69 = some (.int .u16) := Try.underlying69
theorem TU72 : Try.prog.underlying 72 = some (.slice 74) := Try.underlying72
theorem TU86 : Try.prog.underlying 86 = some (.slice 91) := Try.underlying86
theorem TU93 : Try.prog.underlying 93 = some (.slice 99) := Try.underlying93
theorem TU100 : Try.prog.underlying 100 = some (Go.TypeDesc.array 16 59) := Try.underlying100
theorem TZ4 : zeroOf Try.prog 4 = some [boolB (false)] := by kernel_rfl
theorem TZ5 : zeroOf Try.prog 5 = some [numB .u8 (0)] := by kernel_rfl
theorem TZ23 : zeroOf Try.prog 23 = some [numB .i64 (0)] := by kernel_rfl
theorem TZ27 : zeroOf Try.prog 27 = some [u32S ([])] := by kernel_rfl
theorem TZ31 : zeroOf Try.prog 31 = some [numB .i64 (0), numB .i64 (0), numB .u8 (0), numB .i64 (0), numB .i64 (0), u32S ([])] := by kernel_rfl
theorem TZ39 : zeroOf Try.prog 39 = some [u32S ([]), numB .i64 (0)] := by kernel_rfl
theorem TZ74 : zeroOf Try.prog 74 = some [u32S ([]), numB .i64 (0), u32S ([]), numB .i64 (0)] := by kernel_rfl
theorem TZ91 : zeroOf Try.prog 91 = some [numB .i64 (0), u32S ([])] := by kernel_rfl
theorem TZ99 : zeroOf Try.prog 99 = some [numB .i64 (0), u32S ([])] := by kernel_rfl
theorem TZ100 : zeroOf Try.prog 100 = some [numB .u32 (0), numB .u32 (0), numB .u32 (0), numB .u32 (0), numB .u32 (0), numB .u32 (0), numB .u32 (0), numB .u32 (0), numB .u32 (0), numB .u32 (0), numB .u32 (0), numB .u32 (0), numB .u32 (0), numB .u32 (0), numB .u32 (0), numB .u32 (0)] := by kernel_rfl
end Go.VL

/- Walks over the Go functions, printed by a program of this session over the kit's print, and by hand. -/
set_option linter.unusedVariables false
set_option linter.unusedSimpArgs false
set_option maxRecDepth 100000
namespace Go.VL
open Go.Proofs
theorem t63  : VF Try.prog 63 [] (agK .u32 (tabL 16)) := by
  refine VF_of P_mixed Try.func63 rfl rfl (by kernel_rfl) <| Sq <| Rg <| Vs (Al 0 TZ100 rfl) <| Nx <| Sq <| Rg <| Vs (Al 1 TZ100 rfl) <| Nx <| Sq <| Sq <| Rg <| Vs (Mv rfl) <| Nx <| Bk <| VCode.loop (α := (Nat) × (List Int)) (fun x_ => match x_ with | (i, T) => (2, sl [(0, .ptr 0 (0)), (1, .ptr 1 (0)), (4, vI .i64 ((i : Int)))], en [(0, arrK .u32 16 (List.replicate 16 0)), (1, arrK .u32 16 (T))])) (fun x_ => match x_ with | (i, T) => i ≤ 16 ∧ T = tabL i) (fun x_ => match x_ with | (i, T) => 16 - i) (0, tabL 0) ⟨by decide, rfl⟩ (Wa []) ?_
  rintro ⟨i, T⟩ ⟨hok, hT⟩
  have htl : T.length = 16 := by rw [hT]; exact tabL_len i
  change VCode _ _ _ 2 (sl _) (en _) _
  refine Sq <| Rg <| Vs (Bi rfl) <| Nx <| Sq <| Cd rfl (fun hc1 => ?_) (fun hc1 => ?_)
  · replace hc1 := of_decide_eq_true hc1
    refine Ks <| Tg <| Sq <| Bk <| Sq <| Rg <| Vs (Mv rfl) <| Vs (As rfl) <| Nx <| Sq <| Rg <| Vs (Mv rfl) <| Vs (Cv TU3 TU59 rfl (wrap_ofNat (by omega))) <| Vs (As rfl) <| Nx <| Sq <| Sq <| Rg <| Vs (Mv rfl) <| Nx <| Bk <| VCode.loop (α := (Nat) × (BitVec 32)) (fun x_ => match x_ with | (k, r) => (2, sl [(0, .ptr 0 (0)), (1, .ptr 1 (0)), (2, vI .i64 ((i : Int))), (3, vI .u32 (bv (r))), (4, vI .i64 ((i : Int))), (9, vI .i64 ((k : Int)))], en [(0, arrK .u32 16 (List.replicate 16 0)), (1, arrK .u32 16 (T))])) (fun x_ => match x_ with | (k, r) => k ≤ 4 ∧ r = stpN k (BitVec.ofNat 32 i)) (fun x_ => match x_ with | (k, r) => 4 - k) (0, BitVec.ofNat 32 i) ⟨by decide, rfl⟩ (Wa []) ?_
    rintro ⟨k, r⟩ ⟨hk, hr⟩
    change VCode _ _ _ 2 (sl _) (en _) _
    refine Sq <| Rg <| Vs (Bi rfl) <| Nx <| Sq <| Cd rfl (fun hc2 => ?_) (fun hc2 => ?_)
    · replace hc2 := of_decide_eq_true hc2
      refine Ks <| Tg <| Sq <| Bk <| Sq <| Rg <| Vs (Mv rfl) <| Vs (Bo (c := .int .u32 (bv ((r) &&& 1#32))) rfl (bop_and_bv _ 1#32)) <| Vs (Bi rfl) <| Nx <| Cd rfl (fun hc3 => ?_) (fun hc3 => ?_)
      · replace hc3 := eq_of_beq hc3
        exact Rg <| Vs (Mv rfl) <| Vs (Bo (c := .int .u32 (bv ((r) >>> 1))) rfl (bop_shr_bv _ 1)) <| Vs (Bo (c := .int .u32 (bv (((r) >>> 1) ^^^ 2197175160#32))) rfl (bop_xor_bv _ 2197175160#32)) <| Vs (As rfl) <| VList.nil <| Ig <| Tg <| Rg <| Vs (Bo rfl adI) <| Vs (Mv rfl) <| VList.nil <| Go (k + 1, (((r) >>> 1) ^^^ 2197175160#32)) (by first | exact ⟨by omega, by rw [stpN, ← hr, stp_y hc3]⟩ | exact ⟨by omega, by rw [stpN, ← hr, stp_n hc3]⟩) (Wa [])
      · replace hc3 := ne_of_beq_false hc3
        exact Rg <| Vs (Mv rfl) <| Vs (Bo (c := .int .u32 (bv ((r) >>> 1))) rfl (bop_shr_bv _ 1)) <| Vs (As rfl) <| VList.nil <| Ig <| Tg <| Rg <| Vs (Bo rfl adI) <| Vs (Mv rfl) <| VList.nil <| Go (k + 1, ((r) >>> 1)) (by first | exact ⟨by omega, by rw [stpN, ← hr, stp_y hc3]⟩ | exact ⟨by omega, by rw [stpN, ← hr, stp_n hc3]⟩) (Wa [])
    · replace hc2 := of_decide_eq_false hc2
      have hr4 : r = tabV i := by rw [hr, show k = 4 by omega]; rfl
      exact Ke <| Te <| Oe <| Ih <| Tg <| Rg <| Vs (Mv rfl) <| Vs (Mv rfl) <| Vs (Ia TU100 TS59 rfl) <| Vs (SrA TS59 rfl) <| VList.nil <| Ig <| Tg <| Rg <| Vs (Bo rfl adI) <| Vs (Mv rfl) <| VList.nil <| Go (i + 1, (T).set (0 + i) (bv (r))) ⟨by omega, by rw [hT, hr4, Nat.zero_add]; exact tabL_set (by omega)⟩ (Wa [])
  · replace hc1 := of_decide_eq_false hc1
    exact Ke <| Te <| Oe <| Ih <| Tg <| Sq <| Rg <| Vs (LdA TA100 TS100 rfl) <| Vs (SaA TS100 rfl) <| Nx <| Re <| Fi (l := [agK .u32 (T)]) (Rc (resVar_arr rfl rfl TA100 TS100) Rn) (by rw [hT, show i = 16 by omega]; rfl)
theorem t40 {b : List Int} (hb : ByR b) (hl : b.length ≤ 1000000) : VF Try.prog 40 [slK .u8 (b)] (numB .u32 (bv (crcQ b))) := by
  refine VF_of P_mixed Try.func40 rfl rfl (by kernel_rfl) <| Sq <| Rg <| Vs (As rfl) <| Nx <| Sq <| Rg <| Vs (C0 rfl rfl (t63)) <| Vs (Al 2 TZ100 rfl) <| Vs (SaB .u32 (List.replicate 16 0) (tabL 16) TS100 rfl) <| Nx <| Sq <| Rg <| Vs (As rfl) <| Nx <| Sq <| Sq <| Rg <| Vs (Mv rfl) <| Vs (Ls TK27 rfl) <| Vs (Mv rfl) <| Nx <| Bk <| VCode.loop (α := (Nat) × (BitVec 32)) (fun x_ => match x_ with | (i, r) => (3, sl [(3, .ptr 2 (0)), (4, vI .u32 (bv (r))), (8, .b (slK .u8 (b))), (9, vI .i64 (((b).length : Int))), (10, vI .i64 ((i : Int)))], en [(2, arrK .u32 16 (tabL 16))])) (fun x_ => match x_ with | (i, r) => i ≤ b.length ∧ r = crcF b i) (fun x_ => match x_ with | (i, r) => b.length - i) (0, 4294967295#32) ⟨Nat.zero_le _, rfl⟩ (Wa []) ?_
  rintro ⟨i, r⟩ ⟨hi, hr⟩
  change VCode _ _ _ 3 (sl _) (en _) _
  refine Sq <| Rg <| Vs (Bi rfl) <| Nx <| Sq <| Cd rfl (fun hc1 => ?_) (fun hc1 => ?_)
  · replace hc1 := of_decide_eq_true hc1
    exact Ks <| Tg <| Sq <| Bk <| Sq <| Rg <| Vs (IxN TK27 rfl) <| Vs (Lq TA5 rfl) <| Vs (As rfl) <| Nx <| Sq <| Rg <| Vs (Mv rfl) <| Vs (Mv rfl) <| Vs (Cv TU5 TU59 rfl (wrD (h := (hb.wide _)))) <| Vs (Bo (c := .int .u32 (bv ((r) ^^^ BitVec.ofInt 32 ((b).getD (i) 0)))) rfl (bop_xor_bvc _ _)) <| Vs (As rfl) <| Nx <| Sq <| Rg <| Vs (Mv rfl) <| Vs (Bo (c := .int .u32 (bv (((r) ^^^ BitVec.ofInt 32 ((b).getD (i) 0)) >>> 4))) rfl (bop_shr_bv _ 4)) <| Vs (Mv rfl) <| Vs (Bo (c := .int .u32 (bv (((r) ^^^ BitVec.ofInt 32 ((b).getD (i) 0)) &&& 15#32))) rfl (bop_and_bv _ 15#32)) <| Vs (Ia TU100 TS59 rfl (h0 := ((and15 _).1)) (h1 := ((and15 _).2))) <| Vs (LrA TA59 rfl (tab_in _)) <| Vs (Bo (c := .int .u32 (bv ((((r) ^^^ BitVec.ofInt 32 ((b).getD (i) 0)) >>> 4) ^^^ tabV (((r) ^^^ BitVec.ofInt 32 ((b).getD (i) 0)) &&& 15#32).toNat))) rfl (bop_xor_tab _ _)) <| Vs (As rfl) <| Nx <| Rg <| Vs (Mv rfl) <| Vs (Bo (c := .int .u32 (bv (((((r) ^^^ BitVec.ofInt 32 ((b).getD (i) 0)) >>> 4) ^^^ tabV (((r) ^^^ BitVec.ofInt 32 ((b).getD (i) 0)) &&& 15#32).toNat) >>> 4))) rfl (bop_shr_bv _ 4)) <| Vs (Mv rfl) <| Vs (Bo (c := .int .u32 (bv (((((r) ^^^ BitVec.ofInt 32 ((b).getD (i) 0)) >>> 4) ^^^ tabV (((r) ^^^ BitVec.ofInt 32 ((b).getD (i) 0)) &&& 15#32).toNat) &&& 15#32))) rfl (bop_and_bv _ 15#32)) <| Vs (Ia TU100 TS59 rfl (h0 := ((and15 _).1)) (h1 := ((and15 _).2))) <| Vs (LrA TA59 rfl (tab_in _)) <| Vs (Bo (c := .int .u32 (bv ((((((r) ^^^ BitVec.ofInt 32 ((b).getD (i) 0)) >>> 4) ^^^ tabV (((r) ^^^ BitVec.ofInt 32 ((b).getD (i) 0)) &&& 15#32).toNat) >>> 4) ^^^ tabV (((((r) ^^^ BitVec.ofInt 32 ((b).getD (i) 0)) >>> 4) ^^^ tabV (((r) ^^^ BitVec.ofInt 32 ((b).getD (i) 0)) &&& 15#32).toNat) &&& 15#32).toNat))) rfl (bop_xor_tab _ _)) <| Vs (As rfl) <| VList.nil <| Ig <| Tg <| Rg <| Vs (Bo rfl adI) <| Vs (Mv rfl) <| VList.nil <| Go (i + 1, ((((((r) ^^^ BitVec.ofInt 32 ((b).getD (i) 0)) >>> 4) ^^^ tabV (((r) ^^^ BitVec.ofInt 32 ((b).getD (i) 0)) &&& 15#32).toNat) >>> 4) ^^^ tabV (((((r) ^^^ BitVec.ofInt 32 ((b).getD (i) 0)) >>> 4) ^^^ tabV (((r) ^^^ BitVec.ofInt 32 ((b).getD (i) 0)) &&& 15#32).toNat) &&& 15#32).toNat)) ⟨by omega, by rw [crc_step, hr]; rfl⟩ (Wa [])
  · replace hc1 := of_decide_eq_false hc1
    exact Ke <| Te <| Oe <| Ih <| Tg <| Sq <| Rg <| Vs (Mv rfl) <| Vs (Uo (c := .int .u32 (bv (~~~(r)))) rfl (uop_not_bv _)) <| Vs (As rfl) <| Nx <| Re <| Fi (l := [numB .u32 (bv (~~~(r)))]) (Rc (resVar_tmp rfl rfl) Rn) (by rw [hr, show i = b.length by omega]; rfl)
theorem t65 {n : Nat} (h : n ≤ 1000000) : VF Try.prog 65 [numB .i64 ((n : Int))] (numB .i64 ((cntQ n : Nat) : Int)) := by
  exact VF_of P_mixed Try.func65 rfl rfl (by kernel_rfl) <| Sq <| Rg <| Vs (As rfl) <| Nx <| Sq <| Rg <| Vs (Mv rfl) <| Vs (Bo rfl adI) <| Vs (Bo rfl adI) <| Vs (Bo rfl adI) <| Vs (Bo rfl suI) <| Vs (Bo rfl quI) <| Vs (As rfl) <| Nx <| Re <| Fi (l := [numB .i64 ((((((6 + (n : Int)) + 4) + 64) - 1) / 64))]) (Rc (resVar_tmp rfl rfl) Rn) (by rw [show ((cntQ n : Nat) : Int) = (6 + (n:Int) + 4 + 64 - 1) / 64 by simp only [cntQ]; omega]; rfl)
end Go.VL

/- Walks over the Go functions, printed by a program of this session over the kit's print, and by hand. -/
set_option linter.unusedVariables false
set_option linter.unusedSimpArgs false
set_option maxRecDepth 100000
namespace Go.VL
open Go.Proofs
theorem t74 {m c : Nat} {D : List Int} (hD : D.length = m) (n : Int) (k : Nat) (hn : 0 ≤ n ∧ n < 4294967296) (hk : m + k ≤ c) (hc : c ≤ 1000000) : VG Try.prog 74 [.row 0 (m) (some (c)), vI .u32 (n), vI .i64 ((k : Int))] [rowK .u8 (D)] (.row 1 (m + k) (some c)) [none, some (rowK .u8 (D ++ leB n k))] := by
  refine VGp_of P_mixed Try.func74 rfl rfl (by kernel_rfl) (by simp) rfl <| Sq <| Rg <| Vs (As rfl) <| Nx <| Sq <| Sq <| Rg <| Vs (Mv rfl) <| Vs (Mv rfl) <| Nx <| Bk <| VCode.loop (α := (Nat) × (Int) × (List Int)) (fun x_ => match x_ with | (i, x, R) => (2, sl [(0, .row 1 (m + i) (some (c))), (1, vI .u32 (x)), (7, vI .i64 ((k : Int))), (8, vI .i64 ((i : Int)))], en [(1, rowK .u8 (R))])) (fun x_ => match x_ with | (i, x, R) => i ≤ k ∧ x = n / 256 ^ i ∧ R = D ++ leB n i) (fun x_ => match x_ with | (i, x, R) => k - i) (0, n, D) ⟨Nat.zero_le _, by simp, by simp [leB]⟩ (Wr [(1, 0)]) ?_
  rintro ⟨i, x, R⟩ ⟨hi, hx, hR⟩
  have hRl : R.length = m + i := by rw [hR]; simp [leB_len, hD]
  have hx2 : 0 ≤ x ∧ x < 4294967296 := by rw [hx]; exact ⟨Int.ediv_nonneg hn.1 (Int.le_of_lt (Int.pow_pos (by decide))), Int.lt_of_le_of_lt (Int.ediv_le_self _ hn.1) hn.2⟩
  change VCode _ _ _ 2 (sl _) (en _) _
  refine Sq <| Rg <| Vs (Bi rfl) <| Nx <| Sq <| Cd rfl (fun hc1 => ?_) (fun hc1 => ?_)
  · replace hc1 := of_decide_eq_true hc1
    exact Ks <| Tg <| Sq <| Bk <| Sq <| Rg <| Vs (Mv rfl) <| Vs (Mv rfl) <| Vs (Cv TU59 TU5 rfl (wrapM_u8 _)) <| Vs (L1s 6 TK27 rfl) <| Vs (Ac1 7 TK27 rfl (Rr rfl)) <| Vs (As rfl) <| Nx <| Rg <| Vs (Mv rfl) <| Vs (Bo rfl (srD 256)) <| Vs (As rfl) <| VList.nil <| Ig <| Tg <| Rg <| Vs (Bo rfl adI) <| Vs (Mv rfl) <| VList.nil <| Go (i + 1, (x / 256), (R) ++ ([((x) % 256)])) ⟨by omega, by rw [hx, div_step], by rw [hR, leB, hx, List.append_assoc]⟩ (Wr [(1, 7)])
  · replace hc1 := of_decide_eq_false hc1
    exact Ke <| Te <| Oe <| Ih <| Tg <| Sq <| Rg <| Vs (Mv rfl) <| Vs (As rfl) <| Nx <| Re <| Gg (L1' := [none, some (rowK .u8 (R))]) [0, 1] (.name _ _ (.row 1 (m + i) (some (c))) _ _ rfl rfl rfl .nil) (.one _) (by rw [show i = k by omega]) (by rw [hR, show i = k by omega])
theorem t74N (n : Int) (k : Nat) (hn : 0 ≤ n ∧ n < 4294967296) (hk : k ≤ 1000000) : VG Try.prog 74 [.b .nil, vI .u32 (n), vI .i64 ((k : Int))] [] (.row 0 (0 + k) none) [some (rowK .u8 (leB n k))] := by
  refine VGp_of P_mixed Try.func74 rfl rfl (by kernel_rfl) (by simp) rfl <| Sq <| Rg <| Vs (As rfl) <| Nx <| Sq <| Sq <| Rg <| Vs (Mg 1 1 rfl) <| Vs (Mv rfl) <| VList.nil <| Cx (n1 := 2) (S1 := [(0, .row 1 (0) none), (1, vI .u32 (n)), (7, vI .i64 ((k : Int))), (8, vI .i64 (0))]) (L1 := [(1, rowK .u8 ([]))]) (Weak.conv (nv := []) ⟨⟨⟨_, rfl, cv_nil'⟩, rfl⟩, ⟨⟨_, rfl, .inl rfl⟩, rfl⟩, ⟨⟨_, rfl, .inl rfl⟩, rfl⟩, ⟨⟨_, rfl, .inl rfl⟩, rfl⟩, trivial⟩ ⟨⟨⟨_, rfl, rfl, rfl, Two.same (fun _ => .inl rfl) _⟩, Nat.le_of_ble_eq_true rfl, row_cellsK⟩, trivial⟩ (Nat.le_of_ble_eq_true rfl)) <| Bk <| VCode.loop (α := (Nat) × (Int) × (List Int)) (fun x_ => match x_ with | (i, x, R) => (1, sl [(0, .row 0 (0 + i) none), (1, vI .u32 (x)), (7, vI .i64 ((k : Int))), (8, vI .i64 ((i : Int)))], en [(0, rowK .u8 (R))])) (fun x_ => match x_ with | (i, x, R) => i ≤ k ∧ x = n / 256 ^ i ∧ R = leB n i) (fun x_ => match x_ with | (i, x, R) => k - i) (0, n, []) ⟨Nat.zero_le _, by simp, rfl⟩ (Wr [(0, 1)]) ?_
  rintro ⟨i, x, R⟩ ⟨hi, hx, hR⟩
  have hRl : R.length = 0 + i := by rw [hR]; simp [leB_len]
  have hx2 : 0 ≤ x ∧ x < 4294967296 := by rw [hx]; exact ⟨Int.ediv_nonneg hn.1 (Int.le_of_lt (Int.pow_pos (by decide))), Int.lt_of_le_of_lt (Int.ediv_le_self _ hn.1) hn.2⟩
  change VCode _ _ _ 1 (sl _) (en _) _
  refine Sq <| Rg <| Vs (Bi rfl) <| Nx <| Sq <| Cd rfl (fun hc1 => ?_) (fun hc1 => ?_)
  · replace hc1 := of_decide_eq_true hc1
    exact Ks <| Tg <| Sq <| Bk <| Sq <| Rg <| Vs (Mv rfl) <| Vs (Mv rfl) <| Vs (Cv TU59 TU5 rfl (wrapM_u8 _)) <| Vs (L1s 5 TK27 rfl) <| Vs (Ar 6 TK27 rfl (Rr rfl)) <| Vs (As rfl) <| Nx <| Rg <| Vs (Mv rfl) <| Vs (Bo rfl (srD 256)) <| Vs (As rfl) <| VList.nil <| Ig <| Tg <| Rg <| Vs (Bo rfl adI) <| Vs (Mv rfl) <| VList.nil <| Go (i + 1, (x / 256), (R) ++ ([((x) % 256)])) ⟨by omega, by rw [hx, div_step], by rw [hR, leB, hx]⟩ (Wr [(0, 6)])
  · replace hc1 := of_decide_eq_false hc1
    exact Ke <| Te <| Oe <| Ih <| Tg <| Sq <| Rg <| Vs (Mv rfl) <| Vs (As rfl) <| Nx <| Re <| Gg (L1' := [some (rowK .u8 (R))]) [0] (.name _ _ (.row 0 (0 + i) none) _ _ rfl rfl rfl .nil) (.one _) (by rw [show i = k by omega]) (by rw [hR, show i = k by omega])
end Go.VL

/- Walks over the Go functions, printed by a program of this session over the kit's print, and by hand. -/
set_option linter.unusedVariables false
set_option linter.unusedSimpArgs false
set_option maxRecDepth 100000
namespace Go.VL
open Go.Proofs
theorem t68 {n : Int} {b : List Int} (hn : 0 ≤ n ∧ n < 4294967296) (hb : ByR b) (hl : b.length ≤ 5000) : VF Try.prog 68 [numB .i64 (n), slK .u8 (b)] (slK .u8 (formQ n b)) := by
  have hcq := cntQ_le b.length
  have hcq2 : cntQ b.length ≤ 100 := by unfold cntQ; omega
  refine VF_of P_mixed Try.func68 rfl rfl (by kernel_rfl) <| Sq <| Rg <| Vs (As rfl) <| Nx <| Sq <| Rg <| Vs (Mv rfl) <| Vs (Ls TK27 rfl) <| Vs (Cf rfl rfl (t65 (by omega)) rfl) <| Vs (Bo rfl muI) <| Vs (Mc 5 TK27 rfl) <| Vs (As rfl) <| Nx <| Sq <| Rg <| Vs (Mv rfl) <| Vs (Mv rfl) <| Vs (Cv TU3 TU59 rfl wrD) <| Gm 10 [5] [] (v := .row 10 (0 + 4) (some (((((cntQ ((b).length) : Nat) : Int) * 64)).toNat))) [(10, rowK .u8 (([]) ++ leB (n) 4))] rfl (t74 (m := 0) (c := ((((cntQ ((b).length) : Nat) : Int) * 64)).toNat) (D := []) (by first | rfl | (simp only [List.length_append, leB_len, List.length_nil]; done) | (simp [leB_len]; omega)) (n) 4 (hn) (by omega) (by omega)) rfl <| Vs (Mv rfl) <| Vs (Ls TK27 rfl) <| Vs (Cv TU3 TU59 rfl wrD) <| Gm 15 [10] [] (v := .row 15 (0 + 4 + 2) (some (((((cntQ ((b).length) : Nat) : Int) * 64)).toNat))) [(15, rowK .u8 ((([]) ++ leB (n) 4) ++ leB (((b).length : Int)) 2))] rfl (t74 (m := 0 + 4) (c := ((((cntQ ((b).length) : Nat) : Int) * 64)).toNat) (D := ([]) ++ leB (n) 4) (by first | rfl | (simp only [List.length_append, leB_len, List.length_nil]; done) | (simp [leB_len]; omega)) (((b).length : Int)) 2 (by omega) (by omega) (by omega)) rfl <| Vs (As rfl) <| Nx <| Sq <| Rg <| Vs (Mv rfl) <| Vs (Mv rfl) <| Vs (Ac1 20 TK27 rfl rfl (hl := (by first | rfl | (simp only [List.length_append, leB_len, List.length_nil]; done) | (simp [leB_len]; omega)))) <| Vs (As rfl) <| Nx <| Sq <| Rg <| Vs (Mv rfl) <| Vs (Mv rfl) <| Vs (Cf rfl (Rk (Rq rfl) Rz) (t40 (headQ_by hb) (by simp; omega)) rfl) <| Gm 25 [20] [] (v := .row 25 (0 + 4 + 2 + (b).length + 4) (some (((((cntQ ((b).length) : Nat) : Int) * 64)).toNat))) [(25, rowK .u8 ((((([]) ++ leB (n) 4) ++ leB (((b).length : Int)) 2) ++ (b)) ++ leB (bv (crcQ (((([]) ++ leB (n) 4) ++ leB (((b).length : Int)) 2) ++ (b)))) 4))] rfl (t74 (m := 0 + 4 + 2 + (b).length) (c := ((((cntQ ((b).length) : Nat) : Int) * 64)).toNat) (D := ((([]) ++ leB (n) 4) ++ leB (((b).length : Int)) 2) ++ (b)) (by first | rfl | (simp only [List.length_append, leB_len, List.length_nil]; done) | (simp [leB_len]; omega)) (bv (crcQ (((([]) ++ leB (n) 4) ++ leB (((b).length : Int)) 2) ++ (b)))) 4 (bv_range _) (by omega) (by omega)) rfl <| Vs (As rfl) <| Nx <| Sq <| Rg <| Vs (Mv rfl) <| Vs (Mv rfl) <| Vs (Cq TU27 rfl) <| Vs (Mv rfl) <| Vs (Lv (m := 0 + 4 + 2 + (b).length + 4) TU27 rfl) <| Vs (Bo rfl suI) <| Vs (Az 34 TK27 TU3 rfl (hl := (by first | rfl | (simp only [List.length_append, leB_len, List.length_nil]; done) | (simp [leB_len]; omega)))) <| Vs (As rfl) <| Nx <| Re <| Fi (Rc (resVar_tmp rfl (Rq rfl)) Rn) (by refine congrArg (slK .u8) ?_; simp [formQ, bodyQ, headQ]; omega)
end Go.VL

/- A small program logic over the translated Go code, further part: parts of a slice that is told by its contents. -/
set_option linter.unusedVariables false
namespace Go.VL
section
variable {P : Program} {ops : Array Oper} {o : Oper} {n d : Nat} {s : Slots} {E : Env} {T el by' : Nat} {x lo hi : Operand} {ik ik' ik2 : IntKind} {L : List Int} {a b : Int} {z' : B}
theorem Cfr (K : SlT P T el z' by') (h : (runs ops s o.guard, o.dst, o.op, ev s x, ev s lo) = (some true, some d, .slice T x (some lo) none none, some (.b (slK ik L)), some (vI ik' a))) (h0 : 0 ≤ a := by omega) (h1 : a ≤ L.length := by omega) :
    Stp P ops o n s E (n + 1) (setAt s d (some (.b (slK ik (L.drop a.toNat))))) E [] := by
  simp only [Prod.mk.injEq] at h; obtain ⟨h2, h3, h4, h5, h6⟩ := h
  refine st0 h2 h3 (h4 ▸ ?_)
  have := Eff.slSl (P := P) (id := n) (E := E) T x (some lo) none 1 (L.map (numB ik)) el ik' ik' a _ h5 K.u K.s (.inr ⟨lo, rfl, h6⟩) (.inl ⟨rfl, rfl⟩) h0 (by simp; omega) (by simp)
  simp only [Nat.mul_one, Nat.div_one, Int.toNat_natCast, List.take_length, ← List.map_drop] at this
  exact this
theorem Cbt (K : SlT P T el z' by') (h : (runs ops s o.guard, o.dst, o.op, ev s x, ev s lo, ev s hi) = (some true, some d, .slice T x (some lo) (some hi) none, some (.b (slK ik L)), some (vI ik' a), some (vI ik2 b))) (h0 : 0 ≤ a := by omega) (h1 : a ≤ b := by omega) (h2 : b ≤ L.length := by omega) :
    Stp P ops o n s E (n + 1) (setAt s d (some (.b (slK ik ((L.take b.toNat).drop a.toNat))))) E [] := by
  simp only [Prod.mk.injEq] at h; obtain ⟨g2, g3, g4, g5, g6, g7⟩ := h
  refine st0 g2 g3 (g4 ▸ ?_)
  have := Eff.slSl (P := P) (id := n) (E := E) T x (some lo) (some hi) 1 (L.map (numB ik)) el ik' ik2 a b g5 K.u K.s (.inr ⟨lo, rfl, g6⟩) (.inr ⟨hi, rfl, g7⟩) h0 h1 (by simp; omega)
  simp only [Nat.mul_one, ← List.map_take, ← List.map_drop] at this
  exact this
end
end Go.VL

/- The journal, plain: bytes of a disk, reading the next record. Short steps on bytes. -/
set_option linter.unusedVariables false
set_option linter.unusedSimpArgs false
namespace Go.VL
theorem bytesOf_inj {A B : List Int} (hA : ByR A) (hB : ByR B) (h : bytesOf A = bytesOf B) : A = B := by
  have h1 : A.map byteOf = B.map byteOf := by
    have := congrArg (fun x : ByteArray => x.data.toList) h
    simpa [bytesOf] using this
  have h2 : (A.map byteOf).map (fun x : UInt8 => (x.toNat : Int)) = (B.map byteOf).map (fun x : UInt8 => (x.toNat : Int)) := by rw [h1]
  have e : ∀ L : List Int, ByR L → (L.map byteOf).map (fun x : UInt8 => (x.toNat : Int)) = L := fun L hL => by
    rw [List.map_map]
    conv => rhs; rw [← List.map_id L]
    exact List.map_congr_left (fun x hx => byteOf_toNat (hL x hx))
  rwa [e A hA, e B hB] at h2
theorem bytes_eq {A B : List Int} (hA : ByR A) (hB : ByR B) : ((bytesOf A).toList == (bytesOf B).toList) = decide (A = B) := by
  by_cases h : A = B
  · subst h; simp
  · rw [decide_eq_false h]
    refine beq_false_of_ne (fun hq => h (bytesOf_inj hA hB ?_))
    exact strEq_t (by rw [hq]; exact beq_self_eq_true _)
theorem bop_shl8 {y : Int} (h : 0 ≤ y ∧ y < 256) : bop .shl (.int .i64 y) (.int .u64 8) = some (.int .i64 (y * 256)) := by
  have e : bop .shl (.int .i64 y) (.int .u64 8) = some (.int .i64 (IntKind.wrap .i64 (y * 256))) := rfl
  rw [e, wrap_i64 (by omega)]
theorem bop_or8 {x y : Int} (hx : 0 ≤ x ∧ x < 256) (hy : 0 ≤ y ∧ y < 256) : bop .or (.int .i64 x) (.int .i64 (y * 256)) = some (.int .i64 (x + y * 256)) := by
  have e : ((BitVec.ofInt 64 x ||| BitVec.ofInt 64 (y * 256)).toNat : Int) = x + y * 256 := by
    rw [BitVec.toNat_or, ofInt_nat_u64 (by omega) (by omega), ofInt_nat_u64 (by omega) (by omega), Nat.or_comm]
    have h1 : (y * 256).toNat = 2 ^ 8 * y.toNat := by omega
    rw [h1, ← Nat.two_pow_add_eq_or_of_lt (by omega), ← h1]
    omega
  show some (Value.int .i64 (IntKind.wrap .i64 ((BitVec.ofInt 64 x ||| BitVec.ofInt 64 (y * 256)).toNat : Int))) = _
  rw [e, wrap_i64 (by omega)]
section
variable {P : Program} {ops : Array Oper} {o : Oper} {n : Nat} {s : Slots} {E : Env} {d : Nat} {x : Operand} {T T' el : TypeId} {L : List Int}
theorem TsV {by' : Nat} (K : SlT P T el (numB .u8 0) by') (he : P.underlying el = some (.int .u8)) (hu : P.underlying T' = some .string) (h : (runs ops s o.guard, o.dst, o.op, ev s x) = (some true, some d, .convert T T' x, some (.b (slK .u8 L)))) (h8 : ok8 L) :
    Stp P ops o n s E (n + 1) (setAt s d (some (.b (.lit (.string (bytesOf L)))))) E [] := by
  simp only [Prod.mk.injEq] at h
  exact st0 h.1 h.2.1 (h.2.2.1 ▸ .toStr T T' x el _ (L.map byteOf) h.2.2.2 (by rw [bytesB_of h8]; rfl) K.u he hu)
end
/-- What a slice is: nil if it has no elements. -/
def nilO (l : List Int) : B := if l = [] then .nil else slK .u8 l
theorem nilO_nil : nilO [] = .nil := rfl
theorem nilO_of {l : List Int} (h : l ≠ []) : nilO l = slK .u8 l := if_neg h
/-- All bytes of a disk are in range. -/
structure Dk.By (d : Dk) : Prop where
  dur : ByR d.dur
  pen : ∀ w ∈ d.pen, ByR w.2
theorem cpw_by {D L : List Int} {o m : Nat} (h : ByR D) (k : ByR L) : ByR (cpw D o m L) := ((h.take _).append (k.take _ |>.append (h.drop _)))
theorem sec_by {D : List Int} {s : Int} (h : ByR D) : ByR (sec D s) := (h.drop _).take _
theorem rdL_by {s : Int} {P : List Pen} {R : List Int} (h : ByR R) (hp : ∀ w ∈ P, ByR w.2) : ∀ i, i ≤ P.length → ByR (rdL s P R i)
  | 0, _ => h
  | i + 1, hi => by
    simp only [rdL]
    split
    · exact cpw_by (rdL_by h hp i (by omega)) (hp _ (getD_mem' (by omega)))
    · exact rdL_by h hp i (by omega)
theorem Dk.By.rdS {d : Dk} (h : d.By) (s : Int) : ByR (rdS d s) := rdL_by (cpw_by .rep (sec_by h.dur)) h.pen _ (Nat.le_refl _)
theorem Dk.By.burn {d : Dk} (h : d.By) : d.burn.By := ⟨by rw [burn_dur]; exact h.dur, by rw [burn_pen]; exact h.pen⟩
theorem Dk.By.readR {d : Dk} (h : d.By) (n : Nat) (s : Int) : (d.readR n s).1.By ∧ ByR (d.readR n s).2.1 := by
  have hb := h.burn
  have hn : ByR [] := fun x hx => by cases hx
  unfold Dk.readR
  repeat' split
  all_goals first | exact ⟨h, hn⟩ | exact ⟨hb, hn⟩ | exact ⟨hb, h.rdS s⟩
theorem Dk.By.writeR {d : Dk} (h : d.By) (n : Nat) (s : Int) {b : List Int} (hb : ByR b) : (d.writeR n s b).1.By := by
  unfold Dk.writeR
  repeat' split
  all_goals first | exact h | exact ⟨h.burn.dur, fun w hw => by
    rcases List.mem_append.1 hw with hw | hw
    · exact h.pen w hw
    · simp at hw; subst hw; exact hb⟩
theorem put_by {D L : List Int} {s : Int} (h : ByR D) (k : ByR L) : ByR (put D s L) := cpw_by h k
theorem syL_by {P : List Pen} {D : List Int} (h : ByR D) (hp : ∀ w ∈ P, ByR w.2) : ∀ i, i ≤ P.length → ByR (syL P D i)
  | 0, _ => h
  | i + 1, hi => by
    simp only [syL]
    exact put_by (syL_by h hp i (by omega)) (hp _ (getD_mem' (by omega)))
theorem Dk.By.syncR {d : Dk} (h : d.By) : d.syncR.1.By := by
  unfold Dk.syncR
  repeat' split
  all_goals first | exact h | exact h.burn | exact ⟨syL_by h.dur h.pen _ (Nat.le_refl _), fun w hw => by cases hw⟩
theorem boL_by {K : List Bool} {l t : Int} {P : List Pen} {D : List Int} (h : ByR D) (hp : ∀ w ∈ P, ByR w.2) : ∀ i, i ≤ P.length → ByR (boL K l t P D i)
  | 0, _ => h
  | i + 1, hi => by
    simp only [boL]
    split
    · refine put_by (boL_by h hp i (by omega)) ?_
      unfold tearB
      split
      · exact (hp _ (getD_mem' (by omega))).take _
      · exact hp _ (getD_mem' (by omega))
    · exact boL_by h hp i (by omega)
theorem Dk.By.bootR {d : Dk} (h : d.By) (keep : List Int) (torn : Int) : (d.bootR keep torn).By := ⟨boL_by h.dur h.pen _ (Nat.le_refl _), fun w hw => by cases hw⟩
theorem Dk.By.fuseR {d : Dk} (h : d.By) (x : Int) : (d.fuseR x).By := ⟨h.dur, h.pen⟩
theorem flipB_by (x k : Int) : 0 ≤ flipB x k ∧ flipB x k < 256 := by
  unfold flipB
  have := (BitVec.ofInt 8 x ^^^ BitVec.ofInt 8 (2 ^ (k % 8).toNat)).isLt
  omega
theorem Dk.By.rotR {d : Dk} (h : d.By) (n : Nat) (s k : Int) : (d.rotR n s k).1.By := by
  unfold Dk.rotR
  split
  · exact h
  · refine ⟨fun x hx => ?_, h.pen⟩
    rcases List.mem_or_eq_of_mem_set hx with hx | rfl
    · exact h.dur x hx
    · exact flipB_by _ _
theorem newD_by (z : Nat) : (newD z).By := ⟨.rep, fun w hw => by cases hw⟩
/-- The length that a first sector tells. -/
def sizeQ (f : List Int) : Nat := (f.getD 4 0 + f.getD 5 0 * 256).toNat
theorem sizeQ_eq {f : List Int} (h : ByR f) : ((sizeQ f : Nat) : Int) = f.getD 4 0 + f.getD 5 0 * 256 := by
  unfold sizeQ; have := h.getD 4; have := h.getD 5; omega
/-- The further sectors of a record, from the i-th on. -/
def rdAll (n : Nat) (en : Int) : Nat → Nat → Dk → List Int → Dk × List Int × Int
  | _, 0, d, A => (d, A, 0)
  | i, k + 1, d, A => if (d.readR n (en + i)).2.2 = 0 then rdAll n en (i + 1) k (d.readR n (en + i)).1 (A ++ (d.readR n (en + i)).2.1) else ((d.readR n (en + i)).1, [], (d.readR n (en + i)).2.2)
def recQ (A : List Int) (s : Nat) : List Int := (A.take (6 + s)).drop 6
/-- May these be the first bytes of the record k? -/
def FitQ (n k en : Nat) (f : List Int) : Prop := f.take 4 = leB k 4 ∧ 1 ≤ sizeQ f ∧ sizeQ f ≤ 4096 ∧ en + cntQ (sizeQ f) ≤ n / 64
instance {n k en : Nat} {f : List Int} : Decidable (FitQ n k en f) := by unfold FitQ; infer_instance
/-- The next record. -/
def nxR (n k en : Nat) (d : Dk) : Dk × List Int × List Int × Int :=
  if n / 64 ≤ en then (d, [], [], 0) else
  let r := d.readR n en
  if r.2.2 = 0 then
    if FitQ n k en r.2.1 then
      let q := rdAll n en 1 (cntQ (sizeQ r.2.1) - 1) r.1 r.2.1
      if q.2.2 = 0 then if q.2.1 = formQ k (recQ q.2.1 (sizeQ r.2.1)) then (q.1, recQ q.2.1 (sizeQ r.2.1), r.2.1, 0) else (q.1, [], r.2.1, 0)
      else (q.1, [], [], q.2.2)
    else (r.1, [], r.2.1, 0)
  else (r.1, [], [], r.2.2)
abbrev nxV (r : Dk × List Int × List Int × Int) : V := .b (.tup [nilO r.2.1, nilO r.2.2.1, numB .i64 r.2.2.2])
theorem read_len {n : Nat} {d : Dk} {s : Int} (h : (d.readR n s).2.2 = 0) : (d.readR n s).2.1.length = 64 := by
  unfold Dk.readR at h ⊢
  repeat' split at h
  all_goals simp_all
  all_goals exact rdS_len s
section
variable {n k en : Nat} {d : Dk}
theorem nx_end (h : n / 64 ≤ en) : nxR n k en d = (d, [], [], 0) := by rw [nxR, if_pos h]
theorem nx_err (h : ¬ n / 64 ≤ en) (h1 : ¬ (d.readR n en).2.2 = 0) : nxR n k en d = ((d.readR n en).1, [], [], (d.readR n en).2.2) := by
  rw [nxR, if_neg h]; simp only; rw [if_neg h1]
theorem nx_unfit (h : ¬ n / 64 ≤ en) (h1 : (d.readR n en).2.2 = 0) (h2 : ¬ FitQ n k en (d.readR n en).2.1) : nxR n k en d = ((d.readR n en).1, [], (d.readR n en).2.1, 0) := by
  rw [nxR, if_neg h]; simp only; rw [if_pos h1, if_neg h2]
theorem nx_fit (h : ¬ n / 64 ≤ en) (h1 : (d.readR n en).2.2 = 0) (h2 : FitQ n k en (d.readR n en).2.1) {q : Dk × List Int × Int} (hq : q = rdAll n en 1 (cntQ (sizeQ (d.readR n en).2.1) - 1) (d.readR n en).1 (d.readR n en).2.1) :
    nxR n k en d = if q.2.2 = 0 then if q.2.1 = formQ k (recQ q.2.1 (sizeQ (d.readR n en).2.1)) then (q.1, recQ q.2.1 (sizeQ (d.readR n en).2.1), (d.readR n en).2.1, 0) else (q.1, [], (d.readR n en).2.1, 0) else (q.1, [], [], q.2.2) := by
  subst hq
  rw [nxR, if_neg h]; simp only; rw [if_pos h1, if_pos h2]
theorem rdAll_err {i j : Nat} {A : List Int} {en : Int} (hj : 0 < j) (h : ¬ (d.readR n (en + i)).2.2 = 0) : rdAll n en i j d A = ((d.readR n (en + i)).1, [], (d.readR n (en + i)).2.2) := by
  obtain ⟨j, rfl⟩ : ∃ q, j = q + 1 := ⟨j - 1, by omega⟩
  rw [rdAll, if_neg h]
theorem rdAll_go {i j : Nat} {A : List Int} {en : Int} (hj : 0 < j) (h : (d.readR n (en + i)).2.2 = 0) : rdAll n en i j d A = rdAll n en (i + 1) (j - 1) (d.readR n (en + i)).1 (A ++ (d.readR n (en + i)).2.1) := by
  obtain ⟨j, rfl⟩ : ∃ q, j = q + 1 := ⟨j - 1, by omega⟩
  rw [rdAll, if_pos h]; rfl
end
end Go.VL

/- Walks over the Go functions, printed by a program of this session over the kit's print, and by hand. -/
set_option linter.unusedVariables false
set_option linter.unusedSimpArgs false
set_option maxRecDepth 100000
namespace Go.VL
open Go.Proofs
theorem t66 {A B : List Int} (hA : ByR A) (hB : ByR B) : VF Try.prog 66 [slK .u8 (A), slK .u8 (B)] (boolB (decide (A = B))) := by
  exact VF_of P_mixed Try.func66 rfl rfl (by kernel_rfl) <| Sq <| Rg <| Vs (As rfl) <| Nx <| Sq <| Rg <| Vs (Mv rfl) <| Vs (TsV TK27 TU5 TU9 rfl (hA)) <| Vs (Mv rfl) <| Vs (TsV TK27 TU5 TU9 rfl (hB)) <| Vs (Bi rfl) <| Vs (As rfl) <| Nx <| Re <| Fi (l := [boolB (((bytesOf (A)).toList == (bytesOf (B)).toList))]) (Rc (resVar_tmp rfl rfl) Rn) (by rw [bytes_eq hA hB]; rfl)
theorem t69 {b : List Int} (hb : b ≠ []) (hl : b.length ≤ 1000000) : VF Try.prog 69 [slK .u8 (b)] (slK .u8 b) := by
  exact VF_of P_mixed Try.func69 rfl rfl (by kernel_rfl) <| Sq <| Rg <| Vs (As rfl) <| Nx <| Sq <| Sq <| Rg <| Vs (Mv rfl) <| Vs (Ne1 TU27 rfl (fun h => hb (by simpa using h))) <| Nx <| Cz rfl <| Ks <| Tg <| Sq <| Rg <| Vs (L0s 3 TK27 rfl) <| Vs (Mv rfl) <| Vs (Ap 5 TK27 rfl rfl) <| Vs (As rfl) <| Nx <| Re <| Fi (l := [slK .u8 (([]) ++ (b))]) (Rc (resVar_tmp rfl (Rr rfl)) Rn) rfl
theorem t69n {b : List Int} (hb : b ≠ []) (hl : b.length ≤ 1000000) : VG Try.prog 69 [.b (slK .u8 (b))] [] (.own 0 b.length) [some (rowK .u8 b)] := by
  exact VGp_of P_mixed Try.func69 rfl rfl (by kernel_rfl) (by simp) rfl <| Sq <| Rg <| Vs (As rfl) <| Nx <| Sq <| Sq <| Rg <| Vs (Mv rfl) <| Vs (Ne1 TU27 rfl (fun h => hb (by simpa using h))) <| Nx <| Cz rfl <| Ks <| Tg <| Sq <| Rg <| Vs (L0s 3 TK27 rfl) <| Vs (Mv rfl) <| Vs (Ap 5 TK27 rfl rfl) <| Vs (As rfl) <| Nx <| Re <| Gg (L1' := [some (rowK .u8 (([]) ++ (b)))]) [5] (.name _ _ (.own 0 ((0) + (b).length)) _ _ rfl rfl rfl .nil) (.one _) (by rw [Nat.zero_add]) rfl
end Go.VL

/- Walks over the Go functions, printed by a program of this session over the kit's print, and by hand. -/
set_option linter.unusedVariables false
set_option linter.unusedSimpArgs false
set_option maxRecDepth 100000
namespace Go.VL
open Go.Proofs
theorem k33 {n m : Nat} {d : Dk} (hd : d.Ok n m) (hm : m ≤ 100000) : VG Try.prog 33 [.ptr 0 (0)] [⟨4, [.own 1 (n), .b (slT 2 penB (d.pen)), vI .i64 (d.fuse), vB (d.off)], true⟩, rowK .u8 (d.dur)] (vI .i64 ((n : Int) / 64)) [some (⟨4, [.own 1 (n), .b (slT 2 penB (d.pen)), vI .i64 (d.fuse), vB (d.off)], true⟩), some (rowK .u8 (d.dur))] := by
  have hlen := hd.len
  have hlo := hd.lo
  have hhi := hd.hi
  have hwh := hd.whole
  have hpl := hd.pen
  obtain ⟨hf1, hf2⟩ := hd.fu
  exact VGp_of P_mixed Try.func33 rfl rfl (by kernel_rfl) (by simp) rfl <| Sq <| Rg <| Vs (As rfl) <| Nx <| Sq <| Sq <| Rg <| Vs (Mv rfl) <| Vs (Pe TU22 rfl) <| Nx <| Cz rfl <| Ks <| Tg <| Sq <| Rg <| Vs (Mv rfl) <| Vs (Nk rfl) <| Vs (Fa TF88_0 rfl) <| Vs (Ld TA27 rfl) <| Vs (Lo TU27 rfl) <| Vs (Bo rfl quI) <| Vs (As rfl) <| Nx <| Re <| Gg (L1' := [some (⟨4, [.own 1 (n), .b (slT 2 penB (d.pen)), vI .i64 (d.fuse), vB (d.off)], true⟩), some (rowK .u8 (d.dur))]) [0, 1] (.val _ _ _ _ _ rfl rfl rfl .nil) (.one _) rfl rfl
theorem k31 {n m : Nat} {d : Dk} (hd : d.Ok n m) (hm : m ≤ 100000) : VG Try.prog 31 [.ptr 0 (0)] [⟨4, [.own 1 (n), .b (slT 2 penB (d.pen)), vI .i64 (d.fuse), vB (d.off)], true⟩, rowK .u8 (d.dur)] (vB (!d.off)) [some (⟨4, [.own 1 (n), .b (slT 2 penB (d.pen)), vI .i64 (d.fuse), vB (d.off)], true⟩), some (rowK .u8 (d.dur))] := by
  have hlen := hd.len
  have hlo := hd.lo
  have hhi := hd.hi
  have hwh := hd.whole
  have hpl := hd.pen
  obtain ⟨hf1, hf2⟩ := hd.fu
  exact VGp_of P_mixed Try.func31 rfl rfl (by kernel_rfl) (by simp) rfl <| Sq <| Rg <| Vs (As rfl) <| Nx <| Sq <| Rg <| Vs (Mv rfl) <| Vs (Pf TU22 rfl) <| Vs (Mv rfl) <| Vs (Mv rfl) <| Vs (Nk rfl) <| Vs (Fa TF88_3 rfl) <| Vs (Ld TA4 rfl) <| Vs (Un rfl) <| Vs (Pk rfl) <| Vs (As rfl) <| Nx <| Re <| Gg (L1' := [some (⟨4, [.own 1 (n), .b (slT 2 penB (d.pen)), vI .i64 (d.fuse), vB (d.off)], true⟩), some (rowK .u8 (d.dur))]) [0, 1] (.val _ _ _ _ _ rfl rfl rfl .nil) (.one _) rfl rfl
theorem k55 {n m : Nat} {d : Dk} (hd : d.Ok n m) (hm : m ≤ 100000) (s : Int) : VG Try.prog 55 [.ptr 0 (0), vI .i64 (s)] [⟨4, [.own 1 (n), .b (slT 2 penB (d.pen)), vI .i64 (d.fuse), vB (d.off)], true⟩, rowK .u8 (d.dur)] (vB (hasS n s)) [some (⟨4, [.own 1 (n), .b (slT 2 penB (d.pen)), vI .i64 (d.fuse), vB (d.off)], true⟩), some (rowK .u8 (d.dur))] := by
  have hlen := hd.len
  have hlo := hd.lo
  have hhi := hd.hi
  have hwh := hd.whole
  have hpl := hd.pen
  obtain ⟨hf1, hf2⟩ := hd.fu
  refine VGp_of P_mixed Try.func55 rfl rfl (by kernel_rfl) (by simp) rfl <| Sq <| Rg <| Vs (As rfl) <| Nx <| Sq <| Rg <| Vs (Mv rfl) <| Vs (Bi rfl) <| Vs (Mv rfl) <| Sp 7 rfl (fun hc1 => ?_) (fun hc1 => ?_)
  · replace hc1 := of_decide_eq_true hc1
    exact Vs (Mv rfl) <| Vs (Mv rfl) <| Gm 8 [0, 1] [] (v := vI .i64 (((n : Int) / 64))) [(0, ⟨4, [.own 1 (n), .b (slT 2 penB (d.pen)), vI .i64 (d.fuse), vB (d.off)], true⟩), (1, rowK .u8 (d.dur))] rfl (k33 hd hm) rfl <| Vs (Bi rfl) <| Vs (Pk rfl) <| Vs (As rfl) <| Nx <| Re <| Gg (L1' := [some (⟨4, [.own 1 (n), .b (slT 2 penB (d.pen)), vI .i64 (d.fuse), vB (d.off)], true⟩), some (rowK .u8 (d.dur))]) [0, 1] (.val _ _ _ _ _ rfl rfl rfl .nil) (.one _) (by simp only [hasS, decide_eq_true hc1, Bool.true_and]) rfl
  · replace hc1 := of_decide_eq_false hc1
    exact Sk rfl <| Sk rfl <| Sk rfl <| Sk rfl <| Vs (Pk rfl) <| Vs (As rfl) <| Nx <| Re <| Gg (L1' := [some (⟨4, [.own 1 (n), .b (slT 2 penB (d.pen)), vI .i64 (d.fuse), vB (d.off)], true⟩), some (rowK .u8 (d.dur))]) [0, 1] (.val _ _ _ _ _ rfl rfl rfl .nil) (.one _) (by simp only [hasS, decide_eq_false hc1, Bool.false_and]) rfl
theorem k56 {n m : Nat} {d : Dk} (hd : d.Ok n m) (hm : m ≤ 100000) : VG Try.prog 56 [.ptr 0 (0)] [⟨4, [.own 1 (n), .b (slT 2 penB (d.pen)), vI .i64 (d.fuse), vB (d.off)], true⟩, rowK .u8 (d.dur)] (vB d.out) [some (⟨4, [.own 1 (n), .b (slT 2 penB ((d.burn).pen)), vI .i64 ((d.burn).fuse), vB ((d.burn).off)], true⟩), some (rowK .u8 ((d.burn).dur))] := by
  have hlen := hd.len
  have hlo := hd.lo
  have hhi := hd.hi
  have hwh := hd.whole
  have hpl := hd.pen
  obtain ⟨hf1, hf2⟩ := hd.fu
  refine VGp_of P_mixed Try.func56 rfl rfl (by kernel_rfl) (by simp) rfl <| Sq <| Rg <| Vs (As rfl) <| Nx <| Sq <| Bk <| Sq <| Rg <| Vs (Mv rfl) <| Vs (Nk rfl) <| Vs (Fa TF88_2 rfl) <| Vs (Ld TA3 rfl) <| Vs (Bi rfl) <| Vs (As rfl) <| Nx <| Cd rfl (fun hc1 => ?_) (fun hc1 => ?_)
  · replace hc1 := eq_of_beq hc1
    exact Sq <| Rg <| Vs (Mv rfl) <| Vs (Nk rfl) <| Vs (Fa TF88_2 rfl) <| Vs (St TS3 rfl) <| Nx <| Sq <| Rg <| Vs (Mv rfl) <| Vs (Nk rfl) <| Vs (Fa TF88_3 rfl) <| Vs (St TS4 rfl) <| Nx <| Sq <| Rg <| Vs (As rfl) <| Nx <| Re <| Iq <| Tr <| Gg (L1' := [some (⟨4, [.own 1 (n), .b (slT 2 penB (d.pen)), vI .i64 ((-1)), vB (true)], true⟩), some (rowK .u8 (d.dur))]) [0, 1] (.val _ _ _ _ _ rfl rfl rfl .nil) (.one _) (by simp [Dk.out, hc1]) (by simp [Dk.burn, hc1])
  · replace hc1 := ne_of_beq_false hc1
    refine Sq <| Rg <| Vs (Mv rfl) <| Vs (Nk rfl) <| Vs (Fa TF88_2 rfl) <| Vs (Ld TA3 rfl) <| Vs (Bi rfl) <| Vs (As rfl) <| Nx <| Cd rfl (fun hc2 => ?_) (fun hc2 => ?_)
    · replace hc2 := of_decide_eq_true hc2
      exact Rg <| Vs (Mv rfl) <| Vs (Nk rfl) <| Vs (Fa TF88_2 rfl) <| Vs (Ld TA3 rfl) <| Vs (Bo rfl suI) <| Vs (Nk rfl) <| Vs (Fa TF88_2 rfl) <| Vs (St TS3 rfl) <| VList.nil <| Ig <| Tg <| Sq <| Rg <| Vs (As rfl) <| Nx <| Re <| Gg (L1' := [some (⟨4, [.own 1 (n), .b (slT 2 penB (d.pen)), vI .i64 ((d.fuse - 1)), vB (d.off)], true⟩), some (rowK .u8 (d.dur))]) [0, 1] (.val _ _ _ _ _ rfl rfl rfl .nil) (.one _) (by simp [Dk.out, hc1]) (by simp [Dk.burn, hc1, hc2])
    · replace hc2 := of_decide_eq_false hc2
      exact Ks <| Ig <| Tg <| Sq <| Rg <| Vs (As rfl) <| Nx <| Re <| Gg (L1' := [some (⟨4, [.own 1 (n), .b (slT 2 penB (d.pen)), vI .i64 (d.fuse), vB (d.off)], true⟩), some (rowK .u8 (d.dur))]) [0, 1] (.val _ _ _ _ _ rfl rfl rfl .nil) (.one _) (by simp [Dk.out, hc1]) (by simp [Dk.burn, hc1, hc2])
theorem k57 {n m : Nat} {d : Dk} (hd : d.Ok n m) (hm : m ≤ 100000) {s : Int} (h0 : 0 ≤ s) (h1 : s * 64 + 64 ≤ n) : VG Try.prog 57 [.ptr 0 (0), vI .i64 (s)] [⟨4, [.own 1 (n), .b (slT 2 penB (d.pen)), vI .i64 (d.fuse), vB (d.off)], true⟩, rowK .u8 (d.dur)] (.win 1 (s * 64).toNat 64) [some (⟨4, [.own 1 (n), .b (slT 2 penB (d.pen)), vI .i64 (d.fuse), vB (d.off)], true⟩), some (rowK .u8 (d.dur))] := by
  have hlen := hd.len
  have hlo := hd.lo
  have hhi := hd.hi
  have hwh := hd.whole
  have hpl := hd.pen
  obtain ⟨hf1, hf2⟩ := hd.fu
  exact VGp_of P_mixed Try.func57 rfl rfl (by kernel_rfl) (by simp) rfl <| Sq <| Rg <| Vs (As rfl) <| Nx <| Sq <| Rg <| Vs (Mv rfl) <| Vs (Bo rfl muI) <| Vs (As rfl) <| Nx <| Sq <| Rg <| Vs (Mv rfl) <| Vs (Nk rfl) <| Vs (Fa TF88_0 rfl) <| Vs (Ld TA27 rfl) <| Vs (Mv rfl) <| Vs (Mv rfl) <| Vs (Bo rfl adI) <| Vs (Mv rfl) <| Vs (Bo rfl adI) <| Vs (Sz 64 TU27 TS5 rfl) <| Vs (As rfl) <| Nx <| Re <| Gg (L1' := [some (⟨4, [.own 1 (n), .b (slT 2 penB (d.pen)), vI .i64 (d.fuse), vB (d.off)], true⟩), some (rowK .u8 (d.dur))]) [0, 1] (.name _ _ (.win 1 (((s * 64)).toNat) (64)) _ _ rfl rfl rfl .nil) (.one _) rfl rfl
theorem k37 {n m : Nat} {d : Dk} (hd : d.Ok n m) (hm : m ≤ 100000) (x : Int) : VG Try.prog 37 [.ptr 0 (0), vI .i64 (x)] [⟨4, [.own 1 (n), .b (slT 2 penB (d.pen)), vI .i64 (d.fuse), vB (d.off)], true⟩, rowK .u8 (d.dur)] (.b (.tup [])) [some (⟨4, [.own 1 (n), .b (slT 2 penB ((d.fuseR x).pen)), vI .i64 ((d.fuseR x).fuse), vB ((d.fuseR x).off)], true⟩), some (rowK .u8 ((d.fuseR x).dur))] := by
  have hlen := hd.len
  have hlo := hd.lo
  have hhi := hd.hi
  have hwh := hd.whole
  have hpl := hd.pen
  obtain ⟨hf1, hf2⟩ := hd.fu
  exact VGp_of P_mixed Try.func37 rfl rfl (by kernel_rfl) (by simp) rfl <| Sq <| Rg <| Vs (Mv rfl) <| Vs (Pf TU22 rfl) <| Nx <| Cy rfl <| Rg <| Vs (Mv rfl) <| Vs (Mv rfl) <| Vs (Mx rfl) <| Vs (Nk rfl) <| Vs (Fa TF88_2 rfl) <| Vs (St TS3 rfl) <| VList.nil <| Gg (L1' := [some (⟨4, [.own 1 (n), .b (slT 2 penB (d.pen)), vI .i64 ((if (-1) > x then (-1) else x)), vB (d.off)], true⟩), some (rowK .u8 (d.dur))]) [0, 1] .nil (.vals _ [] rfl rfl) rfl rfl
theorem k17 (z : Int) (h0 : 1 ≤ z) (h1 : z ≤ 1024) : VG Try.prog 17 [vI .i64 (z)] [] (.tup [.ptr 0 0, vI .i64 0]) [some ⟨4, [.own 1 (z * 64).toNat, .b (slT 2 penB []), vI .i64 (-1), vB false], true⟩, some (rowK .u8 (List.replicate (z * 64).toNat 0))] := by
  exact VGp_of P_mixed Try.func17 rfl rfl (by kernel_rfl) (by simp) rfl <| Sq <| Rg <| Vs (As rfl) <| Vs (As rfl) <| Nx <| Sq <| Sq <| Rg <| Vs (Mv rfl) <| Vs (Kb (show decide (z < 1) = false from (decide_eq_false (by omega))) (Bi rfl)) <| Vs (Mv rfl) <| Vs (Mv rfl) <| Vs (Kb (show decide (z > 1024) = false from (decide_eq_false (by omega))) (Bi rfl)) <| Vs (Pk rfl) <| Nx <| Cz rfl <| Ks <| Tg <| Sq <| Rg <| Vs (Mv rfl) <| Vs (Bo rfl muI) <| Vs (Mk 10 TK27 rfl) <| Vs (Bd TQ88 rfl) <| Vs (Bx 12 rfl) <| Vs (As rfl) <| Vs (As rfl) <| VList.nil <| Cx (n1 := 13) (S1 := [(2, .ptr 12 (0)), (3, vI .i64 (0))]) (L1 := [(10, rowK .u8 (List.replicate ((z * 64)).toNat 0)), (12, ⟨4, [.own 10 (((z * 64)).toNat), .b (slT 2 penB ([])), vI .i64 ((-1)), vB (false)], true⟩)]) (Weak.conv (nv := []) ⟨⟨⟨_, rfl, .inl rfl⟩, rfl⟩, ⟨⟨_, rfl, .inl rfl⟩, rfl⟩, trivial⟩ ⟨⟨⟨_, rfl, rfl, rfl, Two.same (fun _ => .inl rfl) _⟩, Nat.le_of_ble_eq_true rfl, row_cellsK⟩, ⟨⟨_, rfl, rfl, rfl, ⟨.inl rfl, (cv_nil rfl), .inl rfl, .inl rfl, trivial⟩⟩, Nat.le_of_ble_eq_true rfl, cells_of rfl⟩, trivial⟩ (Nat.le_of_ble_eq_true rfl)) <| Re <| Gg (L1' := [some (⟨4, [.own 1 (((z * 64)).toNat), .b (slT 2 penB ([])), vI .i64 ((-1)), vB (false)], true⟩), some (rowK .u8 (List.replicate ((z * 64)).toNat 0))]) [12, 10] (.name _ _ (.ptr 0 (0)) _ _ rfl rfl rfl (.val _ _ _ _ _ rfl rfl rfl .nil)) (.tup _ rfl rfl) rfl rfl
theorem k17i (z : Int) (h : z < 1 ∨ 1024 < z) : VF Try.prog 17 [numB .i64 (z)] (.tup [.lit (.pointer none), numB .i64 1]) := by
  refine VF_of P_mixed Try.func17 rfl rfl (by kernel_rfl) <| Sq <| Rg <| Vs (As rfl) <| Vs (As rfl) <| Nx <| Sq <| Sq <| Rg <| Vs (Mv rfl) <| Vs (Bi rfl) <| Vs (Mv rfl) <| Sp 6 rfl (fun hc1 => ?_) (fun hc1 => ?_)
  · replace hc1 := of_decide_eq_true hc1
    exact Sk rfl <| Sk rfl <| Vs (Pk rfl) <| Nx <| Cy rfl <| Sq <| Rg <| Vs (As rfl) <| Vs (As rfl) <| Nx <| Re <| Tr <| Fi (l := [.lit (.pointer none), numB .i64 (1)]) (Rc (resVar_tmp rfl rfl) (Rc (resVar_tmp rfl rfl) Rn)) rfl
  · replace hc1 := of_decide_eq_false hc1
    refine Vs (Mv rfl) <| Vs (Bi rfl) <| Vs (Pk rfl) <| Nx <| Cd rfl (fun hc2 => ?_) (fun hc2 => ?_)
    · replace hc2 := of_decide_eq_true hc2
      exact Sq <| Rg <| Vs (As rfl) <| Vs (As rfl) <| Nx <| Re <| Tr <| Fi (l := [.lit (.pointer none), numB .i64 (1)]) (Rc (resVar_tmp rfl rfl) (Rc (resVar_tmp rfl rfl) Rn)) rfl
    · replace hc2 := of_decide_eq_false hc2
      exfalso; omega
end Go.VL

/- Walks over the Go functions, printed by a program of this session over the kit's print, and by hand. -/
set_option linter.unusedVariables false
set_option linter.unusedSimpArgs false
set_option maxRecDepth 100000
namespace Go.VL
open Go.Proofs
theorem k21 {n m : Nat} {d : Dk} (hd : d.Ok n m) (hm : m ≤ 100000) (s : Int) : VG Try.prog 21 [.ptr 0 (0), vI .i64 (s)] [⟨4, [.own 1 (n), .b (slT 2 penB (d.pen)), vI .i64 (d.fuse), vB (d.off)], true⟩, rowK .u8 (d.dur)] (.b (.tup [slK .u8 (d.readR n s).2.1, numB .i64 (d.readR n s).2.2])) [some (⟨4, [.own 1 (n), .b (slT 2 penB (((d.readR n s).1).pen)), vI .i64 (((d.readR n s).1).fuse), vB (((d.readR n s).1).off)], true⟩), some (rowK .u8 (((d.readR n s).1).dur))] := by
  have hlen := hd.len
  have hlo := hd.lo
  have hhi := hd.hi
  have hwh := hd.whole
  have hpl := hd.pen
  obtain ⟨hf1, hf2⟩ := hd.fu
  have hbl := hd.burn.len
  have hbp := hd.burn.pen
  refine VGp_of P_mixed Try.func21 rfl rfl (by kernel_rfl) (by simp) rfl <| Sq <| Rg <| Vs (As rfl) <| Vs (As rfl) <| Nx <| Sq <| Bk <| Sq <| Rg <| Vs (Mv rfl) <| Vs (Pe TU22 rfl) <| Vs (As rfl) <| Nx <| Cz rfl <| Sq <| Rg <| Vs (Mv rfl) <| Vs (Nk rfl) <| Vs (Fa TF88_3 rfl) <| Vs (Ld TA4 rfl) <| Vs (As rfl) <| Nx <| Cd rfl (fun hc1 => ?_) (fun hc1 => ?_)
  · replace hc1 := hc1
    have e : d.readR n s = (d, [], 290) := by simp [Dk.readR, hc1]
    exact Sq <| Rg <| Vs (As rfl) <| Vs (As rfl) <| Nx <| Re <| Iq <| Tr <| Gg (L1' := [some (⟨4, [.own 1 (n), .b (slT 2 penB (d.pen)), vI .i64 (d.fuse), vB (d.off)], true⟩), some (rowK .u8 (d.dur))]) [0, 1] (.val _ _ _ _ _ rfl rfl rfl (.val _ _ _ _ _ rfl rfl rfl .nil)) (.vals _ [u32S ([]), numB .i64 (290)] rfl rfl) (by rw [e]; rfl) (by rw [e])
  · replace hc1 := hc1
    refine Sq <| Rg <| Vs (Mv rfl) <| Vs (Mv rfl) <| Gm 14 [0, 1] [] (v := vB ((hasS n s))) [(0, ⟨4, [.own 1 (n), .b (slT 2 penB (d.pen)), vI .i64 (d.fuse), vB (d.off)], true⟩), (1, rowK .u8 (d.dur))] rfl (k55 hd hm s) rfl <| Vs (Un rfl) <| Vs (As rfl) <| Nx <| Cd rfl (fun hc2 => ?_) (fun hc2 => ?_)
    · replace hc2 := (bnot_t hc2)
      have e : d.readR n s = (d, [], 1) := by simp [Dk.readR, hc1, hc2]
      exact Sq <| Rg <| Vs (As rfl) <| Vs (As rfl) <| Nx <| Re <| Iq <| Tr <| Gg (L1' := [some (⟨4, [.own 1 (n), .b (slT 2 penB (d.pen)), vI .i64 (d.fuse), vB (d.off)], true⟩), some (rowK .u8 (d.dur))]) [0, 1] (.val _ _ _ _ _ rfl rfl rfl (.val _ _ _ _ _ rfl rfl rfl .nil)) (.vals _ [u32S ([]), numB .i64 (1)] rfl rfl) (by rw [e]; rfl) (by rw [e])
    · replace hc2 := (bnot_f hc2)
      obtain ⟨j0, j1⟩ := hasS_in hc2 hwh
      refine Sq <| Rg <| Vs (Mv rfl) <| Gm 18 [0, 1] [] (v := vB (d.out)) [(0, ⟨4, [.own 1 (n), .b (slT 2 penB ((d.burn).pen)), vI .i64 ((d.burn).fuse), vB ((d.burn).off)], true⟩), (1, rowK .u8 ((d.burn).dur))] rfl (k56 hd hm) rfl <| Vs (As rfl) <| Nx <| Cd rfl (fun hc3 => ?_) (fun hc3 => ?_)
      · replace hc3 := hc3
        have e : d.readR n s = (d.burn, [], 290) := by simp [Dk.readR, hc1, hc2, hc3]
        exact Sq <| Rg <| Vs (As rfl) <| Vs (As rfl) <| Nx <| Re <| Iq <| Tr <| Gg (L1' := [some (⟨4, [.own 1 (n), .b (slT 2 penB ((d.burn).pen)), vI .i64 ((d.burn).fuse), vB ((d.burn).off)], true⟩), some (rowK .u8 ((d.burn).dur))]) [0, 1] (.val _ _ _ _ _ rfl rfl rfl (.val _ _ _ _ _ rfl rfl rfl .nil)) (.vals _ [u32S ([]), numB .i64 (290)] rfl rfl) (by rw [e]; rfl) (by rw [e])
      · replace hc3 := hc3
        refine Ks <| Ig <| Tg <| Sq <| Rg <| Vs (Mk 20 TK27 rfl) <| Vs (As rfl) <| Nx <| Sq <| Rg <| Vs (Mv rfl) <| Vs (Mv rfl) <| Vs (Mv rfl) <| Gm 25 [0, 1] [] (v := .win 1 ((s * 64).toNat) (64)) [(0, ⟨4, [.own 1 (n), .b (slT 2 penB ((d.burn).pen)), vI .i64 ((d.burn).fuse), vB ((d.burn).off)], true⟩), (1, rowK .u8 ((d.burn).dur)), (20, rowK .u8 (List.replicate 64 0))] rfl (k57 hd.burn hm j0 j1) rfl <| Vs (Cp3 TK27 rfl (Rw rfl)) <| Nx <| Sq <| Sq <| Rg <| Vs (Mv rfl) <| Vs (Nk rfl) <| Vs (Fa TF88_1 rfl) <| Vs (Ld TA86 rfl) <| Vs (Lst penB_len TU86 rfl) <| Vs (Mv rfl) <| Nx <| Bk <| VCode.loop (α := (Nat) × (List Int)) (fun x_ => match x_ with | (i, R) => (21, sl [(1, vI .i64 (s)), (6, .own 20 (64)), (34, .b (slT 2 penB ((d.burn).pen))), (35, vI .i64 ((((d.burn).pen).length : Int))), (36, vI .i64 ((i : Int)))], en [(0, ⟨4, [.own 1 (n), .b (slT 2 penB ((d.burn).pen)), vI .i64 ((d.burn).fuse), vB ((d.burn).off)], true⟩), (1, rowK .u8 ((d.burn).dur)), (20, rowK .u8 (R))])) (fun x_ => match x_ with | (i, R) => i ≤ d.burn.pen.length ∧ R = rdL s d.burn.pen (cpw (List.replicate 64 0) 0 64 (sec d.burn.dur s)) i) (fun x_ => match x_ with | (i, R) => d.burn.pen.length - i) (0, cpw (List.replicate 64 0) 0 64 (sec d.burn.dur s)) ⟨Nat.zero_le _, rfl⟩ Wk ?_
        rintro ⟨i, R⟩ hok
        obtain ⟨hi, hR⟩ := hok
        have hRl : R.length = 64 := by rw [hR]; exact rdL_len (by rw [cpw_len (by simp)]; simp) i
        change VCode _ _ _ 21 (sl _) (en _) _
        refine Sq <| Rg <| Vs (Bi rfl) <| Nx <| Sq <| Cd rfl (fun hc4 => ?_) (fun hc4 => ?_)
        · replace hc4 := of_decide_eq_true hc4
          refine Ks <| Tg <| Sq <| Bk <| Sq <| Rg <| Vs (IxT penB_len TU86 TS91 rfl (by first | omega | (simp; done) | (simp; omega)) (gd (d := w0) (j := i) (by first | omega | (simp; done) | (simp; omega))) rfl) <| Vs (LqS TA91 TS91 rfl) <| Vs (Al 24 TZ91 rfl) <| Vs (StS TS91 rfl) <| Nx <| Sq <| Rg <| Vs (Fa TF91_0 rfl) <| Vs (Ld TA3 rfl) <| Vs (Mv rfl) <| Vs (Bi rfl) <| Nx <| Cd rfl (fun hc5 => ?_) (fun hc5 => ?_)
          · replace hc5 := eq_of_beq hc5
            exact Rg <| Vs (Mv rfl) <| Vs (Fa TF91_1 rfl) <| Vs (Ld TA27 rfl) <| Vs (Cp3 TK27 rfl rfl) <| VList.nil <| Ig <| Tg <| Rg <| Vs (Bo rfl adI) <| Vs (Mv rfl) <| VList.nil <| Go (i + 1, cpw (R) (0) (64) ((((d.burn).pen).getD (i) w0).2)) (by first | exact ⟨by omega, by simp only [rdL]; rw [if_pos hc5, ← hR]⟩ | exact ⟨by omega, by simp only [rdL]; rw [if_neg hc5]; exact hR⟩) Wk
          · replace hc5 := ne_of_beq_false hc5
            exact Ks <| Ig <| Tg <| Rg <| Vs (Bo rfl adI) <| Vs (Mv rfl) <| VList.nil <| Go (i + 1, R) (by first | exact ⟨by omega, by simp only [rdL]; rw [if_pos hc5, ← hR]⟩ | exact ⟨by omega, by simp only [rdL]; rw [if_neg hc5]; exact hR⟩) Wk
        · replace hc4 := of_decide_eq_false hc4
          have e : d.readR n s = (d.burn, rdS d s, 0) := by simp [Dk.readR, hc1, hc2, hc3]
          have hR2 : R = rdS d s := by
            have hi2 : i = d.burn.pen.length := by omega
            rw [hR, hi2]; simp only [rdS, burn_pen, burn_dur]
          exact Ke <| Te <| Oe <| Ih <| Tg <| Sq <| Rg <| Vs (Mv rfl) <| Vs (As rfl) <| Vs (As rfl) <| Nx <| Re <| Gg (L1' := [some (⟨4, [.own 1 (n), .b (slT 2 penB ((d.burn).pen)), vI .i64 ((d.burn).fuse), vB ((d.burn).off)], true⟩), some (rowK .u8 ((d.burn).dur))]) [0, 1] (.val _ _ _ _ _ rfl (Rr rfl (hl := by simpa using hRl)) rfl (.val _ _ _ _ _ rfl rfl rfl .nil)) (.vals _ [slK .u8 (R), numB .i64 (0)] rfl rfl) (by rw [e, hR2]) (by rw [e])
end Go.VL

/- Walks over the Go functions, printed by a program of this session over the kit's print, and by hand. -/
set_option linter.unusedVariables false
set_option linter.unusedSimpArgs false
set_option maxRecDepth 100000
namespace Go.VL
open Go.Proofs
theorem k20 {n m : Nat} {d : Dk} (hd : d.Ok n m) (hm : m ≤ 100000) (s : Int) {b : List Int} (hb : b.length ≤ 100000) : VG Try.prog 20 [.ptr 0 (0), vI .i64 (s), .b (slK .u8 (b))] [⟨4, [.own 1 (n), .b (slT 2 penB (d.pen)), vI .i64 (d.fuse), vB (d.off)], true⟩, rowK .u8 (d.dur)] (vI .i64 (d.writeR n s b).2) [some (⟨4, [.own 1 (n), .b (slT 2 penB (((d.writeR n s b).1).pen)), vI .i64 (((d.writeR n s b).1).fuse), vB (((d.writeR n s b).1).off)], true⟩), some (rowK .u8 (((d.writeR n s b).1).dur))] := by
  have hlen := hd.len
  have hlo := hd.lo
  have hhi := hd.hi
  have hwh := hd.whole
  have hpl := hd.pen
  obtain ⟨hf1, hf2⟩ := hd.fu
  have hbl := hd.burn.len
  have hbp := hd.burn.pen
  refine VGp_of P_mixed Try.func20 rfl rfl (by kernel_rfl) (by simp) rfl <| Sq <| Rg <| Vs (As rfl) <| Nx <| Sq <| Bk <| Sq <| Rg <| Vs (Mv rfl) <| Vs (Pe TU22 rfl) <| Vs (As rfl) <| Nx <| Cz rfl <| Sq <| Rg <| Vs (Mv rfl) <| Vs (Nk rfl) <| Vs (Fa TF88_3 rfl) <| Vs (Ld TA4 rfl) <| Vs (As rfl) <| Nx <| Cd rfl (fun hc1 => ?_) (fun hc1 => ?_)
  · replace hc1 := hc1
    have e : d.writeR n s b = (d, 290) := by simp [Dk.writeR, hc1]
    exact Sq <| Rg <| Vs (As rfl) <| Nx <| Re <| Iq <| Tr <| Gg (L1' := [some (⟨4, [.own 1 (n), .b (slT 2 penB (d.pen)), vI .i64 (d.fuse), vB (d.off)], true⟩), some (rowK .u8 (d.dur))]) [0, 1] (.val _ _ _ _ _ rfl rfl rfl .nil) (.one _) (by rw [e]) (by rw [e])
  · replace hc1 := hc1
    refine Sq <| Rg <| Vs (Mv rfl) <| Vs (Mv rfl) <| Gm 13 [0, 1] [] (v := vB ((hasS n s))) [(0, ⟨4, [.own 1 (n), .b (slT 2 penB (d.pen)), vI .i64 (d.fuse), vB (d.off)], true⟩), (1, rowK .u8 (d.dur))] rfl (k55 hd hm s) rfl <| Vs (Un rfl) <| Vs (Mv rfl) <| Sp 22 rfl (fun hc2 => ?_) (fun hc2 => ?_)
    · replace hc2 := (bnot_t hc2)
      have e : d.writeR n s b = (d, 1) := by simp [Dk.writeR, hc1, hc2]
      exact Sk rfl <| Sk rfl <| Sk rfl <| Vs (Pk rfl) <| Vs (As rfl) <| Nx <| Cy rfl <| Sq <| Rg <| Vs (As rfl) <| Nx <| Re <| Iq <| Tr <| Gg (L1' := [some (⟨4, [.own 1 (n), .b (slT 2 penB (d.pen)), vI .i64 (d.fuse), vB (d.off)], true⟩), some (rowK .u8 (d.dur))]) [0, 1] (.val _ _ _ _ _ rfl rfl rfl .nil) (.one _) (by rw [e]) (by rw [e])
    · replace hc2 := (bnot_f hc2)
      refine Vs (Mv rfl) <| Vs (Ls TK27 rfl) <| Vs (Bi rfl) <| Vs (Pk rfl) <| Vs (As rfl) <| Nx <| Cd rfl (fun hc3 => ?_) (fun hc3 => ?_)
      · replace hc3 := bne_iff_ne.1 hc3
        have hbl64 : b.length ≠ 64 := by omega
        have e : d.writeR n s b = (d, 1) := by simp [Dk.writeR, hc1, hbl64]
        exact Sq <| Rg <| Vs (As rfl) <| Nx <| Re <| Iq <| Tr <| Gg (L1' := [some (⟨4, [.own 1 (n), .b (slT 2 penB (d.pen)), vI .i64 (d.fuse), vB (d.off)], true⟩), some (rowK .u8 (d.dur))]) [0, 1] (.val _ _ _ _ _ rfl rfl rfl .nil) (.one _) (by rw [e]) (by rw [e])
      · replace hc3 := bne_eq_false_iff_eq.1 hc3
        have hbl64 : b.length = 64 := by omega
        have e : d.writeR n s b = ({ d.burn with pen := d.pen ++ [(s, b)] }, if d.out = true then 290 else 0) := by simp [Dk.writeR, hc1, hc2, hbl64]
        have eb := cpw_rep b
        refine Ks <| Ig <| Tg <| Sq <| Rg <| Vs (Mv rfl) <| Gm 22 [0, 1] [] (v := vB (d.out)) [(0, ⟨4, [.own 1 (n), .b (slT 2 penB ((d.burn).pen)), vI .i64 ((d.burn).fuse), vB ((d.burn).off)], true⟩), (1, rowK .u8 ((d.burn).dur))] rfl (k56 hd hm) rfl <| Vs (As rfl) <| Nx <| Sq <| Rg <| Vs (Mv rfl) <| Vs (Ls TK27 rfl) <| Vs (Mk 26 TK27 rfl) <| Vs (As rfl) <| Nx <| Sq <| Rg <| Vs (Mv rfl) <| Vs (Mv rfl) <| Vs (Cp3 TK27 rfl rfl) <| VList.nil <| Cx (n1 := 2) (S1 := [(0, .ptr 0 (0)), (1, vI .i64 (s)), (7, vB (d.out)), (8, .b (slK .u8 (cpw (List.replicate b.length 0) 0 b.length b)))]) (L1 := [(0, ⟨4, [.own 1 (n), .b (slT 2 penB ((d.burn).pen)), vI .i64 ((d.burn).fuse), vB ((d.burn).off)], true⟩), (1, rowK .u8 ((d.burn).dur))]) (Weak.conv (nv := [26]) ⟨⟨⟨_, rfl, .inl rfl⟩, rfl⟩, ⟨⟨_, rfl, .inl rfl⟩, rfl⟩, ⟨⟨_, rfl, .inl rfl⟩, rfl⟩, ⟨⟨_, rfl, cv_own rfl (by rw [cpw_rep, Int.toNat_natCast])⟩, rfl⟩, trivial⟩ ⟨⟨⟨_, rfl, rfl, rfl, ⟨.inl rfl, .inl rfl, .inl rfl, .inl rfl, trivial⟩⟩, Nat.le_of_ble_eq_true rfl, cells_of rfl⟩, ⟨⟨_, rfl, rfl, rfl, Two.same (fun _ => .inl rfl) _⟩, Nat.le_of_ble_eq_true rfl, row_cellsK⟩, trivial⟩ (Nat.le_of_ble_eq_true rfl)) <| Sq <| Rd (by kernel_rfl) <| Vl (Mv rfl) <| Vl (Mv rfl) <| Vl (Nk rfl) <| Vl (Fa TF88_1 rfl) <| Vl (Ld TA86 rfl) <| Vl (Mv rfl) <| Vl (Nk rfl) <| Vl (Fa TF88_1 rfl) <| Vl (Ld TA86 rfl) <| Vl (Lst penB_len TU86 rfl) <| Vl (Mv rfl) <| Vl (Nk rfl) <| Vl (Fa TF88_1 rfl) <| Vl (Ld TA86 rfl) <| Vl (Lst penB_len TU86 rfl) <| Vl (CuT penB_len TU86 TS91 rfl) <| Vl (Mv rfl) <| Vl (Mv rfl) <| Vl (Bd TQ91 rfl) <| Vl (sq1 21 rfl (.buildS _ 1 _ 91 [.agg [vI .i64 (s), .b (slK .u8 (cpw (List.replicate b.length 0) 0 b.length b))]] 2 _ [vI .i64 (s), .b (slK .u8 (cpw (List.replicate b.length 0) 0 b.length b))] rfl TU86 TZ91 TS91 (List.cons_ne_nil _ _) (by decide) rfl rfl)) <| Vl (AcT 22 TU86 TS91 TB91 TN91 (x1 := (s, cpw (List.replicate b.length 0) 0 b.length b)) (f := penB) rfl penB_len) <| Vl (Nk rfl) <| Vl (Fa TF88_1 rfl) <| Vl (St TS86 rfl) <| ?_
        refine VLog.nil ⟨by kernel_rfl, ?_⟩
        refine Cx (n1 := 2) (S1 := [(7, vB (d.out))]) (L1 := [(0, ⟨4, [.own 1 (n), .b (slT 2 penB (d.burn.pen ++ [(s, cpw (List.replicate b.length 0) 0 b.length b)])), vI .i64 ((d.burn).fuse), vB ((d.burn).off)], true⟩), (1, rowK .u8 ((d.burn).dur))]) (Weak.conv (nv := [22]) ⟨⟨⟨_, rfl, .inl rfl⟩, rfl⟩, trivial⟩ ⟨⟨⟨_, rfl, rfl, rfl, ⟨.inl rfl, (cv_ownT penB_len rfl (by first | omega | (simp; done) | (simp; omega))), .inl rfl, .inl rfl, trivial⟩⟩, Nat.le_of_ble_eq_true rfl, cells_of rfl⟩, ⟨⟨_, rfl, rfl, rfl, Two.same (fun _ => .inl rfl) _⟩, Nat.le_of_ble_eq_true rfl, row_cellsK⟩, trivial⟩ (Nat.le_of_ble_eq_true rfl)) <| Sq <| Sq <| Rg <| Vs (Mv rfl) <| Nx <| Cd rfl (fun hc4 => ?_) (fun hc4 => ?_)
        · replace hc4 := hc4
          rw [if_pos hc4] at e
          exact Sq <| Rg <| Vs (As rfl) <| Nx <| Re <| Tr <| Gg (L1' := [some (⟨4, [.own 1 (n), .b (slT 2 penB (d.burn.pen ++ [(s, cpw (List.replicate b.length 0) 0 b.length b)])), vI .i64 ((d.burn).fuse), vB ((d.burn).off)], true⟩), some (rowK .u8 ((d.burn).dur))]) [0, 1] (.val _ _ _ _ _ rfl rfl rfl .nil) (.one _) (by rw [e]) (by rw [e, eb, burn_pen])
        · replace hc4 := hc4
          rw [if_neg (by rw [hc4]; decide)] at e
          exact Ks <| Tg <| Sq <| Rg <| Vs (As rfl) <| Nx <| Re <| Gg (L1' := [some (⟨4, [.own 1 (n), .b (slT 2 penB (d.burn.pen ++ [(s, cpw (List.replicate b.length 0) 0 b.length b)])), vI .i64 ((d.burn).fuse), vB ((d.burn).off)], true⟩), some (rowK .u8 ((d.burn).dur))]) [0, 1] (.val _ _ _ _ _ rfl rfl rfl .nil) (.one _) (by rw [e]) (by rw [e, eb, burn_pen])
theorem k25 {n m : Nat} {d : Dk} (hd : d.Ok n m) (hm : m ≤ 100000) : VG Try.prog 25 [.ptr 0 (0)] [⟨4, [.own 1 (n), .b (slT 2 penB (d.pen)), vI .i64 (d.fuse), vB (d.off)], true⟩, rowK .u8 (d.dur)] (vI .i64 d.syncR.2) [some (⟨4, [.own 1 (n), .b (slT 2 penB ((d.syncR.1).pen)), vI .i64 ((d.syncR.1).fuse), vB ((d.syncR.1).off)], true⟩), some (rowK .u8 ((d.syncR.1).dur))] := by
  have hlen := hd.len
  have hlo := hd.lo
  have hhi := hd.hi
  have hwh := hd.whole
  have hpl := hd.pen
  obtain ⟨hf1, hf2⟩ := hd.fu
  have hbl := hd.burn.len
  have hbp := hd.burn.pen
  refine VGp_of P_mixed Try.func25 rfl rfl (by kernel_rfl) (by simp) rfl <| Sq <| Rg <| Vs (As rfl) <| Nx <| Sq <| Bk <| Sq <| Rg <| Vs (Mv rfl) <| Vs (Pe TU22 rfl) <| Vs (As rfl) <| Nx <| Cz rfl <| Sq <| Rg <| Vs (Mv rfl) <| Vs (Nk rfl) <| Vs (Fa TF88_3 rfl) <| Vs (Ld TA4 rfl) <| Vs (Mv rfl) <| Sp 13 rfl (fun hc1 => ?_) (fun hc1 => ?_)
  · replace hc1 := hc1
    have e : d.syncR = (d, 290) := by simp [Dk.syncR, hc1]
    exact Sk rfl <| Sk rfl <| Vs (Pk rfl) <| Vs (As rfl) <| Nx <| Cy rfl <| Sq <| Rg <| Vs (As rfl) <| Nx <| Re <| Iq <| Tr <| Gg (L1' := [some (⟨4, [.own 1 (n), .b (slT 2 penB (d.pen)), vI .i64 (d.fuse), vB (d.off)], true⟩), some (rowK .u8 (d.dur))]) [0, 1] (.val _ _ _ _ _ rfl rfl rfl .nil) (.one _) (by rw [e]) (by rw [e])
  · replace hc1 := hc1
    refine Vs (Mv rfl) <| Gm 12 [0, 1] [] (v := vB (d.out)) [(0, ⟨4, [.own 1 (n), .b (slT 2 penB ((d.burn).pen)), vI .i64 ((d.burn).fuse), vB ((d.burn).off)], true⟩), (1, rowK .u8 ((d.burn).dur))] rfl (k56 hd hm) rfl <| Vs (Pk rfl) <| Vs (As rfl) <| Nx <| Cd rfl (fun hc2 => ?_) (fun hc2 => ?_)
    · replace hc2 := hc2
      have e : d.syncR = (d.burn, 290) := by simp [Dk.syncR, hc1, hc2]
      exact Sq <| Rg <| Vs (As rfl) <| Nx <| Re <| Iq <| Tr <| Gg (L1' := [some (⟨4, [.own 1 (n), .b (slT 2 penB ((d.burn).pen)), vI .i64 ((d.burn).fuse), vB ((d.burn).off)], true⟩), some (rowK .u8 ((d.burn).dur))]) [0, 1] (.val _ _ _ _ _ rfl rfl rfl .nil) (.one _) (by rw [e]) (by rw [e])
    · replace hc2 := hc2
      refine Ks <| Ig <| Tg <| Sq <| Sq <| Rg <| Vs (Mv rfl) <| Vs (Nk rfl) <| Vs (Fa TF88_1 rfl) <| Vs (Ld TA86 rfl) <| Vs (Lst penB_len TU86 rfl) <| Vs (Mv rfl) <| Nx <| Bk <| VCode.loop (α := (Nat)) (fun i => (2, sl [(0, .ptr 0 (0)), (20, .b (slT 2 penB ((d.burn).pen))), (21, vI .i64 ((((d.burn).pen).length : Int))), (22, vI .i64 ((i : Int)))], en [(0, ⟨4, [.own 1 (n), .b (slT 2 penB ((d.burn).pen)), vI .i64 ((d.burn).fuse), vB ((d.burn).off)], true⟩), (1, rowK .u8 (syL d.burn.pen d.burn.dur i))])) (fun i => i ≤ d.burn.pen.length) (fun i => d.burn.pen.length - i) (0) (Nat.zero_le _) Wk ?_
      intro i hok
      have hsl := syL_len hd.burn i hok
      change VCode _ _ _ 2 (sl _) (en _) _
      refine Sq <| Rg <| Vs (Bi rfl) <| Nx <| Sq <| Cd rfl (fun hc3 => ?_) (fun hc3 => ?_)
      · replace hc3 := of_decide_eq_true hc3
        obtain ⟨j0, j1, j2⟩ := hd.burn.at (i := i) (by omega)
        refine Ks <| Tg <| Sq <| Bk <| Sq <| Rg <| Vs (IxT penB_len TU86 TS91 rfl (by first | omega | (simp; done) | (simp; omega)) (gd (d := w0) (j := i) (by first | omega | (simp; done) | (simp; omega))) rfl) <| Vs (LqS TA91 TS91 rfl) <| Vs (Al 5 TZ91 rfl) <| Vs (StS TS91 rfl) <| Nx <| Rd (by kernel_rfl) <| Vl (Mv rfl) <| Vl (Fa TF91_0 rfl) <| Vl (Ld TA3 rfl) <| Gl [0, 1] [] [(0, some (⟨4, [.own 1 (n), .b (slT 2 penB ((d.burn).pen)), vI .i64 ((d.burn).fuse), vB ((d.burn).off)], true⟩)), (1, some (rowK .u8 (syL d.burn.pen d.burn.dur i)))] rfl (k57 (hd.burn.syL hok) hm j0 j1) rfl <| Vl (Fa TF91_1 rfl) <| Vl (Ld TA27 rfl) <| Vl (Cv3 TK27 rfl rfl) <| ?_
        refine VLog.nil ⟨by kernel_rfl, ?_⟩
        exact Ig <| Tg <| Rg <| Vs (Bo rfl adI) <| Vs (Mv rfl) <| VList.nil <| Go (i + 1) (by omega) Wk
      · replace hc3 := of_decide_eq_false hc3
        have e : d.syncR = ({ d.burn with dur := syL d.pen d.dur d.pen.length, pen := [] }, 0) := by simp [Dk.syncR, hc1, hc2]
        have hi2 : i = d.burn.pen.length := by omega
        exact Ke <| Te <| Oe <| Ih <| Tg <| Sq <| Rg <| Vs (Mv rfl) <| Vs (Nk rfl) <| Vs (Fa TF88_1 rfl) <| Vs (St TS86 rfl) <| VList.nil <| Cx (n1 := 2) (S1 := []) (L1 := [(0, ⟨4, [.own 1 (n), .b (slT 2 penB ([])), vI .i64 ((d.burn).fuse), vB ((d.burn).off)], true⟩), (1, rowK .u8 (syL d.burn.pen d.burn.dur i))]) (Weak.conv (nv := []) trivial ⟨⟨⟨_, rfl, rfl, rfl, ⟨.inl rfl, (cv_nil rfl), .inl rfl, .inl rfl, trivial⟩⟩, Nat.le_of_ble_eq_true rfl, cells_of rfl⟩, ⟨⟨_, rfl, rfl, rfl, Two.same (fun _ => .inl rfl) _⟩, Nat.le_of_ble_eq_true rfl, row_cellsK⟩, trivial⟩ (Nat.le_of_ble_eq_true rfl)) <| Sq <| Rg <| Vs (As rfl) <| Nx <| Re <| Gg (L1' := [some (⟨4, [.own 1 (n), .b (slT 2 penB ([])), vI .i64 ((d.burn).fuse), vB ((d.burn).off)], true⟩), some (rowK .u8 (syL d.burn.pen d.burn.dur i))]) [0, 1] (.val _ _ _ _ _ rfl rfl rfl .nil) (.one _) (by rw [e]) (by rw [e, hi2, burn_pen, burn_dur])
end Go.VL

/- Walks over the Go functions, printed by a program of this session over the kit's print, and by hand. -/
set_option linter.unusedVariables false
set_option linter.unusedSimpArgs false
set_option maxRecDepth 100000
namespace Go.VL
open Go.Proofs
theorem k24 {n m : Nat} {d : Dk} (hd : d.Ok n m) (hm : m ≤ 100000) {keep : List Int} (hk : keep.length ≤ 9223372036854775807) (torn : Int) : VG Try.prog 24 [.ptr 0 (0), .b (slK .i64 (keep)), vI .i64 (torn)] [⟨4, [.own 1 (n), .b (slT 2 penB (d.pen)), vI .i64 (d.fuse), vB (d.off)], true⟩, rowK .u8 (d.dur)] (.b (.tup [])) [some (⟨4, [.own 1 (n), .b (slT 2 penB ((d.bootR keep torn).pen)), vI .i64 ((d.bootR keep torn).fuse), vB ((d.bootR keep torn).off)], true⟩), some (rowK .u8 ((d.bootR keep torn).dur))] := by
  have hlen := hd.len
  have hlo := hd.lo
  have hhi := hd.hi
  have hwh := hd.whole
  have hpl := hd.pen
  obtain ⟨hf1, hf2⟩ := hd.fu
  refine VGw_of P_mixed Try.func24 rfl rfl (by kernel_rfl) (by simp) rfl <| Sq <| Sq <| Rg <| Vs (Mv rfl) <| Vs (Pe TU22 rfl) <| Nx <| Cz rfl <| Ks <| Tg <| Sq <| Rg <| Vs (Mv rfl) <| Vs (Nk rfl) <| Vs (Fa TF88_1 rfl) <| Vs (Ld TA86 rfl) <| Vs (Lst penB_len TU86 rfl) <| Vs (MkT 9 false boB_len TU45 TZ4 TS4 TB4 rfl) <| Vs (As rfl) <| Nx <| Sq <| Rg <| Vs (As rfl) <| Nx <| Sq <| Sq <| Rg <| Vs (Mv rfl) <| Vs (Ls TK29 rfl) <| Vs (Mv rfl) <| Nx <| Bk <| VCode.loop (α := (Nat) × (List Bool) × (Int)) (fun x_ => match x_ with | (i, K, l) => (10, sl [(0, .ptr 0 (0)), (2, vI .i64 (torn)), (6, .own 9 (((d.pen).length))), (7, vI .i64 (l)), (21, .b (slK .i64 (keep))), (22, vI .i64 (((keep).length : Int))), (23, vI .i64 ((i : Int)))], en [(0, ⟨4, [.own 1 (n), .b (slT 2 penB (d.pen)), vI .i64 (d.fuse), vB (d.off)], true⟩), (1, rowK .u8 (d.dur)), (9, rowT 1 boB (K))])) (fun x_ => match x_ with | (i, K, l) => i ≤ keep.length ∧ K = (kpL keep d.pen.length i).1 ∧ l = (kpL keep d.pen.length i).2) (fun x_ => match x_ with | (i, K, l) => keep.length - i) (0, List.replicate d.pen.length false, (-1)) ⟨Nat.zero_le _, rfl, rfl⟩ (Wt []) ?_
  rintro ⟨i, K, l⟩ hok
  obtain ⟨hi, hK, hl⟩ := hok
  have hKl : K.length = d.pen.length := by rw [hK]; exact kpL_len i
  change VCode _ _ _ 10 (sl _) (en _) _
  refine Sq <| Rg <| Vs (Bi rfl) <| Nx <| Sq <| Cd rfl (fun hc1 => ?_) (fun hc1 => ?_)
  · replace hc1 := of_decide_eq_true hc1
    refine Ks <| Tg <| Sq <| Bk <| Sq <| Rg <| Vs (IxN TK29 rfl) <| Vs (Lq TA3 rfl) <| Vs (As rfl) <| Nx <| Sq <| Rg <| Vs (Mv rfl) <| Vs (Bi rfl) <| Vs (Mv rfl) <| Sp 29 rfl (fun hc2 => ?_) (fun hc2 => ?_)
    · replace hc2 := of_decide_eq_true hc2
      refine Vs (Mv rfl) <| Vs (Mv rfl) <| Vs (Lo TU45 rfl) <| Vs (Bi rfl) <| Vs (Pk rfl) <| Nx <| Cd rfl (fun hc3 => ?_) (fun hc3 => ?_)
      · replace hc3 := of_decide_eq_true hc3
        exact Sq <| Rg <| Vs (Mv rfl) <| Vs (Mv rfl) <| Vs (IT TU45 TS4 rfl) <| Vs (SrT (true) boB_len TS4 rfl (by first | omega | (simp; done) | (simp; omega))) <| Nx <| Rg <| Vs (Mv rfl) <| Vs (Mv rfl) <| Vs (Mx rfl) <| Vs (As rfl) <| VList.nil <| Ig <| Tg <| Rg <| Vs (Bo rfl adI) <| Vs (Mv rfl) <| VList.nil <| Go (i + 1, (K).set (((keep).getD (i) 0).toNat) (true), (if (keep).getD (i) 0 > l then (keep).getD (i) 0 else l)) (by first | exact ⟨by omega, by rw [kpL_in hc2 hc3, ← hK], by rw [kpL_in hc2 hc3, ← hl]⟩ | exact ⟨by omega, by rw [kpL_hi hc3]; exact hK, by rw [kpL_hi hc3]; exact hl⟩ | exact ⟨by omega, by rw [kpL_lo hc2]; exact hK, by rw [kpL_lo hc2]; exact hl⟩) (Wt [])
      · replace hc3 := of_decide_eq_false hc3
        exact Ks <| Ig <| Tg <| Rg <| Vs (Bo rfl adI) <| Vs (Mv rfl) <| VList.nil <| Go (i + 1, K, l) (by first | exact ⟨by omega, by rw [kpL_in hc2 hc3, ← hK], by rw [kpL_in hc2 hc3, ← hl]⟩ | exact ⟨by omega, by rw [kpL_hi hc3]; exact hK, by rw [kpL_hi hc3]; exact hl⟩ | exact ⟨by omega, by rw [kpL_lo hc2]; exact hK, by rw [kpL_lo hc2]; exact hl⟩) (Wt [])
    · replace hc2 := of_decide_eq_false hc2
      exact Sk rfl <| Sk rfl <| Sk rfl <| Sk rfl <| Vs (Pk rfl) <| Nx <| Cz rfl <| Ks <| Ig <| Tg <| Rg <| Vs (Bo rfl adI) <| Vs (Mv rfl) <| VList.nil <| Go (i + 1, K, l) (by first | exact ⟨by omega, by rw [kpL_in hc2 hc3, ← hK], by rw [kpL_in hc2 hc3, ← hl]⟩ | exact ⟨by omega, by rw [kpL_hi hc3]; exact hK, by rw [kpL_hi hc3]; exact hl⟩ | exact ⟨by omega, by rw [kpL_lo hc2]; exact hK, by rw [kpL_lo hc2]; exact hl⟩) (Wt [])
  · replace hc1 := of_decide_eq_false hc1
    refine Ke <| Te <| Oe <| Ih <| Tg <| Sq <| Sq <| Rg <| Vs (Mv rfl) <| Vs (Nk rfl) <| Vs (Fa TF88_1 rfl) <| Vs (Ld TA86 rfl) <| Vs (Lst penB_len TU86 rfl) <| Vs (Mv rfl) <| Nx <| Bk <| VCode.loop (α := (Nat) × (List Int)) (fun x_ => match x_ with | (j, D) => (10, sl [(0, .ptr 0 (0)), (2, vI .i64 (torn)), (6, .own 9 (((d.pen).length))), (7, vI .i64 (l)), (45, .b (slT 2 penB (d.pen))), (46, vI .i64 (((d.pen).length : Int))), (47, vI .i64 ((j : Int)))], en [(0, ⟨4, [.own 1 (n), .b (slT 2 penB (d.pen)), vI .i64 (d.fuse), vB (d.off)], true⟩), (1, rowK .u8 (D)), (9, rowT 1 boB (K))])) (fun x_ => match x_ with | (j, D) => j ≤ d.pen.length ∧ D = boL K l torn d.pen d.dur j) (fun x_ => match x_ with | (j, D) => d.pen.length - j) (0, d.dur) ⟨Nat.zero_le _, rfl⟩ (Wt []) ?_
    rintro ⟨j, D⟩ hok2
    obtain ⟨hj, hD⟩ := hok2
    have hDl : D.length = n := by rw [hD]; exact boL_len hd j hj
    change VCode _ _ _ 10 (sl _) (en _) _
    refine Sq <| Rg <| Vs (Bi rfl) <| Nx <| Sq <| Cd rfl (fun hc4 => ?_) (fun hc4 => ?_)
    · replace hc4 := of_decide_eq_true hc4
      obtain ⟨j0, j1, j2⟩ := hd.at (i := j) (by omega)
      refine Ks <| Tg <| Sq <| Bk <| Sq <| Rg <| Vs (Mv rfl) <| Vs (IxT penB_len TU86 TS91 rfl (by first | omega | (simp; done) | (simp; omega)) (gd (d := w0) (j := j) (by first | omega | (simp; done) | (simp; omega))) rfl) <| Vs (LqS TA91 TS91 rfl) <| Vs (Al 14 TZ91 rfl) <| Vs (As rfl) <| Vs (StS TS91 rfl) <| Nx <| Sq <| Sq <| Rg <| Vs (Mv rfl) <| Vs (Mv rfl) <| Vs (IT TU45 TS4 rfl) <| Vs (L1T boB_len TA4 rfl (gd (d := false) (j := j) (by first | omega | (simp; done) | (simp; omega))) rfl) <| Vs (Un rfl) <| Nx <| Cd rfl (fun hc5 => ?_) (fun hc5 => ?_)
      · replace hc5 := (bnot_t hc5)
        exact Ke <| Te <| Ih <| Tg <| Rg <| Vs (Bo rfl adI) <| Vs (Mv rfl) <| VList.nil <| Go (j + 1, D) (by first | exact ⟨by omega, by rw [boL_no (by assumption)]; exact hD⟩ | exact ⟨by omega, by rw [boL_y (by assumption) (by assumption) (by assumption) (by assumption), ← hD]; rfl⟩ | exact ⟨by omega, by rw [boL_1 (by assumption) (by assumption), ← hD]; rfl⟩ | exact ⟨by omega, by rw [boL_2 (by assumption) (by assumption), ← hD]; rfl⟩ | exact ⟨by omega, by rw [boL_3 (by assumption) (by assumption), ← hD]; rfl⟩) (Wt [])
      · replace hc5 := (bnot_f hc5)
        refine Ks <| Tg <| Sq <| Rg <| Vs (Fa TF91_1 rfl) <| Vs (Ld TA27 rfl) <| Vs (As rfl) <| Nx <| Sq <| Sq <| Rg <| Vs (Mv rfl) <| Vs (Mv rfl) <| Vs (Bi rfl) <| Vs (Mv rfl) <| Sp 62 rfl (fun hc6 => ?_) (fun hc6 => ?_)
        · replace hc6 := eq_of_beq hc6
          refine Vs (Mv rfl) <| Vs (Bi rfl) <| Vs (Pk rfl) <| Vs (Mv rfl) <| Sp 66 rfl (fun hc7 => ?_) (fun hc7 => ?_)
          · replace hc7 := of_decide_eq_true hc7
            refine Vs (Mv rfl) <| Vs (Mv rfl) <| Vs (Ls TK27 rfl) <| Vs (Bi rfl) <| Vs (Pk rfl) <| Nx <| Cd rfl (fun hc8 => ?_) (fun hc8 => ?_)
            · replace hc8 := of_decide_eq_true hc8
              exact Rg <| Vs (Mv rfl) <| Vs (Mv rfl) <| Vs (Ct TK27 rfl) <| Vs (As rfl) <| Nx <| Rg <| Vs (Mv rfl) <| Vs (Fa TF91_0 rfl) <| Vs (Ld TA3 rfl) <| Gm 45 [0, 1] [] (v := .win 1 (((((d.pen).getD (j) w0).1) * 64).toNat) (64)) [(0, ⟨4, [.own 1 (n), .b (slT 2 penB (d.pen)), vI .i64 (d.fuse), vB (d.off)], true⟩), (1, rowK .u8 (D)), (9, rowT 1 boB (K)), (14, ⟨2, [vI .i64 (((d.pen).getD (j) w0).1), .b (slK .u8 (((d.pen).getD (j) w0).2))], true⟩)] rfl (k57 (hd.ofDur hDl) hm j0 j1) rfl <| Vs (Mv rfl) <| Vs (Cv3 TK27 rfl rfl) <| VList.nil <| Ig <| Tg <| Rg <| Vs (Bo rfl adI) <| Vs (Mv rfl) <| VList.nil <| Go (j + 1, cpw (D) (((((d.pen).getD (j) w0).1) * 64).toNat) (64) ((((d.pen).getD (j) w0).2).take (torn).toNat)) (by first | exact ⟨by omega, by rw [boL_no (by assumption)]; exact hD⟩ | exact ⟨by omega, by rw [boL_y (by assumption) (by assumption) (by assumption) (by assumption), ← hD]; rfl⟩ | exact ⟨by omega, by rw [boL_1 (by assumption) (by assumption), ← hD]; rfl⟩ | exact ⟨by omega, by rw [boL_2 (by assumption) (by assumption), ← hD]; rfl⟩ | exact ⟨by omega, by rw [boL_3 (by assumption) (by assumption), ← hD]; rfl⟩) (Wt [])
            · replace hc8 := of_decide_eq_false hc8
              exact Ks <| Tg <| Rg <| Vs (Mv rfl) <| Vs (Fa TF91_0 rfl) <| Vs (Ld TA3 rfl) <| Gm 41 [0, 1] [] (v := .win 1 (((((d.pen).getD (j) w0).1) * 64).toNat) (64)) [(0, ⟨4, [.own 1 (n), .b (slT 2 penB (d.pen)), vI .i64 (d.fuse), vB (d.off)], true⟩), (1, rowK .u8 (D)), (9, rowT 1 boB (K)), (14, ⟨2, [vI .i64 (((d.pen).getD (j) w0).1), .b (slK .u8 (((d.pen).getD (j) w0).2))], true⟩)] rfl (k57 (hd.ofDur hDl) hm j0 j1) rfl <| Vs (Mv rfl) <| Vs (Cv3 TK27 rfl rfl) <| VList.nil <| Ig <| Tg <| Rg <| Vs (Bo rfl adI) <| Vs (Mv rfl) <| VList.nil <| Go (j + 1, cpw (D) (((((d.pen).getD (j) w0).1) * 64).toNat) (64) (((d.pen).getD (j) w0).2)) (by first | exact ⟨by omega, by rw [boL_no (by assumption)]; exact hD⟩ | exact ⟨by omega, by rw [boL_y (by assumption) (by assumption) (by assumption) (by assumption), ← hD]; rfl⟩ | exact ⟨by omega, by rw [boL_1 (by assumption) (by assumption), ← hD]; rfl⟩ | exact ⟨by omega, by rw [boL_2 (by assumption) (by assumption), ← hD]; rfl⟩ | exact ⟨by omega, by rw [boL_3 (by assumption) (by assumption), ← hD]; rfl⟩) (Wt [])
          · replace hc7 := of_decide_eq_false hc7
            exact Sk rfl <| Sk rfl <| Sk rfl <| Sk rfl <| Vs (Pk rfl) <| Nx <| Cz rfl <| Ks <| Tg <| Rg <| Vs (Mv rfl) <| Vs (Fa TF91_0 rfl) <| Vs (Ld TA3 rfl) <| Gm 41 [0, 1] [] (v := .win 1 (((((d.pen).getD (j) w0).1) * 64).toNat) (64)) [(0, ⟨4, [.own 1 (n), .b (slT 2 penB (d.pen)), vI .i64 (d.fuse), vB (d.off)], true⟩), (1, rowK .u8 (D)), (9, rowT 1 boB (K)), (14, ⟨2, [vI .i64 (((d.pen).getD (j) w0).1), .b (slK .u8 (((d.pen).getD (j) w0).2))], true⟩)] rfl (k57 (hd.ofDur hDl) hm j0 j1) rfl <| Vs (Mv rfl) <| Vs (Cv3 TK27 rfl rfl) <| VList.nil <| Ig <| Tg <| Rg <| Vs (Bo rfl adI) <| Vs (Mv rfl) <| VList.nil <| Go (j + 1, cpw (D) (((((d.pen).getD (j) w0).1) * 64).toNat) (64) (((d.pen).getD (j) w0).2)) (by first | exact ⟨by omega, by rw [boL_no (by assumption)]; exact hD⟩ | exact ⟨by omega, by rw [boL_y (by assumption) (by assumption) (by assumption) (by assumption), ← hD]; rfl⟩ | exact ⟨by omega, by rw [boL_1 (by assumption) (by assumption), ← hD]; rfl⟩ | exact ⟨by omega, by rw [boL_2 (by assumption) (by assumption), ← hD]; rfl⟩ | exact ⟨by omega, by rw [boL_3 (by assumption) (by assumption), ← hD]; rfl⟩) (Wt [])
        · replace hc6 := ne_of_beq_false hc6
          exact Sk rfl <| Sk rfl <| Vs (Pk rfl) <| Vs (Mv rfl) <| Sk rfl <| Sk rfl <| Sk rfl <| Sk rfl <| Vs (Pk rfl) <| Nx <| Cz rfl <| Ks <| Tg <| Rg <| Vs (Mv rfl) <| Vs (Fa TF91_0 rfl) <| Vs (Ld TA3 rfl) <| Gm 41 [0, 1] [] (v := .win 1 (((((d.pen).getD (j) w0).1) * 64).toNat) (64)) [(0, ⟨4, [.own 1 (n), .b (slT 2 penB (d.pen)), vI .i64 (d.fuse), vB (d.off)], true⟩), (1, rowK .u8 (D)), (9, rowT 1 boB (K)), (14, ⟨2, [vI .i64 (((d.pen).getD (j) w0).1), .b (slK .u8 (((d.pen).getD (j) w0).2))], true⟩)] rfl (k57 (hd.ofDur hDl) hm j0 j1) rfl <| Vs (Mv rfl) <| Vs (Cv3 TK27 rfl rfl) <| VList.nil <| Ig <| Tg <| Rg <| Vs (Bo rfl adI) <| Vs (Mv rfl) <| VList.nil <| Go (j + 1, cpw (D) (((((d.pen).getD (j) w0).1) * 64).toNat) (64) (((d.pen).getD (j) w0).2)) (by first | exact ⟨by omega, by rw [boL_no (by assumption)]; exact hD⟩ | exact ⟨by omega, by rw [boL_y (by assumption) (by assumption) (by assumption) (by assumption), ← hD]; rfl⟩ | exact ⟨by omega, by rw [boL_1 (by assumption) (by assumption), ← hD]; rfl⟩ | exact ⟨by omega, by rw [boL_2 (by assumption) (by assumption), ← hD]; rfl⟩ | exact ⟨by omega, by rw [boL_3 (by assumption) (by assumption), ← hD]; rfl⟩) (Wt [])
    · replace hc4 := of_decide_eq_false hc4
      exact Ke <| Te <| Oe <| Ih <| Tg <| Rg <| Vs (Mv rfl) <| Vs (Mv rfl) <| Vs (Mv rfl) <| Vs (Nk rfl) <| Vs (Fa TF88_1 rfl) <| Vs (St TS86 rfl) <| Vs (Nk rfl) <| Vs (Fa TF88_3 rfl) <| Vs (St TS4 rfl) <| Vs (Nk rfl) <| Vs (Fa TF88_2 rfl) <| Vs (St TS3 rfl) <| VList.nil <| Px (n1 := 2) (S2 := []) (L2 := [(0, ⟨4, [.own 1 (n), .b (slT 2 penB ([])), vI .i64 ((-1)), vB (false)], true⟩), (1, rowK .u8 (D))]) (Weak.conv (nv := []) trivial ⟨⟨⟨_, rfl, rfl, rfl, ⟨.inl rfl, (cv_nil rfl), .inl rfl, .inl rfl, trivial⟩⟩, Nat.le_of_ble_eq_true rfl, cells_of rfl⟩, ⟨⟨_, rfl, rfl, rfl, Two.same (fun _ => .inl rfl) _⟩, Nat.le_of_ble_eq_true rfl, row_cellsK⟩, trivial⟩ (Nat.le_of_ble_eq_true rfl)) <| Gg (L1' := [some (⟨4, [.own 1 (n), .b (slT 2 penB ([])), vI .i64 ((-1)), vB (false)], true⟩), some (rowK .u8 (D))]) [0, 1] .nil (.vals _ [] rfl rfl) rfl (by rw [hD, show j = d.pen.length by omega, hK, hl, show i = keep.length by omega]; rfl)
end Go.VL

/- Walks over the Go functions, printed by a program of this session over the kit's print, and by hand. -/
set_option linter.unusedVariables false
set_option linter.unusedSimpArgs false
set_option maxRecDepth 100000
namespace Go.VL
open Go.Proofs
theorem k38 {n m : Nat} {d : Dk} (hd : d.Ok n m) (hm : m ≤ 100000) (s k : Int) : VG Try.prog 38 [.ptr 0 (0), vI .i64 (s), vI .i64 (k)] [⟨4, [.own 1 (n), .b (slT 2 penB (d.pen)), vI .i64 (d.fuse), vB (d.off)], true⟩, rowK .u8 (d.dur)] (vI .i64 (d.rotR n s k).2) [some (⟨4, [.own 1 (n), .b (slT 2 penB (((d.rotR n s k).1).pen)), vI .i64 (((d.rotR n s k).1).fuse), vB (((d.rotR n s k).1).off)], true⟩), some (rowK .u8 (((d.rotR n s k).1).dur))] := by
  have hlen := hd.len
  have hlo := hd.lo
  have hhi := hd.hi
  have hwh := hd.whole
  have hpl := hd.pen
  obtain ⟨hf1, hf2⟩ := hd.fu
  refine VGp_of P_mixed Try.func38 rfl rfl (by kernel_rfl) (by simp) rfl <| Sq <| Rg <| Vs (As rfl) <| Nx <| Sq <| Sq <| Rg <| Vs (Mv rfl) <| Vs (Pe TU22 rfl) <| Vs (Mv rfl) <| Vs (Mv rfl) <| Vs (Mv rfl) <| Gm 8 [0, 1] [] (v := vB ((hasS n s))) [(0, ⟨4, [.own 1 (n), .b (slT 2 penB (d.pen)), vI .i64 (d.fuse), vB (d.off)], true⟩), (1, rowK .u8 (d.dur))] rfl (k55 hd hm s) rfl <| Vs (Un rfl) <| Vs (Pk rfl) <| Vs (Mv rfl) <| Sp 15 rfl (fun hc1 => ?_) (fun hc1 => ?_)
  · replace hc1 := (bnot_t hc1)
    have e : d.rotR n s k = (d, 1) := by rw [Dk.rotR, if_pos (.inl hc1)]
    exact Sk rfl <| Sk rfl <| Vs (Pk rfl) <| Vs (Mv rfl) <| Sk rfl <| Sk rfl <| Vs (Pk rfl) <| Nx <| Cy rfl <| Sq <| Rg <| Vs (As rfl) <| Nx <| Re <| Tr <| Gg (L1' := [some (⟨4, [.own 1 (n), .b (slT 2 penB (d.pen)), vI .i64 (d.fuse), vB (d.off)], true⟩), some (rowK .u8 (d.dur))]) [0, 1] (.val _ _ _ _ _ rfl rfl rfl .nil) (.one _) (by rw [e]) (by rw [e])
  · replace hc1 := (bnot_f hc1)
    obtain ⟨j0, j1⟩ := hasS_in hc1 hwh
    refine Vs (Mv rfl) <| Vs (Bi rfl) <| Vs (Pk rfl) <| Vs (Mv rfl) <| Sp 19 rfl (fun hc2 => ?_) (fun hc2 => ?_)
    · replace hc2 := of_decide_eq_true hc2
      have e : d.rotR n s k = (d, 1) := by rw [Dk.rotR, if_pos (.inr (.inl (by omega)))]
      exact Sk rfl <| Sk rfl <| Vs (Pk rfl) <| Nx <| Cy rfl <| Sq <| Rg <| Vs (As rfl) <| Nx <| Re <| Tr <| Gg (L1' := [some (⟨4, [.own 1 (n), .b (slT 2 penB (d.pen)), vI .i64 (d.fuse), vB (d.off)], true⟩), some (rowK .u8 (d.dur))]) [0, 1] (.val _ _ _ _ _ rfl rfl rfl .nil) (.one _) (by rw [e]) (by rw [e])
    · replace hc2 := of_decide_eq_false hc2
      refine Vs (Mv rfl) <| Vs (Bi rfl) <| Vs (Pk rfl) <| Nx <| Cd rfl (fun hc3 => ?_) (fun hc3 => ?_)
      · replace hc3 := of_decide_eq_true hc3
        have e : d.rotR n s k = (d, 1) := by rw [Dk.rotR, if_pos (.inr (.inr (by omega)))]
        exact Sq <| Rg <| Vs (As rfl) <| Nx <| Re <| Tr <| Gg (L1' := [some (⟨4, [.own 1 (n), .b (slT 2 penB (d.pen)), vI .i64 (d.fuse), vB (d.off)], true⟩), some (rowK .u8 (d.dur))]) [0, 1] (.val _ _ _ _ _ rfl rfl rfl .nil) (.one _) (by rw [e]) (by rw [e])
      · replace hc3 := of_decide_eq_false hc3
        have e : d.rotR n s k = ({ d with dur := d.dur.set ((s * 64).toNat + (k / 8).toNat) (flipB (d.dur.getD ((s * 64).toNat + (k / 8).toNat) 0) k) }, 0) := by
          rw [Dk.rotR, if_neg (by rintro (h | h | h) <;> first | omega | (rw [hc1] at h; cases h))]
        refine Ks <| Tg <| Sq <| Rd (by kernel_rfl) <| Vl (Mv rfl) <| Vl (Mv rfl) <| Gl [0, 1] [] [(0, some (⟨4, [.own 1 (n), .b (slT 2 penB (d.pen)), vI .i64 (d.fuse), vB (d.off)], true⟩)), (1, some (rowK .u8 (d.dur)))] rfl (k57 hd hm j0 j1) rfl <| Vl (Mv rfl) <| Vl (Bo rfl quI) <| Vl (Iw TU27 TS5 rfl) <| Vl (LrK TA5 rfl) <| Vl (Mv rfl) <| Vl (Bo rfl reI) <| Vl (Bo (c := .int .u8 (2 ^ ((k % 8)).toNat)) rfl (bop_shl1 (by omega) (by omega))) <| Vl (Bo (c := .int .u8 (((BitVec.ofInt 8 ((d.dur).getD (((s * 64).toNat) + ((k / 8)).toNat) 0) ^^^ BitVec.ofInt 8 (2 ^ ((k % 8)).toNat)).toNat : Int))) rfl (bop_xor8)) <| Vl (Iw TU27 TS5 rfl) <| Vl (SrK TS5 rfl) <| ?_
        refine VLog.nil ⟨by kernel_rfl, ?_⟩
        exact Tg <| Sq <| Rg <| Vs (As rfl) <| Nx <| Re <| Gg (L1' := [some (⟨4, [.own 1 (n), .b (slT 2 penB (d.pen)), vI .i64 (d.fuse), vB (d.off)], true⟩), some (rowK .u8 ((d.dur).set (((s * 64).toNat) + ((k / 8)).toNat) (((BitVec.ofInt 8 ((d.dur).getD (((s * 64).toNat) + ((k / 8)).toNat) 0) ^^^ BitVec.ofInt 8 (2 ^ ((k % 8)).toNat)).toNat : Int))))]) [0, 1] (.val _ _ _ _ _ rfl rfl rfl .nil) (.one _) (by rw [e]) (by rw [e]; rfl)
end Go.VL

/- Walks over the Go functions, printed by a program of this session over the kit's print, and by hand. -/
set_option linter.unusedVariables false
set_option linter.unusedSimpArgs false
set_option maxRecDepth 100000
namespace Go.VL
open Go.Proofs
theorem k19 (a : Ca) (ha : a.Ok) : VF Try.prog 19 [.agg [numB .i64 (a.kind), numB .i64 (a.sector), numB .u8 (a.fill), numB .i64 (a.size), numB .i64 (a.n), slK .i64 (a.keep)]] (slK .u8 (bytM a)) := by
  obtain ⟨hf1, hf2⟩ := ha.fill
  obtain ⟨hs1, hs2⟩ := ha.size
  refine VF_of P_mixed Try.func19 rfl rfl (by kernel_rfl) <| Sq <| Rg <| Vs (Bx 0 rfl) <| Vs (As rfl) <| Nx <| Sq <| Rg <| Vs (An rfl) <| Nx <| Sq <| Sq <| Rg <| Vs (As rfl) <| Nx <| Bk <| VCode.loop (α := ((Unit)) ⊕ ((Nat) × (List Int))) (fun x_ => match x_ with | .inl (u) => (1, sl [(1, .ptr 0 (0)), (3, .b .nil), (4, vI .i64 (0))], en [(0, ⟨6, [vI .i64 (a.kind), vI .i64 (a.sector), vI .u8 (a.fill), vI .i64 (a.size), vI .i64 (a.n), .b (slK .i64 (a.keep))], true⟩)]) | .inr (i, O) => (10, sl [(1, .ptr 0 (0)), (3, .own 9 (i)), (4, vI .i64 ((i : Int)))], en [(0, ⟨6, [vI .i64 (a.kind), vI .i64 (a.sector), vI .u8 (a.fill), vI .i64 (a.size), vI .i64 (a.n), .b (slK .i64 (a.keep))], true⟩), (9, rowK .u8 (O))])) (fun x_ => match x_ with | .inl (u) => True | .inr (i, O) => 1 ≤ i ∧ i ≤ 100 ∧ (i : Int) < a.size + 1 ∧ O = bytL a.fill i) (fun x_ => match x_ with | .inl (u) => 200 | .inr (i, O) => 100 - i) (.inl (())) trivial Wk ?_
  rintro (u | ⟨i, O⟩) hok2
  · change VCode _ _ _ 1 (sl _) (en _) _
    refine Sq <| Sq <| Rg <| Vs (Mv rfl) <| Vs (Fa TF31_3 rfl) <| Vs (Ld TA3 rfl) <| Vs (Bi rfl) <| Vs (Mv rfl) <| Sp 9 rfl (fun hc1 => ?_) (fun hc1 => ?_)
    · replace hc1 := of_decide_eq_true hc1
      exact Vs (Mv rfl) <| Vs (Bi (c := .bool true) rfl) <| Vs (Pk rfl) <| Nx <| Cy rfl <| Ks <| Tg <| Sq <| Bk <| Rg <| Vs (Mv rfl) <| Vs (Fa TF31_2 rfl) <| Vs (Ld TA5 rfl) <| Vs (Mv rfl) <| Vs (Cv TU3 TU5 rfl (wrapM_u8 _)) <| Vs (Bo (c := .int .u8 (((a.fill + ((0) % 256)) % 256))) rfl (bop_add8)) <| Vs (L1s 15 TK27 rfl) <| Vs (Apn 16 TK27 rfl (Rr rfl) (hm := (by simp only [maxLen, List.length_singleton]; omega))) <| Vs (As rfl) <| VList.nil <| Ig <| Tg <| Rg <| Vs (Mv rfl) <| Vs (Bo rfl adI) <| Vs (As rfl) <| VList.nil <| Go (.inr (1, [(a.fill + 0 % 256) % 256])) (by exact ⟨by decide, by omega, by omega, rfl⟩) (Wr [(9, 16)])
    · replace hc1 := of_decide_eq_false hc1
      exact Sk rfl <| Sk rfl <| Vs (Pk rfl) <| Nx <| Cz rfl <| Ke <| Te <| Oe <| Ih <| Tg <| Sq <| Rg <| Vs (Mv rfl) <| Vs (As rfl) <| VList.nil <| Cx (n1 := 0) (S1 := [(2, .b (slK .u8 ([])))]) (L1 := []) (Weak.conv (nv := []) ⟨⟨⟨_, rfl, cv_nil rfl⟩, rfl⟩, trivial⟩ trivial (Nat.le_of_ble_eq_true rfl)) <| Re <| Fi (l := [slK .u8 ([])]) (Rc (resVar_tmp rfl rfl) Rn) (by first | (rw [g4, bytM, ← bytN_of (.inl g3) g2 (by omega)]; rfl) | (rw [bytM, ← bytN_of (i := 0) (.inr rfl) (by decide) (by omega)]; rfl))
  · change VCode _ _ _ 10 (sl _) (en _) _
    obtain ⟨g1, g2, g3, g4⟩ := hok2
    have gl : O.length = i := by rw [g4]; exact bytL_len _ _
    refine Sq <| Sq <| Rg <| Vs (Mv rfl) <| Vs (Fa TF31_3 rfl) <| Vs (Ld TA3 rfl) <| Vs (Bi rfl) <| Vs (Mv rfl) <| Sp 9 rfl (fun hc2 => ?_) (fun hc2 => ?_)
    · replace hc2 := of_decide_eq_true hc2
      refine Vs (Mv rfl) <| Vs (Bi rfl) <| Vs (Pk rfl) <| Nx <| Cd rfl (fun hc3 => ?_) (fun hc3 => ?_)
      · replace hc3 := of_decide_eq_true hc3
        exact Ks <| Tg <| Sq <| Bk <| Rg <| Vs (Mv rfl) <| Vs (Fa TF31_2 rfl) <| Vs (Ld TA5 rfl) <| Vs (Mv rfl) <| Vs (Cv TU3 TU5 rfl (wrapM_u8 _)) <| Vs (Bo (c := .int .u8 (((a.fill + (((i : Int)) % 256)) % 256))) rfl (bop_add8)) <| Vs (L1s 24 TK27 rfl) <| Vs (Ap 25 TK27 rfl (Rr rfl) (hm := (by simp only [maxLen, List.length_singleton]; omega))) <| Vs (As rfl) <| VList.nil <| Ig <| Tg <| Rg <| Vs (Mv rfl) <| Vs (Bo rfl adI) <| Vs (As rfl) <| VList.nil <| Go (.inr (i + 1, (O) ++ ([((a.fill + (((i : Int)) % 256)) % 256)]))) (by exact ⟨by omega, by omega, by omega, by rw [g4]; rfl⟩) (Wr [(9, 25)])
      · replace hc3 := of_decide_eq_false hc3
        exact Ke <| Te <| Oe <| Ih <| Tg <| Sq <| Rg <| Vs (Mv rfl) <| Vs (As rfl) <| Nx <| Re <| Fi (l := [slK .u8 (O)]) (Rc (resVar_tmp rfl (Rr rfl (hl := gl))) Rn) (by first | (rw [g4, bytM, ← bytN_of (.inl g3) g2 (by omega)]; rfl) | (rw [bytM, ← bytN_of (i := 0) (.inr rfl) (by decide) (by omega)]; rfl))
    · replace hc2 := of_decide_eq_false hc2
      exact Sk rfl <| Sk rfl <| Vs (Pk rfl) <| Nx <| Cz rfl <| Ke <| Te <| Oe <| Ih <| Tg <| Sq <| Rg <| Vs (Mv rfl) <| Vs (As rfl) <| Nx <| Re <| Fi (l := [slK .u8 (O)]) (Rc (resVar_tmp rfl (Rr rfl (hl := gl))) Rn) (by first | (rw [g4, bytM, ← bytN_of (.inl g3) g2 (by omega)]; rfl) | (rw [bytM, ← bytN_of (i := 0) (.inr rfl) (by decide) (by omega)]; rfl))
theorem k22 {A B : List Int} (hA : A.length ≤ 100000) (hB : B.length ≤ 100000) : VF Try.prog 22 [slK .u8 (A), slK .u8 (B)] (boolB (eqL A B)) := by
  refine VF_of P_mixed Try.func22 rfl rfl (by kernel_rfl) <| Sq <| Rg <| Vs (As rfl) <| Nx <| Sq <| Sq <| Rg <| Vs (Mv rfl) <| Vs (Ls TK27 rfl) <| Vs (Mv rfl) <| Vs (Ls TK27 rfl) <| Vs (Bi rfl) <| Nx <| Cd rfl (fun hc1 => ?_) (fun hc1 => ?_)
  · replace hc1 := bne_iff_ne.1 hc1
    exact Sq <| Rg <| Vs (As rfl) <| Nx <| Re <| Tr <| Fi (l := [boolB (false)]) (Rc (resVar_tmp rfl rfl) Rn) (by rw [eqL_len (by omega)]; rfl)
  · replace hc1 := bne_eq_false_iff_eq.1 hc1
    refine Ks <| Tg <| Sq <| Sq <| Rg <| Vs (As rfl) <| Nx <| Bk <| VCode.loop (α := (Nat)) (fun i => (0, sl [(0, .b (slK .u8 (A))), (1, .b (slK .u8 (B))), (5, vI .i64 ((i : Int)))], en [])) (fun i => i ≤ A.length ∧ A.take i = B.take i) (fun i => A.length - i) (0) ⟨Nat.zero_le _, rfl⟩ Wk ?_
    intro i hok
    obtain ⟨hi, ht⟩ := hok
    have hll : A.length = B.length := by omega
    change VCode _ _ _ 0 (sl _) (en _) _
    refine Sq <| Sq <| Rg <| Vs (Mv rfl) <| Vs (Mv rfl) <| Vs (Ls TK27 rfl) <| Vs (Bi rfl) <| Nx <| Cd rfl (fun hc2 => ?_) (fun hc2 => ?_)
    · replace hc2 := of_decide_eq_true hc2
      refine Ks <| Tg <| Sq <| Bk <| Sq <| Rd (by kernel_rfl) <| Vl (Mv rfl) <| Vl (Mv rfl) <| Vl (IxN TK27 rfl) <| Vl (Lq TA5 rfl) <| Vl (Mv rfl) <| Vl (Mv rfl) <| Vl (IxN TK27 rfl) <| Vl (Lq TA5 rfl) <| Vl (Bi rfl) <| ?_
      refine VLog.nil ⟨by kernel_rfl, ?_⟩
      refine Tg <| Cd rfl (fun hc3 => ?_) (fun hc3 => ?_)
      · replace hc3 := bne_iff_ne.1 hc3
        exact Sq <| Rg <| Vs (As rfl) <| Nx <| Re <| Iq <| Tr <| Or <| Iq <| Tr <| Fi (l := [boolB (false)]) (Rc (resVar_tmp rfl rfl) Rn) (by rw [eqL_at (by omega) hll hc3]; rfl)
      · replace hc3 := bne_eq_false_iff_eq.1 hc3
        exact Ks <| Ig <| Tg <| Rg <| Vs (Mv rfl) <| Vs (Bo rfl adI) <| Vs (As rfl) <| VList.nil <| Go (i + 1) ⟨by omega, take_snoc' (by omega) hll ht hc3⟩ Wk
    · replace hc2 := of_decide_eq_false hc2
      exact Ke <| Te <| Oe <| Ih <| Tg <| Sq <| Rg <| Vs (As rfl) <| Nx <| Re <| Fi (l := [boolB (true)]) (Rc (resVar_tmp rfl rfl) Rn) (by rw [eqL_all (by omega) hll ht]; rfl)
end Go.VL

/- Walks over the Go functions, printed by a program of this session over the kit's print, and by hand. -/
set_option linter.unusedVariables false
set_option linter.unusedSimpArgs false
set_option maxRecDepth 100000
namespace Go.VL
open Go.Proofs
theorem k23 {n m : Nat} {d : Dk} (hd : d.Ok n m) (hm : m ≤ 100000) {a : Ca} (ha : a.Ok) : VG Try.prog 23 [.ptr 0 (0), .b (.agg [numB .i64 (a.kind), numB .i64 (a.sector), numB .u8 (a.fill), numB .i64 (a.size), numB .i64 (a.n), slK .i64 (a.keep)])] [⟨4, [.own 1 (n), .b (slT 2 penB (d.pen)), vI .i64 (d.fuse), vB (d.off)], true⟩, rowK .u8 (d.dur)] (.b (.agg [slK .u8 (d.doR n a).2.1, numB .i64 (d.doR n a).2.2])) [some (⟨4, [.own 1 (n), .b (slT 2 penB (((d.doR n a).1).pen)), vI .i64 (((d.doR n a).1).fuse), vB (((d.doR n a).1).off)], true⟩), some (rowK .u8 (((d.doR n a).1).dur))] := by
  have hlen := hd.len
  have hlo := hd.lo
  have hhi := hd.hi
  have hwh := hd.whole
  have hpl := hd.pen
  obtain ⟨hf1, hf2⟩ := hd.fu
  refine VGp_of P_mixed Try.func23 rfl rfl (by kernel_rfl) (by simp) rfl <| Sq <| Rg <| Vs (Bx 2 rfl) <| Vs (Al 3 TZ39 rfl) <| Nx <| Sq <| Rg <| Vs (Bd TQ39 rfl) <| Vs (Al 5 TZ39 rfl) <| Vs (StS TS39 rfl) <| Nx <| Sq <| Sq <| Rg <| Vs (Fa TF31_0 rfl) <| Vs (Ld TA3 rfl) <| Nx <| Bk <| Sq <| Rg <| Vs (Bi rfl) <| Vs (As rfl) <| Nx <| Cd rfl (fun hc1 => ?_) (fun hc1 => ?_)
  · replace hc1 := eq_of_beq hc1
    have e : d.doR n a = d.readR n a.sector := by rw [Dk.doR, if_pos hc1]
    exact Rg <| Vs (Mv rfl) <| Vs (Fa TF31_1 rfl) <| Vs (Ld TA3 rfl) <| Gm 14 [0, 1] [] (v := .b (.tup [slK .u8 ((d.readR n (a.sector)).2.1), numB .i64 ((d.readR n (a.sector)).2.2)])) [(0, ⟨4, [.own 1 (n), .b (slT 2 penB (((d.readR n (a.sector)).1).pen)), vI .i64 (((d.readR n (a.sector)).1).fuse), vB (((d.readR n (a.sector)).1).off)], true⟩), (1, rowK .u8 (((d.readR n (a.sector)).1).dur)), (2, ⟨6, [vI .i64 (a.kind), vI .i64 (a.sector), vI .u8 (a.fill), vI .i64 (a.size), vI .i64 (a.n), .b (slK .i64 (a.keep))], true⟩), (3, ⟨2, [vS ([]), vI .i64 (0)], true⟩), (5, ⟨2, [vS ([]), vI .i64 (0)], true⟩)] rfl (k21 hd hm (a.sector)) rfl <| Vs (Mv rfl) <| Vs (Xt rfl) <| Vs (Xt rfl) <| Vs (Fa TF39_0 rfl) <| Vs (St TS27 rfl) <| Vs (Fa TF39_1 rfl) <| Vs (St TS23 rfl) <| VList.nil <| Ig <| Tg <| Sq <| Rg <| Vs (LdS TA39 TS39 rfl) <| Vs (StS TS39 rfl) <| Nx <| Re <| Gg (L1' := [some (⟨4, [.own 1 (n), .b (slT 2 penB (((d.readR n (a.sector)).1).pen)), vI .i64 (((d.readR n (a.sector)).1).fuse), vB (((d.readR n (a.sector)).1).off)], true⟩), some (rowK .u8 (((d.readR n (a.sector)).1).dur))]) [0, 1] (.val _ _ _ _ _ (resV_cellS rfl rfl TA39 TS39 (Nat.le_of_ble_eq_true rfl)) rfl rfl .nil) (.one _) (by rw [e]; try rfl) (by rw [e]; try rfl)
  · replace hc1 := ne_of_beq_false hc1
    refine Sq <| Rg <| Vs (Bi rfl) <| Vs (As rfl) <| Nx <| Cd rfl (fun hc2 => ?_) (fun hc2 => ?_)
    · replace hc2 := eq_of_beq hc2
      have e : d.doR n a = ((d.writeR n a.sector (bytM a)).1, [], (d.writeR n a.sector (bytM a)).2) := by rw [Dk.doR, if_neg hc1, if_pos hc2]
      refine Rd (by kernel_rfl) <| Vl (Mv rfl) <| Vl (Fa TF31_1 rfl) <| Vl (Ld TA3 rfl) <| Vl (LdS TA31 TS31 rfl) <| Vl (C0 rfl rfl (k19 a ha)) <| Gl [0, 1] [] [(0, some (⟨4, [.own 1 (n), .b (slT 2 penB (((d.writeR n (a.sector) (bytM a)).1).pen)), vI .i64 (((d.writeR n (a.sector) (bytM a)).1).fuse), vB (((d.writeR n (a.sector) (bytM a)).1).off)], true⟩)), (1, some (rowK .u8 (((d.writeR n (a.sector) (bytM a)).1).dur)))] rfl (k20 hd hm (a.sector) (b := bytM a) (by have := bytM_len a; omega)) rfl <| Vl (Fa TF39_1 rfl) <| Vl (St TS23 rfl) <| ?_
      refine VLog.nil ⟨by kernel_rfl, ?_⟩
      exact Ig <| Tg <| Sq <| Rg <| Vs (LdS TA39 TS39 rfl) <| Vs (StS TS39 rfl) <| Nx <| Re <| Gg (L1' := [some (⟨4, [.own 1 (n), .b (slT 2 penB (((d.writeR n (a.sector) (bytM a)).1).pen)), vI .i64 (((d.writeR n (a.sector) (bytM a)).1).fuse), vB (((d.writeR n (a.sector) (bytM a)).1).off)], true⟩), some (rowK .u8 (((d.writeR n (a.sector) (bytM a)).1).dur))]) [0, 1] (.val _ _ _ _ _ (resV_cellS rfl rfl TA39 TS39 (Nat.le_of_ble_eq_true rfl)) rfl rfl .nil) (.one _) (by rw [e]; try rfl) (by rw [e]; try rfl)
    · replace hc2 := ne_of_beq_false hc2
      refine Sq <| Rg <| Vs (Bi rfl) <| Vs (As rfl) <| Nx <| Cd rfl (fun hc3 => ?_) (fun hc3 => ?_)
      · replace hc3 := eq_of_beq hc3
        have e : d.doR n a = (d.syncR.1, [], d.syncR.2) := by rw [Dk.doR, if_neg hc1, if_neg hc2, if_pos hc3]
        exact Rg <| Vs (Mv rfl) <| Gm 16 [0, 1] [] (v := vI .i64 (d.syncR.2)) [(0, ⟨4, [.own 1 (n), .b (slT 2 penB ((d.syncR.1).pen)), vI .i64 ((d.syncR.1).fuse), vB ((d.syncR.1).off)], true⟩), (1, rowK .u8 ((d.syncR.1).dur)), (2, ⟨6, [vI .i64 (a.kind), vI .i64 (a.sector), vI .u8 (a.fill), vI .i64 (a.size), vI .i64 (a.n), .b (slK .i64 (a.keep))], true⟩), (3, ⟨2, [vS ([]), vI .i64 (0)], true⟩), (5, ⟨2, [vS ([]), vI .i64 (0)], true⟩)] rfl (k25 hd hm) rfl <| Vs (Fa TF39_1 rfl) <| Vs (St TS23 rfl) <| VList.nil <| Ig <| Tg <| Sq <| Rg <| Vs (LdS TA39 TS39 rfl) <| Vs (StS TS39 rfl) <| Nx <| Re <| Gg (L1' := [some (⟨4, [.own 1 (n), .b (slT 2 penB ((d.syncR.1).pen)), vI .i64 ((d.syncR.1).fuse), vB ((d.syncR.1).off)], true⟩), some (rowK .u8 ((d.syncR.1).dur))]) [0, 1] (.val _ _ _ _ _ (resV_cellS rfl rfl TA39 TS39 (Nat.le_of_ble_eq_true rfl)) rfl rfl .nil) (.one _) (by rw [e]; try rfl) (by rw [e]; try rfl)
      · replace hc3 := ne_of_beq_false hc3
        refine Sq <| Rg <| Vs (Bi rfl) <| Vs (As rfl) <| Nx <| Cd rfl (fun hc4 => ?_) (fun hc4 => ?_)
        · replace hc4 := eq_of_beq hc4
          have e : d.doR n a = (d.fuseR a.n, [], 0) := by rw [Dk.doR, if_neg hc1, if_neg hc2, if_neg hc3, if_pos hc4]
          exact Rg <| Vs (Mv rfl) <| Vs (Fa TF31_4 rfl) <| Vs (Ld TA3 rfl) <| Gm 20 [0, 1] [] (v := .b (.tup [])) [(0, ⟨4, [.own 1 (n), .b (slT 2 penB ((d.fuseR (a.n)).pen)), vI .i64 ((d.fuseR (a.n)).fuse), vB ((d.fuseR (a.n)).off)], true⟩), (1, rowK .u8 ((d.fuseR (a.n)).dur)), (2, ⟨6, [vI .i64 (a.kind), vI .i64 (a.sector), vI .u8 (a.fill), vI .i64 (a.size), vI .i64 (a.n), .b (slK .i64 (a.keep))], true⟩), (3, ⟨2, [vS ([]), vI .i64 (0)], true⟩), (5, ⟨2, [vS ([]), vI .i64 (0)], true⟩)] rfl (k37 hd hm (a.n)) rfl <| VList.nil <| Ig <| Tg <| Sq <| Rg <| Vs (LdS TA39 TS39 rfl) <| Vs (StS TS39 rfl) <| Nx <| Re <| Gg (L1' := [some (⟨4, [.own 1 (n), .b (slT 2 penB ((d.fuseR (a.n)).pen)), vI .i64 ((d.fuseR (a.n)).fuse), vB ((d.fuseR (a.n)).off)], true⟩), some (rowK .u8 ((d.fuseR (a.n)).dur))]) [0, 1] (.val _ _ _ _ _ (resV_cellS rfl rfl TA39 TS39 (Nat.le_of_ble_eq_true rfl)) rfl rfl .nil) (.one _) (by rw [e]; try rfl) (by rw [e]; try rfl)
        · replace hc4 := ne_of_beq_false hc4
          refine Sq <| Rg <| Vs (Bi rfl) <| Vs (As rfl) <| Nx <| Cd rfl (fun hc5 => ?_) (fun hc5 => ?_)
          · replace hc5 := eq_of_beq hc5
            have e : d.doR n a = (d.bootR a.keep a.n, [], 0) := by rw [Dk.doR, if_neg hc1, if_neg hc2, if_neg hc3, if_neg hc4, if_pos hc5]
            exact Rg <| Vs (Mv rfl) <| Vs (Fa TF31_5 rfl) <| Vs (Ld TA29 rfl) <| Vs (Fa TF31_4 rfl) <| Vs (Ld TA3 rfl) <| Gm 24 [0, 1] [] (v := .b (.tup [])) [(0, ⟨4, [.own 1 (n), .b (slT 2 penB ((d.bootR (a.keep) (a.n)).pen)), vI .i64 ((d.bootR (a.keep) (a.n)).fuse), vB ((d.bootR (a.keep) (a.n)).off)], true⟩), (1, rowK .u8 ((d.bootR (a.keep) (a.n)).dur)), (2, ⟨6, [vI .i64 (a.kind), vI .i64 (a.sector), vI .u8 (a.fill), vI .i64 (a.size), vI .i64 (a.n), .b (slK .i64 (a.keep))], true⟩), (3, ⟨2, [vS ([]), vI .i64 (0)], true⟩), (5, ⟨2, [vS ([]), vI .i64 (0)], true⟩)] rfl (k24 hd hm (keep := a.keep) (ha.keep) (a.n)) rfl <| VList.nil <| Ig <| Tg <| Sq <| Rg <| Vs (LdS TA39 TS39 rfl) <| Vs (StS TS39 rfl) <| Nx <| Re <| Gg (L1' := [some (⟨4, [.own 1 (n), .b (slT 2 penB ((d.bootR (a.keep) (a.n)).pen)), vI .i64 ((d.bootR (a.keep) (a.n)).fuse), vB ((d.bootR (a.keep) (a.n)).off)], true⟩), some (rowK .u8 ((d.bootR (a.keep) (a.n)).dur))]) [0, 1] (.val _ _ _ _ _ (resV_cellS rfl rfl TA39 TS39 (Nat.le_of_ble_eq_true rfl)) rfl rfl .nil) (.one _) (by rw [e]; try rfl) (by rw [e]; try rfl)
          · replace hc5 := ne_of_beq_false hc5
            refine Sq <| Rg <| Vs (Bi rfl) <| Vs (As rfl) <| Nx <| Cd rfl (fun hc6 => ?_) (fun hc6 => ?_)
            · replace hc6 := eq_of_beq hc6
              have e : d.doR n a = ((d.rotR n a.sector a.n).1, [], (d.rotR n a.sector a.n).2) := by rw [Dk.doR, if_neg hc1, if_neg hc2, if_neg hc3, if_neg hc4, if_neg hc5, if_pos hc6]
              exact Rg <| Vs (Mv rfl) <| Vs (Fa TF31_1 rfl) <| Vs (Ld TA3 rfl) <| Vs (Fa TF31_4 rfl) <| Vs (Ld TA3 rfl) <| Gm 26 [0, 1] [] (v := vI .i64 ((d.rotR n (a.sector) (a.n)).2)) [(0, ⟨4, [.own 1 (n), .b (slT 2 penB (((d.rotR n (a.sector) (a.n)).1).pen)), vI .i64 (((d.rotR n (a.sector) (a.n)).1).fuse), vB (((d.rotR n (a.sector) (a.n)).1).off)], true⟩), (1, rowK .u8 (((d.rotR n (a.sector) (a.n)).1).dur)), (2, ⟨6, [vI .i64 (a.kind), vI .i64 (a.sector), vI .u8 (a.fill), vI .i64 (a.size), vI .i64 (a.n), .b (slK .i64 (a.keep))], true⟩), (3, ⟨2, [vS ([]), vI .i64 (0)], true⟩), (5, ⟨2, [vS ([]), vI .i64 (0)], true⟩)] rfl (k38 hd hm (a.sector) (a.n)) rfl <| Vs (Fa TF39_1 rfl) <| Vs (St TS23 rfl) <| VList.nil <| Ig <| Tg <| Sq <| Rg <| Vs (LdS TA39 TS39 rfl) <| Vs (StS TS39 rfl) <| Nx <| Re <| Gg (L1' := [some (⟨4, [.own 1 (n), .b (slT 2 penB (((d.rotR n (a.sector) (a.n)).1).pen)), vI .i64 (((d.rotR n (a.sector) (a.n)).1).fuse), vB (((d.rotR n (a.sector) (a.n)).1).off)], true⟩), some (rowK .u8 (((d.rotR n (a.sector) (a.n)).1).dur))]) [0, 1] (.val _ _ _ _ _ (resV_cellS rfl rfl TA39 TS39 (Nat.le_of_ble_eq_true rfl)) rfl rfl .nil) (.one _) (by rw [e]; try rfl) (by rw [e]; try rfl)
            · replace hc6 := ne_of_beq_false hc6
              have e : d.doR n a = (d, [], 0) := by rw [Dk.doR, if_neg hc1, if_neg hc2, if_neg hc3, if_neg hc4, if_neg hc5, if_neg hc6]
              exact Ks <| Ig <| Tg <| Sq <| Rg <| Vs (LdS TA39 TS39 rfl) <| Vs (StS TS39 rfl) <| Nx <| Re <| Gg (L1' := [some (⟨4, [.own 1 (n), .b (slT 2 penB (d.pen)), vI .i64 (d.fuse), vB (d.off)], true⟩), some (rowK .u8 (d.dur))]) [0, 1] (.val _ _ _ _ _ (resV_cellS rfl rfl TA39 TS39 (Nat.le_of_ble_eq_true rfl)) rfl rfl .nil) (.one _) (by rw [e]; try rfl) (by rw [e]; try rfl)
end Go.VL

/- Walks over the Go functions, printed by a program of this session over the kit's print, and by hand. -/
set_option linter.unusedVariables false
set_option linter.unusedSimpArgs false
set_option maxRecDepth 100000
namespace Go.VL
open Go.Proofs
theorem g18  : VF Try.prog 18 [] (boolB true) := by
  exact VF_of P_mixed Try.func18 rfl rfl (by kernel_rfl) <| Sq <| Rg <| Vs (As rfl) <| Nx <| Sq <| Rg <| Gm 1 [] [] (v := .tup [.ptr 1 (0), vI .i64 (0)]) [(1, ⟨4, [.own 2 (128), .b (slT 2 penB ((newD 2).pen)), vI .i64 ((newD 2).fuse), vB ((newD 2).off)], true⟩), (2, rowK .u8 ((newD 2).dur))] rfl (k17 2 (by decide) (by decide)) rfl <| Vs (Mv rfl) <| Vs (Xv rfl) <| Vs (Xv rfl) <| Vs (As rfl) <| Vs (As rfl) <| Nx <| Sq <| Rg <| Vs (Cf rfl rfl (k17i 0 (.inl (by decide))) rfl) <| Vs (Mv rfl) <| Vs (Xt rfl) <| Vs (Xt rfl) <| Vs (As rfl) <| Vs (As rfl) <| Nx <| Sq <| Sq <| Rg <| Vs (Mv rfl) <| Vs (Bi (c := .bool false) rfl) <| Vs (Mv rfl) <| Vs (Mv rfl) <| Vs (Bi (c := .bool false) rfl) <| Vs (Pk rfl) <| Vs (Mv rfl) <| Vs (Mv rfl) <| Vs (Pe TU22 rfl) <| Vs (Pk rfl) <| Nx <| Cz rfl <| Ks <| Tg <| Sq <| Rg <| Vs (Bd TQ31 rfl) <| Vs (C0 rfl rfl (k19 ⟨0, 0, 97, 64, 0, []⟩ ⟨by decide, by decide, by decide, by decide⟩)) <| Vs (As rfl) <| Nx <| Sq <| Rg <| Vs (Bd TQ31 rfl) <| Vs (C0 rfl rfl (k19 ⟨0, 0, 7, 64, 0, []⟩ ⟨by decide, by decide, by decide, by decide⟩)) <| Vs (As rfl) <| Nx <| Sq <| Rg <| Vs (Mv rfl) <| Vs (Mv rfl) <| Gm 33 [1, 2] [] (v := vI .i64 (((newD 2).writeR 128 0 wA).2)) [(1, ⟨4, [.own 2 (128), .b (slT 2 penB (wd1.pen)), vI .i64 (wd1.fuse), vB (wd1.off)], true⟩), (2, rowK .u8 (wd1.dur))] rfl (k20 wd0_ok (by decide) 0 (b := wA) (by decide)) rfl <| Vs (As rfl) <| Nx <| Sq <| Rg <| Vs (Mv rfl) <| Gm 36 [1, 2] [] (v := vI .i64 (wd1.syncR.2)) [(1, ⟨4, [.own 2 (128), .b (slT 2 penB (wd2.pen)), vI .i64 (wd2.fuse), vB (wd2.off)], true⟩), (2, rowK .u8 (wd2.dur))] rfl (k25 wd1_ok (by decide)) rfl <| Vs (As rfl) <| Nx <| Sq <| Rg <| Vs (Mv rfl) <| Vs (Mv rfl) <| Gm 40 [1, 2] [] (v := vI .i64 ((wd2.writeR 128 0 wB).2)) [(1, ⟨4, [.own 2 (128), .b (slT 2 penB (wd3.pen)), vI .i64 (wd3.fuse), vB (wd3.off)], true⟩), (2, rowK .u8 (wd3.dur))] rfl (k20 wd2_ok (by decide) 0 (b := wB) (by decide)) rfl <| Vs (As rfl) <| Nx <| Sq <| Rg <| Vs (Mv rfl) <| Gm 43 [1, 2] [] (v := .b (.tup [slK .u8 (wX), numB .i64 ((wd3.readR 128 0).2.2)])) [(1, ⟨4, [.own 2 (128), .b (slT 2 penB (wd4.pen)), vI .i64 (wd4.fuse), vB (wd4.off)], true⟩), (2, rowK .u8 (wd4.dur))] rfl (k21 wd3_ok (by decide) 0) rfl <| Vs (Mv rfl) <| Vs (Xt rfl) <| Vs (Xt rfl) <| Vs (As rfl) <| Vs (As rfl) <| Nx <| Sq <| Rg <| Vs (Mv rfl) <| Vs (L1s 50 TK29 rfl) <| Gm 51 [1, 2] [50] (v := .b (.tup [])) [(1, ⟨4, [.own 2 (128), .b (slT 2 penB (wd5.pen)), vI .i64 (wd5.fuse), vB (wd5.off)], true⟩), (2, rowK .u8 (wd5.dur))] rfl (k24 wd4_ok (by decide) (keep := [0]) (by decide) 3) rfl <| Nx <| Sq <| Rg <| Vs (Mv rfl) <| Gm 53 [1, 2] [] (v := .b (.tup [slK .u8 (wY), numB .i64 ((wd5.readR 128 0).2.2)])) [(1, ⟨4, [.own 2 (128), .b (slT 2 penB (wd6.pen)), vI .i64 (wd6.fuse), vB (wd6.off)], true⟩), (2, rowK .u8 (wd6.dur))] rfl (k21 wd5_ok (by decide) 0) rfl <| Vs (Mv rfl) <| Vs (Xt rfl) <| Vs (Xt rfl) <| Vs (As rfl) <| Vs (As rfl) <| Nx <| Sq <| Rg <| Vs (Mv rfl) <| Vs (Kb (show (((newD 2).writeR 128 0 wA).2 == 0) = true from (beq_iff_eq.2 w1)) (Bi rfl)) <| Vs (Mv rfl) <| Vs (Mv rfl) <| Vs (Kb (show (wd1.syncR.2 == 0) = true from (beq_iff_eq.2 w2)) (Bi rfl)) <| Vs (Pk rfl) <| Vs (Mv rfl) <| Vs (Mv rfl) <| Vs (Kb (show ((wd2.writeR 128 0 wB).2 == 0) = true from (beq_iff_eq.2 w3)) (Bi rfl)) <| Vs (Pk rfl) <| Vs (Mv rfl) <| Vs (Mv rfl) <| Vs (Kb (show ((wd3.readR 128 0).2.2 == 0) = true from (beq_iff_eq.2 w4)) (Bi rfl)) <| Vs (Pk rfl) <| Vs (Mv rfl) <| Vs (Mv rfl) <| Vs (Mv rfl) <| Vs (Kb (show (eqL wX wB) = true from w5) (Cf rfl rfl (k22 (Nat.le_trans wX_len (by decide)) (by decide)) rfl)) <| Vs (Pk rfl) <| Vs (Mv rfl) <| Vs (Mv rfl) <| Vs (Kb (show ((wd5.readR 128 0).2.2 == 0) = true from (beq_iff_eq.2 w6)) (Bi rfl)) <| Vs (Pk rfl) <| Vs (Mv rfl) <| Vs (Mv rfl) <| Vs (Ls TK27 rfl) <| Vs (Kb (show (((wY).length : Int) == 64) = true from (by rw [w7]; rfl)) (Bi rfl)) <| Vs (Pk rfl) <| Vs (Mv rfl) <| Vs (Mv rfl) <| Vs (IxN (q := 2) TK27 rfl (h1 := (by rw [w7]; decide))) <| Vs (Lq TA5 rfl) <| Vs (Kb (show ((wY).getD 2 0 == 9) = true from (beq_iff_eq.2 w8)) (Bi rfl)) <| Vs (Pk rfl) <| Vs (Mv rfl) <| Vs (Mv rfl) <| Vs (IxN (q := 3) TK27 rfl (h1 := (by rw [w7]; decide))) <| Vs (Lq TA5 rfl) <| Vs (Kb (show ((wY).getD 3 0 == 100) = true from (beq_iff_eq.2 w9)) (Bi rfl)) <| Vs (Pk rfl) <| Vs (As rfl) <| Nx <| Re <| Fi (l := [boolB (true)]) (Rc (resVar_tmp rfl rfl) Rn) rfl
end Go.VL

/- Walks over the Go functions, printed by a program of this session over the kit's print, and by hand. -/
set_option linter.unusedVariables false
set_option linter.unusedSimpArgs false
set_option maxRecDepth 100000
namespace Go.VL
open Go.Proofs
theorem k17z (z : Nat) (h0 : 1 ≤ z) (h1 : z ≤ 1024) : VG Try.prog 17 [vI .i64 (z : Int)] [] (.tup [.ptr 0 0, vI .i64 0]) [some (⟨4, [.own 1 ((z * 64)), .b (slT 2 penB ((newD z).pen)), vI .i64 ((newD z).fuse), vB ((newD z).off)], true⟩), some (rowK .u8 ((newD z).dur))] := by
  have h := k17 (z : Int) (by omega) (by omega)
  have e : ((z : Int) * 64).toNat = z * 64 := by omega
  rw [e] at h
  exact h
section
variable {n m : Nat} {d : Dk}
theorem k21s (hd : d.Ok n m) (hm : m ≤ 100000) (h0 : d.off = false) (h1 : d.fuse = -1) (s : Int) (hs : hasS n s = true) : VG Try.prog 21 [.ptr 0 0, vI .i64 s] [⟨4, [.own 1 (n), .b (slT 2 penB (d.pen)), vI .i64 (d.fuse), vB (d.off)], true⟩, rowK .u8 (d.dur)] (.b (.tup [slK .u8 (rdS d s), numB .i64 0])) [some (⟨4, [.own 1 (n), .b (slT 2 penB (d.pen)), vI .i64 (d.fuse), vB (d.off)], true⟩), some (rowK .u8 (d.dur))] := by
  have h := k21 hd hm s
  rw [read_up h0 h1 hs] at h
  exact h
theorem k25b (hd : d.Ok n m) (hm : m ≤ 100000) (keep : List Int) (torn : Int) : VG Try.prog 25 [.ptr 0 0] [⟨4, [.own 1 (n), .b (slT 2 penB ((d.bootR keep torn).pen)), vI .i64 ((d.bootR keep torn).fuse), vB ((d.bootR keep torn).off)], true⟩, rowK .u8 ((d.bootR keep torn).dur)] (vI .i64 0) [some (⟨4, [.own 1 (n), .b (slT 2 penB ((d.bootR keep torn).pen)), vI .i64 ((d.bootR keep torn).fuse), vB ((d.bootR keep torn).off)], true⟩), some (rowK .u8 ((d.bootR keep torn).dur))] := by
  have h := k25 (hd.boot keep torn) hm
  rw [boot_sync] at h
  exact h
end
theorem k26 {z m : Nat} {d : Dk} (hd : d.Ok (z * 64) m) (hm : m ≤ 100000) (h0 : d.off = false) (h1 : d.fuse = -1) (hz : 1 ≤ z) : VG Try.prog 26 [.ptr 0 (0), vI .i64 ((z : Int))] [⟨4, [.own 1 ((z * 64)), .b (slT 2 penB (d.pen)), vI .i64 (d.fuse), vB (d.off)], true⟩, rowK .u8 (d.dur)] (.b (slT 1 rwB (alL d z))) [some (⟨4, [.own 1 ((z * 64)), .b (slT 2 penB (d.pen)), vI .i64 (d.fuse), vB (d.off)], true⟩), some (rowK .u8 (d.dur))] := by
  have hhi := hd.hi
  refine VGp_of P_mixed Try.func26 rfl rfl (by kernel_rfl) (by simp) rfl <| Sq <| Rg <| Vs (As rfl) <| Nx <| Sq <| Rg <| Vs (An rfl) <| Nx <| Sq <| Sq <| Rg <| Vs (As rfl) <| Nx <| Bk <| VCode.loop (α := ((Unit)) ⊕ ((Nat) × (List (List Int)))) (fun x_ => match x_ with | .inl (u) => (2, sl [(0, .ptr 0 (0)), (1, vI .i64 ((z : Int))), (5, .b .nil), (6, vI .i64 (0))], en [(0, ⟨4, [.own 1 ((z * 64)), .b (slT 2 penB (d.pen)), vI .i64 (d.fuse), vB (d.off)], true⟩), (1, rowK .u8 (d.dur))]) | .inr (i, M) => (10, sl [(0, .ptr 0 (0)), (1, vI .i64 ((z : Int))), (5, .own 9 (i)), (6, vI .i64 ((i : Int)))], en [(0, ⟨4, [.own 1 ((z * 64)), .b (slT 2 penB (d.pen)), vI .i64 (d.fuse), vB (d.off)], true⟩), (1, rowK .u8 (d.dur)), (9, rowT 1 rwB (M))])) (fun x_ => match x_ with | .inl (u) => True | .inr (i, M) => 1 ≤ i ∧ i ≤ z ∧ M = alL d i) (fun x_ => match x_ with | .inl (u) => 2000 | .inr (i, M) => 1025 - i) (.inl (())) trivial Wk ?_
  rintro (u | ⟨i, M⟩) hok2
  · change VCode _ _ _ 2 (sl _) (en _) _
    refine Sq <| Sq <| Rg <| Vs (Mv rfl) <| Vs (Mv rfl) <| Vs (Bi rfl) <| Nx <| Cd rfl (fun hc1 => ?_) (fun hc1 => ?_)
    · replace hc1 := of_decide_eq_true hc1
      exact Ks <| Tg <| Sq <| Bk <| Sq <| Rg <| Vs (Mv rfl) <| Vs (Mv rfl) <| Gm 7 [0, 1] [] (v := .b (.tup [slK .u8 (rdS d 0), numB .i64 (0)])) [(0, ⟨4, [.own 1 ((z * 64)), .b (slT 2 penB (d.pen)), vI .i64 (d.fuse), vB (d.off)], true⟩), (1, rowK .u8 (d.dur))] rfl (k21s hd hm h0 h1 0 (hasS_of (by omega) (by omega))) rfl <| Vs (Mv rfl) <| Vs (Xt rfl) <| Vs (Xt rfl) <| Vs (As rfl) <| Vs (As rfl) <| Nx <| Rg <| Vs (Mv rfl) <| Vs (Mv rfl) <| Vs (sq1 15 rfl (.buildS _ 1 _ 27 [.b (slK .u8 (rdS d 0))] 1 _ [.b (slK .u8 (rdS d 0))] rfl TU43 TZ27 TS27 (List.cons_ne_nil _ _) (by decide) rfl rfl)) <| Vs (An1 16 TU43 TS27 TB27 TN27 (x1 := rdS d 0) (f := rwB) rfl rwB_len) <| Vs (As rfl) <| VList.nil <| Ig <| Tg <| Rg <| Vs (Mv rfl) <| Vs (Bo rfl adI) <| Vs (As rfl) <| VList.nil <| Go (.inr (1, [rdS d 0])) (by exact ⟨by decide, by omega, rfl⟩) (Wt [(9, 16)])
    · replace hc1 := of_decide_eq_false hc1
      exfalso; omega
  · change VCode _ _ _ 10 (sl _) (en _) _
    obtain ⟨g1, g2, g3⟩ := hok2
    have gl : M.length = i := by rw [g3]; exact alL_len _
    refine Sq <| Sq <| Rg <| Vs (Mv rfl) <| Vs (Mv rfl) <| Vs (Bi rfl) <| Nx <| Cd rfl (fun hc2 => ?_) (fun hc2 => ?_)
    · replace hc2 := of_decide_eq_true hc2
      exact Ks <| Tg <| Sq <| Bk <| Sq <| Rg <| Vs (Mv rfl) <| Vs (Mv rfl) <| Gm 15 [0, 1] [] (v := .b (.tup [slK .u8 (rdS d ((i : Int))), numB .i64 (0)])) [(0, ⟨4, [.own 1 ((z * 64)), .b (slT 2 penB (d.pen)), vI .i64 (d.fuse), vB (d.off)], true⟩), (1, rowK .u8 (d.dur)), (9, rowT 1 rwB (M))] rfl (k21s hd hm h0 h1 ((i : Int)) (hasS_of (by omega) (by omega))) rfl <| Vs (Mv rfl) <| Vs (Xt rfl) <| Vs (Xt rfl) <| Vs (As rfl) <| Vs (As rfl) <| Nx <| Rg <| Vs (Mv rfl) <| Vs (Mv rfl) <| Vs (sq1 23 rfl (.buildS _ 1 _ 27 [.b (slK .u8 (rdS d ((i : Int))))] 1 _ [.b (slK .u8 (rdS d ((i : Int))))] rfl TU43 TZ27 TS27 (List.cons_ne_nil _ _) (by decide) rfl rfl)) <| Vs (Ao1 24 TU43 TS27 TB27 TN27 (x1 := rdS d ((i : Int))) (f := rwB) rfl rwB_len) <| Vs (As rfl) <| VList.nil <| Ig <| Tg <| Rg <| Vs (Mv rfl) <| Vs (Bo rfl adI) <| Vs (As rfl) <| VList.nil <| Go (.inr (i + 1, (M) ++ [rdS d ((i : Int))])) (by exact ⟨by omega, by omega, by rw [g3]; rfl⟩) (Wt [(9, 24)])
    · replace hc2 := of_decide_eq_false hc2
      exact Ke <| Te <| Oe <| Ih <| Tg <| Sq <| Rg <| Vs (Mv rfl) <| Vs (As rfl) <| Nx <| Re <| Gg (L1' := [some (⟨4, [.own 1 ((z * 64)), .b (slT 2 penB (d.pen)), vI .i64 (d.fuse), vB (d.off)], true⟩), some (rowK .u8 (d.dur))]) [0, 1] (.val _ _ _ _ _ rfl (res_rowT rwB_len rfl (by first | omega | (simp; done) | (simp; omega))) rfl .nil) (.one _) (by rw [g3, show i = z by omega]) rfl
end Go.VL

/- Walks over the Go functions, printed by a program of this session over the kit's print, and by hand. -/
set_option linter.unusedVariables false
set_option linter.unusedSimpArgs false
set_option maxRecDepth 100000
namespace Go.VL
open Go.Proofs
theorem g4 (k0 : Int) (x0 : -9223372036854775808 ≤ k0) (y0 : k0 ≤ 9223372036854775807) (A : List Ca) (oA : ∀ a ∈ A, a.Ok) (lA : A.length ≤ 9223372036854775807) (A2 : List Ca) (oA2 : ∀ a ∈ A2, a.Ok) (lA2 : A2.length ≤ 9223372036854775807) (c : Ca) (oc : c.Ok) : VF Try.prog 4 [numB .i64 (k0), slT 6 caB (A), slT 6 caB (A2), .agg [numB .i64 (c.kind), numB .i64 (c.sector), numB .u8 (c.fill), numB .i64 (c.size), numB .i64 (c.n), slK .i64 (c.keep)]] (boolB true) := by
  have h7 : 0 ≤ andB k0 7 ∧ andB k0 7 ≤ 7 := andB_le k0 7 (by decide)
  obtain ⟨z, hz⟩ : ∃ z : Nat, 1 + andB k0 7 = (z : Int) := ⟨(1 + andB k0 7).toNat, by omega⟩
  have hz1 : 1 ≤ z := by omega
  have hz8 : z ≤ 8 := by omega
  refine VF_of P_mixed Try.func4 rfl rfl (by kernel_rfl) <| Sq <| Rg <| Vs (Bx 0 rfl) <| Vs (As rfl) <| Nx <| Sq <| Rg <| Vs (Mv rfl) <| Vs (Bo (c := .int .i64 ((andB k0 7))) rfl (bop_andI)) <| Vs (Bo (c := .int .i64 ((z : Int))) rfl (by rw [bop_add_i64 (by omega), hz])) <| Vs (As rfl) <| Nx <| Sq <| Rg <| Vs (Mv rfl) <| Gm 7 [] [] (v := .tup [.ptr 7 (0), vI .i64 (0)]) [(0, ⟨6, [vI .i64 (c.kind), vI .i64 (c.sector), vI .u8 (c.fill), vI .i64 (c.size), vI .i64 (c.n), .b (slK .i64 (c.keep))], true⟩), (7, ⟨4, [.own 8 ((z * 64)), .b (slT 2 penB ((newD z).pen)), vI .i64 ((newD z).fuse), vB ((newD z).off)], true⟩), (8, rowK .u8 ((newD z).dur))] rfl (k17z z hz1 (by omega)) rfl <| Vs (Mv rfl) <| Vs (Xv rfl) <| Vs (Xv rfl) <| Vs (As rfl) <| Vs (As rfl) <| Nx <| Sq <| Sq <| Rg <| Vs (Cf rfl rfl (g18) rfl) <| Vs (Un rfl) <| Vs (Mv rfl) <| Vs (Mv rfl) <| Vs (Bi (c := .bool false) rfl) <| Vs (Pk rfl) <| Vs (Mv rfl) <| Vs (Mv rfl) <| Vs (Pe TU22 rfl) <| Vs (Pk rfl) <| Nx <| Cz rfl <| Ks <| Tg <| VCode.join (α := (Nat) × (Dk)) (fun x_ => match x_ with | (i, d) => (9, sl [(2, .b (slT 6 caB (A2))), (7, .ptr 0 (0)), (9, vI .i64 ((z : Int))), (10, .ptr 7 (0))], en [(0, ⟨6, [vI .i64 (c.kind), vI .i64 (c.sector), vI .u8 (c.fill), vI .i64 (c.size), vI .i64 (c.n), .b (slK .i64 (c.keep))], true⟩), (7, ⟨4, [.own 8 ((z * 64)), .b (slT 2 penB (d.pen)), vI .i64 (d.fuse), vB (d.off)], true⟩), (8, rowK .u8 (d.dur))])) (fun x_ => match x_ with | (i, d) => i ≤ 40 ∧ d.Ok (z * 64) i) ?_ ?_
  · skip
    refine Sq <| Rg <| Vs (As rfl) <| Nx <| Bk <| VCode.loop (α := (Nat) × (Dk)) (fun x_ => match x_ with | (i, d) => (9, sl [(1, .b (slT 6 caB (A))), (2, .b (slT 6 caB (A2))), (7, .ptr 0 (0)), (9, vI .i64 ((z : Int))), (10, .ptr 7 (0)), (12, vI .i64 ((i : Int)))], en [(0, ⟨6, [vI .i64 (c.kind), vI .i64 (c.sector), vI .u8 (c.fill), vI .i64 (c.size), vI .i64 (c.n), .b (slK .i64 (c.keep))], true⟩), (7, ⟨4, [.own 8 ((z * 64)), .b (slT 2 penB (d.pen)), vI .i64 (d.fuse), vB (d.off)], true⟩), (8, rowK .u8 (d.dur))])) (fun x_ => match x_ with | (i, d) => i ≤ 40 ∧ d.Ok (z * 64) i) (fun x_ => match x_ with | (i, d) => 40 - i) (0, newD z) ⟨by omega, newD_ok hz1 (by omega)⟩ Wk ?_
    rintro ⟨i, d⟩ hok
    obtain ⟨hi, hd⟩ := hok
    change VCode _ _ _ 9 (sl _) (en _) _
    refine Sq <| Sq <| Rg <| Vs (Mv rfl) <| Vs (Mv rfl) <| Vs (Lst caB_len TU37 rfl) <| Vs (Bi rfl) <| Vs (Mv rfl) <| Sp 41 rfl (fun hc1 => ?_) (fun hc1 => ?_)
    · replace hc1 := of_decide_eq_true hc1
      refine Vs (Mv rfl) <| Vs (Bi rfl) <| Vs (Pk rfl) <| Nx <| Cd rfl (fun hc2 => ?_) (fun hc2 => ?_)
      · replace hc2 := of_decide_eq_true hc2
        exact Ks <| Tg <| Sq <| Bk <| Rg <| Vs (Mv rfl) <| Vs (Mv rfl) <| Vs (Mv rfl) <| Vs (IxT caB_len TU37 TS31 rfl (by first | omega | (simp; done) | (simp; omega)) (gd (d := a0) (j := i) (by first | omega | (simp; done) | (simp; omega))) rfl) <| Vs (LqS TA31 TS31 rfl) <| Gm 22 [7, 8] [] (v := .b (.agg [slK .u8 ((d.doR (z * 64) ((A).getD (i) a0)).2.1), numB .i64 ((d.doR (z * 64) ((A).getD (i) a0)).2.2)])) [(0, ⟨6, [vI .i64 (c.kind), vI .i64 (c.sector), vI .u8 (c.fill), vI .i64 (c.size), vI .i64 (c.n), .b (slK .i64 (c.keep))], true⟩), (7, ⟨4, [.own 8 ((z * 64)), .b (slT 2 penB (((d.doR (z * 64) ((A).getD (i) a0)).1).pen)), vI .i64 (((d.doR (z * 64) ((A).getD (i) a0)).1).fuse), vB (((d.doR (z * 64) ((A).getD (i) a0)).1).off)], true⟩), (8, rowK .u8 (((d.doR (z * 64) ((A).getD (i) a0)).1).dur))] rfl (k23 hd (by omega) (oA _ (getD_mem' (x := a0) (show i < A.length by omega)))) rfl <| VList.nil <| Ig <| Tg <| Rg <| Vs (Mv rfl) <| Vs (Bo rfl adI) <| Vs (As rfl) <| VList.nil <| Go (i + 1, (d.doR (z * 64) ((A).getD (i) a0)).1) ⟨by omega, hd.does (oA _ (getD_mem' (x := a0) (show i < A.length by omega)))⟩ Wk
      · replace hc2 := of_decide_eq_false hc2
        exact Ke <| Te <| Oe <| Ih <| Jg (i, d) ⟨hi, hd⟩ Wk
    · replace hc1 := of_decide_eq_false hc1
      exact Sk rfl <| Sk rfl <| Vs (Pk rfl) <| Nx <| Cz rfl <| Ke <| Te <| Oe <| Ih <| Jg (i, d) ⟨hi, hd⟩ Wk
  · rintro ⟨i, d⟩ hokJ
    obtain ⟨hi, hd⟩ := hokJ
    change VCode _ _ _ 9 (sl _) (en _) _
    refine Sq <| Rg <| Vs (Mv rfl) <| Gm 10 [7, 8] [] (v := .b (.tup [])) [(0, ⟨6, [vI .i64 (c.kind), vI .i64 (c.sector), vI .u8 (c.fill), vI .i64 (c.size), vI .i64 (c.n), .b (slK .i64 (c.keep))], true⟩), (7, ⟨4, [.own 8 ((z * 64)), .b (slT 2 penB ((d.bootR ([]) 0).pen)), vI .i64 ((d.bootR ([]) 0).fuse), vB ((d.bootR ([]) 0).off)], true⟩), (8, rowK .u8 ((d.bootR ([]) 0).dur))] rfl (k24 hd (by omega) (keep := []) (by simp) 0) rfl <| Nx <| Sq <| Sq <| Rg <| Vs (Mv rfl) <| Gm 12 [7, 8] [] (v := vI .i64 (0)) [(0, ⟨6, [vI .i64 (c.kind), vI .i64 (c.sector), vI .u8 (c.fill), vI .i64 (c.size), vI .i64 (c.n), .b (slK .i64 (c.keep))], true⟩), (7, ⟨4, [.own 8 ((z * 64)), .b (slT 2 penB ((d.bootR ([]) 0).pen)), vI .i64 ((d.bootR ([]) 0).fuse), vB ((d.bootR ([]) 0).off)], true⟩), (8, rowK .u8 ((d.bootR ([]) 0).dur))] rfl (k25b hd (by omega) [] 0) rfl <| Vs (Bi (c := .bool false) rfl) <| Nx <| Cz rfl <| Ks <| Tg <| Sq <| Rg <| Vs (Mv rfl) <| Vs (Mv rfl) <| Gm 16 [7, 8] [] (v := .b (slT 1 rwB (alL (d.bootR ([]) 0) z))) [(0, ⟨6, [vI .i64 (c.kind), vI .i64 (c.sector), vI .u8 (c.fill), vI .i64 (c.size), vI .i64 (c.n), .b (slK .i64 (c.keep))], true⟩), (7, ⟨4, [.own 8 ((z * 64)), .b (slT 2 penB ((d.bootR ([]) 0).pen)), vI .i64 ((d.bootR ([]) 0).fuse), vB ((d.bootR ([]) 0).off)], true⟩), (8, rowK .u8 ((d.bootR ([]) 0).dur))] rfl (k26 (hd.boot0 [] 0) (by decide) rfl rfl hz1) rfl <| Vs (As rfl) <| Nx <| Sq <| Rg <| Vs (Mv rfl) <| Vs (MkT 19 false boB_len TU45 TZ4 TS4 TB4 rfl) <| Vs (As rfl) <| Nx <| VCode.join (α := (Nat) × (Dk) × (List Bool)) (fun x_ => match x_ with | (j, e, W) => (20, sl [(7, .ptr 0 (0)), (9, vI .i64 ((z : Int))), (10, .ptr 7 (0)), (13, .b (slT 1 rwB (alL (d.bootR ([]) 0) z))), (14, .own 19 ((z)))], en [(0, ⟨6, [vI .i64 (c.kind), vI .i64 (c.sector), vI .u8 (c.fill), vI .i64 (c.size), vI .i64 (c.n), .b (slK .i64 (c.keep))], true⟩), (7, ⟨4, [.own 8 ((z * 64)), .b (slT 2 penB (e.pen)), vI .i64 (e.fuse), vB (e.off)], true⟩), (8, rowK .u8 (e.dur)), (19, rowT 1 boB (W))])) (fun x_ => match x_ with | (j, e, W) => j ≤ 40 ∧ e.Ok (z * 64) j ∧ WrI (d.bootR [] 0).dur e W ∧ W.length = z) ?_ ?_
    · skip
      refine Sq <| Rg <| Vs (As rfl) <| Nx <| Bk <| VCode.loop (α := (Nat) × (Dk) × (List Bool)) (fun x_ => match x_ with | (j, e, W) => (20, sl [(2, .b (slT 6 caB (A2))), (7, .ptr 0 (0)), (9, vI .i64 ((z : Int))), (10, .ptr 7 (0)), (13, .b (slT 1 rwB (alL (d.bootR ([]) 0) z))), (14, .own 19 ((z))), (15, vI .i64 ((j : Int)))], en [(0, ⟨6, [vI .i64 (c.kind), vI .i64 (c.sector), vI .u8 (c.fill), vI .i64 (c.size), vI .i64 (c.n), .b (slK .i64 (c.keep))], true⟩), (7, ⟨4, [.own 8 ((z * 64)), .b (slT 2 penB (e.pen)), vI .i64 (e.fuse), vB (e.off)], true⟩), (8, rowK .u8 (e.dur)), (19, rowT 1 boB (W))])) (fun x_ => match x_ with | (j, e, W) => j ≤ 40 ∧ e.Ok (z * 64) j ∧ WrI (d.bootR [] 0).dur e W ∧ W.length = z) (fun x_ => match x_ with | (j, e, W) => 40 - j) (0, d.bootR [] 0, List.replicate z false) ⟨by omega, hd.boot0 [] 0, ⟨rfl, fun w hw => absurd hw (by simp [Dk.bootR])⟩, by simp⟩ (Wt []) ?_
      rintro ⟨j, e, W⟩ hok2
      obtain ⟨hj, he, hw, hWl⟩ := hok2
      change VCode _ _ _ 20 (sl _) (en _) _
      refine Sq <| Sq <| Rg <| Vs (Mv rfl) <| Vs (Mv rfl) <| Vs (Lst caB_len TU37 rfl) <| Vs (Bi rfl) <| Vs (Mv rfl) <| Sp 67 rfl (fun hc3 => ?_) (fun hc3 => ?_)
      · replace hc3 := of_decide_eq_true hc3
        refine Vs (Mv rfl) <| Vs (Bi rfl) <| Vs (Pk rfl) <| Nx <| Cd rfl (fun hc4 => ?_) (fun hc4 => ?_)
        · replace hc4 := of_decide_eq_true hc4
          have hb := oA2 _ (getD_mem' (x := a0) (show j < A2.length by omega))
          refine Ks <| Tg <| Sq <| Bk <| Sq <| Rg <| Vs (Mv rfl) <| Vs (Mv rfl) <| Vs (IxT caB_len TU37 TS31 rfl (by first | omega | (simp; done) | (simp; omega)) (gd (d := a0) (j := j) (by first | omega | (simp; done) | (simp; omega))) rfl) <| Vs (LqS TA31 TS31 rfl) <| Vs (Al 32 TZ31 rfl) <| Vs (StS TS31 rfl) <| Nx <| Sq <| Sq <| Rg <| Vs (Fa TF31_0 rfl) <| Vs (Ld TA3 rfl) <| Vs (Bi rfl) <| Vs (Mv rfl) <| Sp 80 rfl (fun hc5 => ?_) (fun hc5 => ?_)
          · replace hc5 := eq_of_beq hc5
            exact Sk rfl <| Sk rfl <| Sk rfl <| Vs (Pk rfl) <| Vs (Mv rfl) <| Sk rfl <| Sk rfl <| Sk rfl <| Vs (Pk rfl) <| Nx <| Cy rfl <| Ke <| Te <| Ih <| Tg <| Rg <| Vs (Mv rfl) <| Vs (Bo rfl adI) <| Vs (As rfl) <| VList.nil <| Go (j + 1, e, W) (by first | exact ⟨by omega, he.mono (Nat.le_succ _), hw, hWl⟩ | exact ⟨by omega, he.does hb, wr_set hw (by assumption) (by assumption) (by omega), by rw [List.length_set]; exact hWl⟩ | exact ⟨by omega, he.does hb, wr_same hw (by assumption) (by assumption) (by assumption) (by rintro ⟨p1, p2, p3⟩; omega), hWl⟩) (Wt [])
          · replace hc5 := ne_of_beq_false hc5
            refine Vs (Fa TF31_0 rfl) <| Vs (Ld TA3 rfl) <| Vs (Bi rfl) <| Vs (Pk rfl) <| Vs (Mv rfl) <| Sp 85 rfl (fun hc6 => ?_) (fun hc6 => ?_)
            · replace hc6 := eq_of_beq hc6
              exact Sk rfl <| Sk rfl <| Sk rfl <| Vs (Pk rfl) <| Nx <| Cy rfl <| Ke <| Te <| Ih <| Tg <| Rg <| Vs (Mv rfl) <| Vs (Bo rfl adI) <| Vs (As rfl) <| VList.nil <| Go (j + 1, e, W) (by first | exact ⟨by omega, he.mono (Nat.le_succ _), hw, hWl⟩ | exact ⟨by omega, he.does hb, wr_set hw (by assumption) (by assumption) (by omega), by rw [List.length_set]; exact hWl⟩ | exact ⟨by omega, he.does hb, wr_same hw (by assumption) (by assumption) (by assumption) (by rintro ⟨p1, p2, p3⟩; omega), hWl⟩) (Wt [])
            · replace hc6 := ne_of_beq_false hc6
              refine Vs (Fa TF31_0 rfl) <| Vs (Ld TA3 rfl) <| Vs (Bi rfl) <| Vs (Pk rfl) <| Nx <| Cd rfl (fun hc7 => ?_) (fun hc7 => ?_)
              · replace hc7 := eq_of_beq hc7
                exact Ke <| Te <| Ih <| Tg <| Rg <| Vs (Mv rfl) <| Vs (Bo rfl adI) <| Vs (As rfl) <| VList.nil <| Go (j + 1, e, W) (by first | exact ⟨by omega, he.mono (Nat.le_succ _), hw, hWl⟩ | exact ⟨by omega, he.does hb, wr_set hw (by assumption) (by assumption) (by omega), by rw [List.length_set]; exact hWl⟩ | exact ⟨by omega, he.does hb, wr_same hw (by assumption) (by assumption) (by assumption) (by rintro ⟨p1, p2, p3⟩; omega), hWl⟩) (Wt [])
              · replace hc7 := ne_of_beq_false hc7
                refine Ks <| Tg <| Sq <| Rg <| Vs (Mv rfl) <| Vs (LdS TA31 TS31 rfl) <| Gm 49 [7, 8] [] (v := .b (.agg [slK .u8 ((e.doR (z * 64) ((A2).getD (j) a0)).2.1), numB .i64 ((e.doR (z * 64) ((A2).getD (j) a0)).2.2)])) [(0, ⟨6, [vI .i64 (c.kind), vI .i64 (c.sector), vI .u8 (c.fill), vI .i64 (c.size), vI .i64 (c.n), .b (slK .i64 (c.keep))], true⟩), (7, ⟨4, [.own 8 ((z * 64)), .b (slT 2 penB (((e.doR (z * 64) ((A2).getD (j) a0)).1).pen)), vI .i64 (((e.doR (z * 64) ((A2).getD (j) a0)).1).fuse), vB (((e.doR (z * 64) ((A2).getD (j) a0)).1).off)], true⟩), (8, rowK .u8 (((e.doR (z * 64) ((A2).getD (j) a0)).1).dur)), (19, rowT 1 boB (W)), (32, ⟨6, [vI .i64 (((A2).getD (j) a0).kind), vI .i64 (((A2).getD (j) a0).sector), vI .u8 (((A2).getD (j) a0).fill), vI .i64 (((A2).getD (j) a0).size), vI .i64 (((A2).getD (j) a0).n), .b (slK .i64 (((A2).getD (j) a0).keep))], true⟩)] rfl (k23 he (by omega) hb) rfl <| Nx <| Sq <| Rg <| Vs (Fa TF31_0 rfl) <| Vs (Ld TA3 rfl) <| Vs (Bi rfl) <| Vs (Mv rfl) <| Sp 96 rfl (fun hc8 => ?_) (fun hc8 => ?_)
                · replace hc8 := eq_of_beq hc8
                  refine Vs (Fa TF31_1 rfl) <| Vs (Ld TA3 rfl) <| Vs (Bi rfl) <| Vs (Pk rfl) <| Vs (Mv rfl) <| Sp 101 rfl (fun hc9 => ?_) (fun hc9 => ?_)
                  · replace hc9 := of_decide_eq_true hc9
                    refine Vs (Fa TF31_1 rfl) <| Vs (Ld TA3 rfl) <| Vs (Mv rfl) <| Vs (Bi rfl) <| Vs (Pk rfl) <| Nx <| Cd rfl (fun hc10 => ?_) (fun hc10 => ?_)
                    · replace hc10 := of_decide_eq_true hc10
                      exact Rg <| Vs (Mv rfl) <| Vs (Fa TF31_1 rfl) <| Vs (Ld TA3 rfl) <| Vs (IT TU45 TS4 rfl) <| Vs (SrT (true) boB_len TS4 rfl (by first | omega | (simp; done) | (simp; omega))) <| VList.nil <| Ig <| Tg <| Rg <| Vs (Mv rfl) <| Vs (Bo rfl adI) <| Vs (As rfl) <| VList.nil <| Go (j + 1, (e.doR (z * 64) ((A2).getD (j) a0)).1, (W).set ((((A2).getD (j) a0).sector).toNat) (true)) (by first | exact ⟨by omega, he.mono (Nat.le_succ _), hw, hWl⟩ | exact ⟨by omega, he.does hb, wr_set hw (by assumption) (by assumption) (by omega), by rw [List.length_set]; exact hWl⟩ | exact ⟨by omega, he.does hb, wr_same hw (by assumption) (by assumption) (by assumption) (by rintro ⟨p1, p2, p3⟩; omega), hWl⟩) (Wt [])
                    · replace hc10 := of_decide_eq_false hc10
                      exact Ks <| Ig <| Tg <| Rg <| Vs (Mv rfl) <| Vs (Bo rfl adI) <| Vs (As rfl) <| VList.nil <| Go (j + 1, (e.doR (z * 64) ((A2).getD (j) a0)).1, W) (by first | exact ⟨by omega, he.mono (Nat.le_succ _), hw, hWl⟩ | exact ⟨by omega, he.does hb, wr_set hw (by assumption) (by assumption) (by omega), by rw [List.length_set]; exact hWl⟩ | exact ⟨by omega, he.does hb, wr_same hw (by assumption) (by assumption) (by assumption) (by rintro ⟨p1, p2, p3⟩; omega), hWl⟩) (Wt [])
                  · replace hc9 := of_decide_eq_false hc9
                    exact Sk rfl <| Sk rfl <| Sk rfl <| Sk rfl <| Vs (Pk rfl) <| Nx <| Cz rfl <| Ks <| Ig <| Tg <| Rg <| Vs (Mv rfl) <| Vs (Bo rfl adI) <| Vs (As rfl) <| VList.nil <| Go (j + 1, (e.doR (z * 64) ((A2).getD (j) a0)).1, W) (by first | exact ⟨by omega, he.mono (Nat.le_succ _), hw, hWl⟩ | exact ⟨by omega, he.does hb, wr_set hw (by assumption) (by assumption) (by omega), by rw [List.length_set]; exact hWl⟩ | exact ⟨by omega, he.does hb, wr_same hw (by assumption) (by assumption) (by assumption) (by rintro ⟨p1, p2, p3⟩; omega), hWl⟩) (Wt [])
                · replace hc8 := ne_of_beq_false hc8
                  exact Sk rfl <| Sk rfl <| Sk rfl <| Vs (Pk rfl) <| Vs (Mv rfl) <| Sk rfl <| Sk rfl <| Sk rfl <| Sk rfl <| Vs (Pk rfl) <| Nx <| Cz rfl <| Ks <| Ig <| Tg <| Rg <| Vs (Mv rfl) <| Vs (Bo rfl adI) <| Vs (As rfl) <| VList.nil <| Go (j + 1, (e.doR (z * 64) ((A2).getD (j) a0)).1, W) (by first | exact ⟨by omega, he.mono (Nat.le_succ _), hw, hWl⟩ | exact ⟨by omega, he.does hb, wr_set hw (by assumption) (by assumption) (by omega), by rw [List.length_set]; exact hWl⟩ | exact ⟨by omega, he.does hb, wr_same hw (by assumption) (by assumption) (by assumption) (by rintro ⟨p1, p2, p3⟩; omega), hWl⟩) (Wt [])
        · replace hc4 := of_decide_eq_false hc4
          exact Ke <| Te <| Oe <| Ih <| Jg (j, e, W) ⟨hj, he, hw, hWl⟩ (Wt [])
      · replace hc3 := of_decide_eq_false hc3
        exact Sk rfl <| Sk rfl <| Vs (Pk rfl) <| Nx <| Cz rfl <| Ke <| Te <| Oe <| Ih <| Jg (j, e, W) ⟨hj, he, hw, hWl⟩ (Wt [])
    · rintro ⟨j, e, W⟩ hokJ
      obtain ⟨hj, he, hw, hWl⟩ := hokJ
      change VCode _ _ _ 20 (sl _) (en _) _
      refine Sq <| Rg <| Vs (Mv rfl) <| Vs (Fa TF31_5 rfl) <| Vs (Ld TA29 rfl) <| Vs (Fa TF31_4 rfl) <| Vs (Ld TA3 rfl) <| Gm 25 [7, 8] [] (v := .b (.tup [])) [(0, ⟨6, [vI .i64 (c.kind), vI .i64 (c.sector), vI .u8 (c.fill), vI .i64 (c.size), vI .i64 (c.n), .b (slK .i64 (c.keep))], true⟩), (7, ⟨4, [.own 8 ((z * 64)), .b (slT 2 penB ((e.bootR (c.keep) (c.n)).pen)), vI .i64 ((e.bootR (c.keep) (c.n)).fuse), vB ((e.bootR (c.keep) (c.n)).off)], true⟩), (8, rowK .u8 ((e.bootR (c.keep) (c.n)).dur)), (19, rowT 1 boB (W))] rfl (k24 he (by omega) (keep := c.keep) (oc.keep) (c.n)) rfl <| Nx <| Sq <| Rg <| Vs (Mv rfl) <| Vs (Mv rfl) <| Gm 28 [7, 8] [] (v := .b (slT 1 rwB (alL (e.bootR (c.keep) (c.n)) z))) [(0, ⟨6, [vI .i64 (c.kind), vI .i64 (c.sector), vI .u8 (c.fill), vI .i64 (c.size), vI .i64 (c.n), .b (slK .i64 (c.keep))], true⟩), (7, ⟨4, [.own 8 ((z * 64)), .b (slT 2 penB ((e.bootR (c.keep) (c.n)).pen)), vI .i64 ((e.bootR (c.keep) (c.n)).fuse), vB ((e.bootR (c.keep) (c.n)).off)], true⟩), (8, rowK .u8 ((e.bootR (c.keep) (c.n)).dur)), (19, rowT 1 boB (W))] rfl (k26 (he.boot c.keep c.n) (by omega) rfl rfl hz1) rfl <| Vs (As rfl) <| Nx <| Sq <| Sq <| Rg <| Vs (As rfl) <| Nx <| Bk <| VCode.loop (α := (Nat)) (fun q => (20, sl [(9, vI .i64 ((z : Int))), (13, .b (slT 1 rwB (alL (d.bootR ([]) 0) z))), (14, .own 19 ((z))), (17, .b (slT 1 rwB (alL (e.bootR (c.keep) (c.n)) z))), (18, vI .i64 ((q : Int)))], en [(19, rowT 1 boB (W))])) (fun q => q ≤ z) (fun q => z - q) (0) (Nat.zero_le _) (Wt []) ?_
      intro q hok3
      have hq0 := hok3
      change VCode _ _ _ 20 (sl _) (en _) _
      refine Sq <| Sq <| Rg <| Vs (Mv rfl) <| Vs (Mv rfl) <| Vs (Bi rfl) <| Nx <| Cd rfl (fun hc11 => ?_) (fun hc11 => ?_)
      · replace hc11 := of_decide_eq_true hc11
        have hq : q < z := by omega
        refine Ks <| Tg <| Sq <| Bk <| Sq <| Rd (by kernel_rfl) <| Vl (Mv rfl) <| Vl (Mv rfl) <| Vl (IT TU45 TS4 rfl) <| Vl (L1T boB_len TA4 rfl (gd (d := false) (j := q) (by first | omega | (simp; done) | (simp; omega))) rfl) <| Vl (Un rfl) <| Vl (Mv rfl) <| Sl 130 rfl (fun hc12 => ?_) (fun hc12 => ?_)
        · replace hc12 := (bnot_t hc12)
          refine Vl (Mv rfl) <| Vl (Mv rfl) <| Vl (IxT rwB_len TU43 TS27 rfl (by first | omega | (simp; done) | (simp; omega)) (gd (d := []) (j := q) (by rw [alL_len]; omega)) rfl) <| Vl (Lq TA27 rfl) <| Vl (Mv rfl) <| Vl (Mv rfl) <| Vl (IxT rwB_len TU43 TS27 rfl (by first | omega | (simp; done) | (simp; omega)) (gd (d := []) (j := q) (by rw [alL_len]; omega)) rfl) <| Vl (Lq TA27 rfl) <| Vl (Cf rfl rfl (k22 (by rw [alL_at _ hq, rdS_len]; decide) (by rw [alL_at _ hq, rdS_len]; decide)) rfl) <| Vl (Un rfl) <| Vl (Pk rfl) <| ?_
          refine VLog.nil ⟨by kernel_rfl, ?_⟩
          refine Tg <| Cd rfl (fun hc13 => ?_) (fun hc13 => ?_)
          · replace hc13 := (bnot_t hc13)
            exfalso; rw [alL_at _ hq, alL_at _ hq, keeps (hd.boot0 [] 0) he hw hq hc12] at hc13; simp [eqL] at hc13
          · replace hc13 := (bnot_f hc13)
            exact Ks <| Ig <| Tg <| Rg <| Vs (Mv rfl) <| Vs (Bo rfl adI) <| Vs (As rfl) <| VList.nil <| Go (q + 1) (by omega) (Wt [])
        · replace hc12 := (bnot_f hc12)
          refine Lk rfl <| Lk rfl <| Lk rfl <| Lk rfl <| Lk rfl <| Lk rfl <| Lk rfl <| Lk rfl <| Lk rfl <| Lk rfl <| Vl (Pk rfl) <| ?_
          refine VLog.nil ⟨by kernel_rfl, ?_⟩
          exact Tg <| Cz rfl <| Ks <| Ig <| Tg <| Rg <| Vs (Mv rfl) <| Vs (Bo rfl adI) <| Vs (As rfl) <| VList.nil <| Go (q + 1) (by omega) (Wt [])
      · replace hc11 := of_decide_eq_false hc11
        exact Ke <| Te <| Oe <| Ih <| Tg <| Sq <| Rg <| Vs (As rfl) <| Nx <| Re <| Fi (l := [boolB (true)]) (Rc (resVar_tmp rfl rfl) Rn) rfl
end Go.VL

/- Walks over the Go functions, printed by a program of this session over the kit's print, and by hand. -/
set_option linter.unusedVariables false
set_option linter.unusedSimpArgs false
set_option maxRecDepth 100000
namespace Go.VL
open Go.Proofs
theorem t64 {n m : Nat} {d : Dk} (hd : d.Ok n m) (hm : m ≤ 100000) (hB : d.By) {R : List (List Int)} (hR : R.length ≤ 2000) {ed : Nat} (he : ed ≤ 2000) {fl : Bool} : VG Try.prog 64 [.ptr 0 (0)] [⟨4, [.ptr 1 (0), .row 2 (R.length) none, vI .i64 ((ed : Int)), vB (fl)], true⟩, ⟨4, [.own 3 (n), .b (slT 2 penB (d.pen)), vI .i64 (d.fuse), vB (d.off)], true⟩, rowT 1 rwB (R), rowK .u8 (d.dur)] (nxV (nxR n R.length ed d)) [some (⟨4, [.ptr 1 (0), .row 2 (R.length) none, vI .i64 ((ed : Int)), vB (fl)], true⟩), some (⟨4, [.own 3 (n), .b (slT 2 penB (((nxR n R.length ed d).1).pen)), vI .i64 (((nxR n R.length ed d).1).fuse), vB (((nxR n R.length ed d).1).off)], true⟩), some (rowT 1 rwB (R)), some (rowK .u8 (((nxR n R.length ed d).1).dur))] := by
  have hlen := hd.len
  have hlo := hd.lo
  have hhi := hd.hi
  have hwh := hd.whole
  have hpl := hd.pen
  obtain ⟨hf1, hf2⟩ := hd.fu
  have hrb := hB.readR n (ed : Int)
  have hrk := hd.read (ed : Int)
  obtain ⟨hb1, hb2⟩ := hrb
  have hszq := sizeQ_eq hb2
  have hg4 := hb2.getD 4
  have hg5 := hb2.getD 5
  refine VGp_of P_mixed Try.func64 rfl rfl (by kernel_rfl) (by simp) rfl <| Sq <| Rg <| Vs (An rfl) <| Vs (An rfl) <| Vs (As rfl) <| Nx <| Sq <| Sq <| Rd (by kernel_rfl) <| Vl (Mv rfl) <| Vl (Nk rfl) <| Vl (Fa TF104_2 rfl) <| Vl (Ld TA3 rfl) <| Vl (Mv rfl) <| Vl (Nk rfl) <| Vl (Fa TF104_0 rfl) <| Vl (Ld TA22 rfl) <| Gl [1, 3] [] [(1, some (⟨4, [.own 3 (n), .b (slT 2 penB (d.pen)), vI .i64 (d.fuse), vB (d.off)], true⟩)), (3, some (rowK .u8 (d.dur)))] rfl (k33 hd hm) rfl <| Vl (Bi rfl) <| ?_
  refine VLog.nil ⟨by kernel_rfl, ?_⟩
  refine Tg <| Cd rfl (fun hc1 => ?_) (fun hc1 => ?_)
  · replace hc1 := of_decide_eq_true hc1
    refine Sq <| ?_
    have e : nxR n R.length ed d = (d, [], [], 0) := nx_end (by omega)
    exact Rg <| Vs (An rfl) <| Vs (An rfl) <| Vs (As rfl) <| Nx <| Re <| Tr <| Gg (L1' := [some (⟨4, [.ptr 1 (0), .row 2 (R.length) none, vI .i64 ((ed : Int)), vB (fl)], true⟩), some (⟨4, [.own 3 (n), .b (slT 2 penB (d.pen)), vI .i64 (d.fuse), vB (d.off)], true⟩), some (rowT 1 rwB (R)), some (rowK .u8 (d.dur))]) [0, 1, 2, 3] (.val _ _ _ _ _ rfl rfl rfl (.val _ _ _ _ _ rfl rfl rfl (.val _ _ _ _ _ rfl rfl rfl .nil))) (.vals _ [.nil, .nil, numB .i64 (0)] rfl rfl) (by rw [e]; first | rfl | (simp only [nxV, nilO_of hF0]; rfl) | (simp only [nxV, nilO_of hF0, nilO_of hr0l]; done)) (by rw [e])
  · replace hc1 := of_decide_eq_false hc1
    have hlt : ¬ n / 64 ≤ ed := by omega
    refine Ks <| Tg <| Sq <| Rd (by kernel_rfl) <| Vl (Mv rfl) <| Vl (Nk rfl) <| Vl (Fa TF104_0 rfl) <| Vl (Ld TA22 rfl) <| Vl (Mv rfl) <| Vl (Nk rfl) <| Vl (Fa TF104_2 rfl) <| Vl (Ld TA3 rfl) <| Gl [1, 3] [] [(1, some (⟨4, [.own 3 (n), .b (slT 2 penB (((d.readR n ((ed : Int))).1).pen)), vI .i64 (((d.readR n ((ed : Int))).1).fuse), vB (((d.readR n ((ed : Int))).1).off)], true⟩)), (3, some (rowK .u8 (((d.readR n ((ed : Int))).1).dur)))] rfl (k21 hd hm ((ed : Int))) rfl <| Vl (Mv rfl) <| Vl (Xt rfl) <| Vl (Xt rfl) <| Vl (As rfl) <| Vl (As rfl) <| ?_
    refine VLog.nil ⟨by kernel_rfl, ?_⟩
    refine Tg <| Sq <| Sq <| Rg <| Vs (Mv rfl) <| Vs (Bi rfl) <| Nx <| Cd rfl (fun hc2 => ?_) (fun hc2 => ?_)
    · replace hc2 := bne_iff_ne.1 hc2
      refine Sq <| ?_
      have e : nxR n R.length ed d = ((d.readR n ((ed : Int))).1, [], [], (d.readR n (ed : Int)).2.2) := nx_err hlt hc2
      exact Rg <| Vs (Mv rfl) <| Vs (An rfl) <| Vs (An rfl) <| Vs (As rfl) <| Nx <| Re <| Tr <| Gg (L1' := [some (⟨4, [.ptr 1 (0), .row 2 (R.length) none, vI .i64 ((ed : Int)), vB (fl)], true⟩), some (⟨4, [.own 3 (n), .b (slT 2 penB (((d.readR n ((ed : Int))).1).pen)), vI .i64 (((d.readR n ((ed : Int))).1).fuse), vB (((d.readR n ((ed : Int))).1).off)], true⟩), some (rowT 1 rwB (R)), some (rowK .u8 (((d.readR n ((ed : Int))).1).dur))]) [0, 1, 2, 3] (.val _ _ _ _ _ rfl rfl rfl (.val _ _ _ _ _ rfl rfl rfl (.val _ _ _ _ _ rfl rfl rfl .nil))) (.vals _ [.nil, .nil, numB .i64 ((d.readR n ((ed : Int))).2.2)] rfl rfl) (by rw [e]; first | rfl | (simp only [nxV, nilO_of hF0]; rfl) | (simp only [nxV, nilO_of hF0, nilO_of hr0l]; done)) (by rw [e])
    · replace hc2 := bne_eq_false_iff_eq.1 hc2
      have hr0 : (d.readR n (ed : Int)).2.2 = 0 := by omega
      have hfl := read_len hr0
      have hF0 : (d.readR n ((ed : Int))).2.1 ≠ [] := by intro h; rw [h] at hfl; cases hfl
      refine Ks <| Tg <| Sq <| Rd (by kernel_rfl) <| Vl (Mv rfl) <| Vl (IxN (q := 4) TK27 rfl) <| Vl (Lq TA5 rfl) <| Vl (Cv TU5 TU3 rfl wrI) <| Vl (Mv rfl) <| Vl (IxN (q := 5) TK27 rfl) <| Vl (Lq TA5 rfl) <| Vl (Cv TU5 TU3 rfl wrI) <| Vl (Bo (c := .int .i64 ((((d.readR n ((ed : Int))).2.1).getD 5 0 * 256))) rfl (bop_shl8 hg5)) <| Vl (Bo (c := .int .i64 (((sizeQ (d.readR n ((ed : Int))).2.1 : Nat) : Int))) rfl ((by rw [hszq]; exact bop_or8 hg4 hg5))) <| Vl (As rfl) <| ?_
      refine VLog.nil ⟨by kernel_rfl, ?_⟩
      refine Tg <| Sq <| Sq <| Rd (by kernel_rfl) <| Vl (Mv rfl) <| Vl (Ct TK27 rfl) <| Vl (Mv rfl) <| Vl (Nk rfl) <| Vl (Fa TF104_1 rfl) <| Vl (Ld TA43 rfl) <| Vl (Lv (m := R.length) TU43 rfl) <| Vl (Cv TU3 TU59 rfl wrD) <| Vl (Cb 52 [.nil, numB .u32 (((R.length : Nat) : Int)), numB .i64 (4)] rfl (t74N (((R.length : Nat) : Int)) 4 (by omega) (by decide)) rowK_ren) <| Vl (Cf rfl (Rk rfl (Rk (Rq rfl) Rz)) (t66 (A := ((d.readR n ((ed : Int))).2.1).take 4) (B := leB (((R.length : Nat) : Int)) 4) (hb2.take _) (leB_by _ _)) rfl) <| Vl (Un rfl) <| Vl (Mv rfl) <| Sl 56 rfl (fun hc3 => ?_) (fun hc3 => ?_)
      · replace hc3 := of_decide_eq_false (bnot_t hc3)
        refine Lk rfl <| Lk rfl <| Vl (Pk rfl) <| Vl (Mv rfl) <| Lk rfl <| Lk rfl <| Vl (Pk rfl) <| Vl (Mv rfl) <| Lk rfl <| Lk rfl <| Lk rfl <| Lk rfl <| Lk rfl <| Lk rfl <| Lk rfl <| Lk rfl <| Lk rfl <| Lk rfl <| Lk rfl <| Lk rfl <| Lk rfl <| Vl (Pk rfl) <| ?_
        refine VLog.nil ⟨by kernel_rfl, ?_⟩
        refine Tg <| Cy rfl <| Sq <| ?_
        have e : nxR n R.length ed d = ((d.readR n ((ed : Int))).1, [], (d.readR n ((ed : Int))).2.1, 0) := nx_unfit hlt hr0 (by rintro ⟨g1, g2, g3, g4⟩; first | contradiction | omega)
        exact Rg <| Vs (Mv rfl) <| Vs (An rfl) <| Vs (As rfl) <| Vs (As rfl) <| Nx <| Re <| Tr <| Gg (L1' := [some (⟨4, [.ptr 1 (0), .row 2 (R.length) none, vI .i64 ((ed : Int)), vB (fl)], true⟩), some (⟨4, [.own 3 (n), .b (slT 2 penB (((d.readR n ((ed : Int))).1).pen)), vI .i64 (((d.readR n ((ed : Int))).1).fuse), vB (((d.readR n ((ed : Int))).1).off)], true⟩), some (rowT 1 rwB (R)), some (rowK .u8 (((d.readR n ((ed : Int))).1).dur))]) [0, 1, 2, 3] (.val _ _ _ _ _ rfl rfl rfl (.val _ _ _ _ _ rfl rfl rfl (.val _ _ _ _ _ rfl rfl rfl .nil))) (.vals _ [.nil, slK .u8 ((d.readR n ((ed : Int))).2.1), numB .i64 (0)] rfl rfl) (by rw [e]; first | rfl | (simp only [nxV, nilO_of hF0]; rfl) | (simp only [nxV, nilO_of hF0, nilO_of hr0l]; done)) (by rw [e])
      · replace hc3 := of_decide_eq_true (bnot_f hc3)
        refine Vl (Mv rfl) <| Vl (Bi rfl) <| Vl (Pk rfl) <| Vl (Mv rfl) <| Sl 60 rfl (fun hc4 => ?_) (fun hc4 => ?_)
        · replace hc4 := of_decide_eq_true hc4
          refine Lk rfl <| Lk rfl <| Vl (Pk rfl) <| Vl (Mv rfl) <| Lk rfl <| Lk rfl <| Lk rfl <| Lk rfl <| Lk rfl <| Lk rfl <| Lk rfl <| Lk rfl <| Lk rfl <| Lk rfl <| Lk rfl <| Lk rfl <| Lk rfl <| Vl (Pk rfl) <| ?_
          refine VLog.nil ⟨by kernel_rfl, ?_⟩
          refine Tg <| Cy rfl <| Sq <| ?_
          have e : nxR n R.length ed d = ((d.readR n ((ed : Int))).1, [], (d.readR n ((ed : Int))).2.1, 0) := nx_unfit hlt hr0 (by rintro ⟨g1, g2, g3, g4⟩; first | contradiction | omega)
          exact Rg <| Vs (Mv rfl) <| Vs (An rfl) <| Vs (As rfl) <| Vs (As rfl) <| Nx <| Re <| Tr <| Gg (L1' := [some (⟨4, [.ptr 1 (0), .row 2 (R.length) none, vI .i64 ((ed : Int)), vB (fl)], true⟩), some (⟨4, [.own 3 (n), .b (slT 2 penB (((d.readR n ((ed : Int))).1).pen)), vI .i64 (((d.readR n ((ed : Int))).1).fuse), vB (((d.readR n ((ed : Int))).1).off)], true⟩), some (rowT 1 rwB (R)), some (rowK .u8 (((d.readR n ((ed : Int))).1).dur))]) [0, 1, 2, 3] (.val _ _ _ _ _ rfl rfl rfl (.val _ _ _ _ _ rfl rfl rfl (.val _ _ _ _ _ rfl rfl rfl .nil))) (.vals _ [.nil, slK .u8 ((d.readR n ((ed : Int))).2.1), numB .i64 (0)] rfl rfl) (by rw [e]; first | rfl | (simp only [nxV, nilO_of hF0]; rfl) | (simp only [nxV, nilO_of hF0, nilO_of hr0l]; done)) (by rw [e])
        · replace hc4 := of_decide_eq_false hc4
          refine Vl (Mv rfl) <| Vl (Bi rfl) <| Vl (Pk rfl) <| Vl (Mv rfl) <| Sl 64 rfl (fun hc5 => ?_) (fun hc5 => ?_)
          · replace hc5 := of_decide_eq_true hc5
            refine Lk rfl <| Lk rfl <| Lk rfl <| Lk rfl <| Lk rfl <| Lk rfl <| Lk rfl <| Lk rfl <| Lk rfl <| Lk rfl <| Lk rfl <| Lk rfl <| Lk rfl <| Vl (Pk rfl) <| ?_
            refine VLog.nil ⟨by kernel_rfl, ?_⟩
            refine Tg <| Cy rfl <| Sq <| ?_
            have e : nxR n R.length ed d = ((d.readR n ((ed : Int))).1, [], (d.readR n ((ed : Int))).2.1, 0) := nx_unfit hlt hr0 (by rintro ⟨g1, g2, g3, g4⟩; first | contradiction | omega)
            exact Rg <| Vs (Mv rfl) <| Vs (An rfl) <| Vs (As rfl) <| Vs (As rfl) <| Nx <| Re <| Tr <| Gg (L1' := [some (⟨4, [.ptr 1 (0), .row 2 (R.length) none, vI .i64 ((ed : Int)), vB (fl)], true⟩), some (⟨4, [.own 3 (n), .b (slT 2 penB (((d.readR n ((ed : Int))).1).pen)), vI .i64 (((d.readR n ((ed : Int))).1).fuse), vB (((d.readR n ((ed : Int))).1).off)], true⟩), some (rowT 1 rwB (R)), some (rowK .u8 (((d.readR n ((ed : Int))).1).dur))]) [0, 1, 2, 3] (.val _ _ _ _ _ rfl rfl rfl (.val _ _ _ _ _ rfl rfl rfl (.val _ _ _ _ _ rfl rfl rfl .nil))) (.vals _ [.nil, slK .u8 ((d.readR n ((ed : Int))).2.1), numB .i64 (0)] rfl rfl) (by rw [e]; first | rfl | (simp only [nxV, nilO_of hF0]; rfl) | (simp only [nxV, nilO_of hF0, nilO_of hr0l]; done)) (by rw [e])
          · replace hc5 := of_decide_eq_false hc5
            have hcs5 : cntQ (sizeQ (d.readR n ((ed : Int))).2.1) ≤ 66 := by unfold cntQ; omega
            refine Vl (Mv rfl) <| Vl (Nk rfl) <| Vl (Fa TF104_2 rfl) <| Vl (Ld TA3 rfl) <| Vl (Mv rfl) <| Vl (Cf rfl rfl (t65 (by omega)) rfl) <| Vl (Bo rfl adI) <| Vl (Mv rfl) <| Vl (Nk rfl) <| Vl (Fa TF104_0 rfl) <| Vl (Ld TA22 rfl) <| Gl [1, 3] [] [(1, some (⟨4, [.own 3 (n), .b (slT 2 penB (((d.readR n ((ed : Int))).1).pen)), vI .i64 (((d.readR n ((ed : Int))).1).fuse), vB (((d.readR n ((ed : Int))).1).off)], true⟩)), (3, some (rowK .u8 (((d.readR n ((ed : Int))).1).dur)))] rfl (k33 hrk hm) rfl <| Vl (Bi rfl) <| Vl (Pk rfl) <| ?_
            refine VLog.nil ⟨by kernel_rfl, ?_⟩
            refine Tg <| Cd rfl (fun hc6 => ?_) (fun hc6 => ?_)
            · replace hc6 := of_decide_eq_true hc6
              refine Sq <| ?_
              have e : nxR n R.length ed d = ((d.readR n ((ed : Int))).1, [], (d.readR n ((ed : Int))).2.1, 0) := nx_unfit hlt hr0 (by rintro ⟨g1, g2, g3, g4⟩; first | contradiction | omega)
              exact Rg <| Vs (Mv rfl) <| Vs (An rfl) <| Vs (As rfl) <| Vs (As rfl) <| Nx <| Re <| Tr <| Gg (L1' := [some (⟨4, [.ptr 1 (0), .row 2 (R.length) none, vI .i64 ((ed : Int)), vB (fl)], true⟩), some (⟨4, [.own 3 (n), .b (slT 2 penB (((d.readR n ((ed : Int))).1).pen)), vI .i64 (((d.readR n ((ed : Int))).1).fuse), vB (((d.readR n ((ed : Int))).1).off)], true⟩), some (rowT 1 rwB (R)), some (rowK .u8 (((d.readR n ((ed : Int))).1).dur))]) [0, 1, 2, 3] (.val _ _ _ _ _ rfl rfl rfl (.val _ _ _ _ _ rfl rfl rfl (.val _ _ _ _ _ rfl rfl rfl .nil))) (.vals _ [.nil, slK .u8 ((d.readR n ((ed : Int))).2.1), numB .i64 (0)] rfl rfl) (by rw [e]; first | rfl | (simp only [nxV, nilO_of hF0]; rfl) | (simp only [nxV, nilO_of hF0, nilO_of hr0l]; done)) (by rw [e])
            · replace hc6 := of_decide_eq_false hc6
              refine Ks <| Tg <| Sq <| ?_
              have hcs : 1 ≤ cntQ (sizeQ (d.readR n ((ed : Int))).2.1) ∧ cntQ (sizeQ (d.readR n ((ed : Int))).2.1) ≤ 66 := by unfold cntQ; omega
              have hfit : FitQ n R.length ed (d.readR n ((ed : Int))).2.1 := ⟨by assumption, by omega, by omega, by omega⟩
              have e0 := nx_fit hlt hr0 hfit rfl
              refine Rg <| Vs (Mv rfl) <| Gm 79 [] [] (v := .own 79 (((d.readR n ((ed : Int))).2.1).length)) [(0, ⟨4, [.ptr 1 (0), .row 2 (R.length) none, vI .i64 ((ed : Int)), vB (fl)], true⟩), (1, ⟨4, [.own 3 (n), .b (slT 2 penB (((d.readR n ((ed : Int))).1).pen)), vI .i64 (((d.readR n ((ed : Int))).1).fuse), vB (((d.readR n ((ed : Int))).1).off)], true⟩), (2, rowT 1 rwB (R)), (3, rowK .u8 (((d.readR n ((ed : Int))).1).dur)), (52, rowK .u8 (leB (((R.length : Nat) : Int)) 4)), (79, rowK .u8 ((d.readR n ((ed : Int))).2.1))] rfl (t69n (b := (d.readR n ((ed : Int))).2.1) (hF0) (by omega)) rfl <| Vs (As rfl) <| Nx <| Sq <| Sq <| Rg <| Vs (As rfl) <| Nx <| Bk <| VCode.loop (α := (Nat) × (Dk) × (List Int) × (Nat)) (fun x_ => match x_ with | (i, q, A, l) => (5, sl [(0, .ptr 0 (0)), (3, .b (slK .u8 ((d.readR n ((ed : Int))).2.1))), (5, vI .i64 (((sizeQ (d.readR n ((ed : Int))).2.1 : Nat) : Int))), (6, .own 4 (l)), (7, vI .i64 ((i : Int)))], en [(0, ⟨4, [.ptr 1 (0), .row 2 (R.length) none, vI .i64 ((ed : Int)), vB (fl)], true⟩), (1, ⟨4, [.own 3 (n), .b (slT 2 penB (q.pen)), vI .i64 (q.fuse), vB (q.off)], true⟩), (2, rowT 1 rwB (R)), (3, rowK .u8 (q.dur)), (4, rowK .u8 (A))])) (fun x_ => match x_ with | (i, q, A, l) => 1 ≤ i ∧ i ≤ cntQ (sizeQ (d.readR n ((ed : Int))).2.1) ∧ q.Ok n m ∧ q.By ∧ ByR A ∧ A.length = i * 64 ∧ l = i * 64 ∧ rdAll n (ed : Int) i (cntQ (sizeQ (d.readR n ((ed : Int))).2.1) - i) q A = (rdAll n (ed : Int) 1 (cntQ (sizeQ (d.readR n ((ed : Int))).2.1) - 1) (d.readR n ((ed : Int))).1 (d.readR n ((ed : Int))).2.1)) (fun x_ => match x_ with | (i, q, A, l) => cntQ (sizeQ (d.readR n ((ed : Int))).2.1) - i) (1, (d.readR n ((ed : Int))).1, (d.readR n ((ed : Int))).2.1, ((d.readR n ((ed : Int))).2.1).length) ⟨Nat.le_refl _, by omega, hrk, hb1, hb2, hfl, hfl, rfl⟩ (Wt [(4, 79)]) ?_
              rintro ⟨i, q, A, l⟩ hok
              obtain ⟨hi1, hi2, hq, hqB, hA, hAl, hll, hI⟩ := hok
              change VCode _ _ _ 5 (sl _) (en _) _
              refine Sq <| Sq <| Rg <| Vs (Mv rfl) <| Vs (Mv rfl) <| Vs (Cf rfl rfl (t65 (by omega)) rfl) <| Vs (Bi rfl) <| Nx <| Cd rfl (fun hc7 => ?_) (fun hc7 => ?_)
              · replace hc7 := of_decide_eq_true hc7
                refine Ks <| Tg <| Sq <| Bk <| Sq <| Rd (by kernel_rfl) <| Vl (Mv rfl) <| Vl (Nk rfl) <| Vl (Fa TF104_0 rfl) <| Vl (Ld TA22 rfl) <| Vl (Mv rfl) <| Vl (Nk rfl) <| Vl (Fa TF104_2 rfl) <| Vl (Ld TA3 rfl) <| Vl (Mv rfl) <| Vl (Bo rfl adI) <| Gl [1, 3] [] [(1, some (⟨4, [.own 3 (n), .b (slT 2 penB (((q.readR n (((ed : Int) + (i : Int)))).1).pen)), vI .i64 (((q.readR n (((ed : Int) + (i : Int)))).1).fuse), vB (((q.readR n (((ed : Int) + (i : Int)))).1).off)], true⟩)), (3, some (rowK .u8 (((q.readR n (((ed : Int) + (i : Int)))).1).dur)))] rfl (k21 hq hm (((ed : Int) + (i : Int)))) rfl <| Vl (Mv rfl) <| Vl (Xt rfl) <| Vl (Xt rfl) <| Vl (As rfl) <| Vl (As rfl) <| ?_
                refine VLog.nil ⟨by kernel_rfl, ?_⟩
                refine Tg <| Sq <| Sq <| Rg <| Vs (Mv rfl) <| Vs (Bi rfl) <| Nx <| Cd rfl (fun hc8 => ?_) (fun hc8 => ?_)
                · replace hc8 := bne_iff_ne.1 hc8
                  refine Sq <| ?_
                  have e : nxR n R.length ed d = ((q.readR n ((ed : Int) + (i : Int))).1, [], [], (q.readR n ((ed : Int) + (i : Int))).2.2) := by rw [e0, ← hI, rdAll_err (i := i) (by omega) (by assumption)]; exact if_neg (by assumption)
                  exact Rg <| Vs (Mv rfl) <| Vs (An rfl) <| Vs (An rfl) <| Vs (As rfl) <| Nx <| Re <| Tr <| Iq <| Tr <| Or <| Iq <| Tr <| Gg (L1' := [some (⟨4, [.ptr 1 (0), .row 2 (R.length) none, vI .i64 ((ed : Int)), vB (fl)], true⟩), some (⟨4, [.own 3 (n), .b (slT 2 penB (((q.readR n (((ed : Int) + (i : Int)))).1).pen)), vI .i64 (((q.readR n (((ed : Int) + (i : Int)))).1).fuse), vB (((q.readR n (((ed : Int) + (i : Int)))).1).off)], true⟩), some (rowT 1 rwB (R)), some (rowK .u8 (((q.readR n (((ed : Int) + (i : Int)))).1).dur))]) [0, 1, 2, 3] (.val _ _ _ _ _ rfl rfl rfl (.val _ _ _ _ _ rfl rfl rfl (.val _ _ _ _ _ rfl rfl rfl .nil))) (.vals _ [.nil, .nil, numB .i64 ((q.readR n (((ed : Int) + (i : Int)))).2.2)] rfl rfl) (by rw [e]; first | rfl | (simp only [nxV, nilO_of hF0]; rfl) | (simp only [nxV, nilO_of hF0, nilO_of hr0l]; done)) (by rw [e])
                · replace hc8 := bne_eq_false_iff_eq.1 hc8
                  refine Ks <| Tg <| ?_
                  have hrq : (q.readR n ((ed : Int) + (i : Int))).2.2 = 0 := by omega
                  have hrql := read_len hrq
                  exact Rg <| Vs (Mv rfl) <| Vs (Mv rfl) <| Vs (Ap 29 TK27 rfl rfl (hl := (by omega)) (hm := (by simp only [maxLen]; omega))) <| Vs (As rfl) <| VList.nil <| Ig <| Tg <| Rg <| Vs (Mv rfl) <| Vs (Bo rfl adI) <| Vs (As rfl) <| VList.nil <| Go (i + 1, (q.readR n ((ed : Int) + (i : Int))).1, A ++ (q.readR n ((ed : Int) + (i : Int))).2.1, (l) + ((q.readR n (((ed : Int) + (i : Int)))).2.1).length) ⟨by omega, by omega, hq.read _, (hqB.readR n _).1, hA.append (hqB.readR n _).2, by rw [List.length_append, hrql]; omega, by rw [hrql]; omega, by rw [← hI, rdAll_go (i := i) (by omega) hrq]; congr 1⟩ (Wt [(4, 29)])
              · replace hc7 := of_decide_eq_false hc7
                refine Ke <| Te <| Oe <| Ih <| Cx (n1 := 4) (S1 := [(0, .ptr 0 (0)), (3, .b (slK .u8 ((d.readR n ((ed : Int))).2.1))), (5, vI .i64 (((sizeQ (d.readR n ((ed : Int))).2.1 : Nat) : Int))), (6, .b (slK .u8 (A)))]) (L1 := [(0, ⟨4, [.ptr 1 (0), .row 2 (R.length) none, vI .i64 ((ed : Int)), vB (fl)], true⟩), (1, ⟨4, [.own 3 (n), .b (slT 2 penB (q.pen)), vI .i64 (q.fuse), vB (q.off)], true⟩), (2, rowT 1 rwB (R)), (3, rowK .u8 (q.dur))]) (Weak.conv (nv := [4]) ⟨⟨⟨_, rfl, .inl rfl⟩, rfl⟩, ⟨⟨_, rfl, .inl rfl⟩, rfl⟩, ⟨⟨_, rfl, .inl rfl⟩, rfl⟩, ⟨⟨_, rfl, cv_own rfl (by omega)⟩, rfl⟩, trivial⟩ ⟨⟨⟨_, rfl, rfl, rfl, ⟨.inl rfl, .inl rfl, .inl rfl, .inl rfl, trivial⟩⟩, Nat.le_of_ble_eq_true rfl, cells_of rfl⟩, ⟨⟨_, rfl, rfl, rfl, ⟨.inl rfl, .inl rfl, .inl rfl, .inl rfl, trivial⟩⟩, Nat.le_of_ble_eq_true rfl, cells_of rfl⟩, ⟨⟨_, rfl, rfl, rfl, Two.same (fun _ => .inl rfl) _⟩, Nat.le_of_ble_eq_true rfl, rowT_cells⟩, ⟨⟨_, rfl, rfl, rfl, Two.same (fun _ => .inl rfl) _⟩, Nat.le_of_ble_eq_true rfl, row_cellsK⟩, trivial⟩ (Nat.le_of_ble_eq_true rfl)) <| Sq <| ?_
                have hic : i = cntQ (sizeQ (d.readR n ((ed : Int))).2.1) := by omega
                have hI2 : (rdAll n (ed : Int) 1 (cntQ (sizeQ (d.readR n ((ed : Int))).2.1) - 1) (d.readR n ((ed : Int))).1 (d.readR n ((ed : Int))).2.1) = (q, A, 0) := by rw [← hI, hic, Nat.sub_self]; rfl
                rw [hI2] at e0
                simp only [↓reduceIte] at e0
                have hrec : ByR (recQ A (sizeQ (d.readR n ((ed : Int))).2.1)) := (hA.take _).drop _
                have hcl := cntQ_le (sizeQ (d.readR n ((ed : Int))).2.1)
                have hrl : (recQ A (sizeQ (d.readR n ((ed : Int))).2.1)).length = sizeQ (d.readR n ((ed : Int))).2.1 := by simp only [recQ, List.length_drop, List.length_take]; omega
                have hr0l : recQ A (sizeQ (d.readR n ((ed : Int))).2.1) ≠ [] := by intro h; rw [h] at hrl; simp only [List.length_nil] at hrl; omega
                refine Rg <| Vs (Mv rfl) <| Vs (Mv rfl) <| Vs (Bo rfl adI) <| Vs (Cbt TK27 rfl (h0 := (by omega)) (h1 := (by omega)) (h2 := (by omega))) <| Vs (As rfl) <| Nx <| Sq <| Sq <| Rg <| Vs (Mv rfl) <| Vs (Mv rfl) <| Vs (Nk rfl) <| Vs (Fa TF104_1 rfl) <| Vs (Ld TA43 rfl) <| Vs (Lv (m := R.length) TU43 rfl) <| Vs (Mv rfl) <| Vs (C0 rfl rfl (t68 (n := ((R.length : Nat) : Int)) (b := recQ A (sizeQ (d.readR n ((ed : Int))).2.1)) (by omega) (hrec) (by rw [hrl]; omega))) <| Vs (Cf rfl rfl (t66 (A := A) (B := formQ (((R.length : Nat) : Int)) (recQ A (sizeQ (d.readR n ((ed : Int))).2.1))) (hA) (formQ_by hrec)) rfl) <| Vs (Un rfl) <| Nx <| Cd rfl (fun hc9 => ?_) (fun hc9 => ?_)
                · replace hc9 := of_decide_eq_false (bnot_t hc9)
                  refine Sq <| ?_
                  have e : nxR n R.length ed d = (q, [], (d.readR n ((ed : Int))).2.1, 0) := by rw [e0, if_neg (by assumption)]
                  exact Rg <| Vs (Mv rfl) <| Vs (An rfl) <| Vs (As rfl) <| Vs (As rfl) <| Nx <| Re <| Tr <| Gg (L1' := [some (⟨4, [.ptr 1 (0), .row 2 (R.length) none, vI .i64 ((ed : Int)), vB (fl)], true⟩), some (⟨4, [.own 3 (n), .b (slT 2 penB (q.pen)), vI .i64 (q.fuse), vB (q.off)], true⟩), some (rowT 1 rwB (R)), some (rowK .u8 (q.dur))]) [0, 1, 2, 3] (.val _ _ _ _ _ rfl rfl rfl (.val _ _ _ _ _ rfl rfl rfl (.val _ _ _ _ _ rfl rfl rfl .nil))) (.vals _ [.nil, slK .u8 ((d.readR n ((ed : Int))).2.1), numB .i64 (0)] rfl rfl) (by rw [e]; first | rfl | (simp only [nxV, nilO_of hF0]; rfl) | (simp only [nxV, nilO_of hF0, nilO_of hr0l]; done)) (by rw [e])
                · replace hc9 := of_decide_eq_true (bnot_f hc9)
                  refine Ks <| Tg <| Sq <| ?_
                  have e : nxR n R.length ed d = (q, recQ A (sizeQ (d.readR n ((ed : Int))).2.1), (d.readR n ((ed : Int))).2.1, 0) := by rw [e0, if_pos (by assumption)]
                  exact Rg <| Vs (Mv rfl) <| Vs (C0 rfl rfl (t69 (b := recQ A (sizeQ (d.readR n ((ed : Int))).2.1)) (hr0l) (by rw [hrl]; omega))) <| Vs (Mv rfl) <| Vs (As rfl) <| Vs (As rfl) <| Vs (As rfl) <| Nx <| Re <| Gg (L1' := [some (⟨4, [.ptr 1 (0), .row 2 (R.length) none, vI .i64 ((ed : Int)), vB (fl)], true⟩), some (⟨4, [.own 3 (n), .b (slT 2 penB (q.pen)), vI .i64 (q.fuse), vB (q.off)], true⟩), some (rowT 1 rwB (R)), some (rowK .u8 (q.dur))]) [0, 1, 2, 3] (.val _ _ _ _ _ rfl rfl rfl (.val _ _ _ _ _ rfl rfl rfl (.val _ _ _ _ _ rfl rfl rfl .nil))) (.vals _ [slK .u8 (recQ A (sizeQ (d.readR n ((ed : Int))).2.1)), slK .u8 ((d.readR n ((ed : Int))).2.1), numB .i64 (0)] rfl rfl) (by rw [e]; first | rfl | (simp only [nxV, nilO_of hF0]; rfl) | (simp only [nxV, nilO_of hF0, nilO_of hr0l]; done)) (by rw [e])
end Go.VL

/- The journal, plain: writing a form. -/
set_option linter.unusedVariables false
set_option linter.unusedSimpArgs false
namespace Go.VL
def secF (F : List Int) (j : Nat) : List Int := (F.take ((j + 1) * 64)).drop (j * 64)
theorem secF_len {F : List Int} {k j : Nat} (h : F.length = k * 64) (hj : j < k) : (secF F j).length = 64 := by simp only [secF, List.length_drop, List.length_take]; omega
theorem secF_by {F : List Int} (h : ByR F) (j : Nat) : ByR (secF F j) := (h.take _).drop _
def wrSec (n : Nat) (ed : Int) (F : List Int) : Nat → Nat → Dk → Dk × Int
  | _, 0, d => (d, 0)
  | j, k + 1, d => if (d.writeR n (ed + j) (secF F j)).2 = 0 then wrSec n ed F (j + 1) k (d.writeR n (ed + j) (secF F j)).1 else d.writeR n (ed + j) (secF F j)
def wsD (n : Nat) (ed : Int) (F : List Int) (z : Dk) : Nat → Dk
  | 0 => z
  | j + 1 => if j = 0 then z else ((wsD n ed F z j).writeR n (ed + j) (secF F j)).1
def wfC (n : Nat) (ed : Int) (F : List Int) (d : Dk) : Dk × Int :=
  if d.syncR.2 = 0 then if (d.syncR.1.writeR n ed (secF F 0)).2 = 0 then (d.syncR.1.writeR n ed (secF F 0)).1.syncR else d.syncR.1.writeR n ed (secF F 0) else d.syncR
def wfB (n : Nat) (ed : Int) (F : List Int) (k : Nat) (z : Dk) : Dk × Int := if (wrSec n ed F 1 (k - 1) z).2 = 0 then wfC n ed F (wrSec n ed F 1 (k - 1) z).1 else wrSec n ed F 1 (k - 1) z
def wfA (n : Nat) (ed : Int) (k : Nat) (d : Dk) : Dk × Int := if ed + k < (n : Int) / 64 then d.writeR n (ed + k) (List.replicate 64 0) else (d, 0)
/-- What a form is written by. -/
def wfR (n : Nat) (ed : Int) (F : List Int) (k : Nat) (d : Dk) : Dk × Int := if (wfA n ed k d).2 = 0 then wfB n ed F k (wfA n ed k d).1 else wfA n ed k d
section
variable {n m k j : Nat} {ed : Int} {F : List Int} {d z : Dk}
theorem wsD_ok (h : z.Ok n m) : ∀ j, (wsD n ed F z j).Ok n (m + j)
  | 0 => h
  | j + 1 => by
    unfold wsD
    split
    · exact h.mono (by omega)
    · exact (wsD_ok h j).write _ _
theorem wsD_by (h : z.By) (hF : ByR F) : ∀ j, (wsD n ed F z j).By
  | 0 => h
  | j + 1 => by
    unfold wsD
    split
    · exact h
    · exact (wsD_by h hF j).writeR n _ (secF_by hF j)
theorem ws_z (h : j = 0) : wsD n ed F z j = wsD n ed F z (j + 1) := by subst h; simp [wsD]
theorem ws_s (h : ¬ j = 0) : ((wsD n ed F z j).writeR n (ed + j) (secF F j)).1 = wsD n ed F z (j + 1) := by simp [wsD, h]
/-- No write failed so far. -/
def WsJ (n : Nat) (ed : Int) (F : List Int) (k : Nat) (z : Dk) (j : Nat) : Prop := j = 0 ∨ wrSec n ed F 1 (k - 1) z = wrSec n ed F j (k - j) (wsD n ed F z j)
theorem WsJ.zero (h : j = 0) : WsJ n ed F k z (j + 1) := by subst h; exact .inr rfl
theorem WsJ.s (h : WsJ n ed F k z j) (h0 : ¬ j = 0) (hj : j < k) (he : ((wsD n ed F z j).writeR n (ed + j) (secF F j)).2 = 0) : WsJ n ed F k z (j + 1) := by
  refine .inr ((h.resolve_left h0).trans ?_)
  rw [show k - j = (k - (j + 1)) + 1 by omega, wrSec, if_pos he, ws_s h0]
theorem WsJ.err (h : WsJ n ed F k z j) (h0 : ¬ j = 0) (hj : j < k) (he : ¬ ((wsD n ed F z j).writeR n (ed + j) (secF F j)).2 = 0) : wfB n ed F k z = (wsD n ed F z j).writeR n (ed + j) (secF F j) := by
  have e : wrSec n ed F 1 (k - 1) z = (wsD n ed F z j).writeR n (ed + j) (secF F j) := by
    rw [h.resolve_left h0, show k - j = (k - (j + 1)) + 1 by omega, wrSec, if_neg he]
  rw [wfB, e, if_neg he]
theorem WsJ.fin (h : WsJ n ed F k z k) (h0 : 1 ≤ k) : wfB n ed F k z = wfC n ed F (wsD n ed F z k) := by
  have e : wrSec n ed F 1 (k - 1) z = (wsD n ed F z k, 0) := by
    rw [h.resolve_left (by omega), Nat.sub_self]; rfl
  rw [wfB, e, if_pos rfl]
theorem wfC_e1 (h : ¬ d.syncR.2 = 0) : wfC n ed F d = d.syncR := by rw [wfC, if_neg h]
theorem wfC_e2 (h : d.syncR.2 = 0) (h2 : ¬ (d.syncR.1.writeR n ed (secF F 0)).2 = 0) : wfC n ed F d = d.syncR.1.writeR n ed (secF F 0) := by rw [wfC, if_pos h, if_neg h2]
theorem wfC_ok (h : d.syncR.2 = 0) (h2 : (d.syncR.1.writeR n ed (secF F 0)).2 = 0) : wfC n ed F d = (d.syncR.1.writeR n ed (secF F 0)).1.syncR := by rw [wfC, if_pos h, if_pos h2]
theorem wfR_e (h : ¬ (wfA n ed k d).2 = 0) : wfR n ed F k d = wfA n ed k d := by rw [wfR, if_neg h]
theorem wfR_ok (h : (wfA n ed k d).2 = 0) : wfR n ed F k d = wfB n ed F k (wfA n ed k d).1 := by rw [wfR, if_pos h]
theorem wfA_y (h : ed + k < (n : Int) / 64) : wfA n ed k d = d.writeR n (ed + k) (List.replicate 64 0) := by rw [wfA, if_pos h]
theorem wfA_n (h : ¬ ed + k < (n : Int) / 64) : wfA n ed k d = (d, 0) := by rw [wfA, if_neg h]
end
end Go.VL

/- A range over a function: what the iterator promises, and the rule for the statement. -/
set_option linter.unusedVariables false
set_option linter.unusedSimpArgs false
namespace Go.VL
open Go.RowKit

/-- What an iterator promises: it yields values that are told one after the other, as long as it is asked to go on; it reads memory and changes nothing. -/
def SeqV (P : Program) (f : FuncId) (cs : Array Value) (m : Nat) (I : Nat → World → Prop) (It : Nat → World → Array Value → Prop) : Prop :=
  ∀ (F : Fence), RF F → F.round = none → ∀ (l : Nat) (J : Nat → World → Prop) (Jx : World → Prop) (W : World), (∀ k W, J k W → I k W) →
    (∀ k W args, k < m → J k W → It k W args → YieldAt F 0 P l args W fun e W' => (e = .returned (.bool true) ∧ J (k + 1) W') ∨ (e = .returned (.bool false) ∧ Jx W')) → J 0 W →
    CallsIn F 0 P f (#[.func (.yield l) #[] #[]] ++ cs) W fun e W' => (∃ v, e = .returned v) ∧ (J m W' ∨ Jx W')
/-- The slots at the head of a round. -/
def setL (s : Slots) : List Nat → List V → Slots
  | t :: ts, v :: vs => setL (setAt s t (some v)) ts vs
  | _, _ => s
/-- Code that fills none of these slots. -/
def codeFree (s : Slots) : Code → Bool
  | .region _ ops _ => ops.toList.all fun o => match o.dst with
    | some d => (s d).isNone
    | none => true
  | .seq a b => codeFree s a && codeFree s b
  | .cond _ a b => codeFree s a && codeFree s b
  | .block _ b => codeFree s b
  | .loop b => codeFree s b
  | .scope b => codeFree s b
  | .rangeFunc _ _ _ _ => false
  | _ => true

section
variable {P : Program} {w0 W W1 : World} {P0 F : Nat → Prop} {E0 E E1 : Env} {pl0 pl pl1 : Plan} {N N' : Frm} {id : Nat} {s : Slots} {a : Act} {o : Oper} {K : Act → World → Prop} {Qx : Exit → Act → World → Prop}
theorem Sim.refit (S : Sim w0 P0 E0 pl0 N E pl s a W) {a' : Act} (hat : N'.At a') (hs : ∀ t x u, s t = some x → a.tmps[t]? = some u → a'.tmps[t]? = some u) (hm : Marked w0.heap.size N'.ob W a'.defers) : Sim w0 P0 E0 pl0 N' E pl s a' W :=
  ⟨S.keep, S.mine, S.eok, S.plan, fun t x ht => let ⟨u, hu, hr⟩ := S.slots t x ht; ⟨u, hs t x u ht hu, hr⟩, hat, hm⟩
theorem Sim.putO (S : Sim w0 P0 E0 pl0 N E pl s a W) {D : Nat} {o o' : Obj} (hD : W.heap[D]? = some o) (ho : o.isCells = false) (ho' : o'.isCells = false) (hnd : o ≠ .deferred (some [])) (hn : w0.heap.size ≤ D) (hat : N'.At a) (hob : ∀ b, b ≠ D → N'.ob b = N.ob b) (hoD : ∀ x, N'.ob D = some x → x = o') :
    Sim w0 P0 E0 pl0 N' E pl s a (W.putObj D o') := by
  obtain ⟨q0, L, q1, q2, q3⟩ := S.defers
  have hm : Marked w0.heap.size N'.ob (W.putObj D o') a.defers := by
    refine ⟨fun b x hb => ?_, L, q1, q2, fun D' hD' => ⟨(q3 D' hD').1, ?_⟩⟩
    · by_cases hbD : b = D
      · subst hbD
        have := hoD x hb
        subst this
        exact ⟨World.putObj_heap_same (Array.getElem?_eq_some_iff.1 hD).1, fun cur T h => by subst h; cases ho'⟩
      · rw [World.putObj_heap_other hbD]
        rw [hob b hbD] at hb
        exact q0 b x hb
    · have hne : D' ≠ D := fun e => by
        subst e
        have := (q3 D' hD').2
        rw [hD] at this; injection this with this; exact hnd this
      rw [World.putObj_heap_other hne]
      exact (q3 D' hD').2
  have hs : ∀ (k : Nat) (o : Obj), W.heap[k]? = some o → o.isCells = true → (W.putObj D o').heap[k]? = some o := fun k o1 h1 h2 => by
    have hk : k ≠ D := fun e => by subst e; rw [hD] at h1; injection h1 with h1; subst h1; rw [ho] at h2; cases h2
    rw [World.putObj_heap_other hk]; exact h1
  refine ⟨⟨S.keep.os, S.keep.tape, S.keep.output, by simpa [World.putObj] using S.keep.size, fun k hk hh => ?_⟩, S.mine, ⟨fun i e he => ?_, S.eok.inj⟩, S.plan, fun t x ht => ?_, hat, hm⟩
  · rw [World.putObj_heap_other (by omega)]; exact S.keep.block k hk hh
  · obtain ⟨g, c, cur, T, h1, h2, h3, h4, h5, h6, h7, h8⟩ := S.eok.ent i e he
    refine ⟨g, c, cur, T, h1, fun h0 => hs _ _ (h2 h0) rfl, h3, h4, h5, h6, h7, fun j x hj => ?_⟩
    obtain ⟨u, hu, hu1, hr⟩ := h8 j x hj
    exact ⟨u, hu, hu1, RepL.moveC hs hr⟩
  · obtain ⟨u, hu, hr⟩ := S.slots t x ht
    exact ⟨u, hu, Rep.moveC hs hr⟩
theorem marks_empty {n : Nat} {ob : Nat → Option Obj} {ds : List Deferred} (h : Marked n ob W ds) : Marked n ob W [] := ⟨h.objs, [], rfl, List.nodup_nil, fun D hD => by cases hD⟩
theorem markD_inj : ∀ {l l' : List Nat}, l.map markD = l'.map markD → l = l'
  | [], [], _ => rfl
  | [], _ :: _, h => by cases h
  | _ :: _, [], h => by cases h
  | x :: r, y :: q, h => by
    simp only [List.map_cons, List.cons.injEq] at h
    have hx : x = y := by
      have := h.1; unfold markD at this; injection this with this _; injection this
    rw [hx, markD_inj h.2]
theorem Sim.newObj (S : Sim w0 P0 E0 pl0 N E pl s a W) (o : Obj) : Sim w0 P0 E0 pl0 N E pl s a (W.alloc o) := by
  have hs : ∀ k, k < W.heap.size → ¬ False → (W.alloc o).heap[k]? = W.heap[k]? := fun k hk _ => by
    show (W.heap.push _)[k]? = _
    rw [Array.getElem?_push, if_neg (by omega)]
  exact S.step (fun _ => False) rfl rfl rfl (by simp) hs (fun k h => h.elim) (fun _ _ h => h) (fun k hk => .inl hk) ⟨fun i e he => (S.eok.ent i e he).move (fun _ => False) hs (fun k h => h.elim) (fun _ _ h => h) (fun k hk => .inl hk) (fun _ _ _ h => h), S.eok.inj⟩
theorem codeOk_free {N N' : Frm} (hn : N'.n = N.n) (hf : ∀ t, N.fx t = none → s t = none → N'.fx t = none) : ∀ (c : Code), codeOk N c = true → codeFree s c = true → codeOk N' c = true := by
  intro c
  induction c with
  | region id ops d =>
    intro h1 h2
    simp only [codeOk, codeFree, List.all_eq_true, Bool.and_eq_true] at h1 h2 ⊢
    intro o ho
    refine ⟨?_, (h1 o ho).2⟩
    have h3 := (h1 o ho).1
    have h4 := h2 o ho
    cases hd : o.dst with
    | none => rfl
    | some d =>
      rw [hd] at h3 h4
      simp only [Bool.and_eq_true, decide_eq_true_eq, Option.isNone_iff_eq_none] at h3 h4 ⊢
      exact ⟨by rw [hn]; exact h3.1, hf d h3.2 h4⟩
  | seq x y ihx ihy => intro h1 h2; simp only [codeOk, codeFree, Bool.and_eq_true] at h1 h2 ⊢; exact ⟨ihx h1.1 h2.1, ihy h1.2 h2.2⟩
  | cond c x y ihx ihy => intro h1 h2; simp only [codeOk, codeFree, Bool.and_eq_true] at h1 h2 ⊢; exact ⟨ihx h1.1 h2.1, ihy h1.2 h2.2⟩
  | block id b ih => intro h1 h2; exact ih h1 h2
  | loop b ih => intro h1 h2; exact ih h1 h2
  | scope b ih => intro h1 h2; exact ih h1 h2
  | rangeFunc g ps x y ihx ihy => intro h1 h2; cases h2
  | _ => intro h1 h2; rfl
theorem Sim.putL : ∀ (ps : List Nat) (vs : List V) (us : List Value) {s : Slots} {a : Act}, Sim w0 P0 E0 pl0 N E pl s a W → us.length = ps.length → vs.length = ps.length → (∀ t ∈ ps, N.ok t) →
    (∀ (q : Nat) (v : V), vs[q]? = some v → ∃ u, us[q]? = some u ∧ Rep W (Qf (FF w0 P0) E pl) pl v u) →
    Sim w0 P0 E0 pl0 N E pl (setL s ps vs) { a with tmps := (ps.zip us).foldl (fun t (p : Nat × Value) => t.setIfInBounds p.1 p.2) a.tmps } W
  | [], vs, us, s, a, S, h1, h2, h3, h4 => by
    cases vs with
    | cons => simp at h2
    | nil => cases a; exact S
  | t :: ps, vs, us, s, a, S, h1, h2, h3, h4 => by
    cases vs with
    | nil => simp at h2
    | cons v vs =>
      cases us with
      | nil => simp at h1
      | cons u us =>
        obtain ⟨u', hu', hr⟩ := h4 0 v rfl
        simp at hu'; subst hu'
        exact Sim.putL ps vs us (S.put t (h3 t (by simp)) hr) (by simpa using h1) (by simpa using h2) (fun t ht => h3 t (by simp [ht])) (fun q v hq => h4 (q + 1) v hq)
theorem zip_foldl (ps : Array Nat) (us : Array Value) (T : Array Value) : (ps.zip us).foldl (fun tmps (t, a) => tmps.setIfInBounds t a) T = (ps.toList.zip us.toList).foldl (fun t (p : Nat × Value) => t.setIfInBounds p.1 p.2) T := by
  rw [← Array.foldl_toList, Array.toList_zip]
end

section
variable {P : Program} {k n : Nat} {s : Slots} {E : Env} {X : VExit → Nat → Slots → Env → Prop}
/-- A range over a function. -/
theorem VCode.range {g : Operand} {ps : Array Tmp} {assign body : Code} {f : FuncId} {caps : List V} (hg : ev s g = some (.fn f caps)) (hE : Enters P f) (m : Nat) (st : Nat → Nat × Env) (hst : st 0 = (n, E)) (J : Nat → Prop) (hJ : J 0)
    (I : Array Value → Nat → World → Prop) (It : Array Value → Nat → World → Array Value → Prop) (items : Nat → List V)
    (hseq : ∀ arr : Array Value, arr.size = caps.length → SeqV P f arr m (fun j W => j ≤ m ∧ I arr j W) (It arr))
    (hI : ∀ (w0 W : World) (P0 : Nat → Prop) (E0 : Env) (pl0 pl : Plan) (N : Frm) (a : Act) (arr : Array Value) (j : Nat), j ≤ m → Sim w0 P0 E0 pl0 N (st j).2 pl s a W → a.eval g = .func (.func f) #[] arr → I arr j W)
    (hIt : ∀ (w0 W : World) (P0 : Nat → Prop) (E0 : Env) (pl0 pl : Plan) (N : Frm) (a : Act) (arr : Array Value) (j : Nat) (args : Array Value), j < m → Sim w0 P0 E0 pl0 N (st j).2 pl s a W → a.eval g = .func (.func f) #[] arr → It arr j W args →
      args.size = ps.size ∧ ∀ (q : Nat) (v : V), (items j)[q]? = some v → ∃ u, args[q]? = some u ∧ Rep W (Qf (FF w0 P0) (st j).2 pl) pl v u)
    (hlen : ∀ j, (items j).length = ps.size) (hfree : ps.toList.all (fun t => (s t).isNone) = true) (hfreeA : codeFree s assign = true) (hfreeB : codeFree s body = true) (hnr : noRange assign = true ∧ noRange body = true)
    (hbody : ∀ j, j < m → J j → VCode P k assign (st j).1 (setL s ps.toList (items j)) (st j).2 fun e n' s' E' => e = .normal ∧ VCode P k body n' s' E' fun e n2 s2 E2 => match e with
      | .normal => J (j + 1) ∧ Weak k s2 E2 (st (j + 1)).1 s (st (j + 1)).2
      | e => ∃ n3 E3, Weak k s2 E2 n3 s E3 ∧ X e n3 s E3)
    (hdone : J m → X .normal (st m).1 s (st m).2) : VCode P k (.rangeFunc g ps assign body) n s E X := by
  intro F w0 W P0 E0 pl0 pl N a Qx hF hR hm hN h0 S hf hQ
  obtain ⟨arr, hga, harr, _⟩ := S.ev hg
  simp only [codeOk, Bool.and_eq_true, Array.all_eq_true, decide_eq_true_eq, Option.isNone_iff_eq_none] at hN
  obtain ⟨⟨hps, hNA⟩, hNB⟩ := hN
  have hpsok : ∀ t ∈ ps.toList, t < N.n ∧ N.fx t = none := fun t ht => by
    obtain ⟨i, hi, rfl⟩ := Array.mem_iff_getElem.1 (by simpa using ht)
    exact hps i hi
  have hpsfree : ∀ t ∈ ps.toList, s t = none := fun t ht => by simpa using List.all_eq_true.1 hfree t ht
  obtain ⟨hob, L, hL1, hL2, hL3⟩ := S.defers
  refine wpIn_rangeFunc ?_
  intro fn hfn
  rw [hR]
  obtain ⟨rec, hrec⟩ : ∃ rec : LoopState → Option Code → Loop, rec = fun st pe => { state := st, pending := pe, fn, tmps := a.tmps, params := ps, assign, body, defers := W.heap.size } := ⟨_, rfl⟩
  obtain ⟨W1, hW1⟩ : ∃ W1, (W.alloc (.deferred (some []))).alloc (.loop (rec .ready none)) = W1 := ⟨_, rfl⟩
  have hl1 : W1.heap[W.heap.size + 1]? = some (.loop (rec .ready none)) := by
    rw [← hW1]; have := World.alloc_heap_new (W.alloc (.deferred (some []))) (.loop (rec .ready none)); rwa [World.size_alloc] at this
  have hr1 : W1.heap[W.heap.size]? = some (.deferred (some [])) := by
    rw [← hW1]; exact (Below.heap_alloc _ _ _ (by simp)).trans (World.alloc_heap_new W _)
  have hold : ∀ D, D < W.heap.size → W1.heap[D]? = W.heap[D]? := fun D hD => by
    rw [← hW1]; exact (Below.heap_alloc _ _ _ (by simp; omega)).trans (Below.heap_alloc _ _ _ hD)
  obtain ⟨a', ha'⟩ : ∃ a' : Act, { a with defers := markD W.heap.size :: a.defers } = a' := ⟨_, rfl⟩
  have hta : a'.tmps = a.tmps := by rw [← ha']
  have hev : a'.eval g = .func (.func f) #[] arr := by rw [← ha']; exact hga
  have hw0 : w0.heap.size ≤ W.heap.size := S.keep.size
  have obW : ∀ b o, N.ob b = some o → b < W.heap.size := fun b o h => (Array.getElem?_eq_some_iff.1 (hob b o h).1).1
  have LW : ∀ D ∈ L, D < W.heap.size := fun D hD => (Array.getElem?_eq_some_iff.1 (hL3 D hD).2).1
  -- the marks, where they lie
  have marks : ∀ W', (∀ b o, N.ob b = some o → W'.heap[b]? = some o) → (∀ D ∈ W.heap.size :: L, W'.heap[D]? = some (.deferred (some []))) → Marked w0.heap.size N.ob W' a'.defers := fun W' h1 h2 => by
    refine ⟨fun l o h => ⟨h1 l o h, (hob l o h).2⟩, W.heap.size :: L, by rw [← ha', hL1]; rfl, List.nodup_cons.2 ⟨fun h => Nat.lt_irrefl _ (LW _ h), hL2⟩, fun D hD => ⟨?_, h2 D hD⟩⟩
    rcases List.mem_cons.1 hD with rfl | hD
    · exact hw0
    · exact (hL3 D hD).1
  have S1 : Sim w0 P0 E0 pl0 N E pl s a' W1 := by
    have S1 := (S.newObj (.deferred (some []))).newObj (.loop (rec .ready none))
    rw [hW1] at S1
    refine S1.refit ⟨by rw [hta]; exact S.size.size, fun t v h => by rw [hta]; exact S.size.fix t v h⟩ (fun t x u _ h => by rw [hta]; exact h) (marks W1 (fun b o h => by rw [hold b (obW b o h)]; exact (hob b o h).1) (fun D hD => ?_))
    rcases List.mem_cons.1 hD with rfl | hD
    · exact hr1
    · rw [hold D (LW D hD)]; exact (hL3 D hD).2
  -- a round's frame
  let NR : Option Obj → Frm := fun ob => ⟨N.n, fun t => if (s t).isSome then a.tmps[t]? else N.fx t, fun b => if b = W.heap.size + 1 then ob else if (W.heap.size :: L).contains b then some (.deferred (some [])) else N.ob b⟩
  have NRok : ∀ ob t, N.fx t = none → s t = none → (NR ob).fx t = none := fun ob t h1 h2 => by simp [NR, h1, h2]
  have NRat : ∀ ob (b : Act), b.tmps.size = N.n → (∀ t, (s t).isSome = true → b.tmps[t]? = a.tmps[t]?) → (∀ t v, N.fx t = some v → b.tmps[t]? = some v) → (NR ob).At b := fun ob b h1 h2 h3 => by
    refine ⟨h1, fun t v h => ?_⟩
    by_cases hs : (s t).isSome = true
    · have : a.tmps[t]? = some v := by simpa [NR, hs] using h
      rw [h2 t hs]; exact this
    · exact h3 t v (by simpa [NR, hs] using h)
  have NRm : ∀ (ob : Option Obj) (W' : World), (∀ o, ob = some o → W'.heap[W.heap.size + 1]? = some o ∧ ∀ cur T, o ≠ Obj.cells cur T (0, 0)) → Marked w0.heap.size N.ob W' a'.defers → Marked w0.heap.size (NR ob).ob W' [] := fun ob W' h1 h2 => by
    obtain ⟨q0, L', q1, q2, q3⟩ := h2
    have hLL : W.heap.size :: L = L' := markD_inj (by rw [← q1, ← ha', hL1]; rfl)
    subst hLL
    refine ⟨fun b o h => ?_, [], rfl, List.nodup_nil, fun D hD => by cases hD⟩
    by_cases hb : b = W.heap.size + 1
    · subst hb
      exact h1 o (by simpa [NR] using h)
    · by_cases hc : (W.heap.size :: L).contains b = true
      · have h : (if (W.heap.size :: L).contains b then some (.deferred (some [])) else N.ob b) = some o := by simpa only [NR, if_neg hb] using h
        rw [if_pos hc] at h
        injection h with h; subst h
        exact ⟨(q3 b (by simpa using hc)).2, fun _ _ h => by cases h⟩
      · have h : (if (W.heap.size :: L).contains b then some (.deferred (some [])) else N.ob b) = some o := by simpa only [NR, if_neg hb] using h
        rw [if_neg hc] at h
        exact q0 b o h
  have NRback : ∀ (ob : Option Obj) (W' : World), Marked w0.heap.size (NR ob).ob W' [] → Marked w0.heap.size N.ob W' a'.defers := fun ob W' h => by
    obtain ⟨q0, _⟩ := h
    refine marks W' (fun b o hb => ?_) (fun D hD => ?_)
    · have hb1 : b ≠ W.heap.size + 1 := by have := obW b o hb; omega
      by_cases hc : (W.heap.size :: L).contains b = true
      · have hd := (q0 b (.deferred (some [])) (by simp only [NR, if_neg hb1, if_pos hc])).1
        have hbL : b ∈ L := by
          have : b ≠ W.heap.size := by have := obW b o hb; omega
          simpa [this] using hc
        have h1 := (hob b o hb).1
        rw [(hL3 b hbL).2] at h1
        injection h1 with h1; subst h1
        exact hd
      · exact (q0 b o (by simp only [NR, if_neg hb1, if_neg hc]; exact hb)).1
    · have hD1 : D ≠ W.heap.size + 1 := by
        rcases List.mem_cons.1 hD with rfl | hD
        · omega
        · have := LW D hD; omega
      exact (q0 D _ (by simp only [NR, if_neg hD1]; rw [if_pos (by simpa using hD)])).1
  refine ⟨W.heap.size + 1, [{ target := .collected W.heap.size, args := #[] }], W1, { target := .fn (.func f) arr, args := #[.func (.yield (W.heap.size + 1)) #[] #[]] }, W1, f,
    #[.func (.yield (W.heap.size + 1)) #[] #[]] ++ arr, W1, ?_, ?_, fun f' _ => hF.fn f', ?_, hF.noDepth, ?_⟩
  · rw [← hW1, hrec]; exact run_enterLoop_outer _ _ _ _ _
  · simp only [resolve, hga]
    simp [go_sem]
  · obtain ⟨fn1, c1, e1, e2, e3⟩ := hE
    simp [invoke, callFunc, e1, e2, e3]
    intro h; simp [h] at e3
  · have ha2 : ({ a with defers := [{ target := .collected W.heap.size, args := #[] }] ++ a.defers } : Act) = a' := by rw [← ha']; rfl
    rw [ha2]
    refine (hseq arr harr F hF hR (W.heap.size + 1)
      (fun j W' => j ≤ m ∧ J j ∧ ∃ pl', Sim w0 P0 E0 pl0 N (st j).2 pl' s a' W' ∧ (∀ i, (st j).1 ≤ i → pl' i = none) ∧ W'.heap[W.heap.size + 1]? = some (.loop (rec .ready none)))
      (fun W' => ∃ e c n3 E3 pl', X e n3 s E3 ∧ (e = .ret ∧ c = .ret ∨ ∃ id, e = .exit id ∧ c = .exit id) ∧ Sim w0 P0 E0 pl0 N E3 pl' s a' W' ∧ (∀ i, n3 ≤ i → pl' i = none) ∧ W'.heap[W.heap.size + 1]? = some (.loop (rec .done (some c))))
      W1 (fun j W' ⟨hj, _, pl', S', _, _⟩ => ⟨hj, hI _ _ _ _ _ _ _ _ _ _ hj S' hev⟩) ?_ ⟨Nat.zero_le _, hJ, pl, by rw [hst]; exact S1, by rw [hst]; exact hf, hl1⟩).mono ?_
    · -- one round
      rintro j W' args hj ⟨_, hJj, pl', S', hf', hl'⟩ hit
      obtain ⟨hsz, hitems⟩ := hIt _ _ _ _ _ _ _ _ _ _ _ hj S' hev hit
      have hlt : W.heap.size + 1 < W'.heap.size := (Array.getElem?_eq_some_iff.1 hl').1
      have hy := run_yield (P := P) (args := args) hl' (by rw [hrec]; simp [hsz])
      rw [hrec] at hy
      refine ⟨fn, _, assign, body, hy, roundIn_of_wpIn hfn ?_⟩
      simp only
      rw [zip_foldl]
      -- the frame at the head of the round
      have Sa : Sim w0 P0 E0 pl0 (NR (some (.loop (rec .ready none)))) (st j).2 pl' s { a' with defers := [] } W' :=
        S'.refit (NRat _ _ (by rw [hta]; exact S.size.size) (fun t _ => by rw [hta]) (fun t v h => by rw [hta]; exact S.size.fix t v h)) (fun t x u _ h => h) (NRm _ _ (fun o h => by injection h with h; subst h; exact ⟨hl', fun _ _ h => by cases h⟩) S'.defers)
      have Sb := Sim.putL ps.toList (items j) args.toList Sa (by simp [hsz]) (by rw [hlen]; simp) (fun t ht => ⟨(hpsok t ht).1, NRok _ t (hpsok t ht).2 (hpsfree t ht)⟩) (fun q v hq => by simpa using hitems q v hq)
      simp only [hta] at Sb
      refine VCode.sound (N := NR (some (.loop (rec .ready none)))) (hF.round _) h0 hm assign _ _ _ _ _ _ W' pl' (hbody j hj hJj) (codeOk_free (N := N) (N' := NR (some (.loop (rec .ready none)))) rfl (NRok _) assign hNA hfreeA) Sb hf' (fun e n' s' E' a1 W2 pl2 he S2 hf2 => ?_) (.inr hnr.1)
      obtain ⟨rfl, hb⟩ := he
      have hl2 := (S2.defers.objs (W.heap.size + 1) (.loop (rec .ready none)) (by simp [NR])).1
      refine ⟨_, run_beginRound hl2 (by rw [hrec]), ?_⟩
      have hlt2 : W.heap.size + 1 < W2.heap.size := (Array.getElem?_eq_some_iff.1 hl2).1
      obtain ⟨W3, hW3⟩ : ∃ W3, W2.putObj (W.heap.size + 1) (.loop { rec .ready none with state := .busy }) = W3 := ⟨_, rfl⟩
      have hl3 : W3.heap[W.heap.size + 1]? = some (.loop { rec .ready none with state := .busy }) := by rw [← hW3]; exact World.putObj_heap_same hlt2
      rw [hW3]
      have S3 : Sim w0 P0 E0 pl0 (NR (some (.loop { rec .ready none with state := .busy }))) E' pl2 s' a1 W3 := by
        rw [← hW3]
        exact S2.putO (N' := NR (some (.loop { rec .ready none with state := .busy }))) hl2 rfl rfl (fun h => by cases h) (by omega) ⟨S2.size.size, S2.size.fix⟩ (fun b hb => by simp only [NR, if_neg hb]) (fun x hx => by simpa [NR] using hx.symm)
      refine VCode.sound (N := NR (some (.loop { rec .ready none with state := .busy }))) (hF.round _) h0 hm body _ _ _ _ _ _ W3 pl2 hb (codeOk_free (N := N) (N' := NR (some (.loop { rec .ready none with state := .busy }))) rfl (NRok _) body hNB hfreeB) S3 hf2 (fun e n2 s2 E2 a2 W4 pl4 he S4 hf4 => ?_) (.inr hnr.2)
      -- behind the round
      have back : ∀ n5 E5 pl5, Sim w0 P0 E0 pl0 (NR (some (.loop { rec .ready none with state := .busy }))) E5 pl5 s a2 W4 → (∀ i, n5 ≤ i → pl5 i = none) → ∀ jump : Option Code,
          (Instr.endRound (W.heap.size + 1) jump).run P W4 = .ok (.bool jump.isNone) (W4.putObj (W.heap.size + 1) (.loop (rec (if jump.isNone then .ready else .done) jump))) ∧
          Sim w0 P0 E0 pl0 N E5 pl5 s a' (W4.putObj (W.heap.size + 1) (.loop (rec (if jump.isNone then .ready else .done) jump))) ∧
          (W4.putObj (W.heap.size + 1) (.loop (rec (if jump.isNone then .ready else .done) jump))).heap[W.heap.size + 1]? = some (.loop (rec (if jump.isNone then .ready else .done) jump)) := fun n5 E5 pl5 S5 hf5 jump => by
        have hl4 := (S5.defers.objs (W.heap.size + 1) (.loop { rec .ready none with state := .busy }) (by simp [NR])).1
        have hlt4 := (Array.getElem?_eq_some_iff.1 hl4).1
        have he := run_endRound (P := P) jump hl4
        have hat' : N.At a' := ⟨by rw [hta]; exact S.size.size, fun t v h => by rw [hta]; exact S.size.fix t v h⟩
        have S6 : Sim w0 P0 E0 pl0 N E5 pl5 s a' W4 := S5.refit hat' (fun t x u ht hu => by
          obtain ⟨v, hv, _⟩ := S.slots t x ht
          have := S5.size.fix t v (by simp only [NR]; rw [if_pos (by rw [ht]; rfl)]; exact hv)
          rw [hu] at this; injection this with this; subst this
          rw [hta]; exact hv) (NRback _ W4 (marks_empty S5.defers))
        have hobl : N.ob (W.heap.size + 1) = none := by
          cases h : N.ob (W.heap.size + 1) with
          | none => rfl
          | some o => have := obW _ o h; omega
        refine ⟨?_, S6.putO (N' := N) hl4 rfl rfl (fun h => by cases h) (by omega) hat' (fun b _ => rfl) (fun x hx => by rw [hobl] at hx; cases hx), World.putObj_heap_same hlt4⟩
        rw [he, hrec]
      cases e with
      | normal =>
        obtain ⟨hJ2, he⟩ := he
        obtain ⟨pl5, S5, hf5⟩ := S4.weak h0 he
        obtain ⟨b1, b2, b3⟩ := back _ _ pl5 S5 hf5 none
        exact ⟨_, _, b1, .inl ⟨rfl, by omega, hJ2, pl5, b2, hf5, b3⟩⟩
      | ret =>
        obtain ⟨n3, E3, hw, hx⟩ := he
        obtain ⟨pl5, S5, hf5⟩ := S4.weak h0 hw
        obtain ⟨b1, b2, b3⟩ := back _ _ pl5 S5 hf5 (some .ret)
        exact ⟨_, _, b1, .inr ⟨rfl, .ret, .ret, n3, E3, pl5, hx, .inl ⟨rfl, rfl⟩, b2, hf5, b3⟩⟩
      | exit id =>
        obtain ⟨n3, E3, hw, hx⟩ := he
        obtain ⟨pl5, S5, hf5⟩ := S4.weak h0 hw
        obtain ⟨b1, b2, b3⟩ := back _ _ pl5 S5 hf5 (some (.exit id))
        exact ⟨_, _, b1, .inr ⟨rfl, .exit id, .exit id, n3, E3, pl5, hx, .inr ⟨id, rfl, rfl⟩, b2, hf5, b3⟩⟩
    · -- behind the iterator
      have hend : ∀ W2 st jump, W2.heap[W.heap.size + 1]? = some (.loop (rec st jump)) → st ≠ .busy → (Instr.endLoop (W.heap.size + 1)).run P W2 = .ok jump (W2.putObj (W.heap.size + 1) (.loop { rec st jump with state := .exhausted })) := fun W2 st jump h hb => by
        have := run_endLoop (P := P) h (by rw [hrec]; exact hb)
        rw [this, hrec]
      have hobl : N.ob (W.heap.size + 1) = none := by
        cases h : N.ob (W.heap.size + 1) with
        | none => rfl
        | some o => have := obW _ o h; omega
      have put : ∀ E5 pl5 W2 o, Sim w0 P0 E0 pl0 N E5 pl5 s a' W2 → W2.heap[W.heap.size + 1]? = some o → o.isCells = false → o ≠ .deferred (some []) → ∀ r, Sim w0 P0 E0 pl0 N E5 pl5 s a' (W2.putObj (W.heap.size + 1) (.loop r)) := fun E5 pl5 W2 o S5 hl ho hd r =>
        S5.putO (N' := N) hl ho rfl hd (by omega) S5.size (fun b _ => rfl) (fun x hx => by rw [hobl] at hx; cases hx)
      rintro e W2 ⟨⟨v, rfl⟩, (⟨_, hJm, pl2, S2, hf2, hl2⟩ | ⟨e, c, n3, E3, pl3, hx, hc, S3, hf3, hl3⟩)⟩
      · exact ⟨none, _, hend _ _ _ hl2 (by simp), hQ .normal _ _ _ _ _ pl2 (hdone hJm) (put _ _ _ _ S2 hl2 rfl (fun h => by cases h) _) hf2⟩
      · refine ⟨some c, _, hend _ _ _ hl3 (by simp), ?_⟩
        have S4 := put _ _ _ _ S3 hl3 rfl (fun h => by cases h) { rec .done (some c) with state := .exhausted }
        rcases hc with ⟨rfl, rfl⟩ | ⟨id, rfl, rfl⟩
        · exact wpIn_ret (hQ .ret _ _ _ _ _ pl3 hx S4 hf3)
        · exact wpIn_exit (hQ (.exit id) _ _ _ _ _ pl3 hx S4 hf3)
end
end Go.VL

/- The iterator over the sectors of a form keeps its promise. -/
set_option linter.unusedVariables false
set_option linter.unusedSimpArgs false
namespace Go.Proofs.Ytpoolpppmgacnaa
open Go.RowKit Go.Shelf Go.VL Go.Proofs

attribute [local go_sem] Oper.semAt_some

set_option maxRecDepth 100000 in
set_option maxHeartbeats 4000000 in
theorem sectors_in (F : Fence) (n : Nat) (h7 : F.fn 77) (hro : F.round = none) (hn : F.depth = none) (l g m : Nat) (hm : m ≤ 1000000) (J : Nat → World → Prop) (Jx : World → Prop) (W : World)
    (hI : ∀ k W, J k W → ∃ A c, W.cell? ⟨g, 0, none⟩ = some (.slice (some A) (m * 64) c) ∧ m * 64 ≤ c ∧ c ≤ maxLen)
    (hY : ∀ k W A c, k < m → J k W → W.cell? ⟨g, 0, none⟩ = some (.slice (some A) (m * 64) c) → m * 64 ≤ c → YieldAt F (n - 1) Try.prog l #[.int .i64 k, .slice (some (A.add (k * 64))) ((k + 1) * 64 - k * 64) (c - k * 64)] W fun e W' =>
      (e = .returned (.bool true) ∧ J (k + 1) W') ∨ (e = .returned (.bool false) ∧ Jx W')) (h0 : J 0 W) :
    CallsIn F n Try.prog 77 #[.func (.yield l) #[] #[], .pointer (some ⟨g, 0, none⟩)] W fun e W' => (∃ v, e = .returned v) ∧ (J m W' ∨ Jx W') := by
  refine callsIn_of_wp Try.func77 rfl h7 ?_ hro
  simp only [Try.ntmps77, List.size_toArray, List.length_cons, List.length_nil, Nat.reduceAdd, Nat.reduceSub, Array.replicate_succ, Array.replicate_zero, List.push_toArray, List.append_toArray, List.nil_append, List.cons_append]
  have hdep : F.depth.isSome = true → 1 ≤ n := fun h => by rw [hn] at h; cases h
  gi_wp2
  gi_loopw [3] (fun i wr => ∃ k : Nat, k ≤ m ∧ i = .int .i64 k ∧ J k wr)
    (fun i _ => m - (intOf i).toNat)
  case atStart => exact ⟨0, Nat.zero_le _, rfl, h0⟩
  case round =>
    obtain ⟨k, hk, rfl, hJs⟩ := hrel
    obtain ⟨A, c, hcell, hc1, hc2⟩ := hI k _ hJs
    by_cases hlt : k < m
    · obtain ⟨fn, tmps, assign, body, hy, hR⟩ := hY k _ A c hlt hJs hcell hc1
      gi_wp2
      refine hR.mono ?_
      rintro e W3 (⟨rfl, hJ3⟩ | ⟨rfl, hJx3⟩)
      · gi_wp2
        go_roundw
        case rel => exact ⟨k + 1, by omega, by simp, hJ3⟩
        case measure => simp [intOf]; omega
      · gi_wp2
        refine bodyPost_ret (results_none rfl _ _ _) rfl ?_
        exact ⟨⟨_, rfl⟩, .inr hJx3⟩
    · obtain rfl : k = m := by omega
      gi_wp2
      go_end0
      exact ⟨⟨_, rfl⟩, .inl hJs⟩

/-- What the iterator reads, and what it yields. -/
def secI (m : Nat) (arr : Array Value) (k : Nat) (W : World) : Prop := ∃ g A c, arr = #[.pointer (some ⟨g, 0, none⟩)] ∧ W.cell? ⟨g, 0, none⟩ = some (.slice (some A) (m * 64) c) ∧ m * 64 ≤ c ∧ c ≤ maxLen
def secIt (m : Nat) (arr : Array Value) (k : Nat) (W : World) (args : Array Value) : Prop := ∃ g A c, arr = #[.pointer (some ⟨g, 0, none⟩)] ∧ W.cell? ⟨g, 0, none⟩ = some (.slice (some A) (m * 64) c) ∧ m * 64 ≤ c ∧ args = #[.int .i64 k, .slice (some (A.add (k * 64))) ((k + 1) * 64 - k * 64) (c - k * 64)]
theorem sectors_seq (m : Nat) (hm : m ≤ 1000000) (arr : Array Value) (hsz : arr.size = 1) : SeqV Try.prog 77 arr m (fun j W => j ≤ m ∧ secI m arr j W) (secIt m arr) := by
  intro F hF hro l J Jx W hI hY h0
  obtain ⟨_, g, A, c, harr, _⟩ := hI 0 W h0
  rw [harr]
  refine sectors_in F 0 (hF.fn 77) hro hF.depth l g m hm J Jx W (fun k W hk => ?_) (fun k W A c hk hJ h1 h2 => hY k W _ hk hJ ⟨g, A, c, harr, h1, h2, rfl⟩) h0
  obtain ⟨_, g', A, c, h1, h2, h3, h4⟩ := hI k W hk
  rw [harr] at h1
  injection h1 with h1
  injection h1 with h1 _
  injection h1 with h1
  injection h1 with h1
  injection h1 with h1
  subst h1
  exact ⟨A, c, h2, h3, h4⟩
section
variable {w0 W : World} {P0 : Nat → Prop} {E0 E : Env} {pl0 pl : Plan} {N : Frm} {s : Slots} {a : Act}
theorem sl_inv {Q : Nat → Prop} {l : List B} {u : Value} {n : Nat} (h : RepB W Q (.sl 1 l) u) (hl : l.length = n) (h0 : 0 < n) :
    ∃ (A : Addr) (c : Nat) (f : Nat → Value), u = .slice (some A) n c ∧ n ≤ c ∧ c ≤ maxLen ∧ Q A.block ∧ (∀ j, j < l.length → W.cell? (A.add j) = some (f j)) ∧ (∀ j, j < l.length → (f j).oneCell' = true) ∧ ∀ (j : Nat) (x : B), l[j]? = some x → RepB W Q x (f j) := by
  cases h with
  | nilsl => simp at hl; omega
  | sl A k c _ _ f hl2 hc hm hs hq hcell hone hrr =>
    have hk : k = n := by omega
    subst hk
    exact ⟨A, c, f, rfl, hc, hm, hq (by omega), hcell, hone, hrr⟩
theorem sec_get {g : Operand} {arr : Array Value} {i m : Nat} {f : List Int} (S : Sim w0 P0 E0 pl0 N E pl s a W) (hg : ev s g = some (.fn 77 [.ptr i 0])) (he : E i = some ⟨1, [.b (slK .u8 f)], true⟩) (hf : f.length = m * 64) (h0 : 0 < m) (ha : a.eval g = .func (.func 77) #[] arr) :
    ∃ b A c, arr = #[.pointer (some ⟨b, 0, none⟩)] ∧ W.cell? ⟨b, 0, none⟩ = some (.slice (some A) (m * 64) c) ∧ m * 64 ≤ c ∧ c ≤ maxLen ∧ RepB W (Qf (FF w0 P0) E pl) (slK .u8 f) (.slice (some A) (m * 64) c) := by
  obtain ⟨arr', h1, h2, h3⟩ := S.ev hg
  rw [ha] at h1
  injection h1 with _ _ h1
  subst h1
  obtain ⟨y, hy, b, c, hp, hv⟩ := h3 0 (.ptr i 0) rfl
  obtain ⟨u, hu, _, hr⟩ := S.read he hp (j := 0) rfl
  have hr' : RepB W (Qf (FF w0 P0) E pl) (slK .u8 f) u := hr
  have harr : arr = #[.pointer (some ⟨b, 0, none⟩)] := by
    subst hv
    apply Array.ext
    · simpa using h2
    · intro j h4 h5
      have : j = 0 := by simp at h5; omega
      subst this
      have := (Array.getElem?_eq_some_iff.1 hy).2
      simpa using this
  obtain ⟨A, c, u', rfl, k1, k2, _⟩ := sl_inv hr' (n := m * 64) (by simp [hf]) (by omega)
  exact ⟨b, A, c, harr, hu, k1, k2, hr'⟩
theorem sec_I {g : Operand} {arr : Array Value} {i m j : Nat} {f : List Int} (S : Sim w0 P0 E0 pl0 N E pl s a W) (hg : ev s g = some (.fn 77 [.ptr i 0])) (he : E i = some ⟨1, [.b (slK .u8 f)], true⟩) (hf : f.length = m * 64) (h0 : 0 < m) (ha : a.eval g = .func (.func 77) #[] arr) : secI m arr j W := by
  obtain ⟨b, A, c, h1, h2, h3, h4, _⟩ := sec_get S hg he hf h0 ha
  exact ⟨b, A, c, h1, h2, h3, h4⟩
theorem sec_It {g : Operand} {arr : Array Value} {i m j : Nat} {f : List Int} {args : Array Value} (S : Sim w0 P0 E0 pl0 N E pl s a W) (hg : ev s g = some (.fn 77 [.ptr i 0])) (he : E i = some ⟨1, [.b (slK .u8 f)], true⟩) (hf : f.length = m * 64) (h0 : 0 < m) (hj : j < m) (ha : a.eval g = .func (.func 77) #[] arr) (hit : secIt m arr j W args) :
    args.size = 2 ∧ ∀ (q : Nat) (v : V), [vI .i64 j, .b (slK .u8 ((f.take ((j + 1) * 64)).drop (j * 64)))][q]? = some v → ∃ u, args[q]? = some u ∧ Rep W (Qf (FF w0 P0) E pl) pl v u := by
  obtain ⟨b, A, c, h1, h2, h3, h4, hr⟩ := sec_get S hg he hf h0 ha
  obtain ⟨b', A', c', k1, k2, k3, rfl⟩ := hit
  rw [h1] at k1
  injection k1 with k1
  injection k1 with k1 _
  injection k1 with k1
  injection k1 with k1
  injection k1 with k1
  subst k1
  rw [h2] at k2
  injection k2 with k2
  injection k2 with k2 _ k4
  injection k2 with k2
  subst k2; subst k4
  refine ⟨rfl, fun q v hq => ?_⟩
  match q, hq with
  | 0, hq => injection hq with hq; subst hq; exact ⟨_, rfl, RepB.lit _ rfl⟩
  | 1, hq =>
    injection hq with hq; subst hq
    refine ⟨_, rfl, ?_⟩
    have hlen : (j + 1) * 64 - j * 64 = 64 := by omega
    have hle : (j + 1) * 64 ≤ m * 64 := Nat.mul_le_mul_right _ hj
    obtain ⟨A2, c2, u', e1, e2, e3, e4, e5, e6, e7⟩ := sl_inv hr (n := m * 64) (by simp [hf]) (by omega)
    injection e1 with e1 _ e8
    injection e1 with e1
    subst e1; subst e8
    have hfl : (f.map (numB .u8)).length = m * 64 := by simp [hf]
    refine RepB.sl (A.add (j * 64)) _ _ 1 _ (fun i => u' (j * 64 + i)) (by simp; omega) (by omega) (by omega) (by decide) (fun _ => by rw [Go.VL.block_add]; exact e4) (fun i hi => ?_) (fun i hi => e6 _ (by rw [hfl]; simp at hi; omega)) (fun i x hi => ?_)
    · rw [Addr.add_add]; exact e5 _ (by rw [hfl]; simp at hi; omega)
    · refine e7 _ x ?_
      simp only [List.getElem?_map, Option.map_eq_some_iff, List.getElem?_drop] at hi ⊢
      obtain ⟨z, hz, rfl⟩ := hi
      refine ⟨z, ?_, rfl⟩
      rw [List.getElem?_take] at hz
      split at hz
      · exact hz
      · cases hz
end
/-- What is asked behind the assignments at the head of a round, and behind a round. -/
def RaPost (P : Program) (k : Nat) (body : Code) (Y : VExit → Nat → Slots → Env → Prop) : VExit → Nat → Slots → Env → Prop := fun e n s E => e = .normal ∧ VCode P k body n s E Y
def RbPost (k : Nat) (Jn : Prop) (n1 : Nat) (E1 : Env) (s : Slots) (X : VExit → Nat → Slots → Env → Prop) : VExit → Nat → Slots → Env → Prop := fun e n2 s2 E2 => match e with
  | .normal => Jn ∧ Weak k s2 E2 n1 s E1
  | e => ∃ n3 E3, Weak k s2 E2 n3 s E3 ∧ X e n3 s E3
theorem RaPost.go {P : Program} {k n : Nat} {body : Code} {s : Slots} {E : Env} {Y : VExit → Nat → Slots → Env → Prop} (h : VCode P k body n s E Y) : RaPost P k body Y .normal n s E := ⟨rfl, h⟩
theorem RbPost.go {k n n1 : Nat} {Jn : Prop} {s s2 : Slots} {E E1 : Env} {X : VExit → Nat → Slots → Env → Prop} (hJ : Jn) (h : Weak k s2 E n1 s E1) : RbPost k Jn n1 E1 s X .normal n s2 E := ⟨hJ, h⟩
theorem RbPost.ret {Jn : Prop} {k n n1 n3 : Nat} {s s2 : Slots} {E E1 E3 : Env} {X : VExit → Nat → Slots → Env → Prop} (h : Weak k s2 E n3 s E3) (hx : X .ret n3 s E3) : RbPost k Jn n1 E1 s X .ret n s2 E := ⟨n3, E3, h, hx⟩
theorem RbPost.exit {Jn : Prop} {k n n1 n3 id : Nat} {s s2 : Slots} {E E1 E3 : Env} {X : VExit → Nat → Slots → Env → Prop} (h : Weak k s2 E n3 s E3) (hx : X (.exit id) n3 s E3) : RbPost k Jn n1 E1 s X (.exit id) n s2 E := ⟨n3, E3, h, hx⟩
/-- A range over the sectors of a form. -/
theorem VCode.sectors {k n : Nat} {s : Slots} {E : Env} {X : VExit → Nat → Slots → Env → Prop} {g : Operand} {t1 t2 : Nat} {assign body : Code} {i m : Nat} {f : List Int} (st : Nat → Nat × Env) (hg : ev s g = some (.fn 77 [.ptr i 0])) (hm : m ≤ 1000000) (h0 : 0 < m) (hf : f.length = m * 64) (hst : st 0 = (n, E)) (J : Nat → Prop) (hJ : J 0)
    (he : ∀ j, j ≤ m → (st j).2 i = some ⟨1, [.b (slK .u8 f)], true⟩) (hfree : ((s t1).isNone, (s t2).isNone, codeFree s assign, codeFree s body, noRange assign, noRange body) = (true, true, true, true, true, true))
    (hbody : ∀ j, j < m → J j → VCode Try.prog k assign (st j).1 (setAt (setAt s t1 (some (vI .i64 j))) t2 (some (.b (slK .u8 ((f.take ((j + 1) * 64)).drop (j * 64)))))) (st j).2 (RaPost Try.prog k body (RbPost k (J (j + 1)) (st (j + 1)).1 (st (j + 1)).2 s X)))
    (hdone : J m → X .normal (st m).1 s (st m).2) : VCode Try.prog k (.rangeFunc g #[t1, t2] assign body) n s E X := by
  simp only [Prod.mk.injEq] at hfree
  obtain ⟨f1, f2, f3, f4, f5, f6⟩ := hfree
  have hE : Go.VL.Enters Try.prog 77 := ⟨Try.f77, _, Try.func77, rfl, by kernel_rfl⟩
  refine VCode.range hg hE m st hst J hJ (secI m) (secIt m) (fun j => [vI .i64 j, .b (slK .u8 ((f.take ((j + 1) * 64)).drop (j * 64)))]) (fun arr h => sectors_seq m hm arr h) (fun w0 W P0 E0 pl0 pl N a arr j hj S ha => sec_I S hg (he j hj) hf h0 ha)
    (fun w0 W P0 E0 pl0 pl N a arr j args hj S ha hit => sec_It S hg (he j (Nat.le_of_lt hj)) hf h0 hj ha hit) (fun _ => rfl) (by simp [f1, f2]) f3 f4 ⟨f5, f6⟩ (fun j hj hJj => ?_) hdone
  refine VCode.mono _ _ _ _ _ _ (fun e n s E h => ?_) (hbody j hj hJj)
  obtain ⟨h1, h2⟩ := h
  refine ⟨h1, VCode.mono _ _ _ _ _ _ (fun e n s E h => ?_) h2⟩
  cases e <;> exact h
end Go.Proofs.Ytpoolpppmgacnaa

/- Walks over the Go functions, printed by a program of this session over the kit's print, and by hand. -/
set_option linter.unusedVariables false
set_option linter.unusedSimpArgs false
set_option maxRecDepth 100000
namespace Go.VL
open Go.Proofs
open Go.Proofs.Ytpoolpppmgacnaa
theorem t75 (f : List Int) : VG Try.prog 75 [.b (slK .u8 (f))] [] (.fn 77 [.ptr 0 0]) [some ⟨1, [.b (slK .u8 f)], true⟩] := by
  exact VGp_of P_mixed Try.func75 rfl rfl (by kernel_rfl) (by simp) rfl <| Sq <| Rg <| Vs (Bx 0 rfl) <| Vs (As rfl) <| Nx <| Sq <| Rg <| Vs (Mf rfl) <| Vs (As rfl) <| Nx <| Re <| Gg (L1' := [some (⟨1, [.b (slK .u8 (f))], true⟩)]) [0] (.name _ _ (.fn 77 [.ptr 0 (0)]) _ _ rfl rfl rfl .nil) (.one _) rfl rfl
theorem t67 {n m : Nat} {d : Dk} (hd : d.Ok n m) (hm : m ≤ 100000) (hB : d.By) {R : List (List Int)} (hR : R.length ≤ 2000) {ed : Nat} (he : ed ≤ 2000) {fl : Bool} {F : List Int} {k : Nat} (hF : F.length = k * 64) (hk : 1 ≤ k ∧ k ≤ 80) (hFB : ByR F) (hm2 : m ≤ 90000) : VG Try.prog 67 [.ptr 0 (0), .b (slK .u8 (F))] [⟨4, [.ptr 1 (0), .row 2 (R.length) none, vI .i64 ((ed : Int)), vB (fl)], true⟩, ⟨4, [.own 3 (n), .b (slT 2 penB (d.pen)), vI .i64 (d.fuse), vB (d.off)], true⟩, rowT 1 rwB (R), rowK .u8 (d.dur)] (vI .i64 (wfR n (ed : Int) F k d).2) [some (⟨4, [.ptr 1 (0), .row 2 (R.length) none, vI .i64 ((ed : Int)), vB (fl)], true⟩), some (⟨4, [.own 3 (n), .b (slT 2 penB (((wfR n (ed : Int) F k d).1).pen)), vI .i64 (((wfR n (ed : Int) F k d).1).fuse), vB (((wfR n (ed : Int) F k d).1).off)], true⟩), some (rowT 1 rwB (R)), some (rowK .u8 (((wfR n (ed : Int) F k d).1).dur))] := by
  have hlen := hd.len
  have hlo := hd.lo
  have hhi := hd.hi
  have hwh := hd.whole
  have hpl := hd.pen
  obtain ⟨hf1, hf2⟩ := hd.fu
  refine VGp_of P_mixed Try.func67 rfl rfl (by kernel_rfl) (by simp) rfl <| Sq <| Rg <| Vs (Bx 4 rfl) <| Vs (Al 5 TZ23 rfl) <| Nx <| VCode.join (α := (Dk)) (fun z => (6, sl [(1, .b (slK .u8 (F))), (2, .ptr 4 (0)), (4, .ptr 5 (0))], en [(0, ⟨4, [.ptr 1 (0), .row 2 (R.length) none, vI .i64 ((ed : Int)), vB (fl)], true⟩), (1, ⟨4, [.own 3 (n), .b (slT 2 penB (z.pen)), vI .i64 (z.fuse), vB (z.off)], true⟩), (2, rowT 1 rwB (R)), (3, rowK .u8 (z.dur)), (4, ⟨1, [.ptr 0 (0)], true⟩), (5, ⟨1, [vI .i64 (0)], true⟩)])) (fun z => z.Ok n (m + 1) ∧ z.By ∧ wfR n (ed : Int) F k d = wfB n (ed : Int) F k z) ?_ ?_
  · skip
    refine Sq <| Rg <| Vs (Ld TA62 rfl) <| Vs (Nk rfl) <| Vs (Fa TF104_2 rfl) <| Vs (Ld TA3 rfl) <| Vs (Mv rfl) <| Vs (Ls TK27 rfl) <| Vs (Bo (c := .int .i64 ((k : Int))) rfl ((by rw [show (k : Int) = (F.length : Int) / 64 by omega]; exact quI))) <| Vs (Bo rfl adI) <| Vs (As rfl) <| Nx <| Sq <| Rg <| Vs (Mv rfl) <| Vs (Ld TA62 rfl) <| Vs (Nk rfl) <| Vs (Fa TF104_0 rfl) <| Vs (Ld TA22 rfl) <| Gm 20 [1, 3] [] (v := vI .i64 (((n : Int) / 64))) [(0, ⟨4, [.ptr 1 (0), .row 2 (R.length) none, vI .i64 ((ed : Int)), vB (fl)], true⟩), (1, ⟨4, [.own 3 (n), .b (slT 2 penB (d.pen)), vI .i64 (d.fuse), vB (d.off)], true⟩), (2, rowT 1 rwB (R)), (3, rowK .u8 (d.dur)), (4, ⟨1, [.ptr 0 (0)], true⟩), (5, ⟨1, [vI .i64 (0)], true⟩)] rfl (k33 hd hm) rfl <| Vs (Bi rfl) <| Nx <| Cd rfl (fun hc1 => ?_) (fun hc1 => ?_)
    · replace hc1 := of_decide_eq_true hc1
      have hA := wfA_y (d := d) hc1
      refine Sq <| Rd (by kernel_rfl) <| Vl (Ld TA62 rfl) <| Vl (Nk rfl) <| Vl (Fa TF104_0 rfl) <| Vl (Ld TA22 rfl) <| Vl (Mv rfl) <| Vl (Mk 27 TK27 rfl) <| Gl [1, 3] [27] [(1, some (⟨4, [.own 3 (n), .b (slT 2 penB (((d.writeR n (((ed : Int) + (k : Int))) (List.replicate 64 0)).1).pen)), vI .i64 (((d.writeR n (((ed : Int) + (k : Int))) (List.replicate 64 0)).1).fuse), vB (((d.writeR n (((ed : Int) + (k : Int))) (List.replicate 64 0)).1).off)], true⟩)), (3, some (rowK .u8 (((d.writeR n (((ed : Int) + (k : Int))) (List.replicate 64 0)).1).dur)))] rfl (k20 hd hm (((ed : Int) + (k : Int))) (b := List.replicate 64 0) (by simp)) rfl <| Vl (As rfl) <| ?_
      refine VLog.nil ⟨by kernel_rfl, ?_⟩
      refine Tg <| Sq <| Rg <| Vs (Mv rfl) <| Vs (Bi rfl) <| Nx <| Cd rfl (fun hc2 => ?_) (fun hc2 => ?_)
      · replace hc2 := bne_iff_ne.1 hc2
        refine Sq <| ?_
        have e : wfR n (ed : Int) F k d = d.writeR n ((ed : Int) + (k : Int)) (List.replicate 64 0) := by rw [wfR_e (by rw [hA]; exact hc2), hA]
        exact Rg <| Vs (Mv rfl) <| Vs (St TS23 rfl) <| Nx <| Re <| Jr <| Gg (L1' := [some (⟨4, [.ptr 1 (0), .row 2 (R.length) none, vI .i64 ((ed : Int)), vB (fl)], true⟩), some (⟨4, [.own 3 (n), .b (slT 2 penB (((d.writeR n (((ed : Int) + (k : Int))) (List.replicate 64 0)).1).pen)), vI .i64 (((d.writeR n (((ed : Int) + (k : Int))) (List.replicate 64 0)).1).fuse), vB (((d.writeR n (((ed : Int) + (k : Int))) (List.replicate 64 0)).1).off)], true⟩), some (rowT 1 rwB (R)), some (rowK .u8 (((d.writeR n (((ed : Int) + (k : Int))) (List.replicate 64 0)).1).dur))]) [0, 1, 2, 3] (.val _ _ _ _ _ (resV_cell1 rfl rfl TA23 rfl) rfl rfl .nil) (.one _) (by rw [e]) (by rw [e])
      · replace hc2 := bne_eq_false_iff_eq.1 hc2
        exact Ks <| Jg ((d.writeR n ((ed : Int) + (k : Int)) (List.replicate 64 0)).1) ⟨hd.write _ _, hB.writeR n _ .rep, by rw [wfR_ok (by rw [hA]; exact hc2), hA]⟩ (Wt [])
    · replace hc1 := of_decide_eq_false hc1
      have hA := wfA_n (d := d) hc1
      exact Ks <| Jg (d) ⟨hd.mono (Nat.le_succ _), hB, by rw [wfR_ok (by rw [hA]), hA]⟩ (Wt [])
  · intro z ⟨hz, hzB, hW⟩
    change VCode _ _ _ 6 (sl _) (en _) _
    refine Sq <| VCode.join (α := (Unit)) (fun u => (51, sl [(1, .b (slK .u8 (F))), (2, .ptr 4 (0)), (4, .ptr 5 (0)), (40, .fn 77 [.ptr 50 (0)])], en [(0, ⟨4, [.ptr 1 (0), .row 2 (R.length) none, vI .i64 ((ed : Int)), vB (fl)], true⟩), (1, ⟨4, [.own 3 (n), .b (slT 2 penB (z.pen)), vI .i64 (z.fuse), vB (z.off)], true⟩), (2, rowT 1 rwB (R)), (3, rowK .u8 (z.dur)), (4, ⟨1, [.ptr 0 (0)], true⟩), (5, ⟨1, [vI .i64 (0)], true⟩), (50, ⟨1, [.b (slK .u8 (F))], true⟩)])) (fun u => True) ?_ ?_
    · skip
      exact Rg <| Vs (Mv rfl) <| Gm 7 [] [] (v := .fn 77 [.ptr 7 (0)]) [(0, ⟨4, [.ptr 1 (0), .row 2 (R.length) none, vI .i64 ((ed : Int)), vB (fl)], true⟩), (1, ⟨4, [.own 3 (n), .b (slT 2 penB (z.pen)), vI .i64 (z.fuse), vB (z.off)], true⟩), (2, rowT 1 rwB (R)), (3, rowK .u8 (z.dur)), (4, ⟨1, [.ptr 0 (0)], true⟩), (5, ⟨1, [vI .i64 (0)], true⟩), (7, ⟨1, [.b (slK .u8 (F))], true⟩)] rfl (t75 (F)) rfl <| VList.nil <| Jg (()) trivial (Wt [(50, 7)])
    · intro u hok
      change VCode _ _ _ 51 (sl _) (en _) _
      refine Bk <| VCode.sectors (m := k) (i := 50) (f := F) (fun j => (51, en [(0, ⟨4, [.ptr 1 (0), .row 2 (R.length) none, vI .i64 ((ed : Int)), vB (fl)], true⟩), (1, ⟨4, [.own 3 (n), .b (slT 2 penB (((wsD n (ed : Int) F z (j))).pen)), vI .i64 (((wsD n (ed : Int) F z (j))).fuse), vB (((wsD n (ed : Int) F z (j))).off)], true⟩), (2, rowT 1 rwB (R)), (3, rowK .u8 (((wsD n (ed : Int) F z (j))).dur)), (4, ⟨1, [.ptr 0 (0)], true⟩), (5, ⟨1, [vI .i64 (0)], true⟩), (50, ⟨1, [.b (slK .u8 (F))], true⟩)])) rfl (by omega) (by omega) hF rfl (WsJ n (ed : Int) F k z) (.inl rfl) (fun j hj => rfl) rfl (fun j hj hJ => ?_) (fun hJ => ?_)
      · skip
        change VCode _ _ _ 51 (setAt (setAt (sl [(1, .b (slK .u8 (F))), (2, .ptr 4 (0)), (4, .ptr 5 (0)), (40, .fn 77 [.ptr 50 (0)])]) 41 _) 42 _) (en [(0, ⟨4, [.ptr 1 (0), .row 2 (R.length) none, vI .i64 ((ed : Int)), vB (fl)], true⟩), (1, ⟨4, [.own 3 (n), .b (slT 2 penB (((wsD n (ed : Int) F z (j))).pen)), vI .i64 (((wsD n (ed : Int) F z (j))).fuse), vB (((wsD n (ed : Int) F z (j))).off)], true⟩), (2, rowT 1 rwB (R)), (3, rowK .u8 (((wsD n (ed : Int) F z (j))).dur)), (4, ⟨1, [.ptr 0 (0)], true⟩), (5, ⟨1, [vI .i64 (0)], true⟩), (50, ⟨1, [.b (slK .u8 (F))], true⟩)]) _
        refine Sq <| Rg <| Vs (As rfl) <| Nx <| Rg <| Vs (As rfl) <| VList.nil <| RaPost.go <| Bk <| Sq <| Sq <| Rg <| Vs (Mv rfl) <| Vs (Bi rfl) <| Nx <| Cd rfl (fun hc3 => ?_) (fun hc3 => ?_)
        · replace hc3 := eq_of_beq hc3
          refine Ke <| Te <| Ih <| RbPost.go (WsJ.zero (by omega)) <| ?_
          dsimp only
          rw [← (ws_z (j := j) (n := n) (ed := (ed : Int)) (F := F) (z := z) (by omega))]
          exact (Wt [])
        · replace hc3 := ne_of_beq_false hc3
          refine Ks <| Tg <| Sq <| Rd (by kernel_rfl) <| Vl (Ld TA62 rfl) <| Vl (Nk rfl) <| Vl (Fa TF104_0 rfl) <| Vl (Ld TA22 rfl) <| Vl (Ld TA62 rfl) <| Vl (Nk rfl) <| Vl (Fa TF104_2 rfl) <| Vl (Ld TA3 rfl) <| Vl (Mv rfl) <| Vl (Bo rfl adI) <| Vl (Mv rfl) <| Gl [1, 3] [] [(1, some (⟨4, [.own 3 (n), .b (slT 2 penB (((((wsD n (ed : Int) F z (j))).writeR n (((ed : Int) + (j : Int))) (((F).take ((j + 1) * 64)).drop (j * 64))).1).pen)), vI .i64 (((((wsD n (ed : Int) F z (j))).writeR n (((ed : Int) + (j : Int))) (((F).take ((j + 1) * 64)).drop (j * 64))).1).fuse), vB (((((wsD n (ed : Int) F z (j))).writeR n (((ed : Int) + (j : Int))) (((F).take ((j + 1) * 64)).drop (j * 64))).1).off)], true⟩)), (3, some (rowK .u8 (((((wsD n (ed : Int) F z (j))).writeR n (((ed : Int) + (j : Int))) (((F).take ((j + 1) * 64)).drop (j * 64))).1).dur)))] rfl (k20 (wsD_ok hz j) (by omega) (((ed : Int) + (j : Int))) (b := ((F).take ((j + 1) * 64)).drop (j * 64)) (Nat.le_trans (Nat.le_of_eq (secF_len hF hj)) (by decide))) rfl <| Vl (As rfl) <| ?_
          refine VLog.nil ⟨by kernel_rfl, ?_⟩
          refine Tg <| Sq <| Rg <| Vs (Mv rfl) <| Vs (Bi rfl) <| Nx <| Cd rfl (fun hc4 => ?_) (fun hc4 => ?_)
          · replace hc4 := bne_iff_ne.1 hc4
            refine Sq <| ?_
            have e : wfR n (ed : Int) F k d = (wsD n (ed : Int) F z (j)).writeR n ((ed : Int) + (j : Int)) (((F).take ((j + 1) * 64)).drop (j * 64)) := by rw [hW]; exact hJ.err (by omega) hj hc4
            exact Rg <| Vs (Mv rfl) <| Vs (St TS23 rfl) <| Nx <| Re <| Iq <| RbPost.ret (n3 := 51) (s := sl [(1, .b (slK .u8 (F))), (2, .ptr 4 (0)), (4, .ptr 5 (0)), (40, .fn 77 [.ptr 50 (0)])]) (E3 := en [(0, ⟨4, [.ptr 1 (0), .row 2 (R.length) none, vI .i64 ((ed : Int)), vB (fl)], true⟩), (1, ⟨4, [.own 3 (n), .b (slT 2 penB (((((wsD n (ed : Int) F z (j))).writeR n (((ed : Int) + (j : Int))) (((F).take ((j + 1) * 64)).drop (j * 64))).1).pen)), vI .i64 (((((wsD n (ed : Int) F z (j))).writeR n (((ed : Int) + (j : Int))) (((F).take ((j + 1) * 64)).drop (j * 64))).1).fuse), vB (((((wsD n (ed : Int) F z (j))).writeR n (((ed : Int) + (j : Int))) (((F).take ((j + 1) * 64)).drop (j * 64))).1).off)], true⟩), (2, rowT 1 rwB (R)), (3, rowK .u8 (((((wsD n (ed : Int) F z (j))).writeR n (((ed : Int) + (j : Int))) (((F).take ((j + 1) * 64)).drop (j * 64))).1).dur)), (4, ⟨1, [.ptr 0 (0)], true⟩), (5, ⟨1, [vI .i64 ((((wsD n (ed : Int) F z (j))).writeR n (((ed : Int) + (j : Int))) (((F).take ((j + 1) * 64)).drop (j * 64))).2)], true⟩), (50, ⟨1, [.b (slK .u8 (F))], true⟩)]) (Wt []) <| Iq <| Tr <| Gg (L1' := [some (⟨4, [.ptr 1 (0), .row 2 (R.length) none, vI .i64 ((ed : Int)), vB (fl)], true⟩), some (⟨4, [.own 3 (n), .b (slT 2 penB (((((wsD n (ed : Int) F z (j))).writeR n (((ed : Int) + (j : Int))) (((F).take ((j + 1) * 64)).drop (j * 64))).1).pen)), vI .i64 (((((wsD n (ed : Int) F z (j))).writeR n (((ed : Int) + (j : Int))) (((F).take ((j + 1) * 64)).drop (j * 64))).1).fuse), vB (((((wsD n (ed : Int) F z (j))).writeR n (((ed : Int) + (j : Int))) (((F).take ((j + 1) * 64)).drop (j * 64))).1).off)], true⟩), some (rowT 1 rwB (R)), some (rowK .u8 (((((wsD n (ed : Int) F z (j))).writeR n (((ed : Int) + (j : Int))) (((F).take ((j + 1) * 64)).drop (j * 64))).1).dur))]) [0, 1, 2, 3] (.val _ _ _ _ _ (resV_cell1 rfl rfl TA23 rfl) rfl rfl .nil) (.one _) (by rw [e]) (by rw [e])
          · replace hc4 := bne_eq_false_iff_eq.1 hc4
            refine Ks <| Ig <| RbPost.go (hJ.s (by omega) hj hc4) <| ?_
            dsimp only
            rw [← (ws_s (j := j) (n := n) (ed := (ed : Int)) (F := F) (z := z) (by omega))]
            exact (Wt [])
      · skip
        rw [hJ.fin hk.1] at hW
        refine Ig <| Tg <| Sq <| Sq <| Rg <| Vs (Ld TA62 rfl) <| Vs (Nk rfl) <| Vs (Fa TF104_0 rfl) <| Vs (Ld TA22 rfl) <| Gm 55 [1, 3] [] (v := vI .i64 (((wsD n (ed : Int) F z (k))).syncR.2)) [(0, ⟨4, [.ptr 1 (0), .row 2 (R.length) none, vI .i64 ((ed : Int)), vB (fl)], true⟩), (1, ⟨4, [.own 3 (n), .b (slT 2 penB ((((wsD n (ed : Int) F z (k))).syncR.1).pen)), vI .i64 ((((wsD n (ed : Int) F z (k))).syncR.1).fuse), vB ((((wsD n (ed : Int) F z (k))).syncR.1).off)], true⟩), (2, rowT 1 rwB (R)), (3, rowK .u8 ((((wsD n (ed : Int) F z (k))).syncR.1).dur)), (4, ⟨1, [.ptr 0 (0)], true⟩), (5, ⟨1, [vI .i64 (0)], true⟩), (50, ⟨1, [.b (slK .u8 (F))], true⟩)] rfl (k25 (wsD_ok hz k) (by omega)) rfl <| Vs (As rfl) <| Nx <| Sq <| Rg <| Vs (Mv rfl) <| Vs (Bi rfl) <| Nx <| Cd rfl (fun hc5 => ?_) (fun hc5 => ?_)
        · replace hc5 := bne_iff_ne.1 hc5
          refine Sq <| ?_
          have e : wfR n (ed : Int) F k d = (wsD n (ed : Int) F z (k)).syncR := by rw [hW]; exact wfC_e1 hc5
          exact Rg <| Vs (Mv rfl) <| Vs (St TS23 rfl) <| Nx <| Re <| Tr <| Gg (L1' := [some (⟨4, [.ptr 1 (0), .row 2 (R.length) none, vI .i64 ((ed : Int)), vB (fl)], true⟩), some (⟨4, [.own 3 (n), .b (slT 2 penB ((((wsD n (ed : Int) F z (k))).syncR.1).pen)), vI .i64 ((((wsD n (ed : Int) F z (k))).syncR.1).fuse), vB ((((wsD n (ed : Int) F z (k))).syncR.1).off)], true⟩), some (rowT 1 rwB (R)), some (rowK .u8 ((((wsD n (ed : Int) F z (k))).syncR.1).dur))]) [0, 1, 2, 3] (.val _ _ _ _ _ (resV_cell1 rfl rfl TA23 rfl) rfl rfl .nil) (.one _) (by rw [e]) (by rw [e])
        · replace hc5 := bne_eq_false_iff_eq.1 hc5
          refine Ks <| Tg <| Sq <| VCode.join (α := (Unit)) (fun u2 => (51, sl [(2, .ptr 4 (0)), (4, .ptr 5 (0)), (69, .fn 77 [.ptr 50 (0)])], en [(0, ⟨4, [.ptr 1 (0), .row 2 (R.length) none, vI .i64 ((ed : Int)), vB (fl)], true⟩), (1, ⟨4, [.own 3 (n), .b (slT 2 penB ((((wsD n (ed : Int) F z (k))).syncR.1).pen)), vI .i64 ((((wsD n (ed : Int) F z (k))).syncR.1).fuse), vB ((((wsD n (ed : Int) F z (k))).syncR.1).off)], true⟩), (2, rowT 1 rwB (R)), (3, rowK .u8 ((((wsD n (ed : Int) F z (k))).syncR.1).dur)), (4, ⟨1, [.ptr 0 (0)], true⟩), (5, ⟨1, [vI .i64 (0)], true⟩), (50, ⟨1, [.b (slK .u8 (F))], true⟩)])) (fun u2 => True) ?_ ?_
          · skip
            exact Rg <| Vs (Mv rfl) <| Gm 60 [] [] (v := .fn 77 [.ptr 60 (0)]) [(0, ⟨4, [.ptr 1 (0), .row 2 (R.length) none, vI .i64 ((ed : Int)), vB (fl)], true⟩), (1, ⟨4, [.own 3 (n), .b (slT 2 penB ((((wsD n (ed : Int) F z (k))).syncR.1).pen)), vI .i64 ((((wsD n (ed : Int) F z (k))).syncR.1).fuse), vB ((((wsD n (ed : Int) F z (k))).syncR.1).off)], true⟩), (2, rowT 1 rwB (R)), (3, rowK .u8 ((((wsD n (ed : Int) F z (k))).syncR.1).dur)), (4, ⟨1, [.ptr 0 (0)], true⟩), (5, ⟨1, [vI .i64 (0)], true⟩), (50, ⟨1, [.b (slK .u8 (F))], true⟩), (60, ⟨1, [.b (slK .u8 (F))], true⟩)] rfl (t75 (F)) rfl <| VList.nil <| Jg (()) trivial (Wt [(50, 60)])
          · intro u2 hok2
            change VCode _ _ _ 51 (sl _) (en _) _
            refine Bk <| VCode.sectors (m := k) (i := 50) (f := F) (fun j => (51, en [(0, ⟨4, [.ptr 1 (0), .row 2 (R.length) none, vI .i64 ((ed : Int)), vB (fl)], true⟩), (1, ⟨4, [.own 3 (n), .b (slT 2 penB (((wsD n (ed : Int) F z (k)).syncR.1).pen)), vI .i64 (((wsD n (ed : Int) F z (k)).syncR.1).fuse), vB (((wsD n (ed : Int) F z (k)).syncR.1).off)], true⟩), (2, rowT 1 rwB (R)), (3, rowK .u8 (((wsD n (ed : Int) F z (k)).syncR.1).dur)), (4, ⟨1, [.ptr 0 (0)], true⟩), (5, ⟨1, [vI .i64 (0)], true⟩), (50, ⟨1, [.b (slK .u8 (F))], true⟩)])) rfl (by omega) (by omega) hF rfl (fun j => j = 0) rfl (fun j hj => rfl) rfl (fun j hj hJ => ?_) (fun hJ => ?_)
            · skip
              change VCode _ _ _ 51 (setAt (setAt (sl [(2, .ptr 4 (0)), (4, .ptr 5 (0)), (69, .fn 77 [.ptr 50 (0)])]) 70 _) 71 _) (en [(0, ⟨4, [.ptr 1 (0), .row 2 (R.length) none, vI .i64 ((ed : Int)), vB (fl)], true⟩), (1, ⟨4, [.own 3 (n), .b (slT 2 penB (((wsD n (ed : Int) F z (k)).syncR.1).pen)), vI .i64 (((wsD n (ed : Int) F z (k)).syncR.1).fuse), vB (((wsD n (ed : Int) F z (k)).syncR.1).off)], true⟩), (2, rowT 1 rwB (R)), (3, rowK .u8 (((wsD n (ed : Int) F z (k)).syncR.1).dur)), (4, ⟨1, [.ptr 0 (0)], true⟩), (5, ⟨1, [vI .i64 (0)], true⟩), (50, ⟨1, [.b (slK .u8 (F))], true⟩)]) _
              refine Rg <| Vs (As rfl) <| VList.nil <| RaPost.go <| Bk <| Sq <| Sq <| ?_
              have hsj : ((F).take ((j + 1) * 64)).drop (j * 64) = secF F 0 := by rw [hJ]; rfl
              refine Rd (by kernel_rfl) <| Vl (Ld TA62 rfl) <| Vl (Nk rfl) <| Vl (Fa TF104_0 rfl) <| Vl (Ld TA22 rfl) <| Vl (Ld TA62 rfl) <| Vl (Nk rfl) <| Vl (Fa TF104_2 rfl) <| Vl (Ld TA3 rfl) <| Vl (Mv rfl) <| Gl [1, 3] [] [(1, some (⟨4, [.own 3 (n), .b (slT 2 penB (((((wsD n (ed : Int) F z (k)).syncR.1).writeR n ((ed : Int)) (((F).take ((j + 1) * 64)).drop (j * 64))).1).pen)), vI .i64 (((((wsD n (ed : Int) F z (k)).syncR.1).writeR n ((ed : Int)) (((F).take ((j + 1) * 64)).drop (j * 64))).1).fuse), vB (((((wsD n (ed : Int) F z (k)).syncR.1).writeR n ((ed : Int)) (((F).take ((j + 1) * 64)).drop (j * 64))).1).off)], true⟩)), (3, some (rowK .u8 (((((wsD n (ed : Int) F z (k)).syncR.1).writeR n ((ed : Int)) (((F).take ((j + 1) * 64)).drop (j * 64))).1).dur)))] rfl (k20 (wsD_ok hz k).sync (by omega) ((ed : Int)) (b := ((F).take ((j + 1) * 64)).drop (j * 64)) (Nat.le_trans (Nat.le_of_eq (secF_len hF hj)) (by decide))) rfl <| Vl (As rfl) <| ?_
              refine VLog.nil ⟨by kernel_rfl, ?_⟩
              refine Tg <| Sq <| Rg <| Vs (Mv rfl) <| Vs (Bi rfl) <| Nx <| Cd rfl (fun hc6 => ?_) (fun hc6 => ?_)
              · replace hc6 := bne_iff_ne.1 hc6
                refine Sq <| ?_
                have e : wfR n (ed : Int) F k d = (wsD n (ed : Int) F z (k)).syncR.1.writeR n (ed : Int) (((F).take ((j + 1) * 64)).drop (j * 64)) := by rw [hW, hsj]; exact wfC_e2 hc5 (by rw [← hsj]; exact hc6)
                exact Rg <| Vs (Mv rfl) <| Vs (St TS23 rfl) <| Nx <| Re <| Tr <| Iq <| RbPost.ret (n3 := 51) (s := sl [(2, .ptr 4 (0)), (4, .ptr 5 (0)), (69, .fn 77 [.ptr 50 (0)])]) (E3 := en [(0, ⟨4, [.ptr 1 (0), .row 2 (R.length) none, vI .i64 ((ed : Int)), vB (fl)], true⟩), (1, ⟨4, [.own 3 (n), .b (slT 2 penB (((((wsD n (ed : Int) F z (k)).syncR.1).writeR n ((ed : Int)) (((F).take ((j + 1) * 64)).drop (j * 64))).1).pen)), vI .i64 (((((wsD n (ed : Int) F z (k)).syncR.1).writeR n ((ed : Int)) (((F).take ((j + 1) * 64)).drop (j * 64))).1).fuse), vB (((((wsD n (ed : Int) F z (k)).syncR.1).writeR n ((ed : Int)) (((F).take ((j + 1) * 64)).drop (j * 64))).1).off)], true⟩), (2, rowT 1 rwB (R)), (3, rowK .u8 (((((wsD n (ed : Int) F z (k)).syncR.1).writeR n ((ed : Int)) (((F).take ((j + 1) * 64)).drop (j * 64))).1).dur)), (4, ⟨1, [.ptr 0 (0)], true⟩), (5, ⟨1, [vI .i64 ((((wsD n (ed : Int) F z (k)).syncR.1).writeR n ((ed : Int)) (((F).take ((j + 1) * 64)).drop (j * 64))).2)], true⟩), (50, ⟨1, [.b (slK .u8 (F))], true⟩)]) (Wt []) <| Iq <| Tr <| Gg (L1' := [some (⟨4, [.ptr 1 (0), .row 2 (R.length) none, vI .i64 ((ed : Int)), vB (fl)], true⟩), some (⟨4, [.own 3 (n), .b (slT 2 penB (((((wsD n (ed : Int) F z (k)).syncR.1).writeR n ((ed : Int)) (((F).take ((j + 1) * 64)).drop (j * 64))).1).pen)), vI .i64 (((((wsD n (ed : Int) F z (k)).syncR.1).writeR n ((ed : Int)) (((F).take ((j + 1) * 64)).drop (j * 64))).1).fuse), vB (((((wsD n (ed : Int) F z (k)).syncR.1).writeR n ((ed : Int)) (((F).take ((j + 1) * 64)).drop (j * 64))).1).off)], true⟩), some (rowT 1 rwB (R)), some (rowK .u8 (((((wsD n (ed : Int) F z (k)).syncR.1).writeR n ((ed : Int)) (((F).take ((j + 1) * 64)).drop (j * 64))).1).dur))]) [0, 1, 2, 3] (.val _ _ _ _ _ (resV_cell1 rfl rfl TA23 rfl) rfl rfl .nil) (.one _) (by rw [e]) (by rw [e])
              · replace hc6 := bne_eq_false_iff_eq.1 hc6
                refine Ks <| Tg <| Ke <| Io <| RbPost.exit (n3 := 51) (s := sl [(2, .ptr 4 (0)), (4, .ptr 5 (0)), (69, .fn 77 [.ptr 50 (0)])]) (E3 := en [(0, ⟨4, [.ptr 1 (0), .row 2 (R.length) none, vI .i64 ((ed : Int)), vB (fl)], true⟩), (1, ⟨4, [.own 3 (n), .b (slT 2 penB (((((wsD n (ed : Int) F z (k)).syncR.1).writeR n ((ed : Int)) (((F).take ((j + 1) * 64)).drop (j * 64))).1).pen)), vI .i64 (((((wsD n (ed : Int) F z (k)).syncR.1).writeR n ((ed : Int)) (((F).take ((j + 1) * 64)).drop (j * 64))).1).fuse), vB (((((wsD n (ed : Int) F z (k)).syncR.1).writeR n ((ed : Int)) (((F).take ((j + 1) * 64)).drop (j * 64))).1).off)], true⟩), (2, rowT 1 rwB (R)), (3, rowK .u8 (((((wsD n (ed : Int) F z (k)).syncR.1).writeR n ((ed : Int)) (((F).take ((j + 1) * 64)).drop (j * 64))).1).dur)), (4, ⟨1, [.ptr 0 (0)], true⟩), (5, ⟨1, [vI .i64 (0)], true⟩), (50, ⟨1, [.b (slK .u8 (F))], true⟩)]) (Wt []) <| Ih <| Tg <| Sq <| ?_
                have e : wfR n (ed : Int) F k d = ((wsD n (ed : Int) F z (k)).syncR.1.writeR n (ed : Int) (((F).take ((j + 1) * 64)).drop (j * 64))).1.syncR := by rw [hW, hsj]; exact wfC_ok hc5 (by rw [← hsj]; exact hc6)
                exact Rg <| Vs (Ld TA62 rfl) <| Vs (Nk rfl) <| Vs (Fa TF104_0 rfl) <| Vs (Ld TA22 rfl) <| Gm 55 [1, 3] [] (v := vI .i64 (((((wsD n (ed : Int) F z (k)).syncR.1).writeR n ((ed : Int)) (((F).take ((j + 1) * 64)).drop (j * 64))).1).syncR.2)) [(0, ⟨4, [.ptr 1 (0), .row 2 (R.length) none, vI .i64 ((ed : Int)), vB (fl)], true⟩), (1, ⟨4, [.own 3 (n), .b (slT 2 penB ((((((wsD n (ed : Int) F z (k)).syncR.1).writeR n ((ed : Int)) (((F).take ((j + 1) * 64)).drop (j * 64))).1).syncR.1).pen)), vI .i64 ((((((wsD n (ed : Int) F z (k)).syncR.1).writeR n ((ed : Int)) (((F).take ((j + 1) * 64)).drop (j * 64))).1).syncR.1).fuse), vB ((((((wsD n (ed : Int) F z (k)).syncR.1).writeR n ((ed : Int)) (((F).take ((j + 1) * 64)).drop (j * 64))).1).syncR.1).off)], true⟩), (2, rowT 1 rwB (R)), (3, rowK .u8 ((((((wsD n (ed : Int) F z (k)).syncR.1).writeR n ((ed : Int)) (((F).take ((j + 1) * 64)).drop (j * 64))).1).syncR.1).dur)), (4, ⟨1, [.ptr 0 (0)], true⟩), (5, ⟨1, [vI .i64 (0)], true⟩), (50, ⟨1, [.b (slK .u8 (F))], true⟩)] rfl (k25 ((wsD_ok hz k).sync.write _ _) (by omega)) rfl <| Vs (St TS23 rfl) <| Nx <| Re <| Gg (L1' := [some (⟨4, [.ptr 1 (0), .row 2 (R.length) none, vI .i64 ((ed : Int)), vB (fl)], true⟩), some (⟨4, [.own 3 (n), .b (slT 2 penB ((((((wsD n (ed : Int) F z (k)).syncR.1).writeR n ((ed : Int)) (((F).take ((j + 1) * 64)).drop (j * 64))).1).syncR.1).pen)), vI .i64 ((((((wsD n (ed : Int) F z (k)).syncR.1).writeR n ((ed : Int)) (((F).take ((j + 1) * 64)).drop (j * 64))).1).syncR.1).fuse), vB ((((((wsD n (ed : Int) F z (k)).syncR.1).writeR n ((ed : Int)) (((F).take ((j + 1) * 64)).drop (j * 64))).1).syncR.1).off)], true⟩), some (rowT 1 rwB (R)), some (rowK .u8 ((((((wsD n (ed : Int) F z (k)).syncR.1).writeR n ((ed : Int)) (((F).take ((j + 1) * 64)).drop (j * 64))).1).syncR.1).dur))]) [0, 1, 2, 3] (.val _ _ _ _ _ (resV_cell1 rfl rfl TA23 rfl) rfl rfl .nil) (.one _) (by rw [e]) (by rw [e])
            · skip
              exact absurd hJ (by omega)
end Go.VL

/- The journal, plain: opening, appending, room. -/
set_option linter.unusedVariables false
set_option linter.unusedSimpArgs false
namespace Go.VL
/-- A record. -/
def RecOk (r : List Int) : Prop := r ≠ [] ∧ r.length ≤ 4096 ∧ ByR r
def roomQ (n ed : Nat) : Int := if (if 64 * ((n : Int) / 64 - ed) - 6 - 4 < 4096 then 64 * ((n : Int) / 64 - ed) - 6 - 4 else 4096) > 0 then (if 64 * ((n : Int) / 64 - ed) - 6 - 4 < 4096 then 64 * ((n : Int) / 64 - ed) - 6 - 4 else 4096) else 0
abbrev zer : List Int := List.replicate 64 0
theorem zer_by : ByR zer := .rep
/-- Opening: the disk, the records, the end, the error. -/
def opR (n : Nat) : Nat → List (List Int) → Nat → Dk → Dk × List (List Int) × Nat × Int
  | 0, R, ed, d => (d, R, ed, 0)
  | f + 1, R, ed, d =>
    let r := nxR n R.length ed d
    if r.2.2.2 = 0 then
      if r.2.1 = [] then
        if r.2.2.1 = [] ∨ r.2.2.1 = zer then (r.1, R, ed, 0)
        else if (r.1.writeR n ed zer).2 = 0 then
          if (r.1.writeR n ed zer).1.syncR.2 = 0 then ((r.1.writeR n ed zer).1.syncR.1, R, ed, 0) else ((r.1.writeR n ed zer).1.syncR.1, [], 0, (r.1.writeR n ed zer).1.syncR.2)
        else ((r.1.writeR n ed zer).1, [], 0, (r.1.writeR n ed zer).2)
      else opR n f (R ++ [r.2.1]) (ed + cntQ r.2.1.length) r.1
    else (r.1, [], 0, r.2.2.2)
section
variable {n k m ed f : Nat} {d : Dk} {R : List (List Int)}
theorem recQ_len {A : List Int} {s : Nat} (h : 6 + s ≤ A.length) : (recQ A s).length = s := by simp only [recQ, List.length_drop, List.length_take]; omega
theorem rdAll_len {e : Int} : ∀ (k i : Nat) (d : Dk) (A : List Int), (rdAll n e i k d A).2.2 = 0 → (rdAll n e i k d A).2.1.length = A.length + k * 64
  | 0, i, d, A, _ => by simp [rdAll]
  | k + 1, i, d, A, h => by
    unfold rdAll at h ⊢
    split
    · rename_i h0
      rw [if_pos h0] at h
      rw [rdAll_len k _ _ _ h, List.length_append, read_len h0]; omega
    · rename_i h0
      rw [if_neg h0] at h
      exact absurd h h0
theorem rdAll_ok {e : Int} : ∀ (k i : Nat) (d : Dk) (A : List Int), d.Ok n m → d.By → ByR A → (rdAll n e i k d A).1.Ok n m ∧ (rdAll n e i k d A).1.By ∧ ByR (rdAll n e i k d A).2.1
  | 0, i, d, A, h, hb, hA => ⟨h, hb, hA⟩
  | k + 1, i, d, A, h, hb, hA => by
    have hr := hb.readR n (e + i)
    unfold rdAll
    split
    · exact rdAll_ok k _ _ _ (h.read _) hr.1 (hA.append hr.2)
    · exact ⟨h.read _, hr.1, fun x hx => by cases hx⟩
theorem nx_ok (h : d.Ok n m) (hb : d.By) : (nxR n k ed d).1.Ok n m ∧ (nxR n k ed d).1.By := by
  have hr := hb.readR n ed
  have ha := rdAll_ok (e := ed) (cntQ (sizeQ (d.readR n ed).2.1) - 1) 1 _ _ (h.read ed) hr.1 hr.2
  unfold nxR
  split
  · exact ⟨h, hb⟩
  · simp only
    repeat' split
    all_goals first | exact ⟨h.read _, hr.1⟩ | exact ⟨ha.1, ha.2.1⟩
/-- What reading the next record may yield. -/
theorem nx_cases (hd : d.Ok n m) (hb : d.By) : (¬ (nxR n k ed d).2.2.2 = 0) ∨
    ((nxR n k ed d).2.2.2 = 0 ∧ RecOk (nxR n k ed d).2.1 ∧ (nxR n k ed d).2.2.1 ≠ [] ∧ ed + cntQ (nxR n k ed d).2.1.length ≤ n / 64) ∨
    ((nxR n k ed d).2.2.2 = 0 ∧ (nxR n k ed d).2.1 = [] ∧ (nxR n k ed d).2.2.1 = []) ∨
    ((nxR n k ed d).2.2.2 = 0 ∧ (nxR n k ed d).2.1 = [] ∧ (nxR n k ed d).2.2.1 ≠ [] ∧ ByR (nxR n k ed d).2.2.1 ∧ (nxR n k ed d).2.2.1.length = 64 ∧ ed < n / 64) := by
  have hr := hb.readR n ed
  by_cases h1 : n / 64 ≤ ed
  · rw [nx_end h1]; exact .inr (.inr (.inl ⟨rfl, rfl, rfl⟩))
  · by_cases h2 : (d.readR n ed).2.2 = 0
    · have hl := read_len h2
      have hF0 : (d.readR n ed).2.1 ≠ [] := by intro h; rw [h] at hl; cases hl
      by_cases h3 : FitQ n k ed (d.readR n ed).2.1
      · have ha := rdAll_ok (e := ed) (cntQ (sizeQ (d.readR n ed).2.1) - 1) 1 _ _ (hd.read ed) hr.1 hr.2
        have hal := rdAll_len (n := n) (e := ed) (cntQ (sizeQ (d.readR n ed).2.1) - 1) 1 (d.readR n ed).1 (d.readR n ed).2.1
        rw [nx_fit h1 h2 h3 rfl]
        generalize rdAll n ed 1 (cntQ (sizeQ (d.readR n ed).2.1) - 1) (d.readR n ed).1 (d.readR n ed).2.1 = q at ha hal
        split
        · rename_i h4
          obtain ⟨_, g2, g3, g4⟩ := h3
          have hq := hal h4
          have hc := cntQ_le (sizeQ (d.readR n ed).2.1)
          have hrl : (recQ q.2.1 (sizeQ (d.readR n ed).2.1)).length = sizeQ (d.readR n ed).2.1 := recQ_len (by omega)
          split
          · refine .inr (.inl ⟨rfl, ⟨fun h => ?_, by rw [hrl]; exact g3, (ha.2.2.take _).drop _⟩, hF0, by rw [hrl]; exact g4⟩)
            simp only at h
            rw [h] at hrl; simp at hrl; omega
          · exact .inr (.inr (.inr ⟨rfl, rfl, hF0, hr.2, hl, by omega⟩))
        · rename_i h4; exact .inl h4
      · rw [nx_unfit h1 h2 h3]; exact .inr (.inr (.inr ⟨rfl, rfl, hF0, hr.2, hl, by omega⟩))
    · rw [nx_err h1 h2]; exact .inl h2
theorem op_err (h : ¬ (nxR n R.length ed d).2.2.2 = 0) (hf : 0 < f) : opR n f R ed d = ((nxR n R.length ed d).1, [], 0, (nxR n R.length ed d).2.2.2) := by
  obtain ⟨f, rfl⟩ : ∃ q, f = q + 1 := ⟨f - 1, by omega⟩
  rw [opR, if_neg h]
theorem op_rec (h : (nxR n R.length ed d).2.2.2 = 0) (hr : (nxR n R.length ed d).2.1 ≠ []) (hf : 0 < f) : opR n f R ed d = opR n (f - 1) (R ++ [(nxR n R.length ed d).2.1]) (ed + cntQ (nxR n R.length ed d).2.1.length) (nxR n R.length ed d).1 := by
  obtain ⟨f, rfl⟩ : ∃ q, f = q + 1 := ⟨f - 1, by omega⟩
  rw [opR, if_pos h, if_neg hr]; rfl
theorem op_end (h : (nxR n R.length ed d).2.2.2 = 0) (hr : (nxR n R.length ed d).2.1 = []) (h2 : (nxR n R.length ed d).2.2.1 = [] ∨ (nxR n R.length ed d).2.2.1 = zer) (hf : 0 < f) : opR n f R ed d = ((nxR n R.length ed d).1, R, ed, 0) := by
  obtain ⟨f, rfl⟩ : ∃ q, f = q + 1 := ⟨f - 1, by omega⟩
  rw [opR, if_pos h, if_pos hr, if_pos h2]
theorem op_zero (h : (nxR n R.length ed d).2.2.2 = 0) (hr : (nxR n R.length ed d).2.1 = []) (h2 : ¬ (nxR n R.length ed d).2.2.1 = []) (h3 : ¬ (nxR n R.length ed d).2.2.1 = zer) (hf : 0 < f) : opR n f R ed d =
    if ((nxR n R.length ed d).1.writeR n ed zer).2 = 0 then
          if ((nxR n R.length ed d).1.writeR n ed zer).1.syncR.2 = 0 then (((nxR n R.length ed d).1.writeR n ed zer).1.syncR.1, R, ed, 0) else (((nxR n R.length ed d).1.writeR n ed zer).1.syncR.1, [], 0, ((nxR n R.length ed d).1.writeR n ed zer).1.syncR.2)
        else (((nxR n R.length ed d).1.writeR n ed zer).1, [], 0, ((nxR n R.length ed d).1.writeR n ed zer).2) := by
  obtain ⟨f, rfl⟩ : ∃ q, f = q + 1 := ⟨f - 1, by omega⟩
  rw [opR, if_pos h, if_pos hr, if_neg (fun h => h.elim h2 h3)]
end
theorem take_snocD {R : List (List Int)} {i : Nat} (h : i < R.length) : R.take (i + 1) = R.take i ++ [R.getD i []] := by
  rw [List.take_add_one, List.getElem?_eq_getElem h, List.getD_eq_getElem?_getD, List.getElem?_eq_getElem h]; rfl
/-- Appending. -/
structure Jn where
  d : Dk
  R : List (List Int)
  ed : Nat
  fl : Bool
def wrJ (n : Nat) (j : Jn) (b : List Int) : Dk × Int := wfR n (j.ed : Int) (formQ j.R.length b) (cntQ b.length) j.d
def apR (n : Nat) (j : Jn) (b : List Int) : Jn × Int :=
  if b.length < 1 ∨ 4096 < b.length then (j, 1) else if j.fl = true then (j, 290) else if n / 64 < j.ed + cntQ b.length then (j, 8) else
  if (wrJ n j b).2 = 0 then (⟨(wrJ n j b).1, j.R ++ [b], j.ed + cntQ b.length, j.fl⟩, 0) else (⟨(wrJ n j b).1, j.R, j.ed, true⟩, (wrJ n j b).2)
section
variable {n : Nat} {j : Jn} {b : List Int}
theorem ap_arg (h : b.length < 1 ∨ 4096 < b.length) : apR n j b = (j, 1) := by rw [apR, if_pos h]
theorem ap_down (h : ¬ (b.length < 1 ∨ 4096 < b.length)) (h1 : j.fl = true) : apR n j b = (j, 290) := by rw [apR, if_neg h, if_pos h1]
theorem ap_full (h : ¬ (b.length < 1 ∨ 4096 < b.length)) (h1 : j.fl = false) (h2 : n / 64 < j.ed + cntQ b.length) : apR n j b = (j, 8) := by rw [apR, if_neg h, if_neg (by rw [h1]; decide), if_pos h2]
theorem ap_err (h : ¬ (b.length < 1 ∨ 4096 < b.length)) (h1 : j.fl = false) (h2 : ¬ n / 64 < j.ed + cntQ b.length) (h3 : ¬ (wrJ n j b).2 = 0) : apR n j b = (⟨(wrJ n j b).1, j.R, j.ed, true⟩, (wrJ n j b).2) := by
  rw [apR, if_neg h, if_neg (by rw [h1]; decide), if_neg h2, if_neg h3]
theorem ap_ok (h : ¬ (b.length < 1 ∨ 4096 < b.length)) (h1 : j.fl = false) (h2 : ¬ n / 64 < j.ed + cntQ b.length) (h3 : (wrJ n j b).2 = 0) : apR n j b = (⟨(wrJ n j b).1, j.R ++ [b], j.ed + cntQ b.length, j.fl⟩, 0) := by
  rw [apR, if_neg h, if_neg (by rw [h1]; decide), if_neg h2, if_pos h3]
end
end Go.VL

/- Walks over the Go functions, printed by a program of this session over the kit's print, and by hand. -/
set_option linter.unusedVariables false
set_option linter.unusedSimpArgs false
set_option maxRecDepth 100000
namespace Go.VL
open Go.Proofs
theorem t46 {n m : Nat} {d : Dk} (hd : d.Ok n m) (hm : m ≤ 100000) (hB : d.By) {R : List (List Int)} (hR : R.length ≤ 2000) {ed : Nat} (he : ed ≤ 2000) {fl : Bool} : VG Try.prog 46 [.ptr 0 (0)] [⟨4, [.ptr 1 (0), .row 2 (R.length) none, vI .i64 ((ed : Int)), vB (fl)], true⟩, ⟨4, [.own 3 (n), .b (slT 2 penB (d.pen)), vI .i64 (d.fuse), vB (d.off)], true⟩, rowT 1 rwB (R), rowK .u8 (d.dur)] (vI .i64 (roomQ n ed)) [some (⟨4, [.ptr 1 (0), .row 2 (R.length) none, vI .i64 ((ed : Int)), vB (fl)], true⟩), some (⟨4, [.own 3 (n), .b (slT 2 penB (d.pen)), vI .i64 (d.fuse), vB (d.off)], true⟩), some (rowT 1 rwB (R)), some (rowK .u8 (d.dur))] := by
  have hlen := hd.len
  have hlo := hd.lo
  have hhi := hd.hi
  have hwh := hd.whole
  have hpl := hd.pen
  obtain ⟨hf1, hf2⟩ := hd.fu
  refine VGp_of P_mixed Try.func46 rfl rfl (by kernel_rfl) (by simp) rfl <| Sq <| Rg <| Vs (As rfl) <| Nx <| Sq <| Sq <| Rg <| Vs (Mv rfl) <| Vs (Pe TU62 rfl) <| Nx <| Cz rfl <| Ks <| Tg <| Sq <| Rd (by kernel_rfl) <| Vl (Mv rfl) <| Vl (Nk rfl) <| Vl (Fa TF104_0 rfl) <| Vl (Ld TA22 rfl) <| Gl [1, 3] [] [(1, some (⟨4, [.own 3 (n), .b (slT 2 penB (d.pen)), vI .i64 (d.fuse), vB (d.off)], true⟩)), (3, some (rowK .u8 (d.dur)))] rfl (k33 hd hm) rfl <| Vl (Mv rfl) <| Vl (Nk rfl) <| Vl (Fa TF104_2 rfl) <| Vl (Ld TA3 rfl) <| Vl (Bo rfl suI) <| Vl (Bo rfl muI) <| Vl (Bo rfl suI) <| Vl (Bo rfl suI) <| Vl (Mi rfl) <| Vl (Mx rfl) <| Vl (As rfl) <| ?_
  refine VLog.nil ⟨by kernel_rfl, ?_⟩
  exact Tg <| Re <| Gg (L1' := [some (⟨4, [.ptr 1 (0), .row 2 (R.length) none, vI .i64 ((ed : Int)), vB (fl)], true⟩), some (⟨4, [.own 3 (n), .b (slT 2 penB (d.pen)), vI .i64 (d.fuse), vB (d.off)], true⟩), some (rowT 1 rwB (R)), some (rowK .u8 (d.dur))]) [0, 1, 2, 3] (.val _ _ _ _ _ rfl rfl rfl .nil) (.one _) rfl rfl
theorem t45 {n m : Nat} {d : Dk} (hd : d.Ok n m) (hm : m ≤ 100000) (hB : d.By) {R : List (List Int)} (hR : R.length ≤ 2000) {ed : Nat} (he : ed ≤ 2000) {fl : Bool} (hRn : ∀ r ∈ R, RecOk r) : VG Try.prog 45 [.ptr 0 (0)] [⟨4, [.ptr 1 (0), .row 2 (R.length) none, vI .i64 ((ed : Int)), vB (fl)], true⟩, ⟨4, [.own 3 (n), .b (slT 2 penB (d.pen)), vI .i64 (d.fuse), vB (d.off)], true⟩, rowT 1 rwB (R), rowK .u8 (d.dur)] (.b (slT 1 rwB R)) [some (⟨4, [.ptr 1 (0), .row 2 (R.length) none, vI .i64 ((ed : Int)), vB (fl)], true⟩), some (⟨4, [.own 3 (n), .b (slT 2 penB (d.pen)), vI .i64 (d.fuse), vB (d.off)], true⟩), some (rowT 1 rwB (R)), some (rowK .u8 (d.dur))] := by
  have hlen := hd.len
  have hlo := hd.lo
  have hhi := hd.hi
  have hwh := hd.whole
  have hpl := hd.pen
  obtain ⟨hf1, hf2⟩ := hd.fu
  refine VGp_of P_mixed Try.func45 rfl rfl (by kernel_rfl) (by simp) rfl <| Sq <| Rg <| Vs (As rfl) <| Nx <| Sq <| Sq <| Rg <| Vs (Mv rfl) <| Vs (Pe TU62 rfl) <| Nx <| Cz rfl <| Ks <| Tg <| Sq <| Rg <| Vs (Nr 7 1 rfl) <| Nx <| Sq <| Sq <| Rg <| Vs (Mv rfl) <| Vs (Nk rfl) <| Vs (Fa TF104_1 rfl) <| Vs (Ld TA43 rfl) <| Vs (Lv (m := R.length) TU43 rfl) <| Vs (Mv rfl) <| Nx <| Bk <| VCode.loop (α := (Nat) × (List (List Int))) (fun x_ => match x_ with | (i, O) => (5, sl [(3, .row 4 (i) none), (11, .row 2 (R.length) none), (12, vI .i64 (((R.length : Nat) : Int))), (13, vI .i64 ((i : Int)))], en [(0, ⟨4, [.ptr 1 (0), .row 2 (R.length) none, vI .i64 ((ed : Int)), vB (fl)], true⟩), (1, ⟨4, [.own 3 (n), .b (slT 2 penB (d.pen)), vI .i64 (d.fuse), vB (d.off)], true⟩), (2, rowT 1 rwB (R)), (3, rowK .u8 (d.dur)), (4, rowT 1 rwB (O))])) (fun x_ => match x_ with | (i, O) => i ≤ R.length ∧ O = R.take i) (fun x_ => match x_ with | (i, O) => R.length - i) (0, []) ⟨Nat.zero_le _, rfl⟩ (Wt [(4, 7)]) ?_
  rintro ⟨i, O⟩ hok
  obtain ⟨hi, hO⟩ := hok
  have hOl : O.length = i := by rw [hO, List.length_take]; omega
  change VCode _ _ _ 5 (sl _) (en _) _
  refine Sq <| Rg <| Vs (Bi rfl) <| Nx <| Sq <| Cd rfl (fun hc1 => ?_) (fun hc1 => ?_)
  · replace hc1 := of_decide_eq_true hc1
    refine Ks <| Tg <| Sq <| Bk <| Sq <| ?_
    have hr := hRn _ (getD_mem' (x := []) (show i < R.length by omega))
    exact Rg <| Vs (ITq TU43 TS27 rfl) <| Vs (L1T rwB_len TA27 rfl (gd (d := []) (j := i) (by first | omega | (simp; done) | (simp; omega))) rfl) <| Vs (As rfl) <| Nx <| Rg <| Vs (Mv rfl) <| Vs (Mv rfl) <| Vs (C0 rfl rfl (t69 (b := (R).getD (i) []) (hr.1) (by have := hr.2.1; omega))) <| Vs (sq1 12 rfl (.buildS _ 1 _ 27 [.b (slK .u8 ((R).getD (i) []))] 1 _ [.b (slK .u8 ((R).getD (i) []))] rfl TU43 TZ27 TS27 (List.cons_ne_nil _ _) (by decide) rfl rfl)) <| Vs (Aq1 13 TU43 TS27 TB27 TN27 (x1 := (R).getD (i) []) (f := rwB) rfl rwB_len (hl := (by omega)) (hm := (by simp only [maxLen]; omega))) <| Vs (As rfl) <| VList.nil <| Ig <| Tg <| Rg <| Vs (Bo rfl adI) <| Vs (Mv rfl) <| VList.nil <| Go (i + 1, (O) ++ [(R).getD (i) []]) ⟨by omega, by rw [hO]; exact (take_snocD (by omega)).symm⟩ (Wt [(4, 13)])
  · replace hc1 := of_decide_eq_false hc1
    exact Ke <| Te <| Oe <| Ih <| Tg <| Sq <| Rg <| Vs (Mv rfl) <| Vs (As rfl) <| Nx <| Re <| Gg (L1' := [some (⟨4, [.ptr 1 (0), .row 2 (R.length) none, vI .i64 ((ed : Int)), vB (fl)], true⟩), some (⟨4, [.own 3 (n), .b (slT 2 penB (d.pen)), vI .i64 (d.fuse), vB (d.off)], true⟩), some (rowT 1 rwB (R)), some (rowK .u8 (d.dur))]) [0, 1, 2, 3] (.val _ _ _ _ _ rfl (res_rowTq rwB_len rfl (by first | omega | (simp; done) | (simp; omega))) rfl .nil) (.one _) (by rw [hO, List.take_of_length_le (by omega)]) rfl
end Go.VL

/- Walks over the Go functions, printed by a program of this session over the kit's print, and by hand. -/
set_option linter.unusedVariables false
set_option linter.unusedSimpArgs false
set_option maxRecDepth 100000
namespace Go.VL
open Go.Proofs
theorem t43S {n m : Nat} {d : Dk} (hd : d.Ok n m) (hm : m ≤ 100000) (hB : d.By) {R : List (List Int)} (hR : R.length ≤ 2000) {ed : Nat} (he : ed ≤ 2000) {fl : Bool} {b : List Int} (hb : ByR b) (hbl : b.length ≤ 100000) (hm2 : m ≤ 80000) (h : (apR n ⟨d, R, ed, fl⟩ b).2 = 0) : VG Try.prog 43 [.ptr 0 (0), .b (slK .u8 (b))] [⟨4, [.ptr 1 (0), .row 2 (R.length) none, vI .i64 ((ed : Int)), vB (fl)], true⟩, ⟨4, [.own 3 (n), .b (slT 2 penB (d.pen)), vI .i64 (d.fuse), vB (d.off)], true⟩, rowT 1 rwB (R), rowK .u8 (d.dur)] (vI .i64 0) [some (⟨4, [.ptr 1 (0), .row 4 (R.length + 1) none, vI .i64 (((ed + cntQ b.length : Nat) : Int)), vB (fl)], true⟩), some (⟨4, [.own 3 (n), .b (slT 2 penB (((apR n ⟨d, R, ed, fl⟩ b).1.d).pen)), vI .i64 (((apR n ⟨d, R, ed, fl⟩ b).1.d).fuse), vB (((apR n ⟨d, R, ed, fl⟩ b).1.d).off)], true⟩), none, some (rowK .u8 (((apR n ⟨d, R, ed, fl⟩ b).1.d).dur)), some (rowT 1 rwB (R ++ [b]))] := by
  have hlen := hd.len
  have hlo := hd.lo
  have hhi := hd.hi
  have hwh := hd.whole
  have hpl := hd.pen
  obtain ⟨hf1, hf2⟩ := hd.fu
  refine VGp_of P_mixed Try.func43 rfl rfl (by kernel_rfl) (by simp) rfl <| Sq <| Rg <| Vs (As rfl) <| Nx <| Sq <| Bk <| Sq <| Rg <| Vs (Mv rfl) <| Vs (Pe TU62 rfl) <| Vs (Mv rfl) <| Vs (Mv rfl) <| Vs (Ls TK27 rfl) <| Vs (Bi rfl) <| Vs (Pk rfl) <| Vs (Mv rfl) <| Sp 14 rfl (fun hc1 => ?_) (fun hc1 => ?_)
  · replace hc1 := of_decide_eq_true hc1
    exfalso; rw [ap_arg (by omega)] at h; exact absurd h (by simp)
  · replace hc1 := of_decide_eq_false hc1
    refine Vs (Mv rfl) <| Vs (Ls TK27 rfl) <| Vs (Bi rfl) <| Vs (Pk rfl) <| Vs (As rfl) <| Nx <| Cd rfl (fun hc2 => ?_) (fun hc2 => ?_)
    · replace hc2 := of_decide_eq_true hc2
      exfalso; rw [ap_arg (by omega)] at h; exact absurd h (by simp)
    · replace hc2 := of_decide_eq_false hc2
      have hck : 1 ≤ cntQ b.length ∧ cntQ b.length ≤ 80 := by unfold cntQ; omega
      refine Sq <| Rg <| Vs (Mv rfl) <| Vs (Nk rfl) <| Vs (Fa TF104_3 rfl) <| Vs (Ld TA4 rfl) <| Vs (As rfl) <| Nx <| Cd rfl (fun hc3 => ?_) (fun hc3 => ?_)
      · replace hc3 := hc3
        exfalso; rw [ap_down (by omega) hc3] at h; exact absurd h (by simp)
      · replace hc3 := hc3
        refine Sq <| Rd (by kernel_rfl) <| Vl (Mv rfl) <| Vl (Nk rfl) <| Vl (Fa TF104_2 rfl) <| Vl (Ld TA3 rfl) <| Vl (Mv rfl) <| Vl (Ls TK27 rfl) <| Vl (Cf rfl rfl (t65 (by omega)) rfl) <| Vl (Bo rfl adI) <| Vl (Mv rfl) <| Vl (Nk rfl) <| Vl (Fa TF104_0 rfl) <| Vl (Ld TA22 rfl) <| Gl [1, 3] [] [(1, some (⟨4, [.own 3 (n), .b (slT 2 penB (d.pen)), vI .i64 (d.fuse), vB (d.off)], true⟩)), (3, some (rowK .u8 (d.dur)))] rfl (k33 hd hm) rfl <| Vl (Bi rfl) <| Vl (As rfl) <| ?_
        refine VLog.nil ⟨by kernel_rfl, ?_⟩
        refine Tg <| Cd rfl (fun hc4 => ?_) (fun hc4 => ?_)
        · replace hc4 := of_decide_eq_true hc4
          exfalso; rw [ap_full (by omega) hc3 (by show n / 64 < ed + cntQ b.length; omega)] at h; exact absurd h (by simp)
        · replace hc4 := of_decide_eq_false hc4
          refine Ks <| Ig <| Tg <| Sq <| Sq <| ?_
          have hfull : ¬ n / 64 < ed + cntQ b.length := by omega
          refine Rg <| Vs (Mv rfl) <| Vs (Mv rfl) <| Vs (Nk rfl) <| Vs (Fa TF104_1 rfl) <| Vs (Ld TA43 rfl) <| Vs (Lv (m := R.length) TU43 rfl) <| Vs (Mv rfl) <| Vs (C0 rfl rfl (t68 (n := ((R.length : Nat) : Int)) (b := b) (by omega) (hb) (by omega))) <| Gm 46 [0, 1, 2, 3] [] (v := vI .i64 ((wfR n ((ed : Nat) : Int) (formQ (R.length : Int) b) (cntQ b.length) d).2)) [(0, ⟨4, [.ptr 1 (0), .row 2 (R.length) none, vI .i64 (((ed : Nat) : Int)), vB (fl)], true⟩), (1, ⟨4, [.own 3 (n), .b (slT 2 penB (((wfR n ((ed : Nat) : Int) (formQ (R.length : Int) b) (cntQ b.length) d).1).pen)), vI .i64 (((wfR n ((ed : Nat) : Int) (formQ (R.length : Int) b) (cntQ b.length) d).1).fuse), vB (((wfR n ((ed : Nat) : Int) (formQ (R.length : Int) b) (cntQ b.length) d).1).off)], true⟩), (2, rowT 1 rwB (R)), (3, rowK .u8 (((wfR n ((ed : Nat) : Int) (formQ (R.length : Int) b) (cntQ b.length) d).1).dur))] rfl (t67 hd hm hB hR he (fl := fl) (F := formQ (R.length : Int) b) (k := cntQ b.length) (formQ_len _ _) (hck) (formQ_by hb) (by omega)) rfl <| Vs (As rfl) <| Nx <| Sq <| Rg <| Vs (Mv rfl) <| Vs (Bi rfl) <| Nx <| Cd rfl (fun hc5 => ?_) (fun hc5 => ?_)
          · replace hc5 := bne_iff_ne.1 hc5
            exfalso; rw [ap_err (j := ⟨d, R, ed, fl⟩) (by omega) hc3 hfull hc5] at h; exact hc5 h
          · replace hc5 := bne_eq_false_iff_eq.1 hc5
            refine Ks <| Tg <| Sq <| ?_
            have e : (apR n ⟨d, R, ed, fl⟩ b) = (⟨(wfR n ((ed : Nat) : Int) (formQ (R.length : Int) b) (cntQ b.length) d).1, R ++ [b], ed + cntQ b.length, fl⟩, 0) := ap_ok (j := ⟨d, R, ed, fl⟩) (by omega) hc3 hfull hc5
            refine Rd (by kernel_rfl) <| Vl (Mv rfl) <| Vl (Mv rfl) <| Vl (Nk rfl) <| Vl (Fa TF104_1 rfl) <| Vl (Ld TA43 rfl) <| Vl (Mv rfl) <| Vl (C0 rfl rfl (t69 (b := b) (by intro h; rw [h] at hc1; exact hc1 (by decide)) (by omega))) <| Vl (sq1 57 rfl (.buildS _ 1 _ 27 [.b (slK .u8 (b))] 1 _ [.b (slK .u8 (b))] rfl TU43 TZ27 TS27 (List.cons_ne_nil _ _) (by decide) rfl rfl)) <| Vl (Aq1 58 TU43 TS27 TB27 TN27 (x1 := b) (f := rwB) rfl rwB_len (hl := (by omega)) (hm := (by simp only [maxLen]; omega))) <| Vl (Nk rfl) <| Vl (Fa TF104_1 rfl) <| Vl (St TS43 rfl) <| ?_
            refine VLog.nil ⟨by kernel_rfl, ?_⟩
            refine Tg <| Sq <| Rd (by kernel_rfl) <| Vl (Mv rfl) <| Vl (Nk rfl) <| Vl (Fa TF104_2 rfl) <| Vl (Ld TA3 rfl) <| Vl (Mv rfl) <| Vl (Ls TK27 rfl) <| Vl (Cf rfl rfl (t65 (by omega)) rfl) <| Vl (Bo rfl adI) <| Vl (Nk rfl) <| Vl (Fa TF104_2 rfl) <| Vl (St TS3 rfl) <| ?_
            refine VLog.nil ⟨by kernel_rfl, ?_⟩
            exact Tg <| Sq <| Rg <| Vs (As rfl) <| Nx <| Re <| Gg (L1' := [some (⟨4, [.ptr 1 (0), .row 4 (R.length + 1) none, vI .i64 ((((ed : Nat) : Int) + ((cntQ ((b).length) : Nat) : Int))), vB (fl)], true⟩), some (⟨4, [.own 3 (n), .b (slT 2 penB (((wfR n ((ed : Nat) : Int) (formQ (R.length : Int) b) (cntQ b.length) d).1).pen)), vI .i64 (((wfR n ((ed : Nat) : Int) (formQ (R.length : Int) b) (cntQ b.length) d).1).fuse), vB (((wfR n ((ed : Nat) : Int) (formQ (R.length : Int) b) (cntQ b.length) d).1).off)], true⟩), none, some (rowK .u8 (((wfR n ((ed : Nat) : Int) (formQ (R.length : Int) b) (cntQ b.length) d).1).dur)), some (rowT 1 rwB ((R) ++ [b]))]) [0, 1, 2, 3, 58] (.val _ _ _ _ _ rfl rfl rfl .nil) (.one _) rfl (by rw [e]; rfl)
theorem t43E {n m : Nat} {d : Dk} (hd : d.Ok n m) (hm : m ≤ 100000) (hB : d.By) {R : List (List Int)} (hR : R.length ≤ 2000) {ed : Nat} (he : ed ≤ 2000) {fl : Bool} {b : List Int} (hb : ByR b) (hbl : b.length ≤ 100000) (hm2 : m ≤ 80000) (h : ¬ (apR n ⟨d, R, ed, fl⟩ b).2 = 0) : VG Try.prog 43 [.ptr 0 (0), .b (slK .u8 (b))] [⟨4, [.ptr 1 (0), .row 2 (R.length) none, vI .i64 ((ed : Int)), vB (fl)], true⟩, ⟨4, [.own 3 (n), .b (slT 2 penB (d.pen)), vI .i64 (d.fuse), vB (d.off)], true⟩, rowT 1 rwB (R), rowK .u8 (d.dur)] (vI .i64 (apR n ⟨d, R, ed, fl⟩ b).2) [some (⟨4, [.ptr 1 (0), .row 2 (R.length) none, vI .i64 ((ed : Int)), vB ((apR n ⟨d, R, ed, fl⟩ b).1.fl)], true⟩), some (⟨4, [.own 3 (n), .b (slT 2 penB (((apR n ⟨d, R, ed, fl⟩ b).1.d).pen)), vI .i64 (((apR n ⟨d, R, ed, fl⟩ b).1.d).fuse), vB (((apR n ⟨d, R, ed, fl⟩ b).1.d).off)], true⟩), some (rowT 1 rwB (R)), some (rowK .u8 (((apR n ⟨d, R, ed, fl⟩ b).1.d).dur))] := by
  have hlen := hd.len
  have hlo := hd.lo
  have hhi := hd.hi
  have hwh := hd.whole
  have hpl := hd.pen
  obtain ⟨hf1, hf2⟩ := hd.fu
  refine VGp_of P_mixed Try.func43 rfl rfl (by kernel_rfl) (by simp) rfl <| Sq <| Rg <| Vs (As rfl) <| Nx <| Sq <| Bk <| Sq <| Rg <| Vs (Mv rfl) <| Vs (Pe TU62 rfl) <| Vs (Mv rfl) <| Vs (Mv rfl) <| Vs (Ls TK27 rfl) <| Vs (Bi rfl) <| Vs (Pk rfl) <| Vs (Mv rfl) <| Sp 14 rfl (fun hc1 => ?_) (fun hc1 => ?_)
  · replace hc1 := of_decide_eq_true hc1
    refine Sk rfl <| Sk rfl <| Sk rfl <| Vs (Pk rfl) <| Vs (As rfl) <| Nx <| Cy rfl <| Sq <| ?_
    have e : (apR n ⟨d, R, ed, fl⟩ b) = (⟨d, R, ed, fl⟩, 1) := ap_arg (by omega)
    exact Rg <| Vs (As rfl) <| Nx <| Re <| Iq <| Tr <| Gg (L1' := [some (⟨4, [.ptr 1 (0), .row 2 (R.length) none, vI .i64 ((ed : Int)), vB (fl)], true⟩), some (⟨4, [.own 3 (n), .b (slT 2 penB (d.pen)), vI .i64 (d.fuse), vB (d.off)], true⟩), some (rowT 1 rwB (R)), some (rowK .u8 (d.dur))]) [0, 1, 2, 3] (.val _ _ _ _ _ rfl rfl rfl .nil) (.one _) (by rw [e]) (by rw [e])
  · replace hc1 := of_decide_eq_false hc1
    refine Vs (Mv rfl) <| Vs (Ls TK27 rfl) <| Vs (Bi rfl) <| Vs (Pk rfl) <| Vs (As rfl) <| Nx <| Cd rfl (fun hc2 => ?_) (fun hc2 => ?_)
    · replace hc2 := of_decide_eq_true hc2
      refine Sq <| ?_
      have e : (apR n ⟨d, R, ed, fl⟩ b) = (⟨d, R, ed, fl⟩, 1) := ap_arg (by omega)
      exact Rg <| Vs (As rfl) <| Nx <| Re <| Iq <| Tr <| Gg (L1' := [some (⟨4, [.ptr 1 (0), .row 2 (R.length) none, vI .i64 ((ed : Int)), vB (fl)], true⟩), some (⟨4, [.own 3 (n), .b (slT 2 penB (d.pen)), vI .i64 (d.fuse), vB (d.off)], true⟩), some (rowT 1 rwB (R)), some (rowK .u8 (d.dur))]) [0, 1, 2, 3] (.val _ _ _ _ _ rfl rfl rfl .nil) (.one _) (by rw [e]) (by rw [e])
    · replace hc2 := of_decide_eq_false hc2
      have hck : 1 ≤ cntQ b.length ∧ cntQ b.length ≤ 80 := by unfold cntQ; omega
      refine Sq <| Rg <| Vs (Mv rfl) <| Vs (Nk rfl) <| Vs (Fa TF104_3 rfl) <| Vs (Ld TA4 rfl) <| Vs (As rfl) <| Nx <| Cd rfl (fun hc3 => ?_) (fun hc3 => ?_)
      · replace hc3 := hc3
        refine Sq <| ?_
        have e : (apR n ⟨d, R, ed, fl⟩ b) = (⟨d, R, ed, fl⟩, 290) := ap_down (by omega) hc3
        exact Rg <| Vs (As rfl) <| Nx <| Re <| Iq <| Tr <| Gg (L1' := [some (⟨4, [.ptr 1 (0), .row 2 (R.length) none, vI .i64 ((ed : Int)), vB (fl)], true⟩), some (⟨4, [.own 3 (n), .b (slT 2 penB (d.pen)), vI .i64 (d.fuse), vB (d.off)], true⟩), some (rowT 1 rwB (R)), some (rowK .u8 (d.dur))]) [0, 1, 2, 3] (.val _ _ _ _ _ rfl rfl rfl .nil) (.one _) (by rw [e]) (by rw [e])
      · replace hc3 := hc3
        refine Sq <| Rd (by kernel_rfl) <| Vl (Mv rfl) <| Vl (Nk rfl) <| Vl (Fa TF104_2 rfl) <| Vl (Ld TA3 rfl) <| Vl (Mv rfl) <| Vl (Ls TK27 rfl) <| Vl (Cf rfl rfl (t65 (by omega)) rfl) <| Vl (Bo rfl adI) <| Vl (Mv rfl) <| Vl (Nk rfl) <| Vl (Fa TF104_0 rfl) <| Vl (Ld TA22 rfl) <| Gl [1, 3] [] [(1, some (⟨4, [.own 3 (n), .b (slT 2 penB (d.pen)), vI .i64 (d.fuse), vB (d.off)], true⟩)), (3, some (rowK .u8 (d.dur)))] rfl (k33 hd hm) rfl <| Vl (Bi rfl) <| Vl (As rfl) <| ?_
        refine VLog.nil ⟨by kernel_rfl, ?_⟩
        refine Tg <| Cd rfl (fun hc4 => ?_) (fun hc4 => ?_)
        · replace hc4 := of_decide_eq_true hc4
          refine Sq <| ?_
          have e : (apR n ⟨d, R, ed, fl⟩ b) = (⟨d, R, ed, fl⟩, 8) := ap_full (by omega) hc3 (by show n / 64 < ed + cntQ b.length; omega)
          exact Rg <| Vs (As rfl) <| Nx <| Re <| Iq <| Tr <| Gg (L1' := [some (⟨4, [.ptr 1 (0), .row 2 (R.length) none, vI .i64 ((ed : Int)), vB (fl)], true⟩), some (⟨4, [.own 3 (n), .b (slT 2 penB (d.pen)), vI .i64 (d.fuse), vB (d.off)], true⟩), some (rowT 1 rwB (R)), some (rowK .u8 (d.dur))]) [0, 1, 2, 3] (.val _ _ _ _ _ rfl rfl rfl .nil) (.one _) (by rw [e]) (by rw [e])
        · replace hc4 := of_decide_eq_false hc4
          refine Ks <| Ig <| Tg <| Sq <| Sq <| ?_
          have hfull : ¬ n / 64 < ed + cntQ b.length := by omega
          refine Rg <| Vs (Mv rfl) <| Vs (Mv rfl) <| Vs (Nk rfl) <| Vs (Fa TF104_1 rfl) <| Vs (Ld TA43 rfl) <| Vs (Lv (m := R.length) TU43 rfl) <| Vs (Mv rfl) <| Vs (C0 rfl rfl (t68 (n := ((R.length : Nat) : Int)) (b := b) (by omega) (hb) (by omega))) <| Gm 46 [0, 1, 2, 3] [] (v := vI .i64 ((wfR n ((ed : Nat) : Int) (formQ (R.length : Int) b) (cntQ b.length) d).2)) [(0, ⟨4, [.ptr 1 (0), .row 2 (R.length) none, vI .i64 (((ed : Nat) : Int)), vB (fl)], true⟩), (1, ⟨4, [.own 3 (n), .b (slT 2 penB (((wfR n ((ed : Nat) : Int) (formQ (R.length : Int) b) (cntQ b.length) d).1).pen)), vI .i64 (((wfR n ((ed : Nat) : Int) (formQ (R.length : Int) b) (cntQ b.length) d).1).fuse), vB (((wfR n ((ed : Nat) : Int) (formQ (R.length : Int) b) (cntQ b.length) d).1).off)], true⟩), (2, rowT 1 rwB (R)), (3, rowK .u8 (((wfR n ((ed : Nat) : Int) (formQ (R.length : Int) b) (cntQ b.length) d).1).dur))] rfl (t67 hd hm hB hR he (fl := fl) (F := formQ (R.length : Int) b) (k := cntQ b.length) (formQ_len _ _) (hck) (formQ_by hb) (by omega)) rfl <| Vs (As rfl) <| Nx <| Sq <| Rg <| Vs (Mv rfl) <| Vs (Bi rfl) <| Nx <| Cd rfl (fun hc5 => ?_) (fun hc5 => ?_)
          · replace hc5 := bne_iff_ne.1 hc5
            refine Sq <| ?_
            have e : (apR n ⟨d, R, ed, fl⟩ b) = (⟨(wfR n ((ed : Nat) : Int) (formQ (R.length : Int) b) (cntQ b.length) d).1, R, ed, true⟩, (wfR n ((ed : Nat) : Int) (formQ (R.length : Int) b) (cntQ b.length) d).2) := ap_err (j := ⟨d, R, ed, fl⟩) (by omega) hc3 hfull hc5
            exact Rg <| Vs (Mv rfl) <| Vs (Nk rfl) <| Vs (Fa TF104_3 rfl) <| Vs (St TS4 rfl) <| Nx <| Sq <| Rg <| Vs (Mv rfl) <| Vs (As rfl) <| Nx <| Re <| Tr <| Gg (L1' := [some (⟨4, [.ptr 1 (0), .row 2 (R.length) none, vI .i64 (((ed : Nat) : Int)), vB (true)], true⟩), some (⟨4, [.own 3 (n), .b (slT 2 penB (((wfR n ((ed : Nat) : Int) (formQ (R.length : Int) b) (cntQ b.length) d).1).pen)), vI .i64 (((wfR n ((ed : Nat) : Int) (formQ (R.length : Int) b) (cntQ b.length) d).1).fuse), vB (((wfR n ((ed : Nat) : Int) (formQ (R.length : Int) b) (cntQ b.length) d).1).off)], true⟩), some (rowT 1 rwB (R)), some (rowK .u8 (((wfR n ((ed : Nat) : Int) (formQ (R.length : Int) b) (cntQ b.length) d).1).dur))]) [0, 1, 2, 3] (.val _ _ _ _ _ rfl rfl rfl .nil) (.one _) (by rw [e]) (by rw [e])
          · replace hc5 := bne_eq_false_iff_eq.1 hc5
            exfalso; rw [ap_ok (j := ⟨d, R, ed, fl⟩) (by omega) hc3 hfull hc5] at h; exact h rfl
end Go.VL

/- A nil slice is nil. -/
set_option linter.unusedVariables false
set_option linter.unusedSimpArgs false
namespace Go.VL
section
variable {P : Program} {id : Nat} {s : Slots} {E : Env}
theorem Eff.isNilV {T T' e : TypeId} {x : Operand} {eq : Bool} (ha : ev s x = some (.b .nil)) (hu : P.underlying T = some (.slice e)) :
    Eff P id s E (.binOp (if eq then .eql else .neq) T x (.const (.slice none 0 0)) T') (some (.b (.lit (.bool eq)))) [] :=
  .sem _ _ _ fun s' E' k1 k2 w0 W P0 E0 pl0 pl N a o K Qx ho S hf hK => by
    have hr : RepB W (Qf (FF w0 P0) E' pl) .nil (a.eval x) := S.ev (show ev s' x = some (.b .nil) by rw [← k1 x (by cases eq <;> simp [Op.operands])]; exact ha)
    have hv : a.eval x = .slice none 0 0 := by
      generalize a.eval x = q at hr
      cases hr; rfl
    refine wp_val (v := .b (.lit (.bool eq))) (u := .bool eq) S hf ?_ (RepB.lit _ rfl) hK
    have hc : a.eval (.const (.slice none 0 0)) = .slice none 0 0 := rfl
    cases eq with
    | true =>
      have ho : o.op = .binOp .eql T x (.const (.slice none 0 0)) T' := ho
      have hg : (eqGuard .eql T x (.const (.slice none 0 0)) (.slice none 0 0) (.slice none 0 0)).run P W = .ok () W := by simp [eqGuard]
      have hb := Lib.run_eql_slice_nil W T e none 0 0 0 0 hu
      simp [execOp, ho, hv, hc, hg, hb]
    | false =>
      have ho : o.op = .binOp .neq T x (.const (.slice none 0 0)) T' := ho
      have hg : (eqGuard .neq T x (.const (.slice none 0 0)) (.slice none 0 0) (.slice none 0 0)).run P W = .ok () W := by simp [eqGuard]
      have hb := run_neq_slice_nil_any W T e none 0 0 0 0 hu
      simp [execOp, ho, hv, hc, hg, hb]
end
theorem hot_drop {E : Env} {pl : Plan} {i k : Nat} (h : Hot (setAt E i none) pl k) : Hot E pl k := by
  obtain ⟨j, e, c, h1, h2, h3⟩ := h
  by_cases hj : j = i
  · subst hj; rw [setAt_self] at h1; cases h1
  · rw [setAt_ne _ _ hj] at h1; exact ⟨j, e, c, h1, h2, h3⟩
/-- A literal's row turned to the type that it has: it is a value from here on. -/
theorem Eff.convBytes {P : Program} {id : Nat} {s : Slots} {E : Env} {T el : TypeId} {x : Operand} {i m : Nat} {L : List Int} (hx : ev s x = some (.own i m)) (he : E i = some (rowK .u8 L)) (hl : L.length = m) (h0 : L ≠ []) (hu : P.underlying T = some (.slice el)) (hel : P.underlying el = some (.int .u8)) :
    Eff P id s E (.convert T T x) (some (.b (slK .u8 L))) [(i, none)] :=
  .sem _ _ _ fun s' E' k1 k2 w0 W P0 E0 pl0 pl N a o K Qx ho S hf hK => by
    have hx' : ev s' x = some (.own i m) := by rw [← k1 x (by simp [Op.operands])]; exact hx
    have he' : E' i = some (rowK .u8 L) := by rw [← k2 i (mem_idsOf hx (by simp [V.ids, V.names]))]; exact he
    have hlen : 0 < L.length := List.length_pos_iff.2 h0
    obtain ⟨g, c, hp, hmc, hxv⟩ := S.ev hx'
    obtain ⟨c1, cur, T0, rfl, _, q2, q3, q4, q5, q6, q7, q8⟩ := (S.eok.ent i _ he').pos hp (.inl (by simpa [rowK] using hlen))
    have hX : Hot E' pl g := ⟨i, _, c1, he', rfl, hp⟩
    have hg : g < W.heap.size := (Array.getElem?_eq_some_iff.1 q2).1
    have hsh : W.shape? g = some (T0, cur.size) := by unfold World.shape?; rw [q2]
    obtain ⟨W1, hW1⟩ : ∃ W1, W.freeze ⟨g, cur.size, none⟩ 1 = W1 := ⟨_, rfl⟩
    have hW1' : W1 = { W with heap := W1.heap } := by rw [← hW1]; unfold World.freeze; rw [if_neg (by decide)]
    have hheap : ∀ k, k ≠ g → W1.heap[k]? = W.heap[k]? := fun k hk => by
      rw [← hW1]; unfold World.freeze; rw [if_neg (by decide)]
      show (W.heap.modify g _)[k]? = _
      rw [Array.getElem?_modify, if_neg (fun h => hk h.symm)]
    have hsize : W1.heap.size = W.heap.size := by
      rw [← hW1]; unfold World.freeze; rw [if_neg (by decide)]
      show (W.heap.modify g _).size = _
      simp
    have hat : W1.heap[g]? = some (.cells cur T0 (cur.size, cur.size + 1)) := by
      rw [← hW1]; unfold World.freeze; rw [if_neg (by decide)]
      show (W.heap.modify g _)[g]? = _
      rw [Array.getElem?_modify, if_pos rfl, q2]; rfl
    have hrun : (execOp a.eval o).run P W = .ok (.value (.slice (some ⟨g, 0, none⟩) m (c1 + 1))) W1 := by
      simp [execOp, ho, hxv, convert, run_underlying hu, run_underlying hel, markStringish, hsh, hW1]
    have hh : ∀ k, Hot (setAt E' i none) pl k → Hot E' pl k ∨ W.heap.size ≤ k := fun k hk => .inl (hot_drop hk)
    have hng : ¬ Hot (setAt E' i none) pl g := fun hk => by
      obtain ⟨j, e, c, h1, h2, h3⟩ := hk
      by_cases hj : j = i
      · subst hj; rw [setAt_self] at h1; cases h1
      · rw [setAt_ne _ _ hj] at h1
        exact hj (S.eok.inj j i e _ g c c1 h1 he' h3 hp)
    have S1 : Sim w0 P0 E0 pl0 N (setAt E' i none) pl s' a W1 := by
      refine S.step (fun k => k = g) (by rw [hW1']) (by rw [hW1']) (by rw [hW1']) (Nat.le_of_eq hsize.symm) (fun k _ hk => hheap k hk) (fun k h => h ▸ hX) (fun _ _ h => h) hh ⟨fun j e' hj => ?_, fun j j' e1 e2 g1 c1' c2 hi hj pi pj => ?_⟩
      · by_cases h : j = i
        · subst h; rw [setAt_self] at hj; cases hj
        · rw [setAt_ne _ _ h] at hj
          exact (S.eok.ent j e' hj).move (fun k => k = g) (fun k _ hk => hheap k hk) (fun k h => h ▸ hX) (fun _ _ h => h) hh (fun g' c' hp' hgg => by
            subst hgg
            exact h (S.eok.inj j i e' _ g' c' c1 hj he' hp' hp))
      · have old : ∀ (j : Nat) (e1 : Ent), setAt E' i none j = some e1 → E' j = some e1 := fun j e1 h => by
          by_cases hji : j = i
          · subst hji; rw [setAt_self] at h; cases h
          · rwa [setAt_ne _ _ hji] at h
        exact S.eok.inj j j' e1 e2 g1 c1' c2 (old _ _ hi) (old _ _ hj) pi pj
    unfold Oper.wp
    rw [hrun]
    refine hK _ pl W1 S1 (fun k hk h => h) ?_
    have hce : ∀ (j : Nat) (x : B), (L.map (numB .u8))[j]? = some x → ∃ u : Value, cur[j]? = some u ∧ u.oneCell' = true ∧ RepB W (Qf (FF w0 P0) E' pl) x u := fun j x hj => q8 j (.b x) (by
      rw [List.getElem?_map, Option.map_eq_some_iff] at hj
      obtain ⟨y, hy, rfl⟩ := hj
      simp [rowK, hy])
    refine RepB.sl ⟨g, 0, none⟩ m (c1 + 1) 1 (L.map (numB .u8)) (fun j => cur.getD j default) (by simp [hl]) hmc q6 (by decide) (fun _ => ⟨q3, hng⟩) (fun j hj => ?_) (fun j hj => ?_) (fun j x hj => ?_)
    · have hj' : j < cur.size := by simp [rowK] at q5 hj; omega
      rw [add_plain]
      unfold World.cell?
      simp [hat, hj']
    · obtain ⟨u, hu1, hu2, _⟩ := hce j _ (List.getElem?_eq_getElem hj)
      have hj' := (Array.getElem?_eq_some_iff.1 hu1)
      obtain ⟨hlt, rfl⟩ := hj'
      simp [hlt] ; exact hu2
    · obtain ⟨u, hu1, _, hu3⟩ := hce j x hj
      obtain ⟨hlt, rfl⟩ := Array.getElem?_eq_some_iff.1 hu1
      have : cur.getD j default = cur[j] := by simp [hlt]
      rw [this]
      exact hu3.move (fun k hk _ => hheap k (fun h => hk.2 (h ▸ hX))) (fun k hk _ => ⟨hk.1, fun h => hk.2 (hot_drop h)⟩)
section
variable {P : Program} {ops : Array Oper} {o : Oper} {n : Nat} {s : Slots} {E : Env} {d : Nat} {x : Operand} {T T' el : TypeId}
theorem Nn1 (hu : P.underlying T = some (.slice el)) (h : (runs ops s o.guard, o.dst, o.op, ev s x) = (some true, some d, .binOp .eql T x (.const (.slice none 0 0)) T', some (.b .nil))) : Stp P ops o n s E (n + 1) (setAt s d (some (vB true))) E [] := by
  simp only [Prod.mk.injEq] at h; exact st0 h.1 h.2.1 (h.2.2.1 ▸ Eff.isNilV (eq := true) h.2.2.2 hu)
theorem Nn2 (hu : P.underlying T = some (.slice el)) (h : (runs ops s o.guard, o.dst, o.op, ev s x) = (some true, some d, .binOp .neq T x (.const (.slice none 0 0)) T', some (.b .nil))) : Stp P ops o n s E (n + 1) (setAt s d (some (vB false))) E [] := by
  simp only [Prod.mk.injEq] at h; exact st0 h.1 h.2.1 (h.2.2.1 ▸ Eff.isNilV (eq := false) h.2.2.2 hu)
theorem Tb {i m : Nat} {L : List Int} {by' : Nat} (K : SlT P T el (numB .u8 0) by') (hel : P.underlying el = some (.int .u8)) (h : (runs ops s o.guard, o.dst, o.op, ev s x, E i) = (some true, some d, .convert T T x, some (.own i m), some (rowK .u8 L))) (h0 : L ≠ [] := by simp) (hl : L.length = m := by first | omega | (simp; done) | (simp; omega)) :
    Stp P ops o n s E (n + 1) (setAt s d (some (.b (slK .u8 L)))) (setAt E i none) [i] := by
  simp only [Prod.mk.injEq] at h; exact st1 h.1 h.2.1 (h.2.2.1 ▸ Eff.convBytes h.2.2.2.1 h.2.2.2.2 hl h0 K.u hel)
end
end Go.VL
