/- A small program logic over the translated Go code, plain laws, and walks over the functions: several texts in one. No condition. -/
import Derived.KernelRfl
import Derived.ProofKit
import Derived.RangeFuncLeaves
import Derived.RangeFuncOwn
import Derived.Scope
import Derived.Test.YtlhdjfjebhffjaaProg
import Derived.Test.YtlhdjfjebhffjaaRows
import Init
import Derived.Test.YtlhdjfjebhffjaaK0
/- A small program logic over the translated Go code, further part: pointers and nil, windows on rows, slices without room. -/
set_option linter.unusedVariables false
set_option linter.unusedSimpArgs false
namespace Go.VL
open Go.RowKit

section
variable {P : Program} {w0 W W1 : World} {P0 F : Nat → Prop} {E0 E E1 : Env} {pl0 pl pl1 : Plan} {N : Frm} {id : Nat} {s : Slots} {a : Act} {o : Oper} {K : Act → World → Prop} {Qx : Exit → Act → World → Prop}

theorem eff_nilCheck {p : Operand} {i off : Nat} (h : ev s p = some (.ptr i off)) (ho : o.op = .nilCheck p) (S : Sim w0 P0 E0 pl0 N E pl s a W) (hf : pl id = none) (hK : Next w0 P0 E0 pl0 pl N id s a o K E (.ptr i off)) : Oper.wp P o a W K Qx := by
  obtain ⟨g, c, hp, hv⟩ := S.ev h
  refine wp_val (v := .ptr i off) (u := .pointer (some ⟨g, off, none⟩)) S hf ?_ ⟨g, c, hp, rfl⟩ hK
  simp [execOp, ho, hv]

theorem eff_ptrNil {op : BinOp} {T T' te : TypeId} {x y : Operand} {i off : Nat} {t : Bool} (h : ev s x = some (.ptr i off)) (hy : y = .const (.pointer none)) (hu : P.underlying T = some (.pointer te)) (ht : op = .eql ∧ t = false ∨ op = .neq ∧ t = true)
    (ho : o.op = .binOp op T x y T') (S : Sim w0 P0 E0 pl0 N E pl s a W) (hf : pl id = none) (hK : Next w0 P0 E0 pl0 pl N id s a o K E (.b (.lit (.bool t)))) : Oper.wp P o a W K Qx := by
  obtain ⟨g, c, hp, hv⟩ := S.ev h
  have hpt : P.underlying T = some (.pointer (P.pointee T)) := by unfold Program.pointee; rw [hu]
  subst hy
  have hc : a.eval (.const (.pointer none)) = .pointer none := rfl
  rcases ht with ⟨rfl, rfl⟩ | ⟨rfl, rfl⟩
  · refine wp_val (v := .b (.lit (.bool false))) (u := .bool false) S hf ?_ (RepB.lit _ rfl) hK
    have hg : (eqGuard .eql T x (.const (.pointer none)) (.pointer (some ⟨g, off, none⟩)) (.pointer none)).run P W = .ok () W := by simp [eqGuard]
    have hb := run_eql_pointer_nil (P := P) W T (some ⟨g, off, none⟩) hpt
    simp [execOp, ho, hv, hc, hg, hb]
  · refine wp_val (v := .b (.lit (.bool true))) (u := .bool true) S hf ?_ (RepB.lit _ rfl) hK
    have hg : (eqGuard .neq T x (.const (.pointer none)) (.pointer (some ⟨g, off, none⟩)) (.pointer none)).run P W = .ok () W := by simp [eqGuard]
    have hb := run_neq_pointer_nil (P := P) W T (some ⟨g, off, none⟩) hpt
    simp [execOp, ho, hv, hc, hg, hb]

theorem eff_nilNil {op : BinOp} {T T' te : TypeId} {x y : Operand} {t : Bool} (h : ev s x = some (.b (.lit (.pointer none)))) (hy : y = .const (.pointer none)) (hu : P.underlying T = some (.pointer te)) (ht : op = .eql ∧ t = true ∨ op = .neq ∧ t = false)
    (ho : o.op = .binOp op T x y T') (S : Sim w0 P0 E0 pl0 N E pl s a W) (hf : pl id = none) (hK : Next w0 P0 E0 pl0 pl N id s a o K E (.b (.lit (.bool t)))) : Oper.wp P o a W K Qx := by
  have hv := rep_lit (S.ev h)
  have hpt : P.underlying T = some (.pointer (P.pointee T)) := by unfold Program.pointee; rw [hu]
  subst hy
  have hc : a.eval (.const (.pointer none)) = .pointer none := rfl
  rcases ht with ⟨rfl, rfl⟩ | ⟨rfl, rfl⟩
  · refine wp_val (v := .b (.lit (.bool true))) (u := .bool true) S hf ?_ (RepB.lit _ rfl) hK
    have hg : (eqGuard .eql T x (.const (.pointer none)) (.pointer none) (.pointer none)).run P W = .ok () W := by simp [eqGuard]
    have hb := run_eql_pointer_nil (P := P) W T none hpt
    simp [execOp, ho, hv, hc, hg, hb]
  · refine wp_val (v := .b (.lit (.bool false))) (u := .bool false) S hf ?_ (RepB.lit _ rfl) hK
    have hg : (eqGuard .neq T x (.const (.pointer none)) (.pointer none) (.pointer none)).run P W = .ok () W := by simp [eqGuard]
    have hb := run_neq_pointer_nil (P := P) W T none hpt
    simp [execOp, ho, hv, hc, hg, hb]

theorem eff_indexWin {T el : TypeId} {x ix : Operand} {i off n : Nat} {k : IntKind} {j : Int} (h : ev s x = some (.win i off n)) (hi : ev s ix = some (.b (.lit (.int k j)))) (hu : P.underlying T = some (.slice el))
    (hs : szOf P el = some 1) (h0 : 0 ≤ j) (h1 : j < n) (ho : o.op = .indexAddr T x ix) (S : Sim w0 P0 E0 pl0 N E pl s a W) (hf : pl id = none) (hK : Next w0 P0 E0 pl0 pl N id s a o K E (.ptr i (off + j.toNat))) : Oper.wp P o a W K Qx := by
  obtain ⟨g, c, hp, hn, e1⟩ := S.ev h
  have e2 := rep_lit (S.ev hi)
  refine wp_val (v := .ptr i (off + j.toNat)) (u := .pointer (some ⟨g, off + j.toNat, none⟩)) S hf ?_ ⟨g, c, hp, rfl⟩ hK
  simp [execOp, ho, e1, e2, Instr.indexAt, asIntOf, run_underlying hu, h0, h1, run_sizeOf hs, add_plain]

theorem eff_slWin {T el : TypeId} {x lo hi mx : Operand} {i n : Nat} {k k' k'' : IntKind} {p q : Int} (h : ev s x = some (.own i n)) (hlo : ev s lo = some (.b (.lit (.int k p)))) (hhi : ev s hi = some (.b (.lit (.int k' q)))) (hmx : ev s mx = some (.b (.lit (.int k'' q))))
    (hu : P.underlying T = some (.slice el)) (hs : szOf P el = some 1) (h0 : 0 ≤ p) (h1 : p < q) (h2 : q ≤ n) (h3 : q - p ≤ (maxLen : Nat)) (ho : o.op = .slice T x (some lo) (some hi) (some mx))
    (S : Sim w0 P0 E0 pl0 N E pl s a W) (hf : pl id = none) (hK : Next w0 P0 E0 pl0 pl N id s a o K E (.win i p.toNat (q - p).toNat)) : Oper.wp P o a W K Qx := by
  obtain ⟨g, c, hp, hnc, hv⟩ := S.ev h
  have e1 := rep_lit (S.ev hlo)
  have e2 := rep_lit (S.ev hhi)
  have e3 := rep_lit (S.ev hmx)
  have hel := elem_of hu
  have ht : P.underlying T = some (.slice (P.elem T)) := by rw [hel]; exact hu
  have hsz : (sizeOf (P.elem T)).run P W = .ok 1 W := by rw [hel]; exact run_sizeOf hs W
  have hrun := run_slice_lhm (P := P) W T (some ⟨g, 0, none⟩) n c ht k k' k'' p q q h0 (by omega) (by omega) (by omega)
  have hsl : sliced (some (⟨g, 0, none⟩ : Addr)) p.toNat q.toNat q.toNat 1 = .slice (some ⟨g, p.toNat, none⟩) (q - p).toNat (q - p).toNat := by
    have h9 : q.toNat - p.toNat = (q - p).toNat := by omega
    have h8 : ¬ q.toNat = p.toNat := by omega
    simp only [sliced, if_neg h8, Option.map_some, add_plain, h9, Nat.mul_one, Nat.zero_add]
  refine wp_val (v := .win i p.toNat (q - p).toNat) (u := .slice (some ⟨g, p.toNat, none⟩) (q - p).toNat (q - p).toNat) S hf ?_ ⟨g, c, hp, by omega, rfl⟩ hK
  rw [← hsl]
  simp [execOp, ho, hv, e1, e2, e3, run_sliceAt_slice W T _ _ _ _ ht, hrun, hsz]

theorem eff_cutSl {T el : TypeId} {x hi mx : Operand} {sz : Nat} {l : List B} {k k' : IntKind} {q : Int} (h : ev s x = some (.b (.sl sz l))) (hhi : ev s hi = some (.b (.lit (.int k q)))) (hmx : ev s mx = some (.b (.lit (.int k' q))))
    (hu : P.underlying T = some (.slice el)) (hs : szOf P el = some sz) (h0 : 0 ≤ q) (h2 : q.toNat * sz ≤ l.length) (ho : o.op = .slice T x none (some hi) (some mx))
    (S : Sim w0 P0 E0 pl0 N E pl s a W) (hf : pl id = none) (hK : Next w0 P0 E0 pl0 pl N id s a o K E (.cut sz (l.take (q.toNat * sz)))) : Oper.wp P o a W K Qx := by
  have hrep : RepB W (Qf (FF w0 P0) E pl) (.sl sz l) (a.eval x) := S.ev h
  have e2 := rep_lit (S.ev hhi)
  have e3 := rep_lit (S.ev hmx)
  have hel := elem_of hu
  have ht : P.underlying T = some (.slice (P.elem T)) := by rw [hel]; exact hu
  have hsz : (sizeOf (P.elem T)).run P W = .ok sz W := by rw [hel]; exact run_sizeOf hs W
  generalize hv : a.eval x = u at hrep
  cases hrep with
  | nilsl _ hs0 =>
    have hq : q = 0 := by
      rcases Nat.mul_eq_zero.1 (Nat.le_zero.1 h2) with h | h <;> omega
    subst hq
    have hrun := run_slice_hm (P := P) W T none 0 0 ht k k' 0 0 (by omega) (by omega) (by omega)
    refine wp_val (v := .cut sz (([] : List B).take ((0 : Int).toNat * sz))) (u := .slice none 0 0) S hf ?_ ⟨by simpa using RepB.nilsl sz hs0, none, 0, 0, rfl, .inl rfl⟩ hK
    simp [execOp, ho, hv, e2, e3, run_sliceAt_slice W T _ _ _ _ ht, hrun, hsz, sliced]
  | sl A n c _ _ f hl hc hm hs0 hqq hcell hone hrr =>
    have hqn : q.toNat ≤ n := by
      rw [hl] at h2
      exact Nat.le_of_mul_le_mul_right h2 hs0
    have hrun := run_slice_hm (P := P) W T (some A) n c ht k k' q q h0 (by omega) (by omega)
    have hlen : (l.take (q.toNat * sz)).length = q.toNat * sz := by rw [List.length_take]; omega
    refine wp_val (v := .cut sz (l.take (q.toNat * sz))) (u := .slice (some A) q.toNat q.toNat) S hf ?_ ⟨RepB.sl A q.toNat q.toNat sz _ f hlen (Nat.le_refl _) (by omega) hs0 (fun h => hqq (by omega)) (fun j hj => hcell j (by omega)) (fun j hj => hone j (by omega)) (fun j x hj => ?_), some A, q.toNat, q.toNat, rfl, .inl rfl⟩ hK
    · have ha : A.add 0 = A := by cases A; simp [Addr.add]
      simp [execOp, ho, hv, e2, e3, run_sliceAt_slice W T _ _ _ _ ht, hrun, hsz, sliced, ha]
    · have hlt := (List.getElem?_eq_some_iff.1 hj).1
      rw [List.getElem?_take_of_lt (by omega)] at hj
      exact hrr j x hj

theorem eff_appendCut {x y : Operand} {T el : TypeId} {sz n : Nat} {l : List B} {j m : Nat} {e2 : Ent} {bytes : Nat} (hx : ev s x = some (.cut sz l)) (hn : l.length = n * sz) (hy : ev s y = some (.own j m)) (he2 : E j = some e2) (hes : e2.sz = sz) (hm2 : m * sz ≤ e2.cells.length) (h0' : 0 < m ∧ (sz = 1 → 1 < m))
    (hu : P.underlying T = some (.slice el)) (hs : szOf P el = some sz) (hb : (P.info? el).map (·.bytes) = some bytes) (hz : (zeroOf P el).map List.length = some sz) (hm : (n + m) * bytes ≤ 140737488355328) (hm' : n + m ≤ maxLen)
    (ho : o.op = .call { callee := .builtin .append, args := #[x, y], argTypes := #[T, T] }) (S : Sim w0 P0 E0 pl0 N E pl s a W) (hf : pl id = none)
    (hK : Next w0 P0 E0 pl0 pl N id s a o K (setAt E id (some ⟨sz, l.map .b ++ e2.cells.take (m * sz), true⟩)) (.own id (n + m))) : Oper.wp P o a W K Qx := by
  subst hes
  have h0 := h0'.1
  obtain ⟨hrep, A0, n0, c0, hxv, hcap⟩ := S.ev hx
  obtain ⟨g2, c2, us, hyv, hul, hcell, hus⟩ := own_cells S hy he2 hm2
  obtain ⟨_, _, _, _, _, _, _, _, _, _, hpos, _⟩ := S.eok.ent j e2 he2
  obtain ⟨ti, hti, hsz⟩ := info_of_sz hs
  have hby : ti.bytes = bytes := by simpa [hti] using hb
  obtain ⟨z, hz, hzl⟩ := Option.map_eq_some_iff.1 hz
  obtain ⟨ti', zv, hti', hz1, hz2⟩ := zeroOf_run hz
  rw [hti] at hti'
  injection hti' with hti'
  subst hti'
  obtain ⟨zr1, zr2⟩ := zeroBs_rep (W := W) (Q := fun _ => True) hz2
  have hzs : zv.cells.size = e2.sz := by
    have : z.length = zv.cells.size := by simpa using zr1
    omega
  have hnm : n * e2.sz + m * e2.sz = (n + m) * e2.sz := by rw [Nat.add_mul]
  -- what stands in front
  obtain ⟨os, hol, hor, hrun⟩ : ∃ (os : List Value) , os.length = n * e2.sz ∧ (∀ (q : Nat) (b : B), l[q]? = some b → ∃ u : Value, os[q]? = some u ∧ u.oneCell' = true ∧ RepB W (Qf (FF w0 P0) E pl) b u) ∧
      ∃ C, n + m ≤ C ∧ C ≤ maxLen ∧ (execOp a.eval o).run P W = .ok (.value (.slice (some ⟨W.heap.size, 0, none⟩) (n + m) C)) (W.drew.alloc (.cells (os.toArray ++ us.toArray ++ Builtin.zeroCells zv.cells (C - (n + m))) el)) := by
    rw [hxv] at hrep
    generalize hq : Value.slice A0 n0 c0 = qv at hrep
    cases hrep with
    | nilsl _ hs0 =>
      have hn0 : n = 0 := by
        rcases Nat.mul_eq_zero.1 (show n * e2.sz = 0 from hn.symm) with h | h
        · exact h
        · omega
      subst hn0
      have hgr := run_append_nil (P := P) W T o.type el ti zv hu hti hz1 ⟨g2, 0, none⟩ m c2 us (by rw [hul, hsz]) hcell h0 (by simp only [maxLen] at hm'; omega) (by rw [hby]; rw [Nat.zero_add] at hm; omega)
      refine ⟨[], by simp, fun q b hb => by simp at hb, grownCap W m 0 el, by have := grownCap_ge W m 0 el; omega, grownCap_le_maxLen W m 0 el (by omega), ?_⟩
      rw [hq] at hxv
      simp only [execOp, ho, resolve, invoke, builtin, Sem.run_bind]
      simp [hxv, hyv, hgr]
    | sl A n1 c _ _ f hl hc hmx hs0 hqq hcl hone hrr =>
      injection hq with hq1 hq2 hq3
      subst hq1; subst hq2; subst hq3
      have hnn : n0 = n := Nat.eq_of_mul_eq_mul_right hs0 (by omega)
      subst hnn
      have hol : ((List.range (n0 * e2.sz)).map f).length = n0 * e2.sz := by simp
      have hc1 : c0 < n0 + m := by rcases hcap with h | ⟨h, h'⟩; omega; have := h0'.2 h; omega
      have hgr := run_append_grow (P := P) W T o.type el ti zv hu hti hz1 A n0 c0 ((List.range (n0 * e2.sz)).map f) (by rw [hsz, hol]) (fun q u hq => by
          have hql := (List.getElem?_eq_some_iff.1 hq).1
          rw [hol] at hql
          simp [hql] at hq
          rw [hcl q (by omega), hq])
        ⟨g2, 0, none⟩ m c2 us (by rw [hul, hsz]) hcell (by omega) (by simp only [maxLen] at hm'; omega) (growslice_fits (by omega) (by rw [hby]; exact hm))
      refine ⟨(List.range (n0 * e2.sz)).map f, hol, fun q b hb => ?_, grownCap W (n0 + m) c0 el, grownCap_ge W (n0 + m) c0 el, grownCap_le_maxLen W (n0 + m) c0 el hm', ?_⟩
      · have hql := (List.getElem?_eq_some_iff.1 hb).1
        exact ⟨f q, by rw [List.getElem?_map, List.getElem?_range (by rw [← hn]; exact hql)]; rfl, hone q hql, hrr q b hb⟩
      · simp only [execOp, ho, resolve, invoke, builtin, Sem.run_bind]
        simp [hxv, hyv, hgr]
  obtain ⟨C, hC1, hC2, hrun⟩ := hrun
  have Sd := drew_sim S
  have hmul : (n + m) * e2.sz ≤ C * e2.sz := Nat.mul_le_mul_right _ hC1
  have hsize : (os.toArray ++ us.toArray ++ Builtin.zeroCells zv.cells (C - (n + m))).size = C * e2.sz := by
    simp only [Array.size_append, List.size_toArray, size_zeroCells, hul, hzs, hol]
    rw [hnm, ← Nat.add_mul]
    congr 1; omega
  have S1 := Sd.new (id := id) hf (os.toArray ++ us.toArray ++ Builtin.zeroCells zv.cells (C - (n + m))) el ⟨e2.sz, l.map .b ++ e2.cells.take (m * e2.sz), true⟩ C
    hsize (by rw [hsize]; simp; omega) hC2 hpos.1 (fun q x hq => by
      simp only at hq
      by_cases hqn : q < n * e2.sz
      · rw [List.getElem?_append_left (by rw [List.length_map]; omega), List.getElem?_map, Option.map_eq_some_iff] at hq
        obtain ⟨b, hb, rfl⟩ := hq
        obtain ⟨u, hu, hu1, hur⟩ := hor q b hb
        refine ⟨u, ?_, hu1, RepL.move (x := .b b) hur (fun _ _ _ => rfl) (fun _ h _ => h) (fun _ _ h => h)⟩
        rw [Array.append_assoc, Array.getElem?_append_left (by rw [List.size_toArray, hol]; exact hqn), List.getElem?_toArray]
        exact hu
      · rw [List.getElem?_append_right (by rw [List.length_map]; omega), List.length_map, hn] at hq
        obtain ⟨u, hu1, hu2, hu3⟩ := hus (q - n * e2.sz) x hq
        have hql := (List.getElem?_eq_some_iff.1 hu1).1
        refine ⟨u, ?_, hu2, hu3.move (fun _ _ _ => rfl) (fun _ h _ => h) (fun _ _ h => h)⟩
        rw [Array.getElem?_append_left (by simp only [Array.size_append, List.size_toArray, hol, hul]; omega), Array.getElem?_append_right (by rw [List.size_toArray, hol]; omega), List.size_toArray, hol, List.getElem?_toArray]
        exact hu1)
  unfold Oper.wp
  rw [hrun]
  exact hK _ _ _ S1 (fun k hk h => by rw [setAt_ne _ _ hk]; exact h) ⟨W.heap.size, _, by simp, hC1, rfl⟩

theorem eff_copyWin {x y : Operand} {T T' el : TypeId} {i off n : Nat} {e : Ent} {v : V} {l : List B} (hx : ev s x = some (.win i off n)) (he : E i = some e) (hh : e.hot = true) (h1 : e.sz = 1) (hn : off + n ≤ e.cells.length) (hy : ev s y = some v) (hr : res E v = some (.sl 1 l))
    (hu : P.underlying T = some (.slice el)) (hs : szOf P el = some 1) (ho : o.op = .call { callee := .builtin .copy, args := #[x, y], argTypes := #[T, T'] }) (S : Sim w0 P0 E0 pl0 N E pl s a W) (hf : pl id = none)
    (hlit : l.all B.isLit = true)
    (hK : Next w0 P0 E0 pl0 pl N id s a o K (setAt E i (some { e with cells := e.cells.take off ++ ((l.take (Nat.min l.length n)).map .b ++ e.cells.drop (off + Nat.min l.length n)) })) (.b (.lit (.int .i64 (Nat.min l.length n))))) : Oper.wp P o a W K Qx := by
  have hv : ∀ (j : Nat) (x : B), l[j]? = some x → ∀ u, RepB W (FF w0 P0) x u → RepB W (Qf (FF w0 P0) E pl) x u := fun j x hj u hu => by
    have := List.all_eq_true.1 hlit x (List.mem_of_getElem? hj)
    cases x with
    | lit v => cases hu with | lit _ h => exact .lit _ h
    | nil => cases this
    | sl a b => cases this
    | agg b => cases this
    | tup b => cases this
  obtain ⟨g, c, hp, hnc, hxv⟩ := S.ev hx
  have hco : off + n ≤ off + n := Nat.le_refl _
  have hrep := rep_src S hy hr
  have hs' : (P.info? el).map (·.size) = some 1 := hs
  obtain ⟨g', c', cur, T0, q1, q2, q3, q4, q5, q6, q7, q8⟩ := S.eok.ent i e he
  rw [hp] at q1
  injection q1 with q1
  injection q1 with q1 q1'
  subst q1; subst q1'
  have hmin : Nat.min l.length n ≤ n := Nat.min_le_right _ _
  have hmin' : Nat.min l.length n ≤ l.length := Nat.min_le_left _ _
  -- the source
  obtain ⟨sp, sLen, sCap, hyv, hsl, hcells⟩ : ∃ sp sLen sCap, a.eval y = .slice sp sLen sCap ∧ sLen = l.length ∧ ∃ f : Nat → Value, (0 < l.length → ∃ A, sp = some A ∧ ∀ j, j < l.length → W.cell? (A.add j) = some (f j)) ∧ (∀ j, j < l.length → (f j).oneCell' = true) ∧ ∀ j x, l[j]? = some x → RepB W (FF w0 P0) x (f j) := by
    generalize a.eval y = q at hrep
    cases hrep with
    | nilsl _ hs0 => exact ⟨none, 0, 0, rfl, rfl, fun _ => undef, fun h => by simp at h, fun j hj => by simp at hj, fun j x hj => by simp at hj⟩
    | sl A m c _ _ f hl hc hm hs0 hqq hcell hone hrr => exact ⟨some A, m, c, rfl, by omega, f, fun _ => ⟨A, rfl, hcell⟩, hone, hrr⟩
  obtain ⟨f, hA, hone, hrr⟩ := hcells
  have hval : Rep W (Qf (FF w0 P0) E pl) pl (.b (.lit (.int .i64 (Nat.min l.length n)))) (goInt (Nat.min l.length n)) := RepB.lit _ rfl
  by_cases h0 : Nat.min l.length n = 0
  · have hrun := run_copy_none (P := P) W T T' o.type el (some ⟨g, off, none⟩) sp n n sLen sCap hu hs' (by rw [hsl]; exact h0)
    have hE : setAt E i (some { e with cells := e.cells.take off ++ ((l.take (Nat.min l.length n)).map .b ++ e.cells.drop (off + Nat.min l.length n)) }) = E := by
      rw [h0]
      funext j
      by_cases hj : j = i
      · subst hj; rw [setAt_self, he]; simp
      · rw [setAt_ne _ _ hj]
    rw [hE] at hK
    rw [h0] at hK
    refine wp_val (v := .b (.lit (.int .i64 (0 : Nat)))) (u := goInt 0) S hf ?_ (RepB.lit _ rfl) hK
    simp [execOp, ho, resolve, invoke, builtin, hxv, hyv, hrun]
  · obtain ⟨A, rfl, hcell⟩ := hA (by omega)
    have hc0 : 0 < c := by
      cases c with
      | zero => rw [Nat.zero_mul] at q4; omega
      | succ c => omega
    have q2 := q2 hc0
    have hcsl : ((List.range (Nat.min l.length n)).map f).length = Nat.min l.length n := by simp
    have hrun := run_copy_row (P := P) W T T' o.type el g off n n A sLen sCap cur T0 ((List.range (Nat.min l.length n)).map f) hu hs' q2 (by rw [hcsl, hsl]) (fun j u hj => by
        have hjl := (List.getElem?_eq_some_iff.1 hj).1
        rw [hcsl] at hjl
        simp [hjl] at hj
        rw [hcell j (by omega), hj]) (by rw [hcsl]; omega) (fun u hu => by
        obtain ⟨j, hj⟩ := List.mem_iff_getElem?.1 hu
        have hjl := (List.getElem?_eq_some_iff.1 hj).1
        rw [hcsl] at hjl
        simp [hjl] at hj
        rw [← hj]; exact hone j (by omega))
    rw [hcsl] at hrun
    unfold Oper.wp
    have hex : (execOp a.eval o).run P W = .ok (.value (goInt (Nat.min l.length n))) (W.setRow g (cur.toList.take off ++ (List.range (Nat.min l.length n)).map f ++ cur.toList.drop (off + Nat.min l.length n)).toArray) := by
      simp [execOp, ho, resolve, invoke, builtin, hxv, hyv, hrun]
    rw [hex]
    have hcl : e.cells.length ≤ cur.size := q5
    have hcs : cur.toList.length = cur.size := by simp
    have hct : (cur.toList.take off).length = off := by simp; rw [q4, h1] at *; omega
    have het : (e.cells.take off).length = off := by simp; omega
    have hmid : ((l.take (Nat.min l.length n)).map V.b).length = Nat.min l.length n := by rw [List.length_map, List.length_take]; exact Nat.min_eq_left hmin'
    have S1 := S.upd (W1 := W.setRow g (cur.toList.take off ++ (List.range (Nat.min l.length n)).map f ++ cur.toList.drop (off + Nat.min l.length n)).toArray) he hh hp hc0 rfl rfl rfl (by simp [World.setRow]) (fun k hk => setRow_other W g k _ hk)
      (cur.toList.take off ++ (List.range (Nat.min l.length n)).map f ++ cur.toList.drop (off + Nat.min l.length n)).toArray T0 (setRow_heap W g cur _ T0 (0, 0) q2) q7.2 (e.cells.take off ++ ((l.take (Nat.min l.length n)).map .b ++ e.cells.drop (off + Nat.min l.length n)))
      (by rw [List.size_toArray, List.length_append, List.length_append, hct, hcsl, List.length_drop, hcs]; rw [← q4]; omega) (by simp only [List.size_toArray, List.length_append, hct, hcsl, List.length_drop, hcs, het, hmid]; omega) (fun j x hj => by
        by_cases hj0 : j < off
        · rw [List.getElem?_append_left (by rw [het]; exact hj0), List.getElem?_take_of_lt hj0] at hj
          obtain ⟨u, hu, hu1, hur⟩ := q8 j x hj
          refine ⟨u, ?_, hu1, hur⟩
          rw [List.getElem?_toArray, List.append_assoc, List.getElem?_append_left (by rw [hct]; exact hj0), List.getElem?_take_of_lt hj0, Array.getElem?_toList]
          exact hu
        · rw [List.getElem?_append_right (by rw [het]; omega), het] at hj
          by_cases hjm : j - off < Nat.min l.length n
          · rw [List.getElem?_append_left (by rw [hmid]; exact hjm)] at hj
            simp only [List.getElem?_map, List.getElem?_take_of_lt hjm, Option.map_eq_some_iff] at hj
            obtain ⟨z, hz, rfl⟩ := hj
            refine ⟨f (j - off), ?_, hone (j - off) (by omega), hv (j - off) z hz _ (hrr (j - off) z hz)⟩
            rw [List.getElem?_toArray, List.append_assoc, List.getElem?_append_right (by rw [hct]; omega), hct, List.getElem?_append_left (by rw [hcsl]; exact hjm), List.getElem?_map, List.getElem?_range hjm]; rfl
          · rw [List.getElem?_append_right (by rw [hmid]; omega), hmid, List.getElem?_drop] at hj
            have hjj : off + Nat.min l.length n + (j - off - Nat.min l.length n) = j := by omega
            rw [hjj] at hj
            obtain ⟨u, hu, hu1, hur⟩ := q8 j x hj
            refine ⟨u, ?_, hu1, hur⟩
            rw [List.getElem?_toArray, List.append_assoc, List.getElem?_append_right (by rw [hct]; omega), hct, List.getElem?_append_right (by rw [hcsl]; omega), hcsl, List.getElem?_drop, hjj, Array.getElem?_toList]
            exact hu)
    exact hK _ pl _ S1 (fun i _ h => h) (RepB.lit _ rfl)
end
end Go.VL

/- A small program logic over the translated Go code, thirteenth part: every operation at once; lists of operations. -/
set_option linter.unusedVariables false
set_option linter.unusedSimpArgs false
namespace Go.VL
open Go.RowKit

section
variable {P : Program} {w0 W W1 : World} {P0 F : Nat → Prop} {E0 E E1 : Env} {pl0 pl pl1 : Plan} {N : Frm} {id : Nat} {s : Slots} {a : Act} {o : Oper} {K : Act → World → Prop} {Qx : Exit → Act → World → Prop}

/-- What an operation does to abstract values it does in the machine. -/
theorem Eff.sound {v : Option V} {us : List (Nat × Option Ent)} (h : Eff P id s E o.op v us) (S : Sim w0 P0 E0 pl0 N E pl s a W) (hf : pl id = none)
    (hK : Next w0 P0 E0 pl0 pl N id s a o K (upds E us) (v.getD undefV)) : Oper.wp P o a W K Qx := by
  generalize hop : o.op = op at h
  cases h with
  | sem _ _ _ h => exact h s E (fun _ _ => rfl) (fun _ _ => rfl) _ _ _ _ _ _ _ _ _ _ _ hop S hf hK
  | makeFunc f caps vs h hl => exact eff_makeFunc h hl hop S hf hK
  | strTo T x hi str k b h hl hu h0 h1 => exact eff_strTo h hl hu h0 h1 hop S hf hK
  | callN f args ts xs r h hv => exact eff_callN h hv hop S hf hK
  | appendNilB x y T el v l bytes hx hy hr hu hs hb hz hm hm' hlit => exact eff_appendNilB hx hy hr hu hs hb hz hm hm' hlit hop S hf hK
  | appendOO x y T el i n e j m e2 bytes hx he hh hn hy he2 hsz hm2 hij h0 hu hs hb hz hm hm' => exact eff_appendOO hx he hh hn hy he2 hsz hm2 hij h0 hu hs hb hz hm hm' hop S hf hK
  | appendNO x y T el j m e2 bytes hx hy he2 hm2 h0 hu hs hb hz hm hm' => exact eff_appendNO hx hy he2 hm2 h0 hu hs hb hz hm hm' hop S hf hK
  | callG fop args ts f caps vs xs L0 r L1 ρ nv us hc ha hx hl hv hsz hus hlk hnv => exact eff_callG hc ha hx hl hv hsz hus hop S hf hK
  | extractV x l j y h hy => exact eff_extractV h hy hop S hf hK
  | move x v h => exact eff_move h (.inl hop) S hf hK
  | assign x v h => exact eff_move h (.inr hop) S hf hK
  | pick c x y t v hc h => exact eff_pick hc h hop S hf hK
  | allocN T l hz hl => exact eff_allocN hz hl hop S hf hK
  | makeN T x n el z bytes k h hu hz hs hb hl h0 h1 h2 => exact eff_makeN h hu hz hs hb hl h0 h1 h2 hop S hf hK
  | buildN T parts vs z cs h hz hu hc => exact eff_buildN h hz hu hc hop S hf hK
  | alloc T l hz hl => exact eff_alloc hz hl hop S hf hK
  | box T x v h hl ht => exact eff_box h hl (noTup_ne ht) hop S hf hK
  | loadS T p i off e n h he ha hn hl => exact eff_loadS h he ha hn hl hop S hf hK
  | load1 T p i off e x h he ha hx => exact eff_load1 h he ha hx hop S hf hK
  | loadRdS T p l n h ha hn hl => exact eff_loadRdS h ha hn hl hop S hf hK
  | loadRd1 T p l x h ha hx => exact eff_loadRd1 h ha hx hop S hf hK
  | store T p x i off e v h he hh hv hn hl ht => exact eff_store h he hh hv hn hl (noTup_ne ht) hop S hf hK
  | storeNil T p i off e h he hh hn hl => exact eff_storeNil h he hh hn hl hop S hf hK
  | store1 T p x i off e v h he hh hv hc hn hl ht => exact eff_store1 h he hh hv hc hn hl (noTup_ne ht) hop S hf hK
  | bin op T x y T' p q r ha hb hr => exact eff_bin ha hb hr hop S hf hK
  | binB op T x y T' p q r ha hb hu hr => exact eff_binB ha hb hu hr hop S hf hK
  | isNil T x y T' v e t ha hy hu ht => exact eff_isNil ha hy hu ht hop S hf hK
  | notNil T x y T' v e t ha hy hu ht => exact eff_notNil ha hy hu ht hop S hf hK
  | un op T x p r ha hr => exact eff_un ha hr hop S hf hK
  | convI T T' x k n u k' ha hu hu' => exact eff_convI ha hu hu' hop S hf hK
  | fieldAddr T p k i off fo n b h hfd => exact eff_fieldAddr h hfd hop S hf hK
  | fieldRd T p k l fo n b h hfd hl => exact eff_fieldRd h hfd hl hop S hf hK
  | field1 T x k v fo y h ha hfd hy ht => exact eff_field1 h ha hfd hy (noTup_ne ht) hop S hf hK
  | index T x ix str k j h hi hu h0 h1 => exact eff_index h hi hu h0 h1 hop S hf hK
  | indexWin T x ix i off n k j el h hi hu hs h0 h1 => exact eff_indexWin h hi hu hs h0 h1 hop S hf hK
  | indexOwn T x ix i n sz k j el h hi hu hs h0 h1 => exact eff_indexOwn h hi hu hs h0 h1 hop S hf hK
  | indexSl T x ix sz l k j el h hi hu hs h0 h1 => exact eff_indexSl h hi hu hs h0 h1 hop S hf hK
  | make T x n el z bytes k h hu hz hs hb hl h0 h1 h2 => exact eff_make h hu hz hs hb hl h0 h1 h2 hop S hf hK
  | buildS T len parts el vs sz z cs h hu hz hs h0 hm hsz hc => exact eff_buildS h hu hz hs h0 hm hsz hc hop S hf hK
  | slSl T x lo hi sz l el k k' p q h hu hs hlo hhi h0 h1 h2 => exact eff_slSl h hu hs hlo hhi h0 h1 h2 hop S hf hK
  | extract x l j y h hy => exact eff_extract h hy hop S hf hK
  | len x T v n el h hu hn => exact eff_len h hu hn hop S hf hK
  | lenStr x T str h hu => exact eff_lenStr h hu hop S hf hK
  | callF f args ts vs xs r h hx hv hr => exact eff_callF h hx hv hr hop S hf hK
  | callV f args ts vs xs r h hx hv => exact eff_callV h hx hv hop S hf hK
  | callM f x rest args ts i n e L vs xs r L' ha hx he hh h1 hL hn hlit hlit' h hr hni hv => exact eff_callM ha hx he hh h1 hL hn hlit hlit' h hr hni hv hop S hf hK
  | build T parts vs z cs h hz hu hc => exact eff_build h hz hu hc hop S hf hK
  | strFrom T x lo str k p h hl hu h0 h1 => exact eff_strFrom h hl hu h0 h1 hop S hf hK
  | toStr T T' x el v l h hr hu he hu' => exact eff_toStr h hr hu he hu' hop S hf hK
  | max x y ts k p q hx hy => exact eff_max hx hy hop S hf hK
  | min x y ts k p q hx hy => exact eff_min hx hy hop S hf hK
  | copy x y T T' el i n e v l hx he hh h1 hn hy hr hu hs hlit => exact eff_copy hx he hh h1 hn hy hr hu hs hop S hf hlit hK
  | assignNil => exact eff_assignNil hop S hf hK
  | appendNil x y T el v l bytes hx hy hr h0 hu hs hb hz hm hm' hlit => exact eff_appendNil hx hy hr h0 hu hs hb hz hm hm' hlit hop S hf hK
  | append x y T el i n e v l bytes hx he hh h1 hn hy hr hne hu hs hb hz hm hm' hlit => exact eff_append hx he hh h1 hn hy hr hu hs hb hz hm hm' hlit hop S hf hK
  | nilCheck p i off h => exact eff_nilCheck h hop S hf hK
  | ptrNil op T x y T' i off te t ha hy hu ht => exact eff_ptrNil ha hy hu ht hop S hf hK
  | nilNil op T x y T' te t ha hy hu ht => exact eff_nilNil ha hy hu ht hop S hf hK
  | slWin T x lo hi mx i n el k k' k'' p q h hlo hhi hmx hu hs h0 h1 h2 h3 => exact eff_slWin h hlo hhi hmx hu hs h0 h1 h2 h3 hop S hf hK
  | cutSl T x hi mx sz l el k k' q h hhi hmx hu hs h0 h2 => exact eff_cutSl h hhi hmx hu hs h0 h2 hop S hf hK
  | appendCut x y T el sz n l j m e2 bytes hx hn hy he2 hsz hm2 h0 hu hs hb hz hm hm' => exact eff_appendCut hx hn hy he2 hsz hm2 h0 hu hs hb hz hm hm' hop S hf hK
  | copyWin x y T T' el i off n e v l hx he hh h1 hn hy hr hu hs hlit => exact eff_copyWin hx he hh h1 hn hy hr hu hs hop S hf hlit hK

theorem Does.sound {v : Option V} {us : List (Nat × Option Ent)} {lk : List Nat} (h : Does P id s E o.op v us lk) (S : Sim w0 P0 E0 pl0 N E pl s a W) (hf : pl id = none)
    (hK : Next w0 P0 E0 pl0 pl N id s a o K (upds E us) (v.getD undefV)) : Oper.wp P o a W K Qx := by
  rcases h with ⟨h, _⟩ | ⟨w, rfl, h⟩
  · exact h.sound S hf hK
  · generalize hop : o.op = op at h
    cases h with
    | mk fop args ts f caps vs xs L0 r L1 ρ nv us hc ha hx hl hv hsz hus => exact eff_callL hc ha hx hl hv hsz hus hop S hf hK

theorem undef_rep {W : World} {Q : Nat → Prop} {pl : Plan} : Rep W Q pl undefV undef := RepB.tup [] #[] (fun _ => undef) rfl (fun j hj => by simp at hj) (fun j x hj => by simp at hj)

/-- The slot of an operation is filled. -/
theorem Sim.putv (S : Sim w0 P0 E0 pl0 N E pl s a W) (hd : ∀ d, o.dst = some d → N.ok d) {v : V} {u : Value} (hr : Rep W (Qf (FF w0 P0) E pl) pl v u) : Sim w0 P0 E0 pl0 N E pl (Go.VL.putv s o.dst (some v)) (a.put o.dst u) W := by
  cases hq : o.dst with
  | none => exact S
  | some d => exact S.put d (hd d hq) hr

/-- Whether an operation is carried out. -/
theorem runs_wanted {ops : Array Oper} (S : Sim w0 P0 E0 pl0 N E pl s a W) {t : Bool} (h : runs ops s o.guard = some t) : Region.wanted o (yielded ops a.tmps) = t := by
  unfold runs at h
  unfold Region.wanted
  split at h
  · rename_i hg
    injection h with h; subst h
    simp [hg]
  · rename_i g want hg
    split at h
    · rename_i d hd
      split at h
      · rename_i tt hs
        injection h with h; subst h
        obtain ⟨u, hu, hr⟩ := S.slots d _ hs
        have := rep_lit hr
        subst this
        simp [hg, yielded, hd, hu]
      · rename_i hs
        injection h with h; subst h
        obtain ⟨u, hu, hr⟩ := S.slots d _ hs
        have hr' : RepB W (Qf (FF w0 P0) E pl) (.tup []) u := hr
        cases hr' with
        | tup _ b f hl hb hc =>
          simp [hg, yielded, hd, hu]
      · cases h
    · cases h
end
end Go.VL

/- A small program logic over the translated Go code, fourteenth part: an operation looks at little; regions whose order is left open. -/
set_option linter.unusedVariables false
set_option linter.unusedSimpArgs false
namespace Go.VL
open Go.RowKit

theorem ids_names {v : V} {i : Nat} (h : i ∈ v.names) : i ∈ v.ids := by
  cases v <;> simp_all [V.ids, V.names]

section
variable {P : Program} {id : Nat} {s s' : Slots} {E E' : Env}

theorem evs_congr : ∀ {xs : List Operand}, (∀ x ∈ xs, ev s x = ev s' x) → evs s xs = evs s' xs
  | [], _ => rfl
  | x :: r, h => by
    unfold evs
    rw [h x (by simp), evs_congr (xs := r) (fun y hy => h y (by simp [hy]))]

theorem resL_congr {v : V} (h : ∀ i ∈ v.names, E i = E' i) : resL E v = resL E' v := by
  cases v with
  | own i n => simp only [resL]; rw [h i (by simp [V.names])]
  | win i off n => simp only [resL]; rw [h i (by simp [V.names])]
  | row i n c => simp only [resL]; rw [h i (by simp [V.names])]
  | cut sz l => rfl
  | b x => rfl
  | ptr i off => rfl
  | rd l => rfl
  | agg l => rfl
  | fn f l => rfl
  | tup l => rfl
theorem resLs_congr : ∀ {l : List V}, (∀ v ∈ l, ∀ i ∈ v.names, E i = E' i) → resLs E l = resLs E' l
  | [], _ => rfl
  | v :: r, h => by
    unfold resLs
    rw [resL_congr (h v (by simp)), resLs_congr (l := r) (fun y hy => h y (by simp [hy]))]
theorem res_congr {v : V} (h : ∀ i ∈ v.names, E i = E' i) : res E v = res E' v := by
  cases v with
  | agg l =>
    by_cases hall : ∀ v ∈ l, ∀ i ∈ v.names, E i = E' i
    · simp only [res]; rw [resLs_congr hall]
    · -- a part that is a struct of parts has no contents in any case
      have hnone : ∀ (E : Env) (l : List V), (∃ v ∈ l, ∃ i, i ∈ v.names ∧ (∀ j n, v ≠ .own j n) ∧ (∀ j o n, v ≠ .win j o n) ∧ ∀ j n c, v ≠ .row j n c) → resLs E l = none := by
        intro E l
        induction l with
        | nil => rintro ⟨v, hv, _⟩; cases hv
        | cons x r ih =>
          rintro ⟨v, hv, i, hi, hno⟩
          unfold resLs
          rcases List.mem_cons.1 hv with rfl | hv
          · cases v with
            | own j n => exact absurd rfl (hno.1 j n)
            | win j o n => exact absurd rfl (hno.2.1 j o n)
            | row j n c => exact absurd rfl (hno.2.2 j n c)
            | cut _ _ => simp [V.names] at hi
            | agg l' => simp [resL]
            | b x => simp [V.names] at hi
            | ptr _ _ => simp [V.names] at hi
            | rd _ => simp [V.names] at hi
            | fn _ _ => simp [V.names] at hi
            | tup _ => simp [V.names] at hi
          · rw [ih ⟨v, hv, i, hi, hno⟩]
            split <;> simp_all
      have hex : ∃ v ∈ l, ∃ i, i ∈ v.names ∧ (∀ j n, v ≠ .own j n) ∧ (∀ j o n, v ≠ .win j o n) ∧ ∀ j n c, v ≠ .row j n c := by
        apply Classical.byContradiction
        intro hc
        apply hall
        intro v hv i hi
        cases v with
        | own j n =>
          simp only [V.names, List.mem_singleton] at hi
          subst hi
          exact h i (by simp only [V.names, List.mem_flatMap]; exact ⟨_, hv, by simp⟩)
        | win j o n =>
          simp only [V.names, List.mem_singleton] at hi
          subst hi
          exact h i (by simp only [V.names, List.mem_flatMap]; exact ⟨_, hv, by simp⟩)
        | row j n c =>
          simp only [V.names, List.mem_singleton] at hi
          subst hi
          exact h i (by simp only [V.names, List.mem_flatMap]; exact ⟨_, hv, by simp⟩)
        | cut _ _ => simp [V.names] at hi
        | agg l' => exact absurd ⟨_, hv, i, hi, (fun j n h => by cases h), (fun j o n h => by cases h), (fun j n c h => by cases h)⟩ hc
        | b x => simp [V.names] at hi
        | ptr _ _ => simp [V.names] at hi
        | rd _ => simp [V.names] at hi
        | fn _ _ => simp [V.names] at hi
        | tup _ => simp [V.names] at hi
      simp only [res]
      rw [hnone E l hex, hnone E' l hex]
  | own i n => exact resL_congr h
  | win i off n => exact resL_congr h
  | row i n c => exact resL_congr h
  | cut sz l => rfl
  | b x => rfl
  | ptr i off => rfl
  | rd l => rfl
  | fn f l => rfl
  | tup l => rfl
theorem ress_congr : ∀ {l : List V}, (∀ v ∈ l, ∀ i ∈ v.names, E i = E' i) → ress E l = ress E' l
  | [], _ => rfl
  | v :: r, h => by
    unfold ress
    rw [res_congr (h v (by simp)), ress_congr (l := r) (fun y hy => h y (by simp [hy]))]

theorem looks_arg {c : Call} {i : Nat} (h : ∃ x, x ∈ c.args.toList ∧ i ∈ idsOf s x) : i ∈ looks s (.call c) := by
  simp only [looks, List.mem_append, List.mem_flatMap]; exact .inl h
theorem mem_idsOf {x : Operand} {v : V} {i : Nat} (h : ev s x = some v) (hi : i ∈ v.ids) : i ∈ idsOf s x := by simp [idsOf, h, hi]

theorem looks_congr {op : Op} (h1 : ∀ x ∈ op.operands, ev s x = ev s' x) : looks s op = looks s' op := by
  have hi : ∀ x ∈ op.operands, idsOf s x = idsOf s' x := fun x hx => by simp only [idsOf, h1 x hx]
  have gen : ∀ l : List Operand, (∀ y ∈ l, idsOf s y = idsOf s' y) → l.flatMap (idsOf s) = l.flatMap (idsOf s') := by
    intro l
    induction l with
    | nil => intro _; rfl
    | cons x r ih => intro h; simp only [List.flatMap_cons]; rw [h x (by simp), ih (fun y hy => h y (by simp [hy]))]
  cases op with
  | load T p => exact hi p (by simp [Op.operands])
  | store T p x => exact hi p (by simp [Op.operands])
  | convert T T' x => exact hi x (by simp [Op.operands])
  | call c =>
    have h3 : c.args.toList.flatMap (idsOf s) = c.args.toList.flatMap (idsOf s') := gen _ (fun y hy => hi y (by simp only [Op.operands, Call.operands]; cases c.callee <;> simp_all))
    cases hc : c.callee with
    | value fop =>
      have h4 := hi fop (by simp [Op.operands, Call.operands, hc])
      simp only [looks, hc, h3, h4]
    | _ => simp only [looks, hc, h3]
  | _ => rfl
/-- An operation looks at its operands and at the entries that they lead to, and at nothing else. -/
theorem Eff.congr {op : Op} {v : Option V} {us : List (Nat × Option Ent)} (h : Eff P id s E op v us) (h1 : ∀ x ∈ op.operands, ev s x = ev s' x) (h2 : ∀ i ∈ looks s op, E i = E' i) : Eff P id s' E' op v us := by
  cases h with
  | sem _ _ _ h => exact .sem _ _ _ fun s2 E2 h3 h4 => h s2 E2 (fun x hx => (h1 x hx).trans (h3 x hx)) (fun i hi => (h2 i hi).trans (h4 i (by rw [← looks_congr h1]; exact hi)))
  | strTo T x hi str k p h hl hu h0 h3 => exact .strTo T x hi str k p (by rw [← h1 x (by simp [Op.operands])]; exact h) (by rw [← h1 hi (by simp [Op.operands])]; exact hl) hu h0 h3
  | callN f args ts xs r h hv =>
    refine .callN f args ts xs r ?_ hv
    rw [← h, evs_congr (fun x hx => (h1 x (by simp [Op.operands, Call.operands]; exact .inr (by simpa using hx))).symm)]
  | appendNilB x y T el v l bytes hx hy hr hu hs hb hz hm hm' hlit =>
    exact .appendNilB x y T el v l bytes hx
      (by rw [← h1 y (by simp [Op.operands, Call.operands])]; exact hy) (by rw [← res_congr (fun i hi => h2 i (by exact looks_arg ⟨y, by simp, mem_idsOf hy (ids_names hi)⟩))]; exact hr) hu hs hb hz hm hm' hlit
  | appendOO x y T el i n e j m e2 bytes hx he hh hn hy he2 hsz hm2 hij h0 hu hs hb hz hm hm' =>
    exact .appendOO x y T el i n e j m e2 bytes (by rw [← h1 x (by simp [Op.operands, Call.operands])]; exact hx) (by rw [← h2 i (looks_arg ⟨x, by simp, mem_idsOf hx (by simp [V.ids, V.names])⟩)]; exact he) hh hn
      (by rw [← h1 y (by simp [Op.operands, Call.operands])]; exact hy) (by rw [← h2 j (looks_arg ⟨y, by simp, mem_idsOf hy (by simp [V.ids, V.names])⟩)]; exact he2) hsz hm2 hij h0 hu hs hb hz hm hm'
  | appendNO x y T el j m e2 bytes hx hy he2 hm2 h0 hu hs hb hz hm hm' =>
    exact .appendNO x y T el j m e2 bytes (by rw [← h1 x (by simp [Op.operands, Call.operands])]; exact hx)
      (by rw [← h1 y (by simp [Op.operands, Call.operands])]; exact hy) (by rw [← h2 j (looks_arg ⟨y, by simp, mem_idsOf hy (by simp [V.ids, V.names])⟩)]; exact he2) hm2 h0 hu hs hb hz hm hm'
  | makeFunc f caps vs h hl => exact .makeFunc f caps vs (by rw [← evs_congr (fun x hx => h1 x (by simpa [Op.operands] using hx))]; exact h) hl
  | callG fop args ts f caps vs xs L0 r L1 ρ nv us hc ha hx hl hv hsz hus hlk hnv =>
    have hop : ∀ y, y = fop ∨ y ∈ args.toList → ev s y = ev s' y := fun y hy => h1 y (by simp [Op.operands, Call.operands]; rcases hy with h | h; exact .inl h; exact .inr (by simpa using h))
    have hevs : evs s args.toList = evs s' args.toList := evs_congr (fun x hx => hop x (.inr hx))
    have hids : ∀ y, y = fop ∨ y ∈ args.toList → idsOf s y = idsOf s' y := fun y hy => by simp only [idsOf, hop y hy]
    have hlooks : looks s (.call { callee := .value fop, args := args, argTypes := ts }) = looks s' (.call { callee := .value fop, args := args, argTypes := ts }) := by
      have h3 : args.toList.flatMap (idsOf s) = args.toList.flatMap (idsOf s') := by
        have gen : ∀ l : List Operand, (∀ y ∈ l, idsOf s y = idsOf s' y) → l.flatMap (idsOf s) = l.flatMap (idsOf s') := by
          intro l
          induction l with
          | nil => intro _; rfl
          | cons x r ih => intro h; simp only [List.flatMap_cons]; rw [h x (by simp), ih (fun y hy => h y (by simp [hy]))]
        exact gen _ (fun y hy => hids y (.inr hy))
      show args.toList.flatMap (idsOf s) ++ idsOf s fop = args.toList.flatMap (idsOf s') ++ idsOf s' fop
      rw [h3, hids fop (.inl rfl)]
    have hnE : ∀ i ∈ nv, E i = E' i := fun i hi => h2 i (by simpa using List.all_eq_true.1 hnv i hi)
    have hc' : nv.map (cool E) = nv.map (cool E') := List.map_congr_left (fun i hi => by simp only [cool]; rw [hnE i hi])
    have hx' : ∀ {vs xs : List V} {k : Nat}, Args E ρ k nv vs xs → Args E' ρ k nv vs xs := by
      intro vs xs k h
      induction h with
      | nil => exact .nil
      | name v x vs xs hx hb h ih => exact .name v x vs xs hx hb ih
      | val v y vs xs hr hn h ih => exact .val v y vs xs (by rw [← res_congr (fun i hi => hnE i (by simpa using List.all_eq_true.1 hn i hi))]; exact hr) hn ih
    rw [hc']
    refine .callG fop args ts f caps vs xs L0 r L1 ρ nv us (by rw [← hop fop (.inl rfl)]; exact hc) (by rw [← hevs]; exact ha) (hx' hx) ⟨fun j e he => ?_, hl.inj⟩ hv hsz hus (by rw [← hlooks]; exact hlk) (by rw [← hlooks]; exact hnv)
    obtain ⟨q1, q2⟩ := hl.ent j e he
    refine ⟨?_, q2⟩
    rw [← h2 (ρ j) (by simpa using List.all_eq_true.1 hlk j (List.mem_range.2 (List.getElem?_eq_some_iff.1 he).1))]
    exact q1
  | extractV x l j y h hy => exact .extractV x l j y (by rw [← h1 x (by simp [Op.operands])]; exact h) hy
  | move x v h => exact .move x v (by rw [← h1 x (by simp [Op.operands])]; exact h)
  | assign x v h => exact .assign x v (by rw [← h1 x (by simp [Op.operands])]; exact h)
  | pick c x y t v hc h =>
    refine .pick c x y t v (by rw [← h1 c (by simp [Op.operands])]; exact hc) ?_
    cases t
    · rw [← h1 _ (by simp [Op.operands])]; exact h
    · rw [← h1 _ (by simp [Op.operands])]; exact h
  | alloc T l hz hl => exact .alloc T l hz hl
  | allocN T l hz hl => exact .allocN T l hz hl
  | makeN T x n el z bytes k h hu hz hs hb hl h0 h3 h4 => exact .makeN T x n el z bytes k (by rw [← h1 x (by simp [Op.operands])]; exact h) hu hz hs hb hl h0 h3 h4
  | box T x v h hl ht => exact .box T x v (by rw [← h1 x (by simp [Op.operands])]; exact h) hl ht
  | loadS T p i off e n h he ha hn hl => exact .loadS T p i off e n (by rw [← h1 p (by simp [Op.operands])]; exact h) (by rw [← h2 i (mem_idsOf h (by simp [V.ids]))]; exact he) ha hn hl
  | load1 T p i off e x h he ha hx => exact .load1 T p i off e x (by rw [← h1 p (by simp [Op.operands])]; exact h) (by rw [← h2 i (mem_idsOf h (by simp [V.ids]))]; exact he) ha hx
  | loadRdS T p l n h ha hn hl => exact .loadRdS T p l n (by rw [← h1 p (by simp [Op.operands])]; exact h) ha hn hl
  | loadRd1 T p l x h ha hx => exact .loadRd1 T p l x (by rw [← h1 p (by simp [Op.operands])]; exact h) ha hx
  | store T p x i off e v h he hh hv hn hl ht => exact .store T p x i off e v (by rw [← h1 p (by simp [Op.operands])]; exact h) (by rw [← h2 i (mem_idsOf h (by simp [V.ids]))]; exact he) hh (by rw [← h1 x (by simp [Op.operands])]; exact hv) hn hl ht
  | storeNil T p i off e h he hh hn hl => exact .storeNil T p i off e (by rw [← h1 p (by simp [Op.operands])]; exact h) (by rw [← h2 i (mem_idsOf h (by simp [V.ids]))]; exact he) hh hn hl
  | store1 T p x i off e v h he hh hv hc hn hl ht => exact .store1 T p x i off e v (by rw [← h1 p (by simp [Op.operands])]; exact h) (by rw [← h2 i (mem_idsOf h (by simp [V.ids]))]; exact he) hh (by rw [← h1 x (by simp [Op.operands])]; exact hv) hc hn hl ht
  | bin op T x y T' p q r ha hb hr => exact .bin op T x y T' p q r (by rw [← h1 x (by simp [Op.operands])]; exact ha) (by rw [← h1 y (by simp [Op.operands])]; exact hb) hr
  | binB op T x y T' p q r ha hb hu hr => exact .binB op T x y T' p q r (by rw [← h1 x (by simp [Op.operands])]; exact ha) (by rw [← h1 y (by simp [Op.operands])]; exact hb) hu hr
  | isNil T x y T' v e t ha hy hu ht => exact .isNil T x y T' v e t (by rw [← h1 x (by simp [Op.operands])]; exact ha) hy hu ht
  | notNil T x y T' v e t ha hy hu ht => exact .notNil T x y T' v e t (by rw [← h1 x (by simp [Op.operands])]; exact ha) hy hu ht
  | un op T x p r ha hr => exact .un op T x p r (by rw [← h1 x (by simp [Op.operands])]; exact ha) hr
  | convI T T' x k n u k' ha hu hu' => exact .convI T T' x k n u k' (by rw [← h1 x (by simp [Op.operands])]; exact ha) hu hu'
  | fieldAddr T p k i off fo n b h hfd => exact .fieldAddr T p k i off fo n b (by rw [← h1 p (by simp [Op.operands])]; exact h) hfd
  | fieldRd T p k l fo n b h hfd hl => exact .fieldRd T p k l fo n b (by rw [← h1 p (by simp [Op.operands])]; exact h) hfd hl
  | field1 T x k v fo y h ha hfd hy ht => exact .field1 T x k v fo y (by rw [← h1 x (by simp [Op.operands])]; exact h) ha hfd hy ht
  | index T x ix str k j h hi hu h0 h3 => exact .index T x ix str k j (by rw [← h1 x (by simp [Op.operands])]; exact h) (by rw [← h1 ix (by simp [Op.operands])]; exact hi) hu h0 h3
  | indexWin T x ix i off n k j el h hi hu hs h0 h3 => exact .indexWin T x ix i off n k j el (by rw [← h1 x (by simp [Op.operands])]; exact h) (by rw [← h1 ix (by simp [Op.operands])]; exact hi) hu hs h0 h3
  | indexOwn T x ix i n sz k j el h hi hu hs h0 h3 => exact .indexOwn T x ix i n sz k j el (by rw [← h1 x (by simp [Op.operands])]; exact h) (by rw [← h1 ix (by simp [Op.operands])]; exact hi) hu hs h0 h3
  | indexSl T x ix sz l k j el h hi hu hs h0 h3 => exact .indexSl T x ix sz l k j el (by rw [← h1 x (by simp [Op.operands])]; exact h) (by rw [← h1 ix (by simp [Op.operands])]; exact hi) hu hs h0 h3
  | make T x n el z bytes k h hu hz hs hb hl h0 h3 h4 => exact .make T x n el z bytes k (by rw [← h1 x (by simp [Op.operands])]; exact h) hu hz hs hb hl h0 h3 h4
  | buildS T len parts el vs sz z cs h hu hz hs h0 hm hsz hc =>
    refine .buildS T len parts el vs sz z cs ?_ hu hz hs h0 hm hsz hc
    rw [← h, evs_congr (fun x hx => (h1 x (by simpa [Op.operands] using hx)).symm)]
  | slSl T x lo hi sz l el k k' p q h hu hs hlo hhi h0 h3 h4 =>
    refine .slSl T x lo hi sz l el k k' p q (by rw [← h1 x (by simp [Op.operands])]; exact h) hu hs ?_ ?_ h0 h3 h4
    · rcases hlo with hlo | ⟨o, rfl, hlo⟩
      · exact .inl hlo
      · exact .inr ⟨o, rfl, by rw [← h1 o (by simp [Op.operands])]; exact hlo⟩
    · rcases hhi with hhi | ⟨o, rfl, hhi⟩
      · exact .inl hhi
      · exact .inr ⟨o, rfl, by rw [← h1 o (by simp [Op.operands])]; exact hhi⟩
  | extract x l j y h hy => exact .extract x l j y (by rw [← h1 x (by simp [Op.operands])]; exact h) hy
  | len x T v n el h hu hn => exact .len x T v n el (by rw [← h1 x (by simp [Op.operands, Call.operands])]; exact h) hu hn
  | lenStr x T str h hu => exact .lenStr x T str (by rw [← h1 x (by simp [Op.operands, Call.operands])]; exact h) hu
  | callF f args ts vs xs r h hx hv hr =>
    have hn : ∀ v ∈ vs, ∀ i ∈ v.names, E i = E' i := fun v hv i hi => by
      obtain ⟨j, hj⟩ := List.mem_iff_getElem?.1 hv
      obtain ⟨x, hx, hx2⟩ := (evs_get h).2 j v hj
      exact h2 i (by exact looks_arg ⟨x, List.mem_of_getElem? hx, mem_idsOf hx2 (ids_names hi)⟩)
    refine .callF f args ts vs xs r ?_ (by rw [← ress_congr hn]; exact hx) hv hr
    rw [← h, evs_congr (fun x hx => (h1 x (by simp [Op.operands, Call.operands]; exact .inr (by simpa using hx))).symm)]
  | callV f args ts vs xs r h hx hv =>
    have hn : ∀ v ∈ vs, ∀ i ∈ v.names, E i = E' i := fun v hv i hi => by
      obtain ⟨j, hj⟩ := List.mem_iff_getElem?.1 hv
      obtain ⟨x, hx, hx2⟩ := (evs_get h).2 j v hj
      exact h2 i (by exact looks_arg ⟨x, List.mem_of_getElem? hx, mem_idsOf hx2 (ids_names hi)⟩)
    have hc : (vs.flatMap V.names).map (cool E) = (vs.flatMap V.names).map (cool E') := List.map_congr_left (fun i hi => by
      obtain ⟨v, hv, hi⟩ := List.mem_flatMap.1 hi
      simp only [cool]; rw [hn v hv i hi])
    rw [hc]
    refine .callV f args ts vs xs r ?_ (by rw [← ress_congr hn]; exact hx) hv
    rw [← h, evs_congr (fun x hx => (h1 x (by simp [Op.operands, Call.operands]; exact .inr (by simpa using hx))).symm)]
  | callM f x rest args ts i n e L vs xs r L' ha hx he hh h3 hL hn hlit hlit' h hr hni hv =>
    have hmem : ∀ y, y ∈ x :: rest → y ∈ args.toList := fun y hy => by rw [ha]; exact hy
    have hop : ∀ y, y ∈ x :: rest → ev s y = ev s' y := fun y hy => h1 y (by simp [Op.operands, Call.operands]; exact .inr (by simpa using hmem y hy))
    have hn' : ∀ v ∈ vs, ∀ i ∈ v.names, E i = E' i := fun v hv i hi => by
      obtain ⟨j, hj⟩ := List.mem_iff_getElem?.1 hv
      obtain ⟨y, hy, hy2⟩ := (evs_get h).2 j v hj
      exact h2 i (by exact looks_arg ⟨y, hmem y (by simp [List.mem_of_getElem? hy]), mem_idsOf hy2 (ids_names hi)⟩)
    refine .callM f x rest args ts i n e L vs xs r L' ha (by rw [← hop x (by simp)]; exact hx) (by rw [← h2 i (by exact looks_arg ⟨x, hmem x (by simp), mem_idsOf hx (by simp [V.ids, V.names])⟩)]; exact he) hh h3 hL hn hlit hlit' ?_ (by rw [← ress_congr hn']; exact hr) hni hv
    rw [← h, evs_congr (fun y hy => (hop y (by simp [hy])).symm)]
  | buildN T parts vs z cs h hz hu hc =>
    refine .buildN T parts vs z cs ?_ hz hu hc
    rw [← h, evs_congr (fun x hx => (h1 x (by simpa [Op.operands] using hx)).symm)]
  | build T parts vs z cs h hz hu hc =>
    refine .build T parts vs z cs ?_ hz hu hc
    rw [← h, evs_congr (fun x hx => (h1 x (by simpa [Op.operands] using hx)).symm)]
  | strFrom T x lo str k p h hl hu h0 h3 => exact .strFrom T x lo str k p (by rw [← h1 x (by simp [Op.operands])]; exact h) (by rw [← h1 lo (by simp [Op.operands])]; exact hl) hu h0 h3
  | toStr T T' x el v l h hr hu he hu' => exact .toStr T T' x el v l (by rw [← h1 x (by simp [Op.operands])]; exact h) (by rw [← res_congr (fun i hi => h2 i (mem_idsOf h (ids_names hi)))]; exact hr) hu he hu'
  | max x y ts k p q hx hy => exact .max x y ts k p q (by rw [← h1 x (by simp [Op.operands, Call.operands])]; exact hx) (by rw [← h1 y (by simp [Op.operands, Call.operands])]; exact hy)
  | min x y ts k p q hx hy => exact .min x y ts k p q (by rw [← h1 x (by simp [Op.operands, Call.operands])]; exact hx) (by rw [← h1 y (by simp [Op.operands, Call.operands])]; exact hy)
  | copy x y T T' el i n e v l hx he hh h3 hn hy hr hu hs hlit =>
    exact .copy x y T T' el i n e v l (by rw [← h1 x (by simp [Op.operands, Call.operands])]; exact hx) (by rw [← h2 i (by exact looks_arg ⟨x, by simp, mem_idsOf hx (by simp [V.ids, V.names])⟩)]; exact he) hh h3 hn
      (by rw [← h1 y (by simp [Op.operands, Call.operands])]; exact hy) (by rw [← res_congr (fun i hi => h2 i (by exact looks_arg ⟨y, by simp, mem_idsOf hy (ids_names hi)⟩))]; exact hr) hu hs hlit
  | assignNil => exact .assignNil
  | appendNil x y T el v l bytes hx hy hr h0 hu hs hb hz hm hm' hlit =>
    exact .appendNil x y T el v l bytes (by rw [← h1 x (by simp [Op.operands, Call.operands])]; exact hx)
      (by rw [← h1 y (by simp [Op.operands, Call.operands])]; exact hy) (by rw [← res_congr (fun i hi => h2 i (by exact looks_arg ⟨y, by simp, mem_idsOf hy (ids_names hi)⟩))]; exact hr) h0 hu hs hb hz hm hm' hlit
  | append x y T el i n e v l bytes hx he hh h3 hn hy hr hne hu hs hb hz hm hm' hlit =>
    exact .append x y T el i n e v l bytes (by rw [← h1 x (by simp [Op.operands, Call.operands])]; exact hx) (by rw [← h2 i (by exact looks_arg ⟨x, by simp, mem_idsOf hx (by simp [V.ids, V.names])⟩)]; exact he) hh h3 hn
      (by rw [← h1 y (by simp [Op.operands, Call.operands])]; exact hy) (by rw [← res_congr (fun i hi => h2 i (by exact looks_arg ⟨y, by simp, mem_idsOf hy (ids_names hi)⟩))]; exact hr) hne hu hs hb hz hm hm' hlit
  | nilCheck p i off h => exact .nilCheck p i off (by rw [← h1 p (by simp [Op.operands])]; exact h)
  | ptrNil op T x y T' i off te t ha hy hu ht => exact .ptrNil op T x y T' i off te t (by rw [← h1 x (by simp [Op.operands])]; exact ha) hy hu ht
  | nilNil op T x y T' te t ha hy hu ht => exact .nilNil op T x y T' te t (by rw [← h1 x (by simp [Op.operands])]; exact ha) hy hu ht
  | slWin T x lo hi mx i n el k k' k'' p q h hlo hhi hmx hu hs h0 h3 h4 h5 => exact .slWin T x lo hi mx i n el k k' k'' p q (by rw [← h1 x (by simp [Op.operands])]; exact h) (by rw [← h1 lo (by simp [Op.operands])]; exact hlo) (by rw [← h1 hi (by simp [Op.operands])]; exact hhi) (by rw [← h1 mx (by simp [Op.operands])]; exact hmx) hu hs h0 h3 h4 h5
  | cutSl T x hi mx sz l el k k' q h hhi hmx hu hs h0 h3 => exact .cutSl T x hi mx sz l el k k' q (by rw [← h1 x (by simp [Op.operands])]; exact h) (by rw [← h1 hi (by simp [Op.operands])]; exact hhi) (by rw [← h1 mx (by simp [Op.operands])]; exact hmx) hu hs h0 h3
  | appendCut x y T el sz n l j m e2 bytes hx hn hy he2 hsz hm2 h0 hu hs hb hz hm hm' =>
    exact .appendCut x y T el sz n l j m e2 bytes (by rw [← h1 x (by simp [Op.operands, Call.operands])]; exact hx) hn (by rw [← h1 y (by simp [Op.operands, Call.operands])]; exact hy) (by rw [← h2 j (by exact looks_arg ⟨y, by simp, mem_idsOf hy (by simp [V.ids, V.names])⟩)]; exact he2) hsz hm2 h0 hu hs hb hz hm hm'
  | copyWin x y T T' el i off n e v l hx he hh h3 hn hy hr hu hs hlit =>
    exact .copyWin x y T T' el i off n e v l (by rw [← h1 x (by simp [Op.operands, Call.operands])]; exact hx) (by rw [← h2 i (by exact looks_arg ⟨x, by simp, mem_idsOf hx (by simp [V.ids, V.names])⟩)]; exact he) hh h3 hn
      (by rw [← h1 y (by simp [Op.operands, Call.operands])]; exact hy) (by rw [← res_congr (fun i hi => h2 i (by exact looks_arg ⟨y, by simp, mem_idsOf hy (ids_names hi)⟩))]; exact hr) hu hs hlit
theorem CallL.congr {op : Op} {v : V} {us : List (Nat × Option Ent)} {lk : List Nat} (h : CallL P id s E op v us lk) (h1 : ∀ x ∈ op.operands, ev s x = ev s' x) (h2 : ∀ i ∈ lk, E i = E' i) : CallL P id s' E' op v us lk := by
  cases h with
  | mk fop args ts f caps vs xs L0 r L1 ρ nv us hc ha hx hl hv hsz hus =>
    have hop : ∀ y, y = fop ∨ y ∈ args.toList → ev s y = ev s' y := fun y hy => h1 y (by simp [Op.operands, Call.operands]; rcases hy with h | h; exact .inl h; exact .inr (by simpa using h))
    have hevs : evs s args.toList = evs s' args.toList := evs_congr (fun x hx => hop x (.inr hx))
    have hnE : ∀ i ∈ nv, E i = E' i := fun i hi => h2 i (List.mem_append_right _ hi)
    have hc' : nv.map (cool E) = nv.map (cool E') := List.map_congr_left (fun i hi => by simp only [cool]; rw [hnE i hi])
    have hx' : ∀ {vs xs : List V} {k : Nat}, Args E ρ k nv vs xs → Args E' ρ k nv vs xs := by
      intro vs xs k h
      induction h with
      | nil => exact .nil
      | name v x vs xs hx hb h ih => exact .name v x vs xs hx hb ih
      | val v y vs xs hr hn h ih => exact .val v y vs xs (by rw [← res_congr (fun i hi => hnE i (by simpa using List.all_eq_true.1 hn i hi))]; exact hr) hn ih
    rw [hc']
    refine .mk fop args ts f caps vs xs L0 r L1 ρ nv us (by rw [← hop fop (.inl rfl)]; exact hc) (by rw [← hevs]; exact ha) (hx' hx) ⟨fun j e he => ?_, hl.inj⟩ hv hsz hus
    obtain ⟨q1, q2⟩ := hl.ent j e he
    refine ⟨?_, q2⟩
    rw [← h2 (ρ j) (List.mem_append_left _ (List.mem_map_of_mem (List.mem_range.2 (List.getElem?_eq_some_iff.1 he).1)))]
    exact q1
theorem Does.congr {op : Op} {v : Option V} {us : List (Nat × Option Ent)} {lk : List Nat} (h : Does P id s E op v us lk) (h1 : ∀ x ∈ op.operands, ev s x = ev s' x) (h2 : ∀ i ∈ lk, E i = E' i) : Does P id s' E' op v us lk := by
  have h0 := h
  rcases h with ⟨h, rfl⟩ | ⟨w, rfl, h⟩
  · refine .inl ⟨h.congr h1 h2, ?_⟩
    exact looks_congr h1
  · exact .inr ⟨w, rfl, h.congr h1 h2⟩
end
end Go.VL

/- A small program logic over the translated Go code, fifteenth part: regions whose order is left open. -/
set_option linter.unusedVariables false
set_option linter.unusedSimpArgs false
namespace Go.VL
open Go.RowKit

/-- The table of what must come before each. -/
theorem befGo_len : ∀ (l : List Oper) (t : List Nat), (befGo l t).length = t.length + l.length
  | [], t => by simp [befGo]
  | o :: r, t => by rw [befGo, befGo_len r]; simp; omega
theorem befGo_old : ∀ (l : List Oper) (t : List Nat) (j : Nat), j < t.length → (befGo l t).getD j 0 = t.getD j 0
  | [], t, j, h => rfl
  | o :: r, t, j, h => by
    rw [befGo, befGo_old r _ j (by simp; omega)]
    simp [List.getD_eq_getElem?_getD, List.getElem?_append_left h]
theorem bits_fold (i : Nat) (t : List Nat) : ∀ (es : List Edge) (m : Nat), (es.foldl (fun m e => if Region.binds .any e = true then m ||| (2 ^ e.on ||| t.getD e.on 0) else m) m).testBit i = true →
    m.testBit i = true ∨ ∃ e ∈ es, Region.binds .any e = true ∧ (e.on = i ∨ (t.getD e.on 0).testBit i = true)
  | [], m, h => .inl h
  | e :: es, m, h => by
    simp only [List.foldl_cons] at h
    rcases bits_fold i t es _ h with h1 | ⟨e', h1, h2⟩
    · split at h1
      · rename_i hb
        rw [Nat.testBit_or, Nat.testBit_or] at h1
        simp only [Bool.or_eq_true] at h1
        rcases h1 with h1 | h1 | h1
        · exact .inl h1
        · right
          refine ⟨e, by simp, hb, .inl ?_⟩
          rw [Nat.testBit_two_pow] at h1
          simpa using h1
        · exact .inr ⟨e, by simp, hb, .inr h1⟩
      · exact .inl h1
    · exact .inr ⟨e', by simp [h1], h2⟩
theorem befGo_bit : ∀ (l : List Oper) (t : List Nat) (j i : Nat), t.length ≤ j → ((befGo l t).getD j 0).testBit i = true →
    ∃ o, l[j - t.length]? = some o ∧ ∃ e ∈ o.after.toList, Region.binds .any e = true ∧ (e.on = i ∨ (e.on < j ∧ ((befGo l t).getD e.on 0).testBit i = true))
  | [], t, j, i, hj, h => by
    rw [befGo, List.getD_eq_getElem?_getD, List.getElem?_eq_none hj] at h
    simp at h
  | o :: r, t, j, i, hj, h => by
    rw [befGo] at h ⊢
    by_cases hjt : j = t.length
    · subst hjt
      rw [befGo_old r _ _ (by simp)] at h
      simp only [List.getD_eq_getElem?_getD, List.getElem?_append_right (Nat.le_refl _), Nat.sub_self, List.getElem?_cons_zero, Option.getD_some] at h
      simp only [← List.getD_eq_getElem?_getD] at h
      rcases bits_fold i t _ _ h with h1 | ⟨e, h1, h2, h3⟩
      · simp at h1
      · refine ⟨o, by simp, e, h1, h2, ?_⟩
        rcases h3 with h3 | h3
        · exact .inl h3
        · right
          have hlt : e.on < t.length := by
            apply Classical.byContradiction
            intro hc
            rw [List.getD_eq_getElem?_getD, List.getElem?_eq_none (by omega)] at h3
            simp at h3
          refine ⟨hlt, ?_⟩
          rw [befGo_old r _ _ (by simp; omega)]
          simpa [List.getD_eq_getElem?_getD, List.getElem?_append_left hlt] using h3
    · obtain ⟨o', h1, e, h2, h3, h4⟩ := befGo_bit r _ j i (by simp; omega) h
      refine ⟨o', ?_, e, h2, h3, h4⟩
      simp only [List.length_append, List.length_singleton] at h1
      rw [show j - t.length = (j - (t.length + 1)) + 1 by omega, List.getElem?_cons_succ]
      exact h1

theorem bef_bit {ops : Array Oper} {i j : Nat} (h : ((bef ops).getD j 0).testBit i = true) : ∃ o, ops[j]? = some o ∧ ∃ e ∈ o.after, Region.binds .any e = true ∧ (e.on = i ∨ (e.on < j ∧ ((bef ops).getD e.on 0).testBit i = true)) := by
  obtain ⟨o, h1, e, h2, h3⟩ := befGo_bit ops.toList [] j i (by simp) h
  exact ⟨o, by simpa using h1, e, by simpa using h2, h3⟩

/-- What is done so far is closed. -/
def ClosedB (ops : Array Oper) (b : Nat → Bool) : Prop := ∀ j o, ops[j]? = some o → b j = true → ∀ e ∈ o.after, Region.binds .any e = true → b e.on = true

theorem bef_done {ops : Array Oper} {b : Nat → Bool} (hc : ClosedB ops b) : ∀ (j : Nat) (o : Oper), ops[j]? = some o → (∀ e ∈ o.after, Region.binds .any e = true → b e.on = true) → ∀ i, ((bef ops).getD j 0).testBit i = true → b i = true := by
  intro j
  induction j using Nat.strongRecOn with
  | _ j ih =>
    intro o ho hd i hi
    obtain ⟨o', h1, e, h2, h3, h4⟩ := bef_bit hi
    rw [ho] at h1
    injection h1 with h1
    subst h1
    have hb := hd e h2 h3
    rcases h4 with rfl | ⟨h5, h6⟩
    · exact hb
    · obtain ⟨o2, g1, _⟩ := bef_bit h6
      exact ih e.on h5 o2 g1 (hc e.on o2 g1 hb) i h6

theorem upds_app (E : Env) : ∀ (us : List (Nat × Option Ent)) (x : Nat), (∀ p ∈ us, p.1 ≠ x) → upds E us x = E x
  | [], x, h => rfl
  | p :: r, x, h => by
    rw [upds, upds_app _ r x (fun q hq => h q (by simp [hq])), setAt_ne _ _ (Ne.symm (h p (by simp)))]
theorem upds_point {E E' : Env} : ∀ (us : List (Nat × Option Ent)) (x : Nat), (E x = E' x ∨ ∃ p ∈ us, p.1 = x) → upds E us x = upds E' us x
  | [], x, h => by
    rcases h with h | ⟨p, hp, _⟩
    · exact h
    · cases hp
  | p :: r, x, h => by
    rw [upds, upds]
    refine upds_point r x ?_
    by_cases hx : x = p.1
    · left; rw [hx, setAt_self, setAt_self]
    · rw [setAt_ne _ _ hx, setAt_ne _ _ hx]
      rcases h with h | ⟨q, hq, hqx⟩
      · exact .inl h
      · rcases List.mem_cons.1 hq with rfl | hq
        · exact absurd hqx.symm hx
        · exact .inr ⟨q, hq, hqx⟩

/-- The slots when the operations of b among the first k have been carried out. -/
def sB (s : Slots) (dst : Nat → Option Nat) (val : Nat → V) (b : Nat → Bool) : Nat → Slots
  | 0 => s
  | k + 1 => if b k = true then putv (sB s dst val b k) (dst k) (some (val k)) else sB s dst val b k
def eB (E : Env) (upd : Nat → List (Nat × Option Ent)) (b : Nat → Bool) : Nat → Env
  | 0 => E
  | k + 1 => if b k = true then upds (eB E upd b k) (upd k) else eB E upd b k

section
variable {s : Slots} {E : Env} {dst : Nat → Option Nat} {val : Nat → V} {upd : Nat → List (Nat × Option Ent)} {b b' : Nat → Bool}

theorem putv_ne {s : Slots} {d : Option Nat} {v : Option V} {t : Nat} (h : d ≠ some t) : putv s d v t = s t := by
  cases d with
  | none => rfl
  | some d => exact setAt_ne _ _ (fun e => h (by rw [e]))
theorem putv_self {s : Slots} {v : Option V} {t : Nat} : putv s (some t) v t = v := setAt_self _ _ _

theorem sB_agree {t : Nat} : ∀ k, (∀ j, j < k → dst j = some t → b j = b' j) → sB s dst val b k t = sB s dst val b' k t
  | 0, _ => rfl
  | k + 1, h => by
    have ih := sB_agree k (fun j hj => h j (by omega))
    simp only [sB]
    by_cases hd : dst k = some t
    · rw [h k (by omega) hd]
      split
      · rw [hd, putv_self, putv_self]
      · exact ih
    · split <;> split <;> simp [putv_ne hd, ih]
theorem eB_agree {x : Nat} : ∀ k, (∀ j, j < k → (∃ p ∈ upd j, p.1 = x) → b j = b' j) → eB E upd b k x = eB E upd b' k x
  | 0, _ => rfl
  | k + 1, h => by
    have ih := eB_agree k (fun j hj => h j (by omega))
    simp only [eB]
    by_cases hd : ∃ p ∈ upd k, p.1 = x
    · rw [h k (by omega) hd]
      split
      · exact upds_point _ _ (.inr hd)
      · exact ih
    · have hn : ∀ p ∈ upd k, p.1 ≠ x := fun p hp h => hd ⟨p, hp, h⟩
      split <;> split <;> simp [upds_app _ _ _ hn, ih]

theorem sB_all : ∀ k, (∀ j, j < k → b j = b' j) → sB s dst val b k = sB s dst val b' k := fun k h => funext fun t => sB_agree k (fun j hj _ => h j hj)
theorem eB_all : ∀ k, (∀ j, j < k → b j = b' j) → eB E upd b k = eB E upd b' k := fun k h => funext fun t => eB_agree k (fun j hj _ => h j hj)

theorem sB_cut {i : Nat} : ∀ k, i ≤ k → sB s dst val (fun j => decide (j < i)) k = sB s dst val (fun _ => true) i
  | 0, h => by
    have : i = 0 := by omega
    subst this; rfl
  | k + 1, h => by
    by_cases hi : i = k + 1
    · subst hi
      exact sB_all (k + 1) (fun j hj => by simp [hj])
    · rw [← sB_cut k (by omega)]
      simp only [sB]
      rw [if_neg (by simp; omega)]
theorem eB_cut {i : Nat} : ∀ k, i ≤ k → eB E upd (fun j => decide (j < i)) k = eB E upd (fun _ => true) i
  | 0, h => by
    have : i = 0 := by omega
    subst this; rfl
  | k + 1, h => by
    by_cases hi : i = k + 1
    · subst hi
      exact eB_all (k + 1) (fun j hj => by simp [hj])
    · rw [← eB_cut k (by omega)]
      simp only [eB]
      rw [if_neg (by simp; omega)]

/-- One more is carried out, out of turn. -/
theorem sB_up {i : Nat} (hb : b i = false) : ∀ k, i < k → (∀ j, i < j → j < k → b j = true → ∀ d, dst i = some d → dst j ≠ some d) →
    sB s dst val (setAt b i true) k = putv (sB s dst val b k) (dst i) (some (val i))
  | 0, h, _ => by omega
  | k + 1, h, hd => by
    by_cases hik : i = k
    · subst hik
      simp only [sB, setAt_self, if_true, hb]
      rw [sB_all (b := setAt b i true) (b' := b) i (fun j hj => setAt_ne _ _ (by omega))]
      simp
    · have ih := sB_up hb k (by omega) (fun j h1 h2 => hd j h1 (by omega))
      simp only [sB, setAt_ne b true (show k ≠ i by omega)]
      split
      · rename_i hbk
        rw [ih]
        funext t
        have hne := hd k (by omega) (by omega) hbk
        cases hdi : dst i with
        | none => rfl
        | some d =>
          have hdk := hne d hdi
          by_cases ht : t = d
          · subst ht
            rw [putv_self, putv_ne hdk, putv_self]
          · rw [putv_ne (d := some d) (by simpa using Ne.symm ht)]
            by_cases hdt : dst k = some t
            · rw [hdt, putv_self, putv_self]
            · rw [putv_ne hdt, putv_ne hdt, putv_ne (by simpa using Ne.symm ht)]
      · exact ih
theorem eB_up {i : Nat} (hb : b i = false) : ∀ k, i < k → (∀ j, i < j → j < k → b j = true → ∀ p ∈ upd i, ∀ q ∈ upd j, p.1 ≠ q.1) →
    eB E upd (setAt b i true) k = upds (eB E upd b k) (upd i)
  | 0, h, _ => by omega
  | k + 1, h, hd => by
    by_cases hik : i = k
    · subst hik
      simp only [eB, setAt_self, if_true, hb]
      rw [eB_all (b := setAt b i true) (b' := b) i (fun j hj => setAt_ne _ _ (by omega))]
      simp
    · have ih := eB_up hb k (by omega) (fun j h1 h2 => hd j h1 (by omega))
      simp only [eB, setAt_ne b true (show k ≠ i by omega)]
      split
      · rename_i hbk
        rw [ih]
        funext x
        have hne := hd k (by omega) (by omega) hbk
        by_cases hx : ∃ p ∈ upd i, p.1 = x
        · obtain ⟨p, hp, hpx⟩ := hx
          have hk : ∀ q ∈ upd k, q.1 ≠ x := fun q hq h => hne p hp q hq (by rw [hpx, h])
          rw [upds_app _ _ _ hk]
          exact upds_point _ _ (.inr ⟨p, hp, hpx⟩)
        · have hi : ∀ q ∈ upd i, q.1 ≠ x := fun q hq h => hx ⟨q, hq, h⟩
          rw [upds_app _ (upd i) _ hi]
          exact upds_point _ _ (.inl (upds_app _ _ _ hi))
      · exact ih
end
end Go.VL

/- A small program logic over the translated Go code, sixteenth part: lists of operations, in order and in any order. -/
set_option linter.unusedVariables false
set_option linter.unusedSimpArgs false
namespace Go.VL
open Go.RowKit

section
variable {P : Program} {w0 W W1 : World} {P0 F : Nat → Prop} {E0 E E1 : Env} {pl0 pl pl1 : Plan} {N : Frm} {id : Nat} {s : Slots} {a : Act} {o : Oper} {K : Act → World → Prop} {Qx : Exit → Act → World → Prop}

theorem RF.fenced {F : Fence} (h : RF F) (m : Machine) : m.fenced P F := fun g _ => ⟨(fun ha => by rw [h.alive] at ha; cases ha), .inl (h.fn _), (fun f _ => h.fn f), (fun d hd => by rw [h.depth] at hd; cases hd)⟩
theorem RF.steps {F : Fence} (h : RF F) {m m' : Machine} (hs : Steps P m m') : StepsIn (Machine.fenced P F) P m m' := (StepsIn.of_steps hs).mono fun m _ => h.fenced m
theorem RF.comes {F : Fence} (h : RF F) {m m' : Machine} {e : Ending} (hs : Comes P m m' e) : ComesIn (Machine.fenced P F) P m m' e := by
  cases e with
  | returned v => exact h.steps hs
  | panicked c => exact h.steps hs
  | outgrown => exact hs
theorem RF.calls {F : Fence} (h : RF F) {n : Nat} {f : FuncId} {args : Array Value} {w : World} {R : Ending → World → Prop} (hc : Calls P f args w R) : CallsIn F n P f args w R :=
  ⟨h.fn f, fun cs _ => let ⟨e, w', fr, r, s, x⟩ := hc cs; ⟨e, w', fr, r, h.comes s, x⟩⟩
theorem RF.noDepth {F : Fence} (h : RF F) : F.depth.isSome = true → 1 ≤ 0 := fun hd => by rw [h.depth] at hd; cases hd
/-- Within a round an operation does what it does without. -/
theorem Oper.wp_in {F : Fence} (hF : RF F) (hd : Op.notDefer o.op = true) (h : Oper.wp P o a W K Qx) : Oper.wpIn F 0 P o a W K Qx := by
  refine ⟨fun f _ => hF.fn f, ?_⟩
  rw [Oper.semAt_eq _ _ _ (fun c hc => (by rw [hc] at hd; cases hd))]
  unfold Oper.wp at h
  generalize (execOp a.eval o).run P W = r at h
  cases r with
  | ok x W' =>
    cases x with
    | enter f args => exact ⟨hF.noDepth, hF.calls h⟩
    | row row args => exact ⟨hF.noDepth, fun c cs _ => let ⟨v, w', r, s⟩ := h c cs; ⟨v, w', r, hF.steps s⟩⟩
    | round => exact h.elim
    | _ => exact h
  | halt x W' => cases x <;> exact h
/-- Operations one after the other. -/
theorem VList.sound {F : Fence} (hF : RF F) {ops : Array Oper} {Q : Nat → Slots → Env → Prop} : ∀ (l : List Oper) (n : Nat) (s : Slots) (E : Env) (a : Act) (W : World) (pl : Plan), VList P ops l n s E Q → (∀ o ∈ l, (∀ d, o.dst = some d → N.ok d) ∧ Op.notDefer o.op = true) →
    Sim w0 P0 E0 pl0 N E pl s a W → (∀ i, n ≤ i → pl i = none) →
    (∀ n s E a W pl, Q n s E → Sim w0 P0 E0 pl0 N E pl s a W → (∀ i, n ≤ i → pl i = none) → Qx .normal a W) → wpListIn F 0 P ops Qx l a W
  | [], n, s, E, a, W, pl, h, hN, S, hf, hQ => hQ n s E a W pl h S hf
  | o :: r, n, s, E, a, W, pl, h, hN, S, hf, hQ => by
    obtain ⟨hd, hnd⟩ := hN o (by simp)
    have hr : ∀ o ∈ r, (∀ d, o.dst = some d → N.ok d) ∧ Op.notDefer o.op = true := fun o ho => hN o (by simp [ho])
    refine wpListIn_step (fun K hK => ?_)
    rcases h with ⟨h1, v, us, h2, h3⟩ | ⟨h1, h2⟩ | ⟨h1, v, n', E2, h2, h3⟩
    · rw [runs_wanted S h1]
      simp only [if_true]
      refine Oper.wp_in hF hnd (h2.sound S (hf n (Nat.le_refl _)) (fun u pl1 W1 S1 hf1 hr1 => hK _ _ ?_))
      exact VList.sound hF r (n + 1) _ _ _ _ pl1 h3 hr (S1.putv hd hr1) (fun i hi => hf1 i (by omega) (hf i (by omega))) hQ
    · rw [runs_wanted S h1]
      simp only [Bool.false_eq_true, if_false]
      exact ⟨fun f _ => hF.fn f, hK _ _ (VList.sound hF r (n + 1) _ _ _ _ pl h2 hr (S.putv hd undef_rep) (fun i hi => hf i (by omega)) hQ)⟩
    · rw [runs_wanted S h1]
      simp only [if_true]
      refine Oper.wp_in hF hnd (callG_step h2 rfl S hf (fun u pl1 W1 S1 hf1 hr1 => hK _ _ ?_))
      exact VList.sound hF r n' _ _ _ _ pl1 h3 hr (S1.putv hd hr1) hf1 hQ

theorem sB_shift {s : Slots} {dst : Nat → Option Nat} {val : Nat → V} (k : Nat) : sB s dst val (fun _ => true) (k + 1) = sB (putv s (dst 0) (some (val 0))) (fun i => dst (i + 1)) (fun i => val (i + 1)) (fun _ => true) k := by
  induction k with
  | zero => rfl
  | succ k ih =>
    rw [sB, if_pos rfl, ih]
    rfl
theorem eB_shift {E : Env} {upd : Nat → List (Nat × Option Ent)} (k : Nat) : eB E upd (fun _ => true) (k + 1) = eB (upds E (upd 0)) (fun i => upd (i + 1)) (fun _ => true) k := by
  induction k with
  | zero => rfl
  | succ k ih =>
    rw [eB, if_pos rfl, ih]
    rfl

/-- What the operations do one after the other, laid open. -/
theorem VLog.ref {ops : Array Oper} {Q : List (List Nat × List Nat) → Nat → Slots → Env → Prop} : ∀ (l : List Oper) (n : Nat) (s : Slots) (E : Env) (log : List (List Nat × List Nat)), VLog P ops l n s E log Q →
    ∃ (val : Nat → V) (upd : Nat → List (Nat × Option Ent)) (run : Nat → Bool) (lks : Nat → List Nat) (lg : List (List Nat × List Nat)),
      (∀ i o, l[i]? = some o → runs ops (sB s (fun i => (l[i]?).bind (·.dst)) val (fun _ => true) i) o.guard = some (run i) ∧
        (run i = true → ∃ v, Does P (n + i) (sB s (fun i => (l[i]?).bind (·.dst)) val (fun _ => true) i) (eB E upd (fun _ => true) i) o.op v (upd i) (lks i) ∧ val i = v.getD undefV) ∧ (run i = false → upd i = [] ∧ val i = undefV)) ∧
      lg.length = l.length ∧ (∀ i o, l[i]? = some o → ∃ p, lg[i]? = some p ∧ p.2 = (upd i).map (·.1) ∧ (run i = true → p.1 = lks i)) ∧
      Q (log ++ lg) (n + l.length) (sB s (fun i => (l[i]?).bind (·.dst)) val (fun _ => true) l.length) (eB E upd (fun _ => true) l.length)
  | [], n, s, E, log, h => ⟨fun _ => undefV, fun _ => [], fun _ => true, fun _ => [], [], fun i o ho => by simp at ho, rfl, fun i o ho => by simp at ho, by simpa [sB, eB, VLog] using h⟩
  | o :: r, n, s, E, log, h => by
    rcases h with ⟨h1, v, us, lk, h2, h3⟩ | ⟨h1, h2⟩
    · obtain ⟨val, upd, run, lks, lg, g1, g2, g3, g4⟩ := VLog.ref r _ _ _ _ h3
      refine ⟨fun i => Nat.casesOn i (v.getD undefV) val, fun i => Nat.casesOn i us upd, fun i => Nat.casesOn i true run, fun i => Nat.casesOn i lk lks, (lk, us.map (·.1)) :: lg, fun i p hp => ?_, by simp [g2], fun i p hp => ?_, ?_⟩
      · cases i with
        | zero =>
          simp at hp; subst hp
          exact ⟨h1, fun _ => ⟨v, h2, rfl⟩, fun h => by cases h⟩
        | succ i =>
          have hp' : r[i]? = some p := by simpa using hp
          obtain ⟨k1, k2, k3⟩ := g1 i p hp'
          rw [sB_shift, eB_shift]
          refine ⟨k1, fun hr => ?_, k3⟩
          obtain ⟨v', e1, e2⟩ := k2 hr
          exact ⟨v', by rw [show n + (i + 1) = n + 1 + i by omega]; exact e1, e2⟩
      · cases i with
        | zero =>
          simp at hp; subst hp
          exact ⟨_, rfl, rfl, fun _ => rfl⟩
        | succ i =>
          have hp' : r[i]? = some p := by simpa using hp
          obtain ⟨q, q1, q2, q3⟩ := g3 i p hp'
          exact ⟨q, by simpa using q1, q2, q3⟩
      · rw [List.length_cons, sB_shift, eB_shift, show n + (r.length + 1) = n + 1 + r.length by omega]
        rw [List.append_assoc] at g4
        exact g4
    · obtain ⟨val, upd, run, lks, lg, g1, g2, g3, g4⟩ := VLog.ref r _ _ _ _ h2
      refine ⟨fun i => Nat.casesOn i undefV val, fun i => Nat.casesOn i [] upd, fun i => Nat.casesOn i false run, fun i => Nat.casesOn i [] lks, ([], []) :: lg, fun i p hp => ?_, by simp [g2], fun i p hp => ?_, ?_⟩
      · cases i with
        | zero =>
          simp at hp; subst hp
          exact ⟨h1, (fun h => by cases h), fun _ => ⟨rfl, rfl⟩⟩
        | succ i =>
          have hp' : r[i]? = some p := by simpa using hp
          obtain ⟨k1, k2, k3⟩ := g1 i p hp'
          rw [sB_shift, eB_shift]
          refine ⟨k1, fun hr => ?_, k3⟩
          obtain ⟨v', e1, e2⟩ := k2 hr
          exact ⟨v', by rw [show n + (i + 1) = n + 1 + i by omega]; exact e1, e2⟩
      · cases i with
        | zero =>
          simp at hp; subst hp
          exact ⟨_, rfl, rfl, (fun h => by cases h)⟩
        | succ i =>
          have hp' : r[i]? = some p := by simpa using hp
          obtain ⟨q, q1, q2, q3⟩ := g3 i p hp'
          exact ⟨q, by simpa using q1, q2, q3⟩
      · rw [List.length_cons, sB_shift, eB_shift, show n + (r.length + 1) = n + 1 + r.length by omega]
        rw [List.append_assoc] at g4
        exact g4

theorem count_up {f f' : Nat → Bool} {i : Nat} (hi : f i = true) (hi' : f' i = false) (ho : ∀ j, j ≠ i → f' j = f j) : ∀ {l : List Nat}, l.Nodup → i ∈ l → (l.filter f').length + 1 = (l.filter f).length
  | [], _, h => by cases h
  | x :: r, hn, h => by
    rw [List.nodup_cons] at hn
    rcases List.mem_cons.1 h with rfl | h
    · have : r.filter f' = r.filter f := List.filter_congr (fun j hj => ho j (fun e => hn.1 (e ▸ hj)))
      simp [hi, hi', this]
    · have hxi : x ≠ i := fun e => hn.1 (e ▸ h)
      have ih := count_up hi hi' ho hn.2 h
      rw [List.filter_cons, List.filter_cons, ho x hxi]
      split
      · simp only [List.length_cons]; omega
      · exact ih

theorem drawOk_get {ops : Array Oper} (h : drawOk ops = true) {j : Nat} {o : Oper} (hj : ops[j]? = some o) :
    (∀ e ∈ o.after, Region.binds .any e = true → e.on < j) ∧ ∀ i, i < j → ((bef ops).getD j 0).testBit i = true ∨ ∃ x, ops[i]? = some x ∧ Oper.apart ops x o = true := by
  have hlt : j < ops.size := (Array.getElem?_eq_some_iff.1 hj).1
  have h1 := List.all_eq_true.1 h j (List.mem_range.2 hlt)
  rw [Bool.and_eq_true] at h1
  obtain ⟨h1, h2⟩ := h1
  rw [hj] at h1
  simp only [Option.map_some, Option.getD_some, List.all_eq_true] at h1
  refine ⟨fun e he hb => ?_, fun i hi => ?_⟩
  · have := h1 e (by simpa using he)
    simpa [hb] using this
  · have h3 := List.all_eq_true.1 h2 i (List.mem_range.2 hi)
    rw [Bool.or_eq_true] at h3
    rcases h3 with h3 | h3
    · exact .inl h3
    · right
      have hil : i < ops.size := by omega
      rw [Array.getElem?_eq_getElem hil, hj] at h3
      exact ⟨_, Array.getElem?_eq_getElem hil, h3⟩
theorem apartIds_ne {l m : List Nat} (h : apartIds l m = true) {x y : Nat} (hx : x ∈ l) (hy : y ∈ m) : x ≠ y := by
  intro e
  subst e
  have := List.all_eq_true.1 h x hx
  simp at this
  exact this hy
theorem logOk_get {t : List Nat} {log : List (List Nat × List Nat)} (h : logOk t log = true) {i j : Nat} {x y : List Nat × List Nat} (hi : log[i]? = some x) (hj : log[j]? = some y) (hij : i < j) :
    (t.getD j 0).testBit i = true ∨ ((∀ p ∈ x.2, ∀ q ∈ y.1 ++ y.2, p ≠ q) ∧ ∀ p ∈ y.2, ∀ q ∈ x.1 ++ x.2, p ≠ q) := by
  have hlt : j < log.length := (List.getElem?_eq_some_iff.1 hj).1
  have h1 := List.all_eq_true.1 (List.all_eq_true.1 h j (List.mem_range.2 hlt)) i (List.mem_range.2 hij)
  rw [Bool.or_eq_true] at h1
  rcases h1 with h1 | h1
  · exact .inl h1
  · right
    rw [hi, hj] at h1
    simp only [Bool.or_eq_true, Bool.and_eq_true] at h1
    rcases h1 with ⟨h1, h2⟩ | ⟨h1, h2⟩
    · rw [List.isEmpty_iff.1 h1, List.isEmpty_iff.1 h2]
      exact ⟨(fun p hp => by cases hp), (fun p hp => by cases hp)⟩
    · exact ⟨fun p hp q hq => apartIds_ne h1 hp hq, fun p hp q hq => apartIds_ne h2 hp hq⟩

theorem runs_congr {ops : Array Oper} {s s' : Slots} {g : Option (Nat × Bool)} (h : ∀ p, g = some p → ∀ t, (ops[p.1]?).bind (·.dst) = some t → s t = s' t) : runs ops s g = runs ops s' g := by
  cases g with
  | none => rfl
  | some p =>
    obtain ⟨g, want⟩ := p
    simp only [runs]
    split
    · rename_i d hd
      rw [h (g, want) rfl d hd]
    · rfl

/-- A region whose order is left open. -/
theorem draw_sound {F : Fence} (hF : RF F) {ops : Array Oper} {Q : Nat → Slots → Env → Prop} {rid n : Nat} (hm : P.follows .mixedOrders = true) (hd : drawOk ops = true) (hN : ∀ o ∈ ops.toList, (∀ d, o.dst = some d → N.ok d) ∧ Op.notDefer o.op = true)
    (hv : VLog P ops ops.toList n s E [] fun log n s E => logOk (bef ops) log = true ∧ Q n s E) (S : Sim w0 P0 E0 pl0 N E pl s a W) (hf : ∀ i, n ≤ i → pl i = none)
    (hQ : ∀ n s E a W pl, Q n s E → Sim w0 P0 E0 pl0 N E pl s a W → (∀ i, n ≤ i → pl i = none) → Qx .normal a W) : (Code.region rid ops true).wpIn F 0 P Qx a W := by
  obtain ⟨val, upd, run, lks, lg, g1, g2, g3, g4, g5⟩ := VLog.ref ops.toList n s E [] hv
  simp only [List.nil_append] at g4
  simp only [Array.getElem?_toList, Array.length_toList] at g1 g2 g3 g5
  generalize hdst : (fun i : Nat => (ops[i]?).bind (fun x : Oper => x.dst)) = dst at g1 g3 g5
  have hdst' : ∀ (i : Nat) (o : Oper), ops[i]? = some o → dst i = o.dst := fun i o ho => by rw [← hdst]; simp [ho]
  -- two operations whose order is open
  have apartS : ∀ i j : Nat, i < j → j < ops.size → ((bef ops).getD j 0).testBit i = false → ∃ x y, ops[i]? = some x ∧ ops[j]? = some y ∧ Oper.apart ops x y = true := fun i j hij hj hb => by
    have hoj := Array.getElem?_eq_getElem hj
    rcases (drawOk_get hd hoj).2 i hij with h | ⟨x, hx, h⟩
    · rw [hb] at h; cases h
    · exact ⟨x, _, hx, hoj, h⟩
  refine wpIn_region_any hm ?_
  have Sd : Sim w0 P0 E0 pl0 N E pl s a { W with drawn := W.drawn + 1 } := by
    refine S.step (fun _ => False) rfl rfl rfl (Nat.le_refl _) (fun k _ _ => rfl) (fun k h => h.elim) (fun _ _ h => h) (fun k hk => .inl hk) ⟨fun i e he => ?_, S.eok.inj⟩
    exact (S.eok.ent i e he).move (fun _ => False) (fun k hk _ => rfl) (fun k h => h.elim) (fun _ _ h => h) (fun k hk => .inl hk) (fun _ _ _ h => h)
  have main : ∀ (fuel : Nat) (listed : Array Bool) (a : Act) (W : World) (pl : Plan), listed.size = ops.size → ((List.range ops.size).filter fun j => !listed.getD j true).length = fuel → ClosedB ops (fun j => listed.getD j false) →
      Sim w0 P0 E0 pl0 N (eB E upd (fun j => listed.getD j false) ops.size) pl (sB s dst val (fun j => listed.getD j false) ops.size) a W →
      (∀ x, n ≤ x → (∀ j, listed.getD j false = true → x ≠ n + j) → pl x = none) → wpAnyIn F 0 P .any ops Qx fuel listed a W := by
    intro fuel
    induction fuel with
    | zero =>
      intro listed a W pl hsz hcnt hc S hf
      have hall : ∀ j, j < ops.size → listed.getD j false = true := fun j hj => by
        have hj' : j < listed.size := by omega
        have hmem : j ∉ (List.range ops.size).filter fun j => !listed.getD j true := by
          rw [List.eq_nil_of_length_eq_zero hcnt]; exact List.not_mem_nil
        simp [List.mem_filter, hj, Array.getD_eq_getD_getElem?, Array.getElem?_eq_getElem hj'] at hmem
        simp [Array.getD_eq_getD_getElem?, Array.getElem?_eq_getElem hj', hmem]
      refine ⟨List.eq_nil_iff_forall_not_mem.2 (fun i hi => ?_), ?_⟩
      · obtain ⟨h1, o, ho, _⟩ := mem_ready.1 hi
        have hlt : i < ops.size := (Array.getElem?_eq_some_iff.1 ho).1
        have h2 := hall i hlt
        have hi' : i < listed.size := by omega
        simp [Array.getD_eq_getD_getElem?, Array.getElem?_eq_getElem hi'] at h1 h2
        rw [h1] at h2; cases h2
      · have e1 : sB s dst val (fun j => listed.getD j false) ops.size = sB s dst val (fun _ => true) ops.size := sB_all _ (fun j hj => hall j hj)
        have e2 : eB E upd (fun j => listed.getD j false) ops.size = eB E upd (fun _ => true) ops.size := eB_all _ (fun j hj => hall j hj)
        rw [e1, e2] at S
        exact hQ _ _ _ a W pl g5 S (fun x hx => hf x (by omega) (fun j hj => by
          have : j < listed.size := by
            apply Classical.byContradiction
            intro h
            simp [Array.getD_eq_getD_getElem?, Array.getElem?_eq_none (Nat.le_of_not_lt h)] at hj
          omega))
    | succ fuel ih =>
      intro listed a W pl hsz hcnt hc S hf
      have getT : ∀ j, j < ops.size → listed.getD j true = listed.getD j false := fun j hj => by
        have hj' : j < listed.size := by omega
        simp [Array.getD_eq_getD_getElem?, Array.getElem?_eq_getElem hj']
      refine ⟨fun hr => ?_, fun i hi => ?_⟩
      · exfalso
        obtain ⟨x, hx⟩ : ∃ x, x ∈ (List.range ops.size).filter fun j => !listed.getD j true := by
          cases hq : (List.range ops.size).filter fun j => !listed.getD j true with
          | nil => rw [hq] at hcnt; cases hcnt
          | cons x r => exact ⟨x, by simp⟩
        have least : ∀ k x, x ≤ k → x < ops.size → listed.getD x true = false → ∃ i, i < ops.size ∧ listed.getD i true = false ∧ ∀ j, j < i → listed.getD j true = true := by
          intro k
          induction k with
          | zero => intro x hx hl h; exact ⟨x, hl, h, fun j hj => by omega⟩
          | succ k ihk =>
            intro x hx hl h
            by_cases hex : ∃ j, j < x ∧ listed.getD j true = false
            · obtain ⟨j, hj, hjf⟩ := hex
              exact ihk j (by omega) (by omega) hjf
            · refine ⟨x, hl, h, fun j hj => ?_⟩
              cases hq : listed.getD j true with
              | true => rfl
              | false => exact absurd ⟨j, hj, hq⟩ hex
        simp only [List.mem_filter, List.mem_range, Bool.not_eq_true'] at hx
        obtain ⟨i, h1, h2, h3⟩ := least x x (Nat.le_refl _) hx.1 hx.2
        have ho := Array.getElem?_eq_getElem h1
        have : i ∈ Region.ready .any ops listed := mem_ready.2 ⟨h2, _, ho, fun e he hb => by
          have hlt := (drawOk_get hd ho).1 e he hb
          rw [← getT e.on (by omega)]
          exact h3 e.on hlt⟩
        rw [hr] at this
        cases this
      · obtain ⟨h1, o, ho, hdeps⟩ := mem_ready.1 hi
        have hlt : i < ops.size := (Array.getElem?_eq_some_iff.1 ho).1
        have hbi : listed.getD i false = false := by rw [← getT i hlt]; exact h1
        generalize hb : (fun j => listed.getD j false) = b at hc S hf
        have hbj : ∀ j, listed.getD j false = b j := fun j => by rw [← hb]
        rw [hbj] at hbi
        have done : ∀ j, ((bef ops).getD i 0).testBit j = true → b j = true := bef_done hc i o ho (fun e he hbb => by rw [← hbj]; exact hdeps e he hbb)
        have late : ∀ j, j < ops.size → ((bef ops).getD j 0).testBit i = true → b j = false := fun j hj hbit => by
          cases hq : b j with
          | false => rfl
          | true =>
            have hoj := Array.getElem?_eq_getElem hj
            have := bef_done hc j _ hoj (hc j _ hoj hq) i hbit
            rw [hbi] at this
            cases this
        -- the slots that it looks at
        have slotOk : ∀ t, t ∈ Oper.looksAt ops o → sB s dst val b ops.size t = sB s dst val (fun _ => true) i t := fun t ht => by
          rw [← sB_cut ops.size (by omega)]
          refine sB_agree ops.size (fun j hj hdj => ?_)
          rcases Nat.lt_trichotomy j i with hji | rfl | hji
          · rw [decide_eq_true hji]
            cases hq : ((bef ops).getD i 0).testBit j with
            | true => exact done j hq
            | false =>
              obtain ⟨x, y, hx, hy, hap⟩ := apartS j i hji hlt hq
              rw [ho] at hy
              injection hy with hy
              subst hy
              rw [hdst' j x hx] at hdj
              exact absurd ht ((Oper.apart_spec hap).1 t hdj)
          · rw [hbi, decide_eq_false (Nat.lt_irrefl _)]
          · rw [decide_eq_false (by omega)]
            cases hq : ((bef ops).getD j 0).testBit i with
            | true => exact late j hj hq
            | false =>
              obtain ⟨x, y, hx, hy, hap⟩ := apartS i j hji hj hq
              rw [ho] at hx
              injection hx with hx
              subst hx
              rw [hdst' j y hy] at hdj
              exact absurd ht ((Oper.apart_spec hap).2.2 t hdj)
        obtain ⟨r1, r2, r3⟩ := g1 i o ho
        have hrun : runs ops (sB s dst val b ops.size) o.guard = some (run i) := by
          rw [← r1]
          refine runs_congr (fun p hp t ht => slotOk t ?_)
          simp only [Oper.looksAt, hp, ht]
          exact List.mem_append_right _ (by simp)
        obtain ⟨hdo, hnd⟩ := hN o (by simpa using Array.mem_of_getElem? ho)
        -- what follows
        have dstOk : ∀ j, i < j → j < ops.size → b j = true → ∀ d, dst i = some d → dst j ≠ some d := fun j hij hj hbj d hdi hdj => by
          cases hq : ((bef ops).getD j 0).testBit i with
          | true => rw [late j hj hq] at hbj; cases hbj
          | false =>
            obtain ⟨x, y, hx, hy, hap⟩ := apartS i j hij hj hq
            rw [hdst' i x hx] at hdi
            rw [hdst' j y hy] at hdj
            exact (Oper.apart_spec hap).2.1 d hdi hdj
        obtain ⟨p, hp, hp2, hp1⟩ := g3 i o ho
        have logs : ∀ j, j < ops.size → ∃ q, lg[j]? = some q ∧ q.2 = (upd j).map (·.1) := fun j hj => by
          obtain ⟨q, hq, hq2, _⟩ := g3 j _ (Array.getElem?_eq_getElem hj)
          exact ⟨q, hq, hq2⟩
        have updOk : ∀ j, i < j → j < ops.size → b j = true → ∀ p ∈ upd i, ∀ q ∈ upd j, p.1 ≠ q.1 := fun j hij hj hbj p' hp' q' hq' => by
          cases hq : ((bef ops).getD j 0).testBit i with
          | true => rw [late j hj hq] at hbj; cases hbj
          | false =>
            obtain ⟨q, hql, hq2⟩ := logs j hj
            rcases logOk_get g4 hp hql hij with h | ⟨h, _⟩
            · rw [hq] at h; cases h
            · exact h p'.1 (by rw [hp2]; exact List.mem_map_of_mem hp') q'.1 (List.mem_append_right _ (by rw [hq2]; exact List.mem_map_of_mem hq'))
        have hsz' : (listed.setIfInBounds i true).size = ops.size := by simp [hsz]
        have hb' : (fun j => (listed.setIfInBounds i true).getD j false) = setAt b i true := by
          funext j
          by_cases hj : j = i
          · subst hj
            rw [setAt_self, Array.getD_eq_getD_getElem?, Array.getElem?_setIfInBounds_self_of_lt (by omega)]; rfl
          · rw [setAt_ne _ _ hj, ← hbj, Array.getD_eq_getD_getElem?, Array.getElem?_setIfInBounds_ne (Ne.symm hj), ← Array.getD_eq_getD_getElem?]
        have hcnt' : ((List.range ops.size).filter fun j => !(listed.setIfInBounds i true).getD j true).length = fuel := by
          have := count_up (f := fun j => !listed.getD j true) (f' := fun j => !(listed.setIfInBounds i true).getD j true) (i := i) (by simp [h1]) (by
            rw [Array.getD_eq_getD_getElem?, Array.getElem?_setIfInBounds_self_of_lt (by omega)]; rfl) (fun j hj => by
            rw [Array.getD_eq_getD_getElem?, Array.getElem?_setIfInBounds_ne (Ne.symm hj), ← Array.getD_eq_getD_getElem?]) (l := List.range ops.size) List.nodup_range (List.mem_range.2 hlt)
          omega
        have hc' : ClosedB ops (setAt b i true) := fun j oj hoj hbj' e he hbe => by
          by_cases hji : j = i
          · subst hji
            rw [ho] at hoj
            injection hoj with hoj
            subst hoj
            have := hdeps e he hbe
            rw [hbj] at this
            by_cases hei : e.on = j
            · rw [hei, setAt_self]
            · rw [setAt_ne _ _ hei]; exact this
          · rw [setAt_ne _ _ hji] at hbj'
            have := hc j oj hoj hbj' e he hbe
            by_cases hei : e.on = i
            · rw [hei, setAt_self]
            · rw [setAt_ne _ _ hei]; exact this
        have next : ∀ (u : Value) (pl1 : Plan) (W1 : World), Sim w0 P0 E0 pl0 N (upds (eB E upd b ops.size) (upd i)) pl1 (sB s dst val b ops.size) a W1 → (∀ x, x ≠ n + i → pl x = none → pl1 x = none) →
            Rep W1 (Qf (FF w0 P0) (upds (eB E upd b ops.size) (upd i)) pl1) pl1 (val i) u → wpAnyIn F 0 P .any ops Qx fuel (listed.setIfInBounds i true) (a.put o.dst u) W1 := by
          intro u pl1 W1 S1 hf1 hr1
          refine ih _ _ _ pl1 hsz' hcnt' (by rw [hb']; exact hc') ?_ (fun x hx hno => ?_)
          · rw [hb', sB_up hbi ops.size hlt dstOk, eB_up hbi ops.size hlt updOk, hdst' i o ho]
            exact S1.putv hdo hr1
          · rw [show (∀ j, (listed.setIfInBounds i true).getD j false = true → x ≠ n + j) = (∀ j, setAt b i true j = true → x ≠ n + j) by rw [← hb']] at hno
            refine hf1 x (hno i (setAt_self _ _ _)) (hf x hx (fun j hj => hno j (?_ : setAt b i true j = true)))
            by_cases hji : j = i
            · rw [hji, setAt_self]
            · rw [setAt_ne _ _ hji, ← hbj]; exact hj
        unfold wpOpIn
        simp only [ho]
        rw [runs_wanted S hrun]
        cases hrr : run i with
        | true =>
          simp only [if_true]
          obtain ⟨v, e1, e2⟩ := r2 hrr
          have hE : Does P (n + i) (sB s dst val b ops.size) (eB E upd b ops.size) o.op v (upd i) (lks i) := by
            refine e1.congr (fun x hx => ?_) (fun x hx => ?_)
            · cases x with
              | tmp t =>
                refine (slotOk t ?_).symm
                simp only [Oper.looksAt]
                refine List.mem_append_left _ (List.mem_filterMap.2 ⟨.tmp t, by simpa using hx, rfl⟩)
              | const v => rfl
              | global g => rfl
              | func f => rfl
            · rw [← eB_cut ops.size (by omega)]
              refine (eB_agree ops.size (fun j hj hdj => ?_)).symm
              obtain ⟨q, hql, hq2⟩ := logs j hj
              obtain ⟨pj, hpj, hpx⟩ := hdj
              have hmem : x ∈ q.2 := by rw [hq2, ← hpx]; exact List.mem_map_of_mem hpj
              have hlx : x ∈ p.1 ++ p.2 := List.mem_append_left _ (by rw [hp1 hrr]; exact hx)
              rcases Nat.lt_trichotomy j i with hji | rfl | hji
              · rw [decide_eq_true hji]
                cases hq : ((bef ops).getD i 0).testBit j with
                | true => exact done j hq
                | false =>
                  rcases logOk_get g4 hql hp hji with h | ⟨h, _⟩
                  · rw [hq] at h; cases h
                  · exact absurd rfl (h x hmem x hlx)
              · rw [hbi, decide_eq_false (Nat.lt_irrefl _)]
              · rw [decide_eq_false (by omega)]
                cases hq : ((bef ops).getD j 0).testBit i with
                | true => exact late j hj hq
                | false =>
                  rcases logOk_get g4 hp hql hji with h | ⟨_, h⟩
                  · rw [hq] at h; cases h
                  · exact absurd rfl (h x hmem x hlx)
          refine Oper.wp_in hF hnd (hE.sound S (hf (n + i) (by omega) (fun j hj => fun e => by
            have : i = j := by omega
            subst this
            rw [hbj, hbi] at hj; cases hj)) (fun u pl1 W1 S1 hf1 hr1 => next u pl1 W1 S1 hf1 (by rw [e2]; exact hr1)))
        | false =>
          simp only [Bool.false_eq_true, if_false]
          obtain ⟨u1, u2⟩ := r3 hrr
          refine ⟨fun f _ => hF.fn f, next undef pl W ?_ (fun x _ h => h) ?_⟩
          · rw [u1]; exact S
          · rw [u2]; exact undef_rep
  refine main ops.size (Array.replicate ops.size false) a _ pl (by simp) ?_ (fun j o ho hj => ?_) ?_ (fun x hx _ => hf x hx)
  · have : ((List.range ops.size).filter fun j => !(Array.replicate ops.size false).getD j true) = List.range ops.size := by
      rw [List.filter_eq_self]
      intro j hj
      have := List.mem_range.1 hj
      simp [Array.getD_eq_getD_getElem?, this]
    rw [this]; simp
  · have : (Array.replicate ops.size false).getD j false = false := by
      simp only [Array.getD_eq_getD_getElem?, Array.getElem?_replicate]
      split <;> rfl
    have hj' : (Array.replicate ops.size false).getD j false = true := hj
    rw [this] at hj'; cases hj'
  · have hz : ∀ j, (Array.replicate ops.size false).getD j false = false := fun j => by
      simp only [Array.getD_eq_getD_getElem?, Array.getElem?_replicate]
      split <;> rfl
    have e1 : ∀ k, sB s dst val (fun j => (Array.replicate ops.size false).getD j false) k = s := by
      intro k
      induction k with
      | zero => rfl
      | succ k ih => simp only [sB]; rw [if_neg (by rw [hz]; simp)]; exact ih
    have e2 : ∀ k, eB E upd (fun j => (Array.replicate ops.size false).getD j false) k = E := by
      intro k
      induction k with
      | zero => rfl
      | succ k ih => simp only [eB]; rw [if_neg (by rw [hz]; simp)]; exact ih
    rw [e1, e2]
    exact Sd
end
end Go.VL

/- A small program logic over the translated Go code, seventeenth part: code, and whole functions. -/
set_option linter.unusedVariables false
set_option linter.unusedSimpArgs false
namespace Go.VL
open Go.RowKit

/-- Memory has changed, but for cells. -/
theorem RepB.moveC {W W1 : World} {Q : Nat → Prop} {x : B} {v : Value} (h : RepB W Q x v) (hs : ∀ (k : Nat) (o : Obj), W.heap[k]? = some o → o.isCells = true → W1.heap[k]? = some o) : RepB W1 Q x v := by
  have cell : ∀ {A : Addr} {u : Value}, W.cell? A = some u → W1.cell? A = some u := fun {A u} h => by
    obtain ⟨o, h1, h2⟩ := cells_of_cell h
    unfold World.cell? at h ⊢
    rw [hs _ _ h1 h2]; rw [h1] at h; exact h
  induction h with
  | lit v h => exact .lit v h
  | nil => exact .nil
  | nilsl sz hs0 => exact .nilsl sz hs0
  | sl A n c sz l u hl hc hm hs0 hq hcell h1 hrep ih => exact .sl A n c sz l u hl hc hm hs0 hq (fun j hj => cell (hcell j hj)) h1 ih
  | agg l a u hl hu h1 hrep ih => exact .agg l a u hl hu h1 ih
  | tup l a u hl hu hrep ih => exact .tup l a u hl hu ih
section
variable {W W1 : World} {Q : Nat → Prop} {pl : Plan} (hs : ∀ (k : Nat) (o : Obj), W.heap[k]? = some o → o.isCells = true → W1.heap[k]? = some o)
include hs
theorem RepP.moveC {x : V} {v : Value} (h : RepP W Q pl x v) : RepP W1 Q pl x v := by
  cases x <;> first | exact h | exact RepB.moveC h hs
theorem RepL.moveC {x : V} {v : Value} (h : RepL W Q pl x v) : RepL W1 Q pl x v := by
  cases x with
  | rd l =>
    obtain ⟨A, u, hv, hq, hcell, h1, hr⟩ := h
    refine ⟨A, u, hv, hq, fun j hj => ?_, h1, fun j x hj => (hr j x hj).moveC hs⟩
    obtain ⟨o, k1, k2⟩ := cells_of_cell (hcell j hj)
    have h := hcell j hj
    unfold World.cell? at h ⊢
    rw [hs _ _ k1 k2]; rw [k1] at h; exact h
  | cut sz l => exact ⟨RepB.moveC h.1 hs, h.2⟩
  | fn f l =>
    obtain ⟨arr, h1, h2, h3⟩ := h
    refine ⟨arr, h1, h2, fun j x hj => ?_⟩
    obtain ⟨y, hy, hr⟩ := h3 j x hj
    exact ⟨y, hy, RepP.moveC hs hr⟩
  | b x => exact RepB.moveC h hs
  | _ => exact h
theorem RepA.moveC {x : V} {v : Value} (h : RepA W Q pl x v) : RepA W1 Q pl x v := by
  cases x with
  | agg l =>
    obtain ⟨a, h1, h2, h3⟩ := h
    refine ⟨a, h1, h2, fun j x hj => ?_⟩
    obtain ⟨y, hy, hy1, hr⟩ := h3 j x hj
    exact ⟨y, hy, hy1, RepL.moveC hs hr⟩
  | b x => exact RepB.moveC (x := x) h hs
  | own i n => exact h
  | ptr i off => exact h
  | rd l => exact RepL.moveC (pl := pl) (x := .rd l) hs h
  | fn f l => exact RepL.moveC (pl := pl) (x := .fn f l) hs h
  | tup l => exact h.elim
  | win i off n => exact h
  | cut sz l => exact RepL.moveC (pl := pl) (x := .cut sz l) hs h
  | row i n c => exact h
theorem Rep.moveC {x : V} {v : Value} (h : Rep W Q pl x v) : Rep W1 Q pl x v := by
  cases x with
  | tup l =>
    obtain ⟨a, h1, h2, h3⟩ := h
    refine ⟨a, h1, h2, fun j x hj => ?_⟩
    obtain ⟨y, hy, hr⟩ := h3 j x hj
    exact ⟨y, hy, RepA.moveC hs hr⟩
  | agg l => exact RepA.moveC (pl := pl) (x := .agg l) hs h
  | b x => exact RepB.moveC (x := x) h hs
  | own i n => exact h
  | ptr i off => exact h
  | rd l => exact RepA.moveC (pl := pl) (x := .rd l) hs h
  | fn f l => exact RepA.moveC (pl := pl) (x := .fn f l) hs h
  | win i off n => exact h
  | cut sz l => exact RepA.moveC (pl := pl) (x := .cut sz l) hs h
  | row i n c => exact h
end
/-- An object of this frame's that is no row is written; the calls put off are other ones. -/
theorem Sim.obj {w0 W : World} {P0 : Nat → Prop} {E0 E : Env} {pl0 pl : Plan} {N : Frm} {s : Slots} {a : Act} (S : Sim w0 P0 E0 pl0 N E pl s a W) {D : Nat} {o : Obj} (o' : Obj) (hD : W.heap[D]? = some o) (ho : o.isCells = false) (hn : w0.heap.size ≤ D)
    {ds : List Deferred} (hds : Marked w0.heap.size N.ob (W.putObj D o') ds) : Sim w0 P0 E0 pl0 N E pl s { a with defers := ds } (W.putObj D o') := by
  have hs : ∀ (k : Nat) (o : Obj), W.heap[k]? = some o → o.isCells = true → (W.putObj D o').heap[k]? = some o := fun k o1 h1 h2 => by
    have hk : k ≠ D := fun e => by subst e; rw [hD] at h1; injection h1 with h1; subst h1; rw [ho] at h2; cases h2
    rw [World.putObj_heap_other hk]; exact h1
  refine ⟨⟨S.keep.os, S.keep.tape, S.keep.output, by simpa [World.putObj] using S.keep.size, fun k hk hh => ?_⟩, S.mine, ⟨fun i e he => ?_, S.eok.inj⟩, S.plan, fun t x ht => ?_, ⟨S.size.size, S.size.fix⟩, hds⟩
  · rw [World.putObj_heap_other (by omega)]; exact S.keep.block k hk hh
  · obtain ⟨g, c, cur, T, h1, h2, h3, h4, h5, h6, h7, h8⟩ := S.eok.ent i e he
    refine ⟨g, c, cur, T, h1, fun h0 => hs _ _ (h2 h0) rfl, h3, h4, h5, h6, h7, fun j x hj => ?_⟩
    obtain ⟨u, hu, hu1, hr⟩ := h8 j x hj
    exact ⟨u, hu, hu1, RepL.moveC hs hr⟩
  · obtain ⟨u, hu, hr⟩ := S.slots t x ht
    exact ⟨u, hu, Rep.moveC hs hr⟩
/-- A frame on its way out. -/
theorem Sim.leaves {P : Program} {w0 : World} {P0 : Nat → Prop} {E0 E : Env} {pl0 pl : Plan} {N : Frm} {s : Slots} {fn : Func} {R : Ending → World → Prop} (hob : N.ob = fun _ => none) : ∀ (L : List Nat) (a : Act) (W : World), a.defers = L.map markD → Sim w0 P0 E0 pl0 N E pl s a W →
    (∀ W', Sim w0 P0 E0 pl0 N E pl s { a with defers := [] } W' → ∃ v, (results fn a.tmps).run P W' = .ok v W' ∧ R (.returned v) W') → LeavesInM Fence.wide 0 P fn a.tmps R (L.map markD) .returning W
  | [], a, W, hd, S, h => by
    have e : a = { a with defers := [] } := by cases a; simp only at hd; subst hd; rfl
    exact h W (e ▸ S)
  | D :: L, a, W, hd, S, h => by
    obtain ⟨_, L', h1, h2, h3⟩ := S.defers
    have hL : L' = D :: L := by
      have : ∀ (l l' : List Nat), l.map markD = l'.map markD → l = l' := by
        intro l
        induction l with
        | nil => intro l' h; cases l' with | nil => rfl | cons x r => cases h
        | cons x r ih =>
          intro l' h
          cases l' with
          | nil => cases h
          | cons y q =>
            simp only [List.map_cons, List.cons.injEq] at h
            have hx : x = y := by
              have := h.1; unfold markD at this; injection this with this _; injection this
            rw [hx, ih q h.2]
      exact this _ _ (h1.symm.trans hd)
    subst hL
    obtain ⟨d1, d2⟩ := List.nodup_cons.1 h2
    obtain ⟨k1, k2⟩ := h3 D (by simp)
    have hm : Marked w0.heap.size N.ob (W.putObj D (.deferred none)) (L.map markD) := ⟨(fun l o hl => by rw [hob] at hl; cases hl), L, rfl, d2, fun D' hD' => by
      have hne : D' ≠ D := fun e => d1 (e ▸ hD')
      rw [World.putObj_heap_other hne]
      exact h3 D' (by simp [hD'])⟩
    have S1 := S.obj (.deferred none) k2 rfl k1 hm
    refine ⟨by simp, .inl ⟨D, _, rfl, run_takeDeferred k2, ?_⟩⟩
    exact Sim.leaves hob L { a with defers := L.map markD } _ rfl S1 h
/-- What a frame must achieve, marks and all. -/
theorem Sim.out {P : Program} {w0 W : World} {P0 : Nat → Prop} {E0 E : Env} {pl0 pl : Plan} {N : Frm} {s : Slots} {a : Act} {fn : Func} {R : Ending → World → Prop} {e : VExit} (hob : N.ob = fun _ => none) (S : Sim w0 P0 E0 pl0 N E pl s a W) (he : match e with | .exit _ => False | _ => True)
    (h : ∀ W', Sim w0 P0 E0 pl0 N E pl s { a with defers := [] } W' → ∃ v, (results fn a.tmps).run P W' = .ok v W' ∧ R (.returned v) W') : bodyPostM Fence.wide 0 P fn R e.to a W := by
  obtain ⟨_, L, h1, _⟩ := S.defers
  have := Sim.leaves hob L a W h1 S h
  rw [← h1] at this
  cases e with
  | normal => exact this
  | ret => exact this
  | exit id => exact he.elim
theorem wpIn_scope_straight {P : Program} {F : Fence} (hF : RF F) {Q : Exit → Act → World → Prop} {a : Act} {w : World} {c : Code} (h : c.wpIn F 0 P (Exit.noGoto Q) a w) : (Code.scope c).wpIn F 0 P Q a w := by
  intro b k cs hro hb hr
  have s1 : step P (lone (b.atR a (.code (.scope c) :: k)) cs w) = .next (lone (b.atR a (.code c :: .inScope c :: k)) cs w) := step_lone_go (by simp [stepG, stepG.exec, Frame.atR])
  have s2 : ∀ a w, step P (lone (b.atR a (.inScope c :: k)) cs w) = .next (lone (b.atR a k) cs w) := fun a w => step_lone_go (by simp [stepG, stepG.exec, Frame.atR])
  have h0 := hF.fenced (P := P) (lone (b.atR a (.code (.scope c) :: k)) cs w)
  obtain ⟨e, a₁, w₁, hq, harr⟩ := h b (.inScope c :: k) cs hro hb hr
  have hx : ∀ id, exitTo id (.inScope c :: k) = exitTo id k := fun id => by simp [exitTo]
  cases e with
  | normal => exact ⟨.normal, a₁, w₁, hq, .head h0 s1 (StepsIn.trans harr (.one (hF.fenced _) (s2 _ _)))⟩
  | exit id =>
    exact ⟨.exit id, a₁, w₁, hq, fun k' hk => .head h0 s1 (harr.1 k' (by rw [hx]; exact hk)),
      fun hr' hk => let ⟨k₁, h1, h2⟩ := harr.2 hr' (by rw [hx]; exact hk); ⟨k₁, h1, .head h0 s1 h2⟩⟩
  | goto l => exact hq.elim
  | ret => exact ⟨_, a₁, w₁, hq, .of_steps (.one h0 s1) harr⟩
  | panic ch => exact ⟨_, a₁, w₁, hq, .of_steps (.one h0 s1) harr⟩
  | outgrown => exact ⟨_, a₁, w₁, hq, .of_steps (.one h0 s1) harr⟩
theorem RF.wide : RF Fence.wide := ⟨fun _ => trivial, rfl, rfl⟩
theorem RF.round {F : Fence} (h : RF F) (l : Nat) : RF (F.inRound l) := ⟨h.fn, h.depth, h.alive⟩

theorem least_nat (p : Nat → Prop) (h : ∃ n, p n) : ∃ n, p n ∧ ∀ m, p m → n ≤ m := by
  obtain ⟨n, hn⟩ := h
  induction n using Nat.strongRecOn with
  | _ n ih =>
    by_cases hex : ∃ m, m < n ∧ p m
    · obtain ⟨m, hm, hp⟩ := hex
      exact ih m hm hp
    · exact ⟨n, hn, fun m hm => Nat.le_of_not_lt (fun h => hex ⟨m, h, hm⟩)⟩

section
variable {P : Program} {w0 W W1 : World} {P0 F : Nat → Prop} {E0 E E1 : Env} {pl0 pl pl1 : Plan} {N : Frm} {id : Nat} {s : Slots} {a : Act} {o : Oper} {K : Act → World → Prop} {Qx : Exit → Act → World → Prop}

/-- Less is told of a frame. -/
theorem Sim.weakR (S : Sim w0 P0 E0 pl0 N E pl s a W) {k : Nat} (h0 : ∀ i, k ≤ i → pl0 i = none) {ρ : Nat → Nat} {n1 : Nat} {s1 : Slots} (hw : WeakR ρ k s E n1 s1 E1) :
    Sim w0 P0 E0 pl0 N E1 (fun i => if i < n1 then pl (ρ i) else none) s1 a W := by
  have hh : ∀ k, Hot E1 (fun i => if i < n1 then pl (ρ i) else none) k → Hot E pl k := fun k hk => by
    obtain ⟨i, e, c, h1, h2, h3⟩ := hk
    obtain ⟨q1, q2, _⟩ := hw.ent i e h1
    simp only [q2, if_true] at h3
    exact ⟨ρ i, _, c, q1, h2, h3⟩
  have hQ : ∀ k, Qf (FF w0 P0) E pl k → Qf (FF w0 P0) E1 (fun i => if i < n1 then pl (ρ i) else none) k := fun k hk => ⟨hk.1, fun h => hk.2 (hh k h)⟩
  refine ⟨S.keep, fun k hk => S.mine k (hh k hk), ⟨fun i e he => ?_, fun i j e e' g c c' hi hj pi pj => ?_⟩, (fun i p h => by
    have hk : i < k := Nat.lt_of_not_le (fun hc => by rw [h0 i hc] at h; cases h)
    have hlt : i < n1 := Nat.lt_of_lt_of_le hk hw.lent
    simp only [hlt, if_true, hw.low i hk]; exact S.plan i p h), fun t x ht => ?_, S.size, S.defers⟩
  · obtain ⟨q1, q2, q3⟩ := hw.ent i e he
    obtain ⟨g, c, cur, T, r1, r2, r3, r4, r5, r6, r7, r8⟩ := S.eok.ent (ρ i) _ q1
    refine ⟨g, c, cur, T, by simp [q2, r1], r2, r3, r4, by simpa [Ent.ren] using r5, r6, r7, fun j x hj => ?_⟩
    obtain ⟨u, hu, hu1, hr⟩ := r8 j (x.ren1 ρ) (by simp only [Ent.ren]; rw [List.getElem?_map, hj]; rfl)
    exact ⟨u, hu, hu1, hr.less hQ (fun i hi => by simp [q3 x (List.mem_of_getElem? hj) i hi])⟩
  · obtain ⟨q1, q2, _⟩ := hw.ent i e hi
    obtain ⟨r1, r2, _⟩ := hw.ent j e' hj
    simp only [q2, if_true] at pi
    simp only [r2, if_true] at pj
    exact hw.inj i j e e' hi hj (S.eok.inj (ρ i) (ρ j) _ _ g c c' q1 r1 pi pj)
  · obtain ⟨q1, q2⟩ := hw.slot t x ht
    obtain ⟨u, hu, hr⟩ := S.slots t _ q1
    exact ⟨u, hu, hr.less hQ (fun i hi => by simp [q2 i hi])⟩
theorem rep_nil {Q1 Q2 : Nat → Prop} {x : V} {u : Value} (hx : x.nilLike = true) (hr : Rep W Q1 pl x u) {sz : Nat} (hs : 0 < sz) : RepB W Q2 (.sl sz []) u := by
  unfold V.nilLike at hx
  split at hx
  · have hr : RepB W Q1 .nil u := hr
    cases hr with | nil => exact .nilsl sz hs
  · rename_i k
    have hr : RepB W Q1 (.sl k []) u := hr
    cases hr with
    | nilsl _ _ => exact .nilsl sz hs
    | sl A n c _ _ f hl hc hm hs0 hqq hcell hone hrr =>
      have hn : n = 0 := by
        rcases Nat.mul_eq_zero.1 hl.symm with h | h
        · exact h
        · omega
      subst hn
      exact .sl A 0 c sz [] f (by simp) hc hm hs (fun h => by simp at h) (fun j hj => by simp at hj) (fun j hj => by simp at hj) (fun j x hj => by simp at hj)
  · have hr : RepB W Q1 (.lit (.slice none 0 0)) u := hr
    cases hr with | lit _ _ => exact .nilsl sz hs
  · cases hx
theorem Sim.conv {s1 : Slots} (S : Sim w0 P0 E0 pl0 N E pl s a W) (h : Conv s E s1 E1) : Sim w0 P0 E0 pl0 N E1 pl s1 a W := by
  have hh : ∀ k, Hot E1 pl k → Hot E pl k := fun k hk => by
    obtain ⟨i, e1, c, h1, h2, h3⟩ := hk
    obtain ⟨e, he, _, hot, _⟩ := h.ent i e1 h1
    exact ⟨i, e, c, he, by show e.tg.b = true; rw [← hot]; exact h2, h3⟩
  have hQ : ∀ k, Qf (FF w0 P0) E pl k → Qf (FF w0 P0) E1 pl k := fun k hk => ⟨hk.1, fun h => hk.2 (hh k h)⟩
  have rowOf : ∀ {x y : V} {u : Value}, RowOf x y → Rep W (Qf (FF w0 P0) E pl) pl x u → Rep W (Qf (FF w0 P0) E1 pl) pl y u := fun {x y u} hc hr => by
    unfold RowOf at hc
    split at hc
    · have hr : RepB W (Qf (FF w0 P0) E pl) .nil u := hr
      subst hc
      cases hr with | nil => exact .inl ⟨rfl, rfl, rfl⟩
    · obtain ⟨rfl, rfl⟩ := hc
      obtain ⟨g, c, h1, h2, h3⟩ := hr
      exact .inr ⟨g, c, h1, h2, h3, fun q h => by cases h⟩
    · obtain ⟨rfl, rfl⟩ := hc
      rcases hr with ⟨h, _⟩ | ⟨g, c, h1, h2, h3, _⟩
      · cases h
      · exact .inr ⟨g, c, h1, h2, h3, fun q h => by cases h⟩
    · obtain ⟨rfl, rfl⟩ := hc
      rcases hr with ⟨h, _⟩ | ⟨g, c, h1, h2, h3, _⟩
      · cases h
      · exact ⟨g, c, h1, h2, h3⟩
    · exact hc.elim
  have conv : ∀ {x y : V} {u : Value}, ConvV E x y → Rep W (Qf (FF w0 P0) E pl) pl x u → Rep W (Qf (FF w0 P0) E1 pl) pl y u := fun {x y u} hc hr => by
    rcases hc with rfl | ⟨b, hb, rfl, hcold⟩ | ⟨hn, sz, hs, rfl⟩ | hc
    · exact hr.move (fun _ _ _ => rfl) (fun k hk _ => hQ k hk) (fun _ _ h => h)
    · refine rep_res S.eok hb hr hQ (fun i hi e g c he hp hF => ⟨hF, fun hot => ?_⟩)
      obtain ⟨j, e', c', h1, h2, h3⟩ := hh g hot
      have hij := S.eok.inj j i e' e g c' c h1 he h3 hp
      subst hij
      rw [he] at h1
      injection h1 with h1
      subst h1
      rw [hcold j hi e he] at h2
      cases h2
    · exact rep_nil hn hr hs
    · exact rowOf hc hr
  have convL : ∀ {x y : V} {u : Value}, ConvV E x y → RepL W (Qf (FF w0 P0) E pl) pl x u → RepL W (Qf (FF w0 P0) E1 pl) pl y u := fun {x y u} hc hr => by
    have hrep : Rep W (Qf (FF w0 P0) E pl) pl x u := by
      cases x with
      | agg l => exact hr.elim
      | tup l => exact hr.elim
      | b x => exact hr
      | own i n => exact hr
      | ptr i off => exact hr
      | rd l => exact hr
      | fn f l => exact hr
      | win i off n => exact hr
      | cut sz l => exact hr
      | row i n c => exact hr
    rcases hc with rfl | ⟨b, hb, rfl, hcold⟩ | ⟨hn, sz, hs, rfl⟩ | hc
    · exact hr.move (fun _ _ _ => rfl) (fun k hk _ => hQ k hk) (fun _ _ h => h)
    · exact conv (.inr (.inl ⟨b, hb, rfl, hcold⟩)) hrep
    · exact conv (.inr (.inr (.inl ⟨hn, sz, hs, rfl⟩))) hrep
    · have := rowOf hc hrep
      unfold RowOf at hc
      split at hc <;> first | exact this | exact hc.elim
  refine ⟨S.keep, fun k hk => S.mine k (hh k hk), ⟨fun i e1 he1 => ?_, fun i j e e' g c c' hi hj pi pj => ?_⟩, S.plan, fun t y ht => ?_, S.size, S.defers⟩
  · obtain ⟨e, he, hsz, htg, hlen, hcs⟩ := h.ent i e1 he1
    obtain ⟨g, c, cur, T, r1, r2, r3, r4, r5, r6, r7, r8⟩ := S.eok.ent i e he
    refine ⟨g, c, cur, T, r1, r2, r3, by rw [hsz]; exact r4, by rw [hlen]; exact r5, r6, by rw [hsz]; exact ⟨r7.1, by rw [htg]; exact r7.2⟩, fun j y hj => ?_⟩
    obtain ⟨x, hx, hc⟩ := hcs j y hj
    obtain ⟨u, hu, hu1, hr⟩ := r8 j x hx
    exact ⟨u, hu, hu1, convL hc hr⟩
  · obtain ⟨e1, h1, _⟩ := h.ent i e hi
    obtain ⟨e2, h2, _⟩ := h.ent j e' hj
    exact S.eok.inj i j e1 e2 g c c' h1 h2 pi pj
  · obtain ⟨x, hx, hc⟩ := h.slot t y ht
    obtain ⟨u, hu, hr⟩ := S.slots t x hx
    exact ⟨u, hu, conv hc hr⟩
theorem Sim.weak (S : Sim w0 P0 E0 pl0 N E pl s a W) {k : Nat} (h0 : ∀ i, k ≤ i → pl0 i = none) {n1 : Nat} {s1 : Slots} (hw : Weak k s E n1 s1 E1) :
    ∃ pl1, Sim w0 P0 E0 pl0 N E1 pl1 s1 a W ∧ ∀ i, n1 ≤ i → pl1 i = none := by
  rcases hw with ⟨ρ, hw⟩ | ⟨nv, s', E', ρ, hc, hw⟩
  · exact ⟨_, S.weakR h0 hw, fun i hi => by simp; omega⟩
  · exact ⟨_, ((S.cools nv).conv hc).weakR h0 hw, fun i hi => by simp; omega⟩

theorem VCode.sound {F : Fence} (hF : RF F) {k : Nat} (h0 : ∀ i, k ≤ i → pl0 i = none) (hm : P.follows .mixedOrders = true) : ∀ (c : Code) (n : Nat) (s : Slots) (E : Env) (Q : VExit → Nat → Slots → Env → Prop) (Qx : Exit → Act → World → Prop) (a : Act) (W : World) (pl : Plan), VCode P k c n s E Q → codeOk N c = true →
    Sim w0 P0 E0 pl0 N E pl s a W → (∀ i, n ≤ i → pl i = none) →
    (∀ e n s E a W pl, Q e n s E → Sim w0 P0 E0 pl0 N E pl s a W → (∀ i, n ≤ i → pl i = none) → Qx e.to a W) → (F.round = none ∨ noRange c = true) → c.wpIn F 0 P Qx a W := by
  intro c
  induction c with
  | skip => intro n s E Q Qx a W pl h hN S hf hQ hR; exact wpIn_skip (hQ .normal n s E a W pl h S hf)
  | region rid ops d =>
    intro n s E Q Qx a W pl h hN S hf hQ hR
    have hN' : ∀ o ∈ ops.toList, (∀ d, o.dst = some d → N.ok d) ∧ Op.notDefer o.op = true := fun o ho => by
      have := List.all_eq_true.1 hN o ho
      simp only [Bool.and_eq_true] at this
      refine ⟨fun d hd => ?_, this.2⟩
      have := this.1
      rw [hd] at this
      simpa [Frm.ok] using this
    cases d with
    | false => exact wpIn_region_list (VList.sound hF ops.toList n s E a W pl h hN' S hf (fun n s E a W pl h S hf => hQ .normal n s E a W pl h S hf))
    | true =>
      obtain ⟨h1, h2⟩ := h
      exact draw_sound hF hm h1 hN' h2 S hf (fun n s E a W pl h S hf => hQ .normal n s E a W pl h S hf)
  | seq x y ihx ihy =>
    intro n s E Q Qx a W pl h hN S hf hQ hR
    simp only [codeOk, Bool.and_eq_true] at hN
    have hR1 := hR.imp id (fun h => (Bool.and_eq_true _ _ ▸ (show (noRange x && noRange y) = true from h)).1)
    have hR2 := hR.imp id (fun h => (Bool.and_eq_true _ _ ▸ (show (noRange x && noRange y) = true from h)).2)
    refine wpIn_seq (ihx n s E _ _ a W pl h hN.1 S hf (fun e n s E a W pl he S hf => ?_) hR1)
    cases e with
    | normal =>
      rcases he with he | ⟨n1, s1, E1, hw, he⟩
      · exact ihy n s E Q Qx a W pl he hN.2 S hf hQ hR2
      · obtain ⟨pl1, hS1, hf1⟩ := S.weak h0 hw
        exact ihy n1 s1 E1 Q Qx a W pl1 he hN.2 hS1 hf1 hQ hR2
    | exit id => exact hQ (.exit id) n s E a W pl he S hf
    | ret => exact hQ .ret n s E a W pl he S hf
  | cond c x y ihx ihy =>
    intro n s E Q Qx a W pl h hN S hf hQ hR
    simp only [codeOk, Bool.and_eq_true] at hN
    have hR1 := hR.imp id (fun h => (Bool.and_eq_true _ _ ▸ (show (noRange x && noRange y) = true from h)).1)
    have hR2 := hR.imp id (fun h => (Bool.and_eq_true _ _ ▸ (show (noRange x && noRange y) = true from h)).2)
    obtain ⟨t, ht, h1, h2⟩ := h
    exact wpIn_cond_split (rep_lit (S.ev ht)) (fun h => ihx n s E Q Qx a W pl (h1 h) hN.1 S hf hQ hR1) (fun h => ihy n s E Q Qx a W pl (h2 h) hN.2 S hf hQ hR2)
  | block bid b ih =>
    intro n s E Q Qx a W pl h hN S hf hQ hR
    refine wpIn_block (ih n s E _ _ a W pl h hN S hf (fun e n s E a W pl he S hf => ?_) hR)
    cases e with
    | normal => exact hQ .normal n s E a W pl he S hf
    | exit id' =>
      simp only [VExit.to, Exit.inBlock]
      simp only at he
      split
      · rename_i hid; rw [if_pos hid] at he; exact hQ .normal n s E a W pl he S hf
      · rename_i hid; rw [if_neg hid] at he; exact hQ (.exit id') n s E a W pl he S hf
    | ret => exact hQ .ret n s E a W pl he S hf
  | loop b ih =>
    intro n s E Q Qx a W pl h hN S hf hQ hR
    obtain ⟨α, st, ok, μ, ⟨x0, hx0, hw0⟩, hround⟩ := h
    let pm : Act → World → Nat → Prop := fun a W m => ∃ x pl, ok x ∧ Sim w0 P0 E0 pl0 N (st x).2.2 pl (st x).2.1 a W ∧ (∀ i, (st x).1 ≤ i → pl i = none) ∧ μ x = m
    have hl : ∀ a W, ∃ m, (∃ m, pm a W m) → pm a W m ∧ ∀ k, pm a W k → m ≤ k := fun a W => by
      by_cases h : ∃ m, pm a W m
      · obtain ⟨m, h1, h2⟩ := least_nat _ h
        exact ⟨m, fun _ => ⟨h1, h2⟩⟩
      · exact ⟨0, fun h' => absurd h' h⟩
    obtain ⟨pl1, hS1, hf1⟩ := S.weak h0 hw0
    refine wpIn_loop (fun a W => ∃ m, pm a W m) (fun a W => Classical.choose (hl a W)) ⟨_, x0, pl1, hx0, hS1, hf1, rfl⟩ (fun a W hI => ?_)
    obtain ⟨⟨x, pl, k1, k2, k3, k4⟩, hmin⟩ := Classical.choose_spec (hl a W) hI
    refine ih _ _ _ _ _ a W pl (hround x k1) hN k2 k3 (fun e n' s' E' a' W' pl' he S' hf' => ?_) hR
    cases e with
    | normal =>
      obtain ⟨y, e1, e2, e3⟩ := he
      obtain ⟨pl2, hS, hf2⟩ := S'.weak h0 e3
      have hpm : pm a' W' (μ y) := ⟨y, pl2, e1, hS, hf2, rfl⟩
      have hI' : ∃ m, pm a' W' m := ⟨_, hpm⟩
      refine ⟨hI', ?_⟩
      have := (Classical.choose_spec (hl a' W') hI').2 _ hpm
      show Classical.choose (hl a' W') < Classical.choose (hl a W)
      omega
    | exit id => exact hQ (.exit id) n' s' E' a' W' pl' he S' hf'
    | ret => exact hQ .ret n' s' E' a' W' pl' he S' hf'
  | rangeFunc f ps x y ihx ihy =>
    intro n s E Q Qx a W pl h hN S hf hQ hR
    rcases hR with hR | hR
    · exact h F w0 W P0 E0 pl0 pl N a Qx hF hR hm hN h0 S hf hQ
    · cases hR
  | exit id => intro n s E Q Qx a W pl h hN S hf hQ hR; exact wpIn_exit (hQ (.exit id) n s E a W pl h S hf)
  | scope b ih =>
    intro n s E Q Qx a W pl h hN S hf hQ hR
    refine wpIn_scope_straight hF (ih n s E Q _ a W pl h hN S hf (fun e n s E a W pl he S hf => ?_) hR)
    have := hQ e n s E a W pl he S hf
    cases e <;> exact this
  | label l => intro n s E Q Qx a W pl h hN S hf hQ hR; exact wpIn_label (hQ .normal n s E a W pl h S hf)
  | goto l => intro n s E Q Qx a W pl h hN S hf hQ hR; exact h.elim
  | ret => intro n s E Q Qx a W pl h hN S hf hQ hR; exact wpIn_ret (hQ .ret n s E a W pl h S hf)
  | refuse w => intro n s E Q Qx a W pl h hN S hf hQ hR; exact h.elim
end

def argSlots (args : List B) : Slots := fun t => (args[t]?).map .b

/-- What a result variable holds at the end. -/
def resVar (P : Program) (s : Slots) (E : Env) : ResultVar → Option B
  | .tmp t => (s t).bind (res E)
  | .cell t T => match s t with
    | some (.ptr i off) => match E i, aggOf P T, szOf P T with
      | some e, some true, some n => if off + n ≤ e.cells.length then res E (.agg ((e.cells.drop off).take n)) else none
      | some e, some false, _ => (e.cells[off]?).bind (resL E)
      | _, _, _ => none
    | _ => none
def resVars (P : Program) (s : Slots) (E : Env) : List ResultVar → Option (List B)
  | [] => some []
  | v :: r => match resVar P s E v, resVars P s E r with
    | some x, some xs => some (x :: xs)
    | _, _ => none
def rvRun (tmps : Array Value) : ResultVar → Sem Value
  | .tmp t => pure (tmps.getD t undef)
  | .cell a t => do loadVar t (← asAddr (tmps.getD a undef))
def oneB : List B → B
  | [x] => x
  | l => .tup l

section
variable {P : Program} {w0 W W1 : World} {P0 F : Nat → Prop} {E0 E E1 : Env} {pl0 pl pl1 : Plan} {N : Frm} {id : Nat} {s : Slots} {a : Act}

theorem resVar_run (S : Sim w0 P0 E0 pl0 N E pl s a W) {v : ResultVar} {x : B} (h : resVar P s E v = some x) :
    ∃ u : Value, (rvRun a.tmps v).run P W = .ok u W ∧ RepB W (FF w0 P0) x u := by
  have weak : ∀ {v : V} {u : Value}, res E v = some x → Rep W (Qf (FF w0 P0) E pl) pl v u → RepB W (FF w0 P0) x u := fun h hr => rep_res S.eok h hr (fun k hk => hk.1) (fun i hi e g c he hp hF => hF)
  cases v with
  | tmp t =>
    simp only [resVar, Option.bind_eq_some_iff] at h
    obtain ⟨v, hv, hr⟩ := h
    obtain ⟨u, hu, hrep⟩ := S.slots t v hv
    refine ⟨u, ?_, weak hr hrep⟩
    simp [rvRun, Array.getD_eq_getD_getElem?, hu]
  | cell p T =>
    simp only [resVar] at h
    split at h
    · rename_i i off hp
      obtain ⟨q, hq, g, c, hpl, rfl⟩ := S.slots p _ hp
      have hq' : a.tmps.getD p undef = .pointer (some ⟨g, off, none⟩) := by simp [Array.getD_eq_getD_getElem?, hq]
      split at h
      · rename_i e n he ha hn
        split at h
        · rename_i hl
          have rd : ∀ j, j < n → ∃ (x : V) (u : Value), e.cells[off + j]? = some x ∧ W.cell? ⟨g, off + j, none⟩ = some u ∧ u.oneCell' = true ∧ RepL W (Qf (FF w0 P0) E pl) pl x u := fun j hj => by
            have hx : e.cells[off + j]? = some (e.cells[off + j]'(by omega)) := List.getElem?_eq_getElem _
            obtain ⟨u, h1, h2, h3⟩ := S.read he hpl hx
            exact ⟨_, u, hx, h1, h2, h3⟩
          let f : Nat → Value := fun j => (W.cell? ⟨g, off + j, none⟩).getD undef
          have hf1 : ∀ j, j < n → W.cell? ((⟨g, off, none⟩ : Addr).add j) = some (f j) := fun j hj => by
            obtain ⟨x, u, _, h1, _⟩ := rd j hj
            rw [add_plain]
            simp [f, h1]
          have hload := run_loadCells (P := P) W ⟨g, off, none⟩ n f hf1
          refine ⟨.agg ((List.range n).map f).toArray, ?_, weak (v := .agg ((e.cells.drop off).take n)) h ⟨_, rfl, by simp; omega, fun j x hj => ?_⟩⟩
          · simp [rvRun, hq', asAddr, loadVar, run_isAgg ha, run_sizeOf hn, hload]
          · have hjn : j < n := by
              have := (List.getElem?_eq_some_iff.1 hj).1
              simp at this; omega
            obtain ⟨y, u, h0, h1, h2, h3⟩ := rd j hjn
            have : x = y := by
              rw [List.getElem?_take_of_lt hjn, List.getElem?_drop, h0] at hj
              injection hj with hj; exact hj.symm
            subst this
            exact ⟨u, by simp [hjn, f, h1], h2, h3⟩
        · cases h
      · rename_i e he ha
        simp only [Option.bind_eq_some_iff] at h
        obtain ⟨v, hv, hr⟩ := h
        obtain ⟨u, h1, h2, h3⟩ := S.read he hpl hv
        refine ⟨u, ?_, rep_resL S.eok hr h3 (fun k hk => hk.1) (fun i hi e g c he hp hF => hF)⟩
        simp [rvRun, hq', asAddr, loadVar, run_isAgg ha, h1]
      · cases h
    · cases h

theorem resVars_run (S : Sim w0 P0 E0 pl0 N E pl s a W) : ∀ {l : List ResultVar} {xs : List B}, resVars P s E l = some xs →
    ∃ us : List Value, (l.mapM (rvRun a.tmps)).run P W = .ok us W ∧ us.length = xs.length ∧ ∀ (j : Nat) (x : B), xs[j]? = some x → ∃ u, us[j]? = some u ∧ RepB W (FF w0 P0) x u
  | [], xs, h => by
    simp [resVars] at h; subst h
    exact ⟨[], by simp, rfl, fun j x hj => by simp at hj⟩
  | v :: r, xs, h => by
    unfold resVars at h
    split at h
    · rename_i y ys hy hys
      injection h with h; subst h
      obtain ⟨u, u1, u2⟩ := resVar_run S hy
      obtain ⟨us, k1, k2, k3⟩ := resVars_run S hys
      refine ⟨u :: us, ?_, by simp [k2], fun j x hj => ?_⟩
      · rw [List.mapM_cons, Sem.run_bind, u1, Result.andThen_ok, Sem.run_bind, k1, Result.andThen_ok]
        rfl
      · cases j with
        | zero => simp at hj; subst hj; exact ⟨u, rfl, u2⟩
        | succ j => simpa using k3 j x (by simpa using hj)
    · cases h

/-- A function whose code does what is said keeps its contract. -/
theorem VF_of {f : FuncId} {fn : Func} {c : Code} {args : List B} {r : B} (hm : P.follows .mixedOrders = true) (hfn : P.funcs[f]? = some fn) (hb : fn.body = some c) (hname : (fn.name == "runtime.NumGoroutine") = false)
    (hc : codeOk (.of (args.length + (fn.ntmps - args.length))) c = true)
    (hbody : VCode P 0 c 0 (argSlots args) (fun _ => none) fun e n s E => (match e with | .exit _ => False | _ => True) ∧ ∃ l, resVars P s E fn.results.toList = some l ∧ r = oneB l) : VF P f args r := by
  refine ⟨⟨fn, c, hfn, hb, hname⟩, fun w Q xs hlen hargs => callsIn_wide.1 (callsIn_of_wp_marks (n := 0) hfn hb trivial ?_)⟩
  have S : Sim w Q (fun _ => none) (fun _ => none) (.of (args.length + (fn.ntmps - args.length))) (fun _ => none) (fun _ => none) (argSlots args) { tmps := xs ++ Array.replicate (fn.ntmps - xs.size) undef, defers := [] } w := by
    refine ⟨Kept.refl w _ _, fun k hk => ?_, ⟨(fun i e h => by cases h), (fun i j e e' g c c' h => by cases h)⟩, fun i p h => h, fun t x ht => ?_, Frm.At.of (by simp [hlen]), Marked.nil⟩
    · obtain ⟨i, e, c, h, _⟩ := hk; cases h
    · simp only [argSlots, Option.map_eq_some_iff] at ht
      obtain ⟨y, hy, rfl⟩ := ht
      obtain ⟨u, hu, hr⟩ := hargs t y hy
      have hlt : t < xs.size := (Array.getElem?_eq_some_iff.1 hu).1
      refine ⟨u, by rw [Array.getElem?_append_left hlt]; exact hu, ?_⟩
      refine (show RepB w Q y u from hr).move (fun _ _ _ => rfl) (fun k hk _ => ⟨.inl hk, fun hh => ?_⟩)
      obtain ⟨i, e, c, h, _⟩ := hh; cases h
  refine VCode.sound RF.wide (fun _ _ => rfl) hm c 0 _ _ _ _ _ w _ hbody hc S (fun i _ => rfl) (fun e n s E a W pl he S0 hf' => ?_) (.inl rfl)
  obtain ⟨h1, l, h2, h3⟩ := he
  refine Sim.out rfl S0 h1 (fun W S' => ?_)
  obtain ⟨us, u1, u2, u3⟩ := resVars_run S' h2
  have hres : ∃ u, (results fn a.tmps).run P W = .ok u W ∧ RepB W (FF w Q) r u := by
    have hmm : (results fn a.tmps).run P W = .ok (if h : us.toArray.size = 1 then us.toArray[0] else .tuple us.toArray) W := by
      have he : results fn a.tmps = (do let vs ← fn.results.mapM (rvRun a.tmps); pure (if h : vs.size = 1 then vs[0] else .tuple vs) : Sem Value) := by
        unfold results
        congr 1
      rw [he, Array.mapM_eq_mapM_toList]
      simp [u1]
    refine ⟨_, hmm, ?_⟩
    rw [h3]
    by_cases hl1 : l.length = 1
    · obtain ⟨x, rfl⟩ := List.length_eq_one_iff.1 hl1
      obtain ⟨v, rfl⟩ := List.length_eq_one_iff.1 (u2.trans hl1)
      obtain ⟨u, hu, hr⟩ := u3 0 x rfl
      simp at hu; subst hu
      exact hr
    · have hn1 : ¬ us.toArray.size = 1 := by simp; omega
      rw [dif_neg hn1]
      have : oneB l = .tup l := by
        match l, hl1 with
        | [], _ => rfl
        | [x], h => exact absurd rfl h
        | x :: y :: r, _ => rfl
      rw [this]
      refine RepB.tup l us.toArray (fun j => us.getD j undef) (by simp [u2]) (fun j hj => ?_) (fun j x hj => ?_)
      · have : j < us.length := by omega
        simp [List.getD_eq_getElem?_getD, this]
      · obtain ⟨u, hu, hr⟩ := u3 j x hj
        simpa [List.getD_eq_getElem?_getD, hu] using hr
  obtain ⟨u, hu1, hu2⟩ := hres
  have hsame : Same w W := ⟨S'.keep.os, S'.keep.tape, S'.keep.output, S'.keep.size, fun k hk => S'.keep.block k hk (fun hh => by obtain ⟨i, e, c, h, _⟩ := hh; cases h)⟩
  exact ⟨u, hu1, u, rfl, hu2, hsame⟩

def lentSlots (n : Nat) (args : List B) : Slots
  | 0 => some (.own 0 n)
  | t + 1 => (args[t]?).map .b
def lentEnv (L : List B) : Env := setAt (fun _ => none) 0 (some ⟨1, L.map .b, true⟩)
/-- The same for a function that changes a row that it is lent. -/
theorem VM_of {f : FuncId} {fn : Func} {c : Code} {L : List B} {args : List B} {r : B} {L' : List B} (hm : P.follows .mixedOrders = true) (hfn : P.funcs[f]? = some fn) (hb : fn.body = some c) (hname : (fn.name == "runtime.NumGoroutine") = false)
    (hc : codeOk (.of (args.length + 1 + (fn.ntmps - (args.length + 1)))) c = true) (hlit : L.all B.isLit = true) (hlen : L'.length = L.length) (hflat : r.flat = true) (hlit' : L'.all B.isLit = true)
    (hbody : VCode P 1 c 1 (lentSlots L.length args) (lentEnv L) fun e n s E => (match e with | .exit _ => False | _ => True) ∧ (∃ l, resVars P s E fn.results.toList = some l ∧ r = oneB l) ∧ ∃ h, E 0 = some ⟨1, L'.map .b, h⟩) : VM P f L args r L' := by
  refine ⟨⟨fn, c, hfn, hb, hname⟩, hlen, hflat, fun w Q xs g cc cur T hsz hx0 hlc hcm hg hcs hQg hcells hargs => callsIn_wide.1 (callsIn_of_wp_marks (n := 0) hfn hb trivial ?_)⟩
  let E0 : Env := lentEnv L
  let pl0 : Plan := setAt (fun _ => none) 0 (some (g, cc))
  have hotg : ∀ k, Hot E0 pl0 k → k = g ∧ 0 < cc := fun k hk => by
    obtain ⟨i, e, c', h1, h2, h3⟩ := hk
    by_cases hi : i = 0
    · subst hi
      simp only [pl0, setAt_self, Option.some.injEq, Prod.mk.injEq] at h3
      exact ⟨h3.1.symm, by omega⟩
    · rw [show E0 i = none from setAt_ne _ _ hi] at h1; cases h1
  have S : Sim w (fun k => Q k ∨ k = g) E0 pl0 (.of (args.length + 1 + (fn.ntmps - (args.length + 1)))) E0 pl0 (lentSlots L.length args) { tmps := xs ++ Array.replicate (fn.ntmps - xs.size) undef, defers := [] } w := by
    refine ⟨Kept.refl w _ _, fun k hk => .inr hk, ⟨fun i e he => ?_, fun i j e e' g1 c1 c2 hi hj pi pj => ?_⟩, fun i p h => h, fun t x ht => ?_, Frm.At.of (by simp [hsz]), Marked.nil⟩
    · by_cases hi : i = 0
      · subst hi
        simp only [E0, lentEnv, setAt_self, Option.some.injEq] at he
        subst he
        refine ⟨g, cc, cur, T, by simp [pl0], hg, fun _ => .inl (.inr rfl), by simp [hcs], by simp; omega, hcm, ⟨by simp, Tag.is_none⟩, fun j x hj => ?_⟩
        simp only [List.getElem?_map, Option.map_eq_some_iff] at hj
        obtain ⟨y, hy, rfl⟩ := hj
        obtain ⟨u, hu, hu1, hr⟩ := hcells j y hy
        exact ⟨u, hu, hu1, show RepB w _ y u from lit_rep (List.all_eq_true.1 hlit y (List.mem_of_getElem? hy)) hr⟩
      · rw [show E0 i = none from setAt_ne _ _ hi] at he; cases he
    · have h1 : i = 0 := Classical.byContradiction (fun h => by rw [show E0 i = none from setAt_ne _ _ h] at hi; cases hi)
      have h2 : j = 0 := Classical.byContradiction (fun h => by rw [show E0 j = none from setAt_ne _ _ h] at hj; cases hj)
      rw [h1, h2]
    · cases t with
      | zero =>
        simp only [lentSlots, Option.some.injEq] at ht
        subst ht
        have hlt : 0 < xs.size := by omega
        refine ⟨_, by rw [Array.getElem?_append_left hlt]; exact hx0, g, cc, by simp [pl0], hlc, rfl⟩
      | succ t =>
        simp only [lentSlots, Option.map_eq_some_iff] at ht
        obtain ⟨y, hy, rfl⟩ := ht
        obtain ⟨u, hu, hr⟩ := hargs t y hy
        have hlt : t + 1 < xs.size := (Array.getElem?_eq_some_iff.1 hu).1
        refine ⟨u, by rw [Array.getElem?_append_left hlt]; exact hu, ?_⟩
        refine (show RepB w Q y u from hr).move (fun _ _ _ => rfl) (fun k hk _ => ⟨.inl (.inl hk), fun hh => ?_⟩)
        obtain ⟨e1, e2⟩ := hotg k hh
        rw [e1] at hk
        exact hQg e2 hk
  refine VCode.sound RF.wide (k := 1) (fun i hi => setAt_ne _ _ (by omega)) hm c 1 _ _ _ _ _ w _ hbody hc S (fun i hi => setAt_ne _ _ (by omega)) (fun e n s E a W pl he S0 hf' => ?_) (.inl rfl)
  obtain ⟨h1, ⟨l, h2, h3⟩, hot', hE⟩ := he
  refine Sim.out rfl S0 h1 (fun W S' => ?_)
  obtain ⟨us, u1, u2, u3⟩ := resVars_run S' h2
  have hres : ∃ u, (results fn a.tmps).run P W = .ok u W ∧ RepB W (FF w (fun k => Q k ∨ k = g)) r u := by
    have hmm : (results fn a.tmps).run P W = .ok (if h : us.toArray.size = 1 then us.toArray[0] else .tuple us.toArray) W := by
      have he : results fn a.tmps = (do let vs ← fn.results.mapM (rvRun a.tmps); pure (if h : vs.size = 1 then vs[0] else .tuple vs) : Sem Value) := by
        unfold results
        congr 1
      rw [he, Array.mapM_eq_mapM_toList]
      simp [u1]
    refine ⟨_, hmm, ?_⟩
    rw [h3]
    by_cases hl1 : l.length = 1
    · obtain ⟨x, rfl⟩ := List.length_eq_one_iff.1 hl1
      obtain ⟨v, rfl⟩ := List.length_eq_one_iff.1 (u2.trans hl1)
      obtain ⟨u, hu, hr⟩ := u3 0 x rfl
      simp at hu; subst hu
      exact hr
    · have hn1 : ¬ us.toArray.size = 1 := by simp; omega
      rw [dif_neg hn1]
      have : oneB l = .tup l := by
        match l, hl1 with
        | [], _ => rfl
        | [x], h => exact absurd rfl h
        | x :: y :: r, _ => rfl
      rw [this]
      refine RepB.tup l us.toArray (fun j => us.getD j undef) (by simp [u2]) (fun j hj => ?_) (fun j x hj => ?_)
      · have : j < us.length := by omega
        simp [List.getD_eq_getElem?_getD, this]
      · obtain ⟨u, hu, hr⟩ := u3 j x hj
        simpa [List.getD_eq_getElem?_getD, hu] using hr
  obtain ⟨u, hu1, hu2⟩ := hres
  have hpl : pl 0 = some (g, cc) := S'.plan 0 (g, cc) (by simp [pl0])
  obtain ⟨g', c', cur', T', q1, q2, q3, q4, q5, q6, q7, q8⟩ := S'.eok.ent 0 _ hE
  rw [hpl] at q1
  injection q1 with q1
  injection q1 with q1 q1'
  subst q1; subst q1'
  have hpost : ∃ u' : Value, Ending.returned u = .returned u' ∧ RepB W (fun _ => True) r u' ∧ (∃ (cur' : Array Value) (T' : TypeId), (0 < cc → W.heap[g]? = some (.cells cur' T' (0, 0))) ∧ cur'.size = cur.size ∧
      ∀ (j : Nat) (x : B), L'[j]? = some x → ∃ u : Value, cur'[j]? = some u ∧ u.oneCell' = true ∧ RepB W (fun _ => True) x u) ∧
    W.os = w.os ∧ W.tape = w.tape ∧ W.output = w.output ∧ w.heap.size ≤ W.heap.size ∧ ∀ k, k < w.heap.size → (0 < cc → k ≠ g) → W.heap[k]? = w.heap[k]? := by
    refine ⟨u, rfl, flat_rep hflat hu2, ⟨cur', T', q2, by rw [q4, hcs]; simp, fun j x hj => ?_⟩, S'.keep.os, S'.keep.tape, S'.keep.output, S'.keep.size, fun k hk hkg => S'.keep.block k hk (fun hh => hkg (hotg k hh).2 (hotg k hh).1)⟩
    obtain ⟨u, hu, hu1, hr⟩ := q8 j (.b x) (by simp [hj])
    exact ⟨u, hu, hu1, lit_rep (List.all_eq_true.1 hlit' x (List.mem_of_getElem? hj)) (show RepB W _ x u from hr)⟩
  exact ⟨u, hu1, hpost⟩
end
end Go.VL

/- A small program logic over the translated Go code, eighteenth part: steps in the form in which proofs take them; slices of words. -/
set_option linter.unusedVariables false
set_option linter.unusedSimpArgs false
namespace Go.VL
open Go.RowKit

abbrev u32B (x : Int) : B := .lit (.int .u32 x)
abbrev u32S (L : List Int) : B := .sl 1 (L.map u32B)
def row (L : List Int) : Ent := ⟨1, L.map fun x => .b (u32B x), true⟩
abbrev vI (k : IntKind) (x : Int) : V := .b (.lit (.int k x))
abbrev vB (t : Bool) : V := .b (.lit (.bool t))
abbrev vS (L : List Int) : V := .b (u32S L)
abbrev intB (neg : Bool) (L : List Int) : B := .agg [.lit (.bool neg), u32S L]
abbrev numB (k : IntKind) (x : Int) : B := .lit (.int k x)
abbrev boolB (t : Bool) : B := .lit (.bool t)

section
variable {P : Program} {ops : Array Oper} {o : Oper} {r : List Oper} {n n' id : Nat} {s : Slots} {E : Env} {Q : Nat → Slots → Env → Prop} {d : Nat} {v : V}

theorem VList.nil (h : Q n s E) : VList P ops [] n s E Q := h
theorem VList.go0 (h1 : runs ops s o.guard = some true) (hd : o.dst = some d) (h2 : Eff P n s E o.op (some v) []) (hn : n + 1 = n') (h3 : VList P ops r n' (setAt s d (some v)) E Q) : VList P ops (o :: r) n s E Q := by
  refine .inl ⟨h1, some v, [], h2, ?_⟩
  rw [hd, hn]; exact h3
theorem VList.go1 {i : Nat} {e : Option Ent} (h1 : runs ops s o.guard = some true) (hd : o.dst = some d) (h2 : Eff P n s E o.op (some v) [(i, e)]) (hn : n + 1 = n') (h3 : VList P ops r n' (setAt s d (some v)) (setAt E i e) Q) : VList P ops (o :: r) n s E Q := by
  refine .inl ⟨h1, some v, [(i, e)], h2, ?_⟩
  rw [hd, hn]; exact h3
theorem VList.goN {us : List (Nat × Option Ent)} (h1 : runs ops s o.guard = some true) (hd : o.dst = some d) (h2 : Eff P n s E o.op (some v) us) (hn : n + 1 = n') (h3 : VList P ops r n' (setAt s d (some v)) (upds E us) Q) : VList P ops (o :: r) n s E Q := by
  refine .inl ⟨h1, some v, us, h2, ?_⟩
  rw [hd, hn]; exact h3
theorem VList.goS {i : Nat} {e : Option Ent} (h1 : runs ops s o.guard = some true) (hd : o.dst = none) (h2 : Eff P n s E o.op none [(i, e)]) (hn : n + 1 = n') (h3 : VList P ops r n' s (setAt E i e) Q) : VList P ops (o :: r) n s E Q := by
  refine .inl ⟨h1, none, [(i, e)], h2, ?_⟩
  rw [hd, hn]; exact h3
theorem VList.skip (h1 : runs ops s o.guard = some false) (hd : o.dst = some d) (hn : n + 1 = n') (h3 : VList P ops r n' (setAt s d (some undefV)) E Q) : VList P ops (o :: r) n s E Q := by
  refine .inr (.inl ⟨h1, ?_⟩)
  rw [hd, hn]; exact h3
theorem VList.goG {E2 : Env} (h1 : runs ops s o.guard = some true) (hd : o.dst = some d) (h2 : CallG P n s E o.op v n' E2) (h3 : VList P ops r n' (setAt s d (some v)) E2 Q) : VList P ops (o :: r) n s E Q := by
  refine .inr (.inr ⟨h1, v, n', E2, h2, ?_⟩)
  rw [hd]; exact h3

variable {log : List (List Nat × List Nat)} {R : List (List Nat × List Nat) → Nat → Slots → Env → Prop}
theorem VLog.nil (h : R log n s E) : VLog P ops [] n s E log R := h
theorem VLog.go0 (h1 : runs ops s o.guard = some true) (hd : o.dst = some d) (h2 : Eff P n s E o.op (some v) []) (hn : n + 1 = n') (h3 : VLog P ops r n' (setAt s d (some v)) E (log ++ [(looks s o.op, [])]) R) : VLog P ops (o :: r) n s E log R := by
  refine .inl ⟨h1, some v, [], _, .inl ⟨h2, rfl⟩, ?_⟩
  rw [hd, hn]; exact h3
theorem VLog.go1 {i : Nat} {e : Option Ent} (h1 : runs ops s o.guard = some true) (hd : o.dst = some d) (h2 : Eff P n s E o.op (some v) [(i, e)]) (hn : n + 1 = n') (h3 : VLog P ops r n' (setAt s d (some v)) (setAt E i e) (log ++ [(looks s o.op, [i])]) R) : VLog P ops (o :: r) n s E log R := by
  refine .inl ⟨h1, some v, [(i, e)], _, .inl ⟨h2, rfl⟩, ?_⟩
  rw [hd, hn]; exact h3
theorem VLog.goN {us : List (Nat × Option Ent)} (h1 : runs ops s o.guard = some true) (hd : o.dst = some d) (h2 : Eff P n s E o.op (some v) us) (hn : n + 1 = n') (h3 : VLog P ops r n' (setAt s d (some v)) (upds E us) (log ++ [(looks s o.op, us.map (·.1))]) R) : VLog P ops (o :: r) n s E log R := by
  refine .inl ⟨h1, some v, us, _, .inl ⟨h2, rfl⟩, ?_⟩
  rw [hd, hn]; exact h3
theorem VLog.goS {i : Nat} {e : Option Ent} (h1 : runs ops s o.guard = some true) (hd : o.dst = none) (h2 : Eff P n s E o.op none [(i, e)]) (hn : n + 1 = n') (h3 : VLog P ops r n' s (setAt E i e) (log ++ [(looks s o.op, [i])]) R) : VLog P ops (o :: r) n s E log R := by
  refine .inl ⟨h1, none, [(i, e)], _, .inl ⟨h2, rfl⟩, ?_⟩
  rw [hd, hn]; exact h3
theorem VLog.skip (h1 : runs ops s o.guard = some false) (hd : o.dst = some d) (hn : n + 1 = n') (h3 : VLog P ops r n' (setAt s d (some undefV)) E (log ++ [([], [])]) R) : VLog P ops (o :: r) n s E log R := by
  refine .inr ⟨h1, ?_⟩
  rw [hd, hn]; exact h3

variable {X : VExit → Nat → Slots → Env → Prop} {a b : Code} {rid : Nat} {c : Operand} {k : Nat}
/-- What follows a first part. -/
def Then (P : Program) (k : Nat) (b : Code) (X : VExit → Nat → Slots → Env → Prop) : VExit → Nat → Slots → Env → Prop := fun e n s E => match e with
  | .normal => VCode P k b n s E X ∨ ∃ n1 s1 E1, Weak k s E n1 s1 E1 ∧ VCode P k b n1 s1 E1 X
  | e => X e n s E
def InBlock (id : Nat) (X : VExit → Nat → Slots → Env → Prop) : VExit → Nat → Slots → Env → Prop := fun e n s E => match e with
  | .exit id' => if id' = id then X .normal n s E else X (.exit id') n s E
  | e => X e n s E
def Round (k : Nat) {α : Type} (st : α → Nat × Slots × Env) (ok : α → Prop) (μ : α → Nat) (x : α) (X : VExit → Nat → Slots → Env → Prop) : VExit → Nat → Slots → Env → Prop := fun e n s E => match e with
  | .normal => ∃ y, ok y ∧ μ y < μ x ∧ Weak k s E (st y).1 (st y).2.1 (st y).2.2
  | e => X e n s E
theorem Then.go (h : VCode P k b n s E X) : Then P k b X .normal n s E := .inl h
theorem Then.cut {n1 : Nat} {s1 : Slots} {E1 : Env} (hw : Weak k s E n1 s1 E1) (h : VCode P k b n1 s1 E1 X) : Then P k b X .normal n s E := .inr ⟨n1, s1, E1, hw, h⟩
theorem Then.ret (h : X .ret n s E) : Then P k b X .ret n s E := h
theorem Then.exit {i : Nat} (h : X (.exit i) n s E) : Then P k b X (.exit i) n s E := h
theorem InBlock.go (h : X .normal n s E) : InBlock id X .normal n s E := h
theorem InBlock.ret (h : X .ret n s E) : InBlock id X .ret n s E := h
theorem InBlock.here (h : X .normal n s E) : InBlock id X (.exit id) n s E := by simp only [InBlock, if_true]; exact h
theorem InBlock.out {i : Nat} (hi : i ≠ id) (h : X (.exit i) n s E) : InBlock id X (.exit i) n s E := by simp only [InBlock, if_neg hi]; exact h
theorem Round.go {α : Type} {st : α → Nat × Slots × Env} {ok : α → Prop} {μ : α → Nat} {x : α} (y : α) (h1 : ok y) (h2 : μ y < μ x) (h3 : Weak k s E (st y).1 (st y).2.1 (st y).2.2) : Round k st ok μ x X .normal n s E := ⟨y, h1, h2, h3⟩
theorem Round.ret {α : Type} {st : α → Nat × Slots × Env} {ok : α → Prop} {μ : α → Nat} {x : α} (h : X .ret n s E) : Round k st ok μ x X .ret n s E := h
theorem Round.exit {α : Type} {st : α → Nat × Slots × Env} {ok : α → Prop} {μ : α → Nat} {x : α} {i : Nat} (h : X (.exit i) n s E) : Round k st ok μ x X (.exit i) n s E := h
theorem VCode.region (h : VList P ops ops.toList n s E (X .normal)) : VCode P k (.region rid ops false) n s E X := h
theorem VCode.draw (h1 : drawOk ops = true) (h : VLog P ops ops.toList n s E [] fun log n s E => logOk (bef ops) log = true ∧ X .normal n s E) : VCode P k (.region rid ops true) n s E X := ⟨h1, h⟩
theorem VCode.seq (h : VCode P k a n s E (Then P k b X)) : VCode P k (.seq a b) n s E X := h
theorem VCode.cond (t : Bool) (hc : ev s c = some (.b (.lit (.bool t)))) (h1 : t = true → VCode P k a n s E X) (h2 : t = false → VCode P k b n s E X) : VCode P k (.cond c a b) n s E X := ⟨t, hc, h1, h2⟩
theorem VCode.block (h : VCode P k b n s E (InBlock id X)) : VCode P k (.block id b) n s E X := h
theorem VCode.loop {α : Type} (st : α → Nat × Slots × Env) (ok : α → Prop) (μ : α → Nat) (x0 : α) (h0 : ok x0) (hw : Weak k s E (st x0).1 (st x0).2.1 (st x0).2.2)
    (h : ∀ x, ok x → VCode P k b (st x).1 (st x).2.1 (st x).2.2 (Round k st ok μ x X)) : VCode P k (.loop b) n s E X := ⟨α, st, ok, μ, ⟨x0, h0, hw⟩, h⟩
theorem VCode.skip (h : X .normal n s E) : VCode P k .skip n s E X := h
theorem VCode.exit {i : Nat} (h : X (.exit i) n s E) : VCode P k (.exit i) n s E X := h
theorem VCode.ret (h : X .ret n s E) : VCode P k .ret n s E X := h

/-- Slots and entries, written down. -/
def sl (l : List (Nat × V)) : Slots := fun t => (l.lookup t)
def en (l : List (Nat × Ent)) : Env := fun t => (l.lookup t)
def AllS (p : Nat → V → Prop) : List (Nat × V) → Prop
  | [] => True
  | (t, v) :: r => p t v ∧ AllS p r
def AllE (p : Nat → Ent → Prop) : List (Nat × Ent) → Prop
  | [] => True
  | (t, v) :: r => p t v ∧ AllE p r
theorem lookup_mem {α : Type} : ∀ {l : List (Nat × α)} {t : Nat} {x : α}, l.lookup t = some x → (t, x) ∈ l
  | [], t, x, h => by cases h
  | (k, y) :: r, t, x, h => by
    simp only [List.lookup] at h
    split at h
    · rename_i hk
      injection h with h; subst h
      have : t = k := by simpa using hk
      subst this; simp
    · simp [lookup_mem h]
theorem AllS.get {p : Nat → V → Prop} : ∀ {l : List (Nat × V)}, AllS p l → ∀ q ∈ l, p q.1 q.2
  | [], _, q, h => by cases h
  | (t, v) :: r, h, q, hq => by
    rcases List.mem_cons.1 hq with rfl | hq
    · exact h.1
    · exact AllS.get h.2 q hq
theorem AllE.get {p : Nat → Ent → Prop} : ∀ {l : List (Nat × Ent)}, AllE p l → ∀ q ∈ l, p q.1 q.2
  | [], _, q, h => by cases h
  | (t, v) :: r, h, q, hq => by
    rcases List.mem_cons.1 hq with rfl | hq
    · exact h.1
    · exact AllE.get h.2 q hq
theorem V.ren0_id (x : V) : x.ren0 (fun i => i) = x := by cases x <;> rfl
theorem V.ren1_id (x : V) : x.ren1 (fun i => i) = x := by
  cases x with
  | fn f l => simp only [V.ren1]; congr 1; rw [show V.ren0 (fun i => i) = (fun x => x) from funext V.ren0_id]; simp
  | b x => rfl
  | own i n => rfl
  | ptr i off => rfl
  | rd l => rfl
  | win i off n => rfl
  | cut sz l => rfl
  | row i n c => rfl
  | agg l => rfl
  | tup l => rfl
theorem V.ren2_id (x : V) : x.ren2 (fun i => i) = x := by
  cases x with
  | agg l => simp only [V.ren2]; congr 1; rw [show V.ren1 (fun i => i) = (fun x => x) from funext V.ren1_id]; simp
  | fn f l => exact V.ren1_id (.fn f l)
  | b x => rfl
  | own i n => rfl
  | ptr i off => rfl
  | rd l => rfl
  | win i off n => rfl
  | cut sz l => rfl
  | row i n c => rfl
  | tup l => rfl
theorem V.ren_id (x : V) : x.ren (fun i => i) = x := by
  cases x with
  | tup l => simp only [V.ren]; congr 1; rw [show V.ren2 (fun i => i) = (fun x => x) from funext V.ren2_id]; simp
  | agg l => exact V.ren2_id (.agg l)
  | fn f l => exact V.ren2_id (.fn f l)
  | b x => rfl
  | own i n => rfl
  | ptr i off => rfl
  | rd l => rfl
  | win i off n => rfl
  | cut sz l => rfl
  | row i n c => rfl
theorem Ent.ren_id (e : Ent) : e.ren (fun i => i) = e := by
  simp only [Ent.ren]; rw [show V.ren1 (fun i => i) = (fun x => x) from funext V.ren1_id]; simp
theorem Weak.of {k n1 : Nat} {S1 : List (Nat × V)} {L1 : List (Nat × Ent)} (hk : k ≤ n1) (h1 : AllS (fun t x => s t = some x ∧ x.all.all (fun i => decide (i < n1)) = true) S1)
    (h2 : AllE (fun i e => E i = some e ∧ i < n1 ∧ ∀ v ∈ e.cells, v.all1.all (fun i => decide (i < n1)) = true) L1) : Weak k s E n1 (sl S1) (en L1) := by
  refine .inl ⟨fun i => i, hk, fun _ _ => rfl, fun t x ht => ?_, fun i e he => ?_, fun i j e e' _ _ h => h⟩
  · obtain ⟨a1, a2⟩ := h1.get _ (lookup_mem ht)
    exact ⟨by rw [V.ren_id]; exact a1, fun i hi => by simpa using List.all_eq_true.1 a2 i hi⟩
  · obtain ⟨a1, a2, a3⟩ := h2.get _ (lookup_mem he)
    exact ⟨by rw [Ent.ren_id]; exact a1, a2, fun v hv j hj => by simpa using List.all_eq_true.1 (a3 v hv) j hj⟩
theorem Weak.ofR {k n1 : Nat} {S1 : List (Nat × V)} {L1 : List (Nat × Ent)} (ρ : Nat → Nat) (hk : k ≤ n1) (hlow : (List.range k).all (fun i => ρ i == i) = true) (hinj : (L1.map (·.1)).all (fun i => (L1.map (·.1)).all fun j => !(ρ i == ρ j) || i == j) = true)
    (h1 : AllS (fun t x => s t = some (x.ren ρ) ∧ x.all.all (fun i => decide (i < n1)) = true) S1)
    (h2 : AllE (fun i e => E (ρ i) = some (e.ren ρ) ∧ i < n1 ∧ ∀ v ∈ e.cells, v.all1.all (fun i => decide (i < n1)) = true) L1) : Weak k s E n1 (sl S1) (en L1) := by
  refine .inl ⟨ρ, hk, fun i hi => by simpa using List.all_eq_true.1 hlow i (List.mem_range.2 hi), fun t x ht => ?_, fun i e he => ?_, fun i j e e' h1 h2 h => ?_⟩
  · obtain ⟨a1, a2⟩ := h1.get _ (lookup_mem ht)
    exact ⟨a1, fun i hi => by simpa using List.all_eq_true.1 a2 i hi⟩
  · obtain ⟨a1, a2, a3⟩ := h2.get _ (lookup_mem he)
    exact ⟨a1, a2, fun v hv j hj => by simpa using List.all_eq_true.1 (a3 v hv) j hj⟩
  · have m1 : i ∈ L1.map (·.1) := List.mem_map.2 ⟨_, lookup_mem h1, rfl⟩
    have m2 : j ∈ L1.map (·.1) := List.mem_map.2 ⟨_, lookup_mem h2, rfl⟩
    have := List.all_eq_true.1 (List.all_eq_true.1 hinj i m1) j m2
    simp only [h, beq_self_eq_true, Bool.not_true, Bool.false_or, beq_iff_eq] at this
    exact this
theorem row_ren {ρ : Nat → Nat} {L : List Int} : (row L).ren ρ = row L := by
  simp only [row, Ent.ren, List.map_map]; rfl
/-- The cells of a row name nothing. -/
theorem row_cells {n1 : Nat} {L : List Int} : ∀ v ∈ (row L).cells, v.all1.all (fun i => decide (i < n1)) = true := fun v hv => by
  simp only [row, List.mem_map] at hv
  obtain ⟨x, _, rfl⟩ := hv
  rfl

section eff
variable {x y p ix : Operand} {L D : List Int} {T T' el i m off : Nat} {k : IntKind} {j z : Int}
theorem Eff.lenS (h : ev s x = some (vS L)) (hu : P.underlying T = some (.slice el)) : Eff P id s E (.call { callee := .builtin .len, args := #[x], argTypes := #[T] }) (some (vI .i64 L.length)) [] :=
  .len x T _ _ el h hu (by simp [V.len])
theorem Eff.lenO (h : ev s x = some (.own i m)) (hu : P.underlying T = some (.slice el)) : Eff P id s E (.call { callee := .builtin .len, args := #[x], argTypes := #[T] }) (some (vI .i64 m)) [] :=
  .len x T _ _ el h hu rfl
theorem drop_one {α : Type} (l : List α) (i : Nat) (x : α) (h : l[i]? = some x) : (l.drop (i * 1)).take 1 = [x] := by
  have hlt := (List.getElem?_eq_some_iff.1 h).1
  rw [Nat.mul_one, List.drop_eq_getElem_cons hlt]
  have := (List.getElem?_eq_some_iff.1 h).2
  simp [this]
theorem getD_get {L : List Int} {i : Nat} (h : i < L.length) : L[i]? = some (L.getD i 0) := by simp [List.getD_eq_getElem?_getD, h]
theorem Eff.indexRd (h : ev s x = some (vS L)) (hi : ev s ix = some (vI k j)) (hu : P.underlying T = some (.slice el)) (hs : szOf P el = some 1) (h0 : 0 ≤ j) (h1 : j < L.length) : Eff P id s E (.indexAddr T x ix) (some (.rd [u32B (L.getD j.toNat 0)])) [] := by
  have h2 : j.toNat < L.length := by omega
  have := Eff.indexSl (P := P) (id := id) (E := E) T x ix 1 (L.map u32B) k j el h hi hu hs h0 (by simp; omega)
  rw [drop_one _ _ (u32B (L.getD j.toNat 0)) (by rw [List.getElem?_map, getD_get h2]; rfl)] at this
  exact this
theorem Eff.indexRow (h : ev s x = some (.own i m)) (hi : ev s ix = some (vI k j)) (hu : P.underlying T = some (.slice el)) (hs : szOf P el = some 1) (h0 : 0 ≤ j) (h1 : j < m) : Eff P id s E (.indexAddr T x ix) (some (.ptr i j.toNat)) [] := by
  have := Eff.indexOwn (P := P) (id := id) (E := E) T x ix i m 1 k j el h hi hu hs h0 h1
  rw [Nat.mul_one] at this
  exact this
theorem Eff.load32 (h : ev s p = some (.ptr i off)) (he : E i = some (row L)) (ha : aggOf P T = some false) (h1 : off < L.length) : Eff P id s E (.load T p) (some (vI .u32 (L.getD off 0))) [] :=
  .load1 T p i off _ _ h he ha (by simp only [row]; rw [List.getElem?_map, getD_get h1]; rfl)
theorem Eff.store32 (h : ev s p = some (.ptr i off)) (he : E i = some (row L)) (hv : ev s x = some (vI .u32 z)) (hn : szOf P T = some 1) (h1 : off < L.length) : Eff P id s E (.store T p x) none [(i, some (row (L.set off z)))] := by
  have := Eff.store1 (P := P) (id := id) T p x i off (row L) _ h he rfl hv rfl hn (by simpa [row] using h1) rfl
  have e : (some { row L with cells := (row L).cells.set off (vI .u32 z) } : Option Ent) = some (row (L.set off z)) := by simp only [row, List.map_set]
  rw [e] at this
  exact this
theorem Eff.makeRow (h : ev s x = some (vI k j)) (hu : P.underlying T = some (.slice el)) (hz : zeroOf P el = some [u32B 0]) (hs : szOf P el = some 1) (hb : (P.info? el).map (·.bytes) = some 4) (h0 : 0 ≤ j) (h1 : j ≤ 1000000000000) :
    Eff P id s E (.makeSlice T x x) (some (.own id j.toNat)) [(id, some (row (List.replicate j.toNat 0)))] := by
  have := Eff.make (P := P) (id := id) (E := E) T x j el [u32B 0] 4 k h hu hz hs hb (by simp) h0 (by omega) (by omega)
  have e : (some ⟨[u32B 0].length, ((List.replicate j.toNat [u32B 0]).flatten).map .b, true⟩ : Option Ent) = some (row (List.replicate j.toNat 0)) := by
    simp only [row, List.length_singleton, List.map_replicate]
    congr 2
    induction j.toNat with
    | zero => rfl
    | succ q ih => simp [List.replicate_succ, ih]
  rw [e] at this
  exact this
theorem res_row (he : E i = some (row L)) (hl : L.length = m) : res E (.own i m) = some (u32S L) := by
  have hb : bs (row L).cells = some (L.map u32B) := by
    simp only [row]
    clear he hl
    induction L with
    | nil => rfl
    | cons x r ih => simp [bs, ih]
  show resL E (.own i m) = some (u32S L)
  simp only [resL, he, hb]
  have h1 : m * (row L).sz ≤ (L.map u32B).length := by simp [row, hl]
  have h2 : (L.map u32B).take (m * (row L).sz) = L.map u32B := List.take_of_length_le (by simp [row, hl])
  rw [if_pos h1, h2]; rfl
theorem lits_all : (L.map u32B).all B.isLit = true := by rw [List.all_map]; simp [B.isLit]
theorem Eff.copyRow {w : V} (hx : ev s x = some (.own i m)) (he : E i = some (row D)) (hl : m ≤ D.length) (hy : ev s y = some w) (hr : res E w = some (u32S L)) (hu : P.underlying T = some (.slice el)) (hs : szOf P el = some 1) :
    Eff P id s E (.call { callee := .builtin .copy, args := #[x, y], argTypes := #[T, T'] }) (some (vI .i64 (Nat.min L.length m))) [(i, some (row (L.take (Nat.min L.length m) ++ D.drop (Nat.min L.length m))))] := by
  have := Eff.copy (P := P) (id := id) x y T T' el i m (row D) w (L.map u32B) hx he rfl rfl (by simpa [row] using hl) hy hr hu hs lits_all
  rw [List.length_map] at this
  have e : (some { row D with cells := ((L.map u32B).take (Nat.min L.length m)).map .b ++ (row D).cells.drop (Nat.min L.length m) } : Option Ent) = some (row (L.take (Nat.min L.length m) ++ D.drop (Nat.min L.length m))) := by
    simp only [row, List.map_append, List.map_take, List.map_drop, List.map_map]
    rfl
  rw [e] at this
  exact this
theorem Eff.appendRow {w : V} (hx : ev s x = some (.own i m)) (he : E i = some (row D)) (hl : D.length = m) (hy : ev s y = some w) (hr : res E w = some (u32S L)) (hne : i ∉ w.names) (hu : P.underlying T = some (.slice el)) (hs : szOf P el = some 1)
    (hb : (P.info? el).map (·.bytes) = some 4) (hz : zeroOf P el = some [u32B 0]) (hm : m + L.length ≤ 1000000000000) :
    Eff P id s E (.call { callee := .builtin .append, args := #[x, y], argTypes := #[T, T] }) (some (.own id (m + L.length))) [(i, none), (id, some (row (D ++ L)))] := by
  have := Eff.append (P := P) (id := id) x y T el i m (row D) w (L.map u32B) 4 hx he rfl rfl (by simpa [row] using hl) hy hr hne hu hs hb (by rw [hz]; rfl) (by simp; omega) (by simp [maxLen]; omega) lits_all
  rw [List.length_map] at this
  have e : (some ⟨1, (row D).cells ++ (L.map u32B).map .b, true⟩ : Option Ent) = some (row (D ++ L)) := by
    simp only [row, List.map_append, List.map_map]
    rfl
  rw [e] at this
  exact this
theorem Eff.cutTo {hi : Operand} (h : ev s x = some (vS L)) (hh : ev s hi = some (vI k j)) (hu : P.underlying T = some (.slice el)) (hs : szOf P el = some 1) (h0 : 0 ≤ j) (h1 : j ≤ L.length) :
    Eff P id s E (.slice T x none (some hi) none) (some (vS (L.take j.toNat))) [] := by
  have := Eff.slSl (P := P) (id := id) (E := E) T x none (some hi) 1 (L.map u32B) el k k 0 j h hu hs (.inl ⟨rfl, rfl⟩) (.inr ⟨hi, rfl, hh⟩) (by omega) h0 (by simp; omega)
  simp only [Nat.mul_one, Int.toNat_zero, List.drop_zero, ← List.map_take] at this
  exact this
end eff
end
end Go.VL

/- A small program logic over the translated Go code, nineteenth part: arithmetic without wrapping; what printed proofs name. -/
set_option linter.unusedVariables false
set_option linter.unusedSimpArgs false
namespace Go.VL
open Go.RowKit

theorem wrapE_i64 (x : Int) : IntKind.wrap .i64 x = if x % 18446744073709551616 ≥ 9223372036854775808 then x % 18446744073709551616 - 18446744073709551616 else x % 18446744073709551616 := by
  simp only [IntKind.wrap, IntKind.signed, IntKind.bits, Bool.true_and]
  simp
theorem wrap_i64 {x : Int} (h : -9223372036854775808 ≤ x ∧ x ≤ 9223372036854775807) : IntKind.wrap .i64 x = x := by
  have e : IntKind.wrap .i64 x = if x % 18446744073709551616 ≥ 9223372036854775808 then x % 18446744073709551616 - 18446744073709551616 else x % 18446744073709551616 := by
    simp only [IntKind.wrap, IntKind.signed, IntKind.bits, Bool.true_and]
    simp
  rw [e]
  split <;> omega
theorem bop_add_i64 {x y : Int} (h : -9223372036854775808 ≤ x + y ∧ x + y ≤ 9223372036854775807) : bop .add (.int .i64 x) (.int .i64 y) = some (.int .i64 (x + y)) := by
  simp only [bop, if_true]; rw [wrap_i64 h]
theorem bop_sub_i64 {x y : Int} (h : -9223372036854775808 ≤ x - y ∧ x - y ≤ 9223372036854775807) : bop .sub (.int .i64 x) (.int .i64 y) = some (.int .i64 (x - y)) := by
  simp only [bop, if_true]; rw [wrap_i64 h]
theorem bop_mul_i64 {x y : Int} (h : -9223372036854775808 ≤ x * y ∧ x * y ≤ 9223372036854775807) : bop .mul (.int .i64 x) (.int .i64 y) = some (.int .i64 (x * y)) := by
  simp only [bop, if_true]; rw [wrap_i64 h]
theorem bop_quo_i64 {x y : Int} (h0 : 0 ≤ x) (h1 : 0 < y) (h2 : x ≤ 9223372036854775807) : bop .quo (.int .i64 x) (.int .i64 y) = some (.int .i64 (x / y)) := by
  have hd : x / y ≤ x := Int.ediv_le_self _ h0
  have hp : 0 ≤ x / y := Int.ediv_nonneg h0 (by omega)
  have hy : y ≠ 0 := by omega
  simp only [bop, if_true, hy, if_false, Int.tdiv_eq_ediv_of_nonneg h0]
  rw [wrap_i64 (by omega)]
theorem bop_rem_i64 {x y : Int} (h0 : 0 ≤ x) (h1 : 0 < y) : bop .rem (.int .i64 x) (.int .i64 y) = some (.int .i64 (x % y)) := by
  have hy : y ≠ 0 := by omega
  simp only [bop, if_true, hy, if_false, Int.tmod_eq_emod_of_nonneg h0]
theorem bop_shr_i64 {x y : Int} {k' : IntKind} (h0 : 0 ≤ y) (h1 : y ≤ 64) : bop .shr (.int .i64 x) (.int k' y) = some (.int .i64 (x / 2 ^ y.toNat)) := by
  have hm : min y.toNat 64 = y.toNat := by omega
  have hp : (0 : Int) ≤ 2 ^ y.toNat := Int.le_of_lt (Int.pow_pos (by decide))
  simp only [bop, h0, if_true, IntKind.bits, hm, Int.fdiv_eq_ediv_of_nonneg _ hp]
theorem bop_shl_i64 {x y : Int} {k' : IntKind} (h0 : 0 ≤ y) (h1 : y ≤ 64) (h : -9223372036854775808 ≤ x * 2 ^ y.toNat ∧ x * 2 ^ y.toNat ≤ 9223372036854775807) : bop .shl (.int .i64 x) (.int k' y) = some (.int .i64 (x * 2 ^ y.toNat)) := by
  have hm : min y.toNat 64 = y.toNat := by omega
  simp only [bop, h0, if_true, IntKind.bits, hm]
  rw [wrap_i64 h]
theorem uop_neg_i64 {x : Int} (h : -9223372036854775808 ≤ (0 - x) ∧ (0 - x) ≤ 9223372036854775807) : uop .neg (.int .i64 x) = some (.int .i64 (-x)) := by
  simp only [uop]; rw [wrap_i64 h]; simp
theorem wrap_u64 {x : Int} (h : 0 ≤ x ∧ x < 18446744073709551616) : IntKind.wrap .u64 x = x := by
  have e : IntKind.wrap .u64 x = x % 18446744073709551616 := by simp [IntKind.wrap, IntKind.signed, IntKind.bits]
  rw [e]; omega
theorem wrapM_u64 (x : Int) : IntKind.wrap .u64 x = x % 18446744073709551616 := by simp [IntKind.wrap, IntKind.signed, IntKind.bits]
theorem bop_add_u64 {x y : Int} (h : 0 ≤ x + y ∧ x + y < 18446744073709551616) : bop .add (.int .u64 x) (.int .u64 y) = some (.int .u64 (x + y)) := by
  simp only [bop, if_true]; rw [wrap_u64 h]
theorem bop_sub_u64 {x y : Int} (h : 0 ≤ x - y ∧ x - y < 18446744073709551616) : bop .sub (.int .u64 x) (.int .u64 y) = some (.int .u64 (x - y)) := by
  simp only [bop, if_true]; rw [wrap_u64 h]
theorem bop_mul_u64 {x y : Int} (h : 0 ≤ x * y ∧ x * y < 18446744073709551616) : bop .mul (.int .u64 x) (.int .u64 y) = some (.int .u64 (x * y)) := by
  simp only [bop, if_true]; rw [wrap_u64 h]
theorem bop_quo_u64 {x y : Int} (h0 : 0 ≤ x) (h1 : 0 < y) (h2 : x < 18446744073709551616) : bop .quo (.int .u64 x) (.int .u64 y) = some (.int .u64 (x / y)) := by
  have hd : x / y ≤ x := Int.ediv_le_self _ h0
  have hp : 0 ≤ x / y := Int.ediv_nonneg h0 (by omega)
  have hy : y ≠ 0 := by omega
  simp only [bop, if_true, hy, if_false, Int.tdiv_eq_ediv_of_nonneg h0]
  rw [wrap_u64 (by omega)]
theorem bop_rem_u64 {x y : Int} (h0 : 0 ≤ x) (h1 : 0 < y) : bop .rem (.int .u64 x) (.int .u64 y) = some (.int .u64 (x % y)) := by
  have hy : y ≠ 0 := by omega
  simp only [bop, if_true, hy, if_false, Int.tmod_eq_emod_of_nonneg h0]
theorem bop_shr_u64 {x y : Int} {k' : IntKind} (h0 : 0 ≤ y) (h1 : y ≤ 64) : bop .shr (.int .u64 x) (.int k' y) = some (.int .u64 (x / 2 ^ y.toNat)) := by
  have hm : min y.toNat 64 = y.toNat := by omega
  have hp : (0 : Int) ≤ 2 ^ y.toNat := Int.le_of_lt (Int.pow_pos (by decide))
  simp only [bop, h0, if_true, IntKind.bits, hm, Int.fdiv_eq_ediv_of_nonneg _ hp]
theorem bop_shl_u64 {x y : Int} {k' : IntKind} (h0 : 0 ≤ y) (h1 : y ≤ 64) (h : 0 ≤ x * 2 ^ y.toNat ∧ x * 2 ^ y.toNat < 18446744073709551616) : bop .shl (.int .u64 x) (.int k' y) = some (.int .u64 (x * 2 ^ y.toNat)) := by
  have hm : min y.toNat 64 = y.toNat := by omega
  simp only [bop, h0, if_true, IntKind.bits, hm]
  rw [wrap_u64 h]
theorem uop_neg_u64 {x : Int} (h : 0 ≤ (0 - x) ∧ (0 - x) < 18446744073709551616) : uop .neg (.int .u64 x) = some (.int .u64 (-x)) := by
  simp only [uop]; rw [wrap_u64 h]; simp
theorem wrap_u32 {x : Int} (h : 0 ≤ x ∧ x < 4294967296) : IntKind.wrap .u32 x = x := by
  have e : IntKind.wrap .u32 x = x % 4294967296 := by simp [IntKind.wrap, IntKind.signed, IntKind.bits]
  rw [e]; omega
theorem wrapM_u32 (x : Int) : IntKind.wrap .u32 x = x % 4294967296 := by simp [IntKind.wrap, IntKind.signed, IntKind.bits]
theorem bop_add_u32 {x y : Int} (h : 0 ≤ x + y ∧ x + y < 4294967296) : bop .add (.int .u32 x) (.int .u32 y) = some (.int .u32 (x + y)) := by
  simp only [bop, if_true]; rw [wrap_u32 h]
theorem bop_sub_u32 {x y : Int} (h : 0 ≤ x - y ∧ x - y < 4294967296) : bop .sub (.int .u32 x) (.int .u32 y) = some (.int .u32 (x - y)) := by
  simp only [bop, if_true]; rw [wrap_u32 h]
theorem bop_mul_u32 {x y : Int} (h : 0 ≤ x * y ∧ x * y < 4294967296) : bop .mul (.int .u32 x) (.int .u32 y) = some (.int .u32 (x * y)) := by
  simp only [bop, if_true]; rw [wrap_u32 h]
theorem bop_quo_u32 {x y : Int} (h0 : 0 ≤ x) (h1 : 0 < y) (h2 : x < 4294967296) : bop .quo (.int .u32 x) (.int .u32 y) = some (.int .u32 (x / y)) := by
  have hd : x / y ≤ x := Int.ediv_le_self _ h0
  have hp : 0 ≤ x / y := Int.ediv_nonneg h0 (by omega)
  have hy : y ≠ 0 := by omega
  simp only [bop, if_true, hy, if_false, Int.tdiv_eq_ediv_of_nonneg h0]
  rw [wrap_u32 (by omega)]
theorem bop_rem_u32 {x y : Int} (h0 : 0 ≤ x) (h1 : 0 < y) : bop .rem (.int .u32 x) (.int .u32 y) = some (.int .u32 (x % y)) := by
  have hy : y ≠ 0 := by omega
  simp only [bop, if_true, hy, if_false, Int.tmod_eq_emod_of_nonneg h0]
theorem bop_shr_u32 {x y : Int} {k' : IntKind} (h0 : 0 ≤ y) (h1 : y ≤ 32) : bop .shr (.int .u32 x) (.int k' y) = some (.int .u32 (x / 2 ^ y.toNat)) := by
  have hm : min y.toNat 32 = y.toNat := by omega
  have hp : (0 : Int) ≤ 2 ^ y.toNat := Int.le_of_lt (Int.pow_pos (by decide))
  simp only [bop, h0, if_true, IntKind.bits, hm, Int.fdiv_eq_ediv_of_nonneg _ hp]
theorem bop_shl_u32 {x y : Int} {k' : IntKind} (h0 : 0 ≤ y) (h1 : y ≤ 32) (h : 0 ≤ x * 2 ^ y.toNat ∧ x * 2 ^ y.toNat < 4294967296) : bop .shl (.int .u32 x) (.int k' y) = some (.int .u32 (x * 2 ^ y.toNat)) := by
  have hm : min y.toNat 32 = y.toNat := by omega
  simp only [bop, h0, if_true, IntKind.bits, hm]
  rw [wrap_u32 h]
theorem uop_neg_u32 {x : Int} (h : 0 ≤ (0 - x) ∧ (0 - x) < 4294967296) : uop .neg (.int .u32 x) = some (.int .u32 (-x)) := by
  simp only [uop]; rw [wrap_u32 h]; simp
theorem wrap_u8 {x : Int} (h : 0 ≤ x ∧ x < 256) : IntKind.wrap .u8 x = x := by
  have e : IntKind.wrap .u8 x = x % 256 := by simp [IntKind.wrap, IntKind.signed, IntKind.bits]
  rw [e]; omega
theorem wrapM_u8 (x : Int) : IntKind.wrap .u8 x = x % 256 := by simp [IntKind.wrap, IntKind.signed, IntKind.bits]
theorem bop_add_u8 {x y : Int} (h : 0 ≤ x + y ∧ x + y < 256) : bop .add (.int .u8 x) (.int .u8 y) = some (.int .u8 (x + y)) := by
  simp only [bop, if_true]; rw [wrap_u8 h]
theorem bop_sub_u8 {x y : Int} (h : 0 ≤ x - y ∧ x - y < 256) : bop .sub (.int .u8 x) (.int .u8 y) = some (.int .u8 (x - y)) := by
  simp only [bop, if_true]; rw [wrap_u8 h]
theorem bop_mul_u8 {x y : Int} (h : 0 ≤ x * y ∧ x * y < 256) : bop .mul (.int .u8 x) (.int .u8 y) = some (.int .u8 (x * y)) := by
  simp only [bop, if_true]; rw [wrap_u8 h]
theorem bop_quo_u8 {x y : Int} (h0 : 0 ≤ x) (h1 : 0 < y) (h2 : x < 256) : bop .quo (.int .u8 x) (.int .u8 y) = some (.int .u8 (x / y)) := by
  have hd : x / y ≤ x := Int.ediv_le_self _ h0
  have hp : 0 ≤ x / y := Int.ediv_nonneg h0 (by omega)
  have hy : y ≠ 0 := by omega
  simp only [bop, if_true, hy, if_false, Int.tdiv_eq_ediv_of_nonneg h0]
  rw [wrap_u8 (by omega)]
theorem bop_rem_u8 {x y : Int} (h0 : 0 ≤ x) (h1 : 0 < y) : bop .rem (.int .u8 x) (.int .u8 y) = some (.int .u8 (x % y)) := by
  have hy : y ≠ 0 := by omega
  simp only [bop, if_true, hy, if_false, Int.tmod_eq_emod_of_nonneg h0]
theorem bop_shr_u8 {x y : Int} {k' : IntKind} (h0 : 0 ≤ y) (h1 : y ≤ 8) : bop .shr (.int .u8 x) (.int k' y) = some (.int .u8 (x / 2 ^ y.toNat)) := by
  have hm : min y.toNat 8 = y.toNat := by omega
  have hp : (0 : Int) ≤ 2 ^ y.toNat := Int.le_of_lt (Int.pow_pos (by decide))
  simp only [bop, h0, if_true, IntKind.bits, hm, Int.fdiv_eq_ediv_of_nonneg _ hp]
theorem bop_shl_u8 {x y : Int} {k' : IntKind} (h0 : 0 ≤ y) (h1 : y ≤ 8) (h : 0 ≤ x * 2 ^ y.toNat ∧ x * 2 ^ y.toNat < 256) : bop .shl (.int .u8 x) (.int k' y) = some (.int .u8 (x * 2 ^ y.toNat)) := by
  have hm : min y.toNat 8 = y.toNat := by omega
  simp only [bop, h0, if_true, IntKind.bits, hm]
  rw [wrap_u8 h]
theorem uop_neg_u8 {x : Int} (h : 0 ≤ (0 - x) ∧ (0 - x) < 256) : uop .neg (.int .u8 x) = some (.int .u8 (-x)) := by
  simp only [uop]; rw [wrap_u8 h]; simp

theorem bop_shrL_u64 {x y q : Int} {k' : IntKind} (h0 : 0 ≤ y) (h1 : y ≤ 64) (hq : (2 : Int) ^ y.toNat = q) : bop .shr (.int .u64 x) (.int k' y) = some (.int .u64 (x / q)) := by
  subst hq; exact bop_shr_u64 h0 h1
theorem uopM_neg_u64 (x : Int) : uop .neg (.int .u64 x) = some (.int .u64 ((0 - x) % 18446744073709551616)) := by
  simp only [uop]; rw [wrapM_u64]
theorem neg_back {x : Int} (h0 : 0 ≤ x) (h1 : x ≤ 9223372036854775808) : IntKind.wrap .i64 ((0 - x) % 18446744073709551616) = -x := by
  rw [wrapE_i64]; split <;> omega
theorem bopM_add_u64 (x y : Int) : bop .add (.int .u64 x) (.int .u64 y) = some (.int .u64 ((x + y) % 18446744073709551616)) := by
  simp only [bop, if_true]; rw [wrapM_u64]
theorem bopM_sub_u64 (x y : Int) : bop .sub (.int .u64 x) (.int .u64 y) = some (.int .u64 ((x - y) % 18446744073709551616)) := by
  simp only [bop, if_true]; rw [wrapM_u64]
theorem bopM_mul_u64 (x y : Int) : bop .mul (.int .u64 x) (.int .u64 y) = some (.int .u64 ((x * y) % 18446744073709551616)) := by
  simp only [bop, if_true]; rw [wrapM_u64]
theorem bop_shrL_u32 {x y q : Int} {k' : IntKind} (h0 : 0 ≤ y) (h1 : y ≤ 32) (hq : (2 : Int) ^ y.toNat = q) : bop .shr (.int .u32 x) (.int k' y) = some (.int .u32 (x / q)) := by
  subst hq; exact bop_shr_u32 h0 h1
theorem bopM_add_u32 (x y : Int) : bop .add (.int .u32 x) (.int .u32 y) = some (.int .u32 ((x + y) % 4294967296)) := by
  simp only [bop, if_true]; rw [wrapM_u32]
theorem bopM_sub_u32 (x y : Int) : bop .sub (.int .u32 x) (.int .u32 y) = some (.int .u32 ((x - y) % 4294967296)) := by
  simp only [bop, if_true]; rw [wrapM_u32]
theorem bopM_mul_u32 (x y : Int) : bop .mul (.int .u32 x) (.int .u32 y) = some (.int .u32 ((x * y) % 4294967296)) := by
  simp only [bop, if_true]; rw [wrapM_u32]

theorem bop_shlL_u64 {x y q : Int} {k' : IntKind} (h0 : 0 ≤ y) (h1 : y ≤ 64) (hq : (2 : Int) ^ y.toNat = q) (h : 0 ≤ x * q ∧ x * q < 18446744073709551616) : bop .shl (.int .u64 x) (.int k' y) = some (.int .u64 (x * q)) := by
  subst hq; exact bop_shl_u64 h0 h1 h
theorem bopM_shlL_u64 {x y q : Int} {k' : IntKind} (h0 : 0 ≤ y) (h1 : y ≤ 64) (hq : (2 : Int) ^ y.toNat = q) : bop .shl (.int .u64 x) (.int k' y) = some (.int .u64 (x * q % 18446744073709551616)) := by
  subst hq
  have hm : min y.toNat 64 = y.toNat := by omega
  simp only [bop, h0, if_true, IntKind.bits, hm]
  rw [wrapM_u64]
theorem ofInt_nat_u64 {x : Int} (h0 : 0 ≤ x) (h1 : x < 18446744073709551616) : (BitVec.ofInt 64 x).toNat = x.toNat := by
  rw [BitVec.toNat_ofInt]; congr 1; simp; omega
theorem bop_or_u64 {x y q : Int} (p : Nat) (hp : (2 : Int) ^ p = q) (hx : ∃ h, 0 ≤ h ∧ x = h * q) (hy : 0 ≤ y ∧ y < q) (hxy : x + y < 18446744073709551616) : bop .or (.int .u64 x) (.int .u64 y) = some (.int .u64 (x + y)) := by
  obtain ⟨h, h0, rfl⟩ := hx
  have hq : 0 < q := by omega
  have hx0 : 0 ≤ h * q := Int.mul_nonneg h0 (by omega)
  have e : ((BitVec.ofInt 64 (h * q) ||| BitVec.ofInt 64 y).toNat : Int) = h * q + y := by
    rw [BitVec.toNat_or, ofInt_nat_u64 hx0 (by omega), ofInt_nat_u64 hy.1 (by omega)]
    have hqn : q.toNat = 2 ^ p := by rw [← hp, show (2 : Int) ^ p = ((2 ^ p : Nat) : Int) from (Int.natCast_pow 2 p).symm, Int.toNat_natCast]
    have h1 : (h * q).toNat = 2 ^ p * h.toNat := by rw [Int.toNat_mul h0 (by omega), hqn, Nat.mul_comm]
    rw [h1, ← Nat.two_pow_add_eq_or_of_lt (by rw [← hqn]; omega), ← h1]
    omega
  show some (Value.int .u64 (IntKind.wrap .u64 ((BitVec.ofInt 64 (h * q) ||| BitVec.ofInt 64 y).toNat : Int))) = _
  rw [e, wrap_u64 (by omega)]
theorem bop_orR_u64 {x y q : Int} (p : Nat) (hp : (2 : Int) ^ p = q) (hx : 0 ≤ x ∧ x < q) (hy : ∃ h, 0 ≤ h ∧ y = h * q) (hxy : x + y < 18446744073709551616) : bop .or (.int .u64 x) (.int .u64 y) = some (.int .u64 (x + y)) := by
  have h1 := bop_or_u64 (x := y) (y := x) p hp hy hx (by omega)
  rw [Int.add_comm] at h1
  rw [← h1]
  show some (Value.int .u64 (IntKind.wrap .u64 ((BitVec.ofInt 64 x ||| BitVec.ofInt 64 y).toNat : Int))) = some (Value.int .u64 (IntKind.wrap .u64 ((BitVec.ofInt 64 y ||| BitVec.ofInt 64 x).toNat : Int)))
  rw [BitVec.or_comm]
theorem bop_mask_u64 {x y q : Int} (p : Nat) (hp : (2 : Int) ^ p = q) (hy : y = q - 1) (hq : q ≤ 18446744073709551616) (hx : 0 ≤ x ∧ x < 18446744073709551616) : bop .and (.int .u64 x) (.int .u64 y) = some (.int .u64 (x % q)) := by
  subst hy
  have hq0 : 0 < q := by rw [← hp]; exact Int.pow_pos (by decide)
  have e : ((BitVec.ofInt 64 x &&& BitVec.ofInt 64 (q - 1)).toNat : Int) = x % q := by
    rw [BitVec.toNat_and, ofInt_nat_u64 hx.1 hx.2, ofInt_nat_u64 (by omega) (by omega)]
    have hqn : q.toNat = 2 ^ p := by rw [← hp, show (2 : Int) ^ p = ((2 ^ p : Nat) : Int) from (Int.natCast_pow 2 p).symm, Int.toNat_natCast]
    have h1 : (q - 1).toNat = 2 ^ p - 1 := by omega
    rw [h1, Nat.and_two_pow_sub_one_eq_mod, ← hqn, Int.natCast_emod, Int.toNat_of_nonneg hx.1, Int.toNat_of_nonneg (by omega)]
  have hm : 0 ≤ x % q ∧ x % q ≤ x := ⟨Int.emod_nonneg _ (by omega), by
    have h1 := Int.mul_ediv_add_emod x q
    have h2 : 0 ≤ q * (x / q) := Int.mul_nonneg (by omega) (Int.ediv_nonneg hx.1 (by omega))
    omega⟩
  show some (Value.int .u64 (IntKind.wrap .u64 ((BitVec.ofInt 64 x &&& BitVec.ofInt 64 (q - 1)).toNat : Int))) = _
  rw [e, wrap_u64 (by omega)]
theorem bop_shlL_u32 {x y q : Int} {k' : IntKind} (h0 : 0 ≤ y) (h1 : y ≤ 32) (hq : (2 : Int) ^ y.toNat = q) (h : 0 ≤ x * q ∧ x * q < 4294967296) : bop .shl (.int .u32 x) (.int k' y) = some (.int .u32 (x * q)) := by
  subst hq; exact bop_shl_u32 h0 h1 h
theorem bopM_shlL_u32 {x y q : Int} {k' : IntKind} (h0 : 0 ≤ y) (h1 : y ≤ 32) (hq : (2 : Int) ^ y.toNat = q) : bop .shl (.int .u32 x) (.int k' y) = some (.int .u32 (x * q % 4294967296)) := by
  subst hq
  have hm : min y.toNat 32 = y.toNat := by omega
  simp only [bop, h0, if_true, IntKind.bits, hm]
  rw [wrapM_u32]
theorem ofInt_nat_u32 {x : Int} (h0 : 0 ≤ x) (h1 : x < 4294967296) : (BitVec.ofInt 32 x).toNat = x.toNat := by
  rw [BitVec.toNat_ofInt]; congr 1; simp; omega
theorem bop_or_u32 {x y q : Int} (p : Nat) (hp : (2 : Int) ^ p = q) (hx : ∃ h, 0 ≤ h ∧ x = h * q) (hy : 0 ≤ y ∧ y < q) (hxy : x + y < 4294967296) : bop .or (.int .u32 x) (.int .u32 y) = some (.int .u32 (x + y)) := by
  obtain ⟨h, h0, rfl⟩ := hx
  have hq : 0 < q := by omega
  have hx0 : 0 ≤ h * q := Int.mul_nonneg h0 (by omega)
  have e : ((BitVec.ofInt 32 (h * q) ||| BitVec.ofInt 32 y).toNat : Int) = h * q + y := by
    rw [BitVec.toNat_or, ofInt_nat_u32 hx0 (by omega), ofInt_nat_u32 hy.1 (by omega)]
    have hqn : q.toNat = 2 ^ p := by rw [← hp, show (2 : Int) ^ p = ((2 ^ p : Nat) : Int) from (Int.natCast_pow 2 p).symm, Int.toNat_natCast]
    have h1 : (h * q).toNat = 2 ^ p * h.toNat := by rw [Int.toNat_mul h0 (by omega), hqn, Nat.mul_comm]
    rw [h1, ← Nat.two_pow_add_eq_or_of_lt (by rw [← hqn]; omega), ← h1]
    omega
  show some (Value.int .u32 (IntKind.wrap .u32 ((BitVec.ofInt 32 (h * q) ||| BitVec.ofInt 32 y).toNat : Int))) = _
  rw [e, wrap_u32 (by omega)]
theorem bop_orR_u32 {x y q : Int} (p : Nat) (hp : (2 : Int) ^ p = q) (hx : 0 ≤ x ∧ x < q) (hy : ∃ h, 0 ≤ h ∧ y = h * q) (hxy : x + y < 4294967296) : bop .or (.int .u32 x) (.int .u32 y) = some (.int .u32 (x + y)) := by
  have h1 := bop_or_u32 (x := y) (y := x) p hp hy hx (by omega)
  rw [Int.add_comm] at h1
  rw [← h1]
  show some (Value.int .u32 (IntKind.wrap .u32 ((BitVec.ofInt 32 x ||| BitVec.ofInt 32 y).toNat : Int))) = some (Value.int .u32 (IntKind.wrap .u32 ((BitVec.ofInt 32 y ||| BitVec.ofInt 32 x).toNat : Int)))
  rw [BitVec.or_comm]
theorem bop_mask_u32 {x y q : Int} (p : Nat) (hp : (2 : Int) ^ p = q) (hy : y = q - 1) (hq : q ≤ 4294967296) (hx : 0 ≤ x ∧ x < 4294967296) : bop .and (.int .u32 x) (.int .u32 y) = some (.int .u32 (x % q)) := by
  subst hy
  have hq0 : 0 < q := by rw [← hp]; exact Int.pow_pos (by decide)
  have e : ((BitVec.ofInt 32 x &&& BitVec.ofInt 32 (q - 1)).toNat : Int) = x % q := by
    rw [BitVec.toNat_and, ofInt_nat_u32 hx.1 hx.2, ofInt_nat_u32 (by omega) (by omega)]
    have hqn : q.toNat = 2 ^ p := by rw [← hp, show (2 : Int) ^ p = ((2 ^ p : Nat) : Int) from (Int.natCast_pow 2 p).symm, Int.toNat_natCast]
    have h1 : (q - 1).toNat = 2 ^ p - 1 := by omega
    rw [h1, Nat.and_two_pow_sub_one_eq_mod, ← hqn, Int.natCast_emod, Int.toNat_of_nonneg hx.1, Int.toNat_of_nonneg (by omega)]
  have hm : 0 ≤ x % q ∧ x % q ≤ x := ⟨Int.emod_nonneg _ (by omega), by
    have h1 := Int.mul_ediv_add_emod x q
    have h2 : 0 ≤ q * (x / q) := Int.mul_nonneg (by omega) (Int.ediv_nonneg hx.1 (by omega))
    omega⟩
  show some (Value.int .u32 (IntKind.wrap .u32 ((BitVec.ofInt 32 x &&& BitVec.ofInt 32 (q - 1)).toNat : Int))) = _
  rw [e, wrap_u32 (by omega)]

section
variable {P : Program} {ops : Array Oper} {o : Oper} {r : List Oper} {n n' id : Nat} {s : Slots} {E : Env} {Q : Nat → Slots → Env → Prop} {d : Nat} {v : V}
theorem bnot_t {b : Bool} (h : (!b) = true) : b = false := by cases b <;> simp_all
theorem bnot_f {b : Bool} (h : (!b) = false) : b = true := by cases b <;> simp_all
theorem setAt_same {α : Type} {f : Nat → α} {i : Nat} {x : α} (h : f i = x) : setAt f i x = f := by
  funext j
  by_cases hj : j = i
  · subst hj; rw [setAt_self, h]
  · exact setAt_ne _ _ hj
theorem VList.split (t : Bool) (hs : s d = some (vB t)) (h1 : t = true → VList P ops r n (setAt s d (some (vB true))) E Q) (h2 : t = false → VList P ops r n (setAt s d (some (vB false))) E Q) : VList P ops r n s E Q := by
  cases t
  · have := h2 rfl; rwa [setAt_same hs] at this
  · have := h1 rfl; rwa [setAt_same hs] at this
variable {log : List (List Nat × List Nat)} {R : List (List Nat × List Nat) → Nat → Slots → Env → Prop}
theorem VLog.split (t : Bool) (hs : s d = some (vB t)) (h1 : t = true → VLog P ops r n (setAt s d (some (vB true))) E log R) (h2 : t = false → VLog P ops r n (setAt s d (some (vB false))) E log R) : VLog P ops r n s E log R := by
  cases t
  · have := h2 rfl; rwa [setAt_same hs] at this
  · have := h1 rfl; rwa [setAt_same hs] at this

variable {x y : Operand} {L D : List Int} {T T' el i m off : Nat} {k k' : IntKind} {j z : Int} {u : TypeDesc}
theorem Eff.convW (h : ev s x = some (vI k j)) (hu : P.underlying T = some u) (hu' : P.underlying T' = some (.int k')) (hw : IntKind.wrap k' j = z) : Eff P id s E (.convert T T' x) (some (vI k' z)) [] := by
  subst hw; exact .convI T T' x k j u k' h hu hu'
theorem Eff.convN_i64 (h : ev s x = some (vI k j)) (hu : P.underlying T = some u) (hu' : P.underlying T' = some (.int .i64)) (hr : -9223372036854775808 ≤ j ∧ j ≤ 9223372036854775807) : Eff P id s E (.convert T T' x) (some (vI .i64 j)) [] := .convW h hu hu' (wrap_i64 hr)
theorem Eff.convN_u64 (h : ev s x = some (vI k j)) (hu : P.underlying T = some u) (hu' : P.underlying T' = some (.int .u64)) (hr : 0 ≤ j ∧ j < 18446744073709551616) : Eff P id s E (.convert T T' x) (some (vI .u64 j)) [] := .convW h hu hu' (wrap_u64 hr)
theorem Eff.convM_u64 (h : ev s x = some (vI k j)) (hu : P.underlying T = some u) (hu' : P.underlying T' = some (.int .u64)) : Eff P id s E (.convert T T' x) (some (vI .u64 (j % 18446744073709551616))) [] := .convW h hu hu' (wrapM_u64 j)
theorem Eff.convN_u32 (h : ev s x = some (vI k j)) (hu : P.underlying T = some u) (hu' : P.underlying T' = some (.int .u32)) (hr : 0 ≤ j ∧ j < 4294967296) : Eff P id s E (.convert T T' x) (some (vI .u32 j)) [] := .convW h hu hu' (wrap_u32 hr)
theorem Eff.convM_u32 (h : ev s x = some (vI k j)) (hu : P.underlying T = some u) (hu' : P.underlying T' = some (.int .u32)) : Eff P id s E (.convert T T' x) (some (vI .u32 (j % 4294967296))) [] := .convW h hu hu' (wrapM_u32 j)
theorem Eff.convN_u8 (h : ev s x = some (vI k j)) (hu : P.underlying T = some u) (hu' : P.underlying T' = some (.int .u8)) (hr : 0 ≤ j ∧ j < 256) : Eff P id s E (.convert T T' x) (some (vI .u8 j)) [] := .convW h hu hu' (wrap_u8 hr)
theorem Eff.convM_u8 (h : ev s x = some (vI k j)) (hu : P.underlying T = some u) (hu' : P.underlying T' = some (.int .u8)) : Eff P id s E (.convert T T' x) (some (vI .u8 (j % 256))) [] := .convW h hu hu' (wrapM_u8 j)

theorem Eff.indexRdN {q : Nat} (h : ev s x = some (vS L)) (hi : ev s y = some (vI k (q : Int))) (hu : P.underlying T = some (.slice el)) (hs : szOf P el = some 1) (h1 : q < L.length) : Eff P id s E (.indexAddr T x y) (some (.rd [u32B (L.getD q 0)])) [] :=
  Eff.indexRd h hi hu hs (by omega) (by omega)
theorem Eff.indexRowN {q : Nat} (h : ev s x = some (.own i m)) (hi : ev s y = some (vI k (q : Int))) (hu : P.underlying T = some (.slice el)) (hs : szOf P el = some 1) (h1 : q < m) : Eff P id s E (.indexAddr T x y) (some (.ptr i q)) [] :=
  Eff.indexRow h hi hu hs (by omega) (by omega)
theorem Eff.indexT {str : ByteArray} (h : ev s x = some (.b (.lit (.string str)))) (hi : ev s y = some (vI k j)) (hu : P.underlying T = some .string) (h0 : 0 ≤ j) (h1 : j.toNat < str.size) (hv : ((str.data.getD j.toNat 0).toNat : Int) = z) :
    Eff P id s E (.index T x y) (some (vI .u8 z)) [] := by
  subst hv; exact .index T x y str k j h hi hu h0 h1
theorem Eff.lits0 (hu : P.underlying T = some (.slice el)) (hz : zeroOf P el = some [u32B 0]) (hs : szOf P el = some 1) : Eff P id s E (.buildSlice T 0 #[]) (some (.own id 0)) [(id, some (row []))] :=
  .buildS T 0 #[] el [] 1 [u32B 0] [] rfl hu hz hs (by simp) (by simp) rfl rfl
theorem Eff.lits1 (hx : ev s x = some (vI .u32 j)) (hu : P.underlying T = some (.slice el)) (hz : zeroOf P el = some [u32B 0]) (hs : szOf P el = some 1) : Eff P id s E (.buildSlice T 1 #[(0, x)]) (some (.own id 1)) [(id, some (row [j]))] :=
  .buildS T 1 #[(0, x)] el [vI .u32 j] 1 [u32B 0] [vI .u32 j] (by simp [evs, hx]) hu hz hs (by simp) (by simp) rfl rfl
theorem Eff.lits2 (hx : ev s x = some (vI .u32 j)) (hy : ev s y = some (vI .u32 z)) (hu : P.underlying T = some (.slice el)) (hz : zeroOf P el = some [u32B 0]) (hs : szOf P el = some 1) :
    Eff P id s E (.buildSlice T 2 #[(0, x), (1, y)]) (some (.own id 2)) [(id, some (row [j, z]))] :=
  .buildS T 2 #[(0, x), (1, y)] el [vI .u32 j, vI .u32 z] 1 [u32B 0] [vI .u32 j, vI .u32 z] (by simp [evs, hx, hy]) hu hz hs (by simp) (by simp) rfl rfl

theorem Eff.callV0 {f : FuncId} {args : Array Operand} {ts : Array TypeId} {vs : List V} {xs : List B} {rr : B} (h : evs s args.toList = some vs) (hx : ress E vs = some xs) (hf : VF P f xs rr) (hn : vs.flatMap V.names = []) :
    Eff P id s E (.call { callee := .value (.func f), args := args, argTypes := ts }) (some (.b rr)) [] := by
  have := Eff.callV (P := P) (id := id) f args ts vs xs rr h hx hf
  rw [hn] at this
  exact this
theorem ress_nil : ress E [] = some [] := rfl
theorem ress_cons {w : V} {b : B} {vs : List V} {l : List B} (h1 : res E w = some b) (h2 : ress E vs = some l) : ress E (w :: vs) = some (b :: l) := by simp only [ress, h1, h2]
theorem res_agg {t : Bool} (he : E i = some (row L)) (hl : L.length = m) : res E (.agg [vB t, .own i m]) = some (intB t L) := by
  have h : resL E (.own i m) = some (u32S L) := res_row he hl
  have h0 : resL E (vB t) = some (.lit (.bool t)) := rfl
  simp only [res, resLs, h, h0, Option.map_some]
theorem resVars_nil : resVars P s E [] = some [] := rfl
theorem resVars_cons {w : ResultVar} {b : B} {vs : List ResultVar} {l : List B} (h1 : resVar P s E w = some b) (h2 : resVars P s E vs = some l) : resVars P s E (w :: vs) = some (b :: l) := by simp only [resVars, h1, h2]
theorem resVar_tmp {t : Nat} {w : V} {b : B} (hs : s t = some w) (h : res E w = some b) : resVar P s E (.tmp t) = some b := by simp only [resVar, hs, Option.bind_some, h]
theorem resVar_cell {t : Nat} {e : Ent} {q : Nat} {b : B} (hs : s t = some (.ptr i off)) (he : E i = some e) (ha : aggOf P T = some true) (hn : szOf P T = some q) (hl : off + q ≤ e.cells.length) (h : res E (.agg ((e.cells.drop off).take q)) = some b) : resVar P s E (.cell t T) = some b := by
  simp only [resVar, hs, he, ha, hn, if_pos hl, h]
end

section
variable {P : Program}
theorem VList.mono {ops : Array Oper} {Q Q' : Nat → Slots → Env → Prop} (h : ∀ n s E, Q n s E → Q' n s E) : ∀ (l : List Oper) (n : Nat) (s : Slots) (E : Env), VList P ops l n s E Q → VList P ops l n s E Q'
  | [], n, s, E, hl => h n s E hl
  | o :: r, n, s, E, hl => by
    rcases hl with ⟨h1, v, us, h2, h3⟩ | ⟨h1, h2⟩ | ⟨h1, v, n', E2, h2, h3⟩
    · exact .inl ⟨h1, v, us, h2, VList.mono h r _ _ _ h3⟩
    · exact .inr (.inl ⟨h1, VList.mono h r _ _ _ h2⟩)
    · exact .inr (.inr ⟨h1, v, n', E2, h2, VList.mono h r _ _ _ h3⟩)
theorem VLog.mono {ops : Array Oper} {Q Q' : List (List Nat × List Nat) → Nat → Slots → Env → Prop} (h : ∀ lg n s E, Q lg n s E → Q' lg n s E) : ∀ (l : List Oper) (n : Nat) (s : Slots) (E : Env) (lg), VLog P ops l n s E lg Q → VLog P ops l n s E lg Q'
  | [], n, s, E, lg, hl => h lg n s E hl
  | o :: r, n, s, E, lg, hl => by
    rcases hl with ⟨h1, v, us, lk, h2, h3⟩ | ⟨h1, h2⟩
    · exact .inl ⟨h1, v, us, lk, h2, VLog.mono h r _ _ _ _ h3⟩
    · exact .inr ⟨h1, VLog.mono h r _ _ _ _ h2⟩
theorem VCode.mono {k : Nat} : ∀ (c : Code) (n : Nat) (s : Slots) (E : Env) (X Y : VExit → Nat → Slots → Env → Prop), (∀ e n s E, X e n s E → Y e n s E) → VCode P k c n s E X → VCode P k c n s E Y := by
  intro c
  induction c with
  | skip => intro n s E X Y h hc; exact h _ _ _ _ hc
  | region rid ops d =>
    intro n s E X Y h hc
    cases d with
    | false => exact VList.mono (h .normal) _ _ _ _ hc
    | true => exact ⟨hc.1, VLog.mono (fun lg n s E hq => ⟨hq.1, h .normal _ _ _ hq.2⟩) _ _ _ _ _ hc.2⟩
  | seq a b iha ihb =>
    intro n s E X Y h hc
    refine iha n s E _ _ (fun e n s E he => ?_) hc
    cases e with
    | normal =>
      rcases he with he | ⟨n1, s1, E1, hw, he⟩
      · exact .inl (ihb _ _ _ _ _ h he)
      · exact .inr ⟨n1, s1, E1, hw, ihb _ _ _ _ _ h he⟩
    | exit i => exact h _ _ _ _ he
    | ret => exact h _ _ _ _ he
  | cond c a b iha ihb =>
    intro n s E X Y h hc
    obtain ⟨t, h1, h2, h3⟩ := hc
    exact ⟨t, h1, fun ht => iha _ _ _ _ _ h (h2 ht), fun ht => ihb _ _ _ _ _ h (h3 ht)⟩
  | block id b ih =>
    intro n s E X Y h hc
    refine ih n s E _ _ (fun e n s E he => ?_) hc
    cases e with
    | normal => exact h _ _ _ _ he
    | exit i =>
      simp only at he ⊢
      split
      · rename_i hi; rw [if_pos hi] at he; exact h _ _ _ _ he
      · rename_i hi; rw [if_neg hi] at he; exact h _ _ _ _ he
    | ret => exact h _ _ _ _ he
  | loop b ih =>
    intro n s E X Y h hc
    obtain ⟨α, st, ok, μ, h0, hr⟩ := hc
    refine ⟨α, st, ok, μ, h0, fun x hx => ih _ _ _ _ _ (fun e n s E he => ?_) (hr x hx)⟩
    cases e with
    | normal => exact he
    | exit i => exact h _ _ _ _ he
    | ret => exact h _ _ _ _ he
  | rangeFunc f ps a b iha ihb => intro n s E X Y h hc; exact fun F w0 W P0 E0 pl0 pl N a Qx h1 h2 h3 h4 h5 h6 h7 h8 => hc F w0 W P0 E0 pl0 pl N a Qx h1 h2 h3 h4 h5 h6 h7 (fun e n s E a W pl hx => h8 e n s E a W pl (h e n s E hx))
  | exit i => intro n s E X Y h hc; exact h _ _ _ _ hc
  | scope b ih => intro n s E X Y h hc; exact ih _ _ _ _ _ h hc
  | label l => intro n s E X Y h hc; exact h _ _ _ _ hc
  | goto l => intro n s E X Y h hc; exact hc.elim
  | ret => intro n s E X Y h hc; exact h _ _ _ _ hc
  | refuse w => intro n s E X Y h hc; exact hc.elim
/-- Where ways meet. -/
def Joins (k : Nat) {α : Type} (st : α → Nat × Slots × Env) (J : α → Prop) (X : VExit → Nat → Slots → Env → Prop) : VExit → Nat → Slots → Env → Prop := fun e n s E => match e with
  | .normal => ∃ y, J y ∧ Weak k s E (st y).1 (st y).2.1 (st y).2.2
  | e => X e n s E
theorem Joins.go {k : Nat} {α : Type} {st : α → Nat × Slots × Env} {J : α → Prop} {X : VExit → Nat → Slots → Env → Prop} {n : Nat} {s : Slots} {E : Env} (y : α) (h1 : J y) (h3 : Weak k s E (st y).1 (st y).2.1 (st y).2.2) : Joins k st J X .normal n s E := ⟨y, h1, h3⟩
theorem Joins.ret {k : Nat} {α : Type} {st : α → Nat × Slots × Env} {J : α → Prop} {X : VExit → Nat → Slots → Env → Prop} {n : Nat} {s : Slots} {E : Env} (h : X .ret n s E) : Joins k st J X .ret n s E := h
theorem Joins.exit {k : Nat} {α : Type} {st : α → Nat × Slots × Env} {J : α → Prop} {X : VExit → Nat → Slots → Env → Prop} {n : Nat} {s : Slots} {E : Env} {i : Nat} (h : X (.exit i) n s E) : Joins k st J X (.exit i) n s E := h
theorem VCode.join {k : Nat} {a b : Code} {n : Nat} {s : Slots} {E : Env} {X : VExit → Nat → Slots → Env → Prop} {α : Type} (st : α → Nat × Slots × Env) (J : α → Prop) (h1 : VCode P k a n s E (Joins k st J X)) (h2 : ∀ y, J y → VCode P k b (st y).1 (st y).2.1 (st y).2.2 X) : VCode P k (.seq a b) n s E X := by
  refine VCode.mono a n s E _ _ (fun e n s E he => ?_) h1
  cases e with
  | normal =>
    obtain ⟨y, hy, hw⟩ := he
    exact .inr ⟨_, _, _, hw, h2 y hy⟩
  | exit i => exact he
  | ret => exact he
end

section
variable {P : Program}
theorem row_map (L : List Int) : (⟨1, (L.map u32B).map .b, true⟩ : Ent) = row L := by simp only [row, List.map_map]; rfl
def rowSlots (n : Nat) (args : List B) : Slots
  | 0 => some (.own 0 n)
  | t + 1 => (args[t]?).map .b
def rowEnv (L : List Int) : Env := setAt (fun _ => none) 0 (some (row L))
/-- A function that changes a row of words that it is lent. -/
theorem VMr_of {f : FuncId} {fn : Func} {c : Code} {L : List Int} {args : List B} {r : B} {L' : List Int} (hm : P.follows .mixedOrders = true) (hfn : P.funcs[f]? = some fn) (hb : fn.body = some c) (hname : (fn.name == "runtime.NumGoroutine") = false)
    (hc : codeOk (.of (args.length + 1 + (fn.ntmps - (args.length + 1)))) c = true) (hlen : L'.length = L.length) (hflat : r.flat = true)
    (hbody : VCode P 1 c 1 (rowSlots L.length args) (rowEnv L) fun e n s E => (match e with | .exit _ => False | _ => True) ∧ (∃ l, resVars P s E fn.results.toList = some l ∧ r = oneB l) ∧ E 0 = some (row L')) : VM P f (L.map u32B) args r (L'.map u32B) := by
  refine VM_of hm hfn hb hname hc lits_all (by simp [hlen]) hflat lits_all ?_
  have e1 : lentSlots (L.map u32B).length args = rowSlots L.length args := by funext t; cases t <;> simp [lentSlots, rowSlots]
  have e2 : lentEnv (L.map u32B) = rowEnv L := by simp only [lentEnv, rowEnv, row_map]
  rw [e1, e2]
  exact VCode.mono _ _ _ _ _ _ (fun e n s E h => ⟨h.1, h.2.1, true, by rw [row_map]; exact h.2.2⟩) hbody
variable {id : Nat} {s : Slots} {E : Env} {x : Operand} {rest : List Operand} {args : Array Operand} {ts : Array TypeId} {i n : Nat} {L L' : List Int} {vs : List V} {xs : List B} {rr : B} {f : FuncId}
theorem Eff.callMr (ha : args.toList = x :: rest) (hx : ev s x = some (.own i n)) (he : E i = some (row L)) (hn : L.length = n) (h : evs s rest = some vs) (hr : ress E vs = some xs) (hni : i ∉ vs.flatMap V.names) (hf : VM P f (L.map u32B) xs rr (L'.map u32B)) :
    Eff P id s E (.call { callee := .value (.func f), args := args, argTypes := ts }) (some (.b rr)) [(i, some (row L'))] := by
  have := Eff.callM (P := P) (id := id) f x rest args ts i n (row L) (L.map u32B) vs xs rr (L'.map u32B) ha hx he rfl rfl (by simp only [row, List.map_map]; rfl) (by simp [hn]) lits_all lits_all h hr hni hf
  have e : (some (⟨(row L).sz, (L'.map u32B).map .b, true⟩ : Ent) : Option Ent) = some (row L') := by rw [← row_map L']; rfl
  rw [e] at this
  exact this
end
end Go.VL

/- A small program logic over the translated Go code, further part: rows of numbers of any kind; append onto nil; strings of bytes. -/
set_option linter.unusedVariables false
set_option linter.unusedSimpArgs false
namespace Go.VL
open Go.RowKit

def rowK (k : IntKind) (L : List Int) : Ent := ⟨1, L.map fun x => .b (numB k x), true⟩
abbrev slK (k : IntKind) (L : List Int) : B := .sl 1 (L.map (numB k))
theorem row_cellsK {k : IntKind} {n1 : Nat} {L : List Int} : ∀ v ∈ (rowK k L).cells, v.all1.all (fun i => decide (i < n1)) = true := fun v hv => by
  simp only [rowK, List.mem_map] at hv
  obtain ⟨x, _, rfl⟩ := hv
  rfl
theorem rowK_ren {k : IntKind} {ρ : Nat → Nat} {L : List Int} : (rowK k L).ren ρ = rowK k L := by
  simp only [rowK, Ent.ren, List.map_map]; rfl
/-- A row of bytes of a known type. -/
def rowG (T : TypeId) (L : List Int) : Ent := ⟨1, L.map fun x => .b (numB .u8 x), ⟨true, some T⟩⟩
theorem row_cellsG {T : TypeId} {n1 : Nat} {L : List Int} : ∀ v ∈ (rowG T L).cells, v.all1.all (fun i => decide (i < n1)) = true := fun v hv => row_cellsK (k := .u8) (L := L) v hv
theorem rowG_ren {T : TypeId} {ρ : Nat → Nat} {L : List Int} : (rowG T L).ren ρ = rowG T L := by
  have h := congrArg Ent.cells (rowK_ren (k := .u8) (ρ := ρ) (L := L))
  show (⟨1, ((rowK .u8 L).ren ρ).cells, ⟨true, some T⟩⟩ : Ent) = _
  rw [h]; rfl
section
variable {P : Program} {n id : Nat} {s : Slots} {E : Env} {x y p ix : Operand} {L D : List Int} {T T' el i m off : Nat} {k : IntKind} {j z : Int}
theorem Eff.loadK (h : ev s p = some (.ptr i off)) (he : E i = some (rowK k L)) (ha : aggOf P T = some false) (h1 : off < L.length) : Eff P id s E (.load T p) (some (vI k (L.getD off 0))) [] :=
  .load1 T p i off _ _ h he ha (by simp only [rowK]; rw [List.getElem?_map, getD_get h1]; rfl)
theorem Eff.storeK (h : ev s p = some (.ptr i off)) (he : E i = some (rowK k L)) (hv : ev s x = some (vI k z)) (hn : szOf P T = some 1) (h1 : off < L.length) : Eff P id s E (.store T p x) none [(i, some (rowK k (L.set off z)))] := by
  have := Eff.store1 (P := P) (id := id) T p x i off (rowK k L) _ h he rfl hv rfl hn (by simpa [rowK] using h1) rfl
  have e : (some { rowK k L with cells := (rowK k L).cells.set off (vI k z) } : Option Ent) = some (rowK k (L.set off z)) := by simp only [rowK, List.map_set]
  rw [e] at this
  exact this
theorem res_rowK (he : E i = some (rowK k L)) (hl : L.length = m) : res E (.own i m) = some (slK k L) := by
  have hb : bs (rowK k L).cells = some (L.map (numB k)) := by
    simp only [rowK]
    clear he hl
    induction L with
    | nil => rfl
    | cons x r ih => simp [bs, ih]
  show resL E (.own i m) = some (slK k L)
  simp only [resL, he, hb]
  have h1 : m * (rowK k L).sz ≤ (L.map (numB k)).length := by simp [rowK, hl]
  have h2 : (L.map (numB k)).take (m * (rowK k L).sz) = L.map (numB k) := List.take_of_length_le (by simp [rowK, hl])
  rw [if_pos h1, h2]; rfl
theorem lits_allK : (L.map (numB k)).all B.isLit = true := by rw [List.all_map]; simp [B.isLit]
theorem Eff.litsK1 (hx : ev s x = some (vI k j)) (hu : P.underlying T = some (.slice el)) (hz : zeroOf P el = some [numB k 0]) (hs : szOf P el = some 1) : Eff P id s E (.buildSlice T 1 #[(0, x)]) (some (.own id 1)) [(id, some (rowK k [j]))] :=
  .buildS T 1 #[(0, x)] el [vI k j] 1 [numB k 0] [vI k j] (by simp [evs, hx]) hu hz hs (by simp) (by simp) rfl rfl
theorem rowK_map (k : IntKind) (L : List Int) : (⟨1, (L.map (numB k)).map .b, true⟩ : Ent) = rowK k L := by simp only [rowK, List.map_map]; rfl
theorem Eff.appendK {w : V} {bytes : Nat} (hx : ev s x = some (.own i m)) (he : E i = some (rowK k D)) (hl : D.length = m) (hy : ev s y = some w) (hr : res E w = some (slK k L)) (hne : i ∉ w.names) (hu : P.underlying T = some (.slice el)) (hs : szOf P el = some 1)
    (hb : (P.info? el).map (·.bytes) = some bytes) (hz : zeroOf P el = some [numB k 0]) (hm : (m + L.length) * bytes ≤ 140737488355328 ∧ m + L.length ≤ maxLen) :
    Eff P id s E (.call { callee := .builtin .append, args := #[x, y], argTypes := #[T, T] }) (some (.own id (m + L.length))) [(i, none), (id, some (rowK k (D ++ L)))] := by
  have := Eff.append (P := P) (id := id) x y T el i m (rowK k D) w (L.map (numB k)) bytes hx he rfl rfl (by simpa [rowK] using hl) hy hr hne hu hs hb (by rw [hz]; rfl) (by simp only [List.length_map]; exact hm.1) (by simp only [List.length_map]; exact hm.2) lits_allK
  rw [List.length_map] at this
  have e : (⟨1, (rowK k D).cells ++ (L.map (numB k)).map .b, true⟩ : Ent) = rowK k (D ++ L) := by
    simp only [rowK, List.map_append, List.map_map]; rfl
  rw [e] at this
  exact this
theorem Eff.appendNilK {w : V} {bytes : Nat} (hx : ev s x = some (.b .nil)) (hy : ev s y = some w) (hr : res E w = some (slK k L)) (h0 : L ≠ []) (hu : P.underlying T = some (.slice el)) (hs : szOf P el = some 1)
    (hb : (P.info? el).map (·.bytes) = some bytes) (hz : zeroOf P el = some [numB k 0]) (hm : L.length * bytes ≤ 140737488355328 ∧ L.length ≤ maxLen) :
    Eff P id s E (.call { callee := .builtin .append, args := #[x, y], argTypes := #[T, T] }) (some (.own id L.length)) [(id, some (rowK k L))] := by
  have := Eff.appendNil (P := P) (id := id) x y T el w (L.map (numB k)) bytes hx hy hr (by simpa using h0) hu hs hb (by rw [hz]; rfl) (by simp only [List.length_map]; exact hm.1) (by simp only [List.length_map]; exact hm.2) lits_allK
  rw [List.length_map, rowK_map] at this
  exact this
/-- A byte. -/
def byteOf (x : Int) : UInt8 := UInt8.ofNat x.toNat
def bytesOf (L : List Int) : ByteArray := ⟨(L.map byteOf).toArray⟩
def ok8 (L : List Int) : Prop := ∀ x ∈ L, 0 ≤ x ∧ x < 256
theorem byteOf_toNat {x : Int} (h : 0 ≤ x ∧ x < 256) : ((byteOf x).toNat : Int) = x := by
  unfold byteOf
  rw [UInt8.toNat_ofNat']
  omega
theorem bytesB_of {L : List Int} (h : ok8 L) : bytesB (L.map byteOf) = L.map (numB .u8) := by
  unfold bytesB
  rw [List.map_map]
  refine List.map_congr_left (fun x hx => ?_)
  show numB .u8 ((byteOf x).toNat : Int) = numB .u8 x
  rw [byteOf_toNat (h x hx)]
theorem Eff.toStrK (hx : ev s x = some (.own i m)) (he : E i = some (rowK .u8 L)) (hl : L.length = m) (h8 : ok8 L) (hu : P.underlying T = some (.slice el)) (hel : P.underlying el = some (.int .u8)) (hu' : P.underlying T' = some .string) :
    Eff P id s E (.convert T T' x) (some (.b (.lit (.string (bytesOf L))))) [] :=
  .toStr T T' x el _ (L.map byteOf) hx (by rw [bytesB_of h8]; exact res_rowK he hl) hu hel hu'
end
end Go.VL

/- A small program logic over the translated Go code, twentieth part: facts of this program's types. -/
set_option linter.unusedVariables false
set_option linter.unusedSimpArgs false
namespace Go.VL
open Go.Proofs
theorem P_mixed : Try.prog.follows .mixedOrders = true := by kernel_rfl
theorem P_sz3 : szOf Try.prog 3 = some 1 := by kernel_rfl
theorem P_sz4 : szOf Try.prog 4 = some 1 := by kernel_rfl
theorem P_sz52 : szOf Try.prog 52 = some 1 := by kernel_rfl
theorem P_sz55 : szOf Try.prog 55 = some 2 := by kernel_rfl
theorem P_sz53 : szOf Try.prog 53 = some 1 := by kernel_rfl
theorem P_agg3 : aggOf Try.prog 3 = some false := by kernel_rfl
theorem P_agg4 : aggOf Try.prog 4 = some false := by kernel_rfl
theorem P_agg52 : aggOf Try.prog 52 = some false := by kernel_rfl
theorem P_agg55 : aggOf Try.prog 55 = some true := by kernel_rfl
theorem P_agg53 : aggOf Try.prog 53 = some false := by kernel_rfl
theorem P_fld55_0 : fieldOf Try.prog 55 0 = some (0, 1, false) := by kernel_rfl
theorem P_fld55_1 : fieldOf Try.prog 55 1 = some (1, 1, false) := by kernel_rfl
theorem P_zero53 : zeroOf Try.prog 53 = some [u32B 0] := by kernel_rfl
theorem P_zero55 : zeroOf Try.prog 55 = some [.lit (.bool false), .sl 1 []] := by kernel_rfl
theorem P_bytes53 : (Try.prog.info? 53).map (·.bytes) = some 4 := by kernel_rfl
theorem P_parts55 : ∃ fs, Try.prog.underlying 55 = some (.struct fs) ∧ fs.toList.all (fun f => (szOf Try.prog f.type).isSome) = true := ⟨_, Try.underlying55, by kernel_rfl⟩
section
variable {id : Nat} {s : Slots} {E : Env} {x y : Operand} {t : Bool} {v : V}
theorem Eff.int0 : Eff Try.prog id s E (.build 55 #[]) (some (.agg [vB false, vS []])) [] := .build 55 #[] [] _ _ rfl P_zero55 P_parts55 rfl
theorem Eff.int2 (hx : ev s x = some (vB t)) (hy : ev s y = some v) (hv : v.cells = [v]) (ht : v.noTup = true) : Eff Try.prog id s E (.build 55 #[(0, x), (1, y)]) (some (.agg [vB t, v])) [] := by
  refine .build 55 #[(0, x), (1, y)] [vB t, v] _ _ (by simp [evs, hx, hy]) P_zero55 P_parts55 ?_
  have c1 : (vB t).cells = [vB t] := rfl
  have t1 : (vB t).noTup = true := rfl
  simp [putParts, places, P_fld55_0, P_fld55_1, hv, ht, c1, t1]
end
end Go.VL

/- A small program logic over the translated Go code, further part: facts of this program's bytes. -/
set_option linter.unusedVariables false
set_option linter.unusedSimpArgs false
namespace Go.VL
open Go.Proofs
theorem P_sz5 : szOf Try.prog 5 = some 1 := by kernel_rfl
theorem P_agg5 : aggOf Try.prog 5 = some false := by kernel_rfl
theorem P_zero5 : zeroOf Try.prog 5 = some [numB .u8 0] := by kernel_rfl
theorem P_bytes5 : (Try.prog.info? 5).map (·.bytes) = some 1 := by kernel_rfl
end Go.VL

/- Plain laws of magnitudes: lists of words, lowest first, and what number they are. No program here. -/
set_option linter.unusedVariables false
set_option linter.unusedSimpArgs false
namespace Go.VL

def val : List Int → Int
  | [] => 0
  | x :: r => x + 4294967296 * val r
def ok32 (L : List Int) : Prop := ∀ x ∈ L, 0 ≤ x ∧ x < 4294967296
def norm (L : List Int) : Prop := ok32 L ∧ (L.length = 0 ∨ L.getD (L.length - 1) 0 ≠ 0)
def dgN (n : Nat) : List Int := if h : n = 0 then [] else ((n % 4294967296 : Nat) : Int) :: dgN (n / 4294967296)
termination_by n
decreasing_by omega
/-- The words of a number. -/
def dg (v : Int) : List Int := dgN v.toNat

theorem ok32_nil : ok32 [] := fun x h => by cases h
theorem ok32_cons {x : Int} {L : List Int} : ok32 (x :: L) ↔ (0 ≤ x ∧ x < 4294967296) ∧ ok32 L := by
  constructor
  · intro h; exact ⟨h x (by simp), fun y hy => h y (by simp [hy])⟩
  · rintro ⟨h1, h2⟩ y hy
    rcases List.mem_cons.1 hy with rfl | hy
    · exact h1
    · exact h2 y hy
theorem ok32_append {L M : List Int} : ok32 (L ++ M) ↔ ok32 L ∧ ok32 M := by
  constructor
  · intro h; exact ⟨fun x hx => h x (by simp [hx]), fun x hx => h x (by simp [hx])⟩
  · rintro ⟨h1, h2⟩ x hx
    rcases List.mem_append.1 hx with hx | hx
    · exact h1 x hx
    · exact h2 x hx
theorem ok32_take {L : List Int} (h : ok32 L) (n : Nat) : ok32 (L.take n) := fun x hx => h x (List.mem_of_mem_take hx)
theorem ok32_drop {L : List Int} (h : ok32 L) (n : Nat) : ok32 (L.drop n) := fun x hx => h x (List.mem_of_mem_drop hx)
theorem ok32_replicate (n : Nat) : ok32 (List.replicate n 0) := fun x hx => by
  rw [(List.mem_replicate.1 hx).2]; omega
theorem ok32_set {L : List Int} (h : ok32 L) (i : Nat) {x : Int} (hx : 0 ≤ x ∧ x < 4294967296) : ok32 (L.set i x) := fun y hy => by
  rcases List.mem_or_eq_of_mem_set hy with hy | rfl
  · exact h y hy
  · exact hx
theorem ok32_getD {L : List Int} (h : ok32 L) (i : Nat) : 0 ≤ L.getD i 0 ∧ L.getD i 0 < 4294967296 := by
  rw [List.getD_eq_getElem?_getD]
  by_cases hi : i < L.length
  · rw [List.getElem?_eq_getElem hi]; exact h _ (List.getElem_mem hi)
  · rw [List.getElem?_eq_none (Nat.le_of_not_lt hi)]; simp

theorem val_nonneg : ∀ {L : List Int}, ok32 L → 0 ≤ val L
  | [], _ => Int.le_refl _
  | x :: r, h => by
    have h1 := (ok32_cons.1 h)
    have := val_nonneg h1.2
    simp only [val]; omega
theorem val_lt : ∀ {L : List Int}, ok32 L → val L < 4294967296 ^ L.length
  | [], _ => by simp [val]
  | x :: r, h => by
    have h1 := (ok32_cons.1 h)
    have h2 := val_lt h1.2
    simp only [val, List.length_cons, Int.pow_succ]; omega
theorem val_append : ∀ (L M : List Int), val (L ++ M) = val L + 4294967296 ^ L.length * val M
  | [], M => by simp [val]
  | x :: r, M => by
    simp only [List.cons_append, val, val_append r M, List.length_cons, Int.pow_succ, Int.mul_add]
    rw [Int.mul_comm (4294967296 ^ r.length) 4294967296, Int.mul_assoc]; omega
theorem val_replicate (n : Nat) : val (List.replicate n 0) = 0 := by
  induction n with
  | zero => rfl
  | succ n ih => simp [List.replicate_succ, val, ih]
theorem val_set : ∀ (L : List Int) (i : Nat) (x : Int), i < L.length → val (L.set i x) = val L + 4294967296 ^ i * (x - L.getD i 0)
  | [], i, x, h => by simp at h
  | y :: r, 0, x, h => by simp [val]; omega
  | y :: r, i + 1, x, h => by
    have := val_set r i x (by simpa using h)
    simp only [List.set_cons_succ, val, this, List.getD_cons_succ, Int.pow_succ, Int.mul_add]
    rw [Int.mul_comm (4294967296 ^ i) 4294967296, Int.mul_assoc]; omega
theorem val_take_succ (L : List Int) (i : Nat) (h : i < L.length) : val (L.take (i + 1)) = val (L.take i) + 4294967296 ^ i * L.getD i 0 := by
  have : L.take (i + 1) = L.take i ++ [L.getD i 0] := by
    rw [List.take_add_one]
    simp [List.getD_eq_getElem?_getD, h]
  rw [this, val_append]
  simp [val, Nat.min_eq_left (Nat.le_of_lt h)]
theorem val_split (L : List Int) (i : Nat) (h : i ≤ L.length) : val L = val (L.take i) + 4294967296 ^ i * val (L.drop i) := by
  have := val_append (L.take i) (L.drop i)
  rw [List.take_append_drop] at this
  rw [this]; simp [Nat.min_eq_left h]
theorem val_drop_step (L : List Int) (i : Nat) (h : i < L.length) : val (L.drop i) = L.getD i 0 + 4294967296 * val (L.drop (i + 1)) := by
  rw [List.drop_eq_getElem_cons h]
  simp [val, List.getD_eq_getElem?_getD, h]
theorem pow_pos (n : Nat) : (0 : Int) < 4294967296 ^ n := Int.pow_pos (by decide)

theorem dgN_zero : dgN 0 = [] := by rw [dgN]; simp
theorem dgN_pos {n : Nat} (h : n ≠ 0) : dgN n = ((n % 4294967296 : Nat) : Int) :: dgN (n / 4294967296) := by rw [dgN]; simp [h]
theorem dgN_spec (n : Nat) : val (dgN n) = n ∧ ok32 (dgN n) ∧ ((dgN n).length = 0 ∨ (dgN n).getD ((dgN n).length - 1) 0 ≠ 0) := by
  induction n using Nat.strongRecOn with
  | _ n ih =>
    by_cases h : n = 0
    · subst h; rw [dgN_zero]; exact ⟨rfl, ok32_nil, .inl rfl⟩
    · obtain ⟨h1, h2, h3⟩ := ih (n / 4294967296) (by omega)
      rw [dgN_pos h]
      refine ⟨by simp only [val, h1]; omega, ok32_cons.2 ⟨by omega, h2⟩, .inr ?_⟩
      by_cases hq : n / 4294967296 = 0
      · rw [hq, dgN_zero]; simp; omega
      · rcases h3 with h3 | h3
        · rw [dgN_pos hq] at h3; simp at h3
        · have hl : (dgN (n / 4294967296)).length ≠ 0 := by rw [dgN_pos hq]; simp
          simp only [List.length_cons, Nat.add_sub_cancel]
          obtain ⟨k, hk⟩ := Nat.exists_eq_succ_of_ne_zero hl
          rw [hk, List.getD_cons_succ]
          rw [hk] at h3
          simpa using h3
theorem val_dg {v : Int} (h : 0 ≤ v) : val (dg v) = v := by rw [dg, (dgN_spec _).1]; omega
theorem norm_dg (v : Int) : norm (dg v) := ⟨(dgN_spec _).2.1, (dgN_spec _).2.2⟩
theorem ok32_dg (v : Int) : ok32 (dg v) := (dgN_spec _).2.1
theorem norm_tail {x : Int} {L : List Int} (h : norm (x :: L)) : norm L := by
  refine ⟨(ok32_cons.1 h.1).2, ?_⟩
  rcases h.2 with h2 | h2
  · simp at h2
  · cases L with
    | nil => exact .inl rfl
    | cons y r => right; simpa using h2
theorem norm_pos {L : List Int} (h : norm L) (h0 : L ≠ []) : 0 < val L := by
  induction L with
  | nil => exact absurd rfl h0
  | cons x r ih =>
    have h1 := (ok32_cons.1 h.1)
    simp only [val]
    by_cases hr : r = []
    · subst hr
      rcases h.2 with h2 | h2
      · simp at h2
      · simp at h2; simp [val]; omega
    · have := ih (norm_tail h) hr
      omega
theorem dg_val {L : List Int} (h : norm L) : dg (val L) = L := by
  induction L with
  | nil => simp [dg, val, dgN_zero]
  | cons x r ih =>
    have h1 := (ok32_cons.1 h.1)
    have hp := norm_pos h (by simp)
    have hr := val_nonneg h1.2
    have ih := ih (norm_tail h)
    have hn : (val (x :: r)).toNat ≠ 0 := by omega
    rw [dg, dgN_pos hn]
    have e : (val (x :: r)).toNat = x.toNat + 4294967296 * (val r).toNat := by simp only [val]; omega
    have e1 : (val (x :: r)).toNat % 4294967296 = x.toNat := by rw [e]; omega
    have e2 : (val (x :: r)).toNat / 4294967296 = (val r).toNat := by rw [e]; omega
    rw [e1, e2]
    rw [show dgN (val r).toNat = r from ih]
    congr 1; omega
/-- Zeros at the end change nothing. -/
theorem dg_take {L : List Int} {k : Nat} (h : ok32 L) (hk : k ≤ L.length) (hz : ∀ i, k ≤ i → i < L.length → L.getD i 0 = 0) (ht : k = 0 ∨ L.getD (k - 1) 0 ≠ 0) : dg (val L) = L.take k := by
  have hd : ∀ m i, m = L.length - i → k ≤ i → i ≤ L.length → val (L.drop i) = 0 := by
    intro m
    induction m with
    | zero => intro i hm hi hl; rw [List.drop_eq_nil_of_le (by omega)]; rfl
    | succ m ih =>
      intro i hm hi hl
      rw [val_drop_step L i (by omega), hz i hi (by omega), ih (i + 1) (by omega) (by omega) (by omega)]; rfl
  have hv : val L = val (L.take k) := by rw [val_split L k hk, hd _ k rfl (Nat.le_refl _) hk]; simp
  rw [hv]
  refine dg_val ⟨ok32_take h k, ?_⟩
  rcases ht with rfl | ht
  · left; simp
  · by_cases h0 : k = 0
    · left; simp [h0]
    · right
      rw [List.length_take, Nat.min_eq_left hk, List.getD_eq_getElem?_getD, List.getElem?_take_of_lt (by omega), ← List.getD_eq_getElem?_getD]
      exact ht
theorem dg_zero : dg 0 = [] := by simp [dg, dgN_zero]
theorem len_dgN : ∀ (k n : Nat), (dgN n).length ≤ k ↔ n < 4294967296 ^ k
  | 0, n => by
    by_cases h : n = 0
    · subst h; simp [dgN_zero]
    · rw [dgN_pos h]; simp; omega
  | k + 1, n => by
    by_cases h : n = 0
    · subst h; simp [dgN_zero, Nat.pow_pos]
    · have := len_dgN k (n / 4294967296)
      rw [dgN_pos h, List.length_cons, Nat.succ_le_succ_iff, this, Nat.pow_succ]
      rw [Nat.div_lt_iff_lt_mul (by decide)]
theorem len_dg {v : Int} (h : 0 ≤ v) (k : Nat) : (dg v).length ≤ k ↔ v < 4294967296 ^ k := by
  rw [dg, len_dgN]
  constructor
  · intro h1
    have : ((v.toNat : Nat) : Int) < ((4294967296 ^ k : Nat) : Int) := by exact_mod_cast h1
    rw [Int.natCast_pow] at this
    rw [Int.toNat_of_nonneg h] at this
    exact this
  · intro h1
    have : ((v.toNat : Nat) : Int) < ((4294967296 ^ k : Nat) : Int) := by rw [Int.natCast_pow, Int.toNat_of_nonneg h]; exact h1
    exact_mod_cast this
theorem dg_nil {v : Int} (h : 0 ≤ v) : (dg v).length = 0 ↔ v = 0 := by
  have := len_dg h 0
  simp at this
  constructor
  · intro h1; have := this.1 (by simpa using h1); omega
  · intro h1; have := this.2 (by omega); simp [this]
theorem val_ge {L : List Int} (h : norm L) (h0 : L.length ≠ 0) : 4294967296 ^ (L.length - 1) ≤ val L := by
  have h1 : dg (val L) = L := dg_val h
  have h2 := len_dg (val_nonneg h.1) (L.length - 1)
  rw [h1] at h2
  apply Classical.byContradiction
  intro hc
  have := h2.2 (by omega)
  omega
end Go.VL

/- From contracts by value to the given statements: opening arguments; what is behind a call that left the elder memory alone. -/
set_option linter.unusedVariables false
set_option linter.unusedSimpArgs false
set_option maxRecDepth 100000
namespace Go.VL
open Go.ChangeShapes Go.WideShapes Go.ChangeAt Go.RowKit Go.ChangeMaps Go.Proofs

section
variable {H : Type} {enc : TypeId × Value → H} {P : Program}
theorem Same.below {W W' : World} (h : Same W W') : Below W.heap.size W W' := ⟨h.os, h.tape, h.output, h.size, h.block⟩
/-- Arguments read behind the call as they did. -/
theorem args_stay (hl : laidOutB P = true) {W W' : World} (hb : Below W.heap.size W W') {sp : Nat → Bool} : ∀ {ts : List TypeId} {vs : List Value} {ds : List (DataW H)} {ps : List MemPlace},
    (∀ t ∈ ts, P.readableRec t = true ∧ t < P.types.size) → DataW.TrodAll enc P W 0 (fun _ => true) true ts vs ds ps → (∀ p ∈ ps, p.block < W.heap.size) → (∀ p ∈ ps, sp p.block = true) → DataW.TrodAll enc P W' 0 sp true ts vs ds ps
  | [], vs, ds, ps, hr, h, hlt, hs => by
    obtain ⟨rfl, rfl, rfl⟩ := trodAll_nil h
    exact rfl
  | t :: ts, vs, ds, ps, hr, h, hlt, hs => by
    obtain ⟨v, vs', d, ds', p, q, rfl, rfl, rfl, h1, h2⟩ := trodAll_cons h
    refine ⟨p, q, ?_, ?_, rfl⟩
    · exact WideElems.Trod_stays hl (hr t (by simp)).1 (hr t (by simp)).2 h1 (fun x hx => hb.same (hlt x (by simp [hx]))) (fun x hx => hs x (by simp [hx]))
    · exact args_stay hl hb (fun t' ht => hr t' (by simp [ht])) h2 (fun x hx => hlt x (by simp [hx])) (fun x hx => hs x (by simp [hx]))
theorem post_of_below {f : Func} {s : ChangeSpec} {apart fresh handsOn again : Bool} {W W' : World} {args : Array Value} {v : Value} {ds gs : List (DataW H)} {before pa pv : List MemPlace}
    (hW : DataW.Whole enc P f.params.toList s.vars apart W args.toList ds gs before)
    (hres : ∀ (b : Nat) (sp : Nat → Bool) (hd : Bool), DataW.TrodAll enc P W' b sp hd f.resultTypes.toList (v.resultList f.resultTypes.size) (s.fn H (ds ++ gs)).results [])
    (hargs : ∀ sp : Nat → Bool, (∀ p ∈ before, sp p.block = true) → DataW.TrodAll enc P W' 0 sp true f.params.toList args.toList (s.fn H (ds ++ gs)).args pa)
    (hvars : ∀ sp : Nat → Bool, (∀ p ∈ before, sp p.block = true) → DataW.TrodVars enc P W' sp s.vars (s.fn H (ds ++ gs)).vars pv)
    (hps : before = pa ++ pv) (hb : Below W.heap.size W W')
    (hok : ∀ (j : Nat) (t : TypeId) (r : Value), f.resultTypes[j]? = some t → (v.resultList f.resultTypes.size)[j]? = some r → Value.okWide P W' .any 0 t r) :
    s.post enc P f apart fresh handsOn again W args v W' := by
  have hlt : ∀ p ∈ before, p.block < W.heap.size := fun p hp => hW.lt p hp
  have hold : ∀ p ∈ before, (fun b => decide (b < W.heap.size)) p.block = true := fun p hp => by simpa using hlt p hp
  refine ⟨ds, gs, before, [], pa, pv, hW, hres _ _ _, hargs _ hold, hvars _ hold, World.keptBut_mono (fun p hp => ⟨hp, ?_⟩) (hb.frame (· ∈ before)), fun _ => ?_⟩
  · rw [hps, List.mem_append] at hp
    exact Or.inr hp
  · obtain ⟨_, _, _, _, _, hz, hn⟩ := hW
    refine ⟨hok, _, _, ([] ++ pa) ++ pv, ⟨[] ++ pa, pv, trodAll_append (hargs _ (fun _ _ => rfl)) (hres _ _ _), hvars _ (fun _ _ => rfl), rfl, ?_, ?_⟩, ?_⟩
    · intro b off hp
      have hin : MemPlace.cell b off ∈ before := by rw [hps]; simpa using hp
      rw [hb.frozen (hlt _ hin)]
      exact hz b off hin
    · intro ha
      have := hn ha
      rw [hps] at this
      simpa using this
    · intro p hp _
      rw [hps]
      simpa using hp
end

section
variable {H : Type} {enc : TypeId × Value → H} {W : World}
theorem lit_u32 {x : Int} (h : (Lit.int .u32 x).wf = true) : 0 ≤ x ∧ x < 4294967296 := by
  simp only [Lit.wf, Bool.and_eq_true, decide_eq_true_eq] at h
  simp only [IntKind.min, IntKind.max, IntKind.signed, IntKind.bits] at h
  have h1 := h.1
  have h2 := h.2
  simp at h1 h2
  omega
theorem lit_i64 {x : Int} (h : (Lit.int .i64 x).wf = true) : -9223372036854775808 ≤ x ∧ x ≤ 9223372036854775807 := by
  simp only [Lit.wf, Bool.and_eq_true, decide_eq_true_eq] at h
  simp only [IntKind.min, IntKind.max, IntKind.signed, IntKind.bits] at h
  have h1 := h.1
  have h2 := h.2
  simp at h1 h2
  omega
/-- An integer of the package api, opened. -/
theorem open_api {v : Value} {d : DataW H} {p : List MemPlace} (hval : Value.okWide Try.prog W .any 0 55 v) (h : DataW.Trod enc Try.prog W 0 (fun _ => true) true 55 v d p) :
    ∃ (n : Bool) (L : List Int), RepB W (fun _ => True) (intB n L) v ∧ ok32 L ∧ L.length ≤ 9223372036854775807 := by
  obtain ⟨cs, rfl, hsz⟩ := okWide_struct Try.underlying55 hval
  obtain ⟨fuel, hf⟩ := h
  obtain ⟨xs, n, rfl, hx, hlen, hxl, hxs⟩ := DataW.trod_struct Try.underlying55 hf
  have c24 : Try.prog.cellsOf 55 = 2 := by kernel_rfl
  have c4 : Try.prog.cellsOf 4 = 1 := by kernel_rfl
  have c22 : Try.prog.cellsOf 52 = 1 := by kernel_rfl
  have c51 : Try.prog.cellsOf 53 = 1 := by kernel_rfl
  rw [c24] at hsz hlen
  have hcs : (Value.agg cs).cells = cs := rfl
  rw [hcs] at hlen hxs
  have hxl2 : xs.length = 2 := by simpa using hxl
  have e0 : DataW.trod enc Try.prog W 0 (fun _ => true) true n 4 ((cs.toList.drop 0).take (Try.prog.cellsOf 4)) = xs[0]? := hxs 0 _ rfl
  have e1 : DataW.trod enc Try.prog W 0 (fun _ => true) true n 52 ((cs.toList.drop 1).take (Try.prog.cellsOf 52)) = xs[1]? := hxs 1 _ rfl
  rw [c4] at e0
  rw [c22] at e1
  have g0 : xs[0]? = some xs[0] := by simp
  have g1 : xs[1]? = some xs[1] := by simp
  rw [g0] at e0
  rw [g1] at e1
  obtain ⟨b, hb, _⟩ := DataW.trod_bool Try.underlying4 e0
  have h0 : cs[0]? = some (.bool b) := by
    have h : (cs.toList.take 1)[0]? = some (.bool b) := congrArg (fun l : List Value => l[0]?) hb
    rw [List.getElem?_take_of_lt (by omega), Array.getElem?_toList] at h
    exact h
  have key : ∃ (L : List Int) (u : Value), cs[1]? = some u ∧ u.oneCell' = true ∧ RepB W (fun _ => True) (u32S L) u ∧ ok32 L ∧ L.length ≤ 9223372036854775807 := by
    have hget : ∀ u, (cs.toList.drop 1).take 1 = [u] → cs[1]? = some u := fun u hu => by
      have h : ((cs.toList.drop 1).take 1)[0]? = some u := by rw [hu]; rfl
      rw [List.getElem?_take_of_lt (by omega), List.getElem?_drop, Array.getElem?_toList] at h
      exact h
    rcases open_ints (k := .u32) Try.underlying52 Try.underlying53 c51 e1 with ⟨h1, _⟩ | ⟨a, len, cap, zs, h1, _, hlc, hcm, hzl, _, hcell, hwf⟩
    · exact ⟨[], _, hget _ h1, rfl, .nilsl 1 (by omega), ok32_nil, by simp⟩
    · have hzl' : zs.length = cap := by simpa using hzl
      have hm : maxLen ≤ 9223372036854775807 := by decide
      refine ⟨zs.take len, _, hget _ h1, rfl, ?_, ?_, by simp; omega⟩
      · refine .sl a len cap 1 _ (fun j => .int .u32 (zs.getD j 0)) (by simp; omega) hlc hcm (by omega) (fun _ => trivial) (fun j hj => ?_) (fun j hj => rfl) (fun j x hj => ?_)
        · simp at hj
          exact hcell j (by omega)
        · simp only [List.getElem?_map, Option.map_eq_some_iff] at hj
          obtain ⟨q, hq, rfl⟩ := hj
          have hjl := (List.getElem?_eq_some_iff.1 hq).1
          simp at hjl
          rw [List.getElem?_take_of_lt (by omega), getD_get (by omega)] at hq
          injection hq with hq
          subst hq
          exact .lit _ rfl
      · intro x hx
        exact lit_u32 (hwf x (List.mem_of_mem_take hx))
  obtain ⟨L, u, h1, hu1, hr, hk, hl⟩ := key
  refine ⟨b, L, ?_, hk, hl⟩
  refine .agg [.lit (.bool b), u32S L] cs (fun j => match j with | 0 => .bool b | _ => u) (by simp [hsz]) (fun j hj => ?_) (fun j hj => ?_) (fun j x hj => ?_)
  · match j, hj with
    | 0, _ => exact h0
    | 1, _ => exact h1
  · match j, hj with
    | 0, _ => rfl
    | 1, _ => exact hu1
  · match j, hj with
    | 0, hj => injection hj with hj; subst hj; exact .lit _ rfl
    | 1, hj => injection hj with hj; subst hj; exact hr
theorem open_i64 {v : Value} {d : DataW H} {p : List MemPlace} (hval : Value.okWide Try.prog W .any 0 3 v) (h : DataW.Trod enc Try.prog W 0 (fun _ => true) true 3 v d p) :
    ∃ n : Int, RepB W (fun _ => True) (numB .i64 n) v ∧ -9223372036854775808 ≤ n ∧ n ≤ 9223372036854775807 := by
  obtain ⟨n, rfl, _, _, hw⟩ := open_int Try.underlying3 hval h
  exact ⟨n, .lit _ rfl, lit_i64 hw⟩
theorem open_str {v : Value} {d : DataW H} {p : List MemPlace} (hval : Value.okWide Try.prog W .any 0 9 v) (h : DataW.Trod enc Try.prog W 0 (fun _ => true) true 9 v d p) :
    ∃ s : ByteArray, RepB W (fun _ => True) (.lit (.string s)) v ∧ s.size ≤ 9223372036854775807 := by
  obtain ⟨s, rfl, _, _, hs⟩ := open_string Try.underlying9 hval h
  exact ⟨s, .lit _ rfl, by have : maxLen ≤ 9223372036854775807 := by decide
                           omega⟩
end
/-- Values one by one. -/
theorem reps_nil {W : World} {Q : Nat → Prop} : ∀ (j : Nat) (x : B), ([] : List B)[j]? = some x → ∃ u : Value, ([] : List Value)[j]? = some u ∧ RepB W Q x u := fun j x h => by simp at h
theorem reps_cons {W : World} {Q : Nat → Prop} {b : B} {v : Value} {bs : List B} {vs : List Value} (h1 : RepB W Q b v) (h2 : ∀ (j : Nat) (x : B), bs[j]? = some x → ∃ u : Value, vs[j]? = some u ∧ RepB W Q x u) :
    ∀ (j : Nat) (x : B), (b :: bs)[j]? = some x → ∃ u : Value, (v :: vs)[j]? = some u ∧ RepB W Q x u := fun j x h => by
  cases j with
  | zero => simp at h; subst h; exact ⟨v, by simp, h1⟩
  | succ j => simp at h; simpa using h2 j x h
/-- What a contract 'it returns true' says at a world. -/
theorem VF.runs {f : FuncId} {args : List B} (hv : VF Try.prog f args (boolB true)) {W : World} {xs : List Value} (hl : xs.length = args.length) (h : ∀ (j : Nat) (x : B), args[j]? = some x → ∃ u : Value, xs[j]? = some u ∧ RepB W (fun _ => True) x u) :
    Calls Try.prog f xs.toArray W fun e W' => e = .returned (.bool true) ∧ Below W.heap.size W W' := by
  refine (hv.2 W (fun _ => True) xs.toArray (by simp [hl]) (fun j x hj => by simpa using h j x hj)).mono fun e W' ⟨u, he, hr, hs⟩ => ?_
  have hr' : RepB W' _ (.lit (.bool true)) u := hr
  cases hr' with
  | lit _ _ => exact ⟨he, hs.below⟩
theorem shut_true {H : Type} {enc : TypeId × Value → H} {W : World} {b : Nat} {sp : Nat → Bool} {hd : Bool} : DataW.Trod enc Try.prog W b sp hd 4 (.bool true) (.lit (.bool true)) [] := ⟨1, by
  show DataW.trod enc Try.prog W b sp hd 1 4 [.bool true] = _
  simp [DataW.trod, Try.underlying4]⟩
theorem ok_true {W : World} : Value.okWide Try.prog W .any 0 4 (.bool true) := by simp [Value.okWide, Try.underlying4, Cell.okWide, Cell.ok]
theorem T24 : Try.prog.readableRec 55 = true ∧ 55 < Try.prog.types.size := ⟨by kernel_rfl, of_decide_eq_true (by kernel_rfl)⟩
theorem T9 : Try.prog.readableRec 9 = true ∧ 9 < Try.prog.types.size := ⟨by kernel_rfl, of_decide_eq_true (by kernel_rfl)⟩
theorem T3 : Try.prog.readableRec 3 = true ∧ 3 < Try.prog.types.size := ⟨by kernel_rfl, of_decide_eq_true (by kernel_rfl)⟩
theorem types_nil : ∀ t ∈ ([] : List TypeId), Try.prog.readableRec t = true ∧ t < Try.prog.types.size := fun t h => by cases h
theorem types_cons {t0 : TypeId} {ts : List TypeId} (h1 : Try.prog.readableRec t0 = true ∧ t0 < Try.prog.types.size) (h2 : ∀ t ∈ ts, Try.prog.readableRec t = true ∧ t < Try.prog.types.size) : ∀ t ∈ t0 :: ts, Try.prog.readableRec t = true ∧ t < Try.prog.types.size := fun t h => by
  rcases List.mem_cons.1 h with rfl | h
  · exact h1
  · exact h2 t h
theorem Try_own : ownKnob Try.prog.godebug = Option.none := by kernel_rfl
theorem Try_laidOut : laidOutB Try.prog = true := by kernel_rfl
end Go.VL

/- Plain laws of sums and differences of magnitudes, word by word. No program here. -/
set_option linter.unusedVariables false
set_option linter.unusedSimpArgs false
namespace Go.VL

theorem getD_out {L : List Int} {i : Nat} (h : L.length ≤ i) : L.getD i 0 = 0 := by rw [List.getD_eq_getElem?_getD, List.getElem?_eq_none h]; rfl
theorem val_take_step (L : List Int) (i : Nat) : val (L.take (i + 1)) = val (L.take i) + 4294967296 ^ i * L.getD i 0 := by
  by_cases h : i < L.length
  · exact val_take_succ L i h
  · rw [List.take_of_length_le (by omega), List.take_of_length_le (by omega), getD_out (by omega)]; simp
theorem take_set_succ (L : List Int) (n : Nat) (x : Int) (h : n < L.length) : (L.set n x).take (n + 1) = L.take n ++ [x] := by
  rw [List.take_add_one, List.take_set_of_le (Nat.le_refl n)]
  simp [h]
theorem val_take_set (L : List Int) (n : Nat) (x : Int) (h : n < L.length) : val ((L.set n x).take (n + 1)) = val (L.take n) + 4294967296 ^ n * x := by
  rw [take_set_succ L n x h, val_append]
  simp [val, Nat.min_eq_left (Nat.le_of_lt h)]
theorem ok32_take_set {L : List Int} {n : Nat} {x : Int} (h : n < L.length) (hk : ok32 (L.take n)) (hx : 0 ≤ x ∧ x < 4294967296) : ok32 ((L.set n x).take (n + 1)) := by
  rw [take_set_succ L n x h]
  exact ok32_append.2 ⟨hk, ok32_cons.2 ⟨hx, ok32_nil⟩⟩

structure SumInv (X Y O : List Int) (n : Nat) (c : Int) : Prop where
  le : n ≤ X.length
  len : O.length = X.length + 1
  ok : ok32 (O.take n)
  c0 : 0 ≤ c
  c1 : c ≤ 1
  eq : val (O.take n) + 4294967296 ^ n * c = val (X.take n) + val (Y.take n)
theorem SumInv.start {X Y O : List Int} (h : O.length = X.length + 1) : SumInv X Y O 0 0 := ⟨Nat.zero_le _, h, by simpa using ok32_nil, by omega, by omega, by simp [val]⟩
theorem SumInv.step {X Y O : List Int} {n : Nat} {c t : Int} (hX : ok32 X) (hY : ok32 Y) (h : SumInv X Y O n c) (hn : n < X.length) (ht : t = X.getD n 0 + c + Y.getD n 0) : SumInv X Y (O.set n (t % 4294967296)) (n + 1) (t / 4294967296) := by
  have hx := ok32_getD hX n
  have hy := ok32_getD hY n
  have h0 := h.c0
  have h1 := h.c1
  refine ⟨hn, by simpa using h.len, ok32_take_set (by rw [h.len]; omega) h.ok (by omega), by omega, by omega, ?_⟩
  rw [val_take_set _ _ _ (by rw [h.len]; omega), val_take_step X n, val_take_step Y n, Int.pow_succ]
  have e := h.eq
  generalize (4294967296 : Int) ^ n = p at e ⊢
  have e1 : p * t = p * (t % 4294967296) + p * 4294967296 * (t / 4294967296) := by
    rw [Int.mul_assoc, ← Int.mul_add]; congr 1; omega
  have e2 : p * t = p * X.getD n 0 + p * c + p * Y.getD n 0 := by rw [ht, Int.mul_add, Int.mul_add]
  omega
theorem SumInv.fin {X Y O : List Int} {n : Nat} {c : Int} (h : SumInv X Y O n c) (hn : n = X.length) (hl : Y.length ≤ X.length) : val (O.set X.length (c % 4294967296)) = val X + val Y ∧ ok32 (O.set X.length (c % 4294967296)) := by
  subst hn
  have h0 := h.c0
  have h1 := h.c1
  have hc : c % 4294967296 = c := by omega
  rw [hc]
  have e := h.eq
  rw [List.take_of_length_le (Nat.le_refl _), List.take_of_length_le hl] at e
  have hw : (O.set X.length c).take (X.length + 1) = O.set X.length c := List.take_of_length_le (by simp [h.len])
  have a := val_take_set O X.length c (by rw [h.len]; omega)
  have b := ok32_take_set (x := c) (by rw [h.len]; omega) h.ok (by omega)
  rw [hw] at a b
  exact ⟨by rw [a, e], b⟩

structure DiffInv (X Y O : List Int) (n : Nat) (w : Int) : Prop where
  le : n ≤ X.length
  len : O.length = X.length
  ok : ok32 (O.take n)
  c0 : 0 ≤ w
  c1 : w ≤ 1
  eq : val (O.take n) + val (Y.take n) = val (X.take n) + 4294967296 ^ n * w
theorem DiffInv.start {X Y O : List Int} (h : O.length = X.length) : DiffInv X Y O 0 0 := ⟨Nat.zero_le _, h, by simpa using ok32_nil, by omega, by omega, by simp [val]⟩
theorem DiffInv.step {X Y O : List Int} {n : Nat} {w t : Int} (hX : ok32 X) (hY : ok32 Y) (h : DiffInv X Y O n w) (hn : n < X.length) (ht : t = (X.getD n 0 - w - Y.getD n 0) % 18446744073709551616) :
    DiffInv X Y (O.set n (t % 4294967296)) (n + 1) (t / 9223372036854775808) := by
  have hx := ok32_getD hX n
  have hy := ok32_getD hY n
  have h0 := h.c0
  have h1 := h.c1
  refine ⟨hn, by simpa using h.len, ok32_take_set (by rw [h.len]; omega) h.ok (by omega), by omega, by omega, ?_⟩
  rw [val_take_set _ _ _ (by rw [h.len]; omega), val_take_step X n, val_take_step Y n, Int.pow_succ]
  have e := h.eq
  have e0 : t % 4294967296 + Y.getD n 0 + w = X.getD n 0 + 4294967296 * (t / 9223372036854775808) := by omega
  generalize (4294967296 : Int) ^ n = p at e ⊢
  have e1 : p * (t % 4294967296) + p * Y.getD n 0 + p * w = p * X.getD n 0 + p * 4294967296 * (t / 9223372036854775808) := by
    rw [Int.mul_assoc, ← Int.mul_add, ← Int.mul_add, ← Int.mul_add, e0]
  omega
theorem DiffInv.fin {X Y O : List Int} {n : Nat} {w : Int} (hY : ok32 Y) (h : DiffInv X Y O n w) (hn : n = X.length) (hl : Y.length ≤ X.length) (hle : val Y ≤ val X) : val O = val X - val Y ∧ ok32 O := by
  subst hn
  have h0 := h.c0
  have h1 := h.c1
  have e := h.eq
  have ok := h.ok
  rw [List.take_of_length_le (Nat.le_refl _), List.take_of_length_le hl, List.take_of_length_le (by rw [h.len]; exact Nat.le_refl _)] at e
  rw [List.take_of_length_le (by rw [h.len]; exact Nat.le_refl _)] at ok
  have hlt := val_lt ok
  rw [h.len] at hlt
  have hyn := val_nonneg hY
  have hw : w = 0 := by
    apply Classical.byContradiction
    intro hc
    have : w = 1 := by omega
    subst this
    omega
  subst hw
  exact ⟨by omega, ok⟩

/-- Numbers of at most 128 words. -/
def limit : Int := 4294967296 ^ 128
theorem len_limit {v : Int} (h : 0 ≤ v) : (dg v).length ≤ 128 ↔ v < limit := len_dg h 128
/-- A number by its sign. -/
def sg (neg : Bool) (v : Int) : Int := if neg then -v else v
theorem sg_abs {neg : Bool} {v : Int} (h : 0 ≤ v) : ((sg neg v).natAbs : Int) = v := by unfold sg; split <;> omega
theorem sg_neg {neg : Bool} {v : Int} (h : 0 ≤ v) : decide (sg neg v < 0) = (neg && decide (0 < v)) := by
  unfold sg; cases neg
  · simp; omega
  · simp
end Go.VL

/- Plain laws of products, and of division by one word. No program here. -/
set_option linter.unusedVariables false
set_option linter.unusedSimpArgs false
namespace Go.VL

theorem mul_small {x y : Int} (hx : 0 ≤ x ∧ x < 4294967296) (hy : 0 ≤ y ∧ y < 4294967296) : 0 ≤ x * y ∧ x * y ≤ 18446744065119617025 := by
  refine ⟨Int.mul_nonneg hx.1 hy.1, ?_⟩
  have h1 : x * y ≤ 4294967295 * 4294967295 := Int.mul_le_mul (by omega) (by omega) hy.1 (by omega)
  omega

structure ProdInv (A B O : List Int) (n : Nat) : Prop where
  le : n ≤ A.length
  len : O.length = A.length + B.length
  ok : ok32 O
  zero : ∀ i, n + B.length ≤ i → O.getD i 0 = 0
  eq : val O = val (A.take n) * val B
structure ProdIn (A B O : List Int) (n k : Nat) (c : Int) : Prop where
  lt : n < A.length
  le : k ≤ B.length
  len : O.length = A.length + B.length
  ok : ok32 O
  zero : ∀ i, n + B.length ≤ i → O.getD i 0 = 0
  c0 : 0 ≤ c
  c1 : c < 4294967296
  eq : val O + 4294967296 ^ (n + k) * c = val (A.take n) * val B + 4294967296 ^ n * (A.getD n 0 * val (B.take k))
theorem getD_replicate (n i : Nat) : (List.replicate n (0 : Int)).getD i 0 = 0 := by
  rw [List.getD_eq_getElem?_getD, List.getElem?_replicate]; split <;> rfl
theorem ProdInv.start {A B O : List Int} (h : O = List.replicate (A.length + B.length) 0) : ProdInv A B O 0 := by
  subst h
  exact ⟨Nat.zero_le _, by simp, ok32_replicate _, fun i _ => getD_replicate _ _, by simp [val_replicate, val]⟩
theorem ProdInv.enter {A B O : List Int} {n : Nat} (h : ProdInv A B O n) (hn : n < A.length) : ProdIn A B O n 0 0 := ⟨hn, Nat.zero_le _, h.len, h.ok, h.zero, by omega, by omega, by rw [h.eq]; simp [val]⟩
theorem getD_set_ne {L : List Int} {i j : Nat} {x : Int} (h : i ≠ j) : (L.set i x).getD j 0 = L.getD j 0 := by
  rw [List.getD_eq_getElem?_getD, List.getElem?_set_ne h, ← List.getD_eq_getElem?_getD]
theorem ProdIn.range {A B O : List Int} {n k : Nat} {c : Int} (hA : ok32 A) (hB : ok32 B) (h : ProdIn A B O n k c) : 0 ≤ A.getD n 0 * B.getD k 0 + O.getD (n + k) 0 + c ∧ A.getD n 0 * B.getD k 0 + O.getD (n + k) 0 + c < 18446744073709551616 := by
  have h1 := mul_small (ok32_getD hA n) (ok32_getD hB k)
  have h2 := ok32_getD h.ok (n + k)
  have h3 := h.c0
  have h4 := h.c1
  omega
theorem ProdIn.step {A B O : List Int} {n k : Nat} {c t : Int} (hA : ok32 A) (hB : ok32 B) (h : ProdIn A B O n k c) (hk : k < B.length) (ht : t = A.getD n 0 * B.getD k 0 + O.getD (n + k) 0 + c) : ProdIn A B (O.set (n + k) (t % 4294967296)) n (k + 1) (t / 4294967296) := by
  have hr := h.range hA hB
  rw [← ht] at hr
  have hn := h.lt
  have hlen := h.len
  refine ⟨hn, hk, by simpa using hlen, ok32_set h.ok _ (by omega), fun i hi => ?_, by omega, by omega, ?_⟩
  · rw [getD_set_ne (by omega)]; exact h.zero i hi
  · rw [val_set _ _ _ (by omega), val_take_step B k, ← Nat.add_assoc, Int.pow_succ]
    have e := h.eq
    rw [Int.pow_add] at e ⊢
    generalize (4294967296 : Int) ^ n = p at e ⊢
    generalize (4294967296 : Int) ^ k = q at e ⊢
    have e1 : p * q * t = p * q * (t % 4294967296) + p * q * 4294967296 * (t / 4294967296) := by
      rw [Int.mul_assoc (p * q), ← Int.mul_add]; congr 1; omega
    have e2 : p * q * t = p * q * (A.getD n 0 * B.getD k 0) + p * q * O.getD (n + k) 0 + p * q * c := by rw [ht, Int.mul_add, Int.mul_add]
    have e3 : p * (A.getD n 0 * (val (B.take k) + q * B.getD k 0)) = p * (A.getD n 0 * val (B.take k)) + p * q * (A.getD n 0 * B.getD k 0) := by
      rw [Int.mul_add, Int.mul_add]; congr 1
      rw [Int.mul_assoc, Int.mul_left_comm q]
    rw [e3, Int.mul_sub]
    omega
theorem ProdIn.leave {A B O : List Int} {n k : Nat} {c : Int} (h : ProdIn A B O n k c) (hk : k = B.length) : ProdInv A B (O.set (n + B.length) (c % 4294967296)) (n + 1) := by
  subst hk
  have hn := h.lt
  have hlen := h.len
  have h0 := h.c0
  have h1 := h.c1
  have hc : c % 4294967296 = c := by omega
  refine ⟨hn, by simpa using hlen, ok32_set h.ok _ (by omega), fun i hi => ?_, ?_⟩
  · rw [getD_set_ne (by omega)]; exact h.zero i (by omega)
  · rw [val_set _ _ _ (by omega), h.zero _ (Nat.le_refl _), hc, val_take_step A n, Int.add_mul]
    have e := h.eq
    rw [List.take_of_length_le (Nat.le_refl _)] at e
    rw [Int.mul_assoc]
    simp only [Int.sub_zero]
    exact e
theorem ProdInv.fin {A B O : List Int} {n : Nat} (h : ProdInv A B O n) (hn : n = A.length) : val O = val A * val B := by
  have e := h.eq
  rw [hn, List.take_of_length_le (Nat.le_refl _)] at e
  exact e

structure SmallInv (A O : List Int) (d : Int) (n : Nat) (r : Int) : Prop where
  le : n ≤ A.length
  len : O.length = A.length
  ok : ok32 (O.drop (A.length - n))
  r0 : 0 ≤ r
  r1 : r < d
  eq : val (A.drop (A.length - n)) = d * val (O.drop (A.length - n)) + r
theorem SmallInv.start {A O : List Int} {d : Int} (h : O.length = A.length) (hd : 0 < d) : SmallInv A O d 0 0 := by
  refine ⟨Nat.zero_le _, h, ?_, by omega, hd, ?_⟩
  · rw [List.drop_eq_nil_of_le (by omega)]; exact ok32_nil
  · rw [List.drop_eq_nil_of_le (by omega), List.drop_eq_nil_of_le (by omega)]; simp [val]
theorem drop_set_self (L : List Int) (q : Nat) (x : Int) (h : q < L.length) : (L.set q x).drop q = x :: L.drop (q + 1) := by
  rw [List.drop_eq_getElem_cons (by simpa using h), List.drop_set_of_lt (by omega)]
  simp
theorem div_word {t d r a : Int} (hr : 0 ≤ r ∧ r < d) (hd : d < 4294967296) (ha : 0 ≤ a ∧ a < 4294967296) (ht : t = r * 4294967296 + a) : 0 ≤ t / d ∧ t / d < 4294967296 ∧ 0 ≤ t % d ∧ t % d < d ∧ t = d * (t / d) + t % d := by
  have h0 : 0 ≤ t := by omega
  refine ⟨Int.ediv_nonneg h0 (by omega), ?_, Int.emod_nonneg _ (by omega), Int.emod_lt_of_pos _ (by omega), (Int.mul_ediv_add_emod t d).symm⟩
  refine Int.ediv_lt_of_lt_mul (by omega) ?_
  have : r * 4294967296 + 4294967296 ≤ d * 4294967296 := by omega
  rw [Int.mul_comm]; omega
theorem SmallInv.step {A O : List Int} {d r t : Int} {n q : Nat} (hA : ok32 A) (hd : d < 4294967296) (h : SmallInv A O d n r) (hq : q + 1 + n = A.length) (ht : t = r * 4294967296 + A.getD q 0) :
    SmallInv A (O.set q ((t / d) % 4294967296)) d (n + 1) (t % d) := by
  have hlen := h.len
  obtain ⟨w1, w2, w3, w4, w5⟩ := div_word ⟨h.r0, h.r1⟩ hd (ok32_getD hA q) ht
  have hm : (t / d) % 4294967296 = t / d := by omega
  rw [hm]
  have e1 : A.length - (n + 1) = q := by omega
  have e2 : A.length - n = q + 1 := by omega
  have ok := h.ok
  have e := h.eq
  rw [e2] at ok e
  refine ⟨by omega, by simpa using hlen, ?_, w3, w4, ?_⟩
  · rw [e1, drop_set_self _ _ _ (by omega)]
    exact ok32_cons.2 ⟨⟨w1, w2⟩, ok⟩
  · rw [e1, drop_set_self _ _ _ (by omega), val_drop_step A q (by omega), e]
    simp only [val]
    rw [Int.mul_add, Int.mul_add, Int.mul_left_comm d 4294967296]
    omega
theorem SmallInv.fin {A O : List Int} {d r : Int} {n : Nat} (h : SmallInv A O d n r) (hn : n = A.length) (hA : ok32 A) : ok32 O ∧ val O = val A / d ∧ r = val A % d := by
  have ok := h.ok
  have e := h.eq
  rw [hn, Nat.sub_self, List.drop_zero] at ok e
  rw [List.drop_zero] at e
  have h1 : val A / d = val O := by
    rw [e, Int.mul_comm, Int.add_comm, Int.add_mul_ediv_right _ _ (by have := h.r0; have := h.r1; omega), Int.ediv_eq_zero_of_lt h.r0 h.r1]; simp
  have h2 : val A % d = r := by
    rw [e, Int.mul_comm, Int.add_comm, Int.add_mul_emod_self_right, Int.emod_eq_of_lt h.r0 h.r1]
  exact ⟨ok, h1.symm, h2.symm⟩
end Go.VL

/- Plain laws of comparing and shifting magnitudes. No program here. -/
set_option linter.unusedVariables false
set_option linter.unusedSimpArgs false
namespace Go.VL

def cmp3 (a b : Int) : Int := if a < b then -1 else if a = b then 0 else 1
theorem pow_mono {m n : Nat} (hmn : m ≤ n) : (4294967296 : Int) ^ m ≤ 4294967296 ^ n := by
  obtain ⟨k, rfl⟩ := Nat.exists_eq_add_of_le hmn
  rw [Int.pow_add]
  have h1 := pow_pos m
  have h2 : (1 : Int) ≤ 4294967296 ^ k := by have := pow_pos k; omega
  have h3 := Int.mul_le_mul_of_nonneg_left h2 (Int.le_of_lt h1)
  omega
theorem norm_len_lt {A B : List Int} (hA : norm A) (hB : norm B) (h : A.length < B.length) : val A < val B := by
  have h1 := val_lt hA.1
  have h2 := val_ge hB (by omega)
  have h3 := pow_mono (m := A.length) (n := B.length - 1) (by omega)
  omega
theorem cmp_len {A B : List Int} (hA : norm A) (hB : norm B) (h : A.length ≠ B.length) : cmp3 (val A) (val B) = if A.length < B.length then -1 else 1 := by
  by_cases h1 : A.length < B.length
  · have := norm_len_lt hA hB h1
    rw [if_pos h1, cmp3, if_pos this]
  · have := norm_len_lt hB hA (by omega)
    rw [if_neg h1, cmp3, if_neg (by omega), if_neg (by omega)]
structure CmpInv (A B : List Int) (n : Nat) : Prop where
  le : n ≤ A.length
  len : A.length = B.length
  eq : val (A.drop (A.length - n)) = val (B.drop (A.length - n))
theorem CmpInv.start {A B : List Int} (h : A.length = B.length) : CmpInv A B 0 := ⟨Nat.zero_le _, h, by rw [List.drop_eq_nil_of_le (by omega), List.drop_eq_nil_of_le (by omega)]⟩
theorem CmpInv.step {A B : List Int} {n q : Nat} (h : CmpInv A B n) (hq : q + 1 + n = A.length) (he : A.getD q 0 = B.getD q 0) : CmpInv A B (n + 1) := by
  refine ⟨by omega, h.len, ?_⟩
  have e := h.eq
  have hl := h.len
  rw [show A.length - n = q + 1 by omega] at e
  rw [show A.length - (n + 1) = q by omega, val_drop_step A q (by omega), val_drop_step B q (by omega), he, e]
theorem CmpInv.fin {A B : List Int} {n : Nat} (h : CmpInv A B n) (hn : n = A.length) : cmp3 (val A) (val B) = 0 := by
  have e := h.eq
  rw [hn, Nat.sub_self, List.drop_zero, List.drop_zero] at e
  simp [cmp3, e]
theorem CmpInv.diff {A B : List Int} {n q : Nat} (hA : ok32 A) (hB : ok32 B) (h : CmpInv A B n) (hq : q + 1 + n = A.length) (he : A.getD q 0 ≠ B.getD q 0) : cmp3 (val A) (val B) = if A.getD q 0 < B.getD q 0 then -1 else 1 := by
  have e := h.eq
  have hl := h.len
  rw [show A.length - n = q + 1 by omega] at e
  have a1 := val_split A q (by omega)
  have b1 := val_split B q (by omega)
  have a2 := val_drop_step A q (by omega)
  have b2 := val_drop_step B q (by omega)
  have a3 := val_lt (ok32_take hA q)
  have b3 := val_lt (ok32_take hB q)
  have a4 := val_nonneg (ok32_take hA q)
  have b4 := val_nonneg (ok32_take hB q)
  rw [List.length_take, Nat.min_eq_left (by omega)] at a3 b3
  have hp := pow_pos q
  generalize (4294967296 : Int) ^ q = p at a1 b1 a3 b3 hp
  have key : ∀ (x y u v : Int), 0 ≤ u → u < p → 0 ≤ v → v < p → x < y → u + p * x < v + p * y := fun x y u v hu hu' hv hv' hxy => by
    have : p * (x + 1) ≤ p * y := Int.mul_le_mul_of_nonneg_left hxy (by omega)
    rw [Int.mul_add] at this
    omega
  unfold cmp3
  rcases Int.lt_or_lt_of_ne he with hlt | hlt
  · have := key (val (A.drop q)) (val (B.drop q)) _ _ a4 a3 b4 b3 (by omega)
    rw [if_pos hlt, if_pos (by omega)]
  · have := key (val (B.drop q)) (val (A.drop q)) _ _ b4 b3 a4 a3 (by omega)
    rw [if_neg (by omega), if_neg (by omega), if_neg (by omega)]

theorem pow_two_words (n : Nat) : (2 : Int) ^ (32 * n) = 4294967296 ^ n := by rw [Int.pow_mul]; rfl

/-- Shifting to the left. -/
structure LeftInv (L O : List Int) (q r n : Nat) : Prop where
  le : n ≤ L.length
  len : O.length = L.length + q + 1
  ok : ok32 O
  zero : ∀ i, n + q < i → O.getD i 0 = 0
  top : O.getD (n + q) 0 < 2 ^ r
  eq : val O = 4294967296 ^ q * (2 ^ r * val (L.take n))
theorem two_pow_pos (r : Nat) : (0 : Int) < 2 ^ r := Int.pow_pos (by decide)
theorem LeftInv.start {L : List Int} {q r : Nat} : LeftInv L (List.replicate (L.length + q + 1) 0) q r 0 :=
  ⟨Nat.zero_le _, by simp, ok32_replicate _, fun i _ => getD_replicate _ _, by rw [getD_replicate]; exact two_pow_pos r, by simp [val_replicate, val]⟩
theorem getD_set_self {L : List Int} {i : Nat} {x : Int} (h : i < L.length) : (L.set i x).getD i 0 = x := by
  rw [List.getD_eq_getElem?_getD, List.getElem?_set_self h]; rfl
theorem two_pow_lt {r : Nat} (hr : r < 32) : (2 : Int) ^ r ≤ 2147483648 := by
  have h : (2 : Nat) ^ r ≤ 2 ^ 31 := Nat.pow_le_pow_right (by decide) (by omega)
  have : ((2 ^ r : Nat) : Int) ≤ ((2 ^ 31 : Nat) : Int) := Int.ofNat_le.2 h
  rw [Int.natCast_pow] at this
  exact this
theorem shl_word {x : Int} {r : Nat} (hr : r < 32) (hx : 0 ≤ x ∧ x < 4294967296) : 0 ≤ x * 2 ^ r ∧ x * 2 ^ r ≤ 9223372034707292160 ∧ x * 2 ^ r / 4294967296 < 2 ^ r := by
  have h1 := two_pow_pos r
  have h2 := two_pow_lt hr
  have h3 : 0 ≤ x * 2 ^ r := Int.mul_nonneg hx.1 (by omega)
  have h4 : x * 2 ^ r ≤ 4294967295 * 2147483648 := Int.mul_le_mul (by omega) h2 (by omega) (by omega)
  have h5 : x * 2 ^ r < 4294967296 * 2 ^ r := Int.mul_lt_mul_of_pos_right hx.2 h1
  refine ⟨h3, by omega, ?_⟩
  exact Int.ediv_lt_of_lt_mul (by decide) (by rw [Int.mul_comm (2 ^ r)]; exact h5)
/-- The low word of what is shifted is a multiple. -/
theorem shl_low {x : Int} {r : Nat} (hr : r < 32) (hx : 0 ≤ x) : ∃ h, 0 ≤ h ∧ (x * 2 ^ r) % 4294967296 = h * 2 ^ r := by
  have h1 := two_pow_pos r
  have e : (4294967296 : Int) = 2 ^ (32 - r) * 2 ^ r := by
    rw [← Int.pow_add, show 32 - r + r = 32 by omega]; rfl
  refine ⟨x % 2 ^ (32 - r), Int.emod_nonneg _ (by have := two_pow_pos (32 - r); omega), ?_⟩
  rw [e, Int.mul_comm x, Int.mul_comm (2 ^ (32 - r)), Int.mul_emod_mul_of_pos _ _ h1, Int.mul_comm]
theorem LeftInv.sum {L O : List Int} {q r n : Nat} {t : Int} (hL : ok32 L) (hr : r < 32) (h : LeftInv L O q r n) (hn : n < L.length) (ht : t = L.getD n 0 * 2 ^ r) : O.getD (n + q) 0 + t % 4294967296 < 4294967296 := by
  have hx := ok32_getD hL n
  have ho := ok32_getD h.ok (n + q)
  have htop := h.top
  obtain ⟨k, hk0, hk⟩ := shl_low hr hx.1
  rw [← ht] at hk
  have e : (4294967296 : Int) = 2 ^ (32 - r) * 2 ^ r := by
    rw [← Int.pow_add, show 32 - r + r = 32 by omega]; rfl
  have hp := two_pow_pos r
  have hk1 : k * 2 ^ r < 2 ^ (32 - r) * 2 ^ r := by rw [← e, ← hk]; omega
  have hk2 : k < 2 ^ (32 - r) := Int.lt_of_mul_lt_mul_right hk1 (by omega)
  have hk3 : (k + 1) * 2 ^ r ≤ 2 ^ (32 - r) * 2 ^ r := Int.mul_le_mul_of_nonneg_right hk2 (by omega)
  rw [Int.add_mul] at hk3
  omega
theorem LeftInv.step {L O : List Int} {q r n : Nat} {t : Int} (hL : ok32 L) (hr : r < 32) (h : LeftInv L O q r n) (hn : n < L.length) (ht : t = L.getD n 0 * 2 ^ r) :
    LeftInv L ((O.set (n + q) (O.getD (n + q) 0 + t % 4294967296)).set (n + q + 1) ((t / 4294967296) % 4294967296)) q r (n + 1) := by
  have hx := ok32_getD hL n
  have hlen := h.len
  obtain ⟨s1, s2, s3⟩ := shl_word hr hx
  rw [← ht] at s1 s2 s3
  have h2 := two_pow_lt hr
  have hhi : t / 4294967296 % 4294967296 = t / 4294967296 := by omega
  rw [hhi]
  have ho := ok32_getD h.ok (n + q)
  have htop := h.top
  have hsum : O.getD (n + q) 0 + t % 4294967296 < 4294967296 := by
    obtain ⟨k, hk0, hk⟩ := shl_low hr hx.1
    rw [← ht] at hk
    have e : (4294967296 : Int) = 2 ^ (32 - r) * 2 ^ r := by
      rw [← Int.pow_add, show 32 - r + r = 32 by omega]; rfl
    have hp := two_pow_pos r
    have hk1 : k * 2 ^ r < 2 ^ (32 - r) * 2 ^ r := by rw [← e, ← hk]; omega
    have hk2 : k < 2 ^ (32 - r) := Int.lt_of_mul_lt_mul_right hk1 (by omega)
    have hk3 : (k + 1) * 2 ^ r ≤ 2 ^ (32 - r) * 2 ^ r := Int.mul_le_mul_of_nonneg_right hk2 (by omega)
    rw [Int.add_mul] at hk3
    omega
  have hz : O.getD (n + q + 1) 0 = 0 := h.zero _ (by omega)
  refine ⟨hn, by simpa using hlen, ok32_set (ok32_set h.ok _ (by omega)) _ (by omega), fun i hi => ?_, ?_, ?_⟩
  · rw [getD_set_ne (by omega), getD_set_ne (by omega)]; exact h.zero i (by omega)
  · rw [show n + 1 + q = n + q + 1 by omega, getD_set_self (by simp; omega)]; exact s3
  · rw [val_set _ _ _ (by simp; omega), val_set _ _ _ (by omega), getD_set_ne (by omega), hz, h.eq, val_take_step L n]
    rw [Int.pow_succ, Int.pow_add]
    generalize (4294967296 : Int) ^ n = p
    generalize (4294967296 : Int) ^ q = u
    have e1 : p * u * t = p * u * (t % 4294967296) + p * u * 4294967296 * (t / 4294967296) := by
      rw [Int.mul_assoc (p * u), ← Int.mul_add]; congr 1; omega
    have e2 : u * (2 ^ r * (val (L.take n) + p * L.getD n 0)) = u * (2 ^ r * val (L.take n)) + p * u * t := by
      rw [Int.mul_add, Int.mul_add, ht]; congr 1
      rw [← Int.mul_assoc, ← Int.mul_assoc, Int.mul_right_comm u, Int.mul_comm (u * p), Int.mul_comm u p, Int.mul_comm (2 ^ r), Int.mul_assoc (p * u), Int.mul_comm (2 ^ r)]
    have e3 : p * u * (O.getD (n + q) 0 + t % 4294967296 - O.getD (n + q) 0) = p * u * (t % 4294967296) := by congr 1; omega
    rw [e2, e1, e3]
    simp only [Int.sub_zero]
    omega
theorem LeftInv.fin {L O : List Int} {q r n m : Nat} (h : LeftInv L O q r n) (hn : n = L.length) (hm : m = 32 * q + r) : val O = val L * 2 ^ m := by
  have e := h.eq
  rw [hn, List.take_of_length_le (Nat.le_refl _)] at e
  rw [e, hm, Int.pow_add, pow_two_words, Int.mul_comm (val L), Int.mul_assoc]
end Go.VL

/- What the integer's functions answer, as abstract values. -/
set_option linter.unusedVariables false
set_option linter.unusedSimpArgs false
namespace Go.VL

def validB (neg : Bool) (L : List Int) : Bool := if L.length = 0 then !neg else decide (L.length ≤ 128) && (L.getD (L.length - 1) 0 != 0)
theorem validB_nil {neg : Bool} {L : List Int} (h : L.length = 0) : validB neg L = !neg := by simp only [validB, if_pos h]
theorem validB_long {neg : Bool} {L : List Int} (h : ¬ L.length ≤ 128) : validB neg L = false := by simp only [validB]; rw [if_neg (by omega)]; simp [h]
theorem validB_some {neg : Bool} {L : List Int} {q : Nat} (h0 : L.length ≠ 0) (h : L.length ≤ 128) (hq : q = L.length - 1) : validB neg L = (L.getD q 0 != 0) := by subst hq; simp only [validB]; rw [if_neg h0]; simp [h]
/-- The number of a sign and a magnitude. -/
abbrev zOf (neg : Bool) (L : List Int) : Int := sg neg (val L)
def inB (z : Int) : Bool := decide ((z.natAbs : Int) < limit)
def zN (z : Int) : Bool := inB z && decide (z < 0)
def zL (z : Int) : List Int := if inB z = true then dg z.natAbs else []
def zE (z : Int) : Int := if inB z = true then 0 else 2
abbrev zR (z : Int) : B := .tup [intB (zN z) (zL z), numB .i64 (zE z)]
theorem inB_sg {neg : Bool} {v : Int} (h : 0 ≤ v) : inB (sg neg v) = decide (v < limit) := by unfold inB; rw [sg_abs h]
theorem copy_all (L : List Int) : L.take (Nat.min L.length ((L.length : Int)).toNat) ++ (List.replicate ((L.length : Int)).toNat 0).drop (Nat.min L.length ((L.length : Int)).toNat) = L := by simp
theorem res_big {neg : Bool} {v : Int} (h : 0 ≤ v) (hl : ((dg v).length : Int) > 128) : zN (sg neg v) = false ∧ zL (sg neg v) = [] ∧ zE (sg neg v) = 2 := by
  have h1 : inB (sg neg v) = false := by rw [inB_sg h]; have := len_limit h; simp; omega
  simp [zN, zL, zE, h1]
theorem res_small {neg : Bool} {v : Int} (h : 0 ≤ v) (hl : ¬ ((dg v).length : Int) > 128) : zN (sg neg v) = (neg && decide (((dg v).length : Int) > 0)) ∧ zL (sg neg v) = dg v ∧ zE (sg neg v) = 0 := by
  have h1 : inB (sg neg v) = true := by rw [inB_sg h]; have := len_limit h; simp; omega
  have h2 : decide (((dg v).length : Int) > 0) = decide (0 < v) := by have := dg_nil h; simp only [decide_eq_decide]; omega
  rw [h2]
  simp [zN, zL, zE, h1, sg_neg h, sg_abs h]
theorem sg_add {n : Bool} {a b : Int} : sg n (a + b) = sg n a + sg n b := by unfold sg; split <;> omega
def gN (ok : Bool) (z : Int) : Bool := ok && zN z
def gL (ok : Bool) (z : Int) : List Int := if ok = true then zL z else []
def gE (ok : Bool) (z : Int) : Int := if ok = true then zE z else 1
abbrev gR (ok : Bool) (z : Int) : B := .tup [intB (gN ok z) (gL ok z), numB .i64 (gE ok z)]
theorem gR_true {ok : Bool} {z : Int} (h : ok = true) : gR ok z = zR z := by subst h; simp [gN, gL, gE]
theorem gR_false {ok : Bool} {z : Int} (h : ok = false) : gR ok z = .tup [intB false [], numB .i64 1] := by subst h; simp [gN, gL, gE]
theorem valid_norm {neg : Bool} {L : List Int} (ho : ok32 L) (h : validB neg L = true) : norm L ∧ L.length ≤ 128 ∧ (L.length = 0 → neg = false) := by
  by_cases h0 : L.length = 0
  · rw [validB_nil h0] at h
    exact ⟨⟨ho, .inl h0⟩, by omega, fun _ => bnot_t h⟩
  · by_cases hl : L.length ≤ 128
    · rw [validB_some h0 hl rfl] at h
      exact ⟨⟨ho, .inr (bne_iff_ne.1 h)⟩, hl, fun h => absurd h h0⟩
    · rw [validB_long hl] at h; cases h
theorem cmp3_lt {a b : Int} : cmp3 a b < 0 ↔ a < b := by unfold cmp3; split <;> (try split) <;> omega
theorem norm_le_len {A B : List Int} (hA : norm A) (hB : norm B) (h : val A ≤ val B) : A.length ≤ B.length := by
  apply Classical.byContradiction
  intro hc
  have := norm_len_lt hB hA (by omega)
  omega
theorem sg_mix {n m : Bool} {a b : Int} (h : ¬ n = m) : sg m (b - a) = sg n a + sg m b := by
  cases n <;> cases m <;> simp [sg] at h ⊢ <;> omega
theorem sg_mix' {n m : Bool} {a b : Int} (h : ¬ n = m) : sg n (a - b) = sg n a + sg m b := by
  cases n <;> cases m <;> simp [sg] at h ⊢ <;> omega
theorem sg_sub {n m : Bool} {a b : Int} : sg n a - sg m b = sg n a + sg (!m) b := by cases n <;> cases m <;> simp [sg] <;> omega
theorem add_len {A B : List Int} (oA : ok32 A) (oB : ok32 B) (hA : A.length ≤ 128) (hB : B.length ≤ 128) : (dg (val A + val B)).length ≤ 1000000000 := by
  have h := (len_dg (v := val A + val B) (by have := val_nonneg oA; have := val_nonneg oB; omega) 129).2 (by
    have h1 := val_lt oA
    have h2 := val_lt oB
    have h3 := pow_mono hA
    have h4 := pow_mono hB
    rw [show (129 : Nat) = 128 + 1 from rfl, Int.pow_succ]
    have := pow_pos 128
    generalize (4294967296 : Int) ^ 128 = p at *
    omega)
  omega
theorem sub_len {A B : List Int} (oA : ok32 A) (oB : ok32 B) (hA : A.length ≤ 128) : (dg (val A - val B)).length ≤ 1000000000 := by
  by_cases h0 : 0 ≤ val A - val B
  · have h := (len_dg h0 128).2 (by
      have h1 := val_lt oA
      have h2 := val_nonneg oB
      have h3 := pow_mono hA
      omega)
    omega
  · have : dg (val A - val B) = [] := by rw [dg, show (val A - val B).toNat = 0 by omega, dgN_zero]
    rw [this]; simp
theorem sg_mul {n m : Bool} {a b : Int} : sg n a * sg m b = sg (!(n == m)) (a * b) := by cases n <;> cases m <;> simp [sg, Int.neg_mul, Int.mul_neg]
theorem mul_len {A B : List Int} (oA : ok32 A) (oB : ok32 B) (hA : A.length ≤ 128) (hB : B.length ≤ 128) : (dg (val A * val B)).length ≤ 1000000000 := by
  have a0 := val_nonneg oA
  have b0 := val_nonneg oB
  have h := (len_dg (Int.mul_nonneg a0 b0) 256).2 (by
    have h1 := val_lt oA
    have h2 := val_lt oB
    have h3 := pow_mono hA
    have h4 := pow_mono hB
    have hp := pow_pos 128
    rw [show (256 : Nat) = 128 + 128 from rfl, Int.pow_add]
    generalize (4294967296 : Int) ^ 128 = p at *
    have h5 : val A * val B ≤ (p - 1) * (p - 1) := Int.mul_le_mul (by omega) (by omega) b0 (by omega)
    have h6 : (p - 1) * (p - 1) = p * p - p - p + 1 := by rw [Int.sub_mul, Int.mul_sub]; omega
    omega)
  omega
def cC (ok : Bool) (a b : Int) : Int := if ok = true then cmp3 a b else 0
def cE (ok : Bool) : Int := if ok = true then 0 else 1
theorem cC_true {ok : Bool} {a b : Int} (h : ok = true) : cC ok a b = cmp3 a b := by rw [cC, if_pos h]
theorem cC_false {ok : Bool} {a b : Int} (h : ok = false) : cC ok a b = 0 := by rw [cC, h]; rfl
theorem cE_true {ok : Bool} (h : ok = true) : cE ok = 0 := by rw [cE, if_pos h]
theorem cE_false {ok : Bool} (h : ok = false) : cE ok = 1 := by rw [cE, h]; rfl
theorem cmp3_range (a b : Int) : -1 ≤ cmp3 a b ∧ cmp3 a b ≤ 1 := by unfold cmp3; split <;> (try split) <;> omega
theorem neg_pos {n : Bool} {A : List Int} (nA : norm A) (s : A.length = 0 → n = false) (h : n = true) : 0 < val A := by
  refine norm_pos nA (fun e => ?_)
  rw [s (by rw [e]; rfl)] at h; cases h
theorem cmp3_nn {a b : Int} : cmp3 (sg true a) (sg true b) = -cmp3 a b := by
  simp only [cmp3, sg, if_true]
  rcases Int.lt_trichotomy a b with h | h | h
  · rw [if_neg (by omega), if_neg (by omega), if_pos h]; rfl
  · subst h; simp
  · rw [if_pos (by omega), if_neg (by omega), if_neg (by omega)]
theorem cmp3_np {a b : Int} (ha : 0 < a) (hb : 0 ≤ b) : cmp3 (sg true a) (sg false b) = -1 := by simp only [cmp3, sg, if_true]; rw [if_pos (by simp; omega)]
theorem cmp3_pn {a b : Int} (ha : 0 ≤ a) (hb : 0 < b) : cmp3 (sg false a) (sg true b) = 1 := by simp only [cmp3, sg, if_true]; rw [if_neg (by simp; omega), if_neg (by simp; omega)]
theorem cmp3_pp {a b : Int} : cmp3 (sg false a) (sg false b) = cmp3 a b := by simp [sg]
end Go.VL

/- Plain laws of binary digits, and of magnitudes of two words. No program here. -/
set_option linter.unusedVariables false
set_option linter.unusedSimpArgs false
namespace Go.VL

/-- The number of binary digits. -/
def blen (n : Nat) : Nat := if h : n = 0 then 0 else blen (n / 2) + 1
termination_by n
decreasing_by omega
theorem blen_zero : blen 0 = 0 := by rw [blen]; simp
theorem blen_pos {n : Nat} (h : n ≠ 0) : blen n = blen (n / 2) + 1 := by rw [blen]; simp [h]
theorem blen_shift : ∀ (k n : Nat), 2 ^ k ≤ n → blen n = k + blen (n / 2 ^ k)
  | 0, n, h => by simp
  | k + 1, n, h => by
    have h1 : 2 ^ k ≤ n := Nat.le_trans (Nat.pow_le_pow_right (by decide) (Nat.le_succ k)) h
    rw [blen_shift k n h1]
    have h2 : n / 2 ^ k ≠ 0 := by
      have := Nat.div_pos h1 (Nat.two_pow_pos k)
      omega
    rw [blen_pos h2, Nat.div_div_eq_div_mul, show 2 ^ k * 2 = 2 ^ (k + 1) from rfl]
    omega
theorem blen_lt : ∀ (k n : Nat), blen n ≤ k ↔ n < 2 ^ k
  | 0, n => by
    by_cases h : n = 0
    · subst h; simp [blen_zero]
    · rw [blen_pos h]; simp; omega
  | k + 1, n => by
    by_cases h : n = 0
    · subst h; simp [blen_zero, Nat.two_pow_pos]
    · have := blen_lt k (n / 2)
      rw [blen_pos h, Nat.succ_le_succ_iff, this, Nat.pow_succ, Nat.div_lt_iff_lt_mul (by decide)]

def blenF : Nat → Nat → Nat
  | 0, _ => 0
  | f + 1, n => if n = 0 then 0 else blenF f (n / 2) + 1
theorem blenF_eq : ∀ (f n : Nat), n < 2 ^ f → blenF f n = blen n
  | 0, n, h => by
    have : n = 0 := by simp at h; omega
    subst this; rw [blen_zero]; rfl
  | f + 1, n, h => by
    unfold blenF
    split
    · rename_i h0; rw [h0, blen_zero]
    · rename_i h0
      rw [blen_pos h0, blenF_eq f (n / 2) (by rw [Nat.pow_succ] at h; omega)]
def tab8 : ByteArray := ⟨#[0, 1, 2, 2, 3, 3, 3, 3, 4, 4, 4, 4, 4, 4, 4, 4, 5, 5, 5, 5, 5, 5, 5, 5, 5, 5, 5, 5, 5, 5, 5, 5, 6, 6, 6, 6, 6, 6, 6, 6, 6, 6, 6, 6, 6, 6, 6, 6, 6, 6, 6, 6, 6, 6, 6, 6, 6, 6, 6, 6, 6, 6, 6, 6, 7, 7, 7, 7, 7, 7, 7, 7, 7, 7, 7, 7, 7, 7, 7, 7, 7, 7, 7, 7, 7, 7, 7, 7, 7, 7, 7, 7, 7, 7, 7, 7, 7, 7, 7, 7, 7, 7, 7, 7, 7, 7, 7, 7, 7, 7, 7, 7, 7, 7, 7, 7, 7, 7, 7, 7, 7, 7, 7, 7, 7, 7, 7, 7, 8, 8, 8, 8, 8, 8, 8, 8, 8, 8, 8, 8, 8, 8, 8, 8, 8, 8, 8, 8, 8, 8, 8, 8, 8, 8, 8, 8, 8, 8, 8, 8, 8, 8, 8, 8, 8, 8, 8, 8, 8, 8, 8, 8, 8, 8, 8, 8, 8, 8, 8, 8, 8, 8, 8, 8, 8, 8, 8, 8, 8, 8, 8, 8, 8, 8, 8, 8, 8, 8, 8, 8, 8, 8, 8, 8, 8, 8, 8, 8, 8, 8, 8, 8, 8, 8, 8, 8, 8, 8, 8, 8, 8, 8, 8, 8, 8, 8, 8, 8, 8, 8, 8, 8, 8, 8, 8, 8, 8, 8, 8, 8, 8, 8, 8, 8, 8, 8, 8, 8, 8, 8, 8, 8, 8, 8, 8, 8]⟩
theorem tab8_all : (List.range 256).all (fun j => (tab8.data.getD j 0).toNat == blenF 8 j) = true := by decide +kernel
theorem tab8_get {j : Nat} (h : j < 256) : (tab8.data.getD j 0).toNat = blen j := by
  rw [← blenF_eq 8 j h]
  exact eq_of_beq (List.all_eq_true.1 tab8_all j (List.mem_range.2 h))
theorem len32_a {x y : Int} (k : Nat) (h0 : 0 ≤ x) (hy : y = x / 2 ^ k) (h : (2 : Int) ^ k ≤ x) : blen x.toNat = k + blen y.toNat := by
  subst hy
  have e : ((2 ^ k : Nat) : Int) = 2 ^ k := Int.natCast_pow 2 k
  have this : ((x.toNat / 2 ^ k : Nat) : Int) = x / 2 ^ k := by rw [Int.natCast_ediv, e, Int.toNat_of_nonneg h0]
  rw [blen_shift k x.toNat (by omega), ← this, Int.toNat_natCast]
theorem tab8_le (j : Nat) : 0 ≤ ((tab8.data.getD j 0).toNat : Int) ∧ ((tab8.data.getD j 0).toNat : Int) ≤ 255 := by
  have := (tab8.data.getD j 0).toNat_lt
  omega

theorem word_shl {x : Int} {k : Nat} (hk : k ≤ 1) (hx : 0 ≤ x ∧ x < 4294967296) : 0 ≤ x * 4294967296 ^ k ∧ x * 4294967296 ^ k + 4294967296 ^ k ≤ 18446744073709551616 := by
  have : k = 0 ∨ k = 1 := by omega
  rcases this with rfl | rfl
  · simp; omega
  · simp; omega
theorem word_lt {L : List Int} (h : ok32 L) (hl : L.length ≤ 2) : 0 ≤ val L ∧ val L < 18446744073709551616 := by
  refine ⟨val_nonneg h, ?_⟩
  have h1 := val_lt h
  have h2 := pow_mono hl
  have : (4294967296 : Int) ^ 2 = 18446744073709551616 := by decide
  omega
/-- The number of binary digits of a magnitude, from its top word. -/
theorem blen_val {L : List Int} {q : Nat} (h : norm L) (h0 : L.length ≠ 0) (hq : q + 1 = L.length) : blen (val L).toNat = 32 * q + blen (L.getD q 0).toNat := by
  have h1 := val_split L q (by omega)
  have h2 := val_drop_step L q (by omega)
  rw [List.drop_eq_nil_of_le (show L.length ≤ q + 1 by omega)] at h2
  simp only [val, Int.mul_zero, Int.add_zero] at h2
  rw [h2] at h1
  have h3 := val_lt (ok32_take h.1 q)
  have h4 := val_nonneg (ok32_take h.1 q)
  rw [List.length_take, Nat.min_eq_left (by omega)] at h3
  have hx := ok32_getD h.1 q
  have hx0 : L.getD q 0 ≠ 0 := by
    rcases h.2 with h5 | h5
    · exact absurd h5 h0
    · rwa [show L.length - 1 = q by omega] at h5
  have hp := pow_pos q
  have hge := val_ge h h0
  rw [show L.length - 1 = q by omega] at hge
  have e : ((2 ^ (32 * q) : Nat) : Int) = 4294967296 ^ q := by rw [Int.natCast_pow]; exact pow_two_words q
  have hv := val_nonneg h.1
  have hle : 2 ^ (32 * q) ≤ (val L).toNat := by omega
  rw [blen_shift (32 * q) _ hle]
  congr 2
  have e2 : (((val L).toNat / 2 ^ (32 * q) : Nat) : Int) = L.getD q 0 := by
    rw [Int.natCast_ediv, e, Int.toNat_of_nonneg hv, h1, Int.add_mul_ediv_left _ _ (by omega), Int.ediv_eq_zero_of_lt h4 h3]; simp
  omega
theorem norm_zero {L : List Int} (h : norm L) (h0 : L.length = 0) : val L = 0 := by
  have : L = [] := List.eq_nil_of_length_eq_zero h0
  subst this; rfl
theorem of_val {m : Int} (h : 0 ≤ m ∧ m < 18446744073709551616) : val [m % 4294967296, m / 4294967296 % 4294967296] = m := by simp only [val]; omega
theorem ok32_two {x y : Int} (hx : 0 ≤ x ∧ x < 4294967296) (hy : 0 ≤ y ∧ y < 4294967296) : ok32 [x, y] := ok32_cons.2 ⟨hx, ok32_cons.2 ⟨hy, ok32_nil⟩⟩
def smB (n : Bool) (A : List Int) : Bool := validB n A && decide (-9223372036854775808 ≤ zOf n A ∧ zOf n A ≤ 9223372036854775807)
def smI (n : Bool) (A : List Int) : Int := if smB n A = true then zOf n A else 0
theorem sm_bad {n : Bool} {A : List Int} (h : smB n A = false) : smI n A = 0 := by rw [smI, h]; rfl
theorem sm_inv {n : Bool} {A : List Int} (h : validB n A = false) : smB n A = false := by rw [smB, h]; rfl
theorem sm_len {n : Bool} {A : List Int} (oA : ok32 A) (h : (A.length : Int) > 2) : smB n A = false := by
  cases hv : validB n A with
  | false => exact sm_inv hv
  | true =>
    obtain ⟨nA, lA, sA⟩ := valid_norm oA hv
    have h1 := val_ge nA (by omega)
    have h2 := pow_mono (m := 2) (n := A.length - 1) (by omega)
    have h3 : (4294967296 : Int) ^ 2 = 18446744073709551616 := by decide
    rw [smB, hv, Bool.true_and, decide_eq_false_iff_not]
    cases n <;> simp [zOf, sg] <;> omega
theorem sm_val {n : Bool} {A : List Int} {b : Bool} (hv : validB n A = true) (hb : b = decide (-9223372036854775808 ≤ zOf n A ∧ zOf n A ≤ 9223372036854775807)) : smB n A = b := by rw [smB, hv, hb]; rfl
theorem sm_ok {n : Bool} {A : List Int} (h : smB n A = true) : smI n A = zOf n A := by rw [smI, if_pos h]
end Go.VL

/- Plain laws of shifting a magnitude to the right. No program here. -/
set_option linter.unusedVariables false
set_option linter.unusedSimpArgs false
namespace Go.VL

theorem words_two (q r : Nat) : (2 : Int) ^ (32 * q + r) = 4294967296 ^ q * 2 ^ r := by rw [Int.pow_add, pow_two_words]
theorem val_div_words {L : List Int} (h : ok32 L) {q : Nat} (hq : q ≤ L.length) : val L / 4294967296 ^ q = val (L.drop q) ∧ val L % 4294967296 ^ q = val (L.take q) := by
  have h1 := val_split L q hq
  have h2 := val_lt (ok32_take h q)
  have h3 := val_nonneg (ok32_take h q)
  rw [List.length_take, Nat.min_eq_left hq] at h2
  have hp := pow_pos q
  rw [h1]
  exact ⟨by rw [Int.add_mul_ediv_left _ _ (by omega), Int.ediv_eq_zero_of_lt h3 h2]; simp, by rw [Int.add_mul_emod_self_left, Int.emod_eq_of_lt h3 h2]⟩
theorem right_out {L : List Int} (h : norm L) {q r m : Nat} (hm : m = 32 * q + r) (hq : L.length ≤ q) : dg (val L / 2 ^ m) = [] ∧ decide (val L % 2 ^ m ≠ 0) = decide ((L.length : Int) > 0) := by
  have h1 := val_lt h.1
  have h2 := val_nonneg h.1
  have h3 := pow_mono hq
  have h4 : (4294967296 : Int) ^ q ≤ 2 ^ m := by
    rw [hm, words_two]
    have := two_pow_pos r
    have hp := pow_pos q
    have := Int.mul_le_mul_of_nonneg_left (show (1 : Int) ≤ 2 ^ r by omega) (Int.le_of_lt hp)
    omega
  refine ⟨by rw [Int.ediv_eq_zero_of_lt h2 (by omega), dg_zero], ?_⟩
  rw [Int.emod_eq_of_lt h2 (by omega)]
  simp only [decide_eq_decide]
  constructor
  · intro hv
    apply Classical.byContradiction
    intro hc
    exact hv (norm_zero h (by omega))
  · intro hl
    have := norm_pos h (fun e => by rw [e] at hl; simp at hl)
    omega
theorem pow_split {r : Nat} (hr : r < 32) : (4294967296 : Int) = 2 ^ (32 - r) * 2 ^ r := by
  rw [← Int.pow_add, show 32 - r + r = 32 by omega]; rfl
theorem right_lost {L : List Int} (h : ok32 L) {q r m : Nat} (hr : r < 32) (hm : m = 32 * q + r) (hq : q < L.length) : (val L % 2 ^ m ≠ 0) ↔ (((dg (val (L.take q))).length : Int) > 0 ∨ L.getD q 0 % 2 ^ r ≠ 0) := by
  obtain ⟨a1, a2⟩ := val_div_words h (Nat.le_of_lt hq)
  have hp := pow_pos q
  have hr2 := two_pow_pos r
  have h3 := val_nonneg (ok32_take h q)
  have hd := dg_nil h3
  have e1 : val L % 2 ^ m = val (L.take q) + 4294967296 ^ q * (val (L.drop q) % 2 ^ r) := by
    rw [hm, words_two, ← a1, ← a2]
    have b1 := Int.mul_ediv_add_emod (val L) (4294967296 ^ q)
    have b2 := Int.mul_ediv_add_emod (val L / 4294967296 ^ q) (2 ^ r)
    have b3 := Int.mul_ediv_add_emod (val L) (4294967296 ^ q * 2 ^ r)
    rw [← Int.ediv_ediv_of_nonneg (by omega)] at b3
    generalize val L / 4294967296 ^ q = X at *
    generalize val L % 4294967296 ^ q = Y at *
    generalize (4294967296 : Int) ^ q = p at *
    rw [← b2, Int.mul_add, ← Int.mul_assoc] at b1
    omega
  have e2 : val (L.drop q) % 2 ^ r = L.getD q 0 % 2 ^ r := by
    rw [val_drop_step L q hq, pow_split hr, Int.mul_right_comm, Int.add_mul_emod_self_right]
  rw [e1, e2]
  have h5 : 0 ≤ L.getD q 0 % 2 ^ r := Int.emod_nonneg _ (by omega)
  have h6 : 0 ≤ 4294967296 ^ q * (L.getD q 0 % 2 ^ r) := Int.mul_nonneg (by omega) h5
  constructor
  · intro hne
    by_cases h7 : val (L.take q) = 0
    · right
      intro hz
      rw [hz, h7] at hne
      simp at hne
    · left; omega
  · rintro (h7 | h7)
    · omega
    · have h8 : 4294967296 ^ q * (L.getD q 0 % 2 ^ r) ≠ 0 := Int.mul_ne_zero (by omega) h7
      omega

structure RightInv (L O : List Int) (q r k : Nat) : Prop where
  le : k + q ≤ L.length
  len : O.length = L.length - q
  ok : ok32 (O.take k)
  eq : val (O.take k) = (val (L.drop q) / 2 ^ r) % 4294967296 ^ k
theorem RightInv.start {L O : List Int} {q r : Nat} (hq : q ≤ L.length) (h : O.length = L.length - q) : RightInv L O q r 0 := ⟨by omega, h, by simpa using ok32_nil, by simp [val, Int.emod_one]⟩
theorem emod_split (X p b : Int) (hp : 0 < p) (hb : 0 < b) : X % (p * b) = X % p + p * ((X / p) % b) := by
  have b1 := Int.mul_ediv_add_emod X p
  have b2 := Int.mul_ediv_add_emod (X / p) b
  have b3 := Int.mul_ediv_add_emod X (p * b)
  rw [← Int.ediv_ediv_of_nonneg (by omega)] at b3
  rw [← b2, Int.mul_add, ← Int.mul_assoc] at b1
  omega
theorem RightInv.step {L O : List Int} {q r k : Nat} {t : Int} (hL : ok32 L) (hr : r < 32) (h : RightInv L O q r k) (hk : k + q < L.length) (ht : t = L.getD (k + q) 0 + 4294967296 * L.getD (k + q + 1) 0) :
    RightInv L (O.set k (t / 2 ^ r % 4294967296)) q r (k + 1) := by
  have hlen := h.len
  have hm : 0 ≤ t / 2 ^ r % 4294967296 ∧ t / 2 ^ r % 4294967296 < 4294967296 := ⟨Int.emod_nonneg _ (by decide), Int.emod_lt_of_pos _ (by decide)⟩
  refine ⟨by omega, by simpa using hlen, ok32_take_set (by omega) h.ok hm, ?_⟩
  rw [val_take_set _ _ _ (by omega), h.eq, Int.pow_succ, emod_split _ _ _ (pow_pos k) (by decide)]
  congr 2
  have hp := pow_pos k
  have hr2 := two_pow_pos r
  have e1 : val (L.drop q) / 2 ^ r / 4294967296 ^ k = val (L.drop (k + q)) / 2 ^ r := by
    rw [Int.ediv_ediv_of_nonneg (by omega), Int.mul_comm, ← Int.ediv_ediv_of_nonneg (by omega)]
    have := (val_div_words (ok32_drop hL q) (q := k) (by simp; omega)).1
    rw [this, List.drop_drop, Nat.add_comm q k]
  rw [e1]
  have e2 : val (L.drop (k + q)) = t + 4294967296 * 4294967296 * val (L.drop (k + q + 2)) := by
    rw [val_drop_step L (k + q) hk, ht]
    by_cases hl : k + q + 1 < L.length
    · rw [val_drop_step L (k + q + 1) hl, show k + q + 1 + 1 = k + q + 2 from rfl]; omega
    · rw [List.drop_eq_nil_of_le (show L.length ≤ k + q + 1 by omega), List.drop_eq_nil_of_le (show L.length ≤ k + q + 2 by omega), getD_out (show L.length ≤ k + q + 1 by omega)]; simp [val]
  have e3 : (4294967296 : Int) * 4294967296 * val (L.drop (k + q + 2)) = 4294967296 * (2 ^ (32 - r) * val (L.drop (k + q + 2))) * 2 ^ r := by
    rw [Int.mul_assoc 4294967296 4294967296, Int.mul_assoc 4294967296 (2 ^ (32 - r) * _)]
    congr 1
    rw [Int.mul_right_comm, ← pow_split hr]
  rw [e2, e3, Int.add_mul_ediv_right _ _ (by omega), Int.add_mul_emod_self_left]
theorem RightInv.fin {L O : List Int} {q r k m : Nat} (hL : ok32 L) (h : RightInv L O q r k) (hk : k + q = L.length) (hm : m = 32 * q + r) : val O = val L / 2 ^ m ∧ ok32 O := by
  have hlen := h.len
  have ok := h.ok
  have e := h.eq
  rw [List.take_of_length_le (by omega)] at ok e
  refine ⟨?_, ok⟩
  have hr2 := two_pow_pos r
  have h1 := val_lt (ok32_drop hL q)
  have h2 := val_nonneg (ok32_drop hL q)
  rw [List.length_drop, show L.length - q = k by omega] at h1
  have h3 : val (L.drop q) / 2 ^ r ≤ val (L.drop q) := Int.ediv_le_self _ h2
  rw [e, Int.emod_eq_of_lt (Int.ediv_nonneg h2 (by omega)) (by omega), hm, words_two, ← Int.ediv_ediv_of_nonneg (by have := pow_pos q; omega), (val_div_words hL (by omega)).1]
end Go.VL

/- Plain laws of the long division: the estimate of a digit; taking a multiple away. No program here. -/
set_option linter.unusedVariables false
set_option linter.unusedSimpArgs false
namespace Go.VL

/-- The estimate: top = q v1 + r; the digit is at most q. U = (top B + u2) p + rest, V = (v1 B + v2) p + rest, where p = B^(n-2). -/
structure DigInv (U V v1 v2 u2 top p q r : Int) : Prop where
  split : top = q * v1 + r
  r0 : 0 ≤ r
  r1 : r < 4294967296
  q0 : 0 ≤ q
  least : U < (q + 1) * V
/-- What is known of the dividend and the divisor. -/
structure DigFix (U V v1 v2 u1 u2 top p : Int) : Prop where
  p0 : 0 < p
  v1l : 2147483648 ≤ v1
  v1h : v1 < 4294967296
  v2b : 0 ≤ v2 ∧ v2 < 4294967296
  u2b : 0 ≤ u2 ∧ u2 < 4294967296
  u1b : 0 ≤ u1 ∧ u1 < 4294967296
  t0 : 0 ≤ top
  tb : top ≤ v1 * 4294967296 + 4294967295
  ul : (top * 4294967296 + u2) * p ≤ U
  uh : U < (top * 4294967296 + u2 + 1) * p
  vl : (v1 * 4294967296 + v2) * p ≤ V
  vh : V < (v1 * 4294967296 + v2 + 1) * p
  uv : U < 4294967296 * V
section
variable {U V v1 v2 u1 u2 top p q r : Int}
theorem DigFix.Vpos (h : DigFix U V v1 v2 u1 u2 top p) : 0 < V := by
  have h1 := h.vl
  have h2 := h.p0
  have h3 := h.v1l
  have h4 := h.v2b.1
  have : 0 < (v1 * 4294967296 + v2) * p := Int.mul_pos (by omega) h2
  omega
/-- A greater digit would be too much. -/
theorem too_much (h : DigFix U V v1 v2 u1 u2 top p) (hq : 0 ≤ q) (hs : top * 4294967296 + u2 + 1 ≤ q * (v1 * 4294967296 + v2)) : U < q * V := by
  have h1 : (top * 4294967296 + u2 + 1) * p ≤ q * (v1 * 4294967296 + v2) * p := Int.mul_le_mul_of_nonneg_right hs (Int.le_of_lt h.p0)
  have h2 : q * ((v1 * 4294967296 + v2) * p) ≤ q * V := Int.mul_le_mul_of_nonneg_left h.vl hq
  have h3 := h.uh
  rw [Int.mul_assoc] at h1
  omega
theorem DigInv.start (h : DigFix U V v1 v2 u1 u2 top p) (hq : q = top / v1) (hr : r = top % v1) : DigInv U V v1 v2 u2 top p q r := by
  have h1 := h.v1l
  have h2 := h.v1h
  have e := Int.mul_ediv_add_emod top v1
  have r0 := Int.emod_nonneg top (show v1 ≠ 0 by omega)
  have r1 := Int.emod_lt_of_pos top (show 0 < v1 by omega)
  have q0 := Int.ediv_nonneg h.t0 (show 0 ≤ v1 by omega)
  rw [← hq, ← hr] at e
  rw [← hr] at r0 r1
  rw [← hq] at q0
  refine ⟨by rw [Int.mul_comm]; omega, r0, by omega, q0, too_much h (by omega) ?_⟩
  have hu2 := h.u2b
  have hv2 := h.v2b
  have hm : 0 ≤ (q + 1) * v2 := Int.mul_nonneg (by omega) hv2.1
  rw [Int.mul_add, ← Int.mul_assoc, Int.add_mul, Int.one_mul, Int.mul_comm q v1]
  omega
/-- The test says: too much. -/
theorem DigInv.step (h : DigFix U V v1 v2 u1 u2 top p) (i : DigInv U V v1 v2 u2 top p q r) (ht : 4294967296 ≤ q ∨ r * 4294967296 + u2 < q * v2) (hr : r + v1 < 4294967296) : DigInv U V v1 v2 u2 top p (q - 1) (r + v1) ∧ 0 < q := by
  have hv := h.Vpos
  have h1 := h.v1l
  have hu2 := h.u2b
  have v2' := h.v2b
  have i1 := i.split
  have i2 := i.r0
  have i3 := i.q0
  have hq : 0 < q := by
    rcases ht with ht | ht
    · omega
    · apply Classical.byContradiction
      intro hc
      have : q = 0 := by omega
      subst this
      simp at ht
      omega
  refine ⟨⟨by rw [Int.sub_mul, Int.one_mul]; omega, by omega, hr, by omega, ?_⟩, hq⟩
  rw [show q - 1 + 1 = q by omega]
  rcases ht with ht | ht
  · have := h.uv
    have h5 : 4294967296 * V ≤ q * V := Int.mul_le_mul_of_nonneg_right ht (Int.le_of_lt hv)
    omega
  · refine too_much h i.q0 ?_
    rw [Int.mul_add, ← Int.mul_assoc]
    have : q * v1 * 4294967296 = (top - r) * 4294967296 := by congr 1; omega
    omega
/-- At the end the estimate is at most one too great. -/
theorem DigInv.fin (h : DigFix U V v1 v2 u1 u2 top p) (i : DigInv U V v1 v2 u2 top p q r) (h1 : q < 4294967296) (h2 : q * v2 ≤ r * 4294967296 + u2) : (q - 1) * V ≤ U := by
  have i1 := i.split
  have hp := h.p0
  have hu2 := h.u2b
  have a1 : q * V ≤ q * ((v1 * 4294967296 + v2 + 1) * p) := Int.mul_le_mul_of_nonneg_left (Int.le_of_lt h.vh) i.q0
  have a2 : q * (v1 * 4294967296 + v2 + 1) ≤ top * 4294967296 + u2 + q := by
    rw [Int.mul_add, Int.mul_add, Int.mul_one, ← Int.mul_assoc]
    have : q * v1 * 4294967296 = (top - r) * 4294967296 := by congr 1; omega
    omega
  have a3 : q * (v1 * 4294967296 + v2 + 1) * p ≤ (top * 4294967296 + u2 + q) * p := Int.mul_le_mul_of_nonneg_right a2 (Int.le_of_lt hp)
  rw [← Int.mul_assoc] at a1
  have a4 : q * p ≤ (v1 * 4294967296 + v2) * p := Int.mul_le_mul_of_nonneg_right (by have := h.v1l; have := h.v2b.1; omega) (Int.le_of_lt hp)
  have a5 := h.vl
  have a6 := h.ul
  rw [Int.add_mul] at a3
  rw [Int.sub_mul, Int.one_mul]
  omega
/-- The rest has become too great for another step. -/
theorem DigInv.broke (h : DigFix U V v1 v2 u1 u2 top p) (i : DigInv U V v1 v2 u2 top p q r) (ht : 4294967296 ≤ q ∨ r * 4294967296 + u2 < q * v2) (hr : 4294967296 ≤ r + v1) : 0 < q ∧ q - 1 < 4294967296 ∧ U < q * V ∧ (q - 1 - 1) * V ≤ U := by
  have hv := h.Vpos
  have hp := h.p0
  have h1 := h.v1l
  have u2' := h.u2b
  have v2' := h.v2b
  have i1 := i.split
  have i2 := i.r0
  have i3 := i.q0
  have hq : 0 < q := by
    rcases ht with ht | ht
    · omega
    · apply Classical.byContradiction
      intro hc
      have : q = 0 := by omega
      subst this
      simp at ht
      omega
  have hlt : U < q * V := by
    rcases ht with ht | ht
    · have := h.uv
      have h5 : 4294967296 * V ≤ q * V := Int.mul_le_mul_of_nonneg_right ht (Int.le_of_lt hv)
      omega
    · refine too_much h i.q0 ?_
      rw [Int.mul_add, ← Int.mul_assoc]
      have : q * v1 * 4294967296 = (top - r) * 4294967296 := by congr 1; omega
      omega
  have hb : q - 1 < 4294967296 := by
    apply Classical.byContradiction
    intro hc
    have h6 : 4294967296 * v1 ≤ (q - 1) * v1 := Int.mul_le_mul_of_nonneg_right (by omega) (by omega)
    rw [Int.sub_mul, Int.one_mul] at h6
    have := h.tb
    omega
  refine ⟨hq, hb, hlt, ?_⟩
  -- (q-1) v1 = top - r - v1 ≤ top - B
  have a1 : (q - 1) * V ≤ (q - 1) * ((v1 * 4294967296 + v2 + 1) * p) := Int.mul_le_mul_of_nonneg_left (Int.le_of_lt h.vh) (by omega)
  have a2 : (q - 1) * (v1 * 4294967296 + v2 + 1) ≤ top * 4294967296 + u2 := by
    have b1 : (q - 1) * (v1 * 4294967296 + v2 + 1) ≤ (q - 1) * (v1 * 4294967296 + 4294967296) := Int.mul_le_mul_of_nonneg_left (by omega) (by omega)
    have b2 : (q - 1) * v1 = top - r - v1 := by rw [Int.sub_mul, Int.one_mul]; omega
    have b3 : (q - 1) * (v1 * 4294967296 + 4294967296) = (top - r - v1) * 4294967296 + (q - 1) * 4294967296 := by rw [Int.mul_add, ← Int.mul_assoc, b2]
    omega
  have a3 : (q - 1) * (v1 * 4294967296 + v2 + 1) * p ≤ (top * 4294967296 + u2) * p := Int.mul_le_mul_of_nonneg_right a2 (Int.le_of_lt hp)
  rw [← Int.mul_assoc] at a1
  have a6 := h.ul
  rw [Int.sub_mul (q - 1), Int.one_mul]
  omega
end
end Go.VL
