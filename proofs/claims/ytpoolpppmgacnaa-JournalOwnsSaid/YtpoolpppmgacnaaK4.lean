/- A small program logic over the translated Go code, plain laws, and walks over the functions: several texts in one. No condition. -/
import Derived.Test.YtpoolpppmgacnaaK3
/- A small program logic over the translated Go code, further part: families of rows, of any number. -/
set_option linter.unusedVariables false
set_option linter.unusedSimpArgs false
namespace Go.VL
open Go.RowKit

/-- Entries written down, and a family of further ones from number b on. -/
def enF (L : List (Nat × Ent)) (b : Nat) (F : List Ent) : Env := fun i => match L.lookup i with
  | some e => some e
  | none => if b ≤ i then F[i - b]? else none
/-- A row of values without names. -/
def Plain (e : Ent) : Prop := ∀ v ∈ e.cells, ∃ x, v = .b x
theorem Plain.ren {e : Ent} (h : Plain e) (ρ : Nat → Nat) : e.ren ρ = e := by
  have : e.cells.map (V.ren1 ρ) = e.cells := by
    conv => rhs; rw [← List.map_id e.cells]
    exact List.map_congr_left fun v hv => by obtain ⟨x, rfl⟩ := h v hv; rfl
  simp only [Ent.ren, this]
theorem Plain.low {e : Ent} (h : Plain e) {v : V} (hv : v ∈ e.cells) {i : Nat} (hi : i ∈ v.all1) : False := by
  obtain ⟨x, rfl⟩ := h v hv
  simp [V.all1, V.all0] at hi
theorem plainK {ik : IntKind} {L : List Int} : Plain (rowK ik L) := fun v hv => by
  simp only [rowK, List.mem_map] at hv
  obtain ⟨x, _, rfl⟩ := hv
  exact ⟨_, rfl⟩
theorem plainT {α : Type} {sz : Nat} {f : α → List B} {L : List α} : Plain (rowT sz f L) := fun v hv => by
  simp only [rowT, List.mem_map] at hv
  obtain ⟨x, _, rfl⟩ := hv
  exact ⟨_, rfl⟩
/-- The family stands in the table. -/
def Fam (E : Env) (b : Nat) (F : List Ent) : Prop := ∀ j e, F[j]? = some e → E (b + j) = some e
def okF (b : Nat) (l : List Nat) : Bool := l.all fun i => decide (i < b) || decide (100000 ≤ i)
theorem okF_get {b : Nat} {l : List Nat} (h : okF b l = true) {i : Nat} (hi : i ∈ l) : i < b ∨ 100000 ≤ i := by
  have := List.all_eq_true.1 h i hi
  simpa using this
section
variable {E : Env} {b : Nat} {F : List Ent} {L : List (Nat × Ent)} {i j s : Nat} {e e' : Ent}
theorem Fam.get (h : Fam E b F) (hs : F[j]? = some e) : E (b + j) = some e := h j e hs
theorem Fam.base (hL : okF b (L.map (·.1)) = true) (hF : b + F.length ≤ 100000) : Fam (enF L b F) b F := fun j e h => by
  have hj := (List.getElem?_eq_some_iff.1 h).1
  have : L.lookup (b + j) = none := by
    cases hq : L.lookup (b + j) with
    | none => rfl
    | some x =>
      have := okF_get hL (List.mem_map.2 ⟨_, lookup_mem hq, rfl⟩)
      simp only at this
      omega
  simp only [enF, this, Nat.le_add_right, if_true, Nat.add_sub_cancel_left]
  exact h
theorem Fam.skip {x : Option Ent} (h : Fam E b F) (hi : i < b ∨ b + F.length ≤ i) : Fam (setAt E i x) b F := fun j e hj => by
  have := (List.getElem?_eq_some_iff.1 hj).1
  rw [setAt_ne _ _ (by omega)]
  exact h j e hj
theorem Fam.put (h : Fam E b F) : Fam (setAt E (b + s) (some e')) b (F.set s e') := fun j e hj => by
  rw [List.getElem?_set] at hj
  by_cases hs : s = j
  · subst hs
    rw [setAt_self]
    rw [if_pos rfl] at hj
    split at hj
    · exact hj
    · cases hj
  · rw [if_neg hs] at hj
    rw [setAt_ne _ _ (by omega)]
    exact h j e hj
theorem enF_inv (h : enF L b F i = some e) : L.lookup i = some e ∨ ∃ j, i = b + j ∧ F[j]? = some e := by
  unfold enF at h
  cases hq : L.lookup i with
  | some x => rw [hq] at h; exact .inl h
  | none =>
    rw [hq] at h
    simp only at h
    split at h
    · exact .inr ⟨i - b, by omega, h⟩
    · cases h
/-- Less is told, by other names. -/
theorem WeakF {k n1 : Nat} {s : Slots} {S1 : List (Nat × V)} {L1 : List (Nat × Ent)} (ρ : Nat → Nat) (hk : k ≤ n1) (hlow : ∀ i, i < k → ρ i = i)
    (h1 : AllS (fun t x => s t = some (x.ren ρ) ∧ x.all.all (fun i => decide (i < n1)) = true) S1)
    (h2 : AllE (fun i e => E (ρ i) = some (e.ren ρ) ∧ i < n1 ∧ ∀ v ∈ e.cells, v.all1.all (fun i => decide (i < n1)) = true) L1)
    (h3 : ∀ j e, F[j]? = some e → E (ρ (b + j)) = some e ∧ Plain e) (hn : b + F.length ≤ n1)
    (hinj : ∀ i j, (i ∈ L1.map (·.1) ∨ b ≤ i ∧ i < b + F.length) → (j ∈ L1.map (·.1) ∨ b ≤ j ∧ j < b + F.length) → ρ i = ρ j → i = j) : Weak k s E n1 (sl S1) (enF L1 b F) := by
  have key : ∀ i e, enF L1 b F i = some e → i ∈ L1.map (·.1) ∨ b ≤ i ∧ i < b + F.length := fun i e he => by
    rcases enF_inv he with h | ⟨j, rfl, h⟩
    · exact .inl (List.mem_map.2 ⟨_, lookup_mem h, rfl⟩)
    · have := (List.getElem?_eq_some_iff.1 h).1
      exact .inr ⟨by omega, by omega⟩
  refine .inl ⟨ρ, hk, hlow, fun t x ht => ?_, fun i e he => ?_, fun i j e e' hi hj h => hinj i j (key i e hi) (key j e' hj) h⟩
  · obtain ⟨a1, a2⟩ := h1.get _ (lookup_mem ht)
    exact ⟨a1, fun i hi => by simpa using List.all_eq_true.1 a2 i hi⟩
  · rcases enF_inv he with h | ⟨j, rfl, h⟩
    · obtain ⟨a1, a2, a3⟩ := h2.get _ (lookup_mem h)
      exact ⟨a1, a2, fun v hv j hj => by simpa using List.all_eq_true.1 (a3 v hv) j hj⟩
    · have hj := (List.getElem?_eq_some_iff.1 h).1
      obtain ⟨a1, a2⟩ := h3 j e h
      exact ⟨by rw [a2.ren]; exact a1, by omega, fun v hv i hi => (a2.low hv hi).elim⟩
end
/-- Names of the family stay; others are told. -/
def rhA (b : Nat) (l : List (Nat × Nat)) : Nat → Nat := fun i => if i < b ∨ 100000 ≤ i then rl l i else i
theorem rhA_fam {b i : Nat} {l : List (Nat × Nat)} (h : b ≤ i) (h2 : i < 100000) : rhA b l i = i := by unfold rhA; rw [if_neg (by omega)]
def ckA (b : Nat) (l : List (Nat × Nat)) (K : List Nat) : Bool :=
  (List.range b).all (fun i => rl l i == i) && okF b K && okF b (K.map (rl l)) && K.all (fun i => K.all fun j => !(rl l i == rl l j) || i == j)
/-- The row of the family's names. -/
def safeE (b n : Nat) : Ent := ⟨1, (List.range n).map fun j => .own (b + j) 64, true⟩
theorem safe_ren {b c n : Nat} {ρ : Nat → Nat} (h : ∀ j, j < n → ρ (c + j) = b + j) : (safeE c n).ren ρ = safeE b n := by
  simp only [safeE, Ent.ren, List.map_map, Ent.mk.injEq, true_and, and_true]
  exact List.map_congr_left fun j hj => by
    simp only [Function.comp, V.ren1, V.ren0]
    rw [h j (List.mem_range.1 hj)]
theorem safe_low {b n n1 : Nat} (h : b + n ≤ n1) : ∀ v ∈ (safeE b n).cells, v.all1.all (fun i => decide (i < n1)) = true := fun v hv => by
  simp only [safeE, List.mem_map, List.mem_range] at hv
  obtain ⟨j, hj, rfl⟩ := hv
  simp [V.all1, V.all0]; omega
theorem safe_at {b n j : Nat} (h : j < n) : (safeE b n).cells[j]? = some (.own (b + j) 64) := by simp [safeE, h]
theorem safe_len {b n : Nat} : (safeE b n).cells.length = n := by simp [safeE]
theorem safe_rhA {b n : Nat} {l : List (Nat × Nat)} {E : Env} {i : Nat} (hn : b + n ≤ 100000) (h : E i = some (safeE b n)) : E i = some ((safeE b n).ren (rhA b l)) := by
  rw [safe_ren (fun j hj => rhA_fam (by omega) (by omega))]; exact h
theorem WA {k n1 b : Nat} {s : Slots} {E : Env} {S1 : List (Nat × V)} {L1 : List (Nat × Ent)} {F : List Ent} (l : List (Nat × Nat)) (hF : Fam E b F) (hP : ∀ e ∈ F, Plain e) (hb : b + F.length ≤ 100000) (hk : k ≤ 100000)
    (h2 : AllE (fun i e => E (rhA b l i) = some (e.ren (rhA b l)) ∧ i < n1 ∧ ∀ v ∈ e.cells, v.all1.all (fun i => decide (i < n1)) = true) L1)
    (hc : ckA b l (L1.map (·.1)) = true := by rfl) (hn : Nat.ble 100000 n1 = true := by rfl)
    (h1 : AllS (fun t x => s t = some (x.ren (rhA b l)) ∧ x.all.all (fun i => decide (i < n1)) = true) S1 := by repeat' (first | exact trivial | refine ⟨⟨rfl, rfl⟩, ?_⟩)) :
    Weak k s E n1 (sl S1) (enF L1 b F) := by
  have hn := Nat.le_of_ble_eq_true hn
  simp only [ckA, Bool.and_eq_true] at hc
  obtain ⟨⟨⟨c1, c2⟩, c3⟩, c4⟩ := hc
  have far : ∀ i ∈ L1.map (·.1), rhA b l i = rl l i ∧ (rl l i < b ∨ 100000 ≤ rl l i) := fun i hi => by
    have e1 := okF_get c2 hi
    exact ⟨by unfold rhA; rw [if_pos e1], okF_get c3 (List.mem_map.2 ⟨i, hi, rfl⟩)⟩
  refine WeakF (rhA b l) (by omega) (fun i hi => ?_) h1 h2 (fun j e hj => ?_) (by omega) (fun i j hi hj h => ?_)
  · by_cases hib : i < b
    · unfold rhA
      rw [if_pos (.inl hib)]
      simpa using List.all_eq_true.1 c1 i (List.mem_range.2 hib)
    · exact rhA_fam (by omega) (by omega)
  · have hjl := (List.getElem?_eq_some_iff.1 hj).1
    rw [rhA_fam (by omega) (by omega)]
    exact ⟨hF j e hj, hP e (List.mem_of_getElem? hj)⟩
  · rcases hi with hi | hi <;> rcases hj with hj | hj
    · rw [(far i hi).1, (far j hj).1] at h
      have := List.all_eq_true.1 (List.all_eq_true.1 c4 i hi) j hj
      simpa [h] using this
    · rw [(far i hi).1, rhA_fam (by omega) (by omega)] at h
      have := (far i hi).2
      omega
    · rw [(far j hj).1, rhA_fam (by omega) (by omega)] at h
      have := (far j hj).2
      omega
    · rw [rhA_fam (by omega) (by omega), rhA_fam (by omega) (by omega)] at h
      exact h
theorem plain_mapK {C : List (List Int)} {ik : IntKind} : ∀ e ∈ C.map (rowK ik), Plain e := fun e he => by
  obtain ⟨c, _, rfl⟩ := List.mem_map.1 he
  exact plainK
theorem AllS.imp {p q : Nat → V → Prop} (h : ∀ t x, p t x → q t x) : ∀ {l : List (Nat × V)}, AllS p l → AllS q l
  | [], _ => trivial
  | (t, x) :: r, hp => ⟨h t x hp.1, AllS.imp h hp.2⟩
theorem AllE.imp {p q : Nat → Ent → Prop} (h : ∀ t x, p t x → q t x) : ∀ {l : List (Nat × Ent)}, AllE p l → AllE q l
  | [], _ => trivial
  | (t, x) :: r, hp => ⟨h t x hp.1, AllE.imp h hp.2⟩
/-- A disk's rows: a box, the row of names, further entries, the family. -/
theorem tab_nth {L : List Ent} {j : Nat} {e : Ent} (h : L[j]? = some e) : tab (L.map some) j = some e := by
  rw [tab_some, List.getElem?_map, h]; rfl
theorem fam_tab {Lc F : List Ent} : Fam (tab ((Lc ++ F).map some)) Lc.length F := fun j e h => by
  refine tab_nth ?_
  rw [List.getElem?_append_right (by omega), Nat.add_sub_cancel_left]; exact h
/-- At the start of a function that is lent a family. -/
theorem WS {c : Nat} {s : Slots} {Lc F : List Ent} {S1 : List (Nat × V)} {L1 : List (Nat × Ent)} (hc : Lc.length = c) (hP : ∀ e ∈ F, Plain e) (hb : c + F.length ≤ 100000) (hk : okF c (L1.map (·.1)) = true)
    (h2 : AllE (fun i e => tab ((Lc ++ F).map some) i = some e ∧ i < c ∧ ∀ v ∈ e.cells, v.all1.all (fun i => decide (i < 100000)) = true) L1)
    (h1 : AllS (fun t x => s t = some x ∧ x.all.all (fun i => decide (i < 100000)) = true) S1 := by repeat' (first | exact trivial | refine ⟨⟨rfl, rfl⟩, ?_⟩)) :
    Weak (Lc ++ F).length s (tab ((Lc ++ F).map some)) 100000 (sl S1) (enF L1 c F) := by
  refine WeakF (fun i => i) (by rw [List.length_append]; omega) (fun _ _ => rfl) ?_ ?_ (fun j e hj => ⟨?_, hP e (List.mem_of_getElem? hj)⟩) hb (fun i j _ _ h => h)
  · refine AllS.imp (fun t x h => ?_) h1
    rw [V.ren_id]; exact h
  · refine AllE.imp (fun i e h => ?_) h2
    rw [Ent.ren_id]; exact ⟨h.1, by omega, h.2.2⟩
  · subst hc; exact fam_tab j e hj
/-- The function's own numbers: first ones, the family, new ones. -/
def rhE (c m : Nat) (ln : List Nat) : Nat → Nat := fun j => if j < c ∨ j < c + m then j else ln.getD (j - (c + m)) 0
theorem WeakR.fam {k c : Nat} {s : Slots} {E : Env} {Lc1 N : List (Option Ent)} {F : List Ent} (ln : List Nat) (hc : Lc1.length = c) (hk : k = c + F.length) (hF : Fam E c F) (hP : ∀ e ∈ F, Plain e) (hb : c + F.length ≤ 100000) (hN : N.length = ln.length)
    (hln : ln.all (fun i => decide (100000 ≤ i)) = true) (hnd : ln.Nodup) (h1 : AllO (fun j e => E j = some (e.ren (rhE c F.length ln)) ∧ ∀ v ∈ e.cells, ∀ i ∈ v.all1, i < c + F.length + ln.length) 0 Lc1)
    (h2 : AllO (fun j e => E (ln.getD j 0) = some (e.ren (rhE c F.length ln)) ∧ ∀ v ∈ e.cells, ∀ i ∈ v.all1, i < c + F.length + ln.length) 0 N) :
    WeakR (rhE c F.length ln) k s E (Lc1 ++ (F.map some ++ N)).length (fun _ => none) (tab (Lc1 ++ (F.map some ++ N))) := by
  have hlen : (Lc1 ++ (F.map some ++ N)).length = c + F.length + ln.length := by simp [hc, hN]; omega
  have cases3 : ∀ i e, tab (Lc1 ++ (F.map some ++ N)) i = some e → (i < c ∧ Lc1[i]? = some (some e)) ∨ (∃ j, i = c + j ∧ F[j]? = some e) ∨ (∃ j, i = c + F.length + j ∧ N[j]? = some (some e)) := fun i e he => by
    have he' := tab_some.1 he
    by_cases hi : i < c
    · rw [List.getElem?_append_left (by omega)] at he'
      exact .inl ⟨hi, he'⟩
    · rw [List.getElem?_append_right (by omega), hc] at he'
      by_cases hj : i - c < F.length
      · rw [List.getElem?_append_left (by simpa using hj), List.getElem?_map] at he'
        obtain ⟨x, hx, hx2⟩ := Option.map_eq_some_iff.1 he'
        injection hx2 with hx2
        subst hx2
        exact .inr (.inl ⟨i - c, by omega, hx⟩)
      · rw [List.getElem?_append_right (by simp; omega), List.length_map] at he'
        exact .inr (.inr ⟨i - c - F.length, by omega, he'⟩)
  have old : ∀ i, i < c + F.length → rhE c F.length ln i = i := fun i hi => by unfold rhE; rw [if_pos (.inr hi)]
  have new : ∀ j, rhE c F.length ln (c + F.length + j) = ln.getD j 0 := fun j => by unfold rhE; rw [if_neg (by omega), Nat.add_sub_cancel_left]
  have big : ∀ j, j < ln.length → 100000 ≤ ln.getD j 0 := fun j hj => by
    have := List.all_eq_true.1 hln _ (List.getElem_mem hj)
    rw [List.getD_eq_getElem?_getD, List.getElem?_eq_getElem hj]
    simpa using this
  have ident : ∀ i e, tab (Lc1 ++ (F.map some ++ N)) i = some e → (i < c + F.length ∧ rhE c F.length ln i = i) ∨ ∃ j, j < ln.length ∧ i = c + F.length + j ∧ rhE c F.length ln i = ln.getD j 0 := fun i e he => by
    rcases cases3 i e he with ⟨q1, q2⟩ | ⟨j, rfl, q2⟩ | ⟨j, rfl, q2⟩
    · exact .inl ⟨by omega, old i (by omega)⟩
    · have := (List.getElem?_eq_some_iff.1 q2).1
      exact .inl ⟨by omega, old _ (by omega)⟩
    · have := (List.getElem?_eq_some_iff.1 q2).1
      exact .inr ⟨j, by omega, rfl, new j⟩
  refine ⟨by rw [hlen]; omega, fun i hi => old i (by omega), (fun t x h => by cases h), fun i e he => ?_, fun i j e e' hi hj h => ?_⟩
  · rcases cases3 i e he with ⟨q1, q2⟩ | ⟨j, rfl, q2⟩ | ⟨j, rfl, q2⟩
    · have := h1.get i e q2
      rw [Nat.zero_add] at this
      rw [old i (by omega), hlen]
      exact ⟨this.1, by omega, this.2⟩
    · have hj := (List.getElem?_eq_some_iff.1 q2).1
      have hp := hP e (List.mem_of_getElem? q2)
      rw [old _ (by omega), hlen, hp.ren]
      exact ⟨hF j e q2, by omega, fun v hv i hi => (hp.low hv hi).elim⟩
    · have hj := (List.getElem?_eq_some_iff.1 q2).1
      have := h2.get j e q2
      rw [Nat.zero_add] at this
      rw [new, hlen]
      exact ⟨this.1, by omega, this.2⟩
  · rcases ident i e hi with ⟨a1, a2⟩ | ⟨i', a1, a2, a3⟩ <;> rcases ident j e' hj with ⟨b1, b2⟩ | ⟨j', b1, b2, b3⟩
    · rw [a2, b2] at h; exact h
    · rw [a2, b3] at h; have := big j' b1; omega
    · rw [a3, b2] at h; have := big i' a1; omega
    · rw [a3, b3, List.getD_eq_getElem?_getD, List.getD_eq_getElem?_getD, List.getElem?_eq_getElem a1, List.getElem?_eq_getElem b1] at h
      have := (List.getElem_inj hnd).1 h
      omega
theorem low_of {e : Ent} {c n : Nat} (h : (e.cells.all fun v => v.all1.all fun i => decide (i < c)) = true) (hn : c ≤ n) : ∀ v ∈ e.cells, ∀ i ∈ v.all1, i < n := fun v hv i hi => by
  have := List.all_eq_true.1 (List.all_eq_true.1 h v hv) i hi
  have h2 : i < c := by simpa using this
  omega
theorem plain_low {e : Ent} {n : Nat} (h : Plain e) : ∀ v ∈ e.cells, ∀ i ∈ v.all1, i < n := fun v hv i hi => (h.low hv hi).elim
theorem safe_low' {b m n1 : Nat} (h : b + m ≤ n1) : ∀ v ∈ (safeE b m).cells, ∀ i ∈ v.all1, i < n1 := fun v hv i hi => by
  have := List.all_eq_true.1 (safe_low h v hv) i hi
  simpa using this
/-- The caller's numbers for the callee's. -/
def rhC (lc : List Nat) (b c : Nat) : Nat → Nat := fun j => if j < c then lc.getD j 0 else b + (j - c)
def sgC (lc : List Nat) (b c m q : Nat) : Nat → Nat := fun j => if j < c then lc.getD j 0 else if j < c + m then b + (j - c) else q + (j - (c + m))
theorem nm_sgC {lc : List Nat} {b c m q k : Nat} (hk : k = c + m) : nm (rhC lc b c) k q = sgC lc b c m q := by
  funext j
  unfold nm sgC rhC
  subst hk
  by_cases h1 : j < c
  · rw [if_pos (by omega), if_pos h1, if_pos h1]
  · rw [if_neg h1, if_neg h1]
section
variable {P : Program} {ops : Array Oper} {o : Oper} {r : List Oper} {n n' id : Nat} {s : Slots} {E E2 : Env} {Q : Nat → Slots → Env → Prop} {d i : Nat} {v w : V}
variable {fop : Operand} {args : Array Operand} {ts : Array TypeId} {f : FuncId} {caps vs xs : List V}
theorem lent_fam {lc nv : List Nat} {b c : Nat} {Lc F : List Ent} (hc : Lc.length = c) (hlc : lc.length = c) (hnd : lc.Nodup) (hok : okF b lc = true) (hnv : okF b nv = true) (hb : b + F.length ≤ 100000) (hF : Fam E b F) (hP : ∀ e ∈ F, Plain e)
    (hl : AllT (fun j e => E (lc.getD j 0) = some (e.ren (rhC lc b c)) ∧ nv.contains (lc.getD j 0) = false ∧ ∀ v ∈ e.cells, ∀ i ∈ v.all1, i < c + F.length) 0 Lc) : Lent E (rhC lc b c) nv (Lc ++ F) := by
  have hlen : (Lc ++ F).length = c + F.length := by simp [hc]
  have lo : ∀ j, j < c → rhC lc b c j = lc.getD j 0 ∧ lc.getD j 0 ∈ lc := fun j hj => by
    refine ⟨by unfold rhC; rw [if_pos hj], ?_⟩
    rw [List.getD_eq_getElem?_getD, List.getElem?_eq_getElem (by omega)]
    exact List.getElem_mem _
  have hi : ∀ j, rhC lc b c (c + j) = b + j := fun j => by unfold rhC; rw [if_neg (by omega), Nat.add_sub_cancel_left]
  refine ⟨fun j e he => ?_, fun i j hi' hj' h => ?_⟩
  · rw [hlen]
    by_cases hj : j < c
    · rw [List.getElem?_append_left (by omega)] at he
      have := hl.get j e he
      rw [Nat.zero_add] at this
      rw [(lo j hj).1]
      exact this
    · rw [List.getElem?_append_right (by omega), hc] at he
      have hjl := (List.getElem?_eq_some_iff.1 he).1
      have hp := hP e (List.mem_of_getElem? he)
      have e1 : j = c + (j - c) := by omega
      rw [e1, hi, hp.ren]
      refine ⟨hF _ e he, ?_, fun v hv i hi => (hp.low hv hi).elim⟩
      cases hq : nv.contains (b + (j - c)) with
      | false => rfl
      | true =>
        have := okF_get hnv (by simpa using hq)
        omega
  · rw [hlen] at hi' hj'
    by_cases h1 : i < c <;> by_cases h2 : j < c
    · rw [(lo i h1).1, (lo j h2).1, List.getD_eq_getElem?_getD, List.getD_eq_getElem?_getD, List.getElem?_eq_getElem (by omega), List.getElem?_eq_getElem (by omega)] at h
      exact (List.getElem_inj hnd).1 h
    · have e2 : j = c + (j - c) := by omega
      rw [(lo i h1).1, e2, hi] at h
      have := okF_get hok (lo i h1).2
      omega
    · have e2 : i = c + (i - c) := by omega
      rw [(lo j h2).1, e2, hi] at h
      have := okF_get hok (lo j h2).2
      omega
    · have e1 : i = c + (i - c) := by omega
      have e2 : j = c + (j - c) := by omega
      rw [e1, e2, hi, hi] at h
      omega
theorem after_fam {lc nv : List Nat} {b c q m : Nat} {F : List Ent} {Lc1 N : List (Option Ent)} {L2 : List (Nat × Ent)} (hc : Lc1.length = c) (hm : F.length = m) (hlc : lc.length = c) (hP : ∀ e ∈ F, Plain e) (hb : b + F.length ≤ 100000) (hk2 : okF b (L2.map (·.1)) = true)
    (ha : AllE (fun i e => (∃ j e0, j < c ∧ Lc1[j]? = some (some e0) ∧ lc.getD j 0 = i ∧ e = e0.ren (sgC lc b c m q)) ∨ (∃ j e0, N[j]? = some (some e0) ∧ q + j = i ∧ e = e0.ren (sgC lc b c m q)) ∨ (upds E (nv.map (cool E)) i = some e ∧ lc.contains i = false)) L2) :
    After E (enF L2 b F) (rhC lc b c) (c + m) q nv (Lc1 ++ (F.map some ++ N)) := fun i e he => by
  rw [nm_sgC rfl]
  have e0 : ∀ j, j < c → sgC lc b c m q j = lc.getD j 0 := fun j hj => by unfold sgC; rw [if_pos hj]
  have e1 : ∀ j, j < m → sgC lc b c m q (c + j) = b + j := fun j hj => by unfold sgC; rw [if_neg (by omega), if_pos (by omega), Nat.add_sub_cancel_left]
  have e2 : ∀ j, sgC lc b c m q (c + m + j) = q + j := fun j => by unfold sgC; rw [if_neg (by omega), if_neg (by omega), Nat.add_sub_cancel_left]
  rcases enF_inv he with h | ⟨j, rfl, h⟩
  · rcases ha.get _ (lookup_mem h) with ⟨j, e', h1, h2, h3, h4⟩ | ⟨j, e', h2, h3, h4⟩ | ⟨h1, h2⟩
    · exact .inl ⟨j, e', by rw [List.getElem?_append_left (by omega)]; exact h2, by rw [e0 j h1]; exact h3, h4⟩
    · refine .inl ⟨c + m + j, e', ?_, by rw [e2]; exact h3, h4⟩
      rw [List.getElem?_append_right (by omega), List.getElem?_append_right (by simp; omega), List.length_map]
      rw [← h2]; congr 1; omega
    · refine .inr ⟨h1, fun j hj hc2 => ?_⟩
      by_cases hj2 : j < c
      · have e3 : rhC lc b c j = lc.getD j 0 := by unfold rhC; rw [if_pos hj2]
        rw [e3, List.getD_eq_getElem?_getD, List.getElem?_eq_getElem (by omega)] at hc2
        have : i ∈ lc := by rw [← hc2]; exact List.getElem_mem _
        simp [this] at h2
      · have e3 : rhC lc b c j = b + (j - c) := by unfold rhC; rw [if_neg hj2]
        have := okF_get hk2 (List.mem_map.2 ⟨_, lookup_mem h, rfl⟩)
        simp only at this
        omega
  · have hj := (List.getElem?_eq_some_iff.1 h).1
    refine .inl ⟨c + j, e, ?_, e1 j (by omega), ((hP e (List.mem_of_getElem? h)).ren _).symm⟩
    rw [List.getElem?_append_right (by omega), hc, Nat.add_sub_cancel_left, List.getElem?_append_left (by simpa using hj), List.getElem?_map, h]; rfl
/-- A call that is lent a family. -/
theorem GmF (q q2 : Nat) (lc nv : List Nat) {b c : Nat} {Lc F F1 : List Ent} {Lc1 N : List (Option Ent)} {rr : V} (L2 : List (Nat × Ent)) (h : (n, runs ops s o.guard, o.dst, o.op, ev s fop, evs s args.toList) = (q, some true, some d, .call { callee := .value fop, args := args, argTypes := ts }, some (.fn f caps), some vs))
    (hv : VG P f xs (Lc ++ F) rr (Lc1 ++ (F1.map some ++ N))) (hr : rr.ren (sgC lc b c F.length q) = v) (hF : Fam E b F) (hm : F1.length = F.length) (hP : ∀ e ∈ F, Plain e) (hP1 : ∀ e ∈ F1, Plain e) (hb : b + F.length ≤ 100000) (hq : q + N.length ≤ q2)
    (hx : Args E (rhC lc b c) (Lc ++ F).length nv (vs ++ caps) xs)
    (hl : AllT (fun j e => E (lc.getD j 0) = some (e.ren (rhC lc b c)) ∧ nv.contains (lc.getD j 0) = false ∧ ∀ v ∈ e.cells, ∀ i ∈ v.all1, i < c + F.length) 0 Lc)
    (ha : AllE (fun i e => (∃ j e0, j < c ∧ Lc1[j]? = some (some e0) ∧ lc.getD j 0 = i ∧ e = e0.ren (sgC lc b c F.length q)) ∨ (∃ j e0, N[j]? = some (some e0) ∧ q + j = i ∧ e = e0.ren (sgC lc b c F.length q)) ∨ (upds E (nv.map (cool E)) i = some e ∧ lc.contains i = false)) L2)
    (h3 : VList P ops r q2 (setAt s d (some v)) (enF L2 b F1) Q)
    (hcs : (Lc.length, Lc1.length, lc.length) = (c, c, c) := by rfl) (hnd : lc.Nodup := by decide) (hoks : (okF b lc && okF b nv && okF b (L2.map (·.1))) = true := by rfl) : VList P ops (o :: r) n s E Q := by
  simp only [Prod.mk.injEq] at h hcs; obtain ⟨rfl, h1, h2, h4, h5, h6⟩ := h
  obtain ⟨c1, c2, c3⟩ := hcs
  simp only [Bool.and_eq_true] at hoks
  have hlen : (Lc ++ F).length = c + F.length := by simp [c1]
  have hcg : CallG P n s E (.call { callee := .value fop, args := args, argTypes := ts }) (rr.ren (nm (rhC lc b c) (Lc ++ F).length n)) q2 (enF L2 b F1) := by
    refine CallG.mk fop args ts f caps vs xs (Lc ++ F) rr _ (rhC lc b c) nv q2 _ h5 h6 hx (lent_fam c1 c3 hnd hoks.1.1 hoks.1.2 hb hF hP hl) hv ?_ ?_
    · rw [hlen]; simp only [List.length_append, List.length_map, c2, hm]; omega
    · rw [hlen]; exact after_fam c2 hm c3 hP1 (by omega) hoks.2 ha
  refine VList.goV h1 h2 (by rw [h4]; exact hcg) ?_ h3
  rw [hlen, nm_sgC rfl]; exact hr
end
/-- Steps in pairs. -/
theorem t2 {α β : Type} {a a' : α} {b b' : β} (h : a = a') (h2 : b = b') : (a, b) = (a', b') := by rw [h, h2]
end Go.VL

/- A small program logic over the translated Go code, further part: functions that are lent families of rows of bytes; the rows of a disk. -/
set_option linter.unusedVariables false
set_option linter.unusedSimpArgs false
namespace Go.VL
open Go.RowKit
theorem skipE {E : Env} {i a : Nat} {x : Option Ent} {e : Ent} (h : i ≠ a) (h2 : E i = some e) : setAt E a x i = some e := by rw [setAt_ne _ _ h]; exact h2
def famD (C : List (List Int)) : List Ent := C.map (rowK .u8)
theorem famD_len {C : List (List Int)} : (famD C).length = C.length := by simp [famD]
theorem famD_plain {C : List (List Int)} : ∀ e ∈ famD C, Plain e := plain_mapK
theorem famD_at {C : List (List Int)} {j : Nat} {c : List Int} (h : C[j]? = some c) : (famD C)[j]? = some (rowK .u8 c) := by simp [famD, h]
theorem famD_set {A : List (List Int)} {s : Nat} {R R' : List Int} : (famD (A.set s R)).set s (rowK .u8 R') = famD (A.set s R') := by
  simp only [famD, List.map_set, List.set_set]
/-- The rows of a disk. -/
def rowsD (z : Nat) (D : List Int) : List (List Int) := (List.range z).map fun s : Nat => sec D (s : Int)
theorem rowsD_len {z : Nat} {D : List Int} : (rowsD z D).length = z := by simp [rowsD]
theorem rowsD_at {z s : Nat} {D : List Int} (h : s < z) : (rowsD z D)[s]? = some (sec D (s : Int)) := by simp [rowsD, h]
theorem famR_len {z : Nat} {D : List Int} : (famD (rowsD z D)).length = z := by rw [famD_len, rowsD_len]
theorem sec_put_same {D b : List Int} {s : Int} (h0 : 0 ≤ s) (h1 : s * 64 + 64 ≤ D.length) : sec (put D s b) s = cpw (sec D s) 0 64 b := by
  apply List.ext_getElem?
  intro j
  rw [sec_get]
  have hl := sec_len h0 h1
  rw [cpw_get (by omega)]
  have := Nat.min_le_right b.length 64
  split
  · rename_i hj
    rw [put, cpw_get (by omega)]
    by_cases h2 : j < min b.length 64
    · rw [if_pos (by omega), if_pos (by omega)]; congr 1; omega
    · rw [if_neg (by omega), if_neg (by omega), sec_get, if_pos hj]
  · rename_i hj
    rw [if_neg (by omega), sec_get, if_neg hj]
theorem rowsD_put {z s : Nat} {D b : List Int} (hD : D.length = z * 64) (hs : s < z) : rowsD z (put D (s : Int) b) = (rowsD z D).set s (cpw (sec D (s : Int)) 0 64 b) := by
  apply List.ext_getElem?
  intro j
  rw [List.getElem?_set]
  by_cases hj : j < z
  · rw [rowsD_at hj]
    by_cases hsj : s = j
    · subst hsj
      rw [if_pos rfl, if_pos (by rw [rowsD_len]; exact hj), sec_put_same (by omega) (by omega)]
    · rw [if_neg hsj, rowsD_at hj, sec_put (by omega) (by omega) (by omega) (by omega)]
  · have e1 : (rowsD z (put D (s : Int) b))[j]? = none := List.getElem?_eq_none (by rw [rowsD_len]; omega)
    have e2 : (rowsD z D)[j]? = none := List.getElem?_eq_none (by rw [rowsD_len]; omega)
    rw [e1, if_neg (by omega), e2]
theorem safe_rhC {lc : List Nat} {b c n : Nat} : (safeE c n).ren (rhC lc b c) = safeE b n := safe_ren fun j _ => by unfold rhC; rw [if_neg (by omega), Nat.add_sub_cancel_left]
theorem safe_rhC' {lc : List Nat} {b c n i : Nat} {E : Env} (h : E i = some (safeE b n)) : E i = some ((safeE c n).ren (rhC lc b c)) := by rw [safe_rhC]; exact h
theorem safe_sgC {lc : List Nat} {b c n m q : Nat} (h : n ≤ m) : safeE b n = (safeE c n).ren (sgC lc b c m q) := (safe_ren fun j hj => by unfold sgC; rw [if_neg (by omega), if_pos (by omega), Nat.add_sub_cancel_left]).symm
theorem safe_rhE {c n m : Nat} {ln : List Nat} {E : Env} {i : Nat} (hm : n ≤ m) (h : E i = some (safeE c n)) : E i = some ((safeE c n).ren (rhE c m ln)) := by
  rw [safe_ren (b := c) (fun j hj => by unfold rhE; rw [if_pos (.inr (by omega))])]; exact h
section
variable {P : Program} {f : FuncId} {fn : Func} {cd : Code} {xs : List V} {r : V} {s : Slots} {E : Env} {e : VExit} {n : Nat}
/-- A function that is lent a family keeps its contract. -/
theorem VGf_of {c : Nat} {Lc F F1 : List Ent} {Lc1 N : List (Option Ent)} {S1 : List (Nat × V)} {L1 : List (Nat × Ent)} (hm : P.follows .mixedOrders = true) (hfn : P.funcs[f]? = some fn) (hb : fn.body = some cd) (hname : (fn.name == "runtime.NumGoroutine") = false)
    (hc : codeOk (.of (xs.length + (fn.ntmps - xs.length))) cd = true) (hcs : (Lc.length, Lc1.length) = (c, c)) (hF : F1.length = F.length) (hN : (N.all fun | some e => e.hot | none => true) = true) (hw : Weak (Lc ++ F).length (fun t => xs[t]?) (tab ((Lc ++ F).map some)) 100000 (sl S1) (enF L1 c F))
    (hbody : VCode P (Lc ++ F).length cd 100000 (sl S1) (enF L1 c F) (PostW P fn (Lc ++ F).length r (Lc1 ++ (F1.map some ++ N)))) : VG P f xs (Lc ++ F) r (Lc1 ++ (F1.map some ++ N)) := by
  simp only [Prod.mk.injEq] at hcs
  refine VG_ofY hm hfn hb hname hc (by simp [hcs.1, hcs.2, hF]) ?_ (fun e n s E h => ?_) (.inr hw) hbody
  · have e1 : (Lc1 ++ (F1.map some ++ N)).drop (Lc ++ F).length = N := by
      rw [← List.append_assoc, List.drop_append_of_le_length (by simp [hcs.1, hcs.2, hF]), List.drop_of_length_le (by simp [hcs.1, hcs.2, hF]), List.nil_append]
    rw [e1]; exact hN
  · rcases h with h | ⟨n1, s1, E1, hw, h⟩
    · exact ⟨h.1, .inl h.2⟩
    · exact ⟨h.1, .inr ⟨n1, s1, E1, hw, h.2⟩⟩
/-- The end. -/
theorem GgF {c k : Nat} {F F' : List Ent} {Lc1 Lc1' N N' : List (Option Ent)} {r' : V} {l : List V} (ln : List Nat) (hg : ResG P s E (rhE c F'.length ln) (Lc1' ++ (F'.map some ++ N')) fn.results.toList l) (ho : ResOf l r') (hr : r' = r) (hF : Fam E c F') (hP : ∀ e ∈ F', Plain e) (hk : k = c + F'.length) (hb : c + F'.length ≤ 100000)
    (h1 : AllO (fun j e => E j = some (e.ren (rhE c F'.length ln)) ∧ ∀ v ∈ e.cells, ∀ i ∈ v.all1, i < c + F'.length + ln.length) 0 Lc1')
    (h2 : AllO (fun j e => E (ln.getD j 0) = some (e.ren (rhE c F'.length ln)) ∧ ∀ v ∈ e.cells, ∀ i ∈ v.all1, i < c + F'.length + ln.length) 0 N')
    (hL : (Lc1', F', N') = (Lc1, F, N)) (hcs : (Lc1'.length, N'.length) = (c, ln.length) := by rfl) (hln : ln.all (fun i => decide (100000 ≤ i)) = true := by rfl) (hnd : ln.Nodup := by decide) (he : match e with | .exit _ => False | _ => True := by trivial) :
    PostG P fn k r (Lc1 ++ (F.map some ++ N)) e n s E := by
  simp only [Prod.mk.injEq] at hL hcs
  obtain ⟨rfl, rfl, rfl⟩ := hL
  exact postG he (WeakR.fam ln hcs.1 hk hF hP hb hcs.2 hln hnd h1 h2) hg ho hr rfl
end
section
theorem rowT_cell {α : Type} {sz : Nat} {f : α → List B} {L : List α} {j k : Nat} {x : α} {y : B} (hf : ∀ x, (f x).length = sz) (hj : L[j]? = some x) (hk : (f x)[k]? = some y) (hl : k < sz) : (rowT sz f L).cells[j * sz + k]? = some (.b y) := by
  have h := cellsT_at hf hj
  have h2 : ((cellsT f L).drop (j * sz)).take sz = f x := h
  have h3 : (((cellsT f L).drop (j * sz)).take sz)[k]? = some y := by rw [h2]; exact hk
  rw [List.getElem?_take_of_lt hl, List.getElem?_drop] at h3
  simp only [rowT, List.getElem?_map, h3, Option.map_some]
theorem free_fam {c : Nat} {F : List Ent} {Lc1 : List (Option Ent)} {l : List Nat} (hc : Lc1.length = c) (hb : c + F.length ≤ 100000) (hq : (l.all fun i => decide (100000 ≤ i)) = true) : freeOf (rhE c F.length []) (Lc1 ++ (F.map some ++ [])) l = true := by
  refine List.all_eq_true.2 fun i hi => List.all_eq_true.2 fun j hj => ?_
  have h1 : 100000 ≤ i := by simpa using List.all_eq_true.1 hq i hi
  have hj2 : j < c + F.length := by
    have := List.mem_range.1 hj
    simpa [hc] using this
  have h2 : rhE c F.length [] j = j := by unfold rhE; rw [if_pos (.inr hj2)]
  rw [h2]
  have h3 : (j == i) = false := by simp; omega
  split
  · simp [h3]
  · rfl
theorem rhE_new {c m q z : Nat} (h : m = z) : rhE c m [q] (c + z) = q := by subst h; unfold rhE; rw [if_neg (by omega), Nat.sub_self]; rfl
variable {P : Program} {ops : Array Oper} {o : Oper} {n : Nat} {s : Slots} {E : Env} {T : TypeId} {p x : Operand} {i off d : Nat} {e : Ent}
theorem Sn (hn : szOf P T = some 1) (h : (runs ops s o.guard, o.dst, o.op, ev s p, E i, e.hot, Nat.ble (off + 1) e.cells.length) = (some true, none, .store T p (.const (.slice none 0 0)), some (.ptr i off), some e, true, true)) :
    Stp P ops o n s E (n + 1) s (setAt E i (some { e with cells := e.cells.set off (.b .nil) })) [i] := by
  simp only [Prod.mk.injEq] at h
  exact stS h.1 h.2.1 (h.2.2.1 ▸ .storeNil _ _ _ _ _ h.2.2.2.1 h.2.2.2.2.1 h.2.2.2.2.2.1 hn (Nat.le_of_ble_eq_true h.2.2.2.2.2.2))
theorem BdN {parts : Array (Nat × Operand)} {z : List B} {fl : List (Nat × Nat)} {vs cs : List V} (K : StT P T z fl) (h : (runs ops s o.guard, o.dst, o.op, evs s (parts.toList.map (·.2)), putParts (fun k => fl[k]?) ((parts.toList.map (·.1)).zip vs) ((z.map nilB).map .b)) = (some true, some d, .build T parts, some vs, some cs)) :
    Stp P ops o n s E (n + 1) (setAt s d (some (.agg cs))) E [] := by
  simp only [Prod.mk.injEq] at h
  exact st0 h.1 h.2.1 (h.2.2.1 ▸ .buildN _ _ _ _ _ h.2.2.2.1 (by rw [K.z]; rfl) K.p (putParts_mono K.f h.2.2.2.2))
end
/-- The family grows by a row. -/
def rhB (b : Nat) (l : List (Nat × Nat)) (m q : Nat) : Nat → Nat := fun i => if i < b ∨ 100000 ≤ i then rl l i else if i = b + m then q else i
theorem safe_rhB {b m q : Nat} {l : List (Nat × Nat)} {E : Env} {i : Nat} (hm : b + m < 100000) (h : E i = some ⟨1, (safeE b m).cells ++ [.own q 64], true⟩) : E i = some ((safeE b (m + 1)).ren (rhB b l m q)) := by
  rw [h]
  simp only [safeE, Ent.ren, List.map_map, Option.some.injEq, Ent.mk.injEq, true_and, and_true]
  rw [List.range_succ, List.map_append]
  congr 1
  · exact List.map_congr_left fun j hj => by
      have := List.mem_range.1 hj
      simp only [Function.comp, V.ren1, V.ren0, rhB]
      rw [if_neg (by omega), if_neg (by omega)]
  · simp only [List.map_cons, List.map_nil, Function.comp, V.ren1, V.ren0, rhB]
    rw [if_neg (by omega)]
    simp
theorem WB {n1 b : Nat} {s : Slots} {E : Env} {S1 : List (Nat × V)} {L1 : List (Nat × Ent)} {F F1 : List Ent} {e0 : Ent} (l : List (Nat × Nat)) (q : Nat) (hF : Fam E b F) (hP : ∀ e ∈ F, Plain e) (he : E q = some e0) (hP0 : Plain e0) (hF1 : F1 = F ++ [e0]) (hb : b + F.length + 1 ≤ 100000)
    (h2 : AllE (fun i e => E (rhB b l F.length q i) = some (e.ren (rhB b l F.length q)) ∧ i < n1 ∧ ∀ v ∈ e.cells, v.all1.all (fun i => decide (i < n1)) = true) L1)
    (hc : (ckA b l (L1.map (·.1)) && decide (100000 ≤ q) && !((L1.map (·.1)).map (rl l)).contains q) = true := by rfl) (hn : Nat.ble 100000 n1 = true := by rfl)
    (h1 : AllS (fun t x => s t = some (x.ren (rhB b l F.length q)) ∧ x.all.all (fun i => decide (i < n1)) = true) S1 := by repeat' (first | exact trivial | refine ⟨⟨rfl, rfl⟩, ?_⟩)) :
    Weak 0 s E n1 (sl S1) (enF L1 b F1) := by
  subst hF1
  have hn := Nat.le_of_ble_eq_true hn
  simp only [ckA, Bool.and_eq_true, decide_eq_true_eq, Bool.not_eq_true'] at hc
  obtain ⟨⟨⟨⟨⟨c1, c2⟩, c3⟩, c4⟩, c5⟩, c6⟩ := hc
  have far : ∀ i ∈ L1.map (·.1), rhB b l F.length q i = rl l i ∧ (rl l i < b ∨ 100000 ≤ rl l i) ∧ rl l i ≠ q := fun i hi => by
    have e1 := okF_get c2 hi
    have hm : rl l i ∈ (L1.map (·.1)).map (rl l) := List.mem_map.2 ⟨i, hi, rfl⟩
    refine ⟨by unfold rhB; rw [if_pos e1], okF_get c3 hm, fun h => ?_⟩
    rw [h] at hm
    have h7 : ((L1.map (·.1)).map (rl l)).contains q = true := List.elem_eq_true_of_mem hm
    rw [h7] at c6; cases c6
  have fam : ∀ j, j < F.length → rhB b l F.length q (b + j) = b + j := fun j hj => by unfold rhB; rw [if_neg (by omega), if_neg (by omega)]
  have last : rhB b l F.length q (b + F.length) = q := by unfold rhB; rw [if_neg (by omega), if_pos rfl]
  have two : ∀ i, b ≤ i ∧ i < b + (F ++ [e0]).length → (i < b + F.length ∧ rhB b l F.length q i = i) ∨ (i = b + F.length ∧ rhB b l F.length q i = q) := fun i hi => by
    simp at hi
    by_cases h : i = b + F.length
    · exact .inr ⟨h, by rw [h]; exact last⟩
    · obtain ⟨j, rfl⟩ : ∃ j, i = b + j := ⟨i - b, by omega⟩
      exact .inl ⟨by omega, fam j (by omega)⟩
  refine WeakF (rhB b l F.length q) (Nat.zero_le _) (fun i hi => by omega) h1 h2 (fun j e hj => ?_) (by simp; omega) (fun i j hi hj h => ?_)
  · by_cases hjl : j < F.length
    · rw [List.getElem?_append_left hjl] at hj
      rw [fam j hjl]
      exact ⟨hF j e hj, hP e (List.mem_of_getElem? hj)⟩
    · rw [List.getElem?_append_right (by omega)] at hj
      have hj0 : j = F.length := by
        have := (List.getElem?_eq_some_iff.1 hj).1
        simp at this; omega
      subst hj0
      rw [Nat.sub_self] at hj
      injection hj with hj
      subst hj
      rw [last]
      exact ⟨he, hP0⟩
  · rcases hi with hi | hi <;> rcases hj with hj | hj
    · rw [(far i hi).1, (far j hj).1] at h
      have := List.all_eq_true.1 (List.all_eq_true.1 c4 i hi) j hj
      simpa [h] using this
    · obtain ⟨f1, f2, f3⟩ := far i hi
      rw [f1] at h
      rcases two j hj with ⟨g1, g2⟩ | ⟨g1, g2⟩
      · rw [g2] at h; omega
      · rw [g2] at h; exact absurd h f3
    · obtain ⟨f1, f2, f3⟩ := far j hj
      rw [f1] at h
      rcases two i hi with ⟨g1, g2⟩ | ⟨g1, g2⟩
      · rw [g2] at h; omega
      · rw [g2] at h; exact absurd h.symm f3
    · rcases two i hi with ⟨g1, g2⟩ | ⟨g1, g2⟩ <;> rcases two j hj with ⟨k1, k2⟩ | ⟨k1, k2⟩
      · rw [g2, k2] at h; exact h
      · rw [g2, k2] at h; omega
      · rw [g2, k2] at h; omega
      · omega
section
variable {P : Program} {ops : Array Oper} {o : Oper} {n : Nat} {s : Slots} {E : Env} {T el by' : Nat} {x y : Operand} {i j d b m : Nat} {v : V}
theorem Aos (q : Nat) (hu : P.underlying T = some (.slice el)) (hs : szOf P el = some 1) (hb : (P.info? el).map (·.bytes) = some by') (hz : (zeroOf P el).map List.length = some 1)
    (h : (n, runs ops s o.guard, o.dst, o.op, ev s x, E i, ev s y, E j, Nat.beq j i) = (q, some true, some d, .call { callee := .builtin .append, args := #[x, y], argTypes := #[T, T] }, some (.own i m), some (safeE b m), some (.own j 1), some ⟨1, [v], true⟩, false))
    (hm : (m + 1) * by' ≤ 140737488355328 ∧ m + 1 ≤ maxLen) :
    Stp P ops o n s E (q + 1) (setAt s d (some (.own q (m + 1)))) (setAt (setAt E i none) q (some ⟨1, (safeE b m).cells ++ [v], true⟩)) [i, q] := by
  simp only [Prod.mk.injEq] at h
  obtain ⟨rfl, h1, h2, h3, h4, h5, h6, h7, h8⟩ := h
  have hne : j ≠ i := fun e => by rw [e, Nat.beq_refl] at h8; cases h8
  have := Eff.appendOO (P := P) (id := n) x y T el i m (safeE b m) j 1 ⟨1, [v], true⟩ by' h4 h5 rfl (by simp [safeE]) h6 h7 rfl (by simp [safeE]) hne (by decide) hu hs hb hz hm.1 hm.2
  have e : (⟨(safeE b m).sz, (safeE b m).cells ++ (⟨1, [v], true⟩ : Ent).cells.take (1 * (safeE b m).sz), true⟩ : Ent) = ⟨1, (safeE b m).cells ++ [v], true⟩ := rfl
  rw [e] at this
  exact st2 h1 h2 (h3 ▸ this)
end
/-- All that is yielded is new. -/
theorem WeakR.famN {c b : Nat} {s : Slots} {E : Env} {Lc1 : List (Option Ent)} {F : List Ent} (lc : List Nat) (hc : (Lc1.length, lc.length) = (c, c)) (hF : Fam E b F) (hP : ∀ e ∈ F, Plain e) (hb : b + F.length ≤ 100000) (hok : okF b lc = true) (hnd : lc.Nodup)
    (h1 : AllO (fun j e => E (lc.getD j 0) = some (e.ren (rhC lc b c)) ∧ ∀ v ∈ e.cells, ∀ i ∈ v.all1, i < c + F.length) 0 Lc1) : WeakR (rhC lc b c) 0 s E (Lc1 ++ (F.map some ++ [])).length (fun _ => none) (tab (Lc1 ++ (F.map some ++ []))) := by
  simp only [Prod.mk.injEq] at hc
  obtain ⟨c1, c2⟩ := hc
  have hlen : (Lc1 ++ (F.map some ++ [])).length = c + F.length := by simp [c1]
  have two : ∀ i e, tab (Lc1 ++ (F.map some ++ [])) i = some e → (i < c ∧ Lc1[i]? = some (some e)) ∨ (∃ j, i = c + j ∧ F[j]? = some e) := fun i e he => by
    have he' := tab_some.1 he
    by_cases hi : i < c
    · rw [List.getElem?_append_left (by omega)] at he'
      exact .inl ⟨hi, he'⟩
    · rw [List.getElem?_append_right (by omega), c1, List.append_nil, List.getElem?_map] at he'
      obtain ⟨x, hx, hx2⟩ := Option.map_eq_some_iff.1 he'
      injection hx2 with hx2
      subst hx2
      exact .inr ⟨i - c, by omega, hx⟩
  have lo : ∀ j, j < c → rhC lc b c j = lc.getD j 0 ∧ lc.getD j 0 ∈ lc := fun j hj => by
    refine ⟨by unfold rhC; rw [if_pos hj], ?_⟩
    rw [List.getD_eq_getElem?_getD, List.getElem?_eq_getElem (by omega)]
    exact List.getElem_mem _
  have hi : ∀ j, rhC lc b c (c + j) = b + j := fun j => by unfold rhC; rw [if_neg (by omega), Nat.add_sub_cancel_left]
  refine ⟨Nat.zero_le _, fun i hi => by omega, (fun t x h => by cases h), fun i e he => ?_, fun i j e e' he hj h => ?_⟩
  · rcases two i e he with ⟨q1, q2⟩ | ⟨j, rfl, q2⟩
    · have := h1.get i e q2
      rw [Nat.zero_add] at this
      rw [(lo i q1).1, hlen]
      exact ⟨this.1, by omega, this.2⟩
    · have hj := (List.getElem?_eq_some_iff.1 q2).1
      have hp := hP e (List.mem_of_getElem? q2)
      rw [hi, hlen, hp.ren]
      exact ⟨hF j e q2, by omega, fun v hv i hi => (hp.low hv hi).elim⟩
  · rcases two i e he with ⟨q1, q2⟩ | ⟨i', rfl, q2⟩ <;> rcases two j e' hj with ⟨r1, r2⟩ | ⟨j', rfl, r2⟩
    · rw [(lo i q1).1, (lo j r1).1, List.getD_eq_getElem?_getD, List.getD_eq_getElem?_getD, List.getElem?_eq_getElem (by omega), List.getElem?_eq_getElem (by omega)] at h
      exact (List.getElem_inj hnd).1 h
    · have := (List.getElem?_eq_some_iff.1 r2).1
      rw [(lo i q1).1, hi] at h
      have := okF_get hok (lo i q1).2
      omega
    · have := (List.getElem?_eq_some_iff.1 q2).1
      rw [(lo j r1).1, hi] at h
      have := okF_get hok (lo j r1).2
      omega
    · rw [hi, hi] at h; omega
end Go.VL

/- Walks over the Go functions, printed by a program of this session over the kit's print, and by hand. -/
set_option linter.unusedVariables false
set_option linter.unusedSimpArgs false
set_option maxRecDepth 100000
namespace Go.VL
open Go.Proofs
theorem t42 {n m : Nat} {d : Dk} (hd : d.Ok n m) (hm : m ≤ 80000) (hB : d.By) (h : (opR n (n / 64 + 1) [] 0 d).2.2.2 = 0) : VG Try.prog 42 [.ptr 0 (0)] [⟨4, [.own 1 (n), .b (slT 2 penB (d.pen)), vI .i64 (d.fuse), vB (d.off)], true⟩, rowK .u8 (d.dur)] (.tup [.ptr 2 0, .b (slT 1 rwB (opR n (n / 64 + 1) [] 0 d).2.1), vI .i64 0]) [some (⟨4, [.own 1 (n), .b (slT 2 penB (((opR n (n / 64 + 1) [] 0 d).1).pen)), vI .i64 (((opR n (n / 64 + 1) [] 0 d).1).fuse), vB (((opR n (n / 64 + 1) [] 0 d).1).off)], true⟩), some (rowK .u8 (((opR n (n / 64 + 1) [] 0 d).1).dur)), some ⟨4, [.ptr 0 0, .row 3 ((opR n (n / 64 + 1) [] 0 d).2.1).length none, vI .i64 ((opR n (n / 64 + 1) [] 0 d).2.2.1 : Int), vB false], true⟩, some (rowT 1 rwB ((opR n (n / 64 + 1) [] 0 d).2.1))] := by
  have hlen := hd.len
  have hlo := hd.lo
  have hhi := hd.hi
  have hwh := hd.whole
  have hpl := hd.pen
  obtain ⟨hf1, hf2⟩ := hd.fu
  refine VGp_of P_mixed Try.func42 rfl rfl (by kernel_rfl) (by simp) rfl <| Sq <| Rg <| Vs (As rfl) <| Vs (As rfl) <| Vs (As rfl) <| Nx <| Sq <| Sq <| Rg <| Vs (Mv rfl) <| Vs (Pe TU22 rfl) <| Nx <| Cz rfl <| Ks <| Tg <| Sq <| Rg <| Vs (Mg 7 1 rfl) <| Vs (BdN TQ104 rfl) <| Vs (Bx 9 rfl) <| Vs (As rfl) <| VList.nil <| Cx (n1 := 10) (S1 := [(0, .ptr 0 (0)), (5, .ptr 9 (0))]) (L1 := [(0, ⟨4, [.own 1 (n), .b (slT 2 penB (d.pen)), vI .i64 (d.fuse), vB (d.off)], true⟩), (1, rowK .u8 (d.dur)), (7, rowT 1 rwB ([])), (9, ⟨4, [.ptr 0 (0), .row 7 (0) none, vI .i64 (0), vB (false)], true⟩)]) (Weak.conv (nv := []) ⟨⟨⟨_, rfl, .inl rfl⟩, rfl⟩, ⟨⟨_, rfl, .inl rfl⟩, rfl⟩, trivial⟩ ⟨⟨⟨_, rfl, rfl, rfl, ⟨.inl rfl, .inl rfl, .inl rfl, .inl rfl, trivial⟩⟩, Nat.le_of_ble_eq_true rfl, cells_of rfl⟩, ⟨⟨_, rfl, rfl, rfl, Two.same (fun _ => .inl rfl) _⟩, Nat.le_of_ble_eq_true rfl, row_cellsK⟩, ⟨⟨_, rfl, rfl, rfl, Two.same (fun _ => .inl rfl) _⟩, Nat.le_of_ble_eq_true rfl, rowT_cells⟩, ⟨⟨_, rfl, rfl, rfl, ⟨.inl rfl, (cv_nil'), .inl rfl, .inl rfl, trivial⟩⟩, Nat.le_of_ble_eq_true rfl, cells_of rfl⟩, trivial⟩ (Nat.le_of_ble_eq_true rfl)) <| Bk <| VCode.loop (α := (Nat) × (Dk) × (List (List Int)) × (Nat)) (fun x_ => match x_ with | (f, q, R, ed) => (91, sl [(0, .ptr 0 (0)), (5, .ptr 9 (0))], en [(0, ⟨4, [.own 1 (n), .b (slT 2 penB (q.pen)), vI .i64 (q.fuse), vB (q.off)], true⟩), (1, rowK .u8 (q.dur)), (9, ⟨4, [.ptr 0 (0), .row 90 (R.length) none, vI .i64 ((ed : Int)), vB (false)], true⟩), (90, rowT 1 rwB (R))])) (fun x_ => match x_ with | (f, q, R, ed) => q.Ok n m ∧ q.By ∧ (∀ r ∈ R, RecOk r) ∧ R.length ≤ ed ∧ ed ≤ n / 64 ∧ n / 64 + 1 ≤ ed + f ∧ opR n f R ed q = (opR n (n / 64 + 1) [] 0 d)) (fun x_ => match x_ with | (f, q, R, ed) => f) (n / 64 + 1, d, [], 0) ⟨hd, hB, fun r hr => (by cases hr), Nat.le_refl _, Nat.zero_le _, by omega, rfl⟩ (Wt [(90, 7)]) ?_
  rintro ⟨f, q, R, ed⟩ hok
  obtain ⟨hq, hqB, hRn, hRe, hen, hfu, hI⟩ := hok
  change VCode _ _ _ 91 (sl _) (en _) _
  refine Bk <| Sq <| Rg <| Vs (Mv rfl) <| ?_
  rcases nx_cases (k := R.length) (ed := ed) hq hqB with h1 | ⟨h0, hr, hF, hfit⟩ | ⟨h0, hr, hF⟩ | ⟨h0, hr, hF, hFB, hFl, hlt⟩
  · skip
    exfalso
    rw [op_err h1 (by omega)] at hI
    rw [← hI] at h
    exact h1 h
  · skip
    have hv : nxV (nxR n R.length ed q) = .b (.tup [slK .u8 (nxR n R.length ed q).2.1, slK .u8 (nxR n R.length ed q).2.2.1, numB .i64 0]) := by simp only [nxV, nilO_of hr.1, nilO_of hF, h0]
    have h64 := t64 hq (by omega) hqB (R := R) (by omega) (ed := ed) (by omega) (fl := false)
    rw [hv] at h64
    have hcl := cntQ_le (nxR n R.length ed q).2.1.length
    have hcl2 : cntQ (nxR n R.length ed q).2.1.length ≤ 66 := by have := hr.2.1; unfold cntQ; omega
    rw [op_rec h0 hr.1 (by omega)] at hI
    have hqo := nx_ok (k := R.length) (ed := ed) hq hqB
    refine Gm 92 [9, 0, 90, 1] [] (v := .b (.tup [slK .u8 ((nxR n R.length ed q).2.1), slK .u8 ((nxR n R.length ed q).2.2.1), numB .i64 (0)])) [(0, ⟨4, [.own 1 (n), .b (slT 2 penB (((nxR n R.length ed q).1).pen)), vI .i64 (((nxR n R.length ed q).1).fuse), vB (((nxR n R.length ed q).1).off)], true⟩), (1, rowK .u8 (((nxR n R.length ed q).1).dur)), (9, ⟨4, [.ptr 0 (0), .row 90 (R.length) none, vI .i64 (((ed : Nat) : Int)), vB (false)], true⟩), (90, rowT 1 rwB (R))] rfl (h64) rfl <| Vs (Mv rfl) <| Vs (Xt rfl) <| Vs (Xt rfl) <| Vs (Xt rfl) <| Vs (As rfl) <| Vs (As rfl) <| Vs (As rfl) <| Nx <| Sq <| Sq <| Rg <| Vs (Mv rfl) <| Vs (Bi (c := .bool false) rfl) <| Nx <| Cz rfl <| Ks <| Tg <| Sq <| Sq <| Rg <| Vs (Mv rfl) <| Vs (Ne2 TU27 rfl (fun h => hr.1 (by simpa using h))) <| Nx <| Cy rfl <| Sq <| Rg <| Vs (Mv rfl) <| Vs (Mv rfl) <| Vs (Nk rfl) <| Vs (Fa TF104_1 rfl) <| Vs (Ld TA43 rfl) <| Vs (Mv rfl) <| Vs (sq1 110 rfl (.buildS _ 1 _ 27 [.b (slK .u8 ((nxR n R.length ed q).2.1))] 1 _ [.b (slK .u8 ((nxR n R.length ed q).2.1))] rfl TU43 TZ27 TS27 (List.cons_ne_nil _ _) (by decide) rfl rfl)) <| Vs (Aq1 111 TU43 TS27 TB27 TN27 (x1 := (nxR n R.length ed q).2.1) (f := rwB) rfl rwB_len (hl := (by omega)) (hm := (by simp only [maxLen]; omega))) <| Vs (Nk rfl) <| Vs (Fa TF104_1 rfl) <| Vs (St TS43 rfl) <| Nx <| Sq <| Rd (by kernel_rfl) <| Vl (Mv rfl) <| Vl (Nk rfl) <| Vl (Fa TF104_2 rfl) <| Vl (Ld TA3 rfl) <| Vl (Mv rfl) <| Vl (Ls TK27 rfl) <| Vl (Cf rfl rfl (t65 (by have := hr.2.1; omega)) rfl) <| Vl (Bo rfl adI) <| Vl (Nk rfl) <| Vl (Fa TF104_2 rfl) <| Vl (St TS3 rfl) <| ?_
    refine VLog.nil ⟨by kernel_rfl, ?_⟩
    refine Tg <| Ke <| Te <| Ih <| ?_
    rw [show R.length + 1 = (R ++ [(nxR n R.length ed q).2.1]).length by simp]
    exact Go (f - 1, (nxR n R.length ed q).1, R ++ [(nxR n R.length ed q).2.1], ed + cntQ (nxR n R.length ed q).2.1.length) ⟨hqo.1, hqo.2, fun r h => (by rcases List.mem_append.1 h with h | h; exact hRn r h; exact (List.mem_singleton.1 h) ▸ hr), by simp only [List.length_append, List.length_singleton]; omega, hfit, by omega, hI⟩ (Wt [(90, 111)])
  · skip
    have hv : nxV (nxR n R.length ed q) = .b (.tup [.nil, .nil, numB .i64 0]) := by simp only [nxV, hr, hF, h0]; rfl
    have h64 := t64 hq (by omega) hqB (R := R) (by omega) (ed := ed) (by omega) (fl := false)
    rw [hv] at h64
    have e : (opR n (n / 64 + 1) [] 0 d) = ((nxR n R.length ed q).1, R, ed, 0) := by rw [← hI, op_end h0 hr (.inl hF) (by omega)]
    have hqo := nx_ok (k := R.length) (ed := ed) hq hqB
    exact Gm 92 [9, 0, 90, 1] [] (v := .b (.tup [.nil, .nil, numB .i64 (0)])) [(0, ⟨4, [.own 1 (n), .b (slT 2 penB (((nxR n R.length ed q).1).pen)), vI .i64 (((nxR n R.length ed q).1).fuse), vB (((nxR n R.length ed q).1).off)], true⟩), (1, rowK .u8 (((nxR n R.length ed q).1).dur)), (9, ⟨4, [.ptr 0 (0), .row 90 (R.length) none, vI .i64 (((ed : Nat) : Int)), vB (false)], true⟩), (90, rowT 1 rwB (R))] rfl (h64) rfl <| Vs (Mv rfl) <| Vs (Xt rfl) <| Vs (Xt rfl) <| Vs (Xt rfl) <| Vs (As rfl) <| Vs (As rfl) <| Vs (As rfl) <| Nx <| Sq <| Sq <| Rg <| Vs (Mv rfl) <| Vs (Bi (c := .bool false) rfl) <| Nx <| Cz rfl <| Ks <| Tg <| Sq <| Sq <| Rg <| Vs (Mv rfl) <| Vs (Nn2 TU27 rfl) <| Nx <| Cz rfl <| Ks <| Tg <| Sq <| Sq <| Rg <| Vs (Mk 104 TK27 rfl) <| Vs (As rfl) <| Nx <| Sq <| Rg <| Vs (Mv rfl) <| Vs (Nn2 TU27 rfl) <| Vs (Mv rfl) <| Sk rfl <| Sk rfl <| Sk rfl <| Sk rfl <| Vs (Pk rfl) <| Nx <| Cz rfl <| Ks <| Tg <| Sq <| Rg <| Vs (Mv rfl) <| Vs (Mv rfl) <| Gm 116 [9, 0, 90, 1] [] (v := .b (slT 1 rwB (R))) [(0, ⟨4, [.own 1 (n), .b (slT 2 penB (((nxR n R.length ed q).1).pen)), vI .i64 (((nxR n R.length ed q).1).fuse), vB (((nxR n R.length ed q).1).off)], true⟩), (1, rowK .u8 (((nxR n R.length ed q).1).dur)), (9, ⟨4, [.ptr 0 (0), .row 90 (R.length) none, vI .i64 (((ed : Nat) : Int)), vB (false)], true⟩), (90, rowT 1 rwB (R)), (104, rowK .u8 (List.replicate 64 0))] rfl (t45 hqo.1 (by omega) hqo.2 (R := R) (by omega) (ed := ed) (by omega) (fl := false) hRn) rfl <| Vs (As rfl) <| Vs (As rfl) <| Vs (As rfl) <| Nx <| Re <| Iq <| Or <| Iq <| Gg (L1' := [some (⟨4, [.own 1 (n), .b (slT 2 penB (((nxR n R.length ed q).1).pen)), vI .i64 (((nxR n R.length ed q).1).fuse), vB (((nxR n R.length ed q).1).off)], true⟩), some (rowK .u8 (((nxR n R.length ed q).1).dur)), some (⟨4, [.ptr 0 (0), .row 3 (R.length) none, vI .i64 (((ed : Nat) : Int)), vB (false)], true⟩), some (rowT 1 rwB (R))]) [0, 1, 9, 90] (.name _ _ (.ptr 2 (0)) _ _ rfl rfl rfl (.val _ _ _ _ _ rfl rfl rfl (.val _ _ _ _ _ rfl rfl rfl .nil))) (.tup _ rfl rfl) (by rw [e]) (by rw [e])
  · skip
    have hv : nxV (nxR n R.length ed q) = .b (.tup [.nil, slK .u8 (nxR n R.length ed q).2.2.1, numB .i64 0]) := by simp only [nxV, nilO_of hF, hr, h0]; rfl
    have h64 := t64 hq (by omega) hqB (R := R) (by omega) (ed := ed) (by omega) (fl := false)
    rw [hv] at h64
    have hqo := nx_ok (k := R.length) (ed := ed) hq hqB
    refine Gm 92 [9, 0, 90, 1] [] (v := .b (.tup [.nil, slK .u8 ((nxR n R.length ed q).2.2.1), numB .i64 (0)])) [(0, ⟨4, [.own 1 (n), .b (slT 2 penB (((nxR n R.length ed q).1).pen)), vI .i64 (((nxR n R.length ed q).1).fuse), vB (((nxR n R.length ed q).1).off)], true⟩), (1, rowK .u8 (((nxR n R.length ed q).1).dur)), (9, ⟨4, [.ptr 0 (0), .row 90 (R.length) none, vI .i64 (((ed : Nat) : Int)), vB (false)], true⟩), (90, rowT 1 rwB (R))] rfl (h64) rfl <| Vs (Mv rfl) <| Vs (Xt rfl) <| Vs (Xt rfl) <| Vs (Xt rfl) <| Vs (As rfl) <| Vs (As rfl) <| Vs (As rfl) <| Nx <| Sq <| Sq <| Rg <| Vs (Mv rfl) <| Vs (Bi (c := .bool false) rfl) <| Nx <| Cz rfl <| Ks <| Tg <| Sq <| Sq <| Rg <| Vs (Mv rfl) <| Vs (Nn2 TU27 rfl) <| Nx <| Cz rfl <| Ks <| Tg <| Sq <| Sq <| Rg <| Vs (Mk 104 TK27 rfl) <| Vs (As rfl) <| Nx <| Sq <| Rg <| Vs (Mv rfl) <| Vs (Ne2 TU27 rfl (fun h => hF (by simpa using h))) <| Vs (Mv rfl) <| Vs (Mv rfl) <| Vs (Mv rfl) <| Vs (Cf rfl (Rk rfl (Rk (Rr rfl) Rz)) (t66 (A := (nxR n R.length ed q).2.2.1) (B := List.replicate 64 0) (hFB) (zer_by)) rfl) <| Vs (Un rfl) <| Vs (Pk rfl) <| Nx <| Cd rfl (fun hc1 => ?_) (fun hc1 => ?_)
    · replace hc1 := of_decide_eq_false (bnot_t hc1)
      rw [op_zero h0 hr hF hc1 (by omega)] at hI
      refine Sq <| Sq <| Rg <| Vs (Mv rfl) <| Vs (Mv rfl) <| Vs (Nk rfl) <| Vs (Fa TF104_2 rfl) <| Vs (Ld TA3 rfl) <| Vs (Mv rfl) <| Gm 120 [0, 1] [104] (v := vI .i64 ((((nxR n R.length ed q).1).writeR n (((ed : Nat) : Int)) (List.replicate 64 0)).2)) [(0, ⟨4, [.own 1 (n), .b (slT 2 penB (((((nxR n R.length ed q).1).writeR n (((ed : Nat) : Int)) (List.replicate 64 0)).1).pen)), vI .i64 (((((nxR n R.length ed q).1).writeR n (((ed : Nat) : Int)) (List.replicate 64 0)).1).fuse), vB (((((nxR n R.length ed q).1).writeR n (((ed : Nat) : Int)) (List.replicate 64 0)).1).off)], true⟩), (1, rowK .u8 (((((nxR n R.length ed q).1).writeR n (((ed : Nat) : Int)) (List.replicate 64 0)).1).dur)), (9, ⟨4, [.ptr 0 (0), .row 90 (R.length) none, vI .i64 (((ed : Nat) : Int)), vB (false)], true⟩), (90, rowT 1 rwB (R))] rfl (k20 hqo.1 (by omega) (((ed : Nat) : Int)) (b := List.replicate 64 0) (by simp)) rfl <| Vs (As rfl) <| Nx <| Sq <| Rg <| Vs (Mv rfl) <| Vs (Bi rfl) <| Nx <| Cd rfl (fun hc2 => ?_) (fun hc2 => ?_)
      · replace hc2 := bne_iff_ne.1 hc2
        exfalso; rw [if_neg hc2] at hI; rw [← hI] at h; exact hc2 h
      · replace hc2 := bne_eq_false_iff_eq.1 hc2
        rw [if_pos hc2] at hI
        refine Ks <| Tg <| Sq <| Rg <| Vs (Mv rfl) <| Gm 125 [0, 1] [] (v := vI .i64 (((((nxR n R.length ed q).1).writeR n (((ed : Nat) : Int)) (List.replicate 64 0)).1).syncR.2)) [(0, ⟨4, [.own 1 (n), .b (slT 2 penB ((((((nxR n R.length ed q).1).writeR n (((ed : Nat) : Int)) (List.replicate 64 0)).1).syncR.1).pen)), vI .i64 ((((((nxR n R.length ed q).1).writeR n (((ed : Nat) : Int)) (List.replicate 64 0)).1).syncR.1).fuse), vB ((((((nxR n R.length ed q).1).writeR n (((ed : Nat) : Int)) (List.replicate 64 0)).1).syncR.1).off)], true⟩), (1, rowK .u8 ((((((nxR n R.length ed q).1).writeR n (((ed : Nat) : Int)) (List.replicate 64 0)).1).syncR.1).dur)), (9, ⟨4, [.ptr 0 (0), .row 90 (R.length) none, vI .i64 (((ed : Nat) : Int)), vB (false)], true⟩), (90, rowT 1 rwB (R))] rfl (k25 (hqo.1.write _ _) (by omega)) rfl <| Vs (As rfl) <| Nx <| Sq <| Rg <| Vs (Mv rfl) <| Vs (Bi rfl) <| Nx <| Cd rfl (fun hc3 => ?_) (fun hc3 => ?_)
        · replace hc3 := bne_iff_ne.1 hc3
          exfalso; rw [if_neg hc3] at hI; rw [← hI] at h; exact hc3 h
        · replace hc3 := bne_eq_false_iff_eq.1 hc3
          rw [if_pos hc3] at hI
          have e := hI.symm
          exact Ks <| Tg <| Sq <| Rg <| Vs (Mv rfl) <| Vs (Mv rfl) <| Gm 131 [9, 0, 90, 1] [] (v := .b (slT 1 rwB (R))) [(0, ⟨4, [.own 1 (n), .b (slT 2 penB ((((((nxR n R.length ed q).1).writeR n (((ed : Nat) : Int)) (List.replicate 64 0)).1).syncR.1).pen)), vI .i64 ((((((nxR n R.length ed q).1).writeR n (((ed : Nat) : Int)) (List.replicate 64 0)).1).syncR.1).fuse), vB ((((((nxR n R.length ed q).1).writeR n (((ed : Nat) : Int)) (List.replicate 64 0)).1).syncR.1).off)], true⟩), (1, rowK .u8 ((((((nxR n R.length ed q).1).writeR n (((ed : Nat) : Int)) (List.replicate 64 0)).1).syncR.1).dur)), (9, ⟨4, [.ptr 0 (0), .row 90 (R.length) none, vI .i64 (((ed : Nat) : Int)), vB (false)], true⟩), (90, rowT 1 rwB (R))] rfl (t45 (hqo.1.write _ _).sync (by omega) ((hqo.2.writeR n _ zer_by).syncR) (R := R) (by omega) (ed := ed) (by omega) (fl := false) hRn) rfl <| Vs (As rfl) <| Vs (As rfl) <| Vs (As rfl) <| Nx <| Re <| Iq <| Or <| Iq <| Gg (L1' := [some (⟨4, [.own 1 (n), .b (slT 2 penB ((((((nxR n R.length ed q).1).writeR n (((ed : Nat) : Int)) (List.replicate 64 0)).1).syncR.1).pen)), vI .i64 ((((((nxR n R.length ed q).1).writeR n (((ed : Nat) : Int)) (List.replicate 64 0)).1).syncR.1).fuse), vB ((((((nxR n R.length ed q).1).writeR n (((ed : Nat) : Int)) (List.replicate 64 0)).1).syncR.1).off)], true⟩), some (rowK .u8 ((((((nxR n R.length ed q).1).writeR n (((ed : Nat) : Int)) (List.replicate 64 0)).1).syncR.1).dur)), some (⟨4, [.ptr 0 (0), .row 3 (R.length) none, vI .i64 (((ed : Nat) : Int)), vB (false)], true⟩), some (rowT 1 rwB (R))]) [0, 1, 9, 90] (.name _ _ (.ptr 2 (0)) _ _ rfl rfl rfl (.val _ _ _ _ _ rfl rfl rfl (.val _ _ _ _ _ rfl rfl rfl .nil))) (.tup _ rfl rfl) (by rw [e]) (by rw [e])
    · replace hc1 := of_decide_eq_true (bnot_f hc1)
      rw [op_end h0 hr (.inr hc1) (by omega)] at hI
      have e := hI.symm
      exact Ks <| Tg <| Sq <| Rg <| Vs (Mv rfl) <| Vs (Mv rfl) <| Gm 116 [9, 0, 90, 1] [] (v := .b (slT 1 rwB (R))) [(0, ⟨4, [.own 1 (n), .b (slT 2 penB (((nxR n R.length ed q).1).pen)), vI .i64 (((nxR n R.length ed q).1).fuse), vB (((nxR n R.length ed q).1).off)], true⟩), (1, rowK .u8 (((nxR n R.length ed q).1).dur)), (9, ⟨4, [.ptr 0 (0), .row 90 (R.length) none, vI .i64 (((ed : Nat) : Int)), vB (false)], true⟩), (90, rowT 1 rwB (R)), (104, rowK .u8 (List.replicate 64 0))] rfl (t45 hqo.1 (by omega) hqo.2 (R := R) (by omega) (ed := ed) (by omega) (fl := false) hRn) rfl <| Vs (As rfl) <| Vs (As rfl) <| Vs (As rfl) <| Nx <| Re <| Iq <| Or <| Iq <| Gg (L1' := [some (⟨4, [.own 1 (n), .b (slT 2 penB (((nxR n R.length ed q).1).pen)), vI .i64 (((nxR n R.length ed q).1).fuse), vB (((nxR n R.length ed q).1).off)], true⟩), some (rowK .u8 (((nxR n R.length ed q).1).dur)), some (⟨4, [.ptr 0 (0), .row 3 (R.length) none, vI .i64 (((ed : Nat) : Int)), vB (false)], true⟩), some (rowT 1 rwB (R))]) [0, 1, 9, 90] (.name _ _ (.ptr 2 (0)) _ _ rfl rfl rfl (.val _ _ _ _ _ rfl rfl rfl (.val _ _ _ _ _ rfl rfl rfl .nil))) (.tup _ rfl rfl) (by rw [e]) (by rw [e])
end Go.VL

/- The journal, plain: what is always so; the examples of the chapter. -/
set_option linter.unusedVariables false
set_option linter.unusedSimpArgs false
set_option maxRecDepth 100000
namespace Go.VL
structure Jn.Ok (n m : Nat) (j : Jn) : Prop where
  d : j.d.Ok n m
  b : j.d.By
  r : ∀ r ∈ j.R, RecOk r
  le : j.R.length ≤ j.ed
  en : j.ed ≤ n / 64
def opJ (n : Nat) (d : Dk) : Jn := ⟨(opR n (n / 64 + 1) [] 0 d).1, (opR n (n / 64 + 1) [] 0 d).2.1, (opR n (n / 64 + 1) [] 0 d).2.2.1, false⟩
section
variable {n m k ed f : Nat} {d z : Dk} {R : List (List Int)} {j : Jn} {b F : List Int}
theorem Dk.Ok.n1024 (h : d.Ok n m) : n / 64 ≤ 1024 := by have := h.hi; omega
theorem wrSec_ok {e : Int} : ∀ (k i : Nat) (d : Dk) {m : Nat}, d.Ok n m → d.By → ByR F → (wrSec n e F i k d).1.Ok n (m + k) ∧ (wrSec n e F i k d).1.By
  | 0, i, d, m, h, hb, _ => ⟨h, hb⟩
  | k + 1, i, d, m, h, hb, hF => by
    have h1 := h.write (e + i) (secF F i)
    have h2 := hb.writeR n (e + i) (secF_by hF i)
    unfold wrSec
    split
    · have := wrSec_ok (e := e) k (i + 1) _ h1 h2 hF
      exact ⟨this.1.mono (by omega), this.2⟩
    · exact ⟨h1.mono (by omega), h2⟩
theorem wfC_ok' {e : Int} (h : d.Ok n m) (hb : d.By) (hF : ByR F) : (wfC n e F d).1.Ok n (m + 1) ∧ (wfC n e F d).1.By := by
  unfold wfC
  repeat' split
  · exact ⟨(h.sync.write _ _).sync, ((hb.syncR).writeR n _ (secF_by hF 0)).syncR⟩
  · exact ⟨h.sync.write _ _, (hb.syncR).writeR n _ (secF_by hF 0)⟩
  · exact ⟨h.sync.mono (by omega), hb.syncR⟩
theorem wfR_ok' {e : Int} (h : d.Ok n m) (hb : d.By) (hF : ByR F) (hk : k ≤ 80) : (wfR n e F k d).1.Ok n (m + 82) ∧ (wfR n e F k d).1.By := by
  have hA : (wfA n e k d).1.Ok n (m + 1) ∧ (wfA n e k d).1.By := by
    unfold wfA
    split
    · exact ⟨h.write _ _, hb.writeR n _ .rep⟩
    · exact ⟨h.mono (by omega), hb⟩
  unfold wfR
  split
  · have hS := wrSec_ok (e := e) (F := F) (k - 1) 1 _ hA.1 hA.2 hF
    unfold wfB
    split
    · have := wfC_ok' (e := e) hS.1 hS.2 hF
      exact ⟨this.1.mono (by omega), this.2⟩
    · exact ⟨hS.1.mono (by omega), hS.2⟩
  · exact ⟨hA.1.mono (by omega), hA.2⟩
theorem apR_shape (h : (apR n j b).2 = 0) : (apR n j b).1.R = j.R ++ [b] ∧ (apR n j b).1.ed = j.ed + cntQ b.length ∧ (apR n j b).1.fl = j.fl ∧ ¬ (b.length < 1 ∨ 4096 < b.length) ∧ j.fl = false ∧ ¬ n / 64 < j.ed + cntQ b.length ∧ (wrJ n j b).2 = 0 ∧ (apR n j b).1.d = (wrJ n j b).1 := by
  by_cases h1 : b.length < 1 ∨ 4096 < b.length
  · rw [ap_arg h1] at h; exact absurd h (by simp)
  · cases h2 : j.fl with
    | true => rw [ap_down h1 h2] at h; exact absurd h (by simp)
    | false =>
      by_cases h3 : n / 64 < j.ed + cntQ b.length
      · rw [ap_full h1 h2 h3] at h; exact absurd h (by simp)
      · by_cases h4 : (wrJ n j b).2 = 0
        · rw [ap_ok h1 h2 h3 h4]; exact ⟨rfl, rfl, h2, h1, rfl, h3, h4, rfl⟩
        · rw [ap_err h1 h2 h3 h4] at h; exact absurd h h4
theorem apR_shapeE (h : ¬ (apR n j b).2 = 0) : (apR n j b).1.R = j.R ∧ (apR n j b).1.ed = j.ed := by
  by_cases h1 : b.length < 1 ∨ 4096 < b.length
  · rw [ap_arg h1]; exact ⟨rfl, rfl⟩
  · cases h2 : j.fl with
    | true => rw [ap_down h1 h2]; exact ⟨rfl, rfl⟩
    | false =>
      by_cases h3 : n / 64 < j.ed + cntQ b.length
      · rw [ap_full h1 h2 h3]; exact ⟨rfl, rfl⟩
      · by_cases h4 : (wrJ n j b).2 = 0
        · rw [ap_ok h1 h2 h3 h4] at h; exact absurd rfl h
        · rw [ap_err h1 h2 h3 h4]; exact ⟨rfl, rfl⟩
theorem Jn.Ok.mono (h : j.Ok n m) {k : Nat} (hk : m ≤ k) : j.Ok n k := { h with d := h.d.mono hk }
theorem Jn.Ok.append (h : j.Ok n m) (hb : ByR b) : (apR n j b).1.Ok n (m + 82) := by
  by_cases h1 : b.length < 1 ∨ 4096 < b.length
  · rw [ap_arg h1]; exact h.mono (by omega)
  · cases h2 : j.fl with
    | true => rw [ap_down h1 h2]; exact h.mono (by omega)
    | false =>
      by_cases h3 : n / 64 < j.ed + cntQ b.length
      · rw [ap_full h1 h2 h3]; exact h.mono (by omega)
      · have hw := wfR_ok' (n := n) (e := (j.ed : Int)) (F := formQ j.R.length b) (k := cntQ b.length) h.d h.b (formQ_by hb) (by unfold cntQ; omega)
        by_cases h4 : (wrJ n j b).2 = 0
        · rw [ap_ok h1 h2 h3 h4]
          refine ⟨hw.1, hw.2, fun r hr => ?_, ?_, ?_⟩
          · rcases List.mem_append.1 hr with hr | hr
            · exact h.r r hr
            · rw [List.mem_singleton.1 hr]
              exact ⟨fun e => h1 (.inl (by rw [e]; decide)), by omega, hb⟩
          · have h5 := h.le
            have h6 := cntQ_le b.length
            show (j.R ++ [b]).length ≤ j.ed + cntQ b.length
            simp only [List.length_append, List.length_singleton]; omega
          · show j.ed + cntQ b.length ≤ n / 64
            omega
        · rw [ap_err h1 h2 h3 h4]; exact ⟨hw.1, hw.2, h.r, h.le, h.en⟩
theorem op_ok : ∀ (f : Nat) {R : List (List Int)} {ed : Nat} {d : Dk}, d.Ok n m → d.By → (∀ r ∈ R, RecOk r) → R.length ≤ ed → ed ≤ n / 64 → (opR n f R ed d).1.Ok n (m + 1) ∧ (opR n f R ed d).1.By ∧ (∀ r ∈ (opR n f R ed d).2.1, RecOk r) ∧ (opR n f R ed d).2.1.length ≤ (opR n f R ed d).2.2.1 ∧ (opR n f R ed d).2.2.1 ≤ n / 64
  | 0, R, ed, d, h, hb, hr, hl, he => ⟨h.mono (by omega), hb, hr, hl, he⟩
  | f + 1, R, ed, d, h, hb, hr, hl, he => by
    have hx := nx_ok (k := R.length) (ed := ed) h hb
    rcases nx_cases (k := R.length) (ed := ed) h hb with h1 | ⟨h0, h2, h3, h4⟩ | ⟨h0, h2, h3⟩ | ⟨h0, h2, h3, h4, h5, h6⟩
    · rw [op_err h1 (by omega)]; exact ⟨hx.1.mono (by omega), hx.2, (fun r h => by cases h), Nat.le_refl _, Nat.zero_le _⟩
    · rw [op_rec h0 h2.1 (by omega)]
      have hc := cntQ_le (nxR n R.length ed d).2.1.length
      refine op_ok f hx.1 hx.2 (fun r h => ?_) (by simp only [List.length_append, List.length_singleton]; omega) h4
      rcases List.mem_append.1 h with h | h
      · exact hr r h
      · rw [List.mem_singleton.1 h]; exact h2
    · rw [op_end h0 h2 (.inl h3) (by omega)]; exact ⟨hx.1.mono (by omega), hx.2, hr, hl, he⟩
    · by_cases hz : (nxR n R.length ed d).2.2.1 = zer
      · rw [op_end h0 h2 (.inr hz) (by omega)]; exact ⟨hx.1.mono (by omega), hx.2, hr, hl, he⟩
      · rw [op_zero h0 h2 h3 hz (by omega)]
        have hw := hx.1.write ed zer
        have hwb := hx.2.writeR n ed zer_by
        have nil : ∀ r ∈ ([] : List (List Int)), RecOk r := fun r h => by cases h
        repeat' split
        · exact ⟨hw.sync, hwb.syncR, hr, hl, he⟩
        · exact ⟨hw.sync, hwb.syncR, nil, Nat.le_refl _, Nat.zero_le _⟩
        · exact ⟨hw, hwb, nil, Nat.le_refl _, Nat.zero_le _⟩
theorem opJ_ok (h : d.Ok n m) (hb : d.By) : (opJ n d).Ok n (m + 1) := by
  have := op_ok (n / 64 + 1) (R := []) (ed := 0) h hb (fun r h => by cases h) (Nat.le_refl _) (Nat.zero_le _)
  exact ⟨this.1, this.2.1, this.2.2.1, this.2.2.2.1, this.2.2.2.2⟩
end
-- the examples
def sL : List Int := [108, 97, 115, 116]
def sj0 : Jn := opJ 256 (newD 4)
def sj1 : Jn := (apR 256 sj0 (List.replicate 54 0)).1
def sj2 : Jn := (apR 256 sj1 (List.replicate 55 0)).1
def sj3 : Jn := (apR 256 sj2 (List.replicate 55 0)).1
def sj4 : Jn := (apR 256 sj3 sL).1
def sj5 : Jn := (apR 256 sj4 [120]).1
def sj6 : Jn := opJ 256 sj5.d
theorem sj_0 : (opR 256 5 [] 0 (newD 4)).2.2.2 = 0 ∧ sj0.R.length = 0 ∧ sj0.ed = 0 := by decide +kernel
theorem sj_crc : bv (crcQ [49, 50, 51, 52, 53, 54, 55, 56, 57]) = 3808858755 := by decide +kernel
theorem sj_1 : (apR 256 sj0 (List.replicate 54 0)).2 = 0 ∧ sj1.ed = 1 := by decide +kernel
theorem sj_2 : (apR 256 sj1 (List.replicate 55 0)).2 = 0 ∧ sj2.ed = 3 := by decide +kernel
theorem sj_3 : (apR 256 sj2 (List.replicate 55 0)).2 = 8 ∧ sj3.ed = 3 := by decide +kernel
theorem sj_4 : (apR 256 sj3 sL).2 = 0 := by decide +kernel
theorem sj_5 : (apR 256 sj4 [120]).2 = 8 := by decide +kernel
theorem sj_6 : (opR 256 5 [] 0 sj5.d).2.2.2 = 0 ∧ sj6.R.length = 3 ∧ sj6.R.getD 2 [] = sL := by decide +kernel
end Go.VL

/- Walks over the Go functions, printed by a program of this session over the kit's print, and by hand. -/
set_option linter.unusedVariables false
set_option linter.unusedSimpArgs false
set_option maxRecDepth 100000
namespace Go.VL
open Go.Proofs
section
variable {n m : Nat} {j : Jn} {b : List Int} {d : Dk}
theorem j43S (hj : j.Ok n m) (hm : m ≤ 70000) (hb : ByR b) (hbl : b.length ≤ 100000) (h : (apR n j b).2 = 0) : VG Try.prog 43 [.ptr 0 0, .b (slK .u8 b)] [⟨4, [.ptr 1 (0), .row 2 ((j.R).length) none, vI .i64 ((j.ed : Int)), vB (j.fl)], true⟩, ⟨4, [.own 3 (n), .b (slT 2 penB ((j.d).pen)), vI .i64 ((j.d).fuse), vB ((j.d).off)], true⟩, rowT 1 rwB (j.R), rowK .u8 ((j.d).dur)] (vI .i64 0) [some (⟨4, [.ptr 1 (0), .row 4 (((apR n j b).1).R.length) none, vI .i64 (((((apR n j b).1)).ed : Int)), vB ((((apR n j b).1)).fl)], true⟩), some (⟨4, [.own 3 (n), .b (slT 2 penB (((((apR n j b).1)).d).pen)), vI .i64 (((((apR n j b).1)).d).fuse), vB (((((apR n j b).1)).d).off)], true⟩), none, some (rowK .u8 (((((apR n j b).1)).d).dur)), some (rowT 1 rwB (((apR n j b).1).R))] := by
  have hRl := hj.le; have hRe := hj.en; have hn := hj.d.n1024
  have s := apR_shape h
  have t := t43S hj.d (by omega) hj.b (R := j.R) (by omega) (ed := j.ed) (by omega) (fl := j.fl) hb hbl (by omega) h
  rw [s.1, s.2.1, s.2.2.1, List.length_append]
  exact t
theorem j43E (hj : j.Ok n m) (hm : m ≤ 70000) (hb : ByR b) (hbl : b.length ≤ 100000) (h : ¬ (apR n j b).2 = 0) : VG Try.prog 43 [.ptr 0 0, .b (slK .u8 b)] [⟨4, [.ptr 1 (0), .row 2 ((j.R).length) none, vI .i64 ((j.ed : Int)), vB (j.fl)], true⟩, ⟨4, [.own 3 (n), .b (slT 2 penB ((j.d).pen)), vI .i64 ((j.d).fuse), vB ((j.d).off)], true⟩, rowT 1 rwB (j.R), rowK .u8 ((j.d).dur)] (vI .i64 (apR n j b).2) [some (⟨4, [.ptr 1 (0), .row 2 ((((apR n j b).1).R).length) none, vI .i64 ((((apR n j b).1).ed : Int)), vB (((apR n j b).1).fl)], true⟩), some (⟨4, [.own 3 (n), .b (slT 2 penB ((((apR n j b).1).d).pen)), vI .i64 ((((apR n j b).1).d).fuse), vB ((((apR n j b).1).d).off)], true⟩), some (rowT 1 rwB (((apR n j b).1).R)), some (rowK .u8 ((((apR n j b).1).d).dur))] := by
  have hRl := hj.le; have hRe := hj.en; have hn := hj.d.n1024
  have s := apR_shapeE h
  have t := t43E hj.d (by omega) hj.b (R := j.R) (by omega) (ed := j.ed) (by omega) (fl := j.fl) hb hbl (by omega) h
  rw [s.1, s.2]
  exact t
theorem j46 (hj : j.Ok n m) (hm : m ≤ 70000) : VG Try.prog 46 [.ptr 0 0] [⟨4, [.ptr 1 (0), .row 2 ((j.R).length) none, vI .i64 ((j.ed : Int)), vB (j.fl)], true⟩, ⟨4, [.own 3 (n), .b (slT 2 penB ((j.d).pen)), vI .i64 ((j.d).fuse), vB ((j.d).off)], true⟩, rowT 1 rwB (j.R), rowK .u8 ((j.d).dur)] (vI .i64 (roomQ n j.ed)) [some (⟨4, [.ptr 1 (0), .row 2 ((j.R).length) none, vI .i64 ((j.ed : Int)), vB (j.fl)], true⟩), some (⟨4, [.own 3 (n), .b (slT 2 penB ((j.d).pen)), vI .i64 ((j.d).fuse), vB ((j.d).off)], true⟩), some (rowT 1 rwB (j.R)), some (rowK .u8 ((j.d).dur))] := by
  have hRl := hj.le; have hRe := hj.en; have hn := hj.d.n1024
  exact t46 hj.d (by omega) hj.b (R := j.R) (by omega) (ed := j.ed) (by omega) (fl := j.fl)
theorem j45 (hj : j.Ok n m) (hm : m ≤ 70000) : VG Try.prog 45 [.ptr 0 0] [⟨4, [.ptr 1 (0), .row 2 ((j.R).length) none, vI .i64 ((j.ed : Int)), vB (j.fl)], true⟩, ⟨4, [.own 3 (n), .b (slT 2 penB ((j.d).pen)), vI .i64 ((j.d).fuse), vB ((j.d).off)], true⟩, rowT 1 rwB (j.R), rowK .u8 ((j.d).dur)] (.b (slT 1 rwB j.R)) [some (⟨4, [.ptr 1 (0), .row 2 ((j.R).length) none, vI .i64 ((j.ed : Int)), vB (j.fl)], true⟩), some (⟨4, [.own 3 (n), .b (slT 2 penB ((j.d).pen)), vI .i64 ((j.d).fuse), vB ((j.d).off)], true⟩), some (rowT 1 rwB (j.R)), some (rowK .u8 ((j.d).dur))] := by
  have hRl := hj.le; have hRe := hj.en; have hn := hj.d.n1024
  exact t45 hj.d (by omega) hj.b (R := j.R) (by omega) (ed := j.ed) (by omega) (fl := j.fl) hj.r
theorem j42 (hd : d.Ok n m) (hm : m ≤ 70000) (hB : d.By) (h : (opR n (n / 64 + 1) [] 0 d).2.2.2 = 0) : VG Try.prog 42 [.ptr 0 0] [⟨4, [.own 1 (n), .b (slT 2 penB (d.pen)), vI .i64 (d.fuse), vB (d.off)], true⟩, rowK .u8 (d.dur)] (.tup [.ptr 2 0, .b (slT 1 rwB (opJ n d).R), vI .i64 0])
    [some (⟨4, [.own 1 (n), .b (slT 2 penB (((opJ n d).d).pen)), vI .i64 (((opJ n d).d).fuse), vB (((opJ n d).d).off)], true⟩), some (rowK .u8 (((opJ n d).d).dur)), some (⟨4, [.ptr 0 (0), .row 3 ((opJ n d).R.length) none, vI .i64 (((opJ n d).ed : Int)), vB ((opJ n d).fl)], true⟩), some (rowT 1 rwB ((opJ n d).R))] := t42 hd (by omega) hB h
end
end Go.VL

/- Walks over the Go functions, printed by a program of this session over the kit's print, and by hand. -/
set_option linter.unusedVariables false
set_option linter.unusedSimpArgs false
set_option maxRecDepth 100000
namespace Go.VL
open Go.Proofs
theorem by_of {L : List Int} (h : (L.all fun x => decide (0 ≤ x) && decide (x < 256)) = true) : ByR L := fun x hx => by have := List.all_eq_true.1 h x hx; simpa using this
theorem sL_by : ByR sL := by_of rfl
theorem sx_by : ByR [120] := by_of rfl
theorem s9_by : ByR [49, 50, 51, 52, 53, 54, 55, 56, 57] := by_of rfl
theorem sj0_ok : sj0.Ok 256 1 := opJ_ok (newD_ok (z := 4) (by decide) (by decide)) (newD_by 4)
theorem sj1_ok : sj1.Ok 256 83 := sj0_ok.append .rep
theorem sj2_ok : sj2.Ok 256 165 := sj1_ok.append .rep
theorem sj3_ok : sj3.Ok 256 247 := sj2_ok.append .rep
theorem sj4_ok : sj4.Ok 256 329 := sj3_ok.append sL_by
theorem sj5_ok : sj5.Ok 256 411 := sj4_ok.append sx_by
theorem sL_str : ((bytesOf sL).toList == (⟨#[108, 97, 115, 116]⟩ : ByteArray).toList) = true := by decide +kernel
theorem t39  : VF Try.prog 39 [] (boolB true) := by
  obtain ⟨j0, e0⟩ : ∃ j, sj0 = j := ⟨_, rfl⟩
  have f0 := sj_0
  have f1 := sj_1
  have o0 := sj0_ok
  have e1 : (apR 256 sj0 (List.replicate 54 0)).1 = sj1 := rfl
  rw [e0] at f0 f1 o0 e1
  have e0 : opJ 256 (newD 4) = j0 := e0
  obtain ⟨j1, g1⟩ : ∃ j, sj1 = j := ⟨_, rfl⟩
  have f2 := sj_2
  have o1 := sj1_ok
  have e2 : (apR 256 sj1 (List.replicate 55 0)).1 = sj2 := rfl
  rw [g1] at f1 f2 o1 e1 e2
  obtain ⟨j2, g2⟩ : ∃ j, sj2 = j := ⟨_, rfl⟩
  have f3 := sj_3
  have o2 := sj2_ok
  have e3 : (apR 256 sj2 (List.replicate 55 0)).1 = sj3 := rfl
  rw [g2] at f2 f3 o2 e2 e3
  obtain ⟨j3, g3⟩ : ∃ j, sj3 = j := ⟨_, rfl⟩
  have f4 := sj_4
  have o3 := sj3_ok
  have e4 : (apR 256 sj3 [108, 97, 115, 116]).1 = sj4 := rfl
  rw [g3] at f3 f4 o3 e3 e4
  obtain ⟨j4, g4⟩ : ∃ j, sj4 = j := ⟨_, rfl⟩
  have f5 := sj_5
  have o4 := sj4_ok
  have e5 : (apR 256 sj4 [120]).1 = sj5 := rfl
  rw [g4] at f5 o4 e4 e5
  obtain ⟨j5, g5⟩ : ∃ j, sj5 = j := ⟨_, rfl⟩
  have f6 := sj_6
  have o5 := sj5_ok
  have e6 : opJ 256 sj5.d = sj6 := rfl
  rw [g5] at f6 o5 e5 e6
  obtain ⟨j6, g6⟩ : ∃ j, sj6 = j := ⟨_, rfl⟩
  rw [g6] at f6 e6
  clear g1 g2 g3 g4 g5 g6
  exact VF_of P_mixed Try.func39 rfl rfl (by kernel_rfl) <| Sq <| Rg <| Vs (As rfl) <| Nx <| Sq <| Rg <| Gm 1 [] [] (v := .tup [.ptr 1 (0), vI .i64 (0)]) [(1, ⟨4, [.own 2 (256), .b (slT 2 penB ((newD 4).pen)), vI .i64 ((newD 4).fuse), vB ((newD 4).off)], true⟩), (2, rowK .u8 ((newD 4).dur))] rfl (k17 4 (by decide) (by decide)) rfl <| Vs (Mv rfl) <| Vs (Xv rfl) <| Vs (Xv rfl) <| Vs (As rfl) <| Vs (As rfl) <| Nx <| Sq <| Sq <| Rg <| Vs (Mv rfl) <| Vs (Bi (c := .bool false) rfl) <| Vs (Mv rfl) <| Vs (Mv rfl) <| Vs (Pe TU22 rfl) <| Vs (Pk rfl) <| Nx <| Cz rfl <| Ks <| Tg <| Sq <| Rg <| Vs (Mv rfl) <| Gm 16 [1, 2] [] (v := .tup [.ptr 16 (0), .b (slT 1 rwB (j0.R)), vI .i64 (0)]) [(1, ⟨4, [.own 2 (256), .b (slT 2 penB ((j0.d).pen)), vI .i64 ((j0.d).fuse), vB ((j0.d).off)], true⟩), (2, rowK .u8 ((j0.d).dur)), (16, ⟨4, [.ptr 1 (0), .row 17 (j0.R.length) none, vI .i64 ((j0.ed : Int)), vB (j0.fl)], true⟩), (17, rowT 1 rwB (j0.R))] rfl ((by have t := j42 (newD_ok (z := 4) (by decide) (by decide)) (by decide) (newD_by 4) f0.1; rw [e0] at t; exact t)) rfl <| Vs (Mv rfl) <| Vs (Xv rfl) <| Vs (Xv rfl) <| Vs (Xv rfl) <| Vs (As rfl) <| Vs (As rfl) <| Vs (As rfl) <| Nx <| Sq <| Sq <| Rg <| Vs (Mv rfl) <| Vs (Bi (c := .bool false) rfl) <| Vs (Mv rfl) <| Vs (Mv rfl) <| Vs (Pe TU62 rfl) <| Vs (Pk rfl) <| Vs (Mv rfl) <| Vs (Mv rfl) <| Vs (Lst rwB_len TU43 rfl) <| Vs (Kb (show (((j0.R).length : Int) != 0) = false from (by rw [f0.2.1]; rfl)) (Bi rfl)) <| Vs (Pk rfl) <| Vs (Mv rfl) <| Vs (Mv rfl) <| Gm 39 [16, 1, 17, 2] [] (v := vI .i64 ((roomQ 256 j0.ed))) [(1, ⟨4, [.own 2 (256), .b (slT 2 penB ((j0.d).pen)), vI .i64 ((j0.d).fuse), vB ((j0.d).off)], true⟩), (2, rowK .u8 ((j0.d).dur)), (16, ⟨4, [.ptr 1 (0), .row 17 (j0.R.length) none, vI .i64 ((j0.ed : Int)), vB (j0.fl)], true⟩), (17, rowT 1 rwB (j0.R))] rfl (j46 o0 (by decide)) rfl <| Vs (Kb (show ((roomQ 256 j0.ed) != 246) = false from (by rw [f0.2.2]; rfl)) (Bi rfl)) <| Vs (Pk rfl) <| Nx <| Cz rfl <| Ks <| Tg <| Sq <| Rg <| Vs (Mv rfl) <| Vs (Mk 43 TK27 rfl) <| Gm 44 [16, 1, 17, 2] [43] (v := vI .i64 (0)) [(1, ⟨4, [.own 2 (256), .b (slT 2 penB ((j1.d).pen)), vI .i64 ((j1.d).fuse), vB ((j1.d).off)], true⟩), (2, rowK .u8 ((j1.d).dur)), (16, ⟨4, [.ptr 1 (0), .row 44 (j1.R.length) none, vI .i64 ((j1.ed : Int)), vB (j1.fl)], true⟩), (44, rowT 1 rwB (j1.R))] rfl ((by have t := j43S o0 (by decide) (b := List.replicate 54 0) (.rep) (by simp) f1.1; rw [e1] at t; exact t)) rfl <| Vs (As rfl) <| Nx <| Sq <| Rg <| Vs (Mv rfl) <| Gm 48 [16, 1, 44, 2] [] (v := vI .i64 ((roomQ 256 j1.ed))) [(1, ⟨4, [.own 2 (256), .b (slT 2 penB ((j1.d).pen)), vI .i64 ((j1.d).fuse), vB ((j1.d).off)], true⟩), (2, rowK .u8 ((j1.d).dur)), (16, ⟨4, [.ptr 1 (0), .row 44 (j1.R.length) none, vI .i64 ((j1.ed : Int)), vB (j1.fl)], true⟩), (44, rowT 1 rwB (j1.R))] rfl (j46 o1 (by decide)) rfl <| Vs (As rfl) <| Nx <| Sq <| Rg <| Vs (Mv rfl) <| Vs (Mk 51 TK27 rfl) <| Gm 52 [16, 1, 44, 2] [51] (v := vI .i64 (0)) [(1, ⟨4, [.own 2 (256), .b (slT 2 penB ((j2.d).pen)), vI .i64 ((j2.d).fuse), vB ((j2.d).off)], true⟩), (2, rowK .u8 ((j2.d).dur)), (16, ⟨4, [.ptr 1 (0), .row 52 (j2.R.length) none, vI .i64 ((j2.ed : Int)), vB (j2.fl)], true⟩), (52, rowT 1 rwB (j2.R))] rfl ((by have t := j43S o1 (by decide) (b := List.replicate 55 0) (.rep) (by simp) f2.1; rw [e2] at t; exact t)) rfl <| Vs (As rfl) <| Nx <| Sq <| Rg <| Vs (Mv rfl) <| Gm 56 [16, 1, 52, 2] [] (v := vI .i64 ((roomQ 256 j2.ed))) [(1, ⟨4, [.own 2 (256), .b (slT 2 penB ((j2.d).pen)), vI .i64 ((j2.d).fuse), vB ((j2.d).off)], true⟩), (2, rowK .u8 ((j2.d).dur)), (16, ⟨4, [.ptr 1 (0), .row 52 (j2.R.length) none, vI .i64 ((j2.ed : Int)), vB (j2.fl)], true⟩), (52, rowT 1 rwB (j2.R))] rfl (j46 o2 (by decide)) rfl <| Vs (As rfl) <| Nx <| Sq <| Rg <| Vs (Mv rfl) <| Vs (Mk 59 TK27 rfl) <| Gm 60 [16, 1, 52, 2] [59] (v := vI .i64 ((apR 256 j2 (List.replicate 55 0)).2)) [(1, ⟨4, [.own 2 (256), .b (slT 2 penB ((j3.d).pen)), vI .i64 ((j3.d).fuse), vB ((j3.d).off)], true⟩), (2, rowK .u8 ((j3.d).dur)), (16, ⟨4, [.ptr 1 (0), .row 52 ((j3.R).length) none, vI .i64 ((j3.ed : Int)), vB (j3.fl)], true⟩), (52, rowT 1 rwB (j3.R))] rfl ((by have t := j43E o2 (by decide) (b := List.replicate 55 0) (.rep) (by simp) (by rw [f3.1]; decide); rw [e3] at t; exact t)) rfl <| Vs (As rfl) <| Nx <| Sq <| Rg <| Vs (Mv rfl) <| Vs (sq1 63 rfl (.buildS _ 4 _ 5 [vI .u8 (108), vI .u8 (97), vI .u8 (115), vI .u8 (116)] 1 _ [vI .u8 (108), vI .u8 (97), vI .u8 (115), vI .u8 (116)] rfl TU27 TZ5 TS5 (List.cons_ne_nil _ _) (by decide) rfl rfl)) <| Vs (Tb (L := [108, 97, 115, 116]) TK27 TU5 rfl) <| Gm 65 [16, 1, 52, 2] [] (v := vI .i64 (0)) [(1, ⟨4, [.own 2 (256), .b (slT 2 penB ((j4.d).pen)), vI .i64 ((j4.d).fuse), vB ((j4.d).off)], true⟩), (2, rowK .u8 ((j4.d).dur)), (16, ⟨4, [.ptr 1 (0), .row 65 (j4.R.length) none, vI .i64 ((j4.ed : Int)), vB (j4.fl)], true⟩), (65, rowT 1 rwB (j4.R))] rfl ((by have t := j43S o3 (by decide) (b := [108, 97, 115, 116]) (sL_by) (by simp) f4; rw [e4] at t; exact t)) rfl <| Vs (As rfl) <| Nx <| Sq <| Rg <| Vs (Mv rfl) <| Vs (L1s 69 TK27 rfl) <| Vs (Tb (L := [120]) TK27 TU5 rfl) <| Gm 71 [16, 1, 65, 2] [] (v := vI .i64 ((apR 256 j4 ([120])).2)) [(1, ⟨4, [.own 2 (256), .b (slT 2 penB ((j5.d).pen)), vI .i64 ((j5.d).fuse), vB ((j5.d).off)], true⟩), (2, rowK .u8 ((j5.d).dur)), (16, ⟨4, [.ptr 1 (0), .row 65 ((j5.R).length) none, vI .i64 ((j5.ed : Int)), vB (j5.fl)], true⟩), (65, rowT 1 rwB (j5.R))] rfl ((by have t := j43E o4 (by decide) (b := [120]) (sx_by) (by simp) (by rw [f5]; decide); rw [e5] at t; exact t)) rfl <| Vs (As rfl) <| Nx <| Sq <| Rg <| Vs (Mv rfl) <| Gm 74 [1, 2] [] (v := .tup [.ptr 74 (0), .b (slT 1 rwB (j6.R)), vI .i64 (0)]) [(1, ⟨4, [.own 2 (256), .b (slT 2 penB ((j6.d).pen)), vI .i64 ((j6.d).fuse), vB ((j6.d).off)], true⟩), (2, rowK .u8 ((j6.d).dur)), (16, ⟨4, [.ptr 1 (0), .row 65 ((j5.R).length) none, vI .i64 ((j5.ed : Int)), vB (j5.fl)], true⟩), (65, rowT 1 rwB (j5.R)), (74, ⟨4, [.ptr 1 (0), .row 75 (j6.R.length) none, vI .i64 ((j6.ed : Int)), vB (j6.fl)], true⟩), (75, rowT 1 rwB (j6.R))] rfl ((by have t := j42 o5.d (by decide) o5.b f6.1; rw [e6] at t; exact t)) rfl <| Vs (Mv rfl) <| Vs (Xv rfl) <| Vs (Xv rfl) <| Vs (Xv rfl) <| Vs (As rfl) <| Vs (As rfl) <| Vs (As rfl) <| Nx <| Sq <| Rg <| Vs (sq1 84 rfl (.buildS _ 9 _ 5 [vI .u8 (49), vI .u8 (50), vI .u8 (51), vI .u8 (52), vI .u8 (53), vI .u8 (54), vI .u8 (55), vI .u8 (56), vI .u8 (57)] 1 _ [vI .u8 (49), vI .u8 (50), vI .u8 (51), vI .u8 (52), vI .u8 (53), vI .u8 (54), vI .u8 (55), vI .u8 (56), vI .u8 (57)] rfl TU27 TZ5 TS5 (List.cons_ne_nil _ _) (by decide) rfl rfl)) <| Vs (Tb (L := [49, 50, 51, 52, 53, 54, 55, 56, 57]) TK27 TU5 rfl) <| Vs (Cf rfl rfl (t40 (s9_by) (by decide)) rfl) <| Vs (Kb (show (bv (crcQ ([49, 50, 51, 52, 53, 54, 55, 56, 57])) == 3808858755) = true from (by rw [sj_crc]; rfl)) (Bi rfl)) <| Vs (Mv rfl) <| Vs (Mv rfl) <| Vs (Bi (c := .bool true) rfl) <| Vs (Pk rfl) <| Vs (Mv rfl) <| Vs (Mv rfl) <| Vs (Kb (show ((roomQ 256 j1.ed) == 182) = true from (by rw [f1.2]; rfl)) (Bi rfl)) <| Vs (Pk rfl) <| Vs (Mv rfl) <| Vs (Mv rfl) <| Vs (Bi (c := .bool true) rfl) <| Vs (Pk rfl) <| Vs (Mv rfl) <| Vs (Mv rfl) <| Vs (Kb (show ((roomQ 256 j2.ed) == 54) = true from (by rw [f2.2]; rfl)) (Bi rfl)) <| Vs (Pk rfl) <| Vs (Mv rfl) <| Vs (Mv rfl) <| Vs (Kb (show ((apR 256 j2 (List.replicate 55 0)).2 == 8) = true from (by rw [f3.1]; rfl)) (Bi rfl)) <| Vs (Pk rfl) <| Vs (Mv rfl) <| Vs (Mv rfl) <| Vs (Bi (c := .bool true) rfl) <| Vs (Pk rfl) <| Vs (Mv rfl) <| Vs (Mv rfl) <| Vs (Kb (show ((apR 256 j4 ([120])).2 == 8) = true from (by rw [f5]; rfl)) (Bi rfl)) <| Vs (Pk rfl) <| Vs (Mv rfl) <| Vs (Mv rfl) <| Vs (Bi (c := .bool true) rfl) <| Vs (Pk rfl) <| Vs (Mv rfl) <| Vs (Mv rfl) <| Vs (Lst rwB_len TU43 rfl) <| Vs (Kb (show (((j6.R).length : Int) == 3) = true from (by rw [f6.2.1]; rfl)) (Bi rfl)) <| Vs (Pk rfl) <| Vs (Mv rfl) <| Vs (Mv rfl) <| Vs (IxT rwB_len TU43 TS27 rfl (by decide) (gd (d := []) (j := 2) (by rw [f6.2.1]; decide)) rfl) <| Vs (Lq TA27 rfl) <| Vs (TsV TK27 TU5 TU9 rfl ((by rw [show j6.R.getD 2 [] = sL from f6.2.2]; exact sL_by))) <| Vs (Kb (show ((bytesOf ((j6.R).getD (2) [])).toList == ((⟨#[108, 97, 115, 116]⟩ : ByteArray)).toList) = true from (by rw [show j6.R.getD 2 [] = sL from f6.2.2]; exact sL_str)) (Bi rfl)) <| Vs (Pk rfl) <| Vs (As rfl) <| Nx <| Re <| Fi (l := [boolB (true)]) (Rc (resVar_tmp rfl rfl) Rn) rfl
end Go.VL
