/- JournalSurvives returns true for every input and leaves the input as it was. No condition. -/
import Derived.Test.YtpoolpppmgacnaaK4
/- The disk: what stays pending, what is returned. -/
set_option linter.unusedVariables false
set_option linter.unusedSimpArgs false
namespace Go.VL
theorem pen_N {n : Nat} {d : Dk} {a : Ca} (hp : d.pen = []) (hn : ¬ (a.kind = 1 ∧ d.off = false ∧ hasS n a.sector = true ∧ (bytM a).length = 64)) : (d.doR n a).1.pen = [] := by
  unfold Dk.doR
  split
  · unfold Dk.readR
    split
    · exact hp
    · split
      · exact hp
      · split <;> (show d.burn.pen = []; rw [burn_pen]; exact hp)
  · split
    · next h =>
      show (d.writeR n a.sector (bytM a)).1.pen = []
      unfold Dk.writeR
      split
      · exact hp
      · next h0 =>
        split
        · exact hp
        · next h1 =>
          exfalso
          refine hn ⟨h, by simpa using h0, ?_, ?_⟩
          · cases hs : hasS n a.sector with
            | true => rfl
            | false => exact absurd (.inl hs) h1
          · exact Classical.byContradiction fun h2 => h1 (.inr h2)
    · split
      · show d.syncR.1.pen = []
        unfold Dk.syncR
        split
        · exact hp
        · split
          · show d.burn.pen = []; rw [burn_pen]; exact hp
          · rfl
      · split
        · exact hp
        · split
          · rfl
          · split
            · show (d.rotR n a.sector a.n).1.pen = []
              unfold Dk.rotR
              split <;> exact hp
            · exact hp
theorem pen_S {n : Nat} {d : Dk} {a : Ca} (hs : a.kind = 4 ∨ (a.kind = 2 ∧ d.off = false ∧ d.out = false)) : (d.doR n a).1.pen = [] := by
  rcases hs with h | ⟨h, h0, h1⟩
  · simp [Dk.doR, h, Dk.bootR]
  · simp [Dk.doR, h, Dk.syncR, h0, h1]
theorem readR_len {n : Nat} {d : Dk} {s : Int} : (d.readR n s).2.1.length ≤ 100000 := by
  unfold Dk.readR
  split
  · exact Nat.zero_le _
  · split
    · exact Nat.zero_le _
    · split
      · exact Nat.zero_le _
      · show (rdS d s).length ≤ 100000
        rw [rdS_len]; decide
theorem doR_len {n : Nat} {d : Dk} {a : Ca} : (d.doR n a).2.1.length ≤ 100000 := by
  unfold Dk.doR
  split
  · exact readR_len
  · repeat (first | exact Nat.zero_le _ | split)
theorem eqL_refl {A : List Int} : eqL A A = true := decide_eq_true rfl
theorem three {p q : Prop} : p ∨ q ∨ (¬ p ∧ ¬ q) := by
  by_cases h : p
  · exact .inl h
  · by_cases h2 : q
    · exact .inr (.inl h2)
    · exact .inr (.inr ⟨h, h2⟩)
end Go.VL

/- Plain laws of a disk: the specification's way of booting; rows written byte by byte. -/
set_option linter.unusedVariables false
set_option linter.unusedSimpArgs false
namespace Go.VL
def hasQ (keep : List Int) (n : Int) : Bool := keep.any (fun x => x == n)
theorem any_take {keep : List Int} {n : Int} {i : Nat} (h : i < keep.length) : (keep.take (i + 1)).any (fun x => x == n) = ((keep.take i).any (fun x => x == n) || (keep.getD i 0 == n)) := by
  rw [List.take_add_one, List.any_append, List.getElem?_eq_getElem h]
  simp [List.getD_eq_getElem?_getD, h]
theorem hasQ_all {keep : List Int} {n : Int} {i : Nat} (h : ¬ i < keep.length) (h2 : (keep.take i).any (fun x => x == n) = false) : hasQ keep n = false := by
  rw [List.take_of_length_le (by omega)] at h2; exact h2
theorem hasQ_at {keep : List Int} {n : Int} {i : Nat} (h : i < keep.length) (h2 : keep.getD i 0 = n) : hasQ keep n = true := by
  rw [List.getD_eq_getElem?_getD, List.getElem?_eq_getElem h] at h2
  exact List.any_eq_true.2 ⟨_, List.getElem_mem h, by simpa using h2⟩
/-- The last of the first j pending writes that is kept. -/
def lastL (keep : List Int) : Nat → Int
  | 0 => -1
  | j + 1 => if hasQ keep (j : Int) = true then (j : Int) else lastL keep j
theorem lastL_lt (keep : List Int) : ∀ j : Nat, -1 ≤ lastL keep j ∧ lastL keep j < j
  | 0 => by simp [lastL]
  | j + 1 => by
    have := lastL_lt keep j
    simp only [lastL]; split <;> omega
theorem lastL_in {keep : List Int} {i : Int} (h0 : 0 ≤ i) (hq : hasQ keep i = true) : ∀ j : Nat, i < (j : Int) → i ≤ lastL keep j
  | 0, h => by omega
  | j + 1, h => by
    simp only [lastL]
    split
    · omega
    · rename_i hn
      by_cases hij : i = (j : Int)
      · subst hij; exact absurd hq hn
      · exact lastL_in h0 hq j (by omega)
theorem lastL_has {keep : List Int} : ∀ j : Nat, lastL keep j = -1 ∨ hasQ keep (lastL keep j) = true
  | 0 => .inl rfl
  | j + 1 => by
    simp only [lastL]
    split
    · rename_i h; exact .inr h
    · exact lastL_has j
theorem kpL_has {keep : List Int} {N : Nat} {i : Nat} (hi : i < N) : ∀ j, j ≤ keep.length → (kpL keep N j).1.getD i false = (keep.take j).any (fun x => x == (i : Int))
  | 0, _ => by simp [kpL, List.getD_eq_getElem?_getD, hi]
  | j + 1, hj => by
    have ih := kpL_has (keep := keep) hi j (by omega)
    have hjk : j < keep.length := by omega
    rw [any_take hjk, ← ih]
    by_cases h1 : keep.getD j 0 ≥ 0
    · by_cases h2 : keep.getD j 0 < (N : Int)
      · rw [kpL_in h1 h2]
        simp only [List.getD_eq_getElem?_getD]
        rw [List.getElem?_set]
        by_cases h3 : (keep[j]?.getD 0).toNat = i
        · have h1' : 0 ≤ keep[j]?.getD 0 := by simpa [List.getD_eq_getElem?_getD] using h1
          rw [if_pos h3, if_pos (by rw [kpL_len]; omega)]
          have : keep[j]?.getD 0 = (i : Int) := by omega
          simp [this]
        · have h1' : 0 ≤ keep[j]?.getD 0 := by simpa [List.getD_eq_getElem?_getD] using h1
          rw [if_neg h3]
          have : (keep[j]?.getD 0 == (i : Int)) = false := by simp; omega
          simp [this]
      · rw [kpL_hi h2]
        have : (keep.getD j 0 == (i : Int)) = false := by simp only [beq_eq_false_iff_ne]; omega
        rw [this, Bool.or_false]
    · rw [kpL_lo h1]
      have : (keep.getD j 0 == (i : Int)) = false := by simp only [beq_eq_false_iff_ne]; omega
      rw [this, Bool.or_false]
theorem kpL_hasQ {keep : List Int} {N i : Nat} (hi : i < N) : (kpL keep N keep.length).1.getD i false = hasQ keep (i : Int) := by
  rw [kpL_has hi _ (Nat.le_refl _), List.take_length]; rfl
theorem kpL_lastI {keep : List Int} {N : Nat} : ∀ j, j ≤ keep.length → -1 ≤ (kpL keep N j).2 ∧ (kpL keep N j).2 < N ∧ ((kpL keep N j).2 = -1 ∨ (kpL keep N j).2 ∈ keep.take j) ∧ ∀ x ∈ keep.take j, 0 ≤ x → x < (N : Int) → x ≤ (kpL keep N j).2
  | 0, _ => by simp [kpL]; omega
  | j + 1, hj => by
    obtain ⟨a1, a2, a3, a4⟩ := kpL_lastI (keep := keep) (N := N) j (by omega)
    have hjk : j < keep.length := by omega
    have et : keep.take (j + 1) = keep.take j ++ [keep.getD j 0] := by
      rw [List.take_add_one, List.getD_eq_getElem?_getD, List.getElem?_eq_getElem hjk]; rfl
    rw [et]
    by_cases h1 : keep.getD j 0 ≥ 0
    · by_cases h2 : keep.getD j 0 < (N : Int)
      · rw [kpL_in h1 h2]
        simp only
        split
        · rename_i h3
          refine ⟨by omega, h2, .inr (by simp), fun x hx h0 hN => ?_⟩
          rcases List.mem_append.1 hx with hx | hx
          · have := a4 x hx h0 hN; omega
          · have := List.mem_singleton.1 hx; omega
        · rename_i h3
          refine ⟨a1, a2, ?_, fun x hx h0 hN => ?_⟩
          · rcases a3 with a3 | a3
            · exact .inl a3
            · exact .inr (List.mem_append_left _ a3)
          · rcases List.mem_append.1 hx with hx | hx
            · exact a4 x hx h0 hN
            · have := List.mem_singleton.1 hx; omega
      · rw [kpL_hi h2]
        refine ⟨a1, a2, ?_, fun x hx h0 hN => ?_⟩
        · rcases a3 with a3 | a3
          · exact .inl a3
          · exact .inr (List.mem_append_left _ a3)
        · rcases List.mem_append.1 hx with hx | hx
          · exact a4 x hx h0 hN
          · have := List.mem_singleton.1 hx; omega
    · rw [kpL_lo h1]
      refine ⟨a1, a2, ?_, fun x hx h0 hN => ?_⟩
      · rcases a3 with a3 | a3
        · exact .inl a3
        · exact .inr (List.mem_append_left _ a3)
      · rcases List.mem_append.1 hx with hx | hx
        · exact a4 x hx h0 hN
        · have := List.mem_singleton.1 hx; omega
theorem kpL_last {keep : List Int} {N : Nat} : (kpL keep N keep.length).2 = lastL keep N := by
  obtain ⟨a1, a2, a3, a4⟩ := kpL_lastI (keep := keep) (N := N) keep.length (Nat.le_refl _)
  rw [List.take_length] at a3 a4
  have hb := lastL_lt keep N
  have up : (kpL keep N keep.length).2 ≤ lastL keep N := by
    rcases a3 with a3 | a3
    · omega
    · by_cases h0 : (kpL keep N keep.length).2 = -1
      · omega
      · exact lastL_in (by omega) (List.any_eq_true.2 ⟨_, a3, by simp⟩) N a2
  have lo : lastL keep N ≤ (kpL keep N keep.length).2 := by
    rcases lastL_has (keep := keep) N with h | h
    · omega
    · by_cases h0 : lastL keep N = -1
      · omega
      · obtain ⟨x, hx, hx2⟩ := List.any_eq_true.1 h
        have hx3 : x = lastL keep N := by simpa using hx2
        have := a4 x hx (by omega) (by omega)
        omega
  omega
theorem boL_beyond {keep : List Int} {K : List Bool} {l torn : Int} {P : List Pen} {D : List Int} {i : Nat} (hK : ∀ q, q < P.length → K.getD q false = hasQ keep (q : Int)) (hi : (i : Int) = lastL keep P.length + 1) : ∀ j, i ≤ j → j ≤ P.length → boL K l torn P D j = boL K l torn P D i
  | 0, h, _ => by have : i = 0 := by omega
                  subst this; rfl
  | j + 1, h, hj => by
    by_cases hij : i = j + 1
    · rw [hij]
    · have hq : hasQ keep (j : Int) = false := by
        cases hq : hasQ keep (j : Int) with
        | false => rfl
        | true => have := lastL_in (by omega) hq P.length (by omega); omega
      rw [boL_no (by rw [hK j (by omega)]; exact hq)]
      exact boL_beyond hK hi j (by omega) (by omega)
theorem rowsD_same {z s : Nat} {D : List Int} (hs : s < z) : (rowsD z D).set s (sec D (s : Int)) = rowsD z D := by
  apply List.ext_getElem?
  intro j
  rw [List.getElem?_set]
  split
  · rename_i h; subst h; rw [if_pos (by rw [rowsD_len]; exact hs), rowsD_at hs]
  · rfl
theorem rowsD_atI {z : Nat} {s : Int} {D : List Int} (h0 : 0 ≤ s) (h : s < z) : (rowsD z D)[s.toNat]? = some (sec D s) := by
  obtain ⟨k, rfl⟩ : ∃ k : Nat, s = k := ⟨s.toNat, by omega⟩
  exact rowsD_at (by omega)
theorem rowsD_sameI {z : Nat} {s : Int} {D : List Int} (h0 : 0 ≤ s) (h : s < z) : (rowsD z D).set s.toNat (sec D s) = rowsD z D := by
  obtain ⟨k, rfl⟩ : ∃ k : Nat, s = k := ⟨s.toNat, by omega⟩
  exact rowsD_same (by omega)
theorem rowsD_putI {z : Nat} {s : Int} {D b : List Int} (hD : D.length = z * 64) (h0 : 0 ≤ s) (h : s < z) : rowsD z (put D s b) = (rowsD z D).set s.toNat (cpw (sec D s) 0 64 b) := by
  obtain ⟨k, rfl⟩ : ∃ k : Nat, s = k := ⟨s.toNat, by omega⟩
  exact rowsD_put hD (by omega)
theorem set_at {A : List (List Int)} {s : Nat} {R : List Int} (h : s < A.length) : (famD (A.set s R))[s]? = some (rowK .u8 R) := famD_at (by rw [List.getElem?_set_self h])
theorem own_rhA {b i m t : Nat} {l : List (Nat × Nat)} {s : Slots} (h1 : b ≤ i) (h2 : i < 100000) (hs : s t = some (.own i m)) : s t = some ((V.own i m).ren (rhA b l)) := by
  rw [hs]; simp only [V.ren, V.ren2, V.ren1, V.ren0, rhA_fam h1 h2]
theorem own_low {i m n1 : Nat} (h : i < n1) : (V.own i m).all.all (fun i => decide (i < n1)) = true := by simp [V.all, V.all2, V.all1, V.all0, h]
theorem Fam.putD {E : Env} {b s : Nat} {A : List (List Int)} {R R' : List Int} (h : Fam E b (famD (A.set s R))) : Fam (setAt E (b + s) (some (rowK .u8 R'))) b (famD (A.set s R')) := by
  rw [← famD_set (R := R)]; exact Fam.put h
theorem Fam.putR {E : Env} {b s : Nat} {A : List (List Int)} {R' : List Int} (h : Fam E b (famD A)) : Fam (setAt E (b + s) (some (rowK .u8 R'))) b (famD (A.set s R')) := by
  have e : famD (A.set s R') = (famD A).set s (rowK .u8 R') := by simp only [famD, List.map_set]
  rw [e]; exact Fam.put h
theorem cpw_snoc {D b : List Int} {i : Nat} (hD : D.length = 64) (hb : b.length = 64) (hi : i < 64) : (cpw D 0 64 (b.take i)).set i (b.getD i 0) = cpw D 0 64 (b.take (i + 1)) := by
  have e : ∀ k, k ≤ 64 → cpw D 0 64 (b.take k) = b.take k ++ D.drop k := fun k hk => by
    have h1 : (b.take k).length = k := by simp; omega
    have h2 : Nat.min k 64 = k := Nat.min_eq_left hk
    simp only [cpw, h1, h2, List.take_zero, List.nil_append, Nat.zero_add]
    rw [List.take_of_length_le (by omega)]
  rw [e i (by omega), e (i + 1) (by omega)]
  apply List.ext_getElem?
  intro j
  rw [List.getElem?_set]
  by_cases hij : i = j
  · subst hij
    rw [if_pos rfl, if_pos (by simp; omega), List.getElem?_append_left (by simp; omega), List.getElem?_take_of_lt (by omega), List.getD_eq_getElem?_getD, List.getElem?_eq_getElem (by omega)]
    rfl
  · rw [if_neg hij]
    by_cases hj : j < i
    · rw [List.getElem?_append_left (by simp; omega), List.getElem?_append_left (by simp; omega), List.getElem?_take_of_lt hj, List.getElem?_take_of_lt (by omega)]
    · rw [List.getElem?_append_right (by simp; omega), List.getElem?_append_right (by simp; omega), List.length_take, List.length_take, List.getElem?_drop, List.getElem?_drop]
      congr 1; omega
theorem sec_getD {D : List Int} {s : Int} {k : Nat} (hk : k < 64) : (sec D s).getD k 0 = D.getD ((s * 64).toNat + k) 0 := by
  rw [List.getD_eq_getElem?_getD, List.getD_eq_getElem?_getD, sec_get, if_pos hk]
theorem hasS_no {z : Nat} {s : Int} (h : s < 0 ∨ s ≥ (z : Int)) : hasS (z * 64) s = false := by
  cases hq : hasS (z * 64) s with
  | false => rfl
  | true =>
    simp only [hasS, Bool.and_eq_true, decide_eq_true_eq] at hq
    omega
theorem hasS_yes {z : Nat} {s : Int} (h0 : ¬ s < 0) (h1 : ¬ s ≥ (z : Int)) : hasS (z * 64) s = true := hasS_of (by omega) (by omega)
/-- The reference's way of reading. -/
theorem rdL_none {s : Int} {P : List Pen} {R0 : List Int} {i : Nat} (h : ¬ (P.getD i w0).1 = s) : rdL s P R0 (i + 1) = rdL s P R0 i := by rw [rdL, if_neg h]
theorem rdL_some {s : Int} {P : List Pen} {R0 : List Int} {i : Nat} (h : (P.getD i w0).1 = s) (hR : R0.length = 64) (h2 : (P.getD i w0).2.length = 64) : rdL s P R0 (i + 1) = (P.getD i w0).2 := by
  rw [rdL, if_pos h]; exact cpw_all (rdL_len hR i) h2
theorem rdS_sec {d : Dk} {s : Int} (h : (sec d.dur s).length = 64) : rdS d s = rdL s d.pen (sec d.dur s) d.pen.length := by
  rw [rdS, cpw_all (by simp) h]
theorem Two.app {p : V → V → Prop} : ∀ {l m l' m' : List V}, Two p l m → Two p l' m' → Two p (l ++ l') (m ++ m')
  | [], [], _, _, _, h => h
  | x :: l, y :: m, _, _, h, h2 => ⟨h.1, Two.app h.2 h2⟩
  | [], _ :: _, _, _, h, _ => h.elim
  | _ :: _, [], _, _, h, _ => h.elim
/-- From one region to the next, values told by their contents, with a family. -/
theorem Weak.convF {k n1 b : Nat} {s : Slots} {E : Env} {nv : List Nat} {S1 : List (Nat × V)} {L1 : List (Nat × Ent)} {F : List Ent}
    (h1 : AllS (fun t y => (∃ x, s t = some x ∧ ConvV (upds E (nv.map (cool E))) x y) ∧ y.all.all (fun i => decide (i < n1)) = true) S1)
    (h2 : AllE (fun i e1 => (∃ e, upds E (nv.map (cool E)) i = some e ∧ e1.sz = e.sz ∧ e1.hot = e.hot ∧ Two (ConvV (upds E (nv.map (cool E)))) e.cells e1.cells) ∧ i < n1 ∧ ∀ v ∈ e1.cells, v.all1.all (fun i => decide (i < n1)) = true) L1)
    (hF : Fam (upds E (nv.map (cool E))) b F) (hP : ∀ e ∈ F, Plain e) (hb : b + F.length ≤ n1) (hk : k ≤ n1) : Weak k s E n1 (sl S1) (enF L1 b F) := by
  refine .inr ⟨nv, sl S1, enF L1 b F, fun i => i, ⟨fun t y ht => ?_, fun i e1 he => ?_⟩, hk, fun _ _ => rfl, fun t x ht => ?_, fun i e he => ?_, fun i j e e' _ _ h => h⟩
  · exact (h1.get _ (lookup_mem ht)).1
  · rcases enF_inv he with h | ⟨j, rfl, h⟩
    · obtain ⟨⟨e, q1, q2, q3, q4⟩, _⟩ := h2.get _ (lookup_mem h)
      exact ⟨e, q1, q2, q3, q4.len, q4.get⟩
    · exact ⟨e1, hF j e1 h, rfl, rfl, rfl, fun j y hj => ⟨y, hj, .inl rfl⟩⟩
  · obtain ⟨_, a2⟩ := h1.get _ (lookup_mem ht)
    exact ⟨by rw [V.ren_id]; exact ht, fun i hi => by simpa using List.all_eq_true.1 a2 i hi⟩
  · rcases enF_inv he with h | ⟨j, rfl, h⟩
    · obtain ⟨_, a2, a3⟩ := h2.get _ (lookup_mem h)
      exact ⟨by rw [Ent.ren_id]; exact he, a2, fun v hv j hj => by simpa using List.all_eq_true.1 (a3 v hv) j hj⟩
    · have hj := (List.getElem?_eq_some_iff.1 h).1
      have hp := hP e (List.mem_of_getElem? h)
      exact ⟨by rw [Ent.ren_id]; exact he, by omega, fun v hv i hi => (hp.low hv hi).elim⟩
theorem CxF {k n n1 b : Nat} {s : Slots} {E : Env} {P : Program} {c : Code} {X : VExit → Nat → Slots → Env → Prop} {S1 : List (Nat × V)} {L1 : List (Nat × Ent)} {F : List Ent} (hw : Weak k s E n1 (sl S1) (enF L1 b F)) (h : VCode P k c n1 (sl S1) (enF L1 b F) X) : Then P k c X .normal n s E := .inr ⟨_, _, _, hw, h⟩
section
variable {P : Program} {ops : Array Oper} {o : Oper} {n : Nat} {s : Slots} {E : Env} {T el by' : Nat} {x y : Operand} {i j d m : Nat} {v w : V} {ik : IntKind} {L : List Int}
theorem ApF (q : Nat) (K : SlT P T el (numB ik 0) by') (h : (runs ops s o.guard, o.dst, o.op, ev s x, E i, ev s y, n) = (some true, some d, .call { callee := .builtin .append, args := #[x, y], argTypes := #[T, T] }, some (.own i 0), some (rowK ik []), some w, q)) (hne : i ∉ w.names)
    (hr : res E w = some (slK ik L)) (hm : L.length * by' ≤ 140737488355328 ∧ L.length ≤ maxLen) : Stp P ops o n s E (q + 1) (setAt s d (some (.own q L.length))) (setAt (setAt E i none) q (some (rowK ik L))) [i, q] := by
  simp only [Prod.mk.injEq] at h
  obtain ⟨h1, h2, h3, h4, h5, h6, rfl⟩ := h
  have := Eff.append (P := P) (id := n) x y T el i 0 (rowK ik []) w (L.map (numB ik)) by' h4 h5 rfl rfl rfl h6 hr hne K.u K.s K.b (by rw [K.z]; rfl) (by simpa using hm.1) (by simpa using hm.2) lits_allK
  rw [List.length_map, Nat.zero_add] at this
  have e : (⟨1, (rowK ik []).cells ++ (L.map (numB ik)).map .b, true⟩ : Ent) = rowK ik L := by simp only [rowK, List.map_map, List.map_nil, List.nil_append]; rfl
  rw [e] at this
  exact st2 h1 h2 (h3 ▸ this)
/-- An element with a name is appended. -/
theorem AoN {α : Type} {sz : Nat} {f : α → List B} {A : List α} {cs : List V} (q : Nat) (hu : P.underlying T = some (.slice el)) (hs : szOf P el = some sz) (hb : (P.info? el).map (·.bytes) = some by') (hz : (zeroOf P el).map List.length = some sz)
    (h : (n, runs ops s o.guard, o.dst, o.op, ev s x, E i, ev s y, E j, Nat.beq j i, cs.length) = (q, some true, some d, .call { callee := .builtin .append, args := #[x, y], argTypes := #[T, T] }, some (.own i m), some (rowT sz f A), some (.own j 1), some ⟨sz, cs, true⟩, false, sz)) (hf : ∀ x, (f x).length = sz) (hA : A.length = m)
    (hm : (m + 1) * by' ≤ 140737488355328 ∧ m + 1 ≤ maxLen) :
    Stp P ops o n s E (q + 1) (setAt s d (some (.own q (m + 1)))) (setAt (setAt E i none) q (some ⟨sz, (rowT sz f A).cells ++ cs, true⟩)) [i, q] := by
  simp only [Prod.mk.injEq] at h
  obtain ⟨rfl, h1, h2, h3, h4, h5, h6, h7, h8, h9⟩ := h
  have hne : j ≠ i := fun e => by rw [e, Nat.beq_refl] at h8; cases h8
  have := Eff.appendOO (P := P) (id := n) x y T el i m (rowT sz f A) j 1 ⟨sz, cs, true⟩ by' h4 h5 rfl (by simp only [rowT, List.length_map, cellsT_len hf, hA]) h6 h7 rfl (by simp [rowT, h9]) hne (by decide) hu hs hb hz hm.1 hm.2
  have e : (⟨(rowT sz f A).sz, (rowT sz f A).cells ++ (⟨sz, cs, true⟩ : Ent).cells.take (1 * (rowT sz f A).sz), true⟩ : Ent) = ⟨sz, (rowT sz f A).cells ++ cs, true⟩ := by
    simp only [rowT, Nat.one_mul]
    rw [List.take_of_length_le (by omega)]
  rw [e] at this
  exact st2 h1 h2 (h3 ▸ this)
end
theorem cpw_nil {D : List Int} : cpw D 0 64 [] = D := by simp [cpw]
theorem sec_set {z : Nat} {D : List Int} {s : Int} {k : Nat} {x : Int} (hD : D.length = z * 64) (h0 : 0 ≤ s) (h : s < z) (hk : k < 64) : rowsD z (D.set ((s * 64).toNat + k) x) = (rowsD z D).set s.toNat ((sec D s).set k x) := by
  apply List.ext_getElem?
  intro j
  rw [List.getElem?_set]
  by_cases hj : j < z
  · rw [rowsD_at hj]
    by_cases hsj : s.toNat = j
    · rw [if_pos hsj, if_pos (by rw [rowsD_len]; omega)]
      have : s = (j : Int) := by omega
      subst this
      congr 1
      apply List.ext_getElem?
      intro q
      rw [sec_get, List.getElem?_set, List.getElem?_set, sec_get, sec_len (by omega) (by omega)]
      by_cases hq : q < 64
      · rw [if_pos hq]
        by_cases hkq : k = q
        · subst hkq; rw [if_pos rfl, if_pos (by omega), if_pos rfl, if_pos hk]
        · rw [if_neg (by omega), if_neg hkq, if_pos hq]
      · rw [if_neg hq, if_neg (by omega), if_neg hq]
    · rw [if_neg hsj, rowsD_at hj]
      congr 1
      apply List.ext_getElem?
      intro q
      rw [sec_get, sec_get]
      by_cases hq : q < 64
      · rw [if_pos hq, if_pos hq, List.getElem?_set, if_neg (by omega)]
      · rw [if_neg hq, if_neg hq]
  · have e1 : (rowsD z (D.set ((s * 64).toNat + k) x))[j]? = none := List.getElem?_eq_none (by rw [rowsD_len]; omega)
    have e2 : (rowsD z D)[j]? = none := List.getElem?_eq_none (by rw [rowsD_len]; omega)
    rw [e1, if_neg (by omega), e2]
end Go.VL

/- Plain laws of a disk: a pending write told by its contents. -/
set_option linter.unusedVariables false
set_option linter.unusedSimpArgs false
namespace Go.VL
theorem pen_conv {p : V → V → Prop} {A : List Pen} {w : Pen} {x y : V} (hp : ∀ x, p x x) (h1 : p x (.b (numB .i64 w.1))) (h2 : p y (.b (slK .u8 w.2))) : Two p ((rowT 2 penB A).cells ++ [x, y]) (rowT 2 penB (A ++ [w])).cells := by
  have e : (rowT 2 penB (A ++ [w])).cells = (rowT 2 penB A).cells ++ [.b (numB .i64 w.1), .b (slK .u8 w.2)] := by
    simp only [rowT, cellsT_append, List.map_append]; rfl
  rw [e]
  exact Two.app (Two.same hp _) ⟨h1, h2, trivial⟩
theorem pen_conv1 {p : V → V → Prop} {w : Pen} {x y : V} (h1 : p x (.b (numB .i64 w.1))) (h2 : p y (.b (slK .u8 w.2))) : Two p [x, y] (rowT 2 penB [w]).cells := ⟨h1, h2, trivial⟩
theorem box_bound {c m z q : Nat} {pl : Nat} {t : Bool} {f : Int} (hm : m = z) (hc : 2 ≤ c) : ∀ v ∈ (⟨4, [.own 1 z, .own (c + z) pl, vB t, vI .i64 f], true⟩ : Ent).cells, ∀ i ∈ v.all1, i < c + m + [q].length := fun v hv i hi => by
  simp only [List.mem_cons, List.not_mem_nil, or_false] at hv
  rcases hv with rfl | rfl | rfl | rfl
  · simp [V.all1, V.all0] at hi; simp; omega
  · simp [V.all1, V.all0] at hi; simp; omega
  · simp [V.all1, V.all0, vB] at hi
  · simp [V.all1, V.all0, vI] at hi
theorem box_ren {c m z q pl : Nat} {t : Bool} {f : Int} {E : Env} {i : Nat} (hm : m = z) (hc : 2 ≤ c) (h : E i = some ⟨4, [.own 1 z, .own q pl, vB t, vI .i64 f], true⟩) : E i = some ((⟨4, [.own 1 z, .own (c + z) pl, vB t, vI .i64 f], true⟩ : Ent).ren (rhE c m [q])) := by
  rw [h]
  have e1 : rhE c m [q] 1 = 1 := by unfold rhE; rw [if_pos (.inl (by omega))]
  have e2 := rhE_new (c := c) (q := q) hm
  simp only [Ent.ren, List.map_cons, List.map_nil, V.ren1, V.ren0, e1, e2, vB, vI]
theorem Fam.cool1 {E : Env} {b q : Nat} {F : List Ent} (h : Fam E b F) (hq : 100000 ≤ q) (hb : b + F.length ≤ 100000) : Fam (upds E ([q].map (cool E))) b F := by
  show Fam (setAt E q _) b F
  exact Fam.skip h (.inr (by omega))
end Go.VL

/- A small program logic over the translated Go code, further part: calls that are lent families, in regions whose order is open. -/
set_option linter.unusedVariables false
set_option linter.unusedSimpArgs false
namespace Go.VL
open Go.RowKit
/-- The table of what the operations look at and write is in order, pair by pair. -/
def PreP (t : List Nat) (j : Nat) (y : List Nat × List Nat) : Nat → List (List Nat × List Nat) → Prop
  | _, [] => True
  | i, x :: r => ((t.getD j 0).testBit i = true ∨ (x.2 = [] ∧ y.2 = []) ∨ (apartIds x.2 (y.1 ++ y.2) = true ∧ apartIds y.2 (x.1 ++ x.2) = true)) ∧ PreP t j y (i + 1) r
def LogP (t : List Nat) : Nat → List (List Nat × List Nat) → List (List Nat × List Nat) → Prop
  | _, _, [] => True
  | j, pre, y :: r => PreP t j y 0 pre ∧ LogP t (j + 1) (pre ++ [y]) r
theorem PreP.get {t : List Nat} {j : Nat} {y : List Nat × List Nat} : ∀ {pre : List (List Nat × List Nat)} {i : Nat}, PreP t j y i pre → ∀ q x, pre[q]? = some x → (t.getD j 0).testBit (i + q) = true ∨ (x.2 = [] ∧ y.2 = []) ∨ (apartIds x.2 (y.1 ++ y.2) = true ∧ apartIds y.2 (x.1 ++ x.2) = true)
  | [], i, _, q, x, h => by simp at h
  | z :: r, i, hp, q, x, h => by
    cases q with
    | zero => simp at h; subst h; exact hp.1
    | succ q => have := PreP.get hp.2 q x (by simpa using h); rwa [show i + 1 + q = i + (q + 1) by omega] at this
theorem LogP.get {t : List Nat} : ∀ {log pre : List (List Nat × List Nat)} {j : Nat}, pre.length = j → LogP t j pre log → ∀ q y, log[q]? = some y → ∀ i x, i < j + q → (pre ++ log)[i]? = some x →
    (t.getD (j + q) 0).testBit i = true ∨ (x.2 = [] ∧ y.2 = []) ∨ (apartIds x.2 (y.1 ++ y.2) = true ∧ apartIds y.2 (x.1 ++ x.2) = true)
  | [], pre, j, hl, _, q, y, h, i, x, hi, hx => by simp at h
  | z :: r, pre, j, hl, hp, q, y, h, i, x, hi, hx => by
    cases q with
    | zero =>
      simp at h; subst h
      rw [List.getElem?_append_left (by omega)] at hx
      have := PreP.get hp.1 i x hx
      simpa using this
    | succ q =>
      have := LogP.get (pre := pre ++ [z]) (j := j + 1) (by simp [hl]) hp.2 q y (by simpa using h) i x (by omega) (by simpa using hx)
      rwa [show j + 1 + q = j + (q + 1) by omega] at this
theorem logOk_of {t : List Nat} {log : List (List Nat × List Nat)} (h : LogP t 0 [] log) : logOk t log = true := by
  unfold logOk
  refine List.all_eq_true.2 fun j hj => List.all_eq_true.2 fun i hi => ?_
  have hj := List.mem_range.1 hj
  have hi := List.mem_range.1 hi
  have e1 := List.getElem?_eq_getElem hj
  have e2 := List.getElem?_eq_getElem (show i < log.length by omega)
  have := LogP.get (pre := []) (j := 0) rfl h j _ e1 i _ (by omega) (show ([] ++ log)[i]? = some log[i] from e2)
  rw [Nat.zero_add] at this
  rw [e1, e2]
  simp only [Bool.or_eq_true]
  rcases this with h | ⟨h1, h2⟩ | ⟨h1, h2⟩
  · exact .inl h
  · right; simp [h1, h2]
  · right; simp [h1, h2]
theorem apart_nil (l : List Nat) : apartIds l ([] ++ []) = true := List.all_eq_true.2 fun x _ => rfl
/-- What a call leaves of its first entries. -/
def UsF (σ : Nat → Nat) (lc : List Nat) : Nat → List (Option Ent) → List (Nat × Option Ent) → Prop
  | _, [], [] => True
  | j, e :: r, p :: us => (p.1 = lc.getD j 0 ∧ p.2 = e.map (Ent.ren σ)) ∧ UsF σ lc (j + 1) r us
  | _, _, _ => False
theorem UsF.eq {σ : Nat → Nat} {lc : List Nat} : ∀ {L : List (Option Ent)} {us : List (Nat × Option Ent)} {j : Nat}, UsF σ lc j L us → us = (List.range L.length).map fun i => (lc.getD (j + i) 0, ((L[i]?).join).map (Ent.ren σ))
  | [], [], j, _ => rfl
  | e :: r, p :: us, j, h => by
    obtain ⟨⟨h1, h2⟩, h3⟩ := h
    rw [List.length_cons, List.range_succ_eq_map, List.map_cons, List.map_map, UsF.eq h3]
    congr 1
    · exact Prod.ext (by simpa using h1) (by simpa using h2)
    · exact List.map_congr_left fun i _ => by simp [Nat.add_assoc, Nat.add_comm 1 i]
  | [], _ :: _, _, h => h.elim
  | _ :: _, [], _, h => h.elim
section
variable {P : Program} {ops : Array Oper} {o : Oper} {r : List Oper} {n : Nat} {s : Slots} {E : Env} {d : Nat} {v : V}
variable {fop : Operand} {args : Array Operand} {ts : Array TypeId} {f : FuncId} {caps vs xs : List V}
theorem upds_fam {lc : List Nat} {b c : Nat} {F : List Ent} {Lc1 N : List (Option Ent)} {usc usn : List (Nat × Option Ent)} (hlc : lc.length = c) (hc : Lc1.length = c) (hnd : lc.Nodup) (hok : okF b lc = true) (hF : Fam E b F) (hP : ∀ e ∈ F, Plain e) (hb : b + F.length ≤ 100000) (hn : 100000 ≤ n) (hnl : ∀ i ∈ lc, i ≠ n) (hN : N.length ≤ 1)
    (h1 : UsF (sgC lc b c F.length n) lc 0 Lc1 usc) (h2 : usn = (List.range N.length).map fun i => (n, ((N[i]?).join).map (Ent.ren (sgC lc b c F.length n)))) :
    upds E ((List.range (Lc1 ++ (F.map some ++ N)).length).map fun j => (sgC lc b c F.length n j, (tab (Lc1 ++ (F.map some ++ N)) j).map (Ent.ren (sgC lc b c F.length n)))) = upds E (usc ++ usn) := by
  have hlen : (Lc1 ++ (F.map some ++ N)).length = c + F.length + N.length := by simp [hc]; omega
  generalize hσ : sgC lc b c F.length n = σ at *
  have s0 : ∀ j, j < c → σ j = lc.getD j 0 ∧ lc.getD j 0 ∈ lc := fun j hj => by
    subst hσ
    refine ⟨by unfold sgC; rw [if_pos hj], ?_⟩
    rw [List.getD_eq_getElem?_getD, List.getElem?_eq_getElem (by omega)]
    exact List.getElem_mem _
  have s1 : ∀ j, j < F.length → σ (c + j) = b + j := fun j hj => by subst hσ; unfold sgC; rw [if_neg (by omega), if_pos (by omega), Nat.add_sub_cancel_left]
  have s2 : ∀ j, σ (c + F.length + j) = n + j := fun j => by subst hσ; unfold sgC; rw [if_neg (by omega), if_neg (by omega), Nat.add_sub_cancel_left]
  have split3 : ∀ j, j < c + F.length + N.length → j < c ∨ (∃ q, q < F.length ∧ j = c + q) ∨ (N.length = 1 ∧ j = c + F.length) := fun j hj => by
    by_cases h1 : j < c
    · exact .inl h1
    · by_cases h2 : j < c + F.length
      · exact .inr (.inl ⟨j - c, by omega, by omega⟩)
      · exact .inr (.inr ⟨by omega, by omega⟩)
  have inj : ∀ i j, i < c + F.length + N.length → j < c + F.length + N.length → σ i = σ j → i = j := fun i j hi hj h => by
    rcases split3 i hi with a | ⟨q, a, rfl⟩ | ⟨a1, a⟩ <;> rcases split3 j hj with a' | ⟨q', a', rfl⟩ | ⟨a1', a'⟩
    · rw [(s0 i a).1, (s0 j a').1, List.getD_eq_getElem?_getD, List.getD_eq_getElem?_getD, List.getElem?_eq_getElem (by omega), List.getElem?_eq_getElem (by omega)] at h
      exact (List.getElem_inj hnd).1 h
    · rw [(s0 i a).1, s1 q' a'] at h
      have := okF_get hok (s0 i a).2
      omega
    · have := s2 0
      rw [a', (s0 i a).1] at h
      simp only [Nat.add_zero] at this
      rw [this] at h
      exact absurd h (hnl _ (s0 i a).2)
    · rw [(s0 j a').1, s1 q a] at h
      have := okF_get hok (s0 j a').2
      omega
    · rw [s1 q a, s1 q' a'] at h; omega
    · have := s2 0
      simp only [Nat.add_zero] at this
      rw [a', s1 q a, this] at h; omega
    · have := s2 0
      simp only [Nat.add_zero] at this
      rw [a, (s0 j a').1, this] at h
      exact absurd h.symm (hnl _ (s0 j a').2)
    · have := s2 0
      simp only [Nat.add_zero] at this
      rw [a, s1 q' a', this] at h; omega
    · omega
  have e2 : usc ++ usn = (List.range c ++ (List.range N.length).map (fun i => c + F.length + i)).map fun j => (σ j, (tab (Lc1 ++ (F.map some ++ N)) j).map (Ent.ren σ)) := by
    rw [List.map_append]
    congr 1
    · rw [UsF.eq h1, hc]
      exact List.map_congr_left fun j hj => by
        have hj := List.mem_range.1 hj
        rw [Nat.zero_add, (s0 j hj).1]
        congr 1
        unfold tab
        rw [List.getElem?_append_left (by omega)]
    · rw [h2, List.map_map]
      exact List.map_congr_left fun i hi => by
        have hi := List.mem_range.1 hi
        have h0 : i = 0 := by omega
        subst h0
        have s20 := s2 0
        simp only [Nat.add_zero] at s20
        simp only [Function.comp, Nat.add_zero, s20]
        congr 1
        unfold tab
        rw [List.getElem?_append_right (by omega), List.getElem?_append_right (by simp; omega)]
        congr 2
        rw [List.length_map]
        congr 1
        omega
  have nd2 : (List.range c ++ (List.range N.length).map (fun i => c + F.length + i)).Nodup := by
    refine List.nodup_append.2 ⟨List.nodup_range, ?_, fun a ha b' hb' => ?_⟩
    · rcases Nat.eq_zero_or_pos N.length with h0 | h0
      · rw [h0]; exact List.nodup_nil
      · rw [show N.length = 1 by omega]; simp [List.range_succ]
    · have := List.mem_range.1 ha
      obtain ⟨q, _, rfl⟩ := List.mem_map.1 hb'
      omega
  have in2 : ∀ j ∈ List.range c ++ (List.range N.length).map (fun i => c + F.length + i), j < c + F.length + N.length := fun j hj => by
    rcases List.mem_append.1 hj with h | h
    · have := List.mem_range.1 h; omega
    · obtain ⟨q, hq, rfl⟩ := List.mem_map.1 h
      have := List.mem_range.1 hq; omega
  rw [e2]
  funext i
  rcases upds_map E σ (fun j => (tab (Lc1 ++ (F.map some ++ N)) j).map (Ent.ren σ)) (List.range (Lc1 ++ (F.map some ++ N)).length) (fun x hx y hy => inj x y (by rw [← hlen]; exact List.mem_range.1 hx) (by rw [← hlen]; exact List.mem_range.1 hy)) List.nodup_range i with ⟨j, k1, k2, k3⟩ | ⟨k1, k2⟩
  · rw [k3]
    have hj : j < c + F.length + N.length := by rw [← hlen]; exact List.mem_range.1 k1
    rcases upds_map E σ (fun j => (tab (Lc1 ++ (F.map some ++ N)) j).map (Ent.ren σ)) (List.range c ++ (List.range N.length).map (fun i => c + F.length + i)) (fun x hx y hy => inj x y (in2 x hx) (in2 y hy)) nd2 i with ⟨j', l1, l2, l3⟩ | ⟨l1, l2⟩
    · rw [l3]
      rw [inj j j' hj (in2 j' l1) (k2.trans l2.symm)]
    · rw [l2]
      rcases split3 j hj with a | ⟨q, a, rfl⟩ | ⟨a1, a⟩
      · exact absurd k2 (l1 j (List.mem_append_left _ (List.mem_range.2 a)))
      · rw [s1 q a] at k2
        subst k2
        have hq : F[q]? = some F[q] := List.getElem?_eq_getElem a
        rw [hF q _ hq]
        unfold tab
        rw [List.getElem?_append_right (by omega), hc, Nat.add_sub_cancel_left, List.getElem?_append_left (by simpa using a), List.getElem?_map, hq]
        simp only [Option.map_some, Option.join_some]
        rw [(hP _ (List.getElem_mem a)).ren]
      · exact absurd k2 (l1 j (List.mem_append_right _ (List.mem_map.2 ⟨0, List.mem_range.2 (by omega), by omega⟩)))
  · rw [k2]
    rcases upds_map E σ (fun j => (tab (Lc1 ++ (F.map some ++ N)) j).map (Ent.ren σ)) (List.range c ++ (List.range N.length).map (fun i => c + F.length + i)) (fun x hx y hy => inj x y (in2 x hx) (in2 y hy)) nd2 i with ⟨j', l1, l2, l3⟩ | ⟨l1, l2⟩
    · exact absurd l2 (k1 j' (List.mem_range.2 (by rw [hlen]; exact in2 j' l1)))
    · rw [l2]
end
section
variable {P : Program} {ops : Array Oper} {o : Oper} {r : List Oper} {n : Nat} {s : Slots} {E : Env} {d : Nat} {v : V}
variable {fop : Operand} {args : Array Operand} {ts : Array TypeId} {f : FuncId} {caps vs xs : List V}
theorem box_sgC {lc : List Nat} {b c m z n pl is : Nat} {t : Bool} {x : Int} (hm : m = z) (hc : 2 ≤ c) (h1 : lc.getD 1 0 = is) : (⟨4, [.own is z, .own n pl, vB t, vI .i64 x], true⟩ : Ent) = (⟨4, [.own 1 z, .own (c + z) pl, vB t, vI .i64 x], true⟩ : Ent).ren (sgC lc b c m n) := by
  have e1 : sgC lc b c m n 1 = is := by unfold sgC; rw [if_pos (by omega)]; exact h1
  have e2 : sgC lc b c m n (c + z) = n := by subst hm; unfold sgC; rw [if_neg (by omega), if_neg (by omega), Nat.sub_self, Nat.add_zero]
  simp only [Ent.ren, List.map_cons, List.map_nil, V.ren1, V.ren0, e1, e2, vB, vI]
theorem GlF {R : List (List Nat × List Nat) → Nat → Slots → Env → Prop} {log : List (List Nat × List Nat)} (q : Nat) (lc : List Nat) {b c : Nat} {Lc F : List Ent} {Lc1 N : List (Option Ent)} {rr : V} (usc usn : List (Nat × Option Ent))
    (h : (n, runs ops s o.guard, o.dst, o.op, ev s fop, evs s args.toList) = (q, some true, some d, .call { callee := .value fop, args := args, argTypes := ts }, some (.fn f caps), some vs))
    (hv : VG P f xs (Lc ++ F) rr (Lc1 ++ (F.map some ++ N))) (hr : rr.ren (sgC lc b c F.length q) = v) (hF : Fam E b F) (hP : ∀ e ∈ F, Plain e) (hb : b + F.length ≤ 100000)
    (hx : Args E (rhC lc b c) (Lc ++ F).length [] (vs ++ caps) xs)
    (hl : AllT (fun j e => E (lc.getD j 0) = some (e.ren (rhC lc b c)) ∧ ([] : List Nat).contains (lc.getD j 0) = false ∧ ∀ v ∈ e.cells, ∀ i ∈ v.all1, i < c + F.length) 0 Lc)
    (h1 : UsF (sgC lc b c F.length q) lc 0 Lc1 usc) (h2 : usn = (List.range N.length).map fun i => (q, ((N[i]?).join).map (Ent.ren (sgC lc b c F.length q))))
    (h3 : ∀ LK W, VLog P ops r (q + 1) (setAt s d (some v)) (upds E (usc ++ usn)) (log ++ [(LK, W)]) R)
    (hcs : (Lc.length, Lc1.length, lc.length) = (c, c, c) := by rfl) (hnd : lc.Nodup := by decide) (hoks : (okF b lc && Nat.ble 100000 q && lc.all (fun i => !(i == q)) && Nat.ble N.length 1) = true := by rfl) : VLog P ops (o :: r) n s E log R := by
  simp only [Prod.mk.injEq] at h hcs; obtain ⟨rfl, g1, g2, g4, g5, g6⟩ := h
  obtain ⟨c1, c2, c3⟩ := hcs
  simp only [Bool.and_eq_true] at hoks
  obtain ⟨⟨⟨k1, k2⟩, k3⟩, k4⟩ := hoks
  have k2 := Nat.le_of_ble_eq_true k2
  have k4 := Nat.le_of_ble_eq_true k4
  have hlen : (Lc ++ F).length = c + F.length := by simp [c1]
  have nmE : nm (rhC lc b c) (Lc ++ F).length n = sgC lc b c F.length n := nm_sgC hlen
  have hcall : CallL P n s E (.call { callee := .value fop, args := args, argTypes := ts }) v (([] : List Nat).map (cool E) ++ (List.range (Lc1 ++ (F.map some ++ N)).length).map fun j => (sgC lc b c F.length n j, (tab (Lc1 ++ (F.map some ++ N)) j).map (Ent.ren (sgC lc b c F.length n)))) ((List.range (Lc ++ F).length).map (rhC lc b c) ++ []) := by
    have := CallL.mk (P := P) (id := n) (s := s) (E := E) fop args ts f caps vs xs (Lc ++ F) rr (Lc1 ++ (F.map some ++ N)) (rhC lc b c) [] _ g5 g6 hx (lent_fam c1 c3 hnd k1 (by rfl) hb hF hP hl) hv (by simp [c1, c2]; omega) rfl
    rw [nmE, hr] at this
    exact this
  refine .inl ⟨g1, some v, _, _, .inr ⟨v, rfl, by rw [g4]; exact hcall⟩, ?_⟩
  · have e := upds_fam (E := E) (n := n) c3 c2 hnd k1 hF hP hb k2 (fun i hi => by
      have := List.all_eq_true.1 k3 i hi
      simpa using this) k4 h1 h2
    rw [g2]
    show VLog P ops r (n + 1) (setAt s d (some v)) (upds E ([] ++ _)) _ R
    rw [List.nil_append, e]
    exact h3 _ _
end
end Go.VL

/- A small program logic over the translated Go code, further part: families that a function makes. -/
set_option linter.unusedVariables false
set_option linter.unusedSimpArgs false
namespace Go.VL
open Go.RowKit
theorem Fam.nil {E : Env} {b : Nat} : Fam E b (famD []) := fun j e h => by simp [famD] at h
def zRow : List Int := List.replicate 64 0
theorem famD_snoc {m : Nat} : famD (List.replicate (m + 1) zRow) = famD (List.replicate m zRow) ++ [rowK .u8 zRow] := by
  rw [List.replicate_succ', famD, famD, List.map_append]; rfl
theorem rowsD_new {z : Nat} : rowsD z (List.replicate (z * 64) 0) = List.replicate z zRow := by
  refine List.eq_replicate_iff.2 ⟨rowsD_len, fun b hb => ?_⟩
  simp only [rowsD, List.mem_map, List.mem_range] at hb
  obtain ⟨s, hs, rfl⟩ := hb
  rw [sec, List.drop_replicate, List.take_replicate, zRow]
  congr 1; omega
theorem new_hot {Lc1 : List (Option Ent)} {C : List (List Int)} (h : (Lc1.all fun | some e => e.hot | none => true) = true) : (((Lc1 ++ ((famD C).map some ++ [])).drop ([] : List Ent).length).all fun | some e => e.hot | none => true) = true := by
  rw [List.length_nil, List.drop_zero, List.all_append, List.append_nil, h, Bool.true_and, List.all_eq_true]
  intro x hx
  simp only [famD, List.map_map, List.mem_map] at hx
  obtain ⟨c, _, rfl⟩ := hx
  rfl
theorem WB1 {n1 b m : Nat} {s : Slots} {E : Env} {S1 : List (Nat × V)} {L1 : List (Nat × Ent)} {F F1 : List Ent} {e0 : Ent} (l : List (Nat × Nat)) (q : Nat) (hm : F.length = m) (hF : Fam E b F) (hP : ∀ e ∈ F, Plain e) (he : E q = some e0) (hP0 : Plain e0) (hF1 : F1 = F ++ [e0]) (hb : b + m + 1 ≤ 100000)
    (h2 : AllE (fun i e => E (rhB b l m q i) = some (e.ren (rhB b l m q)) ∧ i < n1 ∧ ∀ v ∈ e.cells, v.all1.all (fun i => decide (i < n1)) = true) L1)
    (hc : (ckA b l (L1.map (·.1)) && decide (100000 ≤ q) && !((L1.map (·.1)).map (rl l)).contains q) = true := by rfl) (hn : Nat.ble 100000 n1 = true := by rfl)
    (h1 : AllS (fun t x => s t = some (x.ren (rhB b l m q)) ∧ x.all.all (fun i => decide (i < n1)) = true) S1 := by repeat' (first | exact trivial | refine ⟨⟨rfl, rfl⟩, ?_⟩)) :
    Weak 0 s E n1 (sl S1) (enF L1 b F1) := by
  subst hm
  exact WB l q hF hP he hP0 hF1 hb h2 hc hn h1
section
variable {P : Program} {s : Slots} {E : Env} {n : Nat} {e : VExit} {fn : Func} {r : V}
/-- The end of a function that makes a family. -/
theorem GgN {c b : Nat} {F F' : List Ent} {Lc1 Lc1' : List (Option Ent)} {r' : V} {l : List V} (lc : List Nat) (hg : ResG P s E (rhC lc b c) (Lc1' ++ (F'.map some ++ [])) fn.results.toList l) (ho : ResOf l r') (hr : r' = r) (hF : Fam E b F') (hP : ∀ e ∈ F', Plain e) (hb : b + F'.length ≤ 100000)
    (h1 : AllO (fun j e => E (lc.getD j 0) = some (e.ren (rhC lc b c)) ∧ ∀ v ∈ e.cells, ∀ i ∈ v.all1, i < c + F'.length) 0 Lc1') (hL : (Lc1', F') = (Lc1, F)) (hcs : (Lc1'.length, lc.length) = (c, c) := by rfl) (hok : okF b lc = true := by rfl) (hnd : lc.Nodup := by decide) (he : match (generalizing := false) e with | .exit _ => False | _ => True := by trivial) :
    PostG P fn 0 r (Lc1 ++ (F.map some ++ [])) e n s E := by
  simp only [Prod.mk.injEq] at hL
  obtain ⟨rfl, rfl⟩ := hL
  exact postG he (WeakR.famN lc hcs hF hP hb hok hnd h1) hg ho hr rfl
theorem low_in {x : V} {c : Nat} {Lc1 : List (Option Ent)} {L2 : List (Option Ent)} (hc : Lc1.length = c) (h : x.all.all (fun i => decide (i < c)) = true) : x.all.all (fun i => decide (i < (Lc1 ++ L2).length)) = true := by
  rw [List.all_eq_true] at h ⊢
  intro i hi
  have := of_decide_eq_true (h i hi)
  exact decide_eq_true (by rw [List.length_append, hc]; omega)
end
section
variable {P : Program} {ops : Array Oper} {o : Oper} {r : List Oper} {n d : Nat} {s : Slots} {E : Env} {Q : Nat → Slots → Env → Prop} {v : V}
variable {fop : Operand} {args : Array Operand} {ts : Array TypeId} {f : FuncId} {caps vs xs : List V}
/-- The caller's number for the callee's. -/
def nw (q j : Nat) : Nat := q + j
theorem safe_nw {q c m b : Nat} (hb : b = q + c) : safeE b m = (safeE c m).ren (nw q) := (safe_ren fun j _ => by unfold nw; omega).symm
/-- A call that makes a family. -/
theorem GmN (q : Nat) {c b : Nat} {F : List Ent} {Lc1 : List (Option Ent)} {rr : V} (L2 : List (Nat × Ent)) (h : (n, runs ops s o.guard, o.dst, o.op, ev s fop, evs s args.toList) = (q, some true, some d, .call { callee := .value fop, args := args, argTypes := ts }, some (.fn f caps), some vs))
    (hv : VG P f xs [] rr (Lc1 ++ (F.map some ++ []))) (hr : rr.ren (nw q) = v) (hP : ∀ e ∈ F, Plain e) (hb : b + F.length ≤ 100000) (hx : Args E id 0 [] (vs ++ caps) xs)
    (ha : AllE (fun i e => (∃ j e0, j < c ∧ Lc1[j]? = some (some e0) ∧ q + j = i ∧ e = e0.ren (nw q)) ∨ (E i = some e ∧ i < q)) L2)
    (h3 : VList P ops r 100000 (setAt s d (some v)) (enF L2 b F) Q) (hcs : (Lc1.length, b) = (c, q + c) := by rfl) (hoks : okF b (L2.map (·.1)) = true := by rfl) : VList P ops (o :: r) n s E Q := by
  simp only [Prod.mk.injEq] at h hcs; obtain ⟨rfl, h1, h2, h4, h5, h6⟩ := h
  obtain ⟨c1, rfl⟩ := hcs
  have e0 : nm id ([] : List Ent).length n = nw n := by
    funext j; unfold nm nw; rw [List.length_nil, if_neg (by omega)]; omega
  have hcg : CallG P n s E (.call { callee := .value fop, args := args, argTypes := ts }) (rr.ren (nm id ([] : List Ent).length n)) 100000 (enF L2 (n + c) F) := by
    refine CallG.mk fop args ts f caps vs xs [] rr _ id [] 100000 _ h5 h6 hx ⟨fun j e he => (by simp at he), fun i j hi => (by simp at hi)⟩ hv ?_ (fun i e he => ?_)
    · simp only [List.length_append, List.length_map, c1, List.length_nil]; omega
    · rw [e0]
      rcases enF_inv he with h | ⟨j, rfl, h⟩
      · rcases ha.get _ (lookup_mem h) with ⟨j, e', h1, h2, h3, h4⟩ | ⟨h1, h2⟩
        · exact .inl ⟨j, e', by rw [List.getElem?_append_left (by omega)]; exact h2, h3, h4⟩
        · exact .inr ⟨h1, fun j hj => by simp at hj⟩
      · have hj := (List.getElem?_eq_some_iff.1 h).1
        refine .inl ⟨c + j, e, ?_, by unfold nw; omega, ((hP e (List.mem_of_getElem? h)).ren _).symm⟩
        rw [List.getElem?_append_right (by omega), c1, Nat.add_sub_cancel_left, List.append_nil, List.getElem?_map, h]; rfl
  refine VList.goV h1 h2 (by rw [h4]; exact hcg) ?_ h3
  rw [e0]; exact hr
/-- A call that is not lent the family. -/
theorem GmK (q q2 : Nat) (l nv : List Nat) {b : Nat} {F L0 : List Ent} {L1 : List (Option Ent)} {rr : V} (L2 : List (Nat × Ent)) (h : (n, runs ops s o.guard, o.dst, o.op, ev s fop, evs s args.toList) = (q, some true, some d, .call { callee := .value fop, args := args, argTypes := ts }, some (.fn f caps), some vs)) (hv : VG P f xs L0 rr L1) (hr : rr.ren (nm (rho l) L0.length q) = v)
    (hF : Fam E b F) (hb : b + F.length ≤ 100000)
    (h3 : VList P ops r q2 (setAt s d (some v)) (enF L2 b F) Q)
    (hx : Args E (rho l) L0.length nv (vs ++ caps) xs := by repeat' (first | exact Args.nil | refine Args.name _ _ _ _ rfl rfl ?_ | refine Args.val _ _ _ _ (by first | rfl | exact Rr rfl | exact Ra rfl) rfl ?_))
    (hl : Lent E (rho l) nv L0 := by refine Lent.of rfl (by decide) ?_; repeat' (first | exact trivial | refine ⟨⟨by first | exact rowK_ren' | exact rowT_ren' | rfl, rfl, by first | exact row_cellsK | exact rowT_cells | exact cells_of rfl⟩, ?_⟩))
    (ha : AllE (fun i e => (∃ j e0, L1[j]? = some (some e0) ∧ nm (rho l) L0.length q j = i ∧ e = e0.ren (nm (rho l) L0.length q)) ∨ (upds E (nv.map (cool E)) i = some e ∧ l.contains i = false)) L2 := by
      repeat' (first | exact trivial | refine ⟨.inl ⟨0, _, rfl, rfl, by first | exact rowK_ren.symm | exact rowT_ren.symm | rfl⟩, ?_⟩ | refine ⟨.inl ⟨1, _, rfl, rfl, by first | exact rowK_ren.symm | exact rowT_ren.symm | rfl⟩, ?_⟩ | refine ⟨.inl ⟨2, _, rfl, rfl, by first | exact rowK_ren.symm | exact rowT_ren.symm | rfl⟩, ?_⟩ | refine ⟨.inl ⟨3, _, rfl, rfl, by first | exact rowK_ren.symm | exact rowT_ren.symm | rfl⟩, ?_⟩ | refine ⟨.inr ⟨rfl, rfl⟩, ?_⟩))
    (hk : l.length = L0.length := by rfl) (hoks : (okF b l && okF b nv && Nat.ble (q + (L1.length - L0.length)) q2) = true := by rfl) : VList P ops (o :: r) n s E Q := by
  simp only [Prod.mk.injEq] at h; obtain ⟨rfl, h1, h2, h4, h5, h6⟩ := h
  simp only [Bool.and_eq_true] at hoks
  obtain ⟨⟨k1, k2⟩, k3⟩ := hoks
  refine VList.goV h1 h2 (h4 ▸ .mk _ _ _ _ _ _ _ _ _ _ _ nv _ (enF L2 b F) h5 h6 hx hl hv (Nat.le_of_ble_eq_true k3) (fun i e he => ?_)) hr h3
  rcases enF_inv he with h | ⟨j, rfl, h⟩
  · rcases ha.get _ (lookup_mem h) with h | ⟨h1, h2⟩
    · exact .inl h
    · refine .inr ⟨h1, fun j hj e => ?_⟩
      simp only [rho, List.getD_eq_getElem?_getD] at e
      rw [List.getElem?_eq_getElem (by omega)] at e
      have : i ∈ l := by rw [← e]; exact List.getElem_mem _
      simp [this] at h2
  · have hj := (List.getElem?_eq_some_iff.1 h).1
    refine .inr ⟨?_, fun j' hj' e => ?_⟩
    · rw [upds_app]
      · exact hF j _ h
      · intro p hp
        obtain ⟨x, hx, rfl⟩ := List.mem_map.1 hp
        have := okF_get k2 hx
        simp only [cool]
        omega
    · simp only [rho, List.getD_eq_getElem?_getD] at e
      rw [List.getElem?_eq_getElem (by omega)] at e
      have := okF_get k1 (List.getElem_mem (h := by omega) : l[j'] ∈ l)
      simp only [Option.getD_some] at e
      omega
end
end Go.VL

/- A small program logic over the translated Go code, further part: a row of names of a family of rows, whose rows grow. -/
set_option linter.unusedVariables false
set_option linter.unusedSimpArgs false
namespace Go.VL
open Go.RowKit
/-- Rows of byte strings, told by their contents. -/
def cwB (L : List (List Int)) : List B := [slT 1 rwB L]
theorem cwB_len : ∀ l, (cwB l).length = 1 := fun _ => rfl
abbrev Css := List (List (List Int))
def famT (C : Css) : List Ent := C.map (rowT 1 rwB)
theorem famT_len {C : Css} : (famT C).length = C.length := by simp [famT]
theorem famT_plain {C : Css} : ∀ e ∈ famT C, Plain e := fun e he => by
  obtain ⟨c, _, rfl⟩ := List.mem_map.1 he
  exact plainT
theorem famT_at {C : Css} {s : Nat} (h : s < C.length) : (famT C)[s]? = some (rowT 1 rwB (C.getD s [])) := by simp [famT, h]
theorem famT_set {C : Css} {s : Nat} {L : List (List Int)} : famT (C.set s L) = (famT C).set s (rowT 1 rwB L) := by simp [famT, List.map_set]
theorem famT_snoc {m : Nat} {L : List (List Int)} : famT (List.replicate (m + 1) L) = famT (List.replicate m L) ++ [rowT 1 rwB L] := by
  rw [List.replicate_succ', famT, famT, List.map_append]; rfl
theorem Fam.nilT {E : Env} {b : Nat} : Fam E b (famT []) := fun j e h => by simp [famT] at h
/-- The row of names: k cells are nil still. -/
def hdrL (b : Nat) (C : Css) : List V := (List.range C.length).map fun j => .own (b + j) (C.getD j []).length
def hdr (b : Nat) (C : Css) (k : Nat) : Ent := ⟨1, hdrL b C ++ List.replicate k (.b .nil), true⟩
section
variable {b k s q n n1 i : Nat} {C : Css} {E : Env} {l : List (Nat × Nat)} {ρ : Nat → Nat}
theorem hdrL_len : (hdrL b C).length = C.length := by simp [hdrL]
theorem hdr_len : (hdr b C k).cells.length = C.length + k := by simp [hdr, hdrL]
theorem hdr_at (h : s < C.length) : (hdr b C k).cells[s]? = some (.own (b + s) (C.getD s []).length) := by
  rw [hdr, List.getElem?_append_left (by rw [hdrL_len]; exact h)]; simp [hdrL, h]
theorem hdr_nil (h : s = C.length) (hk : 0 < k) : (hdr b C k).cells[s]? = some (.b .nil) := by
  subst h
  rw [hdr, List.getElem?_append_right (by rw [hdrL_len]; omega), hdrL_len, Nat.sub_self, List.getElem?_replicate, if_pos hk]
theorem hdrL_low {v : V} (hv : v ∈ hdrL b C) : ∀ i ∈ v.all1, i < b + C.length := fun i hi => by
  simp only [hdrL, List.mem_map, List.mem_range] at hv
  obtain ⟨j, hj, rfl⟩ := hv
  simp [V.all1, V.all0] at hi; omega
theorem hdr_low (h : b + C.length ≤ n1) : ∀ v ∈ (hdr b C k).cells, v.all1.all (fun i => decide (i < n1)) = true := fun v hv => by
  refine List.all_eq_true.2 fun i hi => decide_eq_true ?_
  simp only [hdr, List.mem_append, List.mem_replicate] at hv
  rcases hv with hv | ⟨_, rfl⟩
  · have := hdrL_low hv i hi; omega
  · simp [V.all1, V.all0] at hi
theorem hdrL_ren (h : ∀ j, j < C.length → ρ (b + j) = b + j) : (hdrL b C).map (V.ren1 ρ) = hdrL b C := by
  simp only [hdrL, List.map_map]
  exact List.map_congr_left fun j hj => by
    simp only [Function.comp, V.ren1, V.ren0]
    rw [h j (List.mem_range.1 hj)]
theorem nil_ren : (List.replicate k (V.b .nil)).map (V.ren1 ρ) = List.replicate k (V.b .nil) := by rw [List.map_replicate]; rfl
theorem hdr_ren (h : ∀ j, j < C.length → ρ (b + j) = b + j) : (hdr b C k).ren ρ = hdr b C k := by
  simp only [hdr, Ent.ren, List.map_append, hdrL_ren h, nil_ren]
theorem hdr_rhA (hn : b + C.length ≤ 100000) (h : E i = some (hdr b C k)) : E i = some ((hdr b C k).ren (rhA b l)) := by
  rw [hdr_ren (fun j hj => rhA_fam (by omega) (by omega))]; exact h
/-- The first nil cell is set to a new row. -/
theorem hdr_grow (hs : s = C.length) : (hdr b C (k + 1)).cells.set s (.own q n) = hdrL b C ++ (.own q n :: List.replicate k (.b .nil)) := by
  subst hs
  rw [hdr, List.replicate_succ, List.set_append_right _ _ (by rw [hdrL_len]; omega), hdrL_len, Nat.sub_self]; rfl
theorem hdr_rhB {L : List (List Int)} (hs : s = C.length) (hm : b + C.length < 100000) (hn : n = L.length) (h : E i = some ⟨1, (hdr b C (k + 1)).cells.set s (.own q n), true⟩) : E i = some ((hdr b (C ++ [L]) k).ren (rhB b l C.length q)) := by
  rw [h, hdr_grow hs]
  simp only [hdr, Ent.ren, Option.some.injEq, Ent.mk.injEq, true_and, and_true, List.map_append, nil_ren]
  have e : (hdrL b (C ++ [L])).map (V.ren1 (rhB b l C.length q)) = hdrL b C ++ [.own q n] := by
    simp only [hdrL, List.length_append, List.length_singleton, List.range_succ, List.map_append, List.map_map]
    congr 1
    · exact List.map_congr_left fun j hj => by
        have := List.mem_range.1 hj
        simp only [Function.comp, V.ren1, V.ren0, rhB]
        rw [if_neg (by omega), if_neg (by omega), List.getD_eq_getElem?_getD, List.getD_eq_getElem?_getD, List.getElem?_append_left this]
    · simp only [List.map_cons, List.map_nil, Function.comp, V.ren1, V.ren0, rhB]
      rw [if_neg (by omega), if_pos trivial, hn, List.getD_eq_getElem?_getD, List.getElem?_append_right (Nat.le_refl _), Nat.sub_self]; rfl
  rw [e, List.append_assoc]; rfl
/-- A cell is set to a new row in place of an old one. -/
theorem hdr_rhU {L : List (List Int)} (hs : s < C.length) (hm : b + C.length ≤ 100000) (hn : n = L.length) (h : E i = some ⟨1, (hdr b C 0).cells.set s (.own q n), true⟩) : E i = some ((hdr b (C.set s L) 0).ren (rhB b l s q)) := by
  rw [h]
  simp only [hdr, Ent.ren, Option.some.injEq, Ent.mk.injEq, true_and, and_true, List.replicate_zero, List.append_nil]
  apply List.ext_getElem?
  intro j
  rw [List.getElem?_set, hdrL_len, List.getElem?_map]
  by_cases hj : j < C.length
  · have h2 : (hdrL b (C.set s L))[j]? = some (.own (b + j) ((C.set s L).getD j []).length) := by simp [hdrL, hj]
    have h3 : (hdrL b C)[j]? = some (.own (b + j) (C.getD j []).length) := by simp [hdrL, hj]
    rw [h2, h3]
    by_cases hsj : s = j
    · subst hsj
      rw [if_pos rfl, if_pos hj]
      simp only [Option.map_some, V.ren1, V.ren0, rhB]
      rw [if_neg (by omega), if_pos trivial, hn]
      simp [List.getD_eq_getElem?_getD, hj]
    · rw [if_neg hsj]
      simp only [Option.map_some, V.ren1, V.ren0, rhB]
      rw [if_neg (by omega), if_neg (by omega)]
      simp [List.getD_eq_getElem?_getD, hj, hsj]
  · have z1 : (hdrL b (C.set s L))[j]? = none := List.getElem?_eq_none (by rw [hdrL_len, List.length_set]; omega)
    have z2 : (hdrL b C)[j]? = none := List.getElem?_eq_none (by rw [hdrL_len]; omega)
    rw [z1, z2]
    by_cases hsj : s = j
    · omega
    · rw [if_neg hsj]; rfl
end
/-- A row of the family is put in place of another. -/
theorem WU {n1 b sx : Nat} {s : Slots} {E : Env} {S1 : List (Nat × V)} {L1 : List (Nat × Ent)} {F F1 : List Ent} {e0 : Ent} (l : List (Nat × Nat)) (q : Nat) (hF : ∀ j e, F[j]? = some e → j ≠ sx → E (b + j) = some e) (hs : sx < F.length) (hP : ∀ e ∈ F, Plain e) (he : E q = some e0) (hP0 : Plain e0) (hF1 : F1 = F.set sx e0) (hb : b + F.length ≤ 100000)
    (h2 : AllE (fun i e => E (rhB b l sx q i) = some (e.ren (rhB b l sx q)) ∧ i < n1 ∧ ∀ v ∈ e.cells, v.all1.all (fun i => decide (i < n1)) = true) L1)
    (hc : (ckA b l (L1.map (·.1)) && decide (100000 ≤ q) && !((L1.map (·.1)).map (rl l)).contains q) = true := by rfl) (hn : Nat.ble 100000 n1 = true := by rfl)
    (h1 : AllS (fun t x => s t = some (x.ren (rhB b l sx q)) ∧ x.all.all (fun i => decide (i < n1)) = true) S1 := by repeat' (first | exact trivial | refine ⟨⟨rfl, rfl⟩, ?_⟩)) :
    Weak 0 s E n1 (sl S1) (enF L1 b F1) := by
  subst hF1
  have hn := Nat.le_of_ble_eq_true hn
  simp only [ckA, Bool.and_eq_true, decide_eq_true_eq, Bool.not_eq_true'] at hc
  obtain ⟨⟨⟨⟨⟨c1, c2⟩, c3⟩, c4⟩, c5⟩, c6⟩ := hc
  have far : ∀ i ∈ L1.map (·.1), rhB b l sx q i = rl l i ∧ (rl l i < b ∨ 100000 ≤ rl l i) ∧ rl l i ≠ q := fun i hi => by
    have e1 := okF_get c2 hi
    have hm : rl l i ∈ (L1.map (·.1)).map (rl l) := List.mem_map.2 ⟨i, hi, rfl⟩
    refine ⟨by unfold rhB; rw [if_pos e1], okF_get c3 hm, fun h => ?_⟩
    rw [h] at hm
    have h7 : ((L1.map (·.1)).map (rl l)).contains q = true := List.elem_eq_true_of_mem hm
    rw [h7] at c6; cases c6
  have fam : ∀ j, j < F.length → j ≠ sx → rhB b l sx q (b + j) = b + j := fun j hj hne => by unfold rhB; rw [if_neg (by omega), if_neg (by omega)]
  have last : rhB b l sx q (b + sx) = q := by unfold rhB; rw [if_neg (by omega), if_pos rfl]
  have two : ∀ i, b ≤ i ∧ i < b + (F.set sx e0).length → (i < b + F.length ∧ i ≠ b + sx ∧ rhB b l sx q i = i) ∨ (i = b + sx ∧ rhB b l sx q i = q) := fun i hi => by
    rw [List.length_set] at hi
    by_cases h : i = b + sx
    · exact .inr ⟨h, by rw [h]; exact last⟩
    · obtain ⟨j, rfl⟩ : ∃ j, i = b + j := ⟨i - b, by omega⟩
      exact .inl ⟨by omega, h, fam j (by omega) (by omega)⟩
  refine WeakF (rhB b l sx q) (Nat.zero_le _) (fun i hi => by omega) h1 h2 (fun j e hj => ?_) (by rw [List.length_set]; omega) (fun i j hi hj h => ?_)
  · rw [List.getElem?_set] at hj
    by_cases hjs : sx = j
    · subst hjs
      rw [if_pos rfl, if_pos hs] at hj
      injection hj with hj
      subst hj
      rw [last]
      exact ⟨he, hP0⟩
    · rw [if_neg hjs] at hj
      have hl := (List.getElem?_eq_some_iff.1 hj).1
      rw [fam j hl (fun h => hjs h.symm)]
      exact ⟨hF j e hj (fun h => hjs h.symm), hP e (List.mem_of_getElem? hj)⟩
  · rcases hi with hi | hi <;> rcases hj with hj | hj
    · rw [(far i hi).1, (far j hj).1] at h
      have := List.all_eq_true.1 (List.all_eq_true.1 c4 i hi) j hj
      simpa [h] using this
    · obtain ⟨f1, f2, f3⟩ := far i hi
      rw [f1] at h
      rcases two j hj with ⟨g1, g0, g2⟩ | ⟨g1, g2⟩
      · rw [g2] at h; omega
      · rw [g2] at h; exact absurd h f3
    · obtain ⟨f1, f2, f3⟩ := far j hj
      rw [f1] at h
      rcases two i hi with ⟨g1, g0, g2⟩ | ⟨g1, g2⟩
      · rw [g2] at h; omega
      · rw [g2] at h; exact absurd h.symm f3
    · rcases two i hi with ⟨g1, g0, g2⟩ | ⟨g1, g2⟩ <;> rcases two j hj with ⟨k1, k0, k2⟩ | ⟨k1, k2⟩
      · rw [g2, k2] at h; exact h
      · rw [g2, k2] at h; omega
      · rw [g2, k2] at h; omega
      · omega
theorem upds_cool {E : Env} {x : Nat} : ∀ (nv : List Nat) (E0 : Env), upds E0 (nv.map (cool E)) x = if x ∈ nv then (cool E x).2 else E0 x
  | [], E0 => by simp [upds]
  | y :: nv, E0 => by
    rw [List.map_cons, upds, upds_cool nv]
    by_cases h : x ∈ nv
    · rw [if_pos h, if_pos (List.mem_cons_of_mem _ h)]
    · rw [if_neg h]
      by_cases hy : x = y
      · subst hy; rw [if_pos (List.mem_cons_self)]; exact setAt_self _ _ _
      · rw [if_neg (by simp [h, hy])]; exact setAt_ne _ _ hy
/-- All rows told by their contents. -/
theorem Weak.convA {k n1 b : Nat} (ih : Nat) {s : Slots} {E : Env} {S1 : List (Nat × V)} {L1 : List (Nat × Ent)} {C : Css} (hF : Fam E b (famT C)) (hh : E ih = some (hdr b C 0)) (hb : b + C.length ≤ 100000)
    (h2 : AllE (fun i e => ((i = ih ∧ e = rowT 1 cwB C) ∨ E i = some e) ∧ i < n1 ∧ ∀ v ∈ e.cells, v.all1.all (fun i => decide (i < n1)) = true) L1)
    (h1 : AllS (fun t x => s t = some x ∧ x.all.all (fun i => decide (i < n1)) = true) S1 := by repeat' (first | exact trivial | refine ⟨⟨rfl, rfl⟩, ?_⟩)) (hok : okF b (ih :: L1.map (·.1)) = true := by rfl) (hk : k ≤ n1 := by exact Nat.zero_le _) : Weak k s E n1 (sl S1) (en L1) := by
  have out : ∀ i, i < b ∨ 100000 ≤ i → upds E (((List.range C.length).map (b + ·)).map (cool E)) i = E i := fun i hi => by
    rw [upds_cool, if_neg]
    intro h
    obtain ⟨j, hj, rfl⟩ := List.mem_map.1 h
    have := List.mem_range.1 hj
    omega
  refine .inr ⟨(List.range C.length).map (b + ·), sl S1, en L1, fun i => i, ⟨fun t y ht => ?_, fun i e1 he => ?_⟩, hk, fun _ _ => rfl, fun t x ht => ?_, fun i e he => ?_, fun i j e e' _ _ h => h⟩
  · exact ⟨y, (h1.get _ (lookup_mem ht)).1, .inl rfl⟩
  · have hi := okF_get hok (List.mem_cons_of_mem _ (List.mem_map.2 ⟨_, lookup_mem he, rfl⟩))
    rcases (h2.get _ (lookup_mem he)).1 with ⟨rfl, rfl⟩ | h
    · refine ⟨hdr b C 0, by rw [out i hi]; exact hh, rfl, rfl, ?_, fun j y hj => ?_⟩
      · simp only [rowT, List.length_map, cellsT_len cwB_len, hdr_len]; omega
      · have hjl : j < C.length := by
          have := (List.getElem?_eq_some_iff.1 hj).1
          simp only [rowT, List.length_map, cellsT_len cwB_len] at this; omega
        refine ⟨_, hdr_at hjl, ?_⟩
        have e1 := rowT_cell (f := cwB) (sz := 1) (L := C) (j := j) (k := 0) cwB_len (gd (d := []) hjl) rfl (by decide)
        rw [Nat.mul_one, Nat.add_zero, hj] at e1
        injection e1 with e1
        rw [e1]
        refine cv_ownT rwB_len ?_ rfl
        rw [upds_cool, if_pos (List.mem_map.2 ⟨j, List.mem_range.2 hjl, rfl⟩)]
        have := hF j _ (famT_at hjl)
        simp only [cool, this, Option.map_some]
    · exact ⟨e1, by rw [out i hi]; exact h, rfl, rfl, rfl, fun j y hj => ⟨y, hj, .inl rfl⟩⟩
  · obtain ⟨_, a2⟩ := h1.get _ (lookup_mem ht)
    exact ⟨by rw [V.ren_id]; exact ht, fun i hi => by simpa using List.all_eq_true.1 a2 i hi⟩
  · obtain ⟨_, a2, a3⟩ := h2.get _ (lookup_mem he)
    exact ⟨by rw [Ent.ren_id]; exact he, a2, fun v hv j hj => by simpa using List.all_eq_true.1 (a3 v hv) j hj⟩
section
variable {P : Program} {ops : Array Oper} {o : Oper} {n : Nat} {s : Slots} {E : Env} {T el by' : Nat} {x y p : Operand} {i j d m off : Nat} {v w : V} {ik : IntKind} {e : Ent}
theorem MkN {a : Int} (q : Nat) (hu : P.underlying T = some (.slice el)) (hz : (zeroOf P el).map (List.map nilB) = some [.nil]) (hs : szOf P el = some 1) (hb : (P.info? el).map (·.bytes) = some by')
    (h : (runs ops s o.guard, o.dst, o.op, ev s x, n, Nat.ble by' 1000) = (some true, some d, .makeSlice T x x, some (vI ik a), q, true)) (h0 : 0 ≤ a := by omega) (h1 : a ≤ 100000000000 := by omega) :
    Stp P ops o n s E (q + 1) (setAt s d (some (.own q a.toNat))) (setAt E q (some ⟨1, List.replicate a.toNat (.b .nil), true⟩)) [q] := by
  simp only [Prod.mk.injEq] at h; obtain ⟨b1, b2, b3, b4, rfl, b5⟩ := h
  have b5 := Nat.le_of_ble_eq_true b5
  refine st1 b1 b2 (b3 ▸ ?_)
  have hm : (by' : Int) * a ≤ 1000 * 100000000000 := Int.le_trans (Int.mul_le_mul_of_nonneg_right (show (by' : Int) ≤ 1000 by omega) h0) (by omega)
  have := Eff.makeN (P := P) (id := n) (E := E) T x a el [.nil] by' ik b4 hu hz hs hb (by simp) h0 (by omega) (by omega)
  have e : (some ⟨[B.nil].length, ((List.replicate a.toNat [B.nil]).flatten).map .b, true⟩ : Option Ent) = some ⟨1, List.replicate a.toNat (.b .nil), true⟩ := by
    rw [show (List.replicate a.toNat [B.nil]).flatten = List.replicate a.toNat B.nil by
      rw [List.flatten_replicate_singleton], List.map_replicate]; rfl
  rw [e] at this
  exact this
theorem So {q m : Nat} (hn : szOf P T = some 1) (h : (runs ops s o.guard, o.dst, o.op, ev s p, ev s x) = (some true, none, .store T p x, some (.ptr i off), some (.own q m))) (he : E i = some e) (hh : e.hot = true) (hl : off < e.cells.length) :
    Stp P ops o n s E (n + 1) s (setAt E i (some { e with cells := e.cells.set off (.own q m) })) [i] := by
  simp only [Prod.mk.injEq] at h
  exact stS h.1 h.2.1 (h.2.2.1 ▸ .store1 _ _ _ _ _ _ _ h.2.2.2.1 he hh h.2.2.2.2 rfl hn hl rfl)
theorem AoF {α : Type} {sz : Nat} {f : α → List B} {A : List α} {x1 : α} (q : Nat) (hu : P.underlying T = some (.slice el)) (hs : szOf P el = some sz) (hb : (P.info? el).map (·.bytes) = some by') (hz : (zeroOf P el).map List.length = some sz)
    (h : (n, runs ops s o.guard, o.dst, o.op, ev s x, ev s y, E j) = (q, some true, some d, .call { callee := .builtin .append, args := #[x, y], argTypes := #[T, T] }, some (.own i m), some (.own j 1), some ⟨sz, (f x1).map .b, true⟩)) (he : E i = some (rowT sz f A)) (hij : j ≠ i) (hf : ∀ x, (f x).length = sz) (hA : A.length = m)
    (hm : (m + 1) * by' ≤ 140737488355328 ∧ m + 1 ≤ maxLen) :
    Stp P ops o n s E (q + 1) (setAt s d (some (.own q (m + 1)))) (setAt (setAt E i none) q (some (rowT sz f (A ++ [x1])))) [i, q] := by
  simp only [Prod.mk.injEq] at h
  obtain ⟨rfl, h1, h2, h3, h4, h6, h7⟩ := h
  have := Eff.appendOO (P := P) (id := n) x y T el i m (rowT sz f A) j 1 ⟨sz, (f x1).map .b, true⟩ by' h4 he rfl (by simp only [rowT, List.length_map, cellsT_len hf, hA]) h6 h7 rfl (by simp [rowT, hf]) hij (by decide) hu hs hb hz hm.1 hm.2
  have e : (⟨(rowT sz f A).sz, (rowT sz f A).cells ++ (⟨sz, (f x1).map .b, true⟩ : Ent).cells.take (1 * (rowT sz f A).sz), true⟩ : Ent) = rowT sz f (A ++ [x1]) := by
    simp only [rowT, Nat.one_mul]
    rw [List.take_of_length_le (by simp [hf])]
    simp [cellsT, List.flatMap_append]
  rw [e] at this
  exact st2 h1 h2 (h3 ▸ this)
end
section
variable {b k k0 s q n n1 i : Nat} {C C1 : Css} {E : Env} {l : List (Nat × Nat)}
theorem hdr_rhA' (k0 : Nat) (hk : k0 = k) (hn : b + C.length ≤ 100000) (h : E i = some (hdr b C k0)) : E i = some ((hdr b C k).ren (rhA b l)) := by subst hk; exact hdr_rhA hn h
theorem hdr_rhB' {m : Nat} {L : List (List Int)} (k0 : Nat) (hk : k0 = k + 1) (C : Css) (hC : C1 = C ++ [L]) (hm : C.length = m) (hb : b + m < 100000) (hn : n = L.length) (h : E i = some ⟨1, (hdr b C k0).cells.set m (.own q n), true⟩) : E i = some ((hdr b C1 k).ren (rhB b l m q)) := by
  subst hk hC hm; exact hdr_rhB rfl hb hn h
theorem hdrS_low (h : b + C.length ≤ n1) (hq : q < n1) : ∀ v ∈ (hdr b C k).cells.set s (.own q n), v.all1.all (fun i => decide (i < n1)) = true := fun v hv => by
  rcases List.mem_or_eq_of_mem_set hv with h1 | rfl
  · exact hdr_low h v h1
  · simp [V.all1, V.all0, hq]
end
theorem ap1 {a b c : Nat} {l m : List Nat} (hl : l = [c]) (hm : m = []) (h1 : a ≠ c) (h2 : b ≠ c) : apartIds [a, b] (l ++ m) = true := by
  subst hl hm
  simp [apartIds, h1, h2]
end Go.VL

/- The disk: what a sector holds behind a Boot is what was durable, or a pending write, but for one that is torn. -/
set_option linter.unusedVariables false
set_option linter.unusedSimpArgs false
namespace Go.VL
def wholeB (L : List (List Int)) (b : List Int) : Bool := L.any fun x => eqL x b
/-- How many bytes are equal. -/
def cutN : List Int → List Int → Nat
  | a :: A, b :: B => if a = b then cutN A B + 1 else 0
  | _, _ => 0
def mixK (L : List (List Int)) (b : List Int) (i : Nat) (k : Nat) : Bool := eqL (b.drop (cutN b (L.getD i []))) ((L.getD k []).drop (cutN b (L.getD i [])))
def mixI (L : List (List Int)) (b : List Int) (i : Nat) : Bool := (List.range i).any fun k => mixK L b i k
def mixedB (L : List (List Int)) (b : List Int) : Bool := (List.range L.length).any fun i => mixI L b i
theorem cutN_of : ∀ {A B : List Int} {i : Nat}, i ≤ A.length → A.length = B.length → A.take i = B.take i → (i = A.length ∨ A.getD i 0 ≠ B.getD i 0) → cutN A B = i
  | [], B, i, h, _, _, _ => by
    have : i = 0 := by simpa using h
    subst this
    cases B <;> rfl
  | a :: A, [], i, h, hl, _, _ => by simp at hl
  | a :: A, b :: B, 0, h, hl, ht, hd => by
    rcases hd with hd | hd
    · simp at hd
    · rw [cutN, if_neg (by simpa using hd)]
  | a :: A, b :: B, i + 1, h, hl, ht, hd => by
    simp only [List.take_succ_cons, List.cons.injEq] at ht
    rw [cutN, if_pos ht.1, cutN_of (by simpa using h) (by simpa using hl) ht.2 (by simpa using hd)]
theorem cutN_le : ∀ {A B : List Int}, cutN A B ≤ A.length
  | [], B => by cases B <;> exact Nat.zero_le _
  | a :: A, [] => Nat.zero_le _
  | a :: A, b :: B => by
    rw [cutN]
    split
    · have := cutN_le (A := A) (B := B); simp; omega
    · exact Nat.zero_le _
theorem cutN_ge : ∀ {A B : List Int} {t : Nat}, t ≤ A.length → t ≤ B.length → A.take t = B.take t → t ≤ cutN A B
  | A, B, 0, _, _, _ => Nat.zero_le _
  | [], B, t + 1, h, _, _ => by simp at h
  | a :: A, [], t + 1, _, h, _ => by simp at h
  | a :: A, b :: B, t + 1, h, h2, ht => by
    simp only [List.take_succ_cons, List.cons.injEq] at ht
    rw [cutN, if_pos ht.1]
    have := cutN_ge (t := t) (by simpa using h) (by simpa using h2) ht.2
    omega
theorem mixed_of {L : List (List Int)} {b : List Int} {i k t : Nat} (hk : k < i) (hi : i < L.length) (hL : ∀ x ∈ L, x.length = 64) (ht : t ≤ 64) (hb : b = (L.getD i []).take t ++ (L.getD k []).drop t) : mixedB L b = true := by
  have h1 : (L.getD i []).length = 64 := hL _ (getD_mem' hi)
  have h2 : (L.getD k []).length = 64 := hL _ (getD_mem' (by omega))
  refine List.any_eq_true.2 ⟨i, List.mem_range.2 hi, List.any_eq_true.2 ⟨k, List.mem_range.2 hk, decide_eq_true ?_⟩⟩
  have htl : ((L.getD i []).take t).length = t := by rw [List.length_take]; omega
  have hbl : b.length = 64 := by rw [hb, List.length_append, htl, List.length_drop, h2]; omega
  have hge : t ≤ cutN b (L.getD i []) := cutN_ge (by omega) (by omega) (by rw [hb, List.take_append_of_le_length (by omega), List.take_take, Nat.min_self])
  have e : b.drop t = (L.getD k []).drop t := by rw [hb, List.drop_append_of_le_length (by omega), List.drop_of_length_le (by omega), List.nil_append]
  obtain ⟨q, hq⟩ : ∃ q, cutN b (L.getD i []) = t + q := ⟨cutN b (L.getD i []) - t, by omega⟩
  rw [hq, ← List.drop_drop, ← List.drop_drop, e]
theorem whole_of {L : List (List Int)} {b : List Int} (h : b ∈ L) : wholeB L b = true := List.any_eq_true.2 ⟨b, h, decide_eq_true rfl⟩
/-- What was ever written to a sector. -/
def lst (P : List Pen) (s : Nat) : Nat → List (List Int)
  | 0 => [zRow]
  | j + 1 => if (P.getD j w0).1 = (s : Int) then lst P s j ++ [(P.getD j w0).2] else lst P s j
theorem lst_app {P : List Pen} {w : Pen} {s : Nat} : ∀ j, j ≤ P.length → lst (P ++ [w]) s j = lst P s j
  | 0, _ => rfl
  | j + 1, h => by
    have e : (P ++ [w]).getD j w0 = P.getD j w0 := by
      rw [List.getD_eq_getElem?_getD, List.getD_eq_getElem?_getD, List.getElem?_append_left (by omega)]
    rw [lst, lst, e, lst_app j (by omega)]
theorem lst_snoc {P : List Pen} {w : Pen} {s : Nat} : lst (P ++ [w]) s (P.length + 1) = if w.1 = (s : Int) then lst P s P.length ++ [w.2] else lst P s P.length := by
  have e : (P ++ [w]).getD P.length w0 = w := by simp [List.getD_eq_getElem?_getD]
  rw [lst, e, lst_app _ (Nat.le_refl _)]
theorem lst_len {P : List Pen} {s : Nat} : ∀ j, (lst P s j).length ≤ j + 1
  | 0 => Nat.le_refl _
  | j + 1 => by
    have := lst_len (P := P) (s := s) j
    rw [lst]
    split
    · rw [List.length_append]; simp; omega
    · omega
theorem lst_64 {P : List Pen} {s : Nat} (hP : ∀ w ∈ P, w.2.length = 64) : ∀ j, j ≤ P.length → ∀ x ∈ lst P s j, x.length = 64
  | 0, _, x, hx => by
    simp only [lst, List.mem_singleton] at hx
    subst hx; rfl
  | j + 1, h, x, hx => by
    rw [lst] at hx
    split at hx
    · rcases List.mem_append.1 hx with hx | hx
      · exact lst_64 hP j (by omega) x hx
      · rw [List.mem_singleton.1 hx]; exact hP _ (getD_mem' (by omega))
    · exact lst_64 hP j (by omega) x hx
def MixO (L : List (List Int)) (b : List Int) : Prop := ∃ i k t, k < i ∧ i < L.length ∧ t ≤ 64 ∧ b = (L.getD i []).take t ++ (L.getD k []).drop t
theorem MixO.app {L : List (List Int)} {b y : List Int} (h : MixO L b) : MixO (L ++ [y]) b := by
  obtain ⟨i, k, t, h1, h2, h3, h4⟩ := h
  have e : ∀ j, j < L.length → (L ++ [y]).getD j [] = L.getD j [] := fun j hj => by
    rw [List.getD_eq_getElem?_getD, List.getD_eq_getElem?_getD, List.getElem?_append_left hj]
  exact ⟨i, k, t, h1, by rw [List.length_append]; omega, h3, by rw [e i h2, e k (by omega)]; exact h4⟩
theorem tear_j {z m : Nat} {d : Dk} (hd : d.Ok (z * 64) m) (h0 : ∀ s : Nat, s < z → sec d.dur s = zRow) {K : List Bool} {last torn : Int} : ∀ j, j ≤ d.pen.length → ∀ s : Nat, s < z →
    sec (boL K last torn d.pen d.dur j) s ∈ lst d.pen s j ∨ (last < (j : Int) ∧ (d.pen.getD last.toNat w0).1 = (s : Int) ∧ MixO (lst d.pen s j) (sec (boL K last torn d.pen d.dur j) s))
  | 0, _, s, hs => .inl (by rw [boL, h0 s hs]; exact List.mem_singleton.2 rfl)
  | j + 1, hj, s, hs => by
    have ih := tear_j hd h0 (K := K) (last := last) (torn := torn) j (by omega) s hs
    obtain ⟨j0, j1, j2⟩ := hd.at (i := j) (by omega)
    have hlen := boL_len hd (K := K) (last := last) (torn := torn) j (by omega)
    have hsl : (sec (boL K last torn d.pen d.dur j) (s : Int)).length = 64 := sec_len (by omega) (by rw [hlen]; omega)
    by_cases hw : (d.pen.getD j w0).1 = (s : Int)
    · have el : lst d.pen s (j + 1) = lst d.pen s j ++ [(d.pen.getD j w0).2] := by rw [lst, if_pos hw]
      have keep : ∀ b, (b ∈ lst d.pen s j ∨ (last < (j : Int) ∧ (d.pen.getD last.toNat w0).1 = (s : Int) ∧ MixO (lst d.pen s j) b)) → (b ∈ lst d.pen s (j + 1) ∨ (last < ((j + 1 : Nat) : Int) ∧ (d.pen.getD last.toNat w0).1 = (s : Int) ∧ MixO (lst d.pen s (j + 1)) b)) := fun b h => by
        rw [el]
        rcases h with h | ⟨h1, h2, h3⟩
        · exact .inl (List.mem_append_left _ h)
        · exact .inr ⟨by omega, h2, h3.app⟩
      by_cases hK : K.getD j false = true
      · rw [boL, if_pos hK]
        have e1 : sec (put (boL K last torn d.pen d.dur j) (d.pen.getD j w0).1 (tearB last torn j (d.pen.getD j w0).2)) (s : Int) = cpw (sec (boL K last torn d.pen d.dur j) (s : Int)) 0 64 (tearB last torn j (d.pen.getD j w0).2) := by
          rw [hw]; exact sec_put_same (by omega) (by rw [hlen]; omega)
        rw [e1]
        by_cases ht : (j : Int) = last ∧ torn ≥ 0 ∧ torn < ((d.pen.getD j w0).2.length : Int)
        · rw [tearB, if_pos ht]
          obtain ⟨t1, t2, t3⟩ := ht
          have e2 : cpw (sec (boL K last torn d.pen d.dur j) (s : Int)) 0 64 ((d.pen.getD j w0).2.take torn.toNat) = (d.pen.getD j w0).2.take torn.toNat ++ (sec (boL K last torn d.pen d.dur j) (s : Int)).drop torn.toNat := by
            have l1 : ((d.pen.getD j w0).2.take torn.toNat).length = torn.toNat := by rw [List.length_take]; omega
            have l2 : Nat.min torn.toNat 64 = torn.toNat := Nat.min_eq_left (by omega)
            simp only [cpw, List.take_zero, List.nil_append, l1, l2, Nat.zero_add]
            rw [List.take_of_length_le (by omega)]
          rw [e2, el]
          rcases ih with h | ⟨h1, _, _⟩
          · refine .inr ⟨by omega, ?_, ?_⟩
            · rw [← t1]; simpa using hw
            · obtain ⟨k, hk, hk2⟩ := List.mem_iff_getElem.1 h
              refine ⟨(lst d.pen s j).length, k, torn.toNat, hk, by simp, by omega, ?_⟩
              have g1 : (lst d.pen s j ++ [(d.pen.getD j w0).2]).getD (lst d.pen s j).length [] = (d.pen.getD j w0).2 := by simp [List.getD_eq_getElem?_getD]
              have g2 : (lst d.pen s j ++ [(d.pen.getD j w0).2]).getD k [] = (lst d.pen s j)[k] := by
                rw [List.getD_eq_getElem?_getD, List.getElem?_append_left hk, List.getElem?_eq_getElem hk]; rfl
              rw [g1, g2, hk2]
          · omega
        · rw [tearB, if_neg ht, cpw_all hsl j2, el]
          exact .inl (List.mem_append_right _ (List.mem_singleton.2 rfl))
      · rw [boL, if_neg hK]; exact keep _ ih
    · have el : lst d.pen s (j + 1) = lst d.pen s j := by rw [lst, if_neg hw]
      have e1 : sec (boL K last torn d.pen d.dur (j + 1)) (s : Int) = sec (boL K last torn d.pen d.dur j) (s : Int) := by
        rw [boL]
        split
        · exact sec_put j0 (by rw [hlen]; exact j1) (by omega) hw
        · rfl
      rw [e1, el]
      rcases ih with h | ⟨h1, h2, h3⟩
      · exact .inl h
      · exact .inr ⟨by omega, h2, h3⟩
/-- What the contents are. -/
structure TrI (z : Nat) (d : Dk) (C : Css) : Prop where
  off : d.off = false
  fuse : d.fuse = -1
  dur : d.dur = List.replicate (z * 64) 0
  len : C.length = z
  con : ∀ s, s < z → C.getD s [] = lst d.pen s d.pen.length
theorem sec_zero {z s : Nat} (h : s < z) : sec (List.replicate (z * 64) 0) (s : Int) = zRow := by
  rw [sec, List.drop_replicate, List.take_replicate, zRow]
  congr 1; omega
theorem TrI.new {z : Nat} : TrI z (newD z) (List.replicate z [zRow]) := ⟨rfl, rfl, rfl, by simp, fun s hs => by
  have : (newD z).pen = [] := rfl
  rw [this]
  simp [List.getD_eq_getElem?_getD, hs, lst]⟩
def wrK (d : Dk) (s : Nat) (b : List Int) : Dk := { d with pen := d.pen ++ [((s : Int), b)] }
theorem TrI.write {z s : Nat} {d : Dk} {C : Css} {b : List Int} (h : TrI z d C) (hs : s < z) : TrI z (wrK d s b) (C.set s (C.getD s [] ++ [b])) := by
  refine ⟨h.off, h.fuse, h.dur, by rw [List.length_set]; exact h.len, fun i hi => ?_⟩
  have hl := h.len
  show _ = lst (d.pen ++ [((s : Int), b)]) i (d.pen ++ [((s : Int), b)]).length
  rw [List.length_append, List.length_singleton, lst_snoc]
  by_cases hsi : s = i
  · subst hsi
    rw [if_pos rfl, ← h.con s hs]
    simp [List.getD_eq_getElem?_getD, hl, hs]
  · rw [if_neg (by simp only; omega), ← h.con i hi]
    simp [List.getD_eq_getElem?_getD, hsi]
theorem wr_ok {z m s : Nat} {d : Dk} {b : List Int} (hd : d.Ok (z * 64) m) (hs : s < z) (hb : b.length = 64) : (wrK d s b).Ok (z * 64) (m + 1) := by
  refine { hd with pen := by have := hd.pen; simp only [wrK, List.length_append, List.length_singleton]; omega, ins := fun w hw => ?_ }
  rcases List.mem_append.1 hw with h | h
  · exact hd.ins w h
  · rw [List.mem_singleton.1 h]; exact ⟨by simp only; omega, by simp only; omega, hb⟩
theorem wr_eq {z s : Nat} {d : Dk} {b : List Int} (h0 : d.off = false) (h1 : d.fuse = -1) (hs : s < z) (hb : b.length = 64) : d.writeR (z * 64) (s : Int) b = (wrK d s b, 0) := by
  have hh : hasS (z * 64) (s : Int) = true := hasS_yes (by omega) (by omega)
  have ho : d.out = false := by simp [Dk.out, h1]
  have hbu : d.burn = d := by simp [Dk.burn, h1]
  simp [Dk.writeR, h0, hh, hb, ho, hbu, wrK]
/-- The sector that may be torn. -/
def tornS (d : Dk) (keep : List Int) : Int := (d.pen.getD (kpL keep d.pen.length keep.length).2.toNat w0).1
theorem TrI.law {z m : Nat} {d : Dk} {C : Css} (h : TrI z d C) (hd : d.Ok (z * 64) m) (keep : List Int) (torn : Int) {i : Nat} (hi : i < z) :
    wholeB (C.getD i []) (rdS (d.bootR keep torn) (i : Int)) = true ∨ (mixedB (C.getD i []) (rdS (d.bootR keep torn) (i : Int)) = true ∧ tornS d keep = (i : Int)) := by
  have e : rdS (d.bootR keep torn) (i : Int) = sec (d.bootR keep torn).dur (i : Int) := by
    rw [rdS_sec (sec_len (by omega) (by rw [(hd.boot keep torn).len]; omega))]; rfl
  rw [e, h.con i hi]
  have h0 : ∀ s : Nat, s < z → sec d.dur s = zRow := fun s hs => by rw [h.dur]; exact sec_zero hs
  rcases tear_j hd h0 (K := (kpL keep d.pen.length keep.length).1) (last := (kpL keep d.pen.length keep.length).2) (torn := torn) d.pen.length (Nat.le_refl _) i hi with h1 | ⟨_, h1, i', k, t, h2, h3, h4, h5⟩
  · exact .inl (whole_of h1)
  · exact .inr ⟨mixed_of h2 h3 (lst_64 (fun w hw => (hd.ins w hw).2.2) _ (Nat.le_refl _)) h4 h5, h1⟩
theorem TrI.all {z m : Nat} {d : Dk} {C : Css} (h : TrI z d C) (hd : d.Ok (z * 64) m) {i : Nat} (hi : i < z) : (∀ x ∈ C.getD i [], x.length = 64) ∧ (C.getD i []).length ≤ m + 1 := by
  rw [h.con i hi]
  have := lst_len (P := d.pen) (s := i) d.pen.length
  have := hd.pen
  exact ⟨lst_64 (fun w hw => (hd.ins w hw).2.2) _ (Nat.le_refl _), by omega⟩
theorem whole_step {L : List (List Int)} {b : List Int} {i : Nat} (hi : i < L.length) (h : (L.take i).any (fun x => eqL x b) = false) (h2 : eqL (L.getD i []) b = false) : (L.take (i + 1)).any (fun x => eqL x b) = false := by
  have e : L[i]? = some (L.getD i []) := gd hi
  rw [List.take_add_one, List.any_append, h, Bool.false_or, e]
  show ((eqL (L.getD i []) b) || false) = false
  rw [h2]; rfl
theorem any_last {f : Nat → Bool} {i : Nat} : (List.range (i + 1)).any f = ((List.range i).any f || f i) := by
  rw [List.range_succ, List.any_append]; simp
end Go.VL

/- The journal, plain: a disk that does not fail. -/
set_option linter.unusedVariables false
set_option linter.unusedSimpArgs false
namespace Go.VL
structure Dk.Up (d : Dk) : Prop where
  off : d.off = false
  fuse : d.fuse = -1
section
variable {z m k t s : Nat} {d : Dk} {b : List Int}
theorem rdL_app {P Q : List Pen} {s : Int} {R : List Int} : ∀ i, i ≤ P.length → rdL s (P ++ Q) R i = rdL s P R i
  | 0, _ => rfl
  | i + 1, h => by
    have e := rdL_app (P := P) (Q := Q) (s := s) (R := R) i (by omega)
    have : (P ++ Q).getD i w0 = P.getD i w0 := by simp [List.getD_eq_getElem?_getD, List.getElem?_append_left (show i < P.length by omega)]
    simp only [rdL]
    rw [this, e]
theorem rdS_write (hb : b.length = 64) : rdS (wrK d s b) (t : Int) = if s = t then b else rdS d t := by
  have hR : (cpw (List.replicate 64 0) 0 64 (sec d.dur t)).length = 64 := by rw [cpw_len (by simp)]; simp
  have h1 : rdL (t : Int) d.pen (cpw (List.replicate 64 0) 0 64 (sec d.dur t)) d.pen.length = rdS d t := rfl
  have h2 := rdL_len (s := (t : Int)) (P := d.pen) hR d.pen.length
  have e : (d.pen ++ [((s : Int), b)]).getD d.pen.length w0 = ((s : Int), b) := by simp
  unfold rdS wrK
  simp only [List.length_append, List.length_singleton]
  rw [rdL, e, rdL_app _ (Nat.le_refl _)]
  by_cases h : s = t
  · subst h; rw [if_pos rfl, if_pos rfl, cpw_all h2 hb]
  · rw [if_neg (by omega), if_neg h]
theorem sec_put_at {D : List Int} {s : Int} (h0 : 0 ≤ s) (h1 : s * 64 + 64 ≤ D.length) : sec (put D s b) s = cpw (sec D s) 0 64 b := by
  apply List.ext_getElem?
  intro j
  have hl := sec_len h0 h1
  rw [sec_get, cpw_get (by omega), put, cpw_get (by omega), sec_get]
  by_cases hj : j < 64
  · rw [if_pos hj, if_pos hj]
    by_cases h2 : j < min b.length 64
    · rw [if_pos (by omega), if_pos (by omega)]; congr 1; omega
    · rw [if_neg (by omega), if_neg (by omega)]
  · rw [if_neg hj, if_neg hj, if_neg (by omega)]
theorem sec_syL (hd : d.Ok (z * 64) m) (ht : t < z) : ∀ i, i ≤ d.pen.length → sec (syL d.pen d.dur i) (t : Int) = rdL (t : Int) d.pen (sec d.dur t) i
  | 0, _ => rfl
  | i + 1, hi => by
    have hl := syL_len hd i (by omega)
    obtain ⟨a, b, c⟩ := hd.at (i := i) (by omega)
    simp only [syL, rdL]
    by_cases h : (d.pen.getD i w0).1 = (t : Int)
    · rw [if_pos h, ← sec_syL hd ht i (by omega), ← h, sec_put_at a (by rw [hl]; exact b)]
    · rw [if_neg h, sec_put a (by rw [hl]; exact b) (by omega) h, sec_syL hd ht i (by omega)]
theorem rdS_eq (hd : d.Ok (z * 64) m) (ht : t < z) : rdS d (t : Int) = rdL (t : Int) d.pen (sec d.dur t) d.pen.length := by
  have hl : (sec d.dur (t : Int)).length = 64 := sec_len (by omega) (by have := hd.len; omega)
  unfold rdS
  rw [cpw_all (by simp) hl]
def syK (d : Dk) : Dk := { d with dur := syL d.pen d.dur d.pen.length, pen := [] }
theorem rdS_sync (hd : d.Ok (z * 64) m) (ht : t < z) : rdS (syK d) (t : Int) = rdS d t := by
  have h2 : (syK d).Ok (z * 64) m := { hd with len := syL_len hd _ (Nat.le_refl _), pen := Nat.zero_le _, ins := fun w hw => by cases hw }
  rw [rdS_eq hd ht, rdS_eq h2 ht, ← sec_syL hd ht _ (Nat.le_refl _)]
  rfl
theorem sync_up (h : d.Up) : d.syncR = (syK d, 0) := by
  simp [Dk.syncR, h.off, out_none h.fuse, burn_none h.fuse, syK]
theorem syK_up (h : d.Up) : (syK d).Up := ⟨h.off, h.fuse⟩
theorem wrK_up (h : d.Up) : (wrK d s b).Up := ⟨h.off, h.fuse⟩
theorem write_up (h : d.Up) (hs : s < z) (hb : b.length = 64) : d.writeR (z * 64) (s : Int) b = (wrK d s b, 0) := wr_eq h.off h.fuse hs hb
theorem read_upS (h : d.Up) (hs : s < z) : d.readR (z * 64) (s : Int) = (d, rdS d s, 0) := read_up h.off h.fuse (hasS_of (by omega) (by omega))
theorem up_new : (newD z).Up := ⟨rfl, rfl⟩
theorem new_zer (ht : t < z) : rdS (newD z) (t : Int) = zer := by
  unfold rdS newD
  simp only [List.length_nil, rdL]
  rw [sec_zero ht]; rfl
end
/-- The sectors of a form lie on the disk from one sector on. -/
def Lies (d : Dk) (ed k : Nat) (F : List Int) : Prop := ∀ j, j < k → rdS d ((ed + j : Nat) : Int) = secF F j
section
variable {z m k ed : Nat} {d : Dk} {F : List Int}
theorem wrSec_up (hF : F.length = k * 64) : ∀ (q j : Nat) (d : Dk), d.Up → j + q = k → ed + k ≤ z →
    ∃ d', wrSec (z * 64) (ed : Int) F j q d = (d', 0) ∧ d'.Up ∧ ∀ t : Nat, rdS d' (t : Int) = if ed + j ≤ t ∧ t < ed + k then secF F (t - ed) else rdS d t
  | 0, j, d, h, hj, hz => ⟨d, rfl, h, fun t => by rw [if_neg (by omega)]⟩
  | q + 1, j, d, h, hj, hz => by
    have hl : (secF F j).length = 64 := secF_len hF (by omega)
    have hw : d.writeR (z * 64) ((ed : Int) + (j : Int)) (secF F j) = (wrK d (ed + j) (secF F j), 0) := by
      rw [show (ed : Int) + (j : Int) = ((ed + j : Nat) : Int) by omega]; exact write_up h (by omega) hl
    obtain ⟨d', h1, h2, h3⟩ := wrSec_up hF q (j + 1) (wrK d (ed + j) (secF F j)) (wrK_up h) (by omega) hz
    refine ⟨d', by rw [wrSec, hw, if_pos rfl]; exact h1, h2, fun t => ?_⟩
    rw [h3 t, rdS_write hl]
    by_cases ht : ed + j = t
    · subst ht
      rw [if_neg (by omega), if_pos rfl, if_pos (by omega)]
      congr 1; omega
    · by_cases h4 : ed + (j + 1) ≤ t ∧ t < ed + k
      · rw [if_pos h4, if_pos (by omega)]
      · rw [if_neg h4, if_neg ht, if_neg (by omega)]
theorem syK_ok (hd : d.Ok (z * 64) m) : (syK d).Ok (z * 64) m := { hd with len := syL_len hd _ (Nat.le_refl _), pen := Nat.zero_le _, ins := fun w hw => by cases hw }
/-- What writing a form does to a disk that does not fail. -/
theorem wfR_up (hd : d.Ok (z * 64) m) (hb : d.By) (h : d.Up) (hF : F.length = k * 64) (hFB : ByR F) (hk : 1 ≤ k ∧ k ≤ 80) (hz : ed + k ≤ z) :
    ∃ d', wfR (z * 64) (ed : Int) F k d = (d', 0) ∧ d'.Up ∧ (∀ t : Nat, t < z → rdS d' (t : Int) = if ed ≤ t ∧ t < ed + k then secF F (t - ed) else if t = ed + k then zer else rdS d t) ∧ d'.pen = [] := by
  have hzz : ((z * 64 : Nat) : Int) / 64 = (z : Int) := by omega
  obtain ⟨d1, a1, a2, a3, a4⟩ : ∃ d1, wfA (z * 64) (ed : Int) k d = (d1, 0) ∧ d1.Up ∧ (∀ t : Nat, t < z → rdS d1 (t : Int) = if t = ed + k then zer else rdS d t) ∧ d1.Ok (z * 64) (m + 1) := by
    by_cases hq : ed + k < z
    · refine ⟨wrK d (ed + k) zer, ?_, wrK_up h, fun t ht => ?_, wr_ok hd hq (by simp)⟩
      · rw [wfA_y (by omega), show (ed : Int) + (k : Int) = ((ed + k : Nat) : Int) by omega]; exact write_up h hq (by simp)
      · rw [rdS_write (by simp)]
        by_cases h1 : t = ed + k
        · rw [if_pos h1.symm, if_pos h1]
        · rw [if_neg (fun e => h1 e.symm), if_neg h1]
    · exact ⟨d, wfA_n (by omega), h, fun t ht => by rw [if_neg (by omega)], hd.mono (by omega)⟩
  obtain ⟨d2, b1, b2, b3⟩ := wrSec_up (z := z) (ed := ed) hF (k - 1) 1 d1 a2 (by omega) hz
  have b4 : d2.Ok (z * 64) (m + 1 + (k - 1)) := by have hby : d1.By := by
                                                    have := hb
                                                    have e : d1 = (wfA (z * 64) (ed : Int) k d).1 := by rw [a1]
                                                    rw [e]; unfold wfA
                                                    split
                                                    · exact hb.writeR _ _ .rep
                                                    · exact hb
                                                   have := (wrSec_ok (n := z * 64) (F := F) (e := (ed : Int)) (k - 1) 1 d1 a4 hby hFB).1
                                                   rw [b1] at this; exact this
  have hl0 : (secF F 0).length = 64 := secF_len hF (by omega)
  have hok3 := syK_ok b4
  have hok4 := wr_ok (s := ed) (b := secF F 0) hok3 (by omega) hl0
  have hw : (syK d2).writeR (z * 64) (ed : Int) (secF F 0) = (wrK (syK d2) ed (secF F 0), 0) := write_up (syK_up b2) (by omega) hl0
  refine ⟨syK (wrK (syK d2) ed (secF F 0)), ?_, syK_up (wrK_up (syK_up b2)), fun t ht => ?_, rfl⟩
  · rw [wfR_ok (by rw [a1]), a1, wfB, b1]
    simp only
    rw [if_pos trivial, wfC_ok (by rw [sync_up b2]) (by rw [sync_up b2]; simp only; rw [hw]), sync_up b2]
    simp only
    rw [hw]
    exact sync_up (wrK_up (syK_up b2))
  · rw [rdS_sync hok4 ht, rdS_write hl0]
    by_cases h1 : ed = t
    · subst h1; rw [if_pos rfl, if_pos (by omega), Nat.sub_self]
    · rw [if_neg h1, rdS_sync b4 ht, b3 t]
      by_cases h2 : ed ≤ t ∧ t < ed + k
      · rw [if_pos (by omega), if_pos h2]
      · rw [if_neg (by omega), if_neg h2, a3 t ht]
end
end Go.VL

/- The journal, plain: without failures what was appended is what is read. -/
set_option linter.unusedVariables false
set_option linter.unusedSimpArgs false
namespace Go.VL
section
variable {z m k ed t n : Nat} {d d' : Dk} {F r b : List Int} {R R0 R' : List (List Int)}
theorem form_eq (k : Int) (r : List Int) : formQ k r = (leB k 4 ++ leB (r.length : Int) 2) ++ (r ++ (leB (bv (crcQ (headQ k r))) 4 ++ List.replicate (cntQ r.length * 64 - (r.length + 10)) 0)) := by
  simp [formQ, bodyQ, headQ, List.append_assoc]
theorem form_take4 (k : Int) (r : List Int) : (formQ k r).take 4 = leB k 4 := by
  rw [form_eq, List.append_assoc, List.take_append_of_le_length (by simp), List.take_of_length_le (by simp)]
theorem leB2 (n : Int) : leB n 2 = [n % 256, n / 256 % 256] := by simp [leB]
theorem form_4 (k : Int) (r : List Int) : (formQ k r).getD 4 0 = (r.length : Int) % 256 ∧ (formQ k r).getD 5 0 = (r.length : Int) / 256 % 256 := by
  rw [form_eq, leB2, List.append_assoc]
  constructor
  · rw [List.getD_eq_getElem?_getD, List.getElem?_append_right (by simp)]; simp
  · rw [List.getD_eq_getElem?_getD, List.getElem?_append_right (by simp)]; simp
theorem form_rec (k : Int) (r : List Int) : recQ (formQ k r) r.length = r := by
  have hl : (leB k 4 ++ leB (r.length : Int) 2).length = 6 := by simp
  unfold recQ
  rw [form_eq, List.drop_take, List.drop_append_of_le_length (by omega), List.drop_of_length_le (by omega), List.nil_append, show 6 + r.length - 6 = r.length by omega]
  exact List.take_left' rfl
theorem getD_take64 {F : List Int} {i : Nat} (hi : i < 64) : (F.take 64).getD i 0 = F.getD i 0 := by
  simp [List.getD_eq_getElem?_getD, List.getElem?_take, hi]
theorem secF_zero (F : List Int) : secF F 0 = F.take 64 := by simp [secF]
theorem form_size {k : Int} (h : RecOk r) : sizeQ (secF (formQ k r) 0) = r.length := by
  have h4 := form_4 k r
  have hl := h.2.1
  unfold sizeQ
  rw [secF_zero, getD_take64 (by decide), getD_take64 (by decide), h4.1, h4.2]
  omega
theorem rdAll_up (hu : d.Up) (hL : Lies d ed k F) (hz : ed + k ≤ z) : ∀ (q i : Nat), i + q = k → rdAll (z * 64) (ed : Int) i q d (F.take (i * 64)) = (d, F.take (k * 64), 0)
  | 0, i, h => by rw [rdAll, show i = k by omega]
  | q + 1, i, h => by
    have hr : d.readR (z * 64) ((ed : Int) + (i : Int)) = (d, secF F i, 0) := by
      rw [show (ed : Int) + (i : Int) = ((ed + i : Nat) : Int) by omega, read_upS hu (by omega), hL i (by omega)]
    have e : F.take (i * 64) ++ secF F i = F.take ((i + 1) * 64) := by
      unfold secF
      conv => rhs; rw [← List.take_append_drop (i * 64) (F.take ((i + 1) * 64))]
      rw [List.take_take, Nat.min_eq_left (by omega)]
    rw [rdAll, hr, if_pos rfl]
    show rdAll _ _ _ _ d (F.take (i * 64) ++ secF F i) = _
    rw [e]
    exact rdAll_up hu hL hz q (i + 1) (by omega)
/-- The record is read. -/
theorem nx_rec (hu : d.Up) (hr : RecOk r) (hL : Lies d ed (cntQ r.length) (formQ k r)) (hz : ed + cntQ r.length ≤ z) : nxR (z * 64) k ed d = (d, r, secF (formQ k r) 0, 0) := by
  have hc : 1 ≤ cntQ r.length := by unfold cntQ; omega
  have hl := formQ_len (k : Int) r
  have h0 : d.readR (z * 64) (ed : Int) = (d, secF (formQ k r) 0, 0) := by rw [read_upS hu (by omega)]; have := hL 0 (by omega); simp only [Nat.add_zero] at this; rw [this]
  have h1 : ¬ z * 64 / 64 ≤ ed := by omega
  have hs := form_size (k := (k : Int)) hr
  have h2 : FitQ (z * 64) k ed (d.readR (z * 64) (ed : Int)).2.1 := by
    rw [h0]
    refine ⟨?_, ?_, ?_, ?_⟩
    · simp only [secF_zero, List.take_take]; exact form_take4 _ _
    · simp only [hs]; exact List.length_pos_iff.2 hr.1
    · simp only [hs]; exact hr.2.1
    · simp only [hs]; rw [Nat.mul_div_cancel _ (by decide)]; exact hz
  have ha := rdAll_up hu hL hz (cntQ r.length - 1) 1 (by omega)
  rw [Nat.one_mul, List.take_of_length_le (show (formQ (k : Int) r).length ≤ cntQ r.length * 64 by omega)] at ha
  rw [nx_fit h1 (by rw [h0]) h2 rfl]
  rw [h0]
  simp only [hs]
  rw [secF_zero, ha]
  simp only [form_rec, ↓reduceIte]
theorem nx_full (h : z ≤ ed) : nxR (z * 64) k ed d = (d, [], [], 0) := nx_end (by omega)
theorem nx_zer (hu : d.Up) (h : ed < z) (h0 : rdS d (ed : Int) = zer) : nxR (z * 64) k ed d = (d, [], zer, 0) := by
  have hr : d.readR (z * 64) (ed : Int) = (d, zer, 0) := by rw [read_upS hu h, h0]
  rw [nx_unfit (by omega) (by rw [hr]) (by
    rw [hr]; rintro ⟨_, g2, _⟩
    have : sizeQ zer = 0 := by decide
    simp only [this] at g2; omega), hr]
/-- The records lie on the disk from a sector on. -/
def Holds (d : Dk) : Nat → Nat → List (List Int) → Prop
  | _, _, [] => True
  | k, ed, r :: R => Lies d ed (cntQ r.length) (formQ k r) ∧ Holds d (k + 1) (ed + cntQ r.length) R
def totQ : List (List Int) → Nat
  | [] => 0
  | r :: R => cntQ r.length + totQ R
theorem totQ_app : totQ (R ++ R') = totQ R + totQ R' := by
  induction R with
  | nil => simp [totQ]
  | cons r R ih => simp only [List.cons_append, totQ, ih]; omega
theorem holds_app : ∀ {R : List (List Int)} {k ed : Nat}, Holds d k ed (R ++ R') ↔ Holds d k ed R ∧ Holds d (k + R.length) (ed + totQ R) R'
  | [], k, ed => by simp [Holds, totQ]
  | r :: R, k, ed => by
    simp only [List.cons_append, Holds, holds_app (R := R), totQ, List.length_cons]
    rw [show k + 1 + R.length = k + (R.length + 1) by omega, show ed + cntQ r.length + totQ R = ed + (cntQ r.length + totQ R) by omega]
    exact and_assoc.symm
theorem holds_congr {e : Nat} (h : ∀ t, t < e → rdS d' (t : Int) = rdS d t) : ∀ {R : List (List Int)} {k ed : Nat}, ed + totQ R ≤ e → Holds d k ed R → Holds d' k ed R
  | [], k, ed, _, _ => trivial
  | r :: R, k, ed, he, hh => by
    simp only [totQ] at he
    exact ⟨fun j hj => (h _ (by omega)).trans (hh.1 j hj), holds_congr h (by omega) hh.2⟩
theorem op_up (hu : d.Up) : ∀ (R : List (List Int)) {f : Nat} {R0 : List (List Int)} {ed : Nat}, Holds d R0.length ed R → (∀ r ∈ R, RecOk r) → ed + totQ R ≤ z → (ed + totQ R < z → rdS d ((ed + totQ R : Nat) : Int) = zer) → z + 1 ≤ ed + f →
    opR (z * 64) f R0 ed d = (d, R0 ++ R, ed + totQ R, 0)
  | [], f, R0, ed, hh, hr, hz, he, hf => by
    simp only [totQ, Nat.add_zero, List.append_nil] at *
    by_cases h : z ≤ ed
    · rw [op_end (by rw [nx_full h]) (by rw [nx_full h]) (.inl (by rw [nx_full h])) (by omega), nx_full h]
    · have hx := nx_zer (z := z) (k := R0.length) hu (by omega) (he (by omega))
      rw [op_end (by rw [hx]) (by rw [hx]) (.inr (by rw [hx])) (by omega), hx]
  | r :: R, f, R0, ed, hh, hr, hz, he, hf => by
    simp only [totQ] at hz he ⊢
    have h1 := hr r (by simp)
    have hx := nx_rec (z := z) hu h1 hh.1 (by omega)
    have hc := cntQ_le r.length
    rw [op_rec (by rw [hx]) (by rw [hx]; exact h1.1) (by omega), hx]
    have := op_up hu R (f := f - 1) (R0 := R0 ++ [r]) (ed := ed + cntQ r.length) (by simpa using hh.2) (fun x hx => hr x (by simp [hx])) (by omega) (fun h => by have := he (by omega); rwa [show ed + cntQ r.length + totQ R = ed + (cntQ r.length + totQ R) by omega]) (by omega)
    rw [this]
    simp [Nat.add_assoc]
end
/-- A journal on a disk that does not fail. -/
structure JI (z : Nat) (j : Jn) : Prop where
  up : j.d.Up
  h : Holds j.d 0 0 j.R
  ed : j.ed = totQ j.R
  le : j.ed ≤ z
  e : j.ed < z → rdS j.d (j.ed : Int) = zer
  fl : j.fl = false
  pen : j.d.pen = []
section
variable {z m : Nat} {j : Jn} {b : List Int} {d : Dk}
theorem JI.open (h : JI z j) (hr : ∀ r ∈ j.R, RecOk r) : opR (z * 64) (z * 64 / 64 + 1) [] 0 j.d = (j.d, j.R, j.ed, 0) := by
  have := op_up h.up j.R (f := z * 64 / 64 + 1) (R0 := []) (ed := 0) (z := z) h.h hr (by have := h.ed; have := h.le; omega) (fun h1 => by have := h.e (by have := h.ed; omega); rw [Nat.zero_add, ← h.ed]; exact this) (by omega)
  rw [this, Nat.zero_add, h.ed]; rfl
theorem JI.openJ (h : JI z j) (hr : ∀ r ∈ j.R, RecOk r) : (opR (z * 64) (z * 64 / 64 + 1) [] 0 j.d).2.2.2 = 0 ∧ opJ (z * 64) j.d = j := by
  have := h.open hr
  refine ⟨by rw [this], ?_⟩
  unfold opJ
  rw [this, ← h.fl]
theorem JI.new (hz : 1 ≤ z) : JI z ⟨newD z, [], 0, false⟩ := ⟨up_new, trivial, rfl, Nat.zero_le _, fun _ => new_zer (by omega), rfl, rfl⟩
theorem JI.append (h : JI z j) (hj : j.Ok (z * 64) m) (hb : RecOk b) (hz : j.ed + cntQ b.length ≤ z) : (apR (z * 64) j b).2 = 0 ∧ JI z (apR (z * 64) j b).1 ∧ (apR (z * 64) j b).1.R = j.R ++ [b] ∧ (apR (z * 64) j b).1.ed = j.ed + cntQ b.length := by
  have hl := List.length_pos_iff.2 hb.1
  have hl2 := hb.2.1
  obtain ⟨d', w1, w2, w3, w4⟩ := wfR_up (ed := j.ed) hj.d hj.b h.up (formQ_len (j.R.length : Int) b) (formQ_by hb.2.2) ⟨by unfold cntQ; omega, by unfold cntQ; omega⟩ hz
  have hw : wrJ (z * 64) j b = (d', 0) := w1
  have e := ap_ok (n := z * 64) (j := j) (b := b) (by omega) h.fl (by omega) (by rw [hw])
  rw [e]
  simp only [hw]
  have hc : 1 ≤ cntQ b.length := by unfold cntQ; omega
  refine ⟨trivial, ⟨w2, ?_, ?_, hz, fun hq => ?_, h.fl, w4⟩, trivial, trivial⟩
  · refine holds_app.2 ⟨holds_congr (e := j.ed) (fun t ht => ?_) (by have := h.ed; omega) h.h, ?_⟩
    · rw [w3 t (by omega), if_neg (by omega), if_neg (by omega)]
    · rw [Nat.zero_add, Nat.zero_add, ← h.ed]
      refine ⟨fun q hq => ?_, trivial⟩
      rw [w3 (j.ed + q) (by omega), if_pos (by omega), Nat.add_sub_cancel_left]
  · show j.ed + cntQ b.length = totQ (j.R ++ [b])
    rw [totQ_app, h.ed]; simp [totQ]
  · show rdS d' ((j.ed + cntQ b.length : Nat) : Int) = zer
    have hq : j.ed + cntQ b.length < z := hq
    rw [w3 _ hq, if_neg (by omega), if_pos rfl]
theorem JI.full (h : JI z j) (hl : 1 ≤ b.length ∧ b.length ≤ 4096) (hz : z < j.ed + cntQ b.length) : apR (z * 64) j b = (j, 8) := ap_full (by omega) h.fl (by omega)
theorem room_iff (hl : 1 ≤ b.length ∧ b.length ≤ 4096) (hz : j.ed ≤ z) : ((b.length : Int) > roomQ (z * 64) j.ed) ↔ z < j.ed + cntQ b.length := by
  unfold roomQ cntQ
  repeat' split
  all_goals omega
end
end Go.VL

/- The journal, plain: a damaged record is not read. -/
set_option linter.unusedVariables false
set_option linter.unusedSimpArgs false
namespace Go.VL
theorem stp_zero {w : BitVec 32} (h : stp w = 0#32) : w = 0#32 := by
  have hw := w.isLt
  by_cases h1 : w &&& 1#32 = 1#32
  · rw [stp, if_pos h1] at h
    have h2 : w >>> 1 = 2197175160#32 := by
      have := congrArg (· ^^^ 2197175160#32) h
      simpa [BitVec.xor_assoc] using this
    have h3 := congrArg BitVec.toNat h2
    rw [BitVec.toNat_ushiftRight, Nat.shiftRight_eq_div_pow] at h3
    have : (2197175160#32).toNat = 2197175160 := rfl
    omega
  · rw [stp, if_neg h1] at h
    have h3 := congrArg BitVec.toNat h
    rw [BitVec.toNat_ushiftRight, Nat.shiftRight_eq_div_pow] at h3
    have h4 : ¬ w.toNat % 2 = 1 := fun e => h1 ((and_one w).2 e)
    have : (0#32).toNat = 0 := rfl
    exact BitVec.eq_of_toNat_eq (by omega)
theorem xor_zero {x y : BitVec 32} (h : x ^^^ y = 0#32) : x = y := by
  have := congrArg (· ^^^ y) h
  simpa [BitVec.xor_assoc] using this
theorem stp_inj {x y : BitVec 32} (h : stp x = stp y) : x = y := xor_zero (stp_zero (by rw [stp_xor, h, BitVec.xor_self]))
theorem stpN_inj {x y : BitVec 32} : ∀ k, stpN k x = stpN k y → x = y
  | 0, h => h
  | k + 1, h => stpN_inj k (stp_inj h)
theorem xor_inj {x u v : BitVec 32} (h : x ^^^ u = x ^^^ v) : u = v := by
  have := congrArg (x ^^^ ·) h
  simpa [← BitVec.xor_assoc] using this
theorem ofInt_inj {a b : Int} (ha : 0 ≤ a ∧ a < 256) (hb : 0 ≤ b ∧ b < 256) (h : BitVec.ofInt 32 a = BitVec.ofInt 32 b) : a = b := by
  rw [← bv_ofInt (c := a) (by omega), ← bv_ofInt (c := b) (by omega), h]
/-- The checksums of lists that differ in one byte differ. -/
theorem crc_diff {A B : List Int} (hl : A.length = B.length) {p : Nat} (hp : p < A.length) (hA : ByR A) (hB : ByR B) (hne : A.getD p 0 ≠ B.getD p 0) (heq : ∀ i, i ≠ p → A.getD i 0 = B.getD i 0) : crcQ A ≠ crcQ B := by
  have h1 : ∀ i, i ≤ p → crcF A i = crcF B i := by
    intro i
    induction i with
    | zero => intro _; rfl
    | succ i ih => intro hi; simp only [crcF]; rw [ih (by omega), heq i (by omega)]
  have h2 : ∀ i, crcF A (p + 1 + i) ≠ crcF B (p + 1 + i) := by
    intro i
    induction i with
    | zero =>
      intro h
      simp only [Nat.add_zero, crcF] at h
      have := stpN_inj 8 h
      rw [h1 p (Nat.le_refl _)] at this
      exact hne (ofInt_inj (hA.getD p) (hB.getD p) (xor_inj this))
    | succ i ih =>
      intro h
      rw [show p + 1 + (i + 1) = (p + 1 + i) + 1 by omega] at h
      simp only [crcF] at h
      have := stpN_inj 8 h
      rw [heq (p + 1 + i) (by omega), BitVec.xor_comm, BitVec.xor_comm (crcF B _)] at this
      exact ih (xor_inj this)
  intro h
  unfold crcQ at h
  have h3 : crcF A A.length = crcF B B.length := by
    have := congrArg (~~~ ·) h
    simpa using this
  rw [← hl] at h3
  have := h2 (A.length - (p + 1))
  rw [show p + 1 + (A.length - (p + 1)) = A.length by omega] at this
  exact this h3
theorem leB4_inj {a b : Int} (ha : 0 ≤ a ∧ a < 4294967296) (hb : 0 ≤ b ∧ b < 4294967296) (h : leB a 4 = leB b 4) : a = b := by
  simp [leB] at h
  omega
theorem flip_ne {v : Int} (hv : 0 ≤ v ∧ v < 256) (k : Int) : flipB v k ≠ v := by
  intro h
  unfold flipB at h
  have h1 : BitVec.ofInt 8 v ^^^ BitVec.ofInt 8 (2 ^ (k % 8).toNat) = BitVec.ofInt 8 v := by
    apply BitVec.eq_of_toNat_eq
    have : (BitVec.ofInt 8 v).toNat = v.toNat := by rw [BitVec.toNat_ofInt]; congr 1; simp; omega
    omega
  have h2 : BitVec.ofInt 8 (2 ^ (k % 8).toNat) = 0#8 := by
    have := congrArg (BitVec.ofInt 8 v ^^^ ·) h1
    simpa [← BitVec.xor_assoc] using this
  have h3 : (k % 8).toNat < 8 := by omega
  generalize (k % 8).toNat = q at h2 h3
  match q, h3 with
  | 0, _ | 1, _ | 2, _ | 3, _ | 4, _ | 5, _ | 6, _ | 7, _ => exact absurd h2 (by decide)
section
variable {z k ed t s q p c : Nat} {d d' : Dk} {F r D : List Int} {x : Int}
theorem form_head (k : Int) (r : List Int) : (formQ k r).take (6 + r.length) = headQ k r := by
  have hl := headQ_len k r
  unfold formQ bodyQ
  rw [List.append_assoc, List.take_append_of_le_length (by omega), List.take_of_length_le (by omega)]
theorem form_crc (k : Int) (r : List Int) : ((formQ k r).drop (6 + r.length)).take 4 = leB (bv (crcQ (headQ k r))) 4 := by
  have hl := headQ_len k r
  unfold formQ bodyQ
  rw [List.append_assoc, List.drop_append_of_le_length (by omega), List.drop_of_length_le (by omega), List.nil_append, List.take_append_of_le_length (by simp), List.take_of_length_le (by simp)]
theorem recQ_of {A B : List Int} {n : Nat} (h : A.take (6 + n) = B.take (6 + n)) : recQ A n = recQ B n := by unfold recQ; rw [h]
/-- A form with one byte changed is no form. -/
theorem form_no {k : Int} (hr : ByR r) (hp : p < (formQ k r).length) (hx : 0 ≤ x ∧ x < 256) (hne : x ≠ (formQ k r).getD p 0) : (formQ k r).set p x ≠ formQ k (recQ ((formQ k r).set p x) r.length) := by
  intro h
  have hl := formQ_len k r
  have hc := cntQ_le r.length
  have hG : ByR ((formQ k r).set p x) := fun y hy => by
    rcases List.mem_or_eq_of_mem_set hy with hy | rfl
    · exact formQ_by hr y hy
    · exact hx
  have hrl : (recQ ((formQ k r).set p x) r.length).length = r.length := recQ_len (by rw [List.length_set]; omega)
  by_cases hq : p < 6 + r.length
  · have h1 := form_head k (recQ ((formQ k r).set p x) r.length)
    have h2 := form_crc k (recQ ((formQ k r).set p x) r.length)
    rw [hrl, ← h] at h1 h2
    rw [List.drop_set_of_lt (by omega), form_crc] at h2
    rw [List.take_set, form_head] at h1
    rw [← h1] at h2
    have h3 := bv_inj (leB4_inj (bv_range _) (bv_range _) h2)
    have hh := headQ_len k r
    have e : (headQ k r).getD p 0 = (formQ k r).getD p 0 := by
      rw [← form_head]; simp [List.getD_eq_getElem?_getD, List.getElem?_take, hq]
    refine crc_diff (A := headQ k r) (B := (headQ k r).set p x) (by simp) (p := p) (by omega) (headQ_by hr) (fun y hy => ?_) ?_ (fun i hi => ?_) h3
    · rcases List.mem_or_eq_of_mem_set hy with hy | rfl
      · exact headQ_by hr y hy
      · exact hx
    · rw [e]
      have : ((headQ k r).set p x).getD p 0 = x := by simp [List.getD_eq_getElem?_getD, List.getElem?_set, show p < (headQ k r).length by omega]
      rw [this]; exact fun h => hne h.symm
    · simp [List.getD_eq_getElem?_getD, List.getElem?_set, Ne.symm hi]
  · have h1 : recQ ((formQ k r).set p x) r.length = r := by
      rw [recQ_of (B := formQ k r) (by rw [List.take_set_of_le (by omega)]), form_rec]
    rw [h1] at h
    have := congrArg (fun l : List Int => l.getD p 0) h
    simp [List.getD_eq_getElem?_getD, List.getElem?_set, hp] at this
    exact hne (by simpa [List.getD_eq_getElem?_getD, hp] using this)
/-- A damaged record is none. -/
theorem nx_bad (hu : d.Up) (hr : RecOk r) (hp : p < (formQ (k : Int) r).length) (hx : 0 ≤ x ∧ x < 256) (hne : x ≠ (formQ (k : Int) r).getD p 0) (h45 : p ≠ 4 ∧ p ≠ 5) (hL : Lies d ed (cntQ r.length) ((formQ (k : Int) r).set p x)) (hz : ed + cntQ r.length ≤ z) :
    nxR (z * 64) k ed d = (d, [], secF ((formQ (k : Int) r).set p x) 0, 0) := by
  have hc : 1 ≤ cntQ r.length := by unfold cntQ; omega
  have hl := formQ_len (k : Int) r
  have hno := form_no hr.2.2 hp hx hne
  have hs0 := form_size (k := (k : Int)) hr
  generalize hG : (formQ (k : Int) r).set p x = G at *
  have hGl : G.length = cntQ r.length * 64 := by rw [← hG, List.length_set]; exact hl
  have h0 : d.readR (z * 64) (ed : Int) = (d, secF G 0, 0) := by rw [read_upS hu (by omega)]; have := hL 0 (by omega); simp only [Nat.add_zero] at this; rw [this]
  have h1 : ¬ z * 64 / 64 ≤ ed := by omega
  have hs : sizeQ (secF G 0) = r.length := by
    rw [← hs0]
    unfold sizeQ
    have e : ∀ i, i ≠ p → i < 64 → (secF G 0).getD i 0 = (secF (formQ (k : Int) r) 0).getD i 0 := fun i hi h6 => by
      rw [secF_zero, secF_zero, getD_take64 h6, getD_take64 h6, ← hG]
      simp [List.getD_eq_getElem?_getD, List.getElem?_set, Ne.symm hi]
    rw [e 4 (Ne.symm h45.1) (by decide), e 5 (Ne.symm h45.2) (by decide)]
  by_cases h2 : FitQ (z * 64) k ed (d.readR (z * 64) (ed : Int)).2.1
  · have ha := rdAll_up hu hL hz (cntQ r.length - 1) 1 (by omega)
    rw [Nat.one_mul, List.take_of_length_le (show G.length ≤ cntQ r.length * 64 by omega)] at ha
    rw [nx_fit h1 (by rw [h0]) h2 rfl]
    rw [h0]
    simp only [hs]
    rw [secF_zero, ha]
    simp only [↓reduceIte]
    rw [if_neg hno]
  · rw [nx_unfit h1 (by rw [h0]) h2, h0]
theorem sec_set' (hq : q < 64) (hD : s * 64 + 64 ≤ D.length) : sec (D.set (((s : Int) * 64).toNat + q) x) (t : Int) = if t = s then (sec D (s : Int)).set q x else sec D (t : Int) := by
  apply List.ext_getElem?
  intro j
  rw [sec_get]
  by_cases h : t = s
  · subst h
    rw [if_pos rfl, List.getElem?_set, List.getElem?_set, sec_get]
    have hl : (sec D (t : Int)).length = 64 := sec_len (by omega) (by omega)
    by_cases hj : j < 64
    · rw [if_pos hj, if_pos hj]
      by_cases hjq : q = j
      · subst hjq; rw [if_pos rfl, if_pos rfl, if_pos (by omega), if_pos (by omega)]
      · rw [if_neg (by omega), if_neg hjq]
    · rw [if_neg hj, if_neg hj, if_neg (by omega)]
  · rw [if_neg h, sec_get]
    by_cases hj : j < 64
    · rw [if_pos hj, if_pos hj, List.getElem?_set, if_neg (by omega)]
    · rw [if_neg hj, if_neg hj]
theorem secF_set (hl : F.length = c * 64) (hp : p < F.length) {j : Nat} (hj : j < c) : secF (F.set p x) j = if j = p / 64 then (secF F j).set (p % 64) x else secF F j := by
  have hfl := secF_len hl hj
  apply List.ext_getElem?
  intro i
  have e : ∀ A : List Int, (secF A j)[i]? = if i < 64 then A[j * 64 + i]? else none := fun A => by
    unfold secF
    rw [List.getElem?_drop, List.getElem?_take]
    by_cases hi : i < 64
    · rw [if_pos hi, if_pos (by omega)]
    · rw [if_neg hi, if_neg (by omega)]
  rw [e]
  by_cases h : j = p / 64
  · rw [if_pos h]
    by_cases hi : i < 64
    · rw [if_pos hi, List.getElem?_set, List.getElem?_set, e, if_pos hi]
      by_cases h2 : p % 64 = i
      · rw [if_pos (by omega), if_pos h2, if_pos hp, if_pos (by omega)]
      · rw [if_neg (by omega), if_neg h2]
    · rw [if_neg hi, List.getElem?_set, e, if_neg (by omega), if_neg hi]
  · rw [if_neg h, e]
    by_cases hi : i < 64
    · rw [if_pos hi, if_pos hi, List.getElem?_set, if_neg (by omega)]
    · rw [if_neg hi, if_neg hi]
end
end Go.VL

/- The journal, plain: Open behind a bit that was inverted. -/
set_option linter.unusedVariables false
set_option linter.unusedSimpArgs false
namespace Go.VL
section
variable {z k ed m f : Nat} {d : Dk} {R0 A : List (List Int)} {f0 : List Int} {j : Jn}
theorem cntQ_pos (n : Nat) : 1 ≤ cntQ n := by unfold cntQ; omega
theorem le_totQ : ∀ (R : List (List Int)), R.length ≤ totQ R
  | [] => Nat.le_refl _
  | r :: R => by have := le_totQ R; have := cntQ_pos r.length; simp only [List.length_cons, totQ]; omega
theorem op_pre (hu : d.Up) : ∀ (R : List (List Int)) {f : Nat} {R0 : List (List Int)} {ed : Nat}, Holds d R0.length ed R → (∀ r ∈ R, RecOk r) → ed + totQ R ≤ z → R.length < f → opR (z * 64) f R0 ed d = opR (z * 64) (f - R.length) (R0 ++ R) (ed + totQ R) d
  | [], f, R0, ed, hh, hr, hz, hf => by simp [totQ]
  | r :: R, f, R0, ed, hh, hr, hz, hf => by
    simp only [totQ] at hz ⊢
    simp only [List.length_cons] at hf
    have h1 := hr r (by simp)
    have hx := nx_rec (z := z) hu h1 hh.1 (by omega)
    rw [op_rec (by rw [hx]) (by rw [hx]; exact h1.1) (by omega), hx]
    have := op_pre hu R (f := f - 1) (R0 := R0 ++ [r]) (ed := ed + cntQ r.length) (by simpa using hh.2) (fun x hx => hr x (by simp [hx])) (by omega) (by omega)
    rw [this]
    simp only [List.append_assoc, List.singleton_append, List.length_cons]
    rw [show f - 1 - R.length = f - (R.length + 1) by omega, show ed + cntQ r.length + totQ R = ed + (cntQ r.length + totQ R) by omega]
theorem op_bad (hu : d.Up) (hz : ed < z) (hx : nxR (z * 64) R0.length ed d = (d, [], f0, 0)) (hf0 : f0.length = 64) (hf : 0 < f) : (opR (z * 64) f R0 ed d).2.2.2 = 0 ∧ (opR (z * 64) f R0 ed d).2.1 = R0 := by
  by_cases h : f0 = zer
  · rw [op_end (by rw [hx]) (by rw [hx]) (.inr (by rw [hx]; exact h)) hf]; exact ⟨rfl, rfl⟩
  · have hne : f0 ≠ [] := by intro e; rw [e] at hf0; cases hf0
    rw [op_zero (by rw [hx]) (by rw [hx]) (by rw [hx]; exact hne) (by rw [hx]; exact h) hf, hx]
    simp only
    have hw : d.writeR (z * 64) (ed : Int) zer = (wrK d ed zer, 0) := write_up hu hz (by simp)
    rw [hw]
    simp only [↓reduceIte]
    rw [sync_up (wrK_up hu)]
    exact ⟨rfl, rfl⟩
theorem take_split (hk : k < A.length) : A = A.take k ++ (A.getD k [] :: A.drop (k + 1)) := by
  rw [List.getD_eq_getElem?_getD, List.getElem?_eq_getElem hk]
  simp
theorem totQ_take (hk : k < A.length) : totQ (A.take (k + 1)) = totQ (A.take k) + cntQ (A.getD k []).length := by
  rw [take_snocD hk, totQ_app]; simp [totQ]
/-- What Open returns behind the inversion of a bit of a record. -/
theorem rots {b : Nat} (h : JI z j) (hj : j.Ok (z * 64) m) (hk : k < j.R.length) (hb : b < cntQ (j.R.getD k []).length * 512) (h45 : b / 8 ≠ 4 ∧ b / 8 ≠ 5) :
    (j.d.rotR (z * 64) ((totQ (j.R.take k) + b / 512 : Nat) : Int) ((b % 512 : Nat) : Int)).2 = 0 ∧
    (opR (z * 64) (z * 64 / 64 + 1) [] 0 (j.d.rotR (z * 64) ((totQ (j.R.take k) + b / 512 : Nat) : Int) ((b % 512 : Nat) : Int)).1).2.2.2 = 0 ∧
    (opJ (z * 64) (j.d.rotR (z * 64) ((totQ (j.R.take k) + b / 512 : Nat) : Int) ((b % 512 : Nat) : Int)).1).R = j.R.take k := by
  have hR := take_split hk
  generalize hr0 : j.R.getD k [] = r at *
  have hr : RecOk r := hj.r r (by rw [← hr0]; exact getD_mem' hk)
  have hH := h.h
  rw [hR] at hH
  obtain ⟨hH1, hH2, _⟩ := holds_app.1 hH
  have hkl : (j.R.take k).length = k := by rw [List.length_take]; omega
  rw [hkl, Nat.zero_add, Nat.zero_add] at hH2
  have hed : j.ed = totQ (j.R.take k) + (cntQ r.length + totQ (j.R.drop (k + 1))) := by
    rw [h.ed]; conv => lhs; rw [hR]
    rw [totQ_app]; rfl
  have hle := h.le
  have hR1 : ∀ x ∈ j.R.take k, RecOk x := fun x hx => hj.r x (List.mem_of_mem_take hx)
  generalize he : totQ (j.R.take k) = e at *
  have hFl := formQ_len (k : Int) r
  generalize hF : formQ (k : Int) r = F at *
  have hs : e + b / 512 < z := by omega
  have hDl := hj.d.len
  have hrot : j.d.rotR (z * 64) ((e + b / 512 : Nat) : Int) ((b % 512 : Nat) : Int) = ({ j.d with dur := j.d.dur.set ((((e + b / 512 : Nat) : Int) * 64).toNat + b % 512 / 8) (flipB (j.d.dur.getD ((((e + b / 512 : Nat) : Int) * 64).toNat + b % 512 / 8) 0) ((b % 512 : Nat) : Int)) }, 0) := by
    rw [Dk.rotR, if_neg (by
      rintro (h1 | h1 | h1)
      · rw [hasS_of (by omega) (by omega)] at h1; cases h1
      · omega
      · omega)]
    rw [show ((((b % 512 : Nat) : Int)) / 8).toNat = b % 512 / 8 by omega]
  obtain ⟨x, hx⟩ : ∃ x, x = flipB (j.d.dur.getD ((((e + b / 512 : Nat) : Int) * 64).toNat + b % 512 / 8) 0) ((b % 512 : Nat) : Int) := ⟨_, rfl⟩
  rw [hrot, ← hx]
  generalize hd' : ({ j.d with dur := j.d.dur.set ((((e + b / 512 : Nat) : Int) * 64).toNat + b % 512 / 8) x } : Dk) = d'
  have hu' : d'.Up := by rw [← hd']; exact ⟨h.up.off, h.up.fuse⟩
  have hrd : ∀ t : Nat, t < z → rdS d' (t : Int) = if t = e + b / 512 then (rdS j.d (t : Int)).set (b % 512 / 8) x else rdS j.d (t : Int) := fun t ht => by
    rw [rdS_nil (by rw [← hd']; exact h.pen) (by omega) (by rw [← hd']; simp only [List.length_set]; omega), rdS_nil h.pen (by omega) (by omega), ← hd']
    rw [sec_set' (by omega) (by omega)]
    split
    · rename_i hq; subst hq; rfl
    · rfl
  have hFx : j.d.dur.getD ((((e + b / 512 : Nat) : Int) * 64).toNat + b % 512 / 8) 0 = F.getD (b / 8) 0 := by
    have h1 := hH2 (b / 512) (by omega)
    rw [rdS_nil h.pen (by omega) (by omega)] at h1
    have h2 : (sec j.d.dur ((e + b / 512 : Nat) : Int))[b % 512 / 8]? = (secF F (b / 512))[b % 512 / 8]? := by rw [h1]
    rw [sec_get, if_pos (by omega)] at h2
    unfold secF at h2
    rw [List.getElem?_drop, List.getElem?_take, if_pos (by omega), show b / 512 * 64 + b % 512 / 8 = b / 8 by omega] at h2
    rw [List.getD_eq_getElem?_getD, h2, List.getD_eq_getElem?_getD]
  rw [hFx] at hx
  have hFB : ByR F := by rw [← hF]; exact formQ_by hr.2.2
  have hx1 : 0 ≤ x ∧ x < 256 := by rw [hx]; exact flipB_by _ _
  have hx2 : x ≠ F.getD (b / 8) 0 := by rw [hx]; exact flip_ne (hFB.getD _) _
  have hp : b / 8 < F.length := by omega
  have hL : Lies d' e (cntQ r.length) (F.set (b / 8) x) := fun q hq => by
    rw [hrd _ (by omega), secF_set hFl hp hq, hH2 q hq]
    rw [show b / 8 / 64 = b / 512 by omega, show b / 8 % 64 = b % 512 / 8 by omega]
    by_cases h1 : q = b / 512
    · rw [if_pos (by omega), if_pos h1]
    · rw [if_neg (by omega), if_neg h1]
  have hH' : Holds d' 0 0 (j.R.take k) := holds_congr (e := e) (fun t ht => by rw [hrd t (by omega), if_neg (by omega)]) (by omega) hH1
  have hkt := le_totQ (j.R.take k)
  rw [hkl, he] at hkt
  have hc := cntQ_pos r.length
  have hop := op_pre (z := z) hu' (j.R.take k) (f := z * 64 / 64 + 1) (R0 := []) (ed := 0) hH' hR1 (by omega) (by omega)
  rw [he, Nat.zero_add, List.nil_append] at hop
  have hnx : nxR (z * 64) (j.R.take k).length e d' = (d', [], secF (F.set (b / 8) x) 0, 0) := by
    rw [hkl]
    have := nx_bad (z := z) (k := k) (ed := e) (d := d') (r := r) (p := b / 8) (x := x) hu' hr (by rw [hF]; exact hp) hx1 (by rw [hF]; exact hx2) h45 (by rw [hF]; exact hL) (by omega)
    rw [hF] at this; exact this
  have hob := op_bad (z := z) (f := z * 64 / 64 + 1 - (j.R.take k).length) hu' (by omega) hnx (secF_len (k := cntQ r.length) (by rw [List.length_set]; exact hFl) (by omega)) (by omega)
  rw [← hop] at hob
  exact ⟨rfl, hob.1, hob.2⟩
end
end Go.VL

/- The journal, plain: a disk whose power may fail. -/
set_option linter.unusedVariables false
set_option linter.unusedSimpArgs false
namespace Go.VL
section
variable {z m k t s ed : Nat} {d : Dk} {b F : List Int}
theorem burn_off (h : d.off = false) : d.burn.off = d.out := by
  unfold Dk.burn Dk.out
  by_cases h0 : d.fuse = 0
  · rw [if_pos h0]; simp [h0]
  · rw [if_neg h0]
    split <;> simp [h, h0]
theorem write_any (h : d.off = false) (hs : s < z) (hb : b.length = 64) : d.writeR (z * 64) (s : Int) b = ({ d.burn with pen := d.pen ++ [((s : Int), b)] }, if d.out = true then 290 else 0) := by
  simp [Dk.writeR, h, hasS_of (z := z) (s := (s : Int)) (by omega) (by omega), hb]
theorem sync_any (h : d.off = false) : d.syncR = if d.out = true then (d.burn, 290) else ({ d.burn with dur := syL d.pen d.dur d.pen.length, pen := [] }, 0) := by
  simp [Dk.syncR, h]
theorem rdS_only {d d' : Dk} (h1 : d'.dur = d.dur) (h2 : d'.pen = d.pen) (s : Int) : rdS d' s = rdS d s := by unfold rdS; rw [h1, h2]
/-- Behind a failure before the first Sync. -/
def CrP1 (ed : Nat) (D0 : List Int) (d : Dk) : Prop := d.off = true ∧ d.dur = D0 ∧ ∀ w ∈ d.pen, (ed : Int) < w.1
theorem wrSec_any (hF : F.length = k * 64) {D0 : List Int} : ∀ (q j : Nat) (d : Dk), d.off = false → d.dur = D0 → (∀ w ∈ d.pen, (ed : Int) < w.1) → 1 ≤ j → j + q = k → ed + k ≤ z →
    (∃ d', wrSec (z * 64) (ed : Int) F j q d = (d', 0) ∧ d'.off = false ∧ d'.dur = D0 ∧ (∀ w ∈ d'.pen, (ed : Int) < w.1) ∧ ∀ t : Nat, rdS d' (t : Int) = if ed + j ≤ t ∧ t < ed + k then secF F (t - ed) else rdS d t) ∨
    (∃ d', wrSec (z * 64) (ed : Int) F j q d = (d', 290) ∧ CrP1 ed D0 d')
  | 0, j, d, h, hd, hp, h1, hj, hz => .inl ⟨d, rfl, h, hd, hp, fun t => by rw [if_neg (by omega)]⟩
  | q + 1, j, d, h, hd, hp, h1, hj, hz => by
    have hl : (secF F j).length = 64 := secF_len hF (by omega)
    have hw := write_any (z := z) (s := ed + j) h (by omega) hl
    rw [show ((ed + j : Nat) : Int) = (ed : Int) + (j : Int) by omega] at hw
    have hp2 : ∀ w ∈ d.pen ++ [((ed : Int) + (j : Int), secF F j)], (ed : Int) < w.1 := fun w hw => by
      rcases List.mem_append.1 hw with hw | hw
      · exact hp w hw
      · rw [List.mem_singleton.1 hw]; show (ed : Int) < (ed : Int) + j; omega
    cases ho : d.out with
    | true =>
      rw [if_pos ho] at hw
      refine .inr ⟨_, by rw [wrSec, hw, if_neg (by simp)], ?_, ?_, hp2⟩
      · show d.burn.off = true; rw [burn_off h, ho]
      · show d.burn.dur = D0; rw [burn_dur]; exact hd
    | false =>
      rw [if_neg (by rw [ho]; decide)] at hw
      have ho2 : d.burn.off = false := by rw [burn_off h, ho]
      rcases wrSec_any hF q (j + 1) { d.burn with pen := d.pen ++ [((ed : Int) + (j : Int), secF F j)] } ho2 (burn_dur.trans hd) hp2 (by omega) (by omega) hz with ⟨d', a1, a2, a3, a4, a5⟩ | ⟨d', a1, a2⟩
      · refine .inl ⟨d', by rw [wrSec, hw, if_pos rfl]; exact a1, a2, a3, a4, fun t => ?_⟩
        have e := rdS_write (d := d) (s := ed + j) (t := t) hl
        rw [a5 t, rdS_only (d' := { d.burn with pen := d.pen ++ [((ed : Int) + (j : Int), secF F j)] }) (d := wrK d (ed + j) (secF F j)) burn_dur (by simp [wrK]), e]
        by_cases ht : ed + j = t
        · subst ht
          rw [if_neg (by omega), if_pos rfl, if_pos (by omega)]
          congr 1; omega
        · by_cases h4 : ed + (j + 1) ≤ t ∧ t < ed + k
          · rw [if_pos h4, if_pos (by omega)]
          · rw [if_neg h4, if_neg ht, if_neg (by omega)]
      · exact .inr ⟨d', by rw [wrSec, hw, if_pos rfl]; exact a1, a2⟩
/-- Behind a failure after the first Sync: the first sector is pending. -/
def CrP2 (z ed k : Nat) (F : List Int) (d0 d : Dk) : Prop := d.off = true ∧ d.pen = [((ed : Int), secF F 0)] ∧ ∀ t : Nat, t < z → sec d.dur (t : Int) = if ed < t ∧ t < ed + k then secF F (t - ed) else if t = ed + k then zer else rdS d0 (t : Int)
theorem rdS_nz (hd : d.Ok (z * 64) m) (h : d.pen = []) (ht : t < z) : rdS d (t : Int) = sec d.dur (t : Int) := rdS_nil h (by omega) (by rw [hd.len]; omega)
/-- What writing a form does to a disk whose power may fail. -/
theorem wfR_any (hd : d.Ok (z * 64) m) (hb : d.By) (h : d.off = false) (hp : d.pen = []) (hF : F.length = k * 64) (hFB : ByR F) (hk : 1 ≤ k ∧ k ≤ 80) (hz : ed + k ≤ z) :
    (∃ d', wfR (z * 64) (ed : Int) F k d = (d', 0) ∧ d'.off = false ∧ (∀ t : Nat, t < z → rdS d' (t : Int) = if ed ≤ t ∧ t < ed + k then secF F (t - ed) else if t = ed + k then zer else rdS d t) ∧ d'.pen = []) ∨
    (∃ d', wfR (z * 64) (ed : Int) F k d = (d', 290) ∧ (CrP1 ed d.dur d' ∨ CrP2 z ed k F d d')) := by
  have hzz : ((z * 64 : Nat) : Int) / 64 = (z : Int) := by omega
  have key : (∃ d1, wfA (z * 64) (ed : Int) k d = (d1, 0) ∧ d1.off = false ∧ d1.dur = d.dur ∧ (∀ w ∈ d1.pen, (ed : Int) < w.1) ∧ (∀ t : Nat, t < z → rdS d1 (t : Int) = if t = ed + k then zer else rdS d t) ∧ d1.Ok (z * 64) (m + 1)) ∨
      (∃ d1, wfA (z * 64) (ed : Int) k d = (d1, 290) ∧ CrP1 ed d.dur d1) := by
    by_cases hq : ed + k < z
    · have hw := write_any (z := z) (s := ed + k) (b := zer) h hq (by simp)
      have hp2 : ∀ w ∈ d.pen ++ [(((ed + k : Nat) : Int), zer)], (ed : Int) < w.1 := fun w hw => by
        rw [hp, List.nil_append, List.mem_singleton] at hw
        rw [hw]; show (ed : Int) < ((ed + k : Nat) : Int); omega
      have e1 : wfA (z * 64) (ed : Int) k d = d.writeR (z * 64) ((ed + k : Nat) : Int) zer := by
        rw [wfA_y (by omega), show (ed : Int) + (k : Int) = ((ed + k : Nat) : Int) by omega]
      have hok := hd.write ((ed + k : Nat) : Int) zer
      rw [e1]
      rw [hw] at hok ⊢
      cases ho : d.out with
      | true => exact .inr ⟨{ d.burn with pen := d.pen ++ [(((ed + k : Nat) : Int), zer)] }, by rw [if_pos rfl], by show d.burn.off = true; rw [burn_off h, ho], burn_dur, hp2⟩
      | false =>
        refine .inl ⟨{ d.burn with pen := d.pen ++ [(((ed + k : Nat) : Int), zer)] }, by rw [if_neg (by decide)], by show d.burn.off = false; rw [burn_off h, ho], burn_dur, hp2, fun t ht => ?_, hok⟩
        rw [rdS_only (d' := { d.burn with pen := d.pen ++ [(((ed + k : Nat) : Int), zer)] }) (d := wrK d (ed + k) zer) burn_dur (by simp [wrK]), rdS_write (by simp)]
        by_cases h1 : t = ed + k
        · rw [if_pos h1.symm, if_pos h1]
        · rw [if_neg (fun e => h1 e.symm), if_neg h1]
    · exact .inl ⟨d, wfA_n (by omega), h, rfl, (fun w hw => by rw [hp] at hw; cases hw), fun t ht => by rw [if_neg (by omega)], hd.mono (by omega)⟩
  rcases key with ⟨d1, a1, a2, a3, a4, a5, a6⟩ | ⟨d1, a1, a2⟩
  · have a7 : d1.By := by
      have e : d1 = (wfA (z * 64) (ed : Int) k d).1 := by rw [a1]
      rw [e]; unfold wfA
      split
      · exact hb.writeR _ _ .rep
      · exact hb
    have e1 : wfR (z * 64) (ed : Int) F k d = wfB (z * 64) (ed : Int) F k d1 := by rw [wfR_ok (by rw [a1]), a1]
    rw [e1]
    rcases wrSec_any (z := z) (ed := ed) hF (k - 1) 1 d1 a2 a3 a4 (Nat.le_refl _) (by omega) hz with ⟨d2, b1, b2, b3, b4, b5⟩ | ⟨d2, b1, b2⟩
    · have b6 : d2.Ok (z * 64) (m + 1 + (k - 1)) := by
        have := (wrSec_ok (n := z * 64) (F := F) (e := (ed : Int)) (k - 1) 1 d1 a6 a7 hFB).1
        rw [b1] at this; exact this
      have e2 : wfB (z * 64) (ed : Int) F k d1 = wfC (z * 64) (ed : Int) F d2 := by rw [wfB, b1, if_pos rfl]
      rw [e2]
      have hs := sync_any b2
      cases ho : d2.out with
      | true =>
        rw [if_pos ho] at hs
        refine .inr ⟨d2.burn, by rw [wfC_e1 (by rw [hs]; simp), hs], .inl ⟨by rw [burn_off b2, ho], by rw [burn_dur]; exact b3, by rw [burn_pen]; exact b4⟩⟩
      | false =>
        rw [if_neg (by rw [ho]; decide)] at hs
        have hl0 : (secF F 0).length = 64 := secF_len hF (by omega)
        have c1 : ({ d2.burn with dur := syL d2.pen d2.dur d2.pen.length, pen := [] } : Dk).off = false := by show d2.burn.off = false; rw [burn_off b2, ho]
        have c2 : ∀ t : Nat, t < z → rdS { d2.burn with dur := syL d2.pen d2.dur d2.pen.length, pen := [] } (t : Int) = if ed < t ∧ t < ed + k then secF F (t - ed) else if t = ed + k then zer else rdS d (t : Int) := fun t ht => by
          rw [rdS_only (d' := { d2.burn with dur := syL d2.pen d2.dur d2.pen.length, pen := [] }) (d := syK d2) rfl rfl, rdS_sync b6 ht, b5 t]
          by_cases h2 : ed < t ∧ t < ed + k
          · rw [if_pos (by omega), if_pos h2]
          · rw [if_neg (by omega), if_neg h2, a5 t ht]
        have c3 : ({ d2.burn with dur := syL d2.pen d2.dur d2.pen.length, pen := [] } : Dk).Ok (z * 64) (m + 1 + (k - 1)) := by
          have := b6.sync
          rw [hs] at this; exact this
        have c4 : ({ d2.burn with dur := syL d2.pen d2.dur d2.pen.length, pen := [] } : Dk).pen = [] := rfl
        generalize ({ d2.burn with dur := syL d2.pen d2.dur d2.pen.length, pen := [] } : Dk) = d3 at hs c1 c2 c3 c4
        have hw := write_any (z := z) (s := ed) (b := secF F 0) c1 (by omega) hl0
        rw [c4, List.nil_append] at hw
        have cr : ∀ d5 : Dk, d5.off = true → d5.dur = d3.dur → d5.pen = [((ed : Int), secF F 0)] → CrP2 z ed k F d d5 := fun d5 f1 f2 f3 => ⟨f1, f3, fun t ht => by rw [f2, ← rdS_nz c3 c4 ht]; exact c2 t ht⟩
        cases ho3 : d3.out with
        | true =>
          rw [if_pos ho3] at hw
          refine .inr ⟨{ d3.burn with pen := [((ed : Int), secF F 0)] }, by rw [wfC_e2 (by rw [hs]) (by rw [hs]; simp only; rw [hw]; simp), hs]; exact hw, .inr (cr _ ?_ ?_ rfl)⟩
          · show d3.burn.off = true; rw [burn_off c1, ho3]
          · exact burn_dur
        | false =>
          rw [if_neg (by rw [ho3]; decide)] at hw
          have c6 := c3.write (ed : Int) (secF F 0)
          rw [hw] at c6
          have c7 : ({ d3.burn with pen := [((ed : Int), secF F 0)] } : Dk).off = false := by show d3.burn.off = false; rw [burn_off c1, ho3]
          have c8 : ({ d3.burn with pen := [((ed : Int), secF F 0)] } : Dk).dur = d3.dur := burn_dur
          have c9 : ({ d3.burn with pen := [((ed : Int), secF F 0)] } : Dk).pen = [((ed : Int), secF F 0)] := rfl
          have c10 : ∀ t : Nat, t < z → rdS { d3.burn with pen := [((ed : Int), secF F 0)] } (t : Int) = if ed = t then secF F 0 else rdS d3 (t : Int) := fun t ht => by
            rw [rdS_only (d' := { d3.burn with pen := [((ed : Int), secF F 0)] }) (d := wrK d3 ed (secF F 0)) burn_dur (by simp [wrK, c4]), rdS_write hl0]
          generalize ({ d3.burn with pen := [((ed : Int), secF F 0)] } : Dk) = d4 at hw c6 c7 c8 c9 c10
          have hs4 := sync_any c7
          have e3 : wfC (z * 64) (ed : Int) F d2 = d4.syncR := by
            rw [wfC_ok (by rw [hs]) (by rw [hs]; simp only; rw [hw]), hs]; simp only; rw [hw]
          rw [e3, hs4]
          cases ho4 : d4.out with
          | true => exact .inr ⟨d4.burn, by rw [if_pos rfl], .inr (cr _ (by rw [burn_off c7, ho4]) (by rw [burn_dur]; exact c8) (by rw [burn_pen]; exact c9))⟩
          | false =>
            refine .inl ⟨{ d4.burn with dur := syL d4.pen d4.dur d4.pen.length, pen := [] }, by rw [if_neg (by decide)], by show d4.burn.off = false; rw [burn_off c7, ho4], fun t ht => ?_, rfl⟩
            rw [rdS_only (d' := { d4.burn with dur := syL d4.pen d4.dur d4.pen.length, pen := [] }) (d := syK d4) rfl rfl, rdS_sync c6 ht, c10 t ht]
            by_cases h1 : ed = t
            · subst h1; rw [if_pos rfl, if_pos (by omega), Nat.sub_self]
            · rw [if_neg h1, c2 t ht]
              by_cases h2 : ed < t ∧ t < ed + k
              · rw [if_pos h2, if_pos (by omega)]
              · rw [if_neg h2, if_neg (show ¬ (ed ≤ t ∧ t < ed + k) by omega)]
    · exact .inr ⟨d2, by rw [wfB, b1, if_neg (by simp)], .inl b2⟩
  · exact .inr ⟨d1, by rw [wfR_e (by rw [a1]; simp), a1], .inl a2⟩
end
end Go.VL

/- The journal, plain: a record that was written in part. -/
set_option linter.unusedVariables false
set_option linter.unusedSimpArgs false
namespace Go.VL
/-- The bytes p to i - 1 are zero. -/
def tornI (F : List Int) (p i : Nat) : List Int := F.take p ++ (List.replicate (i - p) 0 ++ F.drop i)
/-- Would a record, of whose first sector only p bytes were written, be taken for another one? -/
def tornQ (n : Int) (b : List Int) (p : Nat) : Bool :=
  if formQ n b = tornI (formQ n b) p 64 then false
  else if sizeQ (tornI (formQ n b) p 64) < 1 ∨ 4096 < sizeQ (tornI (formQ n b) p 64) ∨ (tornI (formQ n b) p 64).length < sizeQ (tornI (formQ n b) p 64) + 10 then false
  else decide (formQ n (recQ (tornI (formQ n b) p 64) (sizeQ (tornI (formQ n b) p 64))) = (tornI (formQ n b) p 64).take (cntQ (sizeQ (tornI (formQ n b) p 64)) * 64))
def chanceQ (n : Int) (b : List Int) : Bool := (List.range 64).any (tornQ n b)
section
variable {z m k t s ed p i q : Nat} {d : Dk} {b F : List Int} {R : List (List Int)} {j : Jn}
theorem tornI_get (hp : p ≤ i) (hi : i ≤ F.length) (q : Nat) : (tornI F p i)[q]? = if p ≤ q ∧ q < i then some 0 else F[q]? := by
  have hl : (F.take p).length = p := by rw [List.length_take]; omega
  unfold tornI
  by_cases h1 : q < p
  · rw [List.getElem?_append_left (by omega), List.getElem?_take, if_pos h1, if_neg (by omega)]
  · rw [List.getElem?_append_right (by omega), hl]
    by_cases h2 : q < i
    · rw [List.getElem?_append_left (by simp; omega), List.getElem?_replicate, if_pos (by omega), if_pos (by omega)]
    · rw [List.getElem?_append_right (by simp; omega), List.length_replicate, List.getElem?_drop, if_neg (by omega)]
      congr 1; omega
theorem tornI_len (hp : p ≤ i) (hi : i ≤ F.length) : (tornI F p i).length = F.length := by
  simp only [tornI, List.length_append, List.length_take, List.length_replicate, List.length_drop]; omega
theorem tornI_self (hi : i ≤ F.length) : tornI F i i = F := by simp [tornI]
theorem tornI_set (hp : p ≤ i) (hi : i < F.length) : (tornI F p i).set i 0 = tornI F p (i + 1) := by
  apply List.ext_getElem?
  intro q
  have hl := tornI_len hp (Nat.le_of_lt hi)
  rw [List.getElem?_set, tornI_get hp (Nat.le_of_lt hi), tornI_get (by omega) hi]
  by_cases h : i = q
  · rw [if_pos h, if_pos (by omega), if_pos (by omega)]
  · rw [if_neg h]
    by_cases h2 : p ≤ q ∧ q < i
    · rw [if_pos h2, if_pos (by omega)]
    · rw [if_neg h2, if_neg (by omega)]
theorem tornI_by (h : ByR F) : ByR (tornI F p i) := (h.take p).append (ByR.rep.append (h.drop i))
theorem secF_get {F : List Int} {j : Nat} (i : Nat) : (secF F j)[i]? = if i < 64 then F[j * 64 + i]? else none := by
  unfold secF
  rw [List.getElem?_drop, List.getElem?_take]
  by_cases hi : i < 64
  · rw [if_pos hi, if_pos (by omega)]
  · rw [if_neg hi, if_neg (by omega)]
theorem secF_torn (hp : p ≤ 64) (hF : 64 ≤ F.length) (hj : 1 ≤ i) : secF (tornI F p 64) i = secF F i := by
  apply List.ext_getElem?
  intro q
  rw [secF_get, secF_get]
  split
  · rw [tornI_get hp hF, if_neg (by omega)]
  · rfl
theorem secF_torn0 (hp : p ≤ 64) (hF : 64 ≤ F.length) : secF (tornI F p 64) 0 = cpw zer 0 64 ((secF F 0).take p) := by
  have hl : ((secF F 0).take p).length = p := by rw [List.length_take, secF_zero, List.length_take]; omega
  apply List.ext_getElem?
  intro q
  rw [secF_get, cpw_get (by simp), hl]
  by_cases hq : q < 64
  · rw [if_pos hq, Nat.zero_mul, Nat.zero_add, tornI_get hp hF]
    by_cases h : q < p
    · rw [if_neg (by omega), if_pos (by omega), Nat.sub_zero, List.getElem?_take, if_pos h, secF_get, if_pos hq, Nat.zero_mul, Nat.zero_add]
    · rw [if_pos (by omega), if_neg (by omega), List.getElem?_replicate, if_pos hq]
  · rw [if_neg hq, if_neg (by omega), List.getElem?_replicate, if_neg hq]
theorem sizeQ_take (F : List Int) : sizeQ (secF F 0) = sizeQ F := by
  unfold sizeQ
  rw [secF_zero, getD_take64 (by decide), getD_take64 (by decide)]
theorem form_sizeF {k : Int} (h : RecOk b) : sizeQ (formQ k b) = b.length := by rw [← sizeQ_take]; exact form_size h
theorem torn_size {k : Int} (h : RecOk b) (hp : p ≤ 64) : sizeQ (tornI (formQ k b) p 64) ≤ b.length := by
  have hl := formQ_len k b
  have hF : 64 ≤ (formQ k b).length := by have := cntQ_pos b.length; omega
  have hB := (formQ_by (n := k) h.2.2)
  have h4 := hB.getD 4
  have h5 := hB.getD 5
  have hs := form_sizeF (k := k) h
  have e : ∀ q, (tornI (formQ k b) p 64).getD q 0 = if p ≤ q ∧ q < 64 then 0 else (formQ k b).getD q 0 := fun q => by
    rw [List.getD_eq_getElem?_getD, tornI_get hp hF]
    split
    · rfl
    · rw [List.getD_eq_getElem?_getD]
  rw [← hs]
  unfold sizeQ
  rw [e 4, e 5]
  split <;> split <;> omega
/-- A record that was written in part is none. -/
theorem nx_torn (hu : d.Up) (hr : RecOk b) (hp : p < 64) (hne : tornI (formQ (k : Int) b) p 64 ≠ formQ (k : Int) b) (hc : tornQ (k : Int) b p = false)
    (hL : Lies d ed (cntQ b.length) (tornI (formQ (k : Int) b) p 64)) (hz : ed + cntQ b.length ≤ z) :
    nxR (z * 64) k ed d = (d, [], rdS d (ed : Int), 0) := by
  have hcp := cntQ_pos b.length
  have hl := formQ_len (k : Int) b
  have hs0 := torn_size (k := (k : Int)) hr (Nat.le_of_lt hp)
  have hF : 64 ≤ (formQ (k : Int) b).length := by omega
  have hGl := tornI_len (F := formQ (k : Int) b) (Nat.le_of_lt hp) hF
  unfold tornQ at hc
  rw [if_neg (fun h => hne h.symm)] at hc
  generalize hG : tornI (formQ (k : Int) b) p 64 = G at *
  have hr0 : rdS d (ed : Int) = secF G 0 := by have := hL 0 (by omega); simpa using this
  have h0 : d.readR (z * 64) (ed : Int) = (d, secF G 0, 0) := by rw [read_upS hu (by omega), hr0]
  have h1 : ¬ z * 64 / 64 ≤ ed := by omega
  have hs := sizeQ_take G
  rw [hr0]
  by_cases h2 : FitQ (z * 64) k ed (d.readR (z * 64) (ed : Int)).2.1
  · have h2' := h2
    rw [h0] at h2'
    obtain ⟨_, g2, g3, _⟩ := h2'
    simp only [hs] at g2 g3
    have hcs : cntQ (sizeQ G) ≤ cntQ b.length := by unfold cntQ; omega
    have hcs1 := cntQ_pos (sizeQ G)
    have hcs2 := cntQ_le (sizeQ G)
    have hcs3 := cntQ_le b.length
    rw [if_neg (by omega)] at hc
    have hc := of_decide_eq_false hc
    have ha := rdAll_up (z := z) (k := cntQ (sizeQ G)) (F := G) hu (fun q hq => hL q (by omega)) (by omega) (cntQ (sizeQ G) - 1) 1 (by omega)
    rw [Nat.one_mul] at ha
    have hrec : recQ (G.take (cntQ (sizeQ G) * 64)) (sizeQ G) = recQ G (sizeQ G) := by
      unfold recQ
      rw [List.take_take, Nat.min_eq_left (by omega)]
    rw [nx_fit h1 (by rw [h0]) h2 rfl]
    rw [h0]
    simp only [hs]
    rw [secF_zero, ha]
    simp only [↓reduceIte, hrec]
    rw [if_neg (fun h => hc h.symm)]
  · rw [nx_unfit h1 (by rw [h0]) h2, h0]
theorem chance_no (h : chanceQ (k : Int) b = false) (hp : p < 64) : tornQ (k : Int) b p = false := by
  have := List.any_eq_false.1 h p (List.mem_range.2 hp)
  simpa using this
theorem chance_of (h : ∀ p, p < 64 → tornQ (k : Int) b p = false) : chanceQ (k : Int) b = false := by
  refine List.any_eq_false.2 (fun p hp => ?_)
  rw [h p (List.mem_range.1 hp)]; decide
theorem chance_y (hp : p < 64) (h : tornQ (k : Int) b p = true) : chanceQ (k : Int) b = true := List.any_eq_true.2 ⟨p, List.mem_range.2 hp, h⟩
end
end Go.VL

/- The journal, plain: appending and booting where the power may fail. -/
set_option linter.unusedVariables false
set_option linter.unusedSimpArgs false
namespace Go.VL
/-- A journal on a disk that is up, but whose power may fail. -/
structure JL (z : Nat) (j : Jn) : Prop where
  off : j.d.off = false
  h : Holds j.d 0 0 j.R
  ed : j.ed = totQ j.R
  le : j.ed ≤ z
  e : j.ed < z → rdS j.d (j.ed : Int) = zer
  fl : j.fl = false
  pen : j.d.pen = []
/-- What a disk holds behind a Boot, if the power failed while a record was appended. -/
def AfterB (z ed : Nat) (R : List (List Int)) (b : List Int) (d : Dk) : Prop :=
  Holds d 0 0 R ∧ (rdS d (ed : Int) = zer ∨ ∃ p, p ≤ 64 ∧ Lies d ed (cntQ b.length) (tornI (formQ (R.length : Int) b) p 64) ∧ (ed + cntQ b.length < z → rdS d ((ed + cntQ b.length : Nat) : Int) = zer))
/-- A journal of which an Append failed. -/
structure JD (z : Nat) (j : Jn) (b : List Int) : Prop where
  fl : j.fl = true
  ed : j.ed = totQ j.R
  rc : RecOk b
  le : j.ed + cntQ b.length ≤ z
  w : ∀ keep torn, AfterB z j.ed j.R b (j.d.bootR keep torn)
section
variable {z m k t s ed p i q : Nat} {d d' : Dk} {b F : List Int} {R : List (List Int)} {j : Jn} {x : Int}
theorem JI.fuse (h : JI z j) (x : Int) : JL z ⟨j.d.fuseR x, j.R, j.ed, j.fl⟩ := by
  have e : ∀ t : Int, rdS (j.d.fuseR x) t = rdS j.d t := fun t => rdS_only rfl rfl t
  have hH : Holds (j.d.fuseR x) 0 0 j.R := holds_congr (d := j.d) (e := totQ j.R) (fun t ht => e t) (by omega) h.h
  exact ⟨h.up.off, hH, h.ed, h.le, fun hz => (e _).trans (h.e hz), h.fl, h.pen⟩
theorem boot_up (keep : List Int) (torn : Int) : (d.bootR keep torn).Up := ⟨rfl, rfl⟩
theorem boot_rdS (hd : d.Ok (z * 64) m) (ht : t < z) (keep : List Int) (torn : Int) : rdS (d.bootR keep torn) (t : Int) = sec (d.bootR keep torn).dur (t : Int) := rdS_nz (m := m) (hd.boot keep torn) rfl ht
theorem boot_nil (hp : d.pen = []) (keep : List Int) (torn : Int) : (d.bootR keep torn).dur = d.dur := by unfold Dk.bootR; rw [hp]; rfl
/-- Behind a failure before the first Sync the disk holds what it held. -/
theorem after_1 (h : JL z j) (hd : j.d.Ok (z * 64) m) (hd' : d'.Ok (z * 64) m) (hed : j.ed < z) (hc : CrP1 j.ed j.d.dur d') (keep : List Int) (torn : Int) : AfterB z j.ed j.R b (d'.bootR keep torn) := by
  obtain ⟨_, c2, c3⟩ := hc
  have key : ∀ t : Nat, t ≤ j.ed → rdS (d'.bootR keep torn) (t : Int) = rdS j.d (t : Int) := fun t ht => by
    rw [boot_rdS hd' (by omega), rdS_nz hd h.pen (by omega), ← c2]
    exact (boL_sec (by omega) (fun w hw => by have := hd'.ins w hw; rw [hd'.len]; exact ⟨this.1, this.2.1⟩) (fun w hw => by have := c3 w hw; omega) d'.pen.length (Nat.le_refl _)).2
  exact ⟨holds_congr (e := j.ed) (fun t ht => key t (by omega)) (by have := h.ed; omega) h.h, .inl (by rw [key j.ed (Nat.le_refl _)]; exact h.e hed)⟩
theorem tear_take (last torn : Int) (i : Nat) (hb : b.length = 64) : ∃ p, p ≤ 64 ∧ tearB last torn i b = b.take p := by
  unfold tearB
  split
  · exact ⟨torn.toNat, by omega, rfl⟩
  · exact ⟨64, Nat.le_refl _, (List.take_of_length_le (by omega)).symm⟩
/-- Behind a failure after it the first sector may be written in part. -/
theorem after_2 (h : JL z j) (hd : j.d.Ok (z * 64) m) (hd' : d'.Ok (z * 64) m) (hz : j.ed + cntQ b.length ≤ z) (hc : CrP2 z j.ed (cntQ b.length) (formQ (j.R.length : Int) b) j.d d') (keep : List Int) (torn : Int) : AfterB z j.ed j.R b (d'.bootR keep torn) := by
  obtain ⟨_, c2, c3⟩ := hc
  have hk := cntQ_pos b.length
  have hFl := formQ_len (j.R.length : Int) b
  generalize hF : formQ (j.R.length : Int) b = F at *
  have hS : (secF F 0).length = 64 := secF_len hFl (by omega)
  have hDl := hd'.len
  have hze : sec d'.dur (j.ed : Int) = zer := by rw [c3 j.ed (by omega), if_neg (by omega), if_neg (by omega)]; exact h.e (by omega)
  have hH : ∀ t : Nat, t < j.ed → sec d'.dur (t : Int) = rdS j.d (t : Int) := fun t ht => by rw [c3 t (by omega), if_neg (by omega), if_neg (by omega)]
  have hb1 : (d'.bootR keep torn).dur = boL (kpL keep 1 keep.length).1 (kpL keep 1 keep.length).2 torn [((j.ed : Int), secF F 0)] d'.dur 1 := by unfold Dk.bootR; rw [c2]; rfl
  rw [boL] at hb1
  have hcase : (d'.bootR keep torn).dur = d'.dur ∨ ∃ p, p ≤ 64 ∧ (d'.bootR keep torn).dur = put d'.dur (j.ed : Int) ((secF F 0).take p) := by
    split at hb1
    · obtain ⟨p, hp, e⟩ := tear_take (kpL keep 1 keep.length).2 torn 0 hS
      refine .inr ⟨p, hp, ?_⟩
      rw [hb1, ← e]; rfl
    · exact .inl hb1
  rcases hcase with hcase | ⟨p, hp, hcase⟩
  · refine ⟨holds_congr (e := j.ed) (fun t ht => ?_) (by have := h.ed; omega) h.h, .inl ?_⟩
    · rw [boot_rdS hd' (by omega), hcase]; exact hH t ht
    · rw [boot_rdS hd' (by omega), hcase]; exact hze
  · have hs : ∀ t : Nat, t < z → rdS (d'.bootR keep torn) (t : Int) = if t = j.ed then secF (tornI F p 64) 0 else sec d'.dur (t : Int) := fun t ht => by
      rw [boot_rdS hd' ht, hcase]
      split
      · rename_i h1
        subst h1
        rw [sec_put_at (by omega) (by omega), hze, secF_torn0 hp (by omega)]
      · rw [sec_put (by omega) (by omega) (by omega) (by omega)]
    refine ⟨holds_congr (e := j.ed) (fun t ht => ?_) (by have := h.ed; omega) h.h, .inr ⟨p, hp, fun q hq => ?_, fun hq => ?_⟩⟩
    · rw [hs t (by omega), if_neg (by omega)]; exact hH t ht
    · rw [hF, hs (j.ed + q) (by omega)]
      by_cases h0 : q = 0
      · subst h0; rw [if_pos (by omega)]
      · rw [if_neg (by omega), secF_torn hp (by omega) (by omega), c3 _ (by omega), if_pos (by omega), Nat.add_sub_cancel_left]
    · rw [hs _ hq, if_neg (by omega), c3 _ hq, if_neg (by omega), if_pos rfl]
/-- What appending does to a journal whose disk may fail. -/
theorem JL.append (h : JL z j) (hj : j.Ok (z * 64) m) (hb : RecOk b) (hz : j.ed + cntQ b.length ≤ z) :
    ((apR (z * 64) j b).2 = 0 ∧ JL z (apR (z * 64) j b).1 ∧ (apR (z * 64) j b).1.R = j.R ++ [b]) ∨
    (∃ j', apR (z * 64) j b = (j', 290) ∧ JD z j' b ∧ j'.R = j.R ∧ j'.Ok (z * 64) (m + 82)) := by
  have hl := List.length_pos_iff.2 hb.1
  have hl2 := hb.2.1
  have hc : 1 ≤ cntQ b.length := cntQ_pos _
  have hok := hj.append (b := b) hb.2.2
  rcases wfR_any (ed := j.ed) hj.d hj.b h.off h.pen (formQ_len (j.R.length : Int) b) (formQ_by hb.2.2) ⟨hc, by unfold cntQ; omega⟩ hz with ⟨d', w1, w2, w3, w4⟩ | ⟨d', w1, w2⟩
  · have hw : wrJ (z * 64) j b = (d', 0) := w1
    have e := ap_ok (n := z * 64) (j := j) (b := b) (by omega) h.fl (by omega) (by rw [hw])
    left
    rw [e]
    simp only [hw]
    refine ⟨trivial, ⟨w2, ?_, ?_, hz, fun hq => ?_, h.fl, w4⟩, trivial⟩
    · refine holds_app.2 ⟨holds_congr (e := j.ed) (fun t ht => ?_) (by have := h.ed; omega) h.h, ?_⟩
      · rw [w3 t (by omega), if_neg (by omega), if_neg (by omega)]
      · rw [Nat.zero_add, Nat.zero_add, ← h.ed]
        refine ⟨fun q hq => ?_, trivial⟩
        rw [w3 (j.ed + q) (by omega), if_pos (by omega), Nat.add_sub_cancel_left]
    · show j.ed + cntQ b.length = totQ (j.R ++ [b])
      rw [totQ_app, h.ed]; simp [totQ]
    · show rdS d' ((j.ed + cntQ b.length : Nat) : Int) = zer
      have hq : j.ed + cntQ b.length < z := hq
      rw [w3 _ hq, if_neg (by omega), if_pos rfl]
  · have hw : wrJ (z * 64) j b = (d', 290) := w1
    have e := ap_err (n := z * 64) (j := j) (b := b) (by omega) h.fl (by omega) (by rw [hw]; simp)
    rw [hw] at e
    rw [e] at hok
    refine .inr ⟨_, e, ⟨rfl, h.ed, hb, hz, fun keep torn => ?_⟩, rfl, hok⟩
    rcases w2 with w2 | w2
    · exact after_1 h (hj.d.mono (by omega)) hok.d (by omega) w2 keep torn
    · exact after_2 h (hj.d.mono (by omega)) hok.d hz w2 keep torn
theorem JL.full (h : JL z j) (hl : 1 ≤ b.length ∧ b.length ≤ 4096) (hz : z < j.ed + cntQ b.length) : apR (z * 64) j b = (j, 8) := ap_full (by omega) h.fl (by omega)
theorem JD.down {b0 : List Int} (h : JD z j b0) (hl : 1 ≤ b.length ∧ b.length ≤ 4096) : apR (z * 64) j b = (j, 290) := ap_down (by omega) h.fl
/-- What Open makes of a disk on which behind the records there is none. -/
theorem op_close (hu : d.Up) (hd : d.Ok (z * 64) m) (hp : d.pen = []) (hH : Holds d 0 0 R) (hr : ∀ r ∈ R, RecOk r) (hz : totQ R < z) (hx : nxR (z * 64) R.length (totQ R) d = (d, [], rdS d ((totQ R : Nat) : Int), 0)) :
    (opR (z * 64) (z * 64 / 64 + 1) [] 0 d).2.2.2 = 0 ∧ JI z (opJ (z * 64) d) ∧ (opJ (z * 64) d).R = R := by
  have hRt := le_totQ R
  have hop := op_pre (z := z) hu R (f := z * 64 / 64 + 1) (R0 := []) (ed := 0) hH hr (by omega) (by omega)
  rw [Nat.zero_add, List.nil_append] at hop
  have hl := rdS_len (d := d) ((totQ R : Nat) : Int)
  have hne : rdS d ((totQ R : Nat) : Int) ≠ [] := by intro e; rw [e] at hl; cases hl
  unfold opJ
  by_cases h0 : rdS d ((totQ R : Nat) : Int) = zer
  · rw [hop, op_end (by rw [hx]) (by rw [hx]) (.inr (by rw [hx]; exact h0)) (by omega), hx]
    exact ⟨rfl, ⟨hu, hH, rfl, Nat.le_of_lt hz, fun _ => h0, rfl, hp⟩, rfl⟩
  · rw [hop, op_zero (by rw [hx]) (by rw [hx]) (by rw [hx]; exact hne) (by rw [hx]; exact h0) (by omega), hx]
    simp only
    have hw : d.writeR (z * 64) ((totQ R : Nat) : Int) zer = (wrK d (totQ R) zer, 0) := write_up hu hz (by simp)
    rw [hw]
    simp only [↓reduceIte]
    rw [sync_up (wrK_up hu)]
    simp only [↓reduceIte]
    have hok := wr_ok (s := totQ R) (b := zer) hd hz (by simp)
    have hs : ∀ t : Nat, t < z → rdS (syK (wrK d (totQ R) zer)) (t : Int) = if totQ R = t then zer else rdS d (t : Int) := fun t ht => by rw [rdS_sync hok ht, rdS_write (by simp)]
    refine ⟨trivial, ⟨syK_up (wrK_up hu), holds_congr (R := R) (e := totQ R) (fun t ht => ?_) (by omega) hH, rfl, Nat.le_of_lt hz, fun _ => ?_, rfl, rfl⟩, trivial⟩
    · rw [hs t (by omega), if_neg (by omega)]
    · rw [hs _ hz, if_pos rfl]
theorem jok_zero (hj : j.Ok (z * 64) m) (hp : j.d.pen = []) : j.Ok (z * 64) 0 := { hj with d := { hj.d with pen := by rw [hp]; exact Nat.le_refl _ } }
/-- Open behind a Boot, if no Append failed. -/
theorem JL.boot (h : JL z j) (hj : j.Ok (z * 64) m) (keep : List Int) (torn : Int) :
    ∃ j2, (opR (z * 64) (z * 64 / 64 + 1) [] 0 (j.d.bootR keep torn)).2.2.2 = 0 ∧ opJ (z * 64) (j.d.bootR keep torn) = j2 ∧ JI z j2 ∧ j2.Ok (z * 64) 0 ∧ j2.R = j.R := by
  have hd := boot_nil h.pen keep torn
  have hs : ∀ t : Nat, t < z → rdS (j.d.bootR keep torn) (t : Int) = rdS j.d (t : Int) := fun t ht => by rw [boot_rdS hj.d ht, hd, rdS_nz hj.d h.pen ht]
  have hJ : JI z ⟨j.d.bootR keep torn, j.R, j.ed, false⟩ := ⟨boot_up _ _, holds_congr (R := j.R) (e := j.ed) (fun t ht => hs t (by have := h.le; omega)) (by have := h.ed; omega) h.h, h.ed, h.le, fun hz => by rw [hs _ hz]; exact h.e hz, rfl, rfl⟩
  have ho := hJ.openJ hj.r
  exact ⟨_, ho.1, ho.2, hJ, ⟨hj.d.boot0 keep torn, hj.b.bootR keep torn, hj.r, hj.le, hj.en⟩, rfl⟩
/-- Open behind a Boot, if an Append failed. -/
theorem JD.boot (h : JD z j b) (hj : j.Ok (z * 64) m) (hc : chanceQ (j.R.length : Int) b = false) (keep : List Int) (torn : Int) :
    ∃ j2, (opR (z * 64) (z * 64 / 64 + 1) [] 0 (j.d.bootR keep torn)).2.2.2 = 0 ∧ opJ (z * 64) (j.d.bootR keep torn) = j2 ∧ JI z j2 ∧ j2.Ok (z * 64) 0 ∧ (j2.R = j.R ∨ j2.R = j.R ++ [b]) := by
  obtain ⟨hH, hA⟩ := h.w keep torn
  have hd0 := hj.d.boot0 keep torn
  have hb0 := hj.b.bootR keep torn
  have hu := boot_up (d := j.d) keep torn
  have hk := cntQ_pos b.length
  have hpn : (j.d.bootR keep torn).pen = [] := rfl
  generalize hdd : j.d.bootR keep torn = d at *
  have hed := h.ed
  have hle := h.le
  have hcl : ∀ hx : nxR (z * 64) j.R.length (totQ j.R) d = (d, [], rdS d ((totQ j.R : Nat) : Int), 0), ∃ j2, (opR (z * 64) (z * 64 / 64 + 1) [] 0 d).2.2.2 = 0 ∧ opJ (z * 64) d = j2 ∧ JI z j2 ∧ j2.Ok (z * 64) 0 ∧ (j2.R = j.R ∨ j2.R = j.R ++ [b]) := fun hx => by
    obtain ⟨o1, o2, o3⟩ := op_close hu hd0 hpn hH hj.r (by omega) hx
    exact ⟨_, o1, rfl, o2, jok_zero (opJ_ok hd0 hb0) o2.pen, .inl o3⟩
  rcases hA with hA | ⟨p, hp, hL, hZ⟩
  · rw [hed] at hA
    exact hcl (by rw [hA]; exact nx_zer hu (by omega) hA)
  · by_cases hne : tornI (formQ (j.R.length : Int) b) p 64 = formQ (j.R.length : Int) b
    · rw [hne] at hL
      have hJ : JI z ⟨d, j.R ++ [b], j.ed + cntQ b.length, false⟩ := ⟨hu, holds_app.2 ⟨hH, by rw [Nat.zero_add, Nat.zero_add, ← hed]; exact ⟨hL, trivial⟩⟩, by show j.ed + cntQ b.length = totQ (j.R ++ [b]); rw [totQ_app, hed]; simp [totQ], hle, hZ, rfl, hpn⟩
      have hr : ∀ r ∈ j.R ++ [b], RecOk r := fun r hr => by
        rcases List.mem_append.1 hr with hr | hr
        · exact hj.r r hr
        · rw [List.mem_singleton.1 hr]; exact h.rc
      have ho := hJ.openJ hr
      exact ⟨_, ho.1, ho.2, hJ, ⟨hd0, hb0, hr, by have := hj.le; simp only [List.length_append, List.length_singleton]; omega, by show j.ed + cntQ b.length ≤ z * 64 / 64; omega⟩, .inr rfl⟩
    · have hp6 : p < 64 := by
        rcases Nat.lt_or_ge p 64 with h6 | h6
        · exact h6
        · exfalso; apply hne
          rw [show p = 64 by omega]
          exact tornI_self (by have := formQ_len (j.R.length : Int) b; omega)
      have hx := nx_torn (z := z) hu h.rc hp6 hne (chance_no hc hp6) hL hle
      rw [hed] at hx
      exact hcl hx
theorem JL.cases (h : JL z j) (hj : j.Ok (z * 64) m) (hb : ByR b) (hl : b.length ≤ 200) :
    ((apR (z * 64) j b).2 = 0 ∧ JL z (apR (z * 64) j b).1 ∧ (apR (z * 64) j b).1.Ok (z * 64) (m + 82) ∧ (apR (z * 64) j b).1.R = j.R ++ [b]) ∨ apR (z * 64) j b = (j, 1) ∨ apR (z * 64) j b = (j, 8) ∨
    (∃ j', apR (z * 64) j b = (j', 290) ∧ JD z j' b ∧ j'.R = j.R ∧ j'.Ok (z * 64) (m + 82) ∧ 0 < b.length) := by
  rcases Nat.eq_zero_or_pos b.length with h0 | h0
  · exact .inr (.inl (ap_arg (.inl (by omega))))
  · by_cases hz : j.ed + cntQ b.length ≤ z
    · rcases h.append hj ⟨List.length_pos_iff.1 h0, by omega, hb⟩ hz with ⟨a, b1, c⟩ | ⟨j', a, b1, c, e⟩
      · exact .inl ⟨a, b1, hj.append hb, c⟩
      · exact .inr (.inr (.inr ⟨j', a, b1, c, e, h0⟩))
    · exact .inr (.inr (.inl (h.full ⟨h0, by omega⟩ (by omega))))
theorem JD.cases {b0 : List Int} (h : JD z j b0) (hl : b.length ≤ 200) : apR (z * 64) j b = (j, 1) ∨ apR (z * 64) j b = (j, 290) := by
  rcases Nat.eq_zero_or_pos b.length with h0 | h0
  · exact .inl (ap_arg (.inl (by omega)))
  · exact .inr (h.down ⟨h0, by omega⟩)
end
/-- A time between two power failures. -/
structure Rnd where
  recs : List (List Int)
  fuse : Int
  keep : List Int
  torn : Int
abbrev nd0 : Rnd := ⟨[], 0, [], 0⟩
structure Rnd.Ok (r : Rnd) : Prop where
  recs : ∀ a ∈ r.recs, ByR a ∧ a.length ≤ 9223372036854775807
  len : r.recs.length ≤ 9223372036854775807
  fuse : -9223372036854775808 ≤ r.fuse ∧ r.fuse ≤ 9223372036854775807
  keep : r.keep.length ≤ 9223372036854775807
  torn : -9223372036854775808 ≤ r.torn ∧ r.torn ≤ 9223372036854775807
def ndB (r : Rnd) : List B := [slT 1 rwB r.recs, numB .i64 r.fuse, slK .i64 r.keep, numB .i64 r.torn]
theorem ndB_len : ∀ r, (ndB r).length = 4 := fun _ => rfl
end Go.VL

/- From contracts by value to the given statements: times between two power failures. -/
set_option linter.unusedVariables false
set_option linter.unusedSimpArgs false
set_option maxRecDepth 100000
namespace Go.VL
open Go.ChangeShapes Go.WideShapes Go.ChangeAt Go.RowKit Go.ChangeMaps Go.Proofs
section
variable {H : Type} {enc : TypeId × Value → H} {W : World}
def shRn : List B → Prop := ShF [(43, 1, ShS 1 (ShS 1 sh8)), (3, 1, sh64), (29, 1, ShS 1 sh64), (3, 1, sh64)]
theorem o74 : Opens enc Try.prog W 74 4 shRn := Opens.struct _ (by kernel_rfl) Try.underlying74 rfl ⟨rfl, o43, rfl, o3, rfl, o29, rfl, o3, trivial⟩
theorem o72 : Opens enc Try.prog W 72 1 (ShS 4 shRn) := Opens.slice (by kernel_rfl) Try.underlying72 (by decide) o74
theorem rn_of {x : List B} (h : shRn x) : ∃ a : Rnd, x = ndB a ∧ a.Ok := by
  obtain ⟨_, _, rfl, _, ⟨L0, rfl, hL0, hl0⟩, _, _, rfl, _, ⟨f, rfl, hf⟩, _, _, rfl, _, ⟨L, rfl, hL, hLl⟩, _, _, rfl, _, ⟨t, rfl, ht⟩, rfl⟩ := h
  obtain ⟨A, hA, hAl⟩ := ints_of hL
  obtain ⟨R, e1, e2, e3⟩ := as_map (f := rwB) (ok := fun a => ByR a ∧ a.length ≤ 9223372036854775807) (fun x hx => rw_of hx) (fun x hx => (hL0 x hx).2)
  have hm : maxLen ≤ 9223372036854775807 := by decide
  exact ⟨⟨R, f, A, t⟩, by rw [hA, e1]; rfl, ⟨e3, by simp only; omega, lit_i64 hf, by simp only; omega, lit_i64 ht⟩⟩
theorem open_rounds {v : Value} {d : DataW H} {p : List MemPlace} (hval : Value.okWide Try.prog W .any 0 72 v) (h : DataW.Trod enc Try.prog W 0 (fun _ => true) true 72 v d p) :
    ∃ A : List Rnd, RepB W (fun _ => True) (slT 4 ndB A) v ∧ (∀ a ∈ A, a.Ok) ∧ A.length ≤ 9223372036854775807 := by
  obtain ⟨L, h1, h2, h3⟩ := o72.topSlice Try.underlying72 hval h
  obtain ⟨A, e1, e2, e3⟩ := as_map (f := ndB) (ok := Rnd.Ok) (fun x hx => rn_of hx) (fun x hx => (h2 x hx).2)
  have hm : maxLen ≤ 9223372036854775807 := by decide
  exact ⟨A, by rw [e1] at h1; exact h1, e3, by omega⟩
theorem T72 : Try.prog.readableRec 72 = true ∧ 72 < Try.prog.types.size := ⟨by kernel_rfl, of_decide_eq_true (by kernel_rfl)⟩
end
end Go.VL

/- A number told by another text. -/
set_option linter.unusedVariables false
namespace Go.VL
theorem Ki {P : Program} {ops : Array Oper} {o : Oper} {n n' d : Nat} {s : Slots} {E E' : Env} {ik : IntKind} {a b : Int} {l : List Nat} (h : a = b) (hs : Stp P ops o n s E n' (setAt s d (some (vI ik a))) E' l) : Stp P ops o n s E n' (setAt s d (some (vI ik b))) E' l := h ▸ hs
theorem cellsT_take {α : Type} {f : α → List B} {sz : Nat} (hf : ∀ x, (f x).length = sz) : ∀ (A : List α) (k : Nat), (cellsT f A).take (k * sz) = cellsT f (A.take k)
  | [], k => by simp [cellsT]
  | x :: A, 0 => by simp [cellsT]
  | x :: A, k + 1 => by
    have h := cellsT_take hf A k
    simp only [cellsT, List.flatMap_cons, List.take_succ_cons] at h ⊢
    rw [List.take_append, hf, List.take_of_length_le (by rw [hf]; rw [Nat.add_mul]; omega), show (k + 1) * sz - sz = k * sz by rw [Nat.add_mul]; omega, h]
section
variable {P : Program} {ops : Array Oper} {o : Oper} {n d sz : Nat} {s : Slots} {E : Env} {x hi : Operand} {T el : TypeId} {ik : IntKind} {b : Int}
/-- A slice of structs by value, cut above. -/
theorem CtT {α : Type} {f : α → List B} {A : List α} (hf : ∀ x, (f x).length = sz) (hu : P.underlying T = some (.slice el)) (hs : szOf P el = some sz) (h : (runs ops s o.guard, o.dst, o.op, ev s x, ev s hi) = (some true, some d, .slice T x none (some hi) none, some (.b (slT sz f A)), some (vI ik b))) (h0 : 0 ≤ b := by first | omega | (simp; done) | (simp; omega)) (h1 : b ≤ A.length := by first | omega | (simp; done) | (simp; omega)) :
    Stp P ops o n s E (n + 1) (setAt s d (some (.b (slT sz f (A.take b.toNat))))) E [] := by
  simp only [Prod.mk.injEq] at h; obtain ⟨g2, g3, g4, g5, g6⟩ := h
  refine st0 g2 g3 (g4 ▸ ?_)
  have hl := cellsT_len hf (L := A)
  have := Eff.slSl (P := P) (id := n) (E := E) T x none (some hi) sz (cellsT f A) el ik ik 0 b g5 hu hs (.inl ⟨rfl, rfl⟩) (.inr ⟨hi, rfl, g6⟩) (Int.le_refl _) h0 (by rw [hl]; exact_mod_cast Nat.mul_le_mul_right sz (by omega : b.toNat ≤ A.length))
  simp only [Int.toNat_zero, Nat.zero_mul, List.drop_zero, cellsT_take hf] at this
  exact this
end
end Go.VL

/- Walks over the Go functions, printed by a program of this session over the kit's print, and by hand. -/
set_option linter.unusedVariables false
set_option linter.unusedSimpArgs false
set_option maxRecDepth 100000
namespace Go.VL
open Go.Proofs
theorem t47 {A B : List Int} (hA : ByR A) (hB : ByR B) : VF Try.prog 47 [slK .u8 (A), slK .u8 (B)] (boolB (decide (A = B))) := by
  exact VF_of P_mixed Try.func47 rfl rfl (by kernel_rfl) <| Sq <| Rg <| Vs (As rfl) <| Nx <| Sq <| Rg <| Vs (Mv rfl) <| Vs (TsV TK27 TU5 TU9 rfl (hA)) <| Vs (Mv rfl) <| Vs (TsV TK27 TU5 TU9 rfl (hB)) <| Vs (Bi rfl) <| Vs (As rfl) <| Nx <| Re <| Fi (l := [boolB (((bytesOf (A)).toList == (bytesOf (B)).toList))]) (Rc (resVar_tmp rfl rfl) Rn) (by rw [bytes_eq hA hB]; rfl)
theorem t44 {A B : List (List Int)} (hA : ∀ a ∈ A, ByR a) (hB : ∀ a ∈ B, ByR a) (lA : A.length ≤ 9223372036854775807) : VF Try.prog 44 [slT 1 rwB (A), slT 1 rwB (B)] (boolB (decide (A = B))) := by
  refine VF_of P_mixed Try.func44 rfl rfl (by kernel_rfl) <| Sq <| Rg <| Vs (As rfl) <| Nx <| Sq <| Sq <| Rg <| Vs (Mv rfl) <| Vs (Lst rwB_len TU43 rfl) <| Vs (Mv rfl) <| Vs (Lst rwB_len TU43 rfl) <| Vs (Bi rfl) <| Nx <| Cd rfl (fun hc1 => ?_) (fun hc1 => ?_)
  · replace hc1 := bne_iff_ne.1 hc1
    exact Sq <| Rg <| Vs (As rfl) <| Nx <| Re <| Tr <| Fi (l := [boolB (false)]) (Rc (resVar_tmp rfl rfl) Rn) (by rw [decide_eq_false (fun h : A = B => hc1 (by rw [h]))]; rfl)
  · replace hc1 := bne_eq_false_iff_eq.1 hc1
    refine Ks <| Tg <| Sq <| Sq <| Rg <| Vs (As rfl) <| Nx <| Bk <| VCode.loop (α := (Nat)) (fun i => (0, sl [(0, .b (slT 1 rwB (A))), (1, .b (slT 1 rwB (B))), (5, vI .i64 ((i : Int)))], en [])) (fun i => i ≤ A.length ∧ A.take i = B.take i) (fun i => A.length - i) (0) ⟨Nat.zero_le _, rfl⟩ Wk ?_
    intro i hok
    obtain ⟨hi, ht⟩ := hok
    have hll : A.length = B.length := by omega
    change VCode _ _ _ 0 (sl _) (en _) _
    refine Sq <| Sq <| Rg <| Vs (Mv rfl) <| Vs (Mv rfl) <| Vs (Lst rwB_len TU43 rfl) <| Vs (Bi rfl) <| Nx <| Cd rfl (fun hc2 => ?_) (fun hc2 => ?_)
    · replace hc2 := of_decide_eq_true hc2
      refine Ks <| Tg <| Sq <| Bk <| Sq <| Rd (by kernel_rfl) <| Vl (Mv rfl) <| Vl (Mv rfl) <| Vl (IxT rwB_len TU43 TS27 rfl (by first | omega | (simp; done) | (simp; omega)) (gd (d := []) (j := i) (by first | omega | (simp; done) | (simp; omega))) rfl) <| Vl (Lq TA27 rfl) <| Vl (Mv rfl) <| Vl (Mv rfl) <| Vl (IxT rwB_len TU43 TS27 rfl (by first | omega | (simp; done) | (simp; omega)) (gd (d := []) (j := i) (by first | omega | (simp; done) | (simp; omega))) rfl) <| Vl (Lq TA27 rfl) <| Vl (Cf rfl rfl (t47 (A := (A).getD (i) []) (B := (B).getD (i) []) (hA _ (getD_mem' (by omega))) (hB _ (getD_mem' (by omega)))) rfl) <| Vl (Un rfl) <| ?_
      refine VLog.nil ⟨by kernel_rfl, ?_⟩
      refine Tg <| Cd rfl (fun hc3 => ?_) (fun hc3 => ?_)
      · replace hc3 := of_decide_eq_false (bnot_t hc3)
        exact Sq <| Rg <| Vs (As rfl) <| Nx <| Re <| Iq <| Tr <| Or <| Iq <| Tr <| Fi (l := [boolB (false)]) (Rc (resVar_tmp rfl rfl) Rn) (by rw [decide_eq_false (fun h : A = B => hc3 (by rw [h]))]; rfl)
      · replace hc3 := of_decide_eq_true (bnot_f hc3)
        exact Ks <| Ig <| Tg <| Rg <| Vs (Mv rfl) <| Vs (Bo rfl adI) <| Vs (As rfl) <| VList.nil <| Go (i + 1) ⟨by omega, by rw [take_snocD (by omega), take_snocD (by omega), ht, hc3]⟩ Wk
    · replace hc2 := of_decide_eq_false hc2
      exact Ke <| Te <| Oe <| Ih <| Tg <| Sq <| Rg <| Vs (As rfl) <| Nx <| Re <| Fi (l := [boolB (true)]) (Rc (resVar_tmp rfl rfl) Rn) (by rw [decide_eq_true (show A = B by rw [← List.take_length (l := A), ← List.take_length (l := B), ← hll, show A.length = i by omega]; exact ht)]; rfl)
end Go.VL

/- Walks over the Go functions, printed by a program of this session over the kit's print, and by hand. -/
set_option linter.unusedVariables false
set_option linter.unusedSimpArgs false
set_option maxRecDepth 100000
namespace Go.VL
open Go.Proofs
theorem shr_256 {n : Int} {i : Nat} (h : i ≤ 8) : bop .shr (.int .i64 n) (.int .i64 (8 * (i : Int))) = some (.int .i64 (n / 256 ^ i)) := by
  have h0 : (8 * (i : Int)).toNat = 8 * i := by omega
  have h1 := shI (x := n) (y := 8 * (i : Int)) (k' := .i64) (by omega) (by omega)
  rw [h0, Int.pow_mul] at h1
  exact h1
theorem t76 (n : Int) (k : Nat) (hk : k ≤ 8) (hn : 0 ≤ n ∧ n ≤ 9223372036854775807) : VG Try.prog 76 [vI .i64 (n), vI .i64 ((k : Int))] [] (.row 0 (0 + k) none) [some (rowK .u8 (leB n k))] := by
  refine VGp_of P_mixed Try.func76 rfl rfl (by kernel_rfl) (by simp) rfl <| Sq <| Rg <| Vs (As rfl) <| Nx <| Sq <| Rg <| Vs (Nr 1 1 rfl) <| Nx <| Sq <| Sq <| Rg <| Vs (As rfl) <| Nx <| Bk <| VCode.loop (α := (Nat) × (List Int)) (fun x_ => match x_ with | (i, R) => (1, sl [(0, vI .i64 (n)), (1, vI .i64 ((k : Int))), (5, .row 0 (0 + i) none), (6, vI .i64 ((i : Int)))], en [(0, rowK .u8 (R))])) (fun x_ => match x_ with | (i, R) => i ≤ k ∧ R = leB n i) (fun x_ => match x_ with | (i, R) => k - i) (0, []) ⟨Nat.zero_le _, rfl⟩ (Wr [(0, 1)]) ?_
  rintro ⟨i, R⟩ ⟨hi, hR⟩
  have hRl : R.length = 0 + i := by rw [hR]; simp [leB_len]
  change VCode _ _ _ 1 (sl _) (en _) _
  refine Sq <| Sq <| Rg <| Vs (Mv rfl) <| Vs (Mv rfl) <| Vs (Bi rfl) <| Nx <| Cd rfl (fun hc1 => ?_) (fun hc1 => ?_)
  · replace hc1 := of_decide_eq_true hc1
    exact Ks <| Tg <| Sq <| Bk <| Rg <| Vs (Mv rfl) <| Vs (Mv rfl) <| Vs (Mv rfl) <| Vs (Bo rfl muI) <| Vs (Bo (c := .int .i64 ((n / 256 ^ i))) rfl ((shr_256 (by omega)))) <| Vs (Cv TU3 TU5 rfl (wrapM_u8 _)) <| Vs (L1s 10 TK27 rfl) <| Vs (Ar 11 TK27 rfl (Rr rfl)) <| Vs (As rfl) <| VList.nil <| Ig <| Tg <| Rg <| Vs (Mv rfl) <| Vs (Bo rfl adI) <| Vs (As rfl) <| VList.nil <| Go (i + 1, (R) ++ ([(((n / 256 ^ i)) % 256)])) ⟨by omega, by rw [hR, leB]⟩ (Wr [(0, 11)])
  · replace hc1 := of_decide_eq_false hc1
    exact Ke <| Te <| Oe <| Ih <| Tg <| Sq <| Rg <| Vs (Mv rfl) <| Vs (As rfl) <| Nx <| Re <| Gg (L1' := [some (rowK .u8 (R))]) [0] (.name _ _ (.row 0 (0 + i) none) _ _ rfl rfl rfl .nil) (.one _) (by rw [show i = k by omega]) (by rw [hR, show i = k by omega])
theorem t76v (n : Int) (k : Nat) (hk : k ≤ 8) (hn : 0 ≤ n ∧ n ≤ 9223372036854775807) : VF Try.prog 76 [numB .i64 (n), numB .i64 ((k : Int))] (slK .u8 (leB n k)) := by
  refine VF_of P_mixed Try.func76 rfl rfl (by kernel_rfl) <| Sq <| Rg <| Vs (As rfl) <| Nx <| Sq <| Rg <| Vs (Nr 1 1 rfl) <| Nx <| Sq <| Sq <| Rg <| Vs (As rfl) <| Nx <| Bk <| VCode.loop (α := (Nat) × (List Int)) (fun x_ => match x_ with | (i, R) => (1, sl [(0, vI .i64 (n)), (1, vI .i64 ((k : Int))), (5, .row 0 (0 + i) none), (6, vI .i64 ((i : Int)))], en [(0, rowK .u8 (R))])) (fun x_ => match x_ with | (i, R) => i ≤ k ∧ R = leB n i) (fun x_ => match x_ with | (i, R) => k - i) (0, []) ⟨Nat.zero_le _, rfl⟩ (Wr [(0, 1)]) ?_
  rintro ⟨i, R⟩ ⟨hi, hR⟩
  have hRl : R.length = 0 + i := by rw [hR]; simp [leB_len]
  change VCode _ _ _ 1 (sl _) (en _) _
  refine Sq <| Sq <| Rg <| Vs (Mv rfl) <| Vs (Mv rfl) <| Vs (Bi rfl) <| Nx <| Cd rfl (fun hc1 => ?_) (fun hc1 => ?_)
  · replace hc1 := of_decide_eq_true hc1
    exact Ks <| Tg <| Sq <| Bk <| Rg <| Vs (Mv rfl) <| Vs (Mv rfl) <| Vs (Mv rfl) <| Vs (Bo rfl muI) <| Vs (Bo (c := .int .i64 ((n / 256 ^ i))) rfl ((shr_256 (by omega)))) <| Vs (Cv TU3 TU5 rfl (wrapM_u8 _)) <| Vs (L1s 10 TK27 rfl) <| Vs (Ar 11 TK27 rfl (Rr rfl)) <| Vs (As rfl) <| VList.nil <| Ig <| Tg <| Rg <| Vs (Mv rfl) <| Vs (Bo rfl adI) <| Vs (As rfl) <| VList.nil <| Go (i + 1, (R) ++ ([(((n / 256 ^ i)) % 256)])) ⟨by omega, by rw [hR, leB]⟩ (Wr [(0, 11)])
  · replace hc1 := of_decide_eq_false hc1
    exact Ke <| Te <| Oe <| Ih <| Tg <| Sq <| Rg <| Vs (Mv rfl) <| Vs (As rfl) <| Nx <| Re <| Fi (l := [slK .u8 (R)]) (Rc (resVar_tmp rfl (Rq rfl)) Rn) (by rw [hR, show i = k by omega]; rfl)
end Go.VL

/- Walks over the Go functions, printed by a program of this session over the kit's print, and by hand. -/
set_option linter.unusedVariables false
set_option linter.unusedSimpArgs false
set_option maxRecDepth 100000
namespace Go.VL
open Go.Proofs
theorem t41 {b : List Int} (hb : ByR b) (hl : b.length ≤ 1000000) : VF Try.prog 41 [slK .u8 (b)] (numB .u32 (bv (crcQ b))) := by
  refine VF_of P_mixed Try.func41 rfl rfl (by kernel_rfl) <| Sq <| Rg <| Vs (As rfl) <| Nx <| Sq <| Rg <| Vs (As rfl) <| Nx <| Sq <| Sq <| Rg <| Vs (As rfl) <| Nx <| Bk <| VCode.loop (α := (Nat) × (BitVec 32)) (fun x_ => match x_ with | (i, r) => (0, sl [(0, .b (slK .u8 (b))), (3, vI .u32 (bv (r))), (4, vI .i64 ((i : Int)))], en [])) (fun x_ => match x_ with | (i, r) => i ≤ b.length ∧ r = crcF b i) (fun x_ => match x_ with | (i, r) => b.length - i) (0, 4294967295#32) ⟨Nat.zero_le _, rfl⟩ Wk ?_
  rintro ⟨i, r⟩ ⟨hi, hr⟩
  change VCode _ _ _ 0 (sl _) (en _) _
  refine Sq <| Sq <| Rg <| Vs (Mv rfl) <| Vs (Mv rfl) <| Vs (Ls TK27 rfl) <| Vs (Bi rfl) <| Nx <| Cd rfl (fun hc1 => ?_) (fun hc1 => ?_)
  · replace hc1 := of_decide_eq_true hc1
    refine Ks <| Tg <| Sq <| Bk <| Sq <| Rg <| Vs (Mv rfl) <| Vs (Mv rfl) <| Vs (Mv rfl) <| Vs (IxN TK27 rfl) <| Vs (Lq TA5 rfl) <| Vs (Cv TU5 TU59 rfl (wrD (h := (hb.wide _)))) <| Vs (Bo (c := .int .u32 (bv ((r) ^^^ BitVec.ofInt 32 ((b).getD (i) 0)))) rfl (bop_xor_bvc _ _)) <| Vs (As rfl) <| Nx <| Sq <| Rg <| Vs (As rfl) <| Nx <| Bk <| VCode.loop (α := (Nat) × (BitVec 32)) (fun x_ => match x_ with | (k, q) => (0, sl [(0, .b (slK .u8 (b))), (3, vI .u32 (bv (q))), (4, vI .i64 ((i : Int))), (5, vI .i64 ((k : Int)))], en [])) (fun x_ => match x_ with | (k, q) => k ≤ 8 ∧ q = stpN k ((r) ^^^ BitVec.ofInt 32 ((b).getD (i) 0))) (fun x_ => match x_ with | (k, q) => 8 - k) (0, (r) ^^^ BitVec.ofInt 32 ((b).getD (i) 0)) ⟨by decide, rfl⟩ Wk ?_
    rintro ⟨k, q⟩ ⟨hk, hq⟩
    change VCode _ _ _ 0 (sl _) (en _) _
    refine Sq <| Sq <| Rg <| Vs (Mv rfl) <| Vs (Bi rfl) <| Nx <| Cd rfl (fun hc2 => ?_) (fun hc2 => ?_)
    · replace hc2 := of_decide_eq_true hc2
      refine Ks <| Tg <| Sq <| Bk <| Sq <| Rg <| Vs (Mv rfl) <| Vs (Bo (c := .int .u32 (bv ((q) &&& 1#32))) rfl (bop_and_bv _ 1#32)) <| Vs (As rfl) <| Nx <| Sq <| Rg <| Vs (Mv rfl) <| Vs (Bo (c := .int .u32 (bv ((q) >>> 1))) rfl (bop_shr_bv _ 1)) <| Vs (As rfl) <| Nx <| Sq <| Rg <| Vs (Mv rfl) <| Vs (Bi rfl) <| Nx <| Cd rfl (fun hc3 => ?_) (fun hc3 => ?_)
      · replace hc3 := eq_of_beq hc3
        exact Rg <| Vs (Mv rfl) <| Vs (Bo (c := .int .u32 (bv (((q) >>> 1) ^^^ 2197175160#32))) rfl (bop_xor_bv _ 2197175160#32)) <| Vs (As rfl) <| VList.nil <| Ig <| Tg <| Rg <| Vs (Mv rfl) <| Vs (Bo rfl adI) <| Vs (As rfl) <| VList.nil <| Go (k + 1, (((q) >>> 1) ^^^ 2197175160#32)) (by first | exact ⟨by omega, by rw [stpN, ← hq, stp_y hc3]⟩ | exact ⟨by omega, by rw [stpN, ← hq, stp_n hc3]⟩) Wk
      · replace hc3 := ne_of_beq_false hc3
        exact Ks <| Ig <| Tg <| Rg <| Vs (Mv rfl) <| Vs (Bo rfl adI) <| Vs (As rfl) <| VList.nil <| Go (k + 1, ((q) >>> 1)) (by first | exact ⟨by omega, by rw [stpN, ← hq, stp_y hc3]⟩ | exact ⟨by omega, by rw [stpN, ← hq, stp_n hc3]⟩) Wk
    · replace hc2 := of_decide_eq_false hc2
      have h8 : k = 8 := by omega
      exact Ke <| Te <| Oe <| Ih <| Ig <| Tg <| Rg <| Vs (Mv rfl) <| Vs (Bo rfl adI) <| Vs (As rfl) <| VList.nil <| Go (i + 1, (q)) ⟨by omega, by rw [hq, h8, hr]; rfl⟩ Wk
  · replace hc1 := of_decide_eq_false hc1
    exact Ke <| Te <| Oe <| Ih <| Tg <| Sq <| Rg <| Vs (Mv rfl) <| Vs (Bo (c := .int .u32 (bv (~~~(r)))) rfl (bop_xor_all _)) <| Vs (As rfl) <| Nx <| Re <| Fi (l := [numB .u32 (bv (~~~(r)))]) (Rc (resVar_tmp rfl rfl) Rn) (by rw [hr, show i = b.length by omega]; rfl)
theorem g10 (b : List Int) (hb : ByR b) (hbl : b.length ≤ 9223372036854775807) : VF Try.prog 10 [slK .u8 (b)] (boolB true) := by
  refine VF_of P_mixed Try.func10 rfl rfl (by kernel_rfl) <| Sq <| Rg <| Vs (As rfl) <| Nx <| Sq <| Rg <| Vs (Cf rfl rfl (t39) rfl) <| Vs (As rfl) <| Nx <| Sq <| Rg <| Vs (Mv rfl) <| Vs (Mv rfl) <| Vs (Mv rfl) <| Vs (Ls TK27 rfl) <| Vs (Bi rfl) <| Vs (Mv rfl) <| Sp 10 rfl (fun hc1 => ?_) (fun hc1 => ?_)
  · replace hc1 := of_decide_eq_true hc1
    exact Sk rfl <| Sk rfl <| Sk rfl <| Sk rfl <| Sk rfl <| Vs (Pk rfl) <| Vs (Pk rfl) <| Vs (As rfl) <| Nx <| Re <| Fi (l := [boolB (true)]) (Rc (resVar_tmp rfl rfl) Rn) rfl
  · replace hc1 := of_decide_eq_false hc1
    exact Vs (Mv rfl) <| Vs (Cf rfl rfl (t40 (by assumption) (by omega)) rfl) <| Vs (Mv rfl) <| Vs (Cf rfl rfl (t41 (by assumption) (by omega)) rfl) <| Vs (Kb (show (bv (crcQ b) == bv (crcQ b)) = true from (beq_self_eq_true _)) (Bi rfl)) <| Vs (Pk rfl) <| Vs (Pk rfl) <| Vs (As rfl) <| Nx <| Re <| Fi (l := [boolB (true)]) (Rc (resVar_tmp rfl rfl) Rn) rfl
end Go.VL

/- Walks over the Go functions, printed by a program of this session over the kit's print, and by hand. -/
set_option linter.unusedVariables false
set_option linter.unusedSimpArgs false
set_option maxRecDepth 100000
namespace Go.VL
open Go.Proofs
theorem t72 {n : Int} {b : List Int} (hn : 0 ≤ n ∧ n ≤ 9223372036854775807) (hb : ByR b) (hl : b.length ≤ 100000) : VF Try.prog 72 [numB .i64 (n), slK .u8 (b)] (slK .u8 (formQ n b)) := by
  have hcq := cntQ_le b.length
  have hcq2 : cntQ b.length ≤ 2000 := by unfold cntQ; omega
  refine VF_of P_mixed Try.func72 rfl rfl (by kernel_rfl) <| Sq <| Rg <| Vs (As rfl) <| Nx <| Sq <| Rg <| Vs (Mv rfl) <| Vs (Cb 2 [numB .i64 (n), numB .i64 (4)] rfl (t76 (n) 4 (by decide) (hn)) rowK_ren) <| Vs (Mv rfl) <| Vs (Ls TK27 rfl) <| Vs (C0 rfl rfl (t76v (((b).length : Int)) 2 (by decide) (by omega))) <| Vs (Ar 6 TK27 rfl rfl (hl := (by first | rfl | (simp only [List.length_append, leB_len, List.length_nil]; done) | (simp [leB_len]; omega)))) <| Vs (As rfl) <| Nx <| Sq <| Rg <| Vs (Mv rfl) <| Vs (Mv rfl) <| Vs (Ar 10 TK27 rfl rfl (hl := (by first | rfl | (simp only [List.length_append, leB_len, List.length_nil]; done) | (simp [leB_len]; omega)))) <| Vs (As rfl) <| Nx <| Sq <| Rg <| Vs (Mv rfl) <| Vs (Mv rfl) <| Vs (Cf rfl (Rk (Rq rfl) Rz) (t41 (headQ_by hb) (by simp; omega)) rfl) <| Vs (Cv TU59 TU3 rfl (wrI (h := ((by have := bv_range (crcQ (leB n 4 ++ leB (b.length : Int) 2 ++ b)); omega))))) <| Vs (C0 rfl rfl (t76v (bv (crcQ (((leB (n) 4) ++ (leB (((b).length : Int)) 2)) ++ (b)))) 4 (by decide) (⟨(bv_range _).1, by have := (bv_range (crcQ (leB n 4 ++ leB (b.length : Int) 2 ++ b))).2; omega⟩))) <| Vs (Ar 17 TK27 rfl rfl (hl := (by first | rfl | (simp only [List.length_append, leB_len, List.length_nil]; done) | (simp [leB_len]; omega)))) <| Vs (As rfl) <| Nx <| Sq <| Bk <| VCode.loop (α := (Nat) × (Nat) × (List Int)) (fun x_ => match x_ with | (t, l, R) => (1, sl [(5, .row 0 (l) none)], en [(0, rowK .u8 (R))])) (fun x_ => match x_ with | (t, l, R) => R = bodyQ n b ++ List.replicate t 0 ∧ l = b.length + 10 + t ∧ b.length + 10 + t ≤ cntQ b.length * 64) (fun x_ => match x_ with | (t, l, R) => cntQ b.length * 64 - t) (0, 0 + 4 + 2 + b.length + 4, bodyQ n b) ⟨by simp, by omega, by omega⟩ (Wr [(0, 17)]) ?_
  rintro ⟨t, l, R⟩ hok
  obtain ⟨hR, hlt, ht⟩ := hok
  have hRl : R.length = l := by rw [hR, List.length_append, bodyQ_len, List.length_replicate]; omega
  change VCode _ _ _ 1 (sl _) (en _) _
  refine Sq <| Sq <| Rg <| Vs (Mv rfl) <| Vs (Lv (m := l) TU27 rfl) <| Vs (Bo rfl reI) <| Vs (Bi rfl) <| Nx <| Cd rfl (fun hc1 => ?_) (fun hc1 => ?_)
  · replace hc1 := bne_iff_ne.1 hc1
    exact Ks <| Tg <| Bk <| Rg <| Vs (Mv rfl) <| Vs (L1s 6 TK27 rfl) <| Vs (Ar 7 TK27 rfl (Rr rfl)) <| Vs (As rfl) <| VList.nil <| Ig <| Go (t + 1, l + ([0]).length, (R) ++ ([0])) ⟨by rw [hR, List.append_assoc, ← List.replicate_succ'], by simp only [List.length_singleton]; omega, by omega⟩ (Wr [(0, 7)])
  · replace hc1 := bne_eq_false_iff_eq.1 hc1
    exact Ke <| Te <| Oe <| Ih <| Tg <| Sq <| Rg <| Vs (Mv rfl) <| Vs (As rfl) <| Nx <| Re <| Fi (l := [slK .u8 (R)]) (Rc (resVar_tmp rfl (Rq rfl)) Rn) (by have hck : cntQ b.length * 64 < b.length + 74 := (by unfold cntQ; omega); exact congrArg (slK .u8) (by rw [hR, formQ]; congr 2; omega))
end Go.VL

/- Walks over the Go functions, printed by a program of this session over the kit's print, and by hand. -/
set_option linter.unusedVariables false
set_option linter.unusedSimpArgs false
set_option maxRecDepth 100000
namespace Go.VL
open Go.Proofs
theorem t70 {n : Int} {b : List Int} {p : Nat} (hn : 0 ≤ n ∧ n ≤ 9223372036854775807) (hb : ByR b) (hl : b.length ≤ 4096) (hp : p ≤ 64) : VF Try.prog 70 [numB .i64 (n), slK .u8 (b), numB .i64 ((p : Int))] (boolB (tornQ n b p)) := by
  have hfl := formQ_len n b
  have hcp := cntQ_le b.length
  have hF : 64 ≤ (formQ n b).length := by omega
  have hcq2 : cntQ b.length ≤ 2000 := by unfold cntQ; omega
  refine VF_of P_mixed Try.func70 rfl rfl (by kernel_rfl) <| Sq <| Rg <| Vs (As rfl) <| Nx <| Sq <| Rg <| Vs (Mv rfl) <| Vs (Mv rfl) <| Vs (C0 rfl rfl (t72 (n := n) (b := b) (by assumption) (hb) (by omega))) <| Vs (As rfl) <| Nx <| Sq <| Rg <| Vs (L0s 5 TK27 rfl) <| Vs (Mv rfl) <| Vs (Ap 7 TK27 rfl rfl) <| Vs (As rfl) <| Nx <| Sq <| Sq <| Rg <| Vs (Mv rfl) <| Vs (As rfl) <| Nx <| Bk <| VCode.loop (α := (Nat) × (Nat) × (List Int)) (fun x_ => match x_ with | (i, l, G) => (51, sl [(0, vI .i64 (n)), (7, .b (slK .u8 (formQ n b))), (8, .own 50 (l)), (9, vI .i64 ((i : Int)))], en [(50, rowK .u8 (G))])) (fun x_ => match x_ with | (i, l, G) => p ≤ i ∧ i ≤ 64 ∧ l = (formQ n b).length ∧ G = tornI (formQ n b) p i) (fun x_ => match x_ with | (i, l, G) => 64 - i) (p, 0 + (formQ n b).length, formQ n b) ⟨Nat.le_refl _, hp, by omega, (tornI_self (by omega)).symm⟩ (Wr [(50, 7)]) ?_
  rintro ⟨i, l, G⟩ hok
  obtain ⟨hpi, hi, hll, hG⟩ := hok
  have hGl : G.length = l := by rw [hG, tornI_len hpi (by omega), hll]
  have hGB : ByR G := by rw [hG]; exact tornI_by (formQ_by hb)
  change VCode _ _ _ 51 (sl _) (en _) _
  refine Sq <| Sq <| Rg <| Vs (Mv rfl) <| Vs (Bi rfl) <| Nx <| Cd rfl (fun hc1 => ?_) (fun hc1 => ?_)
  · replace hc1 := of_decide_eq_true hc1
    exact Ks <| Tg <| Sq <| Bk <| Rg <| Vs (Mv rfl) <| Vs (Mv rfl) <| Vs (IrN TK27 rfl) <| Vs (SrK TS5 rfl) <| VList.nil <| Ig <| Tg <| Rg <| Vs (Mv rfl) <| Vs (Bo rfl adI) <| Vs (As rfl) <| VList.nil <| Go (i + 1, l, (G).set (i) (0)) ⟨by omega, by omega, hll, by rw [hG]; exact tornI_set hpi (by omega)⟩ Wk
  · replace hc1 := of_decide_eq_false hc1
    refine Ke <| Te <| Oe <| Ih <| Cx (n1 := 0) (S1 := [(0, vI .i64 (n)), (7, .b (slK .u8 (formQ n b))), (8, .b (slK .u8 (G)))]) (L1 := []) (Weak.conv (nv := [50]) ⟨⟨⟨_, rfl, .inl rfl⟩, rfl⟩, ⟨⟨_, rfl, .inl rfl⟩, rfl⟩, ⟨⟨_, rfl, cv_own rfl (by omega)⟩, rfl⟩, trivial⟩ trivial (Nat.le_of_ble_eq_true rfl)) <| Sq <| Sq <| ?_
    rw [show i = 64 by omega] at hG
    have hg4 := hGB.getD 4
    have hg5 := hGB.getD 5
    have hsq := sizeQ_eq hGB
    have hGl2 : G.length = cntQ b.length * 64 := by omega
    refine Rg <| Vs (Mv rfl) <| Vs (Mv rfl) <| Vs (Cf rfl rfl (t47 (A := formQ n b) (B := G) (formQ_by hb) (hGB)) rfl) <| Nx <| Cd rfl (fun hc2 => ?_) (fun hc2 => ?_)
    · replace hc2 := of_decide_eq_true hc2
      exact Sq <| Rg <| Vs (As rfl) <| Nx <| Re <| Tr <| Fi (l := [boolB (false)]) (Rc (resVar_tmp rfl rfl) Rn) (by unfold tornQ; rw [if_pos (by rw [← hG]; assumption)]; rfl)
    · replace hc2 := of_decide_eq_false hc2
      refine Ks <| Tg <| Sq <| Rd (by kernel_rfl) <| Vl (Mv rfl) <| Vl (IxN (q := 4) TK27 rfl) <| Vl (Lq TA5 rfl) <| Vl (Cv TU5 TU3 rfl wrI) <| Vl (Mv rfl) <| Vl (IxN (q := 5) TK27 rfl) <| Vl (Lq TA5 rfl) <| Vl (Cv TU5 TU3 rfl wrI) <| Vl (Bo rfl muI) <| Vl (Ki (show ((G).getD 4 0 + (256 * (G).getD 5 0)) = ((sizeQ G : Nat) : Int) from (by rw [sizeQ_eq hGB]; omega)) (Bo rfl adI)) <| Vl (As rfl) <| ?_
      refine VLog.nil ⟨by kernel_rfl, ?_⟩
      refine Tg <| Sq <| Sq <| Rg <| Vs (Mv rfl) <| Vs (Bi rfl) <| Vs (Mv rfl) <| Sp 40 rfl (fun hc3 => ?_) (fun hc3 => ?_)
      · replace hc3 := of_decide_eq_true hc3
        exact Sk rfl <| Sk rfl <| Vs (Pk rfl) <| Vs (Mv rfl) <| Sk rfl <| Sk rfl <| Sk rfl <| Sk rfl <| Sk rfl <| Vs (Pk rfl) <| Nx <| Cy rfl <| Sq <| Rg <| Vs (As rfl) <| Nx <| Re <| Tr <| Fi (l := [boolB (false)]) (Rc (resVar_tmp rfl rfl) Rn) (by unfold tornQ; rw [← hG, if_neg (by assumption)]; first | (rw [if_pos (by omega)]; rfl) | (rw [if_neg (by omega), ← hrf]; rfl))
      · replace hc3 := of_decide_eq_false hc3
        refine Vs (Mv rfl) <| Vs (Bi rfl) <| Vs (Pk rfl) <| Vs (Mv rfl) <| Sp 44 rfl (fun hc4 => ?_) (fun hc4 => ?_)
        · replace hc4 := of_decide_eq_true hc4
          exact Sk rfl <| Sk rfl <| Sk rfl <| Sk rfl <| Sk rfl <| Vs (Pk rfl) <| Nx <| Cy rfl <| Sq <| Rg <| Vs (As rfl) <| Nx <| Re <| Tr <| Fi (l := [boolB (false)]) (Rc (resVar_tmp rfl rfl) Rn) (by unfold tornQ; rw [← hG, if_neg (by assumption)]; first | (rw [if_pos (by omega)]; rfl) | (rw [if_neg (by omega), ← hrf]; rfl))
        · replace hc4 := of_decide_eq_false hc4
          refine Vs (Mv rfl) <| Vs (Bo rfl adI) <| Vs (Mv rfl) <| Vs (Ls TK27 rfl) <| Vs (Bi rfl) <| Vs (Pk rfl) <| Nx <| Cd rfl (fun hc5 => ?_) (fun hc5 => ?_)
          · replace hc5 := of_decide_eq_true hc5
            exact Sq <| Rg <| Vs (As rfl) <| Nx <| Re <| Tr <| Fi (l := [boolB (false)]) (Rc (resVar_tmp rfl rfl) Rn) (by unfold tornQ; rw [← hG, if_neg (by assumption)]; first | (rw [if_pos (by omega)]; rfl) | (rw [if_neg (by omega), ← hrf]; rfl))
          · replace hc5 := of_decide_eq_false hc5
            refine Ks <| Tg <| Sq <| ?_
            have hGr : ByR (recQ G (sizeQ G)) := (hGB.take _).drop _
            have hrl : (recQ G (sizeQ G)).length = sizeQ G := recQ_len (by omega)
            have hrf : (formQ n (recQ G (sizeQ G))).length = cntQ (sizeQ G) * 64 := by rw [formQ_len, hrl]
            have hcs : cntQ (sizeQ G) ≤ cntQ b.length := by unfold cntQ at *; omega
            refine Rd (by kernel_rfl) <| Vl (Mv rfl) <| Vl (Mv rfl) <| Vl (Mv rfl) <| Vl (Bo rfl adI) <| Vl (Cbt TK27 rfl (h0 := (by omega)) (h1 := (by omega)) (h2 := (by omega))) <| Vl (C0 rfl rfl (t72 (n := n) (b := recQ G (sizeQ G)) (by assumption) (hGr) (by rw [hrl]; omega))) <| Vl (Mv rfl) <| Vl (Mv rfl) <| Vl (Mv rfl) <| Vl (Mv rfl) <| Vl (Bo rfl adI) <| Vl (Cbt TK27 rfl (h0 := (by omega)) (h1 := (by omega)) (h2 := (by omega))) <| Vl (C0 rfl rfl (t72 (n := n) (b := recQ G (sizeQ G)) (by assumption) (hGr) (by rw [hrl]; omega))) <| Vl (Ls TK27 rfl) <| Vl (Ct TK27 rfl) <| Vl (Cf rfl rfl (t47 (A := formQ (n) (recQ G (sizeQ G))) (B := (G).take (((formQ (n) (recQ G (sizeQ G))).length : Int)).toNat) (formQ_by hGr) (hGB.take _)) rfl) <| Vl (As rfl) <| ?_
            refine VLog.nil ⟨by kernel_rfl, ?_⟩
            exact Tg <| Re <| Fi (l := [boolB ((decide (formQ (n) (recQ G (sizeQ G)) = (G).take (((formQ (n) (recQ G (sizeQ G))).length : Int)).toNat)))]) (Rc (resVar_tmp rfl rfl) Rn) (by unfold tornQ; rw [← hG, if_neg (by assumption)]; first | (rw [if_pos (by omega)]; rfl) | (rw [if_neg (by omega), ← hrf]; rfl))
theorem t48 {n : Nat} {b : List Int} (hn : n ≤ 1000000) (hb : ByR b) (hl : b.length ≤ 4096) : VF Try.prog 48 [numB .i64 ((n : Int)), slK .u8 (b)] (boolB (chanceQ (n : Int) b)) := by
  refine VF_of P_mixed Try.func48 rfl rfl (by kernel_rfl) <| Sq <| Rg <| Vs (As rfl) <| Nx <| Sq <| Sq <| Rg <| Vs (Mv rfl) <| Nx <| Bk <| VCode.loop (α := (Nat)) (fun i => (0, sl [(0, vI .i64 ((n : Int))), (1, .b (slK .u8 (b))), (6, vI .i64 ((i : Int)))], en [])) (fun i => i ≤ 64 ∧ ∀ p, p < i → tornQ (n : Int) b p = false) (fun i => 64 - i) (0) ⟨Nat.zero_le _, fun p h => absurd h (Nat.not_lt_zero _)⟩ Wk ?_
  intro i hok
  obtain ⟨hi, ht⟩ := hok
  change VCode _ _ _ 0 (sl _) (en _) _
  refine Sq <| Rg <| Vs (Bi rfl) <| Nx <| Sq <| Cd rfl (fun hc1 => ?_) (fun hc1 => ?_)
  · replace hc1 := of_decide_eq_true hc1
    refine Ks <| Tg <| Sq <| Bk <| Sq <| Rg <| Vs (Mv rfl) <| Vs (As rfl) <| Nx <| Sq <| Rg <| Vs (Mv rfl) <| Vs (Mv rfl) <| Vs (Mv rfl) <| Vs (Cf rfl rfl (t70 (n := (n : Int)) (b := b) (p := i) (by omega) (hb) (hl) (by omega)) rfl) <| Nx <| Cd rfl (fun hc2 => ?_) (fun hc2 => ?_)
    · replace hc2 := hc2
      exact Sq <| Rg <| Vs (As rfl) <| Nx <| Re <| Iq <| Tr <| Or <| Iq <| Tr <| Fi (l := [boolB (true)]) (Rc (resVar_tmp rfl rfl) Rn) (by rw [chance_y (p := i) (by omega) hc2]; rfl)
    · replace hc2 := hc2
      exact Ks <| Ig <| Tg <| Rg <| Vs (Bo rfl adI) <| Vs (Mv rfl) <| VList.nil <| Go (i + 1) ⟨by omega, fun p h => by rcases Nat.lt_or_ge p i with h9 | h9; exact ht p h9; rw [show p = i by omega]; exact hc2⟩ Wk
  · replace hc1 := of_decide_eq_false hc1
    exact Ke <| Te <| Oe <| Ih <| Tg <| Sq <| Rg <| Vs (As rfl) <| Nx <| Re <| Fi (l := [boolB (false)]) (Rc (resVar_tmp rfl rfl) Rn) (by rw [chance_of (fun p h => ht p (by omega))]; rfl)
end Go.VL

/- Walks over the Go functions, printed by a program of this session over the kit's print, and by hand. -/
set_option linter.unusedVariables false
set_option linter.unusedSimpArgs false
set_option maxRecDepth 100000
namespace Go.VL
open Go.Proofs
theorem g15 (k0 : Int) (a0 : 0 ≤ k0) (b0 : k0 ≤ 255) (A : List Rnd) (oA : ∀ a ∈ A, a.Ok) (lA : A.length ≤ 9223372036854775807) : VF Try.prog 15 [numB .u8 (k0), slT 4 ndB (A)] (boolB true) := by
  obtain ⟨z, hz⟩ : ∃ z : Nat, 8 + k0 % 60 = (z : Int) := ⟨(8 + k0 % 60).toNat, by omega⟩
  have hz1 : 1 ≤ z := by omega
  have hz2 : z ≤ 67 := by omega
  have hJn := JI.new hz1
  have hjn : Jn.Ok (z * 64) 0 ⟨newD z, [], 0, false⟩ := ⟨newD_ok hz1 (by omega), newD_by z, (fun r hr => by cases hr), Nat.le_refl _, Nat.zero_le _⟩
  refine VF_of P_mixed Try.func15 rfl rfl (by kernel_rfl) <| Sq <| Rg <| Vs (As rfl) <| Nx <| Sq <| Rg <| Vs (Cf rfl rfl (t39) rfl) <| Vs (As rfl) <| Nx <| Sq <| Rg <| Vs (Mv rfl) <| Vs (Cv TU5 TU3 rfl wrI) <| Vs (Bo rfl reI) <| Vs (Ki (show (8 + (k0 % 60)) = (z : Int) from hz) (Bo rfl adI)) <| Gm 7 [] [] (v := .tup [.ptr 7 (0), vI .i64 (0)]) [(7, ⟨4, [.own 8 ((z * 64)), .b (slT 2 penB ((newD z).pen)), vI .i64 ((newD z).fuse), vB ((newD z).off)], true⟩), (8, rowK .u8 ((newD z).dur))] rfl (k17z z hz1 (by omega)) rfl <| Vs (Mv rfl) <| Vs (Xv rfl) <| Vs (Xv rfl) <| Vs (As rfl) <| Vs (As rfl) <| Nx <| Sq <| Sq <| Rg <| Vs (Mv rfl) <| Vs (Lst ndB_len TU72 rfl) <| Vs (Bi rfl) <| Vs (Mv rfl) <| Sp 30 rfl (fun hc1 => ?_) (fun hc1 => ?_)
  · replace hc1 := of_decide_eq_true hc1
    exact Sk rfl <| Sk rfl <| Vs (Pk rfl) <| Vs (Mv rfl) <| Sk rfl <| Sk rfl <| Vs (Pk rfl) <| Nx <| Cy rfl <| Sq <| Rg <| Vs (Mv rfl) <| Vs (Mv rfl) <| Vs (Mv rfl) <| Vs (Bi (c := .bool true) rfl) <| Vs (Pk rfl) <| Vs (As rfl) <| Nx <| Re <| Tr <| Fi (l := [boolB (true)]) (Rc (resVar_tmp rfl rfl) Rn) (by first | rfl | (exfalso; omega))
  · replace hc1 := of_decide_eq_false hc1
    refine Vs (Mv rfl) <| Vs (Bi (c := .bool false) rfl) <| Vs (Pk rfl) <| Vs (Mv rfl) <| Vs (Mv rfl) <| Vs (Pe TU22 rfl) <| Vs (Pk rfl) <| Nx <| Cz rfl <| Ks <| Tg <| Sq <| Rg <| Vs (Nr 26 1 rfl) <| Nx <| Sq <| Sq <| Rg <| Vs (Mv rfl) <| Vs (Lst ndB_len TU72 rfl) <| Vs (Mv rfl) <| Nx <| Bk <| VCode.loop (α := (Nat) × (Jn) × (List (List Int)) × (Nat)) (fun x_ => match x_ with | (i, j, O, l) => (392, sl [(5, vB (true)), (6, .ptr 7 (0)), (8, .row 391 (l) none), (43, .b (slT 4 ndB (A))), (44, vI .i64 (((A).length : Int))), (45, vI .i64 ((i : Int)))], en [(7, ⟨4, [.own 8 ((z * 64)), .b (slT 2 penB ((j.d).pen)), vI .i64 ((j.d).fuse), vB ((j.d).off)], true⟩), (8, rowK .u8 ((j.d).dur)), (391, rowT 1 rwB (O))])) (fun x_ => match x_ with | (i, j, O, l) => i ≤ A.length ∧ JI z j ∧ j.Ok (z * 64) 0 ∧ O = j.R ∧ l = O.length) (fun x_ => match x_ with | (i, j, O, l) => A.length - i) (0, (⟨newD z, [], 0, false⟩ : Jn), [], 0) ⟨Nat.zero_le _, hJn, hjn, rfl, rfl⟩ (Wt [(391, 26)]) ?_
    rintro ⟨i, j, O, l⟩ hok
    obtain ⟨hi, hJ, hjo, hO, hl⟩ := hok
    change VCode _ _ _ 392 (sl _) (en _) _
    refine Sq <| Rg <| Vs (Bi rfl) <| Nx <| Sq <| Cd rfl (fun hc2 => ?_) (fun hc2 => ?_)
    · replace hc2 := of_decide_eq_true hc2
      have hr := oA _ (getD_mem' (x := nd0) (show i < A.length by omega))
      refine Ks <| Tg <| Sq <| Bk <| Sq <| Rg <| Vs (IxT ndB_len TU72 TS74 rfl (by first | omega | (simp; done) | (simp; omega)) (gd (d := nd0) (j := i) (by first | omega | (simp; done) | (simp; omega))) rfl) <| Vs (LqS TA74 TS74 rfl) <| Vs (Al 395 TZ74 rfl) <| Vs (StS TS74 rfl) <| Nx <| Sq <| Sq <| Rg <| Vs (Fa TF74_0 rfl) <| Vs (Ld TA43 rfl) <| Vs (Lst rwB_len TU43 rfl) <| Vs (Bi rfl) <| Vs (Mv rfl) <| Sp 53 rfl (fun hc3 => ?_) (fun hc3 => ?_)
      · replace hc3 := of_decide_eq_true hc3
        exact Sk rfl <| Sk rfl <| Sk rfl <| Sk rfl <| Vs (Pk rfl) <| Nx <| Cy rfl <| Sq <| Rg <| Vs (Mv rfl) <| Vs (As rfl) <| Nx <| Re <| Tr <| Iq <| Tr <| Or <| Iq <| Tr <| Fi (l := [boolB (true)]) (Rc (resVar_tmp rfl rfl) Rn) (by first | rfl | (exfalso; omega))
      · replace hc3 := of_decide_eq_false hc3
        refine Vs (Fa TF74_2 rfl) <| Vs (Ld TA29 rfl) <| Vs (Ls TK29 rfl) <| Vs (Bi rfl) <| Vs (Pk rfl) <| Nx <| Cd rfl (fun hc4 => ?_) (fun hc4 => ?_)
        · replace hc4 := of_decide_eq_true hc4
          exact Sq <| Rg <| Vs (Mv rfl) <| Vs (As rfl) <| Nx <| Re <| Tr <| Iq <| Tr <| Or <| Iq <| Tr <| Fi (l := [boolB (true)]) (Rc (resVar_tmp rfl rfl) Rn) (by first | rfl | (exfalso; omega))
        · replace hc4 := of_decide_eq_false hc4
          refine Ks <| Tg <| Sq <| Rg <| Vs (Mv rfl) <| Gm 408 [7, 8] [] (v := .tup [.ptr 408 (0), .b (slT 1 rwB (j.R)), vI .i64 (0)]) [(7, ⟨4, [.own 8 ((z * 64)), .b (slT 2 penB ((j.d).pen)), vI .i64 ((j.d).fuse), vB ((j.d).off)], true⟩), (8, rowK .u8 ((j.d).dur)), (391, rowT 1 rwB (O)), (395, ⟨4, [.b (slT 1 rwB (((A).getD (i) nd0).recs)), vI .i64 (((A).getD (i) nd0).fuse), .b (slK .i64 (((A).getD (i) nd0).keep)), vI .i64 (((A).getD (i) nd0).torn)], true⟩), (408, ⟨4, [.ptr 7 (0), .row 409 (j.R.length) none, vI .i64 ((j.ed : Int)), vB (j.fl)], true⟩), (409, rowT 1 rwB (j.R))] rfl ((by have t := j42 hjo.d (by omega) hjo.b (hJ.openJ hjo.r).1; rw [(hJ.openJ hjo.r).2] at t; exact t)) rfl <| Vs (Mv rfl) <| Vs (Xv rfl) <| Vs (Xv rfl) <| Vs (Xv rfl) <| Vs (As rfl) <| Vs (As rfl) <| Vs (As rfl) <| Nx <| Sq <| Sq <| Rg <| Vs (Mv rfl) <| Vs (Bi (c := .bool false) rfl) <| Vs (Mv rfl) <| Vs (Mv rfl) <| Vs (Pe TU62 rfl) <| Vs (Pk rfl) <| Vs (Mv rfl) <| Vs (Mv rfl) <| Vs (Mv rfl) <| Vs (Kb (show (decide (j.R = O)) = true from (decide_eq_true hO.symm)) (Cf rfl (Rk rfl (Rk (res_rowTq rwB_len rfl (by first | omega | (simp; done) | (simp; omega))) Rz)) (t44 (A := j.R) (B := O) (fun a h => (hjo.r a h).2.2) (fun a h => (hjo.r a (by rw [← hO]; exact h)).2.2) (by have := hjo.le; have := hjo.en; omega)) rfl)) <| Vs (Un rfl) <| Vs (Pk rfl) <| Nx <| Cz rfl <| Ks <| Tg <| Sq <| Rg <| Vs (Mv rfl) <| Vs (Fa TF74_1 rfl) <| Vs (Ld TA3 rfl) <| Vs (Mx rfl) <| Gm 434 [7, 8] [] (v := .b (.tup [])) [(7, ⟨4, [.own 8 ((z * 64)), .b (slT 2 penB (((j.d).fuseR ((if 0 > ((A).getD (i) nd0).fuse then 0 else ((A).getD (i) nd0).fuse))).pen)), vI .i64 (((j.d).fuseR ((if 0 > ((A).getD (i) nd0).fuse then 0 else ((A).getD (i) nd0).fuse))).fuse), vB (((j.d).fuseR ((if 0 > ((A).getD (i) nd0).fuse then 0 else ((A).getD (i) nd0).fuse))).off)], true⟩), (8, rowK .u8 (((j.d).fuseR ((if 0 > ((A).getD (i) nd0).fuse then 0 else ((A).getD (i) nd0).fuse))).dur)), (391, rowT 1 rwB (O)), (395, ⟨4, [.b (slT 1 rwB (((A).getD (i) nd0).recs)), vI .i64 (((A).getD (i) nd0).fuse), .b (slK .i64 (((A).getD (i) nd0).keep)), vI .i64 (((A).getD (i) nd0).torn)], true⟩), (408, ⟨4, [.ptr 7 (0), .row 409 (j.R.length) none, vI .i64 ((j.ed : Int)), vB (j.fl)], true⟩), (409, rowT 1 rwB (j.R))] rfl (k37 hjo.d (by omega) ((if 0 > ((A).getD (i) nd0).fuse then 0 else ((A).getD (i) nd0).fuse))) rfl <| Nx <| Sq <| ?_
          have hfz : (if 0 > ((A).getD (i) nd0).fuse then 0 else ((A).getD (i) nd0).fuse) ≤ 9223372036854775807 := by have := hr.fuse; split <;> omega
          have hjf : Jn.Ok (z * 64) (82 * 0) ⟨j.d.fuseR (if 0 > ((A).getD (i) nd0).fuse then 0 else ((A).getD (i) nd0).fuse), j.R, j.ed, j.fl⟩ := ⟨hjo.d.fuse hfz, hjo.b.fuseR _, hjo.r, hjo.le, hjo.en⟩
          refine Rg <| Vs (An rfl) <| Nx <| Sq <| Sq <| Rg <| Vs (Fa TF74_0 rfl) <| Vs (Ld TA43 rfl) <| Vs (Lst rwB_len TU43 rfl) <| Vs (Mv rfl) <| Nx <| Bk <| VCode.loop (α := ((Nat) × (Jn) × (List (List Int)) × (Nat)) ⊕ ((Nat) × (Jn) × (List (List Int)) × (Nat) × (List Int))) (fun x_ => match x_ with | .inl (t, j1, P, q) => (696, sl [(5, vB (true)), (6, .ptr 7 (0)), (8, .row 695 (q) none), (10, .ptr 395 (0)), (11, .ptr 408 (0)), (14, .b .nil), (43, .b (slT 4 ndB (A))), (44, vI .i64 (((A).length : Int))), (45, vI .i64 ((i : Int))), (84, .b (slT 1 rwB (((A).getD (i) nd0).recs))), (85, vI .i64 (((((A).getD (i) nd0).recs).length : Int))), (86, vI .i64 ((t : Int)))], en [(7, ⟨4, [.own 8 ((z * 64)), .b (slT 2 penB ((j1.d).pen)), vI .i64 ((j1.d).fuse), vB ((j1.d).off)], true⟩), (8, rowK .u8 ((j1.d).dur)), (395, ⟨4, [.b (slT 1 rwB (((A).getD (i) nd0).recs)), vI .i64 (((A).getD (i) nd0).fuse), .b (slK .i64 (((A).getD (i) nd0).keep)), vI .i64 (((A).getD (i) nd0).torn)], true⟩), (408, ⟨4, [.ptr 7 (0), .row 409 (j1.R.length) none, vI .i64 ((j1.ed : Int)), vB (j1.fl)], true⟩), (409, rowT 1 rwB (j1.R)), (695, rowT 1 rwB (P))]) | .inr (t, j1, P, q, b) => (696, sl [(5, vB (true)), (6, .ptr 7 (0)), (8, .row 695 (q) none), (10, .ptr 395 (0)), (11, .ptr 408 (0)), (14, .b (slK .u8 (b))), (43, .b (slT 4 ndB (A))), (44, vI .i64 (((A).length : Int))), (45, vI .i64 ((i : Int))), (84, .b (slT 1 rwB (((A).getD (i) nd0).recs))), (85, vI .i64 (((((A).getD (i) nd0).recs).length : Int))), (86, vI .i64 ((t : Int)))], en [(7, ⟨4, [.own 8 ((z * 64)), .b (slT 2 penB ((j1.d).pen)), vI .i64 ((j1.d).fuse), vB ((j1.d).off)], true⟩), (8, rowK .u8 ((j1.d).dur)), (395, ⟨4, [.b (slT 1 rwB (((A).getD (i) nd0).recs)), vI .i64 (((A).getD (i) nd0).fuse), .b (slK .i64 (((A).getD (i) nd0).keep)), vI .i64 (((A).getD (i) nd0).torn)], true⟩), (408, ⟨4, [.ptr 7 (0), .row 409 (j1.R.length) none, vI .i64 ((j1.ed : Int)), vB (j1.fl)], true⟩), (409, rowT 1 rwB (j1.R)), (695, rowT 1 rwB (P))])) (fun x_ => match x_ with | .inl (t, j1, P, q) => JL z j1 ∧ t ≤ ((A).getD (i) nd0).recs.length ∧ j1.Ok (z * 64) (82 * t) ∧ P = j1.R ∧ q = P.length | .inr (t, j1, P, q, b) => JD z j1 b ∧ t ≤ ((A).getD (i) nd0).recs.length ∧ j1.Ok (z * 64) (82 * t) ∧ P = j1.R ∧ q = P.length ∧ chanceQ (j1.R.length : Int) b = false) (fun x_ => match x_ with | .inl (t, j1, P, q) => ((A).getD (i) nd0).recs.length - t | .inr (t, j1, P, q, b) => ((A).getD (i) nd0).recs.length - t) (.inl (0, (⟨j.d.fuseR (if 0 > ((A).getD (i) nd0).fuse then 0 else ((A).getD (i) nd0).fuse), j.R, j.ed, j.fl⟩ : Jn), O, l)) ⟨hJ.fuse _, Nat.zero_le _, hjf, hO, hl⟩ (Wt [(695, 391)]) ?_
          rintro (⟨t, j1, P, q⟩ | ⟨t, j1, P, q, b⟩) hok2
          · change VCode _ _ _ 696 (sl _) (en _) _
            obtain ⟨hJL, ht, hjo1, hP, hq⟩ := hok2
            have hbt := fun keep torn => hJL.boot hjo1 keep torn
            obtain ⟨b, hb⟩ : ∃ b : List Int, b = [] := ⟨_, rfl⟩
            have hPl : P.length ≤ z := by rw [hP]; have := hjo1.le; have := hjo1.en; omega
            refine Sq <| Rg <| Vs (Bi rfl) <| Nx <| Sq <| Cd rfl (fun hc5 => ?_) (fun hc5 => ?_)
            · replace hc5 := of_decide_eq_true hc5
              refine Ks <| Tg <| Sq <| Bk <| Sq <| Rg <| Vs (IxT rwB_len TU43 TS27 rfl (by first | omega | (simp; done) | (simp; omega)) (gd (d := []) (j := t) (by first | omega | (simp; done) | (simp; omega))) rfl) <| Vs (Lq TA27 rfl) <| Vs (As rfl) <| Nx <| Sq <| Sq <| ?_
              obtain ⟨hbB, hbL⟩ := hr.recs _ (getD_mem' (x := []) (show t < ((A).getD (i) nd0).recs.length by omega))
              refine Rg <| Vs (Mv rfl) <| Vs (Ls TK27 rfl) <| Vs (Bi rfl) <| Vs (Mv rfl) <| Sp 93 rfl (fun hc6 => ?_) (fun hc6 => ?_)
              · replace hc6 := of_decide_eq_true hc6
                exact Sk rfl <| Sk rfl <| Sk rfl <| Sk rfl <| Vs (Pk rfl) <| Nx <| Cy rfl <| Sq <| Rg <| Vs (Mv rfl) <| Vs (As rfl) <| Nx <| Re <| Tr <| Iq <| Tr <| Or <| Iq <| Tr <| Iq <| Tr <| Or <| Iq <| Tr <| Fi (l := [boolB (true)]) (Rc (resVar_tmp rfl rfl) Rn) (by first | rfl | (exfalso; omega))
              · replace hc6 := of_decide_eq_false hc6
                refine Vs (Mv rfl) <| Vs (Lv (m := q) TU43 rfl) <| Vs (Mv rfl) <| Vs (Cf rfl rfl (t48 (n := (q : Nat)) (b := (((A).getD (i) nd0).recs).getD (t) []) (by omega) (hbB) (by omega)) rfl) <| Vs (Pk rfl) <| Nx <| Cd rfl (fun hc7 => ?_) (fun hc7 => ?_)
                · replace hc7 := hc7
                  exact Sq <| Rg <| Vs (Mv rfl) <| Vs (As rfl) <| Nx <| Re <| Tr <| Iq <| Tr <| Or <| Iq <| Tr <| Iq <| Tr <| Or <| Iq <| Tr <| Fi (l := [boolB (true)]) (Rc (resVar_tmp rfl rfl) Rn) (by first | rfl | (exfalso; omega))
                · replace hc7 := hc7
                  refine Ks <| Tg <| Sq <| Rg <| Vs (Mv rfl) <| Vs (Mv rfl) <| ?_
                  rcases hJL.cases (b := ((((A).getD (i) nd0).recs).getD (t) [])) hjo1 hbB (by omega) with ⟨ha0, ha1, ha2, ha3⟩ | ha | ha | ⟨j3, ha, ha1, ha2, ha3, ha4⟩
                  · skip
                    exact Gm 711 [408, 7, 409, 8] [] (v := vI .i64 (0)) [(7, ⟨4, [.own 8 ((z * 64)), .b (slT 2 penB (((((apR (z * 64) j1 ((((A).getD (i) nd0).recs).getD (t) [])).1)).d).pen)), vI .i64 (((((apR (z * 64) j1 ((((A).getD (i) nd0).recs).getD (t) [])).1)).d).fuse), vB (((((apR (z * 64) j1 ((((A).getD (i) nd0).recs).getD (t) [])).1)).d).off)], true⟩), (8, rowK .u8 (((((apR (z * 64) j1 ((((A).getD (i) nd0).recs).getD (t) [])).1)).d).dur)), (395, ⟨4, [.b (slT 1 rwB (((A).getD (i) nd0).recs)), vI .i64 (((A).getD (i) nd0).fuse), .b (slK .i64 (((A).getD (i) nd0).keep)), vI .i64 (((A).getD (i) nd0).torn)], true⟩), (408, ⟨4, [.ptr 7 (0), .row 711 (((apR (z * 64) j1 ((((A).getD (i) nd0).recs).getD (t) [])).1).R.length) none, vI .i64 (((((apR (z * 64) j1 ((((A).getD (i) nd0).recs).getD (t) [])).1)).ed : Int)), vB ((((apR (z * 64) j1 ((((A).getD (i) nd0).recs).getD (t) [])).1)).fl)], true⟩), (695, rowT 1 rwB (P)), (711, rowT 1 rwB (((apR (z * 64) j1 ((((A).getD (i) nd0).recs).getD (t) [])).1).R))] rfl (j43S hjo1 (by omega) (b := (((A).getD (i) nd0).recs).getD (t) []) (hbB) (by omega) ha0) rfl <| Vs (As rfl) <| Nx <| Sq <| Sq <| Rg <| Vs (Mv rfl) <| Vs (Bi (c := .bool true) rfl) <| Nx <| Cy rfl <| Sq <| Rg <| Vs (Mv rfl) <| Vs (Mv rfl) <| Vs (sq1 718 rfl (.buildS _ 1 _ 27 [.b (slK .u8 ((((A).getD (i) nd0).recs).getD (t) []))] 1 _ [.b (slK .u8 ((((A).getD (i) nd0).recs).getD (t) []))] rfl TU43 TZ27 TS27 (List.cons_ne_nil _ _) (by decide) rfl rfl)) <| Vs (Aq1 719 TU43 TS27 TB27 TN27 (x1 := (((A).getD (i) nd0).recs).getD (t) []) (f := rwB) rfl rwB_len (hl := (by omega)) (hm := (by simp only [maxLen]; omega))) <| Vs (As rfl) <| Nx <| Ke <| Te <| Ih <| Tg <| Rg <| Vs (Bo rfl adI) <| Vs (Mv rfl) <| VList.nil <| Go (.inl (t + 1, (apR (z * 64) j1 ((((A).getD (i) nd0).recs).getD (t) [])).1, (P) ++ [(((A).getD (i) nd0).recs).getD (t) []], q + 1)) ⟨ha1, by omega, ha2.mono (by omega), by rw [ha3, hP], by rw [List.length_append]; simp; omega⟩ (Wt [(409, 711), (695, 719)])
                  · skip
                    exact Gm 711 [408, 7, 409, 8] [] (v := vI .i64 (1)) [(7, ⟨4, [.own 8 ((z * 64)), .b (slT 2 penB ((j1.d).pen)), vI .i64 ((j1.d).fuse), vB ((j1.d).off)], true⟩), (8, rowK .u8 ((j1.d).dur)), (395, ⟨4, [.b (slT 1 rwB (((A).getD (i) nd0).recs)), vI .i64 (((A).getD (i) nd0).fuse), .b (slK .i64 (((A).getD (i) nd0).keep)), vI .i64 (((A).getD (i) nd0).torn)], true⟩), (408, ⟨4, [.ptr 7 (0), .row 409 ((j1.R).length) none, vI .i64 ((j1.ed : Int)), vB (j1.fl)], true⟩), (409, rowT 1 rwB (j1.R)), (695, rowT 1 rwB (P))] rfl ((by have t := j43E hjo1 (by omega) (b := (((A).getD (i) nd0).recs).getD (t) []) (hbB) (by omega) (by rw [ha]; simp); rw [ha] at t; exact t)) rfl <| Vs (As rfl) <| Nx <| Sq <| Sq <| Rg <| Vs (Mv rfl) <| Vs (Bi (c := .bool false) rfl) <| Nx <| Cz rfl <| Ks <| Tg <| Sq <| Sq <| Rg <| Vs (Mv rfl) <| Vs (Bi (c := .bool false) rfl) <| Vs (Mv rfl) <| Sk rfl <| Sk rfl <| Vs (Pk rfl) <| Vs (Mv rfl) <| Sk rfl <| Sk rfl <| Sk rfl <| Vs (Pk rfl) <| Nx <| Cz rfl <| Ks <| Tg <| Sq <| Rg <| Vs (Mv rfl) <| Vs (Bi (c := .bool false) rfl) <| Vs (Mv rfl) <| Vs (Mv rfl) <| Vs (Bi (c := .bool true) rfl) <| Vs (Mv rfl) <| Vs (Mv rfl) <| Vs (Bi (c := .bool false) rfl) <| Vs (Pk rfl) <| Vs (Mv rfl) <| Sk rfl <| Sk rfl <| Vs (Pk rfl) <| Vs (Pk rfl) <| Nx <| Cz rfl <| Ks <| Ig <| Tg <| Rg <| Vs (Bo rfl adI) <| Vs (Mv rfl) <| VList.nil <| Go (.inl (t + 1, j1, P, q)) ⟨hJL, by omega, hjo1.mono (by omega), hP, hq⟩ (Wt [])
                  · skip
                    exact Gm 711 [408, 7, 409, 8] [] (v := vI .i64 (8)) [(7, ⟨4, [.own 8 ((z * 64)), .b (slT 2 penB ((j1.d).pen)), vI .i64 ((j1.d).fuse), vB ((j1.d).off)], true⟩), (8, rowK .u8 ((j1.d).dur)), (395, ⟨4, [.b (slT 1 rwB (((A).getD (i) nd0).recs)), vI .i64 (((A).getD (i) nd0).fuse), .b (slK .i64 (((A).getD (i) nd0).keep)), vI .i64 (((A).getD (i) nd0).torn)], true⟩), (408, ⟨4, [.ptr 7 (0), .row 409 ((j1.R).length) none, vI .i64 ((j1.ed : Int)), vB (j1.fl)], true⟩), (409, rowT 1 rwB (j1.R)), (695, rowT 1 rwB (P))] rfl ((by have t := j43E hjo1 (by omega) (b := (((A).getD (i) nd0).recs).getD (t) []) (hbB) (by omega) (by rw [ha]; simp); rw [ha] at t; exact t)) rfl <| Vs (As rfl) <| Nx <| Sq <| Sq <| Rg <| Vs (Mv rfl) <| Vs (Bi (c := .bool false) rfl) <| Nx <| Cz rfl <| Ks <| Tg <| Sq <| Sq <| Rg <| Vs (Mv rfl) <| Vs (Bi (c := .bool false) rfl) <| Vs (Mv rfl) <| Sk rfl <| Sk rfl <| Vs (Pk rfl) <| Vs (Mv rfl) <| Sk rfl <| Sk rfl <| Sk rfl <| Vs (Pk rfl) <| Nx <| Cz rfl <| Ks <| Tg <| Sq <| Rg <| Vs (Mv rfl) <| Vs (Bi (c := .bool false) rfl) <| Vs (Mv rfl) <| Vs (Mv rfl) <| Vs (Bi (c := .bool true) rfl) <| Vs (Mv rfl) <| Vs (Mv rfl) <| Vs (Bi (c := .bool true) rfl) <| Vs (Pk rfl) <| Vs (Mv rfl) <| Vs (Mv rfl) <| Vs (Bi (c := .bool false) rfl) <| Vs (Pk rfl) <| Vs (Pk rfl) <| Nx <| Cz rfl <| Ks <| Ig <| Tg <| Rg <| Vs (Bo rfl adI) <| Vs (Mv rfl) <| VList.nil <| Go (.inl (t + 1, j1, P, q)) ⟨hJL, by omega, hjo1.mono (by omega), hP, hq⟩ (Wt [])
                  · skip
                    exact Gm 711 [408, 7, 409, 8] [] (v := vI .i64 (290)) [(7, ⟨4, [.own 8 ((z * 64)), .b (slT 2 penB ((j3.d).pen)), vI .i64 ((j3.d).fuse), vB ((j3.d).off)], true⟩), (8, rowK .u8 ((j3.d).dur)), (395, ⟨4, [.b (slT 1 rwB (((A).getD (i) nd0).recs)), vI .i64 (((A).getD (i) nd0).fuse), .b (slK .i64 (((A).getD (i) nd0).keep)), vI .i64 (((A).getD (i) nd0).torn)], true⟩), (408, ⟨4, [.ptr 7 (0), .row 409 ((j3.R).length) none, vI .i64 ((j3.ed : Int)), vB (j3.fl)], true⟩), (409, rowT 1 rwB (j3.R)), (695, rowT 1 rwB (P))] rfl ((by have t := j43E hjo1 (by omega) (b := (((A).getD (i) nd0).recs).getD (t) []) (hbB) (by omega) (by rw [ha]; simp); rw [ha] at t; exact t)) rfl <| Vs (As rfl) <| Nx <| Sq <| Sq <| Rg <| Vs (Mv rfl) <| Vs (Bi (c := .bool false) rfl) <| Nx <| Cz rfl <| Ks <| Tg <| Sq <| Sq <| Rg <| Vs (Mv rfl) <| Vs (Bi (c := .bool true) rfl) <| Vs (Mv rfl) <| Vs (Mv rfl) <| Vs (Nn1 TU27 rfl) <| Vs (Pk rfl) <| Vs (Mv rfl) <| Vs (Mv rfl) <| Vs (Ls TK27 rfl) <| Vs (Kb (show decide ((((((A).getD (i) nd0).recs).getD (t) []).length : Int) > 0) = true from (decide_eq_true (by omega))) (Bi rfl)) <| Vs (Pk rfl) <| Nx <| Cy rfl <| Rg <| Vs (Mv rfl) <| Vs (As rfl) <| Nx <| Sq <| Rg <| Vs (Mv rfl) <| Vs (Bi (c := .bool false) rfl) <| Vs (Mv rfl) <| Vs (Mv rfl) <| Vs (Bi (c := .bool false) rfl) <| Vs (Mv rfl) <| Sk rfl <| Sk rfl <| Vs (Pk rfl) <| Vs (Mv rfl) <| Sk rfl <| Sk rfl <| Vs (Pk rfl) <| Vs (Pk rfl) <| Nx <| Cz rfl <| Ks <| Ig <| Tg <| Rg <| Vs (Bo rfl adI) <| Vs (Mv rfl) <| VList.nil <| Go (.inr (t + 1, j3, P, q, ((((A).getD (i) nd0).recs).getD (t) []))) ⟨ha1, by omega, ha3.mono (by omega), hP.trans ha2.symm, hq, by rw [ha2, ← hP, ← hq]; assumption⟩ (Wt [])
            · replace hc5 := of_decide_eq_false hc5
              refine Ke <| Te <| Oe <| Ih <| Tg <| Sq <| Rg <| Vs (Mv rfl) <| Vs (Fa TF74_2 rfl) <| Vs (Ld TA29 rfl) <| Vs (Fa TF74_3 rfl) <| Vs (Ld TA3 rfl) <| Gm 702 [7, 8] [] (v := .b (.tup [])) [(7, ⟨4, [.own 8 ((z * 64)), .b (slT 2 penB (((j1.d).bootR (((A).getD (i) nd0).keep) (((A).getD (i) nd0).torn)).pen)), vI .i64 (((j1.d).bootR (((A).getD (i) nd0).keep) (((A).getD (i) nd0).torn)).fuse), vB (((j1.d).bootR (((A).getD (i) nd0).keep) (((A).getD (i) nd0).torn)).off)], true⟩), (8, rowK .u8 (((j1.d).bootR (((A).getD (i) nd0).keep) (((A).getD (i) nd0).torn)).dur)), (395, ⟨4, [.b (slT 1 rwB (((A).getD (i) nd0).recs)), vI .i64 (((A).getD (i) nd0).fuse), .b (slK .i64 (((A).getD (i) nd0).keep)), vI .i64 (((A).getD (i) nd0).torn)], true⟩), (408, ⟨4, [.ptr 7 (0), .row 409 (j1.R.length) none, vI .i64 ((j1.ed : Int)), vB (j1.fl)], true⟩), (409, rowT 1 rwB (j1.R)), (695, rowT 1 rwB (P))] rfl (k24 hjo1.d (by omega) (keep := ((A).getD (i) nd0).keep) (hr.keep) (((A).getD (i) nd0).torn)) rfl <| Nx <| Sq <| ?_
              obtain ⟨j2, hb1, hb2, hJ2, hjo2, hR2⟩ := hbt ((A).getD (i) nd0).keep ((A).getD (i) nd0).torn
              have hlen : j2.R.length = q ∨ j2.R.length = q + 1 := by first | (left; rw [hR2, ← hP, ← hq]) | (rcases hR2 with h9 | h9; left; rw [h9, ← hP, ← hq]; right; rw [h9, List.length_append, ← hP, ← hq]; rfl)
              have hs0 : ¬ j2.R.length = q + 1 → j2.R = P := by first | exact fun _ => hR2.trans hP.symm | (intro h; rcases hR2 with h9 | h9; exact h9.trans hP.symm; exact absurd (by rw [h9, List.length_append, ← hP, ← hq]; rfl) h)
              have hs1 : j2.R.length = q + 1 → j2.R = P ++ [b] := by first | (intro h; rw [hR2, ← hP] at h; omega) | (intro h; rcases hR2 with h9 | h9; exfalso; rw [h9, ← hP] at h; omega; rw [h9, hP])
              have hl2 : j2.R.length ≤ z := by have := hjo2.le; have := hjo2.en; omega
              refine Rg <| Vs (Mv rfl) <| Gm 704 [7, 8] [] (v := .tup [.ptr 704 (0), .b (slT 1 rwB (j2.R)), vI .i64 (0)]) [(7, ⟨4, [.own 8 ((z * 64)), .b (slT 2 penB ((j2.d).pen)), vI .i64 ((j2.d).fuse), vB ((j2.d).off)], true⟩), (8, rowK .u8 ((j2.d).dur)), (395, ⟨4, [.b (slT 1 rwB (((A).getD (i) nd0).recs)), vI .i64 (((A).getD (i) nd0).fuse), .b (slK .i64 (((A).getD (i) nd0).keep)), vI .i64 (((A).getD (i) nd0).torn)], true⟩), (408, ⟨4, [.ptr 7 (0), .row 409 (j1.R.length) none, vI .i64 ((j1.ed : Int)), vB (j1.fl)], true⟩), (409, rowT 1 rwB (j1.R)), (695, rowT 1 rwB (P)), (704, ⟨4, [.ptr 7 (0), .row 705 (j2.R.length) none, vI .i64 ((j2.ed : Int)), vB (j2.fl)], true⟩), (705, rowT 1 rwB (j2.R))] rfl ((by have t := j42 (hjo1.d.boot _ _) (by omega) (hjo1.b.bootR _ _) hb1; rw [hb2] at t; exact t)) rfl <| Vs (Mv rfl) <| Vs (Xv rfl) <| Vs (Xv rfl) <| Vs (Xv rfl) <| Vs (As rfl) <| Vs (As rfl) <| Nx <| Sq <| Sq <| Rg <| Vs (Mv rfl) <| Vs (Bi (c := .bool false) rfl) <| Vs (Mv rfl) <| Vs (Mv rfl) <| Vs (Lst rwB_len TU43 rfl) <| Vs (Mv rfl) <| Vs (Lv (m := q) TU43 rfl) <| Vs (Kb (show decide (((j2.R).length : Int) < ((q : Nat) : Int)) = false from (decide_eq_false (by omega))) (Bi rfl)) <| Vs (Pk rfl) <| Vs (Mv rfl) <| Vs (Mv rfl) <| Vs (Lst rwB_len TU43 rfl) <| Vs (Mv rfl) <| Vs (Lv (m := q) TU43 rfl) <| Vs (Bo rfl adI) <| Vs (Kb (show decide (((j2.R).length : Int) > (((q : Nat) : Int) + 1)) = false from (decide_eq_false (by omega))) (Bi rfl)) <| Vs (Pk rfl) <| Nx <| Cz rfl <| Ks <| Tg <| Sq <| Sq <| Rg <| Vs (Mv rfl) <| Vs (Lst rwB_len TU43 rfl) <| Vs (Mv rfl) <| Vs (Lv (m := q) TU43 rfl) <| Vs (Bo rfl adI) <| Vs (Bi rfl) <| Nx <| Cd rfl (fun hc8 => ?_) (fun hc8 => ?_)
              · replace hc8 := eq_of_beq hc8
                refine Sq <| Sq <| Rg <| Vs (Mv rfl) <| Vs (Nn1 TU27 rfl) <| Nx <| Cy rfl <| Sq <| ?_
                have h9 : j2.R.length = P.length := by rw [hR2, hP]
                exact Rg <| Vs (As rfl) <| Nx <| Re <| Tr <| Tr <| Iq <| Tr <| Or <| Iq <| Tr <| Fi (l := [boolB (false)]) (Rc (resVar_tmp rfl rfl) Rn) (by first | rfl | (exfalso; omega))
              · replace hc8 := ne_of_beq_false hc8
                exact Ks <| Tg <| Sq <| Rg <| Vs (Mv rfl) <| Vs (Mv rfl) <| Vs (Kb (show (decide (j2.R = P)) = true from (decide_eq_true (by first | exact hs0 (by omega) | exact hs1 (by omega)))) (Cf rfl (Rk rfl (Rk (res_rowTq rwB_len rfl (by first | omega | (simp; done) | (simp; omega))) Rz)) (t44 (A := j2.R) (B := P) (fun a h => (hjo2.r a h).2.2) (fun a h => (hjo2.r a (by first | (rw [hs0 (by omega)]; exact h) | (rw [hs1 (by omega)]; exact h))).2.2) (by omega)) rfl)) <| Vs (Un rfl) <| Nx <| Cz rfl <| Ks <| Ig <| Tg <| Rg <| Vs (Bo rfl adI) <| Vs (Mv rfl) <| VList.nil <| Go (i + 1, j2, P, q) ⟨by omega, hJ2, hjo2, by first | exact (hs0 (by omega)).symm | exact (hs1 (by omega)).symm, by first | omega | (simp; omega)⟩ (Wt [(391, 695)])
          · change VCode _ _ _ 696 (sl _) (en _) _
            obtain ⟨hJD, ht, hjo1, hP, hq, hch⟩ := hok2
            have hbt := fun keep torn => hJD.boot hjo1 hch keep torn
            have hPl : P.length ≤ z := by rw [hP]; have := hjo1.le; have := hjo1.en; omega
            have hbn := hJD.rc.1
            refine Sq <| Rg <| Vs (Bi rfl) <| Nx <| Sq <| Cd rfl (fun hc9 => ?_) (fun hc9 => ?_)
            · replace hc9 := of_decide_eq_true hc9
              refine Ks <| Tg <| Sq <| Bk <| Sq <| Rg <| Vs (IxT rwB_len TU43 TS27 rfl (by first | omega | (simp; done) | (simp; omega)) (gd (d := []) (j := t) (by first | omega | (simp; done) | (simp; omega))) rfl) <| Vs (Lq TA27 rfl) <| Vs (As rfl) <| Nx <| Sq <| Sq <| ?_
              obtain ⟨hbB, hbL⟩ := hr.recs _ (getD_mem' (x := []) (show t < ((A).getD (i) nd0).recs.length by omega))
              refine Rg <| Vs (Mv rfl) <| Vs (Ls TK27 rfl) <| Vs (Bi rfl) <| Vs (Mv rfl) <| Sp 93 rfl (fun hc10 => ?_) (fun hc10 => ?_)
              · replace hc10 := of_decide_eq_true hc10
                exact Sk rfl <| Sk rfl <| Sk rfl <| Sk rfl <| Vs (Pk rfl) <| Nx <| Cy rfl <| Sq <| Rg <| Vs (Mv rfl) <| Vs (As rfl) <| Nx <| Re <| Tr <| Iq <| Tr <| Or <| Iq <| Tr <| Iq <| Tr <| Or <| Iq <| Tr <| Fi (l := [boolB (true)]) (Rc (resVar_tmp rfl rfl) Rn) (by first | rfl | (exfalso; omega))
              · replace hc10 := of_decide_eq_false hc10
                refine Vs (Mv rfl) <| Vs (Lv (m := q) TU43 rfl) <| Vs (Mv rfl) <| Vs (Cf rfl rfl (t48 (n := (q : Nat)) (b := (((A).getD (i) nd0).recs).getD (t) []) (by omega) (hbB) (by omega)) rfl) <| Vs (Pk rfl) <| Nx <| Cd rfl (fun hc11 => ?_) (fun hc11 => ?_)
                · replace hc11 := hc11
                  exact Sq <| Rg <| Vs (Mv rfl) <| Vs (As rfl) <| Nx <| Re <| Tr <| Iq <| Tr <| Or <| Iq <| Tr <| Iq <| Tr <| Or <| Iq <| Tr <| Fi (l := [boolB (true)]) (Rc (resVar_tmp rfl rfl) Rn) (by first | rfl | (exfalso; omega))
                · replace hc11 := hc11
                  refine Ks <| Tg <| Sq <| Rg <| Vs (Mv rfl) <| Vs (Mv rfl) <| ?_
                  rcases hJD.cases (b := ((((A).getD (i) nd0).recs).getD (t) [])) (by omega) with ha | ha
                  · skip
                    exact Gm 711 [408, 7, 409, 8] [] (v := vI .i64 (1)) [(7, ⟨4, [.own 8 ((z * 64)), .b (slT 2 penB ((j1.d).pen)), vI .i64 ((j1.d).fuse), vB ((j1.d).off)], true⟩), (8, rowK .u8 ((j1.d).dur)), (395, ⟨4, [.b (slT 1 rwB (((A).getD (i) nd0).recs)), vI .i64 (((A).getD (i) nd0).fuse), .b (slK .i64 (((A).getD (i) nd0).keep)), vI .i64 (((A).getD (i) nd0).torn)], true⟩), (408, ⟨4, [.ptr 7 (0), .row 409 ((j1.R).length) none, vI .i64 ((j1.ed : Int)), vB (j1.fl)], true⟩), (409, rowT 1 rwB (j1.R)), (695, rowT 1 rwB (P))] rfl ((by have t := j43E hjo1 (by omega) (b := (((A).getD (i) nd0).recs).getD (t) []) (hbB) (by omega) (by rw [ha]; simp); rw [ha] at t; exact t)) rfl <| Vs (As rfl) <| Nx <| Sq <| Sq <| Rg <| Vs (Mv rfl) <| Vs (Bi (c := .bool false) rfl) <| Nx <| Cz rfl <| Ks <| Tg <| Sq <| Sq <| Rg <| Vs (Mv rfl) <| Vs (Bi (c := .bool false) rfl) <| Vs (Mv rfl) <| Sk rfl <| Sk rfl <| Vs (Pk rfl) <| Vs (Mv rfl) <| Sk rfl <| Sk rfl <| Sk rfl <| Vs (Pk rfl) <| Nx <| Cz rfl <| Ks <| Tg <| Sq <| Rg <| Vs (Mv rfl) <| Vs (Bi (c := .bool false) rfl) <| Vs (Mv rfl) <| Vs (Mv rfl) <| Vs (Bi (c := .bool true) rfl) <| Vs (Mv rfl) <| Vs (Mv rfl) <| Vs (Bi (c := .bool false) rfl) <| Vs (Pk rfl) <| Vs (Mv rfl) <| Sk rfl <| Sk rfl <| Vs (Pk rfl) <| Vs (Pk rfl) <| Nx <| Cz rfl <| Ks <| Ig <| Tg <| Rg <| Vs (Bo rfl adI) <| Vs (Mv rfl) <| VList.nil <| Go (.inr (t + 1, j1, P, q, b)) ⟨hJD, by omega, hjo1.mono (by omega), hP, hq, hch⟩ (Wt [])
                  · skip
                    exact Gm 711 [408, 7, 409, 8] [] (v := vI .i64 (290)) [(7, ⟨4, [.own 8 ((z * 64)), .b (slT 2 penB ((j1.d).pen)), vI .i64 ((j1.d).fuse), vB ((j1.d).off)], true⟩), (8, rowK .u8 ((j1.d).dur)), (395, ⟨4, [.b (slT 1 rwB (((A).getD (i) nd0).recs)), vI .i64 (((A).getD (i) nd0).fuse), .b (slK .i64 (((A).getD (i) nd0).keep)), vI .i64 (((A).getD (i) nd0).torn)], true⟩), (408, ⟨4, [.ptr 7 (0), .row 409 ((j1.R).length) none, vI .i64 ((j1.ed : Int)), vB (j1.fl)], true⟩), (409, rowT 1 rwB (j1.R)), (695, rowT 1 rwB (P))] rfl ((by have t := j43E hjo1 (by omega) (b := (((A).getD (i) nd0).recs).getD (t) []) (hbB) (by omega) (by rw [ha]; simp); rw [ha] at t; exact t)) rfl <| Vs (As rfl) <| Nx <| Sq <| Sq <| Rg <| Vs (Mv rfl) <| Vs (Bi (c := .bool false) rfl) <| Nx <| Cz rfl <| Ks <| Tg <| Sq <| Sq <| Rg <| Vs (Mv rfl) <| Vs (Bi (c := .bool true) rfl) <| Vs (Mv rfl) <| Vs (Mv rfl) <| Vs (Ne1 TU27 rfl (fun h => hbn (by simpa using h))) <| Vs (Pk rfl) <| Vs (Mv rfl) <| Sk rfl <| Sk rfl <| Sk rfl <| Vs (Pk rfl) <| Nx <| Cz rfl <| Ks <| Tg <| Sq <| Rg <| Vs (Mv rfl) <| Vs (Bi (c := .bool false) rfl) <| Vs (Mv rfl) <| Vs (Mv rfl) <| Vs (Bi (c := .bool false) rfl) <| Vs (Mv rfl) <| Sk rfl <| Sk rfl <| Vs (Pk rfl) <| Vs (Mv rfl) <| Sk rfl <| Sk rfl <| Vs (Pk rfl) <| Vs (Pk rfl) <| Nx <| Cz rfl <| Ks <| Ig <| Tg <| Rg <| Vs (Bo rfl adI) <| Vs (Mv rfl) <| VList.nil <| Go (.inr (t + 1, j1, P, q, b)) ⟨hJD, by omega, hjo1.mono (by omega), hP, hq, hch⟩ (Wt [])
            · replace hc9 := of_decide_eq_false hc9
              refine Ke <| Te <| Oe <| Ih <| Tg <| Sq <| Rg <| Vs (Mv rfl) <| Vs (Fa TF74_2 rfl) <| Vs (Ld TA29 rfl) <| Vs (Fa TF74_3 rfl) <| Vs (Ld TA3 rfl) <| Gm 702 [7, 8] [] (v := .b (.tup [])) [(7, ⟨4, [.own 8 ((z * 64)), .b (slT 2 penB (((j1.d).bootR (((A).getD (i) nd0).keep) (((A).getD (i) nd0).torn)).pen)), vI .i64 (((j1.d).bootR (((A).getD (i) nd0).keep) (((A).getD (i) nd0).torn)).fuse), vB (((j1.d).bootR (((A).getD (i) nd0).keep) (((A).getD (i) nd0).torn)).off)], true⟩), (8, rowK .u8 (((j1.d).bootR (((A).getD (i) nd0).keep) (((A).getD (i) nd0).torn)).dur)), (395, ⟨4, [.b (slT 1 rwB (((A).getD (i) nd0).recs)), vI .i64 (((A).getD (i) nd0).fuse), .b (slK .i64 (((A).getD (i) nd0).keep)), vI .i64 (((A).getD (i) nd0).torn)], true⟩), (408, ⟨4, [.ptr 7 (0), .row 409 (j1.R.length) none, vI .i64 ((j1.ed : Int)), vB (j1.fl)], true⟩), (409, rowT 1 rwB (j1.R)), (695, rowT 1 rwB (P))] rfl (k24 hjo1.d (by omega) (keep := ((A).getD (i) nd0).keep) (hr.keep) (((A).getD (i) nd0).torn)) rfl <| Nx <| Sq <| ?_
              obtain ⟨j2, hb1, hb2, hJ2, hjo2, hR2⟩ := hbt ((A).getD (i) nd0).keep ((A).getD (i) nd0).torn
              have hlen : j2.R.length = q ∨ j2.R.length = q + 1 := by first | (left; rw [hR2, ← hP, ← hq]) | (rcases hR2 with h9 | h9; left; rw [h9, ← hP, ← hq]; right; rw [h9, List.length_append, ← hP, ← hq]; rfl)
              have hs0 : ¬ j2.R.length = q + 1 → j2.R = P := by first | exact fun _ => hR2.trans hP.symm | (intro h; rcases hR2 with h9 | h9; exact h9.trans hP.symm; exact absurd (by rw [h9, List.length_append, ← hP, ← hq]; rfl) h)
              have hs1 : j2.R.length = q + 1 → j2.R = P ++ [b] := by first | (intro h; rw [hR2, ← hP] at h; omega) | (intro h; rcases hR2 with h9 | h9; exfalso; rw [h9, ← hP] at h; omega; rw [h9, hP])
              have hl2 : j2.R.length ≤ z := by have := hjo2.le; have := hjo2.en; omega
              refine Rg <| Vs (Mv rfl) <| Gm 704 [7, 8] [] (v := .tup [.ptr 704 (0), .b (slT 1 rwB (j2.R)), vI .i64 (0)]) [(7, ⟨4, [.own 8 ((z * 64)), .b (slT 2 penB ((j2.d).pen)), vI .i64 ((j2.d).fuse), vB ((j2.d).off)], true⟩), (8, rowK .u8 ((j2.d).dur)), (395, ⟨4, [.b (slT 1 rwB (((A).getD (i) nd0).recs)), vI .i64 (((A).getD (i) nd0).fuse), .b (slK .i64 (((A).getD (i) nd0).keep)), vI .i64 (((A).getD (i) nd0).torn)], true⟩), (408, ⟨4, [.ptr 7 (0), .row 409 (j1.R.length) none, vI .i64 ((j1.ed : Int)), vB (j1.fl)], true⟩), (409, rowT 1 rwB (j1.R)), (695, rowT 1 rwB (P)), (704, ⟨4, [.ptr 7 (0), .row 705 (j2.R.length) none, vI .i64 ((j2.ed : Int)), vB (j2.fl)], true⟩), (705, rowT 1 rwB (j2.R))] rfl ((by have t := j42 (hjo1.d.boot _ _) (by omega) (hjo1.b.bootR _ _) hb1; rw [hb2] at t; exact t)) rfl <| Vs (Mv rfl) <| Vs (Xv rfl) <| Vs (Xv rfl) <| Vs (Xv rfl) <| Vs (As rfl) <| Vs (As rfl) <| Nx <| Sq <| Sq <| Rg <| Vs (Mv rfl) <| Vs (Bi (c := .bool false) rfl) <| Vs (Mv rfl) <| Vs (Mv rfl) <| Vs (Lst rwB_len TU43 rfl) <| Vs (Mv rfl) <| Vs (Lv (m := q) TU43 rfl) <| Vs (Kb (show decide (((j2.R).length : Int) < ((q : Nat) : Int)) = false from (decide_eq_false (by omega))) (Bi rfl)) <| Vs (Pk rfl) <| Vs (Mv rfl) <| Vs (Mv rfl) <| Vs (Lst rwB_len TU43 rfl) <| Vs (Mv rfl) <| Vs (Lv (m := q) TU43 rfl) <| Vs (Bo rfl adI) <| Vs (Kb (show decide (((j2.R).length : Int) > (((q : Nat) : Int) + 1)) = false from (decide_eq_false (by omega))) (Bi rfl)) <| Vs (Pk rfl) <| Nx <| Cz rfl <| Ks <| Tg <| Sq <| Sq <| Rg <| Vs (Mv rfl) <| Vs (Lst rwB_len TU43 rfl) <| Vs (Mv rfl) <| Vs (Lv (m := q) TU43 rfl) <| Vs (Bo rfl adI) <| Vs (Bi rfl) <| Nx <| Cd rfl (fun hc12 => ?_) (fun hc12 => ?_)
              · replace hc12 := eq_of_beq hc12
                exact Sq <| Sq <| Rg <| Vs (Mv rfl) <| Vs (Ne1 TU27 rfl (fun h => hbn (by simpa using h))) <| Nx <| Cz rfl <| Ks <| Tg <| Rg <| Vs (Mv rfl) <| Vs (Mv rfl) <| Vs (sq1 740 rfl (.buildS _ 1 _ 27 [.b (slK .u8 (b))] 1 _ [.b (slK .u8 (b))] rfl TU43 TZ27 TS27 (List.cons_ne_nil _ _) (by decide) rfl rfl)) <| Vs (Aq1 741 TU43 TS27 TB27 TN27 (x1 := b) (f := rwB) rfl rwB_len (hl := (by omega)) (hm := (by simp only [maxLen]; omega))) <| Vs (As rfl) <| Nx <| Sq <| Rg <| Vs (Mv rfl) <| Vs (Mv rfl) <| Vs (Kb (show (decide (j2.R = (P) ++ [b])) = true from (decide_eq_true (by first | exact hs0 (by omega) | exact hs1 (by omega)))) (Cf rfl (Rk rfl (Rk (res_rowTq rwB_len rfl (by first | omega | (simp; done) | (simp; omega))) Rz)) (t44 (A := j2.R) (B := (P) ++ [b]) (fun a h => (hjo2.r a h).2.2) (fun a h => (hjo2.r a (by first | (rw [hs0 (by omega)]; exact h) | (rw [hs1 (by omega)]; exact h))).2.2) (by omega)) rfl)) <| Vs (Un rfl) <| Nx <| Cz rfl <| Ks <| Ig <| Tg <| Rg <| Vs (Bo rfl adI) <| Vs (Mv rfl) <| VList.nil <| Go (i + 1, j2, (P) ++ [b], q + 1) ⟨by omega, hJ2, hjo2, by first | exact (hs0 (by omega)).symm | exact (hs1 (by omega)).symm, by first | omega | (simp; omega)⟩ (Wt [(391, 741)])
              · replace hc12 := ne_of_beq_false hc12
                exact Ks <| Tg <| Sq <| Rg <| Vs (Mv rfl) <| Vs (Mv rfl) <| Vs (Kb (show (decide (j2.R = P)) = true from (decide_eq_true (by first | exact hs0 (by omega) | exact hs1 (by omega)))) (Cf rfl (Rk rfl (Rk (res_rowTq rwB_len rfl (by first | omega | (simp; done) | (simp; omega))) Rz)) (t44 (A := j2.R) (B := P) (fun a h => (hjo2.r a h).2.2) (fun a h => (hjo2.r a (by first | (rw [hs0 (by omega)]; exact h) | (rw [hs1 (by omega)]; exact h))).2.2) (by omega)) rfl)) <| Vs (Un rfl) <| Nx <| Cz rfl <| Ks <| Ig <| Tg <| Rg <| Vs (Bo rfl adI) <| Vs (Mv rfl) <| VList.nil <| Go (i + 1, j2, P, q) ⟨by omega, hJ2, hjo2, by first | exact (hs0 (by omega)).symm | exact (hs1 (by omega)).symm, by first | omega | (simp; omega)⟩ (Wt [(391, 695)])
    · replace hc2 := of_decide_eq_false hc2
      exact Ke <| Te <| Oe <| Ih <| Tg <| Sq <| Rg <| Vs (Mv rfl) <| Vs (As rfl) <| Nx <| Re <| Fi (l := [boolB (true)]) (Rc (resVar_tmp rfl rfl) Rn) (by first | rfl | (exfalso; omega))
end Go.VL

set_option linter.unusedVariables false
set_option linter.unusedSimpArgs false
set_option maxRecDepth 100000
namespace Go.Proofs.Ytpoolpppmgacnaa
open Go.ChangeShapes Go.WideShapes Go.ChangeAt Go.RowKit Go.VL

theorem journalSurvives_lifted (os : Os) (started : os.Started) (H : Type) (enc : TypeId × Value → H) :
    ReturnsInHanded {} Try.checked os 15 .any (Rows.journalSurvivesSpec.pre6 enc Try.prog Try.f15 Rows.journalSurvivesRow.domain false) (Rows.journalSurvivesSpec.post enc Try.prog Try.f15 false true false false) := by
  refine returnsInHanded_of_change (C := Try.checked) Try_own started (by kernel_rfl) Try.func15
    (ChangeSpec.witness6 (enc := enc) (C := Try.checked) false ⟨#[], #[.int .u8 0, .slice none 0 0], []⟩ 8 (by kernel_rfl) (by kernel_rfl) (by kernel_rfl) (by kernel_rfl)) ?_
  intro W base args ds gs before hval0 hW hcnd _
  have hval : ∀ (j : Nat) t v, Try.f15.params[j]? = some t → args[j]? = some v → Value.okWide Try.prog W .any base t v := hval0
  have hW' := hW
  obtain ⟨p, q, hA0, hV, rfl, hfz, hnd⟩ := hW
  have hA : DataW.TrodAll enc Try.prog W 0 (fun _ => true) true Try.f15.params.toList args.toList ds p := hA0
  have hA1 := hA
  rw [Try.params15] at hA hval
  obtain ⟨v0, v1, d0, d1, p0, p1, rfl, rfl, rfl, h0, h1⟩ := trodAll_two hA
  obtain ⟨rfl, rfl⟩ := trodVars_none hV
  obtain ⟨k0, r0, a0, b0⟩ := open_u8 (hval 0 5 v0 rfl rfl) h0
  obtain ⟨c1, r1, o1, l1⟩ := open_rounds (hval 1 72 v1 rfl rfl) h1
  simp only [List.append_nil] at hW'
  have hlt : ∀ x ∈ p0 ++ p1, x.block < W.heap.size := fun x hx => hW'.lt x hx
  have hread : ∀ t ∈ Try.f15.params.toList, Try.prog.readableRec t = true ∧ t < Try.prog.types.size := by rw [Try.params15]; exact types_cons T5 (types_cons T72 (types_nil))
  refine ((g15 k0 a0 b0 c1 o1 l1).runs (xs := [v0, v1]) rfl (reps_cons r0 (reps_cons r1 reps_nil))).mono fun e W' ⟨he, hb⟩ => ?_
  subst he
  exact ⟨_, rfl, post_of_below (pa := _) (pv := []) hW' (fun _ _ _ => trodAll_mk1 shut_true) (fun sp hsp => args_stay Try_laidOut hb hread hA1 hlt hsp) (fun _ _ => rfl) (by simp) hb (ok_one (by kernel_rfl) rfl ok_true)⟩

theorem journalSurvives_facts : joinedFacts Try.pinned.checked.prog 15 Try.f15 Rows.journalSurvivesSpec Rows.journalSurvivesRow = true := by
  unfold joinedFacts
  rw [head_may, head_lifts, head_make]
  kernel_rfl

theorem journalSurvives_holds : Rows.JournalSurvivesSaid :=
  OpenClaim.holds_of_wide 15 Try.f15 rfl rfl rfl rfl rfl rfl rfl ⟨rfl, rfl, rfl, rfl, rfl⟩ rfl rfl rfl rfl rfl (by kernel_rfl) Try.func15 journalSurvives_facts
    (of_decide_eq_true (by kernel_rfl)) (by unfold Func.isWrapper; rw [if_neg (of_decide_eq_false (by kernel_rfl))]; exact ⟨rfl, rfl⟩)
    (fun os started H enc _ => journalSurvives_lifted os started H enc)

end Go.Proofs.Ytpoolpppmgacnaa
