/- A small program logic over the translated Go code, plain laws, and walks over the functions: several texts in one. No condition. -/
import Derived.Test.YtpoolpppmgacnaaK2
/- A small program logic over the translated Go code, further part: families that a function makes. -/
set_option linter.unusedVariables false
set_option linter.unusedSimpArgs false
namespace Go.VL
open Go.RowKit
theorem Fam.nil {E : Env} {b : Nat} : Fam E b (famD []) := fun j e h => by simp [famD] at h
def zRow : List Int := List.replicate 64 0
theorem famD_snoc {m : Nat} : famD (List.replicate (m + 1) zRow) = famD (List.replicate m zRow) ++ [rowK .u8 zRow] := by
  rw [List.replicate_succ', famD, famD, List.map_append]; rfl
theorem rowsD_new {z : Nat} : rowsD z (List.replicate (z * 64) 0) = List.replicate z zRow := by
  refine List.eq_replicate_iff.2 ⟨rowsD_len, fun b hb => ?_⟩
  simp only [rowsD, List.mem_map, List.mem_range] at hb
  obtain ⟨s, hs, rfl⟩ := hb
  rw [sec, List.drop_replicate, List.take_replicate, zRow]
  congr 1; omega
theorem new_hot {Lc1 : List (Option Ent)} {C : List (List Int)} (h : (Lc1.all fun | some e => e.hot | none => true) = true) : (((Lc1 ++ ((famD C).map some ++ [])).drop ([] : List Ent).length).all fun | some e => e.hot | none => true) = true := by
  rw [List.length_nil, List.drop_zero, List.all_append, List.append_nil, h, Bool.true_and, List.all_eq_true]
  intro x hx
  simp only [famD, List.map_map, List.mem_map] at hx
  obtain ⟨c, _, rfl⟩ := hx
  rfl
theorem WB1 {n1 b m : Nat} {s : Slots} {E : Env} {S1 : List (Nat × V)} {L1 : List (Nat × Ent)} {F F1 : List Ent} {e0 : Ent} (l : List (Nat × Nat)) (q : Nat) (hm : F.length = m) (hF : Fam E b F) (hP : ∀ e ∈ F, Plain e) (he : E q = some e0) (hP0 : Plain e0) (hF1 : F1 = F ++ [e0]) (hb : b + m + 1 ≤ 100000)
    (h2 : AllE (fun i e => E (rhB b l m q i) = some (e.ren (rhB b l m q)) ∧ i < n1 ∧ ∀ v ∈ e.cells, v.all1.all (fun i => decide (i < n1)) = true) L1)
    (hc : (ckA b l (L1.map (·.1)) && decide (100000 ≤ q) && !((L1.map (·.1)).map (rl l)).contains q) = true := by rfl) (hn : Nat.ble 100000 n1 = true := by rfl)
    (h1 : AllS (fun t x => s t = some (x.ren (rhB b l m q)) ∧ x.all.all (fun i => decide (i < n1)) = true) S1 := by repeat' (first | exact trivial | refine ⟨⟨rfl, rfl⟩, ?_⟩)) :
    Weak 0 s E n1 (sl S1) (enF L1 b F1) := by
  subst hm
  exact WB l q hF hP he hP0 hF1 hb h2 hc hn h1
section
variable {P : Program} {s : Slots} {E : Env} {n : Nat} {e : VExit} {fn : Func} {r : V}
/-- The end of a function that makes a family. -/
theorem GgN {c b : Nat} {F F' : List Ent} {Lc1 Lc1' : List (Option Ent)} {r' : V} {l : List V} (lc : List Nat) (hg : ResG P s E (rhC lc b c) (Lc1' ++ (F'.map some ++ [])) fn.results.toList l) (ho : ResOf l r') (hr : r' = r) (hF : Fam E b F') (hP : ∀ e ∈ F', Plain e) (hb : b + F'.length ≤ 100000)
    (h1 : AllO (fun j e => E (lc.getD j 0) = some (e.ren (rhC lc b c)) ∧ ∀ v ∈ e.cells, ∀ i ∈ v.all1, i < c + F'.length) 0 Lc1') (hL : (Lc1', F') = (Lc1, F)) (hcs : (Lc1'.length, lc.length) = (c, c) := by rfl) (hok : okF b lc = true := by rfl) (hnd : lc.Nodup := by decide) (he : match (generalizing := false) e with | .exit _ => False | _ => True := by trivial) :
    PostG P fn 0 r (Lc1 ++ (F.map some ++ [])) e n s E := by
  simp only [Prod.mk.injEq] at hL
  obtain ⟨rfl, rfl⟩ := hL
  exact postG he (WeakR.famN lc hcs hF hP hb hok hnd h1) hg ho hr rfl
theorem low_in {x : V} {c : Nat} {Lc1 : List (Option Ent)} {L2 : List (Option Ent)} (hc : Lc1.length = c) (h : x.all.all (fun i => decide (i < c)) = true) : x.all.all (fun i => decide (i < (Lc1 ++ L2).length)) = true := by
  rw [List.all_eq_true] at h ⊢
  intro i hi
  have := of_decide_eq_true (h i hi)
  exact decide_eq_true (by rw [List.length_append, hc]; omega)
end
section
variable {P : Program} {ops : Array Oper} {o : Oper} {r : List Oper} {n d : Nat} {s : Slots} {E : Env} {Q : Nat → Slots → Env → Prop} {v : V}
variable {fop : Operand} {args : Array Operand} {ts : Array TypeId} {f : FuncId} {caps vs xs : List V}
/-- The caller's number for the callee's. -/
def nw (q j : Nat) : Nat := q + j
theorem safe_nw {q c m b : Nat} (hb : b = q + c) : safeE b m = (safeE c m).ren (nw q) := (safe_ren fun j _ => by unfold nw; omega).symm
/-- A call that makes a family. -/
theorem GmN (q : Nat) {c b : Nat} {F : List Ent} {Lc1 : List (Option Ent)} {rr : V} (L2 : List (Nat × Ent)) (h : (n, runs ops s o.guard, o.dst, o.op, ev s fop, evs s args.toList) = (q, some true, some d, .call { callee := .value fop, args := args, argTypes := ts }, some (.fn f caps), some vs))
    (hv : VG P f xs [] rr (Lc1 ++ (F.map some ++ []))) (hr : rr.ren (nw q) = v) (hP : ∀ e ∈ F, Plain e) (hb : b + F.length ≤ 100000) (hx : Args E id 0 [] (vs ++ caps) xs)
    (ha : AllE (fun i e => (∃ j e0, j < c ∧ Lc1[j]? = some (some e0) ∧ q + j = i ∧ e = e0.ren (nw q)) ∨ (E i = some e ∧ i < q)) L2)
    (h3 : VList P ops r 100000 (setAt s d (some v)) (enF L2 b F) Q) (hcs : (Lc1.length, b) = (c, q + c) := by rfl) (hoks : okF b (L2.map (·.1)) = true := by rfl) : VList P ops (o :: r) n s E Q := by
  simp only [Prod.mk.injEq] at h hcs; obtain ⟨rfl, h1, h2, h4, h5, h6⟩ := h
  obtain ⟨c1, rfl⟩ := hcs
  have e0 : nm id ([] : List Ent).length n = nw n := by
    funext j; unfold nm nw; rw [List.length_nil, if_neg (by omega)]; omega
  have hcg : CallG P n s E (.call { callee := .value fop, args := args, argTypes := ts }) (rr.ren (nm id ([] : List Ent).length n)) 100000 (enF L2 (n + c) F) := by
    refine CallG.mk fop args ts f caps vs xs [] rr _ id [] 100000 _ h5 h6 hx ⟨fun j e he => (by simp at he), fun i j hi => (by simp at hi)⟩ hv ?_ (fun i e he => ?_)
    · simp only [List.length_append, List.length_map, c1, List.length_nil]; omega
    · rw [e0]
      rcases enF_inv he with h | ⟨j, rfl, h⟩
      · rcases ha.get _ (lookup_mem h) with ⟨j, e', h1, h2, h3, h4⟩ | ⟨h1, h2⟩
        · exact .inl ⟨j, e', by rw [List.getElem?_append_left (by omega)]; exact h2, h3, h4⟩
        · exact .inr ⟨h1, fun j hj => by simp at hj⟩
      · have hj := (List.getElem?_eq_some_iff.1 h).1
        refine .inl ⟨c + j, e, ?_, by unfold nw; omega, ((hP e (List.mem_of_getElem? h)).ren _).symm⟩
        rw [List.getElem?_append_right (by omega), c1, Nat.add_sub_cancel_left, List.append_nil, List.getElem?_map, h]; rfl
  refine VList.goV h1 h2 (by rw [h4]; exact hcg) ?_ h3
  rw [e0]; exact hr
/-- A call that is not lent the family. -/
theorem GmK (q q2 : Nat) (l nv : List Nat) {b : Nat} {F L0 : List Ent} {L1 : List (Option Ent)} {rr : V} (L2 : List (Nat × Ent)) (h : (n, runs ops s o.guard, o.dst, o.op, ev s fop, evs s args.toList) = (q, some true, some d, .call { callee := .value fop, args := args, argTypes := ts }, some (.fn f caps), some vs)) (hv : VG P f xs L0 rr L1) (hr : rr.ren (nm (rho l) L0.length q) = v)
    (hF : Fam E b F) (hb : b + F.length ≤ 100000)
    (h3 : VList P ops r q2 (setAt s d (some v)) (enF L2 b F) Q)
    (hx : Args E (rho l) L0.length nv (vs ++ caps) xs := by repeat' (first | exact Args.nil | refine Args.name _ _ _ _ rfl rfl ?_ | refine Args.val _ _ _ _ (by first | rfl | exact Rr rfl | exact Ra rfl) rfl ?_))
    (hl : Lent E (rho l) nv L0 := by refine Lent.of rfl (by decide) ?_; repeat' (first | exact trivial | refine ⟨⟨by first | exact rowK_ren' | exact rowT_ren' | rfl, rfl, by first | exact row_cellsK | exact rowT_cells | exact cells_of rfl⟩, ?_⟩))
    (ha : AllE (fun i e => (∃ j e0, L1[j]? = some (some e0) ∧ nm (rho l) L0.length q j = i ∧ e = e0.ren (nm (rho l) L0.length q)) ∨ (upds E (nv.map (cool E)) i = some e ∧ l.contains i = false)) L2 := by
      repeat' (first | exact trivial | refine ⟨.inl ⟨0, _, rfl, rfl, by first | exact rowK_ren.symm | exact rowT_ren.symm | rfl⟩, ?_⟩ | refine ⟨.inl ⟨1, _, rfl, rfl, by first | exact rowK_ren.symm | exact rowT_ren.symm | rfl⟩, ?_⟩ | refine ⟨.inl ⟨2, _, rfl, rfl, by first | exact rowK_ren.symm | exact rowT_ren.symm | rfl⟩, ?_⟩ | refine ⟨.inl ⟨3, _, rfl, rfl, by first | exact rowK_ren.symm | exact rowT_ren.symm | rfl⟩, ?_⟩ | refine ⟨.inr ⟨rfl, rfl⟩, ?_⟩))
    (hk : l.length = L0.length := by rfl) (hoks : (okF b l && okF b nv && Nat.ble (q + (L1.length - L0.length)) q2) = true := by rfl) : VList P ops (o :: r) n s E Q := by
  simp only [Prod.mk.injEq] at h; obtain ⟨rfl, h1, h2, h4, h5, h6⟩ := h
  simp only [Bool.and_eq_true] at hoks
  obtain ⟨⟨k1, k2⟩, k3⟩ := hoks
  refine VList.goV h1 h2 (h4 ▸ .mk _ _ _ _ _ _ _ _ _ _ _ nv _ (enF L2 b F) h5 h6 hx hl hv (Nat.le_of_ble_eq_true k3) (fun i e he => ?_)) hr h3
  rcases enF_inv he with h | ⟨j, rfl, h⟩
  · rcases ha.get _ (lookup_mem h) with h | ⟨h1, h2⟩
    · exact .inl h
    · refine .inr ⟨h1, fun j hj e => ?_⟩
      simp only [rho, List.getD_eq_getElem?_getD] at e
      rw [List.getElem?_eq_getElem (by omega)] at e
      have : i ∈ l := by rw [← e]; exact List.getElem_mem _
      simp [this] at h2
  · have hj := (List.getElem?_eq_some_iff.1 h).1
    refine .inr ⟨?_, fun j' hj' e => ?_⟩
    · rw [upds_app]
      · exact hF j _ h
      · intro p hp
        obtain ⟨x, hx, rfl⟩ := List.mem_map.1 hp
        have := okF_get k2 hx
        simp only [cool]
        omega
    · simp only [rho, List.getD_eq_getElem?_getD] at e
      rw [List.getElem?_eq_getElem (by omega)] at e
      have := okF_get k1 (List.getElem_mem (h := by omega) : l[j'] ∈ l)
      simp only [Option.getD_some] at e
      omega
end
end Go.VL

/- A small program logic over the translated Go code, further part: a row of names of a family of rows, whose rows grow. -/
set_option linter.unusedVariables false
set_option linter.unusedSimpArgs false
namespace Go.VL
open Go.RowKit
/-- Rows of byte strings, told by their contents. -/
def cwB (L : List (List Int)) : List B := [slT 1 rwB L]
theorem cwB_len : ∀ l, (cwB l).length = 1 := fun _ => rfl
abbrev Css := List (List (List Int))
def famT (C : Css) : List Ent := C.map (rowT 1 rwB)
theorem famT_len {C : Css} : (famT C).length = C.length := by simp [famT]
theorem famT_plain {C : Css} : ∀ e ∈ famT C, Plain e := fun e he => by
  obtain ⟨c, _, rfl⟩ := List.mem_map.1 he
  exact plainT
theorem famT_at {C : Css} {s : Nat} (h : s < C.length) : (famT C)[s]? = some (rowT 1 rwB (C.getD s [])) := by simp [famT, h]
theorem famT_set {C : Css} {s : Nat} {L : List (List Int)} : famT (C.set s L) = (famT C).set s (rowT 1 rwB L) := by simp [famT, List.map_set]
theorem famT_snoc {m : Nat} {L : List (List Int)} : famT (List.replicate (m + 1) L) = famT (List.replicate m L) ++ [rowT 1 rwB L] := by
  rw [List.replicate_succ', famT, famT, List.map_append]; rfl
theorem Fam.nilT {E : Env} {b : Nat} : Fam E b (famT []) := fun j e h => by simp [famT] at h
/-- The row of names: k cells are nil still. -/
def hdrL (b : Nat) (C : Css) : List V := (List.range C.length).map fun j => .own (b + j) (C.getD j []).length
def hdr (b : Nat) (C : Css) (k : Nat) : Ent := ⟨1, hdrL b C ++ List.replicate k (.b .nil), true⟩
section
variable {b k s q n n1 i : Nat} {C : Css} {E : Env} {l : List (Nat × Nat)} {ρ : Nat → Nat}
theorem hdrL_len : (hdrL b C).length = C.length := by simp [hdrL]
theorem hdr_len : (hdr b C k).cells.length = C.length + k := by simp [hdr, hdrL]
theorem hdr_at (h : s < C.length) : (hdr b C k).cells[s]? = some (.own (b + s) (C.getD s []).length) := by
  rw [hdr, List.getElem?_append_left (by rw [hdrL_len]; exact h)]; simp [hdrL, h]
theorem hdr_nil (h : s = C.length) (hk : 0 < k) : (hdr b C k).cells[s]? = some (.b .nil) := by
  subst h
  rw [hdr, List.getElem?_append_right (by rw [hdrL_len]; omega), hdrL_len, Nat.sub_self, List.getElem?_replicate, if_pos hk]
theorem hdrL_low {v : V} (hv : v ∈ hdrL b C) : ∀ i ∈ v.all1, i < b + C.length := fun i hi => by
  simp only [hdrL, List.mem_map, List.mem_range] at hv
  obtain ⟨j, hj, rfl⟩ := hv
  simp [V.all1, V.all0] at hi; omega
theorem hdr_low (h : b + C.length ≤ n1) : ∀ v ∈ (hdr b C k).cells, v.all1.all (fun i => decide (i < n1)) = true := fun v hv => by
  refine List.all_eq_true.2 fun i hi => decide_eq_true ?_
  simp only [hdr, List.mem_append, List.mem_replicate] at hv
  rcases hv with hv | ⟨_, rfl⟩
  · have := hdrL_low hv i hi; omega
  · simp [V.all1, V.all0] at hi
theorem hdrL_ren (h : ∀ j, j < C.length → ρ (b + j) = b + j) : (hdrL b C).map (V.ren1 ρ) = hdrL b C := by
  simp only [hdrL, List.map_map]
  exact List.map_congr_left fun j hj => by
    simp only [Function.comp, V.ren1, V.ren0]
    rw [h j (List.mem_range.1 hj)]
theorem nil_ren : (List.replicate k (V.b .nil)).map (V.ren1 ρ) = List.replicate k (V.b .nil) := by rw [List.map_replicate]; rfl
theorem hdr_ren (h : ∀ j, j < C.length → ρ (b + j) = b + j) : (hdr b C k).ren ρ = hdr b C k := by
  simp only [hdr, Ent.ren, List.map_append, hdrL_ren h, nil_ren]
theorem hdr_rhA (hn : b + C.length ≤ 100000) (h : E i = some (hdr b C k)) : E i = some ((hdr b C k).ren (rhA b l)) := by
  rw [hdr_ren (fun j hj => rhA_fam (by omega) (by omega))]; exact h
/-- The first nil cell is set to a new row. -/
theorem hdr_grow (hs : s = C.length) : (hdr b C (k + 1)).cells.set s (.own q n) = hdrL b C ++ (.own q n :: List.replicate k (.b .nil)) := by
  subst hs
  rw [hdr, List.replicate_succ, List.set_append_right _ _ (by rw [hdrL_len]; omega), hdrL_len, Nat.sub_self]; rfl
theorem hdr_rhB {L : List (List Int)} (hs : s = C.length) (hm : b + C.length < 100000) (hn : n = L.length) (h : E i = some ⟨1, (hdr b C (k + 1)).cells.set s (.own q n), true⟩) : E i = some ((hdr b (C ++ [L]) k).ren (rhB b l C.length q)) := by
  rw [h, hdr_grow hs]
  simp only [hdr, Ent.ren, Option.some.injEq, Ent.mk.injEq, true_and, and_true, List.map_append, nil_ren]
  have e : (hdrL b (C ++ [L])).map (V.ren1 (rhB b l C.length q)) = hdrL b C ++ [.own q n] := by
    simp only [hdrL, List.length_append, List.length_singleton, List.range_succ, List.map_append, List.map_map]
    congr 1
    · exact List.map_congr_left fun j hj => by
        have := List.mem_range.1 hj
        simp only [Function.comp, V.ren1, V.ren0, rhB]
        rw [if_neg (by omega), if_neg (by omega), List.getD_eq_getElem?_getD, List.getD_eq_getElem?_getD, List.getElem?_append_left this]
    · simp only [List.map_cons, List.map_nil, Function.comp, V.ren1, V.ren0, rhB]
      rw [if_neg (by omega), if_pos trivial, hn, List.getD_eq_getElem?_getD, List.getElem?_append_right (Nat.le_refl _), Nat.sub_self]; rfl
  rw [e, List.append_assoc]; rfl
/-- A cell is set to a new row in place of an old one. -/
theorem hdr_rhU {L : List (List Int)} (hs : s < C.length) (hm : b + C.length ≤ 100000) (hn : n = L.length) (h : E i = some ⟨1, (hdr b C 0).cells.set s (.own q n), true⟩) : E i = some ((hdr b (C.set s L) 0).ren (rhB b l s q)) := by
  rw [h]
  simp only [hdr, Ent.ren, Option.some.injEq, Ent.mk.injEq, true_and, and_true, List.replicate_zero, List.append_nil]
  apply List.ext_getElem?
  intro j
  rw [List.getElem?_set, hdrL_len, List.getElem?_map]
  by_cases hj : j < C.length
  · have h2 : (hdrL b (C.set s L))[j]? = some (.own (b + j) ((C.set s L).getD j []).length) := by simp [hdrL, hj]
    have h3 : (hdrL b C)[j]? = some (.own (b + j) (C.getD j []).length) := by simp [hdrL, hj]
    rw [h2, h3]
    by_cases hsj : s = j
    · subst hsj
      rw [if_pos rfl, if_pos hj]
      simp only [Option.map_some, V.ren1, V.ren0, rhB]
      rw [if_neg (by omega), if_pos trivial, hn]
      simp [List.getD_eq_getElem?_getD, hj]
    · rw [if_neg hsj]
      simp only [Option.map_some, V.ren1, V.ren0, rhB]
      rw [if_neg (by omega), if_neg (by omega)]
      simp [List.getD_eq_getElem?_getD, hj, hsj]
  · have z1 : (hdrL b (C.set s L))[j]? = none := List.getElem?_eq_none (by rw [hdrL_len, List.length_set]; omega)
    have z2 : (hdrL b C)[j]? = none := List.getElem?_eq_none (by rw [hdrL_len]; omega)
    rw [z1, z2]
    by_cases hsj : s = j
    · omega
    · rw [if_neg hsj]; rfl
end
/-- A row of the family is put in place of another. -/
theorem WU {n1 b sx : Nat} {s : Slots} {E : Env} {S1 : List (Nat × V)} {L1 : List (Nat × Ent)} {F F1 : List Ent} {e0 : Ent} (l : List (Nat × Nat)) (q : Nat) (hF : ∀ j e, F[j]? = some e → j ≠ sx → E (b + j) = some e) (hs : sx < F.length) (hP : ∀ e ∈ F, Plain e) (he : E q = some e0) (hP0 : Plain e0) (hF1 : F1 = F.set sx e0) (hb : b + F.length ≤ 100000)
    (h2 : AllE (fun i e => E (rhB b l sx q i) = some (e.ren (rhB b l sx q)) ∧ i < n1 ∧ ∀ v ∈ e.cells, v.all1.all (fun i => decide (i < n1)) = true) L1)
    (hc : (ckA b l (L1.map (·.1)) && decide (100000 ≤ q) && !((L1.map (·.1)).map (rl l)).contains q) = true := by rfl) (hn : Nat.ble 100000 n1 = true := by rfl)
    (h1 : AllS (fun t x => s t = some (x.ren (rhB b l sx q)) ∧ x.all.all (fun i => decide (i < n1)) = true) S1 := by repeat' (first | exact trivial | refine ⟨⟨rfl, rfl⟩, ?_⟩)) :
    Weak 0 s E n1 (sl S1) (enF L1 b F1) := by
  subst hF1
  have hn := Nat.le_of_ble_eq_true hn
  simp only [ckA, Bool.and_eq_true, decide_eq_true_eq, Bool.not_eq_true'] at hc
  obtain ⟨⟨⟨⟨⟨c1, c2⟩, c3⟩, c4⟩, c5⟩, c6⟩ := hc
  have far : ∀ i ∈ L1.map (·.1), rhB b l sx q i = rl l i ∧ (rl l i < b ∨ 100000 ≤ rl l i) ∧ rl l i ≠ q := fun i hi => by
    have e1 := okF_get c2 hi
    have hm : rl l i ∈ (L1.map (·.1)).map (rl l) := List.mem_map.2 ⟨i, hi, rfl⟩
    refine ⟨by unfold rhB; rw [if_pos e1], okF_get c3 hm, fun h => ?_⟩
    rw [h] at hm
    have h7 : ((L1.map (·.1)).map (rl l)).contains q = true := List.elem_eq_true_of_mem hm
    rw [h7] at c6; cases c6
  have fam : ∀ j, j < F.length → j ≠ sx → rhB b l sx q (b + j) = b + j := fun j hj hne => by unfold rhB; rw [if_neg (by omega), if_neg (by omega)]
  have last : rhB b l sx q (b + sx) = q := by unfold rhB; rw [if_neg (by omega), if_pos rfl]
  have two : ∀ i, b ≤ i ∧ i < b + (F.set sx e0).length → (i < b + F.length ∧ i ≠ b + sx ∧ rhB b l sx q i = i) ∨ (i = b + sx ∧ rhB b l sx q i = q) := fun i hi => by
    rw [List.length_set] at hi
    by_cases h : i = b + sx
    · exact .inr ⟨h, by rw [h]; exact last⟩
    · obtain ⟨j, rfl⟩ : ∃ j, i = b + j := ⟨i - b, by omega⟩
      exact .inl ⟨by omega, h, fam j (by omega) (by omega)⟩
  refine WeakF (rhB b l sx q) (Nat.zero_le _) (fun i hi => by omega) h1 h2 (fun j e hj => ?_) (by rw [List.length_set]; omega) (fun i j hi hj h => ?_)
  · rw [List.getElem?_set] at hj
    by_cases hjs : sx = j
    · subst hjs
      rw [if_pos rfl, if_pos hs] at hj
      injection hj with hj
      subst hj
      rw [last]
      exact ⟨he, hP0⟩
    · rw [if_neg hjs] at hj
      have hl := (List.getElem?_eq_some_iff.1 hj).1
      rw [fam j hl (fun h => hjs h.symm)]
      exact ⟨hF j e hj (fun h => hjs h.symm), hP e (List.mem_of_getElem? hj)⟩
  · rcases hi with hi | hi <;> rcases hj with hj | hj
    · rw [(far i hi).1, (far j hj).1] at h
      have := List.all_eq_true.1 (List.all_eq_true.1 c4 i hi) j hj
      simpa [h] using this
    · obtain ⟨f1, f2, f3⟩ := far i hi
      rw [f1] at h
      rcases two j hj with ⟨g1, g0, g2⟩ | ⟨g1, g2⟩
      · rw [g2] at h; omega
      · rw [g2] at h; exact absurd h f3
    · obtain ⟨f1, f2, f3⟩ := far j hj
      rw [f1] at h
      rcases two i hi with ⟨g1, g0, g2⟩ | ⟨g1, g2⟩
      · rw [g2] at h; omega
      · rw [g2] at h; exact absurd h.symm f3
    · rcases two i hi with ⟨g1, g0, g2⟩ | ⟨g1, g2⟩ <;> rcases two j hj with ⟨k1, k0, k2⟩ | ⟨k1, k2⟩
      · rw [g2, k2] at h; exact h
      · rw [g2, k2] at h; omega
      · rw [g2, k2] at h; omega
      · omega
theorem upds_cool {E : Env} {x : Nat} : ∀ (nv : List Nat) (E0 : Env), upds E0 (nv.map (cool E)) x = if x ∈ nv then (cool E x).2 else E0 x
  | [], E0 => by simp [upds]
  | y :: nv, E0 => by
    rw [List.map_cons, upds, upds_cool nv]
    by_cases h : x ∈ nv
    · rw [if_pos h, if_pos (List.mem_cons_of_mem _ h)]
    · rw [if_neg h]
      by_cases hy : x = y
      · subst hy; rw [if_pos (List.mem_cons_self)]; exact setAt_self _ _ _
      · rw [if_neg (by simp [h, hy])]; exact setAt_ne _ _ hy
/-- All rows told by their contents. -/
theorem Weak.convA {k n1 b : Nat} (ih : Nat) {s : Slots} {E : Env} {S1 : List (Nat × V)} {L1 : List (Nat × Ent)} {C : Css} (hF : Fam E b (famT C)) (hh : E ih = some (hdr b C 0)) (hb : b + C.length ≤ 100000)
    (h2 : AllE (fun i e => ((i = ih ∧ e = rowT 1 cwB C) ∨ E i = some e) ∧ i < n1 ∧ ∀ v ∈ e.cells, v.all1.all (fun i => decide (i < n1)) = true) L1)
    (h1 : AllS (fun t x => s t = some x ∧ x.all.all (fun i => decide (i < n1)) = true) S1 := by repeat' (first | exact trivial | refine ⟨⟨rfl, rfl⟩, ?_⟩)) (hok : okF b (ih :: L1.map (·.1)) = true := by rfl) (hk : k ≤ n1 := by exact Nat.zero_le _) : Weak k s E n1 (sl S1) (en L1) := by
  have out : ∀ i, i < b ∨ 100000 ≤ i → upds E (((List.range C.length).map (b + ·)).map (cool E)) i = E i := fun i hi => by
    rw [upds_cool, if_neg]
    intro h
    obtain ⟨j, hj, rfl⟩ := List.mem_map.1 h
    have := List.mem_range.1 hj
    omega
  refine .inr ⟨(List.range C.length).map (b + ·), sl S1, en L1, fun i => i, ⟨fun t y ht => ?_, fun i e1 he => ?_⟩, hk, fun _ _ => rfl, fun t x ht => ?_, fun i e he => ?_, fun i j e e' _ _ h => h⟩
  · exact ⟨y, (h1.get _ (lookup_mem ht)).1, .inl rfl⟩
  · have hi := okF_get hok (List.mem_cons_of_mem _ (List.mem_map.2 ⟨_, lookup_mem he, rfl⟩))
    rcases (h2.get _ (lookup_mem he)).1 with ⟨rfl, rfl⟩ | h
    · refine ⟨hdr b C 0, by rw [out i hi]; exact hh, rfl, rfl, ?_, fun j y hj => ?_⟩
      · simp only [rowT, List.length_map, cellsT_len cwB_len, hdr_len]; omega
      · have hjl : j < C.length := by
          have := (List.getElem?_eq_some_iff.1 hj).1
          simp only [rowT, List.length_map, cellsT_len cwB_len] at this; omega
        refine ⟨_, hdr_at hjl, ?_⟩
        have e1 := rowT_cell (f := cwB) (sz := 1) (L := C) (j := j) (k := 0) cwB_len (gd (d := []) hjl) rfl (by decide)
        rw [Nat.mul_one, Nat.add_zero, hj] at e1
        injection e1 with e1
        rw [e1]
        refine cv_ownT rwB_len ?_ rfl
        rw [upds_cool, if_pos (List.mem_map.2 ⟨j, List.mem_range.2 hjl, rfl⟩)]
        have := hF j _ (famT_at hjl)
        simp only [cool, this, Option.map_some]
    · exact ⟨e1, by rw [out i hi]; exact h, rfl, rfl, rfl, fun j y hj => ⟨y, hj, .inl rfl⟩⟩
  · obtain ⟨_, a2⟩ := h1.get _ (lookup_mem ht)
    exact ⟨by rw [V.ren_id]; exact ht, fun i hi => by simpa using List.all_eq_true.1 a2 i hi⟩
  · obtain ⟨_, a2, a3⟩ := h2.get _ (lookup_mem he)
    exact ⟨by rw [Ent.ren_id]; exact he, a2, fun v hv j hj => by simpa using List.all_eq_true.1 (a3 v hv) j hj⟩
section
variable {P : Program} {ops : Array Oper} {o : Oper} {n : Nat} {s : Slots} {E : Env} {T el by' : Nat} {x y p : Operand} {i j d m off : Nat} {v w : V} {ik : IntKind} {e : Ent}
theorem MkN {a : Int} (q : Nat) (hu : P.underlying T = some (.slice el)) (hz : (zeroOf P el).map (List.map nilB) = some [.nil]) (hs : szOf P el = some 1) (hb : (P.info? el).map (·.bytes) = some by')
    (h : (runs ops s o.guard, o.dst, o.op, ev s x, n, Nat.ble by' 1000) = (some true, some d, .makeSlice T x x, some (vI ik a), q, true)) (h0 : 0 ≤ a := by omega) (h1 : a ≤ 100000000000 := by omega) :
    Stp P ops o n s E (q + 1) (setAt s d (some (.own q a.toNat))) (setAt E q (some ⟨1, List.replicate a.toNat (.b .nil), true⟩)) [q] := by
  simp only [Prod.mk.injEq] at h; obtain ⟨b1, b2, b3, b4, rfl, b5⟩ := h
  have b5 := Nat.le_of_ble_eq_true b5
  refine st1 b1 b2 (b3 ▸ ?_)
  have hm : (by' : Int) * a ≤ 1000 * 100000000000 := Int.le_trans (Int.mul_le_mul_of_nonneg_right (show (by' : Int) ≤ 1000 by omega) h0) (by omega)
  have := Eff.makeN (P := P) (id := n) (E := E) T x a el [.nil] by' ik b4 hu hz hs hb (by simp) h0 (by omega) (by omega)
  have e : (some ⟨[B.nil].length, ((List.replicate a.toNat [B.nil]).flatten).map .b, true⟩ : Option Ent) = some ⟨1, List.replicate a.toNat (.b .nil), true⟩ := by
    rw [show (List.replicate a.toNat [B.nil]).flatten = List.replicate a.toNat B.nil by
      rw [List.flatten_replicate_singleton], List.map_replicate]; rfl
  rw [e] at this
  exact this
theorem So {q m : Nat} (hn : szOf P T = some 1) (h : (runs ops s o.guard, o.dst, o.op, ev s p, ev s x) = (some true, none, .store T p x, some (.ptr i off), some (.own q m))) (he : E i = some e) (hh : e.hot = true) (hl : off < e.cells.length) :
    Stp P ops o n s E (n + 1) s (setAt E i (some { e with cells := e.cells.set off (.own q m) })) [i] := by
  simp only [Prod.mk.injEq] at h
  exact stS h.1 h.2.1 (h.2.2.1 ▸ .store1 _ _ _ _ _ _ _ h.2.2.2.1 he hh h.2.2.2.2 rfl hn hl rfl)
theorem AoF {α : Type} {sz : Nat} {f : α → List B} {A : List α} {x1 : α} (q : Nat) (hu : P.underlying T = some (.slice el)) (hs : szOf P el = some sz) (hb : (P.info? el).map (·.bytes) = some by') (hz : (zeroOf P el).map List.length = some sz)
    (h : (n, runs ops s o.guard, o.dst, o.op, ev s x, ev s y, E j) = (q, some true, some d, .call { callee := .builtin .append, args := #[x, y], argTypes := #[T, T] }, some (.own i m), some (.own j 1), some ⟨sz, (f x1).map .b, true⟩)) (he : E i = some (rowT sz f A)) (hij : j ≠ i) (hf : ∀ x, (f x).length = sz) (hA : A.length = m)
    (hm : (m + 1) * by' ≤ 140737488355328 ∧ m + 1 ≤ maxLen) :
    Stp P ops o n s E (q + 1) (setAt s d (some (.own q (m + 1)))) (setAt (setAt E i none) q (some (rowT sz f (A ++ [x1])))) [i, q] := by
  simp only [Prod.mk.injEq] at h
  obtain ⟨rfl, h1, h2, h3, h4, h6, h7⟩ := h
  have := Eff.appendOO (P := P) (id := n) x y T el i m (rowT sz f A) j 1 ⟨sz, (f x1).map .b, true⟩ by' h4 he rfl (by simp only [rowT, List.length_map, cellsT_len hf, hA]) h6 h7 rfl (by simp [rowT, hf]) hij (by decide) hu hs hb hz hm.1 hm.2
  have e : (⟨(rowT sz f A).sz, (rowT sz f A).cells ++ (⟨sz, (f x1).map .b, true⟩ : Ent).cells.take (1 * (rowT sz f A).sz), true⟩ : Ent) = rowT sz f (A ++ [x1]) := by
    simp only [rowT, Nat.one_mul]
    rw [List.take_of_length_le (by simp [hf])]
    simp [cellsT, List.flatMap_append]
  rw [e] at this
  exact st2 h1 h2 (h3 ▸ this)
end
section
variable {b k k0 s q n n1 i : Nat} {C C1 : Css} {E : Env} {l : List (Nat × Nat)}
theorem hdr_rhA' (k0 : Nat) (hk : k0 = k) (hn : b + C.length ≤ 100000) (h : E i = some (hdr b C k0)) : E i = some ((hdr b C k).ren (rhA b l)) := by subst hk; exact hdr_rhA hn h
theorem hdr_rhB' {m : Nat} {L : List (List Int)} (k0 : Nat) (hk : k0 = k + 1) (C : Css) (hC : C1 = C ++ [L]) (hm : C.length = m) (hb : b + m < 100000) (hn : n = L.length) (h : E i = some ⟨1, (hdr b C k0).cells.set m (.own q n), true⟩) : E i = some ((hdr b C1 k).ren (rhB b l m q)) := by
  subst hk hC hm; exact hdr_rhB rfl hb hn h
theorem hdrS_low (h : b + C.length ≤ n1) (hq : q < n1) : ∀ v ∈ (hdr b C k).cells.set s (.own q n), v.all1.all (fun i => decide (i < n1)) = true := fun v hv => by
  rcases List.mem_or_eq_of_mem_set hv with h1 | rfl
  · exact hdr_low h v h1
  · simp [V.all1, V.all0, hq]
end
theorem ap1 {a b c : Nat} {l m : List Nat} (hl : l = [c]) (hm : m = []) (h1 : a ≠ c) (h2 : b ≠ c) : apartIds [a, b] (l ++ m) = true := by
  subst hl hm
  simp [apartIds, h1, h2]
end Go.VL

/- The disk: what a sector holds behind a Boot is what was durable, or a pending write, but for one that is torn. -/
set_option linter.unusedVariables false
set_option linter.unusedSimpArgs false
namespace Go.VL
def wholeB (L : List (List Int)) (b : List Int) : Bool := L.any fun x => eqL x b
/-- How many bytes are equal. -/
def cutN : List Int → List Int → Nat
  | a :: A, b :: B => if a = b then cutN A B + 1 else 0
  | _, _ => 0
def mixK (L : List (List Int)) (b : List Int) (i : Nat) (k : Nat) : Bool := eqL (b.drop (cutN b (L.getD i []))) ((L.getD k []).drop (cutN b (L.getD i [])))
def mixI (L : List (List Int)) (b : List Int) (i : Nat) : Bool := (List.range i).any fun k => mixK L b i k
def mixedB (L : List (List Int)) (b : List Int) : Bool := (List.range L.length).any fun i => mixI L b i
theorem cutN_of : ∀ {A B : List Int} {i : Nat}, i ≤ A.length → A.length = B.length → A.take i = B.take i → (i = A.length ∨ A.getD i 0 ≠ B.getD i 0) → cutN A B = i
  | [], B, i, h, _, _, _ => by
    have : i = 0 := by simpa using h
    subst this
    cases B <;> rfl
  | a :: A, [], i, h, hl, _, _ => by simp at hl
  | a :: A, b :: B, 0, h, hl, ht, hd => by
    rcases hd with hd | hd
    · simp at hd
    · rw [cutN, if_neg (by simpa using hd)]
  | a :: A, b :: B, i + 1, h, hl, ht, hd => by
    simp only [List.take_succ_cons, List.cons.injEq] at ht
    rw [cutN, if_pos ht.1, cutN_of (by simpa using h) (by simpa using hl) ht.2 (by simpa using hd)]
theorem cutN_le : ∀ {A B : List Int}, cutN A B ≤ A.length
  | [], B => by cases B <;> exact Nat.zero_le _
  | a :: A, [] => Nat.zero_le _
  | a :: A, b :: B => by
    rw [cutN]
    split
    · have := cutN_le (A := A) (B := B); simp; omega
    · exact Nat.zero_le _
theorem cutN_ge : ∀ {A B : List Int} {t : Nat}, t ≤ A.length → t ≤ B.length → A.take t = B.take t → t ≤ cutN A B
  | A, B, 0, _, _, _ => Nat.zero_le _
  | [], B, t + 1, h, _, _ => by simp at h
  | a :: A, [], t + 1, _, h, _ => by simp at h
  | a :: A, b :: B, t + 1, h, h2, ht => by
    simp only [List.take_succ_cons, List.cons.injEq] at ht
    rw [cutN, if_pos ht.1]
    have := cutN_ge (t := t) (by simpa using h) (by simpa using h2) ht.2
    omega
theorem mixed_of {L : List (List Int)} {b : List Int} {i k t : Nat} (hk : k < i) (hi : i < L.length) (hL : ∀ x ∈ L, x.length = 64) (ht : t ≤ 64) (hb : b = (L.getD i []).take t ++ (L.getD k []).drop t) : mixedB L b = true := by
  have h1 : (L.getD i []).length = 64 := hL _ (getD_mem' hi)
  have h2 : (L.getD k []).length = 64 := hL _ (getD_mem' (by omega))
  refine List.any_eq_true.2 ⟨i, List.mem_range.2 hi, List.any_eq_true.2 ⟨k, List.mem_range.2 hk, decide_eq_true ?_⟩⟩
  have htl : ((L.getD i []).take t).length = t := by rw [List.length_take]; omega
  have hbl : b.length = 64 := by rw [hb, List.length_append, htl, List.length_drop, h2]; omega
  have hge : t ≤ cutN b (L.getD i []) := cutN_ge (by omega) (by omega) (by rw [hb, List.take_append_of_le_length (by omega), List.take_take, Nat.min_self])
  have e : b.drop t = (L.getD k []).drop t := by rw [hb, List.drop_append_of_le_length (by omega), List.drop_of_length_le (by omega), List.nil_append]
  obtain ⟨q, hq⟩ : ∃ q, cutN b (L.getD i []) = t + q := ⟨cutN b (L.getD i []) - t, by omega⟩
  rw [hq, ← List.drop_drop, ← List.drop_drop, e]
theorem whole_of {L : List (List Int)} {b : List Int} (h : b ∈ L) : wholeB L b = true := List.any_eq_true.2 ⟨b, h, decide_eq_true rfl⟩
/-- What was ever written to a sector. -/
def lst (P : List Pen) (s : Nat) : Nat → List (List Int)
  | 0 => [zRow]
  | j + 1 => if (P.getD j w0).1 = (s : Int) then lst P s j ++ [(P.getD j w0).2] else lst P s j
theorem lst_app {P : List Pen} {w : Pen} {s : Nat} : ∀ j, j ≤ P.length → lst (P ++ [w]) s j = lst P s j
  | 0, _ => rfl
  | j + 1, h => by
    have e : (P ++ [w]).getD j w0 = P.getD j w0 := by
      rw [List.getD_eq_getElem?_getD, List.getD_eq_getElem?_getD, List.getElem?_append_left (by omega)]
    rw [lst, lst, e, lst_app j (by omega)]
theorem lst_snoc {P : List Pen} {w : Pen} {s : Nat} : lst (P ++ [w]) s (P.length + 1) = if w.1 = (s : Int) then lst P s P.length ++ [w.2] else lst P s P.length := by
  have e : (P ++ [w]).getD P.length w0 = w := by simp [List.getD_eq_getElem?_getD]
  rw [lst, e, lst_app _ (Nat.le_refl _)]
theorem lst_len {P : List Pen} {s : Nat} : ∀ j, (lst P s j).length ≤ j + 1
  | 0 => Nat.le_refl _
  | j + 1 => by
    have := lst_len (P := P) (s := s) j
    rw [lst]
    split
    · rw [List.length_append]; simp; omega
    · omega
theorem lst_64 {P : List Pen} {s : Nat} (hP : ∀ w ∈ P, w.2.length = 64) : ∀ j, j ≤ P.length → ∀ x ∈ lst P s j, x.length = 64
  | 0, _, x, hx => by
    simp only [lst, List.mem_singleton] at hx
    subst hx; rfl
  | j + 1, h, x, hx => by
    rw [lst] at hx
    split at hx
    · rcases List.mem_append.1 hx with hx | hx
      · exact lst_64 hP j (by omega) x hx
      · rw [List.mem_singleton.1 hx]; exact hP _ (getD_mem' (by omega))
    · exact lst_64 hP j (by omega) x hx
def MixO (L : List (List Int)) (b : List Int) : Prop := ∃ i k t, k < i ∧ i < L.length ∧ t ≤ 64 ∧ b = (L.getD i []).take t ++ (L.getD k []).drop t
theorem MixO.app {L : List (List Int)} {b y : List Int} (h : MixO L b) : MixO (L ++ [y]) b := by
  obtain ⟨i, k, t, h1, h2, h3, h4⟩ := h
  have e : ∀ j, j < L.length → (L ++ [y]).getD j [] = L.getD j [] := fun j hj => by
    rw [List.getD_eq_getElem?_getD, List.getD_eq_getElem?_getD, List.getElem?_append_left hj]
  exact ⟨i, k, t, h1, by rw [List.length_append]; omega, h3, by rw [e i h2, e k (by omega)]; exact h4⟩
theorem tear_j {z m : Nat} {d : Dk} (hd : d.Ok (z * 64) m) (h0 : ∀ s : Nat, s < z → sec d.dur s = zRow) {K : List Bool} {last torn : Int} : ∀ j, j ≤ d.pen.length → ∀ s : Nat, s < z →
    sec (boL K last torn d.pen d.dur j) s ∈ lst d.pen s j ∨ (last < (j : Int) ∧ (d.pen.getD last.toNat w0).1 = (s : Int) ∧ MixO (lst d.pen s j) (sec (boL K last torn d.pen d.dur j) s))
  | 0, _, s, hs => .inl (by rw [boL, h0 s hs]; exact List.mem_singleton.2 rfl)
  | j + 1, hj, s, hs => by
    have ih := tear_j hd h0 (K := K) (last := last) (torn := torn) j (by omega) s hs
    obtain ⟨j0, j1, j2⟩ := hd.at (i := j) (by omega)
    have hlen := boL_len hd (K := K) (last := last) (torn := torn) j (by omega)
    have hsl : (sec (boL K last torn d.pen d.dur j) (s : Int)).length = 64 := sec_len (by omega) (by rw [hlen]; omega)
    by_cases hw : (d.pen.getD j w0).1 = (s : Int)
    · have el : lst d.pen s (j + 1) = lst d.pen s j ++ [(d.pen.getD j w0).2] := by rw [lst, if_pos hw]
      have keep : ∀ b, (b ∈ lst d.pen s j ∨ (last < (j : Int) ∧ (d.pen.getD last.toNat w0).1 = (s : Int) ∧ MixO (lst d.pen s j) b)) → (b ∈ lst d.pen s (j + 1) ∨ (last < ((j + 1 : Nat) : Int) ∧ (d.pen.getD last.toNat w0).1 = (s : Int) ∧ MixO (lst d.pen s (j + 1)) b)) := fun b h => by
        rw [el]
        rcases h with h | ⟨h1, h2, h3⟩
        · exact .inl (List.mem_append_left _ h)
        · exact .inr ⟨by omega, h2, h3.app⟩
      by_cases hK : K.getD j false = true
      · rw [boL, if_pos hK]
        have e1 : sec (put (boL K last torn d.pen d.dur j) (d.pen.getD j w0).1 (tearB last torn j (d.pen.getD j w0).2)) (s : Int) = cpw (sec (boL K last torn d.pen d.dur j) (s : Int)) 0 64 (tearB last torn j (d.pen.getD j w0).2) := by
          rw [hw]; exact sec_put_same (by omega) (by rw [hlen]; omega)
        rw [e1]
        by_cases ht : (j : Int) = last ∧ torn ≥ 0 ∧ torn < ((d.pen.getD j w0).2.length : Int)
        · rw [tearB, if_pos ht]
          obtain ⟨t1, t2, t3⟩ := ht
          have e2 : cpw (sec (boL K last torn d.pen d.dur j) (s : Int)) 0 64 ((d.pen.getD j w0).2.take torn.toNat) = (d.pen.getD j w0).2.take torn.toNat ++ (sec (boL K last torn d.pen d.dur j) (s : Int)).drop torn.toNat := by
            have l1 : ((d.pen.getD j w0).2.take torn.toNat).length = torn.toNat := by rw [List.length_take]; omega
            have l2 : Nat.min torn.toNat 64 = torn.toNat := Nat.min_eq_left (by omega)
            simp only [cpw, List.take_zero, List.nil_append, l1, l2, Nat.zero_add]
            rw [List.take_of_length_le (by omega)]
          rw [e2, el]
          rcases ih with h | ⟨h1, _, _⟩
          · refine .inr ⟨by omega, ?_, ?_⟩
            · rw [← t1]; simpa using hw
            · obtain ⟨k, hk, hk2⟩ := List.mem_iff_getElem.1 h
              refine ⟨(lst d.pen s j).length, k, torn.toNat, hk, by simp, by omega, ?_⟩
              have g1 : (lst d.pen s j ++ [(d.pen.getD j w0).2]).getD (lst d.pen s j).length [] = (d.pen.getD j w0).2 := by simp [List.getD_eq_getElem?_getD]
              have g2 : (lst d.pen s j ++ [(d.pen.getD j w0).2]).getD k [] = (lst d.pen s j)[k] := by
                rw [List.getD_eq_getElem?_getD, List.getElem?_append_left hk, List.getElem?_eq_getElem hk]; rfl
              rw [g1, g2, hk2]
          · omega
        · rw [tearB, if_neg ht, cpw_all hsl j2, el]
          exact .inl (List.mem_append_right _ (List.mem_singleton.2 rfl))
      · rw [boL, if_neg hK]; exact keep _ ih
    · have el : lst d.pen s (j + 1) = lst d.pen s j := by rw [lst, if_neg hw]
      have e1 : sec (boL K last torn d.pen d.dur (j + 1)) (s : Int) = sec (boL K last torn d.pen d.dur j) (s : Int) := by
        rw [boL]
        split
        · exact sec_put j0 (by rw [hlen]; exact j1) (by omega) hw
        · rfl
      rw [e1, el]
      rcases ih with h | ⟨h1, h2, h3⟩
      · exact .inl h
      · exact .inr ⟨by omega, h2, h3⟩
/-- What the contents are. -/
structure TrI (z : Nat) (d : Dk) (C : Css) : Prop where
  off : d.off = false
  fuse : d.fuse = -1
  dur : d.dur = List.replicate (z * 64) 0
  len : C.length = z
  con : ∀ s, s < z → C.getD s [] = lst d.pen s d.pen.length
theorem sec_zero {z s : Nat} (h : s < z) : sec (List.replicate (z * 64) 0) (s : Int) = zRow := by
  rw [sec, List.drop_replicate, List.take_replicate, zRow]
  congr 1; omega
theorem TrI.new {z : Nat} : TrI z (newD z) (List.replicate z [zRow]) := ⟨rfl, rfl, rfl, by simp, fun s hs => by
  have : (newD z).pen = [] := rfl
  rw [this]
  simp [List.getD_eq_getElem?_getD, hs, lst]⟩
def wrK (d : Dk) (s : Nat) (b : List Int) : Dk := { d with pen := d.pen ++ [((s : Int), b)] }
theorem TrI.write {z s : Nat} {d : Dk} {C : Css} {b : List Int} (h : TrI z d C) (hs : s < z) : TrI z (wrK d s b) (C.set s (C.getD s [] ++ [b])) := by
  refine ⟨h.off, h.fuse, h.dur, by rw [List.length_set]; exact h.len, fun i hi => ?_⟩
  have hl := h.len
  show _ = lst (d.pen ++ [((s : Int), b)]) i (d.pen ++ [((s : Int), b)]).length
  rw [List.length_append, List.length_singleton, lst_snoc]
  by_cases hsi : s = i
  · subst hsi
    rw [if_pos rfl, ← h.con s hs]
    simp [List.getD_eq_getElem?_getD, hl, hs]
  · rw [if_neg (by simp only; omega), ← h.con i hi]
    simp [List.getD_eq_getElem?_getD, hsi]
theorem wr_ok {z m s : Nat} {d : Dk} {b : List Int} (hd : d.Ok (z * 64) m) (hs : s < z) (hb : b.length = 64) : (wrK d s b).Ok (z * 64) (m + 1) := by
  refine { hd with pen := by have := hd.pen; simp only [wrK, List.length_append, List.length_singleton]; omega, ins := fun w hw => ?_ }
  rcases List.mem_append.1 hw with h | h
  · exact hd.ins w h
  · rw [List.mem_singleton.1 h]; exact ⟨by simp only; omega, by simp only; omega, hb⟩
theorem wr_eq {z s : Nat} {d : Dk} {b : List Int} (h0 : d.off = false) (h1 : d.fuse = -1) (hs : s < z) (hb : b.length = 64) : d.writeR (z * 64) (s : Int) b = (wrK d s b, 0) := by
  have hh : hasS (z * 64) (s : Int) = true := hasS_yes (by omega) (by omega)
  have ho : d.out = false := by simp [Dk.out, h1]
  have hbu : d.burn = d := by simp [Dk.burn, h1]
  simp [Dk.writeR, h0, hh, hb, ho, hbu, wrK]
/-- The sector that may be torn. -/
def tornS (d : Dk) (keep : List Int) : Int := (d.pen.getD (kpL keep d.pen.length keep.length).2.toNat w0).1
theorem TrI.law {z m : Nat} {d : Dk} {C : Css} (h : TrI z d C) (hd : d.Ok (z * 64) m) (keep : List Int) (torn : Int) {i : Nat} (hi : i < z) :
    wholeB (C.getD i []) (rdS (d.bootR keep torn) (i : Int)) = true ∨ (mixedB (C.getD i []) (rdS (d.bootR keep torn) (i : Int)) = true ∧ tornS d keep = (i : Int)) := by
  have e : rdS (d.bootR keep torn) (i : Int) = sec (d.bootR keep torn).dur (i : Int) := by
    rw [rdS_sec (sec_len (by omega) (by rw [(hd.boot keep torn).len]; omega))]; rfl
  rw [e, h.con i hi]
  have h0 : ∀ s : Nat, s < z → sec d.dur s = zRow := fun s hs => by rw [h.dur]; exact sec_zero hs
  rcases tear_j hd h0 (K := (kpL keep d.pen.length keep.length).1) (last := (kpL keep d.pen.length keep.length).2) (torn := torn) d.pen.length (Nat.le_refl _) i hi with h1 | ⟨_, h1, i', k, t, h2, h3, h4, h5⟩
  · exact .inl (whole_of h1)
  · exact .inr ⟨mixed_of h2 h3 (lst_64 (fun w hw => (hd.ins w hw).2.2) _ (Nat.le_refl _)) h4 h5, h1⟩
theorem TrI.all {z m : Nat} {d : Dk} {C : Css} (h : TrI z d C) (hd : d.Ok (z * 64) m) {i : Nat} (hi : i < z) : (∀ x ∈ C.getD i [], x.length = 64) ∧ (C.getD i []).length ≤ m + 1 := by
  rw [h.con i hi]
  have := lst_len (P := d.pen) (s := i) d.pen.length
  have := hd.pen
  exact ⟨lst_64 (fun w hw => (hd.ins w hw).2.2) _ (Nat.le_refl _), by omega⟩
theorem whole_step {L : List (List Int)} {b : List Int} {i : Nat} (hi : i < L.length) (h : (L.take i).any (fun x => eqL x b) = false) (h2 : eqL (L.getD i []) b = false) : (L.take (i + 1)).any (fun x => eqL x b) = false := by
  have e : L[i]? = some (L.getD i []) := gd hi
  rw [List.take_add_one, List.any_append, h, Bool.false_or, e]
  show ((eqL (L.getD i []) b) || false) = false
  rw [h2]; rfl
theorem any_last {f : Nat → Bool} {i : Nat} : (List.range (i + 1)).any f = ((List.range i).any f || f i) := by
  rw [List.range_succ, List.any_append]; simp
end Go.VL

/- A small program logic over the translated Go code, further part: facts of this program's types. -/
set_option linter.unusedVariables false
set_option maxRecDepth 100000
namespace Go.VL
open Go.Proofs
theorem TA4 : aggOf Try.prog 4 = some false := by kernel_rfl
theorem TA5 : aggOf Try.prog 5 = some false := by kernel_rfl
theorem TA59 : aggOf Try.prog 59 = some false := by kernel_rfl
theorem TK27 : SlT Try.prog 27 5 (numB .u8 (0)) 1 := ⟨Try.underlying27, by kernel_rfl, by kernel_rfl, by kernel_rfl⟩
theorem TS5 : szOf Try.prog 5 = some 1 := by kernel_rfl
theorem TS59 : szOf Try.prog 59 = some 1 := by kernel_rfl
theorem TU3 : Try.prog.underlying 3 = some (.int .i64) := Try.underlying3
theorem TU4 : Try.prog.underlying 4 = some .bool := Try.underlying4
theorem TU5 : Try.prog.underlying 5 = some (.int .u8) := Try.underlying5
theorem TU9 : Try.prog.underlying 9 = some .string := Try.underlying9
theorem TU27 : Try.prog.underlying 27 = some (.slice 5) := Try.underlying27
theorem TU59 : Try.prog.underlying 59 = some (.int .u32) := Try.underlying59
end Go.VL

/- A small program logic over the translated Go code, further part: facts of this program's types. -/
set_option linter.unusedVariables false
set_option maxRecDepth 100000
namespace Go.VL
open Go.Proofs
theorem TA3 : aggOf Try.prog 3 = some false := by kernel_rfl
theorem TA23 : aggOf Try.prog 23 = some false := by kernel_rfl
theorem TA27 : aggOf Try.prog 27 = some false := by kernel_rfl
theorem TA29 : aggOf Try.prog 29 = some false := by kernel_rfl
theorem TA31 : aggOf Try.prog 31 = some true := by kernel_rfl
theorem TA39 : aggOf Try.prog 39 = some true := by kernel_rfl
theorem TA43 : aggOf Try.prog 43 = some false := by kernel_rfl
theorem TA86 : aggOf Try.prog 86 = some false := by kernel_rfl
theorem TA91 : aggOf Try.prog 91 = some true := by kernel_rfl
theorem TA93 : aggOf Try.prog 93 = some false := by kernel_rfl
theorem TA99 : aggOf Try.prog 99 = some true := by kernel_rfl
theorem TB4 : (Try.prog.info? 4).map (·.bytes) = some 1 := by kernel_rfl
theorem TB27 : (Try.prog.info? 27).map (·.bytes) = some 24 := by kernel_rfl
theorem TB43 : (Try.prog.info? 43).map (·.bytes) = some 24 := by kernel_rfl
theorem TB91 : (Try.prog.info? 91).map (·.bytes) = some 32 := by kernel_rfl
theorem TB99 : (Try.prog.info? 99).map (·.bytes) = some 32 := by kernel_rfl
theorem TF31_0 : fieldOf Try.prog 31 0 = some (0, 1, false) := by kernel_rfl
theorem TF31_1 : fieldOf Try.prog 31 1 = some (1, 1, false) := by kernel_rfl
theorem TF31_2 : fieldOf Try.prog 31 2 = some (2, 1, false) := by kernel_rfl
theorem TF31_3 : fieldOf Try.prog 31 3 = some (3, 1, false) := by kernel_rfl
theorem TF31_4 : fieldOf Try.prog 31 4 = some (4, 1, false) := by kernel_rfl
theorem TF31_5 : fieldOf Try.prog 31 5 = some (5, 1, false) := by kernel_rfl
theorem TF39_0 : fieldOf Try.prog 39 0 = some (0, 1, false) := by kernel_rfl
theorem TF39_1 : fieldOf Try.prog 39 1 = some (1, 1, false) := by kernel_rfl
theorem TF88_0 : fieldOf Try.prog 88 0 = some (0, 1, false) := by kernel_rfl
theorem TF88_1 : fieldOf Try.prog 88 1 = some (1, 1, false) := by kernel_rfl
theorem TF88_2 : fieldOf Try.prog 88 2 = some (2, 1, false) := by kernel_rfl
theorem TF88_3 : fieldOf Try.prog 88 3 = some (3, 1, false) := by kernel_rfl
theorem TF91_0 : fieldOf Try.prog 91 0 = some (0, 1, false) := by kernel_rfl
theorem TF91_1 : fieldOf Try.prog 91 1 = some (1, 1, false) := by kernel_rfl
theorem TF95_0 : fieldOf Try.prog 95 0 = some (0, 1, false) := by kernel_rfl
theorem TF95_1 : fieldOf Try.prog 95 1 = some (1, 1, false) := by kernel_rfl
theorem TF95_2 : fieldOf Try.prog 95 2 = some (2, 1, false) := by kernel_rfl
theorem TF95_3 : fieldOf Try.prog 95 3 = some (3, 1, false) := by kernel_rfl
theorem TF99_0 : fieldOf Try.prog 99 0 = some (0, 1, false) := by kernel_rfl
theorem TF99_1 : fieldOf Try.prog 99 1 = some (1, 1, false) := by kernel_rfl
theorem TK29 : SlT Try.prog 29 3 (numB .i64 (0)) 8 := ⟨Try.underlying29, by kernel_rfl, by kernel_rfl, by kernel_rfl⟩
theorem TK43 : SlT Try.prog 43 27 (u32S ([])) 24 := ⟨Try.underlying43, by kernel_rfl, by kernel_rfl, by kernel_rfl⟩
theorem TK47 : SlT Try.prog 47 43 (u32S ([])) 24 := ⟨Try.underlying47, by kernel_rfl, by kernel_rfl, by kernel_rfl⟩
theorem TN27 : (zeroOf Try.prog 27).map List.length = some 1 := by kernel_rfl
theorem TN91 : (zeroOf Try.prog 91).map List.length = some 2 := by kernel_rfl
theorem TN99 : (zeroOf Try.prog 99).map List.length = some 2 := by kernel_rfl
theorem TQ31 : StT Try.prog 31 [numB .i64 (0), numB .i64 (0), numB .u8 (0), numB .i64 (0), numB .i64 (0), u32S ([])] [(0, 1), (1, 1), (2, 1), (3, 1), (4, 1), (5, 1)] := ⟨by kernel_rfl, ⟨_, Try.underlying31, by kernel_rfl⟩, fun k q h => match k, h with | 0, h => by injection h with h; subst h; kernel_rfl | 1, h => by injection h with h; subst h; kernel_rfl | 2, h => by injection h with h; subst h; kernel_rfl | 3, h => by injection h with h; subst h; kernel_rfl | 4, h => by injection h with h; subst h; kernel_rfl | 5, h => by injection h with h; subst h; kernel_rfl | k + 6, h => by simp at h⟩
theorem TQ39 : StT Try.prog 39 [u32S ([]), numB .i64 (0)] [(0, 1), (1, 1)] := ⟨by kernel_rfl, ⟨_, Try.underlying39, by kernel_rfl⟩, fun k q h => match k, h with | 0, h => by injection h with h; subst h; kernel_rfl | 1, h => by injection h with h; subst h; kernel_rfl | k + 2, h => by simp at h⟩
theorem TQ88 : StT Try.prog 88 [u32S ([]), u32S ([]), numB .i64 (0), boolB (false)] [(0, 1), (1, 1), (2, 1), (3, 1)] := ⟨by kernel_rfl, ⟨_, Try.underlying88, by kernel_rfl⟩, fun k q h => match k, h with | 0, h => by injection h with h; subst h; kernel_rfl | 1, h => by injection h with h; subst h; kernel_rfl | 2, h => by injection h with h; subst h; kernel_rfl | 3, h => by injection h with h; subst h; kernel_rfl | k + 4, h => by simp at h⟩
theorem TQ91 : StT Try.prog 91 [numB .i64 (0), u32S ([])] [(0, 1), (1, 1)] := ⟨by kernel_rfl, ⟨_, Try.underlying91, by kernel_rfl⟩, fun k q h => match k, h with | 0, h => by injection h with h; subst h; kernel_rfl | 1, h => by injection h with h; subst h; kernel_rfl | k + 2, h => by simp at h⟩
theorem TQ95 : StT Try.prog 95 [u32S ([]), u32S ([]), boolB (false), numB .i64 (0)] [(0, 1), (1, 1), (2, 1), (3, 1)] := ⟨by kernel_rfl, ⟨_, Try.underlying95, by kernel_rfl⟩, fun k q h => match k, h with | 0, h => by injection h with h; subst h; kernel_rfl | 1, h => by injection h with h; subst h; kernel_rfl | 2, h => by injection h with h; subst h; kernel_rfl | 3, h => by injection h with h; subst h; kernel_rfl | k + 4, h => by simp at h⟩
theorem TQ99 : StT Try.prog 99 [numB .i64 (0), u32S ([])] [(0, 1), (1, 1)] := ⟨by kernel_rfl, ⟨_, Try.underlying99, by kernel_rfl⟩, fun k q h => match k, h with | 0, h => by injection h with h; subst h; kernel_rfl | 1, h => by injection h with h; subst h; kernel_rfl | k + 2, h => by simp at h⟩
theorem TS3 : szOf Try.prog 3 = some 1 := by kernel_rfl
theorem TS4 : szOf Try.prog 4 = some 1 := by kernel_rfl
theorem TS23 : szOf Try.prog 23 = some 1 := by kernel_rfl
theorem TS27 : szOf Try.prog 27 = some 1 := by kernel_rfl
theorem TS31 : szOf Try.prog 31 = some 6 := by kernel_rfl
theorem TS39 : szOf Try.prog 39 = some 2 := by kernel_rfl
theorem TS43 : szOf Try.prog 43 = some 1 := by kernel_rfl
theorem TS86 : szOf Try.prog 86 = some 1 := by kernel_rfl
theorem TS91 : szOf Try.prog 91 = some 2 := by kernel_rfl
theorem TS93 : szOf Try.prog 93 = some 1 := by kernel_rfl
theorem TS99 : szOf Try.prog 99 = some 2 := by kernel_rfl
theorem TU22 : Try.prog.underlying 22 = some (Go.TypeDesc.pointer 88) := Try.underlying22
theorem TU37 : Try.prog.underlying 37 = some (.slice 31) := Try.underlying37
theorem TU43 : Try.prog.underlying 43 = some (.slice 27) := Try.underlying43
theorem TU45 : Try.prog.underlying 45 = some (.slice 4) := Try.underlying45
theorem TU47 : Try.prog.underlying 47 = some (.slice 43) := Try.underlying47
theorem TU50 : Try.prog.underlying 50 = some (Go.TypeDesc.pointer 95) := Try.underlying50
theorem TU86 : Try.prog.underlying 86 = some (.slice 91) := Try.underlying86
theorem TU93 : Try.prog.underlying 93 = some (.slice 99) := Try.underlying93
theorem TZ4 : zeroOf Try.prog 4 = some [boolB (false)] := by kernel_rfl
theorem TZ27 : zeroOf Try.prog 27 = some [u32S ([])] := by kernel_rfl
theorem TZ31 : zeroOf Try.prog 31 = some [numB .i64 (0), numB .i64 (0), numB .u8 (0), numB .i64 (0), numB .i64 (0), u32S ([])] := by kernel_rfl
theorem TZ39 : zeroOf Try.prog 39 = some [u32S ([]), numB .i64 (0)] := by kernel_rfl
theorem TZ91 : zeroOf Try.prog 91 = some [numB .i64 (0), u32S ([])] := by kernel_rfl
theorem TZ99 : zeroOf Try.prog 99 = some [numB .i64 (0), u32S ([])] := by kernel_rfl
end Go.VL

/- Walks over the Go functions, printed by a program of this session over the kit's print, and by hand. -/
set_option linter.unusedVariables false
set_option linter.unusedSimpArgs false
set_option maxRecDepth 100000
namespace Go.VL
open Go.Proofs
theorem k33 {n m : Nat} {d : Dk} (hd : d.Ok n m) (hm : m ≤ 100000) : VG Try.prog 33 [.ptr 0 (0)] [⟨4, [.own 1 (n), .b (slT 2 penB (d.pen)), vI .i64 (d.fuse), vB (d.off)], true⟩, rowK .u8 (d.dur)] (vI .i64 ((n : Int) / 64)) [some (⟨4, [.own 1 (n), .b (slT 2 penB (d.pen)), vI .i64 (d.fuse), vB (d.off)], true⟩), some (rowK .u8 (d.dur))] := by
  have hlen := hd.len
  have hlo := hd.lo
  have hhi := hd.hi
  have hwh := hd.whole
  have hpl := hd.pen
  obtain ⟨hf1, hf2⟩ := hd.fu
  exact VGp_of P_mixed Try.func33 rfl rfl (by kernel_rfl) (by simp) rfl <| Sq <| Rg <| Vs (As rfl) <| Nx <| Sq <| Sq <| Rg <| Vs (Mv rfl) <| Vs (Pe TU22 rfl) <| Nx <| Cz rfl <| Ks <| Tg <| Sq <| Rg <| Vs (Mv rfl) <| Vs (Nk rfl) <| Vs (Fa TF88_0 rfl) <| Vs (Ld TA27 rfl) <| Vs (Lo TU27 rfl) <| Vs (Bo rfl quI) <| Vs (As rfl) <| Nx <| Re <| Gg (L1' := [some (⟨4, [.own 1 (n), .b (slT 2 penB (d.pen)), vI .i64 (d.fuse), vB (d.off)], true⟩), some (rowK .u8 (d.dur))]) [0, 1] (.val _ _ _ _ _ rfl rfl rfl .nil) (.one _) rfl rfl
theorem k31 {n m : Nat} {d : Dk} (hd : d.Ok n m) (hm : m ≤ 100000) : VG Try.prog 31 [.ptr 0 (0)] [⟨4, [.own 1 (n), .b (slT 2 penB (d.pen)), vI .i64 (d.fuse), vB (d.off)], true⟩, rowK .u8 (d.dur)] (vB (!d.off)) [some (⟨4, [.own 1 (n), .b (slT 2 penB (d.pen)), vI .i64 (d.fuse), vB (d.off)], true⟩), some (rowK .u8 (d.dur))] := by
  have hlen := hd.len
  have hlo := hd.lo
  have hhi := hd.hi
  have hwh := hd.whole
  have hpl := hd.pen
  obtain ⟨hf1, hf2⟩ := hd.fu
  exact VGp_of P_mixed Try.func31 rfl rfl (by kernel_rfl) (by simp) rfl <| Sq <| Rg <| Vs (As rfl) <| Nx <| Sq <| Rg <| Vs (Mv rfl) <| Vs (Pf TU22 rfl) <| Vs (Mv rfl) <| Vs (Mv rfl) <| Vs (Nk rfl) <| Vs (Fa TF88_3 rfl) <| Vs (Ld TA4 rfl) <| Vs (Un rfl) <| Vs (Pk rfl) <| Vs (As rfl) <| Nx <| Re <| Gg (L1' := [some (⟨4, [.own 1 (n), .b (slT 2 penB (d.pen)), vI .i64 (d.fuse), vB (d.off)], true⟩), some (rowK .u8 (d.dur))]) [0, 1] (.val _ _ _ _ _ rfl rfl rfl .nil) (.one _) rfl rfl
theorem k55 {n m : Nat} {d : Dk} (hd : d.Ok n m) (hm : m ≤ 100000) (s : Int) : VG Try.prog 55 [.ptr 0 (0), vI .i64 (s)] [⟨4, [.own 1 (n), .b (slT 2 penB (d.pen)), vI .i64 (d.fuse), vB (d.off)], true⟩, rowK .u8 (d.dur)] (vB (hasS n s)) [some (⟨4, [.own 1 (n), .b (slT 2 penB (d.pen)), vI .i64 (d.fuse), vB (d.off)], true⟩), some (rowK .u8 (d.dur))] := by
  have hlen := hd.len
  have hlo := hd.lo
  have hhi := hd.hi
  have hwh := hd.whole
  have hpl := hd.pen
  obtain ⟨hf1, hf2⟩ := hd.fu
  refine VGp_of P_mixed Try.func55 rfl rfl (by kernel_rfl) (by simp) rfl <| Sq <| Rg <| Vs (As rfl) <| Nx <| Sq <| Rg <| Vs (Mv rfl) <| Vs (Bi rfl) <| Vs (Mv rfl) <| Sp 7 rfl (fun hc1 => ?_) (fun hc1 => ?_)
  · replace hc1 := of_decide_eq_true hc1
    exact Vs (Mv rfl) <| Vs (Mv rfl) <| Gm 8 [0, 1] [] (v := vI .i64 (((n : Int) / 64))) [(0, ⟨4, [.own 1 (n), .b (slT 2 penB (d.pen)), vI .i64 (d.fuse), vB (d.off)], true⟩), (1, rowK .u8 (d.dur))] rfl (k33 hd hm) rfl <| Vs (Bi rfl) <| Vs (Pk rfl) <| Vs (As rfl) <| Nx <| Re <| Gg (L1' := [some (⟨4, [.own 1 (n), .b (slT 2 penB (d.pen)), vI .i64 (d.fuse), vB (d.off)], true⟩), some (rowK .u8 (d.dur))]) [0, 1] (.val _ _ _ _ _ rfl rfl rfl .nil) (.one _) (by simp only [hasS, decide_eq_true hc1, Bool.true_and]) rfl
  · replace hc1 := of_decide_eq_false hc1
    exact Sk rfl <| Sk rfl <| Sk rfl <| Sk rfl <| Vs (Pk rfl) <| Vs (As rfl) <| Nx <| Re <| Gg (L1' := [some (⟨4, [.own 1 (n), .b (slT 2 penB (d.pen)), vI .i64 (d.fuse), vB (d.off)], true⟩), some (rowK .u8 (d.dur))]) [0, 1] (.val _ _ _ _ _ rfl rfl rfl .nil) (.one _) (by simp only [hasS, decide_eq_false hc1, Bool.false_and]) rfl
theorem k56 {n m : Nat} {d : Dk} (hd : d.Ok n m) (hm : m ≤ 100000) : VG Try.prog 56 [.ptr 0 (0)] [⟨4, [.own 1 (n), .b (slT 2 penB (d.pen)), vI .i64 (d.fuse), vB (d.off)], true⟩, rowK .u8 (d.dur)] (vB d.out) [some (⟨4, [.own 1 (n), .b (slT 2 penB ((d.burn).pen)), vI .i64 ((d.burn).fuse), vB ((d.burn).off)], true⟩), some (rowK .u8 ((d.burn).dur))] := by
  have hlen := hd.len
  have hlo := hd.lo
  have hhi := hd.hi
  have hwh := hd.whole
  have hpl := hd.pen
  obtain ⟨hf1, hf2⟩ := hd.fu
  refine VGp_of P_mixed Try.func56 rfl rfl (by kernel_rfl) (by simp) rfl <| Sq <| Rg <| Vs (As rfl) <| Nx <| Sq <| Bk <| Sq <| Rg <| Vs (Mv rfl) <| Vs (Nk rfl) <| Vs (Fa TF88_2 rfl) <| Vs (Ld TA3 rfl) <| Vs (Bi rfl) <| Vs (As rfl) <| Nx <| Cd rfl (fun hc1 => ?_) (fun hc1 => ?_)
  · replace hc1 := eq_of_beq hc1
    exact Sq <| Rg <| Vs (Mv rfl) <| Vs (Nk rfl) <| Vs (Fa TF88_2 rfl) <| Vs (St TS3 rfl) <| Nx <| Sq <| Rg <| Vs (Mv rfl) <| Vs (Nk rfl) <| Vs (Fa TF88_3 rfl) <| Vs (St TS4 rfl) <| Nx <| Sq <| Rg <| Vs (As rfl) <| Nx <| Re <| Iq <| Tr <| Gg (L1' := [some (⟨4, [.own 1 (n), .b (slT 2 penB (d.pen)), vI .i64 ((-1)), vB (true)], true⟩), some (rowK .u8 (d.dur))]) [0, 1] (.val _ _ _ _ _ rfl rfl rfl .nil) (.one _) (by simp [Dk.out, hc1]) (by simp [Dk.burn, hc1])
  · replace hc1 := ne_of_beq_false hc1
    refine Sq <| Rg <| Vs (Mv rfl) <| Vs (Nk rfl) <| Vs (Fa TF88_2 rfl) <| Vs (Ld TA3 rfl) <| Vs (Bi rfl) <| Vs (As rfl) <| Nx <| Cd rfl (fun hc2 => ?_) (fun hc2 => ?_)
    · replace hc2 := of_decide_eq_true hc2
      exact Rg <| Vs (Mv rfl) <| Vs (Nk rfl) <| Vs (Fa TF88_2 rfl) <| Vs (Ld TA3 rfl) <| Vs (Bo rfl suI) <| Vs (Nk rfl) <| Vs (Fa TF88_2 rfl) <| Vs (St TS3 rfl) <| VList.nil <| Ig <| Tg <| Sq <| Rg <| Vs (As rfl) <| Nx <| Re <| Gg (L1' := [some (⟨4, [.own 1 (n), .b (slT 2 penB (d.pen)), vI .i64 ((d.fuse - 1)), vB (d.off)], true⟩), some (rowK .u8 (d.dur))]) [0, 1] (.val _ _ _ _ _ rfl rfl rfl .nil) (.one _) (by simp [Dk.out, hc1]) (by simp [Dk.burn, hc1, hc2])
    · replace hc2 := of_decide_eq_false hc2
      exact Ks <| Ig <| Tg <| Sq <| Rg <| Vs (As rfl) <| Nx <| Re <| Gg (L1' := [some (⟨4, [.own 1 (n), .b (slT 2 penB (d.pen)), vI .i64 (d.fuse), vB (d.off)], true⟩), some (rowK .u8 (d.dur))]) [0, 1] (.val _ _ _ _ _ rfl rfl rfl .nil) (.one _) (by simp [Dk.out, hc1]) (by simp [Dk.burn, hc1, hc2])
theorem k57 {n m : Nat} {d : Dk} (hd : d.Ok n m) (hm : m ≤ 100000) {s : Int} (h0 : 0 ≤ s) (h1 : s * 64 + 64 ≤ n) : VG Try.prog 57 [.ptr 0 (0), vI .i64 (s)] [⟨4, [.own 1 (n), .b (slT 2 penB (d.pen)), vI .i64 (d.fuse), vB (d.off)], true⟩, rowK .u8 (d.dur)] (.win 1 (s * 64).toNat 64) [some (⟨4, [.own 1 (n), .b (slT 2 penB (d.pen)), vI .i64 (d.fuse), vB (d.off)], true⟩), some (rowK .u8 (d.dur))] := by
  have hlen := hd.len
  have hlo := hd.lo
  have hhi := hd.hi
  have hwh := hd.whole
  have hpl := hd.pen
  obtain ⟨hf1, hf2⟩ := hd.fu
  exact VGp_of P_mixed Try.func57 rfl rfl (by kernel_rfl) (by simp) rfl <| Sq <| Rg <| Vs (As rfl) <| Nx <| Sq <| Rg <| Vs (Mv rfl) <| Vs (Bo rfl muI) <| Vs (As rfl) <| Nx <| Sq <| Rg <| Vs (Mv rfl) <| Vs (Nk rfl) <| Vs (Fa TF88_0 rfl) <| Vs (Ld TA27 rfl) <| Vs (Mv rfl) <| Vs (Mv rfl) <| Vs (Bo rfl adI) <| Vs (Mv rfl) <| Vs (Bo rfl adI) <| Vs (Sz 64 TU27 TS5 rfl) <| Vs (As rfl) <| Nx <| Re <| Gg (L1' := [some (⟨4, [.own 1 (n), .b (slT 2 penB (d.pen)), vI .i64 (d.fuse), vB (d.off)], true⟩), some (rowK .u8 (d.dur))]) [0, 1] (.name _ _ (.win 1 (((s * 64)).toNat) (64)) _ _ rfl rfl rfl .nil) (.one _) rfl rfl
theorem k37 {n m : Nat} {d : Dk} (hd : d.Ok n m) (hm : m ≤ 100000) (x : Int) : VG Try.prog 37 [.ptr 0 (0), vI .i64 (x)] [⟨4, [.own 1 (n), .b (slT 2 penB (d.pen)), vI .i64 (d.fuse), vB (d.off)], true⟩, rowK .u8 (d.dur)] (.b (.tup [])) [some (⟨4, [.own 1 (n), .b (slT 2 penB ((d.fuseR x).pen)), vI .i64 ((d.fuseR x).fuse), vB ((d.fuseR x).off)], true⟩), some (rowK .u8 ((d.fuseR x).dur))] := by
  have hlen := hd.len
  have hlo := hd.lo
  have hhi := hd.hi
  have hwh := hd.whole
  have hpl := hd.pen
  obtain ⟨hf1, hf2⟩ := hd.fu
  exact VGp_of P_mixed Try.func37 rfl rfl (by kernel_rfl) (by simp) rfl <| Sq <| Rg <| Vs (Mv rfl) <| Vs (Pf TU22 rfl) <| Nx <| Cy rfl <| Rg <| Vs (Mv rfl) <| Vs (Mv rfl) <| Vs (Mx rfl) <| Vs (Nk rfl) <| Vs (Fa TF88_2 rfl) <| Vs (St TS3 rfl) <| VList.nil <| Gg (L1' := [some (⟨4, [.own 1 (n), .b (slT 2 penB (d.pen)), vI .i64 ((if (-1) > x then (-1) else x)), vB (d.off)], true⟩), some (rowK .u8 (d.dur))]) [0, 1] .nil (.vals _ [] rfl rfl) rfl rfl
theorem k17 (z : Int) (h0 : 1 ≤ z) (h1 : z ≤ 1024) : VG Try.prog 17 [vI .i64 (z)] [] (.tup [.ptr 0 0, vI .i64 0]) [some ⟨4, [.own 1 (z * 64).toNat, .b (slT 2 penB []), vI .i64 (-1), vB false], true⟩, some (rowK .u8 (List.replicate (z * 64).toNat 0))] := by
  exact VGp_of P_mixed Try.func17 rfl rfl (by kernel_rfl) (by simp) rfl <| Sq <| Rg <| Vs (As rfl) <| Vs (As rfl) <| Nx <| Sq <| Sq <| Rg <| Vs (Mv rfl) <| Vs (Kb (show decide (z < 1) = false from (decide_eq_false (by omega))) (Bi rfl)) <| Vs (Mv rfl) <| Vs (Mv rfl) <| Vs (Kb (show decide (z > 1024) = false from (decide_eq_false (by omega))) (Bi rfl)) <| Vs (Pk rfl) <| Nx <| Cz rfl <| Ks <| Tg <| Sq <| Rg <| Vs (Mv rfl) <| Vs (Bo rfl muI) <| Vs (Mk 10 TK27 rfl) <| Vs (Bd TQ88 rfl) <| Vs (Bx 12 rfl) <| Vs (As rfl) <| Vs (As rfl) <| VList.nil <| Cx (n1 := 13) (S1 := [(2, .ptr 12 (0)), (3, vI .i64 (0))]) (L1 := [(10, rowK .u8 (List.replicate ((z * 64)).toNat 0)), (12, ⟨4, [.own 10 (((z * 64)).toNat), .b (slT 2 penB ([])), vI .i64 ((-1)), vB (false)], true⟩)]) (Weak.conv (nv := []) ⟨⟨⟨_, rfl, .inl rfl⟩, rfl⟩, ⟨⟨_, rfl, .inl rfl⟩, rfl⟩, trivial⟩ ⟨⟨⟨_, rfl, rfl, rfl, Two.same (fun _ => .inl rfl) _⟩, Nat.le_of_ble_eq_true rfl, row_cellsK⟩, ⟨⟨_, rfl, rfl, rfl, ⟨.inl rfl, (cv_nil rfl), .inl rfl, .inl rfl, trivial⟩⟩, Nat.le_of_ble_eq_true rfl, cells_of rfl⟩, trivial⟩ (Nat.le_of_ble_eq_true rfl)) <| Re <| Gg (L1' := [some (⟨4, [.own 1 (((z * 64)).toNat), .b (slT 2 penB ([])), vI .i64 ((-1)), vB (false)], true⟩), some (rowK .u8 (List.replicate ((z * 64)).toNat 0))]) [12, 10] (.name _ _ (.ptr 0 (0)) _ _ rfl rfl rfl (.val _ _ _ _ _ rfl rfl rfl .nil)) (.tup _ rfl rfl) rfl rfl
theorem k17i (z : Int) (h : z < 1 ∨ 1024 < z) : VF Try.prog 17 [numB .i64 (z)] (.tup [.lit (.pointer none), numB .i64 1]) := by
  refine VF_of P_mixed Try.func17 rfl rfl (by kernel_rfl) <| Sq <| Rg <| Vs (As rfl) <| Vs (As rfl) <| Nx <| Sq <| Sq <| Rg <| Vs (Mv rfl) <| Vs (Bi rfl) <| Vs (Mv rfl) <| Sp 6 rfl (fun hc1 => ?_) (fun hc1 => ?_)
  · replace hc1 := of_decide_eq_true hc1
    exact Sk rfl <| Sk rfl <| Vs (Pk rfl) <| Nx <| Cy rfl <| Sq <| Rg <| Vs (As rfl) <| Vs (As rfl) <| Nx <| Re <| Tr <| Fi (l := [.lit (.pointer none), numB .i64 (1)]) (Rc (resVar_tmp rfl rfl) (Rc (resVar_tmp rfl rfl) Rn)) rfl
  · replace hc1 := of_decide_eq_false hc1
    refine Vs (Mv rfl) <| Vs (Bi rfl) <| Vs (Pk rfl) <| Nx <| Cd rfl (fun hc2 => ?_) (fun hc2 => ?_)
    · replace hc2 := of_decide_eq_true hc2
      exact Sq <| Rg <| Vs (As rfl) <| Vs (As rfl) <| Nx <| Re <| Tr <| Fi (l := [.lit (.pointer none), numB .i64 (1)]) (Rc (resVar_tmp rfl rfl) (Rc (resVar_tmp rfl rfl) Rn)) rfl
    · replace hc2 := of_decide_eq_false hc2
      exfalso; omega
end Go.VL

/- Walks over the Go functions, printed by a program of this session over the kit's print, and by hand. -/
set_option linter.unusedVariables false
set_option linter.unusedSimpArgs false
set_option maxRecDepth 100000
namespace Go.VL
open Go.Proofs
theorem k21 {n m : Nat} {d : Dk} (hd : d.Ok n m) (hm : m ≤ 100000) (s : Int) : VG Try.prog 21 [.ptr 0 (0), vI .i64 (s)] [⟨4, [.own 1 (n), .b (slT 2 penB (d.pen)), vI .i64 (d.fuse), vB (d.off)], true⟩, rowK .u8 (d.dur)] (.b (.tup [slK .u8 (d.readR n s).2.1, numB .i64 (d.readR n s).2.2])) [some (⟨4, [.own 1 (n), .b (slT 2 penB (((d.readR n s).1).pen)), vI .i64 (((d.readR n s).1).fuse), vB (((d.readR n s).1).off)], true⟩), some (rowK .u8 (((d.readR n s).1).dur))] := by
  have hlen := hd.len
  have hlo := hd.lo
  have hhi := hd.hi
  have hwh := hd.whole
  have hpl := hd.pen
  obtain ⟨hf1, hf2⟩ := hd.fu
  have hbl := hd.burn.len
  have hbp := hd.burn.pen
  refine VGp_of P_mixed Try.func21 rfl rfl (by kernel_rfl) (by simp) rfl <| Sq <| Rg <| Vs (As rfl) <| Vs (As rfl) <| Nx <| Sq <| Bk <| Sq <| Rg <| Vs (Mv rfl) <| Vs (Pe TU22 rfl) <| Vs (As rfl) <| Nx <| Cz rfl <| Sq <| Rg <| Vs (Mv rfl) <| Vs (Nk rfl) <| Vs (Fa TF88_3 rfl) <| Vs (Ld TA4 rfl) <| Vs (As rfl) <| Nx <| Cd rfl (fun hc1 => ?_) (fun hc1 => ?_)
  · replace hc1 := hc1
    have e : d.readR n s = (d, [], 290) := by simp [Dk.readR, hc1]
    exact Sq <| Rg <| Vs (As rfl) <| Vs (As rfl) <| Nx <| Re <| Iq <| Tr <| Gg (L1' := [some (⟨4, [.own 1 (n), .b (slT 2 penB (d.pen)), vI .i64 (d.fuse), vB (d.off)], true⟩), some (rowK .u8 (d.dur))]) [0, 1] (.val _ _ _ _ _ rfl rfl rfl (.val _ _ _ _ _ rfl rfl rfl .nil)) (.vals _ [u32S ([]), numB .i64 (290)] rfl rfl) (by rw [e]; rfl) (by rw [e])
  · replace hc1 := hc1
    refine Sq <| Rg <| Vs (Mv rfl) <| Vs (Mv rfl) <| Gm 14 [0, 1] [] (v := vB ((hasS n s))) [(0, ⟨4, [.own 1 (n), .b (slT 2 penB (d.pen)), vI .i64 (d.fuse), vB (d.off)], true⟩), (1, rowK .u8 (d.dur))] rfl (k55 hd hm s) rfl <| Vs (Un rfl) <| Vs (As rfl) <| Nx <| Cd rfl (fun hc2 => ?_) (fun hc2 => ?_)
    · replace hc2 := (bnot_t hc2)
      have e : d.readR n s = (d, [], 1) := by simp [Dk.readR, hc1, hc2]
      exact Sq <| Rg <| Vs (As rfl) <| Vs (As rfl) <| Nx <| Re <| Iq <| Tr <| Gg (L1' := [some (⟨4, [.own 1 (n), .b (slT 2 penB (d.pen)), vI .i64 (d.fuse), vB (d.off)], true⟩), some (rowK .u8 (d.dur))]) [0, 1] (.val _ _ _ _ _ rfl rfl rfl (.val _ _ _ _ _ rfl rfl rfl .nil)) (.vals _ [u32S ([]), numB .i64 (1)] rfl rfl) (by rw [e]; rfl) (by rw [e])
    · replace hc2 := (bnot_f hc2)
      obtain ⟨j0, j1⟩ := hasS_in hc2 hwh
      refine Sq <| Rg <| Vs (Mv rfl) <| Gm 18 [0, 1] [] (v := vB (d.out)) [(0, ⟨4, [.own 1 (n), .b (slT 2 penB ((d.burn).pen)), vI .i64 ((d.burn).fuse), vB ((d.burn).off)], true⟩), (1, rowK .u8 ((d.burn).dur))] rfl (k56 hd hm) rfl <| Vs (As rfl) <| Nx <| Cd rfl (fun hc3 => ?_) (fun hc3 => ?_)
      · replace hc3 := hc3
        have e : d.readR n s = (d.burn, [], 290) := by simp [Dk.readR, hc1, hc2, hc3]
        exact Sq <| Rg <| Vs (As rfl) <| Vs (As rfl) <| Nx <| Re <| Iq <| Tr <| Gg (L1' := [some (⟨4, [.own 1 (n), .b (slT 2 penB ((d.burn).pen)), vI .i64 ((d.burn).fuse), vB ((d.burn).off)], true⟩), some (rowK .u8 ((d.burn).dur))]) [0, 1] (.val _ _ _ _ _ rfl rfl rfl (.val _ _ _ _ _ rfl rfl rfl .nil)) (.vals _ [u32S ([]), numB .i64 (290)] rfl rfl) (by rw [e]; rfl) (by rw [e])
      · replace hc3 := hc3
        refine Ks <| Ig <| Tg <| Sq <| Rg <| Vs (Mk 20 TK27 rfl) <| Vs (As rfl) <| Nx <| Sq <| Rg <| Vs (Mv rfl) <| Vs (Mv rfl) <| Vs (Mv rfl) <| Gm 25 [0, 1] [] (v := .win 1 ((s * 64).toNat) (64)) [(0, ⟨4, [.own 1 (n), .b (slT 2 penB ((d.burn).pen)), vI .i64 ((d.burn).fuse), vB ((d.burn).off)], true⟩), (1, rowK .u8 ((d.burn).dur)), (20, rowK .u8 (List.replicate 64 0))] rfl (k57 hd.burn hm j0 j1) rfl <| Vs (Cp3 TK27 rfl (Rw rfl)) <| Nx <| Sq <| Sq <| Rg <| Vs (Mv rfl) <| Vs (Nk rfl) <| Vs (Fa TF88_1 rfl) <| Vs (Ld TA86 rfl) <| Vs (Lst penB_len TU86 rfl) <| Vs (Mv rfl) <| Nx <| Bk <| VCode.loop (α := (Nat) × (List Int)) (fun x_ => match x_ with | (i, R) => (21, sl [(1, vI .i64 (s)), (6, .own 20 (64)), (34, .b (slT 2 penB ((d.burn).pen))), (35, vI .i64 ((((d.burn).pen).length : Int))), (36, vI .i64 ((i : Int)))], en [(0, ⟨4, [.own 1 (n), .b (slT 2 penB ((d.burn).pen)), vI .i64 ((d.burn).fuse), vB ((d.burn).off)], true⟩), (1, rowK .u8 ((d.burn).dur)), (20, rowK .u8 (R))])) (fun x_ => match x_ with | (i, R) => i ≤ d.burn.pen.length ∧ R = rdL s d.burn.pen (cpw (List.replicate 64 0) 0 64 (sec d.burn.dur s)) i) (fun x_ => match x_ with | (i, R) => d.burn.pen.length - i) (0, cpw (List.replicate 64 0) 0 64 (sec d.burn.dur s)) ⟨Nat.zero_le _, rfl⟩ Wk ?_
        rintro ⟨i, R⟩ hok
        obtain ⟨hi, hR⟩ := hok
        have hRl : R.length = 64 := by rw [hR]; exact rdL_len (by rw [cpw_len (by simp)]; simp) i
        change VCode _ _ _ 21 (sl _) (en _) _
        refine Sq <| Rg <| Vs (Bi rfl) <| Nx <| Sq <| Cd rfl (fun hc4 => ?_) (fun hc4 => ?_)
        · replace hc4 := of_decide_eq_true hc4
          refine Ks <| Tg <| Sq <| Bk <| Sq <| Rg <| Vs (IxT penB_len TU86 TS91 rfl (by first | omega | (simp; done) | (simp; omega)) (gd (d := w0) (j := i) (by first | omega | (simp; done) | (simp; omega))) rfl) <| Vs (LqS TA91 TS91 rfl) <| Vs (Al 24 TZ91 rfl) <| Vs (StS TS91 rfl) <| Nx <| Sq <| Rg <| Vs (Fa TF91_0 rfl) <| Vs (Ld TA3 rfl) <| Vs (Mv rfl) <| Vs (Bi rfl) <| Nx <| Cd rfl (fun hc5 => ?_) (fun hc5 => ?_)
          · replace hc5 := eq_of_beq hc5
            exact Rg <| Vs (Mv rfl) <| Vs (Fa TF91_1 rfl) <| Vs (Ld TA27 rfl) <| Vs (Cp3 TK27 rfl rfl) <| VList.nil <| Ig <| Tg <| Rg <| Vs (Bo rfl adI) <| Vs (Mv rfl) <| VList.nil <| Go (i + 1, cpw (R) (0) (64) ((((d.burn).pen).getD (i) w0).2)) (by first | exact ⟨by omega, by simp only [rdL]; rw [if_pos hc5, ← hR]⟩ | exact ⟨by omega, by simp only [rdL]; rw [if_neg hc5]; exact hR⟩) Wk
          · replace hc5 := ne_of_beq_false hc5
            exact Ks <| Ig <| Tg <| Rg <| Vs (Bo rfl adI) <| Vs (Mv rfl) <| VList.nil <| Go (i + 1, R) (by first | exact ⟨by omega, by simp only [rdL]; rw [if_pos hc5, ← hR]⟩ | exact ⟨by omega, by simp only [rdL]; rw [if_neg hc5]; exact hR⟩) Wk
        · replace hc4 := of_decide_eq_false hc4
          have e : d.readR n s = (d.burn, rdS d s, 0) := by simp [Dk.readR, hc1, hc2, hc3]
          have hR2 : R = rdS d s := by
            have hi2 : i = d.burn.pen.length := by omega
            rw [hR, hi2]; simp only [rdS, burn_pen, burn_dur]
          exact Ke <| Te <| Oe <| Ih <| Tg <| Sq <| Rg <| Vs (Mv rfl) <| Vs (As rfl) <| Vs (As rfl) <| Nx <| Re <| Gg (L1' := [some (⟨4, [.own 1 (n), .b (slT 2 penB ((d.burn).pen)), vI .i64 ((d.burn).fuse), vB ((d.burn).off)], true⟩), some (rowK .u8 ((d.burn).dur))]) [0, 1] (.val _ _ _ _ _ rfl (Rr rfl (hl := by simpa using hRl)) rfl (.val _ _ _ _ _ rfl rfl rfl .nil)) (.vals _ [slK .u8 (R), numB .i64 (0)] rfl rfl) (by rw [e, hR2]) (by rw [e])
end Go.VL

/- Walks over the Go functions, printed by a program of this session over the kit's print, and by hand. -/
set_option linter.unusedVariables false
set_option linter.unusedSimpArgs false
set_option maxRecDepth 100000
namespace Go.VL
open Go.Proofs
theorem k20 {n m : Nat} {d : Dk} (hd : d.Ok n m) (hm : m ≤ 100000) (s : Int) {b : List Int} (hb : b.length ≤ 100000) : VG Try.prog 20 [.ptr 0 (0), vI .i64 (s), .b (slK .u8 (b))] [⟨4, [.own 1 (n), .b (slT 2 penB (d.pen)), vI .i64 (d.fuse), vB (d.off)], true⟩, rowK .u8 (d.dur)] (vI .i64 (d.writeR n s b).2) [some (⟨4, [.own 1 (n), .b (slT 2 penB (((d.writeR n s b).1).pen)), vI .i64 (((d.writeR n s b).1).fuse), vB (((d.writeR n s b).1).off)], true⟩), some (rowK .u8 (((d.writeR n s b).1).dur))] := by
  have hlen := hd.len
  have hlo := hd.lo
  have hhi := hd.hi
  have hwh := hd.whole
  have hpl := hd.pen
  obtain ⟨hf1, hf2⟩ := hd.fu
  have hbl := hd.burn.len
  have hbp := hd.burn.pen
  refine VGp_of P_mixed Try.func20 rfl rfl (by kernel_rfl) (by simp) rfl <| Sq <| Rg <| Vs (As rfl) <| Nx <| Sq <| Bk <| Sq <| Rg <| Vs (Mv rfl) <| Vs (Pe TU22 rfl) <| Vs (As rfl) <| Nx <| Cz rfl <| Sq <| Rg <| Vs (Mv rfl) <| Vs (Nk rfl) <| Vs (Fa TF88_3 rfl) <| Vs (Ld TA4 rfl) <| Vs (As rfl) <| Nx <| Cd rfl (fun hc1 => ?_) (fun hc1 => ?_)
  · replace hc1 := hc1
    have e : d.writeR n s b = (d, 290) := by simp [Dk.writeR, hc1]
    exact Sq <| Rg <| Vs (As rfl) <| Nx <| Re <| Iq <| Tr <| Gg (L1' := [some (⟨4, [.own 1 (n), .b (slT 2 penB (d.pen)), vI .i64 (d.fuse), vB (d.off)], true⟩), some (rowK .u8 (d.dur))]) [0, 1] (.val _ _ _ _ _ rfl rfl rfl .nil) (.one _) (by rw [e]) (by rw [e])
  · replace hc1 := hc1
    refine Sq <| Rg <| Vs (Mv rfl) <| Vs (Mv rfl) <| Gm 13 [0, 1] [] (v := vB ((hasS n s))) [(0, ⟨4, [.own 1 (n), .b (slT 2 penB (d.pen)), vI .i64 (d.fuse), vB (d.off)], true⟩), (1, rowK .u8 (d.dur))] rfl (k55 hd hm s) rfl <| Vs (Un rfl) <| Vs (Mv rfl) <| Sp 22 rfl (fun hc2 => ?_) (fun hc2 => ?_)
    · replace hc2 := (bnot_t hc2)
      have e : d.writeR n s b = (d, 1) := by simp [Dk.writeR, hc1, hc2]
      exact Sk rfl <| Sk rfl <| Sk rfl <| Vs (Pk rfl) <| Vs (As rfl) <| Nx <| Cy rfl <| Sq <| Rg <| Vs (As rfl) <| Nx <| Re <| Iq <| Tr <| Gg (L1' := [some (⟨4, [.own 1 (n), .b (slT 2 penB (d.pen)), vI .i64 (d.fuse), vB (d.off)], true⟩), some (rowK .u8 (d.dur))]) [0, 1] (.val _ _ _ _ _ rfl rfl rfl .nil) (.one _) (by rw [e]) (by rw [e])
    · replace hc2 := (bnot_f hc2)
      refine Vs (Mv rfl) <| Vs (Ls TK27 rfl) <| Vs (Bi rfl) <| Vs (Pk rfl) <| Vs (As rfl) <| Nx <| Cd rfl (fun hc3 => ?_) (fun hc3 => ?_)
      · replace hc3 := bne_iff_ne.1 hc3
        have hbl64 : b.length ≠ 64 := by omega
        have e : d.writeR n s b = (d, 1) := by simp [Dk.writeR, hc1, hbl64]
        exact Sq <| Rg <| Vs (As rfl) <| Nx <| Re <| Iq <| Tr <| Gg (L1' := [some (⟨4, [.own 1 (n), .b (slT 2 penB (d.pen)), vI .i64 (d.fuse), vB (d.off)], true⟩), some (rowK .u8 (d.dur))]) [0, 1] (.val _ _ _ _ _ rfl rfl rfl .nil) (.one _) (by rw [e]) (by rw [e])
      · replace hc3 := bne_eq_false_iff_eq.1 hc3
        have hbl64 : b.length = 64 := by omega
        have e : d.writeR n s b = ({ d.burn with pen := d.pen ++ [(s, b)] }, if d.out = true then 290 else 0) := by simp [Dk.writeR, hc1, hc2, hbl64]
        have eb := cpw_rep b
        refine Ks <| Ig <| Tg <| Sq <| Rg <| Vs (Mv rfl) <| Gm 22 [0, 1] [] (v := vB (d.out)) [(0, ⟨4, [.own 1 (n), .b (slT 2 penB ((d.burn).pen)), vI .i64 ((d.burn).fuse), vB ((d.burn).off)], true⟩), (1, rowK .u8 ((d.burn).dur))] rfl (k56 hd hm) rfl <| Vs (As rfl) <| Nx <| Sq <| Rg <| Vs (Mv rfl) <| Vs (Ls TK27 rfl) <| Vs (Mk 26 TK27 rfl) <| Vs (As rfl) <| Nx <| Sq <| Rg <| Vs (Mv rfl) <| Vs (Mv rfl) <| Vs (Cp3 TK27 rfl rfl) <| VList.nil <| Cx (n1 := 2) (S1 := [(0, .ptr 0 (0)), (1, vI .i64 (s)), (7, vB (d.out)), (8, .b (slK .u8 (cpw (List.replicate b.length 0) 0 b.length b)))]) (L1 := [(0, ⟨4, [.own 1 (n), .b (slT 2 penB ((d.burn).pen)), vI .i64 ((d.burn).fuse), vB ((d.burn).off)], true⟩), (1, rowK .u8 ((d.burn).dur))]) (Weak.conv (nv := [26]) ⟨⟨⟨_, rfl, .inl rfl⟩, rfl⟩, ⟨⟨_, rfl, .inl rfl⟩, rfl⟩, ⟨⟨_, rfl, .inl rfl⟩, rfl⟩, ⟨⟨_, rfl, cv_own rfl (by rw [cpw_rep, Int.toNat_natCast])⟩, rfl⟩, trivial⟩ ⟨⟨⟨_, rfl, rfl, rfl, ⟨.inl rfl, .inl rfl, .inl rfl, .inl rfl, trivial⟩⟩, Nat.le_of_ble_eq_true rfl, cells_of rfl⟩, ⟨⟨_, rfl, rfl, rfl, Two.same (fun _ => .inl rfl) _⟩, Nat.le_of_ble_eq_true rfl, row_cellsK⟩, trivial⟩ (Nat.le_of_ble_eq_true rfl)) <| Sq <| Rd (by kernel_rfl) <| Vl (Mv rfl) <| Vl (Mv rfl) <| Vl (Nk rfl) <| Vl (Fa TF88_1 rfl) <| Vl (Ld TA86 rfl) <| Vl (Mv rfl) <| Vl (Nk rfl) <| Vl (Fa TF88_1 rfl) <| Vl (Ld TA86 rfl) <| Vl (Lst penB_len TU86 rfl) <| Vl (Mv rfl) <| Vl (Nk rfl) <| Vl (Fa TF88_1 rfl) <| Vl (Ld TA86 rfl) <| Vl (Lst penB_len TU86 rfl) <| Vl (CuT penB_len TU86 TS91 rfl) <| Vl (Mv rfl) <| Vl (Mv rfl) <| Vl (Bd TQ91 rfl) <| Vl (sq1 21 rfl (.buildS _ 1 _ 91 [.agg [vI .i64 (s), .b (slK .u8 (cpw (List.replicate b.length 0) 0 b.length b))]] 2 _ [vI .i64 (s), .b (slK .u8 (cpw (List.replicate b.length 0) 0 b.length b))] rfl TU86 TZ91 TS91 (List.cons_ne_nil _ _) (by decide) rfl rfl)) <| Vl (AcT 22 TU86 TS91 TB91 TN91 (x1 := (s, cpw (List.replicate b.length 0) 0 b.length b)) (f := penB) rfl penB_len) <| Vl (Nk rfl) <| Vl (Fa TF88_1 rfl) <| Vl (St TS86 rfl) <| ?_
        refine VLog.nil ⟨by kernel_rfl, ?_⟩
        refine Cx (n1 := 2) (S1 := [(7, vB (d.out))]) (L1 := [(0, ⟨4, [.own 1 (n), .b (slT 2 penB (d.burn.pen ++ [(s, cpw (List.replicate b.length 0) 0 b.length b)])), vI .i64 ((d.burn).fuse), vB ((d.burn).off)], true⟩), (1, rowK .u8 ((d.burn).dur))]) (Weak.conv (nv := [22]) ⟨⟨⟨_, rfl, .inl rfl⟩, rfl⟩, trivial⟩ ⟨⟨⟨_, rfl, rfl, rfl, ⟨.inl rfl, (cv_ownT penB_len rfl (by first | omega | (simp; done) | (simp; omega))), .inl rfl, .inl rfl, trivial⟩⟩, Nat.le_of_ble_eq_true rfl, cells_of rfl⟩, ⟨⟨_, rfl, rfl, rfl, Two.same (fun _ => .inl rfl) _⟩, Nat.le_of_ble_eq_true rfl, row_cellsK⟩, trivial⟩ (Nat.le_of_ble_eq_true rfl)) <| Sq <| Sq <| Rg <| Vs (Mv rfl) <| Nx <| Cd rfl (fun hc4 => ?_) (fun hc4 => ?_)
        · replace hc4 := hc4
          rw [if_pos hc4] at e
          exact Sq <| Rg <| Vs (As rfl) <| Nx <| Re <| Tr <| Gg (L1' := [some (⟨4, [.own 1 (n), .b (slT 2 penB (d.burn.pen ++ [(s, cpw (List.replicate b.length 0) 0 b.length b)])), vI .i64 ((d.burn).fuse), vB ((d.burn).off)], true⟩), some (rowK .u8 ((d.burn).dur))]) [0, 1] (.val _ _ _ _ _ rfl rfl rfl .nil) (.one _) (by rw [e]) (by rw [e, eb, burn_pen])
        · replace hc4 := hc4
          rw [if_neg (by rw [hc4]; decide)] at e
          exact Ks <| Tg <| Sq <| Rg <| Vs (As rfl) <| Nx <| Re <| Gg (L1' := [some (⟨4, [.own 1 (n), .b (slT 2 penB (d.burn.pen ++ [(s, cpw (List.replicate b.length 0) 0 b.length b)])), vI .i64 ((d.burn).fuse), vB ((d.burn).off)], true⟩), some (rowK .u8 ((d.burn).dur))]) [0, 1] (.val _ _ _ _ _ rfl rfl rfl .nil) (.one _) (by rw [e]) (by rw [e, eb, burn_pen])
theorem k25 {n m : Nat} {d : Dk} (hd : d.Ok n m) (hm : m ≤ 100000) : VG Try.prog 25 [.ptr 0 (0)] [⟨4, [.own 1 (n), .b (slT 2 penB (d.pen)), vI .i64 (d.fuse), vB (d.off)], true⟩, rowK .u8 (d.dur)] (vI .i64 d.syncR.2) [some (⟨4, [.own 1 (n), .b (slT 2 penB ((d.syncR.1).pen)), vI .i64 ((d.syncR.1).fuse), vB ((d.syncR.1).off)], true⟩), some (rowK .u8 ((d.syncR.1).dur))] := by
  have hlen := hd.len
  have hlo := hd.lo
  have hhi := hd.hi
  have hwh := hd.whole
  have hpl := hd.pen
  obtain ⟨hf1, hf2⟩ := hd.fu
  have hbl := hd.burn.len
  have hbp := hd.burn.pen
  refine VGp_of P_mixed Try.func25 rfl rfl (by kernel_rfl) (by simp) rfl <| Sq <| Rg <| Vs (As rfl) <| Nx <| Sq <| Bk <| Sq <| Rg <| Vs (Mv rfl) <| Vs (Pe TU22 rfl) <| Vs (As rfl) <| Nx <| Cz rfl <| Sq <| Rg <| Vs (Mv rfl) <| Vs (Nk rfl) <| Vs (Fa TF88_3 rfl) <| Vs (Ld TA4 rfl) <| Vs (Mv rfl) <| Sp 13 rfl (fun hc1 => ?_) (fun hc1 => ?_)
  · replace hc1 := hc1
    have e : d.syncR = (d, 290) := by simp [Dk.syncR, hc1]
    exact Sk rfl <| Sk rfl <| Vs (Pk rfl) <| Vs (As rfl) <| Nx <| Cy rfl <| Sq <| Rg <| Vs (As rfl) <| Nx <| Re <| Iq <| Tr <| Gg (L1' := [some (⟨4, [.own 1 (n), .b (slT 2 penB (d.pen)), vI .i64 (d.fuse), vB (d.off)], true⟩), some (rowK .u8 (d.dur))]) [0, 1] (.val _ _ _ _ _ rfl rfl rfl .nil) (.one _) (by rw [e]) (by rw [e])
  · replace hc1 := hc1
    refine Vs (Mv rfl) <| Gm 12 [0, 1] [] (v := vB (d.out)) [(0, ⟨4, [.own 1 (n), .b (slT 2 penB ((d.burn).pen)), vI .i64 ((d.burn).fuse), vB ((d.burn).off)], true⟩), (1, rowK .u8 ((d.burn).dur))] rfl (k56 hd hm) rfl <| Vs (Pk rfl) <| Vs (As rfl) <| Nx <| Cd rfl (fun hc2 => ?_) (fun hc2 => ?_)
    · replace hc2 := hc2
      have e : d.syncR = (d.burn, 290) := by simp [Dk.syncR, hc1, hc2]
      exact Sq <| Rg <| Vs (As rfl) <| Nx <| Re <| Iq <| Tr <| Gg (L1' := [some (⟨4, [.own 1 (n), .b (slT 2 penB ((d.burn).pen)), vI .i64 ((d.burn).fuse), vB ((d.burn).off)], true⟩), some (rowK .u8 ((d.burn).dur))]) [0, 1] (.val _ _ _ _ _ rfl rfl rfl .nil) (.one _) (by rw [e]) (by rw [e])
    · replace hc2 := hc2
      refine Ks <| Ig <| Tg <| Sq <| Sq <| Rg <| Vs (Mv rfl) <| Vs (Nk rfl) <| Vs (Fa TF88_1 rfl) <| Vs (Ld TA86 rfl) <| Vs (Lst penB_len TU86 rfl) <| Vs (Mv rfl) <| Nx <| Bk <| VCode.loop (α := (Nat)) (fun i => (2, sl [(0, .ptr 0 (0)), (20, .b (slT 2 penB ((d.burn).pen))), (21, vI .i64 ((((d.burn).pen).length : Int))), (22, vI .i64 ((i : Int)))], en [(0, ⟨4, [.own 1 (n), .b (slT 2 penB ((d.burn).pen)), vI .i64 ((d.burn).fuse), vB ((d.burn).off)], true⟩), (1, rowK .u8 (syL d.burn.pen d.burn.dur i))])) (fun i => i ≤ d.burn.pen.length) (fun i => d.burn.pen.length - i) (0) (Nat.zero_le _) Wk ?_
      intro i hok
      have hsl := syL_len hd.burn i hok
      change VCode _ _ _ 2 (sl _) (en _) _
      refine Sq <| Rg <| Vs (Bi rfl) <| Nx <| Sq <| Cd rfl (fun hc3 => ?_) (fun hc3 => ?_)
      · replace hc3 := of_decide_eq_true hc3
        obtain ⟨j0, j1, j2⟩ := hd.burn.at (i := i) (by omega)
        refine Ks <| Tg <| Sq <| Bk <| Sq <| Rg <| Vs (IxT penB_len TU86 TS91 rfl (by first | omega | (simp; done) | (simp; omega)) (gd (d := w0) (j := i) (by first | omega | (simp; done) | (simp; omega))) rfl) <| Vs (LqS TA91 TS91 rfl) <| Vs (Al 5 TZ91 rfl) <| Vs (StS TS91 rfl) <| Nx <| Rd (by kernel_rfl) <| Vl (Mv rfl) <| Vl (Fa TF91_0 rfl) <| Vl (Ld TA3 rfl) <| Gl [0, 1] [] [(0, some (⟨4, [.own 1 (n), .b (slT 2 penB ((d.burn).pen)), vI .i64 ((d.burn).fuse), vB ((d.burn).off)], true⟩)), (1, some (rowK .u8 (syL d.burn.pen d.burn.dur i)))] rfl (k57 (hd.burn.syL hok) hm j0 j1) rfl <| Vl (Fa TF91_1 rfl) <| Vl (Ld TA27 rfl) <| Vl (Cv3 TK27 rfl rfl) <| ?_
        refine VLog.nil ⟨by kernel_rfl, ?_⟩
        exact Ig <| Tg <| Rg <| Vs (Bo rfl adI) <| Vs (Mv rfl) <| VList.nil <| Go (i + 1) (by omega) Wk
      · replace hc3 := of_decide_eq_false hc3
        have e : d.syncR = ({ d.burn with dur := syL d.pen d.dur d.pen.length, pen := [] }, 0) := by simp [Dk.syncR, hc1, hc2]
        have hi2 : i = d.burn.pen.length := by omega
        exact Ke <| Te <| Oe <| Ih <| Tg <| Sq <| Rg <| Vs (Mv rfl) <| Vs (Nk rfl) <| Vs (Fa TF88_1 rfl) <| Vs (St TS86 rfl) <| VList.nil <| Cx (n1 := 2) (S1 := []) (L1 := [(0, ⟨4, [.own 1 (n), .b (slT 2 penB ([])), vI .i64 ((d.burn).fuse), vB ((d.burn).off)], true⟩), (1, rowK .u8 (syL d.burn.pen d.burn.dur i))]) (Weak.conv (nv := []) trivial ⟨⟨⟨_, rfl, rfl, rfl, ⟨.inl rfl, (cv_nil rfl), .inl rfl, .inl rfl, trivial⟩⟩, Nat.le_of_ble_eq_true rfl, cells_of rfl⟩, ⟨⟨_, rfl, rfl, rfl, Two.same (fun _ => .inl rfl) _⟩, Nat.le_of_ble_eq_true rfl, row_cellsK⟩, trivial⟩ (Nat.le_of_ble_eq_true rfl)) <| Sq <| Rg <| Vs (As rfl) <| Nx <| Re <| Gg (L1' := [some (⟨4, [.own 1 (n), .b (slT 2 penB ([])), vI .i64 ((d.burn).fuse), vB ((d.burn).off)], true⟩), some (rowK .u8 (syL d.burn.pen d.burn.dur i))]) [0, 1] (.val _ _ _ _ _ rfl rfl rfl .nil) (.one _) (by rw [e]) (by rw [e, hi2, burn_pen, burn_dur])
end Go.VL

/- Walks over the Go functions, printed by a program of this session over the kit's print, and by hand. -/
set_option linter.unusedVariables false
set_option linter.unusedSimpArgs false
set_option maxRecDepth 100000
namespace Go.VL
open Go.Proofs
theorem k24 {n m : Nat} {d : Dk} (hd : d.Ok n m) (hm : m ≤ 100000) {keep : List Int} (hk : keep.length ≤ 9223372036854775807) (torn : Int) : VG Try.prog 24 [.ptr 0 (0), .b (slK .i64 (keep)), vI .i64 (torn)] [⟨4, [.own 1 (n), .b (slT 2 penB (d.pen)), vI .i64 (d.fuse), vB (d.off)], true⟩, rowK .u8 (d.dur)] (.b (.tup [])) [some (⟨4, [.own 1 (n), .b (slT 2 penB ((d.bootR keep torn).pen)), vI .i64 ((d.bootR keep torn).fuse), vB ((d.bootR keep torn).off)], true⟩), some (rowK .u8 ((d.bootR keep torn).dur))] := by
  have hlen := hd.len
  have hlo := hd.lo
  have hhi := hd.hi
  have hwh := hd.whole
  have hpl := hd.pen
  obtain ⟨hf1, hf2⟩ := hd.fu
  refine VGw_of P_mixed Try.func24 rfl rfl (by kernel_rfl) (by simp) rfl <| Sq <| Sq <| Rg <| Vs (Mv rfl) <| Vs (Pe TU22 rfl) <| Nx <| Cz rfl <| Ks <| Tg <| Sq <| Rg <| Vs (Mv rfl) <| Vs (Nk rfl) <| Vs (Fa TF88_1 rfl) <| Vs (Ld TA86 rfl) <| Vs (Lst penB_len TU86 rfl) <| Vs (MkT 9 false boB_len TU45 TZ4 TS4 TB4 rfl) <| Vs (As rfl) <| Nx <| Sq <| Rg <| Vs (As rfl) <| Nx <| Sq <| Sq <| Rg <| Vs (Mv rfl) <| Vs (Ls TK29 rfl) <| Vs (Mv rfl) <| Nx <| Bk <| VCode.loop (α := (Nat) × (List Bool) × (Int)) (fun x_ => match x_ with | (i, K, l) => (10, sl [(0, .ptr 0 (0)), (2, vI .i64 (torn)), (6, .own 9 (((d.pen).length))), (7, vI .i64 (l)), (21, .b (slK .i64 (keep))), (22, vI .i64 (((keep).length : Int))), (23, vI .i64 ((i : Int)))], en [(0, ⟨4, [.own 1 (n), .b (slT 2 penB (d.pen)), vI .i64 (d.fuse), vB (d.off)], true⟩), (1, rowK .u8 (d.dur)), (9, rowT 1 boB (K))])) (fun x_ => match x_ with | (i, K, l) => i ≤ keep.length ∧ K = (kpL keep d.pen.length i).1 ∧ l = (kpL keep d.pen.length i).2) (fun x_ => match x_ with | (i, K, l) => keep.length - i) (0, List.replicate d.pen.length false, (-1)) ⟨Nat.zero_le _, rfl, rfl⟩ (Wt []) ?_
  rintro ⟨i, K, l⟩ hok
  obtain ⟨hi, hK, hl⟩ := hok
  have hKl : K.length = d.pen.length := by rw [hK]; exact kpL_len i
  change VCode _ _ _ 10 (sl _) (en _) _
  refine Sq <| Rg <| Vs (Bi rfl) <| Nx <| Sq <| Cd rfl (fun hc1 => ?_) (fun hc1 => ?_)
  · replace hc1 := of_decide_eq_true hc1
    refine Ks <| Tg <| Sq <| Bk <| Sq <| Rg <| Vs (IxN TK29 rfl) <| Vs (Lq TA3 rfl) <| Vs (As rfl) <| Nx <| Sq <| Rg <| Vs (Mv rfl) <| Vs (Bi rfl) <| Vs (Mv rfl) <| Sp 29 rfl (fun hc2 => ?_) (fun hc2 => ?_)
    · replace hc2 := of_decide_eq_true hc2
      refine Vs (Mv rfl) <| Vs (Mv rfl) <| Vs (Lo TU45 rfl) <| Vs (Bi rfl) <| Vs (Pk rfl) <| Nx <| Cd rfl (fun hc3 => ?_) (fun hc3 => ?_)
      · replace hc3 := of_decide_eq_true hc3
        exact Sq <| Rg <| Vs (Mv rfl) <| Vs (Mv rfl) <| Vs (IT TU45 TS4 rfl) <| Vs (SrT (true) boB_len TS4 rfl (by first | omega | (simp; done) | (simp; omega))) <| Nx <| Rg <| Vs (Mv rfl) <| Vs (Mv rfl) <| Vs (Mx rfl) <| Vs (As rfl) <| VList.nil <| Ig <| Tg <| Rg <| Vs (Bo rfl adI) <| Vs (Mv rfl) <| VList.nil <| Go (i + 1, (K).set (((keep).getD (i) 0).toNat) (true), (if (keep).getD (i) 0 > l then (keep).getD (i) 0 else l)) (by first | exact ⟨by omega, by rw [kpL_in hc2 hc3, ← hK], by rw [kpL_in hc2 hc3, ← hl]⟩ | exact ⟨by omega, by rw [kpL_hi hc3]; exact hK, by rw [kpL_hi hc3]; exact hl⟩ | exact ⟨by omega, by rw [kpL_lo hc2]; exact hK, by rw [kpL_lo hc2]; exact hl⟩) (Wt [])
      · replace hc3 := of_decide_eq_false hc3
        exact Ks <| Ig <| Tg <| Rg <| Vs (Bo rfl adI) <| Vs (Mv rfl) <| VList.nil <| Go (i + 1, K, l) (by first | exact ⟨by omega, by rw [kpL_in hc2 hc3, ← hK], by rw [kpL_in hc2 hc3, ← hl]⟩ | exact ⟨by omega, by rw [kpL_hi hc3]; exact hK, by rw [kpL_hi hc3]; exact hl⟩ | exact ⟨by omega, by rw [kpL_lo hc2]; exact hK, by rw [kpL_lo hc2]; exact hl⟩) (Wt [])
    · replace hc2 := of_decide_eq_false hc2
      exact Sk rfl <| Sk rfl <| Sk rfl <| Sk rfl <| Vs (Pk rfl) <| Nx <| Cz rfl <| Ks <| Ig <| Tg <| Rg <| Vs (Bo rfl adI) <| Vs (Mv rfl) <| VList.nil <| Go (i + 1, K, l) (by first | exact ⟨by omega, by rw [kpL_in hc2 hc3, ← hK], by rw [kpL_in hc2 hc3, ← hl]⟩ | exact ⟨by omega, by rw [kpL_hi hc3]; exact hK, by rw [kpL_hi hc3]; exact hl⟩ | exact ⟨by omega, by rw [kpL_lo hc2]; exact hK, by rw [kpL_lo hc2]; exact hl⟩) (Wt [])
  · replace hc1 := of_decide_eq_false hc1
    refine Ke <| Te <| Oe <| Ih <| Tg <| Sq <| Sq <| Rg <| Vs (Mv rfl) <| Vs (Nk rfl) <| Vs (Fa TF88_1 rfl) <| Vs (Ld TA86 rfl) <| Vs (Lst penB_len TU86 rfl) <| Vs (Mv rfl) <| Nx <| Bk <| VCode.loop (α := (Nat) × (List Int)) (fun x_ => match x_ with | (j, D) => (10, sl [(0, .ptr 0 (0)), (2, vI .i64 (torn)), (6, .own 9 (((d.pen).length))), (7, vI .i64 (l)), (45, .b (slT 2 penB (d.pen))), (46, vI .i64 (((d.pen).length : Int))), (47, vI .i64 ((j : Int)))], en [(0, ⟨4, [.own 1 (n), .b (slT 2 penB (d.pen)), vI .i64 (d.fuse), vB (d.off)], true⟩), (1, rowK .u8 (D)), (9, rowT 1 boB (K))])) (fun x_ => match x_ with | (j, D) => j ≤ d.pen.length ∧ D = boL K l torn d.pen d.dur j) (fun x_ => match x_ with | (j, D) => d.pen.length - j) (0, d.dur) ⟨Nat.zero_le _, rfl⟩ (Wt []) ?_
    rintro ⟨j, D⟩ hok2
    obtain ⟨hj, hD⟩ := hok2
    have hDl : D.length = n := by rw [hD]; exact boL_len hd j hj
    change VCode _ _ _ 10 (sl _) (en _) _
    refine Sq <| Rg <| Vs (Bi rfl) <| Nx <| Sq <| Cd rfl (fun hc4 => ?_) (fun hc4 => ?_)
    · replace hc4 := of_decide_eq_true hc4
      obtain ⟨j0, j1, j2⟩ := hd.at (i := j) (by omega)
      refine Ks <| Tg <| Sq <| Bk <| Sq <| Rg <| Vs (Mv rfl) <| Vs (IxT penB_len TU86 TS91 rfl (by first | omega | (simp; done) | (simp; omega)) (gd (d := w0) (j := j) (by first | omega | (simp; done) | (simp; omega))) rfl) <| Vs (LqS TA91 TS91 rfl) <| Vs (Al 14 TZ91 rfl) <| Vs (As rfl) <| Vs (StS TS91 rfl) <| Nx <| Sq <| Sq <| Rg <| Vs (Mv rfl) <| Vs (Mv rfl) <| Vs (IT TU45 TS4 rfl) <| Vs (L1T boB_len TA4 rfl (gd (d := false) (j := j) (by first | omega | (simp; done) | (simp; omega))) rfl) <| Vs (Un rfl) <| Nx <| Cd rfl (fun hc5 => ?_) (fun hc5 => ?_)
      · replace hc5 := (bnot_t hc5)
        exact Ke <| Te <| Ih <| Tg <| Rg <| Vs (Bo rfl adI) <| Vs (Mv rfl) <| VList.nil <| Go (j + 1, D) (by first | exact ⟨by omega, by rw [boL_no (by assumption)]; exact hD⟩ | exact ⟨by omega, by rw [boL_y (by assumption) (by assumption) (by assumption) (by assumption), ← hD]; rfl⟩ | exact ⟨by omega, by rw [boL_1 (by assumption) (by assumption), ← hD]; rfl⟩ | exact ⟨by omega, by rw [boL_2 (by assumption) (by assumption), ← hD]; rfl⟩ | exact ⟨by omega, by rw [boL_3 (by assumption) (by assumption), ← hD]; rfl⟩) (Wt [])
      · replace hc5 := (bnot_f hc5)
        refine Ks <| Tg <| Sq <| Rg <| Vs (Fa TF91_1 rfl) <| Vs (Ld TA27 rfl) <| Vs (As rfl) <| Nx <| Sq <| Sq <| Rg <| Vs (Mv rfl) <| Vs (Mv rfl) <| Vs (Bi rfl) <| Vs (Mv rfl) <| Sp 62 rfl (fun hc6 => ?_) (fun hc6 => ?_)
        · replace hc6 := eq_of_beq hc6
          refine Vs (Mv rfl) <| Vs (Bi rfl) <| Vs (Pk rfl) <| Vs (Mv rfl) <| Sp 66 rfl (fun hc7 => ?_) (fun hc7 => ?_)
          · replace hc7 := of_decide_eq_true hc7
            refine Vs (Mv rfl) <| Vs (Mv rfl) <| Vs (Ls TK27 rfl) <| Vs (Bi rfl) <| Vs (Pk rfl) <| Nx <| Cd rfl (fun hc8 => ?_) (fun hc8 => ?_)
            · replace hc8 := of_decide_eq_true hc8
              exact Rg <| Vs (Mv rfl) <| Vs (Mv rfl) <| Vs (Ct TK27 rfl) <| Vs (As rfl) <| Nx <| Rg <| Vs (Mv rfl) <| Vs (Fa TF91_0 rfl) <| Vs (Ld TA3 rfl) <| Gm 45 [0, 1] [] (v := .win 1 (((((d.pen).getD (j) w0).1) * 64).toNat) (64)) [(0, ⟨4, [.own 1 (n), .b (slT 2 penB (d.pen)), vI .i64 (d.fuse), vB (d.off)], true⟩), (1, rowK .u8 (D)), (9, rowT 1 boB (K)), (14, ⟨2, [vI .i64 (((d.pen).getD (j) w0).1), .b (slK .u8 (((d.pen).getD (j) w0).2))], true⟩)] rfl (k57 (hd.ofDur hDl) hm j0 j1) rfl <| Vs (Mv rfl) <| Vs (Cv3 TK27 rfl rfl) <| VList.nil <| Ig <| Tg <| Rg <| Vs (Bo rfl adI) <| Vs (Mv rfl) <| VList.nil <| Go (j + 1, cpw (D) (((((d.pen).getD (j) w0).1) * 64).toNat) (64) ((((d.pen).getD (j) w0).2).take (torn).toNat)) (by first | exact ⟨by omega, by rw [boL_no (by assumption)]; exact hD⟩ | exact ⟨by omega, by rw [boL_y (by assumption) (by assumption) (by assumption) (by assumption), ← hD]; rfl⟩ | exact ⟨by omega, by rw [boL_1 (by assumption) (by assumption), ← hD]; rfl⟩ | exact ⟨by omega, by rw [boL_2 (by assumption) (by assumption), ← hD]; rfl⟩ | exact ⟨by omega, by rw [boL_3 (by assumption) (by assumption), ← hD]; rfl⟩) (Wt [])
            · replace hc8 := of_decide_eq_false hc8
              exact Ks <| Tg <| Rg <| Vs (Mv rfl) <| Vs (Fa TF91_0 rfl) <| Vs (Ld TA3 rfl) <| Gm 41 [0, 1] [] (v := .win 1 (((((d.pen).getD (j) w0).1) * 64).toNat) (64)) [(0, ⟨4, [.own 1 (n), .b (slT 2 penB (d.pen)), vI .i64 (d.fuse), vB (d.off)], true⟩), (1, rowK .u8 (D)), (9, rowT 1 boB (K)), (14, ⟨2, [vI .i64 (((d.pen).getD (j) w0).1), .b (slK .u8 (((d.pen).getD (j) w0).2))], true⟩)] rfl (k57 (hd.ofDur hDl) hm j0 j1) rfl <| Vs (Mv rfl) <| Vs (Cv3 TK27 rfl rfl) <| VList.nil <| Ig <| Tg <| Rg <| Vs (Bo rfl adI) <| Vs (Mv rfl) <| VList.nil <| Go (j + 1, cpw (D) (((((d.pen).getD (j) w0).1) * 64).toNat) (64) (((d.pen).getD (j) w0).2)) (by first | exact ⟨by omega, by rw [boL_no (by assumption)]; exact hD⟩ | exact ⟨by omega, by rw [boL_y (by assumption) (by assumption) (by assumption) (by assumption), ← hD]; rfl⟩ | exact ⟨by omega, by rw [boL_1 (by assumption) (by assumption), ← hD]; rfl⟩ | exact ⟨by omega, by rw [boL_2 (by assumption) (by assumption), ← hD]; rfl⟩ | exact ⟨by omega, by rw [boL_3 (by assumption) (by assumption), ← hD]; rfl⟩) (Wt [])
          · replace hc7 := of_decide_eq_false hc7
            exact Sk rfl <| Sk rfl <| Sk rfl <| Sk rfl <| Vs (Pk rfl) <| Nx <| Cz rfl <| Ks <| Tg <| Rg <| Vs (Mv rfl) <| Vs (Fa TF91_0 rfl) <| Vs (Ld TA3 rfl) <| Gm 41 [0, 1] [] (v := .win 1 (((((d.pen).getD (j) w0).1) * 64).toNat) (64)) [(0, ⟨4, [.own 1 (n), .b (slT 2 penB (d.pen)), vI .i64 (d.fuse), vB (d.off)], true⟩), (1, rowK .u8 (D)), (9, rowT 1 boB (K)), (14, ⟨2, [vI .i64 (((d.pen).getD (j) w0).1), .b (slK .u8 (((d.pen).getD (j) w0).2))], true⟩)] rfl (k57 (hd.ofDur hDl) hm j0 j1) rfl <| Vs (Mv rfl) <| Vs (Cv3 TK27 rfl rfl) <| VList.nil <| Ig <| Tg <| Rg <| Vs (Bo rfl adI) <| Vs (Mv rfl) <| VList.nil <| Go (j + 1, cpw (D) (((((d.pen).getD (j) w0).1) * 64).toNat) (64) (((d.pen).getD (j) w0).2)) (by first | exact ⟨by omega, by rw [boL_no (by assumption)]; exact hD⟩ | exact ⟨by omega, by rw [boL_y (by assumption) (by assumption) (by assumption) (by assumption), ← hD]; rfl⟩ | exact ⟨by omega, by rw [boL_1 (by assumption) (by assumption), ← hD]; rfl⟩ | exact ⟨by omega, by rw [boL_2 (by assumption) (by assumption), ← hD]; rfl⟩ | exact ⟨by omega, by rw [boL_3 (by assumption) (by assumption), ← hD]; rfl⟩) (Wt [])
        · replace hc6 := ne_of_beq_false hc6
          exact Sk rfl <| Sk rfl <| Vs (Pk rfl) <| Vs (Mv rfl) <| Sk rfl <| Sk rfl <| Sk rfl <| Sk rfl <| Vs (Pk rfl) <| Nx <| Cz rfl <| Ks <| Tg <| Rg <| Vs (Mv rfl) <| Vs (Fa TF91_0 rfl) <| Vs (Ld TA3 rfl) <| Gm 41 [0, 1] [] (v := .win 1 (((((d.pen).getD (j) w0).1) * 64).toNat) (64)) [(0, ⟨4, [.own 1 (n), .b (slT 2 penB (d.pen)), vI .i64 (d.fuse), vB (d.off)], true⟩), (1, rowK .u8 (D)), (9, rowT 1 boB (K)), (14, ⟨2, [vI .i64 (((d.pen).getD (j) w0).1), .b (slK .u8 (((d.pen).getD (j) w0).2))], true⟩)] rfl (k57 (hd.ofDur hDl) hm j0 j1) rfl <| Vs (Mv rfl) <| Vs (Cv3 TK27 rfl rfl) <| VList.nil <| Ig <| Tg <| Rg <| Vs (Bo rfl adI) <| Vs (Mv rfl) <| VList.nil <| Go (j + 1, cpw (D) (((((d.pen).getD (j) w0).1) * 64).toNat) (64) (((d.pen).getD (j) w0).2)) (by first | exact ⟨by omega, by rw [boL_no (by assumption)]; exact hD⟩ | exact ⟨by omega, by rw [boL_y (by assumption) (by assumption) (by assumption) (by assumption), ← hD]; rfl⟩ | exact ⟨by omega, by rw [boL_1 (by assumption) (by assumption), ← hD]; rfl⟩ | exact ⟨by omega, by rw [boL_2 (by assumption) (by assumption), ← hD]; rfl⟩ | exact ⟨by omega, by rw [boL_3 (by assumption) (by assumption), ← hD]; rfl⟩) (Wt [])
    · replace hc4 := of_decide_eq_false hc4
      exact Ke <| Te <| Oe <| Ih <| Tg <| Rg <| Vs (Mv rfl) <| Vs (Mv rfl) <| Vs (Mv rfl) <| Vs (Nk rfl) <| Vs (Fa TF88_1 rfl) <| Vs (St TS86 rfl) <| Vs (Nk rfl) <| Vs (Fa TF88_3 rfl) <| Vs (St TS4 rfl) <| Vs (Nk rfl) <| Vs (Fa TF88_2 rfl) <| Vs (St TS3 rfl) <| VList.nil <| Px (n1 := 2) (S2 := []) (L2 := [(0, ⟨4, [.own 1 (n), .b (slT 2 penB ([])), vI .i64 ((-1)), vB (false)], true⟩), (1, rowK .u8 (D))]) (Weak.conv (nv := []) trivial ⟨⟨⟨_, rfl, rfl, rfl, ⟨.inl rfl, (cv_nil rfl), .inl rfl, .inl rfl, trivial⟩⟩, Nat.le_of_ble_eq_true rfl, cells_of rfl⟩, ⟨⟨_, rfl, rfl, rfl, Two.same (fun _ => .inl rfl) _⟩, Nat.le_of_ble_eq_true rfl, row_cellsK⟩, trivial⟩ (Nat.le_of_ble_eq_true rfl)) <| Gg (L1' := [some (⟨4, [.own 1 (n), .b (slT 2 penB ([])), vI .i64 ((-1)), vB (false)], true⟩), some (rowK .u8 (D))]) [0, 1] .nil (.vals _ [] rfl rfl) rfl (by rw [hD, show j = d.pen.length by omega, hK, hl, show i = keep.length by omega]; rfl)
end Go.VL

/- Walks over the Go functions, printed by a program of this session over the kit's print, and by hand. -/
set_option linter.unusedVariables false
set_option linter.unusedSimpArgs false
set_option maxRecDepth 100000
namespace Go.VL
open Go.Proofs
theorem k38 {n m : Nat} {d : Dk} (hd : d.Ok n m) (hm : m ≤ 100000) (s k : Int) : VG Try.prog 38 [.ptr 0 (0), vI .i64 (s), vI .i64 (k)] [⟨4, [.own 1 (n), .b (slT 2 penB (d.pen)), vI .i64 (d.fuse), vB (d.off)], true⟩, rowK .u8 (d.dur)] (vI .i64 (d.rotR n s k).2) [some (⟨4, [.own 1 (n), .b (slT 2 penB (((d.rotR n s k).1).pen)), vI .i64 (((d.rotR n s k).1).fuse), vB (((d.rotR n s k).1).off)], true⟩), some (rowK .u8 (((d.rotR n s k).1).dur))] := by
  have hlen := hd.len
  have hlo := hd.lo
  have hhi := hd.hi
  have hwh := hd.whole
  have hpl := hd.pen
  obtain ⟨hf1, hf2⟩ := hd.fu
  refine VGp_of P_mixed Try.func38 rfl rfl (by kernel_rfl) (by simp) rfl <| Sq <| Rg <| Vs (As rfl) <| Nx <| Sq <| Sq <| Rg <| Vs (Mv rfl) <| Vs (Pe TU22 rfl) <| Vs (Mv rfl) <| Vs (Mv rfl) <| Vs (Mv rfl) <| Gm 8 [0, 1] [] (v := vB ((hasS n s))) [(0, ⟨4, [.own 1 (n), .b (slT 2 penB (d.pen)), vI .i64 (d.fuse), vB (d.off)], true⟩), (1, rowK .u8 (d.dur))] rfl (k55 hd hm s) rfl <| Vs (Un rfl) <| Vs (Pk rfl) <| Vs (Mv rfl) <| Sp 15 rfl (fun hc1 => ?_) (fun hc1 => ?_)
  · replace hc1 := (bnot_t hc1)
    have e : d.rotR n s k = (d, 1) := by rw [Dk.rotR, if_pos (.inl hc1)]
    exact Sk rfl <| Sk rfl <| Vs (Pk rfl) <| Vs (Mv rfl) <| Sk rfl <| Sk rfl <| Vs (Pk rfl) <| Nx <| Cy rfl <| Sq <| Rg <| Vs (As rfl) <| Nx <| Re <| Tr <| Gg (L1' := [some (⟨4, [.own 1 (n), .b (slT 2 penB (d.pen)), vI .i64 (d.fuse), vB (d.off)], true⟩), some (rowK .u8 (d.dur))]) [0, 1] (.val _ _ _ _ _ rfl rfl rfl .nil) (.one _) (by rw [e]) (by rw [e])
  · replace hc1 := (bnot_f hc1)
    obtain ⟨j0, j1⟩ := hasS_in hc1 hwh
    refine Vs (Mv rfl) <| Vs (Bi rfl) <| Vs (Pk rfl) <| Vs (Mv rfl) <| Sp 19 rfl (fun hc2 => ?_) (fun hc2 => ?_)
    · replace hc2 := of_decide_eq_true hc2
      have e : d.rotR n s k = (d, 1) := by rw [Dk.rotR, if_pos (.inr (.inl (by omega)))]
      exact Sk rfl <| Sk rfl <| Vs (Pk rfl) <| Nx <| Cy rfl <| Sq <| Rg <| Vs (As rfl) <| Nx <| Re <| Tr <| Gg (L1' := [some (⟨4, [.own 1 (n), .b (slT 2 penB (d.pen)), vI .i64 (d.fuse), vB (d.off)], true⟩), some (rowK .u8 (d.dur))]) [0, 1] (.val _ _ _ _ _ rfl rfl rfl .nil) (.one _) (by rw [e]) (by rw [e])
    · replace hc2 := of_decide_eq_false hc2
      refine Vs (Mv rfl) <| Vs (Bi rfl) <| Vs (Pk rfl) <| Nx <| Cd rfl (fun hc3 => ?_) (fun hc3 => ?_)
      · replace hc3 := of_decide_eq_true hc3
        have e : d.rotR n s k = (d, 1) := by rw [Dk.rotR, if_pos (.inr (.inr (by omega)))]
        exact Sq <| Rg <| Vs (As rfl) <| Nx <| Re <| Tr <| Gg (L1' := [some (⟨4, [.own 1 (n), .b (slT 2 penB (d.pen)), vI .i64 (d.fuse), vB (d.off)], true⟩), some (rowK .u8 (d.dur))]) [0, 1] (.val _ _ _ _ _ rfl rfl rfl .nil) (.one _) (by rw [e]) (by rw [e])
      · replace hc3 := of_decide_eq_false hc3
        have e : d.rotR n s k = ({ d with dur := d.dur.set ((s * 64).toNat + (k / 8).toNat) (flipB (d.dur.getD ((s * 64).toNat + (k / 8).toNat) 0) k) }, 0) := by
          rw [Dk.rotR, if_neg (by rintro (h | h | h) <;> first | omega | (rw [hc1] at h; cases h))]
        refine Ks <| Tg <| Sq <| Rd (by kernel_rfl) <| Vl (Mv rfl) <| Vl (Mv rfl) <| Gl [0, 1] [] [(0, some (⟨4, [.own 1 (n), .b (slT 2 penB (d.pen)), vI .i64 (d.fuse), vB (d.off)], true⟩)), (1, some (rowK .u8 (d.dur)))] rfl (k57 hd hm j0 j1) rfl <| Vl (Mv rfl) <| Vl (Bo rfl quI) <| Vl (Iw TU27 TS5 rfl) <| Vl (LrK TA5 rfl) <| Vl (Mv rfl) <| Vl (Bo rfl reI) <| Vl (Bo (c := .int .u8 (2 ^ ((k % 8)).toNat)) rfl (bop_shl1 (by omega) (by omega))) <| Vl (Bo (c := .int .u8 (((BitVec.ofInt 8 ((d.dur).getD (((s * 64).toNat) + ((k / 8)).toNat) 0) ^^^ BitVec.ofInt 8 (2 ^ ((k % 8)).toNat)).toNat : Int))) rfl (bop_xor8)) <| Vl (Iw TU27 TS5 rfl) <| Vl (SrK TS5 rfl) <| ?_
        refine VLog.nil ⟨by kernel_rfl, ?_⟩
        exact Tg <| Sq <| Rg <| Vs (As rfl) <| Nx <| Re <| Gg (L1' := [some (⟨4, [.own 1 (n), .b (slT 2 penB (d.pen)), vI .i64 (d.fuse), vB (d.off)], true⟩), some (rowK .u8 ((d.dur).set (((s * 64).toNat) + ((k / 8)).toNat) (((BitVec.ofInt 8 ((d.dur).getD (((s * 64).toNat) + ((k / 8)).toNat) 0) ^^^ BitVec.ofInt 8 (2 ^ ((k % 8)).toNat)).toNat : Int))))]) [0, 1] (.val _ _ _ _ _ rfl rfl rfl .nil) (.one _) (by rw [e]) (by rw [e]; rfl)
end Go.VL

/- Walks over the Go functions, printed by a program of this session over the kit's print, and by hand. -/
set_option linter.unusedVariables false
set_option linter.unusedSimpArgs false
set_option maxRecDepth 100000
namespace Go.VL
open Go.Proofs
theorem k19 (a : Ca) (ha : a.Ok) : VF Try.prog 19 [.agg [numB .i64 (a.kind), numB .i64 (a.sector), numB .u8 (a.fill), numB .i64 (a.size), numB .i64 (a.n), slK .i64 (a.keep)]] (slK .u8 (bytM a)) := by
  obtain ⟨hf1, hf2⟩ := ha.fill
  obtain ⟨hs1, hs2⟩ := ha.size
  refine VF_of P_mixed Try.func19 rfl rfl (by kernel_rfl) <| Sq <| Rg <| Vs (Bx 0 rfl) <| Vs (As rfl) <| Nx <| Sq <| Rg <| Vs (An rfl) <| Nx <| Sq <| Sq <| Rg <| Vs (As rfl) <| Nx <| Bk <| VCode.loop (α := ((Unit)) ⊕ ((Nat) × (List Int))) (fun x_ => match x_ with | .inl (u) => (1, sl [(1, .ptr 0 (0)), (3, .b .nil), (4, vI .i64 (0))], en [(0, ⟨6, [vI .i64 (a.kind), vI .i64 (a.sector), vI .u8 (a.fill), vI .i64 (a.size), vI .i64 (a.n), .b (slK .i64 (a.keep))], true⟩)]) | .inr (i, O) => (10, sl [(1, .ptr 0 (0)), (3, .own 9 (i)), (4, vI .i64 ((i : Int)))], en [(0, ⟨6, [vI .i64 (a.kind), vI .i64 (a.sector), vI .u8 (a.fill), vI .i64 (a.size), vI .i64 (a.n), .b (slK .i64 (a.keep))], true⟩), (9, rowK .u8 (O))])) (fun x_ => match x_ with | .inl (u) => True | .inr (i, O) => 1 ≤ i ∧ i ≤ 100 ∧ (i : Int) < a.size + 1 ∧ O = bytL a.fill i) (fun x_ => match x_ with | .inl (u) => 200 | .inr (i, O) => 100 - i) (.inl (())) trivial Wk ?_
  rintro (u | ⟨i, O⟩) hok2
  · change VCode _ _ _ 1 (sl _) (en _) _
    refine Sq <| Sq <| Rg <| Vs (Mv rfl) <| Vs (Fa TF31_3 rfl) <| Vs (Ld TA3 rfl) <| Vs (Bi rfl) <| Vs (Mv rfl) <| Sp 9 rfl (fun hc1 => ?_) (fun hc1 => ?_)
    · replace hc1 := of_decide_eq_true hc1
      exact Vs (Mv rfl) <| Vs (Bi (c := .bool true) rfl) <| Vs (Pk rfl) <| Nx <| Cy rfl <| Ks <| Tg <| Sq <| Bk <| Rg <| Vs (Mv rfl) <| Vs (Fa TF31_2 rfl) <| Vs (Ld TA5 rfl) <| Vs (Mv rfl) <| Vs (Cv TU3 TU5 rfl (wrapM_u8 _)) <| Vs (Bo (c := .int .u8 (((a.fill + ((0) % 256)) % 256))) rfl (bop_add8)) <| Vs (L1s 15 TK27 rfl) <| Vs (Apn 16 TK27 rfl (Rr rfl) (hm := (by simp only [maxLen, List.length_singleton]; omega))) <| Vs (As rfl) <| VList.nil <| Ig <| Tg <| Rg <| Vs (Mv rfl) <| Vs (Bo rfl adI) <| Vs (As rfl) <| VList.nil <| Go (.inr (1, [(a.fill + 0 % 256) % 256])) (by exact ⟨by decide, by omega, by omega, rfl⟩) (Wr [(9, 16)])
    · replace hc1 := of_decide_eq_false hc1
      exact Sk rfl <| Sk rfl <| Vs (Pk rfl) <| Nx <| Cz rfl <| Ke <| Te <| Oe <| Ih <| Tg <| Sq <| Rg <| Vs (Mv rfl) <| Vs (As rfl) <| VList.nil <| Cx (n1 := 0) (S1 := [(2, .b (slK .u8 ([])))]) (L1 := []) (Weak.conv (nv := []) ⟨⟨⟨_, rfl, cv_nil rfl⟩, rfl⟩, trivial⟩ trivial (Nat.le_of_ble_eq_true rfl)) <| Re <| Fi (l := [slK .u8 ([])]) (Rc (resVar_tmp rfl rfl) Rn) (by first | (rw [g4, bytM, ← bytN_of (.inl g3) g2 (by omega)]; rfl) | (rw [bytM, ← bytN_of (i := 0) (.inr rfl) (by decide) (by omega)]; rfl))
  · change VCode _ _ _ 10 (sl _) (en _) _
    obtain ⟨g1, g2, g3, g4⟩ := hok2
    have gl : O.length = i := by rw [g4]; exact bytL_len _ _
    refine Sq <| Sq <| Rg <| Vs (Mv rfl) <| Vs (Fa TF31_3 rfl) <| Vs (Ld TA3 rfl) <| Vs (Bi rfl) <| Vs (Mv rfl) <| Sp 9 rfl (fun hc2 => ?_) (fun hc2 => ?_)
    · replace hc2 := of_decide_eq_true hc2
      refine Vs (Mv rfl) <| Vs (Bi rfl) <| Vs (Pk rfl) <| Nx <| Cd rfl (fun hc3 => ?_) (fun hc3 => ?_)
      · replace hc3 := of_decide_eq_true hc3
        exact Ks <| Tg <| Sq <| Bk <| Rg <| Vs (Mv rfl) <| Vs (Fa TF31_2 rfl) <| Vs (Ld TA5 rfl) <| Vs (Mv rfl) <| Vs (Cv TU3 TU5 rfl (wrapM_u8 _)) <| Vs (Bo (c := .int .u8 (((a.fill + (((i : Int)) % 256)) % 256))) rfl (bop_add8)) <| Vs (L1s 24 TK27 rfl) <| Vs (Ap 25 TK27 rfl (Rr rfl) (hm := (by simp only [maxLen, List.length_singleton]; omega))) <| Vs (As rfl) <| VList.nil <| Ig <| Tg <| Rg <| Vs (Mv rfl) <| Vs (Bo rfl adI) <| Vs (As rfl) <| VList.nil <| Go (.inr (i + 1, (O) ++ ([((a.fill + (((i : Int)) % 256)) % 256)]))) (by exact ⟨by omega, by omega, by omega, by rw [g4]; rfl⟩) (Wr [(9, 25)])
      · replace hc3 := of_decide_eq_false hc3
        exact Ke <| Te <| Oe <| Ih <| Tg <| Sq <| Rg <| Vs (Mv rfl) <| Vs (As rfl) <| Nx <| Re <| Fi (l := [slK .u8 (O)]) (Rc (resVar_tmp rfl (Rr rfl (hl := gl))) Rn) (by first | (rw [g4, bytM, ← bytN_of (.inl g3) g2 (by omega)]; rfl) | (rw [bytM, ← bytN_of (i := 0) (.inr rfl) (by decide) (by omega)]; rfl))
    · replace hc2 := of_decide_eq_false hc2
      exact Sk rfl <| Sk rfl <| Vs (Pk rfl) <| Nx <| Cz rfl <| Ke <| Te <| Oe <| Ih <| Tg <| Sq <| Rg <| Vs (Mv rfl) <| Vs (As rfl) <| Nx <| Re <| Fi (l := [slK .u8 (O)]) (Rc (resVar_tmp rfl (Rr rfl (hl := gl))) Rn) (by first | (rw [g4, bytM, ← bytN_of (.inl g3) g2 (by omega)]; rfl) | (rw [bytM, ← bytN_of (i := 0) (.inr rfl) (by decide) (by omega)]; rfl))
theorem k22 {A B : List Int} (hA : A.length ≤ 100000) (hB : B.length ≤ 100000) : VF Try.prog 22 [slK .u8 (A), slK .u8 (B)] (boolB (eqL A B)) := by
  refine VF_of P_mixed Try.func22 rfl rfl (by kernel_rfl) <| Sq <| Rg <| Vs (As rfl) <| Nx <| Sq <| Sq <| Rg <| Vs (Mv rfl) <| Vs (Ls TK27 rfl) <| Vs (Mv rfl) <| Vs (Ls TK27 rfl) <| Vs (Bi rfl) <| Nx <| Cd rfl (fun hc1 => ?_) (fun hc1 => ?_)
  · replace hc1 := bne_iff_ne.1 hc1
    exact Sq <| Rg <| Vs (As rfl) <| Nx <| Re <| Tr <| Fi (l := [boolB (false)]) (Rc (resVar_tmp rfl rfl) Rn) (by rw [eqL_len (by omega)]; rfl)
  · replace hc1 := bne_eq_false_iff_eq.1 hc1
    refine Ks <| Tg <| Sq <| Sq <| Rg <| Vs (As rfl) <| Nx <| Bk <| VCode.loop (α := (Nat)) (fun i => (0, sl [(0, .b (slK .u8 (A))), (1, .b (slK .u8 (B))), (5, vI .i64 ((i : Int)))], en [])) (fun i => i ≤ A.length ∧ A.take i = B.take i) (fun i => A.length - i) (0) ⟨Nat.zero_le _, rfl⟩ Wk ?_
    intro i hok
    obtain ⟨hi, ht⟩ := hok
    have hll : A.length = B.length := by omega
    change VCode _ _ _ 0 (sl _) (en _) _
    refine Sq <| Sq <| Rg <| Vs (Mv rfl) <| Vs (Mv rfl) <| Vs (Ls TK27 rfl) <| Vs (Bi rfl) <| Nx <| Cd rfl (fun hc2 => ?_) (fun hc2 => ?_)
    · replace hc2 := of_decide_eq_true hc2
      refine Ks <| Tg <| Sq <| Bk <| Sq <| Rd (by kernel_rfl) <| Vl (Mv rfl) <| Vl (Mv rfl) <| Vl (IxN TK27 rfl) <| Vl (Lq TA5 rfl) <| Vl (Mv rfl) <| Vl (Mv rfl) <| Vl (IxN TK27 rfl) <| Vl (Lq TA5 rfl) <| Vl (Bi rfl) <| ?_
      refine VLog.nil ⟨by kernel_rfl, ?_⟩
      refine Tg <| Cd rfl (fun hc3 => ?_) (fun hc3 => ?_)
      · replace hc3 := bne_iff_ne.1 hc3
        exact Sq <| Rg <| Vs (As rfl) <| Nx <| Re <| Iq <| Tr <| Or <| Iq <| Tr <| Fi (l := [boolB (false)]) (Rc (resVar_tmp rfl rfl) Rn) (by rw [eqL_at (by omega) hll hc3]; rfl)
      · replace hc3 := bne_eq_false_iff_eq.1 hc3
        exact Ks <| Ig <| Tg <| Rg <| Vs (Mv rfl) <| Vs (Bo rfl adI) <| Vs (As rfl) <| VList.nil <| Go (i + 1) ⟨by omega, take_snoc' (by omega) hll ht hc3⟩ Wk
    · replace hc2 := of_decide_eq_false hc2
      exact Ke <| Te <| Oe <| Ih <| Tg <| Sq <| Rg <| Vs (As rfl) <| Nx <| Re <| Fi (l := [boolB (true)]) (Rc (resVar_tmp rfl rfl) Rn) (by rw [eqL_all (by omega) hll ht]; rfl)
end Go.VL

/- Walks over the Go functions, printed by a program of this session over the kit's print, and by hand. -/
set_option linter.unusedVariables false
set_option linter.unusedSimpArgs false
set_option maxRecDepth 100000
namespace Go.VL
open Go.Proofs
theorem k23 {n m : Nat} {d : Dk} (hd : d.Ok n m) (hm : m ≤ 100000) {a : Ca} (ha : a.Ok) : VG Try.prog 23 [.ptr 0 (0), .b (.agg [numB .i64 (a.kind), numB .i64 (a.sector), numB .u8 (a.fill), numB .i64 (a.size), numB .i64 (a.n), slK .i64 (a.keep)])] [⟨4, [.own 1 (n), .b (slT 2 penB (d.pen)), vI .i64 (d.fuse), vB (d.off)], true⟩, rowK .u8 (d.dur)] (.b (.agg [slK .u8 (d.doR n a).2.1, numB .i64 (d.doR n a).2.2])) [some (⟨4, [.own 1 (n), .b (slT 2 penB (((d.doR n a).1).pen)), vI .i64 (((d.doR n a).1).fuse), vB (((d.doR n a).1).off)], true⟩), some (rowK .u8 (((d.doR n a).1).dur))] := by
  have hlen := hd.len
  have hlo := hd.lo
  have hhi := hd.hi
  have hwh := hd.whole
  have hpl := hd.pen
  obtain ⟨hf1, hf2⟩ := hd.fu
  refine VGp_of P_mixed Try.func23 rfl rfl (by kernel_rfl) (by simp) rfl <| Sq <| Rg <| Vs (Bx 2 rfl) <| Vs (Al 3 TZ39 rfl) <| Nx <| Sq <| Rg <| Vs (Bd TQ39 rfl) <| Vs (Al 5 TZ39 rfl) <| Vs (StS TS39 rfl) <| Nx <| Sq <| Sq <| Rg <| Vs (Fa TF31_0 rfl) <| Vs (Ld TA3 rfl) <| Nx <| Bk <| Sq <| Rg <| Vs (Bi rfl) <| Vs (As rfl) <| Nx <| Cd rfl (fun hc1 => ?_) (fun hc1 => ?_)
  · replace hc1 := eq_of_beq hc1
    have e : d.doR n a = d.readR n a.sector := by rw [Dk.doR, if_pos hc1]
    exact Rg <| Vs (Mv rfl) <| Vs (Fa TF31_1 rfl) <| Vs (Ld TA3 rfl) <| Gm 14 [0, 1] [] (v := .b (.tup [slK .u8 ((d.readR n (a.sector)).2.1), numB .i64 ((d.readR n (a.sector)).2.2)])) [(0, ⟨4, [.own 1 (n), .b (slT 2 penB (((d.readR n (a.sector)).1).pen)), vI .i64 (((d.readR n (a.sector)).1).fuse), vB (((d.readR n (a.sector)).1).off)], true⟩), (1, rowK .u8 (((d.readR n (a.sector)).1).dur)), (2, ⟨6, [vI .i64 (a.kind), vI .i64 (a.sector), vI .u8 (a.fill), vI .i64 (a.size), vI .i64 (a.n), .b (slK .i64 (a.keep))], true⟩), (3, ⟨2, [vS ([]), vI .i64 (0)], true⟩), (5, ⟨2, [vS ([]), vI .i64 (0)], true⟩)] rfl (k21 hd hm (a.sector)) rfl <| Vs (Mv rfl) <| Vs (Xt rfl) <| Vs (Xt rfl) <| Vs (Fa TF39_0 rfl) <| Vs (St TS27 rfl) <| Vs (Fa TF39_1 rfl) <| Vs (St TS23 rfl) <| VList.nil <| Ig <| Tg <| Sq <| Rg <| Vs (LdS TA39 TS39 rfl) <| Vs (StS TS39 rfl) <| Nx <| Re <| Gg (L1' := [some (⟨4, [.own 1 (n), .b (slT 2 penB (((d.readR n (a.sector)).1).pen)), vI .i64 (((d.readR n (a.sector)).1).fuse), vB (((d.readR n (a.sector)).1).off)], true⟩), some (rowK .u8 (((d.readR n (a.sector)).1).dur))]) [0, 1] (.val _ _ _ _ _ (resV_cellS rfl rfl TA39 TS39 (Nat.le_of_ble_eq_true rfl)) rfl rfl .nil) (.one _) (by rw [e]; try rfl) (by rw [e]; try rfl)
  · replace hc1 := ne_of_beq_false hc1
    refine Sq <| Rg <| Vs (Bi rfl) <| Vs (As rfl) <| Nx <| Cd rfl (fun hc2 => ?_) (fun hc2 => ?_)
    · replace hc2 := eq_of_beq hc2
      have e : d.doR n a = ((d.writeR n a.sector (bytM a)).1, [], (d.writeR n a.sector (bytM a)).2) := by rw [Dk.doR, if_neg hc1, if_pos hc2]
      refine Rd (by kernel_rfl) <| Vl (Mv rfl) <| Vl (Fa TF31_1 rfl) <| Vl (Ld TA3 rfl) <| Vl (LdS TA31 TS31 rfl) <| Vl (C0 rfl rfl (k19 a ha)) <| Gl [0, 1] [] [(0, some (⟨4, [.own 1 (n), .b (slT 2 penB (((d.writeR n (a.sector) (bytM a)).1).pen)), vI .i64 (((d.writeR n (a.sector) (bytM a)).1).fuse), vB (((d.writeR n (a.sector) (bytM a)).1).off)], true⟩)), (1, some (rowK .u8 (((d.writeR n (a.sector) (bytM a)).1).dur)))] rfl (k20 hd hm (a.sector) (b := bytM a) (by have := bytM_len a; omega)) rfl <| Vl (Fa TF39_1 rfl) <| Vl (St TS23 rfl) <| ?_
      refine VLog.nil ⟨by kernel_rfl, ?_⟩
      exact Ig <| Tg <| Sq <| Rg <| Vs (LdS TA39 TS39 rfl) <| Vs (StS TS39 rfl) <| Nx <| Re <| Gg (L1' := [some (⟨4, [.own 1 (n), .b (slT 2 penB (((d.writeR n (a.sector) (bytM a)).1).pen)), vI .i64 (((d.writeR n (a.sector) (bytM a)).1).fuse), vB (((d.writeR n (a.sector) (bytM a)).1).off)], true⟩), some (rowK .u8 (((d.writeR n (a.sector) (bytM a)).1).dur))]) [0, 1] (.val _ _ _ _ _ (resV_cellS rfl rfl TA39 TS39 (Nat.le_of_ble_eq_true rfl)) rfl rfl .nil) (.one _) (by rw [e]; try rfl) (by rw [e]; try rfl)
    · replace hc2 := ne_of_beq_false hc2
      refine Sq <| Rg <| Vs (Bi rfl) <| Vs (As rfl) <| Nx <| Cd rfl (fun hc3 => ?_) (fun hc3 => ?_)
      · replace hc3 := eq_of_beq hc3
        have e : d.doR n a = (d.syncR.1, [], d.syncR.2) := by rw [Dk.doR, if_neg hc1, if_neg hc2, if_pos hc3]
        exact Rg <| Vs (Mv rfl) <| Gm 16 [0, 1] [] (v := vI .i64 (d.syncR.2)) [(0, ⟨4, [.own 1 (n), .b (slT 2 penB ((d.syncR.1).pen)), vI .i64 ((d.syncR.1).fuse), vB ((d.syncR.1).off)], true⟩), (1, rowK .u8 ((d.syncR.1).dur)), (2, ⟨6, [vI .i64 (a.kind), vI .i64 (a.sector), vI .u8 (a.fill), vI .i64 (a.size), vI .i64 (a.n), .b (slK .i64 (a.keep))], true⟩), (3, ⟨2, [vS ([]), vI .i64 (0)], true⟩), (5, ⟨2, [vS ([]), vI .i64 (0)], true⟩)] rfl (k25 hd hm) rfl <| Vs (Fa TF39_1 rfl) <| Vs (St TS23 rfl) <| VList.nil <| Ig <| Tg <| Sq <| Rg <| Vs (LdS TA39 TS39 rfl) <| Vs (StS TS39 rfl) <| Nx <| Re <| Gg (L1' := [some (⟨4, [.own 1 (n), .b (slT 2 penB ((d.syncR.1).pen)), vI .i64 ((d.syncR.1).fuse), vB ((d.syncR.1).off)], true⟩), some (rowK .u8 ((d.syncR.1).dur))]) [0, 1] (.val _ _ _ _ _ (resV_cellS rfl rfl TA39 TS39 (Nat.le_of_ble_eq_true rfl)) rfl rfl .nil) (.one _) (by rw [e]; try rfl) (by rw [e]; try rfl)
      · replace hc3 := ne_of_beq_false hc3
        refine Sq <| Rg <| Vs (Bi rfl) <| Vs (As rfl) <| Nx <| Cd rfl (fun hc4 => ?_) (fun hc4 => ?_)
        · replace hc4 := eq_of_beq hc4
          have e : d.doR n a = (d.fuseR a.n, [], 0) := by rw [Dk.doR, if_neg hc1, if_neg hc2, if_neg hc3, if_pos hc4]
          exact Rg <| Vs (Mv rfl) <| Vs (Fa TF31_4 rfl) <| Vs (Ld TA3 rfl) <| Gm 20 [0, 1] [] (v := .b (.tup [])) [(0, ⟨4, [.own 1 (n), .b (slT 2 penB ((d.fuseR (a.n)).pen)), vI .i64 ((d.fuseR (a.n)).fuse), vB ((d.fuseR (a.n)).off)], true⟩), (1, rowK .u8 ((d.fuseR (a.n)).dur)), (2, ⟨6, [vI .i64 (a.kind), vI .i64 (a.sector), vI .u8 (a.fill), vI .i64 (a.size), vI .i64 (a.n), .b (slK .i64 (a.keep))], true⟩), (3, ⟨2, [vS ([]), vI .i64 (0)], true⟩), (5, ⟨2, [vS ([]), vI .i64 (0)], true⟩)] rfl (k37 hd hm (a.n)) rfl <| VList.nil <| Ig <| Tg <| Sq <| Rg <| Vs (LdS TA39 TS39 rfl) <| Vs (StS TS39 rfl) <| Nx <| Re <| Gg (L1' := [some (⟨4, [.own 1 (n), .b (slT 2 penB ((d.fuseR (a.n)).pen)), vI .i64 ((d.fuseR (a.n)).fuse), vB ((d.fuseR (a.n)).off)], true⟩), some (rowK .u8 ((d.fuseR (a.n)).dur))]) [0, 1] (.val _ _ _ _ _ (resV_cellS rfl rfl TA39 TS39 (Nat.le_of_ble_eq_true rfl)) rfl rfl .nil) (.one _) (by rw [e]; try rfl) (by rw [e]; try rfl)
        · replace hc4 := ne_of_beq_false hc4
          refine Sq <| Rg <| Vs (Bi rfl) <| Vs (As rfl) <| Nx <| Cd rfl (fun hc5 => ?_) (fun hc5 => ?_)
          · replace hc5 := eq_of_beq hc5
            have e : d.doR n a = (d.bootR a.keep a.n, [], 0) := by rw [Dk.doR, if_neg hc1, if_neg hc2, if_neg hc3, if_neg hc4, if_pos hc5]
            exact Rg <| Vs (Mv rfl) <| Vs (Fa TF31_5 rfl) <| Vs (Ld TA29 rfl) <| Vs (Fa TF31_4 rfl) <| Vs (Ld TA3 rfl) <| Gm 24 [0, 1] [] (v := .b (.tup [])) [(0, ⟨4, [.own 1 (n), .b (slT 2 penB ((d.bootR (a.keep) (a.n)).pen)), vI .i64 ((d.bootR (a.keep) (a.n)).fuse), vB ((d.bootR (a.keep) (a.n)).off)], true⟩), (1, rowK .u8 ((d.bootR (a.keep) (a.n)).dur)), (2, ⟨6, [vI .i64 (a.kind), vI .i64 (a.sector), vI .u8 (a.fill), vI .i64 (a.size), vI .i64 (a.n), .b (slK .i64 (a.keep))], true⟩), (3, ⟨2, [vS ([]), vI .i64 (0)], true⟩), (5, ⟨2, [vS ([]), vI .i64 (0)], true⟩)] rfl (k24 hd hm (keep := a.keep) (ha.keep) (a.n)) rfl <| VList.nil <| Ig <| Tg <| Sq <| Rg <| Vs (LdS TA39 TS39 rfl) <| Vs (StS TS39 rfl) <| Nx <| Re <| Gg (L1' := [some (⟨4, [.own 1 (n), .b (slT 2 penB ((d.bootR (a.keep) (a.n)).pen)), vI .i64 ((d.bootR (a.keep) (a.n)).fuse), vB ((d.bootR (a.keep) (a.n)).off)], true⟩), some (rowK .u8 ((d.bootR (a.keep) (a.n)).dur))]) [0, 1] (.val _ _ _ _ _ (resV_cellS rfl rfl TA39 TS39 (Nat.le_of_ble_eq_true rfl)) rfl rfl .nil) (.one _) (by rw [e]; try rfl) (by rw [e]; try rfl)
          · replace hc5 := ne_of_beq_false hc5
            refine Sq <| Rg <| Vs (Bi rfl) <| Vs (As rfl) <| Nx <| Cd rfl (fun hc6 => ?_) (fun hc6 => ?_)
            · replace hc6 := eq_of_beq hc6
              have e : d.doR n a = ((d.rotR n a.sector a.n).1, [], (d.rotR n a.sector a.n).2) := by rw [Dk.doR, if_neg hc1, if_neg hc2, if_neg hc3, if_neg hc4, if_neg hc5, if_pos hc6]
              exact Rg <| Vs (Mv rfl) <| Vs (Fa TF31_1 rfl) <| Vs (Ld TA3 rfl) <| Vs (Fa TF31_4 rfl) <| Vs (Ld TA3 rfl) <| Gm 26 [0, 1] [] (v := vI .i64 ((d.rotR n (a.sector) (a.n)).2)) [(0, ⟨4, [.own 1 (n), .b (slT 2 penB (((d.rotR n (a.sector) (a.n)).1).pen)), vI .i64 (((d.rotR n (a.sector) (a.n)).1).fuse), vB (((d.rotR n (a.sector) (a.n)).1).off)], true⟩), (1, rowK .u8 (((d.rotR n (a.sector) (a.n)).1).dur)), (2, ⟨6, [vI .i64 (a.kind), vI .i64 (a.sector), vI .u8 (a.fill), vI .i64 (a.size), vI .i64 (a.n), .b (slK .i64 (a.keep))], true⟩), (3, ⟨2, [vS ([]), vI .i64 (0)], true⟩), (5, ⟨2, [vS ([]), vI .i64 (0)], true⟩)] rfl (k38 hd hm (a.sector) (a.n)) rfl <| Vs (Fa TF39_1 rfl) <| Vs (St TS23 rfl) <| VList.nil <| Ig <| Tg <| Sq <| Rg <| Vs (LdS TA39 TS39 rfl) <| Vs (StS TS39 rfl) <| Nx <| Re <| Gg (L1' := [some (⟨4, [.own 1 (n), .b (slT 2 penB (((d.rotR n (a.sector) (a.n)).1).pen)), vI .i64 (((d.rotR n (a.sector) (a.n)).1).fuse), vB (((d.rotR n (a.sector) (a.n)).1).off)], true⟩), some (rowK .u8 (((d.rotR n (a.sector) (a.n)).1).dur))]) [0, 1] (.val _ _ _ _ _ (resV_cellS rfl rfl TA39 TS39 (Nat.le_of_ble_eq_true rfl)) rfl rfl .nil) (.one _) (by rw [e]; try rfl) (by rw [e]; try rfl)
            · replace hc6 := ne_of_beq_false hc6
              have e : d.doR n a = (d, [], 0) := by rw [Dk.doR, if_neg hc1, if_neg hc2, if_neg hc3, if_neg hc4, if_neg hc5, if_neg hc6]
              exact Ks <| Ig <| Tg <| Sq <| Rg <| Vs (LdS TA39 TS39 rfl) <| Vs (StS TS39 rfl) <| Nx <| Re <| Gg (L1' := [some (⟨4, [.own 1 (n), .b (slT 2 penB (d.pen)), vI .i64 (d.fuse), vB (d.off)], true⟩), some (rowK .u8 (d.dur))]) [0, 1] (.val _ _ _ _ _ (resV_cellS rfl rfl TA39 TS39 (Nat.le_of_ble_eq_true rfl)) rfl rfl .nil) (.one _) (by rw [e]; try rfl) (by rw [e]; try rfl)
end Go.VL

/- Walks over the Go functions, printed by a program of this session over the kit's print, and by hand. -/
set_option linter.unusedVariables false
set_option linter.unusedSimpArgs false
set_option maxRecDepth 100000
namespace Go.VL
open Go.Proofs
theorem g18  : VF Try.prog 18 [] (boolB true) := by
  exact VF_of P_mixed Try.func18 rfl rfl (by kernel_rfl) <| Sq <| Rg <| Vs (As rfl) <| Nx <| Sq <| Rg <| Gm 1 [] [] (v := .tup [.ptr 1 (0), vI .i64 (0)]) [(1, ⟨4, [.own 2 (128), .b (slT 2 penB ((newD 2).pen)), vI .i64 ((newD 2).fuse), vB ((newD 2).off)], true⟩), (2, rowK .u8 ((newD 2).dur))] rfl (k17 2 (by decide) (by decide)) rfl <| Vs (Mv rfl) <| Vs (Xv rfl) <| Vs (Xv rfl) <| Vs (As rfl) <| Vs (As rfl) <| Nx <| Sq <| Rg <| Vs (Cf rfl rfl (k17i 0 (.inl (by decide))) rfl) <| Vs (Mv rfl) <| Vs (Xt rfl) <| Vs (Xt rfl) <| Vs (As rfl) <| Vs (As rfl) <| Nx <| Sq <| Sq <| Rg <| Vs (Mv rfl) <| Vs (Bi (c := .bool false) rfl) <| Vs (Mv rfl) <| Vs (Mv rfl) <| Vs (Bi (c := .bool false) rfl) <| Vs (Pk rfl) <| Vs (Mv rfl) <| Vs (Mv rfl) <| Vs (Pe TU22 rfl) <| Vs (Pk rfl) <| Nx <| Cz rfl <| Ks <| Tg <| Sq <| Rg <| Vs (Bd TQ31 rfl) <| Vs (C0 rfl rfl (k19 ⟨0, 0, 97, 64, 0, []⟩ ⟨by decide, by decide, by decide, by decide⟩)) <| Vs (As rfl) <| Nx <| Sq <| Rg <| Vs (Bd TQ31 rfl) <| Vs (C0 rfl rfl (k19 ⟨0, 0, 7, 64, 0, []⟩ ⟨by decide, by decide, by decide, by decide⟩)) <| Vs (As rfl) <| Nx <| Sq <| Rg <| Vs (Mv rfl) <| Vs (Mv rfl) <| Gm 33 [1, 2] [] (v := vI .i64 (((newD 2).writeR 128 0 wA).2)) [(1, ⟨4, [.own 2 (128), .b (slT 2 penB (wd1.pen)), vI .i64 (wd1.fuse), vB (wd1.off)], true⟩), (2, rowK .u8 (wd1.dur))] rfl (k20 wd0_ok (by decide) 0 (b := wA) (by decide)) rfl <| Vs (As rfl) <| Nx <| Sq <| Rg <| Vs (Mv rfl) <| Gm 36 [1, 2] [] (v := vI .i64 (wd1.syncR.2)) [(1, ⟨4, [.own 2 (128), .b (slT 2 penB (wd2.pen)), vI .i64 (wd2.fuse), vB (wd2.off)], true⟩), (2, rowK .u8 (wd2.dur))] rfl (k25 wd1_ok (by decide)) rfl <| Vs (As rfl) <| Nx <| Sq <| Rg <| Vs (Mv rfl) <| Vs (Mv rfl) <| Gm 40 [1, 2] [] (v := vI .i64 ((wd2.writeR 128 0 wB).2)) [(1, ⟨4, [.own 2 (128), .b (slT 2 penB (wd3.pen)), vI .i64 (wd3.fuse), vB (wd3.off)], true⟩), (2, rowK .u8 (wd3.dur))] rfl (k20 wd2_ok (by decide) 0 (b := wB) (by decide)) rfl <| Vs (As rfl) <| Nx <| Sq <| Rg <| Vs (Mv rfl) <| Gm 43 [1, 2] [] (v := .b (.tup [slK .u8 (wX), numB .i64 ((wd3.readR 128 0).2.2)])) [(1, ⟨4, [.own 2 (128), .b (slT 2 penB (wd4.pen)), vI .i64 (wd4.fuse), vB (wd4.off)], true⟩), (2, rowK .u8 (wd4.dur))] rfl (k21 wd3_ok (by decide) 0) rfl <| Vs (Mv rfl) <| Vs (Xt rfl) <| Vs (Xt rfl) <| Vs (As rfl) <| Vs (As rfl) <| Nx <| Sq <| Rg <| Vs (Mv rfl) <| Vs (L1s 50 TK29 rfl) <| Gm 51 [1, 2] [50] (v := .b (.tup [])) [(1, ⟨4, [.own 2 (128), .b (slT 2 penB (wd5.pen)), vI .i64 (wd5.fuse), vB (wd5.off)], true⟩), (2, rowK .u8 (wd5.dur))] rfl (k24 wd4_ok (by decide) (keep := [0]) (by decide) 3) rfl <| Nx <| Sq <| Rg <| Vs (Mv rfl) <| Gm 53 [1, 2] [] (v := .b (.tup [slK .u8 (wY), numB .i64 ((wd5.readR 128 0).2.2)])) [(1, ⟨4, [.own 2 (128), .b (slT 2 penB (wd6.pen)), vI .i64 (wd6.fuse), vB (wd6.off)], true⟩), (2, rowK .u8 (wd6.dur))] rfl (k21 wd5_ok (by decide) 0) rfl <| Vs (Mv rfl) <| Vs (Xt rfl) <| Vs (Xt rfl) <| Vs (As rfl) <| Vs (As rfl) <| Nx <| Sq <| Rg <| Vs (Mv rfl) <| Vs (Kb (show (((newD 2).writeR 128 0 wA).2 == 0) = true from (beq_iff_eq.2 w1)) (Bi rfl)) <| Vs (Mv rfl) <| Vs (Mv rfl) <| Vs (Kb (show (wd1.syncR.2 == 0) = true from (beq_iff_eq.2 w2)) (Bi rfl)) <| Vs (Pk rfl) <| Vs (Mv rfl) <| Vs (Mv rfl) <| Vs (Kb (show ((wd2.writeR 128 0 wB).2 == 0) = true from (beq_iff_eq.2 w3)) (Bi rfl)) <| Vs (Pk rfl) <| Vs (Mv rfl) <| Vs (Mv rfl) <| Vs (Kb (show ((wd3.readR 128 0).2.2 == 0) = true from (beq_iff_eq.2 w4)) (Bi rfl)) <| Vs (Pk rfl) <| Vs (Mv rfl) <| Vs (Mv rfl) <| Vs (Mv rfl) <| Vs (Kb (show (eqL wX wB) = true from w5) (Cf rfl rfl (k22 (Nat.le_trans wX_len (by decide)) (by decide)) rfl)) <| Vs (Pk rfl) <| Vs (Mv rfl) <| Vs (Mv rfl) <| Vs (Kb (show ((wd5.readR 128 0).2.2 == 0) = true from (beq_iff_eq.2 w6)) (Bi rfl)) <| Vs (Pk rfl) <| Vs (Mv rfl) <| Vs (Mv rfl) <| Vs (Ls TK27 rfl) <| Vs (Kb (show (((wY).length : Int) == 64) = true from (by rw [w7]; rfl)) (Bi rfl)) <| Vs (Pk rfl) <| Vs (Mv rfl) <| Vs (Mv rfl) <| Vs (IxN (q := 2) TK27 rfl (h1 := (by rw [w7]; decide))) <| Vs (Lq TA5 rfl) <| Vs (Kb (show ((wY).getD 2 0 == 9) = true from (beq_iff_eq.2 w8)) (Bi rfl)) <| Vs (Pk rfl) <| Vs (Mv rfl) <| Vs (Mv rfl) <| Vs (IxN (q := 3) TK27 rfl (h1 := (by rw [w7]; decide))) <| Vs (Lq TA5 rfl) <| Vs (Kb (show ((wY).getD 3 0 == 100) = true from (beq_iff_eq.2 w9)) (Bi rfl)) <| Vs (Pk rfl) <| Vs (As rfl) <| Nx <| Re <| Fi (l := [boolB (true)]) (Rc (resVar_tmp rfl rfl) Rn) rfl
end Go.VL

/- Walks over the Go functions, printed by a program of this session over the kit's print, and by hand. -/
set_option linter.unusedVariables false
set_option linter.unusedSimpArgs false
set_option maxRecDepth 100000
namespace Go.VL
open Go.Proofs
theorem k17z (z : Nat) (h0 : 1 ≤ z) (h1 : z ≤ 1024) : VG Try.prog 17 [vI .i64 (z : Int)] [] (.tup [.ptr 0 0, vI .i64 0]) [some (⟨4, [.own 1 ((z * 64)), .b (slT 2 penB ((newD z).pen)), vI .i64 ((newD z).fuse), vB ((newD z).off)], true⟩), some (rowK .u8 ((newD z).dur))] := by
  have h := k17 (z : Int) (by omega) (by omega)
  have e : ((z : Int) * 64).toNat = z * 64 := by omega
  rw [e] at h
  exact h
section
variable {n m : Nat} {d : Dk}
theorem k21s (hd : d.Ok n m) (hm : m ≤ 100000) (h0 : d.off = false) (h1 : d.fuse = -1) (s : Int) (hs : hasS n s = true) : VG Try.prog 21 [.ptr 0 0, vI .i64 s] [⟨4, [.own 1 (n), .b (slT 2 penB (d.pen)), vI .i64 (d.fuse), vB (d.off)], true⟩, rowK .u8 (d.dur)] (.b (.tup [slK .u8 (rdS d s), numB .i64 0])) [some (⟨4, [.own 1 (n), .b (slT 2 penB (d.pen)), vI .i64 (d.fuse), vB (d.off)], true⟩), some (rowK .u8 (d.dur))] := by
  have h := k21 hd hm s
  rw [read_up h0 h1 hs] at h
  exact h
theorem k25b (hd : d.Ok n m) (hm : m ≤ 100000) (keep : List Int) (torn : Int) : VG Try.prog 25 [.ptr 0 0] [⟨4, [.own 1 (n), .b (slT 2 penB ((d.bootR keep torn).pen)), vI .i64 ((d.bootR keep torn).fuse), vB ((d.bootR keep torn).off)], true⟩, rowK .u8 ((d.bootR keep torn).dur)] (vI .i64 0) [some (⟨4, [.own 1 (n), .b (slT 2 penB ((d.bootR keep torn).pen)), vI .i64 ((d.bootR keep torn).fuse), vB ((d.bootR keep torn).off)], true⟩), some (rowK .u8 ((d.bootR keep torn).dur))] := by
  have h := k25 (hd.boot keep torn) hm
  rw [boot_sync] at h
  exact h
end
theorem k26 {z m : Nat} {d : Dk} (hd : d.Ok (z * 64) m) (hm : m ≤ 100000) (h0 : d.off = false) (h1 : d.fuse = -1) (hz : 1 ≤ z) : VG Try.prog 26 [.ptr 0 (0), vI .i64 ((z : Int))] [⟨4, [.own 1 ((z * 64)), .b (slT 2 penB (d.pen)), vI .i64 (d.fuse), vB (d.off)], true⟩, rowK .u8 (d.dur)] (.b (slT 1 rwB (alL d z))) [some (⟨4, [.own 1 ((z * 64)), .b (slT 2 penB (d.pen)), vI .i64 (d.fuse), vB (d.off)], true⟩), some (rowK .u8 (d.dur))] := by
  have hhi := hd.hi
  refine VGp_of P_mixed Try.func26 rfl rfl (by kernel_rfl) (by simp) rfl <| Sq <| Rg <| Vs (As rfl) <| Nx <| Sq <| Rg <| Vs (An rfl) <| Nx <| Sq <| Sq <| Rg <| Vs (As rfl) <| Nx <| Bk <| VCode.loop (α := ((Unit)) ⊕ ((Nat) × (List (List Int)))) (fun x_ => match x_ with | .inl (u) => (2, sl [(0, .ptr 0 (0)), (1, vI .i64 ((z : Int))), (5, .b .nil), (6, vI .i64 (0))], en [(0, ⟨4, [.own 1 ((z * 64)), .b (slT 2 penB (d.pen)), vI .i64 (d.fuse), vB (d.off)], true⟩), (1, rowK .u8 (d.dur))]) | .inr (i, M) => (10, sl [(0, .ptr 0 (0)), (1, vI .i64 ((z : Int))), (5, .own 9 (i)), (6, vI .i64 ((i : Int)))], en [(0, ⟨4, [.own 1 ((z * 64)), .b (slT 2 penB (d.pen)), vI .i64 (d.fuse), vB (d.off)], true⟩), (1, rowK .u8 (d.dur)), (9, rowT 1 rwB (M))])) (fun x_ => match x_ with | .inl (u) => True | .inr (i, M) => 1 ≤ i ∧ i ≤ z ∧ M = alL d i) (fun x_ => match x_ with | .inl (u) => 2000 | .inr (i, M) => 1025 - i) (.inl (())) trivial Wk ?_
  rintro (u | ⟨i, M⟩) hok2
  · change VCode _ _ _ 2 (sl _) (en _) _
    refine Sq <| Sq <| Rg <| Vs (Mv rfl) <| Vs (Mv rfl) <| Vs (Bi rfl) <| Nx <| Cd rfl (fun hc1 => ?_) (fun hc1 => ?_)
    · replace hc1 := of_decide_eq_true hc1
      exact Ks <| Tg <| Sq <| Bk <| Sq <| Rg <| Vs (Mv rfl) <| Vs (Mv rfl) <| Gm 7 [0, 1] [] (v := .b (.tup [slK .u8 (rdS d 0), numB .i64 (0)])) [(0, ⟨4, [.own 1 ((z * 64)), .b (slT 2 penB (d.pen)), vI .i64 (d.fuse), vB (d.off)], true⟩), (1, rowK .u8 (d.dur))] rfl (k21s hd hm h0 h1 0 (hasS_of (by omega) (by omega))) rfl <| Vs (Mv rfl) <| Vs (Xt rfl) <| Vs (Xt rfl) <| Vs (As rfl) <| Vs (As rfl) <| Nx <| Rg <| Vs (Mv rfl) <| Vs (Mv rfl) <| Vs (sq1 15 rfl (.buildS _ 1 _ 27 [.b (slK .u8 (rdS d 0))] 1 _ [.b (slK .u8 (rdS d 0))] rfl TU43 TZ27 TS27 (List.cons_ne_nil _ _) (by decide) rfl rfl)) <| Vs (An1 16 TU43 TS27 TB27 TN27 (x1 := rdS d 0) (f := rwB) rfl rwB_len) <| Vs (As rfl) <| VList.nil <| Ig <| Tg <| Rg <| Vs (Mv rfl) <| Vs (Bo rfl adI) <| Vs (As rfl) <| VList.nil <| Go (.inr (1, [rdS d 0])) (by exact ⟨by decide, by omega, rfl⟩) (Wt [(9, 16)])
    · replace hc1 := of_decide_eq_false hc1
      exfalso; omega
  · change VCode _ _ _ 10 (sl _) (en _) _
    obtain ⟨g1, g2, g3⟩ := hok2
    have gl : M.length = i := by rw [g3]; exact alL_len _
    refine Sq <| Sq <| Rg <| Vs (Mv rfl) <| Vs (Mv rfl) <| Vs (Bi rfl) <| Nx <| Cd rfl (fun hc2 => ?_) (fun hc2 => ?_)
    · replace hc2 := of_decide_eq_true hc2
      exact Ks <| Tg <| Sq <| Bk <| Sq <| Rg <| Vs (Mv rfl) <| Vs (Mv rfl) <| Gm 15 [0, 1] [] (v := .b (.tup [slK .u8 (rdS d ((i : Int))), numB .i64 (0)])) [(0, ⟨4, [.own 1 ((z * 64)), .b (slT 2 penB (d.pen)), vI .i64 (d.fuse), vB (d.off)], true⟩), (1, rowK .u8 (d.dur)), (9, rowT 1 rwB (M))] rfl (k21s hd hm h0 h1 ((i : Int)) (hasS_of (by omega) (by omega))) rfl <| Vs (Mv rfl) <| Vs (Xt rfl) <| Vs (Xt rfl) <| Vs (As rfl) <| Vs (As rfl) <| Nx <| Rg <| Vs (Mv rfl) <| Vs (Mv rfl) <| Vs (sq1 23 rfl (.buildS _ 1 _ 27 [.b (slK .u8 (rdS d ((i : Int))))] 1 _ [.b (slK .u8 (rdS d ((i : Int))))] rfl TU43 TZ27 TS27 (List.cons_ne_nil _ _) (by decide) rfl rfl)) <| Vs (Ao1 24 TU43 TS27 TB27 TN27 (x1 := rdS d ((i : Int))) (f := rwB) rfl rwB_len) <| Vs (As rfl) <| VList.nil <| Ig <| Tg <| Rg <| Vs (Mv rfl) <| Vs (Bo rfl adI) <| Vs (As rfl) <| VList.nil <| Go (.inr (i + 1, (M) ++ [rdS d ((i : Int))])) (by exact ⟨by omega, by omega, by rw [g3]; rfl⟩) (Wt [(9, 24)])
    · replace hc2 := of_decide_eq_false hc2
      exact Ke <| Te <| Oe <| Ih <| Tg <| Sq <| Rg <| Vs (Mv rfl) <| Vs (As rfl) <| Nx <| Re <| Gg (L1' := [some (⟨4, [.own 1 ((z * 64)), .b (slT 2 penB (d.pen)), vI .i64 (d.fuse), vB (d.off)], true⟩), some (rowK .u8 (d.dur))]) [0, 1] (.val _ _ _ _ _ rfl (res_rowT rwB_len rfl (by first | omega | (simp; done) | (simp; omega))) rfl .nil) (.one _) (by rw [g3, show i = z by omega]) rfl
end Go.VL

/- Walks over the Go functions, printed by a program of this session over the kit's print, and by hand. -/
set_option linter.unusedVariables false
set_option linter.unusedSimpArgs false
set_option maxRecDepth 100000
namespace Go.VL
open Go.Proofs
theorem g4 (k0 : Int) (x0 : -9223372036854775808 ≤ k0) (y0 : k0 ≤ 9223372036854775807) (A : List Ca) (oA : ∀ a ∈ A, a.Ok) (lA : A.length ≤ 9223372036854775807) (A2 : List Ca) (oA2 : ∀ a ∈ A2, a.Ok) (lA2 : A2.length ≤ 9223372036854775807) (c : Ca) (oc : c.Ok) : VF Try.prog 4 [numB .i64 (k0), slT 6 caB (A), slT 6 caB (A2), .agg [numB .i64 (c.kind), numB .i64 (c.sector), numB .u8 (c.fill), numB .i64 (c.size), numB .i64 (c.n), slK .i64 (c.keep)]] (boolB true) := by
  have h7 : 0 ≤ andB k0 7 ∧ andB k0 7 ≤ 7 := andB_le k0 7 (by decide)
  obtain ⟨z, hz⟩ : ∃ z : Nat, 1 + andB k0 7 = (z : Int) := ⟨(1 + andB k0 7).toNat, by omega⟩
  have hz1 : 1 ≤ z := by omega
  have hz8 : z ≤ 8 := by omega
  refine VF_of P_mixed Try.func4 rfl rfl (by kernel_rfl) <| Sq <| Rg <| Vs (Bx 0 rfl) <| Vs (As rfl) <| Nx <| Sq <| Rg <| Vs (Mv rfl) <| Vs (Bo (c := .int .i64 ((andB k0 7))) rfl (bop_andI)) <| Vs (Bo (c := .int .i64 ((z : Int))) rfl (by rw [bop_add_i64 (by omega), hz])) <| Vs (As rfl) <| Nx <| Sq <| Rg <| Vs (Mv rfl) <| Gm 7 [] [] (v := .tup [.ptr 7 (0), vI .i64 (0)]) [(0, ⟨6, [vI .i64 (c.kind), vI .i64 (c.sector), vI .u8 (c.fill), vI .i64 (c.size), vI .i64 (c.n), .b (slK .i64 (c.keep))], true⟩), (7, ⟨4, [.own 8 ((z * 64)), .b (slT 2 penB ((newD z).pen)), vI .i64 ((newD z).fuse), vB ((newD z).off)], true⟩), (8, rowK .u8 ((newD z).dur))] rfl (k17z z hz1 (by omega)) rfl <| Vs (Mv rfl) <| Vs (Xv rfl) <| Vs (Xv rfl) <| Vs (As rfl) <| Vs (As rfl) <| Nx <| Sq <| Sq <| Rg <| Vs (Cf rfl rfl (g18) rfl) <| Vs (Un rfl) <| Vs (Mv rfl) <| Vs (Mv rfl) <| Vs (Bi (c := .bool false) rfl) <| Vs (Pk rfl) <| Vs (Mv rfl) <| Vs (Mv rfl) <| Vs (Pe TU22 rfl) <| Vs (Pk rfl) <| Nx <| Cz rfl <| Ks <| Tg <| VCode.join (α := (Nat) × (Dk)) (fun x_ => match x_ with | (i, d) => (9, sl [(2, .b (slT 6 caB (A2))), (7, .ptr 0 (0)), (9, vI .i64 ((z : Int))), (10, .ptr 7 (0))], en [(0, ⟨6, [vI .i64 (c.kind), vI .i64 (c.sector), vI .u8 (c.fill), vI .i64 (c.size), vI .i64 (c.n), .b (slK .i64 (c.keep))], true⟩), (7, ⟨4, [.own 8 ((z * 64)), .b (slT 2 penB (d.pen)), vI .i64 (d.fuse), vB (d.off)], true⟩), (8, rowK .u8 (d.dur))])) (fun x_ => match x_ with | (i, d) => i ≤ 40 ∧ d.Ok (z * 64) i) ?_ ?_
  · skip
    refine Sq <| Rg <| Vs (As rfl) <| Nx <| Bk <| VCode.loop (α := (Nat) × (Dk)) (fun x_ => match x_ with | (i, d) => (9, sl [(1, .b (slT 6 caB (A))), (2, .b (slT 6 caB (A2))), (7, .ptr 0 (0)), (9, vI .i64 ((z : Int))), (10, .ptr 7 (0)), (12, vI .i64 ((i : Int)))], en [(0, ⟨6, [vI .i64 (c.kind), vI .i64 (c.sector), vI .u8 (c.fill), vI .i64 (c.size), vI .i64 (c.n), .b (slK .i64 (c.keep))], true⟩), (7, ⟨4, [.own 8 ((z * 64)), .b (slT 2 penB (d.pen)), vI .i64 (d.fuse), vB (d.off)], true⟩), (8, rowK .u8 (d.dur))])) (fun x_ => match x_ with | (i, d) => i ≤ 40 ∧ d.Ok (z * 64) i) (fun x_ => match x_ with | (i, d) => 40 - i) (0, newD z) ⟨by omega, newD_ok hz1 (by omega)⟩ Wk ?_
    rintro ⟨i, d⟩ hok
    obtain ⟨hi, hd⟩ := hok
    change VCode _ _ _ 9 (sl _) (en _) _
    refine Sq <| Sq <| Rg <| Vs (Mv rfl) <| Vs (Mv rfl) <| Vs (Lst caB_len TU37 rfl) <| Vs (Bi rfl) <| Vs (Mv rfl) <| Sp 41 rfl (fun hc1 => ?_) (fun hc1 => ?_)
    · replace hc1 := of_decide_eq_true hc1
      refine Vs (Mv rfl) <| Vs (Bi rfl) <| Vs (Pk rfl) <| Nx <| Cd rfl (fun hc2 => ?_) (fun hc2 => ?_)
      · replace hc2 := of_decide_eq_true hc2
        exact Ks <| Tg <| Sq <| Bk <| Rg <| Vs (Mv rfl) <| Vs (Mv rfl) <| Vs (Mv rfl) <| Vs (IxT caB_len TU37 TS31 rfl (by first | omega | (simp; done) | (simp; omega)) (gd (d := a0) (j := i) (by first | omega | (simp; done) | (simp; omega))) rfl) <| Vs (LqS TA31 TS31 rfl) <| Gm 22 [7, 8] [] (v := .b (.agg [slK .u8 ((d.doR (z * 64) ((A).getD (i) a0)).2.1), numB .i64 ((d.doR (z * 64) ((A).getD (i) a0)).2.2)])) [(0, ⟨6, [vI .i64 (c.kind), vI .i64 (c.sector), vI .u8 (c.fill), vI .i64 (c.size), vI .i64 (c.n), .b (slK .i64 (c.keep))], true⟩), (7, ⟨4, [.own 8 ((z * 64)), .b (slT 2 penB (((d.doR (z * 64) ((A).getD (i) a0)).1).pen)), vI .i64 (((d.doR (z * 64) ((A).getD (i) a0)).1).fuse), vB (((d.doR (z * 64) ((A).getD (i) a0)).1).off)], true⟩), (8, rowK .u8 (((d.doR (z * 64) ((A).getD (i) a0)).1).dur))] rfl (k23 hd (by omega) (oA _ (getD_mem' (x := a0) (show i < A.length by omega)))) rfl <| VList.nil <| Ig <| Tg <| Rg <| Vs (Mv rfl) <| Vs (Bo rfl adI) <| Vs (As rfl) <| VList.nil <| Go (i + 1, (d.doR (z * 64) ((A).getD (i) a0)).1) ⟨by omega, hd.does (oA _ (getD_mem' (x := a0) (show i < A.length by omega)))⟩ Wk
      · replace hc2 := of_decide_eq_false hc2
        exact Ke <| Te <| Oe <| Ih <| Jg (i, d) ⟨hi, hd⟩ Wk
    · replace hc1 := of_decide_eq_false hc1
      exact Sk rfl <| Sk rfl <| Vs (Pk rfl) <| Nx <| Cz rfl <| Ke <| Te <| Oe <| Ih <| Jg (i, d) ⟨hi, hd⟩ Wk
  · rintro ⟨i, d⟩ hokJ
    obtain ⟨hi, hd⟩ := hokJ
    change VCode _ _ _ 9 (sl _) (en _) _
    refine Sq <| Rg <| Vs (Mv rfl) <| Gm 10 [7, 8] [] (v := .b (.tup [])) [(0, ⟨6, [vI .i64 (c.kind), vI .i64 (c.sector), vI .u8 (c.fill), vI .i64 (c.size), vI .i64 (c.n), .b (slK .i64 (c.keep))], true⟩), (7, ⟨4, [.own 8 ((z * 64)), .b (slT 2 penB ((d.bootR ([]) 0).pen)), vI .i64 ((d.bootR ([]) 0).fuse), vB ((d.bootR ([]) 0).off)], true⟩), (8, rowK .u8 ((d.bootR ([]) 0).dur))] rfl (k24 hd (by omega) (keep := []) (by simp) 0) rfl <| Nx <| Sq <| Sq <| Rg <| Vs (Mv rfl) <| Gm 12 [7, 8] [] (v := vI .i64 (0)) [(0, ⟨6, [vI .i64 (c.kind), vI .i64 (c.sector), vI .u8 (c.fill), vI .i64 (c.size), vI .i64 (c.n), .b (slK .i64 (c.keep))], true⟩), (7, ⟨4, [.own 8 ((z * 64)), .b (slT 2 penB ((d.bootR ([]) 0).pen)), vI .i64 ((d.bootR ([]) 0).fuse), vB ((d.bootR ([]) 0).off)], true⟩), (8, rowK .u8 ((d.bootR ([]) 0).dur))] rfl (k25b hd (by omega) [] 0) rfl <| Vs (Bi (c := .bool false) rfl) <| Nx <| Cz rfl <| Ks <| Tg <| Sq <| Rg <| Vs (Mv rfl) <| Vs (Mv rfl) <| Gm 16 [7, 8] [] (v := .b (slT 1 rwB (alL (d.bootR ([]) 0) z))) [(0, ⟨6, [vI .i64 (c.kind), vI .i64 (c.sector), vI .u8 (c.fill), vI .i64 (c.size), vI .i64 (c.n), .b (slK .i64 (c.keep))], true⟩), (7, ⟨4, [.own 8 ((z * 64)), .b (slT 2 penB ((d.bootR ([]) 0).pen)), vI .i64 ((d.bootR ([]) 0).fuse), vB ((d.bootR ([]) 0).off)], true⟩), (8, rowK .u8 ((d.bootR ([]) 0).dur))] rfl (k26 (hd.boot0 [] 0) (by decide) rfl rfl hz1) rfl <| Vs (As rfl) <| Nx <| Sq <| Rg <| Vs (Mv rfl) <| Vs (MkT 19 false boB_len TU45 TZ4 TS4 TB4 rfl) <| Vs (As rfl) <| Nx <| VCode.join (α := (Nat) × (Dk) × (List Bool)) (fun x_ => match x_ with | (j, e, W) => (20, sl [(7, .ptr 0 (0)), (9, vI .i64 ((z : Int))), (10, .ptr 7 (0)), (13, .b (slT 1 rwB (alL (d.bootR ([]) 0) z))), (14, .own 19 ((z)))], en [(0, ⟨6, [vI .i64 (c.kind), vI .i64 (c.sector), vI .u8 (c.fill), vI .i64 (c.size), vI .i64 (c.n), .b (slK .i64 (c.keep))], true⟩), (7, ⟨4, [.own 8 ((z * 64)), .b (slT 2 penB (e.pen)), vI .i64 (e.fuse), vB (e.off)], true⟩), (8, rowK .u8 (e.dur)), (19, rowT 1 boB (W))])) (fun x_ => match x_ with | (j, e, W) => j ≤ 40 ∧ e.Ok (z * 64) j ∧ WrI (d.bootR [] 0).dur e W ∧ W.length = z) ?_ ?_
    · skip
      refine Sq <| Rg <| Vs (As rfl) <| Nx <| Bk <| VCode.loop (α := (Nat) × (Dk) × (List Bool)) (fun x_ => match x_ with | (j, e, W) => (20, sl [(2, .b (slT 6 caB (A2))), (7, .ptr 0 (0)), (9, vI .i64 ((z : Int))), (10, .ptr 7 (0)), (13, .b (slT 1 rwB (alL (d.bootR ([]) 0) z))), (14, .own 19 ((z))), (15, vI .i64 ((j : Int)))], en [(0, ⟨6, [vI .i64 (c.kind), vI .i64 (c.sector), vI .u8 (c.fill), vI .i64 (c.size), vI .i64 (c.n), .b (slK .i64 (c.keep))], true⟩), (7, ⟨4, [.own 8 ((z * 64)), .b (slT 2 penB (e.pen)), vI .i64 (e.fuse), vB (e.off)], true⟩), (8, rowK .u8 (e.dur)), (19, rowT 1 boB (W))])) (fun x_ => match x_ with | (j, e, W) => j ≤ 40 ∧ e.Ok (z * 64) j ∧ WrI (d.bootR [] 0).dur e W ∧ W.length = z) (fun x_ => match x_ with | (j, e, W) => 40 - j) (0, d.bootR [] 0, List.replicate z false) ⟨by omega, hd.boot0 [] 0, ⟨rfl, fun w hw => absurd hw (by simp [Dk.bootR])⟩, by simp⟩ (Wt []) ?_
      rintro ⟨j, e, W⟩ hok2
      obtain ⟨hj, he, hw, hWl⟩ := hok2
      change VCode _ _ _ 20 (sl _) (en _) _
      refine Sq <| Sq <| Rg <| Vs (Mv rfl) <| Vs (Mv rfl) <| Vs (Lst caB_len TU37 rfl) <| Vs (Bi rfl) <| Vs (Mv rfl) <| Sp 67 rfl (fun hc3 => ?_) (fun hc3 => ?_)
      · replace hc3 := of_decide_eq_true hc3
        refine Vs (Mv rfl) <| Vs (Bi rfl) <| Vs (Pk rfl) <| Nx <| Cd rfl (fun hc4 => ?_) (fun hc4 => ?_)
        · replace hc4 := of_decide_eq_true hc4
          have hb := oA2 _ (getD_mem' (x := a0) (show j < A2.length by omega))
          refine Ks <| Tg <| Sq <| Bk <| Sq <| Rg <| Vs (Mv rfl) <| Vs (Mv rfl) <| Vs (IxT caB_len TU37 TS31 rfl (by first | omega | (simp; done) | (simp; omega)) (gd (d := a0) (j := j) (by first | omega | (simp; done) | (simp; omega))) rfl) <| Vs (LqS TA31 TS31 rfl) <| Vs (Al 32 TZ31 rfl) <| Vs (StS TS31 rfl) <| Nx <| Sq <| Sq <| Rg <| Vs (Fa TF31_0 rfl) <| Vs (Ld TA3 rfl) <| Vs (Bi rfl) <| Vs (Mv rfl) <| Sp 80 rfl (fun hc5 => ?_) (fun hc5 => ?_)
          · replace hc5 := eq_of_beq hc5
            exact Sk rfl <| Sk rfl <| Sk rfl <| Vs (Pk rfl) <| Vs (Mv rfl) <| Sk rfl <| Sk rfl <| Sk rfl <| Vs (Pk rfl) <| Nx <| Cy rfl <| Ke <| Te <| Ih <| Tg <| Rg <| Vs (Mv rfl) <| Vs (Bo rfl adI) <| Vs (As rfl) <| VList.nil <| Go (j + 1, e, W) (by first | exact ⟨by omega, he.mono (Nat.le_succ _), hw, hWl⟩ | exact ⟨by omega, he.does hb, wr_set hw (by assumption) (by assumption) (by omega), by rw [List.length_set]; exact hWl⟩ | exact ⟨by omega, he.does hb, wr_same hw (by assumption) (by assumption) (by assumption) (by rintro ⟨p1, p2, p3⟩; omega), hWl⟩) (Wt [])
          · replace hc5 := ne_of_beq_false hc5
            refine Vs (Fa TF31_0 rfl) <| Vs (Ld TA3 rfl) <| Vs (Bi rfl) <| Vs (Pk rfl) <| Vs (Mv rfl) <| Sp 85 rfl (fun hc6 => ?_) (fun hc6 => ?_)
            · replace hc6 := eq_of_beq hc6
              exact Sk rfl <| Sk rfl <| Sk rfl <| Vs (Pk rfl) <| Nx <| Cy rfl <| Ke <| Te <| Ih <| Tg <| Rg <| Vs (Mv rfl) <| Vs (Bo rfl adI) <| Vs (As rfl) <| VList.nil <| Go (j + 1, e, W) (by first | exact ⟨by omega, he.mono (Nat.le_succ _), hw, hWl⟩ | exact ⟨by omega, he.does hb, wr_set hw (by assumption) (by assumption) (by omega), by rw [List.length_set]; exact hWl⟩ | exact ⟨by omega, he.does hb, wr_same hw (by assumption) (by assumption) (by assumption) (by rintro ⟨p1, p2, p3⟩; omega), hWl⟩) (Wt [])
            · replace hc6 := ne_of_beq_false hc6
              refine Vs (Fa TF31_0 rfl) <| Vs (Ld TA3 rfl) <| Vs (Bi rfl) <| Vs (Pk rfl) <| Nx <| Cd rfl (fun hc7 => ?_) (fun hc7 => ?_)
              · replace hc7 := eq_of_beq hc7
                exact Ke <| Te <| Ih <| Tg <| Rg <| Vs (Mv rfl) <| Vs (Bo rfl adI) <| Vs (As rfl) <| VList.nil <| Go (j + 1, e, W) (by first | exact ⟨by omega, he.mono (Nat.le_succ _), hw, hWl⟩ | exact ⟨by omega, he.does hb, wr_set hw (by assumption) (by assumption) (by omega), by rw [List.length_set]; exact hWl⟩ | exact ⟨by omega, he.does hb, wr_same hw (by assumption) (by assumption) (by assumption) (by rintro ⟨p1, p2, p3⟩; omega), hWl⟩) (Wt [])
              · replace hc7 := ne_of_beq_false hc7
                refine Ks <| Tg <| Sq <| Rg <| Vs (Mv rfl) <| Vs (LdS TA31 TS31 rfl) <| Gm 49 [7, 8] [] (v := .b (.agg [slK .u8 ((e.doR (z * 64) ((A2).getD (j) a0)).2.1), numB .i64 ((e.doR (z * 64) ((A2).getD (j) a0)).2.2)])) [(0, ⟨6, [vI .i64 (c.kind), vI .i64 (c.sector), vI .u8 (c.fill), vI .i64 (c.size), vI .i64 (c.n), .b (slK .i64 (c.keep))], true⟩), (7, ⟨4, [.own 8 ((z * 64)), .b (slT 2 penB (((e.doR (z * 64) ((A2).getD (j) a0)).1).pen)), vI .i64 (((e.doR (z * 64) ((A2).getD (j) a0)).1).fuse), vB (((e.doR (z * 64) ((A2).getD (j) a0)).1).off)], true⟩), (8, rowK .u8 (((e.doR (z * 64) ((A2).getD (j) a0)).1).dur)), (19, rowT 1 boB (W)), (32, ⟨6, [vI .i64 (((A2).getD (j) a0).kind), vI .i64 (((A2).getD (j) a0).sector), vI .u8 (((A2).getD (j) a0).fill), vI .i64 (((A2).getD (j) a0).size), vI .i64 (((A2).getD (j) a0).n), .b (slK .i64 (((A2).getD (j) a0).keep))], true⟩)] rfl (k23 he (by omega) hb) rfl <| Nx <| Sq <| Rg <| Vs (Fa TF31_0 rfl) <| Vs (Ld TA3 rfl) <| Vs (Bi rfl) <| Vs (Mv rfl) <| Sp 96 rfl (fun hc8 => ?_) (fun hc8 => ?_)
                · replace hc8 := eq_of_beq hc8
                  refine Vs (Fa TF31_1 rfl) <| Vs (Ld TA3 rfl) <| Vs (Bi rfl) <| Vs (Pk rfl) <| Vs (Mv rfl) <| Sp 101 rfl (fun hc9 => ?_) (fun hc9 => ?_)
                  · replace hc9 := of_decide_eq_true hc9
                    refine Vs (Fa TF31_1 rfl) <| Vs (Ld TA3 rfl) <| Vs (Mv rfl) <| Vs (Bi rfl) <| Vs (Pk rfl) <| Nx <| Cd rfl (fun hc10 => ?_) (fun hc10 => ?_)
                    · replace hc10 := of_decide_eq_true hc10
                      exact Rg <| Vs (Mv rfl) <| Vs (Fa TF31_1 rfl) <| Vs (Ld TA3 rfl) <| Vs (IT TU45 TS4 rfl) <| Vs (SrT (true) boB_len TS4 rfl (by first | omega | (simp; done) | (simp; omega))) <| VList.nil <| Ig <| Tg <| Rg <| Vs (Mv rfl) <| Vs (Bo rfl adI) <| Vs (As rfl) <| VList.nil <| Go (j + 1, (e.doR (z * 64) ((A2).getD (j) a0)).1, (W).set ((((A2).getD (j) a0).sector).toNat) (true)) (by first | exact ⟨by omega, he.mono (Nat.le_succ _), hw, hWl⟩ | exact ⟨by omega, he.does hb, wr_set hw (by assumption) (by assumption) (by omega), by rw [List.length_set]; exact hWl⟩ | exact ⟨by omega, he.does hb, wr_same hw (by assumption) (by assumption) (by assumption) (by rintro ⟨p1, p2, p3⟩; omega), hWl⟩) (Wt [])
                    · replace hc10 := of_decide_eq_false hc10
                      exact Ks <| Ig <| Tg <| Rg <| Vs (Mv rfl) <| Vs (Bo rfl adI) <| Vs (As rfl) <| VList.nil <| Go (j + 1, (e.doR (z * 64) ((A2).getD (j) a0)).1, W) (by first | exact ⟨by omega, he.mono (Nat.le_succ _), hw, hWl⟩ | exact ⟨by omega, he.does hb, wr_set hw (by assumption) (by assumption) (by omega), by rw [List.length_set]; exact hWl⟩ | exact ⟨by omega, he.does hb, wr_same hw (by assumption) (by assumption) (by assumption) (by rintro ⟨p1, p2, p3⟩; omega), hWl⟩) (Wt [])
                  · replace hc9 := of_decide_eq_false hc9
                    exact Sk rfl <| Sk rfl <| Sk rfl <| Sk rfl <| Vs (Pk rfl) <| Nx <| Cz rfl <| Ks <| Ig <| Tg <| Rg <| Vs (Mv rfl) <| Vs (Bo rfl adI) <| Vs (As rfl) <| VList.nil <| Go (j + 1, (e.doR (z * 64) ((A2).getD (j) a0)).1, W) (by first | exact ⟨by omega, he.mono (Nat.le_succ _), hw, hWl⟩ | exact ⟨by omega, he.does hb, wr_set hw (by assumption) (by assumption) (by omega), by rw [List.length_set]; exact hWl⟩ | exact ⟨by omega, he.does hb, wr_same hw (by assumption) (by assumption) (by assumption) (by rintro ⟨p1, p2, p3⟩; omega), hWl⟩) (Wt [])
                · replace hc8 := ne_of_beq_false hc8
                  exact Sk rfl <| Sk rfl <| Sk rfl <| Vs (Pk rfl) <| Vs (Mv rfl) <| Sk rfl <| Sk rfl <| Sk rfl <| Sk rfl <| Vs (Pk rfl) <| Nx <| Cz rfl <| Ks <| Ig <| Tg <| Rg <| Vs (Mv rfl) <| Vs (Bo rfl adI) <| Vs (As rfl) <| VList.nil <| Go (j + 1, (e.doR (z * 64) ((A2).getD (j) a0)).1, W) (by first | exact ⟨by omega, he.mono (Nat.le_succ _), hw, hWl⟩ | exact ⟨by omega, he.does hb, wr_set hw (by assumption) (by assumption) (by omega), by rw [List.length_set]; exact hWl⟩ | exact ⟨by omega, he.does hb, wr_same hw (by assumption) (by assumption) (by assumption) (by rintro ⟨p1, p2, p3⟩; omega), hWl⟩) (Wt [])
        · replace hc4 := of_decide_eq_false hc4
          exact Ke <| Te <| Oe <| Ih <| Jg (j, e, W) ⟨hj, he, hw, hWl⟩ (Wt [])
      · replace hc3 := of_decide_eq_false hc3
        exact Sk rfl <| Sk rfl <| Vs (Pk rfl) <| Nx <| Cz rfl <| Ke <| Te <| Oe <| Ih <| Jg (j, e, W) ⟨hj, he, hw, hWl⟩ (Wt [])
    · rintro ⟨j, e, W⟩ hokJ
      obtain ⟨hj, he, hw, hWl⟩ := hokJ
      change VCode _ _ _ 20 (sl _) (en _) _
      refine Sq <| Rg <| Vs (Mv rfl) <| Vs (Fa TF31_5 rfl) <| Vs (Ld TA29 rfl) <| Vs (Fa TF31_4 rfl) <| Vs (Ld TA3 rfl) <| Gm 25 [7, 8] [] (v := .b (.tup [])) [(0, ⟨6, [vI .i64 (c.kind), vI .i64 (c.sector), vI .u8 (c.fill), vI .i64 (c.size), vI .i64 (c.n), .b (slK .i64 (c.keep))], true⟩), (7, ⟨4, [.own 8 ((z * 64)), .b (slT 2 penB ((e.bootR (c.keep) (c.n)).pen)), vI .i64 ((e.bootR (c.keep) (c.n)).fuse), vB ((e.bootR (c.keep) (c.n)).off)], true⟩), (8, rowK .u8 ((e.bootR (c.keep) (c.n)).dur)), (19, rowT 1 boB (W))] rfl (k24 he (by omega) (keep := c.keep) (oc.keep) (c.n)) rfl <| Nx <| Sq <| Rg <| Vs (Mv rfl) <| Vs (Mv rfl) <| Gm 28 [7, 8] [] (v := .b (slT 1 rwB (alL (e.bootR (c.keep) (c.n)) z))) [(0, ⟨6, [vI .i64 (c.kind), vI .i64 (c.sector), vI .u8 (c.fill), vI .i64 (c.size), vI .i64 (c.n), .b (slK .i64 (c.keep))], true⟩), (7, ⟨4, [.own 8 ((z * 64)), .b (slT 2 penB ((e.bootR (c.keep) (c.n)).pen)), vI .i64 ((e.bootR (c.keep) (c.n)).fuse), vB ((e.bootR (c.keep) (c.n)).off)], true⟩), (8, rowK .u8 ((e.bootR (c.keep) (c.n)).dur)), (19, rowT 1 boB (W))] rfl (k26 (he.boot c.keep c.n) (by omega) rfl rfl hz1) rfl <| Vs (As rfl) <| Nx <| Sq <| Sq <| Rg <| Vs (As rfl) <| Nx <| Bk <| VCode.loop (α := (Nat)) (fun q => (20, sl [(9, vI .i64 ((z : Int))), (13, .b (slT 1 rwB (alL (d.bootR ([]) 0) z))), (14, .own 19 ((z))), (17, .b (slT 1 rwB (alL (e.bootR (c.keep) (c.n)) z))), (18, vI .i64 ((q : Int)))], en [(19, rowT 1 boB (W))])) (fun q => q ≤ z) (fun q => z - q) (0) (Nat.zero_le _) (Wt []) ?_
      intro q hok3
      have hq0 := hok3
      change VCode _ _ _ 20 (sl _) (en _) _
      refine Sq <| Sq <| Rg <| Vs (Mv rfl) <| Vs (Mv rfl) <| Vs (Bi rfl) <| Nx <| Cd rfl (fun hc11 => ?_) (fun hc11 => ?_)
      · replace hc11 := of_decide_eq_true hc11
        have hq : q < z := by omega
        refine Ks <| Tg <| Sq <| Bk <| Sq <| Rd (by kernel_rfl) <| Vl (Mv rfl) <| Vl (Mv rfl) <| Vl (IT TU45 TS4 rfl) <| Vl (L1T boB_len TA4 rfl (gd (d := false) (j := q) (by first | omega | (simp; done) | (simp; omega))) rfl) <| Vl (Un rfl) <| Vl (Mv rfl) <| Sl 130 rfl (fun hc12 => ?_) (fun hc12 => ?_)
        · replace hc12 := (bnot_t hc12)
          refine Vl (Mv rfl) <| Vl (Mv rfl) <| Vl (IxT rwB_len TU43 TS27 rfl (by first | omega | (simp; done) | (simp; omega)) (gd (d := []) (j := q) (by rw [alL_len]; omega)) rfl) <| Vl (Lq TA27 rfl) <| Vl (Mv rfl) <| Vl (Mv rfl) <| Vl (IxT rwB_len TU43 TS27 rfl (by first | omega | (simp; done) | (simp; omega)) (gd (d := []) (j := q) (by rw [alL_len]; omega)) rfl) <| Vl (Lq TA27 rfl) <| Vl (Cf rfl rfl (k22 (by rw [alL_at _ hq, rdS_len]; decide) (by rw [alL_at _ hq, rdS_len]; decide)) rfl) <| Vl (Un rfl) <| Vl (Pk rfl) <| ?_
          refine VLog.nil ⟨by kernel_rfl, ?_⟩
          refine Tg <| Cd rfl (fun hc13 => ?_) (fun hc13 => ?_)
          · replace hc13 := (bnot_t hc13)
            exfalso; rw [alL_at _ hq, alL_at _ hq, keeps (hd.boot0 [] 0) he hw hq hc12] at hc13; simp [eqL] at hc13
          · replace hc13 := (bnot_f hc13)
            exact Ks <| Ig <| Tg <| Rg <| Vs (Mv rfl) <| Vs (Bo rfl adI) <| Vs (As rfl) <| VList.nil <| Go (q + 1) (by omega) (Wt [])
        · replace hc12 := (bnot_f hc12)
          refine Lk rfl <| Lk rfl <| Lk rfl <| Lk rfl <| Lk rfl <| Lk rfl <| Lk rfl <| Lk rfl <| Lk rfl <| Lk rfl <| Vl (Pk rfl) <| ?_
          refine VLog.nil ⟨by kernel_rfl, ?_⟩
          exact Tg <| Cz rfl <| Ks <| Ig <| Tg <| Rg <| Vs (Mv rfl) <| Vs (Bo rfl adI) <| Vs (As rfl) <| VList.nil <| Go (q + 1) (by omega) (Wt [])
      · replace hc11 := of_decide_eq_false hc11
        exact Ke <| Te <| Oe <| Ih <| Tg <| Sq <| Rg <| Vs (As rfl) <| Nx <| Re <| Fi (l := [boolB (true)]) (Rc (resVar_tmp rfl rfl) Rn) rfl
end Go.VL

/- Walks over the Go functions, printed by a program of this session over the kit's print, and by hand. -/
set_option linter.unusedVariables false
set_option linter.unusedSimpArgs false
set_option maxRecDepth 100000
namespace Go.VL
open Go.Proofs
theorem mix_t {L : List (List Int)} {b : List Int} {i k c : Nat} (hi : i < L.length) (hk : k < i) (hc : cutN b (L.getD i []) = c) (h : eqL (b.drop c) ((L.getD k []).drop c) = true) : mixedB L b = true := by
  subst hc
  exact List.any_eq_true.2 ⟨i, List.mem_range.2 hi, List.any_eq_true.2 ⟨k, List.mem_range.2 hk, h⟩⟩
theorem k27 {L : List (List Int)} {b : List Int} (hL : ∀ x ∈ L, x.length = 64) (hn : L.length ≤ 100000) (hb : b.length = 64) : VF Try.prog 27 [slT 1 rwB (L), slK .u8 (b)] (boolB (wholeB L b)) := by
  refine VF_of P_mixed Try.func27 rfl rfl (by kernel_rfl) <| Sq <| Rg <| Vs (As rfl) <| Nx <| Sq <| Sq <| Rg <| Vs (As rfl) <| Nx <| Bk <| VCode.loop (α := (Nat)) (fun i => (0, sl [(0, .b (slT 1 rwB (L))), (1, .b (slK .u8 (b))), (5, vI .i64 ((i : Int)))], en [])) (fun i => i ≤ L.length ∧ (L.take i).any (fun x => eqL x b) = false) (fun i => L.length - i) (0) ⟨Nat.zero_le _, rfl⟩ Wk ?_
  intro i hok
  obtain ⟨hi, ht⟩ := hok
  change VCode _ _ _ 0 (sl _) (en _) _
  refine Sq <| Sq <| Rg <| Vs (Mv rfl) <| Vs (Mv rfl) <| Vs (Lst rwB_len TU43 rfl) <| Vs (Bi rfl) <| Nx <| Cd rfl (fun hc1 => ?_) (fun hc1 => ?_)
  · replace hc1 := of_decide_eq_true hc1
    refine Ks <| Tg <| Sq <| Bk <| Sq <| Rg <| Vs (Mv rfl) <| Vs (Mv rfl) <| Vs (IxT rwB_len TU43 TS27 rfl (by first | omega | (simp; done) | (simp; omega)) (gd (d := []) (j := i) (by first | omega | (simp; done) | (simp; omega))) rfl) <| Vs (Lq TA27 rfl) <| Vs (Mv rfl) <| Vs (Cf rfl rfl (k22 (by have := hL _ (getD_mem' (x := []) (show i < L.length by omega)); omega) (by omega)) rfl) <| Nx <| Cd rfl (fun hc2 => ?_) (fun hc2 => ?_)
    · replace hc2 := hc2
      exact Sq <| Rg <| Vs (As rfl) <| Nx <| Re <| Iq <| Tr <| Or <| Iq <| Tr <| Fi (l := [boolB (true)]) (Rc (resVar_tmp rfl rfl) Rn) (by rw [show wholeB L b = true from List.any_eq_true.2 ⟨_, getD_mem' (x := []) (show i < L.length by omega), hc2⟩]; rfl)
    · replace hc2 := hc2
      exact Ks <| Ig <| Tg <| Rg <| Vs (Mv rfl) <| Vs (Bo rfl adI) <| Vs (As rfl) <| VList.nil <| Go (i + 1) ⟨by omega, whole_step (by omega) ht hc2⟩ Wk
  · replace hc1 := of_decide_eq_false hc1
    exact Ke <| Te <| Oe <| Ih <| Tg <| Sq <| Rg <| Vs (As rfl) <| Nx <| Re <| Fi (l := [boolB (false)]) (Rc (resVar_tmp rfl rfl) Rn) (by rw [show wholeB L b = false by rw [wholeB, ← ht, List.take_of_length_le (by omega)]]; rfl)
theorem k28 {L : List (List Int)} {b : List Int} (hL : ∀ x ∈ L, x.length = 64) (hn : L.length ≤ 100000) (hb : b.length = 64) : VF Try.prog 28 [slT 1 rwB (L), slK .u8 (b)] (boolB (mixedB L b)) := by
  refine VF_of P_mixed Try.func28 rfl rfl (by kernel_rfl) <| Sq <| Rg <| Vs (As rfl) <| Nx <| Sq <| Sq <| Rg <| Vs (Mv rfl) <| Vs (Ls TK27 rfl) <| Vs (Bi rfl) <| Nx <| Cd rfl (fun hc1 => ?_) (fun hc1 => ?_)
  · replace hc1 := bne_iff_ne.1 hc1
    exfalso; omega
  · replace hc1 := bne_eq_false_iff_eq.1 hc1
    refine Ks <| Tg <| Sq <| Sq <| Rg <| Vs (As rfl) <| Nx <| Bk <| VCode.loop (α := (Nat)) (fun i => (0, sl [(0, .b (slT 1 rwB (L))), (1, .b (slK .u8 (b))), (5, vI .i64 ((i : Int)))], en [])) (fun i => i ≤ L.length ∧ (List.range i).any (fun i => mixI L b i) = false) (fun i => L.length - i) (0) ⟨Nat.zero_le _, rfl⟩ Wk ?_
    intro i hok
    obtain ⟨hi, ht⟩ := hok
    change VCode _ _ _ 0 (sl _) (en _) _
    refine Sq <| Sq <| Rg <| Vs (Mv rfl) <| Vs (Mv rfl) <| Vs (Lst rwB_len TU43 rfl) <| Vs (Bi rfl) <| Nx <| Cd rfl (fun hc2 => ?_) (fun hc2 => ?_)
    · replace hc2 := of_decide_eq_true hc2
      refine Ks <| Tg <| Sq <| Bk <| Sq <| Rg <| Vs (As rfl) <| Nx <| Bk <| VCode.loop (α := (Nat)) (fun k => (0, sl [(0, .b (slT 1 rwB (L))), (1, .b (slK .u8 (b))), (5, vI .i64 ((i : Int))), (6, vI .i64 ((k : Int)))], en [])) (fun k => k ≤ i ∧ i < L.length ∧ (List.range k).any (fun k => mixK L b i k) = false) (fun k => i - k) (0) ⟨Nat.zero_le _, by omega, rfl⟩ Wk ?_
      intro k hok2
      obtain ⟨hk, hiL, hk2⟩ := hok2
      have hX : (L.getD i []).length = 64 := hL _ (getD_mem' hiL)
      change VCode _ _ _ 0 (sl _) (en _) _
      refine Sq <| Sq <| Rg <| Vs (Mv rfl) <| Vs (Mv rfl) <| Vs (Bi rfl) <| Nx <| Cd rfl (fun hc3 => ?_) (fun hc3 => ?_)
      · replace hc3 := of_decide_eq_true hc3
        refine Ks <| Tg <| Sq <| Bk <| Sq <| Rg <| Vs (As rfl) <| Nx <| Sq <| Bk <| VCode.loop (α := (Nat)) (fun c => (0, sl [(0, .b (slT 1 rwB (L))), (1, .b (slK .u8 (b))), (5, vI .i64 ((i : Int))), (6, vI .i64 ((k : Int))), (7, vI .i64 ((c : Int)))], en [])) (fun c => c ≤ 64 ∧ b.take c = (L.getD i []).take c) (fun c => 64 - c) (0) ⟨Nat.zero_le _, rfl⟩ Wk ?_
        intro c hok3
        obtain ⟨hc, htk⟩ := hok3
        change VCode _ _ _ 0 (sl _) (en _) _
        refine Sq <| Sq <| Rd (by kernel_rfl) <| Vl (Mv rfl) <| Vl (Mv rfl) <| Vl (Ls TK27 rfl) <| Vl (Bi rfl) <| Vl (Mv rfl) <| Sl 26 rfl (fun hc4 => ?_) (fun hc4 => ?_)
        · replace hc4 := of_decide_eq_true hc4
          refine Vl (Mv rfl) <| Vl (Mv rfl) <| Vl (IxN TK27 rfl) <| Vl (Lq TA5 rfl) <| Vl (Mv rfl) <| Vl (Mv rfl) <| Vl (IxT rwB_len TU43 TS27 rfl (by first | omega | (simp; done) | (simp; omega)) (gd (d := []) (j := i) (by first | omega | (simp; done) | (simp; omega))) rfl) <| Vl (Lq TA27 rfl) <| Vl (Mv rfl) <| Vl (IxN TK27 rfl) <| Vl (Lq TA5 rfl) <| Vl (Bi rfl) <| Vl (Pk rfl) <| ?_
          refine VLog.nil ⟨by kernel_rfl, ?_⟩
          refine Tg <| Cd rfl (fun hc5 => ?_) (fun hc5 => ?_)
          · replace hc5 := eq_of_beq hc5
            exact Ks <| Tg <| Bk <| Rg <| Vs (Mv rfl) <| Vs (Bo rfl adI) <| Vs (As rfl) <| VList.nil <| Ig <| Go (c + 1) ⟨by omega, take_snoc' (by omega) (by omega) htk (by assumption)⟩ Wk
          · replace hc5 := ne_of_beq_false hc5
            refine Ke <| Te <| Oe <| Ih <| Tg <| Sq <| ?_
            have hcut : cutN b (L.getD i []) = c := cutN_of (by omega) (by omega) htk (by first | exact .inl (by omega) | exact .inr (by assumption))
            have hk64 : (L.getD k []).length = 64 := hL _ (getD_mem' (by omega))
            refine Rd (by kernel_rfl) <| Vl (Mv rfl) <| Vl (Mv rfl) <| Vl (Cfr TK27 rfl) <| Vl (Mv rfl) <| Vl (Mv rfl) <| Vl (IxT rwB_len TU43 TS27 rfl (by first | omega | (simp; done) | (simp; omega)) (gd (d := []) (j := k) (by first | omega | (simp; done) | (simp; omega))) rfl) <| Vl (Lq TA27 rfl) <| Vl (Mv rfl) <| Vl (Cfr TK27 rfl) <| Vl (Cf rfl rfl (k22 (by rw [List.length_drop]; omega) (by rw [List.length_drop]; omega)) rfl) <| ?_
            refine VLog.nil ⟨by kernel_rfl, ?_⟩
            refine Tg <| Cd rfl (fun hc6 => ?_) (fun hc6 => ?_)
            · replace hc6 := hc6
              exact Sq <| Rg <| Vs (As rfl) <| Nx <| Re <| Iq <| Tr <| Or <| Iq <| Iq <| Tr <| Or <| Iq <| Tr <| Fi (l := [boolB (true)]) (Rc (resVar_tmp rfl rfl) Rn) (by first | (rw [mix_t (k := k) hiL (by omega) hcut (by assumption)]; rfl) | (rw [show mixedB L b = false by rw [mixedB, ← ht, show i = L.length by omega]]; rfl))
            · replace hc6 := hc6
              exact Ks <| Ig <| Tg <| Rg <| Vs (Mv rfl) <| Vs (Bo rfl adI) <| Vs (As rfl) <| VList.nil <| Go (k + 1) ⟨by omega, hiL, by rw [any_last, hk2, mixK, hcut, Bool.false_or]; assumption⟩ Wk
        · replace hc4 := of_decide_eq_false hc4
          refine Lk rfl <| Lk rfl <| Lk rfl <| Lk rfl <| Lk rfl <| Lk rfl <| Lk rfl <| Lk rfl <| Lk rfl <| Lk rfl <| Lk rfl <| Lk rfl <| Vl (Pk rfl) <| ?_
          refine VLog.nil ⟨by kernel_rfl, ?_⟩
          refine Tg <| Cz rfl <| Ke <| Te <| Oe <| Ih <| Tg <| Sq <| ?_
          have hcut : cutN b (L.getD i []) = c := cutN_of (by omega) (by omega) htk (by first | exact .inl (by omega) | exact .inr (by assumption))
          have hk64 : (L.getD k []).length = 64 := hL _ (getD_mem' (by omega))
          refine Rd (by kernel_rfl) <| Vl (Mv rfl) <| Vl (Mv rfl) <| Vl (Cfr TK27 rfl) <| Vl (Mv rfl) <| Vl (Mv rfl) <| Vl (IxT rwB_len TU43 TS27 rfl (by first | omega | (simp; done) | (simp; omega)) (gd (d := []) (j := k) (by first | omega | (simp; done) | (simp; omega))) rfl) <| Vl (Lq TA27 rfl) <| Vl (Mv rfl) <| Vl (Cfr TK27 rfl) <| Vl (Cf rfl rfl (k22 (by rw [List.length_drop]; omega) (by rw [List.length_drop]; omega)) rfl) <| ?_
          refine VLog.nil ⟨by kernel_rfl, ?_⟩
          refine Tg <| Cd rfl (fun hc7 => ?_) (fun hc7 => ?_)
          · replace hc7 := hc7
            exact Sq <| Rg <| Vs (As rfl) <| Nx <| Re <| Iq <| Tr <| Or <| Iq <| Iq <| Tr <| Or <| Iq <| Tr <| Fi (l := [boolB (true)]) (Rc (resVar_tmp rfl rfl) Rn) (by first | (rw [mix_t (k := k) hiL (by omega) hcut (by assumption)]; rfl) | (rw [show mixedB L b = false by rw [mixedB, ← ht, show i = L.length by omega]]; rfl))
          · replace hc7 := hc7
            exact Ks <| Ig <| Tg <| Rg <| Vs (Mv rfl) <| Vs (Bo rfl adI) <| Vs (As rfl) <| VList.nil <| Go (k + 1) ⟨by omega, hiL, by rw [any_last, hk2, mixK, hcut, Bool.false_or]; assumption⟩ Wk
      · replace hc3 := of_decide_eq_false hc3
        exact Ke <| Te <| Oe <| Ih <| Ig <| Tg <| Rg <| Vs (Mv rfl) <| Vs (Bo rfl adI) <| Vs (As rfl) <| VList.nil <| Go (i + 1) ⟨by omega, by rw [any_last, ht, mixI, show i = k by omega, show (List.range k).any (fun q => mixK L b k q) = false by rw [← hk2, show i = k by omega]]; rfl⟩ Wk
    · replace hc2 := of_decide_eq_false hc2
      exact Ke <| Te <| Oe <| Ih <| Tg <| Sq <| Rg <| Vs (As rfl) <| Nx <| Re <| Fi (l := [boolB (false)]) (Rc (resVar_tmp rfl rfl) Rn) (by first | (rw [mix_t (k := k) hiL (by omega) hcut (by assumption)]; rfl) | (rw [show mixedB L b = false by rw [mixedB, ← ht, show i = L.length by omega]]; rfl))
end Go.VL
