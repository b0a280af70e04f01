/- Records and entities that came in; what the laws of records need. -/
import Derived.Test.YtkobgcoegajfcaaSxPrecB
import Derived.Test.YtkobgcoegajfcaaSxO
set_option linter.unusedVariables false
set_option linter.unusedSimpArgs false
namespace Go.Sx
theorem rec_of {cs : List Value} (h : AllFK cs [.i .i64, .i .i64, .i .i64, .i .i64, .i .i64, .i .i64, .i .i64, .i .i64, .i .u16]) : ∃ r : RecR, cs = recV r ∧ r.wf := by
  obtain ⟨_, _, rfl, h1, h⟩ := h.split
  obtain ⟨_, _, rfl, h2, h⟩ := h.split
  obtain ⟨_, _, rfl, h3, h⟩ := h.split
  obtain ⟨_, _, rfl, h4, h⟩ := h.split
  obtain ⟨_, _, rfl, h5, h⟩ := h.split
  obtain ⟨_, _, rfl, h6, h⟩ := h.split
  obtain ⟨_, _, rfl, h7, h⟩ := h.split
  obtain ⟨_, _, rfl, h8, h⟩ := h.split
  obtain ⟨_, _, rfl, h9, h⟩ := h.split
  obtain rfl := h.none
  obtain ⟨z1, rfl, w1⟩ := h1.i64
  obtain ⟨z2, rfl, w2⟩ := h2.i64
  obtain ⟨z3, rfl, w3⟩ := h3.i64
  obtain ⟨z4, rfl, w4⟩ := h4.i64
  obtain ⟨z5, rfl, w5⟩ := h5.i64
  obtain ⟨z6, rfl, w6⟩ := h6.i64
  obtain ⟨z7, rfl, w7⟩ := h7.i64
  obtain ⟨z8, rfl, w8⟩ := h8.i64
  obtain ⟨z9, rfl⟩ := h9.u16
  exact ⟨⟨z1, z2, z3, z4, z5, z6, z7, z8, z9⟩, rfl, ⟨w1, w2, w3, w4, w5, w6, w7, w8⟩⟩
theorem ent_of {cs : List Value} (h : AllFK cs [.i .i64, .i .i64, .i .i64, .i .i64, .i .i64, .i .i64, .i .i64, .i .u16, .i .u8]) : ∃ r : EntR, cs = entV r ∧ r.wf := by
  obtain ⟨_, _, rfl, h1, h⟩ := h.split
  obtain ⟨_, _, rfl, h2, h⟩ := h.split
  obtain ⟨_, _, rfl, h3, h⟩ := h.split
  obtain ⟨_, _, rfl, h4, h⟩ := h.split
  obtain ⟨_, _, rfl, h5, h⟩ := h.split
  obtain ⟨_, _, rfl, h6, h⟩ := h.split
  obtain ⟨_, _, rfl, h7, h⟩ := h.split
  obtain ⟨_, _, rfl, h8, h⟩ := h.split
  obtain ⟨_, _, rfl, h9, h⟩ := h.split
  obtain rfl := h.none
  obtain ⟨z1, rfl, w1⟩ := h1.i64
  obtain ⟨z2, rfl, w2⟩ := h2.i64
  obtain ⟨z3, rfl, w3⟩ := h3.i64
  obtain ⟨z4, rfl, w4⟩ := h4.i64
  obtain ⟨z5, rfl, w5⟩ := h5.i64
  obtain ⟨z6, rfl, w6⟩ := h6.i64
  obtain ⟨z7, rfl, w7⟩ := h7.i64
  obtain ⟨z8, rfl⟩ := h8.u16
  obtain ⟨z9, rfl⟩ := h9.u8
  exact ⟨⟨z1, z2, z3, z4, z5, z6, z7, z8, z9⟩, rfl, ⟨w1, w2, w3, w4, w5, w6, w7⟩⟩
theorem list_ofP {α : Type} {f : Nat → List Value} {g : α → List Value} {p : α → Prop} : ∀ (n : Nat), (∀ i, i < n → ∃ a : α, f i = g a ∧ p a) → ∃ l : List α, l.length = n ∧ (List.range n).flatMap f = l.flatMap g ∧ ∀ x ∈ l, p x
  | 0, _ => ⟨[], rfl, rfl, by simp⟩
  | n + 1, h => by
    obtain ⟨l, hl, he, hp⟩ := list_ofP n fun i hi => h i (by omega)
    obtain ⟨a, ha, hpa⟩ := h n (by omega)
    refine ⟨l ++ [a], by simp [hl], by rw [List.range_succ, List.flatMap_append, List.flatMap_append, he]; simp [ha], fun x hx => ?_⟩
    rcases List.mem_append.1 hx with hx | hx
    · exact hp x hx
    · rw [List.mem_singleton] at hx; subst hx; exact hpa
theorem recV_len (r : RecR) : (recV r).length = 9 := rfl
theorem entV_len (r : EntR) : (entV r).length = 9 := rfl
theorem recs_getD {l : List RecR} (h : ∀ x ∈ l, x.wf) {j : Nat} (hj : j < l.length) : (l.getD j default).wf := by
  rw [List.getD_eq_getElem?_getD, List.getElem?_eq_getElem hj]
  exact h _ (List.getElem_mem hj)
theorem recV_refl (r : RecR) : eqCells (recV r) (recV r) = true := recV_eq.2 rfl
theorem entV_refl (r : EntR) : eqCells (entV r) (entV r) = true := entV_eq.2 rfl
theorem gen_next (g : BitVec 8) : g + 1#8 ≠ g := by
  intro h
  have := congrArg BitVec.toNat h
  rw [BitVec.toNat_add, show (1#8).toNat = 1 from rfl] at this
  have := g.isLt
  omega
theorem rdRec_z {bs : List Byte} {last : Int} {R : Rs} (h : (rdRec bs last R).2.1 ≠ 0) : (rdRec bs last R).1 = recZ := by
  unfold rdRec at *
  split at h
  · rw [if_pos (by assumption)]
  · split at h
    · rw [if_neg (by assumption), if_pos (by assumption)]
    · split at h
      · rw [if_neg (by assumption), if_neg (by assumption), if_pos (by assumption)]
      · exact absurd rfl h
theorem rd_back' {bs : List Byte} {last : Int} (h : (((rdRec bs last ⟨0, 0⟩).2.1 : Nat) : Int) = 0) :
    recErr (rdRec bs last ⟨0, 0⟩).1 last = 0 ∧ recB (rdRec bs last ⟨0, 0⟩).1 last = bs.take (rdRec bs last ⟨0, 0⟩).2.2.p ∧ recChk (rdRec bs last ⟨0, 0⟩).1 = 0 ∧ (rdRec bs last ⟨0, 0⟩).2.2.p ≤ bs.length := by
  have h' : rdRec bs last ⟨0, 0⟩ = ((rdRec bs last ⟨0, 0⟩).1, 0, (rdRec bs last ⟨0, 0⟩).2.2) := by
    have e : (rdRec bs last ⟨0, 0⟩).2.1 = 0 := by omega
    exact Prod.ext rfl (Prod.ext e rfl)
  obtain ⟨h1, h2, h3, h4, h5, h6, h7⟩ := rd_back (R := ⟨0, 0⟩) (Nat.zero_le _) h'
  refine ⟨h1, ?_, (recErr_parts h1).1, h7⟩
  have h8 := congrArg (List.take (recB (rdRec bs last ⟨0, 0⟩).1 last).length) h3
  rw [List.take_left' rfl] at h8
  have h9 : (rdRec bs last ⟨0, 0⟩).2.2.p = (recB (rdRec bs last ⟨0, 0⟩).1 last).length := by rw [h4]; exact Nat.zero_add _
  rw [h9]
  exact h8.symm
/-! ### A row of records -/
def rowStep (s : List Byte × List RecR × Int) (r : RecR) : List Byte × List RecR × Int := if recErr r s.2.2 = 0 then (s.1 ++ recB r s.2.2, s.2.1 ++ [r], r.id) else s
def rowJ (l : List RecR) (j : Nat) : List Byte × List RecR × Int := (l.take j).foldl rowStep ([], [], -1)
def rowE (O : List RecR) : List Byte × Int := O.foldl (fun s r => (s.1 ++ recB r s.2, r.id)) ([], -1)
theorem take_next {α : Type} [Inhabited α] {l : List α} {j : Nat} (h : j < l.length) : l.take (j + 1) = l.take j ++ [l.getD j default] := by
  rw [List.take_add_one, List.getD_eq_getElem?_getD, List.getElem?_eq_getElem h]
  rfl
theorem rowJ_succ {l : List RecR} {j : Nat} (h : j < l.length) : rowJ l (j + 1) = rowStep (rowJ l j) (l.getD j default) := by
  unfold rowJ
  rw [take_next h, List.foldl_append]
  rfl
theorem rowJ_y {l : List RecR} {j : Nat} (h : j < l.length) (he : recErr (l.getD j default) (rowJ l j).2.2 = 0) : rowJ l (j + 1) = ((rowJ l j).1 ++ recB (l.getD j default) (rowJ l j).2.2, (rowJ l j).2.1 ++ [l.getD j default], (l.getD j default).id) := by
  rw [rowJ_succ h, rowStep, if_pos he]
theorem rowJ_n {l : List RecR} {j : Nat} (h : j < l.length) (he : recErr (l.getD j default) (rowJ l j).2.2 ≠ 0) : rowJ l (j + 1) = rowJ l j := by
  rw [rowJ_succ h, rowStep, if_neg he]
theorem rowE_next {O : List RecR} {k : Nat} (h : k < O.length) : rowE (O.take (k + 1)) = ((rowE (O.take k)).1 ++ recB (O.getD k default) (rowE (O.take k)).2, (O.getD k default).id) := by
  unfold rowE
  rw [take_next h, List.foldl_append]
  rfl
theorem rowE_pre : ∀ (O : List RecR) (s : List Byte × Int), ∃ rest, (O.foldl (fun s r => (s.1 ++ recB r s.2, r.id)) s).1 = s.1 ++ rest
  | [], s => ⟨[], by simp⟩
  | r :: O, s => by
    obtain ⟨rest, h⟩ := rowE_pre O (s.1 ++ recB r s.2, r.id)
    exact ⟨recB r s.2 ++ rest, by rw [List.foldl_cons, h]; simp⟩
theorem rowE_split {O : List RecR} (k : Nat) : ∃ rest, (rowE O).1 = (rowE (O.take k)).1 ++ rest := by
  have : rowE O = (O.drop k).foldl (fun s r => (s.1 ++ recB r s.2, r.id)) (rowE (O.take k)) := by
    unfold rowE
    rw [← List.foldl_append, List.take_append_drop]
  rw [this]
  exact rowE_pre _ _
theorem rowE_snoc (O : List RecR) (r : RecR) : rowE (O ++ [r]) = ((rowE O).1 ++ recB r (rowE O).2, r.id) := by unfold rowE; rw [List.foldl_append]; rfl
structure RowInv (j : Nat) (s : List Byte × List RecR × Int) : Prop where
  a : s.1 = (rowE s.2.1).1
  b : s.2.2 = (rowE s.2.1).2
  ok : ∀ k, k < s.2.1.length → recErr (s.2.1.getD k default) (rowE (s.2.1.take k)).2 = 0
  wf : ∀ x ∈ s.2.1, x.wf
  lo : -1 ≤ s.2.2
  hi : s.2.2 ≤ 65535
  len : s.2.1.length ≤ j
  size : s.1.length ≤ 100 * j
theorem rowJ_inv {l : List RecR} (hw : ∀ x ∈ l, x.wf) : ∀ j, j ≤ l.length → RowInv j (rowJ l j)
  | 0, _ => ⟨rfl, rfl, fun k h => by simp [rowJ] at h, fun x h => by simp [rowJ] at h, (show -1 ≤ (-1 : Int) by decide), (show (-1 : Int) ≤ 65535 by decide), Nat.le_refl _, Nat.le_refl _⟩
  | j + 1, h => by
    have ih := rowJ_inv hw j (by omega)
    by_cases he : recErr (l.getD j default) (rowJ l j).2.2 = 0
    · rw [rowJ_y (by omega) he]
      obtain ⟨h1, h2, h3, h4⟩ := recErr_parts he
      have h5 := recChk_0 h1
      have hl := length_recB (l.getD j default) (rowJ l j).2.2
      have hlen := ih.len
      have hsz := ih.size
      refine ⟨?_, ?_, fun k hk => ?_, fun x hx => ?_, ?_, ?_, ?_, ?_⟩
      · show _ = (rowE ((rowJ l j).2.1 ++ [l.getD j default])).1
        rw [rowE_snoc, ← ih.a, ← ih.b]
      · show _ = (rowE ((rowJ l j).2.1 ++ [l.getD j default])).2
        rw [rowE_snoc]
      · simp only [List.length_append, List.length_singleton] at hk
        show recErr (((rowJ l j).2.1 ++ [l.getD j default]).getD k default) (rowE (((rowJ l j).2.1 ++ [l.getD j default]).take k)).2 = 0
        by_cases hk2 : k < (rowJ l j).2.1.length
        · have := ih.ok k hk2
          rw [List.take_append_of_le_length (by omega), List.getD_eq_getElem?_getD, List.getElem?_append_left hk2, ← List.getD_eq_getElem?_getD]
          exact this
        · have hk3 : k = (rowJ l j).2.1.length := by omega
          subst hk3
          rw [List.take_left', List.getD_eq_getElem?_getD, List.getElem?_append_right (Nat.le_refl _)]
          · simp only [Nat.sub_self, List.getElem?_cons_zero, Option.getD_some]
            rw [← ih.b]
            exact he
          · rfl
      · rcases List.mem_append.1 hx with hx | hx
        · exact ih.wf x hx
        · rw [List.mem_singleton] at hx; subst hx; exact recs_getD hw (by omega)
      · show -1 ≤ (l.getD j default).id; omega
      · show (l.getD j default).id ≤ 65535; omega
      · simp only [List.length_append, List.length_singleton]; omega
      · simp only [List.length_append]; omega
    · rw [rowJ_n (by omega) he]
      exact ⟨ih.a, ih.b, ih.ok, ih.wf, ih.lo, ih.hi, by have := ih.len; omega, by have := ih.size; omega⟩
/-- Each is read where it lies. -/
theorem row_reads {j k : Nat} {s : List Byte × List RecR × Int} (h : RowInv j s) (hk : k < s.2.1.length) :
    rdRec s.1 (rowE (s.2.1.take k)).2 ⟨(rowE (s.2.1.take k)).1.length, 0⟩ = (s.2.1.getD k default, 0, ⟨(rowE (s.2.1.take (k + 1))).1.length, 0⟩) := by
  obtain ⟨rest, hr⟩ := rowE_split (O := s.2.1) (k + 1)
  rw [rowE_next hk] at hr
  have hd : s.1.drop (rowE (s.2.1.take k)).1.length = recB (s.2.1.getD k default) (rowE (s.2.1.take k)).2 ++ rest := by
    rw [h.a, hr]
    simp
  have hp : (rowE (s.2.1.take k)).1.length ≤ s.1.length := by
    rw [h.a, hr]
    simp only [List.length_append]
    omega
  rw [rd_full (recs_getD h.wf hk) (h.ok k hk) hp hd, rowE_next hk, List.length_append]
theorem row_last {j k : Nat} {s : List Byte × List RecR × Int} (h : RowInv j s) (hk : k ≤ s.2.1.length) : -1 ≤ (rowE (s.2.1.take k)).2 ∧ (rowE (s.2.1.take k)).2 ≤ 65535 ∧ (rowE (s.2.1.take k)).1.length ≤ s.1.length := by
  have h3 : (rowE (s.2.1.take k)).1.length ≤ s.1.length := by
    obtain ⟨rest, hr⟩ := rowE_split (O := s.2.1) k
    rw [h.a, hr]
    simp
  cases k with
  | zero => exact ⟨(show -1 ≤ (-1 : Int) by decide), (show (-1 : Int) ≤ 65535 by decide), h3⟩
  | succ k =>
    have he := recErr_parts (h.ok k (by omega))
    have h5 := recChk_0 he.1
    refine ⟨?_, ?_, h3⟩ <;> (rw [rowE_next (by omega)]; dsimp only; omega)
theorem row_end {j k : Nat} {s : List Byte × List RecR × Int} (h : RowInv j s) (hk : k = s.2.1.length) : (rowE (s.2.1.take k)).1.length = s.1.length := by
  subst hk
  rw [List.take_length, h.a]
theorem row_done {j k : Nat} {s : List Byte × List RecR × Int} (h : RowInv j s) (hk : k = s.2.1.length) : rDone s.1 ⟨(rowE (s.2.1.take k)).1.length, 0⟩ = 0 := by
  unfold rDone
  rw [if_pos (.inr (by rw [row_end h hk]; exact Nat.le_refl _))]
/-! ### Sizes -/
def szN (r : RecR) (last : Int) : Nat → Nat
  | 0 => vlen (BitVec.ofInt 64 (r.id - last - 1)).toNat + 1
  | i + 1 => szN r last i + if r.k = 0 ∨ r.k = 3 ∨ r.k = 1 ∧ r.num i ≠ 0 then vlen (zigI (r.num i)).toNat else 0
theorem szN_y {r : RecR} {last : Int} {i : Nat} {x : Int} (hx : r.num i = x) (h : r.k = 0 ∨ r.k = 3 ∨ r.k = 1 ∧ x ≠ 0) : szN r last (i + 1) = szN r last i + vlen (zigI x).toNat := by
  subst hx
  show szN r last i + (if _ then _ else _) = _
  rw [if_pos h]
theorem szN_n {r : RecR} {last : Int} {i : Nat} {x : Int} (hx : r.num i = x) (h : ¬ (r.k = 0 ∨ r.k = 3 ∨ r.k = 1 ∧ x ≠ 0)) : szN r last (i + 1) = szN r last i := by
  subst hx
  show szN r last i + (if _ then _ else _) = _
  rw [if_neg h, Nat.add_zero]
theorem szN_le (r : RecR) (last : Int) : ∀ i, szN r last i ≤ 11 + 10 * i
  | 0 => by have := vlen_le (BitVec.ofInt 64 (r.id - last - 1)).toNat; unfold szN; omega
  | i + 1 => by
    have := szN_le r last i
    have := vlen_le (zigI (r.num i)).toNat
    unfold szN
    split <;> omega
theorem szN_head {r : RecR} {last : Int} (hk : r.k = 0 ∨ r.k = 3) : (recHead r last ++ recAll r).length = szN r last 6 + (vput r.a.toNat).length := by
  have h := fun i => szN_y (r := r) (last := last) (i := i) rfl (by omega)
  rw [show szN r last 6 = _ from h 5, h 4, h 3, h 2, h 1, h 0]
  unfold recHead recAll numB szN
  simp only [List.length_append, List.length_singleton, RecR.num, vlen]
  omega
theorem szN_rest {r : RecR} {last : Int} (hk : r.k = 1) : ∀ i, szN r last i = (vput (BitVec.ofInt 64 (r.id - last - 1)).toNat).length + 1 + (upRest r i).length
  | 0 => by unfold szN upRest; rfl
  | i + 1 => by
    have ih := szN_rest (last := last) hk i
    by_cases h0 : r.num i = 0
    · rw [szN_n (r := r) (last := last) (i := i) rfl (by rintro (h | h | h); omega; omega; exact h.2 h0), upRest_z h0, ih]
    · rw [szN_y (r := r) (last := last) (i := i) rfl (.inr (.inr ⟨hk, h0⟩)), upRest_n h0, ih]
      simp only [List.length_append, numB, vlen]
      omega
theorem len_all {r : RecR} {last : Int} (he : recErr r last = 0) (hk : r.k = 0 ∨ r.k = 3) : (recB r last).length = szN r last 6 + (vput r.a.toNat).length := by rw [recB_all he hk, szN_head hk]
theorem len_some_z {r : RecR} {last : Int} (he : recErr r last = 0) (hk : r.k = 1) (ha : ((r.a.toNat : Nat) : Int) = 0) : (recB r last).length = szN r last 6 + 1 := by
  rw [recB_some he hk, recSome_z ha, szN_rest hk]
  unfold recHead
  simp only [List.length_append, List.length_cons, List.length_nil]
  omega
theorem len_some_n {r : RecR} {last : Int} (he : recErr r last = 0) (hk : r.k = 1) (ha : ((r.a.toNat : Nat) : Int) ≠ 0) : (recB r last).length = szN r last 6 + (1 + (vput r.a.toNat).length) := by
  rw [recB_some he hk, recSome_n ha, szN_rest hk]
  unfold recHead
  simp only [List.length_append, List.length_cons, List.length_nil]
  omega
theorem len_none {r : RecR} {last : Int} (he : recErr r last = 0) (hk : r.k = 2) : (recB r last).length = szN r last 6 := by
  have h := fun i => szN_n (r := r) (last := last) (i := i) rfl (by omega)
  rw [recB_none he hk, show szN r last 6 = _ from h 5, h 4, h 3, h 2, h 1, h 0]
  unfold recHead szN
  simp only [List.length_append, List.length_singleton, vlen]
end Go.Sx
