/- Records and entities that came in; what the laws of records need. -/
import Derived.Test.YtkobgcoegajfcaaSxPrecB
import Derived.Test.YtkobgcoegajfcaaSxO
set_option linter.unusedVariables false
set_option linter.unusedSimpArgs false
namespace Go.Sx
theorem rec_of {cs : List Value} (h : AllFK cs [.i .i64, .i .i64, .i .i64, .i .i64, .i .i64, .i .i64, .i .i64, .i .i64, .i .u16]) : ∃ r : RecR, cs = recV r ∧ r.wf := by
  obtain ⟨_, _, rfl, h1, h⟩ := h.split
  obtain ⟨_, _, rfl, h2, h⟩ := h.split
  obtain ⟨_, _, rfl, h3, h⟩ := h.split
  obtain ⟨_, _, rfl, h4, h⟩ := h.split
  obtain ⟨_, _, rfl, h5, h⟩ := h.split
  obtain ⟨_, _, rfl, h6, h⟩ := h.split
  obtain ⟨_, _, rfl, h7, h⟩ := h.split
  obtain ⟨_, _, rfl, h8, h⟩ := h.split
  obtain ⟨_, _, rfl, h9, h⟩ := h.split
  obtain rfl := h.none
  obtain ⟨z1, rfl, w1⟩ := h1.i64
  obtain ⟨z2, rfl, w2⟩ := h2.i64
  obtain ⟨z3, rfl, w3⟩ := h3.i64
  obtain ⟨z4, rfl, w4⟩ := h4.i64
  obtain ⟨z5, rfl, w5⟩ := h5.i64
  obtain ⟨z6, rfl, w6⟩ := h6.i64
  obtain ⟨z7, rfl, w7⟩ := h7.i64
  obtain ⟨z8, rfl, w8⟩ := h8.i64
  obtain ⟨z9, rfl⟩ := h9.u16
  exact ⟨⟨z1, z2, z3, z4, z5, z6, z7, z8, z9⟩, rfl, ⟨w1, w2, w3, w4, w5, w6, w7, w8⟩⟩
theorem ent_of {cs : List Value} (h : AllFK cs [.i .i64, .i .i64, .i .i64, .i .i64, .i .i64, .i .i64, .i .i64, .i .u16, .i .u8]) : ∃ r : EntR, cs = entV r ∧ r.wf := by
  obtain ⟨_, _, rfl, h1, h⟩ := h.split
  obtain ⟨_, _, rfl, h2, h⟩ := h.split
  obtain ⟨_, _, rfl, h3, h⟩ := h.split
  obtain ⟨_, _, rfl, h4, h⟩ := h.split
  obtain ⟨_, _, rfl, h5, h⟩ := h.split
  obtain ⟨_, _, rfl, h6, h⟩ := h.split
  obtain ⟨_, _, rfl, h7, h⟩ := h.split
  obtain ⟨_, _, rfl, h8, h⟩ := h.split
  obtain ⟨_, _, rfl, h9, h⟩ := h.split
  obtain rfl := h.none
  obtain ⟨z1, rfl, w1⟩ := h1.i64
  obtain ⟨z2, rfl, w2⟩ := h2.i64
  obtain ⟨z3, rfl, w3⟩ := h3.i64
  obtain ⟨z4, rfl, w4⟩ := h4.i64
  obtain ⟨z5, rfl, w5⟩ := h5.i64
  obtain ⟨z6, rfl, w6⟩ := h6.i64
  obtain ⟨z7, rfl, w7⟩ := h7.i64
  obtain ⟨z8, rfl⟩ := h8.u16
  obtain ⟨z9, rfl⟩ := h9.u8
  exact ⟨⟨z1, z2, z3, z4, z5, z6, z7, z8, z9⟩, rfl, ⟨w1, w2, w3, w4, w5, w6, w7⟩⟩
theorem list_ofP {α : Type} {f : Nat → List Value} {g : α → List Value} {p : α → Prop} : ∀ (n : Nat), (∀ i, i < n → ∃ a : α, f i = g a ∧ p a) → ∃ l : List α, l.length = n ∧ (List.range n).flatMap f = l.flatMap g ∧ ∀ x ∈ l, p x
  | 0, _ => ⟨[], rfl, rfl, by simp⟩
  | n + 1, h => by
    obtain ⟨l, hl, he, hp⟩ := list_ofP n fun i hi => h i (by omega)
    obtain ⟨a, ha, hpa⟩ := h n (by omega)
    refine ⟨l ++ [a], by simp [hl], by rw [List.range_succ, List.flatMap_append, List.flatMap_append, he]; simp [ha], fun x hx => ?_⟩
    rcases List.mem_append.1 hx with hx | hx
    · exact hp x hx
    · rw [List.mem_singleton] at hx; subst hx; exact hpa
theorem recV_len (r : RecR) : (recV r).length = 9 := rfl
theorem entV_len (r : EntR) : (entV r).length = 9 := rfl
theorem recs_getD {l : List RecR} (h : ∀ x ∈ l, x.wf) {j : Nat} (hj : j < l.length) : (l.getD j default).wf := by
  rw [List.getD_eq_getElem?_getD, List.getElem?_eq_getElem hj]
  exact h _ (List.getElem_mem hj)
theorem recV_refl (r : RecR) : eqCells (recV r) (recV r) = true := recV_eq.2 rfl
theorem entV_refl (r : EntR) : eqCells (entV r) (entV r) = true := entV_eq.2 rfl
theorem gen_next (g : BitVec 8) : g + 1#8 ≠ g := by
  intro h
  have := congrArg BitVec.toNat h
  rw [BitVec.toNat_add, show (1#8).toNat = 1 from rfl] at this
  have := g.isLt
  omega
/-! ### Sizes -/
def szN (r : RecR) (last : Int) : Nat → Nat
  | 0 => vlen (BitVec.ofInt 64 (r.id - last - 1)).toNat + 1
  | i + 1 => szN r last i + if r.k = 0 ∨ r.k = 3 ∨ r.k = 1 ∧ r.num i ≠ 0 then vlen (zigI (r.num i)).toNat else 0
theorem szN_y {r : RecR} {last : Int} {i : Nat} {x : Int} (hx : r.num i = x) (h : r.k = 0 ∨ r.k = 3 ∨ r.k = 1 ∧ x ≠ 0) : szN r last (i + 1) = szN r last i + vlen (zigI x).toNat := by
  subst hx
  show szN r last i + (if _ then _ else _) = _
  rw [if_pos h]
theorem szN_n {r : RecR} {last : Int} {i : Nat} {x : Int} (hx : r.num i = x) (h : ¬ (r.k = 0 ∨ r.k = 3 ∨ r.k = 1 ∧ x ≠ 0)) : szN r last (i + 1) = szN r last i := by
  subst hx
  show szN r last i + (if _ then _ else _) = _
  rw [if_neg h, Nat.add_zero]
theorem szN_le (r : RecR) (last : Int) : ∀ i, szN r last i ≤ 11 + 10 * i
  | 0 => by have := vlen_le (BitVec.ofInt 64 (r.id - last - 1)).toNat; unfold szN; omega
  | i + 1 => by
    have := szN_le r last i
    have := vlen_le (zigI (r.num i)).toNat
    unfold szN
    split <;> omega
theorem szN_head {r : RecR} {last : Int} (hk : r.k = 0 ∨ r.k = 3) : (recHead r last ++ recAll r).length = szN r last 6 + (vput r.a.toNat).length := by
  have h := fun i => szN_y (r := r) (last := last) (i := i) rfl (by omega)
  rw [show szN r last 6 = _ from h 5, h 4, h 3, h 2, h 1, h 0]
  unfold recHead recAll numB szN
  simp only [List.length_append, List.length_singleton, RecR.num, vlen]
  omega
theorem szN_rest {r : RecR} {last : Int} (hk : r.k = 1) : ∀ i, szN r last i = (vput (BitVec.ofInt 64 (r.id - last - 1)).toNat).length + 1 + (upRest r i).length
  | 0 => by unfold szN upRest; rfl
  | i + 1 => by
    have ih := szN_rest (last := last) hk i
    by_cases h0 : r.num i = 0
    · rw [szN_n (r := r) (last := last) (i := i) rfl (by rintro (h | h | h); omega; omega; exact h.2 h0), upRest_z h0, ih]
    · rw [szN_y (r := r) (last := last) (i := i) rfl (.inr (.inr ⟨hk, h0⟩)), upRest_n h0, ih]
      simp only [List.length_append, numB, vlen]
      omega
theorem len_all {r : RecR} {last : Int} (he : recErr r last = 0) (hk : r.k = 0 ∨ r.k = 3) : (recB r last).length = szN r last 6 + (vput r.a.toNat).length := by rw [recB_all he hk, szN_head hk]
theorem len_some_z {r : RecR} {last : Int} (he : recErr r last = 0) (hk : r.k = 1) (ha : ((r.a.toNat : Nat) : Int) = 0) : (recB r last).length = szN r last 6 + 1 := by
  rw [recB_some he hk, recSome_z ha, szN_rest hk]
  unfold recHead
  simp only [List.length_append, List.length_cons, List.length_nil]
  omega
theorem len_some_n {r : RecR} {last : Int} (he : recErr r last = 0) (hk : r.k = 1) (ha : ((r.a.toNat : Nat) : Int) ≠ 0) : (recB r last).length = szN r last 6 + (1 + (vput r.a.toNat).length) := by
  rw [recB_some he hk, recSome_n ha, szN_rest hk]
  unfold recHead
  simp only [List.length_append, List.length_cons, List.length_nil]
  omega
theorem len_none {r : RecR} {last : Int} (he : recErr r last = 0) (hk : r.k = 2) : (recB r last).length = szN r last 6 := by
  have h := fun i => szN_n (r := r) (last := last) (i := i) rfl (by omega)
  rw [recB_none he hk, show szN r last 6 = _ from h 5, h 4, h 3, h 2, h 1, h 0]
  unfold recHead szN
  simp only [List.length_append, List.length_singleton, vlen]
end Go.Sx
