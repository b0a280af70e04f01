/- Entities: plain data, what is others, and what is made of it. -/
import Derived.Test.YtbioemaipghagaaGreatQSxPrecR
set_option linter.unusedVariables false
set_option linter.unusedSimpArgs false
namespace Go.Sx
structure EntR where
  id : Int
  p0 : Int
  p1 : Int
  p2 : Int
  v0 : Int
  v1 : Int
  v2 : Int
  a : BitVec 16
  g : BitVec 8
instance : Inhabited EntR := ⟨⟨0, 0, 0, 0, 0, 0, 0, 0#16, 0#8⟩⟩
structure EntR.wf (r : EntR) : Prop where
  id : -9223372036854775808 ≤ r.id ∧ r.id ≤ 9223372036854775807
  p0 : -9223372036854775808 ≤ r.p0 ∧ r.p0 ≤ 9223372036854775807
  p1 : -9223372036854775808 ≤ r.p1 ∧ r.p1 ≤ 9223372036854775807
  p2 : -9223372036854775808 ≤ r.p2 ∧ r.p2 ≤ 9223372036854775807
  v0 : -9223372036854775808 ≤ r.v0 ∧ r.v0 ≤ 9223372036854775807
  v1 : -9223372036854775808 ≤ r.v1 ∧ r.v1 ≤ 9223372036854775807
  v2 : -9223372036854775808 ≤ r.v2 ∧ r.v2 ≤ 9223372036854775807
def entV (r : EntR) : List Value := [.int .i64 r.id, .int .i64 r.p0, .int .i64 r.p1, .int .i64 r.p2, .int .i64 r.v0, .int .i64 r.v1, .int .i64 r.v2, .int .u16 ((r.a.toNat : Nat) : Int), .int .u8 ((r.g.toNat : Nat) : Int)]
def entZ : EntR := ⟨0, 0, 0, 0, 0, 0, 0, 0#16, 0#8⟩
def entEq (a b : EntR) : Bool := eqCells (entV a) (entV b)
theorem entV_eq {r s : EntR} : eqCells (entV r) (entV s) = true ↔ r = s := by
  constructor
  · intro h
    cases r; cases s
    simp only [eqCells, entV, vEq, Bool.and_eq_true, beq_iff_eq, Bool.and_true, Bool.true_and] at h
    obtain ⟨h1, h2, h3, h4, h5, h6, h7, h8, h9⟩ := h
    have h8' := BitVec.eq_of_toNat_eq (Int.ofNat.inj h8)
    have h9' := BitVec.eq_of_toNat_eq (Int.ofNat.inj h9)
    subst h1 h2 h3 h4 h5 h6 h7 h8' h9'
    rfl
  · rintro rfl
    simp [eqCells, entV, vEq]
def recDiff (a b : EntR) : RecR × Bool :=
  if entEq a b = true then (recZ, false)
  else if a.g.toNat = b.g.toNat then (⟨1, b.id, IntKind.i64.wrap (b.p0 - a.p0), IntKind.i64.wrap (b.p1 - a.p1), IntKind.i64.wrap (b.p2 - a.p2), IntKind.i64.wrap (b.v0 - a.v0), IntKind.i64.wrap (b.v1 - a.v1), IntKind.i64.wrap (b.v2 - a.v2), b.a - a.a⟩, true)
  else (⟨3, b.id, b.p0, b.p1, b.p2, b.v0, b.v1, b.v2, b.a⟩, true)
def entApply (a : EntR) (r : RecR) : EntR × Nat :=
  if recChk r ≠ 0 then (entZ, recChk r) else if r.id ≠ a.id ∨ r.k = 0 ∨ r.k = 2 then (entZ, 15)
  else if r.k = 3 then (⟨a.id, r.p0, r.p1, r.p2, r.v0, r.v1, r.v2, r.a, a.g + 1#8⟩, 0)
  else (⟨a.id, IntKind.i64.wrap (a.p0 + r.p0), IntKind.i64.wrap (a.p1 + r.p1), IntKind.i64.wrap (a.p2 + r.p2), IntKind.i64.wrap (a.v0 + r.v0), IntKind.i64.wrap (a.v1 + r.v1), IntKind.i64.wrap (a.v2 + r.v2), a.a + r.a, a.g⟩, 0)
theorem wrap_back {x y : Int} (hy : -9223372036854775808 ≤ y ∧ y ≤ 9223372036854775807) : IntKind.i64.wrap (x + IntKind.i64.wrap (y - x)) = y := by
  simp only [IntKind.wrap_i64]
  omega
theorem wrap_zero {x y : Int} (hx : -9223372036854775808 ≤ x ∧ x ≤ 9223372036854775807) (hy : -9223372036854775808 ≤ y ∧ y ≤ 9223372036854775807) (h : IntKind.i64.wrap (y - x) = 0) : y = x := by
  simp only [IntKind.wrap_i64] at h
  omega
theorem wrap_rng (x : Int) : -9223372036854775808 ≤ IntKind.i64.wrap x ∧ IntKind.i64.wrap x ≤ 9223372036854775807 := by
  simp only [IntKind.wrap_i64]
  omega
theorem recDiff_eq {a b : EntR} (h : entEq a b = true) : recDiff a b = (recZ, false) := by unfold recDiff; rw [if_pos h]
theorem recDiff_upd {a b : EntR} (h : entEq a b = false) (h2 : a.g.toNat = b.g.toNat) : recDiff a b = (⟨1, b.id, IntKind.i64.wrap (b.p0 - a.p0), IntKind.i64.wrap (b.p1 - a.p1), IntKind.i64.wrap (b.p2 - a.p2), IntKind.i64.wrap (b.v0 - a.v0), IntKind.i64.wrap (b.v1 - a.v1), IntKind.i64.wrap (b.v2 - a.v2), b.a - a.a⟩, true) := by
  unfold recDiff
  rw [if_neg (by rw [h]; decide), if_pos h2]
theorem recDiff_tel {a b : EntR} (h : entEq a b = false) (h2 : a.g.toNat ≠ b.g.toNat) : recDiff a b = (⟨3, b.id, b.p0, b.p1, b.p2, b.v0, b.v1, b.v2, b.a⟩, true) := by
  unfold recDiff
  rw [if_neg (by rw [h]; decide), if_neg h2]
theorem recDiff_wf {a b : EntR} (hb : b.wf) : (recDiff a b).1.wf := by
  unfold recDiff
  split
  · exact ⟨by decide, by decide, by decide, by decide, by decide, by decide, by decide, by decide⟩
  · split
    · exact ⟨(show -9223372036854775808 ≤ (1 : Int) ∧ (1 : Int) ≤ 9223372036854775807 by decide), hb.id, wrap_rng _, wrap_rng _, wrap_rng _, wrap_rng _, wrap_rng _, wrap_rng _⟩
    · exact ⟨(show -9223372036854775808 ≤ (3 : Int) ∧ (3 : Int) ≤ 9223372036854775807 by decide), hb.id, hb.p0, hb.p1, hb.p2, hb.v0, hb.v1, hb.v2⟩
theorem entApply_chk {a : EntR} {r : RecR} (h : recChk r ≠ 0) : entApply a r = (entZ, recChk r) := by unfold entApply; rw [if_pos h]
theorem entApply_no {a : EntR} {r : RecR} (h : recChk r = 0) (h2 : r.id ≠ a.id ∨ r.k = 0 ∨ r.k = 2) : entApply a r = (entZ, 15) := by unfold entApply; rw [if_neg (by omega), if_pos h2]
theorem entApply_tel {a : EntR} {r : RecR} (h : recChk r = 0) (h2 : ¬ (r.id ≠ a.id ∨ r.k = 0 ∨ r.k = 2)) (h3 : r.k = 3) : entApply a r = (⟨a.id, r.p0, r.p1, r.p2, r.v0, r.v1, r.v2, r.a, a.g + 1#8⟩, 0) := by
  unfold entApply
  rw [if_neg (by omega), if_neg h2, if_pos h3]
theorem entApply_upd {a : EntR} {r : RecR} (h : recChk r = 0) (h2 : ¬ (r.id ≠ a.id ∨ r.k = 0 ∨ r.k = 2)) (h3 : r.k ≠ 3) : entApply a r = (⟨a.id, IntKind.i64.wrap (a.p0 + r.p0), IntKind.i64.wrap (a.p1 + r.p1), IntKind.i64.wrap (a.p2 + r.p2), IntKind.i64.wrap (a.v0 + r.v0), IntKind.i64.wrap (a.v1 + r.v1), IntKind.i64.wrap (a.v2 + r.v2), a.a + r.a, a.g⟩, 0) := by
  unfold entApply
  rw [if_neg (by omega), if_neg h2, if_neg h3]
theorem sub_back16 (x y : BitVec 16) : x + (y - x) = y := by
  apply BitVec.eq_of_toNat_eq
  simp only [BitVec.toNat_add, BitVec.toNat_sub]
  have := x.isLt
  have := y.isLt
  omega
/-- What Apply makes by what is others is the other one. -/
theorem diff_makes {A B : EntR} (ha : A.wf) (hb : B.wf) (hid : 0 ≤ A.id ∧ A.id ≤ 65535) (he : B.id = A.id) (hg : B.g = A.g ∨ B.g = A.g + 1#8) (hne : (recDiff A B).2 = true) :
    entApply A (recDiff A B).1 = (B, 0) ∧ recChk (recDiff A B).1 = 0 ∧ entEq A B = false ∧ ((recDiff A B).1.k = 3 ↔ B.g ≠ A.g) ∧ ((recDiff A B).1.k = 1 ∨ (recDiff A B).1.k = 3) ∧ (recDiff A B).1.id = B.id := by
  cases heq : entEq A B with
  | true => rw [recDiff_eq heq] at hne; cases hne
  | false =>
    have hAB : A ≠ B := fun e => by
      rw [show entEq A B = true from entV_eq.2 e] at heq
      cases heq
    by_cases h2 : A.g.toNat = B.g.toNat
    · have hgg : B.g = A.g := (BitVec.eq_of_toNat_eq h2).symm
      have hemp : recEmpty (⟨1, B.id, IntKind.i64.wrap (B.p0 - A.p0), IntKind.i64.wrap (B.p1 - A.p1), IntKind.i64.wrap (B.p2 - A.p2), IntKind.i64.wrap (B.v0 - A.v0), IntKind.i64.wrap (B.v1 - A.v1), IntKind.i64.wrap (B.v2 - A.v2), B.a - A.a⟩ : RecR) = false := by
        cases hx : recEmpty (⟨1, B.id, IntKind.i64.wrap (B.p0 - A.p0), IntKind.i64.wrap (B.p1 - A.p1), IntKind.i64.wrap (B.p2 - A.p2), IntKind.i64.wrap (B.v0 - A.v0), IntKind.i64.wrap (B.v1 - A.v1), IntKind.i64.wrap (B.v2 - A.v2), B.a - A.a⟩ : RecR) with
        | false => rfl
        | true =>
          exfalso
          simp only [recEmpty, Bool.and_eq_true, beq_iff_eq] at hx
          obtain ⟨⟨⟨⟨⟨⟨e0, e1⟩, e2⟩, e3⟩, e4⟩, e5⟩, e6⟩ := hx
          have e6' : B.a - A.a = 0#16 := a_zero e6
          have e7 : B.a = A.a := by
            have := sub_back16 A.a B.a
            rw [e6'] at this
            simpa using this.symm
          apply hAB
          have f0 := wrap_zero ha.p0 hb.p0 e0
          have f1 := wrap_zero ha.p1 hb.p1 e1
          have f2 := wrap_zero ha.p2 hb.p2 e2
          have f3 := wrap_zero ha.v0 hb.v0 e3
          have f4 := wrap_zero ha.v1 hb.v1 e4
          have f5 := wrap_zero ha.v2 hb.v2 e5
          cases A; cases B; simp_all
      have hc : recChk (⟨1, B.id, IntKind.i64.wrap (B.p0 - A.p0), IntKind.i64.wrap (B.p1 - A.p1), IntKind.i64.wrap (B.p2 - A.p2), IntKind.i64.wrap (B.v0 - A.v0), IntKind.i64.wrap (B.v1 - A.v1), IntKind.i64.wrap (B.v2 - A.v2), B.a - A.a⟩ : RecR) = 0 := by
        unfold recChk
        rw [hemp]
        dsimp only
        rw [if_neg (by omega), if_neg (by omega), if_neg (by simp)]
      rw [recDiff_upd heq h2]
      dsimp only
      refine ⟨?_, hc, rfl, by simp [hgg], by simp, rfl⟩
      rw [entApply_upd hc (by simp [he]) (by simp)]
      simp only [wrap_back hb.p0, wrap_back hb.p1, wrap_back hb.p2, wrap_back hb.v0, wrap_back hb.v1, wrap_back hb.v2, sub_back16]
      rw [← he, ← hgg]
    · have hgg : B.g = A.g + 1#8 := by
        rcases hg with h | h
        · exact absurd (by rw [h]) h2
        · exact h
      have hc : recChk (⟨3, B.id, B.p0, B.p1, B.p2, B.v0, B.v1, B.v2, B.a⟩ : RecR) = 0 := by
        unfold recChk
        dsimp only
        rw [if_neg (by omega), if_neg (by omega), if_neg (by omega)]
      rw [recDiff_tel heq h2]
      dsimp only
      refine ⟨?_, hc, rfl, ?_, by simp, rfl⟩
      · rw [entApply_tel hc (by simp [he]) rfl]
        rw [← he, ← hgg]
      · exact ⟨fun _ e => h2 (by rw [e]), fun _ => rfl⟩
theorem diff_same {A B : EntR} (h : (recDiff A B).2 = false) : A = B := by
  cases heq : entEq A B with
  | true => exact entV_eq.1 heq
  | false =>
    by_cases h2 : A.g.toNat = B.g.toNat
    · rw [recDiff_upd heq h2] at h; cases h
    · rw [recDiff_tel heq h2] at h; cases h
end Go.Sx
