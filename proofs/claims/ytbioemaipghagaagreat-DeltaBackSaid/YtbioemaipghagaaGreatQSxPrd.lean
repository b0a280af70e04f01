/- Numbers off bytes: plain mathematics. -/
import Derived.Test.YtbioemaipghagaaGreatQSxPvar
set_option linter.unusedVariables false
set_option linter.unusedSimpArgs false
namespace Go.Sx
/-- Where a reader stands: the place, the error. -/
structure Rs where
  p : Nat
  e : Nat
def rByte (bs : List Byte) (R : Rs) : Byte × Rs := if R.e ≠ 0 then (0#8, R) else if bs.length ≤ R.p then (0#8, ⟨R.p, 6⟩) else (bs.getD R.p 0, ⟨R.p + 1, 0⟩)
def uerr (b : List Byte) (X : BitVec 64) : Nat := if (vget b).2.2 = 0 ∧ X.toNat < (vget b).1.toNat then 3 else (vget b).2.2
def rUint (bs : List Byte) (X : BitVec 64) (R : Rs) : BitVec 64 × Rs :=
  if R.e ≠ 0 then (0#64, R) else if bs.length ≤ R.p then (0#64, ⟨R.p, 6⟩) else if uerr (bs.drop R.p) X ≠ 0 then (0#64, ⟨R.p, uerr (bs.drop R.p) X⟩) else ((vget (bs.drop R.p)).1, ⟨R.p + (vget (bs.drop R.p)).2.1, 0⟩)
def rInt (bs : List Byte) (R : Rs) : Int × Rs := (zagI (rUint bs 18446744073709551615#64 R).1, (rUint bs 18446744073709551615#64 R).2)
def rFail (e : Nat) (R : Rs) : Rs := if R.e = 0 then ⟨R.p, e⟩ else R
def rDone (bs : List Byte) (R : Rs) : Nat := if R.e ≠ 0 ∨ bs.length ≤ R.p then R.e else 8
def rVec (bs : List Byte) (R : Rs) : Rs := (rInt bs (rInt bs (rInt bs R).2).2).2
theorem uerr_ok {b : List Byte} {X : BitVec 64} (h : uerr b X = 0) : (vget b).2.2 = 0 ∧ ¬ X.toNat < (vget b).1.toNat := by
  unfold uerr at h
  split at h
  · cases h
  · rename_i h'
    exact ⟨h, fun h2 => h' ⟨h, h2⟩⟩
theorem uerr_le {b : List Byte} {X : BitVec 64} (h : uerr b X = 0) : 1 ≤ (vget b).2.1 ∧ (vget b).2.1 ≤ b.length := by
  have := vget_back_part (uerr_ok h).1
  exact ⟨this.1, this.2.1⟩
theorem vget_ten (b : List Byte) : (vget b).2.1 ≤ 10 := by
  have := vcont_le 10 b
  unfold vget
  repeat' split
  all_goals simp
  omega
theorem rUint_err {bs : List Byte} {X : BitVec 64} {R : Rs} (h : R.e ≠ 0) : rUint bs X R = (0#64, R) := by unfold rUint; rw [if_pos h]
theorem rUint_short {bs : List Byte} {X : BitVec 64} {R : Rs} (h : R.e = 0) (h1 : bs.length ≤ R.p) : rUint bs X R = (0#64, ⟨R.p, 6⟩) := by unfold rUint; rw [if_neg (by omega), if_pos h1]
theorem rUint_bad {bs : List Byte} {X : BitVec 64} {R : Rs} (h : R.e = 0) (h1 : ¬ bs.length ≤ R.p) (h2 : uerr (bs.drop R.p) X ≠ 0) : rUint bs X R = (0#64, ⟨R.p, uerr (bs.drop R.p) X⟩) := by unfold rUint; rw [if_neg (by omega), if_neg h1, if_pos h2]
theorem rUint_good {bs : List Byte} {X : BitVec 64} {R : Rs} (h : R.e = 0) (h1 : ¬ bs.length ≤ R.p) (h2 : uerr (bs.drop R.p) X = 0) : rUint bs X R = ((vget (bs.drop R.p)).1, ⟨R.p + (vget (bs.drop R.p)).2.1, 0⟩) := by unfold rUint; rw [if_neg (by omega), if_neg h1, if_neg (by omega)]
theorem rByte_err {bs : List Byte} {R : Rs} (h : R.e ≠ 0) : rByte bs R = (0#8, R) := by unfold rByte; rw [if_pos h]
theorem rByte_short {bs : List Byte} {R : Rs} (h : R.e = 0) (h1 : bs.length ≤ R.p) : rByte bs R = (0#8, ⟨R.p, 6⟩) := by unfold rByte; rw [if_neg (by omega), if_pos h1]
theorem rByte_good {bs : List Byte} {R : Rs} (h : R.e = 0) (h1 : ¬ bs.length ≤ R.p) : rByte bs R = (bs.getD R.p 0, ⟨R.p + 1, 0⟩) := by unfold rByte; rw [if_neg (by omega), if_neg h1]
/-- What a call keeps. -/
theorem rUint_le {bs : List Byte} {X : BitVec 64} {R : Rs} (h : R.p ≤ bs.length) : (rUint bs X R).2.p ≤ bs.length ∧ R.p ≤ (rUint bs X R).2.p ∧ (rUint bs X R).2.p ≤ R.p + 10 ∧ (rUint bs X R).1.toNat ≤ X.toNat ∧ (R.e ≠ 0 → rUint bs X R = (0#64, R)) := by
  by_cases h0 : R.e = 0
  · by_cases h1 : bs.length ≤ R.p
    · rw [rUint_short h0 h1]; simp; omega
    · by_cases h2 : uerr (bs.drop R.p) X = 0
      · rw [rUint_good h0 h1 h2]
        have := uerr_le h2
        have h3 := vget_ten (bs.drop R.p)
        have h4 := (uerr_ok h2).2
        simp only [List.length_drop] at this
        simp [h0]
        omega
      · rw [rUint_bad h0 h1 h2]; simp [h0]; omega
  · rw [rUint_err h0]; simp; omega
theorem rByte_le {bs : List Byte} {R : Rs} (h : R.p ≤ bs.length) : (rByte bs R).2.p ≤ bs.length ∧ R.p ≤ (rByte bs R).2.p ∧ (rByte bs R).2.p ≤ R.p + 1 ∧ (R.e ≠ 0 → rByte bs R = (0#8, R)) := by
  by_cases h0 : R.e = 0
  · by_cases h1 : bs.length ≤ R.p
    · rw [rByte_short h0 h1]; simp [h0]; omega
    · rw [rByte_good h0 h1]; simp [h0]; omega
  · rw [rByte_err h0]; simp; omega
theorem rInt_le {bs : List Byte} {R : Rs} (h : R.p ≤ bs.length) : (rInt bs R).2.p ≤ bs.length ∧ R.p ≤ (rInt bs R).2.p ∧ (rInt bs R).2.p ≤ R.p + 10 ∧ (R.e ≠ 0 → rInt bs R = (0, R)) := by
  have := rUint_le (X := 18446744073709551615#64) h
  refine ⟨this.1, this.2.1, this.2.2.1, fun h0 => ?_⟩
  unfold rInt
  rw [this.2.2.2.2 h0]
  simp [zagI]
theorem rVec_le {bs : List Byte} {R : Rs} (h : R.p ≤ bs.length) : (rVec bs R).p ≤ bs.length ∧ R.p ≤ (rVec bs R).p ∧ (rVec bs R).p ≤ R.p + 30 := by
  have h1 := rInt_le h
  have h2 := rInt_le h1.1
  have h3 := rInt_le h2.1
  unfold rVec
  omega
theorem rFail_le {bs : List Byte} {e : Nat} {R : Rs} (h : R.p ≤ bs.length) : (rFail e R).p ≤ bs.length ∧ (rFail e R).p = R.p ∧ (R.e = 0 → (rFail e R).e = e) ∧ (R.e ≠ 0 → (rFail e R).e = R.e) := by
  unfold rFail
  split
  · rename_i h0; simp [h, h0]
  · rename_i h0; simp [h, h0]
theorem rByte_stay {bs : List Byte} {R : Rs} (h : R.e ≠ 0) : (rByte bs R).2.p = R.p ∧ (rByte bs R).2.e = R.e ∧ (rByte bs R).1.toNat = 0 := by rw [rByte_err h]; simp
theorem rUint_stay {bs : List Byte} {X : BitVec 64} {R : Rs} (h : R.e ≠ 0) : (rUint bs X R).2.p = R.p ∧ (rUint bs X R).2.e = R.e ∧ (rUint bs X R).1.toNat = 0 := by rw [rUint_err h]; simp
theorem rInt_stay {bs : List Byte} {R : Rs} (h : R.e ≠ 0) : (rInt bs R).2.p = R.p ∧ (rInt bs R).2.e = R.e ∧ (rInt bs R).1 = 0 := by
  unfold rInt
  rw [rUint_err h]
  simp [zagI]
end Go.Sx
