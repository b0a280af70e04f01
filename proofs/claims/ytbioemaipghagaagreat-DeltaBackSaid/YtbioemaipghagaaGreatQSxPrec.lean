/- Records: plain data and what is written of them. -/
import Derived.Test.YtbioemaipghagaaGreatQSxPrd
import Derived.Test.YtbioemaipghagaaGreatQSxBasB
set_option linter.unusedVariables false
set_option linter.unusedSimpArgs false
namespace Go.Sx
structure RecR where
  k : Int
  id : Int
  p0 : Int
  p1 : Int
  p2 : Int
  v0 : Int
  v1 : Int
  v2 : Int
  a : BitVec 16
instance : Inhabited RecR := ⟨⟨0, 0, 0, 0, 0, 0, 0, 0, 0#16⟩⟩
structure RecR.wf (r : RecR) : Prop where
  k : -9223372036854775808 ≤ r.k ∧ r.k ≤ 9223372036854775807
  id : -9223372036854775808 ≤ r.id ∧ r.id ≤ 9223372036854775807
  p0 : -9223372036854775808 ≤ r.p0 ∧ r.p0 ≤ 9223372036854775807
  p1 : -9223372036854775808 ≤ r.p1 ∧ r.p1 ≤ 9223372036854775807
  p2 : -9223372036854775808 ≤ r.p2 ∧ r.p2 ≤ 9223372036854775807
  v0 : -9223372036854775808 ≤ r.v0 ∧ r.v0 ≤ 9223372036854775807
  v1 : -9223372036854775808 ≤ r.v1 ∧ r.v1 ≤ 9223372036854775807
  v2 : -9223372036854775808 ≤ r.v2 ∧ r.v2 ≤ 9223372036854775807
theorem RecR.wf.facts {r : RecR} (h : r.wf) : (-9223372036854775808 ≤ r.k ∧ r.k ≤ 9223372036854775807) ∧ (-9223372036854775808 ≤ r.id ∧ r.id ≤ 9223372036854775807) ∧ (-9223372036854775808 ≤ r.p0 ∧ r.p0 ≤ 9223372036854775807) ∧ (-9223372036854775808 ≤ r.p1 ∧ r.p1 ≤ 9223372036854775807) ∧ (-9223372036854775808 ≤ r.p2 ∧ r.p2 ≤ 9223372036854775807) ∧
    (-9223372036854775808 ≤ r.v0 ∧ r.v0 ≤ 9223372036854775807) ∧ (-9223372036854775808 ≤ r.v1 ∧ r.v1 ≤ 9223372036854775807) ∧ (-9223372036854775808 ≤ r.v2 ∧ r.v2 ≤ 9223372036854775807) := ⟨h.k, h.id, h.p0, h.p1, h.p2, h.v0, h.v1, h.v2⟩
def recV (r : RecR) : List Value := [.int .i64 r.k, .int .i64 r.id, .int .i64 r.p0, .int .i64 r.p1, .int .i64 r.p2, .int .i64 r.v0, .int .i64 r.v1, .int .i64 r.v2, .int .u16 ((r.a.toNat : Nat) : Int)]
def RecR.num (r : RecR) : Nat → Int
  | 0 => r.p0
  | 1 => r.p1
  | 2 => r.p2
  | 3 => r.v0
  | 4 => r.v1
  | _ => r.v2
def recEmpty (r : RecR) : Bool := r.p0 == 0 && r.p1 == 0 && r.p2 == 0 && r.v0 == 0 && r.v1 == 0 && r.v2 == 0 && (((r.a.toNat : Nat) : Int) == 0)
def recChk (r : RecR) : Nat := if r.k < 0 ∨ 3 < r.k then 11 else if r.id < 0 ∨ 65535 < r.id then 3 else if r.k = 1 ∧ recEmpty r = true ∨ r.k = 2 ∧ recEmpty r = false then 2 else 0
theorem eq_bare (r : RecR) : eqCells [.int .i64 r.k, .int .i64 r.id, .int .i64 r.p0, .int .i64 r.p1, .int .i64 r.p2, .int .i64 r.v0, .int .i64 r.v1, .int .i64 r.v2, .int .u16 ((r.a.toNat : Nat) : Int)] [.int .i64 r.k, .int .i64 r.id, .int .i64 0, .int .i64 0, .int .i64 0, .int .i64 0, .int .i64 0, .int .i64 0, .int .u16 0] = recEmpty r := by
  simp [eqCells, vEq, recEmpty, Bool.and_assoc]
theorem recChk_0 {r : RecR} (h : recChk r = 0) : 0 ≤ r.k ∧ r.k ≤ 3 ∧ 0 ≤ r.id ∧ r.id ≤ 65535 := by
  unfold recChk at h
  split at h
  · cases h
  · split at h
    · cases h
    · omega
def numB (x : Int) : List Byte := vput (zigI x).toNat
theorem length_numB (x : Int) : (numB x).length ≤ 10 ∧ 1 ≤ (numB x).length := by
  have := vlen_le (zigI x).toNat
  have := vlen_pos (zigI x).toNat
  unfold numB
  simp only [vlen] at *
  omega
/-- The bytes of all numbers. -/
def recAll (r : RecR) : List Byte := numB r.p0 ++ numB r.p1 ++ numB r.p2 ++ numB r.v0 ++ numB r.v1 ++ numB r.v2 ++ vput r.a.toNat
/-- An Update's: the mask ahead of number i, and the bytes. -/
def upMask (r : RecR) : Nat → BitVec 8
  | 0 => 0#8
  | i + 1 => if r.num i = 0 then upMask r i else upMask r i ||| (1#8 <<< i)
def upRest (r : RecR) : Nat → List Byte
  | 0 => []
  | i + 1 => if r.num i = 0 then upRest r i else upRest r i ++ numB (r.num i)
def upMask7 (r : RecR) : BitVec 8 := if r.a = 0#16 then upMask r 6 else upMask r 6 ||| 64#8
def upRest7 (r : RecR) : List Byte := if r.a = 0#16 then upRest r 6 else upRest r 6 ++ vput r.a.toNat
def recSome (r : RecR) : List Byte := upMask7 r :: upRest7 r
def recBody (r : RecR) : List Byte := if r.k = 1 then recSome r else if r.k = 2 then [] else recAll r
def recErr (r : RecR) (last : Int) : Nat := if recChk r ≠ 0 then recChk r else if last < -1 ∨ 65535 < last then 3 else if r.id ≤ last then 10 else 0
def recHead (r : RecR) (last : Int) : List Byte := vput (BitVec.ofInt 64 (r.id - last - 1)).toNat ++ [BitVec.ofInt 8 r.k]
def recB (r : RecR) (last : Int) : List Byte := if recErr r last ≠ 0 then [] else recHead r last ++ recBody r
theorem upMask_z {r : RecR} {i : Nat} (h : r.num i = 0) : upMask r (i + 1) = upMask r i := by simp [upMask, h]
theorem upMask_n {r : RecR} {i : Nat} (h : r.num i ≠ 0) : upMask r (i + 1) = upMask r i ||| (1#8 <<< i) := by simp [upMask, h]
theorem upRest_z {r : RecR} {i : Nat} (h : r.num i = 0) : upRest r (i + 1) = upRest r i := by simp [upRest, h]
theorem upRest_n {r : RecR} {i : Nat} (h : r.num i ≠ 0) : upRest r (i + 1) = upRest r i ++ numB (r.num i) := by simp [upRest, h]
theorem length_upRest (r : RecR) : ∀ i, (upRest r i).length ≤ 10 * i := by
  intro i
  induction i with
  | zero => simp [upRest]
  | succ i ih =>
    unfold upRest
    have := length_numB (r.num i)
    split
    · omega
    · simp; omega
theorem vlen10 (n : Nat) : (vput n).length ≤ 10 := by have := vlen_le n; simpa [vlen] using this
theorem length_recB (r : RecR) (last : Int) : (recB r last).length ≤ 100 := by
  unfold recB
  split
  · simp
  · have h1 := vlen10 (BitVec.ofInt 64 (r.id - last - 1)).toNat
    have h2 := vlen10 r.a.toNat
    have h3 := length_upRest r 6
    have n0 := length_numB r.p0
    have n1 := length_numB r.p1
    have n2 := length_numB r.p2
    have n3 := length_numB r.v0
    have n4 := length_numB r.v1
    have n5 := length_numB r.v2
    unfold recHead recBody
    split
    · unfold recSome upRest7
      split <;> simp only [List.length_append, List.length_cons, List.length_nil] <;> omega
    · split
      · simp only [List.length_append, List.length_cons, List.length_nil]; omega
      · unfold recAll; simp only [List.length_append, List.length_cons, List.length_nil]; omega
theorem getD_mid {bs l : List Byte} {x : Byte} {m : Nat} (h : bs.length = m) : (bs ++ x :: l).getD m 0 = x := by
  subst h
  simp [List.getD_eq_getElem?_getD]
theorem set_mid {bs l : List Byte} {x y : Byte} {m : Nat} (h : bs.length = m) : (bs ++ x :: l).set m y = bs ++ y :: l := by
  subst h
  simp
theorem sw64 (a : BitVec 16) : (a.setWidth 64).toNat = a.toNat := by
  rw [BitVec.toNat_setWidth]
  have := a.isLt
  omega
theorem a_zero {a : BitVec 16} (h : ((a.toNat : Nat) : Int) = 0) : a = 0#16 := BitVec.eq_of_toNat_eq (by simpa using h)
theorem a_non {a : BitVec 16} (h : ((a.toNat : Nat) : Int) ≠ 0) : a ≠ 0#16 := fun e => h (by subst e; rfl)
theorem recSome_z {r : RecR} (h : ((r.a.toNat : Nat) : Int) = 0) : recSome r = upMask r 6 :: upRest r 6 := by
  unfold recSome upMask7 upRest7
  rw [if_pos (a_zero h), if_pos (a_zero h)]
theorem recSome_n {r : RecR} (h : ((r.a.toNat : Nat) : Int) ≠ 0) : recSome r = (upMask r 6 ||| 64#8) :: (upRest r 6 ++ vput r.a.toNat) := by
  unfold recSome upMask7 upRest7
  rw [if_neg (a_non h), if_neg (a_non h)]
theorem length_recSome (r : RecR) : (recSome r).length ≤ 71 := by
  have h2 := vlen10 r.a.toNat
  have h3 := length_upRest r 6
  unfold recSome upRest7
  split <;> simp only [List.length_append, List.length_cons] <;> omega
theorem length_recAll (r : RecR) : (recAll r).length ≤ 70 := by
  have h2 := vlen10 r.a.toNat
  have n0 := length_numB r.p0
  have n1 := length_numB r.p1
  have n2 := length_numB r.p2
  have n3 := length_numB r.v0
  have n4 := length_numB r.v1
  have n5 := length_numB r.v2
  unfold recAll
  simp only [List.length_append]
  omega
theorem recB_err {r : RecR} {last : Int} (h : recErr r last ≠ 0) : recB r last = [] := by unfold recB; rw [if_pos h]
theorem recB_all {r : RecR} {last : Int} (h : recErr r last = 0) (hk : r.k = 0 ∨ r.k = 3) : recB r last = recHead r last ++ recAll r := by
  unfold recB recBody
  rw [if_neg (by omega), if_neg (by omega), if_neg (by omega)]
theorem recB_some {r : RecR} {last : Int} (h : recErr r last = 0) (hk : r.k = 1) : recB r last = recHead r last ++ recSome r := by
  unfold recB recBody
  rw [if_neg (by omega), if_pos hk]
theorem recB_none {r : RecR} {last : Int} (h : recErr r last = 0) (hk : r.k = 2) : recB r last = recHead r last := by
  unfold recB recBody
  rw [if_neg (by omega), if_neg (by omega), if_pos hk, List.append_nil]
theorem recErr_chk {r : RecR} {last : Int} (h : recChk r ≠ 0) : recErr r last = recChk r := by unfold recErr; rw [if_pos h]
theorem recErr_rng {r : RecR} {last : Int} (h : recChk r = 0) (h2 : last < -1 ∨ 65535 < last) : recErr r last = 3 := by unfold recErr; rw [if_neg (by omega), if_pos h2]
theorem recErr_ord {r : RecR} {last : Int} (h : recChk r = 0) (h2 : ¬ (last < -1 ∨ 65535 < last)) (h3 : r.id ≤ last) : recErr r last = 10 := by unfold recErr; rw [if_neg (by omega), if_neg h2, if_pos h3]
theorem recErr_ok {r : RecR} {last : Int} (h : recChk r = 0) (h2 : ¬ (last < -1 ∨ 65535 < last)) (h3 : ¬ r.id ≤ last) : recErr r last = 0 := by unfold recErr; rw [if_neg (by omega), if_neg h2, if_neg h3]
theorem length_recHead (r : RecR) (last : Int) : (recHead r last).length ≤ 11 := by
  have h1 := vlen10 (BitVec.ofInt 64 (r.id - last - 1)).toNat
  unfold recHead
  simp only [List.length_append, List.length_cons, List.length_nil]
  omega
theorem recErr_parts' {r : RecR} {last : Int} (h : recErr r last = 0) : 0 ≤ r.id ∧ r.id ≤ 65535 ∧ -1 ≤ last ∧ last < r.id := by
  unfold recErr at h
  split at h
  · omega
  · rename_i h0
    have h1 := recChk_0 (r := r) (by omega)
    split at h
    · cases h
    · split at h
      · cases h
      · omega
end Go.Sx
