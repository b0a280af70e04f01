/- Datagrams off bytes: plain data. -/
import Derived.Test.YtbioemaipghagaaGreatQSxPgram
import Derived.Test.YtbioemaipghagaaGreatQSxPrecR
set_option linter.unusedVariables false
set_option linter.unusedSimpArgs false
namespace Go.Sx
def mustB (c : Byte) (bs : List Byte) (R : Rs) : Rs := if (rByte bs R).1.toNat = c.toNat then (rByte bs R).2 else rFail 7 (rByte bs R).2
def gSigns (bs : List Byte) (R : Rs) : Rs := mustB 1#8 bs (mustB 71#8 bs R)
def gT (bs : List Byte) (R : Rs) : Int × Rs := ((((rUint bs 4294967295#64 R).1.toNat : Nat) : Int), (rUint bs 4294967295#64 R).2)
def gTm (bs : List Byte) (R : Rs) : Int × Rs := ((rInt bs R).1, if -2305843009213693952 ≤ (rInt bs R).1 ∧ (rInt bs R).1 ≤ 2305843009213693952 then (rInt bs R).2 else rFail 3 (rInt bs R).2)
def gB (bs : List Byte) (t : Int) (R : Rs) : Int × Rs := (if 0 < (rUint bs (BitVec.ofInt 64 t) R).1.toNat then t - (((rUint bs (BitVec.ofInt 64 t) R).1.toNat : Nat) : Int) else -1, (rUint bs (BitVec.ofInt 64 t) R).2)
def gStep (bs : List Byte) (s : List RecR × Int × Rs) : List RecR × Int × Rs :=
  if (rdRec bs s.2.1 s.2.2).2.1 ≠ 0 then (s.1, s.2.1, (rdRec bs s.2.1 s.2.2).2.2) else (s.1 ++ [(rdRec bs s.2.1 s.2.2).1], (rdRec bs s.2.1 s.2.2).1.id, (rdRec bs s.2.1 s.2.2).2.2)
def gRun (bs : List Byte) (s : List RecR × Int × Rs) : Nat → List RecR × Int × Rs
  | 0 => s
  | i + 1 => if (gRun bs s i).2.2.e ≠ 0 then gRun bs s i else gStep bs (gRun bs s i)
/-- The records behind i of them: the list, the last Id, where the reader stands. -/
def gRecs (bs : List Byte) (R : Rs) (i : Nat) : List RecR × Int × Rs := gRun bs ([], -1, (rUint bs 128#64 R).2) i
def gN (bs : List Byte) (R : Rs) : Nat := (rUint bs 128#64 R).1.toNat
def gR1 (x : List Byte) : Rs := gSigns x ⟨0, 0⟩
def gTx (x : List Byte) : Int × Rs := gT x (gR1 x)
def gTmx (x : List Byte) : Int × Rs := gTm x (gTx x).2
def gBx (x : List Byte) : Int × Rs := gB x (gTx x).1 (gTmx x).2
def gSx (x : List Byte) : List RecR × Int × Rs := gRecs x (gBx x).2 (gN x (gBx x).2)
def gEx (x : List Byte) : Nat := rDone x (gSx x).2.2
structure GramD where
  t : Int
  tm : Int
  b : Int
  l : List RecR
  e : Nat
def gRead (bs : List Byte) : GramD :=
  if 4096 < bs.length then ⟨0, 0, 0, [], 8⟩ else match open_ bs with
    | none => ⟨0, 0, 0, [], 9⟩
    | some x => if gEx x ≠ 0 then ⟨0, 0, 0, [], gEx x⟩ else ⟨(gTx x).1, (gTmx x).1, (gBx x).1, (gSx x).1, 0⟩
theorem toInt_lim {X : BitVec 64} (h : X.toNat ≤ 9223372036854775807) : X.toInt = ((X.toNat : Nat) : Int) := by rw [BitVec.toInt_eq_toNat_cond, if_pos (by omega)]
theorem ofNat_succ64 (i : Nat) : BitVec.ofNat 64 i + 1#64 = BitVec.ofNat 64 (i + 1) := by
  apply BitVec.eq_of_toNat_eq
  simp
theorem mustB_le {c : Byte} {bs : List Byte} {R : Rs} (h : R.p ≤ bs.length) : (mustB c bs R).p ≤ bs.length ∧ R.p ≤ (mustB c bs R).p := by
  have h1 := rByte_le h
  have h2 := rFail_le (e := 7) h1.1
  unfold mustB
  split <;> omega
theorem gSigns_le {bs : List Byte} {R : Rs} (h : R.p ≤ bs.length) : (gSigns bs R).p ≤ bs.length := (mustB_le (mustB_le h).1).1
theorem gT_le {bs : List Byte} {R : Rs} (h : R.p ≤ bs.length) : (gT bs R).2.p ≤ bs.length ∧ 0 ≤ (gT bs R).1 ∧ (gT bs R).1 ≤ 4294967295 := by
  have h1 := rUint_le (X := 4294967295#64) h
  have h2 : (4294967295#64).toNat = 4294967295 := rfl
  unfold gT
  dsimp only
  omega
theorem gTm_le {bs : List Byte} {R : Rs} (h : R.p ≤ bs.length) : (gTm bs R).2.p ≤ bs.length ∧ -9223372036854775808 ≤ (gTm bs R).1 ∧ (gTm bs R).1 ≤ 9223372036854775807 := by
  have h1 := rInt_le h
  have h2 := rFail_le (e := 3) h1.1
  have h3 : -9223372036854775808 ≤ (rInt bs R).1 ∧ (rInt bs R).1 ≤ 9223372036854775807 := by unfold rInt; exact zag_range _
  unfold gTm
  dsimp only
  split <;> omega
theorem gB_le {bs : List Byte} {t : Int} {R : Rs} (h : R.p ≤ bs.length) (ht : 0 ≤ t ∧ t ≤ 4294967295) : (gB bs t R).2.p ≤ bs.length ∧ -1 ≤ (gB bs t R).1 ∧ (gB bs t R).1 ≤ 4294967295 := by
  have h1 := rUint_le (X := BitVec.ofInt 64 t) h
  have h2 := ofInt64 (x := t) (by omega) (by omega)
  unfold gB
  dsimp only
  split <;> omega
structure GInv (bs : List Byte) (i : Nat) (s : List RecR × Int × Rs) : Prop where
  p : s.2.2.p ≤ bs.length
  lo : -1 ≤ s.2.1
  hi : s.2.1 ≤ 65535
  len : s.1.length ≤ i
theorem rdRec_e {bs : List Byte} {last : Int} {R : Rs} (h : -1 ≤ last ∧ last ≤ 65535) : (rdRec bs last R).2.1 = (rdRec bs last R).2.2.e := by
  unfold rdRec
  rw [if_neg (by omega)]
  split
  · rfl
  · split
    · rfl
    · rename_i h1
      exact (Decidable.not_not.1 h1).symm
theorem rdRaw_id (bs : List Byte) (last : Int) (R : Rs) : (rdRaw bs last R).1.id = last + 1 + (((rdId bs last R).1.toNat : Nat) : Int) := by
  unfold rdRaw rdBody rdAll rdSome
  dsimp only
  (repeat' split) <;> rfl
theorem rdRec_id {bs : List Byte} {last : Int} {R : Rs} (hp : R.p ≤ bs.length) (h : -1 ≤ last ∧ last ≤ 65535) (h0 : (rdRec bs last R).2.1 = 0) : last < (rdRec bs last R).1.id ∧ (rdRec bs last R).1.id ≤ 65535 := by
  unfold rdRec at h0 ⊢
  rw [if_neg (by omega)] at h0 ⊢
  by_cases hl : last = 65535
  · rw [if_pos hl] at h0
    unfold rFail at h0
    split at h0
    · simp at h0
    · contradiction
  · rw [if_neg hl] at h0 ⊢
    split at h0
    · contradiction
    · rename_i h1
      rw [if_neg h1]
      dsimp only
      rw [rdRaw_id]
      have h2 := rUint_le (X := BitVec.ofInt 64 (65534 - last)) hp
      have h3 := ofInt64 (x := 65534 - last) (by omega) (by omega)
      unfold rdId
      omega
theorem gInv_step {bs : List Byte} {i : Nat} {s : List RecR × Int × Rs} (h : GInv bs i s) : GInv bs (i + 1) (gStep bs s) := by
  have hp := rdRec_le (last := s.2.1) h.p
  have hl := h.len
  unfold gStep
  split
  · exact ⟨hp.1, h.lo, h.hi, by dsimp only; omega⟩
  · rename_i h0
    have hi := rdRec_id h.p ⟨h.lo, h.hi⟩ (by omega)
    have hlo := h.lo
    refine ⟨hp.1, by dsimp only; omega, by dsimp only; omega, by simp only [List.length_append, List.length_singleton]; omega⟩
theorem gRun_inv {bs : List Byte} {s : List RecR × Int × Rs} (h : GInv bs 0 s) : ∀ i, GInv bs i (gRun bs s i)
  | 0 => h
  | i + 1 => by
    unfold gRun
    have h1 := gRun_inv h i
    split
    · exact ⟨h1.p, h1.lo, h1.hi, Nat.le_succ_of_le h1.len⟩
    · exact gInv_step h1
theorem gRecs_inv {bs : List Byte} {R : Rs} (hR : R.p ≤ bs.length) (i : Nat) : GInv bs i (gRecs bs R i) :=
  gRun_inv (s := ([], -1, (rUint bs 128#64 R).2)) ⟨(rUint_le hR).1, Int.le_refl _, by show (-1 : Int) ≤ 65535; decide, Nat.le_refl 0⟩ i
theorem gRun_stay {bs : List Byte} {s : List RecR × Int × Rs} {i : Nat} (h : (gRun bs s i).2.2.e ≠ 0) : ∀ k, gRun bs s (i + k) = gRun bs s i
  | 0 => rfl
  | k + 1 => by
    have h1 := gRun_stay h k
    show (if (gRun bs s (i + k)).2.2.e ≠ 0 then gRun bs s (i + k) else _) = _
    rw [h1, if_pos h]
theorem gN_le (bs : List Byte) (R : Rs) : gN bs R ≤ 128 := by
  have h2 : (128#64).toNat = 128 := rfl
  unfold gN rUint
  split
  · exact Nat.zero_le _
  · split
    · exact Nat.zero_le _
    · split
      · exact Nat.zero_le _
      · rename_i h
        have h1 := (uerr_ok (Decidable.not_not.1 h)).2
        dsimp only
        omega
theorem gRecs_e0 {bs : List Byte} {R : Rs} : gN bs R ≤ 0 ∨ (gRecs bs R 0).2.2.e = 0 := by
  show (rUint bs 128#64 R).1.toNat ≤ 0 ∨ (rUint bs 128#64 R).2.e = 0
  unfold rUint
  (repeat' split) <;> first | exact .inl (Nat.le_refl 0) | exact .inr rfl
theorem gRecs_ok {bs : List Byte} {R : Rs} {i : Nat} (h : (gRecs bs R i).2.2.e = 0) (h0 : (rdRec bs (gRecs bs R i).2.1 (gRecs bs R i).2.2).2.1 = 0) : gRecs bs R (i + 1) = ((gRecs bs R i).1 ++ [(rdRec bs (gRecs bs R i).2.1 (gRecs bs R i).2.2).1], (rdRec bs (gRecs bs R i).2.1 (gRecs bs R i).2.2).1.id, (rdRec bs (gRecs bs R i).2.1 (gRecs bs R i).2.2).2.2) := by
  show gRun _ _ (i + 1) = _
  unfold gRun
  rw [if_neg (by unfold gRecs at h; omega)]
  unfold gStep
  rw [if_neg (by unfold gRecs at h0; omega)]
  rfl
theorem gRecs_next {bs : List Byte} {R : Rs} {i : Nat} (hR : R.p ≤ bs.length) (h : (gRecs bs R i).2.2.e = 0) (h0 : (rdRec bs (gRecs bs R i).2.1 (gRecs bs R i).2.2).2.1 = 0) : (gRecs bs R (i + 1)).2.2.e = 0 := by
  have hi := gRecs_inv hR i
  rw [gRecs_ok h h0, ← h0]
  exact (rdRec_e ⟨hi.lo, hi.hi⟩).symm
theorem gRecs_end {bs : List Byte} {R : Rs} {i : Nat} (hR : R.p ≤ bs.length) (hi : i < gN bs R) (h : (gRecs bs R i).2.2.e = 0) (h0 : (rdRec bs (gRecs bs R i).2.1 (gRecs bs R i).2.2).2.1 ≠ 0) : gRecs bs R (gN bs R) = ((gRecs bs R i).1, (gRecs bs R i).2.1, (rdRec bs (gRecs bs R i).2.1 (gRecs bs R i).2.2).2.2) := by
  have hv := gRecs_inv hR i
  have h1 : gRecs bs R (i + 1) = ((gRecs bs R i).1, (gRecs bs R i).2.1, (rdRec bs (gRecs bs R i).2.1 (gRecs bs R i).2.2).2.2) := by
    show gRun _ _ (i + 1) = _
    unfold gRun
    rw [if_neg (by unfold gRecs at h; omega)]
    unfold gStep
    rw [if_pos (by unfold gRecs at h0; omega)]
    rfl
  have h2 := rdRec_e (bs := bs) (R := (gRecs bs R i).2.2) ⟨hv.lo, hv.hi⟩
  have h3 := gRun_stay (bs := bs) (s := ([], -1, (rUint bs 128#64 R).2)) (i := i + 1) (by
    show (gRecs bs R (i + 1)).2.2.e ≠ 0
    rw [h1]
    dsimp only
    omega) (gN bs R - (i + 1))
  rw [show i + 1 + (gN bs R - (i + 1)) = gN bs R by omega] at h3
  exact h3.trans h1
theorem gRead_long {bs : List Byte} (h : 4096 < bs.length) : gRead bs = ⟨0, 0, 0, [], 8⟩ := by unfold gRead; rw [if_pos h]
theorem gRead_none {bs : List Byte} (h : ¬ 4096 < bs.length) (ho : open_ bs = none) : gRead bs = ⟨0, 0, 0, [], 9⟩ := by unfold gRead; rw [if_neg h, ho]
theorem gRead_err {bs x : List Byte} (h : ¬ 4096 < bs.length) (ho : open_ bs = some x) (he : gEx x ≠ 0) : gRead bs = ⟨0, 0, 0, [], gEx x⟩ := by
  unfold gRead
  rw [if_neg h, ho]
  dsimp only
  rw [if_pos he]
theorem gRead_ok {bs x : List Byte} (h : ¬ 4096 < bs.length) (ho : open_ bs = some x) (he : gEx x = 0) : gRead bs = ⟨(gTx x).1, (gTmx x).1, (gBx x).1, (gSx x).1, 0⟩ := by
  unfold gRead
  rw [if_neg h, ho]
  dsimp only
  rw [if_neg (by omega)]
theorem gR1_le (x : List Byte) : (gR1 x).p ≤ x.length := gSigns_le (Nat.zero_le _)
theorem gTx_le (x : List Byte) : (gTx x).2.p ≤ x.length ∧ 0 ≤ (gTx x).1 ∧ (gTx x).1 ≤ 4294967295 := gT_le (gR1_le x)
theorem gTmx_le (x : List Byte) : (gTmx x).2.p ≤ x.length ∧ -9223372036854775808 ≤ (gTmx x).1 ∧ (gTmx x).1 ≤ 9223372036854775807 := gTm_le (gTx_le x).1
theorem gBx_le (x : List Byte) : (gBx x).2.p ≤ x.length ∧ -1 ≤ (gBx x).1 ∧ (gBx x).1 ≤ 4294967295 := gB_le (gTmx_le x).1 (gTx_le x).2
theorem gSx_len (x : List Byte) : (gSx x).1.length ≤ 128 := by unfold gSx; exact Nat.le_trans (gRecs_inv (gBx_le x).1 _).len (gN_le _ _)
theorem gSx_def (x : List Byte) : gRecs x (gBx x).2 (gN x (gBx x).2) = gSx x := rfl
theorem gEx_def (x : List Byte) : rDone x (gSx x).2.2 = gEx x := rfl
theorem gSx_p (x : List Byte) : (gSx x).2.2.p ≤ x.length := by rw [← gSx_def]; exact (gRecs_inv (gBx_le x).1 _).p
theorem gRead_le (bs : List Byte) : (gRead bs).l.length ≤ 128 ∧ 0 ≤ (gRead bs).t ∧ (gRead bs).t ≤ 4294967295 ∧ -9223372036854775808 ≤ (gRead bs).tm ∧ (gRead bs).tm ≤ 9223372036854775807 ∧ -1 ≤ (gRead bs).b ∧ (gRead bs).b ≤ 4294967295 := by
  unfold gRead
  split
  · simp
  · split
    · simp
    · rename_i x _
      have h1 := gTx_le x
      have h2 := gTmx_le x
      have h3 := gBx_le x
      have h4 := gSx_len x
      split
      · simp
      · dsimp only
        omega
theorem gR1_eq (x : List Byte) : mustB 1#8 x (mustB 71#8 x ⟨0, 0⟩) = gR1 x := rfl
theorem gTx_eq (x : List Byte) : gTx x = ((((rUint x 4294967295#64 (gR1 x)).1.toNat : Nat) : Int), (rUint x 4294967295#64 (gR1 x)).2) := rfl
theorem gTmx_ok {x : List Byte} (h : -2305843009213693952 ≤ (rInt x (gTx x).2).1 ∧ (rInt x (gTx x).2).1 ≤ 2305843009213693952) : gTmx x = ((rInt x (gTx x).2).1, (rInt x (gTx x).2).2) := by unfold gTmx gTm; rw [if_pos h]
theorem gBx_pos {x : List Byte} (h : 0 < (rUint x (BitVec.ofInt 64 (gTx x).1) (gTmx x).2).1.toNat) : gBx x = ((gTx x).1 - (((rUint x (BitVec.ofInt 64 (gTx x).1) (gTmx x).2).1.toNat : Nat) : Int), (rUint x (BitVec.ofInt 64 (gTx x).1) (gTmx x).2).2) := by unfold gBx gB; rw [if_pos h]
theorem gBx_neg {x : List Byte} (h : ¬ 0 < (rUint x (BitVec.ofInt 64 (gTx x).1) (gTmx x).2).1.toNat) : gBx x = (-1, (rUint x (BitVec.ofInt 64 (gTx x).1) (gTmx x).2).2) := by unfold gBx gB; rw [if_neg h]
theorem recW_refl (r : RecR) : eqCells (recV r) (recV r) = true := by simp [eqCells, recV, vEq]
end Go.Sx
