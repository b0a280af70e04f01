/- Records off bytes: plain mathematics. -/
import Derived.Test.YtbioemaipghagaaGreatQSxPrec
set_option linter.unusedVariables false
set_option linter.unusedSimpArgs false
namespace Go.Sx
def upSh (m : BitVec 8) : Nat → BitVec 8
  | 0 => m
  | i + 1 => upSh m i / 2#8
theorem upSh_eq (m : BitVec 8) : ∀ i, upSh m i = m >>> i
  | 0 => by simp [upSh]
  | i + 1 => by
    unfold upSh
    rw [upSh_eq m i]
    apply BitVec.eq_of_toNat_eq
    rw [BitVec.toNat_udiv, BitVec.toNat_ushiftRight, BitVec.toNat_ushiftRight, Nat.shiftRight_succ]
    rfl
def upBit (m : BitVec 8) (i : Nat) : Bool := ((upSh m i).toNat % 2) == 1
/-- What is taken for number i, and how the reader stands behind it. -/
def upI (bs : List Byte) (m : BitVec 8) (i : Nat) (R : Rs) : Int × Rs :=
  if upBit m i = true then ((rInt bs R).1, if (rInt bs R).1 = 0 then rFail 7 (rInt bs R).2 else (rInt bs R).2) else (0, R)
def upS (bs : List Byte) (m : BitVec 8) (R : Rs) : Nat → Rs
  | 0 => R
  | i + 1 => (upI bs m i (upS bs m R i)).2
def upX (bs : List Byte) (m : BitVec 8) (R : Rs) (i : Nat) : Int := (upI bs m i (upS bs m R i)).1
def upA (bs : List Byte) (m : BitVec 8) (R : Rs) : BitVec 16 × Rs :=
  if upBit m 6 = true then (((rUint bs 65535#64 R).1).setWidth 16, if (rUint bs 65535#64 R).1 = 0#64 then rFail 7 (rUint bs 65535#64 R).2 else (rUint bs 65535#64 R).2) else (0#16, R)
def rdSome (bs : List Byte) (k id : Int) (R : Rs) : RecR × Rs :=
  let q := rByte bs R
  if q.1.toNat = 0 ∨ 127 < q.1.toNat then (⟨k, id, 0, 0, 0, 0, 0, 0, 0#16⟩, rFail 7 q.2)
  else (⟨k, id, upX bs q.1 q.2 0, upX bs q.1 q.2 1, upX bs q.1 q.2 2, upX bs q.1 q.2 3, upX bs q.1 q.2 4, upX bs q.1 q.2 5, (upA bs q.1 (upS bs q.1 q.2 6)).1⟩, (upA bs q.1 (upS bs q.1 q.2 6)).2)
/-- Where a reader stands behind i numbers, and the number there. -/
def nS (bs : List Byte) (R : Rs) : Nat → Rs
  | 0 => R
  | i + 1 => (rInt bs (nS bs R i)).2
def nX (bs : List Byte) (R : Rs) (i : Nat) : Int := (rInt bs (nS bs R i)).1
def rdAll (bs : List Byte) (k id : Int) (R : Rs) : RecR × Rs :=
  (⟨k, id, nX bs R 0, nX bs R 1, nX bs R 2, nX bs R 3, nX bs R 4, nX bs R 5, ((rUint bs 65535#64 (nS bs R 6)).1).setWidth 16⟩, (rUint bs 65535#64 (nS bs R 6)).2)
def rdBody (bs : List Byte) (k id : Int) (R : Rs) : RecR × Rs :=
  if k = 0 ∨ k = 3 then rdAll bs k id R else if k = 1 then rdSome bs k id R else if k = 2 then (⟨k, id, 0, 0, 0, 0, 0, 0, 0#16⟩, R) else (⟨k, id, 0, 0, 0, 0, 0, 0, 0#16⟩, rFail 11 R)
def recZ : RecR := ⟨0, 0, 0, 0, 0, 0, 0, 0, 0#16⟩
def rdId (bs : List Byte) (last : Int) (R : Rs) : BitVec 64 × Rs := rUint bs (BitVec.ofInt 64 (65534 - last)) R
def rdRaw (bs : List Byte) (last : Int) (R : Rs) : RecR × Rs :=
  rdBody bs (((rByte bs (rdId bs last R).2).1.toNat : Nat) : Int) (last + 1 + (((rdId bs last R).1.toNat : Nat) : Int)) (rByte bs (rdId bs last R).2).2
/-- The record, the error, where the reader stands. -/
def rdRec (bs : List Byte) (last : Int) (R : Rs) : RecR × Nat × Rs :=
  if last < -1 ∨ 65535 < last then (recZ, 3, R) else if last = 65535 then (recZ, (rFail 10 R).e, rFail 10 R)
  else if (rdRaw bs last R).2.e ≠ 0 then (recZ, (rdRaw bs last R).2.e, (rdRaw bs last R).2) else ((rdRaw bs last R).1, 0, (rdRaw bs last R).2)
theorem upBit_sh {m : BitVec 8} {i : Nat} : upBit m i = true ↔ (upSh m i).toNat % 2 = 1 := by unfold upBit; simp
theorem sh_and (m : BitVec 8) (i : Nat) : ((m >>> i) &&& 1#8).toNat = (upSh m i).toNat % 2 := by
  rw [BitVec.toNat_and, show (1#8).toNat = 1 from rfl, Nat.and_one_is_mod, upSh_eq]
theorem upBit_f {m : BitVec 8} {i : Nat} (h : ((((m >>> i) &&& 1#8).toNat : Nat) : Int) = 0) : upBit m i = false := by
  rw [sh_and] at h
  unfold upBit
  rw [show (upSh m i).toNat % 2 = 0 by omega]
  rfl
theorem upBit_t {m : BitVec 8} {i : Nat} (h : ((((m >>> i) &&& 1#8).toNat : Nat) : Int) ≠ 0) : upBit m i = true := by
  rw [sh_and] at h
  rw [upBit_sh]
  omega
theorem and64 (m : BitVec 8) : (m &&& 64#8).toNat = 0 ↔ upBit m 6 = false := by
  have key : ∀ m : BitVec 8, (m &&& 64#8).toNat = 0 ↔ upBit m 6 = false := by decide +kernel
  exact key m
theorem upBit6_f {m : BitVec 8} (h : (((m &&& 64#8).toNat : Nat) : Int) = 0) : upBit m 6 = false := (and64 m).1 (by omega)
theorem upBit6_t {m : BitVec 8} (h : (((m &&& 64#8).toNat : Nat) : Int) ≠ 0) : upBit m 6 = true := by
  cases hb : upBit m 6 with
  | true => rfl
  | false => exact absurd ((and64 m).2 hb) (by omega)
theorem upA_f {bs : List Byte} {m : BitVec 8} {R : Rs} (h : upBit m 6 = false) : upA bs m R = (0#16, R) := by unfold upA; rw [if_neg (by rw [h]; decide)]
theorem upA_z {bs : List Byte} {m : BitVec 8} {R : Rs} (h : upBit m 6 = true) (h2 : (rUint bs 65535#64 R).1.toNat = 0) : upA bs m R = ((rUint bs 65535#64 R).1.setWidth 16, rFail 7 (rUint bs 65535#64 R).2) := by
  unfold upA
  rw [if_pos h, if_pos (BitVec.eq_of_toNat_eq h2)]
theorem upA_n {bs : List Byte} {m : BitVec 8} {R : Rs} (h : upBit m 6 = true) (h2 : (rUint bs 65535#64 R).1.toNat ≠ 0) : upA bs m R = ((rUint bs 65535#64 R).1.setWidth 16, (rUint bs 65535#64 R).2) := by
  unfold upA
  rw [if_pos h, if_neg (fun e => h2 (by rw [e]; rfl))]
theorem sw16 {X : BitVec 64} (h : X.toNat ≤ 65535) : (X.setWidth 16).toNat = X.toNat := by
  rw [BitVec.toNat_setWidth]
  omega
theorem toInt_small {X : BitVec 64} (h : X.toNat ≤ 65535) : X.toInt = ((X.toNat : Nat) : Int) := by
  rw [BitVec.toInt_eq_toNat_cond, if_pos (by omega)]
theorem ofInt64 {x : Int} (h : 0 ≤ x) (h2 : x ≤ 9223372036854775807) : (((BitVec.ofInt 64 x).toNat : Nat) : Int) = x := by
  rw [BitVec.toNat_ofInt]
  omega
theorem upSZ {bs : List Byte} {m : BitVec 8} {R : Rs} {i : Nat} (h : upBit m i = true) (h2 : (rInt bs (upS bs m R i)).1 = 0) : upS bs m R (i + 1) = rFail 7 (rInt bs (upS bs m R i)).2 := by
  show (upI _ _ _ _).2 = _
  unfold upI
  rw [if_pos h]
  dsimp only
  rw [if_pos h2]
theorem upSN {bs : List Byte} {m : BitVec 8} {R : Rs} {i : Nat} (h : upBit m i = true) (h2 : (rInt bs (upS bs m R i)).1 ≠ 0) : upS bs m R (i + 1) = (rInt bs (upS bs m R i)).2 := by
  show (upI _ _ _ _).2 = _
  unfold upI
  rw [if_pos h]
  dsimp only
  rw [if_neg h2]
theorem upX_t {bs : List Byte} {m : BitVec 8} {R : Rs} {i : Nat} (h : upBit m i = true) : upX bs m R i = (rInt bs (upS bs m R i)).1 := by
  unfold upX upI
  rw [if_pos h]
theorem upS_f {bs : List Byte} {m : BitVec 8} {R : Rs} {i : Nat} (h : upBit m i = false) : upS bs m R (i + 1) = upS bs m R i := by
  show (upI _ _ _ _).2 = _
  unfold upI
  rw [if_neg (by rw [h]; decide)]
theorem upX_f {bs : List Byte} {m : BitVec 8} {R : Rs} {i : Nat} (h : upBit m i = false) : upX bs m R i = 0 := by
  unfold upX upI
  rw [if_neg (by rw [h]; decide)]
theorem upI_le {bs : List Byte} {m : BitVec 8} {i : Nat} {R : Rs} (h : R.p ≤ bs.length) : (upI bs m i R).2.p ≤ bs.length ∧ R.p ≤ (upI bs m i R).2.p ∧ (upI bs m i R).2.p ≤ R.p + 10 := by
  unfold upI
  have h1 := rInt_le h
  split
  · dsimp only
    split
    · have := rFail_le (e := 7) h1.1; omega
    · omega
  · dsimp only; omega
theorem upS_le {bs : List Byte} {m : BitVec 8} {R : Rs} (h : R.p ≤ bs.length) : ∀ i, (upS bs m R i).p ≤ bs.length ∧ R.p ≤ (upS bs m R i).p ∧ (upS bs m R i).p ≤ R.p + 10 * i
  | 0 => by simp [upS, h]
  | i + 1 => by
    have h1 := upS_le h i (m := m)
    have h2 := upI_le (m := m) (i := i) h1.1
    show (upI _ _ _ _).2.p ≤ _ ∧ _ ≤ (upI _ _ _ _).2.p ∧ (upI _ _ _ _).2.p ≤ _
    omega
theorem nS_le {bs : List Byte} {R : Rs} (h : R.p ≤ bs.length) : ∀ i, (nS bs R i).p ≤ bs.length ∧ R.p ≤ (nS bs R i).p ∧ (nS bs R i).p ≤ R.p + 10 * i
  | 0 => by simp [nS, h]
  | i + 1 => by
    have h1 := nS_le h i
    have h2 := rInt_le h1.1
    show (rInt _ _).2.p ≤ _ ∧ _ ≤ (rInt _ _).2.p ∧ (rInt _ _).2.p ≤ _
    omega
theorem upA_le {bs : List Byte} {m : BitVec 8} {R : Rs} (h : R.p ≤ bs.length) : (upA bs m R).2.p ≤ bs.length ∧ R.p ≤ (upA bs m R).2.p := by
  unfold upA
  have h1 := rUint_le (X := 65535#64) h
  split
  · dsimp only
    split
    · have := rFail_le (e := 7) h1.1; omega
    · omega
  · dsimp only; omega
theorem rdSome_le {bs : List Byte} {k id : Int} {R : Rs} (h : R.p ≤ bs.length) : (rdSome bs k id R).2.p ≤ bs.length ∧ R.p ≤ (rdSome bs k id R).2.p := by
  have h1 := rByte_le h
  have h2 := upS_le (m := (rByte bs R).1) h1.1 6
  have h3 := upA_le (m := (rByte bs R).1) h2.1
  have h4 := rFail_le (e := 7) h1.1
  unfold rdSome
  dsimp only
  split <;> (dsimp only; omega)
theorem rdAll_le {bs : List Byte} {k id : Int} {R : Rs} (h : R.p ≤ bs.length) : (rdAll bs k id R).2.p ≤ bs.length ∧ R.p ≤ (rdAll bs k id R).2.p := by
  have h2 := nS_le h 6
  have h3 := rUint_le (X := 65535#64) h2.1
  unfold rdAll
  dsimp only; omega
theorem rdBody_le {bs : List Byte} {k id : Int} {R : Rs} (h : R.p ≤ bs.length) : (rdBody bs k id R).2.p ≤ bs.length ∧ R.p ≤ (rdBody bs k id R).2.p := by
  unfold rdBody
  split
  · exact rdAll_le h
  · split
    · exact rdSome_le h
    · split
      · dsimp only; omega
      · have := rFail_le (e := 11) h; dsimp only; omega
theorem rdRec_le {bs : List Byte} {last : Int} {R : Rs} (h : R.p ≤ bs.length) : (rdRec bs last R).2.2.p ≤ bs.length ∧ R.p ≤ (rdRec bs last R).2.2.p := by
  have h1 : (rdId bs last R).2.p ≤ bs.length ∧ R.p ≤ (rdId bs last R).2.p := by
    have := rUint_le (X := BitVec.ofInt 64 (65534 - last)) h
    unfold rdId
    omega
  have h2 := rByte_le h1.1
  have h3 : (rdRaw bs last R).2.p ≤ bs.length ∧ (rByte bs (rdId bs last R).2).2.p ≤ (rdRaw bs last R).2.p := rdBody_le h2.1
  have h4 := rFail_le (e := 10) h
  unfold rdRec
  repeat' split
  all_goals (dsimp only; omega)
theorem pair_eq {α β : Type} {p x : α × β} (h : p = x) : p = (x.1, x.2) := h
theorem rdRaw_eq (bs : List Byte) (last : Int) (R : Rs) : rdRaw bs last R = rdBody bs (((rByte bs (rUint bs (BitVec.ofInt 64 (65534 - last)) R).2).1.toNat : Nat) : Int) (last + 1 + (((rUint bs (BitVec.ofInt 64 (65534 - last)) R).1.toNat : Nat) : Int)) (rByte bs (rUint bs (BitVec.ofInt 64 (65534 - last)) R).2).2 := rfl
theorem rdBody_all {bs : List Byte} {k id : Int} {R : Rs} (h : k = 0 ∨ k = 3) : rdBody bs k id R = rdAll bs k id R := by unfold rdBody; rw [if_pos h]
theorem rdBody_some {bs : List Byte} {k id : Int} {R : Rs} (h : k = 1) : rdBody bs k id R = rdSome bs k id R := by unfold rdBody; rw [if_neg (by omega), if_pos h]
theorem rdBody_none {bs : List Byte} {k id : Int} {R : Rs} (h : k = 2) : rdBody bs k id R = (⟨k, id, 0, 0, 0, 0, 0, 0, 0#16⟩, R) := by unfold rdBody; rw [if_neg (by omega), if_neg (by omega), if_pos h]
theorem rdBody_bad {bs : List Byte} {k id : Int} {R : Rs} (h : ¬ (k = 0 ∨ k = 1 ∨ k = 2 ∨ k = 3)) : rdBody bs k id R = (⟨k, id, 0, 0, 0, 0, 0, 0, 0#16⟩, rFail 11 R) := by unfold rdBody; rw [if_neg (by omega), if_neg (by omega), if_neg (by omega)]
theorem rdRec_rng {bs : List Byte} {last : Int} {R : Rs} (h : last < -1 ∨ 65535 < last) : rdRec bs last R = (recZ, 3, R) := by unfold rdRec; rw [if_pos h]
theorem rdRec_end {bs : List Byte} {last : Int} {R : Rs} (h : last = 65535) : rdRec bs last R = (recZ, (rFail 10 R).e, rFail 10 R) := by unfold rdRec; rw [if_neg (by omega), if_pos h]
theorem rdRec_bad {bs : List Byte} {last : Int} {R RR : Rs} {rr : RecR} (h : ¬ (last < -1 ∨ 65535 < last)) (h2 : last ≠ 65535) (hr : rdRaw bs last R = (rr, RR)) (he : RR.e ≠ 0) : rdRec bs last R = (recZ, RR.e, RR) := by
  unfold rdRec
  rw [if_neg h, if_neg h2, hr, if_pos he]
theorem rdRec_ok {bs : List Byte} {last : Int} {R RR : Rs} {rr : RecR} (h : ¬ (last < -1 ∨ 65535 < last)) (h2 : last ≠ 65535) (hr : rdRaw bs last R = (rr, RR)) (he : RR.e = 0) : rdRec bs last R = (rr, 0, RR) := by
  unfold rdRec
  rw [if_neg h, if_neg h2, hr, if_neg (by simpa using he)]
theorem rdSome_bad {bs : List Byte} {k id : Int} {R : Rs} (h : (rByte bs R).1.toNat = 0 ∨ 127 < (rByte bs R).1.toNat) : rdSome bs k id R = (⟨k, id, 0, 0, 0, 0, 0, 0, 0#16⟩, rFail 7 (rByte bs R).2) := by
  unfold rdSome
  dsimp only
  rw [if_pos h]
theorem rdSome_ok {bs : List Byte} {k id : Int} {R : Rs} {A : BitVec 16} {T : Rs} (h : ¬ ((rByte bs R).1.toNat = 0 ∨ 127 < (rByte bs R).1.toNat)) (hA : upA bs (rByte bs R).1 (upS bs (rByte bs R).1 (rByte bs R).2 6) = (A, T)) : rdSome bs k id R = (⟨k, id, upX bs (rByte bs R).1 (rByte bs R).2 0, upX bs (rByte bs R).1 (rByte bs R).2 1, upX bs (rByte bs R).1 (rByte bs R).2 2, upX bs (rByte bs R).1 (rByte bs R).2 3, upX bs (rByte bs R).1 (rByte bs R).2 4, upX bs (rByte bs R).1 (rByte bs R).2 5, A⟩, T) := by
  unfold rdSome
  dsimp only
  rw [if_neg h, hA]
theorem rId_le {bs : List Byte} {last : Int} {R : Rs} (h : R.p ≤ bs.length) (h1 : -1 ≤ last) (h2 : last < 65535) : (((rUint bs (BitVec.ofInt 64 (65534 - last)) R).1.toNat : Nat) : Int) ≤ 65534 - last := by
  have h3 := (rUint_le (X := BitVec.ofInt 64 (65534 - last)) h).2.2.2.1
  have h4 := ofInt64 (x := 65534 - last) (by omega) (by omega)
  omega
theorem toInt_id {bs : List Byte} {last : Int} {R : Rs} (h : R.p ≤ bs.length) (h1 : -1 ≤ last) (h2 : last < 65535) : (rUint bs (BitVec.ofInt 64 (65534 - last)) R).1.toInt = (((rUint bs (BitVec.ofInt 64 (65534 - last)) R).1.toNat : Nat) : Int) := by
  have := rId_le h h1 h2
  by_cases h5 : 65534 - last ≤ 65535
  · exact toInt_small (by omega)
  · exact toInt_small (by omega)
end Go.Sx
