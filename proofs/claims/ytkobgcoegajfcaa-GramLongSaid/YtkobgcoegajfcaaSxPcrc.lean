/- Sums of bytes: plain mathematics. -/
import Derived.Test.YtkobgcoegajfcaaSxC
set_option linter.unusedVariables false
set_option linter.unusedSimpArgs false
namespace Go.Sx

def stepBit (s : BitVec 32) : BitVec 32 := (s >>> 1) ^^^ (3988292384#32 &&& -(s &&& 1#32))
def stepN : Nat → BitVec 32 → BitVec 32
  | 0, s => s
  | k + 1, s => stepBit (stepN k s)
def stepC (s : BitVec 32) (c : Byte) : BitVec 32 := stepN 8 (s ^^^ c.setWidth 32)
def foldC (s : BitVec 32) (bs : List Byte) : BitVec 32 := bs.foldl stepC s
def crcMore (s : BitVec 32) (bs : List Byte) : BitVec 32 := ~~~(foldC (~~~s) bs)
def crcSum (bs : List Byte) : BitVec 32 := crcMore 0#32 bs
theorem foldC_append (s : BitVec 32) (a b : List Byte) : foldC s (a ++ b) = foldC (foldC s a) b := by simp [foldC]
theorem foldC_succ (s : BitVec 32) (bs : List Byte) (k : Nat) (h : k < bs.length) : foldC s (bs.take (k + 1)) = stepC (foldC s (bs.take k)) (bs.getD k 0) := by
  unfold foldC
  rw [List.take_succ_eq_append_getElem h, List.foldl_append]
  simp [List.getD_eq_getElem?_getD, h]
theorem crcMore_append (s : BitVec 32) (a b : List Byte) : crcMore (crcMore s a) b = crcMore s (a ++ b) := by
  unfold crcMore
  rw [BitVec.not_not, foldC_append]
theorem crcMore_sum (a b : List Byte) : crcMore (crcSum a) b = crcSum (a ++ b) := crcMore_append _ _ _
def be4 (s : BitVec 32) : List Byte := [(s >>> 24).setWidth 8, (s >>> 16).setWidth 8, (s >>> 8).setWidth 8, s.setWidth 8]
def seal_ (bs : List Byte) : List Byte := bs ++ be4 (crcSum bs)
theorem length_seal (bs : List Byte) : (seal_ bs).length = bs.length + 4 := by simp [seal_, be4]
def beN (bs : List Byte) : BitVec 32 := bs.foldl (fun s c => (s <<< 8) ||| c.setWidth 32) 0#32
theorem beN_succ (bs : List Byte) (k : Nat) (h : k < bs.length) : beN (bs.take (k + 1)) = (beN (bs.take k) <<< 8) ||| (bs.getD k 0).setWidth 32 := by
  unfold beN
  rw [List.take_succ_eq_append_getElem h, List.foldl_append]
  simp [List.getD_eq_getElem?_getD, h]
theorem shor (s : BitVec 32) (c : Byte) (h : s.toNat < 2 ^ 24) : ((s <<< 8) ||| c.setWidth 32).toNat = s.toNat * 256 + c.toNat := by
  have hc := c.isLt
  rw [BitVec.toNat_or, BitVec.toNat_shiftLeft, BitVec.toNat_setWidth, Nat.shiftLeft_eq, Nat.mod_eq_of_lt (by omega), Nat.mod_eq_of_lt (by omega)]
  rw [Nat.mul_comm, ← Nat.two_pow_add_eq_or_of_lt hc]
theorem beN4 (a b c d : Byte) : (beN [a, b, c, d]).toNat = a.toNat * 16777216 + b.toNat * 65536 + c.toNat * 256 + d.toNat := by
  simp only [beN, List.foldl_cons, List.foldl_nil]
  have ha := a.isLt
  have hb := b.isLt
  have hc := c.isLt
  have hd := d.isLt
  have h0 : (0#32 : BitVec 32).toNat = 0 := rfl
  have h1 := shor 0#32 a (by omega)
  have h2 := shor _ b (by rw [h1]; omega)
  have h3 := shor _ c (by rw [h2, h1]; omega)
  have h4 := shor _ d (by rw [h3, h2, h1]; omega)
  rw [h4, h3, h2, h1]
  omega
theorem beN_be4 (s : BitVec 32) : beN (be4 s) = s := by
  apply BitVec.eq_of_toNat_eq
  have := s.isLt
  rw [be4, beN4]
  simp only [BitVec.toNat_setWidth, BitVec.toNat_ushiftRight, Nat.shiftRight_eq_div_pow]
  omega
theorem be4_beN' (a b c d : Byte) : be4 (beN [a, b, c, d]) = [a, b, c, d] := by
  have h := beN4 a b c d
  have ha := a.isLt
  have hb := b.isLt
  have hc := c.isLt
  have hd := d.isLt
  simp only [be4, List.cons.injEq, and_true]
  refine ⟨?_, ?_, ?_, ?_⟩ <;> apply BitVec.eq_of_toNat_eq <;> simp only [BitVec.toNat_setWidth, BitVec.toNat_ushiftRight, Nat.shiftRight_eq_div_pow, h] <;> omega
theorem be4_beN : ∀ (l : List Byte), l.length = 4 → be4 (beN l) = l
  | [a, b, c, d], _ => be4_beN' a b c d
/-- What is opened: the bytes ahead of the sum, or nothing. -/
def open_ (bs : List Byte) : Option (List Byte) :=
  if bs.length < 4 then none else if beN (bs.drop (bs.length - 4)) = crcSum (bs.take (bs.length - 4)) then some (bs.take (bs.length - 4)) else none
theorem open_seal (bs : List Byte) : open_ (seal_ bs) = some bs := by
  unfold open_
  have hl := length_seal bs
  rw [if_neg (by omega), hl, show bs.length + 4 - 4 = bs.length by omega]
  have h1 : (seal_ bs).drop bs.length = be4 (crcSum bs) := by simp [seal_]
  have h2 : (seal_ bs).take bs.length = bs := by simp [seal_]
  rw [h1, h2, beN_be4, if_pos rfl]
theorem open_spec (bs x : List Byte) : open_ bs = some x ↔ bs = seal_ x := by
  constructor
  · intro h
    unfold open_ at h
    split at h
    · cases h
    · rename_i hl
      split at h
      · rename_i he
        injection h with h
        subst h
        unfold seal_
        rw [← he, be4_beN _ (by simp; omega), List.take_append_drop]
      · cases h
  · rintro rfl
    exact open_seal x
/-- A step of the reference's. -/
theorem and_one (s : BitVec 32) : s % 2#32 = s &&& 1#32 := by
  apply BitVec.eq_of_toNat_eq; simp [Nat.and_one_is_mod]
theorem div_two (s : BitVec 32) : s / 2#32 = s >>> 1 := by
  apply BitVec.eq_of_toNat_eq; simp [Nat.shiftRight_eq_div_pow]
theorem neg_one_and : 3988292384#32 &&& -1#32 = 3988292384#32 := by decide
theorem stepBit_odd {s : BitVec 32} (h : s &&& 1#32 = 1#32) : stepBit s = (s >>> 1) ^^^ 3988292384#32 := by
  unfold stepBit; rw [h, neg_one_and]
theorem stepBit_even {s : BitVec 32} (h : s &&& 1#32 = 0#32) : stepBit s = s >>> 1 := by
  unfold stepBit; rw [h]; simp
theorem ref_odd {s : BitVec 32} (h : (((s % 2#32).toNat : Nat) : Int) = 1) : (s / 2#32) ^^^ 3988292384#32 = stepBit s := by
  have h' : s &&& 1#32 = 1#32 := by
    rw [← and_one]; apply BitVec.eq_of_toNat_eq; have : (s % 2#32).toNat = 1 := by omega
    rw [this]; rfl
  rw [stepBit_odd h', div_two]
theorem ref_even {s : BitVec 32} (h : (((s % 2#32).toNat : Nat) : Int) ≠ 1) : s / 2#32 = stepBit s := by
  have h1 : (s % 2#32).toNat < 2 := by simp; omega
  have h' : s &&& 1#32 = 0#32 := by
    rw [← and_one]; apply BitVec.eq_of_toNat_eq; have : (s % 2#32).toNat = 0 := by omega
    rw [this]; rfl
  rw [stepBit_even h', div_two]
theorem crcSum_ref (bs : List Byte) : 4294967295#32 ^^^ foldC 4294967295#32 bs = crcSum bs := by
  unfold crcSum crcMore
  have e : (4294967295#32 : BitVec 32) = BitVec.allOnes 32 := by decide
  have e2 : (~~~0#32 : BitVec 32) = BitVec.allOnes 32 := by decide
  rw [e, e2, BitVec.allOnes_xor]
theorem ref_be4 (s : BitVec 32) : [(s / 16777216#32).setWidth 8, (s / 65536#32 % 256#32).setWidth 8, (s / 256#32 % 256#32).setWidth 8, (s % 256#32).setWidth 8] = be4 s := by
  have := s.isLt
  simp only [be4, List.cons.injEq, and_true]
  refine ⟨?_, ?_, ?_, ?_⟩ <;> apply BitVec.eq_of_toNat_eq <;> simp only [BitVec.toNat_setWidth, BitVec.toNat_ushiftRight, BitVec.toNat_udiv, BitVec.toNat_umod, BitVec.toNat_ofNat, Nat.shiftRight_eq_div_pow, Nat.reducePow, Nat.reduceMod] <;> omega

/-! ### No two sums alike -/
theorem bit31 (x : BitVec 32) : (stepBit x).getLsbD 31 = x.getLsbD 0 := by
  rcases Nat.mod_two_eq_zero_or_one x.toNat with h | h
  · have h' : x &&& 1#32 = 0#32 := by apply BitVec.eq_of_toNat_eq; simp [Nat.and_one_is_mod, h]
    rw [stepBit_even h', BitVec.getLsbD_ushiftRight, BitVec.getLsbD_of_ge x (1 + 31) (by omega)]
    simp [BitVec.getLsbD, Nat.testBit_zero, h]
  · have h' : x &&& 1#32 = 1#32 := by apply BitVec.eq_of_toNat_eq; simp [Nat.and_one_is_mod, h]
    rw [stepBit_odd h', BitVec.getLsbD_xor, BitVec.getLsbD_ushiftRight, BitVec.getLsbD_of_ge x (1 + 31) (by omega)]
    have : (3988292384#32 : BitVec 32).getLsbD 31 = true := by decide
    rw [this]
    simp [BitVec.getLsbD, Nat.testBit_zero, h]
theorem stepBit_xor (x y : BitVec 32) : stepBit (x ^^^ y) = stepBit x ^^^ stepBit y := by
  have hx : x &&& 1#32 = 0#32 ∨ x &&& 1#32 = 1#32 := by
    rcases Nat.mod_two_eq_zero_or_one x.toNat with h | h
    · left; apply BitVec.eq_of_toNat_eq; simp [Nat.and_one_is_mod, h]
    · right; apply BitVec.eq_of_toNat_eq; simp [Nat.and_one_is_mod, h]
  have hy : y &&& 1#32 = 0#32 ∨ y &&& 1#32 = 1#32 := by
    rcases Nat.mod_two_eq_zero_or_one y.toNat with h | h
    · left; apply BitVec.eq_of_toNat_eq; simp [Nat.and_one_is_mod, h]
    · right; apply BitVec.eq_of_toNat_eq; simp [Nat.and_one_is_mod, h]
  have hd : (x ^^^ y) &&& 1#32 = (x &&& 1#32) ^^^ (y &&& 1#32) := by
    ext i hi; simp [Bool.and_xor_distrib_right]
  have hs : (x ^^^ y) >>> 1 = (x >>> 1) ^^^ (y >>> 1) := BitVec.ushiftRight_xor_distrib x y 1
  rcases hx with hx | hx <;> rcases hy with hy | hy
  · rw [stepBit_even (by rw [hd, hx, hy]; rfl), stepBit_even hx, stepBit_even hy, hs]
  · rw [stepBit_odd (by rw [hd, hx, hy]; rfl), stepBit_even hx, stepBit_odd hy, hs, BitVec.xor_assoc]
  · rw [stepBit_odd (by rw [hd, hx, hy]; rfl), stepBit_odd hx, stepBit_even hy, hs, BitVec.xor_assoc, BitVec.xor_assoc, BitVec.xor_comm (y >>> 1)]
  · rw [stepBit_even (by rw [hd, hx, hy]; rfl), stepBit_odd hx, stepBit_odd hy, hs]
    rw [BitVec.xor_assoc, ← BitVec.xor_assoc 3988292384#32, BitVec.xor_comm 3988292384#32 (y >>> 1), BitVec.xor_assoc (y >>> 1), BitVec.xor_self, BitVec.xor_zero]
theorem stepBit_zero {x : BitVec 32} (h : stepBit x = 0#32) : x = 0#32 := by
  have h0 : x.getLsbD 0 = false := by rw [← bit31, h]; rfl
  have hm : x.toNat % 2 = 0 := by
    rcases Nat.mod_two_eq_zero_or_one x.toNat with h | h
    · exact h
    · simp [BitVec.getLsbD, Nat.testBit_zero, h] at h0
  have h' : x &&& 1#32 = 0#32 := by apply BitVec.eq_of_toNat_eq; simp [Nat.and_one_is_mod, hm]
  rw [stepBit_even h'] at h
  have := congrArg BitVec.toNat h
  simp [Nat.shiftRight_eq_div_pow] at this
  apply BitVec.eq_of_toNat_eq
  simp
  omega
theorem stepBit_inj {x y : BitVec 32} (h : stepBit x = stepBit y) : x = y := by
  have : stepBit (x ^^^ y) = 0#32 := by rw [stepBit_xor, h, BitVec.xor_self]
  have := stepBit_zero this
  exact BitVec.xor_eq_zero_iff.1 this
theorem stepN_xor (k : Nat) (x y : BitVec 32) : stepN k (x ^^^ y) = stepN k x ^^^ stepN k y := by
  induction k with
  | zero => rfl
  | succ k ih => simp only [stepN, ih, stepBit_xor]
theorem stepN_inj (k : Nat) {x y : BitVec 32} (h : stepN k x = stepN k y) : x = y := by
  induction k with
  | zero => exact h
  | succ k ih => exact ih (stepBit_inj h)
theorem stepN_add (j k : Nat) (x : BitVec 32) : stepN j (stepN k x) = stepN (j + k) x := by
  induction j with
  | zero => simp [stepN]
  | succ j ih => rw [show j + 1 + k = (j + k) + 1 by omega]; simp only [stepN, ih]
theorem stepC_inj {x y : BitVec 32} {c : Byte} (h : stepC x c = stepC y c) : x = y := by
  have := stepN_inj 8 h
  exact (BitVec.xor_left_inj (c.setWidth 32)).1 this
theorem foldC_inj : ∀ (l : List Byte) {x y : BitVec 32}, foldC x l = foldC y l → x = y
  | [], _, _, h => h
  | _ :: l, _, _, h => stepC_inj (foldC_inj l h)
/-- Zeros below are shifted out. -/
theorem stepN_shift (j : Nat) (hj : j ≤ 24) (z : BitVec 32) (hz : z.toNat % 2 ^ j = 0) : stepN j z = z >>> j := by
  induction j with
  | zero => simp [stepN]
  | succ j ih =>
    have h1 : z.toNat % 2 ^ j = 0 := by
      have : 2 ^ (j + 1) = 2 ^ j * 2 := by rw [Nat.pow_succ]
      rw [this] at hz
      have := Nat.mod_mul_right_mod z.toNat (2 ^ j) 2
      rw [hz] at this
      simpa using this.symm
    simp only [stepN]
    rw [ih (by omega) h1, stepBit_even, BitVec.shiftRight_add]
    apply BitVec.eq_of_toNat_eq
    simp [Nat.and_one_is_mod, Nat.shiftRight_eq_div_pow]
    have h2 : 2 ^ (j + 1) ∣ z.toNat := Nat.dvd_of_mod_eq_zero hz
    obtain ⟨q, hq⟩ := h2
    rw [hq, Nat.pow_succ, Nat.mul_assoc, Nat.mul_div_cancel_left _ (Nat.two_pow_pos j)]
    omega
def le4 (a b c d : Byte) : BitVec 32 := a.setWidth 32 ^^^ (b.setWidth 32 <<< 8) ^^^ (c.setWidth 32 <<< 16) ^^^ (d.setWidth 32 <<< 24)
theorem shl_byte (c : Byte) (j : Nat) (hj : j ≤ 24) : (c.setWidth 32 <<< j).toNat = c.toNat * 2 ^ j := by
  have hc := c.isLt
  have hp : 2 ^ j ≤ 2 ^ 24 := Nat.pow_le_pow_right (by omega) hj
  have h1 : (c.setWidth 32).toNat = c.toNat := by rw [BitVec.toNat_setWidth, Nat.mod_eq_of_lt (by omega)]
  rw [BitVec.toNat_shiftLeft, h1, Nat.shiftLeft_eq, Nat.mod_eq_of_lt]
  calc c.toNat * 2 ^ j ≤ 255 * 2 ^ 24 := Nat.mul_le_mul (by omega) hp
    _ < 2 ^ 32 := by decide
theorem stepN_byte (c : Byte) (j : Nat) (hj : j ≤ 24) : stepN j (c.setWidth 32 <<< j) = c.setWidth 32 := by
  rw [stepN_shift j hj _ (by rw [shl_byte c j hj]; simp)]
  apply BitVec.eq_of_toNat_eq
  rw [BitVec.toNat_ushiftRight, shl_byte c j hj, Nat.shiftRight_eq_div_pow, Nat.mul_div_cancel _ (Nat.two_pow_pos j)]
  have hc := c.isLt
  rw [BitVec.toNat_setWidth, Nat.mod_eq_of_lt (by omega)]
theorem four_steps (s : BitVec 32) (a b c d : Byte) : stepC (stepC (stepC (stepC s a) b) c) d = stepN 32 (s ^^^ le4 a b c d) := by
  have e1 : stepC s a = stepN 8 (s ^^^ a.setWidth 32) := rfl
  have e2 : stepC (stepC s a) b = stepN 16 (s ^^^ a.setWidth 32 ^^^ (b.setWidth 32 <<< 8)) := by
    show _ = stepN (8 + 8) _
    rw [← stepN_add 8 8, stepN_xor 8 (s ^^^ _), stepN_byte b 8 (by omega), e1]
    rfl
  have e3 : stepC (stepC (stepC s a) b) c = stepN 24 (s ^^^ a.setWidth 32 ^^^ (b.setWidth 32 <<< 8) ^^^ (c.setWidth 32 <<< 16)) := by
    show _ = stepN (8 + 16) _
    rw [← stepN_add 8 16, stepN_xor 16 (s ^^^ _ ^^^ _), stepN_byte c 16 (by omega), e2]
    rfl
  have e4 : stepC (stepC (stepC (stepC s a) b) c) d = stepN 32 (s ^^^ a.setWidth 32 ^^^ (b.setWidth 32 <<< 8) ^^^ (c.setWidth 32 <<< 16) ^^^ (d.setWidth 32 <<< 24)) := by
    show _ = stepN (8 + 24) _
    rw [← stepN_add 8 24, stepN_xor 24 (s ^^^ _ ^^^ _ ^^^ _), stepN_byte d 24 (by omega), e3]
    rfl
  rw [e4]
  unfold le4
  simp only [BitVec.xor_assoc]
theorem le4_bytes (x : BitVec 32) : le4 (x.setWidth 8) ((x >>> 8).setWidth 8) ((x >>> 16).setWidth 8) ((x >>> 24).setWidth 8) = x := by
  unfold le4
  ext i hi
  simp only [BitVec.getElem_xor, BitVec.getElem_setWidth, BitVec.getElem_shiftLeft, BitVec.getLsbD_setWidth, BitVec.getLsbD_ushiftRight]
  rcases (show i < 8 ∨ (8 ≤ i ∧ i < 16) ∨ (16 ≤ i ∧ i < 24) ∨ (24 ≤ i ∧ i < 32) by omega) with h | h | h | h
  · simp [h, show i < 16 by omega, show i < 24 by omega, BitVec.getLsbD_eq_getElem hi]
  · have : ¬ i < 8 := by omega
    simp [this, h.2, show i < 24 by omega, show i - 8 < 8 by omega, show 8 + (i - 8) = i by omega, show i - 8 < 32 by omega, BitVec.getLsbD_eq_getElem hi]
  · have h1 : ¬ i < 8 := by omega
    have h2 : ¬ i < 16 := by omega
    simp [h1, h2, h.2, show i - 16 < 8 by omega, show 16 + (i - 16) = i by omega, show i - 16 < 32 by omega, show ¬ i - 8 < 8 by omega, BitVec.getLsbD_eq_getElem hi]
  · have h1 : ¬ i < 8 := by omega
    have h2 : ¬ i < 16 := by omega
    have h3 : ¬ i < 24 := by omega
    simp [h1, h2, h3, show i - 24 < 8 by omega, show 24 + (i - 24) = i by omega, show i - 24 < 32 by omega, show ¬ i - 8 < 8 by omega, show ¬ i - 16 < 8 by omega, BitVec.getLsbD_eq_getElem hi]
theorem xor4 (a b c d a' b' c' d' : BitVec 32) : (a ^^^ a') ^^^ (b ^^^ b') ^^^ (c ^^^ c') ^^^ (d ^^^ d') = (a ^^^ b ^^^ c ^^^ d) ^^^ (a' ^^^ b' ^^^ c' ^^^ d') := by
  ext i hi
  simp only [BitVec.getElem_xor]
  cases a[i] <;> cases b[i] <;> cases c[i] <;> cases d[i] <;> cases a'[i] <;> cases b'[i] <;> cases c'[i] <;> cases d'[i] <;> rfl
theorem le4_xor (a b c d a' b' c' d' : Byte) : le4 (a ^^^ a') (b ^^^ b') (c ^^^ c') (d ^^^ d') = le4 a b c d ^^^ le4 a' b' c' d' := by
  unfold le4
  simp only [BitVec.setWidth_xor, BitVec.shiftLeft_xor_distrib]
  exact xor4 _ _ _ _ _ _ _ _
/-- Four neighbours that are others, by one number that isn't 0. -/
theorem unlike (p q : List Byte) (a b c d : Byte) (x : BitVec 32) (hx : x ≠ 0#32) (r s : BitVec 32) (hr : r = s) :
    foldC r (p ++ [a ^^^ x.setWidth 8, b ^^^ (x >>> 8).setWidth 8, c ^^^ (x >>> 16).setWidth 8, d ^^^ (x >>> 24).setWidth 8] ++ q) ≠ foldC s (p ++ [a, b, c, d] ++ q) := by
  subst hr
  rw [foldC_append, foldC_append, foldC_append, foldC_append]
  intro h
  have h2 := foldC_inj q h
  simp only [foldC, List.foldl_cons, List.foldl_nil] at h2
  rw [four_steps, four_steps, le4_xor, le4_bytes] at h2
  have h3 := stepN_inj 32 h2
  rw [← BitVec.xor_assoc] at h3
  have h4 : (p.foldl stepC r ^^^ le4 a b c d) ^^^ x = (p.foldl stepC r ^^^ le4 a b c d) ^^^ 0#32 := by rw [h3, BitVec.xor_zero]
  exact hx ((BitVec.xor_right_inj _).1 h4)
/-- One byte that is another one. -/
theorem unlike1 (p q : List Byte) (a b : Byte) (h : a ≠ b) (r : BitVec 32) : foldC r (p ++ a :: q) ≠ foldC r (p ++ b :: q) := by
  rw [foldC_append, foldC_append]
  intro e
  have e2 := foldC_inj q (show foldC (stepC (foldC r p) a) q = foldC (stepC (foldC r p) b) q from e)
  have e3 := (BitVec.xor_right_inj _).1 (stepN_inj 8 e2)
  apply h
  have := congrArg BitVec.toNat e3
  have ha := a.isLt
  have hb := b.isLt
  rw [BitVec.toNat_setWidth, BitVec.toNat_setWidth, Nat.mod_eq_of_lt (by omega), Nat.mod_eq_of_lt (by omega)] at this
  exact BitVec.eq_of_toNat_eq this
theorem crcMore_inj {s t : BitVec 32} {l : List Byte} (h : crcMore s l = crcMore t l) : s = t := by
  unfold crcMore at h
  have := foldC_inj l (BitVec.not_inj.1 h)
  exact BitVec.not_inj.1 this

end Go.Sx
namespace Go.Sx
/-! ### What the laws ask -/
theorem crc_pieces (bs : List Byte) (j k : Nat) : crcMore (crcSum (bs.take j)) ((bs.drop j).take k) = crcSum (bs.take (j + k)) := by
  rw [crcMore_sum, List.take_add]
theorem crc_rest (bs : List Byte) (j : Nat) : crcMore (crcSum (bs.take j)) (bs.drop j) = crcSum bs := by
  rw [crcMore_sum, List.take_append_drop]
theorem mod_nat (a b : Int) (h : 0 < b) : ∃ k : Nat, a % b = (k : Int) ∧ (k : Int) < b :=
  ⟨(a % b).toNat, (Int.toNat_of_nonneg (Int.emod_nonneg a (by omega))).symm, by have := Int.emod_nonneg a (show b ≠ 0 by omega); have := Int.emod_lt_of_pos a h; omega⟩
theorem idx_mod (x : BitVec 64) (n : Nat) (h0 : 0 < n) (hn : n ≤ 4611686018427387904) : ∃ k : Nat, k < n ∧ (x % BitVec.ofInt 64 (n : Int)).toInt = (k : Int) := by
  have e : (x % BitVec.ofInt 64 (n : Int)).toNat = x.toNat % n := by
    rw [BitVec.toNat_umod, BitVec.ofInt_natCast, BitVec.toNat_ofNat, Nat.mod_eq_of_lt (show n < 2 ^ 64 by omega)]
  refine ⟨x.toNat % n, Nat.mod_lt _ h0, ?_⟩
  have hlt := Nat.mod_lt x.toNat h0
  rw [BitVec.toInt_eq_toNat_of_lt (by rw [e]; omega), e]
theorem ofInt_ne (n : Nat) (h0 : 0 < n) (hn : n ≤ 4611686018427387904) : BitVec.ofInt 64 (n : Int) ≠ 0 := by
  intro h
  have := congrArg BitVec.toNat h
  rw [BitVec.ofInt_natCast, BitVec.toNat_ofNat, Nat.mod_eq_of_lt (show n < 2 ^ 64 by omega)] at this
  simp at this
  omega
/-- Bytes from i on, turned by a number's bytes, k of them. -/
def updK (bs : List Byte) (i : Nat) (x : BitVec 32) : Nat → List Byte
  | 0 => bs
  | k + 1 => (updK bs i x k).set (i + k) ((updK bs i x k).getD (i + k) 0 ^^^ (x >>> (8 * k)).setWidth 8)
theorem length_updK (bs : List Byte) (i : Nat) (x : BitVec 32) : ∀ k, (updK bs i x k).length = bs.length
  | 0 => rfl
  | k + 1 => by simp [updK, length_updK bs i x k]
theorem split4 (bs : List Byte) (i : Nat) (h : i + 4 ≤ bs.length) : ∃ a b c d, bs = bs.take i ++ [a, b, c, d] ++ bs.drop (i + 4) ∧ (bs.take i).length = i := by
  refine ⟨bs[i], bs[i + 1], bs[i + 2], bs[i + 3], ?_, by simp; omega⟩
  have h1 := List.drop_eq_getElem_cons (l := bs) (i := i) (by omega)
  have h2 := List.drop_eq_getElem_cons (l := bs) (i := i + 1) (by omega)
  have h3 := List.drop_eq_getElem_cons (l := bs) (i := i + 2) (by omega)
  have h4 := List.drop_eq_getElem_cons (l := bs) (i := i + 3) (by omega)
  have e : bs = bs.take i ++ bs.drop i := (List.take_append_drop i bs).symm
  rw [h1, h2, h3, h4] at e
  simpa only [List.append_assoc, List.cons_append, List.nil_append] using e
theorem getD_mid (p q : List Byte) (x : Byte) (i : Nat) (h : p.length = i) : (p ++ x :: q).getD i 0 = x := by subst h; simp
theorem set_mid (p q : List Byte) (x y : Byte) (i : Nat) (h : p.length = i) : (p ++ x :: q).set i y = p ++ y :: q := by subst h; simp
theorem updK4 (p q : List Byte) (a b c d : Byte) (x : BitVec 32) (i : Nat) (h : p.length = i) : updK (p ++ [a, b, c, d] ++ q) i x 4 = p ++ [a ^^^ x.setWidth 8, b ^^^ (x >>> 8).setWidth 8, c ^^^ (x >>> 16).setWidth 8, d ^^^ (x >>> 24).setWidth 8] ++ q := by
  have g1 : updK (p ++ [a, b, c, d] ++ q) i x 1 = p ++ [a ^^^ x.setWidth 8, b, c, d] ++ q := by
    simp only [updK, List.append_assoc, List.cons_append, List.nil_append, Nat.add_zero, Nat.mul_zero, BitVec.ushiftRight_zero]
    rw [getD_mid p _ a i h, set_mid p _ a _ i h]
  have g2 : updK (p ++ [a, b, c, d] ++ q) i x 2 = p ++ [a ^^^ x.setWidth 8, b ^^^ (x >>> 8).setWidth 8, c, d] ++ q := by
    rw [updK, g1]
    rw [show p ++ [a ^^^ x.setWidth 8, b, c, d] ++ q = (p ++ [a ^^^ x.setWidth 8]) ++ b :: ([c, d] ++ q) by simp, getD_mid _ _ b (i + 1) (by simp [h]), set_mid _ _ b _ (i + 1) (by simp [h])]
    simp
  have g3 : updK (p ++ [a, b, c, d] ++ q) i x 3 = p ++ [a ^^^ x.setWidth 8, b ^^^ (x >>> 8).setWidth 8, c ^^^ (x >>> 16).setWidth 8, d] ++ q := by
    rw [updK, g2]
    rw [show p ++ [a ^^^ x.setWidth 8, b ^^^ (x >>> 8).setWidth 8, c, d] ++ q = (p ++ [a ^^^ x.setWidth 8, b ^^^ (x >>> 8).setWidth 8]) ++ c :: ([d] ++ q) by simp, getD_mid _ _ c (i + 2) (by simp [h]), set_mid _ _ c _ (i + 2) (by simp [h])]
    simp
  rw [updK, g3]
  rw [show p ++ [a ^^^ x.setWidth 8, b ^^^ (x >>> 8).setWidth 8, c ^^^ (x >>> 16).setWidth 8, d] ++ q = (p ++ [a ^^^ x.setWidth 8, b ^^^ (x >>> 8).setWidth 8, c ^^^ (x >>> 16).setWidth 8]) ++ d :: q by simp, getD_mid _ _ d (i + 3) (by simp [h]), set_mid _ _ d _ (i + 3) (by simp [h])]
  simp
theorem sum_unlike (bs : List Byte) (i : Nat) (x : BitVec 32) (h : i + 4 ≤ bs.length) (hx : x ≠ 0#32) : crcSum (updK bs i x 4) ≠ crcSum bs := by
  obtain ⟨a, b, c, d, e, hl⟩ := split4 bs i h
  intro hc
  rw [e, updK4 _ _ _ _ _ _ _ _ hl] at hc
  exact unlike _ _ _ _ _ _ x hx _ _ rfl (BitVec.not_inj.1 hc)
theorem sum_unlike' (bs : List Byte) (i : Nat) (x : BitVec 32) (l : List Byte) (h : i + 4 ≤ bs.length) (hx : x ≠ 0#32) : crcMore (crcSum (updK bs i x 4)) l ≠ crcMore (crcSum bs) l :=
  fun e => sum_unlike bs i x h hx (crcMore_inj e)
theorem bne_of_ne {x y : BitVec 32} (h : x ≠ y) : (!((((x.toNat : Nat) : Int)) == ((y.toNat : Nat) : Int))) = true := by
  have : ¬ ((x.toNat : Nat) : Int) = ((y.toNat : Nat) : Int) := fun e => h (BitVec.eq_of_toNat_eq (by omega))
  simp only [Bool.not_eq_true']
  exact beq_eq_false_iff_ne.2 this
/-- One bit turned in what is sealed: it isn't opened. -/
theorem open_turned (bs : List Byte) (i : Nat) (y : Byte) (hi : i < (seal_ bs).length) (hy : y ≠ 0) : open_ ((seal_ bs).set i ((seal_ bs).getD i 0 ^^^ y)) = none := by
  cases ho : open_ ((seal_ bs).set i ((seal_ bs).getD i 0 ^^^ y)) with
  | none => rfl
  | some x =>
    exfalso
    have e := (open_spec _ _).1 ho
    have hl : x.length = bs.length := by
      have := congrArg List.length e
      rw [List.length_set, length_seal, length_seal] at this
      omega
    have hne : ∀ c : Byte, c ^^^ y ≠ c := fun c hc => hy ((BitVec.xor_right_inj c).1 (by rw [hc]; simp))
    rw [length_seal] at hi
    rcases Nat.lt_or_ge i bs.length with hlt | hge
    · -- among the bytes
      have h1 : (seal_ bs).set i ((seal_ bs).getD i 0 ^^^ y) = bs.set i (bs.getD i 0 ^^^ y) ++ be4 (crcSum bs) := by
        unfold seal_
        rw [List.set_append_left _ _ hlt]
        simp [List.getD_eq_getElem?_getD, List.getElem?_append_left hlt]
      rw [h1] at e
      have h2 := List.append_inj e (by simp [hl])
      have h3 : crcSum bs = crcSum x := by rw [← beN_be4 (crcSum bs), h2.2, beN_be4]
      rw [← h2.1] at h3
      obtain ⟨p, z, q, hb, hp⟩ : ∃ p z q, bs = p ++ z :: q ∧ p.length = i :=
        ⟨bs.take i, bs[i], bs.drop (i + 1), by rw [← List.drop_eq_getElem_cons hlt, List.take_append_drop], by simp; omega⟩
      rw [hb, getD_mid _ _ _ i hp, set_mid _ _ _ _ i hp] at h3
      exact unlike1 _ _ _ _ (fun h => hne _ h.symm) _ (BitVec.not_inj.1 h3)
    · -- in the sum
      have h1 : (seal_ bs).set i ((seal_ bs).getD i 0 ^^^ y) = bs ++ (be4 (crcSum bs)).set (i - bs.length) ((be4 (crcSum bs)).getD (i - bs.length) 0 ^^^ y) := by
        unfold seal_
        rw [List.set_append_right _ _ hge]
        simp [List.getD_eq_getElem?_getD, List.getElem?_append_right hge]
      rw [h1] at e
      have h2 := List.append_inj e (by omega)
      rw [← h2.1] at h2
      have h3 := h2.2
      have hlt : i - bs.length < (be4 (crcSum bs)).length := by simp [be4]; omega
      have h4 := congrArg (fun l => l.getD (i - bs.length) 0) h3
      simp only [List.getD_eq_getElem?_getD, List.getElem?_set_self hlt, Option.getD_some] at h4
      exact hne _ h4
theorem bit_ne (k : Nat) (h : k < 8) : (1#8 : Byte) <<< k ≠ 0 := by
  have : ∀ j : Fin 8, (1#8 : Byte) <<< j.val ≠ 0 := by decide
  exact this ⟨k, h⟩
end Go.Sx
