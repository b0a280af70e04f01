/- Numbers of as many bytes as they need: plain mathematics. -/
import Derived.Test.YtbioemaipghagaaQSxBasA
set_option linter.unusedVariables false
set_option linter.unusedSimpArgs false
namespace Go.Sx

def bitlen (x : Nat) : Nat := if x = 0 then 0 else Nat.log2 x + 1
theorem bitlen_lt {x k : Nat} (h : x < 2 ^ k) : bitlen x ≤ k := by
  unfold bitlen
  split
  · omega
  · rename_i h0
    have := (Nat.log2_lt h0).2 h
    omega
theorem bitlen_ge {x k : Nat} (h : 2 ^ k ≤ x) : k < bitlen x := by
  unfold bitlen
  have h0 : x ≠ 0 := by have := Nat.two_pow_pos k; omega
  rw [if_neg h0]
  have := (Nat.le_log2 h0).2 h
  omega
theorem bitlen_unique {x k : Nat} (h1 : x < 2 ^ (k + 1)) (h2 : 2 ^ k ≤ x) : bitlen x = k + 1 := by
  have := bitlen_lt h1
  have := bitlen_ge h2
  omega
theorem bitlen_shift {x : Nat} (k : Nat) (h : 2 ^ k ≤ x) : bitlen x = k + bitlen (x / 2 ^ k) := by
  have hp := Nat.two_pow_pos k
  have hq : 1 ≤ x / 2 ^ k := (Nat.le_div_iff_mul_le hp).2 (by omega)
  have h0 : x / 2 ^ k ≠ 0 := by omega
  have hb : bitlen (x / 2 ^ k) = Nat.log2 (x / 2 ^ k) + 1 := by unfold bitlen; rw [if_neg h0]
  have l1 := Nat.log2_self_le h0
  have l2 := Nat.lt_log2_self (n := x / 2 ^ k)
  rw [hb]
  refine (bitlen_unique (k := k + Nat.log2 (x / 2 ^ k)) ?_ ?_).trans (by omega)
  · rw [Nat.add_assoc, Nat.pow_add]
    rw [Nat.mul_comm]
    exact (Nat.div_lt_iff_lt_mul hp).1 l2
  · rw [Nat.pow_add, Nat.mul_comm]
    exact (Nat.le_div_iff_mul_le hp).1 l1
/-- The bytes. -/
def vputF : Nat → Nat → List Byte
  | 0, x => [BitVec.ofNat 8 x]
  | k + 1, x => if x < 128 then [BitVec.ofNat 8 x] else BitVec.ofNat 8 (x % 128 + 128) :: vputF k (x / 128)
def vput (x : Nat) : List Byte := vputF 9 x
def vlen (x : Nat) : Nat := (vput x).length
theorem vputF_more : ∀ (k j x : Nat), x < 128 ^ (k + 1) → vputF (k + j) x = vputF k x
  | 0, 0, x, _ => rfl
  | 0, j + 1, x, h => by rw [Nat.zero_add]; simp only [vputF]; rw [if_pos (by simpa using h)]
  | k + 1, j, x, h => by
    rw [show k + 1 + j = (k + j) + 1 by omega]
    simp only [vputF]
    by_cases hx : x < 128
    · rw [if_pos hx, if_pos hx]
    · rw [if_neg hx, if_neg hx, vputF_more k j (x / 128) (by rw [Nat.div_lt_iff_lt_mul (by omega)]; rw [Nat.pow_succ] at h; exact h)]
theorem vput_small {x : Nat} (h : x < 128) : vput x = [BitVec.ofNat 8 x] := by unfold vput; simp only [vputF]; rw [if_pos h]
theorem vput_step {x : Nat} (h : ¬ x < 128) (hx : x < 2 ^ 64) : vput x = BitVec.ofNat 8 (x % 128 + 128) :: vput (x / 128) := by
  unfold vput
  rw [show (9 : Nat) = 8 + 1 by rfl]
  rw [show vputF (8 + 1) x = BitVec.ofNat 8 (x % 128 + 128) :: vputF 8 (x / 128) by simp only [vputF]; rw [if_neg h]]
  rw [vputF_more 8 1 (x / 128) (by rw [Nat.div_lt_iff_lt_mul (by omega)]; omega)]
theorem vlenF_le : ∀ (k x : Nat), (vputF k x).length ≤ k + 1
  | 0, x => by simp [vputF]
  | k + 1, x => by
    simp only [vputF]
    split
    · simp
    · have := vlenF_le k (x / 128)
      simp; omega
theorem vlen_le (x : Nat) : vlen x ≤ 10 := vlenF_le 9 x
theorem vlen_pos (x : Nat) : 1 ≤ vlen x := by
  unfold vlen vput
  simp only [vputF]
  split <;> simp
theorem vlen_small {x : Nat} (h : x < 128) : vlen x = 1 := by unfold vlen; rw [vput_small h]; rfl
theorem vlen_step {x : Nat} (h : ¬ x < 128) (hx : x < 2 ^ 64) : vlen x = vlen (x / 128) + 1 := by unfold vlen; rw [vput_step h hx]; simp
theorem bitlen_small {x : Nat} (h : x < 128) : bitlen x ≤ 7 := bitlen_lt (k := 7) h
theorem vlen_eq : ∀ (d x : Nat), x < 2 ^ 64 → x ≤ d → vlen x = (max 1 (bitlen x) + 6) / 7 := by
  intro d
  induction d using Nat.strongRecOn with
  | _ d ih =>
    intro x hx hd
    by_cases h : x < 128
    · rw [vlen_small h]
      have := bitlen_small h
      omega
    · have h2 := bitlen_shift (x := x) 7 (by omega)
      rw [show (2 : Nat) ^ 7 = 128 by rfl] at h2
      have h3 : 1 ≤ bitlen (x / 128) := bitlen_ge (k := 0) (by omega)
      rw [vlen_step h hx, ih (x / 128) (by omega) (x / 128) (by omega) (Nat.le_refl _), h2]
      omega
theorem vlen_int (X : BitVec 64) : (max 1 ((bitlen X.toNat : Nat) : Int) + 7 - 1) / 7 = ((vlen X.toNat : Nat) : Int) := by
  rw [vlen_eq X.toNat X.toNat X.isLt (Nat.le_refl _)]
  omega
/-- What the program's loop lays, k bytes of it. -/
def putK (X : BitVec 64) (m : Nat) : Nat → List Byte
  | 0 => List.replicate m 0#8
  | k + 1 => (putK X m k).set k ((X >>> (7 * k)).setWidth 8 ||| 128#8)
theorem length_putK (X : BitVec 64) (m : Nat) : ∀ k, (putK X m k).length = m
  | 0 => by simp [putK]
  | k + 1 => by simp [putK, length_putK X m k]
theorem putK_get (X : BitVec 64) (m : Nat) : ∀ (k i : Nat), i < k → i < m → (putK X m k)[i]? = some ((X >>> (7 * i)).setWidth 8 ||| 128#8)
  | 0, i, h, _ => by omega
  | k + 1, i, h, hm => by
    simp only [putK]
    by_cases e : k = i
    · subst e
      rw [List.getElem?_set_self (by rw [length_putK]; exact hm)]
    · rw [List.getElem?_set_ne e]
      exact putK_get X m k i (by omega) hm
theorem or_128 (c : Byte) : (c ||| 128#8).toNat = c.toNat % 128 + 128 := by
  have : ∀ c : BitVec 8, (c ||| 128#8).toNat = c.toNat % 128 + 128 := by decide +kernel
  exact this c
theorem and_127 (c : Byte) : (c &&& ~~~128#8).toNat = c.toNat % 128 := by
  have : ∀ c : BitVec 8, (c &&& ~~~128#8).toNat = c.toNat % 128 := by decide +kernel
  exact this c
theorem byteAt_toNat (X : BitVec 64) (i : Nat) : ((X >>> (7 * i)).setWidth 8).toNat = X.toNat / 2 ^ (7 * i) % 256 := by
  rw [BitVec.toNat_setWidth, BitVec.toNat_ushiftRight, Nat.shiftRight_eq_div_pow]
theorem vput_get : ∀ (n i x : Nat), vlen x = n → x < 2 ^ 64 → i < n → (vput x)[i]? = some (if i + 1 = n then BitVec.ofNat 8 (x / 128 ^ i) else BitVec.ofNat 8 (x / 128 ^ i % 128 + 128)) := by
  intro n
  induction n with
  | zero => intro i x _ _ h; omega
  | succ n ih =>
    intro i x hn hx hi
    by_cases h : x < 128
    · have h1 := vlen_small h
      have : n = 0 := by omega
      subst this
      have : i = 0 := by omega
      subst this
      rw [vput_small h]
      simp
    · have h1 := vlen_step h hx
      have hpos := vlen_pos (x / 128)
      rw [vput_step h hx]
      cases i with
      | zero =>
        rw [if_neg (by omega)]
        simp
      | succ i =>
        rw [List.getElem?_cons_succ, ih i (x / 128) (by omega) (by omega) (by omega)]
        rw [Nat.div_div_eq_div_mul, show 128 * 128 ^ i = 128 ^ (i + 1) by rw [Nat.pow_succ, Nat.mul_comm]]
        by_cases e : i + 1 = n
        · rw [if_pos e, if_pos (by omega)]
        · rw [if_neg e, if_neg (by omega)]
theorem pow7 (i : Nat) : (2 : Nat) ^ (7 * i) = 128 ^ i := by rw [Nat.pow_mul]
theorem vput_top (n x : Nat) (hn : vlen x = n + 1) (hx : x < 2 ^ 64) : x / 128 ^ n < 128 := by
  induction n generalizing x with
  | zero =>
    by_cases h : x < 128
    · simpa using h
    · have := vlen_step h hx; have := vlen_pos (x / 128); omega
  | succ n ih =>
    by_cases h : x < 128
    · have := vlen_small h; omega
    · have := vlen_step h hx
      have := ih (x / 128) (by omega) (by omega)
      rwa [Nat.div_div_eq_div_mul, show 128 * 128 ^ n = 128 ^ (n + 1) by rw [Nat.pow_succ, Nat.mul_comm]] at this
theorem putEnd (X : BitVec 64) (m : Nat) (hm : vlen X.toNat = m) : (putK X m m).set (m - 1) ((putK X m m).getD (m - 1) 0 &&& ~~~128#8) = vput X.toNat := by
  have hpos := vlen_pos X.toNat
  have hlen : (vput X.toNat).length = m := hm
  apply List.ext_getElem?
  intro i
  by_cases hi : i < m
  · rw [vput_get m i X.toNat hm X.isLt hi]
    by_cases e : m - 1 = i
    · subst e
      rw [List.getElem?_set_self (by rw [length_putK]; exact hi), if_pos (by omega)]
      have hg := putK_get X m m (m - 1) (by omega) hi
      have ht := vput_top (m - 1) X.toNat (by omega) X.isLt
      congr 1
      apply BitVec.eq_of_toNat_eq
      rw [and_127, List.getD_eq_getElem?_getD, hg, Option.getD_some, or_128, byteAt_toNat, pow7, BitVec.toNat_ofNat]
      generalize X.toNat / 128 ^ (m - 1) = q at *
      omega
    · rw [List.getElem?_set_ne e, putK_get X m m i hi hi, if_neg (by omega)]
      congr 1
      apply BitVec.eq_of_toNat_eq
      rw [or_128, byteAt_toNat, pow7, BitVec.toNat_ofNat]
      omega
  · rw [List.getElem?_eq_none (by rw [List.length_set, length_putK]; omega), List.getElem?_eq_none (by omega)]
/-! ### What is got -/
/-! ### The document's own way -/
/-! ### There and back -/
/-! ### How long a number is -/
def len8Tab : ByteArray := (ByteArray.mk (List.toArray (List.append (List.append [0, 1, 2, 2, 3, 3, 3, 3, 4, 4, 4, 4, 4, 4, 4, 4, 5, 5, 5, 5, 5, 5, 5, 5, 5, 5, 5, 5, 5, 5, 5, 5, 6, 6, 6, 6, 6, 6, 6, 6, 6, 6, 6, 6, 6, 6, 6, 6, 6, 6, 6, 6, 6, 6, 6, 6, 6, 6, 6, 6, 6, 6, 6, 6] [7, 7, 7, 7, 7, 7, 7, 7, 7, 7, 7, 7, 7, 7, 7, 7, 7, 7, 7, 7, 7, 7, 7, 7, 7, 7, 7, 7, 7, 7, 7, 7, 7, 7, 7, 7, 7, 7, 7, 7, 7, 7, 7, 7, 7, 7, 7, 7, 7, 7, 7, 7, 7, 7, 7, 7, 7, 7, 7, 7, 7, 7, 7, 7]) (List.append [8, 8, 8, 8, 8, 8, 8, 8, 8, 8, 8, 8, 8, 8, 8, 8, 8, 8, 8, 8, 8, 8, 8, 8, 8, 8, 8, 8, 8, 8, 8, 8, 8, 8, 8, 8, 8, 8, 8, 8, 8, 8, 8, 8, 8, 8, 8, 8, 8, 8, 8, 8, 8, 8, 8, 8, 8, 8, 8, 8, 8, 8, 8, 8] [8, 8, 8, 8, 8, 8, 8, 8, 8, 8, 8, 8, 8, 8, 8, 8, 8, 8, 8, 8, 8, 8, 8, 8, 8, 8, 8, 8, 8, 8, 8, 8, 8, 8, 8, 8, 8, 8, 8, 8, 8, 8, 8, 8, 8, 8, 8, 8, 8, 8, 8, 8, 8, 8, 8, 8, 8, 8, 8, 8, 8, 8, 8, 8]))))
theorem len8_tab : ∀ Y : BitVec 8, len8Tab[Y.toNat]? = some (UInt8.ofBitVec (BitVec.ofNat 8 (bitlen Y.toNat))) := by decide +kernel
theorem lenA (Y : BitVec 64) (k : Nat) (h : 2 ^ k ≤ Y.toNat) : bitlen Y.toNat = k + bitlen (Y >>> k).toNat := by
  rw [BitVec.toNat_ushiftRight, Nat.shiftRight_eq_div_pow]
  exact bitlen_shift k h
theorem lenB (Y : BitVec 64) (h : Y.toNat < 256) : (BitVec.ofNat 8 (bitlen (Y.setWidth 8).toNat)).toNat = bitlen Y.toNat := by
  rw [BitVec.toNat_setWidth, Nat.mod_eq_of_lt (by omega), BitVec.toNat_ofNat]
  have := bitlen_lt (k := 8) h
  omega
theorem shr_nat (Y : BitVec 64) (k : Nat) : (Y >>> k).toNat = Y.toNat / 2 ^ k := by rw [BitVec.toNat_ushiftRight, Nat.shiftRight_eq_div_pow]
/-! ### The document's Put -/
/-! ### Of either sign -/
def zigI (x : Int) : BitVec 64 := if 0 ≤ x then BitVec.ofInt 64 (2 * x) else BitVec.ofInt 64 (-2 * x - 1)
theorem ofInt_wrap (p : Int) : BitVec.ofInt 64 (IntKind.i64.wrap p) = BitVec.ofInt 64 p := by
  rw [IntKind.wrap_i64]
  apply BitVec.eq_of_toNat_eq
  simp only [BitVec.toNat_ofInt]
  rw [show ((2 ^ 64 : Nat) : Int) = 18446744073709551616 by rfl]
  omega
theorem zig_eq (p : Int) (h : -9223372036854775808 ≤ p ∧ p ≤ 9223372036854775807) : BitVec.ofInt 64 (IntKind.i64.wrap (p * 2 ^ (min 1 64))) ^^^ BitVec.ofInt 64 (p.fdiv (2 ^ (min 63 64))) = zigI p := by
  rw [ofInt_wrap]
  unfold zigI
  rw [show (2 : Int) ^ (min 1 64) = 2 by decide, show (2 : Int) ^ (min 63 64) = 9223372036854775808 by decide, Int.fdiv_eq_ediv_of_nonneg _ (by omega)]
  split
  · rw [show p / 9223372036854775808 = 0 by omega, Int.mul_comm]
    simp
  · rw [show p / 9223372036854775808 = -1 by omega]
    rw [show BitVec.ofInt 64 (-1) = BitVec.allOnes 64 by decide, BitVec.xor_allOnes]
    apply BitVec.eq_of_toNat_eq
    simp only [BitVec.toNat_not, BitVec.toNat_ofInt]
    omega
end Go.Sx
