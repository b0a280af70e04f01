/- Numbers of as many bytes as they need: plain mathematics. -/
import Derived.Test.YtbioemaipghagaaGreatQSxBasA
set_option linter.unusedVariables false
set_option linter.unusedSimpArgs false
namespace Go.Sx

def bitlen (x : Nat) : Nat := if x = 0 then 0 else Nat.log2 x + 1
theorem bitlen_lt {x k : Nat} (h : x < 2 ^ k) : bitlen x ≤ k := by
  unfold bitlen
  split
  · omega
  · rename_i h0
    have := (Nat.log2_lt h0).2 h
    omega
theorem bitlen_ge {x k : Nat} (h : 2 ^ k ≤ x) : k < bitlen x := by
  unfold bitlen
  have h0 : x ≠ 0 := by have := Nat.two_pow_pos k; omega
  rw [if_neg h0]
  have := (Nat.le_log2 h0).2 h
  omega
theorem bitlen_unique {x k : Nat} (h1 : x < 2 ^ (k + 1)) (h2 : 2 ^ k ≤ x) : bitlen x = k + 1 := by
  have := bitlen_lt h1
  have := bitlen_ge h2
  omega
theorem bitlen_shift {x : Nat} (k : Nat) (h : 2 ^ k ≤ x) : bitlen x = k + bitlen (x / 2 ^ k) := by
  have hp := Nat.two_pow_pos k
  have hq : 1 ≤ x / 2 ^ k := (Nat.le_div_iff_mul_le hp).2 (by omega)
  have h0 : x / 2 ^ k ≠ 0 := by omega
  have hb : bitlen (x / 2 ^ k) = Nat.log2 (x / 2 ^ k) + 1 := by unfold bitlen; rw [if_neg h0]
  have l1 := Nat.log2_self_le h0
  have l2 := Nat.lt_log2_self (n := x / 2 ^ k)
  rw [hb]
  refine (bitlen_unique (k := k + Nat.log2 (x / 2 ^ k)) ?_ ?_).trans (by omega)
  · rw [Nat.add_assoc, Nat.pow_add]
    rw [Nat.mul_comm]
    exact (Nat.div_lt_iff_lt_mul hp).1 l2
  · rw [Nat.pow_add, Nat.mul_comm]
    exact (Nat.le_div_iff_mul_le hp).1 l1
/-- The bytes. -/
def vputF : Nat → Nat → List Byte
  | 0, x => [BitVec.ofNat 8 x]
  | k + 1, x => if x < 128 then [BitVec.ofNat 8 x] else BitVec.ofNat 8 (x % 128 + 128) :: vputF k (x / 128)
def vput (x : Nat) : List Byte := vputF 9 x
def vlen (x : Nat) : Nat := (vput x).length
theorem vputF_more : ∀ (k j x : Nat), x < 128 ^ (k + 1) → vputF (k + j) x = vputF k x
  | 0, 0, x, _ => rfl
  | 0, j + 1, x, h => by rw [Nat.zero_add]; simp only [vputF]; rw [if_pos (by simpa using h)]
  | k + 1, j, x, h => by
    rw [show k + 1 + j = (k + j) + 1 by omega]
    simp only [vputF]
    by_cases hx : x < 128
    · rw [if_pos hx, if_pos hx]
    · rw [if_neg hx, if_neg hx, vputF_more k j (x / 128) (by rw [Nat.div_lt_iff_lt_mul (by omega)]; rw [Nat.pow_succ] at h; exact h)]
theorem vput_small {x : Nat} (h : x < 128) : vput x = [BitVec.ofNat 8 x] := by unfold vput; simp only [vputF]; rw [if_pos h]
theorem vput_step {x : Nat} (h : ¬ x < 128) (hx : x < 2 ^ 64) : vput x = BitVec.ofNat 8 (x % 128 + 128) :: vput (x / 128) := by
  unfold vput
  rw [show (9 : Nat) = 8 + 1 by rfl]
  rw [show vputF (8 + 1) x = BitVec.ofNat 8 (x % 128 + 128) :: vputF 8 (x / 128) by simp only [vputF]; rw [if_neg h]]
  rw [vputF_more 8 1 (x / 128) (by rw [Nat.div_lt_iff_lt_mul (by omega)]; omega)]
theorem vlenF_le : ∀ (k x : Nat), (vputF k x).length ≤ k + 1
  | 0, x => by simp [vputF]
  | k + 1, x => by
    simp only [vputF]
    split
    · simp
    · have := vlenF_le k (x / 128)
      simp; omega
theorem vlen_le (x : Nat) : vlen x ≤ 10 := vlenF_le 9 x
theorem vlen_pos (x : Nat) : 1 ≤ vlen x := by
  unfold vlen vput
  simp only [vputF]
  split <;> simp
theorem vlen_small {x : Nat} (h : x < 128) : vlen x = 1 := by unfold vlen; rw [vput_small h]; rfl
theorem vlen_step {x : Nat} (h : ¬ x < 128) (hx : x < 2 ^ 64) : vlen x = vlen (x / 128) + 1 := by unfold vlen; rw [vput_step h hx]; simp
theorem bitlen_small {x : Nat} (h : x < 128) : bitlen x ≤ 7 := bitlen_lt (k := 7) h
theorem vlen_eq : ∀ (d x : Nat), x < 2 ^ 64 → x ≤ d → vlen x = (max 1 (bitlen x) + 6) / 7 := by
  intro d
  induction d using Nat.strongRecOn with
  | _ d ih =>
    intro x hx hd
    by_cases h : x < 128
    · rw [vlen_small h]
      have := bitlen_small h
      omega
    · have h2 := bitlen_shift (x := x) 7 (by omega)
      rw [show (2 : Nat) ^ 7 = 128 by rfl] at h2
      have h3 : 1 ≤ bitlen (x / 128) := bitlen_ge (k := 0) (by omega)
      rw [vlen_step h hx, ih (x / 128) (by omega) (x / 128) (by omega) (Nat.le_refl _), h2]
      omega
theorem vlen_int (X : BitVec 64) : (max 1 ((bitlen X.toNat : Nat) : Int) + 7 - 1) / 7 = ((vlen X.toNat : Nat) : Int) := by
  rw [vlen_eq X.toNat X.toNat X.isLt (Nat.le_refl _)]
  omega
/-- What the program's loop lays, k bytes of it. -/
def putK (X : BitVec 64) (m : Nat) : Nat → List Byte
  | 0 => List.replicate m 0#8
  | k + 1 => (putK X m k).set k ((X >>> (7 * k)).setWidth 8 ||| 128#8)
theorem length_putK (X : BitVec 64) (m : Nat) : ∀ k, (putK X m k).length = m
  | 0 => by simp [putK]
  | k + 1 => by simp [putK, length_putK X m k]
theorem putK_get (X : BitVec 64) (m : Nat) : ∀ (k i : Nat), i < k → i < m → (putK X m k)[i]? = some ((X >>> (7 * i)).setWidth 8 ||| 128#8)
  | 0, i, h, _ => by omega
  | k + 1, i, h, hm => by
    simp only [putK]
    by_cases e : k = i
    · subst e
      rw [List.getElem?_set_self (by rw [length_putK]; exact hm)]
    · rw [List.getElem?_set_ne e]
      exact putK_get X m k i (by omega) hm
theorem or_128 (c : Byte) : (c ||| 128#8).toNat = c.toNat % 128 + 128 := by
  have : ∀ c : BitVec 8, (c ||| 128#8).toNat = c.toNat % 128 + 128 := by decide +kernel
  exact this c
theorem and_127 (c : Byte) : (c &&& ~~~128#8).toNat = c.toNat % 128 := by
  have : ∀ c : BitVec 8, (c &&& ~~~128#8).toNat = c.toNat % 128 := by decide +kernel
  exact this c
theorem byteAt_toNat (X : BitVec 64) (i : Nat) : ((X >>> (7 * i)).setWidth 8).toNat = X.toNat / 2 ^ (7 * i) % 256 := by
  rw [BitVec.toNat_setWidth, BitVec.toNat_ushiftRight, Nat.shiftRight_eq_div_pow]
theorem vput_get : ∀ (n i x : Nat), vlen x = n → x < 2 ^ 64 → i < n → (vput x)[i]? = some (if i + 1 = n then BitVec.ofNat 8 (x / 128 ^ i) else BitVec.ofNat 8 (x / 128 ^ i % 128 + 128)) := by
  intro n
  induction n with
  | zero => intro i x _ _ h; omega
  | succ n ih =>
    intro i x hn hx hi
    by_cases h : x < 128
    · have h1 := vlen_small h
      have : n = 0 := by omega
      subst this
      have : i = 0 := by omega
      subst this
      rw [vput_small h]
      simp
    · have h1 := vlen_step h hx
      have hpos := vlen_pos (x / 128)
      rw [vput_step h hx]
      cases i with
      | zero =>
        rw [if_neg (by omega)]
        simp
      | succ i =>
        rw [List.getElem?_cons_succ, ih i (x / 128) (by omega) (by omega) (by omega)]
        rw [Nat.div_div_eq_div_mul, show 128 * 128 ^ i = 128 ^ (i + 1) by rw [Nat.pow_succ, Nat.mul_comm]]
        by_cases e : i + 1 = n
        · rw [if_pos e, if_pos (by omega)]
        · rw [if_neg e, if_neg (by omega)]
theorem pow7 (i : Nat) : (2 : Nat) ^ (7 * i) = 128 ^ i := by rw [Nat.pow_mul]
theorem vput_top (n x : Nat) (hn : vlen x = n + 1) (hx : x < 2 ^ 64) : x / 128 ^ n < 128 := by
  induction n generalizing x with
  | zero =>
    by_cases h : x < 128
    · simpa using h
    · have := vlen_step h hx; have := vlen_pos (x / 128); omega
  | succ n ih =>
    by_cases h : x < 128
    · have := vlen_small h; omega
    · have := vlen_step h hx
      have := ih (x / 128) (by omega) (by omega)
      rwa [Nat.div_div_eq_div_mul, show 128 * 128 ^ n = 128 ^ (n + 1) by rw [Nat.pow_succ, Nat.mul_comm]] at this
theorem putEnd (X : BitVec 64) (m : Nat) (hm : vlen X.toNat = m) : (putK X m m).set (m - 1) ((putK X m m).getD (m - 1) 0 &&& ~~~128#8) = vput X.toNat := by
  have hpos := vlen_pos X.toNat
  have hlen : (vput X.toNat).length = m := hm
  apply List.ext_getElem?
  intro i
  by_cases hi : i < m
  · rw [vput_get m i X.toNat hm X.isLt hi]
    by_cases e : m - 1 = i
    · subst e
      rw [List.getElem?_set_self (by rw [length_putK]; exact hi), if_pos (by omega)]
      have hg := putK_get X m m (m - 1) (by omega) hi
      have ht := vput_top (m - 1) X.toNat (by omega) X.isLt
      congr 1
      apply BitVec.eq_of_toNat_eq
      rw [and_127, List.getD_eq_getElem?_getD, hg, Option.getD_some, or_128, byteAt_toNat, pow7, BitVec.toNat_ofNat]
      generalize X.toNat / 128 ^ (m - 1) = q at *
      omega
    · rw [List.getElem?_set_ne e, putK_get X m m i hi hi, if_neg (by omega)]
      congr 1
      apply BitVec.eq_of_toNat_eq
      rw [or_128, byteAt_toNat, pow7, BitVec.toNat_ofNat]
      omega
  · rw [List.getElem?_eq_none (by rw [List.length_set, length_putK]; omega), List.getElem?_eq_none (by omega)]
theorem vlen_lt : ∀ (n x : Nat), 1 ≤ n → x < 2 ^ 64 → x < 128 ^ n → vlen x ≤ n := by
  intro n
  induction n with
  | zero => intro x h; omega
  | succ n ih =>
    intro x h1 hx h
    by_cases hs : x < 128
    · rw [vlen_small hs]; omega
    · have h2 := vlen_step hs hx
      cases n with
      | zero => simp at h; omega
      | succ n =>
        have := ih (x / 128) (by omega) (by omega) (by rw [Nat.div_lt_iff_lt_mul (by omega)]; rw [Nat.pow_succ] at h; exact h)
        omega
/-! ### What is got -/
/-- The number of bytes without their marks. -/
def vval : List Byte → Nat
  | [] => 0
  | c :: l => c.toNat % 128 + 128 * vval l
/-- How many bytes that go on it begins with, at most so many. -/
def vcont : Nat → List Byte → Nat
  | 0, _ => 0
  | _, [] => 0
  | k + 1, c :: l => if 128 ≤ c.toNat then vcont k l + 1 else 0
def vget (b : List Byte) : BitVec 64 × Nat × Nat :=
  if b.length = 0 then (0#64, 0, 5) else if vcont 10 b = 10 then (0#64, 0, 8) else if vcont 10 b = b.length then (0#64, 0, 6)
  else if vcont 10 b = 9 ∧ 1 < (b.getD (vcont 10 b) 0).toNat then (0#64, 0, 8)
  else if (b.getD (vcont 10 b) 0).toNat = 0 ∧ 0 < vcont 10 b then (0#64, 0, 7)
  else (BitVec.ofNat 64 (vval (b.take (vcont 10 b + 1))), vcont 10 b + 1, 0)
theorem vcont_le : ∀ (k : Nat) (b : List Byte), vcont k b ≤ k ∧ vcont k b ≤ b.length
  | 0, b => by simp [vcont]
  | k + 1, [] => by simp [vcont]
  | k + 1, c :: l => by
    have := vcont_le k l
    simp only [vcont]
    split
    · simp; omega
    · simp
theorem vcont_more : ∀ (k i : Nat) (b : List Byte), i ≤ vcont k b → i < k → i < b.length → 128 ≤ (b.getD i 0).toNat → i + 1 ≤ vcont k b
  | 0, i, b, _, h, _, _ => by omega
  | k + 1, i, [], _, _, h, _ => by simp at h
  | k + 1, 0, c :: l, _, _, _, h => by
    simp only [vcont]
    rw [if_pos (by simpa using h)]
    omega
  | k + 1, i + 1, c :: l, h1, h2, h3, h4 => by
    simp only [vcont] at *
    split at h1
    · rename_i hc
      rw [if_pos hc]
      have := vcont_more k i l (by omega) (by omega) (by simpa using h3) (by simpa using h4)
      omega
    · omega
theorem vcont_stop : ∀ (k i : Nat) (b : List Byte), i ≤ vcont k b → i < b.length → (b.getD i 0).toNat < 128 → vcont k b = i
  | 0, i, b, h, _, _ => by simp only [vcont] at *; omega
  | k + 1, i, [], _, h, _ => by simp at h
  | k + 1, 0, c :: l, _, _, h => by
    simp only [vcont]
    rw [if_neg (by have : c.toNat < 128 := (by simpa using h); omega)]
  | k + 1, i + 1, c :: l, h1, h3, h4 => by
    simp only [vcont] at *
    split at h1
    · rename_i hc
      rw [if_pos hc, vcont_stop k i l (by omega) (by simpa using h3) (by simpa using h4)]
    · omega
theorem vval_lt : ∀ (b : List Byte), vval b < 128 ^ b.length
  | [] => by simp [vval]
  | c :: l => by
    have := vval_lt l
    simp only [vval, List.length_cons, Nat.pow_succ]
    omega
theorem vval_append : ∀ (b c : List Byte), vval (b ++ c) = vval b + 128 ^ b.length * vval c
  | [], c => by simp [vval]
  | x :: l, c => by
    simp only [vval, List.cons_append, vval_append l c, List.length_cons, Nat.pow_succ]
    rw [Nat.mul_add, Nat.mul_comm (128 ^ l.length) 128, Nat.mul_assoc]
    omega
theorem vval_take (b : List Byte) (i : Nat) (h : i < b.length) : vval (b.take (i + 1)) = vval (b.take i) + 128 ^ i * ((b.getD i 0).toNat % 128) := by
  rw [List.take_add_one, vval_append]
  have : b[i]?.toList = [b.getD i 0] := by simp [h, List.getD_eq_getElem?_getD]
  rw [this, List.length_take, Nat.min_eq_left (by omega)]
  simp [vval]
/-- One more part, as the loop adds it. -/
theorem vpart (b : List Byte) (i : Nat) (h : i < b.length) (h9 : i ≤ 9) :
    BitVec.ofNat 64 (vval (b.take i)) ||| ((b.getD i 0 &&& ~~~128#8).setWidth 64) <<< (7 * i) = BitVec.ofNat 64 (vval (b.take (i + 1))) := by
  have hl := vval_lt (b.take i)
  rw [List.length_take, Nat.min_eq_left (by omega)] at hl
  have hp : 128 ^ i ≤ 128 ^ 9 := Nat.pow_le_pow_right (by omega) h9
  have hp2 : (128 : Nat) ^ 9 < 2 ^ 64 := by decide
  have hc : (b.getD i 0).toNat % 128 < 128 := Nat.mod_lt _ (by omega)
  rw [vval_take b i h]
  apply BitVec.eq_of_toNat_eq
  rw [BitVec.toNat_or, BitVec.toNat_shiftLeft, BitVec.toNat_setWidth, and_127, BitVec.toNat_ofNat, BitVec.toNat_ofNat]
  rw [Nat.mod_eq_of_lt (by omega : (b.getD i 0).toNat % 128 < 2 ^ 64), Nat.mod_eq_of_lt (by omega : vval (b.take i) < 2 ^ 64)]
  rw [Nat.or_comm, ← pow7] at *
  have e : 2 ^ (7 * i) * ((b.getD i 0).toNat % 128) + vval (b.take i) = ((b.getD i 0).toNat % 128) <<< (7 * i) ||| vval (b.take i) := by
    rw [← Nat.shiftLeft_add_eq_or_of_lt hl, Nat.shiftLeft_eq, Nat.mul_comm]
  rw [Nat.add_comm, e, Nat.or_mod_two_pow, Nat.mod_eq_of_lt (by omega : vval (b.take i) < 2 ^ 64)]
/-- What the loop asks of a part: only the tenth may be too large. -/
theorem vover (c : Byte) (i : Nat) (h9 : i ≤ 9) : ((((c &&& ~~~128#8).setWidth 64) <<< (7 * i)) >>> (7 * i) = (c &&& ~~~128#8).setWidth 64) ↔ ¬ (i = 9 ∧ 1 < c.toNat % 128) := by
  have hc : c.toNat % 128 < 128 := Nat.mod_lt _ (by omega)
  rw [← BitVec.toNat_inj]
  rw [BitVec.toNat_ushiftRight, BitVec.toNat_shiftLeft, BitVec.toNat_setWidth, and_127, Nat.shiftLeft_eq, Nat.shiftRight_eq_div_pow, Nat.mod_eq_of_lt (by omega : c.toNat % 128 < 2 ^ 64)]
  generalize c.toNat % 128 = q at *
  by_cases e : i = 9
  · subst e
    rw [show (7 * 9) = 63 by rfl]
    omega
  · have h1 : q * 2 ^ (7 * i) < 2 ^ 64 := by
      have : 2 ^ (7 * i) ≤ 2 ^ (7 * 8) := Nat.pow_le_pow_right (by omega) (by omega)
      rw [show 7 * 8 = 56 by rfl] at this
      have : q * 2 ^ (7 * i) ≤ 127 * 2 ^ 56 := Nat.mul_le_mul (by omega) this
      omega
    rw [Nat.mod_eq_of_lt h1, Nat.mul_div_cancel _ (Nat.two_pow_pos _)]
    simp [e]
theorem vget_nil {b : List Byte} (h : b.length = 0) : vget b = (0#64, 0, 5) := by unfold vget; rw [if_pos h]
theorem vget_over {b : List Byte} {i : Nat} (h1 : i ≤ vcont 10 b) (hi : i < b.length) (h9 : i ≤ 9) (hc : (b.getD i 0).toNat < 128) (ho : ¬ ((((b.getD i 0 &&& ~~~128#8).setWidth 64) <<< (7 * i)) >>> (7 * i) = (b.getD i 0 &&& ~~~128#8).setWidth 64)) : vget b = (0#64, 0, 8) := by
  rw [vover _ _ h9] at ho
  have hn := vcont_stop 10 i b h1 hi hc
  unfold vget
  rw [if_neg (by omega), hn, if_neg (by omega), if_neg (by omega), if_pos (by omega)]
theorem vget_long {b : List Byte} {i : Nat} (h1 : i ≤ vcont 10 b) (hi : i < b.length) (h9 : i ≤ 9) (hi0 : 0 < i) (h0 : (b.getD i 0).toNat = 0) : vget b = (0#64, 0, 7) := by
  have hn := vcont_stop 10 i b h1 hi (by omega)
  unfold vget
  rw [if_neg (by omega), hn, if_neg (by omega), if_neg (by omega), if_neg (by omega), if_pos (by omega)]
theorem vget_one {b : List Byte} {i : Nat} (h1 : i ≤ vcont 10 b) (hi : i < b.length) (h9 : i ≤ 9) (hc : (b.getD i 0).toNat < 128) (hov : (((b.getD i 0 &&& ~~~128#8).setWidth 64) <<< (7 * i)) >>> (7 * i) = (b.getD i 0 &&& ~~~128#8).setWidth 64) (h0 : ¬ ((b.getD i 0).toNat = 0 ∧ 0 < i)) : vget b = (BitVec.ofNat 64 (vval (b.take (i + 1))), i + 1, 0) := by
  rw [vover _ _ h9] at hov
  have hn := vcont_stop 10 i b h1 hi hc
  unfold vget
  rw [if_neg (by omega), hn, if_neg (by omega), if_neg (by omega), if_neg (by omega), if_neg (by omega)]
theorem vget_more {b : List Byte} (h1 : 10 ≤ vcont 10 b) : vget b = (0#64, 0, 8) := by
  have := vcont_le 10 b
  unfold vget
  rw [if_neg (by omega), if_pos (by omega)]
theorem vget_short {b : List Byte} (h0 : 0 < b.length) (h1 : b.length ≤ vcont 10 b) (hl : b.length < 10) : vget b = (0#64, 0, 6) := by
  have := vcont_le 10 b
  unfold vget
  rw [if_neg (by omega), if_neg (by omega), if_pos (by omega)]
/-! ### The document's own way -/
/-! ### There and back -/
theorem vcont_put : ∀ (n k x : Nat) (r : List Byte), vlen x = n + 1 → x < 2 ^ 64 → n ≤ k → (n < k ∨ r = []) → vcont k (vput x ++ r) = n := by
  intro n
  induction n with
  | zero =>
    intro k x r hn hx hk hr
    have h : x < 128 := by
      apply Classical.byContradiction
      intro h
      have := vlen_step h hx; have := vlen_pos (x / 128); omega
    rw [vput_small h]
    cases k with
    | zero => rfl
    | succ k =>
      simp only [List.singleton_append, vcont]
      rw [if_neg]
      rw [BitVec.toNat_ofNat]
      omega
  | succ n ih =>
    intro k x r hn hx hk hr
    have h : ¬ x < 128 := by intro h; have := vlen_small h; omega
    have h1 := vlen_step h hx
    rw [vput_step h hx]
    cases k with
    | zero => omega
    | succ k =>
      simp only [List.cons_append, vcont]
      rw [if_pos (by rw [BitVec.toNat_ofNat]; omega), ih k (x / 128) r (by omega) (by omega) (by omega) (hr.imp (by omega) id)]
theorem vval_put : ∀ (n x : Nat), vlen x = n → x < 2 ^ 64 → vval (vput x) = x := by
  intro n
  induction n with
  | zero => intro x hn; have := vlen_pos x; omega
  | succ n ih =>
    intro x hn hx
    by_cases h : x < 128
    · rw [vput_small h]
      simp only [vval, BitVec.toNat_ofNat]
      omega
    · have h1 := vlen_step h hx
      rw [vput_step h hx]
      simp only [vval, BitVec.toNat_ofNat]
      rw [ih (x / 128) (by omega) (by omega)]
      omega
theorem vget_put (X : BitVec 64) (r : List Byte) : vget (vput X.toNat ++ r) = (X, vlen X.toNat, 0) := by
  have hx := X.isLt
  have hp := vlen_pos X.toNat
  have hle := vlen_le X.toNat
  have hl : (vput X.toNat).length = vlen X.toNat := rfl
  have hn := vcont_put (vlen X.toNat - 1) 10 X.toNat r (by omega) hx (by omega) (by omega)
  have ht := vput_top (vlen X.toNat - 1) X.toNat (by omega) hx
  have hg := vput_get (vlen X.toNat) (vlen X.toNat - 1) X.toNat rfl hx (by omega)
  rw [if_pos (by omega)] at hg
  have hd : (vput X.toNat ++ r).getD (vlen X.toNat - 1) 0 = BitVec.ofNat 8 (X.toNat / 128 ^ (vlen X.toNat - 1)) := by
    rw [List.getD_eq_getElem?_getD, List.getElem?_append_left (by omega), hg]
    rfl
  have hdn : ((vput X.toNat ++ r).getD (vlen X.toNat - 1) 0).toNat = X.toNat / 128 ^ (vlen X.toNat - 1) := by
    rw [hd, BitVec.toNat_ofNat]
    generalize X.toNat / 128 ^ (vlen X.toNat - 1) = q at *
    omega
  have h9 : vlen X.toNat - 1 = 9 → ¬ 1 < X.toNat / 128 ^ (vlen X.toNat - 1) := by
    intro e
    rw [e, show (128 : Nat) ^ 9 = 9223372036854775808 by rfl]
    omega
  have h0 : 0 < vlen X.toNat - 1 → ¬ X.toNat / 128 ^ (vlen X.toNat - 1) = 0 := by
    intro h0 e
    have := Nat.div_eq_zero_iff.1 e
    rcases this with h | h
    · have := Nat.pos_of_ne_zero (n := 128 ^ (vlen X.toNat - 1)) (by intro h; have := Nat.pow_eq_zero.1 h; omega); omega
    · have := vlen_lt (vlen X.toNat - 1) X.toNat (by omega) hx h
      omega
  unfold vget
  have hla : (vput X.toNat ++ r).length = vlen X.toNat + r.length := by rw [List.length_append, hl]
  rw [if_neg (by omega), hn, if_neg (by omega), if_neg (by omega), hdn, if_neg (fun h => h9 h.1 h.2), if_neg (fun h => h0 h.2 h.1), show vlen X.toNat - 1 + 1 = vlen X.toNat by omega]
  rw [← hl, List.take_left', vval_put _ _ rfl hx]
  · simp
  · rfl
theorem vget_part (X : BitVec 64) (i : Nat) (h1 : 1 ≤ i) (h2 : i < vlen X.toNat) : vget ((vput X.toNat).take i) = (0#64, 0, 6) := by
  have hle := vlen_le X.toNat
  have hl : (vput X.toNat).length = vlen X.toNat := rfl
  refine vget_short (by simp; omega) ?_ (by simp; omega)
  have : ∀ j, j ≤ i → j ≤ vcont 10 ((vput X.toNat).take i) := by
    intro j
    induction j with
    | zero => intro _; omega
    | succ j ih =>
      intro hj
      refine vcont_more 10 j _ (ih (by omega)) (by omega) (by simp; omega) ?_
      have hg := vput_get (vlen X.toNat) j X.toNat rfl X.isLt (by omega)
      rw [if_neg (by omega)] at hg
      rw [List.getD_eq_getElem?_getD, List.getElem?_take_of_lt (by omega), hg, Option.getD_some, BitVec.toNat_ofNat]
      omega
  have := this i (Nat.le_refl _)
  simp; omega
theorem vput_val : ∀ (n : Nat) (b : List Byte), n < b.length → (∀ j, j < n → 128 ≤ (b.getD j 0).toNat) → (b.getD n 0).toNat < 128 → ¬ ((b.getD n 0).toNat = 0 ∧ 0 < n) → vval (b.take (n + 1)) < 2 ^ 64 → vput (vval (b.take (n + 1))) = b.take (n + 1) ∧ ((b.getD n 0).toNat ≠ 0 → vval (b.take (n + 1)) ≠ 0) := by
  intro n
  induction n with
  | zero =>
    intro b hb _ hc _ _
    cases b with
    | nil => simp at hb
    | cons c l =>
      have hc' : c.toNat < 128 := by simpa using hc
      simp only [Nat.zero_add, List.take_succ_cons, List.take_zero, vval, Nat.mul_zero, Nat.add_zero]
      rw [Nat.mod_eq_of_lt hc', vput_small hc']
      simp
  | succ n ih =>
    intro b hb hj hc h0 hv
    cases b with
    | nil => simp at hb
    | cons c l =>
      have hc0 : 128 ≤ c.toNat := by simpa using hj 0 (by omega)
      simp only [List.take_succ_cons, vval] at hv ⊢
      simp only [List.getD_cons_succ] at hc h0
      have := ih l (by simpa using hb) (fun j h => by simpa using hj (j + 1) (by omega)) hc (by omega) (by omega)
      have hnz := this.2 (by omega)
      refine ⟨?_, fun _ => by omega⟩
      rw [vput_step (by omega) hv]
      congr 1
      · apply BitVec.eq_of_toNat_eq
        have := c.isLt
        rw [BitVec.toNat_ofNat]
        omega
      · rw [show (c.toNat % 128 + 128 * vval (l.take (n + 1))) / 128 = vval (l.take (n + 1)) by omega]
        exact this.1
theorem vcont_all : ∀ (k : Nat) (b : List Byte) (j : Nat), j < vcont k b → 128 ≤ (b.getD j 0).toNat
  | 0, b, j, h => by simp [vcont] at h
  | k + 1, [], j, h => by simp [vcont] at h
  | k + 1, c :: l, j, h => by
    simp only [vcont] at h
    split at h
    · cases j with
      | zero => simpa
      | succ j => simpa using vcont_all k l j (by omega)
    · omega
theorem vcont_next : ∀ (k : Nat) (b : List Byte), vcont k b < k → vcont k b < b.length → (b.getD (vcont k b) 0).toNat < 128
  | 0, b, h, _ => by omega
  | k + 1, [], _, h => by simp at h
  | k + 1, c :: l, h1, h2 => by
    simp only [vcont] at *
    split
    · rename_i hc
      rw [if_pos hc] at h1 h2
      simpa using vcont_next k l (by omega) (by simpa using h2)
    · simp; omega
/-- What was got is put again so. -/
theorem vput_get_back {b : List Byte} {z : BitVec 64} {k : Nat} (h : vget b = (z, k, 0)) : 1 ≤ k ∧ k ≤ b.length ∧ vput z.toNat = b.take k := by
  have hle := vcont_le 10 b
  unfold vget at h
  split at h
  · simp at h
  split at h
  · simp at h
  split at h
  · simp at h
  split at h
  · simp at h
  split at h
  · simp at h
  rename_i h1 h2 h3 h4 h5
  simp only [Prod.mk.injEq] at h
  obtain ⟨rfl, rfl, _⟩ := h
  have hn := vcont_next 10 b (by omega) (by omega)
  have hv : vval (b.take (vcont 10 b + 1)) < 2 ^ 64 := by
    by_cases e : vcont 10 b = 9
    · rw [vval_take b _ (by omega)]
      have := vval_lt (b.take (vcont 10 b))
      rw [List.length_take, Nat.min_eq_left (by omega)] at this
      rw [e] at this hn h4 ⊢
      rw [show (128 : Nat) ^ 9 = 9223372036854775808 by rfl] at *
      omega
    · have := vval_lt (b.take (vcont 10 b + 1))
      rw [List.length_take, Nat.min_eq_left (by omega)] at this
      have : (128 : Nat) ^ (vcont 10 b + 1) ≤ 128 ^ 9 := Nat.pow_le_pow_right (by omega) (by omega)
      rw [show (128 : Nat) ^ 9 = 9223372036854775808 by rfl] at this
      omega
  refine ⟨by omega, by omega, ?_⟩
  rw [BitVec.toNat_ofNat, Nat.mod_eq_of_lt hv]
  exact (vput_val (vcont 10 b) b (by omega) (fun j hj => vcont_all 10 b j hj) hn h5 hv).1

/-! ### How long a number is -/
def len8Tab : ByteArray := (ByteArray.mk (List.toArray (List.append (List.append [0, 1, 2, 2, 3, 3, 3, 3, 4, 4, 4, 4, 4, 4, 4, 4, 5, 5, 5, 5, 5, 5, 5, 5, 5, 5, 5, 5, 5, 5, 5, 5, 6, 6, 6, 6, 6, 6, 6, 6, 6, 6, 6, 6, 6, 6, 6, 6, 6, 6, 6, 6, 6, 6, 6, 6, 6, 6, 6, 6, 6, 6, 6, 6] [7, 7, 7, 7, 7, 7, 7, 7, 7, 7, 7, 7, 7, 7, 7, 7, 7, 7, 7, 7, 7, 7, 7, 7, 7, 7, 7, 7, 7, 7, 7, 7, 7, 7, 7, 7, 7, 7, 7, 7, 7, 7, 7, 7, 7, 7, 7, 7, 7, 7, 7, 7, 7, 7, 7, 7, 7, 7, 7, 7, 7, 7, 7, 7]) (List.append [8, 8, 8, 8, 8, 8, 8, 8, 8, 8, 8, 8, 8, 8, 8, 8, 8, 8, 8, 8, 8, 8, 8, 8, 8, 8, 8, 8, 8, 8, 8, 8, 8, 8, 8, 8, 8, 8, 8, 8, 8, 8, 8, 8, 8, 8, 8, 8, 8, 8, 8, 8, 8, 8, 8, 8, 8, 8, 8, 8, 8, 8, 8, 8] [8, 8, 8, 8, 8, 8, 8, 8, 8, 8, 8, 8, 8, 8, 8, 8, 8, 8, 8, 8, 8, 8, 8, 8, 8, 8, 8, 8, 8, 8, 8, 8, 8, 8, 8, 8, 8, 8, 8, 8, 8, 8, 8, 8, 8, 8, 8, 8, 8, 8, 8, 8, 8, 8, 8, 8, 8, 8, 8, 8, 8, 8, 8, 8]))))
theorem len8_tab : ∀ Y : BitVec 8, len8Tab[Y.toNat]? = some (UInt8.ofBitVec (BitVec.ofNat 8 (bitlen Y.toNat))) := by decide +kernel
theorem lenA (Y : BitVec 64) (k : Nat) (h : 2 ^ k ≤ Y.toNat) : bitlen Y.toNat = k + bitlen (Y >>> k).toNat := by
  rw [BitVec.toNat_ushiftRight, Nat.shiftRight_eq_div_pow]
  exact bitlen_shift k h
theorem lenB (Y : BitVec 64) (h : Y.toNat < 256) : (BitVec.ofNat 8 (bitlen (Y.setWidth 8).toNat)).toNat = bitlen Y.toNat := by
  rw [BitVec.toNat_setWidth, Nat.mod_eq_of_lt (by omega), BitVec.toNat_ofNat]
  have := bitlen_lt (k := 8) h
  omega
theorem shr_nat (Y : BitVec 64) (k : Nat) : (Y >>> k).toNat = Y.toNat / 2 ^ k := by rw [BitVec.toNat_ushiftRight, Nat.shiftRight_eq_div_pow]
/-! ### The document's Put -/
/-! ### Of either sign -/
def zigI (x : Int) : BitVec 64 := if 0 ≤ x then BitVec.ofInt 64 (2 * x) else BitVec.ofInt 64 (-2 * x - 1)
def zagI (X : BitVec 64) : Int := if X.toNat % 2 = 0 then ((X.toNat / 2 : Nat) : Int) else -((X.toNat / 2 : Nat) : Int) - 1
theorem ofInt_wrap (p : Int) : BitVec.ofInt 64 (IntKind.i64.wrap p) = BitVec.ofInt 64 p := by
  rw [IntKind.wrap_i64]
  apply BitVec.eq_of_toNat_eq
  simp only [BitVec.toNat_ofInt]
  rw [show ((2 ^ 64 : Nat) : Int) = 18446744073709551616 by rfl]
  omega
theorem zig_eq (p : Int) (h : -9223372036854775808 ≤ p ∧ p ≤ 9223372036854775807) : BitVec.ofInt 64 (IntKind.i64.wrap (p * 2 ^ (min 1 64))) ^^^ BitVec.ofInt 64 (p.fdiv (2 ^ (min 63 64))) = zigI p := by
  rw [ofInt_wrap]
  unfold zigI
  rw [show (2 : Int) ^ (min 1 64) = 2 by decide, show (2 : Int) ^ (min 63 64) = 9223372036854775808 by decide, Int.fdiv_eq_ediv_of_nonneg _ (by omega)]
  split
  · rw [show p / 9223372036854775808 = 0 by omega, Int.mul_comm]
    simp
  · rw [show p / 9223372036854775808 = -1 by omega]
    rw [show BitVec.ofInt 64 (-1) = BitVec.allOnes 64 by decide, BitVec.xor_allOnes]
    apply BitVec.eq_of_toNat_eq
    simp only [BitVec.toNat_not, BitVec.toNat_ofInt]
    omega
theorem and_1 (X : BitVec 64) : (X &&& 1#64).toInt = ((X.toNat % 2 : Nat) : Int) := by
  rw [BitVec.toInt_eq_toNat_cond, BitVec.toNat_and]
  simp [Nat.and_one_is_mod]
  omega
theorem zag_eq (X : BitVec 64) : (BitVec.ofInt 64 (X >>> 1).toInt ^^^ BitVec.ofInt 64 (-(X &&& 1#64).toInt)).toInt = zagI X := by
  rw [and_1, BitVec.ofInt_toInt]
  have hx := X.isLt
  unfold zagI
  split
  · rename_i h
    rw [h]
    simp only [Int.natCast_zero, Int.neg_zero]
    rw [show BitVec.ofInt 64 0 = 0#64 by decide, BitVec.xor_zero, BitVec.toInt_eq_toNat_cond, shr_nat]
    rw [Nat.pow_one]
    split <;> omega
  · rename_i h
    rw [show X.toNat % 2 = 1 by omega]
    rw [show BitVec.ofInt 64 (-((1 : Nat) : Int)) = BitVec.allOnes 64 by decide, BitVec.xor_allOnes, BitVec.toInt_eq_toNat_cond, BitVec.toNat_not, shr_nat]
    rw [Nat.pow_one]
    split <;> omega
theorem zag_range (X : BitVec 64) : -9223372036854775808 ≤ zagI X ∧ zagI X ≤ 9223372036854775807 := by
  have hx := X.isLt
  unfold zagI
  split <;> omega
theorem zag_zig (p : Int) (h : -9223372036854775808 ≤ p ∧ p ≤ 9223372036854775807) : zagI (zigI p) = p := by
  unfold zigI
  split
  · unfold zagI
    rw [BitVec.toNat_ofInt]
    split <;> omega
  · unfold zagI
    rw [BitVec.toNat_ofInt]
    split <;> omega
theorem vget_back_part {b : List Byte} (h : (vget b).2.2 = 0) : 1 ≤ (vget b).2.1 ∧ (vget b).2.1 ≤ b.length ∧ vput (vget b).1.toNat = b.take (vget b).2.1 :=
  vput_get_back (z := (vget b).1) (k := (vget b).2.1) (by rw [← h])
end Go.Sx
