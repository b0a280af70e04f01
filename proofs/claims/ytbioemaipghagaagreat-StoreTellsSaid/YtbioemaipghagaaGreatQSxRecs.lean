/- Texts of the small logic, one behind the other: SxPvar, SxPrd, SxPrec, SxPrecR, SxPent, SxRrd, SxPrecL, SxPrecM, SxPrecB. -/
import Derived.Test.YtbioemaipghagaaGreatQSxBasA
import Derived.Test.YtbioemaipghagaaGreatQSxBasB
set_option linter.unusedVariables false
set_option linter.unusedSimpArgs false
namespace Go.Sx

def bitlen (x : Nat) : Nat := if x = 0 then 0 else Nat.log2 x + 1
theorem bitlen_lt {x k : Nat} (h : x < 2 ^ k) : bitlen x ≤ k := by
 unfold bitlen
 split
 · omega
 · rename_i h0
   have := (Nat.log2_lt h0).2 h
   omega
theorem bitlen_ge {x k : Nat} (h : 2 ^ k ≤ x) : k < bitlen x := by
 unfold bitlen
 have h0 : x ≠ 0 := by have := Nat.two_pow_pos k; omega
 rw [if_neg h0]
 have := (Nat.le_log2 h0).2 h
 omega
theorem bitlen_unique {x k : Nat} (h1 : x < 2 ^ (k + 1)) (h2 : 2 ^ k ≤ x) : bitlen x = k + 1 := by
 have := bitlen_lt h1
 have := bitlen_ge h2
 omega
theorem bitlen_shift {x : Nat} (k : Nat) (h : 2 ^ k ≤ x) : bitlen x = k + bitlen (x / 2 ^ k) := by
 have hp := Nat.two_pow_pos k
 have hq : 1 ≤ x / 2 ^ k := (Nat.le_div_iff_mul_le hp).2 (by omega)
 have h0 : x / 2 ^ k ≠ 0 := by omega
 have hb : bitlen (x / 2 ^ k) = Nat.log2 (x / 2 ^ k) + 1 := by unfold bitlen; rw [if_neg h0]
 have l1 := Nat.log2_self_le h0
 have l2 := Nat.lt_log2_self (n := x / 2 ^ k)
 rw [hb]
 refine (bitlen_unique (k := k + Nat.log2 (x / 2 ^ k)) ?_ ?_).trans (by omega)
 · rw [Nat.add_assoc, Nat.pow_add]
   rw [Nat.mul_comm]
   exact (Nat.div_lt_iff_lt_mul hp).1 l2
 · rw [Nat.pow_add, Nat.mul_comm]
   exact (Nat.le_div_iff_mul_le hp).1 l1
def vputF : Nat → Nat → List Byte
 | 0, x => [BitVec.ofNat 8 x]
 | k + 1, x => if x < 128 then [BitVec.ofNat 8 x] else BitVec.ofNat 8 (x % 128 + 128) :: vputF k (x / 128)
def vput (x : Nat) : List Byte := vputF 9 x
def vlen (x : Nat) : Nat := (vput x).length
theorem vputF_more : ∀ (k j x : Nat), x < 128 ^ (k + 1) → vputF (k + j) x = vputF k x
 | 0, 0, x, _ => rfl
 | 0, j + 1, x, h => by rw [Nat.zero_add]; simp only [vputF]; rw [if_pos (by simpa using h)]
 | k + 1, j, x, h => by
   rw [show k + 1 + j = (k + j) + 1 by omega]
   simp only [vputF]
   by_cases hx : x < 128
   · rw [if_pos hx, if_pos hx]
   · rw [if_neg hx, if_neg hx, vputF_more k j (x / 128) (by rw [Nat.div_lt_iff_lt_mul (by omega)]; rw [Nat.pow_succ] at h; exact h)]
theorem vput_small {x : Nat} (h : x < 128) : vput x = [BitVec.ofNat 8 x] := by unfold vput; simp only [vputF]; rw [if_pos h]
theorem vput_step {x : Nat} (h : ¬ x < 128) (hx : x < 2 ^ 64) : vput x = BitVec.ofNat 8 (x % 128 + 128) :: vput (x / 128) := by
 unfold vput
 rw [show (9 : Nat) = 8 + 1 by rfl]
 rw [show vputF (8 + 1) x = BitVec.ofNat 8 (x % 128 + 128) :: vputF 8 (x / 128) by simp only [vputF]; rw [if_neg h]]
 rw [vputF_more 8 1 (x / 128) (by rw [Nat.div_lt_iff_lt_mul (by omega)]; omega)]
theorem vlenF_le : ∀ (k x : Nat), (vputF k x).length ≤ k + 1
 | 0, x => by simp [vputF]
 | k + 1, x => by
   simp only [vputF]
   split
   · simp
   · have := vlenF_le k (x / 128)
     simp; omega
theorem vlen_le (x : Nat) : vlen x ≤ 10 := vlenF_le 9 x
theorem vlen_pos (x : Nat) : 1 ≤ vlen x := by
 unfold vlen vput
 simp only [vputF]
 split <;> simp
theorem vlen_small {x : Nat} (h : x < 128) : vlen x = 1 := by unfold vlen; rw [vput_small h]; rfl
theorem vlen_step {x : Nat} (h : ¬ x < 128) (hx : x < 2 ^ 64) : vlen x = vlen (x / 128) + 1 := by unfold vlen; rw [vput_step h hx]; simp
theorem bitlen_small {x : Nat} (h : x < 128) : bitlen x ≤ 7 := bitlen_lt (k := 7) h
theorem vlen_eq : ∀ (d x : Nat), x < 2 ^ 64 → x ≤ d → vlen x = (max 1 (bitlen x) + 6) / 7 := by
 intro d
 induction d using Nat.strongRecOn with
 | _ d ih =>
   intro x hx hd
   by_cases h : x < 128
   · rw [vlen_small h]
     have := bitlen_small h
     omega
   · have h2 := bitlen_shift (x := x) 7 (by omega)
     rw [show (2 : Nat) ^ 7 = 128 by rfl] at h2
     have h3 : 1 ≤ bitlen (x / 128) := bitlen_ge (k := 0) (by omega)
     rw [vlen_step h hx, ih (x / 128) (by omega) (x / 128) (by omega) (Nat.le_refl _), h2]
     omega
theorem vlen_int (X : BitVec 64) : (max 1 ((bitlen X.toNat : Nat) : Int) + 7 - 1) / 7 = ((vlen X.toNat : Nat) : Int) := by
 rw [vlen_eq X.toNat X.toNat X.isLt (Nat.le_refl _)]
 omega
def putK (X : BitVec 64) (m : Nat) : Nat → List Byte
 | 0 => List.replicate m 0#8
 | k + 1 => (putK X m k).set k ((X >>> (7 * k)).setWidth 8 ||| 128#8)
theorem length_putK (X : BitVec 64) (m : Nat) : ∀ k, (putK X m k).length = m
 | 0 => by simp [putK]
 | k + 1 => by simp [putK, length_putK X m k]
theorem putK_get (X : BitVec 64) (m : Nat) : ∀ (k i : Nat), i < k → i < m → (putK X m k)[i]? = some ((X >>> (7 * i)).setWidth 8 ||| 128#8)
 | 0, i, h, _ => by omega
 | k + 1, i, h, hm => by
   simp only [putK]
   by_cases e : k = i
   · subst e
     rw [List.getElem?_set_self (by rw [length_putK]; exact hm)]
   · rw [List.getElem?_set_ne e]
     exact putK_get X m k i (by omega) hm
theorem or_128 (c : Byte) : (c ||| 128#8).toNat = c.toNat % 128 + 128 := by
 have : ∀ c : BitVec 8, (c ||| 128#8).toNat = c.toNat % 128 + 128 := by decide +kernel
 exact this c
theorem and_127 (c : Byte) : (c &&& ~~~128#8).toNat = c.toNat % 128 := by
 have : ∀ c : BitVec 8, (c &&& ~~~128#8).toNat = c.toNat % 128 := by decide +kernel
 exact this c
theorem byteAt_toNat (X : BitVec 64) (i : Nat) : ((X >>> (7 * i)).setWidth 8).toNat = X.toNat / 2 ^ (7 * i) % 256 := by
 rw [BitVec.toNat_setWidth, BitVec.toNat_ushiftRight, Nat.shiftRight_eq_div_pow]
theorem vput_get : ∀ (n i x : Nat), vlen x = n → x < 2 ^ 64 → i < n → (vput x)[i]? = some (if i + 1 = n then BitVec.ofNat 8 (x / 128 ^ i) else BitVec.ofNat 8 (x / 128 ^ i % 128 + 128)) := by
 intro n
 induction n with
 | zero => intro i x _ _ h; omega
 | succ n ih =>
   intro i x hn hx hi
   by_cases h : x < 128
   · have h1 := vlen_small h
     have : n = 0 := by omega
     subst this
     have : i = 0 := by omega
     subst this
     rw [vput_small h]
     simp
   · have h1 := vlen_step h hx
     have hpos := vlen_pos (x / 128)
     rw [vput_step h hx]
     cases i with
     | zero =>
       rw [if_neg (by omega)]
       simp
     | succ i =>
       rw [List.getElem?_cons_succ, ih i (x / 128) (by omega) (by omega) (by omega)]
       rw [Nat.div_div_eq_div_mul, show 128 * 128 ^ i = 128 ^ (i + 1) by rw [Nat.pow_succ, Nat.mul_comm]]
       by_cases e : i + 1 = n
       · rw [if_pos e, if_pos (by omega)]
       · rw [if_neg e, if_neg (by omega)]
theorem pow7 (i : Nat) : (2 : Nat) ^ (7 * i) = 128 ^ i := by rw [Nat.pow_mul]
theorem vput_top (n x : Nat) (hn : vlen x = n + 1) (hx : x < 2 ^ 64) : x / 128 ^ n < 128 := by
 induction n generalizing x with
 | zero =>
   by_cases h : x < 128
   · simpa using h
   · have := vlen_step h hx; have := vlen_pos (x / 128); omega
 | succ n ih =>
   by_cases h : x < 128
   · have := vlen_small h; omega
   · have := vlen_step h hx
     have := ih (x / 128) (by omega) (by omega)
     rwa [Nat.div_div_eq_div_mul, show 128 * 128 ^ n = 128 ^ (n + 1) by rw [Nat.pow_succ, Nat.mul_comm]] at this
theorem putEnd (X : BitVec 64) (m : Nat) (hm : vlen X.toNat = m) : (putK X m m).set (m - 1) ((putK X m m).getD (m - 1) 0 &&& ~~~128#8) = vput X.toNat := by
 have hpos := vlen_pos X.toNat
 have hlen : (vput X.toNat).length = m := hm
 apply List.ext_getElem?
 intro i
 by_cases hi : i < m
 · rw [vput_get m i X.toNat hm X.isLt hi]
   by_cases e : m - 1 = i
   · subst e
     rw [List.getElem?_set_self (by rw [length_putK]; exact hi), if_pos (by omega)]
     have hg := putK_get X m m (m - 1) (by omega) hi
     have ht := vput_top (m - 1) X.toNat (by omega) X.isLt
     congr 1
     apply BitVec.eq_of_toNat_eq
     rw [and_127, List.getD_eq_getElem?_getD, hg, Option.getD_some, or_128, byteAt_toNat, pow7, BitVec.toNat_ofNat]
     generalize X.toNat / 128 ^ (m - 1) = q at *
     omega
   · rw [List.getElem?_set_ne e, putK_get X m m i hi hi, if_neg (by omega)]
     congr 1
     apply BitVec.eq_of_toNat_eq
     rw [or_128, byteAt_toNat, pow7, BitVec.toNat_ofNat]
     omega
 · rw [List.getElem?_eq_none (by rw [List.length_set, length_putK]; omega), List.getElem?_eq_none (by omega)]
theorem vlen_lt : ∀ (n x : Nat), 1 ≤ n → x < 2 ^ 64 → x < 128 ^ n → vlen x ≤ n := by
 intro n
 induction n with
 | zero => intro x h; omega
 | succ n ih =>
   intro x h1 hx h
   by_cases hs : x < 128
   · rw [vlen_small hs]; omega
   · have h2 := vlen_step hs hx
     cases n with
     | zero => simp at h; omega
     | succ n =>
       have := ih (x / 128) (by omega) (by omega) (by rw [Nat.div_lt_iff_lt_mul (by omega)]; rw [Nat.pow_succ] at h; exact h)
       omega
/-! ### What is got -/
def vval : List Byte → Nat
 | [] => 0
 | c :: l => c.toNat % 128 + 128 * vval l
def vcont : Nat → List Byte → Nat
 | 0, _ => 0
 | _, [] => 0
 | k + 1, c :: l => if 128 ≤ c.toNat then vcont k l + 1 else 0
def vget (b : List Byte) : BitVec 64 × Nat × Nat :=
 if b.length = 0 then (0#64, 0, 5) else if vcont 10 b = 10 then (0#64, 0, 8) else if vcont 10 b = b.length then (0#64, 0, 6)
 else if vcont 10 b = 9 ∧ 1 < (b.getD (vcont 10 b) 0).toNat then (0#64, 0, 8)
 else if (b.getD (vcont 10 b) 0).toNat = 0 ∧ 0 < vcont 10 b then (0#64, 0, 7)
 else (BitVec.ofNat 64 (vval (b.take (vcont 10 b + 1))), vcont 10 b + 1, 0)
theorem vcont_le : ∀ (k : Nat) (b : List Byte), vcont k b ≤ k ∧ vcont k b ≤ b.length
 | 0, b => by simp [vcont]
 | k + 1, [] => by simp [vcont]
 | k + 1, c :: l => by
   have := vcont_le k l
   simp only [vcont]
   split
   · simp; omega
   · simp
theorem vcont_more : ∀ (k i : Nat) (b : List Byte), i ≤ vcont k b → i < k → i < b.length → 128 ≤ (b.getD i 0).toNat → i + 1 ≤ vcont k b
 | 0, i, b, _, h, _, _ => by omega
 | k + 1, i, [], _, _, h, _ => by simp at h
 | k + 1, 0, c :: l, _, _, _, h => by
   simp only [vcont]
   rw [if_pos (by simpa using h)]
   omega
 | k + 1, i + 1, c :: l, h1, h2, h3, h4 => by
   simp only [vcont] at *
   split at h1
   · rename_i hc
     rw [if_pos hc]
     have := vcont_more k i l (by omega) (by omega) (by simpa using h3) (by simpa using h4)
     omega
   · omega
theorem vcont_stop : ∀ (k i : Nat) (b : List Byte), i ≤ vcont k b → i < b.length → (b.getD i 0).toNat < 128 → vcont k b = i
 | 0, i, b, h, _, _ => by simp only [vcont] at *; omega
 | k + 1, i, [], _, h, _ => by simp at h
 | k + 1, 0, c :: l, _, _, h => by
   simp only [vcont]
   rw [if_neg (by have : c.toNat < 128 := (by simpa using h); omega)]
 | k + 1, i + 1, c :: l, h1, h3, h4 => by
   simp only [vcont] at *
   split at h1
   · rename_i hc
     rw [if_pos hc, vcont_stop k i l (by omega) (by simpa using h3) (by simpa using h4)]
   · omega
theorem vval_lt : ∀ (b : List Byte), vval b < 128 ^ b.length
 | [] => by simp [vval]
 | c :: l => by
   have := vval_lt l
   simp only [vval, List.length_cons, Nat.pow_succ]
   omega
theorem vval_append : ∀ (b c : List Byte), vval (b ++ c) = vval b + 128 ^ b.length * vval c
 | [], c => by simp [vval]
 | x :: l, c => by
   simp only [vval, List.cons_append, vval_append l c, List.length_cons, Nat.pow_succ]
   rw [Nat.mul_add, Nat.mul_comm (128 ^ l.length) 128, Nat.mul_assoc]
   omega
theorem vval_take (b : List Byte) (i : Nat) (h : i < b.length) : vval (b.take (i + 1)) = vval (b.take i) + 128 ^ i * ((b.getD i 0).toNat % 128) := by
 rw [List.take_add_one, vval_append]
 have : b[i]?.toList = [b.getD i 0] := by simp [h, List.getD_eq_getElem?_getD]
 rw [this, List.length_take, Nat.min_eq_left (by omega)]
 simp [vval]
theorem vpart (b : List Byte) (i : Nat) (h : i < b.length) (h9 : i ≤ 9) :
   BitVec.ofNat 64 (vval (b.take i)) ||| ((b.getD i 0 &&& ~~~128#8).setWidth 64) <<< (7 * i) = BitVec.ofNat 64 (vval (b.take (i + 1))) := by
 have hl := vval_lt (b.take i)
 rw [List.length_take, Nat.min_eq_left (by omega)] at hl
 have hp : 128 ^ i ≤ 128 ^ 9 := Nat.pow_le_pow_right (by omega) h9
 have hp2 : (128 : Nat) ^ 9 < 2 ^ 64 := by decide
 have hc : (b.getD i 0).toNat % 128 < 128 := Nat.mod_lt _ (by omega)
 rw [vval_take b i h]
 apply BitVec.eq_of_toNat_eq
 rw [BitVec.toNat_or, BitVec.toNat_shiftLeft, BitVec.toNat_setWidth, and_127, BitVec.toNat_ofNat, BitVec.toNat_ofNat]
 rw [Nat.mod_eq_of_lt (by omega : (b.getD i 0).toNat % 128 < 2 ^ 64), Nat.mod_eq_of_lt (by omega : vval (b.take i) < 2 ^ 64)]
 rw [Nat.or_comm, ← pow7] at *
 have e : 2 ^ (7 * i) * ((b.getD i 0).toNat % 128) + vval (b.take i) = ((b.getD i 0).toNat % 128) <<< (7 * i) ||| vval (b.take i) := by
   rw [← Nat.shiftLeft_add_eq_or_of_lt hl, Nat.shiftLeft_eq, Nat.mul_comm]
 rw [Nat.add_comm, e, Nat.or_mod_two_pow, Nat.mod_eq_of_lt (by omega : vval (b.take i) < 2 ^ 64)]
theorem vover (c : Byte) (i : Nat) (h9 : i ≤ 9) : ((((c &&& ~~~128#8).setWidth 64) <<< (7 * i)) >>> (7 * i) = (c &&& ~~~128#8).setWidth 64) ↔ ¬ (i = 9 ∧ 1 < c.toNat % 128) := by
 have hc : c.toNat % 128 < 128 := Nat.mod_lt _ (by omega)
 rw [← BitVec.toNat_inj]
 rw [BitVec.toNat_ushiftRight, BitVec.toNat_shiftLeft, BitVec.toNat_setWidth, and_127, Nat.shiftLeft_eq, Nat.shiftRight_eq_div_pow, Nat.mod_eq_of_lt (by omega : c.toNat % 128 < 2 ^ 64)]
 generalize c.toNat % 128 = q at *
 by_cases e : i = 9
 · subst e
   rw [show (7 * 9) = 63 by rfl]
   omega
 · have h1 : q * 2 ^ (7 * i) < 2 ^ 64 := by
     have : 2 ^ (7 * i) ≤ 2 ^ (7 * 8) := Nat.pow_le_pow_right (by omega) (by omega)
     rw [show 7 * 8 = 56 by rfl] at this
     have : q * 2 ^ (7 * i) ≤ 127 * 2 ^ 56 := Nat.mul_le_mul (by omega) this
     omega
   rw [Nat.mod_eq_of_lt h1, Nat.mul_div_cancel _ (Nat.two_pow_pos _)]
   simp [e]
theorem vget_nil {b : List Byte} (h : b.length = 0) : vget b = (0#64, 0, 5) := by unfold vget; rw [if_pos h]
theorem vget_over {b : List Byte} {i : Nat} (h1 : i ≤ vcont 10 b) (hi : i < b.length) (h9 : i ≤ 9) (hc : (b.getD i 0).toNat < 128) (ho : ¬ ((((b.getD i 0 &&& ~~~128#8).setWidth 64) <<< (7 * i)) >>> (7 * i) = (b.getD i 0 &&& ~~~128#8).setWidth 64)) : vget b = (0#64, 0, 8) := by
 rw [vover _ _ h9] at ho
 have hn := vcont_stop 10 i b h1 hi hc
 unfold vget
 rw [if_neg (by omega), hn, if_neg (by omega), if_neg (by omega), if_pos (by omega)]
theorem vget_long {b : List Byte} {i : Nat} (h1 : i ≤ vcont 10 b) (hi : i < b.length) (h9 : i ≤ 9) (hi0 : 0 < i) (h0 : (b.getD i 0).toNat = 0) : vget b = (0#64, 0, 7) := by
 have hn := vcont_stop 10 i b h1 hi (by omega)
 unfold vget
 rw [if_neg (by omega), hn, if_neg (by omega), if_neg (by omega), if_neg (by omega), if_pos (by omega)]
theorem vget_one {b : List Byte} {i : Nat} (h1 : i ≤ vcont 10 b) (hi : i < b.length) (h9 : i ≤ 9) (hc : (b.getD i 0).toNat < 128) (hov : (((b.getD i 0 &&& ~~~128#8).setWidth 64) <<< (7 * i)) >>> (7 * i) = (b.getD i 0 &&& ~~~128#8).setWidth 64) (h0 : ¬ ((b.getD i 0).toNat = 0 ∧ 0 < i)) : vget b = (BitVec.ofNat 64 (vval (b.take (i + 1))), i + 1, 0) := by
 rw [vover _ _ h9] at hov
 have hn := vcont_stop 10 i b h1 hi hc
 unfold vget
 rw [if_neg (by omega), hn, if_neg (by omega), if_neg (by omega), if_neg (by omega), if_neg (by omega)]
theorem vget_more {b : List Byte} (h1 : 10 ≤ vcont 10 b) : vget b = (0#64, 0, 8) := by
 have := vcont_le 10 b
 unfold vget
 rw [if_neg (by omega), if_pos (by omega)]
theorem vget_short {b : List Byte} (h0 : 0 < b.length) (h1 : b.length ≤ vcont 10 b) (hl : b.length < 10) : vget b = (0#64, 0, 6) := by
 have := vcont_le 10 b
 unfold vget
 rw [if_neg (by omega), if_neg (by omega), if_pos (by omega)]
/-! ### The document's own way -/
/-! ### There and back -/
theorem vcont_put : ∀ (n k x : Nat) (r : List Byte), vlen x = n + 1 → x < 2 ^ 64 → n ≤ k → (n < k ∨ r = []) → vcont k (vput x ++ r) = n := by
 intro n
 induction n with
 | zero =>
   intro k x r hn hx hk hr
   have h : x < 128 := by
     apply Classical.byContradiction
     intro h
     have := vlen_step h hx; have := vlen_pos (x / 128); omega
   rw [vput_small h]
   cases k with
   | zero => rfl
   | succ k =>
     simp only [List.singleton_append, vcont]
     rw [if_neg]
     rw [BitVec.toNat_ofNat]
     omega
 | succ n ih =>
   intro k x r hn hx hk hr
   have h : ¬ x < 128 := by intro h; have := vlen_small h; omega
   have h1 := vlen_step h hx
   rw [vput_step h hx]
   cases k with
   | zero => omega
   | succ k =>
     simp only [List.cons_append, vcont]
     rw [if_pos (by rw [BitVec.toNat_ofNat]; omega), ih k (x / 128) r (by omega) (by omega) (by omega) (hr.imp (by omega) id)]
theorem vval_put : ∀ (n x : Nat), vlen x = n → x < 2 ^ 64 → vval (vput x) = x := by
 intro n
 induction n with
 | zero => intro x hn; have := vlen_pos x; omega
 | succ n ih =>
   intro x hn hx
   by_cases h : x < 128
   · rw [vput_small h]
     simp only [vval, BitVec.toNat_ofNat]
     omega
   · have h1 := vlen_step h hx
     rw [vput_step h hx]
     simp only [vval, BitVec.toNat_ofNat]
     rw [ih (x / 128) (by omega) (by omega)]
     omega
theorem vget_put (X : BitVec 64) (r : List Byte) : vget (vput X.toNat ++ r) = (X, vlen X.toNat, 0) := by
 have hx := X.isLt
 have hp := vlen_pos X.toNat
 have hle := vlen_le X.toNat
 have hl : (vput X.toNat).length = vlen X.toNat := rfl
 have hn := vcont_put (vlen X.toNat - 1) 10 X.toNat r (by omega) hx (by omega) (by omega)
 have ht := vput_top (vlen X.toNat - 1) X.toNat (by omega) hx
 have hg := vput_get (vlen X.toNat) (vlen X.toNat - 1) X.toNat rfl hx (by omega)
 rw [if_pos (by omega)] at hg
 have hd : (vput X.toNat ++ r).getD (vlen X.toNat - 1) 0 = BitVec.ofNat 8 (X.toNat / 128 ^ (vlen X.toNat - 1)) := by
   rw [List.getD_eq_getElem?_getD, List.getElem?_append_left (by omega), hg]
   rfl
 have hdn : ((vput X.toNat ++ r).getD (vlen X.toNat - 1) 0).toNat = X.toNat / 128 ^ (vlen X.toNat - 1) := by
   rw [hd, BitVec.toNat_ofNat]
   generalize X.toNat / 128 ^ (vlen X.toNat - 1) = q at *
   omega
 have h9 : vlen X.toNat - 1 = 9 → ¬ 1 < X.toNat / 128 ^ (vlen X.toNat - 1) := by
   intro e
   rw [e, show (128 : Nat) ^ 9 = 9223372036854775808 by rfl]
   omega
 have h0 : 0 < vlen X.toNat - 1 → ¬ X.toNat / 128 ^ (vlen X.toNat - 1) = 0 := by
   intro h0 e
   have := Nat.div_eq_zero_iff.1 e
   rcases this with h | h
   · have := Nat.pos_of_ne_zero (n := 128 ^ (vlen X.toNat - 1)) (by intro h; have := Nat.pow_eq_zero.1 h; omega); omega
   · have := vlen_lt (vlen X.toNat - 1) X.toNat (by omega) hx h
     omega
 unfold vget
 have hla : (vput X.toNat ++ r).length = vlen X.toNat + r.length := by rw [List.length_append, hl]
 rw [if_neg (by omega), hn, if_neg (by omega), if_neg (by omega), hdn, if_neg (fun h => h9 h.1 h.2), if_neg (fun h => h0 h.2 h.1), show vlen X.toNat - 1 + 1 = vlen X.toNat by omega]
 rw [← hl, List.take_left', vval_put _ _ rfl hx]
 · simp
 · rfl
theorem vget_part (X : BitVec 64) (i : Nat) (h1 : 1 ≤ i) (h2 : i < vlen X.toNat) : vget ((vput X.toNat).take i) = (0#64, 0, 6) := by
 have hle := vlen_le X.toNat
 have hl : (vput X.toNat).length = vlen X.toNat := rfl
 refine vget_short (by simp; omega) ?_ (by simp; omega)
 have : ∀ j, j ≤ i → j ≤ vcont 10 ((vput X.toNat).take i) := by
   intro j
   induction j with
   | zero => intro _; omega
   | succ j ih =>
     intro hj
     refine vcont_more 10 j _ (ih (by omega)) (by omega) (by simp; omega) ?_
     have hg := vput_get (vlen X.toNat) j X.toNat rfl X.isLt (by omega)
     rw [if_neg (by omega)] at hg
     rw [List.getD_eq_getElem?_getD, List.getElem?_take_of_lt (by omega), hg, Option.getD_some, BitVec.toNat_ofNat]
     omega
 have := this i (Nat.le_refl _)
 simp; omega
theorem vput_val : ∀ (n : Nat) (b : List Byte), n < b.length → (∀ j, j < n → 128 ≤ (b.getD j 0).toNat) → (b.getD n 0).toNat < 128 → ¬ ((b.getD n 0).toNat = 0 ∧ 0 < n) → vval (b.take (n + 1)) < 2 ^ 64 → vput (vval (b.take (n + 1))) = b.take (n + 1) ∧ ((b.getD n 0).toNat ≠ 0 → vval (b.take (n + 1)) ≠ 0) := by
 intro n
 induction n with
 | zero =>
   intro b hb _ hc _ _
   cases b with
   | nil => simp at hb
   | cons c l =>
     have hc' : c.toNat < 128 := by simpa using hc
     simp only [Nat.zero_add, List.take_succ_cons, List.take_zero, vval, Nat.mul_zero, Nat.add_zero]
     rw [Nat.mod_eq_of_lt hc', vput_small hc']
     simp
 | succ n ih =>
   intro b hb hj hc h0 hv
   cases b with
   | nil => simp at hb
   | cons c l =>
     have hc0 : 128 ≤ c.toNat := by simpa using hj 0 (by omega)
     simp only [List.take_succ_cons, vval] at hv ⊢
     simp only [List.getD_cons_succ] at hc h0
     have := ih l (by simpa using hb) (fun j h => by simpa using hj (j + 1) (by omega)) hc (by omega) (by omega)
     have hnz := this.2 (by omega)
     refine ⟨?_, fun _ => by omega⟩
     rw [vput_step (by omega) hv]
     congr 1
     · apply BitVec.eq_of_toNat_eq
       have := c.isLt
       rw [BitVec.toNat_ofNat]
       omega
     · rw [show (c.toNat % 128 + 128 * vval (l.take (n + 1))) / 128 = vval (l.take (n + 1)) by omega]
       exact this.1
theorem vcont_all : ∀ (k : Nat) (b : List Byte) (j : Nat), j < vcont k b → 128 ≤ (b.getD j 0).toNat
 | 0, b, j, h => by simp [vcont] at h
 | k + 1, [], j, h => by simp [vcont] at h
 | k + 1, c :: l, j, h => by
   simp only [vcont] at h
   split at h
   · cases j with
     | zero => simpa
     | succ j => simpa using vcont_all k l j (by omega)
   · omega
theorem vcont_next : ∀ (k : Nat) (b : List Byte), vcont k b < k → vcont k b < b.length → (b.getD (vcont k b) 0).toNat < 128
 | 0, b, h, _ => by omega
 | k + 1, [], _, h => by simp at h
 | k + 1, c :: l, h1, h2 => by
   simp only [vcont] at *
   split
   · rename_i hc
     rw [if_pos hc] at h1 h2
     simpa using vcont_next k l (by omega) (by simpa using h2)
   · simp; omega
theorem vput_get_back {b : List Byte} {z : BitVec 64} {k : Nat} (h : vget b = (z, k, 0)) : 1 ≤ k ∧ k ≤ b.length ∧ vput z.toNat = b.take k := by
 have hle := vcont_le 10 b
 unfold vget at h
 split at h
 · simp at h
 split at h
 · simp at h
 split at h
 · simp at h
 split at h
 · simp at h
 split at h
 · simp at h
 rename_i h1 h2 h3 h4 h5
 simp only [Prod.mk.injEq] at h
 obtain ⟨rfl, rfl, _⟩ := h
 have hn := vcont_next 10 b (by omega) (by omega)
 have hv : vval (b.take (vcont 10 b + 1)) < 2 ^ 64 := by
   by_cases e : vcont 10 b = 9
   · rw [vval_take b _ (by omega)]
     have := vval_lt (b.take (vcont 10 b))
     rw [List.length_take, Nat.min_eq_left (by omega)] at this
     rw [e] at this hn h4 ⊢
     rw [show (128 : Nat) ^ 9 = 9223372036854775808 by rfl] at *
     omega
   · have := vval_lt (b.take (vcont 10 b + 1))
     rw [List.length_take, Nat.min_eq_left (by omega)] at this
     have : (128 : Nat) ^ (vcont 10 b + 1) ≤ 128 ^ 9 := Nat.pow_le_pow_right (by omega) (by omega)
     rw [show (128 : Nat) ^ 9 = 9223372036854775808 by rfl] at this
     omega
 refine ⟨by omega, by omega, ?_⟩
 rw [BitVec.toNat_ofNat, Nat.mod_eq_of_lt hv]
 exact (vput_val (vcont 10 b) b (by omega) (fun j hj => vcont_all 10 b j hj) hn h5 hv).1

/-! ### How long a number is -/
def len8Tab : ByteArray := (ByteArray.mk (List.toArray (List.append (List.append [0, 1, 2, 2, 3, 3, 3, 3, 4, 4, 4, 4, 4, 4, 4, 4, 5, 5, 5, 5, 5, 5, 5, 5, 5, 5, 5, 5, 5, 5, 5, 5, 6, 6, 6, 6, 6, 6, 6, 6, 6, 6, 6, 6, 6, 6, 6, 6, 6, 6, 6, 6, 6, 6, 6, 6, 6, 6, 6, 6, 6, 6, 6, 6] [7, 7, 7, 7, 7, 7, 7, 7, 7, 7, 7, 7, 7, 7, 7, 7, 7, 7, 7, 7, 7, 7, 7, 7, 7, 7, 7, 7, 7, 7, 7, 7, 7, 7, 7, 7, 7, 7, 7, 7, 7, 7, 7, 7, 7, 7, 7, 7, 7, 7, 7, 7, 7, 7, 7, 7, 7, 7, 7, 7, 7, 7, 7, 7]) (List.append [8, 8, 8, 8, 8, 8, 8, 8, 8, 8, 8, 8, 8, 8, 8, 8, 8, 8, 8, 8, 8, 8, 8, 8, 8, 8, 8, 8, 8, 8, 8, 8, 8, 8, 8, 8, 8, 8, 8, 8, 8, 8, 8, 8, 8, 8, 8, 8, 8, 8, 8, 8, 8, 8, 8, 8, 8, 8, 8, 8, 8, 8, 8, 8] [8, 8, 8, 8, 8, 8, 8, 8, 8, 8, 8, 8, 8, 8, 8, 8, 8, 8, 8, 8, 8, 8, 8, 8, 8, 8, 8, 8, 8, 8, 8, 8, 8, 8, 8, 8, 8, 8, 8, 8, 8, 8, 8, 8, 8, 8, 8, 8, 8, 8, 8, 8, 8, 8, 8, 8, 8, 8, 8, 8, 8, 8, 8, 8]))))
theorem len8_tab : ∀ Y : BitVec 8, len8Tab[Y.toNat]? = some (UInt8.ofBitVec (BitVec.ofNat 8 (bitlen Y.toNat))) := by decide +kernel
theorem lenA (Y : BitVec 64) (k : Nat) (h : 2 ^ k ≤ Y.toNat) : bitlen Y.toNat = k + bitlen (Y >>> k).toNat := by
 rw [BitVec.toNat_ushiftRight, Nat.shiftRight_eq_div_pow]
 exact bitlen_shift k h
theorem lenB (Y : BitVec 64) (h : Y.toNat < 256) : (BitVec.ofNat 8 (bitlen (Y.setWidth 8).toNat)).toNat = bitlen Y.toNat := by
 rw [BitVec.toNat_setWidth, Nat.mod_eq_of_lt (by omega), BitVec.toNat_ofNat]
 have := bitlen_lt (k := 8) h
 omega
theorem shr_nat (Y : BitVec 64) (k : Nat) : (Y >>> k).toNat = Y.toNat / 2 ^ k := by rw [BitVec.toNat_ushiftRight, Nat.shiftRight_eq_div_pow]
/-! ### The document's Put -/
/-! ### Of either sign -/
def zigI (x : Int) : BitVec 64 := if 0 ≤ x then BitVec.ofInt 64 (2 * x) else BitVec.ofInt 64 (-2 * x - 1)
def zagI (X : BitVec 64) : Int := if X.toNat % 2 = 0 then ((X.toNat / 2 : Nat) : Int) else -((X.toNat / 2 : Nat) : Int) - 1
theorem ofInt_wrap (p : Int) : BitVec.ofInt 64 (IntKind.i64.wrap p) = BitVec.ofInt 64 p := by
 rw [IntKind.wrap_i64]
 apply BitVec.eq_of_toNat_eq
 simp only [BitVec.toNat_ofInt]
 rw [show ((2 ^ 64 : Nat) : Int) = 18446744073709551616 by rfl]
 omega
theorem zig_eq (p : Int) (h : -9223372036854775808 ≤ p ∧ p ≤ 9223372036854775807) : BitVec.ofInt 64 (IntKind.i64.wrap (p * 2 ^ (min 1 64))) ^^^ BitVec.ofInt 64 (p.fdiv (2 ^ (min 63 64))) = zigI p := by
 rw [ofInt_wrap]
 unfold zigI
 rw [show (2 : Int) ^ (min 1 64) = 2 by decide, show (2 : Int) ^ (min 63 64) = 9223372036854775808 by decide, Int.fdiv_eq_ediv_of_nonneg _ (by omega)]
 split
 · rw [show p / 9223372036854775808 = 0 by omega, Int.mul_comm]
   simp
 · rw [show p / 9223372036854775808 = -1 by omega]
   rw [show BitVec.ofInt 64 (-1) = BitVec.allOnes 64 by decide, BitVec.xor_allOnes]
   apply BitVec.eq_of_toNat_eq
   simp only [BitVec.toNat_not, BitVec.toNat_ofInt]
   omega
theorem and_1 (X : BitVec 64) : (X &&& 1#64).toInt = ((X.toNat % 2 : Nat) : Int) := by
 rw [BitVec.toInt_eq_toNat_cond, BitVec.toNat_and]
 simp [Nat.and_one_is_mod]
 omega
theorem zag_eq (X : BitVec 64) : (BitVec.ofInt 64 (X >>> 1).toInt ^^^ BitVec.ofInt 64 (-(X &&& 1#64).toInt)).toInt = zagI X := by
 rw [and_1, BitVec.ofInt_toInt]
 have hx := X.isLt
 unfold zagI
 split
 · rename_i h
   rw [h]
   simp only [Int.natCast_zero, Int.neg_zero]
   rw [show BitVec.ofInt 64 0 = 0#64 by decide, BitVec.xor_zero, BitVec.toInt_eq_toNat_cond, shr_nat]
   rw [Nat.pow_one]
   split <;> omega
 · rename_i h
   rw [show X.toNat % 2 = 1 by omega]
   rw [show BitVec.ofInt 64 (-((1 : Nat) : Int)) = BitVec.allOnes 64 by decide, BitVec.xor_allOnes, BitVec.toInt_eq_toNat_cond, BitVec.toNat_not, shr_nat]
   rw [Nat.pow_one]
   split <;> omega
theorem zag_range (X : BitVec 64) : -9223372036854775808 ≤ zagI X ∧ zagI X ≤ 9223372036854775807 := by
 have hx := X.isLt
 unfold zagI
 split <;> omega
theorem zag_zig (p : Int) (h : -9223372036854775808 ≤ p ∧ p ≤ 9223372036854775807) : zagI (zigI p) = p := by
 unfold zigI
 split
 · unfold zagI
   rw [BitVec.toNat_ofInt]
   split <;> omega
 · unfold zagI
   rw [BitVec.toNat_ofInt]
   split <;> omega
theorem zig_zag (X : BitVec 64) : zigI (zagI X) = X := by
 have hx := X.isLt
 unfold zagI
 split
 · unfold zigI
   rw [if_pos (by omega)]
   apply BitVec.eq_of_toNat_eq
   rw [BitVec.toNat_ofInt]
   omega
 · unfold zigI
   rw [if_neg (by omega)]
   apply BitVec.eq_of_toNat_eq
   rw [BitVec.toNat_ofInt]
   omega
theorem vget_back_part {b : List Byte} (h : (vget b).2.2 = 0) : 1 ≤ (vget b).2.1 ∧ (vget b).2.1 ≤ b.length ∧ vput (vget b).1.toNat = b.take (vget b).2.1 :=
 vput_get_back (z := (vget b).1) (k := (vget b).2.1) (by rw [← h])
end Go.Sx

set_option linter.unusedVariables false
set_option linter.unusedSimpArgs false
namespace Go.Sx
structure Rs where
 p : Nat
 e : Nat
def rByte (bs : List Byte) (R : Rs) : Byte × Rs := if R.e ≠ 0 then (0#8, R) else if bs.length ≤ R.p then (0#8, ⟨R.p, 6⟩) else (bs.getD R.p 0, ⟨R.p + 1, 0⟩)
def uerr (b : List Byte) (X : BitVec 64) : Nat := if (vget b).2.2 = 0 ∧ X.toNat < (vget b).1.toNat then 3 else (vget b).2.2
def rUint (bs : List Byte) (X : BitVec 64) (R : Rs) : BitVec 64 × Rs :=
 if R.e ≠ 0 then (0#64, R) else if bs.length ≤ R.p then (0#64, ⟨R.p, 6⟩) else if uerr (bs.drop R.p) X ≠ 0 then (0#64, ⟨R.p, uerr (bs.drop R.p) X⟩) else ((vget (bs.drop R.p)).1, ⟨R.p + (vget (bs.drop R.p)).2.1, 0⟩)
def rInt (bs : List Byte) (R : Rs) : Int × Rs := (zagI (rUint bs 18446744073709551615#64 R).1, (rUint bs 18446744073709551615#64 R).2)
def rFail (e : Nat) (R : Rs) : Rs := if R.e = 0 then ⟨R.p, e⟩ else R
def rDone (bs : List Byte) (R : Rs) : Nat := if R.e ≠ 0 ∨ bs.length ≤ R.p then R.e else 8
def rVec (bs : List Byte) (R : Rs) : Rs := (rInt bs (rInt bs (rInt bs R).2).2).2
theorem uerr_ok {b : List Byte} {X : BitVec 64} (h : uerr b X = 0) : (vget b).2.2 = 0 ∧ ¬ X.toNat < (vget b).1.toNat := by
 unfold uerr at h
 split at h
 · cases h
 · rename_i h'
   exact ⟨h, fun h2 => h' ⟨h, h2⟩⟩
theorem uerr_le {b : List Byte} {X : BitVec 64} (h : uerr b X = 0) : 1 ≤ (vget b).2.1 ∧ (vget b).2.1 ≤ b.length := by
 have := vget_back_part (uerr_ok h).1
 exact ⟨this.1, this.2.1⟩
theorem vget_ten (b : List Byte) : (vget b).2.1 ≤ 10 := by
 have := vcont_le 10 b
 unfold vget
 repeat' split
 all_goals simp
 omega
theorem rUint_err {bs : List Byte} {X : BitVec 64} {R : Rs} (h : R.e ≠ 0) : rUint bs X R = (0#64, R) := by unfold rUint; rw [if_pos h]
theorem rUint_short {bs : List Byte} {X : BitVec 64} {R : Rs} (h : R.e = 0) (h1 : bs.length ≤ R.p) : rUint bs X R = (0#64, ⟨R.p, 6⟩) := by unfold rUint; rw [if_neg (by omega), if_pos h1]
theorem rUint_bad {bs : List Byte} {X : BitVec 64} {R : Rs} (h : R.e = 0) (h1 : ¬ bs.length ≤ R.p) (h2 : uerr (bs.drop R.p) X ≠ 0) : rUint bs X R = (0#64, ⟨R.p, uerr (bs.drop R.p) X⟩) := by unfold rUint; rw [if_neg (by omega), if_neg h1, if_pos h2]
theorem rUint_good {bs : List Byte} {X : BitVec 64} {R : Rs} (h : R.e = 0) (h1 : ¬ bs.length ≤ R.p) (h2 : uerr (bs.drop R.p) X = 0) : rUint bs X R = ((vget (bs.drop R.p)).1, ⟨R.p + (vget (bs.drop R.p)).2.1, 0⟩) := by unfold rUint; rw [if_neg (by omega), if_neg h1, if_neg (by omega)]
theorem rByte_err {bs : List Byte} {R : Rs} (h : R.e ≠ 0) : rByte bs R = (0#8, R) := by unfold rByte; rw [if_pos h]
theorem rByte_short {bs : List Byte} {R : Rs} (h : R.e = 0) (h1 : bs.length ≤ R.p) : rByte bs R = (0#8, ⟨R.p, 6⟩) := by unfold rByte; rw [if_neg (by omega), if_pos h1]
theorem rByte_good {bs : List Byte} {R : Rs} (h : R.e = 0) (h1 : ¬ bs.length ≤ R.p) : rByte bs R = (bs.getD R.p 0, ⟨R.p + 1, 0⟩) := by unfold rByte; rw [if_neg (by omega), if_neg h1]
theorem rUint_le {bs : List Byte} {X : BitVec 64} {R : Rs} (h : R.p ≤ bs.length) : (rUint bs X R).2.p ≤ bs.length ∧ R.p ≤ (rUint bs X R).2.p ∧ (rUint bs X R).2.p ≤ R.p + 10 ∧ (rUint bs X R).1.toNat ≤ X.toNat ∧ (R.e ≠ 0 → rUint bs X R = (0#64, R)) := by
 by_cases h0 : R.e = 0
 · by_cases h1 : bs.length ≤ R.p
   · rw [rUint_short h0 h1]; simp; omega
   · by_cases h2 : uerr (bs.drop R.p) X = 0
     · rw [rUint_good h0 h1 h2]
       have := uerr_le h2
       have h3 := vget_ten (bs.drop R.p)
       have h4 := (uerr_ok h2).2
       simp only [List.length_drop] at this
       simp [h0]
       omega
     · rw [rUint_bad h0 h1 h2]; simp [h0]; omega
 · rw [rUint_err h0]; simp; omega
theorem rByte_le {bs : List Byte} {R : Rs} (h : R.p ≤ bs.length) : (rByte bs R).2.p ≤ bs.length ∧ R.p ≤ (rByte bs R).2.p ∧ (rByte bs R).2.p ≤ R.p + 1 ∧ (R.e ≠ 0 → rByte bs R = (0#8, R)) := by
 by_cases h0 : R.e = 0
 · by_cases h1 : bs.length ≤ R.p
   · rw [rByte_short h0 h1]; simp [h0]; omega
   · rw [rByte_good h0 h1]; simp [h0]; omega
 · rw [rByte_err h0]; simp; omega
theorem rInt_le {bs : List Byte} {R : Rs} (h : R.p ≤ bs.length) : (rInt bs R).2.p ≤ bs.length ∧ R.p ≤ (rInt bs R).2.p ∧ (rInt bs R).2.p ≤ R.p + 10 ∧ (R.e ≠ 0 → rInt bs R = (0, R)) := by
 have := rUint_le (X := 18446744073709551615#64) h
 refine ⟨this.1, this.2.1, this.2.2.1, fun h0 => ?_⟩
 unfold rInt
 rw [this.2.2.2.2 h0]
 simp [zagI]
theorem rVec_le {bs : List Byte} {R : Rs} (h : R.p ≤ bs.length) : (rVec bs R).p ≤ bs.length ∧ R.p ≤ (rVec bs R).p ∧ (rVec bs R).p ≤ R.p + 30 := by
 have h1 := rInt_le h
 have h2 := rInt_le h1.1
 have h3 := rInt_le h2.1
 unfold rVec
 omega
theorem rFail_le {bs : List Byte} {e : Nat} {R : Rs} (h : R.p ≤ bs.length) : (rFail e R).p ≤ bs.length ∧ (rFail e R).p = R.p ∧ (R.e = 0 → (rFail e R).e = e) ∧ (R.e ≠ 0 → (rFail e R).e = R.e) := by
 unfold rFail
 split
 · rename_i h0; simp [h, h0]
 · rename_i h0; simp [h, h0]
theorem rByte_stay {bs : List Byte} {R : Rs} (h : R.e ≠ 0) : (rByte bs R).2.p = R.p ∧ (rByte bs R).2.e = R.e ∧ (rByte bs R).1.toNat = 0 := by rw [rByte_err h]; simp
theorem rUint_stay {bs : List Byte} {X : BitVec 64} {R : Rs} (h : R.e ≠ 0) : (rUint bs X R).2.p = R.p ∧ (rUint bs X R).2.e = R.e ∧ (rUint bs X R).1.toNat = 0 := by rw [rUint_err h]; simp
theorem rInt_stay {bs : List Byte} {R : Rs} (h : R.e ≠ 0) : (rInt bs R).2.p = R.p ∧ (rInt bs R).2.e = R.e ∧ (rInt bs R).1 = 0 := by
 unfold rInt
 rw [rUint_err h]
 simp [zagI]
end Go.Sx

set_option linter.unusedVariables false
set_option linter.unusedSimpArgs false
namespace Go.Sx
structure RecR where
 k : Int
 id : Int
 p0 : Int
 p1 : Int
 p2 : Int
 v0 : Int
 v1 : Int
 v2 : Int
 a : BitVec 16
instance : Inhabited RecR := ⟨⟨0, 0, 0, 0, 0, 0, 0, 0, 0#16⟩⟩
structure RecR.wf (r : RecR) : Prop where
 k : -9223372036854775808 ≤ r.k ∧ r.k ≤ 9223372036854775807
 id : -9223372036854775808 ≤ r.id ∧ r.id ≤ 9223372036854775807
 p0 : -9223372036854775808 ≤ r.p0 ∧ r.p0 ≤ 9223372036854775807
 p1 : -9223372036854775808 ≤ r.p1 ∧ r.p1 ≤ 9223372036854775807
 p2 : -9223372036854775808 ≤ r.p2 ∧ r.p2 ≤ 9223372036854775807
 v0 : -9223372036854775808 ≤ r.v0 ∧ r.v0 ≤ 9223372036854775807
 v1 : -9223372036854775808 ≤ r.v1 ∧ r.v1 ≤ 9223372036854775807
 v2 : -9223372036854775808 ≤ r.v2 ∧ r.v2 ≤ 9223372036854775807
theorem RecR.wf.facts {r : RecR} (h : r.wf) : (-9223372036854775808 ≤ r.k ∧ r.k ≤ 9223372036854775807) ∧ (-9223372036854775808 ≤ r.id ∧ r.id ≤ 9223372036854775807) ∧ (-9223372036854775808 ≤ r.p0 ∧ r.p0 ≤ 9223372036854775807) ∧ (-9223372036854775808 ≤ r.p1 ∧ r.p1 ≤ 9223372036854775807) ∧ (-9223372036854775808 ≤ r.p2 ∧ r.p2 ≤ 9223372036854775807) ∧
 (-9223372036854775808 ≤ r.v0 ∧ r.v0 ≤ 9223372036854775807) ∧ (-9223372036854775808 ≤ r.v1 ∧ r.v1 ≤ 9223372036854775807) ∧ (-9223372036854775808 ≤ r.v2 ∧ r.v2 ≤ 9223372036854775807) := ⟨h.k, h.id, h.p0, h.p1, h.p2, h.v0, h.v1, h.v2⟩
def recV (r : RecR) : List Value := [.int .i64 r.k, .int .i64 r.id, .int .i64 r.p0, .int .i64 r.p1, .int .i64 r.p2, .int .i64 r.v0, .int .i64 r.v1, .int .i64 r.v2, .int .u16 ((r.a.toNat : Nat) : Int)]
def RecR.num (r : RecR) : Nat → Int
 | 0 => r.p0
 | 1 => r.p1
 | 2 => r.p2
 | 3 => r.v0
 | 4 => r.v1
 | _ => r.v2
def recEmpty (r : RecR) : Bool := r.p0 == 0 && r.p1 == 0 && r.p2 == 0 && r.v0 == 0 && r.v1 == 0 && r.v2 == 0 && (((r.a.toNat : Nat) : Int) == 0)
def recChk (r : RecR) : Nat := if r.k < 0 ∨ 3 < r.k then 11 else if r.id < 0 ∨ 65535 < r.id then 3 else if r.k = 1 ∧ recEmpty r = true ∨ r.k = 2 ∧ recEmpty r = false then 2 else 0
theorem eq_bare (r : RecR) : eqCells [.int .i64 r.k, .int .i64 r.id, .int .i64 r.p0, .int .i64 r.p1, .int .i64 r.p2, .int .i64 r.v0, .int .i64 r.v1, .int .i64 r.v2, .int .u16 ((r.a.toNat : Nat) : Int)] [.int .i64 r.k, .int .i64 r.id, .int .i64 0, .int .i64 0, .int .i64 0, .int .i64 0, .int .i64 0, .int .i64 0, .int .u16 0] = recEmpty r := by
 simp [eqCells, vEq, recEmpty, Bool.and_assoc]
theorem recChk_le (r : RecR) : recChk r ≤ 11 := by unfold recChk; repeat' split
                                                   all_goals omega
theorem recChk_0 {r : RecR} (h : recChk r = 0) : 0 ≤ r.k ∧ r.k ≤ 3 ∧ 0 ≤ r.id ∧ r.id ≤ 65535 := by
 unfold recChk at h
 split at h
 · cases h
 · split at h
   · cases h
   · omega
def numB (x : Int) : List Byte := vput (zigI x).toNat
theorem length_numB (x : Int) : (numB x).length ≤ 10 ∧ 1 ≤ (numB x).length := by
 have := vlen_le (zigI x).toNat
 have := vlen_pos (zigI x).toNat
 unfold numB
 simp only [vlen] at *
 omega
def recAll (r : RecR) : List Byte := numB r.p0 ++ numB r.p1 ++ numB r.p2 ++ numB r.v0 ++ numB r.v1 ++ numB r.v2 ++ vput r.a.toNat
def upMask (r : RecR) : Nat → BitVec 8
 | 0 => 0#8
 | i + 1 => if r.num i = 0 then upMask r i else upMask r i ||| (1#8 <<< i)
def upRest (r : RecR) : Nat → List Byte
 | 0 => []
 | i + 1 => if r.num i = 0 then upRest r i else upRest r i ++ numB (r.num i)
def upMask7 (r : RecR) : BitVec 8 := if r.a = 0#16 then upMask r 6 else upMask r 6 ||| 64#8
def upRest7 (r : RecR) : List Byte := if r.a = 0#16 then upRest r 6 else upRest r 6 ++ vput r.a.toNat
def recSome (r : RecR) : List Byte := upMask7 r :: upRest7 r
def recBody (r : RecR) : List Byte := if r.k = 1 then recSome r else if r.k = 2 then [] else recAll r
def recErr (r : RecR) (last : Int) : Nat := if recChk r ≠ 0 then recChk r else if last < -1 ∨ 65535 < last then 3 else if r.id ≤ last then 10 else 0
def recHead (r : RecR) (last : Int) : List Byte := vput (BitVec.ofInt 64 (r.id - last - 1)).toNat ++ [BitVec.ofInt 8 r.k]
def recB (r : RecR) (last : Int) : List Byte := if recErr r last ≠ 0 then [] else recHead r last ++ recBody r
theorem upMask_z {r : RecR} {i : Nat} (h : r.num i = 0) : upMask r (i + 1) = upMask r i := by simp [upMask, h]
theorem upMask_n {r : RecR} {i : Nat} (h : r.num i ≠ 0) : upMask r (i + 1) = upMask r i ||| (1#8 <<< i) := by simp [upMask, h]
theorem upRest_z {r : RecR} {i : Nat} (h : r.num i = 0) : upRest r (i + 1) = upRest r i := by simp [upRest, h]
theorem upRest_n {r : RecR} {i : Nat} (h : r.num i ≠ 0) : upRest r (i + 1) = upRest r i ++ numB (r.num i) := by simp [upRest, h]
theorem length_upRest (r : RecR) : ∀ i, (upRest r i).length ≤ 10 * i := by
 intro i
 induction i with
 | zero => simp [upRest]
 | succ i ih =>
   unfold upRest
   have := length_numB (r.num i)
   split
   · omega
   · simp; omega
theorem vlen10 (n : Nat) : (vput n).length ≤ 10 := by have := vlen_le n; simpa [vlen] using this
theorem length_recB (r : RecR) (last : Int) : (recB r last).length ≤ 100 := by
 unfold recB
 split
 · simp
 · have h1 := vlen10 (BitVec.ofInt 64 (r.id - last - 1)).toNat
   have h2 := vlen10 r.a.toNat
   have h3 := length_upRest r 6
   have n0 := length_numB r.p0
   have n1 := length_numB r.p1
   have n2 := length_numB r.p2
   have n3 := length_numB r.v0
   have n4 := length_numB r.v1
   have n5 := length_numB r.v2
   unfold recHead recBody
   split
   · unfold recSome upRest7
     split <;> simp only [List.length_append, List.length_cons, List.length_nil] <;> omega
   · split
     · simp only [List.length_append, List.length_cons, List.length_nil]; omega
     · unfold recAll; simp only [List.length_append, List.length_cons, List.length_nil]; omega
theorem getD_mid {bs l : List Byte} {x : Byte} {m : Nat} (h : bs.length = m) : (bs ++ x :: l).getD m 0 = x := by
 subst h
 simp [List.getD_eq_getElem?_getD]
theorem set_mid {bs l : List Byte} {x y : Byte} {m : Nat} (h : bs.length = m) : (bs ++ x :: l).set m y = bs ++ y :: l := by
 subst h
 simp
theorem sw64 (a : BitVec 16) : (a.setWidth 64).toNat = a.toNat := by
 rw [BitVec.toNat_setWidth]
 have := a.isLt
 omega
theorem a_zero {a : BitVec 16} (h : ((a.toNat : Nat) : Int) = 0) : a = 0#16 := BitVec.eq_of_toNat_eq (by simpa using h)
theorem a_non {a : BitVec 16} (h : ((a.toNat : Nat) : Int) ≠ 0) : a ≠ 0#16 := fun e => h (by subst e; rfl)
theorem recSome_z {r : RecR} (h : ((r.a.toNat : Nat) : Int) = 0) : recSome r = upMask r 6 :: upRest r 6 := by
 unfold recSome upMask7 upRest7
 rw [if_pos (a_zero h), if_pos (a_zero h)]
theorem recSome_n {r : RecR} (h : ((r.a.toNat : Nat) : Int) ≠ 0) : recSome r = (upMask r 6 ||| 64#8) :: (upRest r 6 ++ vput r.a.toNat) := by
 unfold recSome upMask7 upRest7
 rw [if_neg (a_non h), if_neg (a_non h)]
theorem length_recSome (r : RecR) : (recSome r).length ≤ 71 := by
 have h2 := vlen10 r.a.toNat
 have h3 := length_upRest r 6
 unfold recSome upRest7
 split <;> simp only [List.length_append, List.length_cons] <;> omega
theorem length_recAll (r : RecR) : (recAll r).length ≤ 70 := by
 have h2 := vlen10 r.a.toNat
 have n0 := length_numB r.p0
 have n1 := length_numB r.p1
 have n2 := length_numB r.p2
 have n3 := length_numB r.v0
 have n4 := length_numB r.v1
 have n5 := length_numB r.v2
 unfold recAll
 simp only [List.length_append]
 omega
theorem recB_err {r : RecR} {last : Int} (h : recErr r last ≠ 0) : recB r last = [] := by unfold recB; rw [if_pos h]
theorem recB_all {r : RecR} {last : Int} (h : recErr r last = 0) (hk : r.k = 0 ∨ r.k = 3) : recB r last = recHead r last ++ recAll r := by
 unfold recB recBody
 rw [if_neg (by omega), if_neg (by omega), if_neg (by omega)]
theorem recB_some {r : RecR} {last : Int} (h : recErr r last = 0) (hk : r.k = 1) : recB r last = recHead r last ++ recSome r := by
 unfold recB recBody
 rw [if_neg (by omega), if_pos hk]
theorem recB_none {r : RecR} {last : Int} (h : recErr r last = 0) (hk : r.k = 2) : recB r last = recHead r last := by
 unfold recB recBody
 rw [if_neg (by omega), if_neg (by omega), if_pos hk, List.append_nil]
theorem recErr_chk {r : RecR} {last : Int} (h : recChk r ≠ 0) : recErr r last = recChk r := by unfold recErr; rw [if_pos h]
theorem recErr_rng {r : RecR} {last : Int} (h : recChk r = 0) (h2 : last < -1 ∨ 65535 < last) : recErr r last = 3 := by unfold recErr; rw [if_neg (by omega), if_pos h2]
theorem recErr_ord {r : RecR} {last : Int} (h : recChk r = 0) (h2 : ¬ (last < -1 ∨ 65535 < last)) (h3 : r.id ≤ last) : recErr r last = 10 := by unfold recErr; rw [if_neg (by omega), if_neg h2, if_pos h3]
theorem recErr_ok {r : RecR} {last : Int} (h : recChk r = 0) (h2 : ¬ (last < -1 ∨ 65535 < last)) (h3 : ¬ r.id ≤ last) : recErr r last = 0 := by unfold recErr; rw [if_neg (by omega), if_neg h2, if_neg h3]
theorem length_recHead (r : RecR) (last : Int) : (recHead r last).length ≤ 11 := by
 have h1 := vlen10 (BitVec.ofInt 64 (r.id - last - 1)).toNat
 unfold recHead
 simp only [List.length_append, List.length_cons, List.length_nil]
 omega
theorem recErr_parts' {r : RecR} {last : Int} (h : recErr r last = 0) : 0 ≤ r.id ∧ r.id ≤ 65535 ∧ -1 ≤ last ∧ last < r.id := by
 unfold recErr at h
 split at h
 · omega
 · rename_i h0
   have h1 := recChk_0 (r := r) (by omega)
   split at h
   · cases h
   · split at h
     · cases h
     · omega
end Go.Sx

set_option linter.unusedVariables false
set_option linter.unusedSimpArgs false
namespace Go.Sx
def upSh (m : BitVec 8) : Nat → BitVec 8
 | 0 => m
 | i + 1 => upSh m i / 2#8
theorem upSh_eq (m : BitVec 8) : ∀ i, upSh m i = m >>> i
 | 0 => by simp [upSh]
 | i + 1 => by
   unfold upSh
   rw [upSh_eq m i]
   apply BitVec.eq_of_toNat_eq
   rw [BitVec.toNat_udiv, BitVec.toNat_ushiftRight, BitVec.toNat_ushiftRight, Nat.shiftRight_succ]
   rfl
def upBit (m : BitVec 8) (i : Nat) : Bool := ((upSh m i).toNat % 2) == 1
def upI (bs : List Byte) (m : BitVec 8) (i : Nat) (R : Rs) : Int × Rs :=
 if upBit m i = true then ((rInt bs R).1, if (rInt bs R).1 = 0 then rFail 7 (rInt bs R).2 else (rInt bs R).2) else (0, R)
def upS (bs : List Byte) (m : BitVec 8) (R : Rs) : Nat → Rs
 | 0 => R
 | i + 1 => (upI bs m i (upS bs m R i)).2
def upX (bs : List Byte) (m : BitVec 8) (R : Rs) (i : Nat) : Int := (upI bs m i (upS bs m R i)).1
def upA (bs : List Byte) (m : BitVec 8) (R : Rs) : BitVec 16 × Rs :=
 if upBit m 6 = true then (((rUint bs 65535#64 R).1).setWidth 16, if (rUint bs 65535#64 R).1 = 0#64 then rFail 7 (rUint bs 65535#64 R).2 else (rUint bs 65535#64 R).2) else (0#16, R)
def rdSome (bs : List Byte) (k id : Int) (R : Rs) : RecR × Rs :=
 let q := rByte bs R
 if q.1.toNat = 0 ∨ 127 < q.1.toNat then (⟨k, id, 0, 0, 0, 0, 0, 0, 0#16⟩, rFail 7 q.2)
 else (⟨k, id, upX bs q.1 q.2 0, upX bs q.1 q.2 1, upX bs q.1 q.2 2, upX bs q.1 q.2 3, upX bs q.1 q.2 4, upX bs q.1 q.2 5, (upA bs q.1 (upS bs q.1 q.2 6)).1⟩, (upA bs q.1 (upS bs q.1 q.2 6)).2)
def nS (bs : List Byte) (R : Rs) : Nat → Rs
 | 0 => R
 | i + 1 => (rInt bs (nS bs R i)).2
def nX (bs : List Byte) (R : Rs) (i : Nat) : Int := (rInt bs (nS bs R i)).1
def rdAll (bs : List Byte) (k id : Int) (R : Rs) : RecR × Rs :=
 (⟨k, id, nX bs R 0, nX bs R 1, nX bs R 2, nX bs R 3, nX bs R 4, nX bs R 5, ((rUint bs 65535#64 (nS bs R 6)).1).setWidth 16⟩, (rUint bs 65535#64 (nS bs R 6)).2)
def rdBody (bs : List Byte) (k id : Int) (R : Rs) : RecR × Rs :=
 if k = 0 ∨ k = 3 then rdAll bs k id R else if k = 1 then rdSome bs k id R else if k = 2 then (⟨k, id, 0, 0, 0, 0, 0, 0, 0#16⟩, R) else (⟨k, id, 0, 0, 0, 0, 0, 0, 0#16⟩, rFail 11 R)
def recZ : RecR := ⟨0, 0, 0, 0, 0, 0, 0, 0, 0#16⟩
def rdId (bs : List Byte) (last : Int) (R : Rs) : BitVec 64 × Rs := rUint bs (BitVec.ofInt 64 (65534 - last)) R
def rdRaw (bs : List Byte) (last : Int) (R : Rs) : RecR × Rs :=
 rdBody bs (((rByte bs (rdId bs last R).2).1.toNat : Nat) : Int) (last + 1 + (((rdId bs last R).1.toNat : Nat) : Int)) (rByte bs (rdId bs last R).2).2
def rdRec (bs : List Byte) (last : Int) (R : Rs) : RecR × Nat × Rs :=
 if last < -1 ∨ 65535 < last then (recZ, 3, R) else if last = 65535 then (recZ, (rFail 10 R).e, rFail 10 R)
 else if (rdRaw bs last R).2.e ≠ 0 then (recZ, (rdRaw bs last R).2.e, (rdRaw bs last R).2) else ((rdRaw bs last R).1, 0, (rdRaw bs last R).2)
theorem upBit_sh {m : BitVec 8} {i : Nat} : upBit m i = true ↔ (upSh m i).toNat % 2 = 1 := by unfold upBit; simp
theorem sh_and (m : BitVec 8) (i : Nat) : ((m >>> i) &&& 1#8).toNat = (upSh m i).toNat % 2 := by
 rw [BitVec.toNat_and, show (1#8).toNat = 1 from rfl, Nat.and_one_is_mod, upSh_eq]
theorem upBit_f {m : BitVec 8} {i : Nat} (h : ((((m >>> i) &&& 1#8).toNat : Nat) : Int) = 0) : upBit m i = false := by
 rw [sh_and] at h
 unfold upBit
 rw [show (upSh m i).toNat % 2 = 0 by omega]
 rfl
theorem upBit_t {m : BitVec 8} {i : Nat} (h : ((((m >>> i) &&& 1#8).toNat : Nat) : Int) ≠ 0) : upBit m i = true := by
 rw [sh_and] at h
 rw [upBit_sh]
 omega
theorem and64 (m : BitVec 8) : (m &&& 64#8).toNat = 0 ↔ upBit m 6 = false := by
 have key : ∀ m : BitVec 8, (m &&& 64#8).toNat = 0 ↔ upBit m 6 = false := by decide +kernel
 exact key m
theorem upBit6_f {m : BitVec 8} (h : (((m &&& 64#8).toNat : Nat) : Int) = 0) : upBit m 6 = false := (and64 m).1 (by omega)
theorem upBit6_t {m : BitVec 8} (h : (((m &&& 64#8).toNat : Nat) : Int) ≠ 0) : upBit m 6 = true := by
 cases hb : upBit m 6 with
 | true => rfl
 | false => exact absurd ((and64 m).2 hb) (by omega)
theorem upA_f {bs : List Byte} {m : BitVec 8} {R : Rs} (h : upBit m 6 = false) : upA bs m R = (0#16, R) := by unfold upA; rw [if_neg (by rw [h]; decide)]
theorem upA_z {bs : List Byte} {m : BitVec 8} {R : Rs} (h : upBit m 6 = true) (h2 : (rUint bs 65535#64 R).1.toNat = 0) : upA bs m R = ((rUint bs 65535#64 R).1.setWidth 16, rFail 7 (rUint bs 65535#64 R).2) := by
 unfold upA
 rw [if_pos h, if_pos (BitVec.eq_of_toNat_eq h2)]
theorem upA_n {bs : List Byte} {m : BitVec 8} {R : Rs} (h : upBit m 6 = true) (h2 : (rUint bs 65535#64 R).1.toNat ≠ 0) : upA bs m R = ((rUint bs 65535#64 R).1.setWidth 16, (rUint bs 65535#64 R).2) := by
 unfold upA
 rw [if_pos h, if_neg (fun e => h2 (by rw [e]; rfl))]
theorem sw16 {X : BitVec 64} (h : X.toNat ≤ 65535) : (X.setWidth 16).toNat = X.toNat := by
 rw [BitVec.toNat_setWidth]
 omega
theorem toInt_small {X : BitVec 64} (h : X.toNat ≤ 65535) : X.toInt = ((X.toNat : Nat) : Int) := by
 rw [BitVec.toInt_eq_toNat_cond, if_pos (by omega)]
theorem ofInt64 {x : Int} (h : 0 ≤ x) (h2 : x ≤ 9223372036854775807) : (((BitVec.ofInt 64 x).toNat : Nat) : Int) = x := by
 rw [BitVec.toNat_ofInt]
 omega
theorem upSZ {bs : List Byte} {m : BitVec 8} {R : Rs} {i : Nat} (h : upBit m i = true) (h2 : (rInt bs (upS bs m R i)).1 = 0) : upS bs m R (i + 1) = rFail 7 (rInt bs (upS bs m R i)).2 := by
 show (upI _ _ _ _).2 = _
 unfold upI
 rw [if_pos h]
 dsimp only
 rw [if_pos h2]
theorem upSN {bs : List Byte} {m : BitVec 8} {R : Rs} {i : Nat} (h : upBit m i = true) (h2 : (rInt bs (upS bs m R i)).1 ≠ 0) : upS bs m R (i + 1) = (rInt bs (upS bs m R i)).2 := by
 show (upI _ _ _ _).2 = _
 unfold upI
 rw [if_pos h]
 dsimp only
 rw [if_neg h2]
theorem upX_t {bs : List Byte} {m : BitVec 8} {R : Rs} {i : Nat} (h : upBit m i = true) : upX bs m R i = (rInt bs (upS bs m R i)).1 := by
 unfold upX upI
 rw [if_pos h]
theorem upS_f {bs : List Byte} {m : BitVec 8} {R : Rs} {i : Nat} (h : upBit m i = false) : upS bs m R (i + 1) = upS bs m R i := by
 show (upI _ _ _ _).2 = _
 unfold upI
 rw [if_neg (by rw [h]; decide)]
theorem upX_f {bs : List Byte} {m : BitVec 8} {R : Rs} {i : Nat} (h : upBit m i = false) : upX bs m R i = 0 := by
 unfold upX upI
 rw [if_neg (by rw [h]; decide)]
theorem upI_le {bs : List Byte} {m : BitVec 8} {i : Nat} {R : Rs} (h : R.p ≤ bs.length) : (upI bs m i R).2.p ≤ bs.length ∧ R.p ≤ (upI bs m i R).2.p ∧ (upI bs m i R).2.p ≤ R.p + 10 := by
 unfold upI
 have h1 := rInt_le h
 split
 · dsimp only
   split
   · have := rFail_le (e := 7) h1.1; omega
   · omega
 · dsimp only; omega
theorem upS_le {bs : List Byte} {m : BitVec 8} {R : Rs} (h : R.p ≤ bs.length) : ∀ i, (upS bs m R i).p ≤ bs.length ∧ R.p ≤ (upS bs m R i).p ∧ (upS bs m R i).p ≤ R.p + 10 * i
 | 0 => by simp [upS, h]
 | i + 1 => by
   have h1 := upS_le h i (m := m)
   have h2 := upI_le (m := m) (i := i) h1.1
   show (upI _ _ _ _).2.p ≤ _ ∧ _ ≤ (upI _ _ _ _).2.p ∧ (upI _ _ _ _).2.p ≤ _
   omega
theorem nS_le {bs : List Byte} {R : Rs} (h : R.p ≤ bs.length) : ∀ i, (nS bs R i).p ≤ bs.length ∧ R.p ≤ (nS bs R i).p ∧ (nS bs R i).p ≤ R.p + 10 * i
 | 0 => by simp [nS, h]
 | i + 1 => by
   have h1 := nS_le h i
   have h2 := rInt_le h1.1
   show (rInt _ _).2.p ≤ _ ∧ _ ≤ (rInt _ _).2.p ∧ (rInt _ _).2.p ≤ _
   omega
theorem upA_le {bs : List Byte} {m : BitVec 8} {R : Rs} (h : R.p ≤ bs.length) : (upA bs m R).2.p ≤ bs.length ∧ R.p ≤ (upA bs m R).2.p := by
 unfold upA
 have h1 := rUint_le (X := 65535#64) h
 split
 · dsimp only
   split
   · have := rFail_le (e := 7) h1.1; omega
   · omega
 · dsimp only; omega
theorem rdSome_le {bs : List Byte} {k id : Int} {R : Rs} (h : R.p ≤ bs.length) : (rdSome bs k id R).2.p ≤ bs.length ∧ R.p ≤ (rdSome bs k id R).2.p := by
 have h1 := rByte_le h
 have h2 := upS_le (m := (rByte bs R).1) h1.1 6
 have h3 := upA_le (m := (rByte bs R).1) h2.1
 have h4 := rFail_le (e := 7) h1.1
 unfold rdSome
 dsimp only
 split <;> (dsimp only; omega)
theorem rdAll_le {bs : List Byte} {k id : Int} {R : Rs} (h : R.p ≤ bs.length) : (rdAll bs k id R).2.p ≤ bs.length ∧ R.p ≤ (rdAll bs k id R).2.p := by
 have h2 := nS_le h 6
 have h3 := rUint_le (X := 65535#64) h2.1
 unfold rdAll
 dsimp only; omega
theorem rdBody_le {bs : List Byte} {k id : Int} {R : Rs} (h : R.p ≤ bs.length) : (rdBody bs k id R).2.p ≤ bs.length ∧ R.p ≤ (rdBody bs k id R).2.p := by
 unfold rdBody
 split
 · exact rdAll_le h
 · split
   · exact rdSome_le h
   · split
     · dsimp only; omega
     · have := rFail_le (e := 11) h; dsimp only; omega
theorem rdRec_le {bs : List Byte} {last : Int} {R : Rs} (h : R.p ≤ bs.length) : (rdRec bs last R).2.2.p ≤ bs.length ∧ R.p ≤ (rdRec bs last R).2.2.p := by
 have h1 : (rdId bs last R).2.p ≤ bs.length ∧ R.p ≤ (rdId bs last R).2.p := by
   have := rUint_le (X := BitVec.ofInt 64 (65534 - last)) h
   unfold rdId
   omega
 have h2 := rByte_le h1.1
 have h3 : (rdRaw bs last R).2.p ≤ bs.length ∧ (rByte bs (rdId bs last R).2).2.p ≤ (rdRaw bs last R).2.p := rdBody_le h2.1
 have h4 := rFail_le (e := 10) h
 unfold rdRec
 repeat' split
 all_goals (dsimp only; omega)
theorem pair_eq {α β : Type} {p x : α × β} (h : p = x) : p = (x.1, x.2) := h
theorem rdRaw_eq (bs : List Byte) (last : Int) (R : Rs) : rdRaw bs last R = rdBody bs (((rByte bs (rUint bs (BitVec.ofInt 64 (65534 - last)) R).2).1.toNat : Nat) : Int) (last + 1 + (((rUint bs (BitVec.ofInt 64 (65534 - last)) R).1.toNat : Nat) : Int)) (rByte bs (rUint bs (BitVec.ofInt 64 (65534 - last)) R).2).2 := rfl
theorem rdBody_all {bs : List Byte} {k id : Int} {R : Rs} (h : k = 0 ∨ k = 3) : rdBody bs k id R = rdAll bs k id R := by unfold rdBody; rw [if_pos h]
theorem rdBody_some {bs : List Byte} {k id : Int} {R : Rs} (h : k = 1) : rdBody bs k id R = rdSome bs k id R := by unfold rdBody; rw [if_neg (by omega), if_pos h]
theorem rdBody_none {bs : List Byte} {k id : Int} {R : Rs} (h : k = 2) : rdBody bs k id R = (⟨k, id, 0, 0, 0, 0, 0, 0, 0#16⟩, R) := by unfold rdBody; rw [if_neg (by omega), if_neg (by omega), if_pos h]
theorem rdBody_bad {bs : List Byte} {k id : Int} {R : Rs} (h : ¬ (k = 0 ∨ k = 1 ∨ k = 2 ∨ k = 3)) : rdBody bs k id R = (⟨k, id, 0, 0, 0, 0, 0, 0, 0#16⟩, rFail 11 R) := by unfold rdBody; rw [if_neg (by omega), if_neg (by omega), if_neg (by omega)]
theorem rdRec_rng {bs : List Byte} {last : Int} {R : Rs} (h : last < -1 ∨ 65535 < last) : rdRec bs last R = (recZ, 3, R) := by unfold rdRec; rw [if_pos h]
theorem rdRec_end {bs : List Byte} {last : Int} {R : Rs} (h : last = 65535) : rdRec bs last R = (recZ, (rFail 10 R).e, rFail 10 R) := by unfold rdRec; rw [if_neg (by omega), if_pos h]
theorem rdRec_bad {bs : List Byte} {last : Int} {R RR : Rs} {rr : RecR} (h : ¬ (last < -1 ∨ 65535 < last)) (h2 : last ≠ 65535) (hr : rdRaw bs last R = (rr, RR)) (he : RR.e ≠ 0) : rdRec bs last R = (recZ, RR.e, RR) := by
 unfold rdRec
 rw [if_neg h, if_neg h2, hr, if_pos he]
theorem rdRec_ok {bs : List Byte} {last : Int} {R RR : Rs} {rr : RecR} (h : ¬ (last < -1 ∨ 65535 < last)) (h2 : last ≠ 65535) (hr : rdRaw bs last R = (rr, RR)) (he : RR.e = 0) : rdRec bs last R = (rr, 0, RR) := by
 unfold rdRec
 rw [if_neg h, if_neg h2, hr, if_neg (by simpa using he)]
theorem rdSome_bad {bs : List Byte} {k id : Int} {R : Rs} (h : (rByte bs R).1.toNat = 0 ∨ 127 < (rByte bs R).1.toNat) : rdSome bs k id R = (⟨k, id, 0, 0, 0, 0, 0, 0, 0#16⟩, rFail 7 (rByte bs R).2) := by
 unfold rdSome
 dsimp only
 rw [if_pos h]
theorem rdSome_ok {bs : List Byte} {k id : Int} {R : Rs} {A : BitVec 16} {T : Rs} (h : ¬ ((rByte bs R).1.toNat = 0 ∨ 127 < (rByte bs R).1.toNat)) (hA : upA bs (rByte bs R).1 (upS bs (rByte bs R).1 (rByte bs R).2 6) = (A, T)) : rdSome bs k id R = (⟨k, id, upX bs (rByte bs R).1 (rByte bs R).2 0, upX bs (rByte bs R).1 (rByte bs R).2 1, upX bs (rByte bs R).1 (rByte bs R).2 2, upX bs (rByte bs R).1 (rByte bs R).2 3, upX bs (rByte bs R).1 (rByte bs R).2 4, upX bs (rByte bs R).1 (rByte bs R).2 5, A⟩, T) := by
 unfold rdSome
 dsimp only
 rw [if_neg h, hA]
theorem rId_le {bs : List Byte} {last : Int} {R : Rs} (h : R.p ≤ bs.length) (h1 : -1 ≤ last) (h2 : last < 65535) : (((rUint bs (BitVec.ofInt 64 (65534 - last)) R).1.toNat : Nat) : Int) ≤ 65534 - last := by
 have h3 := (rUint_le (X := BitVec.ofInt 64 (65534 - last)) h).2.2.2.1
 have h4 := ofInt64 (x := 65534 - last) (by omega) (by omega)
 omega
theorem toInt_id {bs : List Byte} {last : Int} {R : Rs} (h : R.p ≤ bs.length) (h1 : -1 ≤ last) (h2 : last < 65535) : (rUint bs (BitVec.ofInt 64 (65534 - last)) R).1.toInt = (((rUint bs (BitVec.ofInt 64 (65534 - last)) R).1.toNat : Nat) : Int) := by
 have := rId_le h h1 h2
 by_cases h5 : 65534 - last ≤ 65535
 · exact toInt_small (by omega)
 · exact toInt_small (by omega)
end Go.Sx

set_option linter.unusedVariables false
set_option linter.unusedSimpArgs false
namespace Go.Sx
structure EntR where
 id : Int
 p0 : Int
 p1 : Int
 p2 : Int
 v0 : Int
 v1 : Int
 v2 : Int
 a : BitVec 16
 g : BitVec 8
instance : Inhabited EntR := ⟨⟨0, 0, 0, 0, 0, 0, 0, 0#16, 0#8⟩⟩
structure EntR.wf (r : EntR) : Prop where
 id : -9223372036854775808 ≤ r.id ∧ r.id ≤ 9223372036854775807
 p0 : -9223372036854775808 ≤ r.p0 ∧ r.p0 ≤ 9223372036854775807
 p1 : -9223372036854775808 ≤ r.p1 ∧ r.p1 ≤ 9223372036854775807
 p2 : -9223372036854775808 ≤ r.p2 ∧ r.p2 ≤ 9223372036854775807
 v0 : -9223372036854775808 ≤ r.v0 ∧ r.v0 ≤ 9223372036854775807
 v1 : -9223372036854775808 ≤ r.v1 ∧ r.v1 ≤ 9223372036854775807
 v2 : -9223372036854775808 ≤ r.v2 ∧ r.v2 ≤ 9223372036854775807
def entV (r : EntR) : List Value := [.int .i64 r.id, .int .i64 r.p0, .int .i64 r.p1, .int .i64 r.p2, .int .i64 r.v0, .int .i64 r.v1, .int .i64 r.v2, .int .u16 ((r.a.toNat : Nat) : Int), .int .u8 ((r.g.toNat : Nat) : Int)]
theorem entV_len (r : EntR) : (entV r).length = 9 := rfl
def entZ : EntR := ⟨0, 0, 0, 0, 0, 0, 0, 0#16, 0#8⟩
def entEq (a b : EntR) : Bool := eqCells (entV a) (entV b)
theorem entV_eq {r s : EntR} : eqCells (entV r) (entV s) = true ↔ r = s := by
 constructor
 · intro h
   cases r; cases s
   simp only [eqCells, entV, vEq, Bool.and_eq_true, beq_iff_eq, Bool.and_true, Bool.true_and] at h
   obtain ⟨h1, h2, h3, h4, h5, h6, h7, h8, h9⟩ := h
   have h8' := BitVec.eq_of_toNat_eq (Int.ofNat.inj h8)
   have h9' := BitVec.eq_of_toNat_eq (Int.ofNat.inj h9)
   subst h1 h2 h3 h4 h5 h6 h7 h8' h9'
   rfl
 · rintro rfl
   simp [eqCells, entV, vEq]
def recDiff (a b : EntR) : RecR × Bool :=
 if entEq a b = true then (recZ, false)
 else if a.g.toNat = b.g.toNat then (⟨1, b.id, IntKind.i64.wrap (b.p0 - a.p0), IntKind.i64.wrap (b.p1 - a.p1), IntKind.i64.wrap (b.p2 - a.p2), IntKind.i64.wrap (b.v0 - a.v0), IntKind.i64.wrap (b.v1 - a.v1), IntKind.i64.wrap (b.v2 - a.v2), b.a - a.a⟩, true)
 else (⟨3, b.id, b.p0, b.p1, b.p2, b.v0, b.v1, b.v2, b.a⟩, true)
def entApply (a : EntR) (r : RecR) : EntR × Nat :=
 if recChk r ≠ 0 then (entZ, recChk r) else if r.id ≠ a.id ∨ r.k = 0 ∨ r.k = 2 then (entZ, 15)
 else if r.k = 3 then (⟨a.id, r.p0, r.p1, r.p2, r.v0, r.v1, r.v2, r.a, a.g + 1#8⟩, 0)
 else (⟨a.id, IntKind.i64.wrap (a.p0 + r.p0), IntKind.i64.wrap (a.p1 + r.p1), IntKind.i64.wrap (a.p2 + r.p2), IntKind.i64.wrap (a.v0 + r.v0), IntKind.i64.wrap (a.v1 + r.v1), IntKind.i64.wrap (a.v2 + r.v2), a.a + r.a, a.g⟩, 0)
theorem wrap_back {x y : Int} (hy : -9223372036854775808 ≤ y ∧ y ≤ 9223372036854775807) : IntKind.i64.wrap (x + IntKind.i64.wrap (y - x)) = y := by
 simp only [IntKind.wrap_i64]
 omega
theorem wrap_zero {x y : Int} (hx : -9223372036854775808 ≤ x ∧ x ≤ 9223372036854775807) (hy : -9223372036854775808 ≤ y ∧ y ≤ 9223372036854775807) (h : IntKind.i64.wrap (y - x) = 0) : y = x := by
 simp only [IntKind.wrap_i64] at h
 omega
theorem wrap_rng (x : Int) : -9223372036854775808 ≤ IntKind.i64.wrap x ∧ IntKind.i64.wrap x ≤ 9223372036854775807 := by
 simp only [IntKind.wrap_i64]
 omega
theorem recDiff_eq {a b : EntR} (h : entEq a b = true) : recDiff a b = (recZ, false) := by unfold recDiff; rw [if_pos h]
theorem recDiff_upd {a b : EntR} (h : entEq a b = false) (h2 : a.g.toNat = b.g.toNat) : recDiff a b = (⟨1, b.id, IntKind.i64.wrap (b.p0 - a.p0), IntKind.i64.wrap (b.p1 - a.p1), IntKind.i64.wrap (b.p2 - a.p2), IntKind.i64.wrap (b.v0 - a.v0), IntKind.i64.wrap (b.v1 - a.v1), IntKind.i64.wrap (b.v2 - a.v2), b.a - a.a⟩, true) := by
 unfold recDiff
 rw [if_neg (by rw [h]; decide), if_pos h2]
theorem recDiff_tel {a b : EntR} (h : entEq a b = false) (h2 : a.g.toNat ≠ b.g.toNat) : recDiff a b = (⟨3, b.id, b.p0, b.p1, b.p2, b.v0, b.v1, b.v2, b.a⟩, true) := by
 unfold recDiff
 rw [if_neg (by rw [h]; decide), if_neg h2]
theorem recDiff_wf {a b : EntR} (hb : b.wf) : (recDiff a b).1.wf := by
 unfold recDiff
 split
 · exact ⟨by decide, by decide, by decide, by decide, by decide, by decide, by decide, by decide⟩
 · split
   · exact ⟨(show -9223372036854775808 ≤ (1 : Int) ∧ (1 : Int) ≤ 9223372036854775807 by decide), hb.id, wrap_rng _, wrap_rng _, wrap_rng _, wrap_rng _, wrap_rng _, wrap_rng _⟩
   · exact ⟨(show -9223372036854775808 ≤ (3 : Int) ∧ (3 : Int) ≤ 9223372036854775807 by decide), hb.id, hb.p0, hb.p1, hb.p2, hb.v0, hb.v1, hb.v2⟩
theorem entApply_chk {a : EntR} {r : RecR} (h : recChk r ≠ 0) : entApply a r = (entZ, recChk r) := by unfold entApply; rw [if_pos h]
theorem entApply_no {a : EntR} {r : RecR} (h : recChk r = 0) (h2 : r.id ≠ a.id ∨ r.k = 0 ∨ r.k = 2) : entApply a r = (entZ, 15) := by unfold entApply; rw [if_neg (by omega), if_pos h2]
theorem entApply_tel {a : EntR} {r : RecR} (h : recChk r = 0) (h2 : ¬ (r.id ≠ a.id ∨ r.k = 0 ∨ r.k = 2)) (h3 : r.k = 3) : entApply a r = (⟨a.id, r.p0, r.p1, r.p2, r.v0, r.v1, r.v2, r.a, a.g + 1#8⟩, 0) := by
 unfold entApply
 rw [if_neg (by omega), if_neg h2, if_pos h3]
theorem entApply_upd {a : EntR} {r : RecR} (h : recChk r = 0) (h2 : ¬ (r.id ≠ a.id ∨ r.k = 0 ∨ r.k = 2)) (h3 : r.k ≠ 3) : entApply a r = (⟨a.id, IntKind.i64.wrap (a.p0 + r.p0), IntKind.i64.wrap (a.p1 + r.p1), IntKind.i64.wrap (a.p2 + r.p2), IntKind.i64.wrap (a.v0 + r.v0), IntKind.i64.wrap (a.v1 + r.v1), IntKind.i64.wrap (a.v2 + r.v2), a.a + r.a, a.g⟩, 0) := by
 unfold entApply
 rw [if_neg (by omega), if_neg h2, if_neg h3]
theorem sub_back16 (x y : BitVec 16) : x + (y - x) = y := by
 apply BitVec.eq_of_toNat_eq
 simp only [BitVec.toNat_add, BitVec.toNat_sub]
 have := x.isLt
 have := y.isLt
 omega
theorem diff_makes {A B : EntR} (ha : A.wf) (hb : B.wf) (hid : 0 ≤ A.id ∧ A.id ≤ 65535) (he : B.id = A.id) (hg : B.g = A.g ∨ B.g = A.g + 1#8) (hne : (recDiff A B).2 = true) :
   entApply A (recDiff A B).1 = (B, 0) ∧ recChk (recDiff A B).1 = 0 ∧ entEq A B = false ∧ ((recDiff A B).1.k = 3 ↔ B.g ≠ A.g) ∧ ((recDiff A B).1.k = 1 ∨ (recDiff A B).1.k = 3) ∧ (recDiff A B).1.id = B.id := by
 cases heq : entEq A B with
 | true => rw [recDiff_eq heq] at hne; cases hne
 | false =>
   have hAB : A ≠ B := fun e => by
     rw [show entEq A B = true from entV_eq.2 e] at heq
     cases heq
   by_cases h2 : A.g.toNat = B.g.toNat
   · have hgg : B.g = A.g := (BitVec.eq_of_toNat_eq h2).symm
     have hemp : recEmpty (⟨1, B.id, IntKind.i64.wrap (B.p0 - A.p0), IntKind.i64.wrap (B.p1 - A.p1), IntKind.i64.wrap (B.p2 - A.p2), IntKind.i64.wrap (B.v0 - A.v0), IntKind.i64.wrap (B.v1 - A.v1), IntKind.i64.wrap (B.v2 - A.v2), B.a - A.a⟩ : RecR) = false := by
       cases hx : recEmpty (⟨1, B.id, IntKind.i64.wrap (B.p0 - A.p0), IntKind.i64.wrap (B.p1 - A.p1), IntKind.i64.wrap (B.p2 - A.p2), IntKind.i64.wrap (B.v0 - A.v0), IntKind.i64.wrap (B.v1 - A.v1), IntKind.i64.wrap (B.v2 - A.v2), B.a - A.a⟩ : RecR) with
       | false => rfl
       | true =>
         exfalso
         simp only [recEmpty, Bool.and_eq_true, beq_iff_eq] at hx
         obtain ⟨⟨⟨⟨⟨⟨e0, e1⟩, e2⟩, e3⟩, e4⟩, e5⟩, e6⟩ := hx
         have e6' : B.a - A.a = 0#16 := a_zero e6
         have e7 : B.a = A.a := by
           have := sub_back16 A.a B.a
           rw [e6'] at this
           simpa using this.symm
         apply hAB
         have f0 := wrap_zero ha.p0 hb.p0 e0
         have f1 := wrap_zero ha.p1 hb.p1 e1
         have f2 := wrap_zero ha.p2 hb.p2 e2
         have f3 := wrap_zero ha.v0 hb.v0 e3
         have f4 := wrap_zero ha.v1 hb.v1 e4
         have f5 := wrap_zero ha.v2 hb.v2 e5
         cases A; cases B; simp_all
     have hc : recChk (⟨1, B.id, IntKind.i64.wrap (B.p0 - A.p0), IntKind.i64.wrap (B.p1 - A.p1), IntKind.i64.wrap (B.p2 - A.p2), IntKind.i64.wrap (B.v0 - A.v0), IntKind.i64.wrap (B.v1 - A.v1), IntKind.i64.wrap (B.v2 - A.v2), B.a - A.a⟩ : RecR) = 0 := by
       unfold recChk
       rw [hemp]
       dsimp only
       rw [if_neg (by omega), if_neg (by omega), if_neg (by simp)]
     rw [recDiff_upd heq h2]
     dsimp only
     refine ⟨?_, hc, rfl, by simp [hgg], by simp, rfl⟩
     rw [entApply_upd hc (by simp [he]) (by simp)]
     simp only [wrap_back hb.p0, wrap_back hb.p1, wrap_back hb.p2, wrap_back hb.v0, wrap_back hb.v1, wrap_back hb.v2, sub_back16]
     rw [← he, ← hgg]
   · have hgg : B.g = A.g + 1#8 := by
       rcases hg with h | h
       · exact absurd (by rw [h]) h2
       · exact h
     have hc : recChk (⟨3, B.id, B.p0, B.p1, B.p2, B.v0, B.v1, B.v2, B.a⟩ : RecR) = 0 := by
       unfold recChk
       dsimp only
       rw [if_neg (by omega), if_neg (by omega), if_neg (by omega)]
     rw [recDiff_tel heq h2]
     dsimp only
     refine ⟨?_, hc, rfl, ?_, by simp, rfl⟩
     · rw [entApply_tel hc (by simp [he]) rfl]
       rw [← he, ← hgg]
     · exact ⟨fun _ e => h2 (by rw [e]), fun _ => rfl⟩
theorem diff_same {A B : EntR} (h : (recDiff A B).2 = false) : A = B := by
 cases heq : entEq A B with
 | true => exact entV_eq.1 heq
 | false =>
   by_cases h2 : A.g.toNat = B.g.toNat
   · rw [recDiff_upd heq h2] at h; cases h
   · rw [recDiff_tel heq h2] at h; cases h
end Go.Sx

set_option linter.unusedVariables false
set_option linter.unusedSimpArgs false
namespace Go.Sx
structure ActR where
 k : Int
 m : BitVec 64
 e : BitVec 8
instance : Inhabited ActR := ⟨⟨0, 0#64, 0#8⟩⟩
theorem flat_len {α : Type} {g : α → List Value} {size : Nat} (hg : ∀ a, (g a).length = size) : ∀ (l : List α), (l.flatMap g).length = l.length * size
 | [] => by simp
 | a :: l => by rw [List.flatMap_cons, List.length_append, hg, flat_len hg l, List.length_cons, Nat.add_mul]; omega
theorem flat_get {α : Type} [Inhabited α] {g : α → List Value} {size : Nat} (hg : ∀ a, (g a).length = size) : ∀ (l : List α) (j : Nat), j < l.length → ((l.flatMap g).drop (j * size)).take size = g (l.getD j default)
 | [], j, h => by simp at h
 | a :: l, 0, _ => by
   simp only [Nat.zero_mul, List.drop_zero, List.flatMap_cons, List.getD_cons_zero]
   rw [← hg a, List.take_left']
   rfl
 | a :: l, j + 1, h => by
   have ih := flat_get hg l j (by simpa using h)
   rw [List.flatMap_cons, show (j + 1) * size = (g a).length + j * size by rw [hg, Nat.add_mul]; omega, ← List.drop_drop, List.drop_left', List.getD_cons_succ]
   · exact ih
   · rfl
theorem flat_get1 {α : Type} [Inhabited α] {g : α → List Value} {size : Nat} (hg : ∀ a, (g a).length = size) (l : List α) (j o : Nat) (h : j < l.length) (ho : o < size) : (l.flatMap g)[j * size + o]? = (g (l.getD j default))[o]? := by
 rw [← flat_get hg l j h, List.getElem?_take, if_pos ho, List.getElem?_drop]
def Tr (bs : List Byte) (u : Value) (p : Nat) (u' : Value) (p' : Nat) : Prop := ∀ w' T, Rd w' T u 1 (bs.length - p) (bytesV (bs.drop p)) → Rd w' T u' 1 (bs.length - p') (bytesV (bs.drop p'))
theorem Tr.refl {bs : List Byte} {u : Value} {p : Nat} : Tr bs u p u p := fun _ _ h => h
theorem Tr.trans {bs : List Byte} {u u2 u3 : Value} {p p2 p3 : Nat} (h : Tr bs u p u2 p2) (h2 : Tr bs u2 p2 u3 p3) : Tr bs u p u3 p3 := fun w T h0 => h2 w T (h w T h0)
theorem vget_some {b : List Byte} (h : b.length = 0) : (vget b).2.2 = 5 := by rw [vget_nil h]
theorem not_len {bs : List Byte} {k : Nat} (h : (vget (bs.drop k)).2.2 ≠ 5) : ¬ bs.length ≤ k := fun h2 => h (vget_some (by simp only [List.length_drop]; omega))
theorem rUint_fine {bs : List Byte} {X : BitVec 64} {R : Rs} (h : R.e = 0) (h1 : (vget (bs.drop R.p)).2.2 = 0) (h2 : (vget (bs.drop R.p)).1.toNat ≤ X.toNat) : rUint bs X R = ((vget (bs.drop R.p)).1, ⟨R.p + (vget (bs.drop R.p)).2.1, 0⟩) := by
 have hu : uerr (bs.drop R.p) X = 0 := by unfold uerr; rw [if_neg (fun h => by omega)]; exact h1
 exact rUint_good h (not_len (by omega)) hu
theorem rVec_le' {bs : List Byte} {R : Rs} (h : R.p ≤ bs.length) : (rInt bs (rInt bs (rInt bs R).2).2).2.p ≤ bs.length ∧ R.p ≤ (rInt bs (rInt bs (rInt bs R).2).2).2.p ∧ (rInt bs (rInt bs (rInt bs R).2).2).2.p ≤ R.p + 30 := rVec_le h
end Go.Sx

set_option linter.unusedVariables false
set_option linter.unusedSimpArgs false
namespace Go.Sx
structure Takes {α : Type} (bs : List Byte) (c : List Byte) (f : Rs → α × Rs) (v : α) : Prop where
 stay : ∀ R, R.e = 6 → (f R).2.e = 6
 good : ∀ R n rest, R.e = 0 → R.p ≤ bs.length → bs.drop R.p = (c ++ rest).take n → c.length ≤ n → f R = (v, ⟨R.p + c.length, 0⟩)
 short : ∀ R n rest, R.e = 0 → R.p ≤ bs.length → bs.drop R.p = (c ++ rest).take n → n < c.length → (f R).2.e = 6
theorem drop_on {bs c rest : List Byte} {p n : Nat} (h : bs.drop p = (c ++ rest).take n) (hn : c.length ≤ n) (hp : p ≤ bs.length) : bs.drop (p + c.length) = rest.take (n - c.length) ∧ p + c.length ≤ bs.length := by
 have h1 : bs.drop (p + c.length) = (bs.drop p).drop c.length := by rw [List.drop_drop]
 have h2 := congrArg List.length h
 simp only [List.length_drop, List.length_take, List.length_append] at h2
 refine ⟨?_, by omega⟩
 rw [h1, h, List.take_append, List.drop_append_of_le_length (by rw [List.length_take]; omega), List.take_of_length_le hn, List.drop_length, List.nil_append]
theorem Takes.bind {α β : Type} {bs c d : List Byte} {f : Rs → α × Rs} {g : α → Rs → β × Rs} {v : α} {u : β} (hf : Takes bs c f v) (hs : ∀ x R, R.e = 6 → (g x R).2.e = 6) (hg : Takes bs d (g v) u) : Takes bs (c ++ d) (fun R => g (f R).1 (f R).2) u := by
 refine ⟨fun R h => hs _ _ (hf.stay R h), fun R n rest h0 hp hd hn => ?_, fun R n rest h0 hp hd hn => ?_⟩
 · rw [List.append_assoc] at hd
   rw [List.length_append] at hn
   have h1 := hf.good R n _ h0 hp hd (by omega)
   obtain ⟨h2, h3⟩ := drop_on hd (by omega) hp
   rw [h1]
   dsimp only
   rw [hg.good ⟨R.p + c.length, 0⟩ (n - c.length) rest rfl h3 h2 (by omega), List.length_append]
   dsimp only
   rw [Nat.add_assoc]
 · rw [List.append_assoc] at hd
   rw [List.length_append] at hn
   by_cases hc : c.length ≤ n
   · have h1 := hf.good R n _ h0 hp hd hc
     obtain ⟨h2, h3⟩ := drop_on hd hc hp
     rw [h1]
     exact hg.short ⟨R.p + c.length, 0⟩ (n - c.length) rest rfl h3 h2 (by omega)
   · exact hs _ _ (hf.short R n _ h0 hp hd (by omega))
theorem Takes.pure {α : Type} {bs : List Byte} (v : α) : Takes bs [] (fun R => (v, R)) v := by
 refine ⟨fun R h => h, fun R n rest h0 hp hd hn => ?_, fun R n rest h0 hp hd hn => ?_⟩
 · cases R; simp at h0; subst h0; rfl
 · simp at hn
theorem takes_uint {bs : List Byte} {X L : BitVec 64} (h : X.toNat ≤ L.toNat) : Takes bs (vput X.toNat) (rUint bs L) X := by
 have hvp := vlen_pos X.toNat
 have hl : (vput X.toNat).length = vlen X.toNat := rfl
 refine ⟨fun R h => by rw [rUint_err (by omega)]; exact h, fun R n rest h0 hp hd hn => ?_, fun R n rest h0 hp hd hn => ?_⟩
 · have hd2 : bs.drop R.p = vput X.toNat ++ rest.take (n - (vput X.toNat).length) := by rw [hd, List.take_append, List.take_of_length_le hn]
   have hg := vget_put X (rest.take (n - (vput X.toNat).length))
   rw [← hd2] at hg
   rw [rUint_fine h0 (by rw [hg]) (by rw [hg]; exact h), hg]
   rfl
 · have hd2 : bs.drop R.p = (vput X.toNat).take n := by rw [hd, List.take_append, show n - (vput X.toNat).length = 0 by omega]; simp
   by_cases h1 : bs.length ≤ R.p
   · rw [rUint_short h0 h1]
   · have hn0 : 1 ≤ n := by
       have := congrArg List.length hd2
       simp only [List.length_drop, List.length_take] at this
       omega
     have hg := vget_part X n hn0 (by omega)
     rw [← hd2] at hg
     have hu : uerr (bs.drop R.p) L = 6 := by unfold uerr; rw [hg]; simp
     rw [rUint_bad h0 h1 (by omega), hu]
theorem takes_byte {bs : List Byte} {c : Byte} : Takes bs [c] (rByte bs) c := by
 refine ⟨fun R h => by rw [rByte_err (by omega)]; exact h, fun R n rest h0 hp hd hn => ?_, fun R n rest h0 hp hd hn => ?_⟩
 · have hd2 : bs.drop R.p = c :: rest.take (n - 1) := by
     rw [hd]
     simp only [List.length_singleton] at hn
     rw [show n = (n - 1) + 1 by omega]
     simp
   have hl := congrArg List.length hd2
   simp only [List.length_drop, List.length_cons] at hl
   have hg : bs.getD R.p 0 = c := by
     have := congrArg (fun l : List Byte => l.getD 0 0) hd2
     simpa [List.getD_eq_getElem?_getD] using this
   rw [rByte_good h0 (by omega), hg]
   rfl
 · simp only [List.length_singleton] at hn
   have hn0 : n = 0 := by omega
   subst hn0
   have hl := congrArg List.length hd
   simp at hl
   rw [rByte_short h0 (by omega)]
theorem takes_int {bs : List Byte} {x : Int} (h : -9223372036854775808 ≤ x ∧ x ≤ 9223372036854775807) : Takes bs (numB x) (rInt bs) x := by
 have ht := takes_uint (bs := bs) (X := zigI x) (L := 18446744073709551615#64) (by have := (zigI x).isLt; have h2 : (18446744073709551615#64).toNat = 18446744073709551615 := rfl; omega)
 refine ⟨fun R h => ht.stay R h, fun R n rest h0 hp hd hn => ?_, fun R n rest h0 hp hd hn => ht.short R n rest h0 hp hd hn⟩
 have := ht.good R n rest h0 hp hd hn
 unfold rInt
 rw [this, zag_zig x h]
 rfl
theorem rFail_six {e : Nat} {R : Rs} (h : R.e = 6) : (rFail e R).e = 6 := by unfold rFail; rw [if_neg (by omega)]; exact h
theorem upI_six {bs : List Byte} {m : BitVec 8} {i : Nat} {R : Rs} (h : R.e = 6) : (upI bs m i R).2.e = 6 := by
 have h1 := (rInt_stay (bs := bs) (R := R) (by omega)).2.1
 unfold upI
 split
 · dsimp only
   split
   · exact rFail_six (by omega)
   · omega
 · exact h
theorem upA_six {bs : List Byte} {m : BitVec 8} {R : Rs} (h : R.e = 6) : (upA bs m R).2.e = 6 := by
 have h1 := (rUint_stay (bs := bs) (X := 65535#64) (R := R) (by omega)).2.1
 unfold upA
 split
 · dsimp only
   split
   · exact rFail_six (by omega)
   · omega
 · exact h
def upC (r : RecR) (i : Nat) : List Byte := if r.num i = 0 then [] else numB (r.num i)
theorem takes_up {bs : List Byte} {m : BitVec 8} {r : RecR} {i : Nat} (hm : upBit m i = true ↔ r.num i ≠ 0) (h : -9223372036854775808 ≤ r.num i ∧ r.num i ≤ 9223372036854775807) : Takes bs (upC r i) (upI bs m i) (r.num i) := by
 by_cases h0 : r.num i = 0
 · have hb : upBit m i = false := by
     cases hb : upBit m i with
     | false => rfl
     | true => exact absurd h0 (hm.1 hb)
   have : upI bs m i = fun R => (0, R) := by
     funext R
     unfold upI
     rw [if_neg (by rw [hb]; decide)]
   rw [this, upC, if_pos h0, h0]
   exact Takes.pure 0
 · have hb := hm.2 h0
   have ht := takes_int (bs := bs) h
   rw [upC, if_neg h0]
   refine ⟨fun R h => upI_six h, fun R n rest h1 hp hd hn => ?_, fun R n rest h1 hp hd hn => ?_⟩
   · have := ht.good R n rest h1 hp hd hn
     unfold upI
     rw [if_pos hb, this]
     dsimp only
     rw [if_neg h0]
   · have := ht.short R n rest h1 hp hd hn
     unfold upI
     rw [if_pos hb]
     dsimp only
     split
     · exact rFail_six this
     · exact this
theorem takes_a {bs : List Byte} {a : BitVec 16} : Takes bs (vput a.toNat) (fun R => ((rUint bs 65535#64 R).1.setWidth 16, (rUint bs 65535#64 R).2)) a := by
 have ht := takes_uint (bs := bs) (X := a.setWidth 64) (L := 65535#64) (by rw [sw64]; have := a.isLt; have h2 : (65535#64).toNat = 65535 := rfl; omega)
 rw [sw64] at ht
 refine ⟨fun R h => ht.stay R h, fun R n rest h0 hp hd hn => ?_, fun R n rest h0 hp hd hn => ht.short R n rest h0 hp hd hn⟩
 have := ht.good R n rest h0 hp hd hn
 rw [this]
 dsimp only
 congr 1
 apply BitVec.eq_of_toNat_eq
 simp
theorem takes_upA {bs : List Byte} {m : BitVec 8} {a : BitVec 16} (hm : upBit m 6 = true ↔ a ≠ 0#16) : Takes bs (if a = 0#16 then [] else vput a.toNat) (upA bs m) a := by
 by_cases h0 : a = 0#16
 · have hb : upBit m 6 = false := by
     cases hb : upBit m 6 with
     | false => rfl
     | true => exact absurd h0 (hm.1 hb)
   have : upA bs m = fun R => (0#16, R) := by
     funext R
     unfold upA
     rw [if_neg (by rw [hb]; decide)]
   rw [this, if_pos h0, h0]
   exact Takes.pure _
 · have hb := hm.2 h0
   rw [if_neg h0]
   have ht := takes_uint (bs := bs) (X := a.setWidth 64) (L := 65535#64) (by rw [sw64]; have := a.isLt; have h2 : (65535#64).toNat = 65535 := rfl; omega)
   rw [sw64] at ht
   have hne : a.setWidth 64 ≠ 0#64 := fun e => h0 (BitVec.eq_of_toNat_eq (by rw [← sw64 a, e]; rfl))
   refine ⟨fun R h => upA_six h, fun R n rest h1 hp hd hn => ?_, fun R n rest h1 hp hd hn => ?_⟩
   · have := ht.good R n rest h1 hp hd hn
     unfold upA
     rw [if_pos hb, this]
     dsimp only
     rw [if_neg hne]
     congr 1
     apply BitVec.eq_of_toNat_eq
     simp
   · have := ht.short R n rest h1 hp hd hn
     unfold upA
     rw [if_pos hb]
     dsimp only
     split
     · exact rFail_six this
     · exact this
/-! ### The mask -/
def maskOf (b0 b1 b2 b3 b4 b5 b6 : Bool) : BitVec 8 :=
 let m0 := bif b0 then 0#8 ||| (1#8 <<< 0) else 0#8
 let m1 := bif b1 then m0 ||| (1#8 <<< 1) else m0
 let m2 := bif b2 then m1 ||| (1#8 <<< 2) else m1
 let m3 := bif b3 then m2 ||| (1#8 <<< 3) else m2
 let m4 := bif b4 then m3 ||| (1#8 <<< 4) else m3
 let m5 := bif b5 then m4 ||| (1#8 <<< 5) else m4
 bif b6 then m5 ||| 64#8 else m5
theorem ite_bif {α : Type} {p : Prop} [Decidable p] (x y : α) : (if p then x else y) = bif decide (¬ p) then y else x := by by_cases h : p <;> simp [h]
theorem mask_of (r : RecR) : upMask7 r = maskOf (decide (r.p0 ≠ 0)) (decide (r.p1 ≠ 0)) (decide (r.p2 ≠ 0)) (decide (r.v0 ≠ 0)) (decide (r.v1 ≠ 0)) (decide (r.v2 ≠ 0)) (decide (r.a ≠ 0#16)) := by
 simp only [upMask7, upMask, RecR.num, maskOf, ite_bif]
theorem maskOf_bits : ∀ b0 b1 b2 b3 b4 b5 b6 : Bool, upBit (maskOf b0 b1 b2 b3 b4 b5 b6) 0 = b0 ∧ upBit (maskOf b0 b1 b2 b3 b4 b5 b6) 1 = b1 ∧ upBit (maskOf b0 b1 b2 b3 b4 b5 b6) 2 = b2 ∧ upBit (maskOf b0 b1 b2 b3 b4 b5 b6) 3 = b3 ∧ upBit (maskOf b0 b1 b2 b3 b4 b5 b6) 4 = b4 ∧ upBit (maskOf b0 b1 b2 b3 b4 b5 b6) 5 = b5 ∧ upBit (maskOf b0 b1 b2 b3 b4 b5 b6) 6 = b6 ∧ (maskOf b0 b1 b2 b3 b4 b5 b6).toNat ≤ 127 ∧ ((maskOf b0 b1 b2 b3 b4 b5 b6).toNat = 0 → b0 = false ∧ b1 = false ∧ b2 = false ∧ b3 = false ∧ b4 = false ∧ b5 = false ∧ b6 = false) := by
 intro b0 b1 b2 b3 b4 b5 b6
 cases b0 <;> cases b1 <;> cases b2 <;> cases b3 <;> cases b4 <;> cases b5 <;> cases b6 <;> exact ⟨by decide, by decide, by decide, by decide, by decide, by decide, by decide, by decide, by decide⟩
theorem maskOf_back : ∀ q : BitVec 8, q.toNat ≤ 127 → maskOf (upBit q 0) (upBit q 1) (upBit q 2) (upBit q 3) (upBit q 4) (upBit q 5) (upBit q 6) = q := by decide +kernel
theorem mask_bits (r : RecR) : (∀ i, i < 6 → (upBit (upMask7 r) i = true ↔ r.num i ≠ 0)) ∧ (upBit (upMask7 r) 6 = true ↔ r.a ≠ 0#16) ∧ (upMask7 r).toNat ≤ 127 ∧ ((upMask7 r).toNat = 0 → recEmpty r = true) := by
 have h := maskOf_bits (decide (r.p0 ≠ 0)) (decide (r.p1 ≠ 0)) (decide (r.p2 ≠ 0)) (decide (r.v0 ≠ 0)) (decide (r.v1 ≠ 0)) (decide (r.v2 ≠ 0)) (decide (r.a ≠ 0#16))
 rw [← mask_of] at h
 obtain ⟨h0, h1, h2, h3, h4, h5, h6, h7, h8⟩ := h
 refine ⟨fun i hi => ?_, by rw [h6, decide_eq_true_iff], h7, fun hz => ?_⟩
 · match i, hi with
   | 0, _ => rw [h0, decide_eq_true_iff]; rfl
   | 1, _ => rw [h1, decide_eq_true_iff]; rfl
   | 2, _ => rw [h2, decide_eq_true_iff]; rfl
   | 3, _ => rw [h3, decide_eq_true_iff]; rfl
   | 4, _ => rw [h4, decide_eq_true_iff]; rfl
   | 5, _ => rw [h5, decide_eq_true_iff]; rfl
 · obtain ⟨e0, e1, e2, e3, e4, e5, e6⟩ := h8 hz
   simp only [decide_eq_false_iff_not, ne_eq, Decidable.not_not] at e0 e1 e2 e3 e4 e5 e6
   simp [recEmpty, e0, e1, e2, e3, e4, e5, e6]
/-! ### The bodies -/
theorem RecR.wf.num {r : RecR} (h : r.wf) (i : Nat) : -9223372036854775808 ≤ r.num i ∧ r.num i ≤ 9223372036854775807 := by
 match i with
 | 0 => exact h.p0
 | 1 => exact h.p1
 | 2 => exact h.p2
 | 3 => exact h.v0
 | 4 => exact h.v1
 | _ + 5 => exact h.v2
theorem rInt_six {bs : List Byte} {R : Rs} (h : R.e = 6) : (rInt bs R).2.e = 6 := by have := (rInt_stay (bs := bs) (R := R) (by omega)).2.1; omega
theorem rUint_six {bs : List Byte} {X : BitVec 64} {R : Rs} (h : R.e = 6) : (rUint bs X R).2.e = 6 := by have := (rUint_stay (bs := bs) (X := X) (R := R) (by omega)).2.1; omega
theorem rByte_six {bs : List Byte} {R : Rs} (h : R.e = 6) : (rByte bs R).2.e = 6 := by have := (rByte_stay (bs := bs) (R := R) (by omega)).2.1; omega
theorem takes_all {bs : List Byte} {r : RecR} (hw : r.wf) : Takes bs (recAll r) (rdAll bs r.k r.id) r := by
 have h6 := (takes_a (bs := bs) (a := r.a)).bind (g := fun x R => ((⟨r.k, r.id, r.p0, r.p1, r.p2, r.v0, r.v1, r.v2, x⟩ : RecR), R)) (fun x R h => h) (Takes.pure _)
 have h5 := (takes_int (bs := bs) hw.v2).bind (g := fun x R => ((⟨r.k, r.id, r.p0, r.p1, r.p2, r.v0, r.v1, x, (rUint bs 65535#64 R).1.setWidth 16⟩ : RecR), (rUint bs 65535#64 R).2)) (fun x R h => rUint_six h) h6
 have h4 := (takes_int (bs := bs) hw.v1).bind (g := fun x R => ((⟨r.k, r.id, r.p0, r.p1, r.p2, r.v0, x, (rInt bs R).1, (rUint bs 65535#64 (rInt bs R).2).1.setWidth 16⟩ : RecR), (rUint bs 65535#64 (rInt bs R).2).2)) (fun x R h => rUint_six (rInt_six h)) h5
 have h3 := (takes_int (bs := bs) hw.v0).bind (g := fun x R => ((⟨r.k, r.id, r.p0, r.p1, r.p2, x, (rInt bs R).1, (rInt bs (rInt bs R).2).1, (rUint bs 65535#64 (rInt bs (rInt bs R).2).2).1.setWidth 16⟩ : RecR), (rUint bs 65535#64 (rInt bs (rInt bs R).2).2).2)) (fun x R h => rUint_six (rInt_six (rInt_six h))) h4
 have h2 := (takes_int (bs := bs) hw.p2).bind (g := fun x R => ((⟨r.k, r.id, r.p0, r.p1, x, (rInt bs R).1, (rInt bs (rInt bs R).2).1, (rInt bs (rInt bs (rInt bs R).2).2).1, (rUint bs 65535#64 (rInt bs (rInt bs (rInt bs R).2).2).2).1.setWidth 16⟩ : RecR), (rUint bs 65535#64 (rInt bs (rInt bs (rInt bs R).2).2).2).2)) (fun x R h => rUint_six (rInt_six (rInt_six (rInt_six h)))) h3
 have h1 := (takes_int (bs := bs) hw.p1).bind (g := fun x R => ((⟨r.k, r.id, r.p0, x, (rInt bs R).1, (rInt bs (rInt bs R).2).1, (rInt bs (rInt bs (rInt bs R).2).2).1, (rInt bs (rInt bs (rInt bs (rInt bs R).2).2).2).1, (rUint bs 65535#64 (rInt bs (rInt bs (rInt bs (rInt bs R).2).2).2).2).1.setWidth 16⟩ : RecR), (rUint bs 65535#64 (rInt bs (rInt bs (rInt bs (rInt bs R).2).2).2).2).2)) (fun x R h => rUint_six (rInt_six (rInt_six (rInt_six (rInt_six h))))) h2
 have h0 := (takes_int (bs := bs) hw.p0).bind (g := fun x R => ((⟨r.k, r.id, x, (rInt bs R).1, (rInt bs (rInt bs R).2).1, (rInt bs (rInt bs (rInt bs R).2).2).1, (rInt bs (rInt bs (rInt bs (rInt bs R).2).2).2).1, (rInt bs (rInt bs (rInt bs (rInt bs (rInt bs R).2).2).2).2).1, (rUint bs 65535#64 (rInt bs (rInt bs (rInt bs (rInt bs (rInt bs R).2).2).2).2).2).1.setWidth 16⟩ : RecR), (rUint bs 65535#64 (rInt bs (rInt bs (rInt bs (rInt bs (rInt bs R).2).2).2).2).2).2)) (fun x R h => rUint_six (rInt_six (rInt_six (rInt_six (rInt_six (rInt_six h)))))) h1
 have e : rdAll bs r.k r.id = fun R => ((⟨r.k, r.id, (rInt bs R).1, (rInt bs (rInt bs R).2).1, (rInt bs (rInt bs (rInt bs R).2).2).1, (rInt bs (rInt bs (rInt bs (rInt bs R).2).2).2).1, (rInt bs (rInt bs (rInt bs (rInt bs (rInt bs R).2).2).2).2).1, (rInt bs (rInt bs (rInt bs (rInt bs (rInt bs (rInt bs R).2).2).2).2).2).1, (rUint bs 65535#64 (rInt bs (rInt bs (rInt bs (rInt bs (rInt bs (rInt bs R).2).2).2).2).2).2).1.setWidth 16⟩ : RecR), (rUint bs 65535#64 (rInt bs (rInt bs (rInt bs (rInt bs (rInt bs (rInt bs R).2).2).2).2).2).2).2) := by
   funext R
   simp only [rdAll, nX, nS]
 rw [e]
 simpa [recAll, List.append_assoc] using h0
end Go.Sx

set_option linter.unusedVariables false
set_option linter.unusedSimpArgs false
namespace Go.Sx
theorem upS_six {bs : List Byte} {m : BitVec 8} {R : Rs} (h : R.e = 6) : ∀ i, (upS bs m R i).e = 6
 | 0 => h
 | i + 1 => upI_six (upS_six h i)
def upRun (bs : List Byte) (k id : Int) (m : BitVec 8) (R : Rs) : RecR × Rs :=
 if m.toNat = 0 ∨ 127 < m.toNat then (⟨k, id, 0, 0, 0, 0, 0, 0, 0#16⟩, rFail 7 R)
 else (⟨k, id, upX bs m R 0, upX bs m R 1, upX bs m R 2, upX bs m R 3, upX bs m R 4, upX bs m R 5, (upA bs m (upS bs m R 6)).1⟩, (upA bs m (upS bs m R 6)).2)
theorem rdSome_run (bs : List Byte) (k id : Int) : rdSome bs k id = fun R => upRun bs k id (rByte bs R).1 (rByte bs R).2 := by
 funext R
 unfold rdSome upRun
 rfl
theorem upRun_six {bs : List Byte} {k id : Int} {m : BitVec 8} {R : Rs} (h : R.e = 6) : (upRun bs k id m R).2.e = 6 := by
 unfold upRun
 split
 · exact rFail_six h
 · exact upA_six (upS_six h 6)
theorem upRest_chunks (r : RecR) : upRest r 6 = upC r 0 ++ (upC r 1 ++ (upC r 2 ++ (upC r 3 ++ (upC r 4 ++ upC r 5)))) := by
 have h : ∀ i, upRest r (i + 1) = upRest r i ++ upC r i := fun i => by
   show (if r.num i = 0 then _ else _) = _
   unfold upC
   split <;> simp
 rw [h 5, h 4, h 3, h 2, h 1, h 0]
 simp [upRest]
def upW (r : RecR) : List Byte := if r.a = 0#16 then [] else vput r.a.toNat
theorem recSome_eq (r : RecR) : recSome r = [upMask7 r] ++ (upC r 0 ++ (upC r 1 ++ (upC r 2 ++ (upC r 3 ++ (upC r 4 ++ (upC r 5 ++ upW r)))))) := by
 unfold recSome upRest7 upW
 rw [upRest_chunks]
 split <;> simp
theorem takes_some {bs : List Byte} {r : RecR} (hw : r.wf) (hne : recEmpty r = false) : Takes bs (recSome r) (rdSome bs r.k r.id) r := by
 obtain ⟨hb, h6, h7, h8⟩ := mask_bits r
 have hm0 : ¬ ((upMask7 r).toNat = 0 ∨ 127 < (upMask7 r).toNat) := by
   rintro (h | h)
   · rw [h8 h] at hne; cases hne
   · omega
 rw [recSome_eq, rdSome_run]
 refine takes_byte.bind (g := fun m R => upRun bs r.k r.id m R) (fun x R h => upRun_six h) ?_
 generalize hM : upMask7 r = m at *
 have e : (fun R => upRun bs r.k r.id m R) = fun R => (⟨r.k, r.id, (upI bs m 0 R).1, (upI bs m 1 (upI bs m 0 R).2).1, (upI bs m 2 (upI bs m 1 (upI bs m 0 R).2).2).1, (upI bs m 3 (upI bs m 2 (upI bs m 1 (upI bs m 0 R).2).2).2).1, (upI bs m 4 (upI bs m 3 (upI bs m 2 (upI bs m 1 (upI bs m 0 R).2).2).2).2).1, (upI bs m 5 (upI bs m 4 (upI bs m 3 (upI bs m 2 (upI bs m 1 (upI bs m 0 R).2).2).2).2).2).1, (upA bs m (upI bs m 5 (upI bs m 4 (upI bs m 3 (upI bs m 2 (upI bs m 1 (upI bs m 0 R).2).2).2).2).2).2).1⟩, (upA bs m (upI bs m 5 (upI bs m 4 (upI bs m 3 (upI bs m 2 (upI bs m 1 (upI bs m 0 R).2).2).2).2).2).2).2) := by
   funext R
   unfold upRun
   rw [if_neg hm0]
   rfl
 rw [e]
 have hn := fun i hi => takes_up (bs := bs) (hb i hi) (hw.num i)
 have q6 := (takes_upA (bs := bs) h6).bind (g := fun x R => ((⟨r.k, r.id, r.p0, r.p1, r.p2, r.v0, r.v1, r.v2, x⟩ : RecR), R)) (fun x R h => h) (Takes.pure _)
 have q5 := (hn 5 (by omega)).bind (g := fun x R => ((⟨r.k, r.id, r.p0, r.p1, r.p2, r.v0, r.v1, x, (upA bs m R).1⟩ : RecR), (upA bs m R).2)) (fun x R h => upA_six h) q6
 have q4 := (hn 4 (by omega)).bind (g := fun x R => ((⟨r.k, r.id, r.p0, r.p1, r.p2, r.v0, x, (upI bs m 5 R).1, (upA bs m (upI bs m 5 R).2).1⟩ : RecR), (upA bs m (upI bs m 5 R).2).2)) (fun x R h => upA_six (upI_six h)) q5
 have q3 := (hn 3 (by omega)).bind (g := fun x R => ((⟨r.k, r.id, r.p0, r.p1, r.p2, x, (upI bs m 4 R).1, (upI bs m 5 (upI bs m 4 R).2).1, (upA bs m (upI bs m 5 (upI bs m 4 R).2).2).1⟩ : RecR), (upA bs m (upI bs m 5 (upI bs m 4 R).2).2).2)) (fun x R h => upA_six (upI_six (upI_six h))) q4
 have q2 := (hn 2 (by omega)).bind (g := fun x R => ((⟨r.k, r.id, r.p0, r.p1, x, (upI bs m 3 R).1, (upI bs m 4 (upI bs m 3 R).2).1, (upI bs m 5 (upI bs m 4 (upI bs m 3 R).2).2).1, (upA bs m (upI bs m 5 (upI bs m 4 (upI bs m 3 R).2).2).2).1⟩ : RecR), (upA bs m (upI bs m 5 (upI bs m 4 (upI bs m 3 R).2).2).2).2)) (fun x R h => upA_six (upI_six (upI_six (upI_six h)))) q3
 have q1 := (hn 1 (by omega)).bind (g := fun x R => ((⟨r.k, r.id, r.p0, x, (upI bs m 2 R).1, (upI bs m 3 (upI bs m 2 R).2).1, (upI bs m 4 (upI bs m 3 (upI bs m 2 R).2).2).1, (upI bs m 5 (upI bs m 4 (upI bs m 3 (upI bs m 2 R).2).2).2).1, (upA bs m (upI bs m 5 (upI bs m 4 (upI bs m 3 (upI bs m 2 R).2).2).2).2).1⟩ : RecR), (upA bs m (upI bs m 5 (upI bs m 4 (upI bs m 3 (upI bs m 2 R).2).2).2).2).2)) (fun x R h => upA_six (upI_six (upI_six (upI_six (upI_six h))))) q2
 have q0 := (hn 0 (by omega)).bind (g := fun x R => ((⟨r.k, r.id, x, (upI bs m 1 R).1, (upI bs m 2 (upI bs m 1 R).2).1, (upI bs m 3 (upI bs m 2 (upI bs m 1 R).2).2).1, (upI bs m 4 (upI bs m 3 (upI bs m 2 (upI bs m 1 R).2).2).2).1, (upI bs m 5 (upI bs m 4 (upI bs m 3 (upI bs m 2 (upI bs m 1 R).2).2).2).2).1, (upA bs m (upI bs m 5 (upI bs m 4 (upI bs m 3 (upI bs m 2 (upI bs m 1 R).2).2).2).2).2).1⟩ : RecR), (upA bs m (upI bs m 5 (upI bs m 4 (upI bs m 3 (upI bs m 2 (upI bs m 1 R).2).2).2).2).2).2)) (fun x R h => upA_six (upI_six (upI_six (upI_six (upI_six (upI_six h)))))) q1
 simpa [upW, RecR.num] using q0
theorem empty_zero {r : RecR} (h : recEmpty r = true) : r = ⟨r.k, r.id, 0, 0, 0, 0, 0, 0, 0#16⟩ := by
 simp only [recEmpty, Bool.and_eq_true, beq_iff_eq] at h
 obtain ⟨⟨⟨⟨⟨⟨e0, e1⟩, e2⟩, e3⟩, e4⟩, e5⟩, e6⟩ := h
 have e6' := a_zero e6
 cases r
 simp_all
theorem recChk_parts {r : RecR} (h : recChk r = 0) : 0 ≤ r.k ∧ r.k ≤ 3 ∧ 0 ≤ r.id ∧ r.id ≤ 65535 ∧ (r.k = 1 → recEmpty r = false) ∧ (r.k = 2 → recEmpty r = true) := by
 unfold recChk at h
 split at h
 · cases h
 · split at h
   · cases h
   · split at h
     · cases h
     · rename_i h1 h2 h3
       refine ⟨by omega, by omega, by omega, by omega, fun hk => ?_, fun hk => ?_⟩
       · cases he : recEmpty r with
         | false => rfl
         | true => exact absurd (.inl ⟨hk, he⟩) h3
       · cases he : recEmpty r with
         | true => rfl
         | false => exact absurd (.inr ⟨hk, he⟩) h3
theorem rdAll_six {bs : List Byte} {k id : Int} {R : Rs} (h : R.e = 6) : (rdAll bs k id R).2.e = 6 := by
 simp only [rdAll, nS]
 exact rUint_six (rInt_six (rInt_six (rInt_six (rInt_six (rInt_six (rInt_six h))))))
theorem rdBody_six {bs : List Byte} {k id : Int} {R : Rs} (h : R.e = 6) : (rdBody bs k id R).2.e = 6 := by
 unfold rdBody
 split
 · exact rdAll_six h
 · split
   · rw [rdSome_run]; exact upRun_six (rByte_six h)
   · split
     · exact h
     · exact rFail_six h
theorem takes_body {bs : List Byte} {r : RecR} (hw : r.wf) (hc : recChk r = 0) : Takes bs (recBody r) (rdBody bs r.k r.id) r := by
 obtain ⟨h1, h2, h3, h4, h5, h6⟩ := recChk_parts hc
 by_cases hk1 : r.k = 1
 · have : rdBody bs r.k r.id = rdSome bs r.k r.id := by funext R; exact rdBody_some hk1
   rw [this, recBody, if_pos hk1]
   exact takes_some hw (h5 hk1)
 · by_cases hk2 : r.k = 2
   · have : rdBody bs r.k r.id = fun R => (r, R) := by
       funext R
       rw [rdBody_none hk2]
       exact congrArg (·, R) (empty_zero (h6 hk2)).symm
     rw [this, recBody, if_neg hk1, if_pos hk2]
     exact Takes.pure r
   · have : rdBody bs r.k r.id = rdAll bs r.k r.id := by funext R; exact rdBody_all (by omega)
     rw [this, recBody, if_neg hk1, if_neg hk2]
     exact takes_all hw
theorem recErr_parts {r : RecR} {last : Int} (h : recErr r last = 0) : recChk r = 0 ∧ -1 ≤ last ∧ last ≤ 65535 ∧ last < r.id := by
 unfold recErr at h
 split at h
 · omega
 · split at h
   · cases h
   · split at h
     · cases h
     · omega
theorem takes_raw {bs : List Byte} {r : RecR} {last : Int} (hw : r.wf) (he : recErr r last = 0) : Takes bs (recB r last) (rdRaw bs last) r := by
 obtain ⟨hc, h1, h2, h3⟩ := recErr_parts he
 obtain ⟨c1, c2, c3, c4, _, _⟩ := recChk_parts hc
 have hX : (((BitVec.ofInt 64 (r.id - last - 1)).toNat : Nat) : Int) = r.id - last - 1 := ofInt64 (by omega) (by omega)
 have hL : (((BitVec.ofInt 64 (65534 - last)).toNat : Nat) : Int) = 65534 - last := ofInt64 (by omega) (by omega)
 have hk : (((BitVec.ofInt 8 r.k).toNat : Nat) : Int) = r.k := by rw [BitVec.toNat_ofInt]; omega
 rw [recB, if_neg (by omega), recHead, List.append_assoc]
 have q2 := takes_body (bs := bs) hw hc
 have e2 : rdBody bs r.k r.id = (fun (x : Byte) R => rdBody bs (((x.toNat : Nat) : Int)) (last + 1 + (((BitVec.ofInt 64 (r.id - last - 1)).toNat : Nat) : Int)) R) (BitVec.ofInt 8 r.k) := by
   funext R
   dsimp only
   rw [hk, hX, show last + 1 + (r.id - last - 1) = r.id by omega]
 rw [e2] at q2
 have q1 := (takes_byte (bs := bs) (c := BitVec.ofInt 8 r.k)).bind (g := fun (x : Byte) R => rdBody bs ((x.toNat : Nat) : Int) (last + 1 + (((BitVec.ofInt 64 (r.id - last - 1)).toNat : Nat) : Int)) R) (fun x R h => rdBody_six h) q2
 have q0 := (takes_uint (bs := bs) (X := BitVec.ofInt 64 (r.id - last - 1)) (L := BitVec.ofInt 64 (65534 - last)) (by omega)).bind
   (g := fun X R => rdBody bs (((rByte bs R).1.toNat : Nat) : Int) (last + 1 + ((X.toNat : Nat) : Int)) (rByte bs R).2) (fun x R h => rdBody_six (rByte_six h)) q1
 exact q0
theorem rd_take {bs rest : List Byte} {r : RecR} {last : Int} {p n : Nat} (hw : r.wf) (he : recErr r last = 0) (hp : p ≤ bs.length) (hd : bs.drop p = (recB r last ++ rest).take n) :
   ((recB r last).length ≤ n → rdRec bs last ⟨p, 0⟩ = (r, 0, ⟨p + (recB r last).length, 0⟩)) ∧ (n < (recB r last).length → (rdRec bs last ⟨p, 0⟩).1 = recZ ∧ (rdRec bs last ⟨p, 0⟩).2.1 = 6) := by
 have ht := takes_raw (bs := bs) hw he
 obtain ⟨hc, h1, h2, h3⟩ := recErr_parts he
 obtain ⟨c1, c2, c3, c4, _, _⟩ := recChk_parts hc
 refine ⟨fun hn => ?_, fun hn => ?_⟩
 · exact rdRec_ok (by omega) (by omega) (ht.good ⟨p, 0⟩ n rest rfl hp hd hn) rfl
 · have h6 := ht.short ⟨p, 0⟩ n rest rfl hp hd hn
   rw [rdRec_bad (rr := (rdRaw bs last ⟨p, 0⟩).1) (RR := (rdRaw bs last ⟨p, 0⟩).2) (by omega) (by omega) rfl (by omega)]
   exact ⟨rfl, h6⟩
theorem rd_full {bs rest : List Byte} {r : RecR} {last : Int} {p : Nat} (hw : r.wf) (he : recErr r last = 0) (hp : p ≤ bs.length) (hd : bs.drop p = recB r last ++ rest) : rdRec bs last ⟨p, 0⟩ = (r, 0, ⟨p + (recB r last).length, 0⟩) :=
 (rd_take (n := (recB r last ++ rest).length) hw he hp (by rw [List.take_length]; exact hd)).1 (by simp)
/-! ### The other way about -/
def Back {α : Type} (bs : List Byte) (f : Rs → α × Rs) (enc : α → List Byte) : Prop :=
 ∀ R, R.p ≤ bs.length → (f R).2.e = 0 → R.e = 0 ∧ bs.drop R.p = enc (f R).1 ++ bs.drop (f R).2.p ∧ (f R).2.p = R.p + (enc (f R).1).length ∧ (f R).2.p ≤ bs.length
theorem back_uint {bs : List Byte} {L : BitVec 64} : Back bs (rUint bs L) (fun X => vput X.toNat) := by
 intro R hp h
 by_cases h0 : R.e = 0
 · by_cases h1 : bs.length ≤ R.p
   · rw [rUint_short h0 h1] at h; cases h
   · by_cases h2 : uerr (bs.drop R.p) L = 0
     · rw [rUint_good h0 h1 h2]
       dsimp only
       obtain ⟨k1, k2, k3⟩ := vget_back_part (uerr_ok h2).1
       simp only [List.length_drop] at k2
       refine ⟨h0, ?_, ?_, by omega⟩
       · rw [k3, ← List.drop_drop, List.take_append_drop]
       · rw [k3, List.length_take, List.length_drop]; omega
     · rw [rUint_bad h0 h1 h2] at h; exact absurd h h2
 · rw [rUint_err h0] at h; exact absurd h h0
theorem back_int {bs : List Byte} : Back bs (rInt bs) numB := by
 intro R hp h
 have := back_uint R hp (show (rUint bs 18446744073709551615#64 R).2.e = 0 from h)
 unfold rInt numB
 dsimp only
 rw [zig_zag]
 exact this
theorem back_byte {bs : List Byte} : Back bs (rByte bs) (fun c => [c]) := by
 intro R hp h
 by_cases h0 : R.e = 0
 · by_cases h1 : bs.length ≤ R.p
   · rw [rByte_short h0 h1] at h; cases h
   · rw [rByte_good h0 h1]
     dsimp only
     refine ⟨h0, ?_, rfl, by omega⟩
     rw [List.getD_eq_getElem?_getD, List.getElem?_eq_getElem (by omega), Option.getD_some, List.singleton_append]
     exact List.drop_eq_getElem_cons (by omega)
 · rw [rByte_err h0] at h; exact absurd h h0
theorem rFail_e {e : Nat} {R : Rs} (h : (rFail e R).e = 0) (he : e ≠ 0) : False := by
 unfold rFail at h
 split at h
 · exact he h
 · rename_i h0; exact h0 h
def encI (m : BitVec 8) (i : Nat) (x : Int) : List Byte := if upBit m i = true then numB x else []
theorem back_upI {bs : List Byte} {m : BitVec 8} {i : Nat} : Back bs (upI bs m i) (encI m i) := by
 intro R hp h
 unfold upI encI at *
 by_cases hb : upBit m i = true
 · simp only [if_pos hb] at h ⊢
   by_cases h0 : (rInt bs R).1 = 0
   · rw [if_pos h0] at h; exact absurd h fun h => rFail_e h (by decide)
   · rw [if_neg h0] at h ⊢
     exact back_int R hp h
 · simp only [if_neg hb] at h ⊢
   exact ⟨h, by simp, by simp, hp⟩
theorem upI_val {bs : List Byte} {m : BitVec 8} {i : Nat} {R : Rs} (h : (upI bs m i R).2.e = 0) : (upBit m i = true ↔ (upI bs m i R).1 ≠ 0) ∧ -9223372036854775808 ≤ (upI bs m i R).1 ∧ (upI bs m i R).1 ≤ 9223372036854775807 := by
 have hz : -9223372036854775808 ≤ (rInt bs R).1 ∧ (rInt bs R).1 ≤ 9223372036854775807 := zag_range _
 unfold upI at *
 by_cases hb : upBit m i = true
 · simp only [if_pos hb] at h ⊢
   by_cases h0 : (rInt bs R).1 = 0
   · rw [if_pos h0] at h; exact absurd h fun h => rFail_e h (by decide)
   · exact ⟨⟨fun _ => h0, fun _ => hb⟩, hz⟩
 · simp only [if_neg hb]
   exact ⟨⟨fun h => absurd h hb, fun h => absurd rfl h⟩, by decide, by decide⟩
theorem back_upA {bs : List Byte} {m : BitVec 8} : Back bs (upA bs m) (fun x => if upBit m 6 = true then vput x.toNat else []) := by
 intro R hp h
 have hle := (rUint_le (X := 65535#64) hp).2.2.2.1
 unfold upA at *
 by_cases hb : upBit m 6 = true
 · simp only [if_pos hb] at h ⊢
   by_cases h0 : (rUint bs 65535#64 R).1 = 0#64
   · rw [if_pos h0] at h; exact absurd h fun h => rFail_e h (by decide)
   · rw [if_neg h0] at h ⊢
     have := back_uint R hp h
     dsimp only at this
     rwa [sw16 (by have h2 : (65535#64).toNat = 65535 := rfl; omega)]
 · simp only [if_neg hb] at h ⊢
   exact ⟨h, by simp, by simp, hp⟩
theorem upA_val {bs : List Byte} {m : BitVec 8} {R : Rs} (hp : R.p ≤ bs.length) (h : (upA bs m R).2.e = 0) : upBit m 6 = true ↔ (upA bs m R).1 ≠ 0#16 := by
 have hle := (rUint_le (X := 65535#64) hp).2.2.2.1
 unfold upA at *
 by_cases hb : upBit m 6 = true
 · simp only [if_pos hb] at h ⊢
   by_cases h0 : (rUint bs 65535#64 R).1 = 0#64
   · rw [if_pos h0] at h; exact absurd h fun h => rFail_e h (by decide)
   · refine ⟨fun _ e => h0 (BitVec.eq_of_toNat_eq ?_), fun _ => hb⟩
     have := sw16 (X := (rUint bs 65535#64 R).1) (by have h2 : (65535#64).toNat = 65535 := rfl; omega)
     rw [e] at this
     exact this.symm
 · simp only [if_neg hb]
   exact ⟨fun h => absurd h hb, fun h => absurd rfl h⟩
end Go.Sx

set_option linter.unusedVariables false
set_option linter.unusedSimpArgs false
namespace Go.Sx
theorem back_n {bs : List Byte} {R : Rs} (hp : R.p ≤ bs.length) (i j : Nat) (hj : j = i + 1) (h : (nS bs R j).e = 0) :
   (nS bs R i).e = 0 ∧ bs.drop (nS bs R i).p = numB (nX bs R i) ++ bs.drop (nS bs R j).p ∧ (nS bs R j).p = (nS bs R i).p + (numB (nX bs R i)).length := by
 subst hj
 have := back_int (nS bs R i) (nS_le hp i).1 h
 exact ⟨this.1, this.2.1, this.2.2.1⟩
theorem nX_rng {bs : List Byte} {R : Rs} (i : Nat) : -9223372036854775808 ≤ nX bs R i ∧ nX bs R i ≤ 9223372036854775807 := by
 unfold nX rInt
 exact zag_range _
theorem recAll_rd {bs : List Byte} {k id : Int} {R : Rs} (hp : R.p ≤ bs.length) : recAll (rdAll bs k id R).1 = numB (nX bs R 0) ++ (numB (nX bs R 1) ++ (numB (nX bs R 2) ++ (numB (nX bs R 3) ++ (numB (nX bs R 4) ++ (numB (nX bs R 5) ++ vput (rUint bs 65535#64 (nS bs R 6)).1.toNat))))) := by
 have hle := (rUint_le (X := 65535#64) (nS_le hp 6).1).2.2.2.1
 have h2 : (65535#64).toNat = 65535 := rfl
 unfold rdAll recAll
 dsimp only
 rw [sw16 (by omega)]
 simp only [List.append_assoc]
theorem back_all {bs : List Byte} {k id : Int} {R : Rs} (hp : R.p ≤ bs.length) (h : (rdAll bs k id R).2.e = 0) :
   R.e = 0 ∧ bs.drop R.p = recAll (rdAll bs k id R).1 ++ bs.drop (rdAll bs k id R).2.p ∧ (rdAll bs k id R).2.p = R.p + (recAll (rdAll bs k id R).1).length ∧ (rdAll bs k id R).2.p ≤ bs.length := by
 have hS : (rdAll bs k id R).2 = (rUint bs 65535#64 (nS bs R 6)).2 := by unfold rdAll; rfl
 rw [hS] at h ⊢
 obtain ⟨e6, d6, p6, q6⟩ := back_uint (nS bs R 6) (nS_le hp 6).1 h
 obtain ⟨e5, d5, p5⟩ := back_n hp 5 6 rfl e6
 obtain ⟨e4, d4, p4⟩ := back_n hp 4 5 rfl e5
 obtain ⟨e3, d3, p3⟩ := back_n hp 3 4 rfl e4
 obtain ⟨e2, d2, p2⟩ := back_n hp 2 3 rfl e3
 obtain ⟨e1, d1, p1⟩ := back_n hp 1 2 rfl e2
 obtain ⟨e0, d0, p0⟩ := back_n hp 0 1 rfl e1
 have hz : nS bs R 0 = R := by unfold nS; rfl
 rw [hz] at e0 d0 p0
 rw [recAll_rd hp]
 dsimp only at d6 p6
 refine ⟨e0, ?_, ?_, q6⟩
 · rw [d0, d1, d2, d3, d4, d5, d6]
   simp only [List.append_assoc]
 · simp only [List.length_append]
   omega
theorem rdAll_wf {bs : List Byte} {k id : Int} {R : Rs} (hk : -9223372036854775808 ≤ k ∧ k ≤ 9223372036854775807) (hi : -9223372036854775808 ≤ id ∧ id ≤ 9223372036854775807) : (rdAll bs k id R).1.wf := by
 unfold rdAll
 dsimp only
 exact ⟨hk, hi, nX_rng (bs := bs) (R := R) 0, nX_rng (bs := bs) (R := R) 1, nX_rng (bs := bs) (R := R) 2, nX_rng (bs := bs) (R := R) 3, nX_rng (bs := bs) (R := R) 4, nX_rng (bs := bs) (R := R) 5⟩
theorem upX_rng {bs : List Byte} {m : BitVec 8} {R : Rs} (i : Nat) : -9223372036854775808 ≤ upX bs m R i ∧ upX bs m R i ≤ 9223372036854775807 := by
 unfold upX upI
 split
 · unfold rInt
   exact zag_range _
 · show -9223372036854775808 ≤ (0 : Int) ∧ (0 : Int) ≤ 9223372036854775807
   decide
theorem rdSome_wf {bs : List Byte} {k id : Int} {R : Rs} (hk : -9223372036854775808 ≤ k ∧ k ≤ 9223372036854775807) (hi : -9223372036854775808 ≤ id ∧ id ≤ 9223372036854775807) : (rdSome bs k id R).1.wf := by
 have hz : -9223372036854775808 ≤ (0 : Int) ∧ (0 : Int) ≤ 9223372036854775807 := by decide
 unfold rdSome
 dsimp only
 split
 · exact ⟨hk, hi, hz, hz, hz, hz, hz, hz⟩
 · exact ⟨hk, hi, upX_rng 0, upX_rng 1, upX_rng 2, upX_rng 3, upX_rng 4, upX_rng 5⟩
theorem rdBody_wf {bs : List Byte} {k id : Int} {R : Rs} (hk : -9223372036854775808 ≤ k ∧ k ≤ 9223372036854775807) (hi : -9223372036854775808 ≤ id ∧ id ≤ 9223372036854775807) : (rdBody bs k id R).1.wf ∧ (rdBody bs k id R).1.k = k ∧ (rdBody bs k id R).1.id = id := by
 have hz : -9223372036854775808 ≤ (0 : Int) ∧ (0 : Int) ≤ 9223372036854775807 := by decide
 unfold rdBody
 split
 · exact ⟨rdAll_wf hk hi, rfl, rfl⟩
 · split
   · refine ⟨rdSome_wf hk hi, ?_, ?_⟩ <;> (unfold rdSome; dsimp only; split <;> rfl)
   · split <;> exact ⟨⟨hk, hi, hz, hz, hz, hz, hz, hz⟩, rfl, rfl⟩
theorem recZ_wf : recZ.wf := ⟨by decide, by decide, by decide, by decide, by decide, by decide, by decide, by decide⟩
theorem rdRec_wf {bs : List Byte} {last : Int} {R : Rs} (hp : R.p ≤ bs.length) : (rdRec bs last R).1.wf := by
 unfold rdRec
 split
 · exact recZ_wf
 · split
   · exact recZ_wf
   · split
     · exact recZ_wf
     · rename_i h1 h2 h3
       have h4 := rId_le (bs := bs) (last := last) hp (by omega) (by omega)
       have h5 := (rByte bs (rdId bs last R).2).1.isLt
       exact (rdBody_wf (by omega) (by change _ ≤ last + 1 + (((rUint bs (BitVec.ofInt 64 (65534 - last)) R).1.toNat : Nat) : Int) ∧ last + 1 + (((rUint bs (BitVec.ofInt 64 (65534 - last)) R).1.toNat : Nat) : Int) ≤ _; omega)).1
theorem back_up {bs : List Byte} {m : BitVec 8} {R : Rs} (hp : R.p ≤ bs.length) (i j : Nat) (hj : j = i + 1) (h : (upS bs m R j).e = 0) :
   (upS bs m R i).e = 0 ∧ bs.drop (upS bs m R i).p = encI m i (upX bs m R i) ++ bs.drop (upS bs m R j).p ∧ (upS bs m R j).p = (upS bs m R i).p + (encI m i (upX bs m R i)).length := by
 subst hj
 have := back_upI (m := m) (i := i) (upS bs m R i) (upS_le (m := m) hp i).1 h
 exact ⟨this.1, this.2.1, this.2.2.1⟩
theorem back_some {bs : List Byte} {k id : Int} {R : Rs} (hp : R.p ≤ bs.length) (h : (rdSome bs k id R).2.e = 0) :
   R.e = 0 ∧ bs.drop R.p = recSome (rdSome bs k id R).1 ++ bs.drop (rdSome bs k id R).2.p ∧ (rdSome bs k id R).2.p = R.p + (recSome (rdSome bs k id R).1).length ∧ (rdSome bs k id R).2.p ≤ bs.length ∧ recEmpty (rdSome bs k id R).1 = false := by
 have hq := (rByte_le hp).1
 by_cases hb : (rByte bs R).1.toNat = 0 ∨ 127 < (rByte bs R).1.toNat
 · rw [rdSome_bad hb] at h
   exact absurd h fun h => rFail_e h (by decide)
 · have hs := rdSome_ok (bs := bs) (k := k) (id := id) (R := R) hb (pair_eq rfl)
   generalize hm : (rByte bs R).1 = m at *
   generalize hR : (rByte bs R).2 = R1 at *
   rw [hs] at h
   have hl := fun i => (upS_le (m := m) hq i).1
   have h6 := back_upA (upS bs m R1 6) (hl 6) h
   have v6 := upA_val (hl 6) h
   have h5 := back_up hq 5 6 rfl h6.1
   have v5 : upBit m 5 = true ↔ upX bs m R1 5 ≠ 0 := (upI_val (m := m) (i := 5) (R := upS bs m R1 5) h6.1).1
   have h4 := back_up hq 4 5 rfl h5.1
   have v4 : upBit m 4 = true ↔ upX bs m R1 4 ≠ 0 := (upI_val (m := m) (i := 4) (R := upS bs m R1 4) h5.1).1
   have h3 := back_up hq 3 4 rfl h4.1
   have v3 : upBit m 3 = true ↔ upX bs m R1 3 ≠ 0 := (upI_val (m := m) (i := 3) (R := upS bs m R1 3) h4.1).1
   have h2 := back_up hq 2 3 rfl h3.1
   have v2 : upBit m 2 = true ↔ upX bs m R1 2 ≠ 0 := (upI_val (m := m) (i := 2) (R := upS bs m R1 2) h3.1).1
   have h1 := back_up hq 1 2 rfl h2.1
   have v1 : upBit m 1 = true ↔ upX bs m R1 1 ≠ 0 := (upI_val (m := m) (i := 1) (R := upS bs m R1 1) h2.1).1
   have h0 := back_up hq 0 1 rfl h1.1
   have v0 : upBit m 0 = true ↔ upX bs m R1 0 ≠ 0 := (upI_val (m := m) (i := 0) (R := upS bs m R1 0) h1.1).1
   have hB := back_byte R hp (by rw [hR]; exact h0.1)
   rw [hm, hR] at hB
   obtain ⟨_, d6, p6, q6⟩ := h6
   obtain ⟨_, d5, p5⟩ := h5
   obtain ⟨_, d4, p4⟩ := h4
   obtain ⟨_, d3, p3⟩ := h3
   obtain ⟨_, d2, p2⟩ := h2
   obtain ⟨_, d1, p1⟩ := h1
   obtain ⟨_, d0, p0⟩ := h0
   obtain ⟨eB, dB, pB, _⟩ := hB
   dsimp only at dB pB d6 p6
   have hmask : upMask7 (rdSome bs k id R).1 = m := by
     rw [mask_of, hs]
     dsimp only
     have b : ∀ {p : Prop} [Decidable p] {x : Bool}, (x = true ↔ p) → decide p = x := fun {p} _ {x} h => by
       cases x with
       | true => exact decide_eq_true (h.1 rfl)
       | false => exact decide_eq_false fun hp => by cases h.2 hp
     rw [b v0, b v1, b v2, b v3, b v4, b v5, b v6]
     exact maskOf_back m (by omega)
   have hc : ∀ (x : Int) (i : Nat), (upBit m i = true ↔ x ≠ 0) → encI m i x = if x = 0 then [] else numB x := fun x i hv => by
     unfold encI
     by_cases h0 : x = 0
     · rw [if_pos h0, if_neg (fun hh => hv.1 hh h0)]
     · rw [if_neg h0, if_pos (hv.2 h0)]
   have hcA : (if upBit m 6 = true then vput (upA bs m (upS bs m R1 6)).1.toNat else []) = if (upA bs m (upS bs m R1 6)).1 = 0#16 then [] else vput (upA bs m (upS bs m R1 6)).1.toNat := by
     by_cases h0 : (upA bs m (upS bs m R1 6)).1 = 0#16
     · rw [if_pos h0, if_neg (fun hh => v6.1 hh h0)]
     · rw [if_neg h0, if_pos (v6.2 h0)]
   have e : recSome (rdSome bs k id R).1 = [m] ++ (encI m 0 (upX bs m R1 0) ++ (encI m 1 (upX bs m R1 1) ++ (encI m 2 (upX bs m R1 2) ++ (encI m 3 (upX bs m R1 3) ++ (encI m 4 (upX bs m R1 4) ++ (encI m 5 (upX bs m R1 5) ++ (if upBit m 6 = true then vput (upA bs m (upS bs m R1 6)).1.toNat else []))))))) := by
     rw [recSome_eq, hmask, hs, hcA, hc _ 0 v0, hc _ 1 v1, hc _ 2 v2, hc _ 3 v3, hc _ 4 v4, hc _ 5 v5]
     rfl
   have hS : (rdSome bs k id R).2 = (upA bs m (upS bs m R1 6)).2 := by rw [hs]
   have hz : upS bs m R1 0 = R1 := by unfold upS; rfl
   rw [hz] at d0 p0
   refine ⟨eB, ?_, ?_, by rw [hS]; exact q6, ?_⟩
   · rw [e, hS, dB, d0, d1, d2, d3, d4, d5, d6]
     simp only [List.append_assoc]
   · rw [e, hS, p6]
     simp only [List.length_append, List.length_singleton] at pB ⊢
     omega
   · cases he : recEmpty (rdSome bs k id R).1 with
     | false => rfl
     | true =>
       exfalso
       have hz := empty_zero he
       have : upMask7 (rdSome bs k id R).1 = 0#8 := by rw [hz]; rfl
       rw [hmask] at this
       rw [this] at hb
       exact hb (.inl rfl)
theorem rd_back {bs : List Byte} {r : RecR} {last : Int} {R R' : Rs} (hp : R.p ≤ bs.length) (h : rdRec bs last R = (r, 0, R')) :
   recErr r last = 0 ∧ r.wf ∧ bs.drop R.p = recB r last ++ bs.drop R'.p ∧ R'.p = R.p + (recB r last).length ∧ R.e = 0 ∧ R'.e = 0 ∧ R'.p ≤ bs.length := by
 have hwf := rdRec_wf (last := last) hp
 have hle := rdRec_le (last := last) hp
 rw [h] at hwf hle
 unfold rdRec at h
 split at h
 · cases h
 · split at h
   · have h2 := congrArg (fun x => x.2.1) h
     exact absurd h2 fun h2 => rFail_e h2 (by decide)
   · split at h
     · rename_i h3
       have h2 := congrArg (fun x => x.2.1) h
       exact absurd h2 h3
     · rename_i h1 h2 h3
       simp only [ne_eq, Decidable.not_not] at h3
       have hr : (rdRaw bs last R).1 = r := congrArg (fun x => x.1) h
       have hS : (rdRaw bs last R).2 = R' := congrArg (fun x => x.2.2) h
       have hI := rId_le (bs := bs) (last := last) hp (by omega) (by omega)
       have hl1 : (rdId bs last R).2.p ≤ bs.length := (rUint_le (X := BitVec.ofInt 64 (65534 - last)) hp).1
       have hl2 := (rByte_le hl1).1
       have hkl := (rByte bs (rdId bs last R).2).1.isLt
       generalize hK : (((rByte bs (rdId bs last R).2).1.toNat : Nat) : Int) = K at *
       generalize hID : last + 1 + (((rdId bs last R).1.toNat : Nat) : Int) = ID at *
       have hraw : rdRaw bs last R = rdBody bs K ID (rByte bs (rdId bs last R).2).2 := by rw [← hK, ← hID]; rfl
       change last + 1 + (((rUint bs (BitVec.ofInt 64 (65534 - last)) R).1.toNat : Nat) : Int) = ID at hID
       obtain ⟨w1, w2, w3⟩ := rdBody_wf (bs := bs) (k := K) (id := ID) (R := (rByte bs (rdId bs last R).2).2) (by omega) (by omega)
       rw [← hraw, hr] at w1 w2 w3
       have hbody : K ≤ 3 ∧ (rByte bs (rdId bs last R).2).2.e = 0 ∧ bs.drop (rByte bs (rdId bs last R).2).2.p = recBody r ++ bs.drop R'.p ∧ R'.p = (rByte bs (rdId bs last R).2).2.p + (recBody r).length ∧ (K = 1 → recEmpty r = false) ∧ (K = 2 → recEmpty r = true) := by
         rw [← hr, ← hS]
         rw [← hr] at w2
         rw [hraw] at h3 w2 ⊢
         unfold recBody
         rw [w2]
         by_cases k0 : K = 0 ∨ K = 3
         · rw [rdBody_all k0] at h3 ⊢
           rw [if_neg (by omega), if_neg (by omega)]
           obtain ⟨a1, a2, a3, a4⟩ := back_all hl2 h3
           exact ⟨by omega, a1, a2, a3, by omega, by omega⟩
         · by_cases k1 : K = 1
           · rw [rdBody_some k1] at h3 ⊢
             rw [if_pos k1]
             obtain ⟨a1, a2, a3, a4, a5⟩ := back_some hl2 h3
             exact ⟨by omega, a1, a2, a3, fun _ => a5, by omega⟩
           · by_cases k2 : K = 2
             · rw [rdBody_none k2] at h3 ⊢
               rw [if_neg k1, if_pos k2]
               exact ⟨by omega, h3, by simp, by simp, by omega, fun _ => rfl⟩
             · rw [rdBody_bad (by omega)] at h3
               exact absurd h3 fun h => rFail_e h (by decide)
       obtain ⟨b0, b1, b2, b3, b4, b5⟩ := hbody
       obtain ⟨c1, c2, c3, _⟩ := back_byte _ hl1 b1
       obtain ⟨d1, d2, d3, _⟩ := back_uint (L := BitVec.ofInt 64 (65534 - last)) R hp c1
       have hchk : recChk r = 0 := by
         unfold recChk
         rw [w2, w3, if_neg (by omega), if_neg (by omega), if_neg (by rintro (⟨e1, e2⟩ | ⟨e1, e2⟩) <;> simp_all)]
       have herr : recErr r last = 0 := recErr_ok hchk (by omega) (by rw [w3]; omega)
       have hB : recB r last = vput (rUint bs (BitVec.ofInt 64 (65534 - last)) R).1.toNat ++ ([(rByte bs (rdId bs last R).2).1] ++ recBody r) := by
         rw [recB, if_neg (by omega), recHead, List.append_assoc, w3, w2]
         congr 2
         · apply Int.ofNat.inj
           show (((BitVec.ofInt 64 (ID - last - 1)).toNat : Nat) : Int) = _
           rw [ofInt64 (by omega) (by omega)]
           show _ = (((rUint bs (BitVec.ofInt 64 (65534 - last)) R).1.toNat : Nat) : Int)
           omega
         · congr 1
           congr 1
           apply BitVec.eq_of_toNat_eq
           rw [BitVec.toNat_ofInt]
           omega
       refine ⟨herr, w1, ?_, ?_, d1, by rw [← hS]; exact h3, hle.1⟩
       · rw [hB, d2]
         change _ ++ bs.drop (rdId bs last R).2.p = _
         rw [c2, b2]
         simp only [List.append_assoc]
       · rw [hB]
         have d3' : (rdId bs last R).2.p = R.p + (vput (rUint bs (BitVec.ofInt 64 (65534 - last)) R).1.toNat).length := d3
         simp only [List.length_append, List.length_singleton] at c3 ⊢
         omega
end Go.Sx
