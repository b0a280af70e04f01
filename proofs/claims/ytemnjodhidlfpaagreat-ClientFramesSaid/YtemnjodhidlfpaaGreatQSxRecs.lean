import Derived.Test.YtemnjodhidlfpaaGreatQSxBasA
import Derived.Test.YtemnjodhidlfpaaGreatQSxBasB
/- Texts of the small logic, one behind the other: SxPvar, SxPrd, SxPrec, SxPrecR, SxPent, SxRrd, SxPrecL, SxPrecM, SxPrecB. -/
set_option linter.unusedVariables false
set_option linter.unusedSimpArgs false
namespace Go.Sx

def zAn (x : Nat) : Nat := if x = 0 then 0 else Nat.log2 x + 1
theorem zDK {x k : Nat} (h : x < 2 ^ k) : zAn x ≤ k := by
 unfold zAn
 split
 · omega
 · rename_i h0
   have := (Nat.log2_lt h0).2 h
   omega
theorem zF9 {x k : Nat} (h : 2 ^ k ≤ x) : k < zAn x := by
 unfold zAn
 have h0 : x ≠ 0 := by have := Nat.two_pow_pos k; omega
 rw [if_neg h0]
 have := (Nat.le_log2 h0).2 h
 omega
theorem zJd {x k : Nat} (h1 : x < 2 ^ (k + 1)) (h2 : 2 ^ k ≤ x) : zAn x = k + 1 := by
 have := zDK h1
 have := zF9 h2
 omega
theorem zGm {x : Nat} (k : Nat) (h : 2 ^ k ≤ x) : zAn x = k + zAn (x / 2 ^ k) := by
 have hp := Nat.two_pow_pos k
 have hq : 1 ≤ x / 2 ^ k := (Nat.le_div_iff_mul_le hp).2 (by omega)
 have h0 : x / 2 ^ k ≠ 0 := by omega
 have hb : zAn (x / 2 ^ k) = Nat.log2 (x / 2 ^ k) + 1 := by unfold zAn; rw [if_neg h0]
 have l1 := Nat.log2_self_le h0
 have l2 := Nat.lt_log2_self (n := x / 2 ^ k)
 rw [hb]
 refine (zJd (k := k + Nat.log2 (x / 2 ^ k)) ?_ ?_).trans (by omega)
 · rw [Nat.add_assoc, Nat.pow_add]
   rw [Nat.mul_comm]
   exact (Nat.div_lt_iff_lt_mul hp).1 l2
 · rw [Nat.pow_add, Nat.mul_comm]
   exact (Nat.le_div_iff_mul_le hp).1 l1
def zFf : Nat → Nat → List zP
 | 0, x => [BitVec.ofNat 8 x]
 | k + 1, x => if x < 128 then [BitVec.ofNat 8 x] else BitVec.ofNat 8 (x % 128 + 128) :: zFf k (x / 128)
def zCI (x : Nat) : List zP := zFf 9 x
def zBP (x : Nat) : Nat := (zCI x).length
theorem zI9 : ∀ (k j x : Nat), x < 128 ^ (k + 1) → zFf (k + j) x = zFf k x
 | 0, 0, x, _ => rfl
 | 0, j + 1, x, h => by rw [Nat.zero_add]; simp only [zFf]; rw [if_pos (by simpa using h)]
 | k + 1, j, x, h => by
   rw [show k + 1 + j = (k + j) + 1 by omega]
   simp only [zFf]
   by_cases hx : x < 128
   · rw [if_pos hx, if_pos hx]
   · rw [if_neg hx, if_neg hx, zI9 k j (x / 128) (by rw [Nat.div_lt_iff_lt_mul (by omega)]; rw [Nat.pow_succ] at h; exact h)]
theorem zDZ {x : Nat} (h : x < 128) : zCI x = [BitVec.ofNat 8 x] := by unfold zCI; simp only [zFf]; rw [if_pos h]
theorem zEZ {x : Nat} (h : ¬ x < 128) (hx : x < 2 ^ 64) : zCI x = BitVec.ofNat 8 (x % 128 + 128) :: zCI (x / 128) := by
 unfold zCI
 rw [show (9 : Nat) = 8 + 1 by rfl]
 rw [show zFf (8 + 1) x = BitVec.ofNat 8 (x % 128 + 128) :: zFf 8 (x / 128) by simp only [zFf]; rw [if_neg h]]
 rw [zI9 8 1 (x / 128) (by rw [Nat.div_lt_iff_lt_mul (by omega)]; omega)]
theorem zNI : ∀ (k x : Nat), (zFf k x).length ≤ k + 1
 | 0, x => by simp [zFf]
 | k + 1, x => by
   simp only [zFf]
   split
   · simp
   · have := zNI k (x / 128)
     simp; omega
theorem zCq (x : Nat) : zBP x ≤ 10 := zNI 9 x
theorem zCw (x : Nat) : 1 ≤ zBP x := by
 unfold zBP zCI
 simp only [zFf]
 split <;> simp
theorem zDm {x : Nat} (h : x < 128) : zBP x = 1 := by unfold zBP; rw [zDZ h]; rfl
theorem zCk {x : Nat} (h : ¬ x < 128) (hx : x < 2 ^ 64) : zBP x = zBP (x / 128) + 1 := by unfold zBP; rw [zEZ h hx]; simp
theorem zK1 {x : Nat} (h : x < 128) : zAn x ≤ 7 := zDK (k := 7) h
theorem zVv : ∀ (d x : Nat), x < 2 ^ 64 → x ≤ d → zBP x = (max 1 (zAn x) + 6) / 7 := by
 intro d
 induction d using Nat.strongRecOn with
 | _ d ih =>
   intro x hx hd
   by_cases h : x < 128
   · rw [zDm h]
     have := zK1 h
     omega
   · have h2 := zGm (x := x) 7 (by omega)
     rw [show (2 : Nat) ^ 7 = 128 by rfl] at h2
     have h3 : 1 ≤ zAn (x / 128) := zF9 (k := 0) (by omega)
     rw [zCk h hx, ih (x / 128) (by omega) (x / 128) (by omega) (Nat.le_refl _), h2]
     omega
theorem zT5 (X : BitVec 64) : (max 1 ((zAn X.toNat : Nat) : Int) + 7 - 1) / 7 = ((zBP X.toNat : Nat) : Int) := by
 rw [zVv X.toNat X.toNat X.isLt (Nat.le_refl _)]
 omega
def zLb (X : BitVec 64) (m : Nat) : Nat → List zP
 | 0 => List.replicate m 0#8
 | k + 1 => (zLb X m k).set k ((X >>> (7 * k)).setWidth 8 ||| 128#8)
theorem zDF (X : BitVec 64) (m : Nat) : ∀ k, (zLb X m k).length = m
 | 0 => by simp [zLb]
 | k + 1 => by simp [zLb, zDF X m k]
theorem zJt (X : BitVec 64) (m : Nat) : ∀ (k i : Nat), i < k → i < m → (zLb X m k)[i]? = some ((X >>> (7 * i)).setWidth 8 ||| 128#8)
 | 0, i, h, _ => by omega
 | k + 1, i, h, hm => by
   simp only [zLb]
   by_cases e : k = i
   · subst e
     rw [List.getElem?_set_self (by rw [zDF]; exact hm)]
   · rw [List.getElem?_set_ne e]
     exact zJt X m k i (by omega) hm
theorem zU9 (c : zP) : (c ||| 128#8).toNat = c.toNat % 128 + 128 := by
 have : ∀ c : BitVec 8, (c ||| 128#8).toNat = c.toNat % 128 + 128 := by decide +kernel
 exact this c
theorem zMD (c : zP) : (c &&& ~~~128#8).toNat = c.toNat % 128 := by
 have : ∀ c : BitVec 8, (c &&& ~~~128#8).toNat = c.toNat % 128 := by decide +kernel
 exact this c
theorem zGn (X : BitVec 64) (i : Nat) : ((X >>> (7 * i)).setWidth 8).toNat = X.toNat / 2 ^ (7 * i) % 256 := by
 rw [BitVec.toNat_setWidth, BitVec.toNat_ushiftRight, Nat.shiftRight_eq_div_pow]
theorem zJ6 : ∀ (n i x : Nat), zBP x = n → x < 2 ^ 64 → i < n → (zCI x)[i]? = some (if i + 1 = n then BitVec.ofNat 8 (x / 128 ^ i) else BitVec.ofNat 8 (x / 128 ^ i % 128 + 128)) := by
 intro n
 induction n with
 | zero => intro i x _ _ h; omega
 | succ n ih =>
   intro i x hn hx hi
   by_cases h : x < 128
   · have h1 := zDm h
     have : n = 0 := by omega
     subst this
     have : i = 0 := by omega
     subst this
     rw [zDZ h]
     simp
   · have h1 := zCk h hx
     have hpos := zCw (x / 128)
     rw [zEZ h hx]
     cases i with
     | zero =>
       rw [if_neg (by omega)]
       simp
     | succ i =>
       rw [List.getElem?_cons_succ, ih i (x / 128) (by omega) (by omega) (by omega)]
       rw [Nat.div_div_eq_div_mul, show 128 * 128 ^ i = 128 ^ (i + 1) by rw [Nat.pow_succ, Nat.mul_comm]]
       by_cases e : i + 1 = n
       · rw [if_pos e, if_pos (by omega)]
       · rw [if_neg e, if_neg (by omega)]
theorem zau (i : Nat) : (2 : Nat) ^ (7 * i) = 128 ^ i := by rw [Nat.pow_mul]
theorem zNP (n x : Nat) (hn : zBP x = n + 1) (hx : x < 2 ^ 64) : x / 128 ^ n < 128 := by
 induction n generalizing x with
 | zero =>
   by_cases h : x < 128
   · simpa using h
   · have := zCk h hx; have := zCw (x / 128); omega
 | succ n ih =>
   by_cases h : x < 128
   · have := zDm h; omega
   · have := zCk h hx
     have := ih (x / 128) (by omega) (by omega)
     rwa [Nat.div_div_eq_div_mul, show 128 * 128 ^ n = 128 ^ (n + 1) by rw [Nat.pow_succ, Nat.mul_comm]] at this
theorem zZi (X : BitVec 64) (m : Nat) (hm : zBP X.toNat = m) : (zLb X m m).set (m - 1) ((zLb X m m).getD (m - 1) 0 &&& ~~~128#8) = zCI X.toNat := by
 have hpos := zCw X.toNat
 have hlen : (zCI X.toNat).length = m := hm
 apply List.ext_getElem?
 intro i
 by_cases hi : i < m
 · rw [zJ6 m i X.toNat hm X.isLt hi]
   by_cases e : m - 1 = i
   · subst e
     rw [List.getElem?_set_self (by rw [zDF]; exact hi), if_pos (by omega)]
     have hg := zJt X m m (m - 1) (by omega) hi
     have ht := zNP (m - 1) X.toNat (by omega) X.isLt
     congr 1
     apply BitVec.eq_of_toNat_eq
     rw [zMD, List.getD_eq_getElem?_getD, hg, Option.getD_some, zU9, zGn, zau, BitVec.toNat_ofNat]
     generalize X.toNat / 128 ^ (m - 1) = q at *
     omega
   · rw [List.getElem?_set_ne e, zJt X m m i hi hi, if_neg (by omega)]
     congr 1
     apply BitVec.eq_of_toNat_eq
     rw [zU9, zGn, zau, BitVec.toNat_ofNat]
     omega
 · rw [List.getElem?_eq_none (by rw [List.length_set, zDF]; omega), List.getElem?_eq_none (by omega)]
theorem zV7 : ∀ (n x : Nat), 1 ≤ n → x < 2 ^ 64 → x < 128 ^ n → zBP x ≤ n := by
 intro n
 induction n with
 | zero => intro x h; omega
 | succ n ih =>
   intro x h1 hx h
   by_cases hs : x < 128
   · rw [zDm hs]; omega
   · have h2 := zCk hs hx
     cases n with
     | zero => simp at h; omega
     | succ n =>
       have := ih (x / 128) (by omega) (by omega) (by rw [Nat.div_lt_iff_lt_mul (by omega)]; rw [Nat.pow_succ] at h; exact h)
       omega
/-! ### What is got -/
def zET : List zP → Nat
 | [] => 0
 | c :: l => c.toNat % 128 + 128 * zET l
def zA0 : Nat → List zP → Nat
 | 0, _ => 0
 | _, [] => 0
 | k + 1, c :: l => if 128 ≤ c.toNat then zA0 k l + 1 else 0
def zCH (b : List zP) : BitVec 64 × Nat × Nat :=
 if b.length = 0 then (0#64, 0, 5) else if zA0 10 b = 10 then (0#64, 0, 8) else if zA0 10 b = b.length then (0#64, 0, 6)
 else if zA0 10 b = 9 ∧ 1 < (b.getD (zA0 10 b) 0).toNat then (0#64, 0, 8)
 else if (b.getD (zA0 10 b) 0).toNat = 0 ∧ 0 < zA0 10 b then (0#64, 0, 7)
 else (BitVec.ofNat 64 (zET (b.take (zA0 10 b + 1))), zA0 10 b + 1, 0)
theorem zFZ : ∀ (k : Nat) (b : List zP), zA0 k b ≤ k ∧ zA0 k b ≤ b.length
 | 0, b => by simp [zA0]
 | k + 1, [] => by simp [zA0]
 | k + 1, c :: l => by
   have := zFZ k l
   simp only [zA0]
   split
   · simp; omega
   · simp
theorem zEs : ∀ (k i : Nat) (b : List zP), i ≤ zA0 k b → i < k → i < b.length → 128 ≤ (b.getD i 0).toNat → i + 1 ≤ zA0 k b
 | 0, i, b, _, h, _, _ => by omega
 | k + 1, i, [], _, _, h, _ => by simp at h
 | k + 1, 0, c :: l, _, _, _, h => by
   simp only [zA0]
   rw [if_pos (by simpa using h)]
   omega
 | k + 1, i + 1, c :: l, h1, h2, h3, h4 => by
   simp only [zA0] at *
   split at h1
   · rename_i hc
     rw [if_pos hc]
     have := zEs k i l (by omega) (by omega) (by simpa using h3) (by simpa using h4)
     omega
   · omega
theorem zEo : ∀ (k i : Nat) (b : List zP), i ≤ zA0 k b → i < b.length → (b.getD i 0).toNat < 128 → zA0 k b = i
 | 0, i, b, h, _, _ => by simp only [zA0] at *; omega
 | k + 1, i, [], _, h, _ => by simp at h
 | k + 1, 0, c :: l, _, _, h => by
   simp only [zA0]
   rw [if_neg (by have : c.toNat < 128 := (by simpa using h); omega)]
 | k + 1, i + 1, c :: l, h1, h3, h4 => by
   simp only [zA0] at *
   split at h1
   · rename_i hc
     rw [if_pos hc, zEo k i l (by omega) (by simpa using h3) (by simpa using h4)]
   · omega
theorem zJE : ∀ (b : List zP), zET b < 128 ^ b.length
 | [] => by simp [zET]
 | c :: l => by
   have := zJE l
   simp only [zET, List.length_cons, Nat.pow_succ]
   omega
theorem zHc : ∀ (b c : List zP), zET (b ++ c) = zET b + 128 ^ b.length * zET c
 | [], c => by simp [zET]
 | x :: l, c => by
   simp only [zET, List.cons_append, zHc l c, List.length_cons, Nat.pow_succ]
   rw [Nat.mul_add, Nat.mul_comm (128 ^ l.length) 128, Nat.mul_assoc]
   omega
theorem zKQ (b : List zP) (i : Nat) (h : i < b.length) : zET (b.take (i + 1)) = zET (b.take i) + 128 ^ i * ((b.getD i 0).toNat % 128) := by
 rw [List.take_add_one, zHc]
 have : b[i]?.toList = [b.getD i 0] := by simp [h, List.getD_eq_getElem?_getD]
 rw [this, List.length_take, Nat.min_eq_left (by omega)]
 simp [zET]
theorem zG8 (b : List zP) (i : Nat) (h : i < b.length) (h9 : i ≤ 9) :
   BitVec.ofNat 64 (zET (b.take i)) ||| ((b.getD i 0 &&& ~~~128#8).setWidth 64) <<< (7 * i) = BitVec.ofNat 64 (zET (b.take (i + 1))) := by
 have hl := zJE (b.take i)
 rw [List.length_take, Nat.min_eq_left (by omega)] at hl
 have hp : 128 ^ i ≤ 128 ^ 9 := Nat.pow_le_pow_right (by omega) h9
 have hp2 : (128 : Nat) ^ 9 < 2 ^ 64 := by decide
 have hc : (b.getD i 0).toNat % 128 < 128 := Nat.mod_lt _ (by omega)
 rw [zKQ b i h]
 apply BitVec.eq_of_toNat_eq
 rw [BitVec.toNat_or, BitVec.toNat_shiftLeft, BitVec.toNat_setWidth, zMD, BitVec.toNat_ofNat, BitVec.toNat_ofNat]
 rw [Nat.mod_eq_of_lt (by omega : (b.getD i 0).toNat % 128 < 2 ^ 64), Nat.mod_eq_of_lt (by omega : zET (b.take i) < 2 ^ 64)]
 rw [Nat.or_comm, ← zau] at *
 have e : 2 ^ (7 * i) * ((b.getD i 0).toNat % 128) + zET (b.take i) = ((b.getD i 0).toNat % 128) <<< (7 * i) ||| zET (b.take i) := by
   rw [← Nat.shiftLeft_add_eq_or_of_lt hl, Nat.shiftLeft_eq, Nat.mul_comm]
 rw [Nat.add_comm, e, Nat.or_mod_two_pow, Nat.mod_eq_of_lt (by omega : zET (b.take i) < 2 ^ 64)]
theorem zZd (c : zP) (i : Nat) (h9 : i ≤ 9) : ((((c &&& ~~~128#8).setWidth 64) <<< (7 * i)) >>> (7 * i) = (c &&& ~~~128#8).setWidth 64) ↔ ¬ (i = 9 ∧ 1 < c.toNat % 128) := by
 have hc : c.toNat % 128 < 128 := Nat.mod_lt _ (by omega)
 rw [← BitVec.toNat_inj]
 rw [BitVec.toNat_ushiftRight, BitVec.toNat_shiftLeft, BitVec.toNat_setWidth, zMD, Nat.shiftLeft_eq, Nat.shiftRight_eq_div_pow, Nat.mod_eq_of_lt (by omega : c.toNat % 128 < 2 ^ 64)]
 generalize c.toNat % 128 = q at *
 by_cases e : i = 9
 · subst e
   rw [show (7 * 9) = 63 by rfl]
   omega
 · have h1 : q * 2 ^ (7 * i) < 2 ^ 64 := by
     have : 2 ^ (7 * i) ≤ 2 ^ (7 * 8) := Nat.pow_le_pow_right (by omega) (by omega)
     rw [show 7 * 8 = 56 by rfl] at this
     have : q * 2 ^ (7 * i) ≤ 127 * 2 ^ 56 := Nat.mul_le_mul (by omega) this
     omega
   rw [Nat.mod_eq_of_lt h1, Nat.mul_div_cancel _ (Nat.two_pow_pos _)]
   simp [e]
theorem zCE {b : List zP} (h : b.length = 0) : zCH b = (0#64, 0, 5) := by unfold zCH; rw [if_pos h]
theorem zBt {b : List zP} {i : Nat} (h1 : i ≤ zA0 10 b) (hi : i < b.length) (h9 : i ≤ 9) (hc : (b.getD i 0).toNat < 128) (ho : ¬ ((((b.getD i 0 &&& ~~~128#8).setWidth 64) <<< (7 * i)) >>> (7 * i) = (b.getD i 0 &&& ~~~128#8).setWidth 64)) : zCH b = (0#64, 0, 8) := by
 rw [zZd _ _ h9] at ho
 have hn := zEo 10 i b h1 hi hc
 unfold zCH
 rw [if_neg (by omega), hn, if_neg (by omega), if_neg (by omega), if_pos (by omega)]
theorem zBs {b : List zP} {i : Nat} (h1 : i ≤ zA0 10 b) (hi : i < b.length) (h9 : i ≤ 9) (hi0 : 0 < i) (h0 : (b.getD i 0).toNat = 0) : zCH b = (0#64, 0, 7) := by
 have hn := zEo 10 i b h1 hi (by omega)
 unfold zCH
 rw [if_neg (by omega), hn, if_neg (by omega), if_neg (by omega), if_neg (by omega), if_pos (by omega)]
theorem zCX {b : List zP} {i : Nat} (h1 : i ≤ zA0 10 b) (hi : i < b.length) (h9 : i ≤ 9) (hc : (b.getD i 0).toNat < 128) (hov : (((b.getD i 0 &&& ~~~128#8).setWidth 64) <<< (7 * i)) >>> (7 * i) = (b.getD i 0 &&& ~~~128#8).setWidth 64) (h0 : ¬ ((b.getD i 0).toNat = 0 ∧ 0 < i)) : zCH b = (BitVec.ofNat 64 (zET (b.take (i + 1))), i + 1, 0) := by
 rw [zZd _ _ h9] at hov
 have hn := zEo 10 i b h1 hi hc
 unfold zCH
 rw [if_neg (by omega), hn, if_neg (by omega), if_neg (by omega), if_neg (by omega), if_neg (by omega)]
theorem zBv {b : List zP} (h1 : 10 ≤ zA0 10 b) : zCH b = (0#64, 0, 8) := by
 have := zFZ 10 b
 unfold zCH
 rw [if_neg (by omega), if_pos (by omega)]
theorem zBG {b : List zP} (h0 : 0 < b.length) (h1 : b.length ≤ zA0 10 b) (hl : b.length < 10) : zCH b = (0#64, 0, 6) := by
 have := zFZ 10 b
 unfold zCH
 rw [if_neg (by omega), if_neg (by omega), if_pos (by omega)]
/-! ### The document's own way -/
/-! ### There and back -/
theorem zQ7 : ∀ (n k x : Nat) (r : List zP), zBP x = n + 1 → x < 2 ^ 64 → n ≤ k → (n < k ∨ r = []) → zA0 k (zCI x ++ r) = n := by
 intro n
 induction n with
 | zero =>
   intro k x r hn hx hk hr
   have h : x < 128 := by
     apply Classical.byContradiction
     intro h
     have := zCk h hx; have := zCw (x / 128); omega
   rw [zDZ h]
   cases k with
   | zero => rfl
   | succ k =>
     simp only [List.singleton_append, zA0]
     rw [if_neg]
     rw [BitVec.toNat_ofNat]
     omega
 | succ n ih =>
   intro k x r hn hx hk hr
   have h : ¬ x < 128 := by intro h; have := zDm h; omega
   have h1 := zCk h hx
   rw [zEZ h hx]
   cases k with
   | zero => omega
   | succ k =>
     simp only [List.cons_append, zA0]
     rw [if_pos (by rw [BitVec.toNat_ofNat]; omega), ih k (x / 128) r (by omega) (by omega) (by omega) (hr.imp (by omega) id)]
theorem zSg : ∀ (n x : Nat), zBP x = n → x < 2 ^ 64 → zET (zCI x) = x := by
 intro n
 induction n with
 | zero => intro x hn; have := zCw x; omega
 | succ n ih =>
   intro x hn hx
   by_cases h : x < 128
   · rw [zDZ h]
     simp only [zET, BitVec.toNat_ofNat]
     omega
   · have h1 := zCk h hx
     rw [zEZ h hx]
     simp only [zET, BitVec.toNat_ofNat]
     rw [ih (x / 128) (by omega) (by omega)]
     omega
theorem zSS (X : BitVec 64) (r : List zP) : zCH (zCI X.toNat ++ r) = (X, zBP X.toNat, 0) := by
 have hx := X.isLt
 have hp := zCw X.toNat
 have hle := zCq X.toNat
 have hl : (zCI X.toNat).length = zBP X.toNat := rfl
 have hn := zQ7 (zBP X.toNat - 1) 10 X.toNat r (by omega) hx (by omega) (by omega)
 have ht := zNP (zBP X.toNat - 1) X.toNat (by omega) hx
 have hg := zJ6 (zBP X.toNat) (zBP X.toNat - 1) X.toNat rfl hx (by omega)
 rw [if_pos (by omega)] at hg
 have hd : (zCI X.toNat ++ r).getD (zBP X.toNat - 1) 0 = BitVec.ofNat 8 (X.toNat / 128 ^ (zBP X.toNat - 1)) := by
   rw [List.getD_eq_getElem?_getD, List.getElem?_append_left (by omega), hg]
   rfl
 have hdn : ((zCI X.toNat ++ r).getD (zBP X.toNat - 1) 0).toNat = X.toNat / 128 ^ (zBP X.toNat - 1) := by
   rw [hd, BitVec.toNat_ofNat]
   generalize X.toNat / 128 ^ (zBP X.toNat - 1) = q at *
   omega
 have h9 : zBP X.toNat - 1 = 9 → ¬ 1 < X.toNat / 128 ^ (zBP X.toNat - 1) := by
   intro e
   rw [e, show (128 : Nat) ^ 9 = 9223372036854775808 by rfl]
   omega
 have h0 : 0 < zBP X.toNat - 1 → ¬ X.toNat / 128 ^ (zBP X.toNat - 1) = 0 := by
   intro h0 e
   have := Nat.div_eq_zero_iff.1 e
   rcases this with h | h
   · have := Nat.pos_of_ne_zero (n := 128 ^ (zBP X.toNat - 1)) (by intro h; have := Nat.pow_eq_zero.1 h; omega); omega
   · have := zV7 (zBP X.toNat - 1) X.toNat (by omega) hx h
     omega
 unfold zCH
 have hla : (zCI X.toNat ++ r).length = zBP X.toNat + r.length := by rw [List.length_append, hl]
 rw [if_neg (by omega), hn, if_neg (by omega), if_neg (by omega), hdn, if_neg (fun h => h9 h.1 h.2), if_neg (fun h => h0 h.2 h.1), show zBP X.toNat - 1 + 1 = zBP X.toNat by omega]
 rw [← hl, List.take_left', zSg _ _ rfl hx]
 · simp
 · rfl
theorem zPU (X : BitVec 64) (i : Nat) (h1 : 1 ≤ i) (h2 : i < zBP X.toNat) : zCH ((zCI X.toNat).take i) = (0#64, 0, 6) := by
 have hle := zCq X.toNat
 have hl : (zCI X.toNat).length = zBP X.toNat := rfl
 refine zBG (by simp; omega) ?_ (by simp; omega)
 have : ∀ j, j ≤ i → j ≤ zA0 10 ((zCI X.toNat).take i) := by
   intro j
   induction j with
   | zero => intro _; omega
   | succ j ih =>
     intro hj
     refine zEs 10 j _ (ih (by omega)) (by omega) (by simp; omega) ?_
     have hg := zJ6 (zBP X.toNat) j X.toNat rfl X.isLt (by omega)
     rw [if_neg (by omega)] at hg
     rw [List.getD_eq_getElem?_getD, List.getElem?_take_of_lt (by omega), hg, Option.getD_some, BitVec.toNat_ofNat]
     omega
 have := this i (Nat.le_refl _)
 simp; omega
theorem zUm : ∀ (n : Nat) (b : List zP), n < b.length → (∀ j, j < n → 128 ≤ (b.getD j 0).toNat) → (b.getD n 0).toNat < 128 → ¬ ((b.getD n 0).toNat = 0 ∧ 0 < n) → zET (b.take (n + 1)) < 2 ^ 64 → zCI (zET (b.take (n + 1))) = b.take (n + 1) ∧ ((b.getD n 0).toNat ≠ 0 → zET (b.take (n + 1)) ≠ 0) := by
 intro n
 induction n with
 | zero =>
   intro b hb _ hc _ _
   cases b with
   | nil => simp at hb
   | cons c l =>
     have hc' : c.toNat < 128 := by simpa using hc
     simp only [Nat.zero_add, List.take_succ_cons, List.take_zero, zET, Nat.mul_zero, Nat.add_zero]
     rw [Nat.mod_eq_of_lt hc', zDZ hc']
     simp
 | succ n ih =>
   intro b hb hj hc h0 hv
   cases b with
   | nil => simp at hb
   | cons c l =>
     have hc0 : 128 ≤ c.toNat := by simpa using hj 0 (by omega)
     simp only [List.take_succ_cons, zET] at hv ⊢
     simp only [List.getD_cons_succ] at hc h0
     have := ih l (by simpa using hb) (fun j h => by simpa using hj (j + 1) (by omega)) hc (by omega) (by omega)
     have hnz := this.2 (by omega)
     refine ⟨?_, fun _ => by omega⟩
     rw [zEZ (by omega) hv]
     congr 1
     · apply BitVec.eq_of_toNat_eq
       have := c.isLt
       rw [BitVec.toNat_ofNat]
       omega
     · rw [show (c.toNat % 128 + 128 * zET (l.take (n + 1))) / 128 = zET (l.take (n + 1)) by omega]
       exact this.1
theorem zKb : ∀ (k : Nat) (b : List zP) (j : Nat), j < zA0 k b → 128 ≤ (b.getD j 0).toNat
 | 0, b, j, h => by simp [zA0] at h
 | k + 1, [], j, h => by simp [zA0] at h
 | k + 1, c :: l, j, h => by
   simp only [zA0] at h
   split at h
   · cases j with
     | zero => simpa
     | succ j => simpa using zKb k l j (by omega)
   · omega
theorem zIi : ∀ (k : Nat) (b : List zP), zA0 k b < k → zA0 k b < b.length → (b.getD (zA0 k b) 0).toNat < 128
 | 0, b, h, _ => by omega
 | k + 1, [], _, h => by simp at h
 | k + 1, c :: l, h1, h2 => by
   simp only [zA0] at *
   split
   · rename_i hc
     rw [if_pos hc] at h1 h2
     simpa using zIi k l (by omega) (by simpa using h2)
   · simp; omega
theorem zJV {b : List zP} {z : BitVec 64} {k : Nat} (h : zCH b = (z, k, 0)) : 1 ≤ k ∧ k ≤ b.length ∧ zCI z.toNat = b.take k := by
 have hle := zFZ 10 b
 unfold zCH at h
 split at h
 · simp at h
 split at h
 · simp at h
 split at h
 · simp at h
 split at h
 · simp at h
 split at h
 · simp at h
 rename_i h1 h2 h3 h4 h5
 simp only [Prod.mk.injEq] at h
 obtain ⟨rfl, rfl, _⟩ := h
 have hn := zIi 10 b (by omega) (by omega)
 have hv : zET (b.take (zA0 10 b + 1)) < 2 ^ 64 := by
   by_cases e : zA0 10 b = 9
   · rw [zKQ b _ (by omega)]
     have := zJE (b.take (zA0 10 b))
     rw [List.length_take, Nat.min_eq_left (by omega)] at this
     rw [e] at this hn h4 ⊢
     rw [show (128 : Nat) ^ 9 = 9223372036854775808 by rfl] at *
     omega
   · have := zJE (b.take (zA0 10 b + 1))
     rw [List.length_take, Nat.min_eq_left (by omega)] at this
     have : (128 : Nat) ^ (zA0 10 b + 1) ≤ 128 ^ 9 := Nat.pow_le_pow_right (by omega) (by omega)
     rw [show (128 : Nat) ^ 9 = 9223372036854775808 by rfl] at this
     omega
 refine ⟨by omega, by omega, ?_⟩
 rw [BitVec.toNat_ofNat, Nat.mod_eq_of_lt hv]
 exact (zUm (zA0 10 b) b (by omega) (fun j hj => zKb 10 b j hj) hn h5 hv).1

/-! ### How long a number is -/
def zWK : ByteArray := (ByteArray.mk (List.toArray (List.append (List.append [0, 1, 2, 2, 3, 3, 3, 3, 4, 4, 4, 4, 4, 4, 4, 4, 5, 5, 5, 5, 5, 5, 5, 5, 5, 5, 5, 5, 5, 5, 5, 5, 6, 6, 6, 6, 6, 6, 6, 6, 6, 6, 6, 6, 6, 6, 6, 6, 6, 6, 6, 6, 6, 6, 6, 6, 6, 6, 6, 6, 6, 6, 6, 6] [7, 7, 7, 7, 7, 7, 7, 7, 7, 7, 7, 7, 7, 7, 7, 7, 7, 7, 7, 7, 7, 7, 7, 7, 7, 7, 7, 7, 7, 7, 7, 7, 7, 7, 7, 7, 7, 7, 7, 7, 7, 7, 7, 7, 7, 7, 7, 7, 7, 7, 7, 7, 7, 7, 7, 7, 7, 7, 7, 7, 7, 7, 7, 7]) (List.append [8, 8, 8, 8, 8, 8, 8, 8, 8, 8, 8, 8, 8, 8, 8, 8, 8, 8, 8, 8, 8, 8, 8, 8, 8, 8, 8, 8, 8, 8, 8, 8, 8, 8, 8, 8, 8, 8, 8, 8, 8, 8, 8, 8, 8, 8, 8, 8, 8, 8, 8, 8, 8, 8, 8, 8, 8, 8, 8, 8, 8, 8, 8, 8] [8, 8, 8, 8, 8, 8, 8, 8, 8, 8, 8, 8, 8, 8, 8, 8, 8, 8, 8, 8, 8, 8, 8, 8, 8, 8, 8, 8, 8, 8, 8, 8, 8, 8, 8, 8, 8, 8, 8, 8, 8, 8, 8, 8, 8, 8, 8, 8, 8, 8, 8, 8, 8, 8, 8, 8, 8, 8, 8, 8, 8, 8, 8, 8]))))
theorem zDR : ∀ Y : BitVec 8, zWK[Y.toNat]? = some (UInt8.ofBitVec (BitVec.ofNat 8 (zAn Y.toNat))) := by decide +kernel
theorem zXt (Y : BitVec 64) (k : Nat) (h : 2 ^ k ≤ Y.toNat) : zAn Y.toNat = k + zAn (Y >>> k).toNat := by
 rw [BitVec.toNat_ushiftRight, Nat.shiftRight_eq_div_pow]
 exact zGm k h
theorem zVV (Y : BitVec 64) (h : Y.toNat < 256) : (BitVec.ofNat 8 (zAn (Y.setWidth 8).toNat)).toNat = zAn Y.toNat := by
 rw [BitVec.toNat_setWidth, Nat.mod_eq_of_lt (by omega), BitVec.toNat_ofNat]
 have := zDK (k := 8) h
 omega
theorem zDx (Y : BitVec 64) (k : Nat) : (Y >>> k).toNat = Y.toNat / 2 ^ k := by rw [BitVec.toNat_ushiftRight, Nat.shiftRight_eq_div_pow]
/-! ### The document's Put -/
/-! ### Of either sign -/
def zGG (x : Int) : BitVec 64 := if 0 ≤ x then BitVec.ofInt 64 (2 * x) else BitVec.ofInt 64 (-2 * x - 1)
def zOr (X : BitVec 64) : Int := if X.toNat % 2 = 0 then ((X.toNat / 2 : Nat) : Int) else -((X.toNat / 2 : Nat) : Int) - 1
theorem zOE (p : Int) : BitVec.ofInt 64 (IntKind.i64.wrap p) = BitVec.ofInt 64 p := by
 rw [IntKind.wrap_i64]
 apply BitVec.eq_of_toNat_eq
 simp only [BitVec.toNat_ofInt]
 rw [show ((2 ^ 64 : Nat) : Int) = 18446744073709551616 by rfl]
 omega
theorem zZ6 (p : Int) (h : -9223372036854775808 ≤ p ∧ p ≤ 9223372036854775807) : BitVec.ofInt 64 (IntKind.i64.wrap (p * 2 ^ (min 1 64))) ^^^ BitVec.ofInt 64 (p.fdiv (2 ^ (min 63 64))) = zGG p := by
 rw [zOE]
 unfold zGG
 rw [show (2 : Int) ^ (min 1 64) = 2 by decide, show (2 : Int) ^ (min 63 64) = 9223372036854775808 by decide, Int.fdiv_eq_ediv_of_nonneg _ (by omega)]
 split
 · rw [show p / 9223372036854775808 = 0 by omega, Int.mul_comm]
   simp
 · rw [show p / 9223372036854775808 = -1 by omega]
   rw [show BitVec.ofInt 64 (-1) = BitVec.allOnes 64 by decide, BitVec.xor_allOnes]
   apply BitVec.eq_of_toNat_eq
   simp only [BitVec.toNat_not, BitVec.toNat_ofInt]
   omega
theorem zZb (X : BitVec 64) : (X &&& 1#64).toInt = ((X.toNat % 2 : Nat) : Int) := by
 rw [BitVec.toInt_eq_toNat_cond, BitVec.toNat_and]
 simp [Nat.and_one_is_mod]
 omega
theorem zY9 (X : BitVec 64) : (BitVec.ofInt 64 (X >>> 1).toInt ^^^ BitVec.ofInt 64 (-(X &&& 1#64).toInt)).toInt = zOr X := by
 rw [zZb, BitVec.ofInt_toInt]
 have hx := X.isLt
 unfold zOr
 split
 · rename_i h
   rw [h]
   simp only [Int.natCast_zero, Int.neg_zero]
   rw [show BitVec.ofInt 64 0 = 0#64 by decide, BitVec.xor_zero, BitVec.toInt_eq_toNat_cond, zDx]
   rw [Nat.pow_one]
   split <;> omega
 · rename_i h
   rw [show X.toNat % 2 = 1 by omega]
   rw [show BitVec.ofInt 64 (-((1 : Nat) : Int)) = BitVec.allOnes 64 by decide, BitVec.xor_allOnes, BitVec.toInt_eq_toNat_cond, BitVec.toNat_not, zDx]
   rw [Nat.pow_one]
   split <;> omega
theorem zFz (X : BitVec 64) : -9223372036854775808 ≤ zOr X ∧ zOr X ≤ 9223372036854775807 := by
 have hx := X.isLt
 unfold zOr
 split <;> omega
theorem zXu (p : Int) (h : -9223372036854775808 ≤ p ∧ p ≤ 9223372036854775807) : zOr (zGG p) = p := by
 unfold zGG
 split
 · unfold zOr
   rw [BitVec.toNat_ofInt]
   split <;> omega
 · unfold zOr
   rw [BitVec.toNat_ofInt]
   split <;> omega
theorem zIX {b : List zP} (h : (zCH b).2.2 = 0) : 1 ≤ (zCH b).2.1 ∧ (zCH b).2.1 ≤ b.length ∧ zCI (zCH b).1.toNat = b.take (zCH b).2.1 :=
 zJV (z := (zCH b).1) (k := (zCH b).2.1) (by rw [← h])
end Go.Sx

set_option linter.unusedVariables false
set_option linter.unusedSimpArgs false
namespace Go.Sx
structure Rs where
 p : Nat
 e : Nat
def zG (bs : List zP) (R : Rs) : zP × Rs := if R.e ≠ 0 then (0#8, R) else if bs.length ≤ R.p then (0#8, ⟨R.p, 6⟩) else (bs.getD R.p 0, ⟨R.p + 1, 0⟩)
def zIW (b : List zP) (X : BitVec 64) : Nat := if (zCH b).2.2 = 0 ∧ X.toNat < (zCH b).1.toNat then 3 else (zCH b).2.2
def zN (bs : List zP) (X : BitVec 64) (R : Rs) : BitVec 64 × Rs :=
 if R.e ≠ 0 then (0#64, R) else if bs.length ≤ R.p then (0#64, ⟨R.p, 6⟩) else if zIW (bs.drop R.p) X ≠ 0 then (0#64, ⟨R.p, zIW (bs.drop R.p) X⟩) else ((zCH (bs.drop R.p)).1, ⟨R.p + (zCH (bs.drop R.p)).2.1, 0⟩)
def zY (bs : List zP) (R : Rs) : Int × Rs := (zOr (zN bs 18446744073709551615#64 R).1, (zN bs 18446744073709551615#64 R).2)
def zBc (e : Nat) (R : Rs) : Rs := if R.e = 0 then ⟨R.p, e⟩ else R
def zIR (bs : List zP) (R : Rs) : Nat := if R.e ≠ 0 ∨ bs.length ≤ R.p then R.e else 8
def zYd (bs : List zP) (R : Rs) : Rs := (zY bs (zY bs (zY bs R).2).2).2
theorem zL2 {b : List zP} {X : BitVec 64} (h : zIW b X = 0) : (zCH b).2.2 = 0 ∧ ¬ X.toNat < (zCH b).1.toNat := by
 unfold zIW at h
 split at h
 · cases h
 · rename_i h'
   exact ⟨h, fun h2 => h' ⟨h, h2⟩⟩
theorem zR0 {b : List zP} {X : BitVec 64} (h : zIW b X = 0) : 1 ≤ (zCH b).2.1 ∧ (zCH b).2.1 ≤ b.length := by
 have := zIX (zL2 h).1
 exact ⟨this.1, this.2.1⟩
theorem zUP (b : List zP) : (zCH b).2.1 ≤ 10 := by
 have := zFZ 10 b
 unfold zCH
 repeat' split
 all_goals simp
 omega
theorem zCe {bs : List zP} {X : BitVec 64} {R : Rs} (h : R.e ≠ 0) : zN bs X R = (0#64, R) := by unfold zN; rw [if_pos h]
theorem zCO {bs : List zP} {X : BitVec 64} {R : Rs} (h : R.e = 0) (h1 : bs.length ≤ R.p) : zN bs X R = (0#64, ⟨R.p, 6⟩) := by unfold zN; rw [if_neg (by omega), if_pos h1]
theorem zDi {bs : List zP} {X : BitVec 64} {R : Rs} (h : R.e = 0) (h1 : ¬ bs.length ≤ R.p) (h2 : zIW (bs.drop R.p) X ≠ 0) : zN bs X R = (0#64, ⟨R.p, zIW (bs.drop R.p) X⟩) := by unfold zN; rw [if_neg (by omega), if_neg h1, if_pos h2]
theorem zC1 {bs : List zP} {X : BitVec 64} {R : Rs} (h : R.e = 0) (h1 : ¬ bs.length ≤ R.p) (h2 : zIW (bs.drop R.p) X = 0) : zN bs X R = ((zCH (bs.drop R.p)).1, ⟨R.p + (zCH (bs.drop R.p)).2.1, 0⟩) := by unfold zN; rw [if_neg (by omega), if_neg h1, if_neg (by omega)]
theorem zDn {bs : List zP} {R : Rs} (h : R.e ≠ 0) : zG bs R = (0#8, R) := by unfold zG; rw [if_pos h]
theorem zC9 {bs : List zP} {R : Rs} (h : R.e = 0) (h1 : bs.length ≤ R.p) : zG bs R = (0#8, ⟨R.p, 6⟩) := by unfold zG; rw [if_neg (by omega), if_pos h1]
theorem zDe {bs : List zP} {R : Rs} (h : R.e = 0) (h1 : ¬ bs.length ≤ R.p) : zG bs R = (bs.getD R.p 0, ⟨R.p + 1, 0⟩) := by unfold zG; rw [if_neg (by omega), if_neg h1]
theorem zAz {bs : List zP} {X : BitVec 64} {R : Rs} (h : R.p ≤ bs.length) : (zN bs X R).2.p ≤ bs.length ∧ R.p ≤ (zN bs X R).2.p ∧ (zN bs X R).2.p ≤ R.p + 10 ∧ (zN bs X R).1.toNat ≤ X.toNat ∧ (R.e ≠ 0 → zN bs X R = (0#64, R)) := by
 by_cases h0 : R.e = 0
 · by_cases h1 : bs.length ≤ R.p
   · rw [zCO h0 h1]; simp; omega
   · by_cases h2 : zIW (bs.drop R.p) X = 0
     · rw [zC1 h0 h1 h2]
       have := zR0 h2
       have h3 := zUP (bs.drop R.p)
       have h4 := (zL2 h2).2
       simp only [List.length_drop] at this
       simp [h0]
       omega
     · rw [zDi h0 h1 h2]; simp [h0]; omega
 · rw [zCe h0]; simp; omega
theorem zDr {bs : List zP} {R : Rs} (h : R.p ≤ bs.length) : (zG bs R).2.p ≤ bs.length ∧ R.p ≤ (zG bs R).2.p ∧ (zG bs R).2.p ≤ R.p + 1 ∧ (R.e ≠ 0 → zG bs R = (0#8, R)) := by
 by_cases h0 : R.e = 0
 · by_cases h1 : bs.length ≤ R.p
   · rw [zC9 h0 h1]; simp [h0]; omega
   · rw [zDe h0 h1]; simp [h0]; omega
 · rw [zDn h0]; simp; omega
theorem zDB {bs : List zP} {R : Rs} (h : R.p ≤ bs.length) : (zY bs R).2.p ≤ bs.length ∧ R.p ≤ (zY bs R).2.p ∧ (zY bs R).2.p ≤ R.p + 10 ∧ (R.e ≠ 0 → zY bs R = (0, R)) := by
 have := zAz (X := 18446744073709551615#64) h
 refine ⟨this.1, this.2.1, this.2.2.1, fun h0 => ?_⟩
 unfold zY
 rw [this.2.2.2.2 h0]
 simp [zOr]
theorem zV9 {bs : List zP} {R : Rs} (h : R.p ≤ bs.length) : (zYd bs R).p ≤ bs.length ∧ R.p ≤ (zYd bs R).p ∧ (zYd bs R).p ≤ R.p + 30 := by
 have h1 := zDB h
 have h2 := zDB h1.1
 have h3 := zDB h2.1
 unfold zYd
 omega
theorem zBM {bs : List zP} {e : Nat} {R : Rs} (h : R.p ≤ bs.length) : (zBc e R).p ≤ bs.length ∧ (zBc e R).p = R.p ∧ (R.e = 0 → (zBc e R).e = e) ∧ (R.e ≠ 0 → (zBc e R).e = R.e) := by
 unfold zBc
 split
 · rename_i h0; simp [h, h0]
 · rename_i h0; simp [h, h0]
theorem zNx {bs : List zP} {R : Rs} (h : R.e ≠ 0) : (zG bs R).2.p = R.p ∧ (zG bs R).2.e = R.e ∧ (zG bs R).1.toNat = 0 := by rw [zDn h]; simp
theorem zI7 {bs : List zP} {X : BitVec 64} {R : Rs} (h : R.e ≠ 0) : (zN bs X R).2.p = R.p ∧ (zN bs X R).2.e = R.e ∧ (zN bs X R).1.toNat = 0 := by rw [zCe h]; simp
theorem zKM {bs : List zP} {R : Rs} (h : R.e ≠ 0) : (zY bs R).2.p = R.p ∧ (zY bs R).2.e = R.e ∧ (zY bs R).1 = 0 := by
 unfold zY
 rw [zCe h]
 simp [zOr]
end Go.Sx

set_option linter.unusedVariables false
set_option linter.unusedSimpArgs false
namespace Go.Sx
structure zAA where
 k : Int
 id : Int
 p0 : Int
 p1 : Int
 p2 : Int
 v0 : Int
 v1 : Int
 v2 : Int
 a : BitVec 16
instance : Inhabited zAA := ⟨⟨0, 0, 0, 0, 0, 0, 0, 0, 0#16⟩⟩
structure zAA.wf (r : zAA) : Prop where
 k : -9223372036854775808 ≤ r.k ∧ r.k ≤ 9223372036854775807
 id : -9223372036854775808 ≤ r.id ∧ r.id ≤ 9223372036854775807
 p0 : -9223372036854775808 ≤ r.p0 ∧ r.p0 ≤ 9223372036854775807
 p1 : -9223372036854775808 ≤ r.p1 ∧ r.p1 ≤ 9223372036854775807
 p2 : -9223372036854775808 ≤ r.p2 ∧ r.p2 ≤ 9223372036854775807
 v0 : -9223372036854775808 ≤ r.v0 ∧ r.v0 ≤ 9223372036854775807
 v1 : -9223372036854775808 ≤ r.v1 ∧ r.v1 ≤ 9223372036854775807
 v2 : -9223372036854775808 ≤ r.v2 ∧ r.v2 ≤ 9223372036854775807
theorem zAA.wf.facts {r : zAA} (h : r.wf) : (-9223372036854775808 ≤ r.k ∧ r.k ≤ 9223372036854775807) ∧ (-9223372036854775808 ≤ r.id ∧ r.id ≤ 9223372036854775807) ∧ (-9223372036854775808 ≤ r.p0 ∧ r.p0 ≤ 9223372036854775807) ∧ (-9223372036854775808 ≤ r.p1 ∧ r.p1 ≤ 9223372036854775807) ∧ (-9223372036854775808 ≤ r.p2 ∧ r.p2 ≤ 9223372036854775807) ∧
 (-9223372036854775808 ≤ r.v0 ∧ r.v0 ≤ 9223372036854775807) ∧ (-9223372036854775808 ≤ r.v1 ∧ r.v1 ≤ 9223372036854775807) ∧ (-9223372036854775808 ≤ r.v2 ∧ r.v2 ≤ 9223372036854775807) := ⟨h.k, h.id, h.p0, h.p1, h.p2, h.v0, h.v1, h.v2⟩
def zJD (r : zAA) : List Value := [.int .i64 r.k, .int .i64 r.id, .int .i64 r.p0, .int .i64 r.p1, .int .i64 r.p2, .int .i64 r.v0, .int .i64 r.v1, .int .i64 r.v2, .int .u16 ((r.a.toNat : Nat) : Int)]
def zAA.num (r : zAA) : Nat → Int
 | 0 => r.p0
 | 1 => r.p1
 | 2 => r.p2
 | 3 => r.v0
 | 4 => r.v1
 | _ => r.v2
def zBD (r : zAA) : Bool := r.p0 == 0 && r.p1 == 0 && r.p2 == 0 && r.v0 == 0 && r.v1 == 0 && r.v2 == 0 && (((r.a.toNat : Nat) : Int) == 0)
def zAc (r : zAA) : Nat := if r.k < 0 ∨ 3 < r.k then 11 else if r.id < 0 ∨ 65535 < r.id then 3 else if r.k = 1 ∧ zBD r = true ∨ r.k = 2 ∧ zBD r = false then 2 else 0
theorem zLk (r : zAA) : zAQ [.int .i64 r.k, .int .i64 r.id, .int .i64 r.p0, .int .i64 r.p1, .int .i64 r.p2, .int .i64 r.v0, .int .i64 r.v1, .int .i64 r.v2, .int .u16 ((r.a.toNat : Nat) : Int)] [.int .i64 r.k, .int .i64 r.id, .int .i64 0, .int .i64 0, .int .i64 0, .int .i64 0, .int .i64 0, .int .i64 0, .int .u16 0] = zBD r := by
 simp [zAQ, vEq, zBD, Bool.and_assoc]
theorem zQN (r : zAA) : zAc r ≤ 11 := by
 unfold zAc; repeat' split
 all_goals omega
theorem zMX {r : zAA} (h : zAc r = 0) : 0 ≤ r.k ∧ r.k ≤ 3 ∧ 0 ≤ r.id ∧ r.id ≤ 65535 := by
 unfold zAc at h
 split at h
 · cases h
 · split at h
   · cases h
   · omega
def zDL (x : Int) : List zP := zCI (zGG x).toNat
theorem zAF (x : Int) : (zDL x).length ≤ 10 ∧ 1 ≤ (zDL x).length := by
 have := zCq (zGG x).toNat
 have := zCw (zGG x).toNat
 unfold zDL
 simp only [zBP] at *
 omega
def zBT (r : zAA) : List zP := zDL r.p0 ++ zDL r.p1 ++ zDL r.p2 ++ zDL r.v0 ++ zDL r.v1 ++ zDL r.v2 ++ zCI r.a.toNat
def zAu (r : zAA) : Nat → BitVec 8
 | 0 => 0#8
 | i + 1 => if r.num i = 0 then zAu r i else zAu r i ||| (1#8 <<< i)
def zAY (r : zAA) : Nat → List zP
 | 0 => []
 | i + 1 => if r.num i = 0 then zAY r i else zAY r i ++ zDL (r.num i)
def zCM (r : zAA) : BitVec 8 := if r.a = 0#16 then zAu r 6 else zAu r 6 ||| 64#8
def zGI (r : zAA) : List zP := if r.a = 0#16 then zAY r 6 else zAY r 6 ++ zCI r.a.toNat
def zBF (r : zAA) : List zP := zCM r :: zGI r
def zDy (r : zAA) : List zP := if r.k = 1 then zBF r else if r.k = 2 then [] else zBT r
def zAy (r : zAA) (last : Int) : Nat := if zAc r ≠ 0 then zAc r else if last < -1 ∨ 65535 < last then 3 else if r.id ≤ last then 10 else 0
def zAU (r : zAA) (last : Int) : List zP := zCI (BitVec.ofInt 64 (r.id - last - 1)).toNat ++ [BitVec.ofInt 8 r.k]
def zCV (r : zAA) (last : Int) : List zP := if zAy r last ≠ 0 then [] else zAU r last ++ zDy r
theorem zNO {r : zAA} {i : Nat} (h : r.num i = 0) : zAu r (i + 1) = zAu r i := by simp [zAu, h]
theorem zM7 {r : zAA} {i : Nat} (h : r.num i ≠ 0) : zAu r (i + 1) = zAu r i ||| (1#8 <<< i) := by simp [zAu, h]
theorem zHJ {r : zAA} {i : Nat} (h : r.num i = 0) : zAY r (i + 1) = zAY r i := by simp [zAY, h]
theorem zHG {r : zAA} {i : Nat} (h : r.num i ≠ 0) : zAY r (i + 1) = zAY r i ++ zDL (r.num i) := by simp [zAY, h]
theorem zBO (r : zAA) : ∀ i, (zAY r i).length ≤ 10 * i := by
 intro i
 induction i with
 | zero => simp [zAY]
 | succ i ih =>
   unfold zAY
   have := zAF (r.num i)
   split
   · omega
   · simp; omega
theorem zEC (n : Nat) : (zCI n).length ≤ 10 := by have := zCq n; simpa [zBP] using this
theorem zHs (r : zAA) (last : Int) : (zCV r last).length ≤ 100 := by
 unfold zCV
 split
 · simp
 · have h1 := zEC (BitVec.ofInt 64 (r.id - last - 1)).toNat
   have h2 := zEC r.a.toNat
   have h3 := zBO r 6
   have n0 := zAF r.p0
   have n1 := zAF r.p1
   have n2 := zAF r.p2
   have n3 := zAF r.v0
   have n4 := zAF r.v1
   have n5 := zAF r.v2
   unfold zAU zDy
   split
   · unfold zBF zGI
     split <;> simp only [List.length_append, List.length_cons, List.length_nil] <;> omega
   · split
     · simp only [List.length_append, List.length_cons, List.length_nil]; omega
     · unfold zBT; simp only [List.length_append, List.length_cons, List.length_nil]; omega
theorem zMq {bs l : List zP} {x : zP} {m : Nat} (h : bs.length = m) : (bs ++ x :: l).getD m 0 = x := by
 subst h
 simp [List.getD_eq_getElem?_getD]
theorem zRV {bs l : List zP} {x y : zP} {m : Nat} (h : bs.length = m) : (bs ++ x :: l).set m y = bs ++ y :: l := by
 subst h
 simp
theorem zSh (a : BitVec 16) : (a.setWidth 64).toNat = a.toNat := by
 rw [BitVec.toNat_setWidth]
 have := a.isLt
 omega
theorem zPl {a : BitVec 16} (h : ((a.toNat : Nat) : Int) = 0) : a = 0#16 := BitVec.eq_of_toNat_eq (by simpa using h)
theorem zaG {a : BitVec 16} (h : ((a.toNat : Nat) : Int) ≠ 0) : a ≠ 0#16 := fun e => h (by subst e; rfl)
theorem zBV {r : zAA} (h : ((r.a.toNat : Nat) : Int) = 0) : zBF r = zAu r 6 :: zAY r 6 := by
 unfold zBF zCM zGI
 rw [if_pos (zPl h), if_pos (zPl h)]
theorem zBR {r : zAA} (h : ((r.a.toNat : Nat) : Int) ≠ 0) : zBF r = (zAu r 6 ||| 64#8) :: (zAY r 6 ++ zCI r.a.toNat) := by
 unfold zBF zCM zGI
 rw [if_neg (zaG h), if_neg (zaG h)]
theorem zIU (r : zAA) : (zBF r).length ≤ 71 := by
 have h2 := zEC r.a.toNat
 have h3 := zBO r 6
 unfold zBF zGI
 split <;> simp only [List.length_append, List.length_cons] <;> omega
theorem zJF (r : zAA) : (zBT r).length ≤ 70 := by
 have h2 := zEC r.a.toNat
 have n0 := zAF r.p0
 have n1 := zAF r.p1
 have n2 := zAF r.p2
 have n3 := zAF r.v0
 have n4 := zAF r.v1
 have n5 := zAF r.v2
 unfold zBT
 simp only [List.length_append]
 omega
theorem zDT {r : zAA} {last : Int} (h : zAy r last ≠ 0) : zCV r last = [] := by unfold zCV; rw [if_pos h]
theorem zBC {r : zAA} {last : Int} (h : zAy r last = 0) (hk : r.k = 0 ∨ r.k = 3) : zCV r last = zAU r last ++ zBT r := by
 unfold zCV zDy
 rw [if_neg (by omega), if_neg (by omega), if_neg (by omega)]
theorem zAN {r : zAA} {last : Int} (h : zAy r last = 0) (hk : r.k = 1) : zCV r last = zAU r last ++ zBF r := by
 unfold zCV zDy
 rw [if_neg (by omega), if_pos hk]
theorem zAx {r : zAA} {last : Int} (h : zAy r last = 0) (hk : r.k = 2) : zCV r last = zAU r last := by
 unfold zCV zDy
 rw [if_neg (by omega), if_neg (by omega), if_pos hk, List.append_nil]
theorem zB5 {r : zAA} {last : Int} (h : zAc r ≠ 0) : zAy r last = zAc r := by unfold zAy; rw [if_pos h]
theorem zB6 {r : zAA} {last : Int} (h : zAc r = 0) (h2 : last < -1 ∨ 65535 < last) : zAy r last = 3 := by unfold zAy; rw [if_neg (by omega), if_pos h2]
theorem zB1 {r : zAA} {last : Int} (h : zAc r = 0) (h2 : ¬ (last < -1 ∨ 65535 < last)) (h3 : r.id ≤ last) : zAy r last = 10 := by unfold zAy; rw [if_neg (by omega), if_neg h2, if_pos h3]
theorem zCg {r : zAA} {last : Int} (h : zAc r = 0) (h2 : ¬ (last < -1 ∨ 65535 < last)) (h3 : ¬ r.id ≤ last) : zAy r last = 0 := by unfold zAy; rw [if_neg (by omega), if_neg h2, if_neg h3]
theorem zIO (r : zAA) (last : Int) : (zAU r last).length ≤ 11 := by
 have h1 := zEC (BitVec.ofInt 64 (r.id - last - 1)).toNat
 unfold zAU
 simp only [List.length_append, List.length_cons, List.length_nil]
 omega
theorem zCv {r : zAA} {last : Int} (h : zAy r last = 0) : 0 ≤ r.id ∧ r.id ≤ 65535 ∧ -1 ≤ last ∧ last < r.id := by
 unfold zAy at h
 split at h
 · omega
 · rename_i h0
   have h1 := zMX (r := r) (by omega)
   split at h
   · cases h
   · split at h
     · cases h
     · omega
end Go.Sx

set_option linter.unusedVariables false
set_option linter.unusedSimpArgs false
namespace Go.Sx
def zVX (m : BitVec 8) : Nat → BitVec 8
 | 0 => m
 | i + 1 => zVX m i / 2#8
theorem zSD (m : BitVec 8) : ∀ i, zVX m i = m >>> i
 | 0 => by simp [zVX]
 | i + 1 => by
   unfold zVX
   rw [zSD m i]
   apply BitVec.eq_of_toNat_eq
   rw [BitVec.toNat_udiv, BitVec.toNat_ushiftRight, BitVec.toNat_ushiftRight, Nat.shiftRight_succ]
   rfl
def zBk (m : BitVec 8) (i : Nat) : Bool := ((zVX m i).toNat % 2) == 1
def upI (bs : List zP) (m : BitVec 8) (i : Nat) (R : Rs) : Int × Rs :=
 if zBk m i = true then ((zY bs R).1, if (zY bs R).1 = 0 then zBc 7 (zY bs R).2 else (zY bs R).2) else (0, R)
def upS (bs : List zP) (m : BitVec 8) (R : Rs) : Nat → Rs
 | 0 => R
 | i + 1 => (upI bs m i (upS bs m R i)).2
def upX (bs : List zP) (m : BitVec 8) (R : Rs) (i : Nat) : Int := (upI bs m i (upS bs m R i)).1
def upA (bs : List zP) (m : BitVec 8) (R : Rs) : BitVec 16 × Rs :=
 if zBk m 6 = true then (((zN bs 65535#64 R).1).setWidth 16, if (zN bs 65535#64 R).1 = 0#64 then zBc 7 (zN bs 65535#64 R).2 else (zN bs 65535#64 R).2) else (0#16, R)
def zA2 (bs : List zP) (k id : Int) (R : Rs) : zAA × Rs :=
 let q := zG bs R
 if q.1.toNat = 0 ∨ 127 < q.1.toNat then (⟨k, id, 0, 0, 0, 0, 0, 0, 0#16⟩, zBc 7 q.2)
 else (⟨k, id, upX bs q.1 q.2 0, upX bs q.1 q.2 1, upX bs q.1 q.2 2, upX bs q.1 q.2 3, upX bs q.1 q.2 4, upX bs q.1 q.2 5, (upA bs q.1 (upS bs q.1 q.2 6)).1⟩, (upA bs q.1 (upS bs q.1 q.2 6)).2)
def nS (bs : List zP) (R : Rs) : Nat → Rs
 | 0 => R
 | i + 1 => (zY bs (nS bs R i)).2
def nX (bs : List zP) (R : Rs) (i : Nat) : Int := (zY bs (nS bs R i)).1
def zB8 (bs : List zP) (k id : Int) (R : Rs) : zAA × Rs :=
 (⟨k, id, nX bs R 0, nX bs R 1, nX bs R 2, nX bs R 3, nX bs R 4, nX bs R 5, ((zN bs 65535#64 (nS bs R 6)).1).setWidth 16⟩, (zN bs 65535#64 (nS bs R 6)).2)
def zA5 (bs : List zP) (k id : Int) (R : Rs) : zAA × Rs :=
 if k = 0 ∨ k = 3 then zB8 bs k id R else if k = 1 then zA2 bs k id R else if k = 2 then (⟨k, id, 0, 0, 0, 0, 0, 0, 0#16⟩, R) else (⟨k, id, 0, 0, 0, 0, 0, 0, 0#16⟩, zBc 11 R)
def zOz : zAA := ⟨0, 0, 0, 0, 0, 0, 0, 0, 0#16⟩
def zPD (bs : List zP) (last : Int) (R : Rs) : BitVec 64 × Rs := zN bs (BitVec.ofInt 64 (65534 - last)) R
def zEI (bs : List zP) (last : Int) (R : Rs) : zAA × Rs :=
 zA5 bs (((zG bs (zPD bs last R).2).1.toNat : Nat) : Int) (last + 1 + (((zPD bs last R).1.toNat : Nat) : Int)) (zG bs (zPD bs last R).2).2
def zAD (bs : List zP) (last : Int) (R : Rs) : zAA × Nat × Rs :=
 if last < -1 ∨ 65535 < last then (zOz, 3, R) else if last = 65535 then (zOz, (zBc 10 R).e, zBc 10 R)
 else if (zEI bs last R).2.e ≠ 0 then (zOz, (zEI bs last R).2.e, (zEI bs last R).2) else ((zEI bs last R).1, 0, (zEI bs last R).2)
def za2 (r : zAA) : Nat → List zP
 | 0 => []
 | i + 1 => za2 r i ++ zDL (r.num i)
theorem zGr (r : zAA) : za2 r 6 = zDL r.p0 ++ zDL r.p1 ++ zDL r.p2 ++ zDL r.v0 ++ zDL r.v1 ++ zDL r.v2 := rfl
def upQ (bs : List zP) (m : BitVec 8) (R : Rs) (i j : Nat) : Int := if j < i then upX bs m R j else 0
section
variable {bs : List zP} {m : BitVec 8} {R : Rs} {i : Nat} {p q z : Value}
theorem zaJ (h : upX bs m R i = 0) (j : Nat) : upQ bs m R i j = upQ bs m R (i + 1) j := by
 unfold upQ
 by_cases h1 : j < i
 · rw [if_pos h1, if_pos (by omega)]
 · by_cases h2 : j = i
   · subst h2; rw [if_neg h1, if_pos (by omega), h]
   · rw [if_neg h1, if_neg (by omega)]
theorem six {i : Nat} (h : i < 6) : i = 0 ∨ i = 1 ∨ i = 2 ∨ i = 3 ∨ i = 4 ∨ i = 5 := by omega
theorem zXZ (h : i < 6) : [p, q, zI (upQ bs m R i 0), zI (upQ bs m R i 1), zI (upQ bs m R i 2), zI (upQ bs m R i 3), zI (upQ bs m R i 4), zI (upQ bs m R i 5), z].set (2 + i) (zI (upX bs m R i)) = [p, q, zI (upQ bs m R (i + 1) 0), zI (upQ bs m R (i + 1) 1), zI (upQ bs m R (i + 1) 2), zI (upQ bs m R (i + 1) 3), zI (upQ bs m R (i + 1) 4), zI (upQ bs m R (i + 1) 5), z] := by
 rcases six h with rfl | rfl | rfl | rfl | rfl | rfl <;> simp [upQ]
theorem zXQ (h : i < 6) : [p, q, zI (upQ bs m R (i + 1) 0), zI (upQ bs m R (i + 1) 1), zI (upQ bs m R (i + 1) 2), zI (upQ bs m R (i + 1) 3), zI (upQ bs m R (i + 1) 4), zI (upQ bs m R (i + 1) 5), z][2 + i]? = some (zI (upX bs m R i)) := by
 rcases six h with rfl | rfl | rfl | rfl | rfl | rfl <;> simp [upQ]
theorem zU2 {g : Nat} (h : i < 6) : [pt g 2, pt g 3, pt g 4, pt g 5, pt g 6, pt g 7][((i : Nat) : Int).toNat]? = some (pt g (2 + i)) := by
 rcases six h with rfl | rfl | rfl | rfl | rfl | rfl <;> rfl
theorem zXB {r : zAA} (hw : r.wf) (h : i < 6) : -9223372036854775808 ≤ r.num i ∧ r.num i ≤ 9223372036854775807 := by
 rcases six h with rfl | rfl | rfl | rfl | rfl | rfl
 · exact hw.p0
 · exact hw.p1
 · exact hw.p2
 · exact hw.v0
 · exact hw.v1
 · exact hw.v2
theorem zQY {r : zAA} (h : i < 6) : [p, q, zI r.p0, zI r.p1, zI r.p2, zI r.v0, zI r.v1, zI r.v2, z][2 + i]? = some (zI (r.num i)) := by
 rcases six h with rfl | rfl | rfl | rfl | rfl | rfl <;> rfl
end
theorem zUn {m : BitVec 8} {i : Nat} : zBk m i = true ↔ (zVX m i).toNat % 2 = 1 := by unfold zBk; simp
theorem zVB (m : BitVec 8) (i : Nat) : ((m >>> i) &&& 1#8).toNat = (zVX m i).toNat % 2 := by
 rw [BitVec.toNat_and, show (1#8).toNat = 1 from rfl, Nat.and_one_is_mod, zSD]
theorem zWS {m : BitVec 8} {i : Nat} (h : ((((m >>> i) &&& 1#8).toNat : Nat) : Int) = 0) : zBk m i = false := by
 rw [zVB] at h
 unfold zBk
 rw [show (zVX m i).toNat % 2 = 0 by omega]
 rfl
theorem zW4 {m : BitVec 8} {i : Nat} (h : ((((m >>> i) &&& 1#8).toNat : Nat) : Int) ≠ 0) : zBk m i = true := by
 rw [zVB] at h
 rw [zUn]
 omega
theorem zaI (m : BitVec 8) : (m &&& 64#8).toNat = 0 ↔ zBk m 6 = false := by
 have key : ∀ m : BitVec 8, (m &&& 64#8).toNat = 0 ↔ zBk m 6 = false := by decide +kernel
 exact key m
theorem zTm {m : BitVec 8} (h : (((m &&& 64#8).toNat : Nat) : Int) = 0) : zBk m 6 = false := (zaI m).1 (by omega)
theorem zTp {m : BitVec 8} (h : (((m &&& 64#8).toNat : Nat) : Int) ≠ 0) : zBk m 6 = true := by
 cases hb : zBk m 6 with
 | true => rfl
 | false => exact absurd ((zaI m).2 hb) (by omega)
theorem zVs {bs : List zP} {m : BitVec 8} {R : Rs} (h : zBk m 6 = false) : upA bs m R = (0#16, R) := by unfold upA; rw [if_neg (by rw [h]; decide)]
theorem zWi {bs : List zP} {m : BitVec 8} {R : Rs} (h : zBk m 6 = true) (h2 : (zN bs 65535#64 R).1.toNat = 0) : upA bs m R = ((zN bs 65535#64 R).1.setWidth 16, zBc 7 (zN bs 65535#64 R).2) := by
 unfold upA
 rw [if_pos h, if_pos (BitVec.eq_of_toNat_eq h2)]
theorem zXa {bs : List zP} {m : BitVec 8} {R : Rs} (h : zBk m 6 = true) (h2 : (zN bs 65535#64 R).1.toNat ≠ 0) : upA bs m R = ((zN bs 65535#64 R).1.setWidth 16, (zN bs 65535#64 R).2) := by
 unfold upA
 rw [if_pos h, if_neg (fun e => h2 (by rw [e]; rfl))]
theorem zbJ {X : BitVec 64} (h : X.toNat ≤ 65535) : (X.setWidth 16).toNat = X.toNat := by
 rw [BitVec.toNat_setWidth]
 omega
theorem zH6 {X : BitVec 64} (h : X.toNat ≤ 65535) : X.toInt = ((X.toNat : Nat) : Int) := by
 rw [BitVec.toInt_eq_toNat_cond, if_pos (by omega)]
theorem zDv {x : Int} (h : 0 ≤ x) (h2 : x ≤ 9223372036854775807) : (((BitVec.ofInt 64 x).toNat : Nat) : Int) = x := by
 rw [BitVec.toNat_ofInt]
 omega
theorem zbE {bs : List zP} {m : BitVec 8} {R : Rs} {i : Nat} (h : zBk m i = true) (h2 : (zY bs (upS bs m R i)).1 = 0) : upS bs m R (i + 1) = zBc 7 (zY bs (upS bs m R i)).2 := by
 show (upI _ _ _ _).2 = _
 unfold upI
 rw [if_pos h]
 dsimp only
 rw [if_pos h2]
theorem zbF {bs : List zP} {m : BitVec 8} {R : Rs} {i : Nat} (h : zBk m i = true) (h2 : (zY bs (upS bs m R i)).1 ≠ 0) : upS bs m R (i + 1) = (zY bs (upS bs m R i)).2 := by
 show (upI _ _ _ _).2 = _
 unfold upI
 rw [if_pos h]
 dsimp only
 rw [if_neg h2]
theorem zaZ {bs : List zP} {m : BitVec 8} {R : Rs} {i : Nat} (h : zBk m i = true) : upX bs m R i = (zY bs (upS bs m R i)).1 := by
 unfold upX upI
 rw [if_pos h]
theorem zaa {bs : List zP} {m : BitVec 8} {R : Rs} {i : Nat} (h : zBk m i = false) : upS bs m R (i + 1) = upS bs m R i := by
 show (upI _ _ _ _).2 = _
 unfold upI
 rw [if_neg (by rw [h]; decide)]
theorem zax {bs : List zP} {m : BitVec 8} {R : Rs} {i : Nat} (h : zBk m i = false) : upX bs m R i = 0 := by
 unfold upX upI
 rw [if_neg (by rw [h]; decide)]
theorem zYi {bs : List zP} {m : BitVec 8} {i : Nat} {R : Rs} (h : R.p ≤ bs.length) : (upI bs m i R).2.p ≤ bs.length ∧ R.p ≤ (upI bs m i R).2.p ∧ (upI bs m i R).2.p ≤ R.p + 10 := by
 unfold upI
 have h1 := zDB h
 split
 · dsimp only
   split
   · have := zBM (e := 7) h1.1; omega
   · omega
 · dsimp only; omega
theorem zKY {bs : List zP} {m : BitVec 8} {R : Rs} (h : R.p ≤ bs.length) : ∀ i, (upS bs m R i).p ≤ bs.length ∧ R.p ≤ (upS bs m R i).p ∧ (upS bs m R i).p ≤ R.p + 10 * i
 | 0 => by simp [upS, h]
 | i + 1 => by
   have h1 := zKY h i (m := m)
   have h2 := zYi (m := m) (i := i) h1.1
   show (upI _ _ _ _).2.p ≤ _ ∧ _ ≤ (upI _ _ _ _).2.p ∧ (upI _ _ _ _).2.p ≤ _
   omega
theorem zZk {bs : List zP} {R : Rs} (h : R.p ≤ bs.length) : ∀ i, (nS bs R i).p ≤ bs.length ∧ R.p ≤ (nS bs R i).p ∧ (nS bs R i).p ≤ R.p + 10 * i
 | 0 => by simp [nS, h]
 | i + 1 => by
   have h1 := zZk h i
   have h2 := zDB h1.1
   show (zY _ _).2.p ≤ _ ∧ _ ≤ (zY _ _).2.p ∧ (zY _ _).2.p ≤ _
   omega
theorem zYr {bs : List zP} {m : BitVec 8} {R : Rs} (h : R.p ≤ bs.length) : (upA bs m R).2.p ≤ bs.length ∧ R.p ≤ (upA bs m R).2.p := by
 unfold upA
 have h1 := zAz (X := 65535#64) h
 split
 · dsimp only
   split
   · have := zBM (e := 7) h1.1; omega
   · omega
 · dsimp only; omega
section
variable {bs : List zP} {m : BitVec 8} {R : Rs} {i : Nat}
end
theorem zLO {bs : List zP} {k id : Int} {R : Rs} (h : R.p ≤ bs.length) : (zA2 bs k id R).2.p ≤ bs.length ∧ R.p ≤ (zA2 bs k id R).2.p := by
 have h1 := zDr h
 have h2 := zKY (m := (zG bs R).1) h1.1 6
 have h3 := zYr (m := (zG bs R).1) h2.1
 have h4 := zBM (e := 7) h1.1
 unfold zA2
 dsimp only
 split <;> (dsimp only; omega)
theorem zJi {bs : List zP} {k id : Int} {R : Rs} (h : R.p ≤ bs.length) : (zB8 bs k id R).2.p ≤ bs.length ∧ R.p ≤ (zB8 bs k id R).2.p := by
 have h2 := zZk h 6
 have h3 := zAz (X := 65535#64) h2.1
 unfold zB8
 dsimp only; omega
theorem zPy {bs : List zP} {k id : Int} {R : Rs} (h : R.p ≤ bs.length) : (zA5 bs k id R).2.p ≤ bs.length ∧ R.p ≤ (zA5 bs k id R).2.p := by
 unfold zA5
 split
 · exact zJi h
 · split
   · exact zLO h
   · split
     · dsimp only; omega
     · have := zBM (e := 11) h; dsimp only; omega
theorem zNV {bs : List zP} {last : Int} {R : Rs} (h : R.p ≤ bs.length) : (zAD bs last R).2.2.p ≤ bs.length ∧ R.p ≤ (zAD bs last R).2.2.p := by
 have h1 : (zPD bs last R).2.p ≤ bs.length ∧ R.p ≤ (zPD bs last R).2.p := by
   have := zAz (X := BitVec.ofInt 64 (65534 - last)) h
   unfold zPD
   omega
 have h2 := zDr h1.1
 have h3 : (zEI bs last R).2.p ≤ bs.length ∧ (zG bs (zPD bs last R).2).2.p ≤ (zEI bs last R).2.p := zPy h2.1
 have h4 := zBM (e := 10) h
 unfold zAD
 repeat' split
 all_goals (dsimp only; omega)
theorem zMK {α β : Type} {p x : α × β} (h : p = x) : p = (x.1, x.2) := h
theorem zGA (bs : List zP) (last : Int) (R : Rs) : zEI bs last R = zA5 bs (((zG bs (zN bs (BitVec.ofInt 64 (65534 - last)) R).2).1.toNat : Nat) : Int) (last + 1 + (((zN bs (BitVec.ofInt 64 (65534 - last)) R).1.toNat : Nat) : Int)) (zG bs (zN bs (BitVec.ofInt 64 (65534 - last)) R).2).2 := rfl
theorem zGR {bs : List zP} {k id : Int} {R : Rs} (h : k = 0 ∨ k = 3) : zA5 bs k id R = zB8 bs k id R := by unfold zA5; rw [if_pos h]
theorem zH4 {bs : List zP} {k id : Int} {R : Rs} (h : k = 1) : zA5 bs k id R = zA2 bs k id R := by unfold zA5; rw [if_neg (by omega), if_pos h]
theorem zHx {bs : List zP} {k id : Int} {R : Rs} (h : k = 2) : zA5 bs k id R = (⟨k, id, 0, 0, 0, 0, 0, 0, 0#16⟩, R) := by unfold zA5; rw [if_neg (by omega), if_neg (by omega), if_pos h]
theorem zOA {bs : List zP} {k id : Int} {R : Rs} (h : ¬ (k = 0 ∨ k = 1 ∨ k = 2 ∨ k = 3)) : zA5 bs k id R = (⟨k, id, 0, 0, 0, 0, 0, 0, 0#16⟩, zBc 11 R) := by unfold zA5; rw [if_neg (by omega), if_neg (by omega), if_neg (by omega)]
theorem zEW {bs : List zP} {last : Int} {R : Rs} (h : last < -1 ∨ 65535 < last) : zAD bs last R = (zOz, 3, R) := by unfold zAD; rw [if_pos h]
theorem zEM {bs : List zP} {last : Int} {R : Rs} (h : last = 65535) : zAD bs last R = (zOz, (zBc 10 R).e, zBc 10 R) := by unfold zAD; rw [if_neg (by omega), if_pos h]
theorem zDc {bs : List zP} {last : Int} {R RR : Rs} {rr : zAA} (h : ¬ (last < -1 ∨ 65535 < last)) (h2 : last ≠ 65535) (hr : zEI bs last R = (rr, RR)) (he : RR.e ≠ 0) : zAD bs last R = (zOz, RR.e, RR) := by
 unfold zAD
 rw [if_neg h, if_neg h2, hr, if_pos he]
theorem zEq {bs : List zP} {last : Int} {R RR : Rs} {rr : zAA} (h : ¬ (last < -1 ∨ 65535 < last)) (h2 : last ≠ 65535) (hr : zEI bs last R = (rr, RR)) (he : RR.e = 0) : zAD bs last R = (rr, 0, RR) := by
 unfold zAD
 rw [if_neg h, if_neg h2, hr, if_neg (by simpa using he)]
theorem zIt {bs : List zP} {k id : Int} {R : Rs} (h : (zG bs R).1.toNat = 0 ∨ 127 < (zG bs R).1.toNat) : zA2 bs k id R = (⟨k, id, 0, 0, 0, 0, 0, 0, 0#16⟩, zBc 7 (zG bs R).2) := by
 unfold zA2
 dsimp only
 rw [if_pos h]
theorem zIG {bs : List zP} {k id : Int} {R : Rs} {A : BitVec 16} {T : Rs} (h : ¬ ((zG bs R).1.toNat = 0 ∨ 127 < (zG bs R).1.toNat)) (hA : upA bs (zG bs R).1 (upS bs (zG bs R).1 (zG bs R).2 6) = (A, T)) : zA2 bs k id R = (⟨k, id, upX bs (zG bs R).1 (zG bs R).2 0, upX bs (zG bs R).1 (zG bs R).2 1, upX bs (zG bs R).1 (zG bs R).2 2, upX bs (zG bs R).1 (zG bs R).2 3, upX bs (zG bs R).1 (zG bs R).2 4, upX bs (zG bs R).1 (zG bs R).2 5, A⟩, T) := by
 unfold zA2
 dsimp only
 rw [if_neg h, hA]
theorem zRa {bs : List zP} {last : Int} {R : Rs} (h : R.p ≤ bs.length) (h1 : -1 ≤ last) (h2 : last < 65535) : (((zN bs (BitVec.ofInt 64 (65534 - last)) R).1.toNat : Nat) : Int) ≤ 65534 - last := by
 have h3 := (zAz (X := BitVec.ofInt 64 (65534 - last)) h).2.2.2.1
 have h4 := zDv (x := 65534 - last) (by omega) (by omega)
 omega
theorem zTL {bs : List zP} {last : Int} {R : Rs} (h : R.p ≤ bs.length) (h1 : -1 ≤ last) (h2 : last < 65535) : (zN bs (BitVec.ofInt 64 (65534 - last)) R).1.toInt = (((zN bs (BitVec.ofInt 64 (65534 - last)) R).1.toNat : Nat) : Int) := by
 have := zRa h h1 h2
 by_cases h5 : 65534 - last ≤ 65535
 · exact zH6 (by omega)
 · exact zH6 (by omega)
end Go.Sx

set_option linter.unusedVariables false
set_option linter.unusedSimpArgs false
namespace Go.Sx
structure zX where
 id : Int
 p0 : Int
 p1 : Int
 p2 : Int
 v0 : Int
 v1 : Int
 v2 : Int
 a : BitVec 16
 g : BitVec 8
instance : Inhabited zX := ⟨⟨0, 0, 0, 0, 0, 0, 0, 0#16, 0#8⟩⟩
structure zX.wf (r : zX) : Prop where
 id : -9223372036854775808 ≤ r.id ∧ r.id ≤ 9223372036854775807
 p0 : -9223372036854775808 ≤ r.p0 ∧ r.p0 ≤ 9223372036854775807
 p1 : -9223372036854775808 ≤ r.p1 ∧ r.p1 ≤ 9223372036854775807
 p2 : -9223372036854775808 ≤ r.p2 ∧ r.p2 ≤ 9223372036854775807
 v0 : -9223372036854775808 ≤ r.v0 ∧ r.v0 ≤ 9223372036854775807
 v1 : -9223372036854775808 ≤ r.v1 ∧ r.v1 ≤ 9223372036854775807
 v2 : -9223372036854775808 ≤ r.v2 ∧ r.v2 ≤ 9223372036854775807
def zBK (r : zX) : List Value := [.int .i64 r.id, .int .i64 r.p0, .int .i64 r.p1, .int .i64 r.p2, .int .i64 r.v0, .int .i64 r.v1, .int .i64 r.v2, .int .u16 ((r.a.toNat : Nat) : Int), .int .u8 ((r.g.toNat : Nat) : Int)]
theorem zBo (r : zX) : (zBK r).length = 9 := rfl
def zCz : zX := ⟨0, 0, 0, 0, 0, 0, 0, 0#16, 0#8⟩
def zS (a : zX) (r : zAA) : zX × Nat :=
 if zAc r ≠ 0 then (zCz, zAc r) else if r.id ≠ a.id ∨ r.k = 0 ∨ r.k = 2 then (zCz, 15)
 else if r.k = 3 then (⟨a.id, r.p0, r.p1, r.p2, r.v0, r.v1, r.v2, r.a, a.g + 1#8⟩, 0)
 else (⟨a.id, IntKind.i64.wrap (a.p0 + r.p0), IntKind.i64.wrap (a.p1 + r.p1), IntKind.i64.wrap (a.p2 + r.p2), IntKind.i64.wrap (a.v0 + r.v0), IntKind.i64.wrap (a.v1 + r.v1), IntKind.i64.wrap (a.v2 + r.v2), a.a + r.a, a.g⟩, 0)
theorem zE0 (x : Int) : -9223372036854775808 ≤ IntKind.i64.wrap x ∧ IntKind.i64.wrap x ≤ 9223372036854775807 := by
 simp only [IntKind.wrap_i64]
 omega
theorem zB4 {a : zX} {r : zAA} (h : zAc r ≠ 0) : zS a r = (zCz, zAc r) := by unfold zS; rw [if_pos h]
theorem zCR {a : zX} {r : zAA} (h : zAc r = 0) (h2 : r.id ≠ a.id ∨ r.k = 0 ∨ r.k = 2) : zS a r = (zCz, 15) := by unfold zS; rw [if_neg (by omega), if_pos h2]
theorem zBj {a : zX} {r : zAA} (h : zAc r = 0) (h2 : ¬ (r.id ≠ a.id ∨ r.k = 0 ∨ r.k = 2)) (h3 : r.k = 3) : zS a r = (⟨a.id, r.p0, r.p1, r.p2, r.v0, r.v1, r.v2, r.a, a.g + 1#8⟩, 0) := by
 unfold zS
 rw [if_neg (by omega), if_neg h2, if_pos h3]
theorem zBg {a : zX} {r : zAA} (h : zAc r = 0) (h2 : ¬ (r.id ≠ a.id ∨ r.k = 0 ∨ r.k = 2)) (h3 : r.k ≠ 3) : zS a r = (⟨a.id, IntKind.i64.wrap (a.p0 + r.p0), IntKind.i64.wrap (a.p1 + r.p1), IntKind.i64.wrap (a.p2 + r.p2), IntKind.i64.wrap (a.v0 + r.v0), IntKind.i64.wrap (a.v1 + r.v1), IntKind.i64.wrap (a.v2 + r.v2), a.a + r.a, a.g⟩, 0) := by
 unfold zS
 rw [if_neg (by omega), if_neg h2, if_neg h3]
end Go.Sx

set_option linter.unusedVariables false
set_option linter.unusedSimpArgs false
namespace Go.Sx
structure zbH where
 k : Int
 m : BitVec 64
 e : BitVec 8
instance : Inhabited zbH := ⟨⟨0, 0#64, 0#8⟩⟩
theorem zAb {α : Type} {g : α → List Value} {size : Nat} (hg : ∀ a, (g a).length = size) : ∀ (l : List α), (l.flatMap g).length = l.length * size
 | [] => by simp
 | a :: l => by rw [List.flatMap_cons, List.length_append, hg, zAb hg l, List.length_cons, Nat.add_mul]; omega
theorem zAi {α : Type} [Inhabited α] {g : α → List Value} {size : Nat} (hg : ∀ a, (g a).length = size) : ∀ (l : List α) (j : Nat), j < l.length → ((l.flatMap g).drop (j * size)).take size = g (l.getD j default)
 | [], j, h => by simp at h
 | a :: l, 0, _ => by
   simp only [Nat.zero_mul, List.drop_zero, List.flatMap_cons, List.getD_cons_zero]
   rw [← hg a, List.take_left']
   rfl
 | a :: l, j + 1, h => by
   have ih := zAi hg l j (by simpa using h)
   rw [List.flatMap_cons, show (j + 1) * size = (g a).length + j * size by rw [hg, Nat.add_mul]; omega, ← List.drop_drop, List.drop_left', List.getD_cons_succ]
   · exact ih
   · rfl
theorem zC5 {α : Type} [Inhabited α] {g : α → List Value} {size : Nat} (hg : ∀ a, (g a).length = size) (l : List α) (j o : Nat) (h : j < l.length) (ho : o < size) : (l.flatMap g)[j * size + o]? = (g (l.getD j default))[o]? := by
 rw [← zAi hg l j h, List.getElem?_take, if_pos ho, List.getElem?_drop]
def Tr (bs : List zP) (u : Value) (p : Nat) (u' : Value) (p' : Nat) : Prop := ∀ w' T, Rd w' T u 1 (bs.length - p) (zC (bs.drop p)) → Rd w' T u' 1 (bs.length - p') (zC (bs.drop p'))
theorem Tr.refl {bs : List zP} {u : Value} {p : Nat} : Tr bs u p u p := fun _ _ h => h
theorem Tr.trans {bs : List zP} {u u2 u3 : Value} {p p2 p3 : Nat} (h : Tr bs u p u2 p2) (h2 : Tr bs u2 p2 u3 p3) : Tr bs u p u3 p3 := fun w T h0 => h2 w T (h w T h0)
theorem zQb {b : List zP} (h : b.length = 0) : (zCH b).2.2 = 5 := by rw [zCE h]
theorem zXW {bs : List zP} {k : Nat} (h : (zCH (bs.drop k)).2.2 ≠ 5) : ¬ bs.length ≤ k := fun h2 => h (zQb (by simp only [List.length_drop]; omega))
theorem zOn {bs : List zP} {X : BitVec 64} {R : Rs} (h : R.e = 0) (h1 : (zCH (bs.drop R.p)).2.2 = 0) (h2 : (zCH (bs.drop R.p)).1.toNat ≤ X.toNat) : zN bs X R = ((zCH (bs.drop R.p)).1, ⟨R.p + (zCH (bs.drop R.p)).2.1, 0⟩) := by
 have hu : zIW (bs.drop R.p) X = 0 := by unfold zIW; rw [if_neg (fun h => by omega)]; exact h1
 exact zC1 h (zXW (by omega)) hu
theorem zM4 {bs : List zP} {R : Rs} (h : R.p ≤ bs.length) : (zY bs (zY bs (zY bs R).2).2).2.p ≤ bs.length ∧ R.p ≤ (zY bs (zY bs (zY bs R).2).2).2.p ∧ (zY bs (zY bs (zY bs R).2).2).2.p ≤ R.p + 30 := zV9 h
end Go.Sx

set_option linter.unusedVariables false
set_option linter.unusedSimpArgs false
namespace Go.Sx
structure zC7 {α : Type} (bs : List zP) (c : List zP) (f : Rs → α × Rs) (v : α) : Prop where
 stay : ∀ R, R.e = 6 → (f R).2.e = 6
 good : ∀ R n rest, R.e = 0 → R.p ≤ bs.length → bs.drop R.p = (c ++ rest).take n → c.length ≤ n → f R = (v, ⟨R.p + c.length, 0⟩)
 short : ∀ R n rest, R.e = 0 → R.p ≤ bs.length → bs.drop R.p = (c ++ rest).take n → n < c.length → (f R).2.e = 6
theorem zL5 {bs c rest : List zP} {p n : Nat} (h : bs.drop p = (c ++ rest).take n) (hn : c.length ≤ n) (hp : p ≤ bs.length) : bs.drop (p + c.length) = rest.take (n - c.length) ∧ p + c.length ≤ bs.length := by
 have h1 : bs.drop (p + c.length) = (bs.drop p).drop c.length := by rw [List.drop_drop]
 have h2 := congrArg List.length h
 simp only [List.length_drop, List.length_take, List.length_append] at h2
 refine ⟨?_, by omega⟩
 rw [h1, h, List.take_append, List.drop_append_of_le_length (by rw [List.length_take]; omega), List.take_of_length_le hn, List.drop_length, List.nil_append]
theorem zC7.bind {α β : Type} {bs c d : List zP} {f : Rs → α × Rs} {g : α → Rs → β × Rs} {v : α} {u : β} (hf : zC7 bs c f v) (hs : ∀ x R, R.e = 6 → (g x R).2.e = 6) (hg : zC7 bs d (g v) u) : zC7 bs (c ++ d) (fun R => g (f R).1 (f R).2) u := by
 refine ⟨fun R h => hs _ _ (hf.stay R h), fun R n rest h0 hp hd hn => ?_, fun R n rest h0 hp hd hn => ?_⟩
 · rw [List.append_assoc] at hd
   rw [List.length_append] at hn
   have h1 := hf.good R n _ h0 hp hd (by omega)
   obtain ⟨h2, h3⟩ := zL5 hd (by omega) hp
   rw [h1]
   dsimp only
   rw [hg.good ⟨R.p + c.length, 0⟩ (n - c.length) rest rfl h3 h2 (by omega), List.length_append]
   dsimp only
   rw [Nat.add_assoc]
 · rw [List.append_assoc] at hd
   rw [List.length_append] at hn
   by_cases hc : c.length ≤ n
   · have h1 := hf.good R n _ h0 hp hd hc
     obtain ⟨h2, h3⟩ := zL5 hd hc hp
     rw [h1]
     exact hg.short ⟨R.p + c.length, 0⟩ (n - c.length) rest rfl h3 h2 (by omega)
   · exact hs _ _ (hf.short R n _ h0 hp hd (by omega))
theorem zC7.pure {α : Type} {bs : List zP} (v : α) : zC7 bs [] (fun R => (v, R)) v := by
 refine ⟨fun R h => h, fun R n rest h0 hp hd hn => ?_, fun R n rest h0 hp hd hn => ?_⟩
 · cases R; simp at h0; subst h0; rfl
 · simp at hn
theorem zCS {bs : List zP} {X L : BitVec 64} (h : X.toNat ≤ L.toNat) : zC7 bs (zCI X.toNat) (zN bs L) X := by
 have hvp := zCw X.toNat
 have hl : (zCI X.toNat).length = zBP X.toNat := rfl
 refine ⟨fun R h => by rw [zCe (by omega)]; exact h, fun R n rest h0 hp hd hn => ?_, fun R n rest h0 hp hd hn => ?_⟩
 · have hd2 : bs.drop R.p = zCI X.toNat ++ rest.take (n - (zCI X.toNat).length) := by rw [hd, List.take_append, List.take_of_length_le hn]
   have hg := zSS X (rest.take (n - (zCI X.toNat).length))
   rw [← hd2] at hg
   rw [zOn h0 (by rw [hg]) (by rw [hg]; exact h), hg]
   rfl
 · have hd2 : bs.drop R.p = (zCI X.toNat).take n := by rw [hd, List.take_append, show n - (zCI X.toNat).length = 0 by omega]; simp
   by_cases h1 : bs.length ≤ R.p
   · rw [zCO h0 h1]
   · have hn0 : 1 ≤ n := by
       have := congrArg List.length hd2
       simp only [List.length_drop, List.length_take] at this
       omega
     have hg := zPU X n hn0 (by omega)
     rw [← hd2] at hg
     have hu : zIW (bs.drop R.p) L = 6 := by unfold zIW; rw [hg]; simp
     rw [zDi h0 h1 (by omega), hu]
theorem zGe {bs : List zP} {c : zP} : zC7 bs [c] (zG bs) c := by
 refine ⟨fun R h => by rw [zDn (by omega)]; exact h, fun R n rest h0 hp hd hn => ?_, fun R n rest h0 hp hd hn => ?_⟩
 · have hd2 : bs.drop R.p = c :: rest.take (n - 1) := by
     rw [hd]
     simp only [List.length_singleton] at hn
     rw [show n = (n - 1) + 1 by omega]
     simp
   have hl := congrArg List.length hd2
   simp only [List.length_drop, List.length_cons] at hl
   have hg : bs.getD R.p 0 = c := by
     have := congrArg (fun l : List zP => l.getD 0 0) hd2
     simpa [List.getD_eq_getElem?_getD] using this
   rw [zDe h0 (by omega), hg]
   rfl
 · simp only [List.length_singleton] at hn
   have hn0 : n = 0 := by omega
   subst hn0
   have hl := congrArg List.length hd
   simp at hl
   rw [zC9 h0 (by omega)]
theorem zCi {bs : List zP} {x : Int} (h : -9223372036854775808 ≤ x ∧ x ≤ 9223372036854775807) : zC7 bs (zDL x) (zY bs) x := by
 have ht := zCS (bs := bs) (X := zGG x) (L := 18446744073709551615#64) (by have := (zGG x).isLt; have h2 : (18446744073709551615#64).toNat = 18446744073709551615 := rfl; omega)
 refine ⟨fun R h => ht.stay R h, fun R n rest h0 hp hd hn => ?_, fun R n rest h0 hp hd hn => ht.short R n rest h0 hp hd hn⟩
 have := ht.good R n rest h0 hp hd hn
 unfold zY
 rw [this, zXu x h]
 rfl
theorem zDj {e : Nat} {R : Rs} (h : R.e = 6) : (zBc e R).e = 6 := by unfold zBc; rw [if_neg (by omega)]; exact h
theorem zBh {bs : List zP} {m : BitVec 8} {i : Nat} {R : Rs} (h : R.e = 6) : (upI bs m i R).2.e = 6 := by
 have h1 := (zKM (bs := bs) (R := R) (by omega)).2.1
 unfold upI
 split
 · dsimp only
   split
   · exact zDj (by omega)
   · omega
 · exact h
theorem zEl {bs : List zP} {m : BitVec 8} {R : Rs} (h : R.e = 6) : (upA bs m R).2.e = 6 := by
 have h1 := (zI7 (bs := bs) (X := 65535#64) (R := R) (by omega)).2.1
 unfold upA
 split
 · dsimp only
   split
   · exact zDj (by omega)
   · omega
 · exact h
def upC (r : zAA) (i : Nat) : List zP := if r.num i = 0 then [] else zDL (r.num i)
theorem zTN {bs : List zP} {m : BitVec 8} {r : zAA} {i : Nat} (hm : zBk m i = true ↔ r.num i ≠ 0) (h : -9223372036854775808 ≤ r.num i ∧ r.num i ≤ 9223372036854775807) : zC7 bs (upC r i) (upI bs m i) (r.num i) := by
 by_cases h0 : r.num i = 0
 · have hb : zBk m i = false := by
     cases hb : zBk m i with
     | false => rfl
     | true => exact absurd h0 (hm.1 hb)
   have : upI bs m i = fun R => (0, R) := by
     funext R
     unfold upI
     rw [if_neg (by rw [hb]; decide)]
   rw [this, upC, if_pos h0, h0]
   exact zC7.pure 0
 · have hb := hm.2 h0
   have ht := zCi (bs := bs) h
   rw [upC, if_neg h0]
   refine ⟨fun R h => zBh h, fun R n rest h1 hp hd hn => ?_, fun R n rest h1 hp hd hn => ?_⟩
   · have := ht.good R n rest h1 hp hd hn
     unfold upI
     rw [if_pos hb, this]
     dsimp only
     rw [if_neg h0]
   · have := ht.short R n rest h1 hp hd hn
     unfold upI
     rw [if_pos hb]
     dsimp only
     split
     · exact zDj this
     · exact this
theorem zXz {bs : List zP} {a : BitVec 16} : zC7 bs (zCI a.toNat) (fun R => ((zN bs 65535#64 R).1.setWidth 16, (zN bs 65535#64 R).2)) a := by
 have ht := zCS (bs := bs) (X := a.setWidth 64) (L := 65535#64) (by rw [zSh]; have := a.isLt; have h2 : (65535#64).toNat = 65535 := rfl; omega)
 rw [zSh] at ht
 refine ⟨fun R h => ht.stay R h, fun R n rest h0 hp hd hn => ?_, fun R n rest h0 hp hd hn => ht.short R n rest h0 hp hd hn⟩
 have := ht.good R n rest h0 hp hd hn
 rw [this]
 dsimp only
 congr 1
 apply BitVec.eq_of_toNat_eq
 simp
theorem zPH {bs : List zP} {m : BitVec 8} {a : BitVec 16} (hm : zBk m 6 = true ↔ a ≠ 0#16) : zC7 bs (if a = 0#16 then [] else zCI a.toNat) (upA bs m) a := by
 by_cases h0 : a = 0#16
 · have hb : zBk m 6 = false := by
     cases hb : zBk m 6 with
     | false => rfl
     | true => exact absurd h0 (hm.1 hb)
   have : upA bs m = fun R => (0#16, R) := by
     funext R
     unfold upA
     rw [if_neg (by rw [hb]; decide)]
   rw [this, if_pos h0, h0]
   exact zC7.pure _
 · have hb := hm.2 h0
   rw [if_neg h0]
   have ht := zCS (bs := bs) (X := a.setWidth 64) (L := 65535#64) (by rw [zSh]; have := a.isLt; have h2 : (65535#64).toNat = 65535 := rfl; omega)
   rw [zSh] at ht
   have hne : a.setWidth 64 ≠ 0#64 := fun e => h0 (BitVec.eq_of_toNat_eq (by rw [← zSh a, e]; rfl))
   refine ⟨fun R h => zEl h, fun R n rest h1 hp hd hn => ?_, fun R n rest h1 hp hd hn => ?_⟩
   · have := ht.good R n rest h1 hp hd hn
     unfold upA
     rw [if_pos hb, this]
     dsimp only
     rw [if_neg hne]
     congr 1
     apply BitVec.eq_of_toNat_eq
     simp
   · have := ht.short R n rest h1 hp hd hn
     unfold upA
     rw [if_pos hb]
     dsimp only
     split
     · exact zDj this
     · exact this
/-! ### The mask -/
def zES (b0 b1 b2 b3 b4 b5 b6 : Bool) : BitVec 8 :=
 let m0 := bif b0 then 0#8 ||| (1#8 <<< 0) else 0#8
 let m1 := bif b1 then m0 ||| (1#8 <<< 1) else m0
 let m2 := bif b2 then m1 ||| (1#8 <<< 2) else m1
 let m3 := bif b3 then m2 ||| (1#8 <<< 3) else m2
 let m4 := bif b4 then m3 ||| (1#8 <<< 4) else m3
 let m5 := bif b5 then m4 ||| (1#8 <<< 5) else m4
 bif b6 then m5 ||| 64#8 else m5
theorem zXY {α : Type} {p : Prop} [Decidable p] (x y : α) : (if p then x else y) = bif decide (¬ p) then y else x := by by_cases h : p <;> simp [h]
theorem zXf (r : zAA) : zCM r = zES (decide (r.p0 ≠ 0)) (decide (r.p1 ≠ 0)) (decide (r.p2 ≠ 0)) (decide (r.v0 ≠ 0)) (decide (r.v1 ≠ 0)) (decide (r.v2 ≠ 0)) (decide (r.a ≠ 0#16)) := by
 simp only [zCM, zAu, zAA.num, zES, zXY]
theorem zML : ∀ b0 b1 b2 b3 b4 b5 b6 : Bool, zBk (zES b0 b1 b2 b3 b4 b5 b6) 0 = b0 ∧ zBk (zES b0 b1 b2 b3 b4 b5 b6) 1 = b1 ∧ zBk (zES b0 b1 b2 b3 b4 b5 b6) 2 = b2 ∧ zBk (zES b0 b1 b2 b3 b4 b5 b6) 3 = b3 ∧ zBk (zES b0 b1 b2 b3 b4 b5 b6) 4 = b4 ∧ zBk (zES b0 b1 b2 b3 b4 b5 b6) 5 = b5 ∧ zBk (zES b0 b1 b2 b3 b4 b5 b6) 6 = b6 ∧ (zES b0 b1 b2 b3 b4 b5 b6).toNat ≤ 127 ∧ ((zES b0 b1 b2 b3 b4 b5 b6).toNat = 0 → b0 = false ∧ b1 = false ∧ b2 = false ∧ b3 = false ∧ b4 = false ∧ b5 = false ∧ b6 = false) := by
 intro b0 b1 b2 b3 b4 b5 b6
 cases b0 <;> cases b1 <;> cases b2 <;> cases b3 <;> cases b4 <;> cases b5 <;> cases b6 <;> exact ⟨by decide, by decide, by decide, by decide, by decide, by decide, by decide, by decide, by decide⟩
theorem zPV (r : zAA) : (∀ i, i < 6 → (zBk (zCM r) i = true ↔ r.num i ≠ 0)) ∧ (zBk (zCM r) 6 = true ↔ r.a ≠ 0#16) ∧ (zCM r).toNat ≤ 127 ∧ ((zCM r).toNat = 0 → zBD r = true) := by
 have h := zML (decide (r.p0 ≠ 0)) (decide (r.p1 ≠ 0)) (decide (r.p2 ≠ 0)) (decide (r.v0 ≠ 0)) (decide (r.v1 ≠ 0)) (decide (r.v2 ≠ 0)) (decide (r.a ≠ 0#16))
 rw [← zXf] at h
 obtain ⟨h0, h1, h2, h3, h4, h5, h6, h7, h8⟩ := h
 refine ⟨fun i hi => ?_, by rw [h6, decide_eq_true_iff], h7, fun hz => ?_⟩
 · match i, hi with
   | 0, _ => rw [h0, decide_eq_true_iff]; rfl
   | 1, _ => rw [h1, decide_eq_true_iff]; rfl
   | 2, _ => rw [h2, decide_eq_true_iff]; rfl
   | 3, _ => rw [h3, decide_eq_true_iff]; rfl
   | 4, _ => rw [h4, decide_eq_true_iff]; rfl
   | 5, _ => rw [h5, decide_eq_true_iff]; rfl
 · obtain ⟨e0, e1, e2, e3, e4, e5, e6⟩ := h8 hz
   simp only [decide_eq_false_iff_not, ne_eq, Decidable.not_not] at e0 e1 e2 e3 e4 e5 e6
   simp [zBD, e0, e1, e2, e3, e4, e5, e6]
/-! ### The bodies -/
theorem zAA.wf.num {r : zAA} (h : r.wf) (i : Nat) : -9223372036854775808 ≤ r.num i ∧ r.num i ≤ 9223372036854775807 := by
 match i with
 | 0 => exact h.p0
 | 1 => exact h.p1
 | 2 => exact h.p2
 | 3 => exact h.v0
 | 4 => exact h.v1
 | _ + 5 => exact h.v2
theorem zAo {bs : List zP} {R : Rs} (h : R.e = 6) : (zY bs R).2.e = 6 := by have := (zKM (bs := bs) (R := R) (by omega)).2.1; omega
theorem zDE {bs : List zP} {X : BitVec 64} {R : Rs} (h : R.e = 6) : (zN bs X R).2.e = 6 := by have := (zI7 (bs := bs) (X := X) (R := R) (by omega)).2.1; omega
theorem zKH {bs : List zP} {R : Rs} (h : R.e = 6) : (zG bs R).2.e = 6 := by have := (zNx (bs := bs) (R := R) (by omega)).2.1; omega
theorem zPP {bs : List zP} {r : zAA} (hw : r.wf) : zC7 bs (zBT r) (zB8 bs r.k r.id) r := by
 have h6 := (zXz (bs := bs) (a := r.a)).bind (g := fun x R => ((⟨r.k, r.id, r.p0, r.p1, r.p2, r.v0, r.v1, r.v2, x⟩ : zAA), R)) (fun x R h => h) (zC7.pure _)
 have h5 := (zCi (bs := bs) hw.v2).bind (g := fun x R => ((⟨r.k, r.id, r.p0, r.p1, r.p2, r.v0, r.v1, x, (zN bs 65535#64 R).1.setWidth 16⟩ : zAA), (zN bs 65535#64 R).2)) (fun x R h => zDE h) h6
 have h4 := (zCi (bs := bs) hw.v1).bind (g := fun x R => ((⟨r.k, r.id, r.p0, r.p1, r.p2, r.v0, x, (zY bs R).1, (zN bs 65535#64 (zY bs R).2).1.setWidth 16⟩ : zAA), (zN bs 65535#64 (zY bs R).2).2)) (fun x R h => zDE (zAo h)) h5
 have h3 := (zCi (bs := bs) hw.v0).bind (g := fun x R => ((⟨r.k, r.id, r.p0, r.p1, r.p2, x, (zY bs R).1, (zY bs (zY bs R).2).1, (zN bs 65535#64 (zY bs (zY bs R).2).2).1.setWidth 16⟩ : zAA), (zN bs 65535#64 (zY bs (zY bs R).2).2).2)) (fun x R h => zDE (zAo (zAo h))) h4
 have h2 := (zCi (bs := bs) hw.p2).bind (g := fun x R => ((⟨r.k, r.id, r.p0, r.p1, x, (zY bs R).1, (zY bs (zY bs R).2).1, (zY bs (zY bs (zY bs R).2).2).1, (zN bs 65535#64 (zY bs (zY bs (zY bs R).2).2).2).1.setWidth 16⟩ : zAA), (zN bs 65535#64 (zY bs (zY bs (zY bs R).2).2).2).2)) (fun x R h => zDE (zAo (zAo (zAo h)))) h3
 have h1 := (zCi (bs := bs) hw.p1).bind (g := fun x R => ((⟨r.k, r.id, r.p0, x, (zY bs R).1, (zY bs (zY bs R).2).1, (zY bs (zY bs (zY bs R).2).2).1, (zY bs (zY bs (zY bs (zY bs R).2).2).2).1, (zN bs 65535#64 (zY bs (zY bs (zY bs (zY bs R).2).2).2).2).1.setWidth 16⟩ : zAA), (zN bs 65535#64 (zY bs (zY bs (zY bs (zY bs R).2).2).2).2).2)) (fun x R h => zDE (zAo (zAo (zAo (zAo h))))) h2
 have h0 := (zCi (bs := bs) hw.p0).bind (g := fun x R => ((⟨r.k, r.id, x, (zY bs R).1, (zY bs (zY bs R).2).1, (zY bs (zY bs (zY bs R).2).2).1, (zY bs (zY bs (zY bs (zY bs R).2).2).2).1, (zY bs (zY bs (zY bs (zY bs (zY bs R).2).2).2).2).1, (zN bs 65535#64 (zY bs (zY bs (zY bs (zY bs (zY bs R).2).2).2).2).2).1.setWidth 16⟩ : zAA), (zN bs 65535#64 (zY bs (zY bs (zY bs (zY bs (zY bs R).2).2).2).2).2).2)) (fun x R h => zDE (zAo (zAo (zAo (zAo (zAo h)))))) h1
 have e : zB8 bs r.k r.id = fun R => ((⟨r.k, r.id, (zY bs R).1, (zY bs (zY bs R).2).1, (zY bs (zY bs (zY bs R).2).2).1, (zY bs (zY bs (zY bs (zY bs R).2).2).2).1, (zY bs (zY bs (zY bs (zY bs (zY bs R).2).2).2).2).1, (zY bs (zY bs (zY bs (zY bs (zY bs (zY bs R).2).2).2).2).2).1, (zN bs 65535#64 (zY bs (zY bs (zY bs (zY bs (zY bs (zY bs R).2).2).2).2).2).2).1.setWidth 16⟩ : zAA), (zN bs 65535#64 (zY bs (zY bs (zY bs (zY bs (zY bs (zY bs R).2).2).2).2).2).2).2) := by
   funext R
   simp only [zB8, nX, nS]
 rw [e]
 simpa [zBT, List.append_assoc] using h0
end Go.Sx

set_option linter.unusedVariables false
set_option linter.unusedSimpArgs false
namespace Go.Sx
theorem zRT {bs : List zP} {m : BitVec 8} {R : Rs} (h : R.e = 6) : ∀ i, (upS bs m R i).e = 6
 | 0 => h
 | i + 1 => zBh (zRT h i)
def zMO (bs : List zP) (k id : Int) (m : BitVec 8) (R : Rs) : zAA × Rs :=
 if m.toNat = 0 ∨ 127 < m.toNat then (⟨k, id, 0, 0, 0, 0, 0, 0, 0#16⟩, zBc 7 R)
 else (⟨k, id, upX bs m R 0, upX bs m R 1, upX bs m R 2, upX bs m R 3, upX bs m R 4, upX bs m R 5, (upA bs m (upS bs m R 6)).1⟩, (upA bs m (upS bs m R 6)).2)
theorem zId (bs : List zP) (k id : Int) : zA2 bs k id = fun R => zMO bs k id (zG bs R).1 (zG bs R).2 := by
 funext R
 unfold zA2 zMO
 rfl
theorem zKk {bs : List zP} {k id : Int} {m : BitVec 8} {R : Rs} (h : R.e = 6) : (zMO bs k id m R).2.e = 6 := by
 unfold zMO
 split
 · exact zDj h
 · exact zEl (zRT h 6)
theorem zJk (r : zAA) : zAY r 6 = upC r 0 ++ (upC r 1 ++ (upC r 2 ++ (upC r 3 ++ (upC r 4 ++ upC r 5)))) := by
 have h : ∀ i, zAY r (i + 1) = zAY r i ++ upC r i := fun i => by
   show (if r.num i = 0 then _ else _) = _
   unfold upC
   split <;> simp
 rw [h 5, h 4, h 3, h 2, h 1, h 0]
 simp [zAY]
def upW (r : zAA) : List zP := if r.a = 0#16 then [] else zCI r.a.toNat
theorem zOY (r : zAA) : zBF r = [zCM r] ++ (upC r 0 ++ (upC r 1 ++ (upC r 2 ++ (upC r 3 ++ (upC r 4 ++ (upC r 5 ++ upW r)))))) := by
 unfold zBF zGI upW
 rw [zJk]
 split <;> simp
theorem zOF {bs : List zP} {r : zAA} (hw : r.wf) (hne : zBD r = false) : zC7 bs (zBF r) (zA2 bs r.k r.id) r := by
 obtain ⟨hb, h6, h7, h8⟩ := zPV r
 have hm0 : ¬ ((zCM r).toNat = 0 ∨ 127 < (zCM r).toNat) := by
   rintro (h | h)
   · rw [h8 h] at hne; cases hne
   · omega
 rw [zOY, zId]
 refine zGe.bind (g := fun m R => zMO bs r.k r.id m R) (fun x R h => zKk h) ?_
 generalize hM : zCM r = m at *
 have e : (fun R => zMO bs r.k r.id m R) = fun R => (⟨r.k, r.id, (upI bs m 0 R).1, (upI bs m 1 (upI bs m 0 R).2).1, (upI bs m 2 (upI bs m 1 (upI bs m 0 R).2).2).1, (upI bs m 3 (upI bs m 2 (upI bs m 1 (upI bs m 0 R).2).2).2).1, (upI bs m 4 (upI bs m 3 (upI bs m 2 (upI bs m 1 (upI bs m 0 R).2).2).2).2).1, (upI bs m 5 (upI bs m 4 (upI bs m 3 (upI bs m 2 (upI bs m 1 (upI bs m 0 R).2).2).2).2).2).1, (upA bs m (upI bs m 5 (upI bs m 4 (upI bs m 3 (upI bs m 2 (upI bs m 1 (upI bs m 0 R).2).2).2).2).2).2).1⟩, (upA bs m (upI bs m 5 (upI bs m 4 (upI bs m 3 (upI bs m 2 (upI bs m 1 (upI bs m 0 R).2).2).2).2).2).2).2) := by
   funext R
   unfold zMO
   rw [if_neg hm0]
   rfl
 rw [e]
 have hn := fun i hi => zTN (bs := bs) (hb i hi) (hw.num i)
 have q6 := (zPH (bs := bs) h6).bind (g := fun x R => ((⟨r.k, r.id, r.p0, r.p1, r.p2, r.v0, r.v1, r.v2, x⟩ : zAA), R)) (fun x R h => h) (zC7.pure _)
 have q5 := (hn 5 (by omega)).bind (g := fun x R => ((⟨r.k, r.id, r.p0, r.p1, r.p2, r.v0, r.v1, x, (upA bs m R).1⟩ : zAA), (upA bs m R).2)) (fun x R h => zEl h) q6
 have q4 := (hn 4 (by omega)).bind (g := fun x R => ((⟨r.k, r.id, r.p0, r.p1, r.p2, r.v0, x, (upI bs m 5 R).1, (upA bs m (upI bs m 5 R).2).1⟩ : zAA), (upA bs m (upI bs m 5 R).2).2)) (fun x R h => zEl (zBh h)) q5
 have q3 := (hn 3 (by omega)).bind (g := fun x R => ((⟨r.k, r.id, r.p0, r.p1, r.p2, x, (upI bs m 4 R).1, (upI bs m 5 (upI bs m 4 R).2).1, (upA bs m (upI bs m 5 (upI bs m 4 R).2).2).1⟩ : zAA), (upA bs m (upI bs m 5 (upI bs m 4 R).2).2).2)) (fun x R h => zEl (zBh (zBh h))) q4
 have q2 := (hn 2 (by omega)).bind (g := fun x R => ((⟨r.k, r.id, r.p0, r.p1, x, (upI bs m 3 R).1, (upI bs m 4 (upI bs m 3 R).2).1, (upI bs m 5 (upI bs m 4 (upI bs m 3 R).2).2).1, (upA bs m (upI bs m 5 (upI bs m 4 (upI bs m 3 R).2).2).2).1⟩ : zAA), (upA bs m (upI bs m 5 (upI bs m 4 (upI bs m 3 R).2).2).2).2)) (fun x R h => zEl (zBh (zBh (zBh h)))) q3
 have q1 := (hn 1 (by omega)).bind (g := fun x R => ((⟨r.k, r.id, r.p0, x, (upI bs m 2 R).1, (upI bs m 3 (upI bs m 2 R).2).1, (upI bs m 4 (upI bs m 3 (upI bs m 2 R).2).2).1, (upI bs m 5 (upI bs m 4 (upI bs m 3 (upI bs m 2 R).2).2).2).1, (upA bs m (upI bs m 5 (upI bs m 4 (upI bs m 3 (upI bs m 2 R).2).2).2).2).1⟩ : zAA), (upA bs m (upI bs m 5 (upI bs m 4 (upI bs m 3 (upI bs m 2 R).2).2).2).2).2)) (fun x R h => zEl (zBh (zBh (zBh (zBh h))))) q2
 have q0 := (hn 0 (by omega)).bind (g := fun x R => ((⟨r.k, r.id, x, (upI bs m 1 R).1, (upI bs m 2 (upI bs m 1 R).2).1, (upI bs m 3 (upI bs m 2 (upI bs m 1 R).2).2).1, (upI bs m 4 (upI bs m 3 (upI bs m 2 (upI bs m 1 R).2).2).2).1, (upI bs m 5 (upI bs m 4 (upI bs m 3 (upI bs m 2 (upI bs m 1 R).2).2).2).2).1, (upA bs m (upI bs m 5 (upI bs m 4 (upI bs m 3 (upI bs m 2 (upI bs m 1 R).2).2).2).2).2).1⟩ : zAA), (upA bs m (upI bs m 5 (upI bs m 4 (upI bs m 3 (upI bs m 2 (upI bs m 1 R).2).2).2).2).2).2)) (fun x R h => zEl (zBh (zBh (zBh (zBh (zBh h)))))) q1
 simpa [upW, zAA.num] using q0
theorem zOa {r : zAA} (h : zBD r = true) : r = ⟨r.k, r.id, 0, 0, 0, 0, 0, 0, 0#16⟩ := by
 simp only [zBD, Bool.and_eq_true, beq_iff_eq] at h
 obtain ⟨⟨⟨⟨⟨⟨e0, e1⟩, e2⟩, e3⟩, e4⟩, e5⟩, e6⟩ := h
 have e6' := zPl e6
 cases r
 simp_all
theorem zEQ {r : zAA} (h : zAc r = 0) : 0 ≤ r.k ∧ r.k ≤ 3 ∧ 0 ≤ r.id ∧ r.id ≤ 65535 ∧ (r.k = 1 → zBD r = false) ∧ (r.k = 2 → zBD r = true) := by
 unfold zAc at h
 split at h
 · cases h
 · split at h
   · cases h
   · split at h
     · cases h
     · rename_i h1 h2 h3
       refine ⟨by omega, by omega, by omega, by omega, fun hk => ?_, fun hk => ?_⟩
       · cases he : zBD r with
         | false => rfl
         | true => exact absurd (.inl ⟨hk, he⟩) h3
       · cases he : zBD r with
         | true => rfl
         | false => exact absurd (.inr ⟨hk, he⟩) h3
theorem zPI {bs : List zP} {k id : Int} {R : Rs} (h : R.e = 6) : (zB8 bs k id R).2.e = 6 := by
 simp only [zB8, nS]
 exact zDE (zAo (zAo (zAo (zAo (zAo (zAo h))))))
theorem zIz {bs : List zP} {k id : Int} {R : Rs} (h : R.e = 6) : (zA5 bs k id R).2.e = 6 := by
 unfold zA5
 split
 · exact zPI h
 · split
   · rw [zId]; exact zKk (zKH h)
   · split
     · exact h
     · exact zDj h
theorem zNt {bs : List zP} {r : zAA} (hw : r.wf) (hc : zAc r = 0) : zC7 bs (zDy r) (zA5 bs r.k r.id) r := by
 obtain ⟨h1, h2, h3, h4, h5, h6⟩ := zEQ hc
 by_cases hk1 : r.k = 1
 · have : zA5 bs r.k r.id = zA2 bs r.k r.id := by funext R; exact zH4 hk1
   rw [this, zDy, if_pos hk1]
   exact zOF hw (h5 hk1)
 · by_cases hk2 : r.k = 2
   · have : zA5 bs r.k r.id = fun R => (r, R) := by
       funext R
       rw [zHx hk2]
       exact congrArg (·, R) (zOa (h6 hk2)).symm
     rw [this, zDy, if_neg hk1, if_pos hk2]
     exact zC7.pure r
   · have : zA5 bs r.k r.id = zB8 bs r.k r.id := by funext R; exact zGR (by omega)
     rw [this, zDy, if_neg hk1, if_neg hk2]
     exact zPP hw
theorem zGj {r : zAA} {last : Int} (h : zAy r last = 0) : zAc r = 0 ∧ -1 ≤ last ∧ last ≤ 65535 ∧ last < r.id := by
 unfold zAy at h
 split at h
 · omega
 · split at h
   · cases h
   · split at h
     · cases h
     · omega
theorem zPN {bs : List zP} {r : zAA} {last : Int} (hw : r.wf) (he : zAy r last = 0) : zC7 bs (zCV r last) (zEI bs last) r := by
 obtain ⟨hc, h1, h2, h3⟩ := zGj he
 obtain ⟨c1, c2, c3, c4, _, _⟩ := zEQ hc
 have hX : (((BitVec.ofInt 64 (r.id - last - 1)).toNat : Nat) : Int) = r.id - last - 1 := zDv (by omega) (by omega)
 have hL : (((BitVec.ofInt 64 (65534 - last)).toNat : Nat) : Int) = 65534 - last := zDv (by omega) (by omega)
 have hk : (((BitVec.ofInt 8 r.k).toNat : Nat) : Int) = r.k := by rw [BitVec.toNat_ofInt]; omega
 rw [zCV, if_neg (by omega), zAU, List.append_assoc]
 have q2 := zNt (bs := bs) hw hc
 have e2 : zA5 bs r.k r.id = (fun (x : zP) R => zA5 bs (((x.toNat : Nat) : Int)) (last + 1 + (((BitVec.ofInt 64 (r.id - last - 1)).toNat : Nat) : Int)) R) (BitVec.ofInt 8 r.k) := by
   funext R
   dsimp only
   rw [hk, hX, show last + 1 + (r.id - last - 1) = r.id by omega]
 rw [e2] at q2
 have q1 := (zGe (bs := bs) (c := BitVec.ofInt 8 r.k)).bind (g := fun (x : zP) R => zA5 bs ((x.toNat : Nat) : Int) (last + 1 + (((BitVec.ofInt 64 (r.id - last - 1)).toNat : Nat) : Int)) R) (fun x R h => zIz h) q2
 have q0 := (zCS (bs := bs) (X := BitVec.ofInt 64 (r.id - last - 1)) (L := BitVec.ofInt 64 (65534 - last)) (by omega)).bind
   (g := fun X R => zA5 bs (((zG bs R).1.toNat : Nat) : Int) (last + 1 + ((X.toNat : Nat) : Int)) (zG bs R).2) (fun x R h => zIz (zKH h)) q1
 exact q0
theorem zXD {bs rest : List zP} {r : zAA} {last : Int} {p n : Nat} (hw : r.wf) (he : zAy r last = 0) (hp : p ≤ bs.length) (hd : bs.drop p = (zCV r last ++ rest).take n) :
   ((zCV r last).length ≤ n → zAD bs last ⟨p, 0⟩ = (r, 0, ⟨p + (zCV r last).length, 0⟩)) ∧ (n < (zCV r last).length → (zAD bs last ⟨p, 0⟩).1 = zOz ∧ (zAD bs last ⟨p, 0⟩).2.1 = 6) := by
 have ht := zPN (bs := bs) hw he
 obtain ⟨hc, h1, h2, h3⟩ := zGj he
 obtain ⟨c1, c2, c3, c4, _, _⟩ := zEQ hc
 refine ⟨fun hn => ?_, fun hn => ?_⟩
 · exact zEq (by omega) (by omega) (ht.good ⟨p, 0⟩ n rest rfl hp hd hn) rfl
 · have h6 := ht.short ⟨p, 0⟩ n rest rfl hp hd hn
   rw [zDc (rr := (zEI bs last ⟨p, 0⟩).1) (RR := (zEI bs last ⟨p, 0⟩).2) (by omega) (by omega) rfl (by omega)]
   exact ⟨rfl, h6⟩
theorem zXp {bs rest : List zP} {r : zAA} {last : Int} {p : Nat} (hw : r.wf) (he : zAy r last = 0) (hp : p ≤ bs.length) (hd : bs.drop p = zCV r last ++ rest) : zAD bs last ⟨p, 0⟩ = (r, 0, ⟨p + (zCV r last).length, 0⟩) :=
 (zXD (n := (zCV r last ++ rest).length) hw he hp (by rw [List.take_length]; exact hd)).1 (by simp)
/-! ### The other way about -/
end Go.Sx

set_option linter.unusedVariables false
set_option linter.unusedSimpArgs false
namespace Go.Sx
theorem zIr {bs : List zP} {R : Rs} (i : Nat) : -9223372036854775808 ≤ nX bs R i ∧ nX bs R i ≤ 9223372036854775807 := by
 unfold nX zY
 exact zFz _
theorem zUN {bs : List zP} {k id : Int} {R : Rs} (hk : -9223372036854775808 ≤ k ∧ k ≤ 9223372036854775807) (hi : -9223372036854775808 ≤ id ∧ id ≤ 9223372036854775807) : (zB8 bs k id R).1.wf := by
 unfold zB8
 dsimp only
 exact ⟨hk, hi, zIr (bs := bs) (R := R) 0, zIr (bs := bs) (R := R) 1, zIr (bs := bs) (R := R) 2, zIr (bs := bs) (R := R) 3, zIr (bs := bs) (R := R) 4, zIr (bs := bs) (R := R) 5⟩
theorem zGc {bs : List zP} {m : BitVec 8} {R : Rs} (i : Nat) : -9223372036854775808 ≤ upX bs m R i ∧ upX bs m R i ≤ 9223372036854775807 := by
 unfold upX upI
 split
 · unfold zY
   exact zFz _
 · show -9223372036854775808 ≤ (0 : Int) ∧ (0 : Int) ≤ 9223372036854775807
   decide
theorem zQq {bs : List zP} {k id : Int} {R : Rs} (hk : -9223372036854775808 ≤ k ∧ k ≤ 9223372036854775807) (hi : -9223372036854775808 ≤ id ∧ id ≤ 9223372036854775807) : (zA2 bs k id R).1.wf := by
 have hz : -9223372036854775808 ≤ (0 : Int) ∧ (0 : Int) ≤ 9223372036854775807 := by decide
 unfold zA2
 dsimp only
 split
 · exact ⟨hk, hi, hz, hz, hz, hz, hz, hz⟩
 · exact ⟨hk, hi, zGc 0, zGc 1, zGc 2, zGc 3, zGc 4, zGc 5⟩
theorem zRy {bs : List zP} {k id : Int} {R : Rs} (hk : -9223372036854775808 ≤ k ∧ k ≤ 9223372036854775807) (hi : -9223372036854775808 ≤ id ∧ id ≤ 9223372036854775807) : (zA5 bs k id R).1.wf ∧ (zA5 bs k id R).1.k = k ∧ (zA5 bs k id R).1.id = id := by
 have hz : -9223372036854775808 ≤ (0 : Int) ∧ (0 : Int) ≤ 9223372036854775807 := by decide
 unfold zA5
 split
 · exact ⟨zUN hk hi, rfl, rfl⟩
 · split
   · refine ⟨zQq hk hi, ?_, ?_⟩ <;> (unfold zA2; dsimp only; split <;> rfl)
   · split <;> exact ⟨⟨hk, hi, hz, hz, hz, hz, hz, hz⟩, rfl, rfl⟩
theorem zMA : zOz.wf := ⟨by decide, by decide, by decide, by decide, by decide, by decide, by decide, by decide⟩
theorem zT2 {bs : List zP} {last : Int} {R : Rs} (hp : R.p ≤ bs.length) : (zAD bs last R).1.wf := by
 unfold zAD
 split
 · exact zMA
 · split
   · exact zMA
   · split
     · exact zMA
     · rename_i h1 h2 h3
       have h4 := zRa (bs := bs) (last := last) hp (by omega) (by omega)
       have h5 := (zG bs (zPD bs last R).2).1.isLt
       exact (zRy (by omega) (by change _ ≤ last + 1 + (((zN bs (BitVec.ofInt 64 (65534 - last)) R).1.toNat : Nat) : Int) ∧ last + 1 + (((zN bs (BitVec.ofInt 64 (65534 - last)) R).1.toNat : Nat) : Int) ≤ _; omega)).1
end Go.Sx
