import Derived.Test.YtemnjodhidlfpaaGreatQSxBasA
import Derived.Test.YtemnjodhidlfpaaGreatQSxBasB
/- Texts of the small logic, one behind the other: SxPvar, SxPrd, SxPrec, SxPrecR, SxPent, SxRrd, SxPrecL, SxPrecM, SxPrecB. -/
set_option linter.unusedVariables false
set_option linter.unusedSimpArgs false
namespace Go.Sx

def zAl (x : Nat) : Nat := if x = 0 then 0 else Nat.log2 x + 1
theorem zDD {x k : Nat} (h : x < 2 ^ k) : zAl x ≤ k := by
 unfold zAl
 split
 · omega
 · rename_i h0
   have := (Nat.log2_lt h0).2 h
   omega
theorem zF2 {x k : Nat} (h : 2 ^ k ≤ x) : k < zAl x := by
 unfold zAl
 have h0 : x ≠ 0 := by have := Nat.two_pow_pos k; omega
 rw [if_neg h0]
 have := (Nat.le_log2 h0).2 h
 omega
theorem zJu {x k : Nat} (h1 : x < 2 ^ (k + 1)) (h2 : 2 ^ k ≤ x) : zAl x = k + 1 := by
 have := zDD h1
 have := zF2 h2
 omega
theorem zGk {x : Nat} (k : Nat) (h : 2 ^ k ≤ x) : zAl x = k + zAl (x / 2 ^ k) := by
 have hp := Nat.two_pow_pos k
 have hq : 1 ≤ x / 2 ^ k := (Nat.le_div_iff_mul_le hp).2 (by omega)
 have h0 : x / 2 ^ k ≠ 0 := by omega
 have hb : zAl (x / 2 ^ k) = Nat.log2 (x / 2 ^ k) + 1 := by unfold zAl; rw [if_neg h0]
 have l1 := Nat.log2_self_le h0
 have l2 := Nat.lt_log2_self (n := x / 2 ^ k)
 rw [hb]
 refine (zJu (k := k + Nat.log2 (x / 2 ^ k)) ?_ ?_).trans (by omega)
 · rw [Nat.add_assoc, Nat.pow_add]
   rw [Nat.mul_comm]
   exact (Nat.div_lt_iff_lt_mul hp).1 l2
 · rw [Nat.pow_add, Nat.mul_comm]
   exact (Nat.le_div_iff_mul_le hp).1 l1
def zFo : Nat → Nat → List zO
 | 0, x => [BitVec.ofNat 8 x]
 | k + 1, x => if x < 128 then [BitVec.ofNat 8 x] else BitVec.ofNat 8 (x % 128 + 128) :: zFo k (x / 128)
def zCK (x : Nat) : List zO := zFo 9 x
def zBQ (x : Nat) : Nat := (zCK x).length
theorem zIi : ∀ (k j x : Nat), x < 128 ^ (k + 1) → zFo (k + j) x = zFo k x
 | 0, 0, x, _ => rfl
 | 0, j + 1, x, h => by rw [Nat.zero_add]; simp only [zFo]; rw [if_pos (by simpa using h)]
 | k + 1, j, x, h => by
   rw [show k + 1 + j = (k + j) + 1 by omega]
   simp only [zFo]
   by_cases hx : x < 128
   · rw [if_pos hx, if_pos hx]
   · rw [if_neg hx, if_neg hx, zIi k j (x / 128) (by rw [Nat.div_lt_iff_lt_mul (by omega)]; rw [Nat.pow_succ] at h; exact h)]
theorem zDh {x : Nat} (h : x < 128) : zCK x = [BitVec.ofNat 8 x] := by unfold zCK; simp only [zFo]; rw [if_pos h]
theorem zET {x : Nat} (h : ¬ x < 128) (hx : x < 2 ^ 64) : zCK x = BitVec.ofNat 8 (x % 128 + 128) :: zCK (x / 128) := by
 unfold zCK
 rw [show (9 : Nat) = 8 + 1 by rfl]
 rw [show zFo (8 + 1) x = BitVec.ofNat 8 (x % 128 + 128) :: zFo 8 (x / 128) by simp only [zFo]; rw [if_neg h]]
 rw [zIi 8 1 (x / 128) (by rw [Nat.div_lt_iff_lt_mul (by omega)]; omega)]
theorem zMe : ∀ (k x : Nat), (zFo k x).length ≤ k + 1
 | 0, x => by simp [zFo]
 | k + 1, x => by
   simp only [zFo]
   split
   · simp
   · have := zMe k (x / 128)
     simp; omega
theorem zCs (x : Nat) : zBQ x ≤ 10 := zMe 9 x
theorem zCx (x : Nat) : 1 ≤ zBQ x := by
 unfold zBQ zCK
 simp only [zFo]
 split <;> simp
theorem zDg {x : Nat} (h : x < 128) : zBQ x = 1 := by unfold zBQ; rw [zDh h]; rfl
theorem zCl {x : Nat} (h : ¬ x < 128) (hx : x < 2 ^ 64) : zBQ x = zBQ (x / 128) + 1 := by unfold zBQ; rw [zET h hx]; simp
theorem zK8 {x : Nat} (h : x < 128) : zAl x ≤ 7 := zDD (k := 7) h
theorem zWB : ∀ (d x : Nat), x < 2 ^ 64 → x ≤ d → zBQ x = (max 1 (zAl x) + 6) / 7 := by
 intro d
 induction d using Nat.strongRecOn with
 | _ d ih =>
   intro x hx hd
   by_cases h : x < 128
   · rw [zDg h]
     have := zK8 h
     omega
   · have h2 := zGk (x := x) 7 (by omega)
     rw [show (2 : Nat) ^ 7 = 128 by rfl] at h2
     have h3 : 1 ≤ zAl (x / 128) := zF2 (k := 0) (by omega)
     rw [zCl h hx, ih (x / 128) (by omega) (x / 128) (by omega) (Nat.le_refl _), h2]
     omega
theorem zSa (X : BitVec 64) : (max 1 ((zAl X.toNat : Nat) : Int) + 7 - 1) / 7 = ((zBQ X.toNat : Nat) : Int) := by
 rw [zWB X.toNat X.toNat X.isLt (Nat.le_refl _)]
 omega
def zLW (X : BitVec 64) (m : Nat) : Nat → List zO
 | 0 => List.replicate m 0#8
 | k + 1 => (zLW X m k).set k ((X >>> (7 * k)).setWidth 8 ||| 128#8)
theorem zC9 (X : BitVec 64) (m : Nat) : ∀ k, (zLW X m k).length = m
 | 0 => by simp [zLW]
 | k + 1 => by simp [zLW, zC9 X m k]
theorem zJb (X : BitVec 64) (m : Nat) : ∀ (k i : Nat), i < k → i < m → (zLW X m k)[i]? = some ((X >>> (7 * i)).setWidth 8 ||| 128#8)
 | 0, i, h, _ => by omega
 | k + 1, i, h, hm => by
   simp only [zLW]
   by_cases e : k = i
   · subst e
     rw [List.getElem?_set_self (by rw [zC9]; exact hm)]
   · rw [List.getElem?_set_ne e]
     exact zJb X m k i (by omega) hm
theorem zUx (c : zO) : (c ||| 128#8).toNat = c.toNat % 128 + 128 := by
 have : ∀ c : BitVec 8, (c ||| 128#8).toNat = c.toNat % 128 + 128 := by decide +kernel
 exact this c
theorem zLb (c : zO) : (c &&& ~~~128#8).toNat = c.toNat % 128 := by
 have : ∀ c : BitVec 8, (c &&& ~~~128#8).toNat = c.toNat % 128 := by decide +kernel
 exact this c
theorem zGm (X : BitVec 64) (i : Nat) : ((X >>> (7 * i)).setWidth 8).toNat = X.toNat / 2 ^ (7 * i) % 256 := by
 rw [BitVec.toNat_setWidth, BitVec.toNat_ushiftRight, Nat.shiftRight_eq_div_pow]
theorem zJN : ∀ (n i x : Nat), zBQ x = n → x < 2 ^ 64 → i < n → (zCK x)[i]? = some (if i + 1 = n then BitVec.ofNat 8 (x / 128 ^ i) else BitVec.ofNat 8 (x / 128 ^ i % 128 + 128)) := by
 intro n
 induction n with
 | zero => intro i x _ _ h; omega
 | succ n ih =>
   intro i x hn hx hi
   by_cases h : x < 128
   · have h1 := zDg h
     have : n = 0 := by omega
     subst this
     have : i = 0 := by omega
     subst this
     rw [zDh h]
     simp
   · have h1 := zCl h hx
     have hpos := zCx (x / 128)
     rw [zET h hx]
     cases i with
     | zero =>
       rw [if_neg (by omega)]
       simp
     | succ i =>
       rw [List.getElem?_cons_succ, ih i (x / 128) (by omega) (by omega) (by omega)]
       rw [Nat.div_div_eq_div_mul, show 128 * 128 ^ i = 128 ^ (i + 1) by rw [Nat.pow_succ, Nat.mul_comm]]
       by_cases e : i + 1 = n
       · rw [if_pos e, if_pos (by omega)]
       · rw [if_neg e, if_neg (by omega)]
theorem zaa (i : Nat) : (2 : Nat) ^ (7 * i) = 128 ^ i := by rw [Nat.pow_mul]
theorem zMo (n x : Nat) (hn : zBQ x = n + 1) (hx : x < 2 ^ 64) : x / 128 ^ n < 128 := by
 induction n generalizing x with
 | zero =>
   by_cases h : x < 128
   · simpa using h
   · have := zCl h hx; have := zCx (x / 128); omega
 | succ n ih =>
   by_cases h : x < 128
   · have := zDg h; omega
   · have := zCl h hx
     have := ih (x / 128) (by omega) (by omega)
     rwa [Nat.div_div_eq_div_mul, show 128 * 128 ^ n = 128 ^ (n + 1) by rw [Nat.pow_succ, Nat.mul_comm]] at this
theorem zZD (X : BitVec 64) (m : Nat) (hm : zBQ X.toNat = m) : (zLW X m m).set (m - 1) ((zLW X m m).getD (m - 1) 0 &&& ~~~128#8) = zCK X.toNat := by
 have hpos := zCx X.toNat
 have hlen : (zCK X.toNat).length = m := hm
 apply List.ext_getElem?
 intro i
 by_cases hi : i < m
 · rw [zJN m i X.toNat hm X.isLt hi]
   by_cases e : m - 1 = i
   · subst e
     rw [List.getElem?_set_self (by rw [zC9]; exact hi), if_pos (by omega)]
     have hg := zJb X m m (m - 1) (by omega) hi
     have ht := zMo (m - 1) X.toNat (by omega) X.isLt
     congr 1
     apply BitVec.eq_of_toNat_eq
     rw [zLb, List.getD_eq_getElem?_getD, hg, Option.getD_some, zUx, zGm, zaa, BitVec.toNat_ofNat]
     generalize X.toNat / 128 ^ (m - 1) = q at *
     omega
   · rw [List.getElem?_set_ne e, zJb X m m i hi hi, if_neg (by omega)]
     congr 1
     apply BitVec.eq_of_toNat_eq
     rw [zUx, zGm, zaa, BitVec.toNat_ofNat]
     omega
 · rw [List.getElem?_eq_none (by rw [List.length_set, zC9]; omega), List.getElem?_eq_none (by omega)]
theorem zWH : ∀ (n x : Nat), 1 ≤ n → x < 2 ^ 64 → x < 128 ^ n → zBQ x ≤ n := by
 intro n
 induction n with
 | zero => intro x h; omega
 | succ n ih =>
   intro x h1 hx h
   by_cases hs : x < 128
   · rw [zDg hs]; omega
   · have h2 := zCl hs hx
     cases n with
     | zero => simp at h; omega
     | succ n =>
       have := ih (x / 128) (by omega) (by omega) (by rw [Nat.div_lt_iff_lt_mul (by omega)]; rw [Nat.pow_succ] at h; exact h)
       omega
/-! ### What is got -/
def zEa : List zO → Nat
 | [] => 0
 | c :: l => c.toNat % 128 + 128 * zEa l
def zAz : Nat → List zO → Nat
 | 0, _ => 0
 | _, [] => 0
 | k + 1, c :: l => if 128 ≤ c.toNat then zAz k l + 1 else 0
def zCI (b : List zO) : BitVec 64 × Nat × Nat :=
 if b.length = 0 then (0#64, 0, 5) else if zAz 10 b = 10 then (0#64, 0, 8) else if zAz 10 b = b.length then (0#64, 0, 6)
 else if zAz 10 b = 9 ∧ 1 < (b.getD (zAz 10 b) 0).toNat then (0#64, 0, 8)
 else if (b.getD (zAz 10 b) 0).toNat = 0 ∧ 0 < zAz 10 b then (0#64, 0, 7)
 else (BitVec.ofNat 64 (zEa (b.take (zAz 10 b + 1))), zAz 10 b + 1, 0)
theorem zF7 : ∀ (k : Nat) (b : List zO), zAz k b ≤ k ∧ zAz k b ≤ b.length
 | 0, b => by simp [zAz]
 | k + 1, [] => by simp [zAz]
 | k + 1, c :: l => by
   have := zF7 k l
   simp only [zAz]
   split
   · simp; omega
   · simp
theorem zE4 : ∀ (k i : Nat) (b : List zO), i ≤ zAz k b → i < k → i < b.length → 128 ≤ (b.getD i 0).toNat → i + 1 ≤ zAz k b
 | 0, i, b, _, h, _, _ => by omega
 | k + 1, i, [], _, _, h, _ => by simp at h
 | k + 1, 0, c :: l, _, _, _, h => by
   simp only [zAz]
   rw [if_pos (by simpa using h)]
   omega
 | k + 1, i + 1, c :: l, h1, h2, h3, h4 => by
   simp only [zAz] at *
   split at h1
   · rename_i hc
     rw [if_pos hc]
     have := zE4 k i l (by omega) (by omega) (by simpa using h3) (by simpa using h4)
     omega
   · omega
theorem zEm : ∀ (k i : Nat) (b : List zO), i ≤ zAz k b → i < b.length → (b.getD i 0).toNat < 128 → zAz k b = i
 | 0, i, b, h, _, _ => by simp only [zAz] at *; omega
 | k + 1, i, [], _, h, _ => by simp at h
 | k + 1, 0, c :: l, _, _, h => by
   simp only [zAz]
   rw [if_neg (by have : c.toNat < 128 := (by simpa using h); omega)]
 | k + 1, i + 1, c :: l, h1, h3, h4 => by
   simp only [zAz] at *
   split at h1
   · rename_i hc
     rw [if_pos hc, zEm k i l (by omega) (by simpa using h3) (by simpa using h4)]
   · omega
theorem zJh : ∀ (b : List zO), zEa b < 128 ^ b.length
 | [] => by simp [zEa]
 | c :: l => by
   have := zJh l
   simp only [zEa, List.length_cons, Nat.pow_succ]
   omega
theorem zHR : ∀ (b c : List zO), zEa (b ++ c) = zEa b + 128 ^ b.length * zEa c
 | [], c => by simp [zEa]
 | x :: l, c => by
   simp only [zEa, List.cons_append, zHR l c, List.length_cons, Nat.pow_succ]
   rw [Nat.mul_add, Nat.mul_comm (128 ^ l.length) 128, Nat.mul_assoc]
   omega
theorem zK3 (b : List zO) (i : Nat) (h : i < b.length) : zEa (b.take (i + 1)) = zEa (b.take i) + 128 ^ i * ((b.getD i 0).toNat % 128) := by
 rw [List.take_add_one, zHR]
 have : b[i]?.toList = [b.getD i 0] := by simp [h, List.getD_eq_getElem?_getD]
 rw [this, List.length_take, Nat.min_eq_left (by omega)]
 simp [zEa]
theorem zGx (b : List zO) (i : Nat) (h : i < b.length) (h9 : i ≤ 9) :
   BitVec.ofNat 64 (zEa (b.take i)) ||| ((b.getD i 0 &&& ~~~128#8).setWidth 64) <<< (7 * i) = BitVec.ofNat 64 (zEa (b.take (i + 1))) := by
 have hl := zJh (b.take i)
 rw [List.length_take, Nat.min_eq_left (by omega)] at hl
 have hp : 128 ^ i ≤ 128 ^ 9 := Nat.pow_le_pow_right (by omega) h9
 have hp2 : (128 : Nat) ^ 9 < 2 ^ 64 := by decide
 have hc : (b.getD i 0).toNat % 128 < 128 := Nat.mod_lt _ (by omega)
 rw [zK3 b i h]
 apply BitVec.eq_of_toNat_eq
 rw [BitVec.toNat_or, BitVec.toNat_shiftLeft, BitVec.toNat_setWidth, zLb, BitVec.toNat_ofNat, BitVec.toNat_ofNat]
 rw [Nat.mod_eq_of_lt (by omega : (b.getD i 0).toNat % 128 < 2 ^ 64), Nat.mod_eq_of_lt (by omega : zEa (b.take i) < 2 ^ 64)]
 rw [Nat.or_comm, ← zaa] at *
 have e : 2 ^ (7 * i) * ((b.getD i 0).toNat % 128) + zEa (b.take i) = ((b.getD i 0).toNat % 128) <<< (7 * i) ||| zEa (b.take i) := by
   rw [← Nat.shiftLeft_add_eq_or_of_lt hl, Nat.shiftLeft_eq, Nat.mul_comm]
 rw [Nat.add_comm, e, Nat.or_mod_two_pow, Nat.mod_eq_of_lt (by omega : zEa (b.take i) < 2 ^ 64)]
theorem zZZ (c : zO) (i : Nat) (h9 : i ≤ 9) : ((((c &&& ~~~128#8).setWidth 64) <<< (7 * i)) >>> (7 * i) = (c &&& ~~~128#8).setWidth 64) ↔ ¬ (i = 9 ∧ 1 < c.toNat % 128) := by
 have hc : c.toNat % 128 < 128 := Nat.mod_lt _ (by omega)
 rw [← BitVec.toNat_inj]
 rw [BitVec.toNat_ushiftRight, BitVec.toNat_shiftLeft, BitVec.toNat_setWidth, zLb, Nat.shiftLeft_eq, Nat.shiftRight_eq_div_pow, Nat.mod_eq_of_lt (by omega : c.toNat % 128 < 2 ^ 64)]
 generalize c.toNat % 128 = q at *
 by_cases e : i = 9
 · subst e
   rw [show (7 * 9) = 63 by rfl]
   omega
 · have h1 : q * 2 ^ (7 * i) < 2 ^ 64 := by
     have : 2 ^ (7 * i) ≤ 2 ^ (7 * 8) := Nat.pow_le_pow_right (by omega) (by omega)
     rw [show 7 * 8 = 56 by rfl] at this
     have : q * 2 ^ (7 * i) ≤ 127 * 2 ^ 56 := Nat.mul_le_mul (by omega) this
     omega
   rw [Nat.mod_eq_of_lt h1, Nat.mul_div_cancel _ (Nat.two_pow_pos _)]
   simp [e]
theorem zCD {b : List zO} (h : b.length = 0) : zCI b = (0#64, 0, 5) := by unfold zCI; rw [if_pos h]
theorem zBq {b : List zO} {i : Nat} (h1 : i ≤ zAz 10 b) (hi : i < b.length) (h9 : i ≤ 9) (hc : (b.getD i 0).toNat < 128) (ho : ¬ ((((b.getD i 0 &&& ~~~128#8).setWidth 64) <<< (7 * i)) >>> (7 * i) = (b.getD i 0 &&& ~~~128#8).setWidth 64)) : zCI b = (0#64, 0, 8) := by
 rw [zZZ _ _ h9] at ho
 have hn := zEm 10 i b h1 hi hc
 unfold zCI
 rw [if_neg (by omega), hn, if_neg (by omega), if_neg (by omega), if_pos (by omega)]
theorem zBt {b : List zO} {i : Nat} (h1 : i ≤ zAz 10 b) (hi : i < b.length) (h9 : i ≤ 9) (hi0 : 0 < i) (h0 : (b.getD i 0).toNat = 0) : zCI b = (0#64, 0, 7) := by
 have hn := zEm 10 i b h1 hi (by omega)
 unfold zCI
 rw [if_neg (by omega), hn, if_neg (by omega), if_neg (by omega), if_neg (by omega), if_pos (by omega)]
theorem zCb {b : List zO} {i : Nat} (h1 : i ≤ zAz 10 b) (hi : i < b.length) (h9 : i ≤ 9) (hc : (b.getD i 0).toNat < 128) (hov : (((b.getD i 0 &&& ~~~128#8).setWidth 64) <<< (7 * i)) >>> (7 * i) = (b.getD i 0 &&& ~~~128#8).setWidth 64) (h0 : ¬ ((b.getD i 0).toNat = 0 ∧ 0 < i)) : zCI b = (BitVec.ofNat 64 (zEa (b.take (i + 1))), i + 1, 0) := by
 rw [zZZ _ _ h9] at hov
 have hn := zEm 10 i b h1 hi hc
 unfold zCI
 rw [if_neg (by omega), hn, if_neg (by omega), if_neg (by omega), if_neg (by omega), if_neg (by omega)]
theorem zBr {b : List zO} (h1 : 10 ≤ zAz 10 b) : zCI b = (0#64, 0, 8) := by
 have := zF7 10 b
 unfold zCI
 rw [if_neg (by omega), if_pos (by omega)]
theorem zBF {b : List zO} (h0 : 0 < b.length) (h1 : b.length ≤ zAz 10 b) (hl : b.length < 10) : zCI b = (0#64, 0, 6) := by
 have := zF7 10 b
 unfold zCI
 rw [if_neg (by omega), if_neg (by omega), if_pos (by omega)]
/-! ### The document's own way -/
/-! ### There and back -/
theorem zQJ : ∀ (n k x : Nat) (r : List zO), zBQ x = n + 1 → x < 2 ^ 64 → n ≤ k → (n < k ∨ r = []) → zAz k (zCK x ++ r) = n := by
 intro n
 induction n with
 | zero =>
   intro k x r hn hx hk hr
   have h : x < 128 := by
     apply Classical.byContradiction
     intro h
     have := zCl h hx; have := zCx (x / 128); omega
   rw [zDh h]
   cases k with
   | zero => rfl
   | succ k =>
     simp only [List.singleton_append, zAz]
     rw [if_neg]
     rw [BitVec.toNat_ofNat]
     omega
 | succ n ih =>
   intro k x r hn hx hk hr
   have h : ¬ x < 128 := by intro h; have := zDg h; omega
   have h1 := zCl h hx
   rw [zET h hx]
   cases k with
   | zero => omega
   | succ k =>
     simp only [List.cons_append, zAz]
     rw [if_pos (by rw [BitVec.toNat_ofNat]; omega), ih k (x / 128) r (by omega) (by omega) (by omega) (hr.imp (by omega) id)]
theorem zSw : ∀ (n x : Nat), zBQ x = n → x < 2 ^ 64 → zEa (zCK x) = x := by
 intro n
 induction n with
 | zero => intro x hn; have := zCx x; omega
 | succ n ih =>
   intro x hn hx
   by_cases h : x < 128
   · rw [zDh h]
     simp only [zEa, BitVec.toNat_ofNat]
     omega
   · have h1 := zCl h hx
     rw [zET h hx]
     simp only [zEa, BitVec.toNat_ofNat]
     rw [ih (x / 128) (by omega) (by omega)]
     omega
theorem zR4 (X : BitVec 64) (r : List zO) : zCI (zCK X.toNat ++ r) = (X, zBQ X.toNat, 0) := by
 have hx := X.isLt
 have hp := zCx X.toNat
 have hle := zCs X.toNat
 have hl : (zCK X.toNat).length = zBQ X.toNat := rfl
 have hn := zQJ (zBQ X.toNat - 1) 10 X.toNat r (by omega) hx (by omega) (by omega)
 have ht := zMo (zBQ X.toNat - 1) X.toNat (by omega) hx
 have hg := zJN (zBQ X.toNat) (zBQ X.toNat - 1) X.toNat rfl hx (by omega)
 rw [if_pos (by omega)] at hg
 have hd : (zCK X.toNat ++ r).getD (zBQ X.toNat - 1) 0 = BitVec.ofNat 8 (X.toNat / 128 ^ (zBQ X.toNat - 1)) := by
   rw [List.getD_eq_getElem?_getD, List.getElem?_append_left (by omega), hg]
   rfl
 have hdn : ((zCK X.toNat ++ r).getD (zBQ X.toNat - 1) 0).toNat = X.toNat / 128 ^ (zBQ X.toNat - 1) := by
   rw [hd, BitVec.toNat_ofNat]
   generalize X.toNat / 128 ^ (zBQ X.toNat - 1) = q at *
   omega
 have h9 : zBQ X.toNat - 1 = 9 → ¬ 1 < X.toNat / 128 ^ (zBQ X.toNat - 1) := by
   intro e
   rw [e, show (128 : Nat) ^ 9 = 9223372036854775808 by rfl]
   omega
 have h0 : 0 < zBQ X.toNat - 1 → ¬ X.toNat / 128 ^ (zBQ X.toNat - 1) = 0 := by
   intro h0 e
   have := Nat.div_eq_zero_iff.1 e
   rcases this with h | h
   · have := Nat.pos_of_ne_zero (n := 128 ^ (zBQ X.toNat - 1)) (by intro h; have := Nat.pow_eq_zero.1 h; omega); omega
   · have := zWH (zBQ X.toNat - 1) X.toNat (by omega) hx h
     omega
 unfold zCI
 have hla : (zCK X.toNat ++ r).length = zBQ X.toNat + r.length := by rw [List.length_append, hl]
 rw [if_neg (by omega), hn, if_neg (by omega), if_neg (by omega), hdn, if_neg (fun h => h9 h.1 h.2), if_neg (fun h => h0 h.2 h.1), show zBQ X.toNat - 1 + 1 = zBQ X.toNat by omega]
 rw [← hl, List.take_left', zSw _ _ rfl hx]
 · simp
 · rfl
theorem zOt (X : BitVec 64) (i : Nat) (h1 : 1 ≤ i) (h2 : i < zBQ X.toNat) : zCI ((zCK X.toNat).take i) = (0#64, 0, 6) := by
 have hle := zCs X.toNat
 have hl : (zCK X.toNat).length = zBQ X.toNat := rfl
 refine zBF (by simp; omega) ?_ (by simp; omega)
 have : ∀ j, j ≤ i → j ≤ zAz 10 ((zCK X.toNat).take i) := by
   intro j
   induction j with
   | zero => intro _; omega
   | succ j ih =>
     intro hj
     refine zE4 10 j _ (ih (by omega)) (by omega) (by simp; omega) ?_
     have hg := zJN (zBQ X.toNat) j X.toNat rfl X.isLt (by omega)
     rw [if_neg (by omega)] at hg
     rw [List.getD_eq_getElem?_getD, List.getElem?_take_of_lt (by omega), hg, Option.getD_some, BitVec.toNat_ofNat]
     omega
 have := this i (Nat.le_refl _)
 simp; omega
theorem zSe : ∀ (n : Nat) (b : List zO), n < b.length → (∀ j, j < n → 128 ≤ (b.getD j 0).toNat) → (b.getD n 0).toNat < 128 → ¬ ((b.getD n 0).toNat = 0 ∧ 0 < n) → zEa (b.take (n + 1)) < 2 ^ 64 → zCK (zEa (b.take (n + 1))) = b.take (n + 1) ∧ ((b.getD n 0).toNat ≠ 0 → zEa (b.take (n + 1)) ≠ 0) := by
 intro n
 induction n with
 | zero =>
   intro b hb _ hc _ _
   cases b with
   | nil => simp at hb
   | cons c l =>
     have hc' : c.toNat < 128 := by simpa using hc
     simp only [Nat.zero_add, List.take_succ_cons, List.take_zero, zEa, Nat.mul_zero, Nat.add_zero]
     rw [Nat.mod_eq_of_lt hc', zDh hc']
     simp
 | succ n ih =>
   intro b hb hj hc h0 hv
   cases b with
   | nil => simp at hb
   | cons c l =>
     have hc0 : 128 ≤ c.toNat := by simpa using hj 0 (by omega)
     simp only [List.take_succ_cons, zEa] at hv ⊢
     simp only [List.getD_cons_succ] at hc h0
     have := ih l (by simpa using hb) (fun j h => by simpa using hj (j + 1) (by omega)) hc (by omega) (by omega)
     have hnz := this.2 (by omega)
     refine ⟨?_, fun _ => by omega⟩
     rw [zET (by omega) hv]
     congr 1
     · apply BitVec.eq_of_toNat_eq
       have := c.isLt
       rw [BitVec.toNat_ofNat]
       omega
     · rw [show (c.toNat % 128 + 128 * zEa (l.take (n + 1))) / 128 = zEa (l.take (n + 1)) by omega]
       exact this.1
theorem zLL : ∀ (k : Nat) (b : List zO) (j : Nat), j < zAz k b → 128 ≤ (b.getD j 0).toNat
 | 0, b, j, h => by simp [zAz] at h
 | k + 1, [], j, h => by simp [zAz] at h
 | k + 1, c :: l, j, h => by
   simp only [zAz] at h
   split at h
   · cases j with
     | zero => simpa
     | succ j => simpa using zLL k l j (by omega)
   · omega
theorem zIz : ∀ (k : Nat) (b : List zO), zAz k b < k → zAz k b < b.length → (b.getD (zAz k b) 0).toNat < 128
 | 0, b, h, _ => by omega
 | k + 1, [], _, h => by simp at h
 | k + 1, c :: l, h1, h2 => by
   simp only [zAz] at *
   split
   · rename_i hc
     rw [if_pos hc] at h1 h2
     simpa using zIz k l (by omega) (by simpa using h2)
   · simp; omega
theorem zJg {b : List zO} {z : BitVec 64} {k : Nat} (h : zCI b = (z, k, 0)) : 1 ≤ k ∧ k ≤ b.length ∧ zCK z.toNat = b.take k := by
 have hle := zF7 10 b
 unfold zCI at h
 split at h
 · simp at h
 split at h
 · simp at h
 split at h
 · simp at h
 split at h
 · simp at h
 split at h
 · simp at h
 rename_i h1 h2 h3 h4 h5
 simp only [Prod.mk.injEq] at h
 obtain ⟨rfl, rfl, _⟩ := h
 have hn := zIz 10 b (by omega) (by omega)
 have hv : zEa (b.take (zAz 10 b + 1)) < 2 ^ 64 := by
   by_cases e : zAz 10 b = 9
   · rw [zK3 b _ (by omega)]
     have := zJh (b.take (zAz 10 b))
     rw [List.length_take, Nat.min_eq_left (by omega)] at this
     rw [e] at this hn h4 ⊢
     rw [show (128 : Nat) ^ 9 = 9223372036854775808 by rfl] at *
     omega
   · have := zJh (b.take (zAz 10 b + 1))
     rw [List.length_take, Nat.min_eq_left (by omega)] at this
     have : (128 : Nat) ^ (zAz 10 b + 1) ≤ 128 ^ 9 := Nat.pow_le_pow_right (by omega) (by omega)
     rw [show (128 : Nat) ^ 9 = 9223372036854775808 by rfl] at this
     omega
 refine ⟨by omega, by omega, ?_⟩
 rw [BitVec.toNat_ofNat, Nat.mod_eq_of_lt hv]
 exact (zSe (zAz 10 b) b (by omega) (fun j hj => zLL 10 b j hj) hn h5 hv).1

/-! ### How long a number is -/
def zXf : ByteArray := (ByteArray.mk (List.toArray (List.append (List.append [0, 1, 2, 2, 3, 3, 3, 3, 4, 4, 4, 4, 4, 4, 4, 4, 5, 5, 5, 5, 5, 5, 5, 5, 5, 5, 5, 5, 5, 5, 5, 5, 6, 6, 6, 6, 6, 6, 6, 6, 6, 6, 6, 6, 6, 6, 6, 6, 6, 6, 6, 6, 6, 6, 6, 6, 6, 6, 6, 6, 6, 6, 6, 6] [7, 7, 7, 7, 7, 7, 7, 7, 7, 7, 7, 7, 7, 7, 7, 7, 7, 7, 7, 7, 7, 7, 7, 7, 7, 7, 7, 7, 7, 7, 7, 7, 7, 7, 7, 7, 7, 7, 7, 7, 7, 7, 7, 7, 7, 7, 7, 7, 7, 7, 7, 7, 7, 7, 7, 7, 7, 7, 7, 7, 7, 7, 7, 7]) (List.append [8, 8, 8, 8, 8, 8, 8, 8, 8, 8, 8, 8, 8, 8, 8, 8, 8, 8, 8, 8, 8, 8, 8, 8, 8, 8, 8, 8, 8, 8, 8, 8, 8, 8, 8, 8, 8, 8, 8, 8, 8, 8, 8, 8, 8, 8, 8, 8, 8, 8, 8, 8, 8, 8, 8, 8, 8, 8, 8, 8, 8, 8, 8, 8] [8, 8, 8, 8, 8, 8, 8, 8, 8, 8, 8, 8, 8, 8, 8, 8, 8, 8, 8, 8, 8, 8, 8, 8, 8, 8, 8, 8, 8, 8, 8, 8, 8, 8, 8, 8, 8, 8, 8, 8, 8, 8, 8, 8, 8, 8, 8, 8, 8, 8, 8, 8, 8, 8, 8, 8, 8, 8, 8, 8, 8, 8, 8, 8]))))
theorem zDT : ∀ Y : BitVec 8, zXf[Y.toNat]? = some (UInt8.ofBitVec (BitVec.ofNat 8 (zAl Y.toNat))) := by decide +kernel
theorem zVq (Y : BitVec 64) (k : Nat) (h : 2 ^ k ≤ Y.toNat) : zAl Y.toNat = k + zAl (Y >>> k).toNat := by
 rw [BitVec.toNat_ushiftRight, Nat.shiftRight_eq_div_pow]
 exact zGk k h
theorem zVI (Y : BitVec 64) (h : Y.toNat < 256) : (BitVec.ofNat 8 (zAl (Y.setWidth 8).toNat)).toNat = zAl Y.toNat := by
 rw [BitVec.toNat_setWidth, Nat.mod_eq_of_lt (by omega), BitVec.toNat_ofNat]
 have := zDD (k := 8) h
 omega
theorem zD3 (Y : BitVec 64) (k : Nat) : (Y >>> k).toNat = Y.toNat / 2 ^ k := by rw [BitVec.toNat_ushiftRight, Nat.shiftRight_eq_div_pow]
/-! ### The document's Put -/
/-! ### Of either sign -/
def zGC (x : Int) : BitVec 64 := if 0 ≤ x then BitVec.ofInt 64 (2 * x) else BitVec.ofInt 64 (-2 * x - 1)
def zOP (X : BitVec 64) : Int := if X.toNat % 2 = 0 then ((X.toNat / 2 : Nat) : Int) else -((X.toNat / 2 : Nat) : Int) - 1
theorem zOY (p : Int) : BitVec.ofInt 64 (IntKind.i64.wrap p) = BitVec.ofInt 64 p := by
 rw [IntKind.wrap_i64]
 apply BitVec.eq_of_toNat_eq
 simp only [BitVec.toNat_ofInt]
 rw [show ((2 ^ 64 : Nat) : Int) = 18446744073709551616 by rfl]
 omega
theorem zYg (p : Int) (h : -9223372036854775808 ≤ p ∧ p ≤ 9223372036854775807) : BitVec.ofInt 64 (IntKind.i64.wrap (p * 2 ^ (min 1 64))) ^^^ BitVec.ofInt 64 (p.fdiv (2 ^ (min 63 64))) = zGC p := by
 rw [zOY]
 unfold zGC
 rw [show (2 : Int) ^ (min 1 64) = 2 by decide, show (2 : Int) ^ (min 63 64) = 9223372036854775808 by decide, Int.fdiv_eq_ediv_of_nonneg _ (by omega)]
 split
 · rw [show p / 9223372036854775808 = 0 by omega, Int.mul_comm]
   simp
 · rw [show p / 9223372036854775808 = -1 by omega]
   rw [show BitVec.ofInt 64 (-1) = BitVec.allOnes 64 by decide, BitVec.xor_allOnes]
   apply BitVec.eq_of_toNat_eq
   simp only [BitVec.toNat_not, BitVec.toNat_ofInt]
   omega
theorem zZC (X : BitVec 64) : (X &&& 1#64).toInt = ((X.toNat % 2 : Nat) : Int) := by
 rw [BitVec.toInt_eq_toNat_cond, BitVec.toNat_and]
 simp [Nat.and_one_is_mod]
 omega
theorem zZi (X : BitVec 64) : (BitVec.ofInt 64 (X >>> 1).toInt ^^^ BitVec.ofInt 64 (-(X &&& 1#64).toInt)).toInt = zOP X := by
 rw [zZC, BitVec.ofInt_toInt]
 have hx := X.isLt
 unfold zOP
 split
 · rename_i h
   rw [h]
   simp only [Int.natCast_zero, Int.neg_zero]
   rw [show BitVec.ofInt 64 0 = 0#64 by decide, BitVec.xor_zero, BitVec.toInt_eq_toNat_cond, zD3]
   rw [Nat.pow_one]
   split <;> omega
 · rename_i h
   rw [show X.toNat % 2 = 1 by omega]
   rw [show BitVec.ofInt 64 (-((1 : Nat) : Int)) = BitVec.allOnes 64 by decide, BitVec.xor_allOnes, BitVec.toInt_eq_toNat_cond, BitVec.toNat_not, zD3]
   rw [Nat.pow_one]
   split <;> omega
theorem zFt (X : BitVec 64) : -9223372036854775808 ≤ zOP X ∧ zOP X ≤ 9223372036854775807 := by
 have hx := X.isLt
 unfold zOP
 split <;> omega
theorem zWP (p : Int) (h : -9223372036854775808 ≤ p ∧ p ≤ 9223372036854775807) : zOP (zGC p) = p := by
 unfold zGC
 split
 · unfold zOP
   rw [BitVec.toNat_ofInt]
   split <;> omega
 · unfold zOP
   rw [BitVec.toNat_ofInt]
   split <;> omega
theorem zIN {b : List zO} (h : (zCI b).2.2 = 0) : 1 ≤ (zCI b).2.1 ∧ (zCI b).2.1 ≤ b.length ∧ zCK (zCI b).1.toNat = b.take (zCI b).2.1 :=
 zJg (z := (zCI b).1) (k := (zCI b).2.1) (by rw [← h])
end Go.Sx

set_option linter.unusedVariables false
set_option linter.unusedSimpArgs false
namespace Go.Sx
structure Rs where
 p : Nat
 e : Nat
def zG (bs : List zO) (R : Rs) : zO × Rs := if R.e ≠ 0 then (0#8, R) else if bs.length ≤ R.p then (0#8, ⟨R.p, 6⟩) else (bs.getD R.p 0, ⟨R.p + 1, 0⟩)
def zIM (b : List zO) (X : BitVec 64) : Nat := if (zCI b).2.2 = 0 ∧ X.toNat < (zCI b).1.toNat then 3 else (zCI b).2.2
def zM (bs : List zO) (X : BitVec 64) (R : Rs) : BitVec 64 × Rs :=
 if R.e ≠ 0 then (0#64, R) else if bs.length ≤ R.p then (0#64, ⟨R.p, 6⟩) else if zIM (bs.drop R.p) X ≠ 0 then (0#64, ⟨R.p, zIM (bs.drop R.p) X⟩) else ((zCI (bs.drop R.p)).1, ⟨R.p + (zCI (bs.drop R.p)).2.1, 0⟩)
def zY (bs : List zO) (R : Rs) : Int × Rs := (zOP (zM bs 18446744073709551615#64 R).1, (zM bs 18446744073709551615#64 R).2)
def zBc (e : Nat) (R : Rs) : Rs := if R.e = 0 then ⟨R.p, e⟩ else R
def zIL (bs : List zO) (R : Rs) : Nat := if R.e ≠ 0 ∨ bs.length ≤ R.p then R.e else 8
def zYG (bs : List zO) (R : Rs) : Rs := (zY bs (zY bs (zY bs R).2).2).2
theorem zLt {b : List zO} {X : BitVec 64} (h : zIM b X = 0) : (zCI b).2.2 = 0 ∧ ¬ X.toNat < (zCI b).1.toNat := by
 unfold zIM at h
 split at h
 · cases h
 · rename_i h'
   exact ⟨h, fun h2 => h' ⟨h, h2⟩⟩
theorem zPv {b : List zO} {X : BitVec 64} (h : zIM b X = 0) : 1 ≤ (zCI b).2.1 ∧ (zCI b).2.1 ≤ b.length := by
 have := zIN (zLt h).1
 exact ⟨this.1, this.2.1⟩
theorem zSO (b : List zO) : (zCI b).2.1 ≤ 10 := by
 have := zF7 10 b
 unfold zCI
 repeat' split
 all_goals simp
 omega
theorem zCm {bs : List zO} {X : BitVec 64} {R : Rs} (h : R.e ≠ 0) : zM bs X R = (0#64, R) := by unfold zM; rw [if_pos h]
theorem zCT {bs : List zO} {X : BitVec 64} {R : Rs} (h : R.e = 0) (h1 : bs.length ≤ R.p) : zM bs X R = (0#64, ⟨R.p, 6⟩) := by unfold zM; rw [if_neg (by omega), if_pos h1]
theorem zDd {bs : List zO} {X : BitVec 64} {R : Rs} (h : R.e = 0) (h1 : ¬ bs.length ≤ R.p) (h2 : zIM (bs.drop R.p) X ≠ 0) : zM bs X R = (0#64, ⟨R.p, zIM (bs.drop R.p) X⟩) := by unfold zM; rw [if_neg (by omega), if_neg h1, if_pos h2]
theorem zC2 {bs : List zO} {X : BitVec 64} {R : Rs} (h : R.e = 0) (h1 : ¬ bs.length ≤ R.p) (h2 : zIM (bs.drop R.p) X = 0) : zM bs X R = ((zCI (bs.drop R.p)).1, ⟨R.p + (zCI (bs.drop R.p)).2.1, 0⟩) := by unfold zM; rw [if_neg (by omega), if_neg h1, if_neg (by omega)]
theorem zDZ {bs : List zO} {R : Rs} (h : R.e ≠ 0) : zG bs R = (0#8, R) := by unfold zG; rw [if_pos h]
theorem zDJ {bs : List zO} {R : Rs} (h : R.e = 0) (h1 : bs.length ≤ R.p) : zG bs R = (0#8, ⟨R.p, 6⟩) := by unfold zG; rw [if_neg (by omega), if_pos h1]
theorem zDi {bs : List zO} {R : Rs} (h : R.e = 0) (h1 : ¬ bs.length ≤ R.p) : zG bs R = (bs.getD R.p 0, ⟨R.p + 1, 0⟩) := by unfold zG; rw [if_neg (by omega), if_neg h1]
theorem zAy {bs : List zO} {X : BitVec 64} {R : Rs} (h : R.p ≤ bs.length) : (zM bs X R).2.p ≤ bs.length ∧ R.p ≤ (zM bs X R).2.p ∧ (zM bs X R).2.p ≤ R.p + 10 ∧ (zM bs X R).1.toNat ≤ X.toNat ∧ (R.e ≠ 0 → zM bs X R = (0#64, R)) := by
 by_cases h0 : R.e = 0
 · by_cases h1 : bs.length ≤ R.p
   · rw [zCT h0 h1]; simp; omega
   · by_cases h2 : zIM (bs.drop R.p) X = 0
     · rw [zC2 h0 h1 h2]
       have := zPv h2
       have h3 := zSO (bs.drop R.p)
       have h4 := (zLt h2).2
       simp only [List.length_drop] at this
       simp [h0]
       omega
     · rw [zDd h0 h1 h2]; simp [h0]; omega
 · rw [zCm h0]; simp; omega
theorem zD8 {bs : List zO} {R : Rs} (h : R.p ≤ bs.length) : (zG bs R).2.p ≤ bs.length ∧ R.p ≤ (zG bs R).2.p ∧ (zG bs R).2.p ≤ R.p + 1 ∧ (R.e ≠ 0 → zG bs R = (0#8, R)) := by
 by_cases h0 : R.e = 0
 · by_cases h1 : bs.length ≤ R.p
   · rw [zDJ h0 h1]; simp [h0]; omega
   · rw [zDi h0 h1]; simp [h0]; omega
 · rw [zDZ h0]; simp; omega
theorem zDA {bs : List zO} {R : Rs} (h : R.p ≤ bs.length) : (zY bs R).2.p ≤ bs.length ∧ R.p ≤ (zY bs R).2.p ∧ (zY bs R).2.p ≤ R.p + 10 ∧ (R.e ≠ 0 → zY bs R = (0, R)) := by
 have := zAy (X := 18446744073709551615#64) h
 refine ⟨this.1, this.2.1, this.2.2.1, fun h0 => ?_⟩
 unfold zY
 rw [this.2.2.2.2 h0]
 simp [zOP]
theorem zWj {bs : List zO} {R : Rs} (h : R.p ≤ bs.length) : (zYG bs R).p ≤ bs.length ∧ R.p ≤ (zYG bs R).p ∧ (zYG bs R).p ≤ R.p + 30 := by
 have h1 := zDA h
 have h2 := zDA h1.1
 have h3 := zDA h2.1
 unfold zYG
 omega
theorem zBN {bs : List zO} {e : Nat} {R : Rs} (h : R.p ≤ bs.length) : (zBc e R).p ≤ bs.length ∧ (zBc e R).p = R.p ∧ (R.e = 0 → (zBc e R).e = e) ∧ (R.e ≠ 0 → (zBc e R).e = R.e) := by
 unfold zBc
 split
 · rename_i h0; simp [h, h0]
 · rename_i h0; simp [h, h0]
theorem zOA {bs : List zO} {R : Rs} (h : R.e ≠ 0) : (zG bs R).2.p = R.p ∧ (zG bs R).2.e = R.e ∧ (zG bs R).1.toNat = 0 := by rw [zDZ h]; simp
theorem zIt {bs : List zO} {X : BitVec 64} {R : Rs} (h : R.e ≠ 0) : (zM bs X R).2.p = R.p ∧ (zM bs X R).2.e = R.e ∧ (zM bs X R).1.toNat = 0 := by rw [zCm h]; simp
theorem zLA {bs : List zO} {R : Rs} (h : R.e ≠ 0) : (zY bs R).2.p = R.p ∧ (zY bs R).2.e = R.e ∧ (zY bs R).1 = 0 := by
 unfold zY
 rw [zCm h]
 simp [zOP]
end Go.Sx

set_option linter.unusedVariables false
set_option linter.unusedSimpArgs false
namespace Go.Sx
structure zAA where
 k : Int
 id : Int
 p0 : Int
 p1 : Int
 p2 : Int
 v0 : Int
 v1 : Int
 v2 : Int
 a : BitVec 16
instance : Inhabited zAA := ⟨⟨0, 0, 0, 0, 0, 0, 0, 0, 0#16⟩⟩
structure zAA.wf (r : zAA) : Prop where
 k : -9223372036854775808 ≤ r.k ∧ r.k ≤ 9223372036854775807
 id : -9223372036854775808 ≤ r.id ∧ r.id ≤ 9223372036854775807
 p0 : -9223372036854775808 ≤ r.p0 ∧ r.p0 ≤ 9223372036854775807
 p1 : -9223372036854775808 ≤ r.p1 ∧ r.p1 ≤ 9223372036854775807
 p2 : -9223372036854775808 ≤ r.p2 ∧ r.p2 ≤ 9223372036854775807
 v0 : -9223372036854775808 ≤ r.v0 ∧ r.v0 ≤ 9223372036854775807
 v1 : -9223372036854775808 ≤ r.v1 ∧ r.v1 ≤ 9223372036854775807
 v2 : -9223372036854775808 ≤ r.v2 ∧ r.v2 ≤ 9223372036854775807
theorem zAA.wf.facts {r : zAA} (h : r.wf) : (-9223372036854775808 ≤ r.k ∧ r.k ≤ 9223372036854775807) ∧ (-9223372036854775808 ≤ r.id ∧ r.id ≤ 9223372036854775807) ∧ (-9223372036854775808 ≤ r.p0 ∧ r.p0 ≤ 9223372036854775807) ∧ (-9223372036854775808 ≤ r.p1 ∧ r.p1 ≤ 9223372036854775807) ∧ (-9223372036854775808 ≤ r.p2 ∧ r.p2 ≤ 9223372036854775807) ∧
 (-9223372036854775808 ≤ r.v0 ∧ r.v0 ≤ 9223372036854775807) ∧ (-9223372036854775808 ≤ r.v1 ∧ r.v1 ≤ 9223372036854775807) ∧ (-9223372036854775808 ≤ r.v2 ∧ r.v2 ≤ 9223372036854775807) := ⟨h.k, h.id, h.p0, h.p1, h.p2, h.v0, h.v1, h.v2⟩
def zJy (r : zAA) : List Value := [.int .i64 r.k, .int .i64 r.id, .int .i64 r.p0, .int .i64 r.p1, .int .i64 r.p2, .int .i64 r.v0, .int .i64 r.v1, .int .i64 r.v2, .int .u16 ((r.a.toNat : Nat) : Int)]
def zAA.num (r : zAA) : Nat → Int
 | 0 => r.p0
 | 1 => r.p1
 | 2 => r.p2
 | 3 => r.v0
 | 4 => r.v1
 | _ => r.v2
def zBD (r : zAA) : Bool := r.p0 == 0 && r.p1 == 0 && r.p2 == 0 && r.v0 == 0 && r.v1 == 0 && r.v2 == 0 && (((r.a.toNat : Nat) : Int) == 0)
def zAb (r : zAA) : Nat := if r.k < 0 ∨ 3 < r.k then 11 else if r.id < 0 ∨ 65535 < r.id then 3 else if r.k = 1 ∧ zBD r = true ∨ r.k = 2 ∧ zBD r = false then 2 else 0
theorem zLu (r : zAA) : zAP [.int .i64 r.k, .int .i64 r.id, .int .i64 r.p0, .int .i64 r.p1, .int .i64 r.p2, .int .i64 r.v0, .int .i64 r.v1, .int .i64 r.v2, .int .u16 ((r.a.toNat : Nat) : Int)] [.int .i64 r.k, .int .i64 r.id, .int .i64 0, .int .i64 0, .int .i64 0, .int .i64 0, .int .i64 0, .int .i64 0, .int .u16 0] = zBD r := by
 simp [zAP, vEq, zBD, Bool.and_assoc]
theorem zQ6 (r : zAA) : zAb r ≤ 11 := by
 unfold zAb; repeat' split
 all_goals omega
theorem zMQ {r : zAA} (h : zAb r = 0) : 0 ≤ r.k ∧ r.k ≤ 3 ∧ 0 ≤ r.id ∧ r.id ≤ 65535 := by
 unfold zAb at h
 split at h
 · cases h
 · split at h
   · cases h
   · omega
def zDL (x : Int) : List zO := zCK (zGC x).toNat
theorem zAD (x : Int) : (zDL x).length ≤ 10 ∧ 1 ≤ (zDL x).length := by
 have := zCs (zGC x).toNat
 have := zCx (zGC x).toNat
 unfold zDL
 simp only [zBQ] at *
 omega
def zBT (r : zAA) : List zO := zDL r.p0 ++ zDL r.p1 ++ zDL r.p2 ++ zDL r.v0 ++ zDL r.v1 ++ zDL r.v2 ++ zCK r.a.toNat
def zAs (r : zAA) : Nat → BitVec 8
 | 0 => 0#8
 | i + 1 => if r.num i = 0 then zAs r i else zAs r i ||| (1#8 <<< i)
def zAY (r : zAA) : Nat → List zO
 | 0 => []
 | i + 1 => if r.num i = 0 then zAY r i else zAY r i ++ zDL (r.num i)
def zCQ (r : zAA) : BitVec 8 := if r.a = 0#16 then zAs r 6 else zAs r 6 ||| 64#8
def zGc (r : zAA) : List zO := if r.a = 0#16 then zAY r 6 else zAY r 6 ++ zCK r.a.toNat
def zBG (r : zAA) : List zO := zCQ r :: zGc r
def zD1 (r : zAA) : List zO := if r.k = 1 then zBG r else if r.k = 2 then [] else zBT r
def zAx (r : zAA) (last : Int) : Nat := if zAb r ≠ 0 then zAb r else if last < -1 ∨ 65535 < last then 3 else if r.id ≤ last then 10 else 0
def zAR (r : zAA) (last : Int) : List zO := zCK (BitVec.ofInt 64 (r.id - last - 1)).toNat ++ [BitVec.ofInt 8 r.k]
def zCa (r : zAA) (last : Int) : List zO := if zAx r last ≠ 0 then [] else zAR r last ++ zD1 r
theorem zMW {r : zAA} {i : Nat} (h : r.num i = 0) : zAs r (i + 1) = zAs r i := by simp [zAs, h]
theorem zMs {r : zAA} {i : Nat} (h : r.num i ≠ 0) : zAs r (i + 1) = zAs r i ||| (1#8 <<< i) := by simp [zAs, h]
theorem zHE {r : zAA} {i : Nat} (h : r.num i = 0) : zAY r (i + 1) = zAY r i := by simp [zAY, h]
theorem zHG {r : zAA} {i : Nat} (h : r.num i ≠ 0) : zAY r (i + 1) = zAY r i ++ zDL (r.num i) := by simp [zAY, h]
theorem zBM (r : zAA) : ∀ i, (zAY r i).length ≤ 10 * i := by
 intro i
 induction i with
 | zero => simp [zAY]
 | succ i ih =>
   unfold zAY
   have := zAD (r.num i)
   split
   · omega
   · simp; omega
theorem zEC (n : Nat) : (zCK n).length ≤ 10 := by have := zCs n; simpa [zBQ] using this
theorem zH1 (r : zAA) (last : Int) : (zCa r last).length ≤ 100 := by
 unfold zCa
 split
 · simp
 · have h1 := zEC (BitVec.ofInt 64 (r.id - last - 1)).toNat
   have h2 := zEC r.a.toNat
   have h3 := zBM r 6
   have n0 := zAD r.p0
   have n1 := zAD r.p1
   have n2 := zAD r.p2
   have n3 := zAD r.v0
   have n4 := zAD r.v1
   have n5 := zAD r.v2
   unfold zAR zD1
   split
   · unfold zBG zGc
     split <;> simp only [List.length_append, List.length_cons, List.length_nil] <;> omega
   · split
     · simp only [List.length_append, List.length_cons, List.length_nil]; omega
     · unfold zBT; simp only [List.length_append, List.length_cons, List.length_nil]; omega
theorem zM7 {bs l : List zO} {x : zO} {m : Nat} (h : bs.length = m) : (bs ++ x :: l).getD m 0 = x := by
 subst h
 simp [List.getD_eq_getElem?_getD]
theorem zQc {bs l : List zO} {x y : zO} {m : Nat} (h : bs.length = m) : (bs ++ x :: l).set m y = bs ++ y :: l := by
 subst h
 simp
theorem zSV (a : BitVec 16) : (a.setWidth 64).toNat = a.toNat := by
 rw [BitVec.toNat_setWidth]
 have := a.isLt
 omega
theorem zPE {a : BitVec 16} (h : ((a.toNat : Nat) : Int) = 0) : a = 0#16 := BitVec.eq_of_toNat_eq (by simpa using h)
theorem zY1 {a : BitVec 16} (h : ((a.toNat : Nat) : Int) ≠ 0) : a ≠ 0#16 := fun e => h (by subst e; rfl)
theorem zBR {r : zAA} (h : ((r.a.toNat : Nat) : Int) = 0) : zBG r = zAs r 6 :: zAY r 6 := by
 unfold zBG zCQ zGc
 rw [if_pos (zPE h), if_pos (zPE h)]
theorem zBV {r : zAA} (h : ((r.a.toNat : Nat) : Int) ≠ 0) : zBG r = (zAs r 6 ||| 64#8) :: (zAY r 6 ++ zCK r.a.toNat) := by
 unfold zBG zCQ zGc
 rw [if_neg (zY1 h), if_neg (zY1 h)]
theorem zIS (r : zAA) : (zBG r).length ≤ 71 := by
 have h2 := zEC r.a.toNat
 have h3 := zBM r 6
 unfold zBG zGc
 split <;> simp only [List.length_append, List.length_cons] <;> omega
theorem zJO (r : zAA) : (zBT r).length ≤ 70 := by
 have h2 := zEC r.a.toNat
 have n0 := zAD r.p0
 have n1 := zAD r.p1
 have n2 := zAD r.p2
 have n3 := zAD r.v0
 have n4 := zAD r.v1
 have n5 := zAD r.v2
 unfold zBT
 simp only [List.length_append]
 omega
theorem zDU {r : zAA} {last : Int} (h : zAx r last ≠ 0) : zCa r last = [] := by unfold zCa; rw [if_pos h]
theorem zBE {r : zAA} {last : Int} (h : zAx r last = 0) (hk : r.k = 0 ∨ r.k = 3) : zCa r last = zAR r last ++ zBT r := by
 unfold zCa zD1
 rw [if_neg (by omega), if_neg (by omega), if_neg (by omega)]
theorem zAM {r : zAA} {last : Int} (h : zAx r last = 0) (hk : r.k = 1) : zCa r last = zAR r last ++ zBG r := by
 unfold zCa zD1
 rw [if_neg (by omega), if_pos hk]
theorem zAw {r : zAA} {last : Int} (h : zAx r last = 0) (hk : r.k = 2) : zCa r last = zAR r last := by
 unfold zCa zD1
 rw [if_neg (by omega), if_neg (by omega), if_pos hk, List.append_nil]
theorem zB4 {r : zAA} {last : Int} (h : zAb r ≠ 0) : zAx r last = zAb r := by unfold zAx; rw [if_pos h]
theorem zB2 {r : zAA} {last : Int} (h : zAb r = 0) (h2 : last < -1 ∨ 65535 < last) : zAx r last = 3 := by unfold zAx; rw [if_neg (by omega), if_pos h2]
theorem zB3 {r : zAA} {last : Int} (h : zAb r = 0) (h2 : ¬ (last < -1 ∨ 65535 < last)) (h3 : r.id ≤ last) : zAx r last = 10 := by unfold zAx; rw [if_neg (by omega), if_neg h2, if_pos h3]
theorem zCh {r : zAA} {last : Int} (h : zAb r = 0) (h2 : ¬ (last < -1 ∨ 65535 < last)) (h3 : ¬ r.id ≤ last) : zAx r last = 0 := by unfold zAx; rw [if_neg (by omega), if_neg h2, if_neg h3]
theorem zIO (r : zAA) (last : Int) : (zAR r last).length ≤ 11 := by
 have h1 := zEC (BitVec.ofInt 64 (r.id - last - 1)).toNat
 unfold zAR
 simp only [List.length_append, List.length_cons, List.length_nil]
 omega
theorem zCv {r : zAA} {last : Int} (h : zAx r last = 0) : 0 ≤ r.id ∧ r.id ≤ 65535 ∧ -1 ≤ last ∧ last < r.id := by
 unfold zAx at h
 split at h
 · omega
 · rename_i h0
   have h1 := zMQ (r := r) (by omega)
   split at h
   · cases h
   · split at h
     · cases h
     · omega
end Go.Sx

set_option linter.unusedVariables false
set_option linter.unusedSimpArgs false
namespace Go.Sx
def zVJ (m : BitVec 8) : Nat → BitVec 8
 | 0 => m
 | i + 1 => zVJ m i / 2#8
theorem zPc (m : BitVec 8) : ∀ i, zVJ m i = m >>> i
 | 0 => by simp [zVJ]
 | i + 1 => by
   unfold zVJ
   rw [zPc m i]
   apply BitVec.eq_of_toNat_eq
   rw [BitVec.toNat_udiv, BitVec.toNat_ushiftRight, BitVec.toNat_ushiftRight, Nat.shiftRight_succ]
   rfl
def zBf (m : BitVec 8) (i : Nat) : Bool := ((zVJ m i).toNat % 2) == 1
def upI (bs : List zO) (m : BitVec 8) (i : Nat) (R : Rs) : Int × Rs :=
 if zBf m i = true then ((zY bs R).1, if (zY bs R).1 = 0 then zBc 7 (zY bs R).2 else (zY bs R).2) else (0, R)
def upS (bs : List zO) (m : BitVec 8) (R : Rs) : Nat → Rs
 | 0 => R
 | i + 1 => (upI bs m i (upS bs m R i)).2
def upX (bs : List zO) (m : BitVec 8) (R : Rs) (i : Nat) : Int := (upI bs m i (upS bs m R i)).1
def upA (bs : List zO) (m : BitVec 8) (R : Rs) : BitVec 16 × Rs :=
 if zBf m 6 = true then (((zM bs 65535#64 R).1).setWidth 16, if (zM bs 65535#64 R).1 = 0#64 then zBc 7 (zM bs 65535#64 R).2 else (zM bs 65535#64 R).2) else (0#16, R)
def zA2 (bs : List zO) (k id : Int) (R : Rs) : zAA × Rs :=
 let q := zG bs R
 if q.1.toNat = 0 ∨ 127 < q.1.toNat then (⟨k, id, 0, 0, 0, 0, 0, 0, 0#16⟩, zBc 7 q.2)
 else (⟨k, id, upX bs q.1 q.2 0, upX bs q.1 q.2 1, upX bs q.1 q.2 2, upX bs q.1 q.2 3, upX bs q.1 q.2 4, upX bs q.1 q.2 5, (upA bs q.1 (upS bs q.1 q.2 6)).1⟩, (upA bs q.1 (upS bs q.1 q.2 6)).2)
def nS (bs : List zO) (R : Rs) : Nat → Rs
 | 0 => R
 | i + 1 => (zY bs (nS bs R i)).2
def nX (bs : List zO) (R : Rs) (i : Nat) : Int := (zY bs (nS bs R i)).1
def zB9 (bs : List zO) (k id : Int) (R : Rs) : zAA × Rs :=
 (⟨k, id, nX bs R 0, nX bs R 1, nX bs R 2, nX bs R 3, nX bs R 4, nX bs R 5, ((zM bs 65535#64 (nS bs R 6)).1).setWidth 16⟩, (zM bs 65535#64 (nS bs R 6)).2)
def zA5 (bs : List zO) (k id : Int) (R : Rs) : zAA × Rs :=
 if k = 0 ∨ k = 3 then zB9 bs k id R else if k = 1 then zA2 bs k id R else if k = 2 then (⟨k, id, 0, 0, 0, 0, 0, 0, 0#16⟩, R) else (⟨k, id, 0, 0, 0, 0, 0, 0, 0#16⟩, zBc 11 R)
def zOl : zAA := ⟨0, 0, 0, 0, 0, 0, 0, 0, 0#16⟩
def zOw (bs : List zO) (last : Int) (R : Rs) : BitVec 64 × Rs := zM bs (BitVec.ofInt 64 (65534 - last)) R
def zEJ (bs : List zO) (last : Int) (R : Rs) : zAA × Rs :=
 zA5 bs (((zG bs (zOw bs last R).2).1.toNat : Nat) : Int) (last + 1 + (((zOw bs last R).1.toNat : Nat) : Int)) (zG bs (zOw bs last R).2).2
def zAC (bs : List zO) (last : Int) (R : Rs) : zAA × Nat × Rs :=
 if last < -1 ∨ 65535 < last then (zOl, 3, R) else if last = 65535 then (zOl, (zBc 10 R).e, zBc 10 R)
 else if (zEJ bs last R).2.e ≠ 0 then (zOl, (zEJ bs last R).2.e, (zEJ bs last R).2) else ((zEJ bs last R).1, 0, (zEJ bs last R).2)
def zan (r : zAA) : Nat → List zO
 | 0 => []
 | i + 1 => zan r i ++ zDL (r.num i)
theorem zGj (r : zAA) : zan r 6 = zDL r.p0 ++ zDL r.p1 ++ zDL r.p2 ++ zDL r.v0 ++ zDL r.v1 ++ zDL r.v2 := rfl
def upQ (bs : List zO) (m : BitVec 8) (R : Rs) (i j : Nat) : Int := if j < i then upX bs m R j else 0
section
variable {bs : List zO} {m : BitVec 8} {R : Rs} {i : Nat} {p q z : Value}
theorem zYb (h : upX bs m R i = 0) (j : Nat) : upQ bs m R i j = upQ bs m R (i + 1) j := by
 unfold upQ
 by_cases h1 : j < i
 · rw [if_pos h1, if_pos (by omega)]
 · by_cases h2 : j = i
   · subst h2; rw [if_neg h1, if_pos (by omega), h]
   · rw [if_neg h1, if_neg (by omega)]
theorem six {i : Nat} (h : i < 6) : i = 0 ∨ i = 1 ∨ i = 2 ∨ i = 3 ∨ i = 4 ∨ i = 5 := by omega
theorem zVk (h : i < 6) : [p, q, zI (upQ bs m R i 0), zI (upQ bs m R i 1), zI (upQ bs m R i 2), zI (upQ bs m R i 3), zI (upQ bs m R i 4), zI (upQ bs m R i 5), z].set (2 + i) (zI (upX bs m R i)) = [p, q, zI (upQ bs m R (i + 1) 0), zI (upQ bs m R (i + 1) 1), zI (upQ bs m R (i + 1) 2), zI (upQ bs m R (i + 1) 3), zI (upQ bs m R (i + 1) 4), zI (upQ bs m R (i + 1) 5), z] := by
 rcases six h with rfl | rfl | rfl | rfl | rfl | rfl <;> simp [upQ]
theorem zWZ (h : i < 6) : [p, q, zI (upQ bs m R (i + 1) 0), zI (upQ bs m R (i + 1) 1), zI (upQ bs m R (i + 1) 2), zI (upQ bs m R (i + 1) 3), zI (upQ bs m R (i + 1) 4), zI (upQ bs m R (i + 1) 5), z][2 + i]? = some (zI (upX bs m R i)) := by
 rcases six h with rfl | rfl | rfl | rfl | rfl | rfl <;> simp [upQ]
theorem zU8 {g : Nat} (h : i < 6) : [pt g 2, pt g 3, pt g 4, pt g 5, pt g 6, pt g 7][((i : Nat) : Int).toNat]? = some (pt g (2 + i)) := by
 rcases six h with rfl | rfl | rfl | rfl | rfl | rfl <;> rfl
theorem zWE {r : zAA} (hw : r.wf) (h : i < 6) : -9223372036854775808 ≤ r.num i ∧ r.num i ≤ 9223372036854775807 := by
 rcases six h with rfl | rfl | rfl | rfl | rfl | rfl
 · exact hw.p0
 · exact hw.p1
 · exact hw.p2
 · exact hw.v0
 · exact hw.v1
 · exact hw.v2
theorem zQm {r : zAA} (h : i < 6) : [p, q, zI r.p0, zI r.p1, zI r.p2, zI r.v0, zI r.v1, zI r.v2, z][2 + i]? = some (zI (r.num i)) := by
 rcases six h with rfl | rfl | rfl | rfl | rfl | rfl <;> rfl
end
theorem zTk {m : BitVec 8} {i : Nat} : zBf m i = true ↔ (zVJ m i).toNat % 2 = 1 := by unfold zBf; simp
theorem zVL (m : BitVec 8) (i : Nat) : ((m >>> i) &&& 1#8).toNat = (zVJ m i).toNat % 2 := by
 rw [BitVec.toNat_and, show (1#8).toNat = 1 from rfl, Nat.and_one_is_mod, zPc]
theorem zVn {m : BitVec 8} {i : Nat} (h : ((((m >>> i) &&& 1#8).toNat : Nat) : Int) = 0) : zBf m i = false := by
 rw [zVL] at h
 unfold zBf
 rw [show (zVJ m i).toNat % 2 = 0 by omega]
 rfl
theorem zWa {m : BitVec 8} {i : Nat} (h : ((((m >>> i) &&& 1#8).toNat : Nat) : Int) ≠ 0) : zBf m i = true := by
 rw [zVL] at h
 rw [zTk]
 omega
theorem zZm (m : BitVec 8) : (m &&& 64#8).toNat = 0 ↔ zBf m 6 = false := by
 have key : ∀ m : BitVec 8, (m &&& 64#8).toNat = 0 ↔ zBf m 6 = false := by decide +kernel
 exact key m
theorem zT0 {m : BitVec 8} (h : (((m &&& 64#8).toNat : Nat) : Int) = 0) : zBf m 6 = false := (zZm m).1 (by omega)
theorem zUg {m : BitVec 8} (h : (((m &&& 64#8).toNat : Nat) : Int) ≠ 0) : zBf m 6 = true := by
 cases hb : zBf m 6 with
 | true => rfl
 | false => exact absurd ((zZm m).2 hb) (by omega)
theorem zVs {bs : List zO} {m : BitVec 8} {R : Rs} (h : zBf m 6 = false) : upA bs m R = (0#16, R) := by unfold upA; rw [if_neg (by rw [h]; decide)]
theorem zVd {bs : List zO} {m : BitVec 8} {R : Rs} (h : zBf m 6 = true) (h2 : (zM bs 65535#64 R).1.toNat = 0) : upA bs m R = ((zM bs 65535#64 R).1.setWidth 16, zBc 7 (zM bs 65535#64 R).2) := by
 unfold upA
 rw [if_pos h, if_pos (BitVec.eq_of_toNat_eq h2)]
theorem zXv {bs : List zO} {m : BitVec 8} {R : Rs} (h : zBf m 6 = true) (h2 : (zM bs 65535#64 R).1.toNat ≠ 0) : upA bs m R = ((zM bs 65535#64 R).1.setWidth 16, (zM bs 65535#64 R).2) := by
 unfold upA
 rw [if_pos h, if_neg (fun e => h2 (by rw [e]; rfl))]
theorem za1 {X : BitVec 64} (h : X.toNat ≤ 65535) : (X.setWidth 16).toNat = X.toNat := by
 rw [BitVec.toNat_setWidth]
 omega
theorem zHl {X : BitVec 64} (h : X.toNat ≤ 65535) : X.toInt = ((X.toNat : Nat) : Int) := by
 rw [BitVec.toInt_eq_toNat_cond, if_pos (by omega)]
theorem zD7 {x : Int} (h : 0 ≤ x) (h2 : x ≤ 9223372036854775807) : (((BitVec.ofInt 64 x).toNat : Nat) : Int) = x := by
 rw [BitVec.toNat_ofInt]
 omega
theorem zav {bs : List zO} {m : BitVec 8} {R : Rs} {i : Nat} (h : zBf m i = true) (h2 : (zY bs (upS bs m R i)).1 = 0) : upS bs m R (i + 1) = zBc 7 (zY bs (upS bs m R i)).2 := by
 show (upI _ _ _ _).2 = _
 unfold upI
 rw [if_pos h]
 dsimp only
 rw [if_pos h2]
theorem zaz {bs : List zO} {m : BitVec 8} {R : Rs} {i : Nat} (h : zBf m i = true) (h2 : (zY bs (upS bs m R i)).1 ≠ 0) : upS bs m R (i + 1) = (zY bs (upS bs m R i)).2 := by
 show (upI _ _ _ _).2 = _
 unfold upI
 rw [if_pos h]
 dsimp only
 rw [if_neg h2]
theorem zag {bs : List zO} {m : BitVec 8} {R : Rs} {i : Nat} (h : zBf m i = true) : upX bs m R i = (zY bs (upS bs m R i)).1 := by
 unfold upX upI
 rw [if_pos h]
theorem zab {bs : List zO} {m : BitVec 8} {R : Rs} {i : Nat} (h : zBf m i = false) : upS bs m R (i + 1) = upS bs m R i := by
 show (upI _ _ _ _).2 = _
 unfold upI
 rw [if_neg (by rw [h]; decide)]
theorem zaQ {bs : List zO} {m : BitVec 8} {R : Rs} {i : Nat} (h : zBf m i = false) : upX bs m R i = 0 := by
 unfold upX upI
 rw [if_neg (by rw [h]; decide)]
theorem zYj {bs : List zO} {m : BitVec 8} {i : Nat} {R : Rs} (h : R.p ≤ bs.length) : (upI bs m i R).2.p ≤ bs.length ∧ R.p ≤ (upI bs m i R).2.p ∧ (upI bs m i R).2.p ≤ R.p + 10 := by
 unfold upI
 have h1 := zDA h
 split
 · dsimp only
   split
   · have := zBN (e := 7) h1.1; omega
   · omega
 · dsimp only; omega
theorem zLB {bs : List zO} {m : BitVec 8} {R : Rs} (h : R.p ≤ bs.length) : ∀ i, (upS bs m R i).p ≤ bs.length ∧ R.p ≤ (upS bs m R i).p ∧ (upS bs m R i).p ≤ R.p + 10 * i
 | 0 => by simp [upS, h]
 | i + 1 => by
   have h1 := zLB h i (m := m)
   have h2 := zYj (m := m) (i := i) h1.1
   show (upI _ _ _ _).2.p ≤ _ ∧ _ ≤ (upI _ _ _ _).2.p ∧ (upI _ _ _ _).2.p ≤ _
   omega
theorem zZr {bs : List zO} {R : Rs} (h : R.p ≤ bs.length) : ∀ i, (nS bs R i).p ≤ bs.length ∧ R.p ≤ (nS bs R i).p ∧ (nS bs R i).p ≤ R.p + 10 * i
 | 0 => by simp [nS, h]
 | i + 1 => by
   have h1 := zZr h i
   have h2 := zDA h1.1
   show (zY _ _).2.p ≤ _ ∧ _ ≤ (zY _ _).2.p ∧ (zY _ _).2.p ≤ _
   omega
theorem zYV {bs : List zO} {m : BitVec 8} {R : Rs} (h : R.p ≤ bs.length) : (upA bs m R).2.p ≤ bs.length ∧ R.p ≤ (upA bs m R).2.p := by
 unfold upA
 have h1 := zAy (X := 65535#64) h
 split
 · dsimp only
   split
   · have := zBN (e := 7) h1.1; omega
   · omega
 · dsimp only; omega
section
variable {bs : List zO} {m : BitVec 8} {R : Rs} {i : Nat}
end
theorem zKJ {bs : List zO} {k id : Int} {R : Rs} (h : R.p ≤ bs.length) : (zA2 bs k id R).2.p ≤ bs.length ∧ R.p ≤ (zA2 bs k id R).2.p := by
 have h1 := zD8 h
 have h2 := zLB (m := (zG bs R).1) h1.1 6
 have h3 := zYV (m := (zG bs R).1) h2.1
 have h4 := zBN (e := 7) h1.1
 unfold zA2
 dsimp only
 split <;> (dsimp only; omega)
theorem zJB {bs : List zO} {k id : Int} {R : Rs} (h : R.p ≤ bs.length) : (zB9 bs k id R).2.p ≤ bs.length ∧ R.p ≤ (zB9 bs k id R).2.p := by
 have h2 := zZr h 6
 have h3 := zAy (X := 65535#64) h2.1
 unfold zB9
 dsimp only; omega
theorem zOx {bs : List zO} {k id : Int} {R : Rs} (h : R.p ≤ bs.length) : (zA5 bs k id R).2.p ≤ bs.length ∧ R.p ≤ (zA5 bs k id R).2.p := by
 unfold zA5
 split
 · exact zJB h
 · split
   · exact zKJ h
   · split
     · dsimp only; omega
     · have := zBN (e := 11) h; dsimp only; omega
theorem zMr {bs : List zO} {last : Int} {R : Rs} (h : R.p ≤ bs.length) : (zAC bs last R).2.2.p ≤ bs.length ∧ R.p ≤ (zAC bs last R).2.2.p := by
 have h1 : (zOw bs last R).2.p ≤ bs.length ∧ R.p ≤ (zOw bs last R).2.p := by
   have := zAy (X := BitVec.ofInt 64 (65534 - last)) h
   unfold zOw
   omega
 have h2 := zD8 h1.1
 have h3 : (zEJ bs last R).2.p ≤ bs.length ∧ (zG bs (zOw bs last R).2).2.p ≤ (zEJ bs last R).2.p := zOx h2.1
 have h4 := zBN (e := 10) h
 unfold zAC
 repeat' split
 all_goals (dsimp only; omega)
theorem zLl {α β : Type} {p x : α × β} (h : p = x) : p = (x.1, x.2) := h
theorem zFb (bs : List zO) (last : Int) (R : Rs) : zEJ bs last R = zA5 bs (((zG bs (zM bs (BitVec.ofInt 64 (65534 - last)) R).2).1.toNat : Nat) : Int) (last + 1 + (((zM bs (BitVec.ofInt 64 (65534 - last)) R).1.toNat : Nat) : Int)) (zG bs (zM bs (BitVec.ofInt 64 (65534 - last)) R).2).2 := rfl
theorem zGb {bs : List zO} {k id : Int} {R : Rs} (h : k = 0 ∨ k = 3) : zA5 bs k id R = zB9 bs k id R := by unfold zA5; rw [if_pos h]
theorem zIE {bs : List zO} {k id : Int} {R : Rs} (h : k = 1) : zA5 bs k id R = zA2 bs k id R := by unfold zA5; rw [if_neg (by omega), if_pos h]
theorem zHs {bs : List zO} {k id : Int} {R : Rs} (h : k = 2) : zA5 bs k id R = (⟨k, id, 0, 0, 0, 0, 0, 0, 0#16⟩, R) := by unfold zA5; rw [if_neg (by omega), if_neg (by omega), if_pos h]
theorem zOR {bs : List zO} {k id : Int} {R : Rs} (h : ¬ (k = 0 ∨ k = 1 ∨ k = 2 ∨ k = 3)) : zA5 bs k id R = (⟨k, id, 0, 0, 0, 0, 0, 0, 0#16⟩, zBc 11 R) := by unfold zA5; rw [if_neg (by omega), if_neg (by omega), if_neg (by omega)]
theorem zER {bs : List zO} {last : Int} {R : Rs} (h : last < -1 ∨ 65535 < last) : zAC bs last R = (zOl, 3, R) := by unfold zAC; rw [if_pos h]
theorem zEX {bs : List zO} {last : Int} {R : Rs} (h : last = 65535) : zAC bs last R = (zOl, (zBc 10 R).e, zBc 10 R) := by unfold zAC; rw [if_neg (by omega), if_pos h]
theorem zDm {bs : List zO} {last : Int} {R RR : Rs} {rr : zAA} (h : ¬ (last < -1 ∨ 65535 < last)) (h2 : last ≠ 65535) (hr : zEJ bs last R = (rr, RR)) (he : RR.e ≠ 0) : zAC bs last R = (zOl, RR.e, RR) := by
 unfold zAC
 rw [if_neg h, if_neg h2, hr, if_pos he]
theorem zEx {bs : List zO} {last : Int} {R RR : Rs} {rr : zAA} (h : ¬ (last < -1 ∨ 65535 < last)) (h2 : last ≠ 65535) (hr : zEJ bs last R = (rr, RR)) (he : RR.e = 0) : zAC bs last R = (rr, 0, RR) := by
 unfold zAC
 rw [if_neg h, if_neg h2, hr, if_neg (by simpa using he)]
theorem zI4 {bs : List zO} {k id : Int} {R : Rs} (h : (zG bs R).1.toNat = 0 ∨ 127 < (zG bs R).1.toNat) : zA2 bs k id R = (⟨k, id, 0, 0, 0, 0, 0, 0, 0#16⟩, zBc 7 (zG bs R).2) := by
 unfold zA2
 dsimp only
 rw [if_pos h]
theorem zHn {bs : List zO} {k id : Int} {R : Rs} {A : BitVec 16} {T : Rs} (h : ¬ ((zG bs R).1.toNat = 0 ∨ 127 < (zG bs R).1.toNat)) (hA : upA bs (zG bs R).1 (upS bs (zG bs R).1 (zG bs R).2 6) = (A, T)) : zA2 bs k id R = (⟨k, id, upX bs (zG bs R).1 (zG bs R).2 0, upX bs (zG bs R).1 (zG bs R).2 1, upX bs (zG bs R).1 (zG bs R).2 2, upX bs (zG bs R).1 (zG bs R).2 3, upX bs (zG bs R).1 (zG bs R).2 4, upX bs (zG bs R).1 (zG bs R).2 5, A⟩, T) := by
 unfold zA2
 dsimp only
 rw [if_neg h, hA]
theorem zRQ {bs : List zO} {last : Int} {R : Rs} (h : R.p ≤ bs.length) (h1 : -1 ≤ last) (h2 : last < 65535) : (((zM bs (BitVec.ofInt 64 (65534 - last)) R).1.toNat : Nat) : Int) ≤ 65534 - last := by
 have h3 := (zAy (X := BitVec.ofInt 64 (65534 - last)) h).2.2.2.1
 have h4 := zD7 (x := 65534 - last) (by omega) (by omega)
 omega
theorem zUE {bs : List zO} {last : Int} {R : Rs} (h : R.p ≤ bs.length) (h1 : -1 ≤ last) (h2 : last < 65535) : (zM bs (BitVec.ofInt 64 (65534 - last)) R).1.toInt = (((zM bs (BitVec.ofInt 64 (65534 - last)) R).1.toNat : Nat) : Int) := by
 have := zRQ h h1 h2
 by_cases h5 : 65534 - last ≤ 65535
 · exact zHl (by omega)
 · exact zHl (by omega)
end Go.Sx

set_option linter.unusedVariables false
set_option linter.unusedSimpArgs false
namespace Go.Sx
structure zX where
 id : Int
 p0 : Int
 p1 : Int
 p2 : Int
 v0 : Int
 v1 : Int
 v2 : Int
 a : BitVec 16
 g : BitVec 8
instance : Inhabited zX := ⟨⟨0, 0, 0, 0, 0, 0, 0, 0#16, 0#8⟩⟩
structure zX.wf (r : zX) : Prop where
 id : -9223372036854775808 ≤ r.id ∧ r.id ≤ 9223372036854775807
 p0 : -9223372036854775808 ≤ r.p0 ∧ r.p0 ≤ 9223372036854775807
 p1 : -9223372036854775808 ≤ r.p1 ∧ r.p1 ≤ 9223372036854775807
 p2 : -9223372036854775808 ≤ r.p2 ∧ r.p2 ≤ 9223372036854775807
 v0 : -9223372036854775808 ≤ r.v0 ∧ r.v0 ≤ 9223372036854775807
 v1 : -9223372036854775808 ≤ r.v1 ∧ r.v1 ≤ 9223372036854775807
 v2 : -9223372036854775808 ≤ r.v2 ∧ r.v2 ≤ 9223372036854775807
def zBL (r : zX) : List Value := [.int .i64 r.id, .int .i64 r.p0, .int .i64 r.p1, .int .i64 r.p2, .int .i64 r.v0, .int .i64 r.v1, .int .i64 r.v2, .int .u16 ((r.a.toNat : Nat) : Int), .int .u8 ((r.g.toNat : Nat) : Int)]
theorem zBl (r : zX) : (zBL r).length = 9 := rfl
def zCz : zX := ⟨0, 0, 0, 0, 0, 0, 0, 0#16, 0#8⟩
def zS (a : zX) (r : zAA) : zX × Nat :=
 if zAb r ≠ 0 then (zCz, zAb r) else if r.id ≠ a.id ∨ r.k = 0 ∨ r.k = 2 then (zCz, 15)
 else if r.k = 3 then (⟨a.id, r.p0, r.p1, r.p2, r.v0, r.v1, r.v2, r.a, a.g + 1#8⟩, 0)
 else (⟨a.id, IntKind.i64.wrap (a.p0 + r.p0), IntKind.i64.wrap (a.p1 + r.p1), IntKind.i64.wrap (a.p2 + r.p2), IntKind.i64.wrap (a.v0 + r.v0), IntKind.i64.wrap (a.v1 + r.v1), IntKind.i64.wrap (a.v2 + r.v2), a.a + r.a, a.g⟩, 0)
theorem zEp (x : Int) : -9223372036854775808 ≤ IntKind.i64.wrap x ∧ IntKind.i64.wrap x ≤ 9223372036854775807 := by
 simp only [IntKind.wrap_i64]
 omega
theorem zB7 {a : zX} {r : zAA} (h : zAb r ≠ 0) : zS a r = (zCz, zAb r) := by unfold zS; rw [if_pos h]
theorem zCP {a : zX} {r : zAA} (h : zAb r = 0) (h2 : r.id ≠ a.id ∨ r.k = 0 ∨ r.k = 2) : zS a r = (zCz, 15) := by unfold zS; rw [if_neg (by omega), if_pos h2]
theorem zBj {a : zX} {r : zAA} (h : zAb r = 0) (h2 : ¬ (r.id ≠ a.id ∨ r.k = 0 ∨ r.k = 2)) (h3 : r.k = 3) : zS a r = (⟨a.id, r.p0, r.p1, r.p2, r.v0, r.v1, r.v2, r.a, a.g + 1#8⟩, 0) := by
 unfold zS
 rw [if_neg (by omega), if_neg h2, if_pos h3]
theorem zBe {a : zX} {r : zAA} (h : zAb r = 0) (h2 : ¬ (r.id ≠ a.id ∨ r.k = 0 ∨ r.k = 2)) (h3 : r.k ≠ 3) : zS a r = (⟨a.id, IntKind.i64.wrap (a.p0 + r.p0), IntKind.i64.wrap (a.p1 + r.p1), IntKind.i64.wrap (a.p2 + r.p2), IntKind.i64.wrap (a.v0 + r.v0), IntKind.i64.wrap (a.v1 + r.v1), IntKind.i64.wrap (a.v2 + r.v2), a.a + r.a, a.g⟩, 0) := by
 unfold zS
 rw [if_neg (by omega), if_neg h2, if_neg h3]
end Go.Sx

set_option linter.unusedVariables false
set_option linter.unusedSimpArgs false
namespace Go.Sx
structure za0 where
 k : Int
 m : BitVec 64
 e : BitVec 8
instance : Inhabited za0 := ⟨⟨0, 0#64, 0#8⟩⟩
theorem zAa {α : Type} {g : α → List Value} {size : Nat} (hg : ∀ a, (g a).length = size) : ∀ (l : List α), (l.flatMap g).length = l.length * size
 | [] => by simp
 | a :: l => by rw [List.flatMap_cons, List.length_append, hg, zAa hg l, List.length_cons, Nat.add_mul]; omega
theorem zAh {α : Type} [Inhabited α] {g : α → List Value} {size : Nat} (hg : ∀ a, (g a).length = size) : ∀ (l : List α) (j : Nat), j < l.length → ((l.flatMap g).drop (j * size)).take size = g (l.getD j default)
 | [], j, h => by simp at h
 | a :: l, 0, _ => by
   simp only [Nat.zero_mul, List.drop_zero, List.flatMap_cons, List.getD_cons_zero]
   rw [← hg a, List.take_left']
   rfl
 | a :: l, j + 1, h => by
   have ih := zAh hg l j (by simpa using h)
   rw [List.flatMap_cons, show (j + 1) * size = (g a).length + j * size by rw [hg, Nat.add_mul]; omega, ← List.drop_drop, List.drop_left', List.getD_cons_succ]
   · exact ih
   · rfl
theorem zC3 {α : Type} [Inhabited α] {g : α → List Value} {size : Nat} (hg : ∀ a, (g a).length = size) (l : List α) (j o : Nat) (h : j < l.length) (ho : o < size) : (l.flatMap g)[j * size + o]? = (g (l.getD j default))[o]? := by
 rw [← zAh hg l j h, List.getElem?_take, if_pos ho, List.getElem?_drop]
def Tr (bs : List zO) (u : Value) (p : Nat) (u' : Value) (p' : Nat) : Prop := ∀ w' T, Rd w' T u 1 (bs.length - p) (zC (bs.drop p)) → Rd w' T u' 1 (bs.length - p') (zC (bs.drop p'))
theorem Tr.refl {bs : List zO} {u : Value} {p : Nat} : Tr bs u p u p := fun _ _ h => h
theorem Tr.trans {bs : List zO} {u u2 u3 : Value} {p p2 p3 : Nat} (h : Tr bs u p u2 p2) (h2 : Tr bs u2 p2 u3 p3) : Tr bs u p u3 p3 := fun w T h0 => h2 w T (h w T h0)
theorem zQo {b : List zO} (h : b.length = 0) : (zCI b).2.2 = 5 := by rw [zCD h]
theorem zXA {bs : List zO} {k : Nat} (h : (zCI (bs.drop k)).2.2 ≠ 5) : ¬ bs.length ≤ k := fun h2 => h (zQo (by simp only [List.length_drop]; omega))
theorem zOO {bs : List zO} {X : BitVec 64} {R : Rs} (h : R.e = 0) (h1 : (zCI (bs.drop R.p)).2.2 = 0) (h2 : (zCI (bs.drop R.p)).1.toNat ≤ X.toNat) : zM bs X R = ((zCI (bs.drop R.p)).1, ⟨R.p + (zCI (bs.drop R.p)).2.1, 0⟩) := by
 have hu : zIM (bs.drop R.p) X = 0 := by unfold zIM; rw [if_neg (fun h => by omega)]; exact h1
 exact zC2 h (zXA (by omega)) hu
theorem zMz {bs : List zO} {R : Rs} (h : R.p ≤ bs.length) : (zY bs (zY bs (zY bs R).2).2).2.p ≤ bs.length ∧ R.p ≤ (zY bs (zY bs (zY bs R).2).2).2.p ∧ (zY bs (zY bs (zY bs R).2).2).2.p ≤ R.p + 30 := zWj h
end Go.Sx

set_option linter.unusedVariables false
set_option linter.unusedSimpArgs false
namespace Go.Sx
structure zC8 {α : Type} (bs : List zO) (c : List zO) (f : Rs → α × Rs) (v : α) : Prop where
 stay : ∀ R, R.e = 6 → (f R).2.e = 6
 good : ∀ R n rest, R.e = 0 → R.p ≤ bs.length → bs.drop R.p = (c ++ rest).take n → c.length ≤ n → f R = (v, ⟨R.p + c.length, 0⟩)
 short : ∀ R n rest, R.e = 0 → R.p ≤ bs.length → bs.drop R.p = (c ++ rest).take n → n < c.length → (f R).2.e = 6
theorem zMJ {bs c rest : List zO} {p n : Nat} (h : bs.drop p = (c ++ rest).take n) (hn : c.length ≤ n) (hp : p ≤ bs.length) : bs.drop (p + c.length) = rest.take (n - c.length) ∧ p + c.length ≤ bs.length := by
 have h1 : bs.drop (p + c.length) = (bs.drop p).drop c.length := by rw [List.drop_drop]
 have h2 := congrArg List.length h
 simp only [List.length_drop, List.length_take, List.length_append] at h2
 refine ⟨?_, by omega⟩
 rw [h1, h, List.take_append, List.drop_append_of_le_length (by rw [List.length_take]; omega), List.take_of_length_le hn, List.drop_length, List.nil_append]
theorem zC8.bind {α β : Type} {bs c d : List zO} {f : Rs → α × Rs} {g : α → Rs → β × Rs} {v : α} {u : β} (hf : zC8 bs c f v) (hs : ∀ x R, R.e = 6 → (g x R).2.e = 6) (hg : zC8 bs d (g v) u) : zC8 bs (c ++ d) (fun R => g (f R).1 (f R).2) u := by
 refine ⟨fun R h => hs _ _ (hf.stay R h), fun R n rest h0 hp hd hn => ?_, fun R n rest h0 hp hd hn => ?_⟩
 · rw [List.append_assoc] at hd
   rw [List.length_append] at hn
   have h1 := hf.good R n _ h0 hp hd (by omega)
   obtain ⟨h2, h3⟩ := zMJ hd (by omega) hp
   rw [h1]
   dsimp only
   rw [hg.good ⟨R.p + c.length, 0⟩ (n - c.length) rest rfl h3 h2 (by omega), List.length_append]
   dsimp only
   rw [Nat.add_assoc]
 · rw [List.append_assoc] at hd
   rw [List.length_append] at hn
   by_cases hc : c.length ≤ n
   · have h1 := hf.good R n _ h0 hp hd hc
     obtain ⟨h2, h3⟩ := zMJ hd hc hp
     rw [h1]
     exact hg.short ⟨R.p + c.length, 0⟩ (n - c.length) rest rfl h3 h2 (by omega)
   · exact hs _ _ (hf.short R n _ h0 hp hd (by omega))
theorem zC8.pure {α : Type} {bs : List zO} (v : α) : zC8 bs [] (fun R => (v, R)) v := by
 refine ⟨fun R h => h, fun R n rest h0 hp hd hn => ?_, fun R n rest h0 hp hd hn => ?_⟩
 · cases R; simp at h0; subst h0; rfl
 · simp at hn
theorem zCU {bs : List zO} {X L : BitVec 64} (h : X.toNat ≤ L.toNat) : zC8 bs (zCK X.toNat) (zM bs L) X := by
 have hvp := zCx X.toNat
 have hl : (zCK X.toNat).length = zBQ X.toNat := rfl
 refine ⟨fun R h => by rw [zCm (by omega)]; exact h, fun R n rest h0 hp hd hn => ?_, fun R n rest h0 hp hd hn => ?_⟩
 · have hd2 : bs.drop R.p = zCK X.toNat ++ rest.take (n - (zCK X.toNat).length) := by rw [hd, List.take_append, List.take_of_length_le hn]
   have hg := zR4 X (rest.take (n - (zCK X.toNat).length))
   rw [← hd2] at hg
   rw [zOO h0 (by rw [hg]) (by rw [hg]; exact h), hg]
   rfl
 · have hd2 : bs.drop R.p = (zCK X.toNat).take n := by rw [hd, List.take_append, show n - (zCK X.toNat).length = 0 by omega]; simp
   by_cases h1 : bs.length ≤ R.p
   · rw [zCT h0 h1]
   · have hn0 : 1 ≤ n := by
       have := congrArg List.length hd2
       simp only [List.length_drop, List.length_take] at this
       omega
     have hg := zOt X n hn0 (by omega)
     rw [← hd2] at hg
     have hu : zIM (bs.drop R.p) L = 6 := by unfold zIM; rw [hg]; simp
     rw [zDd h0 h1 (by omega), hu]
theorem zGG {bs : List zO} {c : zO} : zC8 bs [c] (zG bs) c := by
 refine ⟨fun R h => by rw [zDZ (by omega)]; exact h, fun R n rest h0 hp hd hn => ?_, fun R n rest h0 hp hd hn => ?_⟩
 · have hd2 : bs.drop R.p = c :: rest.take (n - 1) := by
     rw [hd]
     simp only [List.length_singleton] at hn
     rw [show n = (n - 1) + 1 by omega]
     simp
   have hl := congrArg List.length hd2
   simp only [List.length_drop, List.length_cons] at hl
   have hg : bs.getD R.p 0 = c := by
     have := congrArg (fun l : List zO => l.getD 0 0) hd2
     simpa [List.getD_eq_getElem?_getD] using this
   rw [zDi h0 (by omega), hg]
   rfl
 · simp only [List.length_singleton] at hn
   have hn0 : n = 0 := by omega
   subst hn0
   have hl := congrArg List.length hd
   simp at hl
   rw [zDJ h0 (by omega)]
theorem zCd {bs : List zO} {x : Int} (h : -9223372036854775808 ≤ x ∧ x ≤ 9223372036854775807) : zC8 bs (zDL x) (zY bs) x := by
 have ht := zCU (bs := bs) (X := zGC x) (L := 18446744073709551615#64) (by have := (zGC x).isLt; have h2 : (18446744073709551615#64).toNat = 18446744073709551615 := rfl; omega)
 refine ⟨fun R h => ht.stay R h, fun R n rest h0 hp hd hn => ?_, fun R n rest h0 hp hd hn => ht.short R n rest h0 hp hd hn⟩
 have := ht.good R n rest h0 hp hd hn
 unfold zY
 rw [this, zWP x h]
 rfl
theorem zDe {e : Nat} {R : Rs} (h : R.e = 6) : (zBc e R).e = 6 := by unfold zBc; rw [if_neg (by omega)]; exact h
theorem zBi {bs : List zO} {m : BitVec 8} {i : Nat} {R : Rs} (h : R.e = 6) : (upI bs m i R).2.e = 6 := by
 have h1 := (zLA (bs := bs) (R := R) (by omega)).2.1
 unfold upI
 split
 · dsimp only
   split
   · exact zDe (by omega)
   · omega
 · exact h
theorem zES {bs : List zO} {m : BitVec 8} {R : Rs} (h : R.e = 6) : (upA bs m R).2.e = 6 := by
 have h1 := (zIt (bs := bs) (X := 65535#64) (R := R) (by omega)).2.1
 unfold upA
 split
 · dsimp only
   split
   · exact zDe (by omega)
   · omega
 · exact h
def upC (r : zAA) (i : Nat) : List zO := if r.num i = 0 then [] else zDL (r.num i)
theorem zS9 {bs : List zO} {m : BitVec 8} {r : zAA} {i : Nat} (hm : zBf m i = true ↔ r.num i ≠ 0) (h : -9223372036854775808 ≤ r.num i ∧ r.num i ≤ 9223372036854775807) : zC8 bs (upC r i) (upI bs m i) (r.num i) := by
 by_cases h0 : r.num i = 0
 · have hb : zBf m i = false := by
     cases hb : zBf m i with
     | false => rfl
     | true => exact absurd h0 (hm.1 hb)
   have : upI bs m i = fun R => (0, R) := by
     funext R
     unfold upI
     rw [if_neg (by rw [hb]; decide)]
   rw [this, upC, if_pos h0, h0]
   exact zC8.pure 0
 · have hb := hm.2 h0
   have ht := zCd (bs := bs) h
   rw [upC, if_neg h0]
   refine ⟨fun R h => zBi h, fun R n rest h1 hp hd hn => ?_, fun R n rest h1 hp hd hn => ?_⟩
   · have := ht.good R n rest h1 hp hd hn
     unfold upI
     rw [if_pos hb, this]
     dsimp only
     rw [if_neg h0]
   · have := ht.short R n rest h1 hp hd hn
     unfold upI
     rw [if_pos hb]
     dsimp only
     split
     · exact zDe this
     · exact this
theorem zW4 {bs : List zO} {a : BitVec 16} : zC8 bs (zCK a.toNat) (fun R => ((zM bs 65535#64 R).1.setWidth 16, (zM bs 65535#64 R).2)) a := by
 have ht := zCU (bs := bs) (X := a.setWidth 64) (L := 65535#64) (by rw [zSV]; have := a.isLt; have h2 : (65535#64).toNat = 65535 := rfl; omega)
 rw [zSV] at ht
 refine ⟨fun R h => ht.stay R h, fun R n rest h0 hp hd hn => ?_, fun R n rest h0 hp hd hn => ht.short R n rest h0 hp hd hn⟩
 have := ht.good R n rest h0 hp hd hn
 rw [this]
 dsimp only
 congr 1
 apply BitVec.eq_of_toNat_eq
 simp
theorem zOq {bs : List zO} {m : BitVec 8} {a : BitVec 16} (hm : zBf m 6 = true ↔ a ≠ 0#16) : zC8 bs (if a = 0#16 then [] else zCK a.toNat) (upA bs m) a := by
 by_cases h0 : a = 0#16
 · have hb : zBf m 6 = false := by
     cases hb : zBf m 6 with
     | false => rfl
     | true => exact absurd h0 (hm.1 hb)
   have : upA bs m = fun R => (0#16, R) := by
     funext R
     unfold upA
     rw [if_neg (by rw [hb]; decide)]
   rw [this, if_pos h0, h0]
   exact zC8.pure _
 · have hb := hm.2 h0
   rw [if_neg h0]
   have ht := zCU (bs := bs) (X := a.setWidth 64) (L := 65535#64) (by rw [zSV]; have := a.isLt; have h2 : (65535#64).toNat = 65535 := rfl; omega)
   rw [zSV] at ht
   have hne : a.setWidth 64 ≠ 0#64 := fun e => h0 (BitVec.eq_of_toNat_eq (by rw [← zSV a, e]; rfl))
   refine ⟨fun R h => zES h, fun R n rest h1 hp hd hn => ?_, fun R n rest h1 hp hd hn => ?_⟩
   · have := ht.good R n rest h1 hp hd hn
     unfold upA
     rw [if_pos hb, this]
     dsimp only
     rw [if_neg hne]
     congr 1
     apply BitVec.eq_of_toNat_eq
     simp
   · have := ht.short R n rest h1 hp hd hn
     unfold upA
     rw [if_pos hb]
     dsimp only
     split
     · exact zDe this
     · exact this
/-! ### The mask -/
def zEM (b0 b1 b2 b3 b4 b5 b6 : Bool) : BitVec 8 :=
 let m0 := bif b0 then 0#8 ||| (1#8 <<< 0) else 0#8
 let m1 := bif b1 then m0 ||| (1#8 <<< 1) else m0
 let m2 := bif b2 then m1 ||| (1#8 <<< 2) else m1
 let m3 := bif b3 then m2 ||| (1#8 <<< 3) else m2
 let m4 := bif b4 then m3 ||| (1#8 <<< 4) else m3
 let m5 := bif b5 then m4 ||| (1#8 <<< 5) else m4
 bif b6 then m5 ||| 64#8 else m5
theorem zWq {α : Type} {p : Prop} [Decidable p] (x y : α) : (if p then x else y) = bif decide (¬ p) then y else x := by by_cases h : p <;> simp [h]
theorem zWm (r : zAA) : zCQ r = zEM (decide (r.p0 ≠ 0)) (decide (r.p1 ≠ 0)) (decide (r.p2 ≠ 0)) (decide (r.v0 ≠ 0)) (decide (r.v1 ≠ 0)) (decide (r.v2 ≠ 0)) (decide (r.a ≠ 0#16)) := by
 simp only [zCQ, zAs, zAA.num, zEM, zWq]
theorem zL4 : ∀ b0 b1 b2 b3 b4 b5 b6 : Bool, zBf (zEM b0 b1 b2 b3 b4 b5 b6) 0 = b0 ∧ zBf (zEM b0 b1 b2 b3 b4 b5 b6) 1 = b1 ∧ zBf (zEM b0 b1 b2 b3 b4 b5 b6) 2 = b2 ∧ zBf (zEM b0 b1 b2 b3 b4 b5 b6) 3 = b3 ∧ zBf (zEM b0 b1 b2 b3 b4 b5 b6) 4 = b4 ∧ zBf (zEM b0 b1 b2 b3 b4 b5 b6) 5 = b5 ∧ zBf (zEM b0 b1 b2 b3 b4 b5 b6) 6 = b6 ∧ (zEM b0 b1 b2 b3 b4 b5 b6).toNat ≤ 127 ∧ ((zEM b0 b1 b2 b3 b4 b5 b6).toNat = 0 → b0 = false ∧ b1 = false ∧ b2 = false ∧ b3 = false ∧ b4 = false ∧ b5 = false ∧ b6 = false) := by
 intro b0 b1 b2 b3 b4 b5 b6
 cases b0 <;> cases b1 <;> cases b2 <;> cases b3 <;> cases b4 <;> cases b5 <;> cases b6 <;> exact ⟨by decide, by decide, by decide, by decide, by decide, by decide, by decide, by decide, by decide⟩
theorem zPi (r : zAA) : (∀ i, i < 6 → (zBf (zCQ r) i = true ↔ r.num i ≠ 0)) ∧ (zBf (zCQ r) 6 = true ↔ r.a ≠ 0#16) ∧ (zCQ r).toNat ≤ 127 ∧ ((zCQ r).toNat = 0 → zBD r = true) := by
 have h := zL4 (decide (r.p0 ≠ 0)) (decide (r.p1 ≠ 0)) (decide (r.p2 ≠ 0)) (decide (r.v0 ≠ 0)) (decide (r.v1 ≠ 0)) (decide (r.v2 ≠ 0)) (decide (r.a ≠ 0#16))
 rw [← zWm] at h
 obtain ⟨h0, h1, h2, h3, h4, h5, h6, h7, h8⟩ := h
 refine ⟨fun i hi => ?_, by rw [h6, decide_eq_true_iff], h7, fun hz => ?_⟩
 · match i, hi with
   | 0, _ => rw [h0, decide_eq_true_iff]; rfl
   | 1, _ => rw [h1, decide_eq_true_iff]; rfl
   | 2, _ => rw [h2, decide_eq_true_iff]; rfl
   | 3, _ => rw [h3, decide_eq_true_iff]; rfl
   | 4, _ => rw [h4, decide_eq_true_iff]; rfl
   | 5, _ => rw [h5, decide_eq_true_iff]; rfl
 · obtain ⟨e0, e1, e2, e3, e4, e5, e6⟩ := h8 hz
   simp only [decide_eq_false_iff_not, ne_eq, Decidable.not_not] at e0 e1 e2 e3 e4 e5 e6
   simp [zBD, e0, e1, e2, e3, e4, e5, e6]
/-! ### The bodies -/
theorem zAA.wf.num {r : zAA} (h : r.wf) (i : Nat) : -9223372036854775808 ≤ r.num i ∧ r.num i ≤ 9223372036854775807 := by
 match i with
 | 0 => exact h.p0
 | 1 => exact h.p1
 | 2 => exact h.p2
 | 3 => exact h.v0
 | 4 => exact h.v1
 | _ + 5 => exact h.v2
theorem zAm {bs : List zO} {R : Rs} (h : R.e = 6) : (zY bs R).2.e = 6 := by have := (zLA (bs := bs) (R := R) (by omega)).2.1; omega
theorem zC5 {bs : List zO} {X : BitVec 64} {R : Rs} (h : R.e = 6) : (zM bs X R).2.e = 6 := by have := (zIt (bs := bs) (X := X) (R := R) (by omega)).2.1; omega
theorem zKQ {bs : List zO} {R : Rs} (h : R.e = 6) : (zG bs R).2.e = 6 := by have := (zOA (bs := bs) (R := R) (by omega)).2.1; omega
theorem zPm {bs : List zO} {r : zAA} (hw : r.wf) : zC8 bs (zBT r) (zB9 bs r.k r.id) r := by
 have h6 := (zW4 (bs := bs) (a := r.a)).bind (g := fun x R => ((⟨r.k, r.id, r.p0, r.p1, r.p2, r.v0, r.v1, r.v2, x⟩ : zAA), R)) (fun x R h => h) (zC8.pure _)
 have h5 := (zCd (bs := bs) hw.v2).bind (g := fun x R => ((⟨r.k, r.id, r.p0, r.p1, r.p2, r.v0, r.v1, x, (zM bs 65535#64 R).1.setWidth 16⟩ : zAA), (zM bs 65535#64 R).2)) (fun x R h => zC5 h) h6
 have h4 := (zCd (bs := bs) hw.v1).bind (g := fun x R => ((⟨r.k, r.id, r.p0, r.p1, r.p2, r.v0, x, (zY bs R).1, (zM bs 65535#64 (zY bs R).2).1.setWidth 16⟩ : zAA), (zM bs 65535#64 (zY bs R).2).2)) (fun x R h => zC5 (zAm h)) h5
 have h3 := (zCd (bs := bs) hw.v0).bind (g := fun x R => ((⟨r.k, r.id, r.p0, r.p1, r.p2, x, (zY bs R).1, (zY bs (zY bs R).2).1, (zM bs 65535#64 (zY bs (zY bs R).2).2).1.setWidth 16⟩ : zAA), (zM bs 65535#64 (zY bs (zY bs R).2).2).2)) (fun x R h => zC5 (zAm (zAm h))) h4
 have h2 := (zCd (bs := bs) hw.p2).bind (g := fun x R => ((⟨r.k, r.id, r.p0, r.p1, x, (zY bs R).1, (zY bs (zY bs R).2).1, (zY bs (zY bs (zY bs R).2).2).1, (zM bs 65535#64 (zY bs (zY bs (zY bs R).2).2).2).1.setWidth 16⟩ : zAA), (zM bs 65535#64 (zY bs (zY bs (zY bs R).2).2).2).2)) (fun x R h => zC5 (zAm (zAm (zAm h)))) h3
 have h1 := (zCd (bs := bs) hw.p1).bind (g := fun x R => ((⟨r.k, r.id, r.p0, x, (zY bs R).1, (zY bs (zY bs R).2).1, (zY bs (zY bs (zY bs R).2).2).1, (zY bs (zY bs (zY bs (zY bs R).2).2).2).1, (zM bs 65535#64 (zY bs (zY bs (zY bs (zY bs R).2).2).2).2).1.setWidth 16⟩ : zAA), (zM bs 65535#64 (zY bs (zY bs (zY bs (zY bs R).2).2).2).2).2)) (fun x R h => zC5 (zAm (zAm (zAm (zAm h))))) h2
 have h0 := (zCd (bs := bs) hw.p0).bind (g := fun x R => ((⟨r.k, r.id, x, (zY bs R).1, (zY bs (zY bs R).2).1, (zY bs (zY bs (zY bs R).2).2).1, (zY bs (zY bs (zY bs (zY bs R).2).2).2).1, (zY bs (zY bs (zY bs (zY bs (zY bs R).2).2).2).2).1, (zM bs 65535#64 (zY bs (zY bs (zY bs (zY bs (zY bs R).2).2).2).2).2).1.setWidth 16⟩ : zAA), (zM bs 65535#64 (zY bs (zY bs (zY bs (zY bs (zY bs R).2).2).2).2).2).2)) (fun x R h => zC5 (zAm (zAm (zAm (zAm (zAm h)))))) h1
 have e : zB9 bs r.k r.id = fun R => ((⟨r.k, r.id, (zY bs R).1, (zY bs (zY bs R).2).1, (zY bs (zY bs (zY bs R).2).2).1, (zY bs (zY bs (zY bs (zY bs R).2).2).2).1, (zY bs (zY bs (zY bs (zY bs (zY bs R).2).2).2).2).1, (zY bs (zY bs (zY bs (zY bs (zY bs (zY bs R).2).2).2).2).2).1, (zM bs 65535#64 (zY bs (zY bs (zY bs (zY bs (zY bs (zY bs R).2).2).2).2).2).2).1.setWidth 16⟩ : zAA), (zM bs 65535#64 (zY bs (zY bs (zY bs (zY bs (zY bs (zY bs R).2).2).2).2).2).2).2) := by
   funext R
   simp only [zB9, nX, nS]
 rw [e]
 simpa [zBT, List.append_assoc] using h0
end Go.Sx

set_option linter.unusedVariables false
set_option linter.unusedSimpArgs false
namespace Go.Sx
theorem zPC {bs : List zO} {m : BitVec 8} {R : Rs} (h : R.e = 6) : ∀ i, (upS bs m R i).e = 6
 | 0 => h
 | i + 1 => zBi (zPC h i)
def zL1 (bs : List zO) (k id : Int) (m : BitVec 8) (R : Rs) : zAA × Rs :=
 if m.toNat = 0 ∨ 127 < m.toNat then (⟨k, id, 0, 0, 0, 0, 0, 0, 0#16⟩, zBc 7 R)
 else (⟨k, id, upX bs m R 0, upX bs m R 1, upX bs m R 2, upX bs m R 3, upX bs m R 4, upX bs m R 5, (upA bs m (upS bs m R 6)).1⟩, (upA bs m (upS bs m R 6)).2)
theorem zIa (bs : List zO) (k id : Int) : zA2 bs k id = fun R => zL1 bs k id (zG bs R).1 (zG bs R).2 := by
 funext R
 unfold zA2 zL1
 rfl
theorem zK9 {bs : List zO} {k id : Int} {m : BitVec 8} {R : Rs} (h : R.e = 6) : (zL1 bs k id m R).2.e = 6 := by
 unfold zL1
 split
 · exact zDe h
 · exact zES (zPC h 6)
theorem zJH (r : zAA) : zAY r 6 = upC r 0 ++ (upC r 1 ++ (upC r 2 ++ (upC r 3 ++ (upC r 4 ++ upC r 5)))) := by
 have h : ∀ i, zAY r (i + 1) = zAY r i ++ upC r i := fun i => by
   show (if r.num i = 0 then _ else _) = _
   unfold upC
   split <;> simp
 rw [h 5, h 4, h 3, h 2, h 1, h 0]
 simp [zAY]
def upW (r : zAA) : List zO := if r.a = 0#16 then [] else zCK r.a.toNat
theorem zNh (r : zAA) : zBG r = [zCQ r] ++ (upC r 0 ++ (upC r 1 ++ (upC r 2 ++ (upC r 3 ++ (upC r 4 ++ (upC r 5 ++ upW r)))))) := by
 unfold zBG zGc upW
 rw [zJH]
 split <;> simp
theorem zOG {bs : List zO} {r : zAA} (hw : r.wf) (hne : zBD r = false) : zC8 bs (zBG r) (zA2 bs r.k r.id) r := by
 obtain ⟨hb, h6, h7, h8⟩ := zPi r
 have hm0 : ¬ ((zCQ r).toNat = 0 ∨ 127 < (zCQ r).toNat) := by
   rintro (h | h)
   · rw [h8 h] at hne; cases hne
   · omega
 rw [zNh, zIa]
 refine zGG.bind (g := fun m R => zL1 bs r.k r.id m R) (fun x R h => zK9 h) ?_
 generalize hM : zCQ r = m at *
 have e : (fun R => zL1 bs r.k r.id m R) = fun R => (⟨r.k, r.id, (upI bs m 0 R).1, (upI bs m 1 (upI bs m 0 R).2).1, (upI bs m 2 (upI bs m 1 (upI bs m 0 R).2).2).1, (upI bs m 3 (upI bs m 2 (upI bs m 1 (upI bs m 0 R).2).2).2).1, (upI bs m 4 (upI bs m 3 (upI bs m 2 (upI bs m 1 (upI bs m 0 R).2).2).2).2).1, (upI bs m 5 (upI bs m 4 (upI bs m 3 (upI bs m 2 (upI bs m 1 (upI bs m 0 R).2).2).2).2).2).1, (upA bs m (upI bs m 5 (upI bs m 4 (upI bs m 3 (upI bs m 2 (upI bs m 1 (upI bs m 0 R).2).2).2).2).2).2).1⟩, (upA bs m (upI bs m 5 (upI bs m 4 (upI bs m 3 (upI bs m 2 (upI bs m 1 (upI bs m 0 R).2).2).2).2).2).2).2) := by
   funext R
   unfold zL1
   rw [if_neg hm0]
   rfl
 rw [e]
 have hn := fun i hi => zS9 (bs := bs) (hb i hi) (hw.num i)
 have q6 := (zOq (bs := bs) h6).bind (g := fun x R => ((⟨r.k, r.id, r.p0, r.p1, r.p2, r.v0, r.v1, r.v2, x⟩ : zAA), R)) (fun x R h => h) (zC8.pure _)
 have q5 := (hn 5 (by omega)).bind (g := fun x R => ((⟨r.k, r.id, r.p0, r.p1, r.p2, r.v0, r.v1, x, (upA bs m R).1⟩ : zAA), (upA bs m R).2)) (fun x R h => zES h) q6
 have q4 := (hn 4 (by omega)).bind (g := fun x R => ((⟨r.k, r.id, r.p0, r.p1, r.p2, r.v0, x, (upI bs m 5 R).1, (upA bs m (upI bs m 5 R).2).1⟩ : zAA), (upA bs m (upI bs m 5 R).2).2)) (fun x R h => zES (zBi h)) q5
 have q3 := (hn 3 (by omega)).bind (g := fun x R => ((⟨r.k, r.id, r.p0, r.p1, r.p2, x, (upI bs m 4 R).1, (upI bs m 5 (upI bs m 4 R).2).1, (upA bs m (upI bs m 5 (upI bs m 4 R).2).2).1⟩ : zAA), (upA bs m (upI bs m 5 (upI bs m 4 R).2).2).2)) (fun x R h => zES (zBi (zBi h))) q4
 have q2 := (hn 2 (by omega)).bind (g := fun x R => ((⟨r.k, r.id, r.p0, r.p1, x, (upI bs m 3 R).1, (upI bs m 4 (upI bs m 3 R).2).1, (upI bs m 5 (upI bs m 4 (upI bs m 3 R).2).2).1, (upA bs m (upI bs m 5 (upI bs m 4 (upI bs m 3 R).2).2).2).1⟩ : zAA), (upA bs m (upI bs m 5 (upI bs m 4 (upI bs m 3 R).2).2).2).2)) (fun x R h => zES (zBi (zBi (zBi h)))) q3
 have q1 := (hn 1 (by omega)).bind (g := fun x R => ((⟨r.k, r.id, r.p0, x, (upI bs m 2 R).1, (upI bs m 3 (upI bs m 2 R).2).1, (upI bs m 4 (upI bs m 3 (upI bs m 2 R).2).2).1, (upI bs m 5 (upI bs m 4 (upI bs m 3 (upI bs m 2 R).2).2).2).1, (upA bs m (upI bs m 5 (upI bs m 4 (upI bs m 3 (upI bs m 2 R).2).2).2).2).1⟩ : zAA), (upA bs m (upI bs m 5 (upI bs m 4 (upI bs m 3 (upI bs m 2 R).2).2).2).2).2)) (fun x R h => zES (zBi (zBi (zBi (zBi h))))) q2
 have q0 := (hn 0 (by omega)).bind (g := fun x R => ((⟨r.k, r.id, x, (upI bs m 1 R).1, (upI bs m 2 (upI bs m 1 R).2).1, (upI bs m 3 (upI bs m 2 (upI bs m 1 R).2).2).1, (upI bs m 4 (upI bs m 3 (upI bs m 2 (upI bs m 1 R).2).2).2).1, (upI bs m 5 (upI bs m 4 (upI bs m 3 (upI bs m 2 (upI bs m 1 R).2).2).2).2).1, (upA bs m (upI bs m 5 (upI bs m 4 (upI bs m 3 (upI bs m 2 (upI bs m 1 R).2).2).2).2).2).1⟩ : zAA), (upA bs m (upI bs m 5 (upI bs m 4 (upI bs m 3 (upI bs m 2 (upI bs m 1 R).2).2).2).2).2).2)) (fun x R h => zES (zBi (zBi (zBi (zBi (zBi h)))))) q1
 simpa [upW, zAA.num] using q0
theorem zOc {r : zAA} (h : zBD r = true) : r = ⟨r.k, r.id, 0, 0, 0, 0, 0, 0, 0#16⟩ := by
 simp only [zBD, Bool.and_eq_true, beq_iff_eq] at h
 obtain ⟨⟨⟨⟨⟨⟨e0, e1⟩, e2⟩, e3⟩, e4⟩, e5⟩, e6⟩ := h
 have e6' := zPE e6
 cases r
 simp_all
theorem zEf {r : zAA} (h : zAb r = 0) : 0 ≤ r.k ∧ r.k ≤ 3 ∧ 0 ≤ r.id ∧ r.id ≤ 65535 ∧ (r.k = 1 → zBD r = false) ∧ (r.k = 2 → zBD r = true) := by
 unfold zAb at h
 split at h
 · cases h
 · split at h
   · cases h
   · split at h
     · cases h
     · rename_i h1 h2 h3
       refine ⟨by omega, by omega, by omega, by omega, fun hk => ?_, fun hk => ?_⟩
       · cases he : zBD r with
         | false => rfl
         | true => exact absurd (.inl ⟨hk, he⟩) h3
       · cases he : zBD r with
         | true => rfl
         | false => exact absurd (.inr ⟨hk, he⟩) h3
theorem zRP {bs : List zO} {k id : Int} {R : Rs} (h : R.e = 6) : (zB9 bs k id R).2.e = 6 := by
 simp only [zB9, nS]
 exact zC5 (zAm (zAm (zAm (zAm (zAm (zAm h))))))
theorem zIl {bs : List zO} {k id : Int} {R : Rs} (h : R.e = 6) : (zA5 bs k id R).2.e = 6 := by
 unfold zA5
 split
 · exact zRP h
 · split
   · rw [zIa]; exact zK9 (zKQ h)
   · split
     · exact h
     · exact zDe h
theorem zOW {bs : List zO} {r : zAA} (hw : r.wf) (hc : zAb r = 0) : zC8 bs (zD1 r) (zA5 bs r.k r.id) r := by
 obtain ⟨h1, h2, h3, h4, h5, h6⟩ := zEf hc
 by_cases hk1 : r.k = 1
 · have : zA5 bs r.k r.id = zA2 bs r.k r.id := by funext R; exact zIE hk1
   rw [this, zD1, if_pos hk1]
   exact zOG hw (h5 hk1)
 · by_cases hk2 : r.k = 2
   · have : zA5 bs r.k r.id = fun R => (r, R) := by
       funext R
       rw [zHs hk2]
       exact congrArg (·, R) (zOc (h6 hk2)).symm
     rw [this, zD1, if_neg hk1, if_pos hk2]
     exact zC8.pure r
   · have : zA5 bs r.k r.id = zB9 bs r.k r.id := by funext R; exact zGb (by omega)
     rw [this, zD1, if_neg hk1, if_neg hk2]
     exact zPm hw
theorem zGq {r : zAA} {last : Int} (h : zAx r last = 0) : zAb r = 0 ∧ -1 ≤ last ∧ last ≤ 65535 ∧ last < r.id := by
 unfold zAx at h
 split at h
 · omega
 · split at h
   · cases h
   · split at h
     · cases h
     · omega
theorem zPd {bs : List zO} {r : zAA} {last : Int} (hw : r.wf) (he : zAx r last = 0) : zC8 bs (zCa r last) (zEJ bs last) r := by
 obtain ⟨hc, h1, h2, h3⟩ := zGq he
 obtain ⟨c1, c2, c3, c4, _, _⟩ := zEf hc
 have hX : (((BitVec.ofInt 64 (r.id - last - 1)).toNat : Nat) : Int) = r.id - last - 1 := zD7 (by omega) (by omega)
 have hL : (((BitVec.ofInt 64 (65534 - last)).toNat : Nat) : Int) = 65534 - last := zD7 (by omega) (by omega)
 have hk : (((BitVec.ofInt 8 r.k).toNat : Nat) : Int) = r.k := by rw [BitVec.toNat_ofInt]; omega
 rw [zCa, if_neg (by omega), zAR, List.append_assoc]
 have q2 := zOW (bs := bs) hw hc
 have e2 : zA5 bs r.k r.id = (fun (x : zO) R => zA5 bs (((x.toNat : Nat) : Int)) (last + 1 + (((BitVec.ofInt 64 (r.id - last - 1)).toNat : Nat) : Int)) R) (BitVec.ofInt 8 r.k) := by
   funext R
   dsimp only
   rw [hk, hX, show last + 1 + (r.id - last - 1) = r.id by omega]
 rw [e2] at q2
 have q1 := (zGG (bs := bs) (c := BitVec.ofInt 8 r.k)).bind (g := fun (x : zO) R => zA5 bs ((x.toNat : Nat) : Int) (last + 1 + (((BitVec.ofInt 64 (r.id - last - 1)).toNat : Nat) : Int)) R) (fun x R h => zIl h) q2
 have q0 := (zCU (bs := bs) (X := BitVec.ofInt 64 (r.id - last - 1)) (L := BitVec.ofInt 64 (65534 - last)) (by omega)).bind
   (g := fun X R => zA5 bs (((zG bs R).1.toNat : Nat) : Int) (last + 1 + ((X.toNat : Nat) : Int)) (zG bs R).2) (fun x R h => zIl (zKQ h)) q1
 exact q0
theorem zXz {bs rest : List zO} {r : zAA} {last : Int} {p n : Nat} (hw : r.wf) (he : zAx r last = 0) (hp : p ≤ bs.length) (hd : bs.drop p = (zCa r last ++ rest).take n) :
   ((zCa r last).length ≤ n → zAC bs last ⟨p, 0⟩ = (r, 0, ⟨p + (zCa r last).length, 0⟩)) ∧ (n < (zCa r last).length → (zAC bs last ⟨p, 0⟩).1 = zOl ∧ (zAC bs last ⟨p, 0⟩).2.1 = 6) := by
 have ht := zPd (bs := bs) hw he
 obtain ⟨hc, h1, h2, h3⟩ := zGq he
 obtain ⟨c1, c2, c3, c4, _, _⟩ := zEf hc
 refine ⟨fun hn => ?_, fun hn => ?_⟩
 · exact zEx (by omega) (by omega) (ht.good ⟨p, 0⟩ n rest rfl hp hd hn) rfl
 · have h6 := ht.short ⟨p, 0⟩ n rest rfl hp hd hn
   rw [zDm (rr := (zEJ bs last ⟨p, 0⟩).1) (RR := (zEJ bs last ⟨p, 0⟩).2) (by omega) (by omega) rfl (by omega)]
   exact ⟨rfl, h6⟩
theorem zXh {bs rest : List zO} {r : zAA} {last : Int} {p : Nat} (hw : r.wf) (he : zAx r last = 0) (hp : p ≤ bs.length) (hd : bs.drop p = zCa r last ++ rest) : zAC bs last ⟨p, 0⟩ = (r, 0, ⟨p + (zCa r last).length, 0⟩) :=
 (zXz (n := (zCa r last ++ rest).length) hw he hp (by rw [List.take_length]; exact hd)).1 (by simp)
/-! ### The other way about -/
end Go.Sx

set_option linter.unusedVariables false
set_option linter.unusedSimpArgs false
namespace Go.Sx
theorem zI0 {bs : List zO} {R : Rs} (i : Nat) : -9223372036854775808 ≤ nX bs R i ∧ nX bs R i ≤ 9223372036854775807 := by
 unfold nX zY
 exact zFt _
theorem zTN {bs : List zO} {k id : Int} {R : Rs} (hk : -9223372036854775808 ≤ k ∧ k ≤ 9223372036854775807) (hi : -9223372036854775808 ≤ id ∧ id ≤ 9223372036854775807) : (zB9 bs k id R).1.wf := by
 unfold zB9
 dsimp only
 exact ⟨hk, hi, zI0 (bs := bs) (R := R) 0, zI0 (bs := bs) (R := R) 1, zI0 (bs := bs) (R := R) 2, zI0 (bs := bs) (R := R) 3, zI0 (bs := bs) (R := R) 4, zI0 (bs := bs) (R := R) 5⟩
theorem zGa {bs : List zO} {m : BitVec 8} {R : Rs} (i : Nat) : -9223372036854775808 ≤ upX bs m R i ∧ upX bs m R i ≤ 9223372036854775807 := by
 unfold upX upI
 split
 · unfold zY
   exact zFt _
 · show -9223372036854775808 ≤ (0 : Int) ∧ (0 : Int) ≤ 9223372036854775807
   decide
theorem zQz {bs : List zO} {k id : Int} {R : Rs} (hk : -9223372036854775808 ≤ k ∧ k ≤ 9223372036854775807) (hi : -9223372036854775808 ≤ id ∧ id ≤ 9223372036854775807) : (zA2 bs k id R).1.wf := by
 have hz : -9223372036854775808 ≤ (0 : Int) ∧ (0 : Int) ≤ 9223372036854775807 := by decide
 unfold zA2
 dsimp only
 split
 · exact ⟨hk, hi, hz, hz, hz, hz, hz, hz⟩
 · exact ⟨hk, hi, zGa 0, zGa 1, zGa 2, zGa 3, zGa 4, zGa 5⟩
theorem zQH {bs : List zO} {k id : Int} {R : Rs} (hk : -9223372036854775808 ≤ k ∧ k ≤ 9223372036854775807) (hi : -9223372036854775808 ≤ id ∧ id ≤ 9223372036854775807) : (zA5 bs k id R).1.wf ∧ (zA5 bs k id R).1.k = k ∧ (zA5 bs k id R).1.id = id := by
 have hz : -9223372036854775808 ≤ (0 : Int) ∧ (0 : Int) ≤ 9223372036854775807 := by decide
 unfold zA5
 split
 · exact ⟨zTN hk hi, rfl, rfl⟩
 · split
   · refine ⟨zQz hk hi, ?_, ?_⟩ <;> (unfold zA2; dsimp only; split <;> rfl)
   · split <;> exact ⟨⟨hk, hi, hz, hz, hz, hz, hz, hz⟩, rfl, rfl⟩
theorem zL2 : zOl.wf := ⟨by decide, by decide, by decide, by decide, by decide, by decide, by decide, by decide⟩
theorem zUd {bs : List zO} {last : Int} {R : Rs} (hp : R.p ≤ bs.length) : (zAC bs last R).1.wf := by
 unfold zAC
 split
 · exact zL2
 · split
   · exact zL2
   · split
     · exact zL2
     · rename_i h1 h2 h3
       have h4 := zRQ (bs := bs) (last := last) hp (by omega) (by omega)
       have h5 := (zG bs (zOw bs last R).2).1.isLt
       exact (zQH (by omega) (by change _ ≤ last + 1 + (((zM bs (BitVec.ofInt 64 (65534 - last)) R).1.toNat : Nat) : Int) ∧ last + 1 + (((zM bs (BitVec.ofInt 64 (65534 - last)) R).1.toNat : Nat) : Int) ≤ _; omega)).1
end Go.Sx
