import Derived.Test.YtemnjodhidlfpaaGreatQSxBasA
import Derived.Test.YtemnjodhidlfpaaGreatQSxBasB
/- Texts of the small logic, one behind the other: SxPvar, SxPrd, SxPrec, SxPrecR, SxPent, SxRrd, SxPrecL, SxPrecM, SxPrecB. -/
set_option linter.unusedVariables false
set_option linter.unusedSimpArgs false
namespace Go.Sx

def zAj (x : Nat) : Nat := if x = 0 then 0 else Nat.log2 x + 1
theorem zDD {x k : Nat} (h : x < 2 ^ k) : zAj x ≤ k := by
 unfold zAj
 split
 · omega
 · rename_i h0
   have := (Nat.log2_lt h0).2 h
   omega
theorem zF6 {x k : Nat} (h : 2 ^ k ≤ x) : k < zAj x := by
 unfold zAj
 have h0 : x ≠ 0 := by have := Nat.two_pow_pos k; omega
 rw [if_neg h0]
 have := (Nat.le_log2 h0).2 h
 omega
theorem zKC {x k : Nat} (h1 : x < 2 ^ (k + 1)) (h2 : 2 ^ k ≤ x) : zAj x = k + 1 := by
 have := zDD h1
 have := zF6 h2
 omega
theorem zGq {x : Nat} (k : Nat) (h : 2 ^ k ≤ x) : zAj x = k + zAj (x / 2 ^ k) := by
 have hp := Nat.two_pow_pos k
 have hq : 1 ≤ x / 2 ^ k := (Nat.le_div_iff_mul_le hp).2 (by omega)
 have h0 : x / 2 ^ k ≠ 0 := by omega
 have hb : zAj (x / 2 ^ k) = Nat.log2 (x / 2 ^ k) + 1 := by unfold zAj; rw [if_neg h0]
 have l1 := Nat.log2_self_le h0
 have l2 := Nat.lt_log2_self (n := x / 2 ^ k)
 rw [hb]
 refine (zKC (k := k + Nat.log2 (x / 2 ^ k)) ?_ ?_).trans (by omega)
 · rw [Nat.add_assoc, Nat.pow_add]
   rw [Nat.mul_comm]
   exact (Nat.div_lt_iff_lt_mul hp).1 l2
 · rw [Nat.pow_add, Nat.mul_comm]
   exact (Nat.le_div_iff_mul_le hp).1 l1
def zFm : Nat → Nat → List zO
 | 0, x => [BitVec.ofNat 8 x]
 | k + 1, x => if x < 128 then [BitVec.ofNat 8 x] else BitVec.ofNat 8 (x % 128 + 128) :: zFm k (x / 128)
def zCI (x : Nat) : List zO := zFm 9 x
def zBP (x : Nat) : Nat := (zCI x).length
theorem zIe : ∀ (k j x : Nat), x < 128 ^ (k + 1) → zFm (k + j) x = zFm k x
 | 0, 0, x, _ => rfl
 | 0, j + 1, x, h => by rw [Nat.zero_add]; simp only [zFm]; rw [if_pos (by simpa using h)]
 | k + 1, j, x, h => by
   rw [show k + 1 + j = (k + j) + 1 by omega]
   simp only [zFm]
   by_cases hx : x < 128
   · rw [if_pos hx, if_pos hx]
   · rw [if_neg hx, if_neg hx, zIe k j (x / 128) (by rw [Nat.div_lt_iff_lt_mul (by omega)]; rw [Nat.pow_succ] at h; exact h)]
theorem zDf {x : Nat} (h : x < 128) : zCI x = [BitVec.ofNat 8 x] := by unfold zCI; simp only [zFm]; rw [if_pos h]
theorem zEN {x : Nat} (h : ¬ x < 128) (hx : x < 2 ^ 64) : zCI x = BitVec.ofNat 8 (x % 128 + 128) :: zCI (x / 128) := by
 unfold zCI
 rw [show (9 : Nat) = 8 + 1 by rfl]
 rw [show zFm (8 + 1) x = BitVec.ofNat 8 (x % 128 + 128) :: zFm 8 (x / 128) by simp only [zFm]; rw [if_neg h]]
 rw [zIe 8 1 (x / 128) (by rw [Nat.div_lt_iff_lt_mul (by omega)]; omega)]
theorem zMa : ∀ (k x : Nat), (zFm k x).length ≤ k + 1
 | 0, x => by simp [zFm]
 | k + 1, x => by
   simp only [zFm]
   split
   · simp
   · have := zMa k (x / 128)
     simp; omega
theorem zCq (x : Nat) : zBP x ≤ 10 := zMa 9 x
theorem zCv (x : Nat) : 1 ≤ zBP x := by
 unfold zBP zCI
 simp only [zFm]
 split <;> simp
theorem zDj {x : Nat} (h : x < 128) : zBP x = 1 := by unfold zBP; rw [zDf h]; rfl
theorem zCc {x : Nat} (h : ¬ x < 128) (hx : x < 2 ^ 64) : zBP x = zBP (x / 128) + 1 := by unfold zBP; rw [zEN h hx]; simp
theorem zLC {x : Nat} (h : x < 128) : zAj x ≤ 7 := zDD (k := 7) h
theorem zVP : ∀ (d x : Nat), x < 2 ^ 64 → x ≤ d → zBP x = (max 1 (zAj x) + 6) / 7 := by
 intro d
 induction d using Nat.strongRecOn with
 | _ d ih =>
   intro x hx hd
   by_cases h : x < 128
   · rw [zDj h]
     have := zLC h
     omega
   · have h2 := zGq (x := x) 7 (by omega)
     rw [show (2 : Nat) ^ 7 = 128 by rfl] at h2
     have h3 : 1 ≤ zAj (x / 128) := zF6 (k := 0) (by omega)
     rw [zCc h hx, ih (x / 128) (by omega) (x / 128) (by omega) (Nat.le_refl _), h2]
     omega
theorem zS3 (X : BitVec 64) : (max 1 ((zAj X.toNat : Nat) : Int) + 7 - 1) / 7 = ((zBP X.toNat : Nat) : Int) := by
 rw [zVP X.toNat X.toNat X.isLt (Nat.le_refl _)]
 omega
def zLY (X : BitVec 64) (m : Nat) : Nat → List zO
 | 0 => List.replicate m 0#8
 | k + 1 => (zLY X m k).set k ((X >>> (7 * k)).setWidth 8 ||| 128#8)
theorem zC9 (X : BitVec 64) (m : Nat) : ∀ k, (zLY X m k).length = m
 | 0 => by simp [zLY]
 | k + 1 => by simp [zLY, zC9 X m k]
theorem zJQ (X : BitVec 64) (m : Nat) : ∀ (k i : Nat), i < k → i < m → (zLY X m k)[i]? = some ((X >>> (7 * i)).setWidth 8 ||| 128#8)
 | 0, i, h, _ => by omega
 | k + 1, i, h, hm => by
   simp only [zLY]
   by_cases e : k = i
   · subst e
     rw [List.getElem?_set_self (by rw [zC9]; exact hm)]
   · rw [List.getElem?_set_ne e]
     exact zJQ X m k i (by omega) hm
theorem zUw (c : zO) : (c ||| 128#8).toNat = c.toNat % 128 + 128 := by
 have : ∀ c : BitVec 8, (c ||| 128#8).toNat = c.toNat % 128 + 128 := by decide +kernel
 exact this c
theorem zLh (c : zO) : (c &&& ~~~128#8).toNat = c.toNat % 128 := by
 have : ∀ c : BitVec 8, (c &&& ~~~128#8).toNat = c.toNat % 128 := by decide +kernel
 exact this c
theorem zGj (X : BitVec 64) (i : Nat) : ((X >>> (7 * i)).setWidth 8).toNat = X.toNat / 2 ^ (7 * i) % 256 := by
 rw [BitVec.toNat_setWidth, BitVec.toNat_ushiftRight, Nat.shiftRight_eq_div_pow]
theorem zJl : ∀ (n i x : Nat), zBP x = n → x < 2 ^ 64 → i < n → (zCI x)[i]? = some (if i + 1 = n then BitVec.ofNat 8 (x / 128 ^ i) else BitVec.ofNat 8 (x / 128 ^ i % 128 + 128)) := by
 intro n
 induction n with
 | zero => intro i x _ _ h; omega
 | succ n ih =>
   intro i x hn hx hi
   by_cases h : x < 128
   · have h1 := zDj h
     have : n = 0 := by omega
     subst this
     have : i = 0 := by omega
     subst this
     rw [zDf h]
     simp
   · have h1 := zCc h hx
     have hpos := zCv (x / 128)
     rw [zEN h hx]
     cases i with
     | zero =>
       rw [if_neg (by omega)]
       simp
     | succ i =>
       rw [List.getElem?_cons_succ, ih i (x / 128) (by omega) (by omega) (by omega)]
       rw [Nat.div_div_eq_div_mul, show 128 * 128 ^ i = 128 ^ (i + 1) by rw [Nat.pow_succ, Nat.mul_comm]]
       by_cases e : i + 1 = n
       · rw [if_pos e, if_pos (by omega)]
       · rw [if_neg e, if_neg (by omega)]
theorem zaW (i : Nat) : (2 : Nat) ^ (7 * i) = 128 ^ i := by rw [Nat.pow_mul]
theorem zNH (n x : Nat) (hn : zBP x = n + 1) (hx : x < 2 ^ 64) : x / 128 ^ n < 128 := by
 induction n generalizing x with
 | zero =>
   by_cases h : x < 128
   · simpa using h
   · have := zCc h hx; have := zCv (x / 128); omega
 | succ n ih =>
   by_cases h : x < 128
   · have := zDj h; omega
   · have := zCc h hx
     have := ih (x / 128) (by omega) (by omega)
     rwa [Nat.div_div_eq_div_mul, show 128 * 128 ^ n = 128 ^ (n + 1) by rw [Nat.pow_succ, Nat.mul_comm]] at this
theorem zY6 (X : BitVec 64) (m : Nat) (hm : zBP X.toNat = m) : (zLY X m m).set (m - 1) ((zLY X m m).getD (m - 1) 0 &&& ~~~128#8) = zCI X.toNat := by
 have hpos := zCv X.toNat
 have hlen : (zCI X.toNat).length = m := hm
 apply List.ext_getElem?
 intro i
 by_cases hi : i < m
 · rw [zJl m i X.toNat hm X.isLt hi]
   by_cases e : m - 1 = i
   · subst e
     rw [List.getElem?_set_self (by rw [zC9]; exact hi), if_pos (by omega)]
     have hg := zJQ X m m (m - 1) (by omega) hi
     have ht := zNH (m - 1) X.toNat (by omega) X.isLt
     congr 1
     apply BitVec.eq_of_toNat_eq
     rw [zLh, List.getD_eq_getElem?_getD, hg, Option.getD_some, zUw, zGj, zaW, BitVec.toNat_ofNat]
     generalize X.toNat / 128 ^ (m - 1) = q at *
     omega
   · rw [List.getElem?_set_ne e, zJQ X m m i hi hi, if_neg (by omega)]
     congr 1
     apply BitVec.eq_of_toNat_eq
     rw [zUw, zGj, zaW, BitVec.toNat_ofNat]
     omega
 · rw [List.getElem?_eq_none (by rw [List.length_set, zC9]; omega), List.getElem?_eq_none (by omega)]
theorem zVR : ∀ (n x : Nat), 1 ≤ n → x < 2 ^ 64 → x < 128 ^ n → zBP x ≤ n := by
 intro n
 induction n with
 | zero => intro x h; omega
 | succ n ih =>
   intro x h1 hx h
   by_cases hs : x < 128
   · rw [zDj hs]; omega
   · have h2 := zCc hs hx
     cases n with
     | zero => simp at h; omega
     | succ n =>
       have := ih (x / 128) (by omega) (by omega) (by rw [Nat.div_lt_iff_lt_mul (by omega)]; rw [Nat.pow_succ] at h; exact h)
       omega
/-! ### What is got -/
def zEi : List zO → Nat
 | [] => 0
 | c :: l => c.toNat % 128 + 128 * zEi l
def zAy : Nat → List zO → Nat
 | 0, _ => 0
 | _, [] => 0
 | k + 1, c :: l => if 128 ≤ c.toNat then zAy k l + 1 else 0
def zCG (b : List zO) : BitVec 64 × Nat × Nat :=
 if b.length = 0 then (0#64, 0, 5) else if zAy 10 b = 10 then (0#64, 0, 8) else if zAy 10 b = b.length then (0#64, 0, 6)
 else if zAy 10 b = 9 ∧ 1 < (b.getD (zAy 10 b) 0).toNat then (0#64, 0, 8)
 else if (b.getD (zAy 10 b) 0).toNat = 0 ∧ 0 < zAy 10 b then (0#64, 0, 7)
 else (BitVec.ofNat 64 (zEi (b.take (zAy 10 b + 1))), zAy 10 b + 1, 0)
theorem zFy : ∀ (k : Nat) (b : List zO), zAy k b ≤ k ∧ zAy k b ≤ b.length
 | 0, b => by simp [zAy]
 | k + 1, [] => by simp [zAy]
 | k + 1, c :: l => by
   have := zFy k l
   simp only [zAy]
   split
   · simp; omega
   · simp
theorem zE4 : ∀ (k i : Nat) (b : List zO), i ≤ zAy k b → i < k → i < b.length → 128 ≤ (b.getD i 0).toNat → i + 1 ≤ zAy k b
 | 0, i, b, _, h, _, _ => by omega
 | k + 1, i, [], _, _, h, _ => by simp at h
 | k + 1, 0, c :: l, _, _, _, h => by
   simp only [zAy]
   rw [if_pos (by simpa using h)]
   omega
 | k + 1, i + 1, c :: l, h1, h2, h3, h4 => by
   simp only [zAy] at *
   split at h1
   · rename_i hc
     rw [if_pos hc]
     have := zE4 k i l (by omega) (by omega) (by simpa using h3) (by simpa using h4)
     omega
   · omega
theorem zEv : ∀ (k i : Nat) (b : List zO), i ≤ zAy k b → i < b.length → (b.getD i 0).toNat < 128 → zAy k b = i
 | 0, i, b, h, _, _ => by simp only [zAy] at *; omega
 | k + 1, i, [], _, h, _ => by simp at h
 | k + 1, 0, c :: l, _, _, h => by
   simp only [zAy]
   rw [if_neg (by have : c.toNat < 128 := (by simpa using h); omega)]
 | k + 1, i + 1, c :: l, h1, h3, h4 => by
   simp only [zAy] at *
   split at h1
   · rename_i hc
     rw [if_pos hc, zEv k i l (by omega) (by simpa using h3) (by simpa using h4)]
   · omega
theorem zJS : ∀ (b : List zO), zEi b < 128 ^ b.length
 | [] => by simp [zEi]
 | c :: l => by
   have := zJS l
   simp only [zEi, List.length_cons, Nat.pow_succ]
   omega
theorem zID : ∀ (b c : List zO), zEi (b ++ c) = zEi b + 128 ^ b.length * zEi c
 | [], c => by simp [zEi]
 | x :: l, c => by
   simp only [zEi, List.cons_append, zID l c, List.length_cons, Nat.pow_succ]
   rw [Nat.mul_add, Nat.mul_comm (128 ^ l.length) 128, Nat.mul_assoc]
   omega
theorem zKy (b : List zO) (i : Nat) (h : i < b.length) : zEi (b.take (i + 1)) = zEi (b.take i) + 128 ^ i * ((b.getD i 0).toNat % 128) := by
 rw [List.take_add_one, zID]
 have : b[i]?.toList = [b.getD i 0] := by simp [h, List.getD_eq_getElem?_getD]
 rw [this, List.length_take, Nat.min_eq_left (by omega)]
 simp [zEi]
theorem zGw (b : List zO) (i : Nat) (h : i < b.length) (h9 : i ≤ 9) :
   BitVec.ofNat 64 (zEi (b.take i)) ||| ((b.getD i 0 &&& ~~~128#8).setWidth 64) <<< (7 * i) = BitVec.ofNat 64 (zEi (b.take (i + 1))) := by
 have hl := zJS (b.take i)
 rw [List.length_take, Nat.min_eq_left (by omega)] at hl
 have hp : 128 ^ i ≤ 128 ^ 9 := Nat.pow_le_pow_right (by omega) h9
 have hp2 : (128 : Nat) ^ 9 < 2 ^ 64 := by decide
 have hc : (b.getD i 0).toNat % 128 < 128 := Nat.mod_lt _ (by omega)
 rw [zKy b i h]
 apply BitVec.eq_of_toNat_eq
 rw [BitVec.toNat_or, BitVec.toNat_shiftLeft, BitVec.toNat_setWidth, zLh, BitVec.toNat_ofNat, BitVec.toNat_ofNat]
 rw [Nat.mod_eq_of_lt (by omega : (b.getD i 0).toNat % 128 < 2 ^ 64), Nat.mod_eq_of_lt (by omega : zEi (b.take i) < 2 ^ 64)]
 rw [Nat.or_comm, ← zaW] at *
 have e : 2 ^ (7 * i) * ((b.getD i 0).toNat % 128) + zEi (b.take i) = ((b.getD i 0).toNat % 128) <<< (7 * i) ||| zEi (b.take i) := by
   rw [← Nat.shiftLeft_add_eq_or_of_lt hl, Nat.shiftLeft_eq, Nat.mul_comm]
 rw [Nat.add_comm, e, Nat.or_mod_two_pow, Nat.mod_eq_of_lt (by omega : zEi (b.take i) < 2 ^ 64)]
theorem zZQ (c : zO) (i : Nat) (h9 : i ≤ 9) : ((((c &&& ~~~128#8).setWidth 64) <<< (7 * i)) >>> (7 * i) = (c &&& ~~~128#8).setWidth 64) ↔ ¬ (i = 9 ∧ 1 < c.toNat % 128) := by
 have hc : c.toNat % 128 < 128 := Nat.mod_lt _ (by omega)
 rw [← BitVec.toNat_inj]
 rw [BitVec.toNat_ushiftRight, BitVec.toNat_shiftLeft, BitVec.toNat_setWidth, zLh, Nat.shiftLeft_eq, Nat.shiftRight_eq_div_pow, Nat.mod_eq_of_lt (by omega : c.toNat % 128 < 2 ^ 64)]
 generalize c.toNat % 128 = q at *
 by_cases e : i = 9
 · subst e
   rw [show (7 * 9) = 63 by rfl]
   omega
 · have h1 : q * 2 ^ (7 * i) < 2 ^ 64 := by
     have : 2 ^ (7 * i) ≤ 2 ^ (7 * 8) := Nat.pow_le_pow_right (by omega) (by omega)
     rw [show 7 * 8 = 56 by rfl] at this
     have : q * 2 ^ (7 * i) ≤ 127 * 2 ^ 56 := Nat.mul_le_mul (by omega) this
     omega
   rw [Nat.mod_eq_of_lt h1, Nat.mul_div_cancel _ (Nat.two_pow_pos _)]
   simp [e]
theorem zCB {b : List zO} (h : b.length = 0) : zCG b = (0#64, 0, 5) := by unfold zCG; rw [if_pos h]
theorem zBs {b : List zO} {i : Nat} (h1 : i ≤ zAy 10 b) (hi : i < b.length) (h9 : i ≤ 9) (hc : (b.getD i 0).toNat < 128) (ho : ¬ ((((b.getD i 0 &&& ~~~128#8).setWidth 64) <<< (7 * i)) >>> (7 * i) = (b.getD i 0 &&& ~~~128#8).setWidth 64)) : zCG b = (0#64, 0, 8) := by
 rw [zZQ _ _ h9] at ho
 have hn := zEv 10 i b h1 hi hc
 unfold zCG
 rw [if_neg (by omega), hn, if_neg (by omega), if_neg (by omega), if_pos (by omega)]
theorem zBq {b : List zO} {i : Nat} (h1 : i ≤ zAy 10 b) (hi : i < b.length) (h9 : i ≤ 9) (hi0 : 0 < i) (h0 : (b.getD i 0).toNat = 0) : zCG b = (0#64, 0, 7) := by
 have hn := zEv 10 i b h1 hi (by omega)
 unfold zCG
 rw [if_neg (by omega), hn, if_neg (by omega), if_neg (by omega), if_neg (by omega), if_pos (by omega)]
theorem zCX {b : List zO} {i : Nat} (h1 : i ≤ zAy 10 b) (hi : i < b.length) (h9 : i ≤ 9) (hc : (b.getD i 0).toNat < 128) (hov : (((b.getD i 0 &&& ~~~128#8).setWidth 64) <<< (7 * i)) >>> (7 * i) = (b.getD i 0 &&& ~~~128#8).setWidth 64) (h0 : ¬ ((b.getD i 0).toNat = 0 ∧ 0 < i)) : zCG b = (BitVec.ofNat 64 (zEi (b.take (i + 1))), i + 1, 0) := by
 rw [zZQ _ _ h9] at hov
 have hn := zEv 10 i b h1 hi hc
 unfold zCG
 rw [if_neg (by omega), hn, if_neg (by omega), if_neg (by omega), if_neg (by omega), if_neg (by omega)]
theorem zBr {b : List zO} (h1 : 10 ≤ zAy 10 b) : zCG b = (0#64, 0, 8) := by
 have := zFy 10 b
 unfold zCG
 rw [if_neg (by omega), if_pos (by omega)]
theorem zBG {b : List zO} (h0 : 0 < b.length) (h1 : b.length ≤ zAy 10 b) (hl : b.length < 10) : zCG b = (0#64, 0, 6) := by
 have := zFy 10 b
 unfold zCG
 rw [if_neg (by omega), if_neg (by omega), if_pos (by omega)]
/-! ### The document's own way -/
/-! ### There and back -/
theorem zQV : ∀ (n k x : Nat) (r : List zO), zBP x = n + 1 → x < 2 ^ 64 → n ≤ k → (n < k ∨ r = []) → zAy k (zCI x ++ r) = n := by
 intro n
 induction n with
 | zero =>
   intro k x r hn hx hk hr
   have h : x < 128 := by
     apply Classical.byContradiction
     intro h
     have := zCc h hx; have := zCv (x / 128); omega
   rw [zDf h]
   cases k with
   | zero => rfl
   | succ k =>
     simp only [List.singleton_append, zAy]
     rw [if_neg]
     rw [BitVec.toNat_ofNat]
     omega
 | succ n ih =>
   intro k x r hn hx hk hr
   have h : ¬ x < 128 := by intro h; have := zDj h; omega
   have h1 := zCc h hx
   rw [zEN h hx]
   cases k with
   | zero => omega
   | succ k =>
     simp only [List.cons_append, zAy]
     rw [if_pos (by rw [BitVec.toNat_ofNat]; omega), ih k (x / 128) r (by omega) (by omega) (by omega) (hr.imp (by omega) id)]
theorem zT1 : ∀ (n x : Nat), zBP x = n → x < 2 ^ 64 → zEi (zCI x) = x := by
 intro n
 induction n with
 | zero => intro x hn; have := zCv x; omega
 | succ n ih =>
   intro x hn hx
   by_cases h : x < 128
   · rw [zDf h]
     simp only [zEi, BitVec.toNat_ofNat]
     omega
   · have h1 := zCc h hx
     rw [zEN h hx]
     simp only [zEi, BitVec.toNat_ofNat]
     rw [ih (x / 128) (by omega) (by omega)]
     omega
theorem zTR (X : BitVec 64) (r : List zO) : zCG (zCI X.toNat ++ r) = (X, zBP X.toNat, 0) := by
 have hx := X.isLt
 have hp := zCv X.toNat
 have hle := zCq X.toNat
 have hl : (zCI X.toNat).length = zBP X.toNat := rfl
 have hn := zQV (zBP X.toNat - 1) 10 X.toNat r (by omega) hx (by omega) (by omega)
 have ht := zNH (zBP X.toNat - 1) X.toNat (by omega) hx
 have hg := zJl (zBP X.toNat) (zBP X.toNat - 1) X.toNat rfl hx (by omega)
 rw [if_pos (by omega)] at hg
 have hd : (zCI X.toNat ++ r).getD (zBP X.toNat - 1) 0 = BitVec.ofNat 8 (X.toNat / 128 ^ (zBP X.toNat - 1)) := by
   rw [List.getD_eq_getElem?_getD, List.getElem?_append_left (by omega), hg]
   rfl
 have hdn : ((zCI X.toNat ++ r).getD (zBP X.toNat - 1) 0).toNat = X.toNat / 128 ^ (zBP X.toNat - 1) := by
   rw [hd, BitVec.toNat_ofNat]
   generalize X.toNat / 128 ^ (zBP X.toNat - 1) = q at *
   omega
 have h9 : zBP X.toNat - 1 = 9 → ¬ 1 < X.toNat / 128 ^ (zBP X.toNat - 1) := by
   intro e
   rw [e, show (128 : Nat) ^ 9 = 9223372036854775808 by rfl]
   omega
 have h0 : 0 < zBP X.toNat - 1 → ¬ X.toNat / 128 ^ (zBP X.toNat - 1) = 0 := by
   intro h0 e
   have := Nat.div_eq_zero_iff.1 e
   rcases this with h | h
   · have := Nat.pos_of_ne_zero (n := 128 ^ (zBP X.toNat - 1)) (by intro h; have := Nat.pow_eq_zero.1 h; omega); omega
   · have := zVR (zBP X.toNat - 1) X.toNat (by omega) hx h
     omega
 unfold zCG
 have hla : (zCI X.toNat ++ r).length = zBP X.toNat + r.length := by rw [List.length_append, hl]
 rw [if_neg (by omega), hn, if_neg (by omega), if_neg (by omega), hdn, if_neg (fun h => h9 h.1 h.2), if_neg (fun h => h0 h.2 h.1), show zBP X.toNat - 1 + 1 = zBP X.toNat by omega]
 rw [← hl, List.take_left', zT1 _ _ rfl hx]
 · simp
 · rfl
theorem zRK (X : BitVec 64) (i : Nat) (h1 : 1 ≤ i) (h2 : i < zBP X.toNat) : zCG ((zCI X.toNat).take i) = (0#64, 0, 6) := by
 have hle := zCq X.toNat
 have hl : (zCI X.toNat).length = zBP X.toNat := rfl
 refine zBG (by simp; omega) ?_ (by simp; omega)
 have : ∀ j, j ≤ i → j ≤ zAy 10 ((zCI X.toNat).take i) := by
   intro j
   induction j with
   | zero => intro _; omega
   | succ j ih =>
     intro hj
     refine zE4 10 j _ (ih (by omega)) (by omega) (by simp; omega) ?_
     have hg := zJl (zBP X.toNat) j X.toNat rfl X.isLt (by omega)
     rw [if_neg (by omega)] at hg
     rw [List.getD_eq_getElem?_getD, List.getElem?_take_of_lt (by omega), hg, Option.getD_some, BitVec.toNat_ofNat]
     omega
 have := this i (Nat.le_refl _)
 simp; omega
theorem zT0 : ∀ (n : Nat) (b : List zO), n < b.length → (∀ j, j < n → 128 ≤ (b.getD j 0).toNat) → (b.getD n 0).toNat < 128 → ¬ ((b.getD n 0).toNat = 0 ∧ 0 < n) → zEi (b.take (n + 1)) < 2 ^ 64 → zCI (zEi (b.take (n + 1))) = b.take (n + 1) ∧ ((b.getD n 0).toNat ≠ 0 → zEi (b.take (n + 1)) ≠ 0) := by
 intro n
 induction n with
 | zero =>
   intro b hb _ hc _ _
   cases b with
   | nil => simp at hb
   | cons c l =>
     have hc' : c.toNat < 128 := by simpa using hc
     simp only [Nat.zero_add, List.take_succ_cons, List.take_zero, zEi, Nat.mul_zero, Nat.add_zero]
     rw [Nat.mod_eq_of_lt hc', zDf hc']
     simp
 | succ n ih =>
   intro b hb hj hc h0 hv
   cases b with
   | nil => simp at hb
   | cons c l =>
     have hc0 : 128 ≤ c.toNat := by simpa using hj 0 (by omega)
     simp only [List.take_succ_cons, zEi] at hv ⊢
     simp only [List.getD_cons_succ] at hc h0
     have := ih l (by simpa using hb) (fun j h => by simpa using hj (j + 1) (by omega)) hc (by omega) (by omega)
     have hnz := this.2 (by omega)
     refine ⟨?_, fun _ => by omega⟩
     rw [zEN (by omega) hv]
     congr 1
     · apply BitVec.eq_of_toNat_eq
       have := c.isLt
       rw [BitVec.toNat_ofNat]
       omega
     · rw [show (c.toNat % 128 + 128 * zEi (l.take (n + 1))) / 128 = zEi (l.take (n + 1)) by omega]
       exact this.1
theorem zKX : ∀ (k : Nat) (b : List zO) (j : Nat), j < zAy k b → 128 ≤ (b.getD j 0).toNat
 | 0, b, j, h => by simp [zAy] at h
 | k + 1, [], j, h => by simp [zAy] at h
 | k + 1, c :: l, j, h => by
   simp only [zAy] at h
   split at h
   · cases j with
     | zero => simpa
     | succ j => simpa using zKX k l j (by omega)
   · omega
theorem zIm : ∀ (k : Nat) (b : List zO), zAy k b < k → zAy k b < b.length → (b.getD (zAy k b) 0).toNat < 128
 | 0, b, h, _ => by omega
 | k + 1, [], _, h => by simp at h
 | k + 1, c :: l, h1, h2 => by
   simp only [zAy] at *
   split
   · rename_i hc
     rw [if_pos hc] at h1 h2
     simpa using zIm k l (by omega) (by simpa using h2)
   · simp; omega
theorem zJp {b : List zO} {z : BitVec 64} {k : Nat} (h : zCG b = (z, k, 0)) : 1 ≤ k ∧ k ≤ b.length ∧ zCI z.toNat = b.take k := by
 have hle := zFy 10 b
 unfold zCG at h
 split at h
 · simp at h
 split at h
 · simp at h
 split at h
 · simp at h
 split at h
 · simp at h
 split at h
 · simp at h
 rename_i h1 h2 h3 h4 h5
 simp only [Prod.mk.injEq] at h
 obtain ⟨rfl, rfl, _⟩ := h
 have hn := zIm 10 b (by omega) (by omega)
 have hv : zEi (b.take (zAy 10 b + 1)) < 2 ^ 64 := by
   by_cases e : zAy 10 b = 9
   · rw [zKy b _ (by omega)]
     have := zJS (b.take (zAy 10 b))
     rw [List.length_take, Nat.min_eq_left (by omega)] at this
     rw [e] at this hn h4 ⊢
     rw [show (128 : Nat) ^ 9 = 9223372036854775808 by rfl] at *
     omega
   · have := zJS (b.take (zAy 10 b + 1))
     rw [List.length_take, Nat.min_eq_left (by omega)] at this
     have : (128 : Nat) ^ (zAy 10 b + 1) ≤ 128 ^ 9 := Nat.pow_le_pow_right (by omega) (by omega)
     rw [show (128 : Nat) ^ 9 = 9223372036854775808 by rfl] at this
     omega
 refine ⟨by omega, by omega, ?_⟩
 rw [BitVec.toNat_ofNat, Nat.mod_eq_of_lt hv]
 exact (zT0 (zAy 10 b) b (by omega) (fun j hj => zKX 10 b j hj) hn h5 hv).1

/-! ### How long a number is -/
def zV9 : ByteArray := (ByteArray.mk (List.toArray (List.append (List.append [0, 1, 2, 2, 3, 3, 3, 3, 4, 4, 4, 4, 4, 4, 4, 4, 5, 5, 5, 5, 5, 5, 5, 5, 5, 5, 5, 5, 5, 5, 5, 5, 6, 6, 6, 6, 6, 6, 6, 6, 6, 6, 6, 6, 6, 6, 6, 6, 6, 6, 6, 6, 6, 6, 6, 6, 6, 6, 6, 6, 6, 6, 6, 6] [7, 7, 7, 7, 7, 7, 7, 7, 7, 7, 7, 7, 7, 7, 7, 7, 7, 7, 7, 7, 7, 7, 7, 7, 7, 7, 7, 7, 7, 7, 7, 7, 7, 7, 7, 7, 7, 7, 7, 7, 7, 7, 7, 7, 7, 7, 7, 7, 7, 7, 7, 7, 7, 7, 7, 7, 7, 7, 7, 7, 7, 7, 7, 7]) (List.append [8, 8, 8, 8, 8, 8, 8, 8, 8, 8, 8, 8, 8, 8, 8, 8, 8, 8, 8, 8, 8, 8, 8, 8, 8, 8, 8, 8, 8, 8, 8, 8, 8, 8, 8, 8, 8, 8, 8, 8, 8, 8, 8, 8, 8, 8, 8, 8, 8, 8, 8, 8, 8, 8, 8, 8, 8, 8, 8, 8, 8, 8, 8, 8] [8, 8, 8, 8, 8, 8, 8, 8, 8, 8, 8, 8, 8, 8, 8, 8, 8, 8, 8, 8, 8, 8, 8, 8, 8, 8, 8, 8, 8, 8, 8, 8, 8, 8, 8, 8, 8, 8, 8, 8, 8, 8, 8, 8, 8, 8, 8, 8, 8, 8, 8, 8, 8, 8, 8, 8, 8, 8, 8, 8, 8, 8, 8, 8]))))
theorem zDQ : ∀ Y : BitVec 8, zV9[Y.toNat]? = some (UInt8.ofBitVec (BitVec.ofNat 8 (zAj Y.toNat))) := by decide +kernel
theorem zV1 (Y : BitVec 64) (k : Nat) (h : 2 ^ k ≤ Y.toNat) : zAj Y.toNat = k + zAj (Y >>> k).toNat := by
 rw [BitVec.toNat_ushiftRight, Nat.shiftRight_eq_div_pow]
 exact zGq k h
theorem zU3 (Y : BitVec 64) (h : Y.toNat < 256) : (BitVec.ofNat 8 (zAj (Y.setWidth 8).toNat)).toNat = zAj Y.toNat := by
 rw [BitVec.toNat_setWidth, Nat.mod_eq_of_lt (by omega), BitVec.toNat_ofNat]
 have := zDD (k := 8) h
 omega
theorem zD7 (Y : BitVec 64) (k : Nat) : (Y >>> k).toNat = Y.toNat / 2 ^ k := by rw [BitVec.toNat_ushiftRight, Nat.shiftRight_eq_div_pow]
/-! ### The document's Put -/
/-! ### Of either sign -/
def zF8 (x : Int) : BitVec 64 := if 0 ≤ x then BitVec.ofInt 64 (2 * x) else BitVec.ofInt 64 (-2 * x - 1)
def zOO (X : BitVec 64) : Int := if X.toNat % 2 = 0 then ((X.toNat / 2 : Nat) : Int) else -((X.toNat / 2 : Nat) : Int) - 1
theorem zOG (p : Int) : BitVec.ofInt 64 (IntKind.i64.wrap p) = BitVec.ofInt 64 p := by
 rw [IntKind.wrap_i64]
 apply BitVec.eq_of_toNat_eq
 simp only [BitVec.toNat_ofInt]
 rw [show ((2 ^ 64 : Nat) : Int) = 18446744073709551616 by rfl]
 omega
theorem zZU (p : Int) (h : -9223372036854775808 ≤ p ∧ p ≤ 9223372036854775807) : BitVec.ofInt 64 (IntKind.i64.wrap (p * 2 ^ (min 1 64))) ^^^ BitVec.ofInt 64 (p.fdiv (2 ^ (min 63 64))) = zF8 p := by
 rw [zOG]
 unfold zF8
 rw [show (2 : Int) ^ (min 1 64) = 2 by decide, show (2 : Int) ^ (min 63 64) = 9223372036854775808 by decide, Int.fdiv_eq_ediv_of_nonneg _ (by omega)]
 split
 · rw [show p / 9223372036854775808 = 0 by omega, Int.mul_comm]
   simp
 · rw [show p / 9223372036854775808 = -1 by omega]
   rw [show BitVec.ofInt 64 (-1) = BitVec.allOnes 64 by decide, BitVec.xor_allOnes]
   apply BitVec.eq_of_toNat_eq
   simp only [BitVec.toNat_not, BitVec.toNat_ofInt]
   omega
theorem zZt (X : BitVec 64) : (X &&& 1#64).toInt = ((X.toNat % 2 : Nat) : Int) := by
 rw [BitVec.toInt_eq_toNat_cond, BitVec.toNat_and]
 simp [Nat.and_one_is_mod]
 omega
theorem zYR (X : BitVec 64) : (BitVec.ofInt 64 (X >>> 1).toInt ^^^ BitVec.ofInt 64 (-(X &&& 1#64).toInt)).toInt = zOO X := by
 rw [zZt, BitVec.ofInt_toInt]
 have hx := X.isLt
 unfold zOO
 split
 · rename_i h
   rw [h]
   simp only [Int.natCast_zero, Int.neg_zero]
   rw [show BitVec.ofInt 64 0 = 0#64 by decide, BitVec.xor_zero, BitVec.toInt_eq_toNat_cond, zD7]
   rw [Nat.pow_one]
   split <;> omega
 · rename_i h
   rw [show X.toNat % 2 = 1 by omega]
   rw [show BitVec.ofInt 64 (-((1 : Nat) : Int)) = BitVec.allOnes 64 by decide, BitVec.xor_allOnes, BitVec.toInt_eq_toNat_cond, BitVec.toNat_not, zD7]
   rw [Nat.pow_one]
   split <;> omega
theorem zFj (X : BitVec 64) : -9223372036854775808 ≤ zOO X ∧ zOO X ≤ 9223372036854775807 := by
 have hx := X.isLt
 unfold zOO
 split <;> omega
theorem zXA (p : Int) (h : -9223372036854775808 ≤ p ∧ p ≤ 9223372036854775807) : zOO (zF8 p) = p := by
 unfold zF8
 split
 · unfold zOO
   rw [BitVec.toNat_ofInt]
   split <;> omega
 · unfold zOO
   rw [BitVec.toNat_ofInt]
   split <;> omega
theorem zIO {b : List zO} (h : (zCG b).2.2 = 0) : 1 ≤ (zCG b).2.1 ∧ (zCG b).2.1 ≤ b.length ∧ zCI (zCG b).1.toNat = b.take (zCG b).2.1 :=
 zJp (z := (zCG b).1) (k := (zCG b).2.1) (by rw [← h])
end Go.Sx

set_option linter.unusedVariables false
set_option linter.unusedSimpArgs false
namespace Go.Sx
structure Rs where
 p : Nat
 e : Nat
def zG (bs : List zO) (R : Rs) : zO × Rs := if R.e ≠ 0 then (0#8, R) else if bs.length ≤ R.p then (0#8, ⟨R.p, 6⟩) else (bs.getD R.p 0, ⟨R.p + 1, 0⟩)
def zII (b : List zO) (X : BitVec 64) : Nat := if (zCG b).2.2 = 0 ∧ X.toNat < (zCG b).1.toNat then 3 else (zCG b).2.2
def zL (bs : List zO) (X : BitVec 64) (R : Rs) : BitVec 64 × Rs :=
 if R.e ≠ 0 then (0#64, R) else if bs.length ≤ R.p then (0#64, ⟨R.p, 6⟩) else if zII (bs.drop R.p) X ≠ 0 then (0#64, ⟨R.p, zII (bs.drop R.p) X⟩) else ((zCG (bs.drop R.p)).1, ⟨R.p + (zCG (bs.drop R.p)).2.1, 0⟩)
def zY (bs : List zO) (R : Rs) : Int × Rs := (zOO (zL bs 18446744073709551615#64 R).1, (zL bs 18446744073709551615#64 R).2)
def zBZ (e : Nat) (R : Rs) : Rs := if R.e = 0 then ⟨R.p, e⟩ else R
def zIQ (bs : List zO) (R : Rs) : Nat := if R.e ≠ 0 ∨ bs.length ≤ R.p then R.e else 8
def zYC (bs : List zO) (R : Rs) : Rs := (zY bs (zY bs (zY bs R).2).2).2
theorem zMI {b : List zO} {X : BitVec 64} (h : zII b X = 0) : (zCG b).2.2 = 0 ∧ ¬ X.toNat < (zCG b).1.toNat := by
 unfold zII at h
 split at h
 · cases h
 · rename_i h'
   exact ⟨h, fun h2 => h' ⟨h, h2⟩⟩
theorem zPo {b : List zO} {X : BitVec 64} (h : zII b X = 0) : 1 ≤ (zCG b).2.1 ∧ (zCG b).2.1 ≤ b.length := by
 have := zIO (zMI h).1
 exact ⟨this.1, this.2.1⟩
theorem zSx (b : List zO) : (zCG b).2.1 ≤ 10 := by
 have := zFy 10 b
 unfold zCG
 repeat' split
 all_goals simp
 omega
theorem zCd {bs : List zO} {X : BitVec 64} {R : Rs} (h : R.e ≠ 0) : zL bs X R = (0#64, R) := by unfold zL; rw [if_pos h]
theorem zCM {bs : List zO} {X : BitVec 64} {R : Rs} (h : R.e = 0) (h1 : bs.length ≤ R.p) : zL bs X R = (0#64, ⟨R.p, 6⟩) := by unfold zL; rw [if_neg (by omega), if_pos h1]
theorem zDa {bs : List zO} {X : BitVec 64} {R : Rs} (h : R.e = 0) (h1 : ¬ bs.length ≤ R.p) (h2 : zII (bs.drop R.p) X ≠ 0) : zL bs X R = (0#64, ⟨R.p, zII (bs.drop R.p) X⟩) := by unfold zL; rw [if_neg (by omega), if_neg h1, if_pos h2]
theorem zC1 {bs : List zO} {X : BitVec 64} {R : Rs} (h : R.e = 0) (h1 : ¬ bs.length ≤ R.p) (h2 : zII (bs.drop R.p) X = 0) : zL bs X R = ((zCG (bs.drop R.p)).1, ⟨R.p + (zCG (bs.drop R.p)).2.1, 0⟩) := by unfold zL; rw [if_neg (by omega), if_neg h1, if_neg (by omega)]
theorem zDg {bs : List zO} {R : Rs} (h : R.e ≠ 0) : zG bs R = (0#8, R) := by unfold zG; rw [if_pos h]
theorem zDF {bs : List zO} {R : Rs} (h : R.e = 0) (h1 : bs.length ≤ R.p) : zG bs R = (0#8, ⟨R.p, 6⟩) := by unfold zG; rw [if_neg (by omega), if_pos h1]
theorem zDe {bs : List zO} {R : Rs} (h : R.e = 0) (h1 : ¬ bs.length ≤ R.p) : zG bs R = (bs.getD R.p 0, ⟨R.p + 1, 0⟩) := by unfold zG; rw [if_neg (by omega), if_neg h1]
theorem zAx {bs : List zO} {X : BitVec 64} {R : Rs} (h : R.p ≤ bs.length) : (zL bs X R).2.p ≤ bs.length ∧ R.p ≤ (zL bs X R).2.p ∧ (zL bs X R).2.p ≤ R.p + 10 ∧ (zL bs X R).1.toNat ≤ X.toNat ∧ (R.e ≠ 0 → zL bs X R = (0#64, R)) := by
 by_cases h0 : R.e = 0
 · by_cases h1 : bs.length ≤ R.p
   · rw [zCM h0 h1]; simp; omega
   · by_cases h2 : zII (bs.drop R.p) X = 0
     · rw [zC1 h0 h1 h2]
       have := zPo h2
       have h3 := zSx (bs.drop R.p)
       have h4 := (zMI h2).2
       simp only [List.length_drop] at this
       simp [h0]
       omega
     · rw [zDa h0 h1 h2]; simp [h0]; omega
 · rw [zCd h0]; simp; omega
theorem zDr {bs : List zO} {R : Rs} (h : R.p ≤ bs.length) : (zG bs R).2.p ≤ bs.length ∧ R.p ≤ (zG bs R).2.p ∧ (zG bs R).2.p ≤ R.p + 1 ∧ (R.e ≠ 0 → zG bs R = (0#8, R)) := by
 by_cases h0 : R.e = 0
 · by_cases h1 : bs.length ≤ R.p
   · rw [zDF h0 h1]; simp [h0]; omega
   · rw [zDe h0 h1]; simp [h0]; omega
 · rw [zDg h0]; simp; omega
theorem zDI {bs : List zO} {R : Rs} (h : R.p ≤ bs.length) : (zY bs R).2.p ≤ bs.length ∧ R.p ≤ (zY bs R).2.p ∧ (zY bs R).2.p ≤ R.p + 10 ∧ (R.e ≠ 0 → zY bs R = (0, R)) := by
 have := zAx (X := 18446744073709551615#64) h
 refine ⟨this.1, this.2.1, this.2.2.1, fun h0 => ?_⟩
 unfold zY
 rw [this.2.2.2.2 h0]
 simp [zOO]
theorem zVs {bs : List zO} {R : Rs} (h : R.p ≤ bs.length) : (zYC bs R).p ≤ bs.length ∧ R.p ≤ (zYC bs R).p ∧ (zYC bs R).p ≤ R.p + 30 := by
 have h1 := zDI h
 have h2 := zDI h1.1
 have h3 := zDI h2.1
 unfold zYC
 omega
theorem zBL {bs : List zO} {e : Nat} {R : Rs} (h : R.p ≤ bs.length) : (zBZ e R).p ≤ bs.length ∧ (zBZ e R).p = R.p ∧ (R.e = 0 → (zBZ e R).e = e) ∧ (R.e ≠ 0 → (zBZ e R).e = R.e) := by
 unfold zBZ
 split
 · rename_i h0; simp [h, h0]
 · rename_i h0; simp [h, h0]
theorem zOH {bs : List zO} {R : Rs} (h : R.e ≠ 0) : (zG bs R).2.p = R.p ∧ (zG bs R).2.e = R.e ∧ (zG bs R).1.toNat = 0 := by rw [zDg h]; simp
theorem zIX {bs : List zO} {X : BitVec 64} {R : Rs} (h : R.e ≠ 0) : (zL bs X R).2.p = R.p ∧ (zL bs X R).2.e = R.e ∧ (zL bs X R).1.toNat = 0 := by rw [zCd h]; simp
theorem zK0 {bs : List zO} {R : Rs} (h : R.e ≠ 0) : (zY bs R).2.p = R.p ∧ (zY bs R).2.e = R.e ∧ (zY bs R).1 = 0 := by
 unfold zY
 rw [zCd h]
 simp [zOO]
end Go.Sx

set_option linter.unusedVariables false
set_option linter.unusedSimpArgs false
namespace Go.Sx
structure zAA where
 k : Int
 id : Int
 p0 : Int
 p1 : Int
 p2 : Int
 v0 : Int
 v1 : Int
 v2 : Int
 a : BitVec 16
instance : Inhabited zAA := ⟨⟨0, 0, 0, 0, 0, 0, 0, 0, 0#16⟩⟩
structure zAA.wf (r : zAA) : Prop where
 k : -9223372036854775808 ≤ r.k ∧ r.k ≤ 9223372036854775807
 id : -9223372036854775808 ≤ r.id ∧ r.id ≤ 9223372036854775807
 p0 : -9223372036854775808 ≤ r.p0 ∧ r.p0 ≤ 9223372036854775807
 p1 : -9223372036854775808 ≤ r.p1 ∧ r.p1 ≤ 9223372036854775807
 p2 : -9223372036854775808 ≤ r.p2 ∧ r.p2 ≤ 9223372036854775807
 v0 : -9223372036854775808 ≤ r.v0 ∧ r.v0 ≤ 9223372036854775807
 v1 : -9223372036854775808 ≤ r.v1 ∧ r.v1 ≤ 9223372036854775807
 v2 : -9223372036854775808 ≤ r.v2 ∧ r.v2 ≤ 9223372036854775807
theorem zAA.wf.facts {r : zAA} (h : r.wf) : (-9223372036854775808 ≤ r.k ∧ r.k ≤ 9223372036854775807) ∧ (-9223372036854775808 ≤ r.id ∧ r.id ≤ 9223372036854775807) ∧ (-9223372036854775808 ≤ r.p0 ∧ r.p0 ≤ 9223372036854775807) ∧ (-9223372036854775808 ≤ r.p1 ∧ r.p1 ≤ 9223372036854775807) ∧ (-9223372036854775808 ≤ r.p2 ∧ r.p2 ≤ 9223372036854775807) ∧
 (-9223372036854775808 ≤ r.v0 ∧ r.v0 ≤ 9223372036854775807) ∧ (-9223372036854775808 ≤ r.v1 ∧ r.v1 ≤ 9223372036854775807) ∧ (-9223372036854775808 ≤ r.v2 ∧ r.v2 ≤ 9223372036854775807) := ⟨h.k, h.id, h.p0, h.p1, h.p2, h.v0, h.v1, h.v2⟩
def zJA (r : zAA) : List Value := [.int .i64 r.k, .int .i64 r.id, .int .i64 r.p0, .int .i64 r.p1, .int .i64 r.p2, .int .i64 r.v0, .int .i64 r.v1, .int .i64 r.v2, .int .u16 ((r.a.toNat : Nat) : Int)]
def zAA.num (r : zAA) : Nat → Int
 | 0 => r.p0
 | 1 => r.p1
 | 2 => r.p2
 | 3 => r.v0
 | 4 => r.v1
 | _ => r.v2
def zBD (r : zAA) : Bool := r.p0 == 0 && r.p1 == 0 && r.p2 == 0 && r.v0 == 0 && r.v1 == 0 && r.v2 == 0 && (((r.a.toNat : Nat) : Int) == 0)
def zAb (r : zAA) : Nat := if r.k < 0 ∨ 3 < r.k then 11 else if r.id < 0 ∨ 65535 < r.id then 3 else if r.k = 1 ∧ zBD r = true ∨ r.k = 2 ∧ zBD r = false then 2 else 0
theorem zMK (r : zAA) : zAP [.int .i64 r.k, .int .i64 r.id, .int .i64 r.p0, .int .i64 r.p1, .int .i64 r.p2, .int .i64 r.v0, .int .i64 r.v1, .int .i64 r.v2, .int .u16 ((r.a.toNat : Nat) : Int)] [.int .i64 r.k, .int .i64 r.id, .int .i64 0, .int .i64 0, .int .i64 0, .int .i64 0, .int .i64 0, .int .i64 0, .int .u16 0] = zBD r := by
 simp [zAP, vEq, zBD, Bool.and_assoc]
theorem zQN (r : zAA) : zAb r ≤ 11 := by
 unfold zAb; repeat' split
 all_goals omega
theorem zMu {r : zAA} (h : zAb r = 0) : 0 ≤ r.k ∧ r.k ≤ 3 ∧ 0 ≤ r.id ∧ r.id ≤ 65535 := by
 unfold zAb at h
 split at h
 · cases h
 · split at h
   · cases h
   · omega
def zDK (x : Int) : List zO := zCI (zF8 x).toNat
theorem zAD (x : Int) : (zDK x).length ≤ 10 ∧ 1 ≤ (zDK x).length := by
 have := zCq (zF8 x).toNat
 have := zCv (zF8 x).toNat
 unfold zDK
 simp only [zBP] at *
 omega
def zBV (r : zAA) : List zO := zDK r.p0 ++ zDK r.p1 ++ zDK r.p2 ++ zDK r.v0 ++ zDK r.v1 ++ zDK r.v2 ++ zCI r.a.toNat
def zAr (r : zAA) : Nat → BitVec 8
 | 0 => 0#8
 | i + 1 => if r.num i = 0 then zAr r i else zAr r i ||| (1#8 <<< i)
def zAV (r : zAA) : Nat → List zO
 | 0 => []
 | i + 1 => if r.num i = 0 then zAV r i else zAV r i ++ zDK (r.num i)
def zCS (r : zAA) : BitVec 8 := if r.a = 0#16 then zAr r 6 else zAr r 6 ||| 64#8
def zGJ (r : zAA) : List zO := if r.a = 0#16 then zAV r 6 else zAV r 6 ++ zCI r.a.toNat
def zBE (r : zAA) : List zO := zCS r :: zGJ r
def zD9 (r : zAA) : List zO := if r.k = 1 then zBE r else if r.k = 2 then [] else zBV r
def zAv (r : zAA) (last : Int) : Nat := if zAb r ≠ 0 then zAb r else if last < -1 ∨ 65535 < last then 3 else if r.id ≤ last then 10 else 0
def zAR (r : zAA) (last : Int) : List zO := zCI (BitVec.ofInt 64 (r.id - last - 1)).toNat ++ [BitVec.ofInt 8 r.k]
def zCY (r : zAA) (last : Int) : List zO := if zAv r last ≠ 0 then [] else zAR r last ++ zD9 r
theorem zMU {r : zAA} {i : Nat} (h : r.num i = 0) : zAr r (i + 1) = zAr r i := by simp [zAr, h]
theorem zM8 {r : zAA} {i : Nat} (h : r.num i ≠ 0) : zAr r (i + 1) = zAr r i ||| (1#8 <<< i) := by simp [zAr, h]
theorem zG8 {r : zAA} {i : Nat} (h : r.num i = 0) : zAV r (i + 1) = zAV r i := by simp [zAV, h]
theorem zG7 {r : zAA} {i : Nat} (h : r.num i ≠ 0) : zAV r (i + 1) = zAV r i ++ zDK (r.num i) := by simp [zAV, h]
theorem zBM (r : zAA) : ∀ i, (zAV r i).length ≤ 10 * i := by
 intro i
 induction i with
 | zero => simp [zAV]
 | succ i ih =>
   unfold zAV
   have := zAD (r.num i)
   split
   · omega
   · simp; omega
theorem zEC (n : Nat) : (zCI n).length ≤ 10 := by have := zCq n; simpa [zBP] using this
theorem zH3 (r : zAA) (last : Int) : (zCY r last).length ≤ 100 := by
 unfold zCY
 split
 · simp
 · have h1 := zEC (BitVec.ofInt 64 (r.id - last - 1)).toNat
   have h2 := zEC r.a.toNat
   have h3 := zBM r 6
   have n0 := zAD r.p0
   have n1 := zAD r.p1
   have n2 := zAD r.p2
   have n3 := zAD r.v0
   have n4 := zAD r.v1
   have n5 := zAD r.v2
   unfold zAR zD9
   split
   · unfold zBE zGJ
     split <;> simp only [List.length_append, List.length_cons, List.length_nil] <;> omega
   · split
     · simp only [List.length_append, List.length_cons, List.length_nil]; omega
     · unfold zBV; simp only [List.length_append, List.length_cons, List.length_nil]; omega
theorem zMt {bs l : List zO} {x : zO} {m : Nat} (h : bs.length = m) : (bs ++ x :: l).getD m 0 = x := by
 subst h
 simp [List.getD_eq_getElem?_getD]
theorem zPS {bs l : List zO} {x y : zO} {m : Nat} (h : bs.length = m) : (bs ++ x :: l).set m y = bs ++ y :: l := by
 subst h
 simp
theorem zTi (a : BitVec 16) : (a.setWidth 64).toNat = a.toNat := by
 rw [BitVec.toNat_setWidth]
 have := a.isLt
 omega
theorem zQ4 {a : BitVec 16} (h : ((a.toNat : Nat) : Int) = 0) : a = 0#16 := BitVec.eq_of_toNat_eq (by simpa using h)
theorem zYz {a : BitVec 16} (h : ((a.toNat : Nat) : Int) ≠ 0) : a ≠ 0#16 := fun e => h (by subst e; rfl)
theorem zBS {r : zAA} (h : ((r.a.toNat : Nat) : Int) = 0) : zBE r = zAr r 6 :: zAV r 6 := by
 unfold zBE zCS zGJ
 rw [if_pos (zQ4 h), if_pos (zQ4 h)]
theorem zBU {r : zAA} (h : ((r.a.toNat : Nat) : Int) ≠ 0) : zBE r = (zAr r 6 ||| 64#8) :: (zAV r 6 ++ zCI r.a.toNat) := by
 unfold zBE zCS zGJ
 rw [if_neg (zYz h), if_neg (zYz h)]
theorem zIP (r : zAA) : (zBE r).length ≤ 71 := by
 have h2 := zEC r.a.toNat
 have h3 := zBM r 6
 unfold zBE zGJ
 split <;> simp only [List.length_append, List.length_cons] <;> omega
theorem zJF (r : zAA) : (zBV r).length ≤ 70 := by
 have h2 := zEC r.a.toNat
 have n0 := zAD r.p0
 have n1 := zAD r.p1
 have n2 := zAD r.p2
 have n3 := zAD r.v0
 have n4 := zAD r.v1
 have n5 := zAD r.v2
 unfold zBV
 simp only [List.length_append]
 omega
theorem zDS {r : zAA} {last : Int} (h : zAv r last ≠ 0) : zCY r last = [] := by unfold zCY; rw [if_pos h]
theorem zBC {r : zAA} {last : Int} (h : zAv r last = 0) (hk : r.k = 0 ∨ r.k = 3) : zCY r last = zAR r last ++ zBV r := by
 unfold zCY zD9
 rw [if_neg (by omega), if_neg (by omega), if_neg (by omega)]
theorem zAM {r : zAA} {last : Int} (h : zAv r last = 0) (hk : r.k = 1) : zCY r last = zAR r last ++ zBE r := by
 unfold zCY zD9
 rw [if_neg (by omega), if_pos hk]
theorem zAw {r : zAA} {last : Int} (h : zAv r last = 0) (hk : r.k = 2) : zCY r last = zAR r last := by
 unfold zCY zD9
 rw [if_neg (by omega), if_neg (by omega), if_pos hk, List.append_nil]
theorem zB0 {r : zAA} {last : Int} (h : zAb r ≠ 0) : zAv r last = zAb r := by unfold zAv; rw [if_pos h]
theorem zB5 {r : zAA} {last : Int} (h : zAb r = 0) (h2 : last < -1 ∨ 65535 < last) : zAv r last = 3 := by unfold zAv; rw [if_neg (by omega), if_pos h2]
theorem zB6 {r : zAA} {last : Int} (h : zAb r = 0) (h2 : ¬ (last < -1 ∨ 65535 < last)) (h3 : r.id ≤ last) : zAv r last = 10 := by unfold zAv; rw [if_neg (by omega), if_neg h2, if_pos h3]
theorem zCh {r : zAA} {last : Int} (h : zAb r = 0) (h2 : ¬ (last < -1 ∨ 65535 < last)) (h3 : ¬ r.id ≤ last) : zAv r last = 0 := by unfold zAv; rw [if_neg (by omega), if_neg h2, if_neg h3]
theorem zIK (r : zAA) (last : Int) : (zAR r last).length ≤ 11 := by
 have h1 := zEC (BitVec.ofInt 64 (r.id - last - 1)).toNat
 unfold zAR
 simp only [List.length_append, List.length_cons, List.length_nil]
 omega
theorem zCt {r : zAA} {last : Int} (h : zAv r last = 0) : 0 ≤ r.id ∧ r.id ≤ 65535 ∧ -1 ≤ last ∧ last < r.id := by
 unfold zAv at h
 split at h
 · omega
 · rename_i h0
   have h1 := zMu (r := r) (by omega)
   split at h
   · cases h
   · split at h
     · cases h
     · omega
end Go.Sx

set_option linter.unusedVariables false
set_option linter.unusedSimpArgs false
namespace Go.Sx
def zU0 (m : BitVec 8) : Nat → BitVec 8
 | 0 => m
 | i + 1 => zU0 m i / 2#8
theorem zRS (m : BitVec 8) : ∀ i, zU0 m i = m >>> i
 | 0 => by simp [zU0]
 | i + 1 => by
   unfold zU0
   rw [zRS m i]
   apply BitVec.eq_of_toNat_eq
   rw [BitVec.toNat_udiv, BitVec.toNat_ushiftRight, BitVec.toNat_ushiftRight, Nat.shiftRight_succ]
   rfl
def zBh (m : BitVec 8) (i : Nat) : Bool := ((zU0 m i).toNat % 2) == 1
def upI (bs : List zO) (m : BitVec 8) (i : Nat) (R : Rs) : Int × Rs :=
 if zBh m i = true then ((zY bs R).1, if (zY bs R).1 = 0 then zBZ 7 (zY bs R).2 else (zY bs R).2) else (0, R)
def upS (bs : List zO) (m : BitVec 8) (R : Rs) : Nat → Rs
 | 0 => R
 | i + 1 => (upI bs m i (upS bs m R i)).2
def upX (bs : List zO) (m : BitVec 8) (R : Rs) (i : Nat) : Int := (upI bs m i (upS bs m R i)).1
def upA (bs : List zO) (m : BitVec 8) (R : Rs) : BitVec 16 × Rs :=
 if zBh m 6 = true then (((zL bs 65535#64 R).1).setWidth 16, if (zL bs 65535#64 R).1 = 0#64 then zBZ 7 (zL bs 65535#64 R).2 else (zL bs 65535#64 R).2) else (0#16, R)
def zA0 (bs : List zO) (k id : Int) (R : Rs) : zAA × Rs :=
 let q := zG bs R
 if q.1.toNat = 0 ∨ 127 < q.1.toNat then (⟨k, id, 0, 0, 0, 0, 0, 0, 0#16⟩, zBZ 7 q.2)
 else (⟨k, id, upX bs q.1 q.2 0, upX bs q.1 q.2 1, upX bs q.1 q.2 2, upX bs q.1 q.2 3, upX bs q.1 q.2 4, upX bs q.1 q.2 5, (upA bs q.1 (upS bs q.1 q.2 6)).1⟩, (upA bs q.1 (upS bs q.1 q.2 6)).2)
def nS (bs : List zO) (R : Rs) : Nat → Rs
 | 0 => R
 | i + 1 => (zY bs (nS bs R i)).2
def nX (bs : List zO) (R : Rs) (i : Nat) : Int := (zY bs (nS bs R i)).1
def zB7 (bs : List zO) (k id : Int) (R : Rs) : zAA × Rs :=
 (⟨k, id, nX bs R 0, nX bs R 1, nX bs R 2, nX bs R 3, nX bs R 4, nX bs R 5, ((zL bs 65535#64 (nS bs R 6)).1).setWidth 16⟩, (zL bs 65535#64 (nS bs R 6)).2)
def zA4 (bs : List zO) (k id : Int) (R : Rs) : zAA × Rs :=
 if k = 0 ∨ k = 3 then zB7 bs k id R else if k = 1 then zA0 bs k id R else if k = 2 then (⟨k, id, 0, 0, 0, 0, 0, 0, 0#16⟩, R) else (⟨k, id, 0, 0, 0, 0, 0, 0, 0#16⟩, zBZ 11 R)
def zOd : zAA := ⟨0, 0, 0, 0, 0, 0, 0, 0, 0#16⟩
def zRR (bs : List zO) (last : Int) (R : Rs) : BitVec 64 × Rs := zL bs (BitVec.ofInt 64 (65534 - last)) R
def zEJ (bs : List zO) (last : Int) (R : Rs) : zAA × Rs :=
 zA4 bs (((zG bs (zRR bs last R).2).1.toNat : Nat) : Int) (last + 1 + (((zRR bs last R).1.toNat : Nat) : Int)) (zG bs (zRR bs last R).2).2
def zAC (bs : List zO) (last : Int) (R : Rs) : zAA × Nat × Rs :=
 if last < -1 ∨ 65535 < last then (zOd, 3, R) else if last = 65535 then (zOd, (zBZ 10 R).e, zBZ 10 R)
 else if (zEJ bs last R).2.e ≠ 0 then (zOd, (zEJ bs last R).2.e, (zEJ bs last R).2) else ((zEJ bs last R).1, 0, (zEJ bs last R).2)
def zad (r : zAA) : Nat → List zO
 | 0 => []
 | i + 1 => zad r i ++ zDK (r.num i)
theorem zGg (r : zAA) : zad r 6 = zDK r.p0 ++ zDK r.p1 ++ zDK r.p2 ++ zDK r.v0 ++ zDK r.v1 ++ zDK r.v2 := rfl
def upQ (bs : List zO) (m : BitVec 8) (R : Rs) (i j : Nat) : Int := if j < i then upX bs m R j else 0
section
variable {bs : List zO} {m : BitVec 8} {R : Rs} {i : Nat} {p q z : Value}
theorem zZS (h : upX bs m R i = 0) (j : Nat) : upQ bs m R i j = upQ bs m R (i + 1) j := by
 unfold upQ
 by_cases h1 : j < i
 · rw [if_pos h1, if_pos (by omega)]
 · by_cases h2 : j = i
   · subst h2; rw [if_neg h1, if_pos (by omega), h]
   · rw [if_neg h1, if_neg (by omega)]
theorem six {i : Nat} (h : i < 6) : i = 0 ∨ i = 1 ∨ i = 2 ∨ i = 3 ∨ i = 4 ∨ i = 5 := by omega
theorem zXl (h : i < 6) : [p, q, zI (upQ bs m R i 0), zI (upQ bs m R i 1), zI (upQ bs m R i 2), zI (upQ bs m R i 3), zI (upQ bs m R i 4), zI (upQ bs m R i 5), z].set (2 + i) (zI (upX bs m R i)) = [p, q, zI (upQ bs m R (i + 1) 0), zI (upQ bs m R (i + 1) 1), zI (upQ bs m R (i + 1) 2), zI (upQ bs m R (i + 1) 3), zI (upQ bs m R (i + 1) 4), zI (upQ bs m R (i + 1) 5), z] := by
 rcases six h with rfl | rfl | rfl | rfl | rfl | rfl <;> simp [upQ]
theorem zVn (h : i < 6) : [p, q, zI (upQ bs m R (i + 1) 0), zI (upQ bs m R (i + 1) 1), zI (upQ bs m R (i + 1) 2), zI (upQ bs m R (i + 1) 3), zI (upQ bs m R (i + 1) 4), zI (upQ bs m R (i + 1) 5), z][2 + i]? = some (zI (upX bs m R i)) := by
 rcases six h with rfl | rfl | rfl | rfl | rfl | rfl <;> simp [upQ]
theorem zUo {g : Nat} (h : i < 6) : [pt g 2, pt g 3, pt g 4, pt g 5, pt g 6, pt g 7][((i : Nat) : Int).toNat]? = some (pt g (2 + i)) := by
 rcases six h with rfl | rfl | rfl | rfl | rfl | rfl <;> rfl
theorem zVj {r : zAA} (hw : r.wf) (h : i < 6) : -9223372036854775808 ≤ r.num i ∧ r.num i ≤ 9223372036854775807 := by
 rcases six h with rfl | rfl | rfl | rfl | rfl | rfl
 · exact hw.p0
 · exact hw.p1
 · exact hw.p2
 · exact hw.v0
 · exact hw.v1
 · exact hw.v2
theorem zQy {r : zAA} (h : i < 6) : [p, q, zI r.p0, zI r.p1, zI r.p2, zI r.v0, zI r.v1, zI r.v2, z][2 + i]? = some (zI (r.num i)) := by
 rcases six h with rfl | rfl | rfl | rfl | rfl | rfl <;> rfl
end
theorem zTs {m : BitVec 8} {i : Nat} : zBh m i = true ↔ (zU0 m i).toNat % 2 = 1 := by unfold zBh; simp
theorem zVJ (m : BitVec 8) (i : Nat) : ((m >>> i) &&& 1#8).toNat = (zU0 m i).toNat % 2 := by
 rw [BitVec.toNat_and, show (1#8).toNat = 1 from rfl, Nat.and_one_is_mod, zRS]
theorem zWw {m : BitVec 8} {i : Nat} (h : ((((m >>> i) &&& 1#8).toNat : Nat) : Int) = 0) : zBh m i = false := by
 rw [zVJ] at h
 unfold zBh
 rw [show (zU0 m i).toNat % 2 = 0 by omega]
 rfl
theorem zWL {m : BitVec 8} {i : Nat} (h : ((((m >>> i) &&& 1#8).toNat : Nat) : Int) ≠ 0) : zBh m i = true := by
 rw [zVJ] at h
 rw [zTs]
 omega
theorem zZl (m : BitVec 8) : (m &&& 64#8).toNat = 0 ↔ zBh m 6 = false := by
 have key : ∀ m : BitVec 8, (m &&& 64#8).toNat = 0 ↔ zBh m 6 = false := by decide +kernel
 exact key m
theorem zUV {m : BitVec 8} (h : (((m &&& 64#8).toNat : Nat) : Int) = 0) : zBh m 6 = false := (zZl m).1 (by omega)
theorem zT2 {m : BitVec 8} (h : (((m &&& 64#8).toNat : Nat) : Int) ≠ 0) : zBh m 6 = true := by
 cases hb : zBh m 6 with
 | true => rfl
 | false => exact absurd ((zZl m).2 hb) (by omega)
theorem zW0 {bs : List zO} {m : BitVec 8} {R : Rs} (h : zBh m 6 = false) : upA bs m R = (0#16, R) := by unfold upA; rw [if_neg (by rw [h]; decide)]
theorem zXJ {bs : List zO} {m : BitVec 8} {R : Rs} (h : zBh m 6 = true) (h2 : (zL bs 65535#64 R).1.toNat = 0) : upA bs m R = ((zL bs 65535#64 R).1.setWidth 16, zBZ 7 (zL bs 65535#64 R).2) := by
 unfold upA
 rw [if_pos h, if_pos (BitVec.eq_of_toNat_eq h2)]
theorem zX8 {bs : List zO} {m : BitVec 8} {R : Rs} (h : zBh m 6 = true) (h2 : (zL bs 65535#64 R).1.toNat ≠ 0) : upA bs m R = ((zL bs 65535#64 R).1.setWidth 16, (zL bs 65535#64 R).2) := by
 unfold upA
 rw [if_pos h, if_neg (fun e => h2 (by rw [e]; rfl))]
theorem zas {X : BitVec 64} (h : X.toNat ≤ 65535) : (X.setWidth 16).toNat = X.toNat := by
 rw [BitVec.toNat_setWidth]
 omega
theorem zH5 {X : BitVec 64} (h : X.toNat ≤ 65535) : X.toInt = ((X.toNat : Nat) : Int) := by
 rw [BitVec.toInt_eq_toNat_cond, if_pos (by omega)]
theorem zDv {x : Int} (h : 0 ≤ x) (h2 : x ≤ 9223372036854775807) : (((BitVec.ofInt 64 x).toNat : Nat) : Int) = x := by
 rw [BitVec.toNat_ofInt]
 omega
theorem zar {bs : List zO} {m : BitVec 8} {R : Rs} {i : Nat} (h : zBh m i = true) (h2 : (zY bs (upS bs m R i)).1 = 0) : upS bs m R (i + 1) = zBZ 7 (zY bs (upS bs m R i)).2 := by
 show (upI _ _ _ _).2 = _
 unfold upI
 rw [if_pos h]
 dsimp only
 rw [if_pos h2]
theorem zat {bs : List zO} {m : BitVec 8} {R : Rs} {i : Nat} (h : zBh m i = true) (h2 : (zY bs (upS bs m R i)).1 ≠ 0) : upS bs m R (i + 1) = (zY bs (upS bs m R i)).2 := by
 show (upI _ _ _ _).2 = _
 unfold upI
 rw [if_pos h]
 dsimp only
 rw [if_neg h2]
theorem zaZ {bs : List zO} {m : BitVec 8} {R : Rs} {i : Nat} (h : zBh m i = true) : upX bs m R i = (zY bs (upS bs m R i)).1 := by
 unfold upX upI
 rw [if_pos h]
theorem zac {bs : List zO} {m : BitVec 8} {R : Rs} {i : Nat} (h : zBh m i = false) : upS bs m R (i + 1) = upS bs m R i := by
 show (upI _ _ _ _).2 = _
 unfold upI
 rw [if_neg (by rw [h]; decide)]
theorem zaF {bs : List zO} {m : BitVec 8} {R : Rs} {i : Nat} (h : zBh m i = false) : upX bs m R i = 0 := by
 unfold upX upI
 rw [if_neg (by rw [h]; decide)]
theorem zZM {bs : List zO} {m : BitVec 8} {i : Nat} {R : Rs} (h : R.p ≤ bs.length) : (upI bs m i R).2.p ≤ bs.length ∧ R.p ≤ (upI bs m i R).2.p ∧ (upI bs m i R).2.p ≤ R.p + 10 := by
 unfold upI
 have h1 := zDI h
 split
 · dsimp only
   split
   · have := zBL (e := 7) h1.1; omega
   · omega
 · dsimp only; omega
theorem zLE {bs : List zO} {m : BitVec 8} {R : Rs} (h : R.p ≤ bs.length) : ∀ i, (upS bs m R i).p ≤ bs.length ∧ R.p ≤ (upS bs m R i).p ∧ (upS bs m R i).p ≤ R.p + 10 * i
 | 0 => by simp [upS, h]
 | i + 1 => by
   have h1 := zLE h i (m := m)
   have h2 := zZM (m := m) (i := i) h1.1
   show (upI _ _ _ _).2.p ≤ _ ∧ _ ≤ (upI _ _ _ _).2.p ∧ (upI _ _ _ _).2.p ≤ _
   omega
theorem zZH {bs : List zO} {R : Rs} (h : R.p ≤ bs.length) : ∀ i, (nS bs R i).p ≤ bs.length ∧ R.p ≤ (nS bs R i).p ∧ (nS bs R i).p ≤ R.p + 10 * i
 | 0 => by simp [nS, h]
 | i + 1 => by
   have h1 := zZH h i
   have h2 := zDI h1.1
   show (zY _ _).2.p ≤ _ ∧ _ ≤ (zY _ _).2.p ∧ (zY _ _).2.p ≤ _
   omega
theorem zYv {bs : List zO} {m : BitVec 8} {R : Rs} (h : R.p ≤ bs.length) : (upA bs m R).2.p ≤ bs.length ∧ R.p ≤ (upA bs m R).2.p := by
 unfold upA
 have h1 := zAx (X := 65535#64) h
 split
 · dsimp only
   split
   · have := zBL (e := 7) h1.1; omega
   · omega
 · dsimp only; omega
section
variable {bs : List zO} {m : BitVec 8} {R : Rs} {i : Nat}
end
theorem zKZ {bs : List zO} {k id : Int} {R : Rs} (h : R.p ≤ bs.length) : (zA0 bs k id R).2.p ≤ bs.length ∧ R.p ≤ (zA0 bs k id R).2.p := by
 have h1 := zDr h
 have h2 := zLE (m := (zG bs R).1) h1.1 6
 have h3 := zYv (m := (zG bs R).1) h2.1
 have h4 := zBL (e := 7) h1.1
 unfold zA0
 dsimp only
 split <;> (dsimp only; omega)
theorem zJ9 {bs : List zO} {k id : Int} {R : Rs} (h : R.p ≤ bs.length) : (zB7 bs k id R).2.p ≤ bs.length ∧ R.p ≤ (zB7 bs k id R).2.p := by
 have h2 := zZH h 6
 have h3 := zAx (X := 65535#64) h2.1
 unfold zB7
 dsimp only; omega
theorem zO5 {bs : List zO} {k id : Int} {R : Rs} (h : R.p ≤ bs.length) : (zA4 bs k id R).2.p ≤ bs.length ∧ R.p ≤ (zA4 bs k id R).2.p := by
 unfold zA4
 split
 · exact zJ9 h
 · split
   · exact zKZ h
   · split
     · dsimp only; omega
     · have := zBL (e := 11) h; dsimp only; omega
theorem zMh {bs : List zO} {last : Int} {R : Rs} (h : R.p ≤ bs.length) : (zAC bs last R).2.2.p ≤ bs.length ∧ R.p ≤ (zAC bs last R).2.2.p := by
 have h1 : (zRR bs last R).2.p ≤ bs.length ∧ R.p ≤ (zRR bs last R).2.p := by
   have := zAx (X := BitVec.ofInt 64 (65534 - last)) h
   unfold zRR
   omega
 have h2 := zDr h1.1
 have h3 : (zEJ bs last R).2.p ≤ bs.length ∧ (zG bs (zRR bs last R).2).2.p ≤ (zEJ bs last R).2.p := zO5 h2.1
 have h4 := zBL (e := 10) h
 unfold zAC
 repeat' split
 all_goals (dsimp only; omega)
theorem zMH {α β : Type} {p x : α × β} (h : p = x) : p = (x.1, x.2) := h
theorem zFz (bs : List zO) (last : Int) (R : Rs) : zEJ bs last R = zA4 bs (((zG bs (zL bs (BitVec.ofInt 64 (65534 - last)) R).2).1.toNat : Nat) : Int) (last + 1 + (((zL bs (BitVec.ofInt 64 (65534 - last)) R).1.toNat : Nat) : Int)) (zG bs (zL bs (BitVec.ofInt 64 (65534 - last)) R).2).2 := rfl
theorem zGT {bs : List zO} {k id : Int} {R : Rs} (h : k = 0 ∨ k = 3) : zA4 bs k id R = zB7 bs k id R := by unfold zA4; rw [if_pos h]
theorem zH6 {bs : List zO} {k id : Int} {R : Rs} (h : k = 1) : zA4 bs k id R = zA0 bs k id R := by unfold zA4; rw [if_neg (by omega), if_pos h]
theorem zH8 {bs : List zO} {k id : Int} {R : Rs} (h : k = 2) : zA4 bs k id R = (⟨k, id, 0, 0, 0, 0, 0, 0, 0#16⟩, R) := by unfold zA4; rw [if_neg (by omega), if_neg (by omega), if_pos h]
theorem zNv {bs : List zO} {k id : Int} {R : Rs} (h : ¬ (k = 0 ∨ k = 1 ∨ k = 2 ∨ k = 3)) : zA4 bs k id R = (⟨k, id, 0, 0, 0, 0, 0, 0, 0#16⟩, zBZ 11 R) := by unfold zA4; rw [if_neg (by omega), if_neg (by omega), if_neg (by omega)]
theorem zEk {bs : List zO} {last : Int} {R : Rs} (h : last < -1 ∨ 65535 < last) : zAC bs last R = (zOd, 3, R) := by unfold zAC; rw [if_pos h]
theorem zER {bs : List zO} {last : Int} {R : Rs} (h : last = 65535) : zAC bs last R = (zOd, (zBZ 10 R).e, zBZ 10 R) := by unfold zAC; rw [if_neg (by omega), if_pos h]
theorem zDb {bs : List zO} {last : Int} {R RR : Rs} {rr : zAA} (h : ¬ (last < -1 ∨ 65535 < last)) (h2 : last ≠ 65535) (hr : zEJ bs last R = (rr, RR)) (he : RR.e ≠ 0) : zAC bs last R = (zOd, RR.e, RR) := by
 unfold zAC
 rw [if_neg h, if_neg h2, hr, if_pos he]
theorem zE6 {bs : List zO} {last : Int} {R RR : Rs} {rr : zAA} (h : ¬ (last < -1 ∨ 65535 < last)) (h2 : last ≠ 65535) (hr : zEJ bs last R = (rr, RR)) (he : RR.e = 0) : zAC bs last R = (rr, 0, RR) := by
 unfold zAC
 rw [if_neg h, if_neg h2, hr, if_neg (by simpa using he)]
theorem zIo {bs : List zO} {k id : Int} {R : Rs} (h : (zG bs R).1.toNat = 0 ∨ 127 < (zG bs R).1.toNat) : zA0 bs k id R = (⟨k, id, 0, 0, 0, 0, 0, 0, 0#16⟩, zBZ 7 (zG bs R).2) := by
 unfold zA0
 dsimp only
 rw [if_pos h]
theorem zHM {bs : List zO} {k id : Int} {R : Rs} {A : BitVec 16} {T : Rs} (h : ¬ ((zG bs R).1.toNat = 0 ∨ 127 < (zG bs R).1.toNat)) (hA : upA bs (zG bs R).1 (upS bs (zG bs R).1 (zG bs R).2 6) = (A, T)) : zA0 bs k id R = (⟨k, id, upX bs (zG bs R).1 (zG bs R).2 0, upX bs (zG bs R).1 (zG bs R).2 1, upX bs (zG bs R).1 (zG bs R).2 2, upX bs (zG bs R).1 (zG bs R).2 3, upX bs (zG bs R).1 (zG bs R).2 4, upX bs (zG bs R).1 (zG bs R).2 5, A⟩, T) := by
 unfold zA0
 dsimp only
 rw [if_neg h, hA]
theorem zQR {bs : List zO} {last : Int} {R : Rs} (h : R.p ≤ bs.length) (h1 : -1 ≤ last) (h2 : last < 65535) : (((zL bs (BitVec.ofInt 64 (65534 - last)) R).1.toNat : Nat) : Int) ≤ 65534 - last := by
 have h3 := (zAx (X := BitVec.ofInt 64 (65534 - last)) h).2.2.2.1
 have h4 := zDv (x := 65534 - last) (by omega) (by omega)
 omega
theorem zSX {bs : List zO} {last : Int} {R : Rs} (h : R.p ≤ bs.length) (h1 : -1 ≤ last) (h2 : last < 65535) : (zL bs (BitVec.ofInt 64 (65534 - last)) R).1.toInt = (((zL bs (BitVec.ofInt 64 (65534 - last)) R).1.toNat : Nat) : Int) := by
 have := zQR h h1 h2
 by_cases h5 : 65534 - last ≤ 65535
 · exact zH5 (by omega)
 · exact zH5 (by omega)
end Go.Sx

set_option linter.unusedVariables false
set_option linter.unusedSimpArgs false
namespace Go.Sx
structure zX where
 id : Int
 p0 : Int
 p1 : Int
 p2 : Int
 v0 : Int
 v1 : Int
 v2 : Int
 a : BitVec 16
 g : BitVec 8
instance : Inhabited zX := ⟨⟨0, 0, 0, 0, 0, 0, 0, 0#16, 0#8⟩⟩
structure zX.wf (r : zX) : Prop where
 id : -9223372036854775808 ≤ r.id ∧ r.id ≤ 9223372036854775807
 p0 : -9223372036854775808 ≤ r.p0 ∧ r.p0 ≤ 9223372036854775807
 p1 : -9223372036854775808 ≤ r.p1 ∧ r.p1 ≤ 9223372036854775807
 p2 : -9223372036854775808 ≤ r.p2 ∧ r.p2 ≤ 9223372036854775807
 v0 : -9223372036854775808 ≤ r.v0 ∧ r.v0 ≤ 9223372036854775807
 v1 : -9223372036854775808 ≤ r.v1 ∧ r.v1 ≤ 9223372036854775807
 v2 : -9223372036854775808 ≤ r.v2 ∧ r.v2 ≤ 9223372036854775807
def zBK (r : zX) : List Value := [.int .i64 r.id, .int .i64 r.p0, .int .i64 r.p1, .int .i64 r.p2, .int .i64 r.v0, .int .i64 r.v1, .int .i64 r.v2, .int .u16 ((r.a.toNat : Nat) : Int), .int .u8 ((r.g.toNat : Nat) : Int)]
theorem zBk (r : zX) : (zBK r).length = 9 := rfl
def zCz : zX := ⟨0, 0, 0, 0, 0, 0, 0, 0#16, 0#8⟩
def zR (a : zX) (r : zAA) : zX × Nat :=
 if zAb r ≠ 0 then (zCz, zAb r) else if r.id ≠ a.id ∨ r.k = 0 ∨ r.k = 2 then (zCz, 15)
 else if r.k = 3 then (⟨a.id, r.p0, r.p1, r.p2, r.v0, r.v1, r.v2, r.a, a.g + 1#8⟩, 0)
 else (⟨a.id, IntKind.i64.wrap (a.p0 + r.p0), IntKind.i64.wrap (a.p1 + r.p1), IntKind.i64.wrap (a.p2 + r.p2), IntKind.i64.wrap (a.v0 + r.v0), IntKind.i64.wrap (a.v1 + r.v1), IntKind.i64.wrap (a.v2 + r.v2), a.a + r.a, a.g⟩, 0)
theorem zEx (x : Int) : -9223372036854775808 ≤ IntKind.i64.wrap x ∧ IntKind.i64.wrap x ≤ 9223372036854775807 := by
 simp only [IntKind.wrap_i64]
 omega
theorem zB2 {a : zX} {r : zAA} (h : zAb r ≠ 0) : zR a r = (zCz, zAb r) := by unfold zR; rw [if_pos h]
theorem zCO {a : zX} {r : zAA} (h : zAb r = 0) (h2 : r.id ≠ a.id ∨ r.k = 0 ∨ r.k = 2) : zR a r = (zCz, 15) := by unfold zR; rw [if_neg (by omega), if_pos h2]
theorem zBd {a : zX} {r : zAA} (h : zAb r = 0) (h2 : ¬ (r.id ≠ a.id ∨ r.k = 0 ∨ r.k = 2)) (h3 : r.k = 3) : zR a r = (⟨a.id, r.p0, r.p1, r.p2, r.v0, r.v1, r.v2, r.a, a.g + 1#8⟩, 0) := by
 unfold zR
 rw [if_neg (by omega), if_neg h2, if_pos h3]
theorem zBf {a : zX} {r : zAA} (h : zAb r = 0) (h2 : ¬ (r.id ≠ a.id ∨ r.k = 0 ∨ r.k = 2)) (h3 : r.k ≠ 3) : zR a r = (⟨a.id, IntKind.i64.wrap (a.p0 + r.p0), IntKind.i64.wrap (a.p1 + r.p1), IntKind.i64.wrap (a.p2 + r.p2), IntKind.i64.wrap (a.v0 + r.v0), IntKind.i64.wrap (a.v1 + r.v1), IntKind.i64.wrap (a.v2 + r.v2), a.a + r.a, a.g⟩, 0) := by
 unfold zR
 rw [if_neg (by omega), if_neg h2, if_neg h3]
end Go.Sx

set_option linter.unusedVariables false
set_option linter.unusedSimpArgs false
namespace Go.Sx
structure zaq where
 k : Int
 m : BitVec 64
 e : BitVec 8
instance : Inhabited zaq := ⟨⟨0, 0#64, 0#8⟩⟩
theorem zAd {α : Type} {g : α → List Value} {size : Nat} (hg : ∀ a, (g a).length = size) : ∀ (l : List α), (l.flatMap g).length = l.length * size
 | [] => by simp
 | a :: l => by rw [List.flatMap_cons, List.length_append, hg, zAd hg l, List.length_cons, Nat.add_mul]; omega
theorem zAo {α : Type} [Inhabited α] {g : α → List Value} {size : Nat} (hg : ∀ a, (g a).length = size) : ∀ (l : List α) (j : Nat), j < l.length → ((l.flatMap g).drop (j * size)).take size = g (l.getD j default)
 | [], j, h => by simp at h
 | a :: l, 0, _ => by
   simp only [Nat.zero_mul, List.drop_zero, List.flatMap_cons, List.getD_cons_zero]
   rw [← hg a, List.take_left']
   rfl
 | a :: l, j + 1, h => by
   have ih := zAo hg l j (by simpa using h)
   rw [List.flatMap_cons, show (j + 1) * size = (g a).length + j * size by rw [hg, Nat.add_mul]; omega, ← List.drop_drop, List.drop_left', List.getD_cons_succ]
   · exact ih
   · rfl
theorem zC3 {α : Type} [Inhabited α] {g : α → List Value} {size : Nat} (hg : ∀ a, (g a).length = size) (l : List α) (j o : Nat) (h : j < l.length) (ho : o < size) : (l.flatMap g)[j * size + o]? = (g (l.getD j default))[o]? := by
 rw [← zAo hg l j h, List.getElem?_take, if_pos ho, List.getElem?_drop]
def Tr (bs : List zO) (u : Value) (p : Nat) (u' : Value) (p' : Nat) : Prop := ∀ w' T, Rd w' T u 1 (bs.length - p) (zC (bs.drop p)) → Rd w' T u' 1 (bs.length - p') (zC (bs.drop p'))
theorem Tr.refl {bs : List zO} {u : Value} {p : Nat} : Tr bs u p u p := fun _ _ h => h
theorem Tr.trans {bs : List zO} {u u2 u3 : Value} {p p2 p3 : Nat} (h : Tr bs u p u2 p2) (h2 : Tr bs u2 p2 u3 p3) : Tr bs u p u3 p3 := fun w T h0 => h2 w T (h w T h0)
theorem zQ1 {b : List zO} (h : b.length = 0) : (zCG b).2.2 = 5 := by rw [zCB h]
theorem zWO {bs : List zO} {k : Nat} (h : (zCG (bs.drop k)).2.2 ≠ 5) : ¬ bs.length ≤ k := fun h2 => h (zQ1 (by simp only [List.length_drop]; omega))
theorem zOL {bs : List zO} {X : BitVec 64} {R : Rs} (h : R.e = 0) (h1 : (zCG (bs.drop R.p)).2.2 = 0) (h2 : (zCG (bs.drop R.p)).1.toNat ≤ X.toNat) : zL bs X R = ((zCG (bs.drop R.p)).1, ⟨R.p + (zCG (bs.drop R.p)).2.1, 0⟩) := by
 have hu : zII (bs.drop R.p) X = 0 := by unfold zII; rw [if_neg (fun h => by omega)]; exact h1
 exact zC1 h (zWO (by omega)) hu
theorem zM5 {bs : List zO} {R : Rs} (h : R.p ≤ bs.length) : (zY bs (zY bs (zY bs R).2).2).2.p ≤ bs.length ∧ R.p ≤ (zY bs (zY bs (zY bs R).2).2).2.p ∧ (zY bs (zY bs (zY bs R).2).2).2.p ≤ R.p + 30 := zVs h
end Go.Sx

set_option linter.unusedVariables false
set_option linter.unusedSimpArgs false
namespace Go.Sx
structure zC2 {α : Type} (bs : List zO) (c : List zO) (f : Rs → α × Rs) (v : α) : Prop where
 stay : ∀ R, R.e = 6 → (f R).2.e = 6
 good : ∀ R n rest, R.e = 0 → R.p ≤ bs.length → bs.drop R.p = (c ++ rest).take n → c.length ≤ n → f R = (v, ⟨R.p + c.length, 0⟩)
 short : ∀ R n rest, R.e = 0 → R.p ≤ bs.length → bs.drop R.p = (c ++ rest).take n → n < c.length → (f R).2.e = 6
theorem zLy {bs c rest : List zO} {p n : Nat} (h : bs.drop p = (c ++ rest).take n) (hn : c.length ≤ n) (hp : p ≤ bs.length) : bs.drop (p + c.length) = rest.take (n - c.length) ∧ p + c.length ≤ bs.length := by
 have h1 : bs.drop (p + c.length) = (bs.drop p).drop c.length := by rw [List.drop_drop]
 have h2 := congrArg List.length h
 simp only [List.length_drop, List.length_take, List.length_append] at h2
 refine ⟨?_, by omega⟩
 rw [h1, h, List.take_append, List.drop_append_of_le_length (by rw [List.length_take]; omega), List.take_of_length_le hn, List.drop_length, List.nil_append]
theorem zC2.bind {α β : Type} {bs c d : List zO} {f : Rs → α × Rs} {g : α → Rs → β × Rs} {v : α} {u : β} (hf : zC2 bs c f v) (hs : ∀ x R, R.e = 6 → (g x R).2.e = 6) (hg : zC2 bs d (g v) u) : zC2 bs (c ++ d) (fun R => g (f R).1 (f R).2) u := by
 refine ⟨fun R h => hs _ _ (hf.stay R h), fun R n rest h0 hp hd hn => ?_, fun R n rest h0 hp hd hn => ?_⟩
 · rw [List.append_assoc] at hd
   rw [List.length_append] at hn
   have h1 := hf.good R n _ h0 hp hd (by omega)
   obtain ⟨h2, h3⟩ := zLy hd (by omega) hp
   rw [h1]
   dsimp only
   rw [hg.good ⟨R.p + c.length, 0⟩ (n - c.length) rest rfl h3 h2 (by omega), List.length_append]
   dsimp only
   rw [Nat.add_assoc]
 · rw [List.append_assoc] at hd
   rw [List.length_append] at hn
   by_cases hc : c.length ≤ n
   · have h1 := hf.good R n _ h0 hp hd hc
     obtain ⟨h2, h3⟩ := zLy hd hc hp
     rw [h1]
     exact hg.short ⟨R.p + c.length, 0⟩ (n - c.length) rest rfl h3 h2 (by omega)
   · exact hs _ _ (hf.short R n _ h0 hp hd (by omega))
theorem zC2.pure {α : Type} {bs : List zO} (v : α) : zC2 bs [] (fun R => (v, R)) v := by
 refine ⟨fun R h => h, fun R n rest h0 hp hd hn => ?_, fun R n rest h0 hp hd hn => ?_⟩
 · cases R; simp at h0; subst h0; rfl
 · simp at hn
theorem zCP {bs : List zO} {X L : BitVec 64} (h : X.toNat ≤ L.toNat) : zC2 bs (zCI X.toNat) (zL bs L) X := by
 have hvp := zCv X.toNat
 have hl : (zCI X.toNat).length = zBP X.toNat := rfl
 refine ⟨fun R h => by rw [zCd (by omega)]; exact h, fun R n rest h0 hp hd hn => ?_, fun R n rest h0 hp hd hn => ?_⟩
 · have hd2 : bs.drop R.p = zCI X.toNat ++ rest.take (n - (zCI X.toNat).length) := by rw [hd, List.take_append, List.take_of_length_le hn]
   have hg := zTR X (rest.take (n - (zCI X.toNat).length))
   rw [← hd2] at hg
   rw [zOL h0 (by rw [hg]) (by rw [hg]; exact h), hg]
   rfl
 · have hd2 : bs.drop R.p = (zCI X.toNat).take n := by rw [hd, List.take_append, show n - (zCI X.toNat).length = 0 by omega]; simp
   by_cases h1 : bs.length ≤ R.p
   · rw [zCM h0 h1]
   · have hn0 : 1 ≤ n := by
       have := congrArg List.length hd2
       simp only [List.length_drop, List.length_take] at this
       omega
     have hg := zRK X n hn0 (by omega)
     rw [← hd2] at hg
     have hu : zII (bs.drop R.p) L = 6 := by unfold zII; rw [hg]; simp
     rw [zDa h0 h1 (by omega), hu]
theorem zGF {bs : List zO} {c : zO} : zC2 bs [c] (zG bs) c := by
 refine ⟨fun R h => by rw [zDg (by omega)]; exact h, fun R n rest h0 hp hd hn => ?_, fun R n rest h0 hp hd hn => ?_⟩
 · have hd2 : bs.drop R.p = c :: rest.take (n - 1) := by
     rw [hd]
     simp only [List.length_singleton] at hn
     rw [show n = (n - 1) + 1 by omega]
     simp
   have hl := congrArg List.length hd2
   simp only [List.length_drop, List.length_cons] at hl
   have hg : bs.getD R.p 0 = c := by
     have := congrArg (fun l : List zO => l.getD 0 0) hd2
     simpa [List.getD_eq_getElem?_getD] using this
   rw [zDe h0 (by omega), hg]
   rfl
 · simp only [List.length_singleton] at hn
   have hn0 : n = 0 := by omega
   subst hn0
   have hl := congrArg List.length hd
   simp at hl
   rw [zDF h0 (by omega)]
theorem zCb {bs : List zO} {x : Int} (h : -9223372036854775808 ≤ x ∧ x ≤ 9223372036854775807) : zC2 bs (zDK x) (zY bs) x := by
 have ht := zCP (bs := bs) (X := zF8 x) (L := 18446744073709551615#64) (by have := (zF8 x).isLt; have h2 : (18446744073709551615#64).toNat = 18446744073709551615 := rfl; omega)
 refine ⟨fun R h => ht.stay R h, fun R n rest h0 hp hd hn => ?_, fun R n rest h0 hp hd hn => ht.short R n rest h0 hp hd hn⟩
 have := ht.good R n rest h0 hp hd hn
 unfold zY
 rw [this, zXA x h]
 rfl
theorem zDo {e : Nat} {R : Rs} (h : R.e = 6) : (zBZ e R).e = 6 := by unfold zBZ; rw [if_neg (by omega)]; exact h
theorem zBe {bs : List zO} {m : BitVec 8} {i : Nat} {R : Rs} (h : R.e = 6) : (upI bs m i R).2.e = 6 := by
 have h1 := (zK0 (bs := bs) (R := R) (by omega)).2.1
 unfold upI
 split
 · dsimp only
   split
   · exact zDo (by omega)
   · omega
 · exact h
theorem zES {bs : List zO} {m : BitVec 8} {R : Rs} (h : R.e = 6) : (upA bs m R).2.e = 6 := by
 have h1 := (zIX (bs := bs) (X := 65535#64) (R := R) (by omega)).2.1
 unfold upA
 split
 · dsimp only
   split
   · exact zDo (by omega)
   · omega
 · exact h
def upC (r : zAA) (i : Nat) : List zO := if r.num i = 0 then [] else zDK (r.num i)
theorem zS4 {bs : List zO} {m : BitVec 8} {r : zAA} {i : Nat} (hm : zBh m i = true ↔ r.num i ≠ 0) (h : -9223372036854775808 ≤ r.num i ∧ r.num i ≤ 9223372036854775807) : zC2 bs (upC r i) (upI bs m i) (r.num i) := by
 by_cases h0 : r.num i = 0
 · have hb : zBh m i = false := by
     cases hb : zBh m i with
     | false => rfl
     | true => exact absurd h0 (hm.1 hb)
   have : upI bs m i = fun R => (0, R) := by
     funext R
     unfold upI
     rw [if_neg (by rw [hb]; decide)]
   rw [this, upC, if_pos h0, h0]
   exact zC2.pure 0
 · have hb := hm.2 h0
   have ht := zCb (bs := bs) h
   rw [upC, if_neg h0]
   refine ⟨fun R h => zBe h, fun R n rest h1 hp hd hn => ?_, fun R n rest h1 hp hd hn => ?_⟩
   · have := ht.good R n rest h1 hp hd hn
     unfold upI
     rw [if_pos hb, this]
     dsimp only
     rw [if_neg h0]
   · have := ht.short R n rest h1 hp hd hn
     unfold upI
     rw [if_pos hb]
     dsimp only
     split
     · exact zDo this
     · exact this
theorem zVc {bs : List zO} {a : BitVec 16} : zC2 bs (zCI a.toNat) (fun R => ((zL bs 65535#64 R).1.setWidth 16, (zL bs 65535#64 R).2)) a := by
 have ht := zCP (bs := bs) (X := a.setWidth 64) (L := 65535#64) (by rw [zTi]; have := a.isLt; have h2 : (65535#64).toNat = 65535 := rfl; omega)
 rw [zTi] at ht
 refine ⟨fun R h => ht.stay R h, fun R n rest h0 hp hd hn => ?_, fun R n rest h0 hp hd hn => ht.short R n rest h0 hp hd hn⟩
 have := ht.good R n rest h0 hp hd hn
 rw [this]
 dsimp only
 congr 1
 apply BitVec.eq_of_toNat_eq
 simp
theorem zPk {bs : List zO} {m : BitVec 8} {a : BitVec 16} (hm : zBh m 6 = true ↔ a ≠ 0#16) : zC2 bs (if a = 0#16 then [] else zCI a.toNat) (upA bs m) a := by
 by_cases h0 : a = 0#16
 · have hb : zBh m 6 = false := by
     cases hb : zBh m 6 with
     | false => rfl
     | true => exact absurd h0 (hm.1 hb)
   have : upA bs m = fun R => (0#16, R) := by
     funext R
     unfold upA
     rw [if_neg (by rw [hb]; decide)]
   rw [this, if_pos h0, h0]
   exact zC2.pure _
 · have hb := hm.2 h0
   rw [if_neg h0]
   have ht := zCP (bs := bs) (X := a.setWidth 64) (L := 65535#64) (by rw [zTi]; have := a.isLt; have h2 : (65535#64).toNat = 65535 := rfl; omega)
   rw [zTi] at ht
   have hne : a.setWidth 64 ≠ 0#64 := fun e => h0 (BitVec.eq_of_toNat_eq (by rw [← zTi a, e]; rfl))
   refine ⟨fun R h => zES h, fun R n rest h1 hp hd hn => ?_, fun R n rest h1 hp hd hn => ?_⟩
   · have := ht.good R n rest h1 hp hd hn
     unfold upA
     rw [if_pos hb, this]
     dsimp only
     rw [if_neg hne]
     congr 1
     apply BitVec.eq_of_toNat_eq
     simp
   · have := ht.short R n rest h1 hp hd hn
     unfold upA
     rw [if_pos hb]
     dsimp only
     split
     · exact zDo this
     · exact this
/-! ### The mask -/
def zEc (b0 b1 b2 b3 b4 b5 b6 : Bool) : BitVec 8 :=
 let m0 := bif b0 then 0#8 ||| (1#8 <<< 0) else 0#8
 let m1 := bif b1 then m0 ||| (1#8 <<< 1) else m0
 let m2 := bif b2 then m1 ||| (1#8 <<< 2) else m1
 let m3 := bif b3 then m2 ||| (1#8 <<< 3) else m2
 let m4 := bif b4 then m3 ||| (1#8 <<< 4) else m3
 let m5 := bif b5 then m4 ||| (1#8 <<< 5) else m4
 bif b6 then m5 ||| 64#8 else m5
theorem zXB {α : Type} {p : Prop} [Decidable p] (x y : α) : (if p then x else y) = bif decide (¬ p) then y else x := by by_cases h : p <;> simp [h]
theorem zVx (r : zAA) : zCS r = zEc (decide (r.p0 ≠ 0)) (decide (r.p1 ≠ 0)) (decide (r.p2 ≠ 0)) (decide (r.v0 ≠ 0)) (decide (r.v1 ≠ 0)) (decide (r.v2 ≠ 0)) (decide (r.a ≠ 0#16)) := by
 simp only [zCS, zAr, zAA.num, zEc, zXB]
theorem zLt : ∀ b0 b1 b2 b3 b4 b5 b6 : Bool, zBh (zEc b0 b1 b2 b3 b4 b5 b6) 0 = b0 ∧ zBh (zEc b0 b1 b2 b3 b4 b5 b6) 1 = b1 ∧ zBh (zEc b0 b1 b2 b3 b4 b5 b6) 2 = b2 ∧ zBh (zEc b0 b1 b2 b3 b4 b5 b6) 3 = b3 ∧ zBh (zEc b0 b1 b2 b3 b4 b5 b6) 4 = b4 ∧ zBh (zEc b0 b1 b2 b3 b4 b5 b6) 5 = b5 ∧ zBh (zEc b0 b1 b2 b3 b4 b5 b6) 6 = b6 ∧ (zEc b0 b1 b2 b3 b4 b5 b6).toNat ≤ 127 ∧ ((zEc b0 b1 b2 b3 b4 b5 b6).toNat = 0 → b0 = false ∧ b1 = false ∧ b2 = false ∧ b3 = false ∧ b4 = false ∧ b5 = false ∧ b6 = false) := by
 intro b0 b1 b2 b3 b4 b5 b6
 cases b0 <;> cases b1 <;> cases b2 <;> cases b3 <;> cases b4 <;> cases b5 <;> cases b6 <;> exact ⟨by decide, by decide, by decide, by decide, by decide, by decide, by decide, by decide, by decide⟩
theorem zPc (r : zAA) : (∀ i, i < 6 → (zBh (zCS r) i = true ↔ r.num i ≠ 0)) ∧ (zBh (zCS r) 6 = true ↔ r.a ≠ 0#16) ∧ (zCS r).toNat ≤ 127 ∧ ((zCS r).toNat = 0 → zBD r = true) := by
 have h := zLt (decide (r.p0 ≠ 0)) (decide (r.p1 ≠ 0)) (decide (r.p2 ≠ 0)) (decide (r.v0 ≠ 0)) (decide (r.v1 ≠ 0)) (decide (r.v2 ≠ 0)) (decide (r.a ≠ 0#16))
 rw [← zVx] at h
 obtain ⟨h0, h1, h2, h3, h4, h5, h6, h7, h8⟩ := h
 refine ⟨fun i hi => ?_, by rw [h6, decide_eq_true_iff], h7, fun hz => ?_⟩
 · match i, hi with
   | 0, _ => rw [h0, decide_eq_true_iff]; rfl
   | 1, _ => rw [h1, decide_eq_true_iff]; rfl
   | 2, _ => rw [h2, decide_eq_true_iff]; rfl
   | 3, _ => rw [h3, decide_eq_true_iff]; rfl
   | 4, _ => rw [h4, decide_eq_true_iff]; rfl
   | 5, _ => rw [h5, decide_eq_true_iff]; rfl
 · obtain ⟨e0, e1, e2, e3, e4, e5, e6⟩ := h8 hz
   simp only [decide_eq_false_iff_not, ne_eq, Decidable.not_not] at e0 e1 e2 e3 e4 e5 e6
   simp [zBD, e0, e1, e2, e3, e4, e5, e6]
/-! ### The bodies -/
theorem zAA.wf.num {r : zAA} (h : r.wf) (i : Nat) : -9223372036854775808 ≤ r.num i ∧ r.num i ≤ 9223372036854775807 := by
 match i with
 | 0 => exact h.p0
 | 1 => exact h.p1
 | 2 => exact h.p2
 | 3 => exact h.v0
 | 4 => exact h.v1
 | _ + 5 => exact h.v2
theorem zAk {bs : List zO} {R : Rs} (h : R.e = 6) : (zY bs R).2.e = 6 := by have := (zK0 (bs := bs) (R := R) (by omega)).2.1; omega
theorem zDA {bs : List zO} {X : BitVec 64} {R : Rs} (h : R.e = 6) : (zL bs X R).2.e = 6 := by have := (zIX (bs := bs) (X := X) (R := R) (by omega)).2.1; omega
theorem zKF {bs : List zO} {R : Rs} (h : R.e = 6) : (zG bs R).2.e = 6 := by have := (zOH (bs := bs) (R := R) (by omega)).2.1; omega
theorem zPE {bs : List zO} {r : zAA} (hw : r.wf) : zC2 bs (zBV r) (zB7 bs r.k r.id) r := by
 have h6 := (zVc (bs := bs) (a := r.a)).bind (g := fun x R => ((⟨r.k, r.id, r.p0, r.p1, r.p2, r.v0, r.v1, r.v2, x⟩ : zAA), R)) (fun x R h => h) (zC2.pure _)
 have h5 := (zCb (bs := bs) hw.v2).bind (g := fun x R => ((⟨r.k, r.id, r.p0, r.p1, r.p2, r.v0, r.v1, x, (zL bs 65535#64 R).1.setWidth 16⟩ : zAA), (zL bs 65535#64 R).2)) (fun x R h => zDA h) h6
 have h4 := (zCb (bs := bs) hw.v1).bind (g := fun x R => ((⟨r.k, r.id, r.p0, r.p1, r.p2, r.v0, x, (zY bs R).1, (zL bs 65535#64 (zY bs R).2).1.setWidth 16⟩ : zAA), (zL bs 65535#64 (zY bs R).2).2)) (fun x R h => zDA (zAk h)) h5
 have h3 := (zCb (bs := bs) hw.v0).bind (g := fun x R => ((⟨r.k, r.id, r.p0, r.p1, r.p2, x, (zY bs R).1, (zY bs (zY bs R).2).1, (zL bs 65535#64 (zY bs (zY bs R).2).2).1.setWidth 16⟩ : zAA), (zL bs 65535#64 (zY bs (zY bs R).2).2).2)) (fun x R h => zDA (zAk (zAk h))) h4
 have h2 := (zCb (bs := bs) hw.p2).bind (g := fun x R => ((⟨r.k, r.id, r.p0, r.p1, x, (zY bs R).1, (zY bs (zY bs R).2).1, (zY bs (zY bs (zY bs R).2).2).1, (zL bs 65535#64 (zY bs (zY bs (zY bs R).2).2).2).1.setWidth 16⟩ : zAA), (zL bs 65535#64 (zY bs (zY bs (zY bs R).2).2).2).2)) (fun x R h => zDA (zAk (zAk (zAk h)))) h3
 have h1 := (zCb (bs := bs) hw.p1).bind (g := fun x R => ((⟨r.k, r.id, r.p0, x, (zY bs R).1, (zY bs (zY bs R).2).1, (zY bs (zY bs (zY bs R).2).2).1, (zY bs (zY bs (zY bs (zY bs R).2).2).2).1, (zL bs 65535#64 (zY bs (zY bs (zY bs (zY bs R).2).2).2).2).1.setWidth 16⟩ : zAA), (zL bs 65535#64 (zY bs (zY bs (zY bs (zY bs R).2).2).2).2).2)) (fun x R h => zDA (zAk (zAk (zAk (zAk h))))) h2
 have h0 := (zCb (bs := bs) hw.p0).bind (g := fun x R => ((⟨r.k, r.id, x, (zY bs R).1, (zY bs (zY bs R).2).1, (zY bs (zY bs (zY bs R).2).2).1, (zY bs (zY bs (zY bs (zY bs R).2).2).2).1, (zY bs (zY bs (zY bs (zY bs (zY bs R).2).2).2).2).1, (zL bs 65535#64 (zY bs (zY bs (zY bs (zY bs (zY bs R).2).2).2).2).2).1.setWidth 16⟩ : zAA), (zL bs 65535#64 (zY bs (zY bs (zY bs (zY bs (zY bs R).2).2).2).2).2).2)) (fun x R h => zDA (zAk (zAk (zAk (zAk (zAk h)))))) h1
 have e : zB7 bs r.k r.id = fun R => ((⟨r.k, r.id, (zY bs R).1, (zY bs (zY bs R).2).1, (zY bs (zY bs (zY bs R).2).2).1, (zY bs (zY bs (zY bs (zY bs R).2).2).2).1, (zY bs (zY bs (zY bs (zY bs (zY bs R).2).2).2).2).1, (zY bs (zY bs (zY bs (zY bs (zY bs (zY bs R).2).2).2).2).2).1, (zL bs 65535#64 (zY bs (zY bs (zY bs (zY bs (zY bs (zY bs R).2).2).2).2).2).2).1.setWidth 16⟩ : zAA), (zL bs 65535#64 (zY bs (zY bs (zY bs (zY bs (zY bs (zY bs R).2).2).2).2).2).2).2) := by
   funext R
   simp only [zB7, nX, nS]
 rw [e]
 simpa [zBV, List.append_assoc] using h0
end Go.Sx

set_option linter.unusedVariables false
set_option linter.unusedSimpArgs false
namespace Go.Sx
theorem zPQ {bs : List zO} {m : BitVec 8} {R : Rs} (h : R.e = 6) : ∀ i, (upS bs m R i).e = 6
 | 0 => h
 | i + 1 => zBe (zPQ h i)
def zLo (bs : List zO) (k id : Int) (m : BitVec 8) (R : Rs) : zAA × Rs :=
 if m.toNat = 0 ∨ 127 < m.toNat then (⟨k, id, 0, 0, 0, 0, 0, 0, 0#16⟩, zBZ 7 R)
 else (⟨k, id, upX bs m R 0, upX bs m R 1, upX bs m R 2, upX bs m R 3, upX bs m R 4, upX bs m R 5, (upA bs m (upS bs m R 6)).1⟩, (upA bs m (upS bs m R 6)).2)
theorem zIt (bs : List zO) (k id : Int) : zA0 bs k id = fun R => zLo bs k id (zG bs R).1 (zG bs R).2 := by
 funext R
 unfold zA0 zLo
 rfl
theorem zLT {bs : List zO} {k id : Int} {m : BitVec 8} {R : Rs} (h : R.e = 6) : (zLo bs k id m R).2.e = 6 := by
 unfold zLo
 split
 · exact zDo h
 · exact zES (zPQ h 6)
theorem zJe (r : zAA) : zAV r 6 = upC r 0 ++ (upC r 1 ++ (upC r 2 ++ (upC r 3 ++ (upC r 4 ++ upC r 5)))) := by
 have h : ∀ i, zAV r (i + 1) = zAV r i ++ upC r i := fun i => by
   show (if r.num i = 0 then _ else _) = _
   unfold upC
   split <;> simp
 rw [h 5, h 4, h 3, h 2, h 1, h 0]
 simp [zAV]
def upW (r : zAA) : List zO := if r.a = 0#16 then [] else zCI r.a.toNat
theorem zN5 (r : zAA) : zBE r = [zCS r] ++ (upC r 0 ++ (upC r 1 ++ (upC r 2 ++ (upC r 3 ++ (upC r 4 ++ (upC r 5 ++ upW r)))))) := by
 unfold zBE zGJ upW
 rw [zJe]
 split <;> simp
theorem zOC {bs : List zO} {r : zAA} (hw : r.wf) (hne : zBD r = false) : zC2 bs (zBE r) (zA0 bs r.k r.id) r := by
 obtain ⟨hb, h6, h7, h8⟩ := zPc r
 have hm0 : ¬ ((zCS r).toNat = 0 ∨ 127 < (zCS r).toNat) := by
   rintro (h | h)
   · rw [h8 h] at hne; cases hne
   · omega
 rw [zN5, zIt]
 refine zGF.bind (g := fun m R => zLo bs r.k r.id m R) (fun x R h => zLT h) ?_
 generalize hM : zCS r = m at *
 have e : (fun R => zLo bs r.k r.id m R) = fun R => (⟨r.k, r.id, (upI bs m 0 R).1, (upI bs m 1 (upI bs m 0 R).2).1, (upI bs m 2 (upI bs m 1 (upI bs m 0 R).2).2).1, (upI bs m 3 (upI bs m 2 (upI bs m 1 (upI bs m 0 R).2).2).2).1, (upI bs m 4 (upI bs m 3 (upI bs m 2 (upI bs m 1 (upI bs m 0 R).2).2).2).2).1, (upI bs m 5 (upI bs m 4 (upI bs m 3 (upI bs m 2 (upI bs m 1 (upI bs m 0 R).2).2).2).2).2).1, (upA bs m (upI bs m 5 (upI bs m 4 (upI bs m 3 (upI bs m 2 (upI bs m 1 (upI bs m 0 R).2).2).2).2).2).2).1⟩, (upA bs m (upI bs m 5 (upI bs m 4 (upI bs m 3 (upI bs m 2 (upI bs m 1 (upI bs m 0 R).2).2).2).2).2).2).2) := by
   funext R
   unfold zLo
   rw [if_neg hm0]
   rfl
 rw [e]
 have hn := fun i hi => zS4 (bs := bs) (hb i hi) (hw.num i)
 have q6 := (zPk (bs := bs) h6).bind (g := fun x R => ((⟨r.k, r.id, r.p0, r.p1, r.p2, r.v0, r.v1, r.v2, x⟩ : zAA), R)) (fun x R h => h) (zC2.pure _)
 have q5 := (hn 5 (by omega)).bind (g := fun x R => ((⟨r.k, r.id, r.p0, r.p1, r.p2, r.v0, r.v1, x, (upA bs m R).1⟩ : zAA), (upA bs m R).2)) (fun x R h => zES h) q6
 have q4 := (hn 4 (by omega)).bind (g := fun x R => ((⟨r.k, r.id, r.p0, r.p1, r.p2, r.v0, x, (upI bs m 5 R).1, (upA bs m (upI bs m 5 R).2).1⟩ : zAA), (upA bs m (upI bs m 5 R).2).2)) (fun x R h => zES (zBe h)) q5
 have q3 := (hn 3 (by omega)).bind (g := fun x R => ((⟨r.k, r.id, r.p0, r.p1, r.p2, x, (upI bs m 4 R).1, (upI bs m 5 (upI bs m 4 R).2).1, (upA bs m (upI bs m 5 (upI bs m 4 R).2).2).1⟩ : zAA), (upA bs m (upI bs m 5 (upI bs m 4 R).2).2).2)) (fun x R h => zES (zBe (zBe h))) q4
 have q2 := (hn 2 (by omega)).bind (g := fun x R => ((⟨r.k, r.id, r.p0, r.p1, x, (upI bs m 3 R).1, (upI bs m 4 (upI bs m 3 R).2).1, (upI bs m 5 (upI bs m 4 (upI bs m 3 R).2).2).1, (upA bs m (upI bs m 5 (upI bs m 4 (upI bs m 3 R).2).2).2).1⟩ : zAA), (upA bs m (upI bs m 5 (upI bs m 4 (upI bs m 3 R).2).2).2).2)) (fun x R h => zES (zBe (zBe (zBe h)))) q3
 have q1 := (hn 1 (by omega)).bind (g := fun x R => ((⟨r.k, r.id, r.p0, x, (upI bs m 2 R).1, (upI bs m 3 (upI bs m 2 R).2).1, (upI bs m 4 (upI bs m 3 (upI bs m 2 R).2).2).1, (upI bs m 5 (upI bs m 4 (upI bs m 3 (upI bs m 2 R).2).2).2).1, (upA bs m (upI bs m 5 (upI bs m 4 (upI bs m 3 (upI bs m 2 R).2).2).2).2).1⟩ : zAA), (upA bs m (upI bs m 5 (upI bs m 4 (upI bs m 3 (upI bs m 2 R).2).2).2).2).2)) (fun x R h => zES (zBe (zBe (zBe (zBe h))))) q2
 have q0 := (hn 0 (by omega)).bind (g := fun x R => ((⟨r.k, r.id, x, (upI bs m 1 R).1, (upI bs m 2 (upI bs m 1 R).2).1, (upI bs m 3 (upI bs m 2 (upI bs m 1 R).2).2).1, (upI bs m 4 (upI bs m 3 (upI bs m 2 (upI bs m 1 R).2).2).2).1, (upI bs m 5 (upI bs m 4 (upI bs m 3 (upI bs m 2 (upI bs m 1 R).2).2).2).2).1, (upA bs m (upI bs m 5 (upI bs m 4 (upI bs m 3 (upI bs m 2 (upI bs m 1 R).2).2).2).2).2).1⟩ : zAA), (upA bs m (upI bs m 5 (upI bs m 4 (upI bs m 3 (upI bs m 2 (upI bs m 1 R).2).2).2).2).2).2)) (fun x R h => zES (zBe (zBe (zBe (zBe (zBe h)))))) q1
 simpa [upW, zAA.num] using q0
theorem zOW {r : zAA} (h : zBD r = true) : r = ⟨r.k, r.id, 0, 0, 0, 0, 0, 0, 0#16⟩ := by
 simp only [zBD, Bool.and_eq_true, beq_iff_eq] at h
 obtain ⟨⟨⟨⟨⟨⟨e0, e1⟩, e2⟩, e3⟩, e4⟩, e5⟩, e6⟩ := h
 have e6' := zQ4 e6
 cases r
 simp_all
theorem zEf {r : zAA} (h : zAb r = 0) : 0 ≤ r.k ∧ r.k ≤ 3 ∧ 0 ≤ r.id ∧ r.id ≤ 65535 ∧ (r.k = 1 → zBD r = false) ∧ (r.k = 2 → zBD r = true) := by
 unfold zAb at h
 split at h
 · cases h
 · split at h
   · cases h
   · split at h
     · cases h
     · rename_i h1 h2 h3
       refine ⟨by omega, by omega, by omega, by omega, fun hk => ?_, fun hk => ?_⟩
       · cases he : zBD r with
         | false => rfl
         | true => exact absurd (.inl ⟨hk, he⟩) h3
       · cases he : zBD r with
         | true => rfl
         | false => exact absurd (.inr ⟨hk, he⟩) h3
theorem zRJ {bs : List zO} {k id : Int} {R : Rs} (h : R.e = 6) : (zB7 bs k id R).2.e = 6 := by
 simp only [zB7, nS]
 exact zDA (zAk (zAk (zAk (zAk (zAk (zAk h))))))
theorem zIW {bs : List zO} {k id : Int} {R : Rs} (h : R.e = 6) : (zA4 bs k id R).2.e = 6 := by
 unfold zA4
 split
 · exact zRJ h
 · split
   · rw [zIt]; exact zLT (zKF h)
   · split
     · exact h
     · exact zDo h
theorem zNn {bs : List zO} {r : zAA} (hw : r.wf) (hc : zAb r = 0) : zC2 bs (zD9 r) (zA4 bs r.k r.id) r := by
 obtain ⟨h1, h2, h3, h4, h5, h6⟩ := zEf hc
 by_cases hk1 : r.k = 1
 · have : zA4 bs r.k r.id = zA0 bs r.k r.id := by funext R; exact zH6 hk1
   rw [this, zD9, if_pos hk1]
   exact zOC hw (h5 hk1)
 · by_cases hk2 : r.k = 2
   · have : zA4 bs r.k r.id = fun R => (r, R) := by
       funext R
       rw [zH8 hk2]
       exact congrArg (·, R) (zOW (h6 hk2)).symm
     rw [this, zD9, if_neg hk1, if_pos hk2]
     exact zC2.pure r
   · have : zA4 bs r.k r.id = zB7 bs r.k r.id := by funext R; exact zGT (by omega)
     rw [this, zD9, if_neg hk1, if_neg hk2]
     exact zPE hw
theorem zGf {r : zAA} {last : Int} (h : zAv r last = 0) : zAb r = 0 ∧ -1 ≤ last ∧ last ≤ 65535 ∧ last < r.id := by
 unfold zAv at h
 split at h
 · omega
 · split at h
   · cases h
   · split at h
     · cases h
     · omega
theorem zPl {bs : List zO} {r : zAA} {last : Int} (hw : r.wf) (he : zAv r last = 0) : zC2 bs (zCY r last) (zEJ bs last) r := by
 obtain ⟨hc, h1, h2, h3⟩ := zGf he
 obtain ⟨c1, c2, c3, c4, _, _⟩ := zEf hc
 have hX : (((BitVec.ofInt 64 (r.id - last - 1)).toNat : Nat) : Int) = r.id - last - 1 := zDv (by omega) (by omega)
 have hL : (((BitVec.ofInt 64 (65534 - last)).toNat : Nat) : Int) = 65534 - last := zDv (by omega) (by omega)
 have hk : (((BitVec.ofInt 8 r.k).toNat : Nat) : Int) = r.k := by rw [BitVec.toNat_ofInt]; omega
 rw [zCY, if_neg (by omega), zAR, List.append_assoc]
 have q2 := zNn (bs := bs) hw hc
 have e2 : zA4 bs r.k r.id = (fun (x : zO) R => zA4 bs (((x.toNat : Nat) : Int)) (last + 1 + (((BitVec.ofInt 64 (r.id - last - 1)).toNat : Nat) : Int)) R) (BitVec.ofInt 8 r.k) := by
   funext R
   dsimp only
   rw [hk, hX, show last + 1 + (r.id - last - 1) = r.id by omega]
 rw [e2] at q2
 have q1 := (zGF (bs := bs) (c := BitVec.ofInt 8 r.k)).bind (g := fun (x : zO) R => zA4 bs ((x.toNat : Nat) : Int) (last + 1 + (((BitVec.ofInt 64 (r.id - last - 1)).toNat : Nat) : Int)) R) (fun x R h => zIW h) q2
 have q0 := (zCP (bs := bs) (X := BitVec.ofInt 64 (r.id - last - 1)) (L := BitVec.ofInt 64 (65534 - last)) (by omega)).bind
   (g := fun X R => zA4 bs (((zG bs R).1.toNat : Nat) : Int) (last + 1 + ((X.toNat : Nat) : Int)) (zG bs R).2) (fun x R h => zIW (zKF h)) q1
 exact q0
theorem zVm {bs rest : List zO} {r : zAA} {last : Int} {p n : Nat} (hw : r.wf) (he : zAv r last = 0) (hp : p ≤ bs.length) (hd : bs.drop p = (zCY r last ++ rest).take n) :
   ((zCY r last).length ≤ n → zAC bs last ⟨p, 0⟩ = (r, 0, ⟨p + (zCY r last).length, 0⟩)) ∧ (n < (zCY r last).length → (zAC bs last ⟨p, 0⟩).1 = zOd ∧ (zAC bs last ⟨p, 0⟩).2.1 = 6) := by
 have ht := zPl (bs := bs) hw he
 obtain ⟨hc, h1, h2, h3⟩ := zGf he
 obtain ⟨c1, c2, c3, c4, _, _⟩ := zEf hc
 refine ⟨fun hn => ?_, fun hn => ?_⟩
 · exact zE6 (by omega) (by omega) (ht.good ⟨p, 0⟩ n rest rfl hp hd hn) rfl
 · have h6 := ht.short ⟨p, 0⟩ n rest rfl hp hd hn
   rw [zDb (rr := (zEJ bs last ⟨p, 0⟩).1) (RR := (zEJ bs last ⟨p, 0⟩).2) (by omega) (by omega) rfl (by omega)]
   exact ⟨rfl, h6⟩
theorem zVT {bs rest : List zO} {r : zAA} {last : Int} {p : Nat} (hw : r.wf) (he : zAv r last = 0) (hp : p ≤ bs.length) (hd : bs.drop p = zCY r last ++ rest) : zAC bs last ⟨p, 0⟩ = (r, 0, ⟨p + (zCY r last).length, 0⟩) :=
 (zVm (n := (zCY r last ++ rest).length) hw he hp (by rw [List.take_length]; exact hd)).1 (by simp)
/-! ### The other way about -/
end Go.Sx

set_option linter.unusedVariables false
set_option linter.unusedSimpArgs false
namespace Go.Sx
theorem zIf {bs : List zO} {R : Rs} (i : Nat) : -9223372036854775808 ≤ nX bs R i ∧ nX bs R i ≤ 9223372036854775807 := by
 unfold nX zY
 exact zFj _
theorem zTd {bs : List zO} {k id : Int} {R : Rs} (hk : -9223372036854775808 ≤ k ∧ k ≤ 9223372036854775807) (hi : -9223372036854775808 ≤ id ∧ id ≤ 9223372036854775807) : (zB7 bs k id R).1.wf := by
 unfold zB7
 dsimp only
 exact ⟨hk, hi, zIf (bs := bs) (R := R) 0, zIf (bs := bs) (R := R) 1, zIf (bs := bs) (R := R) 2, zIf (bs := bs) (R := R) 3, zIf (bs := bs) (R := R) 4, zIf (bs := bs) (R := R) 5⟩
theorem zGG {bs : List zO} {m : BitVec 8} {R : Rs} (i : Nat) : -9223372036854775808 ≤ upX bs m R i ∧ upX bs m R i ≤ 9223372036854775807 := by
 unfold upX upI
 split
 · unfold zY
   exact zFj _
 · show -9223372036854775808 ≤ (0 : Int) ∧ (0 : Int) ≤ 9223372036854775807
   decide
theorem zPL {bs : List zO} {k id : Int} {R : Rs} (hk : -9223372036854775808 ≤ k ∧ k ≤ 9223372036854775807) (hi : -9223372036854775808 ≤ id ∧ id ≤ 9223372036854775807) : (zA0 bs k id R).1.wf := by
 have hz : -9223372036854775808 ≤ (0 : Int) ∧ (0 : Int) ≤ 9223372036854775807 := by decide
 unfold zA0
 dsimp only
 split
 · exact ⟨hk, hi, hz, hz, hz, hz, hz, hz⟩
 · exact ⟨hk, hi, zGG 0, zGG 1, zGG 2, zGG 3, zGG 4, zGG 5⟩
theorem zRN {bs : List zO} {k id : Int} {R : Rs} (hk : -9223372036854775808 ≤ k ∧ k ≤ 9223372036854775807) (hi : -9223372036854775808 ≤ id ∧ id ≤ 9223372036854775807) : (zA4 bs k id R).1.wf ∧ (zA4 bs k id R).1.k = k ∧ (zA4 bs k id R).1.id = id := by
 have hz : -9223372036854775808 ≤ (0 : Int) ∧ (0 : Int) ≤ 9223372036854775807 := by decide
 unfold zA4
 split
 · exact ⟨zTd hk hi, rfl, rfl⟩
 · split
   · refine ⟨zPL hk hi, ?_, ?_⟩ <;> (unfold zA0; dsimp only; split <;> rfl)
   · split <;> exact ⟨⟨hk, hi, hz, hz, hz, hz, hz, hz⟩, rfl, rfl⟩
theorem zLp : zOd.wf := ⟨by decide, by decide, by decide, by decide, by decide, by decide, by decide, by decide⟩
theorem zUa {bs : List zO} {last : Int} {R : Rs} (hp : R.p ≤ bs.length) : (zAC bs last R).1.wf := by
 unfold zAC
 split
 · exact zLp
 · split
   · exact zLp
   · split
     · exact zLp
     · rename_i h1 h2 h3
       have h4 := zQR (bs := bs) (last := last) hp (by omega) (by omega)
       have h5 := (zG bs (zRR bs last R).2).1.isLt
       exact (zRN (by omega) (by change _ ≤ last + 1 + (((zL bs (BitVec.ofInt 64 (65534 - last)) R).1.toNat : Nat) : Int) ∧ last + 1 + (((zL bs (BitVec.ofInt 64 (65534 - last)) R).1.toNat : Nat) : Int) ≤ _; omega)).1
end Go.Sx
