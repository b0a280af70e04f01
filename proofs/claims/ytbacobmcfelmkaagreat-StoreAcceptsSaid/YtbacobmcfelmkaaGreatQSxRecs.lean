/- Texts of the small logic, one behind the other: SxPvar, SxPrd, SxPrec, SxPrecR, SxPent, SxRrd, SxPrecL, SxPrecM, SxPrecB. -/
import Derived.Test.YtbacobmcfelmkaaGreatQSxBasA
import Derived.Test.YtbacobmcfelmkaaGreatQSxBasB
set_option linter.unusedVariables false
set_option linter.unusedSimpArgs false
namespace Go.Sx

def zBs (x : Nat) : Nat := if x = 0 then 0 else Nat.log2 x + 1
theorem zF1 {x k : Nat} (h : x < 2 ^ k) : zBs x ≤ k := by
 unfold zBs
 split
 · omega
 · rename_i h0
   have := (Nat.log2_lt h0).2 h
   omega
theorem zKq {x k : Nat} (h : 2 ^ k ≤ x) : k < zBs x := by
 unfold zBs
 have h0 : x ≠ 0 := by have := Nat.two_pow_pos k; omega
 rw [if_neg h0]
 have := (Nat.le_log2 h0).2 h
 omega
theorem zJ0 {x k : Nat} (h1 : x < 2 ^ (k + 1)) (h2 : 2 ^ k ≤ x) : zBs x = k + 1 := by
 have := zF1 h1
 have := zKq h2
 omega
theorem zG3 {x : Nat} (k : Nat) (h : 2 ^ k ≤ x) : zBs x = k + zBs (x / 2 ^ k) := by
 have hp := Nat.two_pow_pos k
 have hq : 1 ≤ x / 2 ^ k := (Nat.le_div_iff_mul_le hp).2 (by omega)
 have h0 : x / 2 ^ k ≠ 0 := by omega
 have hb : zBs (x / 2 ^ k) = Nat.log2 (x / 2 ^ k) + 1 := by unfold zBs; rw [if_neg h0]
 have l1 := Nat.log2_self_le h0
 have l2 := Nat.lt_log2_self (n := x / 2 ^ k)
 rw [hb]
 refine (zJ0 (k := k + Nat.log2 (x / 2 ^ k)) ?_ ?_).trans (by omega)
 · rw [Nat.add_assoc, Nat.pow_add]
   rw [Nat.mul_comm]
   exact (Nat.div_lt_iff_lt_mul hp).1 l2
 · rw [Nat.pow_add, Nat.mul_comm]
   exact (Nat.le_div_iff_mul_le hp).1 l1
def zGS : Nat → Nat → List zR
 | 0, x => [BitVec.ofNat 8 x]
 | k + 1, x => if x < 128 then [BitVec.ofNat 8 x] else BitVec.ofNat 8 (x % 128 + 128) :: zGS k (x / 128)
def zDL (x : Nat) : List zR := zGS 9 x
def zCe (x : Nat) : Nat := (zDL x).length
theorem zIm : ∀ (k j x : Nat), x < 128 ^ (k + 1) → zGS (k + j) x = zGS k x
 | 0, 0, x, _ => rfl
 | 0, j + 1, x, h => by rw [Nat.zero_add]; simp only [zGS]; rw [if_pos (by simpa using h)]
 | k + 1, j, x, h => by
   rw [show k + 1 + j = (k + j) + 1 by omega]
   simp only [zGS]
   by_cases hx : x < 128
   · rw [if_pos hx, if_pos hx]
   · rw [if_neg hx, if_neg hx, zIm k j (x / 128) (by rw [Nat.div_lt_iff_lt_mul (by omega)]; rw [Nat.pow_succ] at h; exact h)]
theorem zFA {x : Nat} (h : x < 128) : zDL x = [BitVec.ofNat 8 x] := by unfold zDL; simp only [zGS]; rw [if_pos h]
theorem zF6 {x : Nat} (h : ¬ x < 128) (hx : x < 2 ^ 64) : zDL x = BitVec.ofNat 8 (x % 128 + 128) :: zDL (x / 128) := by
 unfold zDL
 rw [show (9 : Nat) = 8 + 1 by rfl]
 rw [show zGS (8 + 1) x = BitVec.ofNat 8 (x % 128 + 128) :: zGS 8 (x / 128) by simp only [zGS]; rw [if_neg h]]
 rw [zIm 8 1 (x / 128) (by rw [Nat.div_lt_iff_lt_mul (by omega)]; omega)]
theorem zL1 : ∀ (k x : Nat), (zGS k x).length ≤ k + 1
 | 0, x => by simp [zGS]
 | k + 1, x => by
   simp only [zGS]
   split
   · simp
   · have := zL1 k (x / 128)
     simp; omega
theorem zCJ (x : Nat) : zCe x ≤ 10 := zL1 9 x
theorem zES (x : Nat) : 1 ≤ zCe x := by
 unfold zCe zDL
 simp only [zGS]
 split <;> simp
theorem zFD {x : Nat} (h : x < 128) : zCe x = 1 := by unfold zCe; rw [zFA h]; rfl
theorem zFx {x : Nat} (h : ¬ x < 128) (hx : x < 2 ^ 64) : zCe x = zCe (x / 128) + 1 := by unfold zCe; rw [zF6 h hx]; simp
theorem zKe {x : Nat} (h : x < 128) : zBs x ≤ 7 := zF1 (k := 7) h
theorem zS6 : ∀ (d x : Nat), x < 2 ^ 64 → x ≤ d → zCe x = (max 1 (zBs x) + 6) / 7 := by
 intro d
 induction d using Nat.strongRecOn with
 | _ d ih =>
   intro x hx hd
   by_cases h : x < 128
   · rw [zFD h]
     have := zKe h
     omega
   · have h2 := zG3 (x := x) 7 (by omega)
     rw [show (2 : Nat) ^ 7 = 128 by rfl] at h2
     have h3 : 1 ≤ zBs (x / 128) := zKq (k := 0) (by omega)
     rw [zFx h hx, ih (x / 128) (by omega) (x / 128) (by omega) (Nat.le_refl _), h2]
     omega
theorem zRG (X : BitVec 64) : (max 1 ((zBs X.toNat : Nat) : Int) + 7 - 1) / 7 = ((zCe X.toNat : Nat) : Int) := by
 rw [zS6 X.toNat X.toNat X.isLt (Nat.le_refl _)]
 omega
def zK1 (X : BitVec 64) (m : Nat) : Nat → List zR
 | 0 => List.replicate m 0#8
 | k + 1 => (zK1 X m k).set k ((X >>> (7 * k)).setWidth 8 ||| 128#8)
theorem zDb (X : BitVec 64) (m : Nat) : ∀ k, (zK1 X m k).length = m
 | 0 => by simp [zK1]
 | k + 1 => by simp [zK1, zDb X m k]
theorem zJY (X : BitVec 64) (m : Nat) : ∀ (k i : Nat), i < k → i < m → (zK1 X m k)[i]? = some ((X >>> (7 * i)).setWidth 8 ||| 128#8)
 | 0, i, h, _ => by omega
 | k + 1, i, h, hm => by
   simp only [zK1]
   by_cases e : k = i
   · subst e
     rw [List.getElem?_set_self (by rw [zDb]; exact hm)]
   · rw [List.getElem?_set_ne e]
     exact zJY X m k i (by omega) hm
theorem zSX (c : zR) : (c ||| 128#8).toNat = c.toNat % 128 + 128 := by
 have : ∀ c : BitVec 8, (c ||| 128#8).toNat = c.toNat % 128 + 128 := by decide +kernel
 exact this c
theorem zLM (c : zR) : (c &&& ~~~128#8).toNat = c.toNat % 128 := by
 have : ∀ c : BitVec 8, (c &&& ~~~128#8).toNat = c.toNat % 128 := by decide +kernel
 exact this c
theorem zG1 (X : BitVec 64) (i : Nat) : ((X >>> (7 * i)).setWidth 8).toNat = X.toNat / 2 ^ (7 * i) % 256 := by
 rw [BitVec.toNat_setWidth, BitVec.toNat_ushiftRight, Nat.shiftRight_eq_div_pow]
theorem zQn : ∀ (n i x : Nat), zCe x = n → x < 2 ^ 64 → i < n → (zDL x)[i]? = some (if i + 1 = n then BitVec.ofNat 8 (x / 128 ^ i) else BitVec.ofNat 8 (x / 128 ^ i % 128 + 128)) := by
 intro n
 induction n with
 | zero => intro i x _ _ h; omega
 | succ n ih =>
   intro i x hn hx hi
   by_cases h : x < 128
   · have h1 := zFD h
     have : n = 0 := by omega
     subst this
     have : i = 0 := by omega
     subst this
     rw [zFA h]
     simp
   · have h1 := zFx h hx
     have hpos := zES (x / 128)
     rw [zF6 h hx]
     cases i with
     | zero =>
       rw [if_neg (by omega)]
       simp
     | succ i =>
       rw [List.getElem?_cons_succ, ih i (x / 128) (by omega) (by omega) (by omega)]
       rw [Nat.div_div_eq_div_mul, show 128 * 128 ^ i = 128 ^ (i + 1) by rw [Nat.pow_succ, Nat.mul_comm]]
       by_cases e : i + 1 = n
       · rw [if_pos e, if_pos (by omega)]
       · rw [if_neg e, if_neg (by omega)]
theorem zVq (i : Nat) : (2 : Nat) ^ (7 * i) = 128 ^ i := by rw [Nat.pow_mul]
theorem zSH (n x : Nat) (hn : zCe x = n + 1) (hx : x < 2 ^ 64) : x / 128 ^ n < 128 := by
 induction n generalizing x with
 | zero =>
   by_cases h : x < 128
   · simpa using h
   · have := zFx h hx; have := zES (x / 128); omega
 | succ n ih =>
   by_cases h : x < 128
   · have := zFD h; omega
   · have := zFx h hx
     have := ih (x / 128) (by omega) (by omega)
     rwa [Nat.div_div_eq_div_mul, show 128 * 128 ^ n = 128 ^ (n + 1) by rw [Nat.pow_succ, Nat.mul_comm]] at this
theorem zU3 (X : BitVec 64) (m : Nat) (hm : zCe X.toNat = m) : (zK1 X m m).set (m - 1) ((zK1 X m m).getD (m - 1) 0 &&& ~~~128#8) = zDL X.toNat := by
 have hpos := zES X.toNat
 have hlen : (zDL X.toNat).length = m := hm
 apply List.ext_getElem?
 intro i
 by_cases hi : i < m
 · rw [zQn m i X.toNat hm X.isLt hi]
   by_cases e : m - 1 = i
   · subst e
     rw [List.getElem?_set_self (by rw [zDb]; exact hi), if_pos (by omega)]
     have hg := zJY X m m (m - 1) (by omega) hi
     have ht := zSH (m - 1) X.toNat (by omega) X.isLt
     congr 1
     apply BitVec.eq_of_toNat_eq
     rw [zLM, List.getD_eq_getElem?_getD, hg, Option.getD_some, zSX, zG1, zVq, BitVec.toNat_ofNat]
     generalize X.toNat / 128 ^ (m - 1) = q at *
     omega
   · rw [List.getElem?_set_ne e, zJY X m m i hi hi, if_neg (by omega)]
     congr 1
     apply BitVec.eq_of_toNat_eq
     rw [zSX, zG1, zVq, BitVec.toNat_ofNat]
     omega
 · rw [List.getElem?_eq_none (by rw [List.length_set, zDb]; omega), List.getElem?_eq_none (by omega)]
/-! ### What is got -/
def zEX : List zR → Nat
 | [] => 0
 | c :: l => c.toNat % 128 + 128 * zEX l
def zBf : Nat → List zR → Nat
 | 0, _ => 0
 | _, [] => 0
 | k + 1, c :: l => if 128 ≤ c.toNat then zBf k l + 1 else 0
def zBu (b : List zR) : BitVec 64 × Nat × Nat :=
 if b.length = 0 then (0#64, 0, 5) else if zBf 10 b = 10 then (0#64, 0, 8) else if zBf 10 b = b.length then (0#64, 0, 6)
 else if zBf 10 b = 9 ∧ 1 < (b.getD (zBf 10 b) 0).toNat then (0#64, 0, 8)
 else if (b.getD (zBf 10 b) 0).toNat = 0 ∧ 0 < zBf 10 b then (0#64, 0, 7)
 else (BitVec.ofNat 64 (zEX (b.take (zBf 10 b + 1))), zBf 10 b + 1, 0)
theorem zGN : ∀ (k : Nat) (b : List zR), zBf k b ≤ k ∧ zBf k b ≤ b.length
 | 0, b => by simp [zBf]
 | k + 1, [] => by simp [zBf]
 | k + 1, c :: l => by
   have := zGN k l
   simp only [zBf]
   split
   · simp; omega
   · simp
theorem zE4 : ∀ (k i : Nat) (b : List zR), i ≤ zBf k b → i < k → i < b.length → 128 ≤ (b.getD i 0).toNat → i + 1 ≤ zBf k b
 | 0, i, b, _, h, _, _ => by omega
 | k + 1, i, [], _, _, h, _ => by simp at h
 | k + 1, 0, c :: l, _, _, _, h => by
   simp only [zBf]
   rw [if_pos (by simpa using h)]
   omega
 | k + 1, i + 1, c :: l, h1, h2, h3, h4 => by
   simp only [zBf] at *
   split at h1
   · rename_i hc
     rw [if_pos hc]
     have := zE4 k i l (by omega) (by omega) (by simpa using h3) (by simpa using h4)
     omega
   · omega
theorem zDM : ∀ (k i : Nat) (b : List zR), i ≤ zBf k b → i < b.length → (b.getD i 0).toNat < 128 → zBf k b = i
 | 0, i, b, h, _, _ => by simp only [zBf] at *; omega
 | k + 1, i, [], _, h, _ => by simp at h
 | k + 1, 0, c :: l, _, _, h => by
   simp only [zBf]
   rw [if_neg (by have : c.toNat < 128 := (by simpa using h); omega)]
 | k + 1, i + 1, c :: l, h1, h3, h4 => by
   simp only [zBf] at *
   split at h1
   · rename_i hc
     rw [if_pos hc, zDM k i l (by omega) (by simpa using h3) (by simpa using h4)]
   · omega
theorem zGx : ∀ (b : List zR), zEX b < 128 ^ b.length
 | [] => by simp [zEX]
 | c :: l => by
   have := zGx l
   simp only [zEX, List.length_cons, Nat.pow_succ]
   omega
theorem zD9 : ∀ (b c : List zR), zEX (b ++ c) = zEX b + 128 ^ b.length * zEX c
 | [], c => by simp [zEX]
 | x :: l, c => by
   simp only [zEX, List.cons_append, zD9 l c, List.length_cons, Nat.pow_succ]
   rw [Nat.mul_add, Nat.mul_comm (128 ^ l.length) 128, Nat.mul_assoc]
   omega
theorem zKP (b : List zR) (i : Nat) (h : i < b.length) : zEX (b.take (i + 1)) = zEX (b.take i) + 128 ^ i * ((b.getD i 0).toNat % 128) := by
 rw [List.take_add_one, zD9]
 have : b[i]?.toList = [b.getD i 0] := by simp [h, List.getD_eq_getElem?_getD]
 rw [this, List.length_take, Nat.min_eq_left (by omega)]
 simp [zEX]
theorem zHG (b : List zR) (i : Nat) (h : i < b.length) (h9 : i ≤ 9) :
   BitVec.ofNat 64 (zEX (b.take i)) ||| ((b.getD i 0 &&& ~~~128#8).setWidth 64) <<< (7 * i) = BitVec.ofNat 64 (zEX (b.take (i + 1))) := by
 have hl := zGx (b.take i)
 rw [List.length_take, Nat.min_eq_left (by omega)] at hl
 have hp : 128 ^ i ≤ 128 ^ 9 := Nat.pow_le_pow_right (by omega) h9
 have hp2 : (128 : Nat) ^ 9 < 2 ^ 64 := by decide
 have hc : (b.getD i 0).toNat % 128 < 128 := Nat.mod_lt _ (by omega)
 rw [zKP b i h]
 apply BitVec.eq_of_toNat_eq
 rw [BitVec.toNat_or, BitVec.toNat_shiftLeft, BitVec.toNat_setWidth, zLM, BitVec.toNat_ofNat, BitVec.toNat_ofNat]
 rw [Nat.mod_eq_of_lt (by omega : (b.getD i 0).toNat % 128 < 2 ^ 64), Nat.mod_eq_of_lt (by omega : zEX (b.take i) < 2 ^ 64)]
 rw [Nat.or_comm, ← zVq] at *
 have e : 2 ^ (7 * i) * ((b.getD i 0).toNat % 128) + zEX (b.take i) = ((b.getD i 0).toNat % 128) <<< (7 * i) ||| zEX (b.take i) := by
   rw [← Nat.shiftLeft_add_eq_or_of_lt hl, Nat.shiftLeft_eq, Nat.mul_comm]
 rw [Nat.add_comm, e, Nat.or_mod_two_pow, Nat.mod_eq_of_lt (by omega : zEX (b.take i) < 2 ^ 64)]
theorem zVE (c : zR) (i : Nat) (h9 : i ≤ 9) : ((((c &&& ~~~128#8).setWidth 64) <<< (7 * i)) >>> (7 * i) = (c &&& ~~~128#8).setWidth 64) ↔ ¬ (i = 9 ∧ 1 < c.toNat % 128) := by
 have hc : c.toNat % 128 < 128 := Nat.mod_lt _ (by omega)
 rw [← BitVec.toNat_inj]
 rw [BitVec.toNat_ushiftRight, BitVec.toNat_shiftLeft, BitVec.toNat_setWidth, zLM, Nat.shiftLeft_eq, Nat.shiftRight_eq_div_pow, Nat.mod_eq_of_lt (by omega : c.toNat % 128 < 2 ^ 64)]
 generalize c.toNat % 128 = q at *
 by_cases e : i = 9
 · subst e
   rw [show (7 * 9) = 63 by rfl]
   omega
 · have h1 : q * 2 ^ (7 * i) < 2 ^ 64 := by
     have : 2 ^ (7 * i) ≤ 2 ^ (7 * 8) := Nat.pow_le_pow_right (by omega) (by omega)
     rw [show 7 * 8 = 56 by rfl] at this
     have : q * 2 ^ (7 * i) ≤ 127 * 2 ^ 56 := Nat.mul_le_mul (by omega) this
     omega
   rw [Nat.mod_eq_of_lt h1, Nat.mul_div_cancel _ (Nat.two_pow_pos _)]
   simp [e]
theorem zAo {b : List zR} (h : b.length = 0) : zBu b = (0#64, 0, 5) := by unfold zBu; rw [if_pos h]
theorem zCV {b : List zR} {i : Nat} (h1 : i ≤ zBf 10 b) (hi : i < b.length) (h9 : i ≤ 9) (hc : (b.getD i 0).toNat < 128) (ho : ¬ ((((b.getD i 0 &&& ~~~128#8).setWidth 64) <<< (7 * i)) >>> (7 * i) = (b.getD i 0 &&& ~~~128#8).setWidth 64)) : zBu b = (0#64, 0, 8) := by
 rw [zVE _ _ h9] at ho
 have hn := zDM 10 i b h1 hi hc
 unfold zBu
 rw [if_neg (by omega), hn, if_neg (by omega), if_neg (by omega), if_pos (by omega)]
theorem zAc {b : List zR} {i : Nat} (h1 : i ≤ zBf 10 b) (hi : i < b.length) (h9 : i ≤ 9) (hi0 : 0 < i) (h0 : (b.getD i 0).toNat = 0) : zBu b = (0#64, 0, 7) := by
 have hn := zDM 10 i b h1 hi (by omega)
 unfold zBu
 rw [if_neg (by omega), hn, if_neg (by omega), if_neg (by omega), if_neg (by omega), if_pos (by omega)]
theorem zC1 {b : List zR} {i : Nat} (h1 : i ≤ zBf 10 b) (hi : i < b.length) (h9 : i ≤ 9) (hc : (b.getD i 0).toNat < 128) (hov : (((b.getD i 0 &&& ~~~128#8).setWidth 64) <<< (7 * i)) >>> (7 * i) = (b.getD i 0 &&& ~~~128#8).setWidth 64) (h0 : ¬ ((b.getD i 0).toNat = 0 ∧ 0 < i)) : zBu b = (BitVec.ofNat 64 (zEX (b.take (i + 1))), i + 1, 0) := by
 rw [zVE _ _ h9] at hov
 have hn := zDM 10 i b h1 hi hc
 unfold zBu
 rw [if_neg (by omega), hn, if_neg (by omega), if_neg (by omega), if_neg (by omega), if_neg (by omega)]
theorem zAb {b : List zR} (h1 : 10 ≤ zBf 10 b) : zBu b = (0#64, 0, 8) := by
 have := zGN 10 b
 unfold zBu
 rw [if_neg (by omega), if_pos (by omega)]
theorem zAS {b : List zR} (h0 : 0 < b.length) (h1 : b.length ≤ zBf 10 b) (hl : b.length < 10) : zBu b = (0#64, 0, 6) := by
 have := zGN 10 b
 unfold zBu
 rw [if_neg (by omega), if_neg (by omega), if_pos (by omega)]
/-! ### The document's own way -/
def zAp (b : List zR) (n i : Nat) : Nat := zEX ((b.take (n + 1)).drop i)
theorem zHs (b : List zR) (n : Nat) (h : n < b.length) : zAp b n (n + 1) = 0 := by unfold zAp; rw [List.drop_of_length_le (by simp; omega)]; rfl
theorem zNa (b : List zR) (n i : Nat) (hn : n < b.length) (hi : i ≤ n) : zAp b n i = (b.getD i 0).toNat % 128 + 128 * zAp b n (i + 1) := by
 unfold zAp
 rw [List.drop_eq_getElem_cons (by simp; omega)]
 simp only [zEX]
 have : (b.take (n + 1))[i]'(by simp; omega) = b.getD i 0 := by simp [List.getD_eq_getElem?_getD, show i < b.length by omega]
 rw [this]
theorem zME (b : List zR) (n i : Nat) (hn : n < b.length) (hi : i ≤ n + 1) : zAp b n i < 128 ^ (n + 1 - i) := by
 unfold zAp
 have := zGx ((b.take (n + 1)).drop i)
 rw [List.length_drop, List.length_take, Nat.min_eq_left (by omega)] at this
 exact this
theorem zOT (b : List zR) (n i : Nat) (hn : n < b.length) (h9 : n ≤ 9) (hi : i ≤ n) (h : 144115188075855871 < zAp b n (i + 1)) : i = 0 ∧ n = 9 ∧ 1 < (b.getD n 0).toNat % 128 := by
 have h1 := zME b n (i + 1) hn (by omega)
 have h2 : n = 9 ∧ i = 0 := by
   apply Classical.byContradiction
   intro hc
   have : (128 : Nat) ^ (n + 1 - (i + 1)) ≤ 128 ^ 8 := Nat.pow_le_pow_right (by omega) (by omega)
   rw [show (128 : Nat) ^ 8 = 72057594037927936 by rfl] at this
   omega
 obtain ⟨rfl, rfl⟩ := h2
 rw [Nat.zero_add] at h
 refine ⟨rfl, rfl, ?_⟩
 have e : zAp b 9 1 = zEX ((b.take 9).drop 1) + 128 ^ 8 * ((b.getD 9 0).toNat % 128) := by
   unfold zAp
   rw [List.take_add_one, List.drop_append_of_le_length (by simp; omega), zD9]
   have : b[9]?.toList = [b.getD 9 0] := by simp [hn, List.getD_eq_getElem?_getD]
   rw [this, List.length_drop, List.length_take, Nat.min_eq_left (by omega)]
   simp [zEX]
 have hl := zGx ((b.take 9).drop 1)
 rw [List.length_drop, List.length_take, Nat.min_eq_left (by omega)] at hl
 rw [show (128 : Nat) ^ (9 - 1) = 72057594037927936 by rfl] at hl
 rw [show (128 : Nat) ^ 8 = 72057594037927936 by rfl] at e
 omega
theorem zOu (b : List zR) (n : Nat) (hn : n < b.length) (h9 : n ≤ 9) (h : zAp b n 1 ≤ 144115188075855871) : ¬ (n = 9 ∧ 1 < (b.getD n 0).toNat % 128) := by
 rintro ⟨rfl, h1⟩
 have e : zAp b 9 1 = zEX ((b.take 9).drop 1) + 128 ^ 8 * ((b.getD 9 0).toNat % 128) := by
   unfold zAp
   rw [List.take_add_one, List.drop_append_of_le_length (by simp; omega), zD9]
   have : b[9]?.toList = [b.getD 9 0] := by simp [hn, List.getD_eq_getElem?_getD]
   rw [this, List.length_drop, List.length_take, Nat.min_eq_left (by omega)]
   simp [zEX]
 rw [show (128 : Nat) ^ 8 = 72057594037927936 by rfl] at e
 omega
theorem zOK (b : List zR) (n i : Nat) (hn : n < b.length) (hi : i ≤ n) : 128#64 * BitVec.ofNat 64 (zAp b n (i + 1)) + (b.getD i 0 % 128#8).setWidth 64 = BitVec.ofNat 64 (zAp b n i) := by
 rw [zNa b n i hn hi]
 apply BitVec.eq_of_toNat_eq
 simp [BitVec.toNat_add, BitVec.toNat_mul, BitVec.toNat_setWidth, BitVec.toNat_umod]
 omega
theorem zNC {b : List zR} {n i : Nat} (h1 : n ≤ zBf 10 b) (hn : n < b.length) (h9 : n ≤ 9) (hc : (b.getD n 0).toNat < 128) (hi : i ≤ n) (h : 144115188075855871 < zAp b n (i + 1)) : zBu b = (0#64, 0, 8) := by
 have ht := zOT b n i hn h9 hi h
 have hv := zDM 10 n b h1 hn hc
 unfold zBu
 rw [if_neg (by omega), hv, if_neg (by omega), if_neg (by omega), if_pos (by omega)]
theorem zBJ {b : List zR} {n : Nat} (h1 : n ≤ zBf 10 b) (hn : n < b.length) (h9 : n ≤ 9) (hc : (b.getD n 0).toNat < 128) (h : zAp b n 1 ≤ 144115188075855871) (h0 : ¬ ((b.getD n 0).toNat = 0 ∧ 0 < n)) : zBu b = (BitVec.ofNat 64 (zAp b n 0), n + 1, 0) := by
 have hb := zOu b n hn h9 h
 have hv := zDM 10 n b h1 hn hc
 unfold zBu
 rw [if_neg (by omega), hv, if_neg (by omega), if_neg (by omega), if_neg (by omega), if_neg (by omega)]
 rfl
/-! ### There and back -/
theorem zRm : ∀ (n : Nat) (b : List zR), n < b.length → (∀ j, j < n → 128 ≤ (b.getD j 0).toNat) → (b.getD n 0).toNat < 128 → ¬ ((b.getD n 0).toNat = 0 ∧ 0 < n) → zEX (b.take (n + 1)) < 2 ^ 64 → zDL (zEX (b.take (n + 1))) = b.take (n + 1) ∧ ((b.getD n 0).toNat ≠ 0 → zEX (b.take (n + 1)) ≠ 0) := by
 intro n
 induction n with
 | zero =>
   intro b hb _ hc _ _
   cases b with
   | nil => simp at hb
   | cons c l =>
     have hc' : c.toNat < 128 := by simpa using hc
     simp only [Nat.zero_add, List.take_succ_cons, List.take_zero, zEX, Nat.mul_zero, Nat.add_zero]
     rw [Nat.mod_eq_of_lt hc', zFA hc']
     simp
 | succ n ih =>
   intro b hb hj hc h0 hv
   cases b with
   | nil => simp at hb
   | cons c l =>
     have hc0 : 128 ≤ c.toNat := by simpa using hj 0 (by omega)
     simp only [List.take_succ_cons, zEX] at hv ⊢
     simp only [List.getD_cons_succ] at hc h0
     have := ih l (by simpa using hb) (fun j h => by simpa using hj (j + 1) (by omega)) hc (by omega) (by omega)
     have hnz := this.2 (by omega)
     refine ⟨?_, fun _ => by omega⟩
     rw [zF6 (by omega) hv]
     congr 1
     · apply BitVec.eq_of_toNat_eq
       have := c.isLt
       rw [BitVec.toNat_ofNat]
       omega
     · rw [show (c.toNat % 128 + 128 * zEX (l.take (n + 1))) / 128 = zEX (l.take (n + 1)) by omega]
       exact this.1
theorem zKU : ∀ (k : Nat) (b : List zR) (j : Nat), j < zBf k b → 128 ≤ (b.getD j 0).toNat
 | 0, b, j, h => by simp [zBf] at h
 | k + 1, [], j, h => by simp [zBf] at h
 | k + 1, c :: l, j, h => by
   simp only [zBf] at h
   split at h
   · cases j with
     | zero => simpa
     | succ j => simpa using zKU k l j (by omega)
   · omega
theorem zIj : ∀ (k : Nat) (b : List zR), zBf k b < k → zBf k b < b.length → (b.getD (zBf k b) 0).toNat < 128
 | 0, b, h, _ => by omega
 | k + 1, [], _, h => by simp at h
 | k + 1, c :: l, h1, h2 => by
   simp only [zBf] at *
   split
   · rename_i hc
     rw [if_pos hc] at h1 h2
     simpa using zIj k l (by omega) (by simpa using h2)
   · simp; omega
theorem zJP {b : List zR} {z : BitVec 64} {k : Nat} (h : zBu b = (z, k, 0)) : 1 ≤ k ∧ k ≤ b.length ∧ zDL z.toNat = b.take k := by
 have hle := zGN 10 b
 unfold zBu at h
 split at h
 · simp at h
 split at h
 · simp at h
 split at h
 · simp at h
 split at h
 · simp at h
 split at h
 · simp at h
 rename_i h1 h2 h3 h4 h5
 simp only [Prod.mk.injEq] at h
 obtain ⟨rfl, rfl, _⟩ := h
 have hn := zIj 10 b (by omega) (by omega)
 have hv : zEX (b.take (zBf 10 b + 1)) < 2 ^ 64 := by
   by_cases e : zBf 10 b = 9
   · rw [zKP b _ (by omega)]
     have := zGx (b.take (zBf 10 b))
     rw [List.length_take, Nat.min_eq_left (by omega)] at this
     rw [e] at this hn h4 ⊢
     rw [show (128 : Nat) ^ 9 = 9223372036854775808 by rfl] at *
     omega
   · have := zGx (b.take (zBf 10 b + 1))
     rw [List.length_take, Nat.min_eq_left (by omega)] at this
     have : (128 : Nat) ^ (zBf 10 b + 1) ≤ 128 ^ 9 := Nat.pow_le_pow_right (by omega) (by omega)
     rw [show (128 : Nat) ^ 9 = 9223372036854775808 by rfl] at this
     omega
 refine ⟨by omega, by omega, ?_⟩
 rw [BitVec.toNat_ofNat, Nat.mod_eq_of_lt hv]
 exact (zRm (zBf 10 b) b (by omega) (fun j hj => zKU 10 b j hj) hn h5 hv).1

/-! ### How long a number is -/
def zUM : ByteArray := (ByteArray.mk (List.toArray (List.append (List.append [0, 1, 2, 2, 3, 3, 3, 3, 4, 4, 4, 4, 4, 4, 4, 4, 5, 5, 5, 5, 5, 5, 5, 5, 5, 5, 5, 5, 5, 5, 5, 5, 6, 6, 6, 6, 6, 6, 6, 6, 6, 6, 6, 6, 6, 6, 6, 6, 6, 6, 6, 6, 6, 6, 6, 6, 6, 6, 6, 6, 6, 6, 6, 6] [7, 7, 7, 7, 7, 7, 7, 7, 7, 7, 7, 7, 7, 7, 7, 7, 7, 7, 7, 7, 7, 7, 7, 7, 7, 7, 7, 7, 7, 7, 7, 7, 7, 7, 7, 7, 7, 7, 7, 7, 7, 7, 7, 7, 7, 7, 7, 7, 7, 7, 7, 7, 7, 7, 7, 7, 7, 7, 7, 7, 7, 7, 7, 7]) (List.append [8, 8, 8, 8, 8, 8, 8, 8, 8, 8, 8, 8, 8, 8, 8, 8, 8, 8, 8, 8, 8, 8, 8, 8, 8, 8, 8, 8, 8, 8, 8, 8, 8, 8, 8, 8, 8, 8, 8, 8, 8, 8, 8, 8, 8, 8, 8, 8, 8, 8, 8, 8, 8, 8, 8, 8, 8, 8, 8, 8, 8, 8, 8, 8] [8, 8, 8, 8, 8, 8, 8, 8, 8, 8, 8, 8, 8, 8, 8, 8, 8, 8, 8, 8, 8, 8, 8, 8, 8, 8, 8, 8, 8, 8, 8, 8, 8, 8, 8, 8, 8, 8, 8, 8, 8, 8, 8, 8, 8, 8, 8, 8, 8, 8, 8, 8, 8, 8, 8, 8, 8, 8, 8, 8, 8, 8, 8, 8]))))
theorem zDf : ∀ Y : BitVec 8, zUM[Y.toNat]? = some (UInt8.ofBitVec (BitVec.ofNat 8 (zBs Y.toNat))) := by decide +kernel
theorem zTc (Y : BitVec 64) (k : Nat) (h : 2 ^ k ≤ Y.toNat) : zBs Y.toNat = k + zBs (Y >>> k).toNat := by
 rw [BitVec.toNat_ushiftRight, Nat.shiftRight_eq_div_pow]
 exact zG3 k h
theorem zSt (Y : BitVec 64) (h : Y.toNat < 256) : (BitVec.ofNat 8 (zBs (Y.setWidth 8).toNat)).toNat = zBs Y.toNat := by
 rw [BitVec.toNat_setWidth, Nat.mod_eq_of_lt (by omega), BitVec.toNat_ofNat]
 have := zF1 (k := 8) h
 omega
theorem zEE (Y : BitVec 64) (k : Nat) : (Y >>> k).toNat = Y.toNat / 2 ^ k := by rw [BitVec.toNat_ushiftRight, Nat.shiftRight_eq_div_pow]
/-! ### The document's Put -/
theorem zQS (Y : BitVec 64) (h : ¬ Y.toNat < 128) : zDL Y.toNat = (128#64 + Y % 128#64).setWidth 8 :: zDL (Y / 128#64).toNat := by
 rw [zF6 h Y.isLt]
 congr 1
 apply BitVec.eq_of_toNat_eq
 simp [BitVec.toNat_setWidth, BitVec.toNat_add, BitVec.toNat_umod]
 omega
theorem zRQ (Y : BitVec 64) (h : Y.toNat < 128) : zDL Y.toNat = [Y.setWidth 8] := by
 rw [zFA h]
 rfl
/-! ### Of either sign -/
def zFK (x : Int) : BitVec 64 := if 0 ≤ x then BitVec.ofInt 64 (2 * x) else BitVec.ofInt 64 (-2 * x - 1)
def zNg (X : BitVec 64) : Int := if X.toNat % 2 = 0 then ((X.toNat / 2 : Nat) : Int) else -((X.toNat / 2 : Nat) : Int) - 1
theorem zNx (p : Int) : BitVec.ofInt 64 (IntKind.i64.wrap p) = BitVec.ofInt 64 p := by
 rw [IntKind.wrap_i64]
 apply BitVec.eq_of_toNat_eq
 simp only [BitVec.toNat_ofInt]
 rw [show ((2 ^ 64 : Nat) : Int) = 18446744073709551616 by rfl]
 omega
theorem zU4 (p : Int) (h : -9223372036854775808 ≤ p ∧ p ≤ 9223372036854775807) : BitVec.ofInt 64 (IntKind.i64.wrap (p * 2 ^ (min 1 64))) ^^^ BitVec.ofInt 64 (p.fdiv (2 ^ (min 63 64))) = zFK p := by
 rw [zNx]
 unfold zFK
 rw [show (2 : Int) ^ (min 1 64) = 2 by decide, show (2 : Int) ^ (min 63 64) = 9223372036854775808 by decide, Int.fdiv_eq_ediv_of_nonneg _ (by omega)]
 split
 · rw [show p / 9223372036854775808 = 0 by omega, Int.mul_comm]
   simp
 · rw [show p / 9223372036854775808 = -1 by omega]
   rw [show BitVec.ofInt 64 (-1) = BitVec.allOnes 64 by decide, BitVec.xor_allOnes]
   apply BitVec.eq_of_toNat_eq
   simp only [BitVec.toNat_not, BitVec.toNat_ofInt]
   omega
theorem zMV (p : Int) (h : 0 ≤ p) : 2#64 * BitVec.ofInt 64 p = zFK p := by
 unfold zFK
 rw [if_pos h, BitVec.ofInt_mul]
 rfl
theorem zMs (p : Int) (h : p < 0) : 2#64 * BitVec.ofInt 64 (-(p + 1)) + 1#64 = zFK p := by
 unfold zFK
 rw [if_neg (by omega), show -2 * p - 1 = 2 * -(p + 1) + 1 by omega, BitVec.ofInt_add, BitVec.ofInt_mul]
 rfl
theorem zU0 (X : BitVec 64) : (X &&& 1#64).toInt = ((X.toNat % 2 : Nat) : Int) := by
 rw [BitVec.toInt_eq_toNat_cond, BitVec.toNat_and]
 simp [Nat.and_one_is_mod]
 omega
theorem zRd (X : BitVec 64) : (X / 2#64).toInt = ((X.toNat / 2 : Nat) : Int) := by
 have := X.isLt
 rw [BitVec.toInt_eq_toNat_cond, BitVec.toNat_udiv]
 simp
 omega
theorem zVV (X : BitVec 64) : (BitVec.ofInt 64 (X >>> 1).toInt ^^^ BitVec.ofInt 64 (-(X &&& 1#64).toInt)).toInt = zNg X := by
 rw [zU0, BitVec.ofInt_toInt]
 have hx := X.isLt
 unfold zNg
 split
 · rename_i h
   rw [h]
   simp only [Int.natCast_zero, Int.neg_zero]
   rw [show BitVec.ofInt 64 0 = 0#64 by decide, BitVec.xor_zero, BitVec.toInt_eq_toNat_cond, zEE]
   rw [Nat.pow_one]
   split <;> omega
 · rename_i h
   rw [show X.toNat % 2 = 1 by omega]
   rw [show BitVec.ofInt 64 (-((1 : Nat) : Int)) = BitVec.allOnes 64 by decide, BitVec.xor_allOnes, BitVec.toInt_eq_toNat_cond, BitVec.toNat_not, zEE]
   rw [Nat.pow_one]
   split <;> omega
theorem zEt (X : BitVec 64) : -9223372036854775808 ≤ zNg X ∧ zNg X ≤ 9223372036854775807 := by
 have hx := X.isLt
 unfold zNg
 split <;> omega
theorem zGb (b : List zR) (n q : Nat) (hn : n < b.length) (h1 : 1 ≤ q) (hq : q ≤ n + 1) : 128#64 * BitVec.ofNat 64 (zAp b n q) + (b.getD (q - 1) 0 % 128#8).setWidth 64 = BitVec.ofNat 64 (zAp b n (q - 1)) := by
 have := zOK b n (q - 1) hn (by omega)
 rwa [show q - 1 + 1 = q by omega] at this
theorem zIA (b : List zR) (n q : Nat) (hn : n < b.length) (h9 : n ≤ 9) (h1 : 1 ≤ q) (hq : q ≤ n + 1) : (BitVec.ofNat 64 (zAp b n q)).toNat = zAp b n q := by
 have := zME b n q hn hq
 have h : (128 : Nat) ^ (n + 1 - q) ≤ 128 ^ 9 := Nat.pow_le_pow_right (by omega) (by omega)
 rw [show (128 : Nat) ^ 9 = 9223372036854775808 by rfl] at h
 rw [BitVec.toNat_ofNat]
 omega
theorem zAm {b : List zR} {n q : Nat} (h1 : n ≤ zBf 10 b) (hn : n < b.length) (h9 : n ≤ 9) (hc : (b.getD n 0).toNat < 128) (hq1 : 1 ≤ q) (hq : q ≤ n + 1) (h : 144115188075855871 < zAp b n q) : zBu b = (0#64, 0, 8) :=
 zNC h1 hn h9 hc (i := q - 1) (by omega) (by rwa [show q - 1 + 1 = q by omega])
theorem zDn {b : List zR} (h : (zBu b).2.2 = 0) : 1 ≤ (zBu b).2.1 ∧ (zBu b).2.1 ≤ b.length ∧ zDL (zBu b).1.toNat = b.take (zBu b).2.1 :=
 zJP (z := (zBu b).1) (k := (zBu b).2.1) (by rw [← h])
end Go.Sx

set_option linter.unusedVariables false
set_option linter.unusedSimpArgs false
namespace Go.Sx
structure Rs where
 p : Nat
 e : Nat
def zB (bs : List zR) (R : Rs) : zR × Rs := if R.e ≠ 0 then (0#8, R) else if bs.length ≤ R.p then (0#8, ⟨R.p, 6⟩) else (bs.getD R.p 0, ⟨R.p + 1, 0⟩)
def zHy (b : List zR) (X : BitVec 64) : Nat := if (zBu b).2.2 = 0 ∧ X.toNat < (zBu b).1.toNat then 3 else (zBu b).2.2
def zD (bs : List zR) (X : BitVec 64) (R : Rs) : BitVec 64 × Rs :=
 if R.e ≠ 0 then (0#64, R) else if bs.length ≤ R.p then (0#64, ⟨R.p, 6⟩) else if zHy (bs.drop R.p) X ≠ 0 then (0#64, ⟨R.p, zHy (bs.drop R.p) X⟩) else ((zBu (bs.drop R.p)).1, ⟨R.p + (zBu (bs.drop R.p)).2.1, 0⟩)
def zJ (bs : List zR) (R : Rs) : Int × Rs := (zNg (zD bs 18446744073709551615#64 R).1, (zD bs 18446744073709551615#64 R).2)
def zBL (e : Nat) (R : Rs) : Rs := if R.e = 0 then ⟨R.p, e⟩ else R
def zDt (bs : List zR) (R : Rs) : Nat := if R.e ≠ 0 ∨ bs.length ≤ R.p then R.e else 8
def zUc (bs : List zR) (R : Rs) : Rs := (zJ bs (zJ bs (zJ bs R).2).2).2
theorem zLm {b : List zR} {X : BitVec 64} (h : zHy b X = 0) : (zBu b).2.2 = 0 ∧ ¬ X.toNat < (zBu b).1.toNat := by
 unfold zHy at h
 split at h
 · cases h
 · rename_i h'
   exact ⟨h, fun h2 => h' ⟨h, h2⟩⟩
theorem zOi {b : List zR} {X : BitVec 64} (h : zHy b X = 0) : 1 ≤ (zBu b).2.1 ∧ (zBu b).2.1 ≤ b.length := by
 have := zDn (zLm h).1
 exact ⟨this.1, this.2.1⟩
theorem zSP (b : List zR) : (zBu b).2.1 ≤ 10 := by
 have := zGN 10 b
 unfold zBu
 repeat' split
 all_goals simp
 omega
theorem zB7 {bs : List zR} {X : BitVec 64} {R : Rs} (h : R.e ≠ 0) : zD bs X R = (0#64, R) := by unfold zD; rw [if_pos h]
theorem zBZ {bs : List zR} {X : BitVec 64} {R : Rs} (h : R.e = 0) (h1 : bs.length ≤ R.p) : zD bs X R = (0#64, ⟨R.p, 6⟩) := by unfold zD; rw [if_neg (by omega), if_pos h1]
theorem zDa {bs : List zR} {X : BitVec 64} {R : Rs} (h : R.e = 0) (h1 : ¬ bs.length ≤ R.p) (h2 : zHy (bs.drop R.p) X ≠ 0) : zD bs X R = (0#64, ⟨R.p, zHy (bs.drop R.p) X⟩) := by unfold zD; rw [if_neg (by omega), if_neg h1, if_pos h2]
theorem zDI {bs : List zR} {X : BitVec 64} {R : Rs} (h : R.e = 0) (h1 : ¬ bs.length ≤ R.p) (h2 : zHy (bs.drop R.p) X = 0) : zD bs X R = ((zBu (bs.drop R.p)).1, ⟨R.p + (zBu (bs.drop R.p)).2.1, 0⟩) := by unfold zD; rw [if_neg (by omega), if_neg h1, if_neg (by omega)]
theorem zDX {bs : List zR} {R : Rs} (h : R.e ≠ 0) : zB bs R = (0#8, R) := by unfold zB; rw [if_pos h]
theorem zCY {bs : List zR} {R : Rs} (h : R.e = 0) (h1 : bs.length ≤ R.p) : zB bs R = (0#8, ⟨R.p, 6⟩) := by unfold zB; rw [if_neg (by omega), if_pos h1]
theorem zCw {bs : List zR} {R : Rs} (h : R.e = 0) (h1 : ¬ bs.length ≤ R.p) : zB bs R = (bs.getD R.p 0, ⟨R.p + 1, 0⟩) := by unfold zB; rw [if_neg (by omega), if_neg h1]
theorem zAw {bs : List zR} {X : BitVec 64} {R : Rs} (h : R.p ≤ bs.length) : (zD bs X R).2.p ≤ bs.length ∧ R.p ≤ (zD bs X R).2.p ∧ (zD bs X R).2.p ≤ R.p + 10 ∧ (zD bs X R).1.toNat ≤ X.toNat ∧ (R.e ≠ 0 → zD bs X R = (0#64, R)) := by
 by_cases h0 : R.e = 0
 · by_cases h1 : bs.length ≤ R.p
   · rw [zBZ h0 h1]; simp; omega
   · by_cases h2 : zHy (bs.drop R.p) X = 0
     · rw [zDI h0 h1 h2]
       have := zOi h2
       have h3 := zSP (bs.drop R.p)
       have h4 := (zLm h2).2
       simp only [List.length_drop] at this
       simp [h0]
       omega
     · rw [zDa h0 h1 h2]; simp [h0]; omega
 · rw [zB7 h0]; simp; omega
theorem zCy {bs : List zR} {R : Rs} (h : R.p ≤ bs.length) : (zB bs R).2.p ≤ bs.length ∧ R.p ≤ (zB bs R).2.p ∧ (zB bs R).2.p ≤ R.p + 1 ∧ (R.e ≠ 0 → zB bs R = (0#8, R)) := by
 by_cases h0 : R.e = 0
 · by_cases h1 : bs.length ≤ R.p
   · rw [zCY h0 h1]; simp [h0]; omega
   · rw [zCw h0 h1]; simp [h0]; omega
 · rw [zDX h0]; simp; omega
theorem zBm {bs : List zR} {R : Rs} (h : R.p ≤ bs.length) : (zJ bs R).2.p ≤ bs.length ∧ R.p ≤ (zJ bs R).2.p ∧ (zJ bs R).2.p ≤ R.p + 10 ∧ (R.e ≠ 0 → zJ bs R = (0, R)) := by
 have := zAw (X := 18446744073709551615#64) h
 refine ⟨this.1, this.2.1, this.2.2.1, fun h0 => ?_⟩
 unfold zJ
 rw [this.2.2.2.2 h0]
 simp [zNg]
theorem zT9 {bs : List zR} {R : Rs} (h : R.p ≤ bs.length) : (zUc bs R).p ≤ bs.length ∧ R.p ≤ (zUc bs R).p ∧ (zUc bs R).p ≤ R.p + 30 := by
 have h1 := zBm h
 have h2 := zBm h1.1
 have h3 := zBm h2.1
 unfold zUc
 omega
theorem zBE {bs : List zR} {e : Nat} {R : Rs} (h : R.p ≤ bs.length) : (zBL e R).p ≤ bs.length ∧ (zBL e R).p = R.p ∧ (R.e = 0 → (zBL e R).e = e) ∧ (R.e ≠ 0 → (zBL e R).e = R.e) := by
 unfold zBL
 split
 · rename_i h0; simp [h, h0]
 · rename_i h0; simp [h, h0]
end Go.Sx

set_option linter.unusedVariables false
set_option linter.unusedSimpArgs false
namespace Go.Sx
structure zAd where
 k : Int
 id : Int
 p0 : Int
 p1 : Int
 p2 : Int
 v0 : Int
 v1 : Int
 v2 : Int
 a : BitVec 16
instance : Inhabited zAd := ⟨⟨0, 0, 0, 0, 0, 0, 0, 0, 0#16⟩⟩
structure zAd.wf (r : zAd) : Prop where
 k : -9223372036854775808 ≤ r.k ∧ r.k ≤ 9223372036854775807
 id : -9223372036854775808 ≤ r.id ∧ r.id ≤ 9223372036854775807
 p0 : -9223372036854775808 ≤ r.p0 ∧ r.p0 ≤ 9223372036854775807
 p1 : -9223372036854775808 ≤ r.p1 ∧ r.p1 ≤ 9223372036854775807
 p2 : -9223372036854775808 ≤ r.p2 ∧ r.p2 ≤ 9223372036854775807
 v0 : -9223372036854775808 ≤ r.v0 ∧ r.v0 ≤ 9223372036854775807
 v1 : -9223372036854775808 ≤ r.v1 ∧ r.v1 ≤ 9223372036854775807
 v2 : -9223372036854775808 ≤ r.v2 ∧ r.v2 ≤ 9223372036854775807
theorem zAd.wf.facts {r : zAd} (h : r.wf) : (-9223372036854775808 ≤ r.k ∧ r.k ≤ 9223372036854775807) ∧ (-9223372036854775808 ≤ r.id ∧ r.id ≤ 9223372036854775807) ∧ (-9223372036854775808 ≤ r.p0 ∧ r.p0 ≤ 9223372036854775807) ∧ (-9223372036854775808 ≤ r.p1 ∧ r.p1 ≤ 9223372036854775807) ∧ (-9223372036854775808 ≤ r.p2 ∧ r.p2 ≤ 9223372036854775807) ∧
 (-9223372036854775808 ≤ r.v0 ∧ r.v0 ≤ 9223372036854775807) ∧ (-9223372036854775808 ≤ r.v1 ∧ r.v1 ≤ 9223372036854775807) ∧ (-9223372036854775808 ≤ r.v2 ∧ r.v2 ≤ 9223372036854775807) := ⟨h.k, h.id, h.p0, h.p1, h.p2, h.v0, h.v1, h.v2⟩
def zDG (r : zAd) : List Value := [.int .i64 r.k, .int .i64 r.id, .int .i64 r.p0, .int .i64 r.p1, .int .i64 r.p2, .int .i64 r.v0, .int .i64 r.v1, .int .i64 r.v2, .int .u16 ((r.a.toNat : Nat) : Int)]
def zAd.num (r : zAd) : Nat → Int
 | 0 => r.p0
 | 1 => r.p1
 | 2 => r.p2
 | 3 => r.v0
 | 4 => r.v1
 | _ => r.v2
def zCD (r : zAd) : Bool := r.p0 == 0 && r.p1 == 0 && r.p2 == 0 && r.v0 == 0 && r.v1 == 0 && r.v2 == 0 && (((r.a.toNat : Nat) : Int) == 0)
def zAk (r : zAd) : Nat := if r.k < 0 ∨ 3 < r.k then 11 else if r.id < 0 ∨ 65535 < r.id then 3 else if r.k = 1 ∧ zCD r = true ∨ r.k = 2 ∧ zCD r = false then 2 else 0
theorem zLW (r : zAd) : zAg [.int .i64 r.k, .int .i64 r.id, .int .i64 r.p0, .int .i64 r.p1, .int .i64 r.p2, .int .i64 r.v0, .int .i64 r.v1, .int .i64 r.v2, .int .u16 ((r.a.toNat : Nat) : Int)] [.int .i64 r.k, .int .i64 r.id, .int .i64 0, .int .i64 0, .int .i64 0, .int .i64 0, .int .i64 0, .int .i64 0, .int .u16 0] = zCD r := by
 simp [zAg, vEq, zCD, Bool.and_assoc]
theorem zQN (r : zAd) : zAk r ≤ 11 := by
 unfold zAk; repeat' split
 all_goals omega
theorem zJs {r : zAd} (h : zAk r = 0) : 0 ≤ r.k ∧ r.k ≤ 3 ∧ 0 ≤ r.id ∧ r.id ≤ 65535 := by
 unfold zAk at h
 split at h
 · cases h
 · split at h
   · cases h
   · omega
def zDj (x : Int) : List zR := zDL (zFK x).toNat
theorem zAW (x : Int) : (zDj x).length ≤ 10 ∧ 1 ≤ (zDj x).length := by
 have := zCJ (zFK x).toNat
 have := zES (zFK x).toNat
 unfold zDj
 simp only [zCe] at *
 omega
def zBb (r : zAd) : List zR := zDj r.p0 ++ zDj r.p1 ++ zDj r.p2 ++ zDj r.v0 ++ zDj r.v1 ++ zDj r.v2 ++ zDL r.a.toNat
def zAn (r : zAd) : Nat → BitVec 8
 | 0 => 0#8
 | i + 1 => if r.num i = 0 then zAn r i else zAn r i ||| (1#8 <<< i)
def zAr (r : zAd) : Nat → List zR
 | 0 => []
 | i + 1 => if r.num i = 0 then zAr r i else zAr r i ++ zDj (r.num i)
def zLi (r : zAd) : BitVec 8 := if r.a = 0#16 then zAn r 6 else zAn r 6 ||| 64#8
def zHg (r : zAd) : List zR := if r.a = 0#16 then zAr r 6 else zAr r 6 ++ zDL r.a.toNat
def zCG (r : zAd) : List zR := zLi r :: zHg r
def zH2 (r : zAd) : List zR := if r.k = 1 then zCG r else if r.k = 2 then [] else zBb r
def zBG (r : zAd) (last : Int) : Nat := if zAk r ≠ 0 then zAk r else if last < -1 ∨ 65535 < last then 3 else if r.id ≤ last then 10 else 0
def zAN (r : zAd) (last : Int) : List zR := zDL (BitVec.ofInt 64 (r.id - last - 1)).toNat ++ [BitVec.ofInt 8 r.k]
def zCg (r : zAd) (last : Int) : List zR := if zBG r last ≠ 0 then [] else zAN r last ++ zH2 r
theorem zP3 (r : zAd) : ∀ i, i ≤ 7 → (zAn r i).toNat < 2 ^ i := by
 have key : ∀ i : Fin 7, ∀ x : BitVec 8, x.toNat < 2 ^ i.val → (x ||| (1#8 <<< i.val)).toNat < 2 ^ (i.val + 1) := by decide +kernel
 intro i
 induction i with
 | zero => intro _; simp [zAn]
 | succ i ih =>
   intro h
   have h1 := ih (by omega)
   unfold zAn
   split
   · rw [Nat.pow_succ]; omega
   · exact key ⟨i, by omega⟩ _ h1
theorem zIy (r : zAd) (i : Nat) (h : i ≤ 6) : zAn r i + (1#8 <<< i) = zAn r i ||| (1#8 <<< i) := by
 have key : ∀ i : Fin 7, ∀ x : BitVec 8, x.toNat < 2 ^ i.val → x + (1#8 <<< i.val) = x ||| (1#8 <<< i.val) := by decide +kernel
 exact key ⟨i, by omega⟩ _ (zP3 r i (by omega))
theorem zJC {r : zAd} {i : Nat} (h : r.num i = 0) : zAn r (i + 1) = zAn r i := by simp [zAn, h]
theorem zJd {r : zAd} {i : Nat} (h : r.num i ≠ 0) : zAn r (i + 1) = zAn r i ||| (1#8 <<< i) := by simp [zAn, h]
theorem zDi {r : zAd} {i : Nat} (h : r.num i = 0) : zAr r (i + 1) = zAr r i := by simp [zAr, h]
theorem zDg {r : zAd} {i : Nat} (h : r.num i ≠ 0) : zAr r (i + 1) = zAr r i ++ zDj (r.num i) := by simp [zAr, h]
theorem zBI (r : zAd) : ∀ i, (zAr r i).length ≤ 10 * i := by
 intro i
 induction i with
 | zero => simp [zAr]
 | succ i ih =>
   unfold zAr
   have := zAW (r.num i)
   split
   · omega
   · simp; omega
theorem zDu (n : Nat) : (zDL n).length ≤ 10 := by have := zCJ n; simpa [zCe] using this
theorem zEH (r : zAd) (last : Int) : (zCg r last).length ≤ 100 := by
 unfold zCg
 split
 · simp
 · have h1 := zDu (BitVec.ofInt 64 (r.id - last - 1)).toNat
   have h2 := zDu r.a.toNat
   have h3 := zBI r 6
   have n0 := zAW r.p0
   have n1 := zAW r.p1
   have n2 := zAW r.p2
   have n3 := zAW r.v0
   have n4 := zAW r.v1
   have n5 := zAW r.v2
   unfold zAN zH2
   split
   · unfold zCG zHg
     split <;> simp only [List.length_append, List.length_cons, List.length_nil] <;> omega
   · split
     · simp only [List.length_append, List.length_cons, List.length_nil]; omega
     · unfold zBb; simp only [List.length_append, List.length_cons, List.length_nil]; omega
theorem zMZ {bs l : List zR} {x : zR} {m : Nat} (h : bs.length = m) : (bs ++ x :: l).getD m 0 = x := by
 subst h
 simp [List.getD_eq_getElem?_getD]
theorem zPW {bs l : List zR} {x y : zR} {m : Nat} (h : bs.length = m) : (bs ++ x :: l).set m y = bs ++ y :: l := by
 subst h
 simp
theorem zUd (a : BitVec 16) : (a.setWidth 64).toNat = a.toNat := by
 rw [BitVec.toNat_setWidth]
 have := a.isLt
 omega
theorem zSr {a : BitVec 16} (h : ((a.toNat : Nat) : Int) = 0) : a = 0#16 := BitVec.eq_of_toNat_eq (by simpa using h)
theorem zU9 {a : BitVec 16} (h : ((a.toNat : Nat) : Int) ≠ 0) : a ≠ 0#16 := fun e => h (by subst e; rfl)
theorem zA1 {r : zAd} (h : ((r.a.toNat : Nat) : Int) = 0) : zCG r = zAn r 6 :: zAr r 6 := by
 unfold zCG zLi zHg
 rw [if_pos (zSr h), if_pos (zSr h)]
theorem zA3 {r : zAd} (h : ((r.a.toNat : Nat) : Int) ≠ 0) : zCG r = (zAn r 6 ||| 64#8) :: (zAr r 6 ++ zDL r.a.toNat) := by
 unfold zCG zLi zHg
 rw [if_neg (zU9 h), if_neg (zU9 h)]
theorem zFc (r : zAd) : (zCG r).length ≤ 71 := by
 have h2 := zDu r.a.toNat
 have h3 := zBI r 6
 unfold zCG zHg
 split <;> simp only [List.length_append, List.length_cons] <;> omega
theorem zF5 (r : zAd) : (zBb r).length ≤ 70 := by
 have h2 := zDu r.a.toNat
 have n0 := zAW r.p0
 have n1 := zAW r.p1
 have n2 := zAW r.p2
 have n3 := zAW r.v0
 have n4 := zAW r.v1
 have n5 := zAW r.v2
 unfold zBb
 simp only [List.length_append]
 omega
theorem zBt {r : zAd} {last : Int} (h : zBG r last ≠ 0) : zCg r last = [] := by unfold zCg; rw [if_pos h]
theorem zAZ {r : zAd} {last : Int} (h : zBG r last = 0) (hk : r.k = 0 ∨ r.k = 3) : zCg r last = zAN r last ++ zBb r := by
 unfold zCg zH2
 rw [if_neg (by omega), if_neg (by omega), if_neg (by omega)]
theorem zV {r : zAd} {last : Int} (h : zBG r last = 0) (hk : r.k = 1) : zCg r last = zAN r last ++ zCG r := by
 unfold zCg zH2
 rw [if_neg (by omega), if_pos hk]
theorem zAL {r : zAd} {last : Int} (h : zBG r last = 0) (hk : r.k = 2) : zCg r last = zAN r last := by
 unfold zCg zH2
 rw [if_neg (by omega), if_neg (by omega), if_pos hk, List.append_nil]
theorem zBA {r : zAd} {last : Int} (h : zAk r ≠ 0) : zBG r last = zAk r := by unfold zBG; rw [if_pos h]
theorem zBC {r : zAd} {last : Int} (h : zAk r = 0) (h2 : last < -1 ∨ 65535 < last) : zBG r last = 3 := by unfold zBG; rw [if_neg (by omega), if_pos h2]
theorem zBB {r : zAd} {last : Int} (h : zAk r = 0) (h2 : ¬ (last < -1 ∨ 65535 < last)) (h3 : r.id ≤ last) : zBG r last = 10 := by unfold zBG; rw [if_neg (by omega), if_neg h2, if_pos h3]
theorem zBX {r : zAd} {last : Int} (h : zAk r = 0) (h2 : ¬ (last < -1 ∨ 65535 < last)) (h3 : ¬ r.id ≤ last) : zBG r last = 0 := by unfold zBG; rw [if_neg (by omega), if_neg h2, if_neg h3]
def zM7 (r : zAd) : Bool := r.p0 == 0 && r.p1 == 0 && r.p2 == 0 && r.v0 == 0 && r.v1 == 0 && r.v2 == 0
theorem zVn (r : zAd) : zAg [.int .i64 r.p0, .int .i64 r.p1, .int .i64 r.p2, .int .i64 r.v0, .int .i64 r.v1, .int .i64 r.v2] [.int .i64 0, .int .i64 0, .int .i64 0, .int .i64 0, .int .i64 0, .int .i64 0] = zM7 r := by
 simp [zAg, vEq, zM7, Bool.and_assoc]
theorem zFX (r : zAd) (last : Int) : (zAN r last).length ≤ 11 := by
 have h1 := zDu (BitVec.ofInt 64 (r.id - last - 1)).toNat
 unfold zAN
 simp only [List.length_append, List.length_cons, List.length_nil]
 omega
theorem zDA {r : zAd} {last : Int} (h : zBG r last = 0) : 0 ≤ r.id ∧ r.id ≤ 65535 ∧ -1 ≤ last ∧ last < r.id := by
 unfold zBG at h
 split at h
 · omega
 · rename_i h0
   have h1 := zJs (r := r) (by omega)
   split at h
   · cases h
   · split at h
     · cases h
     · omega
def zC7 : Nat → BitVec 8
 | 0 => 1#8
 | i + 1 => zC7 i * 2#8
theorem zOS (i : Nat) (h : i ≤ 6) : zC7 i = 1#8 <<< i := by
 have key : ∀ i : Fin 7, zC7 i.val = 1#8 <<< i.val := by decide +kernel
 exact key ⟨i, by omega⟩
theorem zHj (i : Nat) : zC7 i * 2#8 = zC7 (i + 1) := rfl
theorem zLl (r : zAd) (i : Nat) (h : i ≤ 6) : zAn r i + zC7 i = zAn r i ||| (1#8 <<< i) := by rw [zOS i h, zIy r i h]
theorem zPT (r : zAd) : zAn r 6 + 64#8 = zAn r 6 ||| 64#8 := zIy r 6 (by omega)
end Go.Sx

set_option linter.unusedVariables false
set_option linter.unusedSimpArgs false
namespace Go.Sx
def zGX (m : BitVec 8) : Nat → BitVec 8
 | 0 => m
 | i + 1 => zGX m i / 2#8
theorem zPL (m : BitVec 8) : ∀ i, zGX m i = m >>> i
 | 0 => by simp [zGX]
 | i + 1 => by
   unfold zGX
   rw [zPL m i]
   apply BitVec.eq_of_toNat_eq
   rw [BitVec.toNat_udiv, BitVec.toNat_ushiftRight, BitVec.toNat_ushiftRight, Nat.shiftRight_succ]
   rfl
def zDH (m : BitVec 8) (i : Nat) : Bool := ((zGX m i).toNat % 2) == 1
def upI (bs : List zR) (m : BitVec 8) (i : Nat) (R : Rs) : Int × Rs :=
 if zDH m i = true then ((zJ bs R).1, if (zJ bs R).1 = 0 then zBL 7 (zJ bs R).2 else (zJ bs R).2) else (0, R)
def upS (bs : List zR) (m : BitVec 8) (R : Rs) : Nat → Rs
 | 0 => R
 | i + 1 => (upI bs m i (upS bs m R i)).2
def upX (bs : List zR) (m : BitVec 8) (R : Rs) (i : Nat) : Int := (upI bs m i (upS bs m R i)).1
def upA (bs : List zR) (m : BitVec 8) (R : Rs) : BitVec 16 × Rs :=
 if zDH m 6 = true then (((zD bs 65535#64 R).1).setWidth 16, if (zD bs 65535#64 R).1 = 0#64 then zBL 7 (zD bs 65535#64 R).2 else (zD bs 65535#64 R).2) else (0#16, R)
def zA6 (bs : List zR) (k id : Int) (R : Rs) : zAd × Rs :=
 let q := zB bs R
 if q.1.toNat = 0 ∨ 127 < q.1.toNat then (⟨k, id, 0, 0, 0, 0, 0, 0, 0#16⟩, zBL 7 q.2)
 else (⟨k, id, upX bs q.1 q.2 0, upX bs q.1 q.2 1, upX bs q.1 q.2 2, upX bs q.1 q.2 3, upX bs q.1 q.2 4, upX bs q.1 q.2 5, (upA bs q.1 (upS bs q.1 q.2 6)).1⟩, (upA bs q.1 (upS bs q.1 q.2 6)).2)
def nS (bs : List zR) (R : Rs) : Nat → Rs
 | 0 => R
 | i + 1 => (zJ bs (nS bs R i)).2
def nX (bs : List zR) (R : Rs) (i : Nat) : Int := (zJ bs (nS bs R i)).1
def zBx (bs : List zR) (k id : Int) (R : Rs) : zAd × Rs :=
 (⟨k, id, nX bs R 0, nX bs R 1, nX bs R 2, nX bs R 3, nX bs R 4, nX bs R 5, ((zD bs 65535#64 (nS bs R 6)).1).setWidth 16⟩, (zD bs 65535#64 (nS bs R 6)).2)
def zCf (bs : List zR) (k id : Int) (R : Rs) : zAd × Rs :=
 if k = 0 ∨ k = 3 then zBx bs k id R else if k = 1 then zA6 bs k id R else if k = 2 then (⟨k, id, 0, 0, 0, 0, 0, 0, 0#16⟩, R) else (⟨k, id, 0, 0, 0, 0, 0, 0, 0#16⟩, zBL 11 R)
def zLt : zAd := ⟨0, 0, 0, 0, 0, 0, 0, 0, 0#16⟩
def zPt (bs : List zR) (last : Int) (R : Rs) : BitVec 64 × Rs := zD bs (BitVec.ofInt 64 (65534 - last)) R
def zFT (bs : List zR) (last : Int) (R : Rs) : zAd × Rs :=
 zCf bs (((zB bs (zPt bs last R).2).1.toNat : Nat) : Int) (last + 1 + (((zPt bs last R).1.toNat : Nat) : Int)) (zB bs (zPt bs last R).2).2
def zAM (bs : List zR) (last : Int) (R : Rs) : zAd × Nat × Rs :=
 if last < -1 ∨ 65535 < last then (zLt, 3, R) else if last = 65535 then (zLt, (zBL 10 R).e, zBL 10 R)
 else if (zFT bs last R).2.e ≠ 0 then (zLt, (zFT bs last R).2.e, (zFT bs last R).2) else ((zFT bs last R).1, 0, (zFT bs last R).2)
def zG6 (r : zAd) : Nat → List zR
 | 0 => []
 | i + 1 => zG6 r i ++ zDj (r.num i)
theorem zCo (r : zAd) : zG6 r 6 = zDj r.p0 ++ zDj r.p1 ++ zDj r.p2 ++ zDj r.v0 ++ zDj r.v1 ++ zDj r.v2 := rfl
theorem zJp (r : zAd) : ∀ i, (zG6 r i).length ≤ 10 * i
 | 0 => by simp [zG6]
 | i + 1 => by
   have h1 := zJp r i
   have h2 := zAW (r.num i)
   simp only [zG6, List.length_append]
   omega
def upQ (bs : List zR) (m : BitVec 8) (R : Rs) (i j : Nat) : Int := if j < i then upX bs m R j else 0
section
variable {bs : List zR} {m : BitVec 8} {R : Rs} {i : Nat} {p q z : Value}
theorem zSg (h : upX bs m R i = 0) (j : Nat) : upQ bs m R i j = upQ bs m R (i + 1) j := by
 unfold upQ
 by_cases h1 : j < i
 · rw [if_pos h1, if_pos (by omega)]
 · by_cases h2 : j = i
   · subst h2; rw [if_neg h1, if_pos (by omega), h]
   · rw [if_neg h1, if_neg (by omega)]
theorem six {i : Nat} (h : i < 6) : i = 0 ∨ i = 1 ∨ i = 2 ∨ i = 3 ∨ i = 4 ∨ i = 5 := by omega
theorem zLF (h : i < 6) : [p, q, zI (upQ bs m R i 0), zI (upQ bs m R i 1), zI (upQ bs m R i 2), zI (upQ bs m R i 3), zI (upQ bs m R i 4), zI (upQ bs m R i 5), z].set (2 + i) (zI (upX bs m R i)) = [p, q, zI (upQ bs m R (i + 1) 0), zI (upQ bs m R (i + 1) 1), zI (upQ bs m R (i + 1) 2), zI (upQ bs m R (i + 1) 3), zI (upQ bs m R (i + 1) 4), zI (upQ bs m R (i + 1) 5), z] := by
 rcases six h with rfl | rfl | rfl | rfl | rfl | rfl <;> simp [upQ]
theorem zS1 (h : i < 6) : [p, q, zI (upQ bs m R (i + 1) 0), zI (upQ bs m R (i + 1) 1), zI (upQ bs m R (i + 1) 2), zI (upQ bs m R (i + 1) 3), zI (upQ bs m R (i + 1) 4), zI (upQ bs m R (i + 1) 5), z][2 + i]? = some (zI (upX bs m R i)) := by
 rcases six h with rfl | rfl | rfl | rfl | rfl | rfl <;> simp [upQ]
theorem zSa {g : Nat} (h : i < 6) : [pt g 2, pt g 3, pt g 4, pt g 5, pt g 6, pt g 7][((i : Nat) : Int).toNat]? = some (pt g (2 + i)) := by
 rcases six h with rfl | rfl | rfl | rfl | rfl | rfl <;> rfl
theorem zHS {r : zAd} (h : i < 6) : [zI r.p0, zI r.p1, zI r.p2, zI r.v0, zI r.v1, zI r.v2][0 + i]? = some (zI (r.num i)) := by
 rcases six h with rfl | rfl | rfl | rfl | rfl | rfl <;> rfl
theorem zJL {r : zAd} (hw : r.wf) (h : i < 6) : -9223372036854775808 ≤ r.num i ∧ r.num i ≤ 9223372036854775807 := by
 rcases six h with rfl | rfl | rfl | rfl | rfl | rfl
 · exact hw.p0
 · exact hw.p1
 · exact hw.p2
 · exact hw.v0
 · exact hw.v1
 · exact hw.v2
theorem zQG {r : zAd} (h : i < 6) : [p, q, zI r.p0, zI r.p1, zI r.p2, zI r.v0, zI r.v1, zI r.v2, z][2 + i]? = some (zI (r.num i)) := by
 rcases six h with rfl | rfl | rfl | rfl | rfl | rfl <;> rfl
end
theorem zUh {x y z : Int} (h : x = y) : true = decide (x = y ∨ x = z) := (decide_eq_true (.inl h)).symm
theorem zTx {x y z : Int} (h : x ≠ y) : (x == z) = decide (x = y ∨ x = z) := by rw [Bool.eq_iff_iff]; simp [h]
theorem zMM {m : BitVec 8} {i : Nat} : zDH m i = true ↔ (zGX m i).toNat % 2 = 1 := by unfold zDH; simp
theorem zSn (m : BitVec 8) (i : Nat) : ((m >>> i) &&& 1#8).toNat = (zGX m i).toNat % 2 := by
 rw [BitVec.toNat_and, show (1#8).toNat = 1 from rfl, Nat.and_one_is_mod, zPL]
theorem zTO {m : BitVec 8} {i : Nat} (h : ((((m >>> i) &&& 1#8).toNat : Nat) : Int) = 0) : zDH m i = false := by
 rw [zSn] at h
 unfold zDH
 rw [show (zGX m i).toNat % 2 = 0 by omega]
 rfl
theorem zUA {m : BitVec 8} {i : Nat} (h : ((((m >>> i) &&& 1#8).toNat : Nat) : Int) ≠ 0) : zDH m i = true := by
 rw [zSn] at h
 rw [zMM]
 omega
theorem zQq {m : BitVec 8} {i : Nat} (h : (((zGX m i % 2#8).toNat : Nat) : Int) = 1) : zDH m i = true := by
 rw [BitVec.toNat_umod, show (2#8).toNat = 2 from rfl] at h
 rw [zMM]
 omega
theorem zQi {m : BitVec 8} {i : Nat} (h : (((zGX m i % 2#8).toNat : Nat) : Int) ≠ 1) : zDH m i = false := by
 rw [BitVec.toNat_umod, show (2#8).toNat = 2 from rfl] at h
 unfold zDH
 rw [show (zGX m i).toNat % 2 = 0 by omega]
 rfl
theorem zUx (m : BitVec 8) : (m &&& 64#8).toNat = 0 ↔ zDH m 6 = false := by
 have key : ∀ m : BitVec 8, (m &&& 64#8).toNat = 0 ↔ zDH m 6 = false := by decide +kernel
 exact key m
theorem zQy {m : BitVec 8} (h : (((m &&& 64#8).toNat : Nat) : Int) = 0) : zDH m 6 = false := (zUx m).1 (by omega)
theorem zQs {m : BitVec 8} (h : (((m &&& 64#8).toNat : Nat) : Int) ≠ 0) : zDH m 6 = true := by
 cases hb : zDH m 6 with
 | true => rfl
 | false => exact absurd ((zUx m).2 hb) (by omega)
theorem zR3 {bs : List zR} {m : BitVec 8} {R : Rs} (h : zDH m 6 = false) : upA bs m R = (0#16, R) := by unfold upA; rw [if_neg (by rw [h]; decide)]
theorem zRU {bs : List zR} {m : BitVec 8} {R : Rs} (h : zDH m 6 = true) (h2 : (zD bs 65535#64 R).1.toNat = 0) : upA bs m R = ((zD bs 65535#64 R).1.setWidth 16, zBL 7 (zD bs 65535#64 R).2) := by
 unfold upA
 rw [if_pos h, if_pos (BitVec.eq_of_toNat_eq h2)]
theorem zRg {bs : List zR} {m : BitVec 8} {R : Rs} (h : zDH m 6 = true) (h2 : (zD bs 65535#64 R).1.toNat ≠ 0) : upA bs m R = ((zD bs 65535#64 R).1.setWidth 16, (zD bs 65535#64 R).2) := by
 unfold upA
 rw [if_pos h, if_neg (fun e => h2 (by rw [e]; rfl))]
theorem zV3 {X : BitVec 64} (h : X.toNat ≤ 65535) : (X.setWidth 16).toNat = X.toNat := by
 rw [BitVec.toNat_setWidth]
 omega
theorem zFj {X : BitVec 64} (h : X.toNat ≤ 65535) : X.toInt = ((X.toNat : Nat) : Int) := by
 rw [BitVec.toInt_eq_toNat_cond, if_pos (by omega)]
theorem zUO {X : BitVec 64} (h : X.toNat ≤ 65535) : BitVec.ofInt 16 ((X.toNat : Nat) : Int) = X.setWidth 16 := by
 apply BitVec.eq_of_toNat_eq
 rw [zV3 h, BitVec.toNat_ofInt]
 omega
theorem zGs {x : Int} (h : 0 ≤ x) (h2 : x ≤ 9223372036854775807) : (((BitVec.ofInt 64 x).toNat : Nat) : Int) = x := by
 rw [BitVec.toNat_ofInt]
 omega
theorem zV1 {bs : List zR} {m : BitVec 8} {R : Rs} {i : Nat} (h : zDH m i = true) (h2 : (zJ bs (upS bs m R i)).1 = 0) : upS bs m R (i + 1) = zBL 7 (zJ bs (upS bs m R i)).2 := by
 show (upI _ _ _ _).2 = _
 unfold upI
 rw [if_pos h]
 dsimp only
 rw [if_pos h2]
theorem zV5 {bs : List zR} {m : BitVec 8} {R : Rs} {i : Nat} (h : zDH m i = true) (h2 : (zJ bs (upS bs m R i)).1 ≠ 0) : upS bs m R (i + 1) = (zJ bs (upS bs m R i)).2 := by
 show (upI _ _ _ _).2 = _
 unfold upI
 rw [if_pos h]
 dsimp only
 rw [if_neg h2]
theorem zTG {bs : List zR} {m : BitVec 8} {R : Rs} {i : Nat} (h : zDH m i = true) : upX bs m R i = (zJ bs (upS bs m R i)).1 := by
 unfold upX upI
 rw [if_pos h]
theorem zUw {bs : List zR} {m : BitVec 8} {R : Rs} {i : Nat} (h : zDH m i = false) : upS bs m R (i + 1) = upS bs m R i := by
 show (upI _ _ _ _).2 = _
 unfold upI
 rw [if_neg (by rw [h]; decide)]
theorem zVI {bs : List zR} {m : BitVec 8} {R : Rs} {i : Nat} (h : zDH m i = false) : upX bs m R i = 0 := by
 unfold upX upI
 rw [if_neg (by rw [h]; decide)]
theorem zVC {bs : List zR} {m : BitVec 8} {i : Nat} {R : Rs} (h : R.p ≤ bs.length) : (upI bs m i R).2.p ≤ bs.length ∧ R.p ≤ (upI bs m i R).2.p ∧ (upI bs m i R).2.p ≤ R.p + 10 := by
 unfold upI
 have h1 := zBm h
 split
 · dsimp only
   split
   · have := zBE (e := 7) h1.1; omega
   · omega
 · dsimp only; omega
theorem zH1 {bs : List zR} {m : BitVec 8} {R : Rs} (h : R.p ≤ bs.length) : ∀ i, (upS bs m R i).p ≤ bs.length ∧ R.p ≤ (upS bs m R i).p ∧ (upS bs m R i).p ≤ R.p + 10 * i
 | 0 => by simp [upS, h]
 | i + 1 => by
   have h1 := zH1 h i (m := m)
   have h2 := zVC (m := m) (i := i) h1.1
   show (upI _ _ _ _).2.p ≤ _ ∧ _ ≤ (upI _ _ _ _).2.p ∧ (upI _ _ _ _).2.p ≤ _
   omega
theorem zUj {bs : List zR} {R : Rs} (h : R.p ≤ bs.length) : ∀ i, (nS bs R i).p ≤ bs.length ∧ R.p ≤ (nS bs R i).p ∧ (nS bs R i).p ≤ R.p + 10 * i
 | 0 => by simp [nS, h]
 | i + 1 => by
   have h1 := zUj h i
   have h2 := zBm h1.1
   show (zJ _ _).2.p ≤ _ ∧ _ ≤ (zJ _ _).2.p ∧ (zJ _ _).2.p ≤ _
   omega
theorem zSf {bs : List zR} {m : BitVec 8} {R : Rs} (h : R.p ≤ bs.length) : (upA bs m R).2.p ≤ bs.length ∧ R.p ≤ (upA bs m R).2.p := by
 unfold upA
 have h1 := zAw (X := 65535#64) h
 split
 · dsimp only
   split
   · have := zBE (e := 7) h1.1; omega
   · omega
 · dsimp only; omega
def upT (bs : List zR) (m : BitVec 8) (R : Rs) (i : Nat) : Rs := if i ≤ 6 then upS bs m R i else (upA bs m (upS bs m R 6)).2
def upB (bs : List zR) (m : BitVec 8) (R : Rs) (i : Nat) : BitVec 16 := if i ≤ 6 then 0#16 else (upA bs m (upS bs m R 6)).1
section
variable {bs : List zR} {m : BitVec 8} {R : Rs} {i : Nat}
theorem zUq (h : i ≤ 6) : upT bs m R i = upS bs m R i := if_pos h
theorem zMG (h : i ≤ 6) : upB bs m R i = 0#16 := if_pos h
theorem zPd (h : i < 6) : upT bs m R (i + 1) = upS bs m R (i + 1) := if_pos h
theorem zVt (h : zDH m i = false) (hi : i ≤ 6) : upT bs m R (i + 1) = upS bs m R i ∧ upB bs m R (i + 1) = 0#16 := by
 by_cases h6 : i = 6
 · subst h6; unfold upT upB; rw [if_neg (by omega), if_neg (by omega), zR3 h]; exact ⟨rfl, rfl⟩
 · rw [zPd (by omega), zMG (by omega)]; exact ⟨zUw h, rfl⟩
theorem zMn (h : R.p ≤ bs.length) (i : Nat) : (upT bs m R i).p ≤ bs.length := by
 unfold upT
 split
 · exact (zH1 h i).1
 · exact (zSf (zH1 h 6).1).1
end
theorem zHl {bs : List zR} {k id : Int} {R : Rs} (h : R.p ≤ bs.length) : (zA6 bs k id R).2.p ≤ bs.length ∧ R.p ≤ (zA6 bs k id R).2.p := by
 have h1 := zCy h
 have h2 := zH1 (m := (zB bs R).1) h1.1 6
 have h3 := zSf (m := (zB bs R).1) h2.1
 have h4 := zBE (e := 7) h1.1
 unfold zA6
 dsimp only
 split <;> (dsimp only; omega)
theorem zJO {bs : List zR} {k id : Int} {R : Rs} (h : R.p ≤ bs.length) : (zBx bs k id R).2.p ≤ bs.length ∧ R.p ≤ (zBx bs k id R).2.p := by
 have h2 := zUj h 6
 have h3 := zAw (X := 65535#64) h2.1
 unfold zBx
 dsimp only; omega
theorem zO2 {bs : List zR} {k id : Int} {R : Rs} (h : R.p ≤ bs.length) : (zCf bs k id R).2.p ≤ bs.length ∧ R.p ≤ (zCf bs k id R).2.p := by
 unfold zCf
 split
 · exact zJO h
 · split
   · exact zHl h
   · split
     · dsimp only; omega
     · have := zBE (e := 11) h; dsimp only; omega
theorem zHM {bs : List zR} {last : Int} {R : Rs} (h : R.p ≤ bs.length) : (zAM bs last R).2.2.p ≤ bs.length ∧ R.p ≤ (zAM bs last R).2.2.p := by
 have h1 : (zPt bs last R).2.p ≤ bs.length ∧ R.p ≤ (zPt bs last R).2.p := by
   have := zAw (X := BitVec.ofInt 64 (65534 - last)) h
   unfold zPt
   omega
 have h2 := zCy h1.1
 have h3 : (zFT bs last R).2.p ≤ bs.length ∧ (zB bs (zPt bs last R).2).2.p ≤ (zFT bs last R).2.p := zO2 h2.1
 have h4 := zBE (e := 10) h
 unfold zAM
 repeat' split
 all_goals (dsimp only; omega)
theorem zGf {α β : Type} {p x : α × β} (h : p = x) : p = (x.1, x.2) := h
theorem zDB (bs : List zR) (last : Int) (R : Rs) : zFT bs last R = zCf bs (((zB bs (zD bs (BitVec.ofInt 64 (65534 - last)) R).2).1.toNat : Nat) : Int) (last + 1 + (((zD bs (BitVec.ofInt 64 (65534 - last)) R).1.toNat : Nat) : Int)) (zB bs (zD bs (BitVec.ofInt 64 (65534 - last)) R).2).2 := rfl
theorem zGt {bs : List zR} {k id : Int} {R : Rs} (h : k = 0 ∨ k = 3) : zCf bs k id R = zBx bs k id R := by unfold zCf; rw [if_pos h]
theorem zIJ {bs : List zR} {k id : Int} {R : Rs} (h : k = 1) : zCf bs k id R = zA6 bs k id R := by unfold zCf; rw [if_neg (by omega), if_pos h]
theorem zHk {bs : List zR} {k id : Int} {R : Rs} (h : k = 2) : zCf bs k id R = (⟨k, id, 0, 0, 0, 0, 0, 0, 0#16⟩, R) := by unfold zCf; rw [if_neg (by omega), if_neg (by omega), if_pos h]
theorem zIs {bs : List zR} {k id : Int} {R : Rs} (h : ¬ (k = 0 ∨ k = 1 ∨ k = 2 ∨ k = 3)) : zCf bs k id R = (⟨k, id, 0, 0, 0, 0, 0, 0, 0#16⟩, zBL 11 R) := by unfold zCf; rw [if_neg (by omega), if_neg (by omega), if_neg (by omega)]
theorem zCS {bs : List zR} {last : Int} {R : Rs} (h : last < -1 ∨ 65535 < last) : zAM bs last R = (zLt, 3, R) := by unfold zAM; rw [if_pos h]
theorem zCU {bs : List zR} {last : Int} {R : Rs} (h : last = 65535) : zAM bs last R = (zLt, (zBL 10 R).e, zBL 10 R) := by unfold zAM; rw [if_neg (by omega), if_pos h]
theorem zCR {bs : List zR} {last : Int} {R RR : Rs} {rr : zAd} (h : ¬ (last < -1 ∨ 65535 < last)) (h2 : last ≠ 65535) (hr : zFT bs last R = (rr, RR)) (he : RR.e ≠ 0) : zAM bs last R = (zLt, RR.e, RR) := by
 unfold zAM
 rw [if_neg h, if_neg h2, hr, if_pos he]
theorem zCz {bs : List zR} {last : Int} {R RR : Rs} {rr : zAd} (h : ¬ (last < -1 ∨ 65535 < last)) (h2 : last ≠ 65535) (hr : zFT bs last R = (rr, RR)) (he : RR.e = 0) : zAM bs last R = (rr, 0, RR) := by
 unfold zAM
 rw [if_neg h, if_neg h2, hr, if_neg (by simpa using he)]
theorem zFF {bs : List zR} {k id : Int} {R : Rs} (h : (zB bs R).1.toNat = 0 ∨ 127 < (zB bs R).1.toNat) : zA6 bs k id R = (⟨k, id, 0, 0, 0, 0, 0, 0, 0#16⟩, zBL 7 (zB bs R).2) := by
 unfold zA6
 dsimp only
 rw [if_pos h]
theorem zGT {bs : List zR} {k id : Int} {R : Rs} {A : BitVec 16} {T : Rs} (h : ¬ ((zB bs R).1.toNat = 0 ∨ 127 < (zB bs R).1.toNat)) (hA : upA bs (zB bs R).1 (upS bs (zB bs R).1 (zB bs R).2 6) = (A, T)) : zA6 bs k id R = (⟨k, id, upX bs (zB bs R).1 (zB bs R).2 0, upX bs (zB bs R).1 (zB bs R).2 1, upX bs (zB bs R).1 (zB bs R).2 2, upX bs (zB bs R).1 (zB bs R).2 3, upX bs (zB bs R).1 (zB bs R).2 4, upX bs (zB bs R).1 (zB bs R).2 5, A⟩, T) := by
 unfold zA6
 dsimp only
 rw [if_neg h, hA]
theorem zMe {bs : List zR} {last : Int} {R : Rs} (h : R.p ≤ bs.length) (h1 : -1 ≤ last) (h2 : last < 65535) : (((zD bs (BitVec.ofInt 64 (65534 - last)) R).1.toNat : Nat) : Int) ≤ 65534 - last := by
 have h3 := (zAw (X := BitVec.ofInt 64 (65534 - last)) h).2.2.2.1
 have h4 := zGs (x := 65534 - last) (by omega) (by omega)
 omega
theorem zMa {bs : List zR} {last : Int} {R : Rs} (h : R.p ≤ bs.length) (h1 : -1 ≤ last) (h2 : last < 65535) : (zD bs (BitVec.ofInt 64 (65534 - last)) R).1.toInt = (((zD bs (BitVec.ofInt 64 (65534 - last)) R).1.toNat : Nat) : Int) := by
 have := zMe h h1 h2
 by_cases h5 : 65534 - last ≤ 65535
 · exact zFj (by omega)
 · exact zFj (by omega)
end Go.Sx

set_option linter.unusedVariables false
set_option linter.unusedSimpArgs false
namespace Go.Sx
structure zAU where
 id : Int
 p0 : Int
 p1 : Int
 p2 : Int
 v0 : Int
 v1 : Int
 v2 : Int
 a : BitVec 16
 g : BitVec 8
instance : Inhabited zAU := ⟨⟨0, 0, 0, 0, 0, 0, 0, 0#16, 0#8⟩⟩
structure zAU.wf (r : zAU) : Prop where
 id : -9223372036854775808 ≤ r.id ∧ r.id ≤ 9223372036854775807
 p0 : -9223372036854775808 ≤ r.p0 ∧ r.p0 ≤ 9223372036854775807
 p1 : -9223372036854775808 ≤ r.p1 ∧ r.p1 ≤ 9223372036854775807
 p2 : -9223372036854775808 ≤ r.p2 ∧ r.p2 ≤ 9223372036854775807
 v0 : -9223372036854775808 ≤ r.v0 ∧ r.v0 ≤ 9223372036854775807
 v1 : -9223372036854775808 ≤ r.v1 ∧ r.v1 ≤ 9223372036854775807
 v2 : -9223372036854775808 ≤ r.v2 ∧ r.v2 ≤ 9223372036854775807
def zBQ (r : zAU) : List Value := [.int .i64 r.id, .int .i64 r.p0, .int .i64 r.p1, .int .i64 r.p2, .int .i64 r.v0, .int .i64 r.v1, .int .i64 r.v2, .int .u16 ((r.a.toNat : Nat) : Int), .int .u8 ((r.g.toNat : Nat) : Int)]
theorem zBN (r : zAU) : (zBQ r).length = 9 := rfl
def zSc : zAU := ⟨0, 0, 0, 0, 0, 0, 0, 0#16, 0#8⟩
theorem zQJ {r s : zAU} : zAg (zBQ r) (zBQ s) = true ↔ r = s := by
 constructor
 · intro h
   cases r; cases s
   simp only [zAg, zBQ, vEq, Bool.and_eq_true, beq_iff_eq, Bool.and_true, Bool.true_and] at h
   obtain ⟨h1, h2, h3, h4, h5, h6, h7, h8, h9⟩ := h
   have h8' := BitVec.eq_of_toNat_eq (Int.ofNat.inj h8)
   have h9' := BitVec.eq_of_toNat_eq (Int.ofNat.inj h9)
   subst h1 h2 h3 h4 h5 h6 h7 h8' h9'
   rfl
 · rintro rfl
   simp [zAg, zBQ, vEq]
def zG (a : zAU) (r : zAd) : zAU × Nat :=
 if zAk r ≠ 0 then (zSc, zAk r) else if r.id ≠ a.id ∨ r.k = 0 ∨ r.k = 2 then (zSc, 15)
 else if r.k = 3 then (⟨a.id, r.p0, r.p1, r.p2, r.v0, r.v1, r.v2, r.a, a.g + 1#8⟩, 0)
 else (⟨a.id, IntKind.i64.wrap (a.p0 + r.p0), IntKind.i64.wrap (a.p1 + r.p1), IntKind.i64.wrap (a.p2 + r.p2), IntKind.i64.wrap (a.v0 + r.v0), IntKind.i64.wrap (a.v1 + r.v1), IntKind.i64.wrap (a.v2 + r.v2), a.a + r.a, a.g⟩, 0)
theorem zBM {a : zAU} {r : zAd} (h : zAk r ≠ 0) : zG a r = (zSc, zAk r) := by unfold zG; rw [if_pos h]
theorem zBa {a : zAU} {r : zAd} (h : zAk r = 0) (h2 : r.id ≠ a.id ∨ r.k = 0 ∨ r.k = 2) : zG a r = (zSc, 15) := by unfold zG; rw [if_neg (by omega), if_pos h2]
theorem zA8 {a : zAU} {r : zAd} (h : zAk r = 0) (h2 : ¬ (r.id ≠ a.id ∨ r.k = 0 ∨ r.k = 2)) (h3 : r.k = 3) : zG a r = (⟨a.id, r.p0, r.p1, r.p2, r.v0, r.v1, r.v2, r.a, a.g + 1#8⟩, 0) := by
 unfold zG
 rw [if_neg (by omega), if_neg h2, if_pos h3]
theorem zBD {a : zAU} {r : zAd} (h : zAk r = 0) (h2 : ¬ (r.id ≠ a.id ∨ r.k = 0 ∨ r.k = 2)) (h3 : r.k ≠ 3) : zG a r = (⟨a.id, IntKind.i64.wrap (a.p0 + r.p0), IntKind.i64.wrap (a.p1 + r.p1), IntKind.i64.wrap (a.p2 + r.p2), IntKind.i64.wrap (a.v0 + r.v0), IntKind.i64.wrap (a.v1 + r.v1), IntKind.i64.wrap (a.v2 + r.v2), a.a + r.a, a.g⟩, 0) := by
 unfold zG
 rw [if_neg (by omega), if_neg h2, if_neg h3]
end Go.Sx

set_option linter.unusedVariables false
set_option linter.unusedSimpArgs false
namespace Go.Sx
structure zWD where
 k : Int
 m : BitVec 64
 e : BitVec 8
instance : Inhabited zWD := ⟨⟨0, 0#64, 0#8⟩⟩
theorem zBH {α : Type} {g : α → List Value} {size : Nat} (hg : ∀ a, (g a).length = size) : ∀ (l : List α), (l.flatMap g).length = l.length * size
 | [] => by simp
 | a :: l => by rw [List.flatMap_cons, List.length_append, hg, zBH hg l, List.length_cons, Nat.add_mul]; omega
theorem zBe {α : Type} [Inhabited α] {g : α → List Value} {size : Nat} (hg : ∀ a, (g a).length = size) : ∀ (l : List α) (j : Nat), j < l.length → ((l.flatMap g).drop (j * size)).take size = g (l.getD j default)
 | [], j, h => by simp at h
 | a :: l, 0, _ => by
   simp only [Nat.zero_mul, List.drop_zero, List.flatMap_cons, List.getD_cons_zero]
   rw [← hg a, List.take_left']
   rfl
 | a :: l, j + 1, h => by
   have ih := zBe hg l j (by simpa using h)
   rw [List.flatMap_cons, show (j + 1) * size = (g a).length + j * size by rw [hg, Nat.add_mul]; omega, ← List.drop_drop, List.drop_left', List.getD_cons_succ]
   · exact ih
   · rfl
theorem zAf {α : Type} [Inhabited α] {g : α → List Value} {size : Nat} (hg : ∀ a, (g a).length = size) (l : List α) (j o : Nat) (h : j < l.length) (ho : o < size) : (l.flatMap g)[j * size + o]? = (g (l.getD j default))[o]? := by
 rw [← zBe hg l j h, List.getElem?_take, if_pos ho, List.getElem?_drop]
def Tr (bs : List zR) (u : Value) (p : Nat) (u' : Value) (p' : Nat) : Prop := ∀ w' T, Rd w' T u 1 (bs.length - p) (zF (bs.drop p)) → Rd w' T u' 1 (bs.length - p') (zF (bs.drop p'))
theorem Tr.refl {bs : List zR} {u : Value} {p : Nat} : Tr bs u p u p := fun _ _ h => h
theorem Tr.trans {bs : List zR} {u u2 u3 : Value} {p p2 p3 : Nat} (h : Tr bs u p u2 p2) (h2 : Tr bs u2 p2 u3 p3) : Tr bs u p u3 p3 := fun w T h0 => h2 w T (h w T h0)
theorem Tr.cut {bs : List zR} {u : Value} {p k : Nat} (h : k ≤ bs.length - p) : Tr bs u p (zHv u 1 k (bs.length - p)) (p + k) := fun w T h0 => by
 have := h0.slcL (l := k) h
 rwa [List.drop_drop, Nat.sub_sub] at this
theorem zOs {b : List zR} (h : (zBu b).2.2 = 5) : b.length = 0 := by
 unfold zBu at h
 split at h
 · assumption
 · repeat' split at h
   all_goals simp at h
theorem zN9 {b : List zR} (h : b.length = 0) : (zBu b).2.2 = 5 := by rw [zAo h]
theorem zGl {bs : List zR} {k : Nat} : (bs.drop k).getD 0 0 = bs.getD k 0 := by simp [List.getD_eq_getElem?_getD]
theorem zCb {bs : List zR} {k : Nat} (h : (zBu (bs.drop k)).2.2 = 5) : bs.length ≤ k := by
 have := zOs h
 simp only [List.length_drop] at this
 omega
theorem zLS {bs : List zR} {k : Nat} (h : (zBu (bs.drop k)).2.2 ≠ 5) : ¬ bs.length ≤ k := fun h2 => h (zN9 (by simp only [List.length_drop]; omega))
theorem zCu {bs : List zR} {X : BitVec 64} {R : Rs} (h : R.e = 0) (h1 : (zBu (bs.drop R.p)).2.2 = 0) (h2 : X.toNat < (zBu (bs.drop R.p)).1.toNat) : zD bs X R = (0#64, ⟨R.p, 3⟩) := by
 have hu : zHy (bs.drop R.p) X = 3 := by unfold zHy; rw [if_pos ⟨h1, h2⟩]
 rw [zDa h (zLS (by omega)) (by omega), hu]
theorem zCs {bs : List zR} {X : BitVec 64} {R : Rs} (h : R.e = 0) (h1 : (zBu (bs.drop R.p)).2.2 ≠ 0) (h2 : (zBu (bs.drop R.p)).2.2 ≠ 5) : zD bs X R = (0#64, ⟨R.p, (zBu (bs.drop R.p)).2.2⟩) := by
 have hu : zHy (bs.drop R.p) X = (zBu (bs.drop R.p)).2.2 := by unfold zHy; rw [if_neg (fun h => h1 h.1)]
 rw [zDa h (zLS h2) (by omega), hu]
theorem zCp {bs : List zR} {X : BitVec 64} {R : Rs} (h : R.e = 0) (h1 : (zBu (bs.drop R.p)).2.2 = 0) (h2 : (zBu (bs.drop R.p)).1.toNat ≤ X.toNat) : zD bs X R = ((zBu (bs.drop R.p)).1, ⟨R.p + (zBu (bs.drop R.p)).2.1, 0⟩) := by
 have hu : zHy (bs.drop R.p) X = 0 := by unfold zHy; rw [if_neg (fun h => by omega)]; exact h1
 exact zDI h (zLS (by omega)) hu
theorem zPK {bs : List zR} {k : Nat} (h : (zBu (bs.drop k)).2.2 = 0) : (zBu (bs.drop k)).2.1 ≤ bs.length - k := by
 have := (zDn h).2.1
 simpa using this
def zAQ (u : Value) (L p p' : Nat) : Value := if p' = p then u else zHv u 1 (p' - p) (L - p)
theorem zAH {u : Value} {L p : Nat} : zAQ u L p p = u := by simp [zAQ]
theorem zCK {u : Value} {L p k : Nat} (h : 1 ≤ k) : zAQ u L p (p + k) = zHv u 1 k (L - p) := by
 unfold zAQ
 rw [if_neg (by omega), show p + k - p = k by omega]
theorem zW {bs : List zR} {u : Value} {p p' : Nat} (h : p ≤ p') (h2 : p' ≤ bs.length) : Tr bs u p (zAQ u bs.length p p') p' := by
 by_cases e : p' = p
 · subst e
   rw [zAH]
   exact Tr.refl
 · obtain ⟨k, rfl⟩ := Nat.exists_eq_add_of_le h
   rw [zCK (by omega)]
   exact Tr.cut (by omega)
theorem zEJ {bs : List zR} {k : Nat} (h : (zBu (bs.drop k)).2.2 = 0) : 1 ≤ (zBu (bs.drop k)).2.1 := (zDn h).1
theorem zEO {bs : List zR} {u : Value} {e : Nat} {R : Rs} : Tr bs u R.p (id u) (zBL e R).p := by
 have : (zBL e R).p = R.p := by unfold zBL; split <;> rfl
 rw [this]
 exact Tr.refl
theorem zMu {bs : List zR} {R : Rs} (h : R.p ≤ bs.length) : (zJ bs (zJ bs (zJ bs R).2).2).2.p ≤ bs.length ∧ R.p ≤ (zJ bs (zJ bs (zJ bs R).2).2).2.p ∧ (zJ bs (zJ bs (zJ bs R).2).2).2.p ≤ R.p + 30 := zT9 h
end Go.Sx

set_option linter.unusedVariables false
set_option linter.unusedSimpArgs false
namespace Go.Sx
structure zKF {α : Type} (bs : List zR) (c : List zR) (f : Rs → α × Rs) (v : α) : Prop where
 stay : ∀ R, R.e = 6 → (f R).2.e = 6
 good : ∀ R n rest, R.e = 0 → R.p ≤ bs.length → bs.drop R.p = (c ++ rest).take n → c.length ≤ n → f R = (v, ⟨R.p + c.length, 0⟩)
 short : ∀ R n rest, R.e = 0 → R.p ≤ bs.length → bs.drop R.p = (c ++ rest).take n → n < c.length → (f R).2.e = 6
theorem zLn {bs c rest : List zR} {p n : Nat} (h : bs.drop p = (c ++ rest).take n) (hn : c.length ≤ n) (hp : p ≤ bs.length) : bs.drop (p + c.length) = rest.take (n - c.length) ∧ p + c.length ≤ bs.length := by
 have h1 : bs.drop (p + c.length) = (bs.drop p).drop c.length := by rw [List.drop_drop]
 have h2 := congrArg List.length h
 simp only [List.length_drop, List.length_take, List.length_append] at h2
 refine ⟨?_, by omega⟩
 rw [h1, h, List.take_append, List.drop_append_of_le_length (by rw [List.length_take]; omega), List.take_of_length_le hn, List.drop_length, List.nil_append]
theorem zKF.bind {α β : Type} {bs c d : List zR} {f : Rs → α × Rs} {g : α → Rs → β × Rs} {v : α} {u : β} (hf : zKF bs c f v) (hs : ∀ x R, R.e = 6 → (g x R).2.e = 6) (hg : zKF bs d (g v) u) : zKF bs (c ++ d) (fun R => g (f R).1 (f R).2) u := by
 refine ⟨fun R h => hs _ _ (hf.stay R h), fun R n rest h0 hp hd hn => ?_, fun R n rest h0 hp hd hn => ?_⟩
 · rw [List.append_assoc] at hd
   rw [List.length_append] at hn
   have h1 := hf.good R n _ h0 hp hd (by omega)
   obtain ⟨h2, h3⟩ := zLn hd (by omega) hp
   rw [h1]
   dsimp only
   rw [hg.good ⟨R.p + c.length, 0⟩ (n - c.length) rest rfl h3 h2 (by omega), List.length_append]
   dsimp only
   rw [Nat.add_assoc]
 · rw [List.append_assoc] at hd
   rw [List.length_append] at hn
   by_cases hc : c.length ≤ n
   · have h1 := hf.good R n _ h0 hp hd hc
     obtain ⟨h2, h3⟩ := zLn hd hc hp
     rw [h1]
     exact hg.short ⟨R.p + c.length, 0⟩ (n - c.length) rest rfl h3 h2 (by omega)
   · exact hs _ _ (hf.short R n _ h0 hp hd (by omega))
theorem zKF.pure {α : Type} {bs : List zR} (v : α) : zKF bs [] (fun R => (v, R)) v := by
 refine ⟨fun R h => h, fun R n rest h0 hp hd hn => ?_, fun R n rest h0 hp hd hn => ?_⟩
 · cases R; simp at h0; subst h0; rfl
 · simp at hn
/-! ### The mask -/
/-! ### The bodies -/
theorem zAd.wf.num {r : zAd} (h : r.wf) (i : Nat) : -9223372036854775808 ≤ r.num i ∧ r.num i ≤ 9223372036854775807 := by
 match i with
 | 0 => exact h.p0
 | 1 => exact h.p1
 | 2 => exact h.p2
 | 3 => exact h.v0
 | 4 => exact h.v1
 | _ + 5 => exact h.v2
end Go.Sx

set_option linter.unusedVariables false
set_option linter.unusedSimpArgs false
namespace Go.Sx
/-! ### The other way about -/
end Go.Sx

set_option linter.unusedVariables false
set_option linter.unusedSimpArgs false
namespace Go.Sx
theorem zIk {bs : List zR} {R : Rs} (i : Nat) : -9223372036854775808 ≤ nX bs R i ∧ nX bs R i ≤ 9223372036854775807 := by
 unfold nX zJ
 exact zEt _
theorem zRS {bs : List zR} {k id : Int} {R : Rs} (hk : -9223372036854775808 ≤ k ∧ k ≤ 9223372036854775807) (hi : -9223372036854775808 ≤ id ∧ id ≤ 9223372036854775807) : (zBx bs k id R).1.wf := by
 unfold zBx
 dsimp only
 exact ⟨hk, hi, zIk (bs := bs) (R := R) 0, zIk (bs := bs) (R := R) 1, zIk (bs := bs) (R := R) 2, zIk (bs := bs) (R := R) 3, zIk (bs := bs) (R := R) 4, zIk (bs := bs) (R := R) 5⟩
theorem zGj {bs : List zR} {m : BitVec 8} {R : Rs} (i : Nat) : -9223372036854775808 ≤ upX bs m R i ∧ upX bs m R i ≤ 9223372036854775807 := by
 unfold upX upI
 split
 · unfold zJ
   exact zEt _
 · show -9223372036854775808 ≤ (0 : Int) ∧ (0 : Int) ≤ 9223372036854775807
   decide
theorem zPB {bs : List zR} {k id : Int} {R : Rs} (hk : -9223372036854775808 ≤ k ∧ k ≤ 9223372036854775807) (hi : -9223372036854775808 ≤ id ∧ id ≤ 9223372036854775807) : (zA6 bs k id R).1.wf := by
 have hz : -9223372036854775808 ≤ (0 : Int) ∧ (0 : Int) ≤ 9223372036854775807 := by decide
 unfold zA6
 dsimp only
 split
 · exact ⟨hk, hi, hz, hz, hz, hz, hz, hz⟩
 · exact ⟨hk, hi, zGj 0, zGj 1, zGj 2, zGj 3, zGj 4, zGj 5⟩
theorem zPu {bs : List zR} {k id : Int} {R : Rs} (hk : -9223372036854775808 ≤ k ∧ k ≤ 9223372036854775807) (hi : -9223372036854775808 ≤ id ∧ id ≤ 9223372036854775807) : (zCf bs k id R).1.wf ∧ (zCf bs k id R).1.k = k ∧ (zCf bs k id R).1.id = id := by
 have hz : -9223372036854775808 ≤ (0 : Int) ∧ (0 : Int) ≤ 9223372036854775807 := by decide
 unfold zCf
 split
 · exact ⟨zRS hk hi, rfl, rfl⟩
 · split
   · refine ⟨zPB hk hi, ?_, ?_⟩ <;> (unfold zA6; dsimp only; split <;> rfl)
   · split <;> exact ⟨⟨hk, hi, hz, hz, hz, hz, hz, hz⟩, rfl, rfl⟩
theorem zLP : zLt.wf := ⟨by decide, by decide, by decide, by decide, by decide, by decide, by decide, by decide⟩
theorem zRC {bs : List zR} {last : Int} {R : Rs} (hp : R.p ≤ bs.length) : (zAM bs last R).1.wf := by
 unfold zAM
 split
 · exact zLP
 · split
   · exact zLP
   · split
     · exact zLP
     · rename_i h1 h2 h3
       have h4 := zMe (bs := bs) (last := last) hp (by omega) (by omega)
       have h5 := (zB bs (zPt bs last R).2).1.isLt
       exact (zPu (by omega) (by change _ ≤ last + 1 + (((zD bs (BitVec.ofInt 64 (65534 - last)) R).1.toNat : Nat) : Int) ∧ last + 1 + (((zD bs (BitVec.ofInt 64 (65534 - last)) R).1.toNat : Nat) : Int) ≤ _; omega)).1
end Go.Sx
