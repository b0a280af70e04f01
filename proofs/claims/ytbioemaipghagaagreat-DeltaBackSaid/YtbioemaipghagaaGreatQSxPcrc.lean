/- Sums of bytes: plain mathematics. -/
import Derived.Test.YtbioemaipghagaaGreatQSxBasA
set_option linter.unusedVariables false
set_option linter.unusedSimpArgs false
namespace Go.Sx

def stepBit (s : BitVec 32) : BitVec 32 := (s >>> 1) ^^^ (3988292384#32 &&& -(s &&& 1#32))
def stepN : Nat → BitVec 32 → BitVec 32
  | 0, s => s
  | k + 1, s => stepBit (stepN k s)
def stepC (s : BitVec 32) (c : Byte) : BitVec 32 := stepN 8 (s ^^^ c.setWidth 32)
def foldC (s : BitVec 32) (bs : List Byte) : BitVec 32 := bs.foldl stepC s
def crcMore (s : BitVec 32) (bs : List Byte) : BitVec 32 := ~~~(foldC (~~~s) bs)
def crcSum (bs : List Byte) : BitVec 32 := crcMore 0#32 bs
theorem foldC_succ (s : BitVec 32) (bs : List Byte) (k : Nat) (h : k < bs.length) : foldC s (bs.take (k + 1)) = stepC (foldC s (bs.take k)) (bs.getD k 0) := by
  unfold foldC
  rw [List.take_succ_eq_append_getElem h, List.foldl_append]
  simp [List.getD_eq_getElem?_getD, h]
def be4 (s : BitVec 32) : List Byte := [(s >>> 24).setWidth 8, (s >>> 16).setWidth 8, (s >>> 8).setWidth 8, s.setWidth 8]
def seal_ (bs : List Byte) : List Byte := bs ++ be4 (crcSum bs)
theorem length_seal (bs : List Byte) : (seal_ bs).length = bs.length + 4 := by simp [seal_, be4]
def beN (bs : List Byte) : BitVec 32 := bs.foldl (fun s c => (s <<< 8) ||| c.setWidth 32) 0#32
theorem beN_succ (bs : List Byte) (k : Nat) (h : k < bs.length) : beN (bs.take (k + 1)) = (beN (bs.take k) <<< 8) ||| (bs.getD k 0).setWidth 32 := by
  unfold beN
  rw [List.take_succ_eq_append_getElem h, List.foldl_append]
  simp [List.getD_eq_getElem?_getD, h]
theorem shor (s : BitVec 32) (c : Byte) (h : s.toNat < 2 ^ 24) : ((s <<< 8) ||| c.setWidth 32).toNat = s.toNat * 256 + c.toNat := by
  have hc := c.isLt
  rw [BitVec.toNat_or, BitVec.toNat_shiftLeft, BitVec.toNat_setWidth, Nat.shiftLeft_eq, Nat.mod_eq_of_lt (by omega), Nat.mod_eq_of_lt (by omega)]
  rw [Nat.mul_comm, ← Nat.two_pow_add_eq_or_of_lt hc]
theorem beN4 (a b c d : Byte) : (beN [a, b, c, d]).toNat = a.toNat * 16777216 + b.toNat * 65536 + c.toNat * 256 + d.toNat := by
  simp only [beN, List.foldl_cons, List.foldl_nil]
  have ha := a.isLt
  have hb := b.isLt
  have hc := c.isLt
  have hd := d.isLt
  have h0 : (0#32 : BitVec 32).toNat = 0 := rfl
  have h1 := shor 0#32 a (by omega)
  have h2 := shor _ b (by rw [h1]; omega)
  have h3 := shor _ c (by rw [h2, h1]; omega)
  have h4 := shor _ d (by rw [h3, h2, h1]; omega)
  rw [h4, h3, h2, h1]
  omega
theorem beN_be4 (s : BitVec 32) : beN (be4 s) = s := by
  apply BitVec.eq_of_toNat_eq
  have := s.isLt
  rw [be4, beN4]
  simp only [BitVec.toNat_setWidth, BitVec.toNat_ushiftRight, Nat.shiftRight_eq_div_pow]
  omega
theorem be4_beN' (a b c d : Byte) : be4 (beN [a, b, c, d]) = [a, b, c, d] := by
  have h := beN4 a b c d
  have ha := a.isLt
  have hb := b.isLt
  have hc := c.isLt
  have hd := d.isLt
  simp only [be4, List.cons.injEq, and_true]
  refine ⟨?_, ?_, ?_, ?_⟩ <;> apply BitVec.eq_of_toNat_eq <;> simp only [BitVec.toNat_setWidth, BitVec.toNat_ushiftRight, Nat.shiftRight_eq_div_pow, h] <;> omega
theorem be4_beN : ∀ (l : List Byte), l.length = 4 → be4 (beN l) = l
  | [a, b, c, d], _ => be4_beN' a b c d
/-- What is opened: the bytes ahead of the sum, or nothing. -/
def open_ (bs : List Byte) : Option (List Byte) :=
  if bs.length < 4 then none else if beN (bs.drop (bs.length - 4)) = crcSum (bs.take (bs.length - 4)) then some (bs.take (bs.length - 4)) else none
theorem open_seal (bs : List Byte) : open_ (seal_ bs) = some bs := by
  unfold open_
  have hl := length_seal bs
  rw [if_neg (by omega), hl, show bs.length + 4 - 4 = bs.length by omega]
  have h1 : (seal_ bs).drop bs.length = be4 (crcSum bs) := by simp [seal_]
  have h2 : (seal_ bs).take bs.length = bs := by simp [seal_]
  rw [h1, h2, beN_be4, if_pos rfl]
theorem open_spec (bs x : List Byte) : open_ bs = some x ↔ bs = seal_ x := by
  constructor
  · intro h
    unfold open_ at h
    split at h
    · cases h
    · rename_i hl
      split at h
      · rename_i he
        injection h with h
        subst h
        unfold seal_
        rw [← he, be4_beN _ (by simp; omega), List.take_append_drop]
      · cases h
  · rintro rfl
    exact open_seal x
/-! ### No two sums alike -/
end Go.Sx
namespace Go.Sx
/-! ### What the laws ask -/
theorem getD_mid (p q : List Byte) (x : Byte) (i : Nat) (h : p.length = i) : (p ++ x :: q).getD i 0 = x := by subst h; simp
theorem set_mid (p q : List Byte) (x y : Byte) (i : Nat) (h : p.length = i) : (p ++ x :: q).set i y = p ++ y :: q := by subst h; simp
end Go.Sx
