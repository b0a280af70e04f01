import Derived.Test.YtemnjodhidlfpaaGreatQSxBasA
import Derived.Test.YtemnjodhidlfpaaGreatQSxRecs
import Derived.Test.YtemnjodhidlfpaaGreatQSxBasB
/- Texts of the small logic, one behind the other: SxPcrc, SxPgram, SxRgram, SxPgramR, SxPgramK, SxPgramF, SxRrec. -/
set_option linter.unusedVariables false
set_option linter.unusedSimpArgs false
namespace Go.Sx

def zXo (s : BitVec 32) : BitVec 32 := (s >>> 1) ^^^ (3988292384#32 &&& -(s &&& 1#32))
def zJi : Nat → BitVec 32 → BitVec 32
 | 0, s => s
 | k + 1, s => zXo (zJi k s)
def zOu (s : BitVec 32) (c : zO) : BitVec 32 := zJi 8 (s ^^^ c.setWidth 32)
def zML (s : BitVec 32) (bs : List zO) : BitVec 32 := bs.foldl zOu s
def zL7 (s : BitVec 32) (bs : List zO) : BitVec 32 := ~~~(zML (~~~s) bs)
def zCK (bs : List zO) : BitVec 32 := zL7 0#32 bs
theorem zOZ (s : BitVec 32) (bs : List zO) (k : Nat) (h : k < bs.length) : zML s (bs.take (k + 1)) = zOu (zML s (bs.take k)) (bs.getD k 0) := by
 unfold zML
 rw [List.take_succ_eq_append_getElem h, List.foldl_append]
 simp [List.getD_eq_getElem?_getD, h]
def be4 (s : BitVec 32) : List zO := [(s >>> 24).setWidth 8, (s >>> 16).setWidth 8, (s >>> 8).setWidth 8, s.setWidth 8]
def zGL (bs : List zO) : List zO := bs ++ be4 (zCK bs)
theorem zD2 (bs : List zO) : (zGL bs).length = bs.length + 4 := by simp [zGL, be4]
def beN (bs : List zO) : BitVec 32 := bs.foldl (fun s c => (s <<< 8) ||| c.setWidth 32) 0#32
theorem zUG (bs : List zO) (k : Nat) (h : k < bs.length) : beN (bs.take (k + 1)) = (beN (bs.take k) <<< 8) ||| (bs.getD k 0).setWidth 32 := by
 unfold beN
 rw [List.take_succ_eq_append_getElem h, List.foldl_append]
 simp [List.getD_eq_getElem?_getD, h]
theorem zZ6 (s : BitVec 32) (c : zO) (h : s.toNat < 2 ^ 24) : ((s <<< 8) ||| c.setWidth 32).toNat = s.toNat * 256 + c.toNat := by
 have hc := c.isLt
 rw [BitVec.toNat_or, BitVec.toNat_shiftLeft, BitVec.toNat_setWidth, Nat.shiftLeft_eq, Nat.mod_eq_of_lt (by omega), Nat.mod_eq_of_lt (by omega)]
 rw [Nat.mul_comm, ← Nat.two_pow_add_eq_or_of_lt hc]
theorem zan (a b c d : zO) : (beN [a, b, c, d]).toNat = a.toNat * 16777216 + b.toNat * 65536 + c.toNat * 256 + d.toNat := by
 simp only [beN, List.foldl_cons, List.foldl_nil]
 have ha := a.isLt
 have hb := b.isLt
 have hc := c.isLt
 have hd := d.isLt
 have h0 : (0#32 : BitVec 32).toNat = 0 := rfl
 have h1 := zZ6 0#32 a (by omega)
 have h2 := zZ6 _ b (by rw [h1]; omega)
 have h3 := zZ6 _ c (by rw [h2, h1]; omega)
 have h4 := zZ6 _ d (by rw [h3, h2, h1]; omega)
 rw [h4, h3, h2, h1]
 omega
theorem zWg (s : BitVec 32) : beN (be4 s) = s := by
 apply BitVec.eq_of_toNat_eq
 have := s.isLt
 rw [be4, zan]
 simp only [BitVec.toNat_setWidth, BitVec.toNat_ushiftRight, Nat.shiftRight_eq_div_pow]
 omega
theorem zUI (a b c d : zO) : be4 (beN [a, b, c, d]) = [a, b, c, d] := by
 have h := zan a b c d
 have ha := a.isLt
 have hb := b.isLt
 have hc := c.isLt
 have hd := d.isLt
 simp only [be4, List.cons.injEq, and_true]
 refine ⟨?_, ?_, ?_, ?_⟩ <;> apply BitVec.eq_of_toNat_eq <;> simp only [BitVec.toNat_setWidth, BitVec.toNat_ushiftRight, Nat.shiftRight_eq_div_pow, h] <;> omega
theorem zWv : ∀ (l : List zO), l.length = 4 → be4 (beN l) = l
 | [a, b, c, d], _ => zUI a b c d
def zCa (bs : List zO) : Option (List zO) :=
 if bs.length < 4 then none else if beN (bs.drop (bs.length - 4)) = zCK (bs.take (bs.length - 4)) then some (bs.take (bs.length - 4)) else none
theorem zLU (bs : List zO) : zCa (zGL bs) = some bs := by
 unfold zCa
 have hl := zD2 bs
 rw [if_neg (by omega), hl, show bs.length + 4 - 4 = bs.length by omega]
 have h1 : (zGL bs).drop bs.length = be4 (zCK bs) := by simp [zGL]
 have h2 : (zGL bs).take bs.length = bs := by simp [zGL]
 rw [h1, h2, zWg, if_pos rfl]
theorem zQG (bs x : List zO) : zCa bs = some x ↔ bs = zGL x := by
 constructor
 · intro h
   unfold zCa at h
   split at h
   · cases h
   · rename_i hl
     split at h
     · rename_i he
       injection h with h
       subst h
       unfold zGL
       rw [← he, zWv _ (by simp; omega), List.take_append_drop]
     · cases h
 · rintro rfl
   exact zLU x
/-! ### No two sums alike -/
end Go.Sx
namespace Go.Sx
/-! ### What the laws ask -/
end Go.Sx

set_option linter.unusedVariables false
set_option linter.unusedSimpArgs false
namespace Go.Sx
theorem zHC (r : zAA) : (zJA r).length = 9 := rfl
theorem zHP {α : Type} [Inhabited α] {l : List α} {j : Nat} (h : j < l.length) : l.take (j + 1) = l.take j ++ [l.getD j default] := by
 rw [List.take_add_one, List.getD_eq_getElem?_getD, List.getElem?_eq_getElem h]
 rfl
theorem zLL {l : List zAA} (h : ∀ x ∈ l, x.wf) {j : Nat} (hj : j < l.length) : (l.getD j default).wf := by
 rw [List.getD_eq_getElem?_getD, List.getElem?_eq_getElem hj]
 exact h _ (List.getElem_mem hj)
def zCW (O : List zAA) : List zO × Int := O.foldl (fun s r => (s.1 ++ zCY r s.2, r.id)) ([], -1)
theorem zCk {O : List zAA} {k : Nat} (h : k < O.length) : zCW (O.take (k + 1)) = ((zCW (O.take k)).1 ++ zCY (O.getD k default) (zCW (O.take k)).2, (O.getD k default).id) := by
 unfold zCW
 rw [zHP h, List.foldl_append]
 rfl
theorem zNE : ∀ (O : List zAA) (s : List zO × Int), ∃ rest, (O.foldl (fun s r => (s.1 ++ zCY r s.2, r.id)) s).1 = s.1 ++ rest
 | [], s => ⟨[], by simp⟩
 | r :: O, s => by
   obtain ⟨rest, h⟩ := zNE O (s.1 ++ zCY r s.2, r.id)
   exact ⟨zCY r s.2 ++ rest, by rw [List.foldl_cons, h]; simp⟩
theorem zN2 {O : List zAA} (k : Nat) : ∃ rest, (zCW O).1 = (zCW (O.take k)).1 ++ rest := by
 have : zCW O = (O.drop k).foldl (fun s r => (s.1 ++ zCY r s.2, r.id)) (zCW (O.take k)) := by
   unfold zCW
   rw [← List.foldl_append, List.take_append_drop]
 rw [this]
 exact zNE _ _
theorem zMv : ∀ (O : List zAA), (zCW O).1.length ≤ 100 * O.length := by
 have key : ∀ (O : List zAA) (s : List zO × Int), (O.foldl (fun s r => (s.1 ++ zCY r s.2, r.id)) s).1.length ≤ s.1.length + 100 * O.length := by
   intro O
   induction O with
   | nil => intro s; simp
   | cons r O ih =>
     intro s
     have h1 := ih (s.1 ++ zCY r s.2, r.id)
     have h2 := zH3 r s.2
     rw [List.foldl_cons]
     simp only [List.length_append, List.length_cons] at h1 ⊢
     omega
 intro O
 have := key O ([], -1)
 simpa [zCW] using this
def zE7 (l : List zAA) (k : Nat) : Nat := zAv (l.getD k default) (zCW (l.take k)).2
def zB4 (l : List zAA) : Nat → Nat
 | 0 => 0
 | j + 1 => if zB4 l j ≠ 0 then zB4 l j else zE7 l j
def zCR (l : List zAA) : Nat := zB4 l l.length
theorem zQc {l : List zAA} {j : Nat} (h : zB4 l j = 0) (h2 : zE7 l j = 0) : zB4 l (j + 1) = 0 := by unfold zB4; rw [if_neg (by omega), h2]
theorem zOX {l : List zAA} {j : Nat} (h : zB4 l j = 0) : zB4 l (j + 1) = zE7 l j := by unfold zB4; rw [if_neg (by omega)]
theorem zHc {l : List zAA} {j e : Nat} (h : zB4 l j = e) (he : e ≠ 0) : ∀ k, zB4 l (j + k) = e
 | 0 => h
 | k + 1 => by
   have := zHc h he k
   show (if zB4 l (j + k) ≠ 0 then zB4 l (j + k) else zE7 l (j + k)) = e
   rw [if_pos (by omega), this]
theorem zGQ {l : List zAA} {j : Nat} (hj : j < l.length) (h : zB4 l j = 0) (he : zE7 l j ≠ 0) : zCR l = zE7 l j := by
 have := zHc (zOX h) he (l.length - (j + 1))
 rwa [show j + 1 + (l.length - (j + 1)) = l.length by omega] at this
theorem zGN {l : List zAA} {j : Nat} (h : zB4 l j = 0) : ∀ k, k < j → zE7 l k = 0 := by
 induction j with
 | zero => intro k hk; omega
 | succ j ih =>
   unfold zB4 at h
   split at h
   · omega
   · intro k hk
     by_cases e : k = j
     · subst e; exact h
     · exact ih (by omega) k (by omega)
theorem zLi {l : List zAA} {j : Nat} (hj : j ≤ l.length) (h : zB4 l j = 0) : -1 ≤ (zCW (l.take j)).2 ∧ (zCW (l.take j)).2 ≤ 65535 := by
 cases j with
 | zero => exact ⟨(show -1 ≤ (-1 : Int) by decide), (show (-1 : Int) ≤ 65535 by decide)⟩
 | succ j =>
   have h1 := zCt (zGN h j (by omega))
   rw [zCk (by omega)]
   dsimp only
   omega
def zE5 (t tm b : Int) (m : Nat) : Nat := if t < 0 ∨ 4294967295 < t ∨ tm < -2305843009213693952 ∨ 2305843009213693952 < tm ∨ b < -1 then 3 else if t ≤ b then 10 else if 128 < m then 8 else 0
def zG1 (t b : Int) : BitVec 64 := if 0 ≤ b then BitVec.ofInt 64 (t - b) else 0#64
def zA7 (t tm b : Int) (m : Nat) : List zO := [71#8, 1#8] ++ zCI (BitVec.ofInt 64 t).toNat ++ zCI (zF8 tm).toNat ++ zCI (zG1 t b).toNat ++ zCI (BitVec.ofInt 64 (m : Int)).toNat
def zBa (t tm b : Int) (m : Nat) : List zO := if zE5 t tm b m ≠ 0 then [] else zA7 t tm b m
def zAQ (t tm b : Int) (l : List zAA) : Nat := if zE5 t tm b l.length ≠ 0 then zE5 t tm b l.length else zCR l
def zDL (t tm b : Int) (l : List zAA) : List zO := if zAQ t tm b l ≠ 0 then [] else zA7 t tm b l.length ++ (zCW l).1
def zFK (t tm b : Int) (l : List zAA) : Nat := if zAQ t tm b l ≠ 0 then zAQ t tm b l else if 4092 < (zDL t tm b l).length then 8 else 0
def gwB (t tm b : Int) (l : List zAA) : List zO := if zFK t tm b l ≠ 0 then [] else zGL (zDL t tm b l)
theorem zFw (t tm b : Int) (m : Nat) : (zA7 t tm b m).length ≤ 42 := by
 have h1 := zEC (BitVec.ofInt 64 t).toNat
 have h2 := zEC (zF8 tm).toNat
 have h3 := zEC (zG1 t b).toNat
 have h4 := zEC (BitVec.ofInt 64 (m : Int)).toNat
 unfold zA7
 simp only [List.length_append, List.length_cons, List.length_nil]
 omega
theorem zDR {t tm b : Int} {m : Nat} (h : t < 0 ∨ 4294967295 < t ∨ tm < -2305843009213693952 ∨ 2305843009213693952 < tm ∨ b < -1) : zE5 t tm b m = 3 := by unfold zE5; rw [if_pos h]
theorem zCC {t tm b : Int} {m : Nat} (h : ¬ (t < 0 ∨ 4294967295 < t ∨ tm < -2305843009213693952 ∨ 2305843009213693952 < tm ∨ b < -1)) (h2 : t ≤ b) : zE5 t tm b m = 10 := by unfold zE5; rw [if_neg h, if_pos h2]
theorem zDU {t tm b : Int} {m : Nat} (h : ¬ (t < 0 ∨ 4294967295 < t ∨ tm < -2305843009213693952 ∨ 2305843009213693952 < tm ∨ b < -1)) (h2 : ¬ t ≤ b) (h3 : 128 < m) : zE5 t tm b m = 8 := by unfold zE5; rw [if_neg h, if_neg h2, if_pos h3]
theorem zGp {t tm b : Int} {m : Nat} (h : ¬ (t < 0 ∨ 4294967295 < t ∨ tm < -2305843009213693952 ∨ 2305843009213693952 < tm ∨ b < -1)) (h2 : ¬ t ≤ b) (h3 : ¬ 128 < m) : zE5 t tm b m = 0 := by unfold zE5; rw [if_neg h, if_neg h2, if_neg h3]
theorem zGM {t tm b : Int} {m : Nat} (h : zE5 t tm b m = 0) : 0 ≤ t ∧ t ≤ 4294967295 ∧ -2305843009213693952 ≤ tm ∧ tm ≤ 2305843009213693952 ∧ -1 ≤ b ∧ b < t ∧ m ≤ 128 := by
 unfold zE5 at h
 split at h
 · cases h
 · split at h
   · cases h
   · split at h
     · cases h
     · omega
theorem zB3 {t tm b : Int} {l : List zAA} (h : zE5 t tm b l.length ≠ 0) : zAQ t tm b l = zE5 t tm b l.length := by unfold zAQ; rw [if_pos h]
theorem zBz {t tm b : Int} {l : List zAA} (h : zE5 t tm b l.length = 0) : zAQ t tm b l = zCR l := by unfold zAQ; rw [if_neg (by omega)]
theorem zFp {t tm b : Int} {l : List zAA} (h : zAQ t tm b l ≠ 0) : zDL t tm b l = [] := by unfold zDL; rw [if_pos h]
theorem zJs {t tm b : Int} {l : List zAA} (h : zAQ t tm b l = 0) : zDL t tm b l = zA7 t tm b l.length ++ (zCW l).1 := by unfold zDL; rw [if_neg (by omega)]
theorem zD3 {t tm b : Int} {l : List zAA} (h : zAQ t tm b l = 0) : zE5 t tm b l.length = 0 ∧ zCR l = 0 := by
 unfold zAQ at h
 split at h
 · omega
 · exact ⟨by omega, h⟩
theorem zGd (t tm b : Int) (l : List zAA) : (zDL t tm b l).length ≤ 12842 := by
 unfold zDL
 split
 · simp
 · rename_i h
   have h1 := zGM (zD3 (by omega : zAQ t tm b l = 0)).1
   have h2 := zFw t tm b l.length
   have h3 := zMv l
   simp only [List.length_append]
   omega
theorem zIl (t tm b : Int) (l : List zAA) : (gwB t tm b l).length ≤ 4096 := by
 unfold gwB
 split
 · simp
 · rename_i h
   have h1 : zFK t tm b l = 0 := by omega
   unfold zFK at h1
   rw [zD2]
   split at h1
   · omega
   · split at h1
     · cases h1
     · omega
end Go.Sx

set_option linter.unusedVariables false
set_option linter.unusedSimpArgs false
namespace Go.Sx
/-! ### What the laws need -/
theorem zMA {t tm b : Int} {l : List zAA} (h : zFK t tm b l = 0) : zAQ t tm b l = 0 ∧ (zDL t tm b l).length ≤ 4092 := by
 unfold zFK at h
 split at h
 · omega
 · split at h
   · cases h
   · omega
theorem zSY {t tm b : Int} {l : List zAA} (h : zFK t tm b l = 0) : gwB t tm b l = zGL (zDL t tm b l) := by unfold gwB; rw [if_neg (by omega)]
theorem zXt {t tm b : Int} {l : List zAA} (h : zFK t tm b l = 0) : zCa (gwB t tm b l) = some (zDL t tm b l) := by rw [zSY h]; exact zLU _
end Go.Sx

set_option linter.unusedVariables false
set_option linter.unusedSimpArgs false
namespace Go.Sx
def zEO (c : zO) (bs : List zO) (R : Rs) : Rs := if (zG bs R).1.toNat = c.toNat then (zG bs R).2 else zBZ 7 (zG bs R).2
def zKS (bs : List zO) (R : Rs) : Rs := zEO 1#8 bs (zEO 71#8 bs R)
def gT (bs : List zO) (R : Rs) : Int × Rs := ((((zL bs 4294967295#64 R).1.toNat : Nat) : Int), (zL bs 4294967295#64 R).2)
def gTm (bs : List zO) (R : Rs) : Int × Rs := ((zY bs R).1, if -2305843009213693952 ≤ (zY bs R).1 ∧ (zY bs R).1 ≤ 2305843009213693952 then (zY bs R).2 else zBZ 3 (zY bs R).2)
def gB (bs : List zO) (t : Int) (R : Rs) : Int × Rs := (if 0 < (zL bs (BitVec.ofInt 64 t) R).1.toNat then t - (((zL bs (BitVec.ofInt 64 t) R).1.toNat : Nat) : Int) else -1, (zL bs (BitVec.ofInt 64 t) R).2)
def zMO (bs : List zO) (s : List zAA × Int × Rs) : List zAA × Int × Rs :=
 if (zAC bs s.2.1 s.2.2).2.1 ≠ 0 then (s.1, s.2.1, (zAC bs s.2.1 s.2.2).2.2) else (s.1 ++ [(zAC bs s.2.1 s.2.2).1], (zAC bs s.2.1 s.2.2).1.id, (zAC bs s.2.1 s.2.2).2.2)
def zJM (bs : List zO) (s : List zAA × Int × Rs) : Nat → List zAA × Int × Rs
 | 0 => s
 | i + 1 => if (zJM bs s i).2.2.e ≠ 0 then zJM bs s i else zMO bs (zJM bs s i)
def zU (bs : List zO) (R : Rs) (i : Nat) : List zAA × Int × Rs := zJM bs ([], -1, (zL bs 128#64 R).2) i
def gN (bs : List zO) (R : Rs) : Nat := (zL bs 128#64 R).1.toNat
def gR1 (x : List zO) : Rs := zKS x ⟨0, 0⟩
def gTx (x : List zO) : Int × Rs := gT x (gR1 x)
def zGh (x : List zO) : Int × Rs := gTm x (gTx x).2
def gBx (x : List zO) : Int × Rs := gB x (gTx x).1 (zGh x).2
def gSx (x : List zO) : List zAA × Int × Rs := zU x (gBx x).2 (gN x (gBx x).2)
def gEx (x : List zO) : Nat := zIQ x (gSx x).2.2
structure zDO where
 t : Int
 tm : Int
 b : Int
 l : List zAA
 e : Nat
def zA (bs : List zO) : zDO :=
 if 4096 < bs.length then ⟨0, 0, 0, [], 8⟩ else match zCa bs with
   | none => ⟨0, 0, 0, [], 9⟩
   | some x => if gEx x ≠ 0 then ⟨0, 0, 0, [], gEx x⟩ else ⟨(gTx x).1, (zGh x).1, (gBx x).1, (gSx x).1, 0⟩
theorem zKQ {X : BitVec 64} (h : X.toNat ≤ 9223372036854775807) : X.toInt = ((X.toNat : Nat) : Int) := by rw [BitVec.toInt_eq_toNat_cond, if_pos (by omega)]
theorem zK6 (i : Nat) : BitVec.ofNat 64 i + 1#64 = BitVec.ofNat 64 (i + 1) := by
 apply BitVec.eq_of_toNat_eq
 simp
theorem zHF {c : zO} {bs : List zO} {R : Rs} (h : R.p ≤ bs.length) : (zEO c bs R).p ≤ bs.length ∧ R.p ≤ (zEO c bs R).p := by
 have h1 := zDr h
 have h2 := zBL (e := 7) h1.1
 unfold zEO
 split <;> omega
theorem zKf {bs : List zO} {R : Rs} (h : R.p ≤ bs.length) : (zKS bs R).p ≤ bs.length := (zHF (zHF h).1).1
theorem zZL {bs : List zO} {R : Rs} (h : R.p ≤ bs.length) : (gT bs R).2.p ≤ bs.length ∧ 0 ≤ (gT bs R).1 ∧ (gT bs R).1 ≤ 4294967295 := by
 have h1 := zAx (X := 4294967295#64) h
 have h2 : (4294967295#64).toNat = 4294967295 := rfl
 unfold gT
 dsimp only
 omega
theorem zUv {bs : List zO} {R : Rs} (h : R.p ≤ bs.length) : (gTm bs R).2.p ≤ bs.length ∧ -9223372036854775808 ≤ (gTm bs R).1 ∧ (gTm bs R).1 ≤ 9223372036854775807 := by
 have h1 := zDI h
 have h2 := zBL (e := 3) h1.1
 have h3 : -9223372036854775808 ≤ (zY bs R).1 ∧ (zY bs R).1 ≤ 9223372036854775807 := by unfold zY; exact zFj _
 unfold gTm
 dsimp only
 split <;> omega
theorem zYS {bs : List zO} {t : Int} {R : Rs} (h : R.p ≤ bs.length) (ht : 0 ≤ t ∧ t ≤ 4294967295) : (gB bs t R).2.p ≤ bs.length ∧ -1 ≤ (gB bs t R).1 ∧ (gB bs t R).1 ≤ 4294967295 := by
 have h1 := zAx (X := BitVec.ofInt 64 t) h
 have h2 := zDv (x := t) (by omega) (by omega)
 unfold gB
 dsimp only
 split <;> omega
structure zUl (bs : List zO) (i : Nat) (s : List zAA × Int × Rs) : Prop where
 p : s.2.2.p ≤ bs.length
 lo : -1 ≤ s.2.1
 hi : s.2.1 ≤ 65535
 len : s.1.length ≤ i
theorem zRd {bs : List zO} {last : Int} {R : Rs} (h : -1 ≤ last ∧ last ≤ 65535) : (zAC bs last R).2.1 = (zAC bs last R).2.2.e := by
 unfold zAC
 rw [if_neg (by omega)]
 split
 · rfl
 · split
   · rfl
   · rename_i h1
     exact (Decidable.not_not.1 h1).symm
theorem zUF (bs : List zO) (last : Int) (R : Rs) : (zEJ bs last R).1.id = last + 1 + (((zRR bs last R).1.toNat : Nat) : Int) := by
 unfold zEJ zA4 zB7 zA0
 dsimp only
 (repeat' split) <;> rfl
theorem zS5 {bs : List zO} {last : Int} {R : Rs} (hp : R.p ≤ bs.length) (h : -1 ≤ last ∧ last ≤ 65535) (h0 : (zAC bs last R).2.1 = 0) : last < (zAC bs last R).1.id ∧ (zAC bs last R).1.id ≤ 65535 := by
 unfold zAC at h0 ⊢
 rw [if_neg (by omega)] at h0 ⊢
 by_cases hl : last = 65535
 · rw [if_pos hl] at h0
   unfold zBZ at h0
   split at h0
   · simp at h0
   · contradiction
 · rw [if_neg hl] at h0 ⊢
   split at h0
   · contradiction
   · rename_i h1
     rw [if_neg h1]
     dsimp only
     rw [zUF]
     have h2 := zAx (X := BitVec.ofInt 64 (65534 - last)) hp
     have h3 := zDv (x := 65534 - last) (by omega) (by omega)
     unfold zRR
     omega
theorem zP3 {bs : List zO} {i : Nat} {s : List zAA × Int × Rs} (h : zUl bs i s) : zUl bs (i + 1) (zMO bs s) := by
 have hp := zMh (last := s.2.1) h.p
 have hl := h.len
 unfold zMO
 split
 · exact ⟨hp.1, h.lo, h.hi, by dsimp only; omega⟩
 · rename_i h0
   have hi := zS5 h.p ⟨h.lo, h.hi⟩ (by omega)
   have hlo := h.lo
   refine ⟨hp.1, by dsimp only; omega, by dsimp only; omega, by simp only [List.length_append, List.length_singleton]; omega⟩
theorem zJm {bs : List zO} {s : List zAA × Int × Rs} (h : zUl bs 0 s) : ∀ i, zUl bs i (zJM bs s i)
 | 0 => h
 | i + 1 => by
   unfold zJM
   have h1 := zJm h i
   split
   · exact ⟨h1.p, h1.lo, h1.hi, Nat.le_succ_of_le h1.len⟩
   · exact zP3 h1
theorem zUd {bs : List zO} {R : Rs} (hR : R.p ≤ bs.length) : zUl bs 0 ([], -1, (zL bs 128#64 R).2) := ⟨(zAx hR).1, Int.le_refl _, by show (-1 : Int) ≤ 65535; decide, Nat.le_refl 0⟩
theorem zCg {bs : List zO} {R : Rs} (hR : R.p ≤ bs.length) (i : Nat) : zUl bs i (zU bs R i) := zJm (zUd hR) i
theorem zKY {bs : List zO} {s : List zAA × Int × Rs} {i : Nat} (h : (zJM bs s i).2.2.e ≠ 0) : ∀ k, zJM bs s (i + k) = zJM bs s i
 | 0 => rfl
 | k + 1 => by
   have h1 := zKY h k
   show (if (zJM bs s (i + k)).2.2.e ≠ 0 then zJM bs s (i + k) else _) = _
   rw [h1, if_pos h]
theorem zV6 (bs : List zO) (R : Rs) : gN bs R ≤ 128 := by
 have h2 : (128#64).toNat = 128 := rfl
 unfold gN zL
 split
 · exact Nat.zero_le _
 · split
   · exact Nat.zero_le _
   · split
     · exact Nat.zero_le _
     · rename_i h
       have h1 := (zMI (Decidable.not_not.1 h)).2
       dsimp only
       omega
theorem zR1 {bs : List zO} {R : Rs} : gN bs R ≤ 0 ∨ (zU bs R 0).2.2.e = 0 := by
 show (zL bs 128#64 R).1.toNat ≤ 0 ∨ (zL bs 128#64 R).2.e = 0
 unfold zL
 (repeat' split) <;> first | exact .inl (Nat.le_refl 0) | exact .inr rfl
theorem zJT {bs : List zO} {R : Rs} {i : Nat} (h : (zU bs R i).2.2.e = 0) (h0 : (zAC bs (zU bs R i).2.1 (zU bs R i).2.2).2.1 = 0) : zU bs R (i + 1) = ((zU bs R i).1 ++ [(zAC bs (zU bs R i).2.1 (zU bs R i).2.2).1], (zAC bs (zU bs R i).2.1 (zU bs R i).2.2).1.id, (zAC bs (zU bs R i).2.1 (zU bs R i).2.2).2.2) := by
 show zJM _ _ (i + 1) = _
 unfold zJM
 rw [if_neg (by unfold zU at h; omega)]
 unfold zMO
 rw [if_neg (by unfold zU at h0; omega)]
 rfl
theorem zNi {bs : List zO} {R : Rs} {i : Nat} (hR : R.p ≤ bs.length) (h : (zU bs R i).2.2.e = 0) (h0 : (zAC bs (zU bs R i).2.1 (zU bs R i).2.2).2.1 = 0) : (zU bs R (i + 1)).2.2.e = 0 := by
 have hi := zCg hR i
 rw [zJT h h0, ← h0]
 exact (zRd ⟨hi.lo, hi.hi⟩).symm
theorem zPb {bs : List zO} {R : Rs} {i : Nat} (hR : R.p ≤ bs.length) (hi : i < gN bs R) (h : (zU bs R i).2.2.e = 0) (h0 : (zAC bs (zU bs R i).2.1 (zU bs R i).2.2).2.1 ≠ 0) : zU bs R (gN bs R) = ((zU bs R i).1, (zU bs R i).2.1, (zAC bs (zU bs R i).2.1 (zU bs R i).2.2).2.2) := by
 have hv := zCg hR i
 have h1 : zU bs R (i + 1) = ((zU bs R i).1, (zU bs R i).2.1, (zAC bs (zU bs R i).2.1 (zU bs R i).2.2).2.2) := by
   show zJM _ _ (i + 1) = _
   unfold zJM
   rw [if_neg (by unfold zU at h; omega)]
   unfold zMO
   rw [if_pos (by unfold zU at h0; omega)]
   rfl
 have h2 := zRd (bs := bs) (R := (zU bs R i).2.2) ⟨hv.lo, hv.hi⟩
 have h3 := zKY (bs := bs) (s := ([], -1, (zL bs 128#64 R).2)) (i := i + 1) (by
   show (zU bs R (i + 1)).2.2.e ≠ 0
   rw [h1]
   dsimp only
   omega) (gN bs R - (i + 1))
 rw [show i + 1 + (gN bs R - (i + 1)) = gN bs R by omega] at h3
 exact h3.trans h1
theorem zI1 {bs : List zO} (h : 4096 < bs.length) : zA bs = ⟨0, 0, 0, [], 8⟩ := by unfold zA; rw [if_pos h]
theorem zIT {bs : List zO} (h : ¬ 4096 < bs.length) (ho : zCa bs = none) : zA bs = ⟨0, 0, 0, [], 9⟩ := by unfold zA; rw [if_neg h, ho]
theorem zK3 {bs x : List zO} (h : ¬ 4096 < bs.length) (ho : zCa bs = some x) (he : gEx x ≠ 0) : zA bs = ⟨0, 0, 0, [], gEx x⟩ := by
 unfold zA
 rw [if_neg h, ho]
 dsimp only
 rw [if_pos he]
theorem zJK {bs x : List zO} (h : ¬ 4096 < bs.length) (ho : zCa bs = some x) (he : gEx x = 0) : zA bs = ⟨(gTx x).1, (zGh x).1, (gBx x).1, (gSx x).1, 0⟩ := by
 unfold zA
 rw [if_neg h, ho]
 dsimp only
 rw [if_neg (by omega)]
theorem zUj (x : List zO) : (gR1 x).p ≤ x.length := zKf (Nat.zero_le _)
theorem zMV (x : List zO) : (gTx x).2.p ≤ x.length ∧ 0 ≤ (gTx x).1 ∧ (gTx x).1 ≤ 4294967295 := zZL (zUj x)
theorem zLr (x : List zO) : (zGh x).2.p ≤ x.length ∧ -9223372036854775808 ≤ (zGh x).1 ∧ (zGh x).1 ≤ 9223372036854775807 := zUv (zMV x).1
theorem zK8 (x : List zO) : (gBx x).2.p ≤ x.length ∧ -1 ≤ (gBx x).1 ∧ (gBx x).1 ≤ 4294967295 := zYS (zLr x).1 (zMV x).2
theorem zO4 (x : List zO) : (gSx x).1.length ≤ 128 := by unfold gSx; exact Nat.le_trans (zCg (zK8 x).1 _).len (zV6 _ _)
theorem zGb (x : List zO) : zU x (gBx x).2 (gN x (gBx x).2) = gSx x := rfl
theorem zQg (x : List zO) : zIQ x (gSx x).2.2 = gEx x := rfl
theorem zZ8 (x : List zO) : (gSx x).2.2.p ≤ x.length := by rw [← zGb]; exact (zCg (zK8 x).1 _).p
theorem zHD (bs : List zO) : (zA bs).l.length ≤ 128 ∧ 0 ≤ (zA bs).t ∧ (zA bs).t ≤ 4294967295 ∧ -9223372036854775808 ≤ (zA bs).tm ∧ (zA bs).tm ≤ 9223372036854775807 ∧ -1 ≤ (zA bs).b ∧ (zA bs).b ≤ 4294967295 := by
 unfold zA
 split
 · simp
 · split
   · simp
   · rename_i x _
     have h1 := zMV x
     have h2 := zLr x
     have h3 := zK8 x
     have h4 := zO4 x
     split
     · simp
     · dsimp only
       omega
theorem zYi (x : List zO) : zEO 1#8 x (zEO 71#8 x ⟨0, 0⟩) = gR1 x := rfl
theorem zZe (x : List zO) : gTx x = ((((zL x 4294967295#64 (gR1 x)).1.toNat : Nat) : Int), (zL x 4294967295#64 (gR1 x)).2) := rfl
theorem zXI {x : List zO} (h : -2305843009213693952 ≤ (zY x (gTx x).2).1 ∧ (zY x (gTx x).2).1 ≤ 2305843009213693952) : zGh x = ((zY x (gTx x).2).1, (zY x (gTx x).2).2) := by unfold zGh gTm; rw [if_pos h]
theorem zWI {x : List zO} (h : 0 < (zL x (BitVec.ofInt 64 (gTx x).1) (zGh x).2).1.toNat) : gBx x = ((gTx x).1 - (((zL x (BitVec.ofInt 64 (gTx x).1) (zGh x).2).1.toNat : Nat) : Int), (zL x (BitVec.ofInt 64 (gTx x).1) (zGh x).2).2) := by unfold gBx gB; rw [if_pos h]
theorem zXz {x : List zO} (h : ¬ 0 < (zL x (BitVec.ofInt 64 (gTx x).1) (zGh x).2).1.toNat) : gBx x = (-1, (zL x (BitVec.ofInt 64 (gTx x).1) (zGh x).2).2) := by unfold gBx gB; rw [if_neg h]
end Go.Sx

set_option linter.unusedVariables false
set_option linter.unusedSimpArgs false
namespace Go.Sx
theorem zQw {bs : List zO} {s : List zAA × Int × Rs} (h : zUl bs 0 s) (hw : ∀ r ∈ s.1, r.wf) : ∀ i, ∀ r ∈ (zJM bs s i).1, r.wf
 | 0 => hw
 | i + 1 => by
   have h1 := zJm h i
   have h2 := zQw h hw i
   unfold zJM
   split
   · exact h2
   · unfold zMO
     split
     · exact h2
     · intro r hr
       rcases List.mem_append.1 hr with hr | hr
       · exact h2 r hr
       · rw [List.mem_singleton.1 hr]; exact zUa h1.p
theorem zZj (x : List zO) : ∀ r ∈ (gSx x).1, r.wf := by
 rw [← zGb]
 unfold zU
 exact zQw (zUd (zK8 x).1) (fun r hr => by cases hr) _
theorem zJb (bs : List zO) : ∀ r ∈ (zA bs).l, r.wf := by
 unfold zA
 split
 · simp
 · split
   · simp
   · split
     · simp
     · dsimp only; exact zZj _
end Go.Sx

set_option linter.unusedVariables false
set_option linter.unusedSimpArgs false
namespace Go.Sx
theorem zC2.full {α : Type} {bs c rest : List zO} {f : Rs → α × Rs} {v : α} {p : Nat} (h : zC2 bs c f v) (hp : p ≤ bs.length) (hd : bs.drop p = c ++ rest) : f ⟨p, 0⟩ = (v, ⟨p + c.length, 0⟩) ∧ bs.drop (p + c.length) = rest ∧ p + c.length ≤ bs.length := by
 have hd' : bs.drop p = (c ++ rest).take (c ++ rest).length := by rw [List.take_length]; exact hd
 have h2 := zLy hd' (by simp) hp
 exact ⟨h.good ⟨p, 0⟩ _ rest rfl hp hd' (by simp), by rw [h2.1, List.length_append, Nat.add_sub_cancel_left, List.take_length], h2.2⟩
theorem zLF {bs rest : List zO} {c : zO} {p : Nat} (hp : p ≤ bs.length) (hd : bs.drop p = [c] ++ rest) : zEO c bs ⟨p, 0⟩ = ⟨p + 1, 0⟩ ∧ bs.drop (p + 1) = rest ∧ p + 1 ≤ bs.length := by
 obtain ⟨h1, h2, h3⟩ := (zGF (bs := bs) (c := c)).full hp hd
 refine ⟨?_, h2, h3⟩
 unfold zEO
 rw [h1, if_pos rfl]
 rfl
theorem zKK {bs : List zO} {l : List zAA} {R : Rs} {p : Nat} (hl : ∀ x ∈ l, x.wf) (he : zCR l = 0) (h0 : (zL bs 128#64 R).2 = ⟨p, 0⟩) (hp : p ≤ bs.length) (hR : R.p ≤ bs.length) {tail : List zO} (hd : bs.drop p = (zCW l).1 ++ tail) :
   ∀ i, i ≤ l.length → zU bs R i = (l.take i, (zCW (l.take i)).2, ⟨p + (zCW (l.take i)).1.length, 0⟩)
 | 0, _ => by
   show ([], (-1 : Int), (zL bs 128#64 R).2) = _
   rw [h0]
   rfl
 | i + 1, hi => by
   have ih := zKK hl he h0 hp hR hd i (by omega)
   obtain ⟨rest, hs⟩ := zN2 (O := l) (i + 1)
   rw [zCk (by omega)] at hs
   have hds := hd
   rw [hs, List.append_assoc, List.append_assoc] at hds
   have hlen := congrArg List.length hds
   simp only [List.length_drop, List.length_append] at hlen
   have h1 : bs.drop (p + (zCW (l.take i)).1.length) = zCY (l.getD i default) (zCW (l.take i)).2 ++ (rest ++ tail) := by
     rw [← List.drop_drop, hds, List.drop_left]
   have hq := zVT (bs := bs) (last := (zCW (l.take i)).2) (zLL hl (by omega)) (zGN he i (by omega)) (by omega) h1
   rw [zJT (by rw [ih]) (by rw [ih]; dsimp only; rw [hq]), ih]
   dsimp only
   rw [hq, zCk (by omega), zHP (by omega)]
   dsimp only
   rw [List.length_append, Nat.add_assoc]
theorem zOa {t tm b : Int} {l : List zAA} {x tail : List zO} (hl : ∀ x ∈ l, x.wf) (hb : zAQ t tm b l = 0) (hx0 : x = zDL t tm b l ++ tail) : (gTx x).1 = t ∧ (zGh x).1 = tm ∧ (gBx x).1 = b ∧ (gSx x).1 = l ∧ gEx x = if tail = [] then 0 else 8 := by
 obtain ⟨hg, hr⟩ := zD3 hb
 obtain ⟨g1, g2, g3, g4, g5, g6, g7⟩ := zGM hg
 have hx : x = [71#8] ++ ([1#8] ++ (zCI (BitVec.ofInt 64 t).toNat ++ (zDK tm ++ (zCI (zG1 t b).toNat ++ (zCI (BitVec.ofInt 64 (l.length : Int)).toNat ++ ((zCW l).1 ++ tail)))))) := by
   rw [hx0, zJs hb, zA7, zDK]
   simp only [List.append_assoc, List.cons_append, List.nil_append]
 have ht := zDv (x := t) (by omega) (by omega)
 have hm := zDv (x := (l.length : Int)) (by omega) (by omega)
 have hbk : ((zG1 t b).toNat : Int) = if 0 ≤ b then t - b else 0 := by
   unfold zG1
   split
   · exact zDv (by omega) (by omega)
   · rfl
 obtain ⟨a1, a2, a3⟩ := zLF (bs := x) (p := 0) (Nat.zero_le _) (by rw [List.drop_zero]; exact hx)
 obtain ⟨b1, b2, b3⟩ := zLF a3 a2
 have e1 : gR1 x = ⟨0 + 1 + 1, 0⟩ := by rw [← zYi, a1, b1]
 obtain ⟨c1, c2, c3⟩ := (zCP (bs := x) (L := 4294967295#64) (X := BitVec.ofInt 64 t) (by show _ ≤ 4294967295; omega)).full b3 b2
 have e2 : gTx x = (t, ⟨0 + 1 + 1 + (zCI (BitVec.ofInt 64 t).toNat).length, 0⟩) := by rw [zZe, e1, c1, ht]
 obtain ⟨d1, d2, d3⟩ := (zCb (bs := x) (x := tm) (by omega)).full c3 c2
 generalize hp2 : 0 + 1 + 1 + (zCI (BitVec.ofInt 64 t).toNat).length = p2 at *
 have e3 : zGh x = (tm, ⟨p2 + (zDK tm).length, 0⟩) := by
   have q : zY x (gTx x).2 = (tm, ⟨p2 + (zDK tm).length, 0⟩) := by rw [e2]; exact d1
   rw [zXI (by rw [q]; dsimp only; omega), q]
 generalize hp3 : p2 + (zDK tm).length = p3 at *
 obtain ⟨f1, f2, f3⟩ := (zCP (bs := x) (L := BitVec.ofInt 64 t) (X := zG1 t b) (by split at hbk <;> omega)).full d3 d2
 generalize hp4 : p3 + (zCI (zG1 t b).toNat).length = p4 at *
 have e4 : gBx x = (b, ⟨p4, 0⟩) := by
   have q : zL x (BitVec.ofInt 64 (gTx x).1) (zGh x).2 = (zG1 t b, ⟨p4, 0⟩) := by rw [e2, e3]; exact f1
   by_cases hb0 : 0 ≤ b
   · rw [if_pos hb0] at hbk
     rw [zWI (by rw [q]; dsimp only; omega), q, e2]
     dsimp only
     rw [hbk, show t - (t - b) = b by omega]
   · rw [if_neg hb0] at hbk
     rw [zXz (by rw [q]; dsimp only; omega), q]
     dsimp only
     rw [show b = -1 by omega]
 obtain ⟨k1, k2, k3⟩ := (zCP (bs := x) (L := 128#64) (X := BitVec.ofInt 64 (l.length : Int)) (by show _ ≤ 128; omega)).full f3 f2
 have hn : gN x (gBx x).2 = l.length := by
   unfold gN
   rw [e4]
   dsimp only
   rw [k1]
   dsimp only
   omega
 have hrec := zKK (R := (gBx x).2) hl hr (by rw [e4]; dsimp only; rw [k1]) k3 (by rw [e4]; exact f3) k2 l.length (Nat.le_refl _)
 rw [List.take_length] at hrec
 have hS : gSx x = (l, (zCW l).2, ⟨p4 + (zCI (BitVec.ofInt 64 (l.length : Int)).toNat).length + (zCW l).1.length, 0⟩) := by rw [← zGb, hn, hrec]
 have hlen := congrArg List.length k2
 rw [List.length_drop, List.length_append] at hlen
 have hE : gEx x = if tail = [] then 0 else 8 := by
   rw [← zQg, hS]
   unfold zIQ
   cases tail with
   | nil =>
     rw [List.length_nil] at hlen
     rw [if_pos (.inr (by dsimp only; omega)), if_pos rfl]
   | cons c tl =>
     rw [List.length_cons] at hlen
     rw [if_neg (by dsimp only; omega), if_neg (by simp)]
 exact ⟨by rw [e2], by rw [e3], by rw [e4], by rw [hS], hE⟩
theorem zHx {t tm b : Int} {l : List zAA} (hl : ∀ x ∈ l, x.wf) (h : zFK t tm b l = 0) : zA (gwB t tm b l) = ⟨t, tm, b, l, 0⟩ := by
 have hw := zIl t tm b l
 obtain ⟨h1, h2, h3, h4, h5⟩ := zOa (x := zDL t tm b l) (tail := []) hl (zMA h).1 (by rw [List.append_nil])
 rw [zJK (by omega) (zXt h) (by rw [h5]; rfl), h1, h2, h3, h4]
end Go.Sx

set_option linter.unusedVariables false
set_option linter.unusedSimpArgs false
namespace Go.Sx
/-! ### A row of records -/
/-! ### Sizes -/
end Go.Sx
