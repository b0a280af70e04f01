import Derived.Test.YtemnjodhidlfpaaGreatQSxBasA
import Derived.Test.YtemnjodhidlfpaaGreatQSxRecs
import Derived.Test.YtemnjodhidlfpaaGreatQSxBasB
/- Texts of the small logic, one behind the other: SxPcrc, SxPgram, SxRgram, SxPgramR, SxPgramK, SxPgramF, SxRrec. -/
set_option linter.unusedVariables false
set_option linter.unusedSimpArgs false
namespace Go.Sx

def zXy (s : BitVec 32) : BitVec 32 := (s >>> 1) ^^^ (3988292384#32 &&& -(s &&& 1#32))
def zJM : Nat → BitVec 32 → BitVec 32
 | 0, s => s
 | k + 1, s => zXy (zJM k s)
def zQ9 (s : BitVec 32) (c : zO) : BitVec 32 := zJM 8 (s ^^^ c.setWidth 32)
def zMF (s : BitVec 32) (bs : List zO) : BitVec 32 := bs.foldl zQ9 s
def zLx (s : BitVec 32) (bs : List zO) : BitVec 32 := ~~~(zMF (~~~s) bs)
def zCN (bs : List zO) : BitVec 32 := zLx 0#32 bs
theorem zOi (s : BitVec 32) (bs : List zO) (k : Nat) (h : k < bs.length) : zMF s (bs.take (k + 1)) = zQ9 (zMF s (bs.take k)) (bs.getD k 0) := by
 unfold zMF
 rw [List.take_succ_eq_append_getElem h, List.foldl_append]
 simp [List.getD_eq_getElem?_getD, h]
def be4 (s : BitVec 32) : List zO := [(s >>> 24).setWidth 8, (s >>> 16).setWidth 8, (s >>> 8).setWidth 8, s.setWidth 8]
def zGI (bs : List zO) : List zO := bs ++ be4 (zCN bs)
theorem zD6 (bs : List zO) : (zGI bs).length = bs.length + 4 := by simp [zGI, be4]
def beN (bs : List zO) : BitVec 32 := bs.foldl (fun s c => (s <<< 8) ||| c.setWidth 32) 0#32
theorem zTJ (bs : List zO) (k : Nat) (h : k < bs.length) : beN (bs.take (k + 1)) = (beN (bs.take k) <<< 8) ||| (bs.getD k 0).setWidth 32 := by
 unfold beN
 rw [List.take_succ_eq_append_getElem h, List.foldl_append]
 simp [List.getD_eq_getElem?_getD, h]
theorem zZ8 (s : BitVec 32) (c : zO) (h : s.toNat < 2 ^ 24) : ((s <<< 8) ||| c.setWidth 32).toNat = s.toNat * 256 + c.toNat := by
 have hc := c.isLt
 rw [BitVec.toNat_or, BitVec.toNat_shiftLeft, BitVec.toNat_setWidth, Nat.shiftLeft_eq, Nat.mod_eq_of_lt (by omega), Nat.mod_eq_of_lt (by omega)]
 rw [Nat.mul_comm, ← Nat.two_pow_add_eq_or_of_lt hc]
theorem zaj (a b c d : zO) : (beN [a, b, c, d]).toNat = a.toNat * 16777216 + b.toNat * 65536 + c.toNat * 256 + d.toNat := by
 simp only [beN, List.foldl_cons, List.foldl_nil]
 have ha := a.isLt
 have hb := b.isLt
 have hc := c.isLt
 have hd := d.isLt
 have h0 : (0#32 : BitVec 32).toNat = 0 := rfl
 have h1 := zZ8 0#32 a (by omega)
 have h2 := zZ8 _ b (by rw [h1]; omega)
 have h3 := zZ8 _ c (by rw [h2, h1]; omega)
 have h4 := zZ8 _ d (by rw [h3, h2, h1]; omega)
 rw [h4, h3, h2, h1]
 omega
theorem zXn (s : BitVec 32) : beN (be4 s) = s := by
 apply BitVec.eq_of_toNat_eq
 have := s.isLt
 rw [be4, zaj]
 simp only [BitVec.toNat_setWidth, BitVec.toNat_ushiftRight, Nat.shiftRight_eq_div_pow]
 omega
theorem zSI (a b c d : zO) : be4 (beN [a, b, c, d]) = [a, b, c, d] := by
 have h := zaj a b c d
 have ha := a.isLt
 have hb := b.isLt
 have hc := c.isLt
 have hd := d.isLt
 simp only [be4, List.cons.injEq, and_true]
 refine ⟨?_, ?_, ?_, ?_⟩ <;> apply BitVec.eq_of_toNat_eq <;> simp only [BitVec.toNat_setWidth, BitVec.toNat_ushiftRight, Nat.shiftRight_eq_div_pow, h] <;> omega
theorem zXb : ∀ (l : List zO), l.length = 4 → be4 (beN l) = l
 | [a, b, c, d], _ => zSI a b c d
def zCk (bs : List zO) : Option (List zO) :=
 if bs.length < 4 then none else if beN (bs.drop (bs.length - 4)) = zCN (bs.take (bs.length - 4)) then some (bs.take (bs.length - 4)) else none
theorem zKL (bs : List zO) : zCk (zGI bs) = some bs := by
 unfold zCk
 have hl := zD6 bs
 rw [if_neg (by omega), hl, show bs.length + 4 - 4 = bs.length by omega]
 have h1 : (zGI bs).drop bs.length = be4 (zCN bs) := by simp [zGI]
 have h2 : (zGI bs).take bs.length = bs := by simp [zGI]
 rw [h1, h2, zXn, if_pos rfl]
theorem zQC (bs x : List zO) : zCk bs = some x ↔ bs = zGI x := by
 constructor
 · intro h
   unfold zCk at h
   split at h
   · cases h
   · rename_i hl
     split at h
     · rename_i he
       injection h with h
       subst h
       unfold zGI
       rw [← he, zXb _ (by simp; omega), List.take_append_drop]
     · cases h
 · rintro rfl
   exact zKL x
/-! ### No two sums alike -/
end Go.Sx
namespace Go.Sx
/-! ### What the laws ask -/
end Go.Sx

set_option linter.unusedVariables false
set_option linter.unusedSimpArgs false
namespace Go.Sx
theorem zHD (r : zAA) : (zJy r).length = 9 := rfl
theorem zH3 {α : Type} [Inhabited α] {l : List α} {j : Nat} (h : j < l.length) : l.take (j + 1) = l.take j ++ [l.getD j default] := by
 rw [List.take_add_one, List.getD_eq_getElem?_getD, List.getElem?_eq_getElem h]
 rfl
theorem zKN {l : List zAA} (h : ∀ x ∈ l, x.wf) {j : Nat} (hj : j < l.length) : (l.getD j default).wf := by
 rw [List.getD_eq_getElem?_getD, List.getElem?_eq_getElem hj]
 exact h _ (List.getElem_mem hj)
def zCZ (O : List zAA) : List zO × Int := O.foldl (fun s r => (s.1 ++ zCa r s.2, r.id)) ([], -1)
theorem zCi {O : List zAA} {k : Nat} (h : k < O.length) : zCZ (O.take (k + 1)) = ((zCZ (O.take k)).1 ++ zCa (O.getD k default) (zCZ (O.take k)).2, (O.getD k default).id) := by
 unfold zCZ
 rw [zH3 h, List.foldl_append]
 rfl
theorem zNG : ∀ (O : List zAA) (s : List zO × Int), ∃ rest, (O.foldl (fun s r => (s.1 ++ zCa r s.2, r.id)) s).1 = s.1 ++ rest
 | [], s => ⟨[], by simp⟩
 | r :: O, s => by
   obtain ⟨rest, h⟩ := zNG O (s.1 ++ zCa r s.2, r.id)
   exact ⟨zCa r s.2 ++ rest, by rw [List.foldl_cons, h]; simp⟩
theorem zN9 {O : List zAA} (k : Nat) : ∃ rest, (zCZ O).1 = (zCZ (O.take k)).1 ++ rest := by
 have : zCZ O = (O.drop k).foldl (fun s r => (s.1 ++ zCa r s.2, r.id)) (zCZ (O.take k)) := by
   unfold zCZ
   rw [← List.foldl_append, List.take_append_drop]
 rw [this]
 exact zNG _ _
theorem zNR : ∀ (O : List zAA), (zCZ O).1.length ≤ 100 * O.length := by
 have key : ∀ (O : List zAA) (s : List zO × Int), (O.foldl (fun s r => (s.1 ++ zCa r s.2, r.id)) s).1.length ≤ s.1.length + 100 * O.length := by
   intro O
   induction O with
   | nil => intro s; simp
   | cons r O ih =>
     intro s
     have h1 := ih (s.1 ++ zCa r s.2, r.id)
     have h2 := zH1 r s.2
     rw [List.foldl_cons]
     simp only [List.length_append, List.length_cons] at h1 ⊢
     omega
 intro O
 have := key O ([], -1)
 simpa [zCZ] using this
def zE9 (l : List zAA) (k : Nat) : Nat := zAx (l.getD k default) (zCZ (l.take k)).2
def zB6 (l : List zAA) : Nat → Nat
 | 0 => 0
 | j + 1 => if zB6 l j ≠ 0 then zB6 l j else zE9 l j
def zCS (l : List zAA) : Nat := zB6 l l.length
theorem zQX {l : List zAA} {j : Nat} (h : zB6 l j = 0) (h2 : zE9 l j = 0) : zB6 l (j + 1) = 0 := by unfold zB6; rw [if_neg (by omega), h2]
theorem zNq {l : List zAA} {j : Nat} (h : zB6 l j = 0) : zB6 l (j + 1) = zE9 l j := by unfold zB6; rw [if_neg (by omega)]
theorem zHp {l : List zAA} {j e : Nat} (h : zB6 l j = e) (he : e ≠ 0) : ∀ k, zB6 l (j + k) = e
 | 0 => h
 | k + 1 => by
   have := zHp h he k
   show (if zB6 l (j + k) ≠ 0 then zB6 l (j + k) else zE9 l (j + k)) = e
   rw [if_pos (by omega), this]
theorem zGS {l : List zAA} {j : Nat} (hj : j < l.length) (h : zB6 l j = 0) (he : zE9 l j ≠ 0) : zCS l = zE9 l j := by
 have := zHp (zNq h) he (l.length - (j + 1))
 rwa [show j + 1 + (l.length - (j + 1)) = l.length by omega] at this
theorem zGZ {l : List zAA} {j : Nat} (h : zB6 l j = 0) : ∀ k, k < j → zE9 l k = 0 := by
 induction j with
 | zero => intro k hk; omega
 | succ j ih =>
   unfold zB6 at h
   split at h
   · omega
   · intro k hk
     by_cases e : k = j
     · subst e; exact h
     · exact ih (by omega) k (by omega)
theorem zL0 {l : List zAA} {j : Nat} (hj : j ≤ l.length) (h : zB6 l j = 0) : -1 ≤ (zCZ (l.take j)).2 ∧ (zCZ (l.take j)).2 ≤ 65535 := by
 cases j with
 | zero => exact ⟨(show -1 ≤ (-1 : Int) by decide), (show (-1 : Int) ≤ 65535 by decide)⟩
 | succ j =>
   have h1 := zCv (zGZ h j (by omega))
   rw [zCi (by omega)]
   dsimp only
   omega
def zEn (t tm b : Int) (m : Nat) : Nat := if t < 0 ∨ 4294967295 < t ∨ tm < -2305843009213693952 ∨ 2305843009213693952 < tm ∨ b < -1 then 3 else if t ≤ b then 10 else if 128 < m then 8 else 0
def zGw (t b : Int) : BitVec 64 := if 0 ≤ b then BitVec.ofInt 64 (t - b) else 0#64
def zA8 (t tm b : Int) (m : Nat) : List zO := [71#8, 1#8] ++ zCK (BitVec.ofInt 64 t).toNat ++ zCK (zGC tm).toNat ++ zCK (zGw t b).toNat ++ zCK (BitVec.ofInt 64 (m : Int)).toNat
def zBa (t tm b : Int) (m : Nat) : List zO := if zEn t tm b m ≠ 0 then [] else zA8 t tm b m
def zAQ (t tm b : Int) (l : List zAA) : Nat := if zEn t tm b l.length ≠ 0 then zEn t tm b l.length else zCS l
def zDN (t tm b : Int) (l : List zAA) : List zO := if zAQ t tm b l ≠ 0 then [] else zA8 t tm b l.length ++ (zCZ l).1
def zFP (t tm b : Int) (l : List zAA) : Nat := if zAQ t tm b l ≠ 0 then zAQ t tm b l else if 4092 < (zDN t tm b l).length then 8 else 0
def gwB (t tm b : Int) (l : List zAA) : List zO := if zFP t tm b l ≠ 0 then [] else zGI (zDN t tm b l)
theorem zFn (t tm b : Int) (m : Nat) : (zA8 t tm b m).length ≤ 42 := by
 have h1 := zEC (BitVec.ofInt 64 t).toNat
 have h2 := zEC (zGC tm).toNat
 have h3 := zEC (zGw t b).toNat
 have h4 := zEC (BitVec.ofInt 64 (m : Int)).toNat
 unfold zA8
 simp only [List.length_append, List.length_cons, List.length_nil]
 omega
theorem zDQ {t tm b : Int} {m : Nat} (h : t < 0 ∨ 4294967295 < t ∨ tm < -2305843009213693952 ∨ 2305843009213693952 < tm ∨ b < -1) : zEn t tm b m = 3 := by unfold zEn; rw [if_pos h]
theorem zCF {t tm b : Int} {m : Nat} (h : ¬ (t < 0 ∨ 4294967295 < t ∨ tm < -2305843009213693952 ∨ 2305843009213693952 < tm ∨ b < -1)) (h2 : t ≤ b) : zEn t tm b m = 10 := by unfold zEn; rw [if_neg h, if_pos h2]
theorem zDV {t tm b : Int} {m : Nat} (h : ¬ (t < 0 ∨ 4294967295 < t ∨ tm < -2305843009213693952 ∨ 2305843009213693952 < tm ∨ b < -1)) (h2 : ¬ t ≤ b) (h3 : 128 < m) : zEn t tm b m = 8 := by unfold zEn; rw [if_neg h, if_neg h2, if_pos h3]
theorem zGo {t tm b : Int} {m : Nat} (h : ¬ (t < 0 ∨ 4294967295 < t ∨ tm < -2305843009213693952 ∨ 2305843009213693952 < tm ∨ b < -1)) (h2 : ¬ t ≤ b) (h3 : ¬ 128 < m) : zEn t tm b m = 0 := by unfold zEn; rw [if_neg h, if_neg h2, if_neg h3]
theorem zGW {t tm b : Int} {m : Nat} (h : zEn t tm b m = 0) : 0 ≤ t ∧ t ≤ 4294967295 ∧ -2305843009213693952 ≤ tm ∧ tm ≤ 2305843009213693952 ∧ -1 ≤ b ∧ b < t ∧ m ≤ 128 := by
 unfold zEn at h
 split at h
 · cases h
 · split at h
   · cases h
   · split at h
     · cases h
     · omega
theorem zB1 {t tm b : Int} {l : List zAA} (h : zEn t tm b l.length ≠ 0) : zAQ t tm b l = zEn t tm b l.length := by unfold zAQ; rw [if_pos h]
theorem zB0 {t tm b : Int} {l : List zAA} (h : zEn t tm b l.length = 0) : zAQ t tm b l = zCS l := by unfold zAQ; rw [if_neg (by omega)]
theorem zFe {t tm b : Int} {l : List zAA} (h : zAQ t tm b l ≠ 0) : zDN t tm b l = [] := by unfold zDN; rw [if_pos h]
theorem zJ7 {t tm b : Int} {l : List zAA} (h : zAQ t tm b l = 0) : zDN t tm b l = zA8 t tm b l.length ++ (zCZ l).1 := by unfold zDN; rw [if_neg (by omega)]
theorem zD4 {t tm b : Int} {l : List zAA} (h : zAQ t tm b l = 0) : zEn t tm b l.length = 0 ∧ zCS l = 0 := by
 unfold zAQ at h
 split at h
 · omega
 · exact ⟨by omega, h⟩
theorem zGh (t tm b : Int) (l : List zAA) : (zDN t tm b l).length ≤ 12842 := by
 unfold zDN
 split
 · simp
 · rename_i h
   have h1 := zGW (zD4 (by omega : zAQ t tm b l = 0)).1
   have h2 := zFn t tm b l.length
   have h3 := zNR l
   simp only [List.length_append]
   omega
theorem zIk (t tm b : Int) (l : List zAA) : (gwB t tm b l).length ≤ 4096 := by
 unfold gwB
 split
 · simp
 · rename_i h
   have h1 : zFP t tm b l = 0 := by omega
   unfold zFP at h1
   rw [zD6]
   split at h1
   · omega
   · split at h1
     · cases h1
     · omega
end Go.Sx

set_option linter.unusedVariables false
set_option linter.unusedSimpArgs false
namespace Go.Sx
/-! ### What the laws need -/
theorem zLq {t tm b : Int} {l : List zAA} (h : zFP t tm b l = 0) : zAQ t tm b l = 0 ∧ (zDN t tm b l).length ≤ 4092 := by
 unfold zFP at h
 split at h
 · omega
 · split at h
   · cases h
   · omega
theorem zTl {t tm b : Int} {l : List zAA} (h : zFP t tm b l = 0) : gwB t tm b l = zGI (zDN t tm b l) := by unfold gwB; rw [if_neg (by omega)]
theorem zVY {t tm b : Int} {l : List zAA} (h : zFP t tm b l = 0) : zCk (gwB t tm b l) = some (zDN t tm b l) := by rw [zTl h]; exact zKL _
end Go.Sx

set_option linter.unusedVariables false
set_option linter.unusedSimpArgs false
namespace Go.Sx
def zEi (c : zO) (bs : List zO) (R : Rs) : Rs := if (zG bs R).1.toNat = c.toNat then (zG bs R).2 else zBc 7 (zG bs R).2
def zLN (bs : List zO) (R : Rs) : Rs := zEi 1#8 bs (zEi 71#8 bs R)
def gT (bs : List zO) (R : Rs) : Int × Rs := ((((zM bs 4294967295#64 R).1.toNat : Nat) : Int), (zM bs 4294967295#64 R).2)
def gTm (bs : List zO) (R : Rs) : Int × Rs := ((zY bs R).1, if -2305843009213693952 ≤ (zY bs R).1 ∧ (zY bs R).1 ≤ 2305843009213693952 then (zY bs R).2 else zBc 3 (zY bs R).2)
def gB (bs : List zO) (t : Int) (R : Rs) : Int × Rs := (if 0 < (zM bs (BitVec.ofInt 64 t) R).1.toNat then t - (((zM bs (BitVec.ofInt 64 t) R).1.toNat : Nat) : Int) else -1, (zM bs (BitVec.ofInt 64 t) R).2)
def zMK (bs : List zO) (s : List zAA × Int × Rs) : List zAA × Int × Rs :=
 if (zAC bs s.2.1 s.2.2).2.1 ≠ 0 then (s.1, s.2.1, (zAC bs s.2.1 s.2.2).2.2) else (s.1 ++ [(zAC bs s.2.1 s.2.2).1], (zAC bs s.2.1 s.2.2).1.id, (zAC bs s.2.1 s.2.2).2.2)
def zJa (bs : List zO) (s : List zAA × Int × Rs) : Nat → List zAA × Int × Rs
 | 0 => s
 | i + 1 => if (zJa bs s i).2.2.e ≠ 0 then zJa bs s i else zMK bs (zJa bs s i)
def zU (bs : List zO) (R : Rs) (i : Nat) : List zAA × Int × Rs := zJa bs ([], -1, (zM bs 128#64 R).2) i
def gN (bs : List zO) (R : Rs) : Nat := (zM bs 128#64 R).1.toNat
def gR1 (x : List zO) : Rs := zLN x ⟨0, 0⟩
def gTx (x : List zO) : Int × Rs := gT x (gR1 x)
def zGs (x : List zO) : Int × Rs := gTm x (gTx x).2
def gBx (x : List zO) : Int × Rs := gB x (gTx x).1 (zGs x).2
def gSx (x : List zO) : List zAA × Int × Rs := zU x (gBx x).2 (gN x (gBx x).2)
def gEx (x : List zO) : Nat := zIL x (gSx x).2.2
structure zCw where
 t : Int
 tm : Int
 b : Int
 l : List zAA
 e : Nat
def zA (bs : List zO) : zCw :=
 if 4096 < bs.length then ⟨0, 0, 0, [], 8⟩ else match zCk bs with
   | none => ⟨0, 0, 0, [], 9⟩
   | some x => if gEx x ≠ 0 then ⟨0, 0, 0, [], gEx x⟩ else ⟨(gTx x).1, (zGs x).1, (gBx x).1, (gSx x).1, 0⟩
theorem zKm {X : BitVec 64} (h : X.toNat ≤ 9223372036854775807) : X.toInt = ((X.toNat : Nat) : Int) := by rw [BitVec.toInt_eq_toNat_cond, if_pos (by omega)]
theorem zKG (i : Nat) : BitVec.ofNat 64 i + 1#64 = BitVec.ofNat 64 (i + 1) := by
 apply BitVec.eq_of_toNat_eq
 simp
theorem zHL {c : zO} {bs : List zO} {R : Rs} (h : R.p ≤ bs.length) : (zEi c bs R).p ≤ bs.length ∧ R.p ≤ (zEi c bs R).p := by
 have h1 := zD8 h
 have h2 := zBN (e := 7) h1.1
 unfold zEi
 split <;> omega
theorem zJ9 {bs : List zO} {R : Rs} (h : R.p ≤ bs.length) : (zLN bs R).p ≤ bs.length := (zHL (zHL h).1).1
theorem zYt {bs : List zO} {R : Rs} (h : R.p ≤ bs.length) : (gT bs R).2.p ≤ bs.length ∧ 0 ≤ (gT bs R).1 ∧ (gT bs R).1 ≤ 4294967295 := by
 have h1 := zAy (X := 4294967295#64) h
 have h2 : (4294967295#64).toNat = 4294967295 := rfl
 unfold gT
 dsimp only
 omega
theorem zU9 {bs : List zO} {R : Rs} (h : R.p ≤ bs.length) : (gTm bs R).2.p ≤ bs.length ∧ -9223372036854775808 ≤ (gTm bs R).1 ∧ (gTm bs R).1 ≤ 9223372036854775807 := by
 have h1 := zDA h
 have h2 := zBN (e := 3) h1.1
 have h3 : -9223372036854775808 ≤ (zY bs R).1 ∧ (zY bs R).1 ≤ 9223372036854775807 := by unfold zY; exact zFt _
 unfold gTm
 dsimp only
 split <;> omega
theorem zZn {bs : List zO} {t : Int} {R : Rs} (h : R.p ≤ bs.length) (ht : 0 ≤ t ∧ t ≤ 4294967295) : (gB bs t R).2.p ≤ bs.length ∧ -1 ≤ (gB bs t R).1 ∧ (gB bs t R).1 ≤ 4294967295 := by
 have h1 := zAy (X := BitVec.ofInt 64 t) h
 have h2 := zD7 (x := t) (by omega) (by omega)
 unfold gB
 dsimp only
 split <;> omega
structure zVK (bs : List zO) (i : Nat) (s : List zAA × Int × Rs) : Prop where
 p : s.2.2.p ≤ bs.length
 lo : -1 ≤ s.2.1
 hi : s.2.1 ≤ 65535
 len : s.1.length ≤ i
theorem zP8 {bs : List zO} {last : Int} {R : Rs} (h : -1 ≤ last ∧ last ≤ 65535) : (zAC bs last R).2.1 = (zAC bs last R).2.2.e := by
 unfold zAC
 rw [if_neg (by omega)]
 split
 · rfl
 · split
   · rfl
   · rename_i h1
     exact (Decidable.not_not.1 h1).symm
theorem zS5 (bs : List zO) (last : Int) (R : Rs) : (zEJ bs last R).1.id = last + 1 + (((zOw bs last R).1.toNat : Nat) : Int) := by
 unfold zEJ zA5 zB9 zA2
 dsimp only
 (repeat' split) <;> rfl
theorem zSP {bs : List zO} {last : Int} {R : Rs} (hp : R.p ≤ bs.length) (h : -1 ≤ last ∧ last ≤ 65535) (h0 : (zAC bs last R).2.1 = 0) : last < (zAC bs last R).1.id ∧ (zAC bs last R).1.id ≤ 65535 := by
 unfold zAC at h0 ⊢
 rw [if_neg (by omega)] at h0 ⊢
 by_cases hl : last = 65535
 · rw [if_pos hl] at h0
   unfold zBc at h0
   split at h0
   · simp at h0
   · contradiction
 · rw [if_neg hl] at h0 ⊢
   split at h0
   · contradiction
   · rename_i h1
     rw [if_neg h1]
     dsimp only
     rw [zS5]
     have h2 := zAy (X := BitVec.ofInt 64 (65534 - last)) hp
     have h3 := zD7 (x := 65534 - last) (by omega) (by omega)
     unfold zOw
     omega
theorem zRr {bs : List zO} {i : Nat} {s : List zAA × Int × Rs} (h : zVK bs i s) : zVK bs (i + 1) (zMK bs s) := by
 have hp := zMr (last := s.2.1) h.p
 have hl := h.len
 unfold zMK
 split
 · exact ⟨hp.1, h.lo, h.hi, by dsimp only; omega⟩
 · rename_i h0
   have hi := zSP h.p ⟨h.lo, h.hi⟩ (by omega)
   have hlo := h.lo
   refine ⟨hp.1, by dsimp only; omega, by dsimp only; omega, by simp only [List.length_append, List.length_singleton]; omega⟩
theorem zJ2 {bs : List zO} {s : List zAA × Int × Rs} (h : zVK bs 0 s) : ∀ i, zVK bs i (zJa bs s i)
 | 0 => h
 | i + 1 => by
   unfold zJa
   have h1 := zJ2 h i
   split
   · exact ⟨h1.p, h1.lo, h1.hi, Nat.le_succ_of_le h1.len⟩
   · exact zRr h1
theorem zUo {bs : List zO} {R : Rs} (hR : R.p ≤ bs.length) : zVK bs 0 ([], -1, (zM bs 128#64 R).2) := ⟨(zAy hR).1, Int.le_refl _, by show (-1 : Int) ≤ 65535; decide, Nat.le_refl 0⟩
theorem zCg {bs : List zO} {R : Rs} (hR : R.p ≤ bs.length) (i : Nat) : zVK bs i (zU bs R i) := zJ2 (zUo hR) i
theorem zK0 {bs : List zO} {s : List zAA × Int × Rs} {i : Nat} (h : (zJa bs s i).2.2.e ≠ 0) : ∀ k, zJa bs s (i + k) = zJa bs s i
 | 0 => rfl
 | k + 1 => by
   have h1 := zK0 h k
   show (if (zJa bs s (i + k)).2.2.e ≠ 0 then zJa bs s (i + k) else _) = _
   rw [h1, if_pos h]
theorem zXJ (bs : List zO) (R : Rs) : gN bs R ≤ 128 := by
 have h2 : (128#64).toNat = 128 := rfl
 unfold gN zM
 split
 · exact Nat.zero_le _
 · split
   · exact Nat.zero_le _
   · split
     · exact Nat.zero_le _
     · rename_i h
       have h1 := (zLt (Decidable.not_not.1 h)).2
       dsimp only
       omega
theorem zUD {bs : List zO} {R : Rs} : gN bs R ≤ 0 ∨ (zU bs R 0).2.2.e = 0 := by
 show (zM bs 128#64 R).1.toNat ≤ 0 ∨ (zM bs 128#64 R).2.e = 0
 unfold zM
 (repeat' split) <;> first | exact .inl (Nat.le_refl 0) | exact .inr rfl
theorem zJK {bs : List zO} {R : Rs} {i : Nat} (h : (zU bs R i).2.2.e = 0) (h0 : (zAC bs (zU bs R i).2.1 (zU bs R i).2.2).2.1 = 0) : zU bs R (i + 1) = ((zU bs R i).1 ++ [(zAC bs (zU bs R i).2.1 (zU bs R i).2.2).1], (zAC bs (zU bs R i).2.1 (zU bs R i).2.2).1.id, (zAC bs (zU bs R i).2.1 (zU bs R i).2.2).2.2) := by
 show zJa _ _ (i + 1) = _
 unfold zJa
 rw [if_neg (by unfold zU at h; omega)]
 unfold zMK
 rw [if_neg (by unfold zU at h0; omega)]
 rfl
theorem zNz {bs : List zO} {R : Rs} {i : Nat} (hR : R.p ≤ bs.length) (h : (zU bs R i).2.2.e = 0) (h0 : (zAC bs (zU bs R i).2.1 (zU bs R i).2.2).2.1 = 0) : (zU bs R (i + 1)).2.2.e = 0 := by
 have hi := zCg hR i
 rw [zJK h h0, ← h0]
 exact (zP8 ⟨hi.lo, hi.hi⟩).symm
theorem zQg {bs : List zO} {R : Rs} {i : Nat} (hR : R.p ≤ bs.length) (hi : i < gN bs R) (h : (zU bs R i).2.2.e = 0) (h0 : (zAC bs (zU bs R i).2.1 (zU bs R i).2.2).2.1 ≠ 0) : zU bs R (gN bs R) = ((zU bs R i).1, (zU bs R i).2.1, (zAC bs (zU bs R i).2.1 (zU bs R i).2.2).2.2) := by
 have hv := zCg hR i
 have h1 : zU bs R (i + 1) = ((zU bs R i).1, (zU bs R i).2.1, (zAC bs (zU bs R i).2.1 (zU bs R i).2.2).2.2) := by
   show zJa _ _ (i + 1) = _
   unfold zJa
   rw [if_neg (by unfold zU at h; omega)]
   unfold zMK
   rw [if_pos (by unfold zU at h0; omega)]
   rfl
 have h2 := zP8 (bs := bs) (R := (zU bs R i).2.2) ⟨hv.lo, hv.hi⟩
 have h3 := zK0 (bs := bs) (s := ([], -1, (zM bs 128#64 R).2)) (i := i + 1) (by
   show (zU bs R (i + 1)).2.2.e ≠ 0
   rw [h1]
   dsimp only
   omega) (gN bs R - (i + 1))
 rw [show i + 1 + (gN bs R - (i + 1)) = gN bs R by omega] at h3
 exact h3.trans h1
theorem zIn {bs : List zO} (h : 4096 < bs.length) : zA bs = ⟨0, 0, 0, [], 8⟩ := by unfold zA; rw [if_pos h]
theorem zIU {bs : List zO} (h : ¬ 4096 < bs.length) (ho : zCk bs = none) : zA bs = ⟨0, 0, 0, [], 9⟩ := by unfold zA; rw [if_neg h, ho]
theorem zKC {bs x : List zO} (h : ¬ 4096 < bs.length) (ho : zCk bs = some x) (he : gEx x ≠ 0) : zA bs = ⟨0, 0, 0, [], gEx x⟩ := by
 unfold zA
 rw [if_neg h, ho]
 dsimp only
 rw [if_pos he]
theorem zJ0 {bs x : List zO} (h : ¬ 4096 < bs.length) (ho : zCk bs = some x) (he : gEx x = 0) : zA bs = ⟨(gTx x).1, (zGs x).1, (gBx x).1, (gSx x).1, 0⟩ := by
 unfold zA
 rw [if_neg h, ho]
 dsimp only
 rw [if_neg (by omega)]
theorem zUk (x : List zO) : (gR1 x).p ≤ x.length := zJ9 (Nat.zero_le _)
theorem zMV (x : List zO) : (gTx x).2.p ≤ x.length ∧ 0 ≤ (gTx x).1 ∧ (gTx x).1 ≤ 4294967295 := zYt (zUk x)
theorem zMA (x : List zO) : (zGs x).2.p ≤ x.length ∧ -9223372036854775808 ≤ (zGs x).1 ∧ (zGs x).1 ≤ 9223372036854775807 := zU9 (zMV x).1
theorem zKU (x : List zO) : (gBx x).2.p ≤ x.length ∧ -1 ≤ (gBx x).1 ∧ (gBx x).1 ≤ 4294967295 := zZn (zMA x).1 (zMV x).2
theorem zRl (x : List zO) : (gSx x).1.length ≤ 128 := by unfold gSx; exact Nat.le_trans (zCg (zKU x).1 _).len (zXJ _ _)
theorem zGU (x : List zO) : zU x (gBx x).2 (gN x (gBx x).2) = gSx x := rfl
theorem zRH (x : List zO) : zIL x (gSx x).2.2 = gEx x := rfl
theorem zaZ (x : List zO) : (gSx x).2.2.p ≤ x.length := by rw [← zGU]; exact (zCg (zKU x).1 _).p
theorem zHI (bs : List zO) : (zA bs).l.length ≤ 128 ∧ 0 ≤ (zA bs).t ∧ (zA bs).t ≤ 4294967295 ∧ -9223372036854775808 ≤ (zA bs).tm ∧ (zA bs).tm ≤ 9223372036854775807 ∧ -1 ≤ (zA bs).b ∧ (zA bs).b ≤ 4294967295 := by
 unfold zA
 split
 · simp
 · split
   · simp
   · rename_i x _
     have h1 := zMV x
     have h2 := zMA x
     have h3 := zKU x
     have h4 := zRl x
     split
     · simp
     · dsimp only
       omega
theorem zZN (x : List zO) : zEi 1#8 x (zEi 71#8 x ⟨0, 0⟩) = gR1 x := rfl
theorem zYr (x : List zO) : gTx x = ((((zM x 4294967295#64 (gR1 x)).1.toNat : Nat) : Int), (zM x 4294967295#64 (gR1 x)).2) := rfl
theorem zW9 {x : List zO} (h : -2305843009213693952 ≤ (zY x (gTx x).2).1 ∧ (zY x (gTx x).2).1 ≤ 2305843009213693952) : zGs x = ((zY x (gTx x).2).1, (zY x (gTx x).2).2) := by unfold zGs gTm; rw [if_pos h]
theorem zXX {x : List zO} (h : 0 < (zM x (BitVec.ofInt 64 (gTx x).1) (zGs x).2).1.toNat) : gBx x = ((gTx x).1 - (((zM x (BitVec.ofInt 64 (gTx x).1) (zGs x).2).1.toNat : Nat) : Int), (zM x (BitVec.ofInt 64 (gTx x).1) (zGs x).2).2) := by unfold gBx gB; rw [if_pos h]
theorem zWO {x : List zO} (h : ¬ 0 < (zM x (BitVec.ofInt 64 (gTx x).1) (zGs x).2).1.toNat) : gBx x = (-1, (zM x (BitVec.ofInt 64 (gTx x).1) (zGs x).2).2) := by unfold gBx gB; rw [if_neg h]
end Go.Sx

set_option linter.unusedVariables false
set_option linter.unusedSimpArgs false
namespace Go.Sx
theorem zPn {bs : List zO} {s : List zAA × Int × Rs} (h : zVK bs 0 s) (hw : ∀ r ∈ s.1, r.wf) : ∀ i, ∀ r ∈ (zJa bs s i).1, r.wf
 | 0 => hw
 | i + 1 => by
   have h1 := zJ2 h i
   have h2 := zPn h hw i
   unfold zJa
   split
   · exact h2
   · unfold zMK
     split
     · exact h2
     · intro r hr
       rcases List.mem_append.1 hr with hr | hr
       · exact h2 r hr
       · rw [List.mem_singleton.1 hr]; exact zUd h1.p
theorem zYR (x : List zO) : ∀ r ∈ (gSx x).1, r.wf := by
 rw [← zGU]
 unfold zU
 exact zPn (zUo (zKU x).1) (fun r hr => by cases hr) _
theorem zJr (bs : List zO) : ∀ r ∈ (zA bs).l, r.wf := by
 unfold zA
 split
 · simp
 · split
   · simp
   · split
     · simp
     · dsimp only; exact zYR _
end Go.Sx

set_option linter.unusedVariables false
set_option linter.unusedSimpArgs false
namespace Go.Sx
theorem zC8.full {α : Type} {bs c rest : List zO} {f : Rs → α × Rs} {v : α} {p : Nat} (h : zC8 bs c f v) (hp : p ≤ bs.length) (hd : bs.drop p = c ++ rest) : f ⟨p, 0⟩ = (v, ⟨p + c.length, 0⟩) ∧ bs.drop (p + c.length) = rest ∧ p + c.length ≤ bs.length := by
 have hd' : bs.drop p = (c ++ rest).take (c ++ rest).length := by rw [List.take_length]; exact hd
 have h2 := zMJ hd' (by simp) hp
 exact ⟨h.good ⟨p, 0⟩ _ rest rfl hp hd' (by simp), by rw [h2.1, List.length_append, Nat.add_sub_cancel_left, List.take_length], h2.2⟩
theorem zKV {bs rest : List zO} {c : zO} {p : Nat} (hp : p ≤ bs.length) (hd : bs.drop p = [c] ++ rest) : zEi c bs ⟨p, 0⟩ = ⟨p + 1, 0⟩ ∧ bs.drop (p + 1) = rest ∧ p + 1 ≤ bs.length := by
 obtain ⟨h1, h2, h3⟩ := (zGG (bs := bs) (c := c)).full hp hd
 refine ⟨?_, h2, h3⟩
 unfold zEi
 rw [h1, if_pos rfl]
 rfl
theorem zLM {bs : List zO} {l : List zAA} {R : Rs} {p : Nat} (hl : ∀ x ∈ l, x.wf) (he : zCS l = 0) (h0 : (zM bs 128#64 R).2 = ⟨p, 0⟩) (hp : p ≤ bs.length) (hR : R.p ≤ bs.length) {tail : List zO} (hd : bs.drop p = (zCZ l).1 ++ tail) :
   ∀ i, i ≤ l.length → zU bs R i = (l.take i, (zCZ (l.take i)).2, ⟨p + (zCZ (l.take i)).1.length, 0⟩)
 | 0, _ => by
   show ([], (-1 : Int), (zM bs 128#64 R).2) = _
   rw [h0]
   rfl
 | i + 1, hi => by
   have ih := zLM hl he h0 hp hR hd i (by omega)
   obtain ⟨rest, hs⟩ := zN9 (O := l) (i + 1)
   rw [zCi (by omega)] at hs
   have hds := hd
   rw [hs, List.append_assoc, List.append_assoc] at hds
   have hlen := congrArg List.length hds
   simp only [List.length_drop, List.length_append] at hlen
   have h1 : bs.drop (p + (zCZ (l.take i)).1.length) = zCa (l.getD i default) (zCZ (l.take i)).2 ++ (rest ++ tail) := by
     rw [← List.drop_drop, hds, List.drop_left]
   have hq := zXh (bs := bs) (last := (zCZ (l.take i)).2) (zKN hl (by omega)) (zGZ he i (by omega)) (by omega) h1
   rw [zJK (by rw [ih]) (by rw [ih]; dsimp only; rw [hq]), ih]
   dsimp only
   rw [hq, zCi (by omega), zH3 (by omega)]
   dsimp only
   rw [List.length_append, Nat.add_assoc]
theorem zOD {t tm b : Int} {l : List zAA} {x tail : List zO} (hl : ∀ x ∈ l, x.wf) (hb : zAQ t tm b l = 0) (hx0 : x = zDN t tm b l ++ tail) : (gTx x).1 = t ∧ (zGs x).1 = tm ∧ (gBx x).1 = b ∧ (gSx x).1 = l ∧ gEx x = if tail = [] then 0 else 8 := by
 obtain ⟨hg, hr⟩ := zD4 hb
 obtain ⟨g1, g2, g3, g4, g5, g6, g7⟩ := zGW hg
 have hx : x = [71#8] ++ ([1#8] ++ (zCK (BitVec.ofInt 64 t).toNat ++ (zDL tm ++ (zCK (zGw t b).toNat ++ (zCK (BitVec.ofInt 64 (l.length : Int)).toNat ++ ((zCZ l).1 ++ tail)))))) := by
   rw [hx0, zJ7 hb, zA8, zDL]
   simp only [List.append_assoc, List.cons_append, List.nil_append]
 have ht := zD7 (x := t) (by omega) (by omega)
 have hm := zD7 (x := (l.length : Int)) (by omega) (by omega)
 have hbk : ((zGw t b).toNat : Int) = if 0 ≤ b then t - b else 0 := by
   unfold zGw
   split
   · exact zD7 (by omega) (by omega)
   · rfl
 obtain ⟨a1, a2, a3⟩ := zKV (bs := x) (p := 0) (Nat.zero_le _) (by rw [List.drop_zero]; exact hx)
 obtain ⟨b1, b2, b3⟩ := zKV a3 a2
 have e1 : gR1 x = ⟨0 + 1 + 1, 0⟩ := by rw [← zZN, a1, b1]
 obtain ⟨c1, c2, c3⟩ := (zCU (bs := x) (L := 4294967295#64) (X := BitVec.ofInt 64 t) (by show _ ≤ 4294967295; omega)).full b3 b2
 have e2 : gTx x = (t, ⟨0 + 1 + 1 + (zCK (BitVec.ofInt 64 t).toNat).length, 0⟩) := by rw [zYr, e1, c1, ht]
 obtain ⟨d1, d2, d3⟩ := (zCd (bs := x) (x := tm) (by omega)).full c3 c2
 generalize hp2 : 0 + 1 + 1 + (zCK (BitVec.ofInt 64 t).toNat).length = p2 at *
 have e3 : zGs x = (tm, ⟨p2 + (zDL tm).length, 0⟩) := by
   have q : zY x (gTx x).2 = (tm, ⟨p2 + (zDL tm).length, 0⟩) := by rw [e2]; exact d1
   rw [zW9 (by rw [q]; dsimp only; omega), q]
 generalize hp3 : p2 + (zDL tm).length = p3 at *
 obtain ⟨f1, f2, f3⟩ := (zCU (bs := x) (L := BitVec.ofInt 64 t) (X := zGw t b) (by split at hbk <;> omega)).full d3 d2
 generalize hp4 : p3 + (zCK (zGw t b).toNat).length = p4 at *
 have e4 : gBx x = (b, ⟨p4, 0⟩) := by
   have q : zM x (BitVec.ofInt 64 (gTx x).1) (zGs x).2 = (zGw t b, ⟨p4, 0⟩) := by rw [e2, e3]; exact f1
   by_cases hb0 : 0 ≤ b
   · rw [if_pos hb0] at hbk
     rw [zXX (by rw [q]; dsimp only; omega), q, e2]
     dsimp only
     rw [hbk, show t - (t - b) = b by omega]
   · rw [if_neg hb0] at hbk
     rw [zWO (by rw [q]; dsimp only; omega), q]
     dsimp only
     rw [show b = -1 by omega]
 obtain ⟨k1, k2, k3⟩ := (zCU (bs := x) (L := 128#64) (X := BitVec.ofInt 64 (l.length : Int)) (by show _ ≤ 128; omega)).full f3 f2
 have hn : gN x (gBx x).2 = l.length := by
   unfold gN
   rw [e4]
   dsimp only
   rw [k1]
   dsimp only
   omega
 have hrec := zLM (R := (gBx x).2) hl hr (by rw [e4]; dsimp only; rw [k1]) k3 (by rw [e4]; exact f3) k2 l.length (Nat.le_refl _)
 rw [List.take_length] at hrec
 have hS : gSx x = (l, (zCZ l).2, ⟨p4 + (zCK (BitVec.ofInt 64 (l.length : Int)).toNat).length + (zCZ l).1.length, 0⟩) := by rw [← zGU, hn, hrec]
 have hlen := congrArg List.length k2
 rw [List.length_drop, List.length_append] at hlen
 have hE : gEx x = if tail = [] then 0 else 8 := by
   rw [← zRH, hS]
   unfold zIL
   cases tail with
   | nil =>
     rw [List.length_nil] at hlen
     rw [if_pos (.inr (by dsimp only; omega)), if_pos rfl]
   | cons c tl =>
     rw [List.length_cons] at hlen
     rw [if_neg (by dsimp only; omega), if_neg (by simp)]
 exact ⟨by rw [e2], by rw [e3], by rw [e4], by rw [hS], hE⟩
theorem zHr {t tm b : Int} {l : List zAA} (hl : ∀ x ∈ l, x.wf) (h : zFP t tm b l = 0) : zA (gwB t tm b l) = ⟨t, tm, b, l, 0⟩ := by
 have hw := zIk t tm b l
 obtain ⟨h1, h2, h3, h4, h5⟩ := zOD (x := zDN t tm b l) (tail := []) hl (zLq h).1 (by rw [List.append_nil])
 rw [zJ0 (by omega) (zVY h) (by rw [h5]; rfl), h1, h2, h3, h4]
end Go.Sx

set_option linter.unusedVariables false
set_option linter.unusedSimpArgs false
namespace Go.Sx
theorem zNO {α : Type} {f : Nat → List Value} {g : α → List Value} {p : α → Prop} : ∀ (n : Nat), (∀ i, i < n → ∃ a : α, f i = g a ∧ p a) → ∃ l : List α, l.length = n ∧ (List.range n).flatMap f = l.flatMap g ∧ ∀ x ∈ l, p x
 | 0, _ => ⟨[], rfl, rfl, by simp⟩
 | n + 1, h => by
   obtain ⟨l, hl, he, hp⟩ := zNO n fun i hi => h i (by omega)
   obtain ⟨a, ha, hpa⟩ := h n (by omega)
   refine ⟨l ++ [a], by simp [hl], by rw [List.range_succ, List.flatMap_append, List.flatMap_append, he]; simp [ha], fun x hx => ?_⟩
   rcases List.mem_append.1 hx with hx | hx
   · exact hp x hx
   · rw [List.mem_singleton] at hx; subst hx; exact hpa
/-! ### A row of records -/
/-! ### Sizes -/
end Go.Sx
