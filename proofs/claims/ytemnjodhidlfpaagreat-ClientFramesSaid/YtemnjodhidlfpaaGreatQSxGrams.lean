import Derived.Test.YtemnjodhidlfpaaGreatQSxBasA
import Derived.Test.YtemnjodhidlfpaaGreatQSxRecs
import Derived.Test.YtemnjodhidlfpaaGreatQSxBasB
/- Texts of the small logic, one behind the other: SxPcrc, SxPgram, SxRgram, SxPgramR, SxPgramK, SxPgramF, SxRrec. -/
set_option linter.unusedVariables false
set_option linter.unusedSimpArgs false
namespace Go.Sx

def zWL (s : BitVec 32) : BitVec 32 := (s >>> 1) ^^^ (3988292384#32 &&& -(s &&& 1#32))
def zJ0 : Nat → BitVec 32 → BitVec 32
 | 0, s => s
 | k + 1, s => zWL (zJ0 k s)
def zRu (s : BitVec 32) (c : zP) : BitVec 32 := zJ0 8 (s ^^^ c.setWidth 32)
def zLy (s : BitVec 32) (bs : List zP) : BitVec 32 := bs.foldl zRu s
def zMR (s : BitVec 32) (bs : List zP) : BitVec 32 := ~~~(zLy (~~~s) bs)
def zCL (bs : List zP) : BitVec 32 := zMR 0#32 bs
theorem zOB (s : BitVec 32) (bs : List zP) (k : Nat) (h : k < bs.length) : zLy s (bs.take (k + 1)) = zRu (zLy s (bs.take k)) (bs.getD k 0) := by
 unfold zLy
 rw [List.take_succ_eq_append_getElem h, List.foldl_append]
 simp [List.getD_eq_getElem?_getD, h]
def be4 (s : BitVec 32) : List zP := [(s >>> 24).setWidth 8, (s >>> 16).setWidth 8, (s >>> 8).setWidth 8, s.setWidth 8]
def zGT (bs : List zP) : List zP := bs ++ be4 (zCL bs)
theorem zD1 (bs : List zP) : (zGT bs).length = bs.length + 4 := by simp [zGT, be4]
def beN (bs : List zP) : BitVec 32 := bs.foldl (fun s c => (s <<< 8) ||| c.setWidth 32) 0#32
theorem zUh (bs : List zP) (k : Nat) (h : k < bs.length) : beN (bs.take (k + 1)) = (beN (bs.take k) <<< 8) ||| (bs.getD k 0).setWidth 32 := by
 unfold beN
 rw [List.take_succ_eq_append_getElem h, List.foldl_append]
 simp [List.getD_eq_getElem?_getD, h]
theorem zaO (s : BitVec 32) (c : zP) (h : s.toNat < 2 ^ 24) : ((s <<< 8) ||| c.setWidth 32).toNat = s.toNat * 256 + c.toNat := by
 have hc := c.isLt
 rw [BitVec.toNat_or, BitVec.toNat_shiftLeft, BitVec.toNat_setWidth, Nat.shiftLeft_eq, Nat.mod_eq_of_lt (by omega), Nat.mod_eq_of_lt (by omega)]
 rw [Nat.mul_comm, ← Nat.two_pow_add_eq_or_of_lt hc]
theorem za9 (a b c d : zP) : (beN [a, b, c, d]).toNat = a.toNat * 16777216 + b.toNat * 65536 + c.toNat * 256 + d.toNat := by
 simp only [beN, List.foldl_cons, List.foldl_nil]
 have ha := a.isLt
 have hb := b.isLt
 have hc := c.isLt
 have hd := d.isLt
 have h0 : (0#32 : BitVec 32).toNat = 0 := rfl
 have h1 := zaO 0#32 a (by omega)
 have h2 := zaO _ b (by rw [h1]; omega)
 have h3 := zaO _ c (by rw [h2, h1]; omega)
 have h4 := zaO _ d (by rw [h3, h2, h1]; omega)
 rw [h4, h3, h2, h1]
 omega
theorem zXX (s : BitVec 32) : beN (be4 s) = s := by
 apply BitVec.eq_of_toNat_eq
 have := s.isLt
 rw [be4, za9]
 simp only [BitVec.toNat_setWidth, BitVec.toNat_ushiftRight, Nat.shiftRight_eq_div_pow]
 omega
theorem zTM (a b c d : zP) : be4 (beN [a, b, c, d]) = [a, b, c, d] := by
 have h := za9 a b c d
 have ha := a.isLt
 have hb := b.isLt
 have hc := c.isLt
 have hd := d.isLt
 simp only [be4, List.cons.injEq, and_true]
 refine ⟨?_, ?_, ?_, ?_⟩ <;> apply BitVec.eq_of_toNat_eq <;> simp only [BitVec.toNat_setWidth, BitVec.toNat_ushiftRight, Nat.shiftRight_eq_div_pow, h] <;> omega
theorem zWw : ∀ (l : List zP), l.length = 4 → be4 (beN l) = l
 | [a, b, c, d], _ => zTM a b c d
def zCj (bs : List zP) : Option (List zP) :=
 if bs.length < 4 then none else if beN (bs.drop (bs.length - 4)) = zCL (bs.take (bs.length - 4)) then some (bs.take (bs.length - 4)) else none
theorem zKX (bs : List zP) : zCj (zGT bs) = some bs := by
 unfold zCj
 have hl := zD1 bs
 rw [if_neg (by omega), hl, show bs.length + 4 - 4 = bs.length by omega]
 have h1 : (zGT bs).drop bs.length = be4 (zCL bs) := by simp [zGT]
 have h2 : (zGT bs).take bs.length = bs := by simp [zGT]
 rw [h1, h2, zXX, if_pos rfl]
theorem zRR (bs x : List zP) : zCj bs = some x ↔ bs = zGT x := by
 constructor
 · intro h
   unfold zCj at h
   split at h
   · cases h
   · rename_i hl
     split at h
     · rename_i he
       injection h with h
       subst h
       unfold zGT
       rw [← he, zWw _ (by simp; omega), List.take_append_drop]
     · cases h
 · rintro rfl
   exact zKX x
/-! ### No two sums alike -/
end Go.Sx
namespace Go.Sx
/-! ### What the laws ask -/
end Go.Sx

set_option linter.unusedVariables false
set_option linter.unusedSimpArgs false
namespace Go.Sx
theorem zHQ (r : zAA) : (zJD r).length = 9 := rfl
theorem zHp {α : Type} [Inhabited α] {l : List α} {j : Nat} (h : j < l.length) : l.take (j + 1) = l.take j ++ [l.getD j default] := by
 rw [List.take_add_one, List.getD_eq_getElem?_getD, List.getElem?_eq_getElem h]
 rfl
theorem zKn {l : List zAA} (h : ∀ x ∈ l, x.wf) {j : Nat} (hj : j < l.length) : (l.getD j default).wf := by
 rw [List.getD_eq_getElem?_getD, List.getElem?_eq_getElem hj]
 exact h _ (List.getElem_mem hj)
def zCU (O : List zAA) : List zP × Int := O.foldl (fun s r => (s.1 ++ zCV r s.2, r.id)) ([], -1)
theorem zCa {O : List zAA} {k : Nat} (h : k < O.length) : zCU (O.take (k + 1)) = ((zCU (O.take k)).1 ++ zCV (O.getD k default) (zCU (O.take k)).2, (O.getD k default).id) := by
 unfold zCU
 rw [zHp h, List.foldl_append]
 rfl
theorem zNG : ∀ (O : List zAA) (s : List zP × Int), ∃ rest, (O.foldl (fun s r => (s.1 ++ zCV r s.2, r.id)) s).1 = s.1 ++ rest
 | [], s => ⟨[], by simp⟩
 | r :: O, s => by
   obtain ⟨rest, h⟩ := zNG O (s.1 ++ zCV r s.2, r.id)
   exact ⟨zCV r s.2 ++ rest, by rw [List.foldl_cons, h]; simp⟩
theorem zN3 {O : List zAA} (k : Nat) : ∃ rest, (zCU O).1 = (zCU (O.take k)).1 ++ rest := by
 have : zCU O = (O.drop k).foldl (fun s r => (s.1 ++ zCV r s.2, r.id)) (zCU (O.take k)) := by
   unfold zCU
   rw [← List.foldl_append, List.take_append_drop]
 rw [this]
 exact zNG _ _
theorem zM8 : ∀ (O : List zAA), (zCU O).1.length ≤ 100 * O.length := by
 have key : ∀ (O : List zAA) (s : List zP × Int), (O.foldl (fun s r => (s.1 ++ zCV r s.2, r.id)) s).1.length ≤ s.1.length + 100 * O.length := by
   intro O
   induction O with
   | nil => intro s; simp
   | cons r O ih =>
     intro s
     have h1 := ih (s.1 ++ zCV r s.2, r.id)
     have h2 := zHs r s.2
     rw [List.foldl_cons]
     simp only [List.length_append, List.length_cons] at h1 ⊢
     omega
 intro O
 have := key O ([], -1)
 simpa [zCU] using this
def zFC (l : List zAA) (k : Nat) : Nat := zAy (l.getD k default) (zCU (l.take k)).2
def zB3 (l : List zAA) : Nat → Nat
 | 0 => 0
 | j + 1 => if zB3 l j ≠ 0 then zB3 l j else zFC l j
def zCQ (l : List zAA) : Nat := zB3 l l.length
theorem zP4 {l : List zAA} {j : Nat} (h : zB3 l j = 0) (h2 : zFC l j = 0) : zB3 l (j + 1) = 0 := by unfold zB3; rw [if_neg (by omega), h2]
theorem zON {l : List zAA} {j : Nat} (h : zB3 l j = 0) : zB3 l (j + 1) = zFC l j := by unfold zB3; rw [if_neg (by omega)]
theorem zHZ {l : List zAA} {j e : Nat} (h : zB3 l j = e) (he : e ≠ 0) : ∀ k, zB3 l (j + k) = e
 | 0 => h
 | k + 1 => by
   have := zHZ h he k
   show (if zB3 l (j + k) ≠ 0 then zB3 l (j + k) else zFC l (j + k)) = e
   rw [if_pos (by omega), this]
theorem zGK {l : List zAA} {j : Nat} (hj : j < l.length) (h : zB3 l j = 0) (he : zFC l j ≠ 0) : zCQ l = zFC l j := by
 have := zHZ (zON h) he (l.length - (j + 1))
 rwa [show j + 1 + (l.length - (j + 1)) = l.length by omega] at this
theorem zGM {l : List zAA} {j : Nat} (h : zB3 l j = 0) : ∀ k, k < j → zFC l k = 0 := by
 induction j with
 | zero => intro k hk; omega
 | succ j ih =>
   unfold zB3 at h
   split at h
   · omega
   · intro k hk
     by_cases e : k = j
     · subst e; exact h
     · exact ih (by omega) k (by omega)
theorem zLu {l : List zAA} {j : Nat} (hj : j ≤ l.length) (h : zB3 l j = 0) : -1 ≤ (zCU (l.take j)).2 ∧ (zCU (l.take j)).2 ≤ 65535 := by
 cases j with
 | zero => exact ⟨(show -1 ≤ (-1 : Int) by decide), (show (-1 : Int) ≤ 65535 by decide)⟩
 | succ j =>
   have h1 := zCv (zGM h j (by omega))
   rw [zCa (by omega)]
   dsimp only
   omega
def zEv (t tm b : Int) (m : Nat) : Nat := if t < 0 ∨ 4294967295 < t ∨ tm < -2305843009213693952 ∨ 2305843009213693952 < tm ∨ b < -1 then 3 else if t ≤ b then 10 else if 128 < m then 8 else 0
def zGy (t b : Int) : BitVec 64 := if 0 ≤ b then BitVec.ofInt 64 (t - b) else 0#64
def zA7 (t tm b : Int) (m : Nat) : List zP := [71#8, 1#8] ++ zCI (BitVec.ofInt 64 t).toNat ++ zCI (zGG tm).toNat ++ zCI (zGy t b).toNat ++ zCI (BitVec.ofInt 64 (m : Int)).toNat
def zBb (t tm b : Int) (m : Nat) : List zP := if zEv t tm b m ≠ 0 then [] else zA7 t tm b m
def zAR (t tm b : Int) (l : List zAA) : Nat := if zEv t tm b l.length ≠ 0 then zEv t tm b l.length else zCQ l
def zDM (t tm b : Int) (l : List zAA) : List zP := if zAR t tm b l ≠ 0 then [] else zA7 t tm b l.length ++ (zCU l).1
def zFW (t tm b : Int) (l : List zAA) : Nat := if zAR t tm b l ≠ 0 then zAR t tm b l else if 4092 < (zDM t tm b l).length then 8 else 0
def gwB (t tm b : Int) (l : List zAA) : List zP := if zFW t tm b l ≠ 0 then [] else zGT (zDM t tm b l)
theorem zFp (t tm b : Int) (m : Nat) : (zA7 t tm b m).length ≤ 42 := by
 have h1 := zEC (BitVec.ofInt 64 t).toNat
 have h2 := zEC (zGG tm).toNat
 have h3 := zEC (zGy t b).toNat
 have h4 := zEC (BitVec.ofInt 64 (m : Int)).toNat
 unfold zA7
 simp only [List.length_append, List.length_cons, List.length_nil]
 omega
theorem zDP {t tm b : Int} {m : Nat} (h : t < 0 ∨ 4294967295 < t ∨ tm < -2305843009213693952 ∨ 2305843009213693952 < tm ∨ b < -1) : zEv t tm b m = 3 := by unfold zEv; rw [if_pos h]
theorem zCD {t tm b : Int} {m : Nat} (h : ¬ (t < 0 ∨ 4294967295 < t ∨ tm < -2305843009213693952 ∨ 2305843009213693952 < tm ∨ b < -1)) (h2 : t ≤ b) : zEv t tm b m = 10 := by unfold zEv; rw [if_neg h, if_pos h2]
theorem zDU {t tm b : Int} {m : Nat} (h : ¬ (t < 0 ∨ 4294967295 < t ∨ tm < -2305843009213693952 ∨ 2305843009213693952 < tm ∨ b < -1)) (h2 : ¬ t ≤ b) (h3 : 128 < m) : zEv t tm b m = 8 := by unfold zEv; rw [if_neg h, if_neg h2, if_pos h3]
theorem zGs {t tm b : Int} {m : Nat} (h : ¬ (t < 0 ∨ 4294967295 < t ∨ tm < -2305843009213693952 ∨ 2305843009213693952 < tm ∨ b < -1)) (h2 : ¬ t ≤ b) (h3 : ¬ 128 < m) : zEv t tm b m = 0 := by unfold zEv; rw [if_neg h, if_neg h2, if_neg h3]
theorem zGO {t tm b : Int} {m : Nat} (h : zEv t tm b m = 0) : 0 ≤ t ∧ t ≤ 4294967295 ∧ -2305843009213693952 ≤ tm ∧ tm ≤ 2305843009213693952 ∧ -1 ≤ b ∧ b < t ∧ m ≤ 128 := by
 unfold zEv at h
 split at h
 · cases h
 · split at h
   · cases h
   · split at h
     · cases h
     · omega
theorem zB7 {t tm b : Int} {l : List zAA} (h : zEv t tm b l.length ≠ 0) : zAR t tm b l = zEv t tm b l.length := by unfold zAR; rw [if_pos h]
theorem zB0 {t tm b : Int} {l : List zAA} (h : zEv t tm b l.length = 0) : zAR t tm b l = zCQ l := by unfold zAR; rw [if_neg (by omega)]
theorem zFc {t tm b : Int} {l : List zAA} (h : zAR t tm b l ≠ 0) : zDM t tm b l = [] := by unfold zDM; rw [if_pos h]
theorem zJH {t tm b : Int} {l : List zAA} (h : zAR t tm b l = 0) : zDM t tm b l = zA7 t tm b l.length ++ (zCU l).1 := by unfold zDM; rw [if_neg (by omega)]
theorem zD9 {t tm b : Int} {l : List zAA} (h : zAR t tm b l = 0) : zEv t tm b l.length = 0 ∧ zCQ l = 0 := by
 unfold zAR at h
 split at h
 · omega
 · exact ⟨by omega, h⟩
theorem zGp (t tm b : Int) (l : List zAA) : (zDM t tm b l).length ≤ 12842 := by
 unfold zDM
 split
 · simp
 · rename_i h
   have h1 := zGO (zD9 (by omega : zAR t tm b l = 0)).1
   have h2 := zFp t tm b l.length
   have h3 := zM8 l
   simp only [List.length_append]
   omega
theorem zIf (t tm b : Int) (l : List zAA) : (gwB t tm b l).length ≤ 4096 := by
 unfold gwB
 split
 · simp
 · rename_i h
   have h1 : zFW t tm b l = 0 := by omega
   unfold zFW at h1
   rw [zD1]
   split at h1
   · omega
   · split at h1
     · cases h1
     · omega
end Go.Sx

set_option linter.unusedVariables false
set_option linter.unusedSimpArgs false
namespace Go.Sx
/-! ### What the laws need -/
theorem zLr {t tm b : Int} {l : List zAA} (h : zFW t tm b l = 0) : zAR t tm b l = 0 ∧ (zDM t tm b l).length ≤ 4092 := by
 unfold zFW at h
 split at h
 · omega
 · split at h
   · cases h
   · omega
theorem zUU {t tm b : Int} {l : List zAA} (h : zFW t tm b l = 0) : gwB t tm b l = zGT (zDM t tm b l) := by unfold gwB; rw [if_neg (by omega)]
theorem zXq {t tm b : Int} {l : List zAA} (h : zFW t tm b l = 0) : zCj (gwB t tm b l) = some (zDM t tm b l) := by rw [zUU h]; exact zKX _
end Go.Sx

set_option linter.unusedVariables false
set_option linter.unusedSimpArgs false
namespace Go.Sx
def zEU (c : zP) (bs : List zP) (R : Rs) : Rs := if (zG bs R).1.toNat = c.toNat then (zG bs R).2 else zBc 7 (zG bs R).2
def zK9 (bs : List zP) (R : Rs) : Rs := zEU 1#8 bs (zEU 71#8 bs R)
def gT (bs : List zP) (R : Rs) : Int × Rs := ((((zN bs 4294967295#64 R).1.toNat : Nat) : Int), (zN bs 4294967295#64 R).2)
def gTm (bs : List zP) (R : Rs) : Int × Rs := ((zY bs R).1, if -2305843009213693952 ≤ (zY bs R).1 ∧ (zY bs R).1 ≤ 2305843009213693952 then (zY bs R).2 else zBc 3 (zY bs R).2)
def gB (bs : List zP) (t : Int) (R : Rs) : Int × Rs := (if 0 < (zN bs (BitVec.ofInt 64 t) R).1.toNat then t - (((zN bs (BitVec.ofInt 64 t) R).1.toNat : Nat) : Int) else -1, (zN bs (BitVec.ofInt 64 t) R).2)
def zMT (bs : List zP) (s : List zAA × Int × Rs) : List zAA × Int × Rs :=
 if (zAD bs s.2.1 s.2.2).2.1 ≠ 0 then (s.1, s.2.1, (zAD bs s.2.1 s.2.2).2.2) else (s.1 ++ [(zAD bs s.2.1 s.2.2).1], (zAD bs s.2.1 s.2.2).1.id, (zAD bs s.2.1 s.2.2).2.2)
def zJu (bs : List zP) (s : List zAA × Int × Rs) : Nat → List zAA × Int × Rs
 | 0 => s
 | i + 1 => if (zJu bs s i).2.2.e ≠ 0 then zJu bs s i else zMT bs (zJu bs s i)
def zT (bs : List zP) (R : Rs) (i : Nat) : List zAA × Int × Rs := zJu bs ([], -1, (zN bs 128#64 R).2) i
def gN (bs : List zP) (R : Rs) : Nat := (zN bs 128#64 R).1.toNat
def gR1 (x : List zP) : Rs := zK9 x ⟨0, 0⟩
def gTx (x : List zP) : Int × Rs := gT x (gR1 x)
def zGk (x : List zP) : Int × Rs := gTm x (gTx x).2
def gBx (x : List zP) : Int × Rs := gB x (gTx x).1 (zGk x).2
def gSx (x : List zP) : List zAA × Int × Rs := zT x (gBx x).2 (gN x (gBx x).2)
def gEx (x : List zP) : Nat := zIR x (gSx x).2.2
structure zCu where
 t : Int
 tm : Int
 b : Int
 l : List zAA
 e : Nat
def zA (bs : List zP) : zCu :=
 if 4096 < bs.length then ⟨0, 0, 0, [], 8⟩ else match zCj bs with
   | none => ⟨0, 0, 0, [], 9⟩
   | some x => if gEx x ≠ 0 then ⟨0, 0, 0, [], gEx x⟩ else ⟨(gTx x).1, (zGk x).1, (gBx x).1, (gSx x).1, 0⟩
theorem zLT {X : BitVec 64} (h : X.toNat ≤ 9223372036854775807) : X.toInt = ((X.toNat : Nat) : Int) := by rw [BitVec.toInt_eq_toNat_cond, if_pos (by omega)]
theorem zKF (i : Nat) : BitVec.ofNat 64 i + 1#64 = BitVec.ofNat 64 (i + 1) := by
 apply BitVec.eq_of_toNat_eq
 simp
theorem zHR {c : zP} {bs : List zP} {R : Rs} (h : R.p ≤ bs.length) : (zEU c bs R).p ≤ bs.length ∧ R.p ≤ (zEU c bs R).p := by
 have h1 := zDr h
 have h2 := zBM (e := 7) h1.1
 unfold zEU
 split <;> omega
theorem zLE {bs : List zP} {R : Rs} (h : R.p ≤ bs.length) : (zK9 bs R).p ≤ bs.length := (zHR (zHR h).1).1
theorem zZh {bs : List zP} {R : Rs} (h : R.p ≤ bs.length) : (gT bs R).2.p ≤ bs.length ∧ 0 ≤ (gT bs R).1 ∧ (gT bs R).1 ≤ 4294967295 := by
 have h1 := zAz (X := 4294967295#64) h
 have h2 : (4294967295#64).toNat = 4294967295 := rfl
 unfold gT
 dsimp only
 omega
theorem zVD {bs : List zP} {R : Rs} (h : R.p ≤ bs.length) : (gTm bs R).2.p ≤ bs.length ∧ -9223372036854775808 ≤ (gTm bs R).1 ∧ (gTm bs R).1 ≤ 9223372036854775807 := by
 have h1 := zDB h
 have h2 := zBM (e := 3) h1.1
 have h3 : -9223372036854775808 ≤ (zY bs R).1 ∧ (zY bs R).1 ≤ 9223372036854775807 := by unfold zY; exact zFz _
 unfold gTm
 dsimp only
 split <;> omega
theorem zaE {bs : List zP} {t : Int} {R : Rs} (h : R.p ≤ bs.length) (ht : 0 ≤ t ∧ t ≤ 4294967295) : (gB bs t R).2.p ≤ bs.length ∧ -1 ≤ (gB bs t R).1 ∧ (gB bs t R).1 ≤ 4294967295 := by
 have h1 := zAz (X := BitVec.ofInt 64 t) h
 have h2 := zDv (x := t) (by omega) (by omega)
 unfold gB
 dsimp only
 split <;> omega
structure zVd (bs : List zP) (i : Nat) (s : List zAA × Int × Rs) : Prop where
 p : s.2.2.p ≤ bs.length
 lo : -1 ≤ s.2.1
 hi : s.2.1 ≤ 65535
 len : s.1.length ≤ i
theorem zPq {bs : List zP} {last : Int} {R : Rs} (h : -1 ≤ last ∧ last ≤ 65535) : (zAD bs last R).2.1 = (zAD bs last R).2.2.e := by
 unfold zAD
 rw [if_neg (by omega)]
 split
 · rfl
 · split
   · rfl
   · rename_i h1
     exact (Decidable.not_not.1 h1).symm
theorem zSo (bs : List zP) (last : Int) (R : Rs) : (zEI bs last R).1.id = last + 1 + (((zPD bs last R).1.toNat : Nat) : Int) := by
 unfold zEI zA5 zB8 zA2
 dsimp only
 (repeat' split) <;> rfl
theorem zTE {bs : List zP} {last : Int} {R : Rs} (hp : R.p ≤ bs.length) (h : -1 ≤ last ∧ last ≤ 65535) (h0 : (zAD bs last R).2.1 = 0) : last < (zAD bs last R).1.id ∧ (zAD bs last R).1.id ≤ 65535 := by
 unfold zAD at h0 ⊢
 rw [if_neg (by omega)] at h0 ⊢
 by_cases hl : last = 65535
 · rw [if_pos hl] at h0
   unfold zBc at h0
   split at h0
   · simp at h0
   · contradiction
 · rw [if_neg hl] at h0 ⊢
   split at h0
   · contradiction
   · rename_i h1
     rw [if_neg h1]
     dsimp only
     rw [zSo]
     have h2 := zAz (X := BitVec.ofInt 64 (65534 - last)) hp
     have h3 := zDv (x := 65534 - last) (by omega) (by omega)
     unfold zPD
     omega
theorem zO5 {bs : List zP} {i : Nat} {s : List zAA × Int × Rs} (h : zVd bs i s) : zVd bs (i + 1) (zMT bs s) := by
 have hp := zNV (last := s.2.1) h.p
 have hl := h.len
 unfold zMT
 split
 · exact ⟨hp.1, h.lo, h.hi, by dsimp only; omega⟩
 · rename_i h0
   have hi := zTE h.p ⟨h.lo, h.hi⟩ (by omega)
   have hlo := h.lo
   refine ⟨hp.1, by dsimp only; omega, by dsimp only; omega, by simp only [List.length_append, List.length_singleton]; omega⟩
theorem zJ9 {bs : List zP} {s : List zAA × Int × Rs} (h : zVd bs 0 s) : ∀ i, zVd bs i (zJu bs s i)
 | 0 => h
 | i + 1 => by
   unfold zJu
   have h1 := zJ9 h i
   split
   · exact ⟨h1.p, h1.lo, h1.hi, Nat.le_succ_of_le h1.len⟩
   · exact zO5 h1
theorem zVE {bs : List zP} {R : Rs} (hR : R.p ≤ bs.length) : zVd bs 0 ([], -1, (zN bs 128#64 R).2) := ⟨(zAz hR).1, Int.le_refl _, by show (-1 : Int) ≤ 65535; decide, Nat.le_refl 0⟩
theorem zCc {bs : List zP} {R : Rs} (hR : R.p ≤ bs.length) (i : Nat) : zVd bs i (zT bs R i) := zJ9 (zVE hR) i
theorem zK0 {bs : List zP} {s : List zAA × Int × Rs} {i : Nat} (h : (zJu bs s i).2.2.e ≠ 0) : ∀ k, zJu bs s (i + k) = zJu bs s i
 | 0 => rfl
 | k + 1 => by
   have h1 := zK0 h k
   show (if (zJu bs s (i + k)).2.2.e ≠ 0 then zJu bs s (i + k) else _) = _
   rw [h1, if_pos h]
theorem zVu (bs : List zP) (R : Rs) : gN bs R ≤ 128 := by
 have h2 : (128#64).toNat = 128 := rfl
 unfold gN zN
 split
 · exact Nat.zero_le _
 · split
   · exact Nat.zero_le _
   · split
     · exact Nat.zero_le _
     · rename_i h
       have h1 := (zL2 (Decidable.not_not.1 h)).2
       dsimp only
       omega
theorem zUq {bs : List zP} {R : Rs} : gN bs R ≤ 0 ∨ (zT bs R 0).2.2.e = 0 := by
 show (zN bs 128#64 R).1.toNat ≤ 0 ∨ (zN bs 128#64 R).2.e = 0
 unfold zN
 (repeat' split) <;> first | exact .inl (Nat.le_refl 0) | exact .inr rfl
theorem zJS {bs : List zP} {R : Rs} {i : Nat} (h : (zT bs R i).2.2.e = 0) (h0 : (zAD bs (zT bs R i).2.1 (zT bs R i).2.2).2.1 = 0) : zT bs R (i + 1) = ((zT bs R i).1 ++ [(zAD bs (zT bs R i).2.1 (zT bs R i).2.2).1], (zAD bs (zT bs R i).2.1 (zT bs R i).2.2).1.id, (zAD bs (zT bs R i).2.1 (zT bs R i).2.2).2.2) := by
 show zJu _ _ (i + 1) = _
 unfold zJu
 rw [if_neg (by unfold zT at h; omega)]
 unfold zMT
 rw [if_neg (by unfold zT at h0; omega)]
 rfl
theorem zNz {bs : List zP} {R : Rs} {i : Nat} (hR : R.p ≤ bs.length) (h : (zT bs R i).2.2.e = 0) (h0 : (zAD bs (zT bs R i).2.1 (zT bs R i).2.2).2.1 = 0) : (zT bs R (i + 1)).2.2.e = 0 := by
 have hi := zCc hR i
 rw [zJS h h0, ← h0]
 exact (zPq ⟨hi.lo, hi.hi⟩).symm
theorem zQE {bs : List zP} {R : Rs} {i : Nat} (hR : R.p ≤ bs.length) (hi : i < gN bs R) (h : (zT bs R i).2.2.e = 0) (h0 : (zAD bs (zT bs R i).2.1 (zT bs R i).2.2).2.1 ≠ 0) : zT bs R (gN bs R) = ((zT bs R i).1, (zT bs R i).2.1, (zAD bs (zT bs R i).2.1 (zT bs R i).2.2).2.2) := by
 have hv := zCc hR i
 have h1 : zT bs R (i + 1) = ((zT bs R i).1, (zT bs R i).2.1, (zAD bs (zT bs R i).2.1 (zT bs R i).2.2).2.2) := by
   show zJu _ _ (i + 1) = _
   unfold zJu
   rw [if_neg (by unfold zT at h; omega)]
   unfold zMT
   rw [if_pos (by unfold zT at h0; omega)]
   rfl
 have h2 := zPq (bs := bs) (R := (zT bs R i).2.2) ⟨hv.lo, hv.hi⟩
 have h3 := zK0 (bs := bs) (s := ([], -1, (zN bs 128#64 R).2)) (i := i + 1) (by
   show (zT bs R (i + 1)).2.2.e ≠ 0
   rw [h1]
   dsimp only
   omega) (gN bs R - (i + 1))
 rw [show i + 1 + (gN bs R - (i + 1)) = gN bs R by omega] at h3
 exact h3.trans h1
theorem zIk {bs : List zP} (h : 4096 < bs.length) : zA bs = ⟨0, 0, 0, [], 8⟩ := by unfold zA; rw [if_pos h]
theorem zIg {bs : List zP} (h : ¬ 4096 < bs.length) (ho : zCj bs = none) : zA bs = ⟨0, 0, 0, [], 9⟩ := by unfold zA; rw [if_neg h, ho]
theorem zKd {bs x : List zP} (h : ¬ 4096 < bs.length) (ho : zCj bs = some x) (he : gEx x ≠ 0) : zA bs = ⟨0, 0, 0, [], gEx x⟩ := by
 unfold zA
 rw [if_neg h, ho]
 dsimp only
 rw [if_pos he]
theorem zJc {bs x : List zP} (h : ¬ 4096 < bs.length) (ho : zCj bs = some x) (he : gEx x = 0) : zA bs = ⟨(gTx x).1, (zGk x).1, (gBx x).1, (gSx x).1, 0⟩ := by
 unfold zA
 rw [if_neg h, ho]
 dsimp only
 rw [if_neg (by omega)]
theorem zVY (x : List zP) : (gR1 x).p ≤ x.length := zLE (Nat.zero_le _)
theorem zMw (x : List zP) : (gTx x).2.p ≤ x.length ∧ 0 ≤ (gTx x).1 ∧ (gTx x).1 ≤ 4294967295 := zZh (zVY x)
theorem zLo (x : List zP) : (zGk x).2.p ≤ x.length ∧ -9223372036854775808 ≤ (zGk x).1 ∧ (zGk x).1 ≤ 9223372036854775807 := zVD (zMw x).1
theorem zKi (x : List zP) : (gBx x).2.p ≤ x.length ∧ -1 ≤ (gBx x).1 ∧ (gBx x).1 ≤ 4294967295 := zaE (zLo x).1 (zMw x).2
theorem zRn (x : List zP) : (gSx x).1.length ≤ 128 := by unfold gSx; exact Nat.le_trans (zCc (zKi x).1 _).len (zVu _ _)
theorem zGZ (x : List zP) : zT x (gBx x).2 (gN x (gBx x).2) = gSx x := rfl
theorem zP2 (x : List zP) : zIR x (gSx x).2.2 = gEx x := rfl
theorem zav (x : List zP) : (gSx x).2.2.p ≤ x.length := by rw [← zGZ]; exact (zCc (zKi x).1 _).p
theorem zHP (bs : List zP) : (zA bs).l.length ≤ 128 ∧ 0 ≤ (zA bs).t ∧ (zA bs).t ≤ 4294967295 ∧ -9223372036854775808 ≤ (zA bs).tm ∧ (zA bs).tm ≤ 9223372036854775807 ∧ -1 ≤ (zA bs).b ∧ (zA bs).b ≤ 4294967295 := by
 unfold zA
 split
 · simp
 · split
   · simp
   · rename_i x _
     have h1 := zMw x
     have h2 := zLo x
     have h3 := zKi x
     have h4 := zRn x
     split
     · simp
     · dsimp only
       omega
theorem zZK (x : List zP) : zEU 1#8 x (zEU 71#8 x ⟨0, 0⟩) = gR1 x := rfl
theorem zY1 (x : List zP) : gTx x = ((((zN x 4294967295#64 (gR1 x)).1.toNat : Nat) : Int), (zN x 4294967295#64 (gR1 x)).2) := rfl
theorem zWf {x : List zP} (h : -2305843009213693952 ≤ (zY x (gTx x).2).1 ∧ (zY x (gTx x).2).1 ≤ 2305843009213693952) : zGk x = ((zY x (gTx x).2).1, (zY x (gTx x).2).2) := by unfold zGk gTm; rw [if_pos h]
theorem zXr {x : List zP} (h : 0 < (zN x (BitVec.ofInt 64 (gTx x).1) (zGk x).2).1.toNat) : gBx x = ((gTx x).1 - (((zN x (BitVec.ofInt 64 (gTx x).1) (zGk x).2).1.toNat : Nat) : Int), (zN x (BitVec.ofInt 64 (gTx x).1) (zGk x).2).2) := by unfold gBx gB; rw [if_pos h]
theorem zXj {x : List zP} (h : ¬ 0 < (zN x (BitVec.ofInt 64 (gTx x).1) (zGk x).2).1.toNat) : gBx x = (-1, (zN x (BitVec.ofInt 64 (gTx x).1) (zGk x).2).2) := by unfold gBx gB; rw [if_neg h]
end Go.Sx

set_option linter.unusedVariables false
set_option linter.unusedSimpArgs false
namespace Go.Sx
theorem zRt {bs : List zP} {s : List zAA × Int × Rs} (h : zVd bs 0 s) (hw : ∀ r ∈ s.1, r.wf) : ∀ i, ∀ r ∈ (zJu bs s i).1, r.wf
 | 0 => hw
 | i + 1 => by
   have h1 := zJ9 h i
   have h2 := zRt h hw i
   unfold zJu
   split
   · exact h2
   · unfold zMT
     split
     · exact h2
     · intro r hr
       rcases List.mem_append.1 hr with hr | hr
       · exact h2 r hr
       · rw [List.mem_singleton.1 hr]; exact zT2 h1.p
theorem zaB (x : List zP) : ∀ r ∈ (gSx x).1, r.wf := by
 rw [← zGZ]
 unfold zT
 exact zRt (zVE (zKi x).1) (fun r hr => by cases hr) _
theorem zJp (bs : List zP) : ∀ r ∈ (zA bs).l, r.wf := by
 unfold zA
 split
 · simp
 · split
   · simp
   · split
     · simp
     · dsimp only; exact zaB _
end Go.Sx

set_option linter.unusedVariables false
set_option linter.unusedSimpArgs false
namespace Go.Sx
theorem zC7.full {α : Type} {bs c rest : List zP} {f : Rs → α × Rs} {v : α} {p : Nat} (h : zC7 bs c f v) (hp : p ≤ bs.length) (hd : bs.drop p = c ++ rest) : f ⟨p, 0⟩ = (v, ⟨p + c.length, 0⟩) ∧ bs.drop (p + c.length) = rest ∧ p + c.length ≤ bs.length := by
 have hd' : bs.drop p = (c ++ rest).take (c ++ rest).length := by rw [List.take_length]; exact hd
 have h2 := zL5 hd' (by simp) hp
 exact ⟨h.good ⟨p, 0⟩ _ rest rfl hp hd' (by simp), by rw [h2.1, List.length_append, Nat.add_sub_cancel_left, List.take_length], h2.2⟩
theorem zLI {bs rest : List zP} {c : zP} {p : Nat} (hp : p ≤ bs.length) (hd : bs.drop p = [c] ++ rest) : zEU c bs ⟨p, 0⟩ = ⟨p + 1, 0⟩ ∧ bs.drop (p + 1) = rest ∧ p + 1 ≤ bs.length := by
 obtain ⟨h1, h2, h3⟩ := (zGe (bs := bs) (c := c)).full hp hd
 refine ⟨?_, h2, h3⟩
 unfold zEU
 rw [h1, if_pos rfl]
 rfl
theorem zK3 {bs : List zP} {l : List zAA} {R : Rs} {p : Nat} (hl : ∀ x ∈ l, x.wf) (he : zCQ l = 0) (h0 : (zN bs 128#64 R).2 = ⟨p, 0⟩) (hp : p ≤ bs.length) (hR : R.p ≤ bs.length) {tail : List zP} (hd : bs.drop p = (zCU l).1 ++ tail) :
   ∀ i, i ≤ l.length → zT bs R i = (l.take i, (zCU (l.take i)).2, ⟨p + (zCU (l.take i)).1.length, 0⟩)
 | 0, _ => by
   show ([], (-1 : Int), (zN bs 128#64 R).2) = _
   rw [h0]
   rfl
 | i + 1, hi => by
   have ih := zK3 hl he h0 hp hR hd i (by omega)
   obtain ⟨rest, hs⟩ := zN3 (O := l) (i + 1)
   rw [zCa (by omega)] at hs
   have hds := hd
   rw [hs, List.append_assoc, List.append_assoc] at hds
   have hlen := congrArg List.length hds
   simp only [List.length_drop, List.length_append] at hlen
   have h1 : bs.drop (p + (zCU (l.take i)).1.length) = zCV (l.getD i default) (zCU (l.take i)).2 ++ (rest ++ tail) := by
     rw [← List.drop_drop, hds, List.drop_left]
   have hq := zXp (bs := bs) (last := (zCU (l.take i)).2) (zKn hl (by omega)) (zGM he i (by omega)) (by omega) h1
   rw [zJS (by rw [ih]) (by rw [ih]; dsimp only; rw [hq]), ih]
   dsimp only
   rw [hq, zCa (by omega), zHp (by omega)]
   dsimp only
   rw [List.length_append, Nat.add_assoc]
theorem zOh {t tm b : Int} {l : List zAA} {x tail : List zP} (hl : ∀ x ∈ l, x.wf) (hb : zAR t tm b l = 0) (hx0 : x = zDM t tm b l ++ tail) : (gTx x).1 = t ∧ (zGk x).1 = tm ∧ (gBx x).1 = b ∧ (gSx x).1 = l ∧ gEx x = if tail = [] then 0 else 8 := by
 obtain ⟨hg, hr⟩ := zD9 hb
 obtain ⟨g1, g2, g3, g4, g5, g6, g7⟩ := zGO hg
 have hx : x = [71#8] ++ ([1#8] ++ (zCI (BitVec.ofInt 64 t).toNat ++ (zDL tm ++ (zCI (zGy t b).toNat ++ (zCI (BitVec.ofInt 64 (l.length : Int)).toNat ++ ((zCU l).1 ++ tail)))))) := by
   rw [hx0, zJH hb, zA7, zDL]
   simp only [List.append_assoc, List.cons_append, List.nil_append]
 have ht := zDv (x := t) (by omega) (by omega)
 have hm := zDv (x := (l.length : Int)) (by omega) (by omega)
 have hbk : ((zGy t b).toNat : Int) = if 0 ≤ b then t - b else 0 := by
   unfold zGy
   split
   · exact zDv (by omega) (by omega)
   · rfl
 obtain ⟨a1, a2, a3⟩ := zLI (bs := x) (p := 0) (Nat.zero_le _) (by rw [List.drop_zero]; exact hx)
 obtain ⟨b1, b2, b3⟩ := zLI a3 a2
 have e1 : gR1 x = ⟨0 + 1 + 1, 0⟩ := by rw [← zZK, a1, b1]
 obtain ⟨c1, c2, c3⟩ := (zCS (bs := x) (L := 4294967295#64) (X := BitVec.ofInt 64 t) (by show _ ≤ 4294967295; omega)).full b3 b2
 have e2 : gTx x = (t, ⟨0 + 1 + 1 + (zCI (BitVec.ofInt 64 t).toNat).length, 0⟩) := by rw [zY1, e1, c1, ht]
 obtain ⟨d1, d2, d3⟩ := (zCi (bs := x) (x := tm) (by omega)).full c3 c2
 generalize hp2 : 0 + 1 + 1 + (zCI (BitVec.ofInt 64 t).toNat).length = p2 at *
 have e3 : zGk x = (tm, ⟨p2 + (zDL tm).length, 0⟩) := by
   have q : zY x (gTx x).2 = (tm, ⟨p2 + (zDL tm).length, 0⟩) := by rw [e2]; exact d1
   rw [zWf (by rw [q]; dsimp only; omega), q]
 generalize hp3 : p2 + (zDL tm).length = p3 at *
 obtain ⟨f1, f2, f3⟩ := (zCS (bs := x) (L := BitVec.ofInt 64 t) (X := zGy t b) (by split at hbk <;> omega)).full d3 d2
 generalize hp4 : p3 + (zCI (zGy t b).toNat).length = p4 at *
 have e4 : gBx x = (b, ⟨p4, 0⟩) := by
   have q : zN x (BitVec.ofInt 64 (gTx x).1) (zGk x).2 = (zGy t b, ⟨p4, 0⟩) := by rw [e2, e3]; exact f1
   by_cases hb0 : 0 ≤ b
   · rw [if_pos hb0] at hbk
     rw [zXr (by rw [q]; dsimp only; omega), q, e2]
     dsimp only
     rw [hbk, show t - (t - b) = b by omega]
   · rw [if_neg hb0] at hbk
     rw [zXj (by rw [q]; dsimp only; omega), q]
     dsimp only
     rw [show b = -1 by omega]
 obtain ⟨k1, k2, k3⟩ := (zCS (bs := x) (L := 128#64) (X := BitVec.ofInt 64 (l.length : Int)) (by show _ ≤ 128; omega)).full f3 f2
 have hn : gN x (gBx x).2 = l.length := by
   unfold gN
   rw [e4]
   dsimp only
   rw [k1]
   dsimp only
   omega
 have hrec := zK3 (R := (gBx x).2) hl hr (by rw [e4]; dsimp only; rw [k1]) k3 (by rw [e4]; exact f3) k2 l.length (Nat.le_refl _)
 rw [List.take_length] at hrec
 have hS : gSx x = (l, (zCU l).2, ⟨p4 + (zCI (BitVec.ofInt 64 (l.length : Int)).toNat).length + (zCU l).1.length, 0⟩) := by rw [← zGZ, hn, hrec]
 have hlen := congrArg List.length k2
 rw [List.length_drop, List.length_append] at hlen
 have hE : gEx x = if tail = [] then 0 else 8 := by
   rw [← zP2, hS]
   unfold zIR
   cases tail with
   | nil =>
     rw [List.length_nil] at hlen
     rw [if_pos (.inr (by dsimp only; omega)), if_pos rfl]
   | cons c tl =>
     rw [List.length_cons] at hlen
     rw [if_neg (by dsimp only; omega), if_neg (by simp)]
 exact ⟨by rw [e2], by rw [e3], by rw [e4], by rw [hS], hE⟩
theorem zHa {t tm b : Int} {l : List zAA} (hl : ∀ x ∈ l, x.wf) (h : zFW t tm b l = 0) : zA (gwB t tm b l) = ⟨t, tm, b, l, 0⟩ := by
 have hw := zIf t tm b l
 obtain ⟨h1, h2, h3, h4, h5⟩ := zOh (x := zDM t tm b l) (tail := []) hl (zLr h).1 (by rw [List.append_nil])
 rw [zJc (by omega) (zXq h) (by rw [h5]; rfl), h1, h2, h3, h4]
end Go.Sx

set_option linter.unusedVariables false
set_option linter.unusedSimpArgs false
namespace Go.Sx
theorem zMa {α : Type} {f : Nat → List Value} {g : α → List Value} {p : α → Prop} : ∀ (n : Nat), (∀ i, i < n → ∃ a : α, f i = g a ∧ p a) → ∃ l : List α, l.length = n ∧ (List.range n).flatMap f = l.flatMap g ∧ ∀ x ∈ l, p x
 | 0, _ => ⟨[], rfl, rfl, by simp⟩
 | n + 1, h => by
   obtain ⟨l, hl, he, hp⟩ := zMa n fun i hi => h i (by omega)
   obtain ⟨a, ha, hpa⟩ := h n (by omega)
   refine ⟨l ++ [a], by simp [hl], by rw [List.range_succ, List.flatMap_append, List.flatMap_append, he]; simp [ha], fun x hx => ?_⟩
   rcases List.mem_append.1 hx with hx | hx
   · exact hp x hx
   · rw [List.mem_singleton] at hx; subst hx; exact hpa
/-! ### A row of records -/
/-! ### Sizes -/
end Go.Sx
