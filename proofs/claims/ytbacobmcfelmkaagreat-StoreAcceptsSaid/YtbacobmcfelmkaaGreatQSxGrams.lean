/- Texts of the small logic, one behind the other: SxPcrc, SxPgram, SxRgram, SxPgramR, SxPgramK, SxPgramF, SxRrec. -/
import Derived.Test.YtbacobmcfelmkaaGreatQSxBasA
import Derived.Test.YtbacobmcfelmkaaGreatQSxRecs
import Derived.Test.YtbacobmcfelmkaaGreatQSxBasB
set_option linter.unusedVariables false
set_option linter.unusedSimpArgs false
namespace Go.Sx

def zFn (s : BitVec 32) : BitVec 32 := (s >>> 1) ^^^ (3988292384#32 &&& -(s &&& 1#32))
def zGo : Nat → BitVec 32 → BitVec 32
 | 0, s => s
 | k + 1, s => zFn (zGo k s)
def zNc (s : BitVec 32) (c : zR) : BitVec 32 := zGo 8 (s ^^^ c.setWidth 32)
def zFd (s : BitVec 32) (bs : List zR) : BitVec 32 := bs.foldl zNc s
def zJl (s : BitVec 32) (bs : List zR) : BitVec 32 := ~~~(zFd (~~~s) bs)
def zBc (bs : List zR) : BitVec 32 := zJl 0#32 bs
theorem zI5 (s : BitVec 32) (bs : List zR) (k : Nat) (h : k < bs.length) : zFd s (bs.take (k + 1)) = zNc (zFd s (bs.take k)) (bs.getD k 0) := by
 unfold zFd
 rw [List.take_succ_eq_append_getElem h, List.foldl_append]
 simp [List.getD_eq_getElem?_getD, h]
def be4 (s : BitVec 32) : List zR := [(s >>> 24).setWidth 8, (s >>> 16).setWidth 8, (s >>> 8).setWidth 8, s.setWidth 8]
def zDe (bs : List zR) : List zR := bs ++ be4 (zBc bs)
theorem zCr (bs : List zR) : (zDe bs).length = bs.length + 4 := by simp [zDe, be4]
def beN (bs : List zR) : BitVec 32 := bs.foldl (fun s c => (s <<< 8) ||| c.setWidth 32) 0#32
theorem zSG (bs : List zR) (k : Nat) (h : k < bs.length) : beN (bs.take (k + 1)) = (beN (bs.take k) <<< 8) ||| (bs.getD k 0).setWidth 32 := by
 unfold beN
 rw [List.take_succ_eq_append_getElem h, List.foldl_append]
 simp [List.getD_eq_getElem?_getD, h]
theorem zVg (s : BitVec 32) (c : zR) (h : s.toNat < 2 ^ 24) : ((s <<< 8) ||| c.setWidth 32).toNat = s.toNat * 256 + c.toNat := by
 have hc := c.isLt
 rw [BitVec.toNat_or, BitVec.toNat_shiftLeft, BitVec.toNat_setWidth, Nat.shiftLeft_eq, Nat.mod_eq_of_lt (by omega), Nat.mod_eq_of_lt (by omega)]
 rw [Nat.mul_comm, ← Nat.two_pow_add_eq_or_of_lt hc]
theorem zV0 (a b c d : zR) : (beN [a, b, c, d]).toNat = a.toNat * 16777216 + b.toNat * 65536 + c.toNat * 256 + d.toNat := by
 simp only [beN, List.foldl_cons, List.foldl_nil]
 have ha := a.isLt
 have hb := b.isLt
 have hc := c.isLt
 have hd := d.isLt
 have h0 : (0#32 : BitVec 32).toNat = 0 := rfl
 have h1 := zVg 0#32 a (by omega)
 have h2 := zVg _ b (by rw [h1]; omega)
 have h3 := zVg _ c (by rw [h2, h1]; omega)
 have h4 := zVg _ d (by rw [h3, h2, h1]; omega)
 rw [h4, h3, h2, h1]
 omega
theorem zTF (s : BitVec 32) : beN (be4 s) = s := by
 apply BitVec.eq_of_toNat_eq
 have := s.isLt
 rw [be4, zV0]
 simp only [BitVec.toNat_setWidth, BitVec.toNat_ushiftRight, Nat.shiftRight_eq_div_pow]
 omega
theorem zR1 (a b c d : zR) : be4 (beN [a, b, c, d]) = [a, b, c, d] := by
 have h := zV0 a b c d
 have ha := a.isLt
 have hb := b.isLt
 have hc := c.isLt
 have hd := d.isLt
 simp only [be4, List.cons.injEq, and_true]
 refine ⟨?_, ?_, ?_, ?_⟩ <;> apply BitVec.eq_of_toNat_eq <;> simp only [BitVec.toNat_setWidth, BitVec.toNat_ushiftRight, Nat.shiftRight_eq_div_pow, h] <;> omega
theorem zTi : ∀ (l : List zR), l.length = 4 → be4 (beN l) = l
 | [a, b, c, d], _ => zR1 a b c d
def zCP (bs : List zR) : Option (List zR) :=
 if bs.length < 4 then none else if beN (bs.drop (bs.length - 4)) = zBc (bs.take (bs.length - 4)) then some (bs.take (bs.length - 4)) else none
theorem zOa (bs : List zR) : zCP (zDe bs) = some bs := by
 unfold zCP
 have hl := zCr bs
 rw [if_neg (by omega), hl, show bs.length + 4 - 4 = bs.length by omega]
 have h1 : (zDe bs).drop bs.length = be4 (zBc bs) := by simp [zDe]
 have h2 : (zDe bs).take bs.length = bs := by simp [zDe]
 rw [h1, h2, zTF, if_pos rfl]
theorem zF3 (bs x : List zR) : zCP bs = some x ↔ bs = zDe x := by
 constructor
 · intro h
   unfold zCP at h
   split at h
   · cases h
   · rename_i hl
     split at h
     · rename_i he
       injection h with h
       subst h
       unfold zDe
       rw [← he, zTi _ (by simp; omega), List.take_append_drop]
     · cases h
 · rintro rfl
   exact zOa x
theorem zPH (s : BitVec 32) : s % 2#32 = s &&& 1#32 := by
 apply BitVec.eq_of_toNat_eq; simp [Nat.and_one_is_mod]
theorem zPE (s : BitVec 32) : s / 2#32 = s >>> 1 := by
 apply BitVec.eq_of_toNat_eq; simp [Nat.shiftRight_eq_div_pow]
theorem zLT : 3988292384#32 &&& -1#32 = 3988292384#32 := by decide
theorem zLU {s : BitVec 32} (h : s &&& 1#32 = 1#32) : zFn s = (s >>> 1) ^^^ 3988292384#32 := by
 unfold zFn; rw [h, zLT]
theorem zKK {s : BitVec 32} (h : s &&& 1#32 = 0#32) : zFn s = s >>> 1 := by
 unfold zFn; rw [h]; simp
theorem zPY {s : BitVec 32} (h : (((s % 2#32).toNat : Nat) : Int) = 1) : (s / 2#32) ^^^ 3988292384#32 = zFn s := by
 have h' : s &&& 1#32 = 1#32 := by
   rw [← zPH]; apply BitVec.eq_of_toNat_eq; have : (s % 2#32).toNat = 1 := by omega
   rw [this]; rfl
 rw [zLU h', zPE]
theorem zMK {s : BitVec 32} (h : (((s % 2#32).toNat : Nat) : Int) ≠ 1) : s / 2#32 = zFn s := by
 have h1 : (s % 2#32).toNat < 2 := by simp; omega
 have h' : s &&& 1#32 = 0#32 := by
   rw [← zPH]; apply BitVec.eq_of_toNat_eq; have : (s % 2#32).toNat = 0 := by omega
   rw [this]; rfl
 rw [zKK h', zPE]
theorem zNJ (bs : List zR) : 4294967295#32 ^^^ zFd 4294967295#32 bs = zBc bs := by
 unfold zBc zJl
 have e : (4294967295#32 : BitVec 32) = BitVec.allOnes 32 := by decide
 have e2 : (~~~0#32 : BitVec 32) = BitVec.allOnes 32 := by decide
 rw [e, e2, BitVec.allOnes_xor]
theorem zTK (s : BitVec 32) : [(s / 16777216#32).setWidth 8, (s / 65536#32 % 256#32).setWidth 8, (s / 256#32 % 256#32).setWidth 8, (s % 256#32).setWidth 8] = be4 s := by
 have := s.isLt
 simp only [be4, List.cons.injEq, and_true]
 refine ⟨?_, ?_, ?_, ?_⟩ <;> apply BitVec.eq_of_toNat_eq <;> simp only [BitVec.toNat_setWidth, BitVec.toNat_ushiftRight, BitVec.toNat_udiv, BitVec.toNat_umod, BitVec.toNat_ofNat, Nat.shiftRight_eq_div_pow, Nat.reducePow, Nat.reduceMod] <;> omega

/-! ### No two sums alike -/
end Go.Sx
namespace Go.Sx
/-! ### What the laws ask -/
end Go.Sx

set_option linter.unusedVariables false
set_option linter.unusedSimpArgs false
namespace Go.Sx
theorem zCX (r : zAd) : (zDG r).length = 9 := rfl
theorem zKx {α : Type} [Inhabited α] {l : List α} {j : Nat} (h : j < l.length) : l.take (j + 1) = l.take j ++ [l.getD j default] := by
 rw [List.take_add_one, List.getD_eq_getElem?_getD, List.getElem?_eq_getElem h]
 rfl
theorem zHp {l : List zAd} (h : ∀ x ∈ l, x.wf) {j : Nat} (hj : j < l.length) : (l.getD j default).wf := by
 rw [List.getD_eq_getElem?_getD, List.getElem?_eq_getElem hj]
 exact h _ (List.getElem_mem hj)
def zCd (O : List zAd) : List zR × Int := O.foldl (fun s r => (s.1 ++ zCg r s.2, r.id)) ([], -1)
theorem zB6 {O : List zAd} {k : Nat} (h : k < O.length) : zCd (O.take (k + 1)) = ((zCd (O.take k)).1 ++ zCg (O.getD k default) (zCd (O.take k)).2, (O.getD k default).id) := by
 unfold zCd
 rw [zKx h, List.foldl_append]
 rfl
theorem zHK : ∀ (O : List zAd), (zCd O).1.length ≤ 100 * O.length := by
 have key : ∀ (O : List zAd) (s : List zR × Int), (O.foldl (fun s r => (s.1 ++ zCg r s.2, r.id)) s).1.length ≤ s.1.length + 100 * O.length := by
   intro O
   induction O with
   | nil => intro s; simp
   | cons r O ih =>
     intro s
     have h1 := ih (s.1 ++ zCg r s.2, r.id)
     have h2 := zEH r s.2
     rw [List.foldl_cons]
     simp only [List.length_append, List.length_cons] at h1 ⊢
     omega
 intro O
 have := key O ([], -1)
 simpa [zCd] using this
def zCc (l : List zAd) (k : Nat) : Nat := zBG (l.getD k default) (zCd (l.take k)).2
def zCM (l : List zAd) : Nat → Nat
 | 0 => 0
 | j + 1 => if zCM l j ≠ 0 then zCM l j else zCc l j
def zBg (l : List zAd) : Nat := zCM l l.length
theorem zIO {l : List zAd} {j : Nat} (h : zCM l j = 0) (h2 : zCc l j = 0) : zCM l (j + 1) = 0 := by unfold zCM; rw [if_neg (by omega), h2]
theorem zNf {l : List zAd} {j : Nat} (h : zCM l j = 0) : zCM l (j + 1) = zCc l j := by unfold zCM; rw [if_neg (by omega)]
theorem zIB {l : List zAd} {j e : Nat} (h : zCM l j = e) (he : e ≠ 0) : ∀ k, zCM l (j + k) = e
 | 0 => h
 | k + 1 => by
   have := zIB h he k
   show (if zCM l (j + k) ≠ 0 then zCM l (j + k) else zCc l (j + k)) = e
   rw [if_pos (by omega), this]
theorem zBY {l : List zAd} {j : Nat} (hj : j < l.length) (h : zCM l j = 0) (he : zCc l j ≠ 0) : zBg l = zCc l j := by
 have := zIB (zNf h) he (l.length - (j + 1))
 rwa [show j + 1 + (l.length - (j + 1)) = l.length by omega] at this
theorem zIq {l : List zAd} {j : Nat} (h : zCM l j = 0) : ∀ k, k < j → zCc l k = 0 := by
 induction j with
 | zero => intro k hk; omega
 | succ j ih =>
   unfold zCM at h
   split at h
   · omega
   · intro k hk
     by_cases e : k = j
     · subst e; exact h
     · exact ih (by omega) k (by omega)
theorem zFr {l : List zAd} {j : Nat} (hj : j ≤ l.length) (h : zCM l j = 0) : -1 ≤ (zCd (l.take j)).2 ∧ (zCd (l.take j)).2 ≤ 65535 := by
 cases j with
 | zero => exact ⟨(show -1 ≤ (-1 : Int) by decide), (show (-1 : Int) ≤ 65535 by decide)⟩
 | succ j =>
   have h1 := zDA (zIq h j (by omega))
   rw [zB6 (by omega)]
   dsimp only
   omega
def zCk (t tm b : Int) (m : Nat) : Nat := if t < 0 ∨ 4294967295 < t ∨ tm < -2305843009213693952 ∨ 2305843009213693952 < tm ∨ b < -1 then 3 else if t ≤ b then 10 else if 128 < m then 8 else 0
def zIU (t b : Int) : BitVec 64 := if 0 ≤ b then BitVec.ofInt 64 (t - b) else 0#64
def zAq (t tm b : Int) (m : Nat) : List zR := [71#8, 1#8] ++ zDL (BitVec.ofInt 64 t).toNat ++ zDL (zFK tm).toNat ++ zDL (zIU t b).toNat ++ zDL (BitVec.ofInt 64 (m : Int)).toNat
def zCE (t tm b : Int) (m : Nat) : List zR := if zCk t tm b m ≠ 0 then [] else zAq t tm b m
def zAV (t tm b : Int) (l : List zAd) : Nat := if zCk t tm b l.length ≠ 0 then zCk t tm b l.length else zBg l
def zBv (t tm b : Int) (l : List zAd) : List zR := if zAV t tm b l ≠ 0 then [] else zAq t tm b l.length ++ (zCd l).1
def zIb (t tm b : Int) (l : List zAd) : Nat := if zAV t tm b l ≠ 0 then zAV t tm b l else if 4092 < (zBv t tm b l).length then 8 else 0
def gwB (t tm b : Int) (l : List zAd) : List zR := if zIb t tm b l ≠ 0 then [] else zDe (zBv t tm b l)
theorem zEM (t tm b : Int) (m : Nat) : (zAq t tm b m).length ≤ 42 := by
 have h1 := zDu (BitVec.ofInt 64 t).toNat
 have h2 := zDu (zFK tm).toNat
 have h3 := zDu (zIU t b).toNat
 have h4 := zDu (BitVec.ofInt 64 (m : Int)).toNat
 unfold zAq
 simp only [List.length_append, List.length_cons, List.length_nil]
 omega
theorem zBR {t tm b : Int} {m : Nat} (h : t < 0 ∨ 4294967295 < t ∨ tm < -2305843009213693952 ∨ 2305843009213693952 < tm ∨ b < -1) : zCk t tm b m = 3 := by unfold zCk; rw [if_pos h]
theorem zAs {t tm b : Int} {m : Nat} (h : ¬ (t < 0 ∨ 4294967295 < t ∨ tm < -2305843009213693952 ∨ 2305843009213693952 < tm ∨ b < -1)) (h2 : t ≤ b) : zCk t tm b m = 10 := by unfold zCk; rw [if_neg h, if_pos h2]
theorem zBT {t tm b : Int} {m : Nat} (h : ¬ (t < 0 ∨ 4294967295 < t ∨ tm < -2305843009213693952 ∨ 2305843009213693952 < tm ∨ b < -1)) (h2 : ¬ t ≤ b) (h3 : 128 < m) : zCk t tm b m = 8 := by unfold zCk; rw [if_neg h, if_neg h2, if_pos h3]
theorem zFV {t tm b : Int} {m : Nat} (h : ¬ (t < 0 ∨ 4294967295 < t ∨ tm < -2305843009213693952 ∨ 2305843009213693952 < tm ∨ b < -1)) (h2 : ¬ t ≤ b) (h3 : ¬ 128 < m) : zCk t tm b m = 0 := by unfold zCk; rw [if_neg h, if_neg h2, if_neg h3]
theorem zE3 {t tm b : Int} {m : Nat} (h : zCk t tm b m = 0) : 0 ≤ t ∧ t ≤ 4294967295 ∧ -2305843009213693952 ≤ tm ∧ tm ≤ 2305843009213693952 ∧ -1 ≤ b ∧ b < t ∧ m ≤ 128 := by
 unfold zCk at h
 split at h
 · cases h
 · split at h
   · cases h
   · split at h
     · cases h
     · omega
theorem zAD {t tm b : Int} {l : List zAd} (h : zCk t tm b l.length ≠ 0) : zAV t tm b l = zCk t tm b l.length := by unfold zAV; rw [if_pos h]
theorem zAE {t tm b : Int} {l : List zAd} (h : zCk t tm b l.length = 0) : zAV t tm b l = zBg l := by unfold zAV; rw [if_neg (by omega)]
theorem zA2 {t tm b : Int} {l : List zAd} (h : zAV t tm b l ≠ 0) : zBv t tm b l = [] := by unfold zBv; rw [if_pos h]
theorem zFG {t tm b : Int} {l : List zAd} (h : zAV t tm b l = 0) : zBv t tm b l = zAq t tm b l.length ++ (zCd l).1 := by unfold zBv; rw [if_neg (by omega)]
theorem zDD {t tm b : Int} {l : List zAd} (h : zAV t tm b l = 0) : zCk t tm b l.length = 0 ∧ zBg l = 0 := by
 unfold zAV at h
 split at h
 · omega
 · exact ⟨by omega, h⟩
theorem zEm (t tm b : Int) (l : List zAd) : (zBv t tm b l).length ≤ 12842 := by
 unfold zBv
 split
 · simp
 · rename_i h
   have h1 := zE3 (zDD (by omega : zAV t tm b l = 0)).1
   have h2 := zEM t tm b l.length
   have h3 := zHK l
   simp only [List.length_append]
   omega
theorem zNB (t tm b : Int) (l : List zAd) : (gwB t tm b l).length ≤ 4096 := by
 unfold gwB
 split
 · simp
 · rename_i h
   have h1 : zIb t tm b l = 0 := by omega
   unfold zIb at h1
   rw [zCr]
   split at h1
   · omega
   · split at h1
     · cases h1
     · omega
end Go.Sx

set_option linter.unusedVariables false
set_option linter.unusedSimpArgs false
namespace Go.Sx
/-! ### What the laws need -/
end Go.Sx

set_option linter.unusedVariables false
set_option linter.unusedSimpArgs false
namespace Go.Sx
def zC5 (c : zR) (bs : List zR) (R : Rs) : Rs := if (zB bs R).1.toNat = c.toNat then (zB bs R).2 else zBL 7 (zB bs R).2
def zKo (bs : List zR) (R : Rs) : Rs := zC5 1#8 bs (zC5 71#8 bs R)
def gT (bs : List zR) (R : Rs) : Int × Rs := ((((zD bs 4294967295#64 R).1.toNat : Nat) : Int), (zD bs 4294967295#64 R).2)
def gTm (bs : List zR) (R : Rs) : Int × Rs := ((zJ bs R).1, if -2305843009213693952 ≤ (zJ bs R).1 ∧ (zJ bs R).1 ≤ 2305843009213693952 then (zJ bs R).2 else zBL 3 (zJ bs R).2)
def gB (bs : List zR) (t : Int) (R : Rs) : Int × Rs := (if 0 < (zD bs (BitVec.ofInt 64 t) R).1.toNat then t - (((zD bs (BitVec.ofInt 64 t) R).1.toNat : Nat) : Int) else -1, (zD bs (BitVec.ofInt 64 t) R).2)
def zK0 (bs : List zR) (s : List zAd × Int × Rs) : List zAd × Int × Rs :=
 if (zAM bs s.2.1 s.2.2).2.1 ≠ 0 then (s.1, s.2.1, (zAM bs s.2.1 s.2.2).2.2) else (s.1 ++ [(zAM bs s.2.1 s.2.2).1], (zAM bs s.2.1 s.2.2).1.id, (zAM bs s.2.1 s.2.2).2.2)
def zIV (bs : List zR) (s : List zAd × Int × Rs) : Nat → List zAd × Int × Rs
 | 0 => s
 | i + 1 => if (zIV bs s i).2.2.e ≠ 0 then zIV bs s i else zK0 bs (zIV bs s i)
def zZ (bs : List zR) (R : Rs) (i : Nat) : List zAd × Int × Rs := zIV bs ([], -1, (zD bs 128#64 R).2) i
def gN (bs : List zR) (R : Rs) : Nat := (zD bs 128#64 R).1.toNat
def gR1 (x : List zR) : Rs := zKo x ⟨0, 0⟩
def gTx (x : List zR) : Int × Rs := gT x (gR1 x)
def zBk (x : List zR) : Int × Rs := gTm x (gTx x).2
def gBx (x : List zR) : Int × Rs := gB x (gTx x).1 (zBk x).2
def gSx (x : List zR) : List zAd × Int × Rs := zZ x (gBx x).2 (gN x (gBx x).2)
def gEx (x : List zR) : Nat := zDt x (gSx x).2.2
structure zCa where
 t : Int
 tm : Int
 b : Int
 l : List zAd
 e : Nat
def zA (bs : List zR) : zCa :=
 if 4096 < bs.length then ⟨0, 0, 0, [], 8⟩ else match zCP bs with
   | none => ⟨0, 0, 0, [], 9⟩
   | some x => if gEx x ≠ 0 then ⟨0, 0, 0, [], gEx x⟩ else ⟨(gTx x).1, (zBk x).1, (gBx x).1, (gSx x).1, 0⟩
theorem zDR {X : BitVec 64} (h : X.toNat ≤ 9223372036854775807) : X.toInt = ((X.toNat : Nat) : Int) := by rw [BitVec.toInt_eq_toNat_cond, if_pos (by omega)]
theorem zKi (i : Nat) : BitVec.ofNat 64 i + 1#64 = BitVec.ofNat 64 (i + 1) := by
 apply BitVec.eq_of_toNat_eq
 simp
theorem zFM {c : zR} {bs : List zR} {R : Rs} (h : R.p ≤ bs.length) : (zC5 c bs R).p ≤ bs.length ∧ R.p ≤ (zC5 c bs R).p := by
 have h1 := zCy h
 have h2 := zBE (e := 7) h1.1
 unfold zC5
 split <;> omega
theorem zKR {bs : List zR} {R : Rs} (h : R.p ≤ bs.length) : (zKo bs R).p ≤ bs.length := (zFM (zFM h).1).1
theorem zVJ {bs : List zR} {R : Rs} (h : R.p ≤ bs.length) : (gT bs R).2.p ≤ bs.length ∧ 0 ≤ (gT bs R).1 ∧ (gT bs R).1 ≤ 4294967295 := by
 have h1 := zAw (X := 4294967295#64) h
 have h2 : (4294967295#64).toNat = 4294967295 := rfl
 unfold gT
 dsimp only
 omega
theorem zSw {bs : List zR} {R : Rs} (h : R.p ≤ bs.length) : (gTm bs R).2.p ≤ bs.length ∧ -9223372036854775808 ≤ (gTm bs R).1 ∧ (gTm bs R).1 ≤ 9223372036854775807 := by
 have h1 := zBm h
 have h2 := zBE (e := 3) h1.1
 have h3 : -9223372036854775808 ≤ (zJ bs R).1 ∧ (zJ bs R).1 ≤ 9223372036854775807 := by unfold zJ; exact zEt _
 unfold gTm
 dsimp only
 split <;> omega
theorem zVP {bs : List zR} {t : Int} {R : Rs} (h : R.p ≤ bs.length) (ht : 0 ≤ t ∧ t ≤ 4294967295) : (gB bs t R).2.p ≤ bs.length ∧ -1 ≤ (gB bs t R).1 ∧ (gB bs t R).1 ≤ 4294967295 := by
 have h1 := zAw (X := BitVec.ofInt 64 t) h
 have h2 := zGs (x := t) (by omega) (by omega)
 unfold gB
 dsimp only
 split <;> omega
structure zSh (bs : List zR) (i : Nat) (s : List zAd × Int × Rs) : Prop where
 p : s.2.2.p ≤ bs.length
 lo : -1 ≤ s.2.1
 hi : s.2.1 ≤ 65535
 len : s.1.length ≤ i
theorem zLf {bs : List zR} {last : Int} {R : Rs} (h : -1 ≤ last ∧ last ≤ 65535) : (zAM bs last R).2.1 = (zAM bs last R).2.2.e := by
 unfold zAM
 rw [if_neg (by omega)]
 split
 · rfl
 · split
   · rfl
   · rename_i h1
     exact (Decidable.not_not.1 h1).symm
theorem zQe (bs : List zR) (last : Int) (R : Rs) : (zFT bs last R).1.id = last + 1 + (((zPt bs last R).1.toNat : Nat) : Int) := by
 unfold zFT zCf zBx zA6
 dsimp only
 (repeat' split) <;> rfl
theorem zRF {bs : List zR} {last : Int} {R : Rs} (hp : R.p ≤ bs.length) (h : -1 ≤ last ∧ last ≤ 65535) (h0 : (zAM bs last R).2.1 = 0) : last < (zAM bs last R).1.id ∧ (zAM bs last R).1.id ≤ 65535 := by
 unfold zAM at h0 ⊢
 rw [if_neg (by omega)] at h0 ⊢
 by_cases hl : last = 65535
 · rw [if_pos hl] at h0
   unfold zBL at h0
   split at h0
   · simp at h0
   · contradiction
 · rw [if_neg hl] at h0 ⊢
   split at h0
   · contradiction
   · rename_i h1
     rw [if_neg h1]
     dsimp only
     rw [zQe]
     have h2 := zAw (X := BitVec.ofInt 64 (65534 - last)) hp
     have h3 := zGs (x := 65534 - last) (by omega) (by omega)
     unfold zPt
     omega
theorem zO6 {bs : List zR} {i : Nat} {s : List zAd × Int × Rs} (h : zSh bs i s) : zSh bs (i + 1) (zK0 bs s) := by
 have hp := zHM (last := s.2.1) h.p
 have hl := h.len
 unfold zK0
 split
 · exact ⟨hp.1, h.lo, h.hi, by dsimp only; omega⟩
 · rename_i h0
   have hi := zRF h.p ⟨h.lo, h.hi⟩ (by omega)
   have hlo := h.lo
   refine ⟨hp.1, by dsimp only; omega, by dsimp only; omega, by simp only [List.length_append, List.length_singleton]; omega⟩
theorem zJb {bs : List zR} {s : List zAd × Int × Rs} (h : zSh bs 0 s) : ∀ i, zSh bs i (zIV bs s i)
 | 0 => h
 | i + 1 => by
   unfold zIV
   have h1 := zJb h i
   split
   · exact ⟨h1.p, h1.lo, h1.hi, Nat.le_succ_of_le h1.len⟩
   · exact zO6 h1
theorem zSi {bs : List zR} {R : Rs} (hR : R.p ≤ bs.length) : zSh bs 0 ([], -1, (zD bs 128#64 R).2) := ⟨(zAw hR).1, Int.le_refl _, by show (-1 : Int) ≤ 65535; decide, Nat.le_refl 0⟩
theorem zBy {bs : List zR} {R : Rs} (hR : R.p ≤ bs.length) (i : Nat) : zSh bs i (zZ bs R i) := zJb (zSi hR) i
theorem zGK {bs : List zR} {s : List zAd × Int × Rs} {i : Nat} (h : (zIV bs s i).2.2.e ≠ 0) : ∀ k, zIV bs s (i + k) = zIV bs s i
 | 0 => rfl
 | k + 1 => by
   have h1 := zGK h k
   show (if (zIV bs s (i + k)).2.2.e ≠ 0 then zIV bs s (i + k) else _) = _
   rw [h1, if_pos h]
theorem zOb (bs : List zR) (R : Rs) : gN bs R ≤ 128 := by
 have h2 : (128#64).toNat = 128 := rfl
 unfold gN zD
 split
 · exact Nat.zero_le _
 · split
   · exact Nat.zero_le _
   · split
     · exact Nat.zero_le _
     · rename_i h
       have h1 := (zLm (Decidable.not_not.1 h)).2
       dsimp only
       omega
theorem zQo {bs : List zR} {R : Rs} : gN bs R ≤ 0 ∨ (zZ bs R 0).2.2.e = 0 := by
 show (zD bs 128#64 R).1.toNat ≤ 0 ∨ (zD bs 128#64 R).2.e = 0
 unfold zD
 (repeat' split) <;> first | exact .inl (Nat.le_refl 0) | exact .inr rfl
theorem zJc {bs : List zR} {R : Rs} {i : Nat} (h : (zZ bs R i).2.2.e = 0) (h0 : (zAM bs (zZ bs R i).2.1 (zZ bs R i).2.2).2.1 = 0) : zZ bs R (i + 1) = ((zZ bs R i).1 ++ [(zAM bs (zZ bs R i).2.1 (zZ bs R i).2.2).1], (zAM bs (zZ bs R i).2.1 (zZ bs R i).2.2).1.id, (zAM bs (zZ bs R i).2.1 (zZ bs R i).2.2).2.2) := by
 show zIV _ _ (i + 1) = _
 unfold zIV
 rw [if_neg (by unfold zZ at h; omega)]
 unfold zK0
 rw [if_neg (by unfold zZ at h0; omega)]
 rfl
theorem zM3 {bs : List zR} {R : Rs} {i : Nat} (hR : R.p ≤ bs.length) (h : (zZ bs R i).2.2.e = 0) (h0 : (zAM bs (zZ bs R i).2.1 (zZ bs R i).2.2).2.1 = 0) : (zZ bs R (i + 1)).2.2.e = 0 := by
 have hi := zBy hR i
 rw [zJc h h0, ← h0]
 exact (zLf ⟨hi.lo, hi.hi⟩).symm
theorem zPp {bs : List zR} {R : Rs} {i : Nat} (hR : R.p ≤ bs.length) (hi : i < gN bs R) (h : (zZ bs R i).2.2.e = 0) (h0 : (zAM bs (zZ bs R i).2.1 (zZ bs R i).2.2).2.1 ≠ 0) : zZ bs R (gN bs R) = ((zZ bs R i).1, (zZ bs R i).2.1, (zAM bs (zZ bs R i).2.1 (zZ bs R i).2.2).2.2) := by
 have hv := zBy hR i
 have h1 : zZ bs R (i + 1) = ((zZ bs R i).1, (zZ bs R i).2.1, (zAM bs (zZ bs R i).2.1 (zZ bs R i).2.2).2.2) := by
   show zIV _ _ (i + 1) = _
   unfold zIV
   rw [if_neg (by unfold zZ at h; omega)]
   unfold zK0
   rw [if_pos (by unfold zZ at h0; omega)]
   rfl
 have h2 := zLf (bs := bs) (R := (zZ bs R i).2.2) ⟨hv.lo, hv.hi⟩
 have h3 := zGK (bs := bs) (s := ([], -1, (zD bs 128#64 R).2)) (i := i + 1) (by
   show (zZ bs R (i + 1)).2.2.e ≠ 0
   rw [h1]
   dsimp only
   omega) (gN bs R - (i + 1))
 rw [show i + 1 + (gN bs R - (i + 1)) = gN bs R by omega] at h3
 exact h3.trans h1
def gD (bs : List zR) (R : Rs) : Nat → List zAd × Int × Rs
 | 0 => ([], -1, (zD bs 128#64 R).2)
 | i + 1 => if (gD bs R i).2.2.e ≠ 0 then gD bs R i else ((gD bs R i).1 ++ [(zAM bs (gD bs R i).2.1 (gD bs R i).2.2).1], (zAM bs (gD bs R i).2.1 (gD bs R i).2.2).1.id, (zAM bs (gD bs R i).2.1 (gD bs R i).2.2).2.2)
theorem zLE {bs : List zR} {R : Rs} {i : Nat} (h : (gD bs R i).2.2.e = 0) : gD bs R (i + 1) = ((gD bs R i).1 ++ [(zAM bs (gD bs R i).2.1 (gD bs R i).2.2).1], (zAM bs (gD bs R i).2.1 (gD bs R i).2.2).1.id, (zAM bs (gD bs R i).2.1 (gD bs R i).2.2).2.2) := by
 show (if _ then _ else _) = _
 rw [if_neg (by omega)]
theorem zMF {bs : List zR} {R : Rs} (hR : R.p ≤ bs.length) : ∀ i, (gD bs R i).2.2 = (zZ bs R i).2.2 ∧ ((gD bs R i).2.2.e = 0 → gD bs R i = zZ bs R i)
 | 0 => ⟨rfl, fun _ => rfl⟩
 | i + 1 => by
   obtain ⟨h1, h2⟩ := zMF hR i
   by_cases h : (gD bs R i).2.2.e = 0
   · have h3 := h2 h
     have hv := zBy hR i
     have he := zLf (bs := bs) (R := (zZ bs R i).2.2) ⟨hv.lo, hv.hi⟩
     rw [zLE h, h3]
     rw [h3] at h
     by_cases h0 : (zAM bs (zZ bs R i).2.1 (zZ bs R i).2.2).2.1 = 0
     · rw [zJc h h0]
       exact ⟨rfl, fun _ => rfl⟩
     · have h4 : zZ bs R (i + 1) = ((zZ bs R i).1, (zZ bs R i).2.1, (zAM bs (zZ bs R i).2.1 (zZ bs R i).2.2).2.2) := by
         show zIV _ _ (i + 1) = _
         unfold zIV
         rw [if_neg (by unfold zZ at h; omega)]
         unfold zK0
         rw [if_pos (by unfold zZ at h0; omega)]
         rfl
       rw [h4]
       exact ⟨rfl, fun h5 => absurd h5 (by dsimp only; omega)⟩
   · have h3 : gD bs R (i + 1) = gD bs R i := by
       show (if _ then _ else _) = _
       rw [if_pos (by omega)]
     have h4 : zZ bs R (i + 1) = zZ bs R i := zGK (bs := bs) (s := ([], -1, (zD bs 128#64 R).2)) (i := i) (by rw [h1] at h; exact h) 1
     rw [h3, h4]
     exact ⟨h1, h2⟩
theorem zQM {bs : List zR} {R : Rs} (hR : R.p ≤ bs.length) : ∀ i, (gD bs R i).1.length ≤ i ∧ (gD bs R i).2.2.p ≤ bs.length
 | 0 => ⟨Nat.le_refl 0, (zBy hR 0).p⟩
 | i + 1 => by
   have h1 := zQM hR i
   refine ⟨?_, by rw [(zMF hR (i + 1)).1]; exact (zBy hR (i + 1)).p⟩
   show (if _ then _ else _ : List zAd × Int × Rs).1.length ≤ _
   split
   · omega
   · simp only [List.length_append, List.length_singleton]
     omega
theorem zMN {bs : List zR} {R : Rs} {i : Nat} (hR : R.p ≤ bs.length) (hi : i ≤ gN bs R) (h : gN bs R ≤ i ∨ (gD bs R i).2.2.e ≠ 0) : (zZ bs R (gN bs R)).2.2 = (gD bs R i).2.2 ∧ ((gD bs R i).2.2.e = 0 → zZ bs R (gN bs R) = gD bs R i) := by
 obtain ⟨h1, h2⟩ := zMF hR i
 by_cases h3 : gN bs R ≤ i
 · rw [show gN bs R = i by omega]
   exact ⟨h1.symm, fun h4 => (h2 h4).symm⟩
 · have h4 : (gD bs R i).2.2.e ≠ 0 := by omega
   have h5 := zGK (bs := bs) (s := ([], -1, (zD bs 128#64 R).2)) (i := i) (by rw [h1] at h4; exact h4) (gN bs R - i)
   rw [show i + (gN bs R - i) = gN bs R by omega] at h5
   have h6 : zZ bs R (gN bs R) = zZ bs R i := h5
   rw [h6]
   exact ⟨h1.symm, fun h7 => absurd h7 h4⟩
theorem zGr {bs : List zR} (h : 4096 < bs.length) : zA bs = ⟨0, 0, 0, [], 8⟩ := by unfold zA; rw [if_pos h]
theorem zGu {bs : List zR} (h : ¬ 4096 < bs.length) (ho : zCP bs = none) : zA bs = ⟨0, 0, 0, [], 9⟩ := by unfold zA; rw [if_neg h, ho]
theorem zD2 {bs x : List zR} (h : ¬ 4096 < bs.length) (ho : zCP bs = some x) (he : gEx x ≠ 0) : zA bs = ⟨0, 0, 0, [], gEx x⟩ := by
 unfold zA
 rw [if_neg h, ho]
 dsimp only
 rw [if_pos he]
theorem zE9 {bs x : List zR} (h : ¬ 4096 < bs.length) (ho : zCP bs = some x) (he : gEx x = 0) : zA bs = ⟨(gTx x).1, (zBk x).1, (gBx x).1, (gSx x).1, 0⟩ := by
 unfold zA
 rw [if_neg h, ho]
 dsimp only
 rw [if_neg (by omega)]
theorem zQH (x : List zR) : (gR1 x).p ≤ x.length := zKR (Nat.zero_le _)
theorem zJ5 (x : List zR) : (gTx x).2.p ≤ x.length ∧ 0 ≤ (gTx x).1 ∧ (gTx x).1 ≤ 4294967295 := zVJ (zQH x)
theorem zH7 (x : List zR) : (zBk x).2.p ≤ x.length ∧ -9223372036854775808 ≤ (zBk x).1 ∧ (zBk x).1 ≤ 9223372036854775807 := zSw (zJ5 x).1
theorem zDT (x : List zR) : (gBx x).2.p ≤ x.length ∧ -1 ≤ (gBx x).1 ∧ (gBx x).1 ≤ 4294967295 := zVP (zH7 x).1 (zJ5 x).2
theorem zOM (x : List zR) : (gSx x).1.length ≤ 128 := by unfold gSx; exact Nat.le_trans (zBy (zDT x).1 _).len (zOb _ _)
theorem zDl (x : List zR) : zZ x (gBx x).2 (gN x (gBx x).2) = gSx x := rfl
theorem zP4 (x : List zR) : zDt x (gSx x).2.2 = gEx x := rfl
theorem zVk (x : List zR) : (gSx x).2.2.p ≤ x.length := by rw [← zDl]; exact (zBy (zDT x).1 _).p
theorem zE8 (bs : List zR) : (zA bs).l.length ≤ 128 ∧ 0 ≤ (zA bs).t ∧ (zA bs).t ≤ 4294967295 ∧ -9223372036854775808 ≤ (zA bs).tm ∧ (zA bs).tm ≤ 9223372036854775807 ∧ -1 ≤ (zA bs).b ∧ (zA bs).b ≤ 4294967295 := by
 unfold zA
 split
 · simp
 · split
   · simp
   · rename_i x _
     have h1 := zJ5 x
     have h2 := zH7 x
     have h3 := zDT x
     have h4 := zOM x
     split
     · simp
     · dsimp only
       omega
theorem zSx (x : List zR) : zC5 1#8 x (zC5 71#8 x ⟨0, 0⟩) = gR1 x := rfl
theorem zPI (x : List zR) : gTx x = ((((zD x 4294967295#64 (gR1 x)).1.toNat : Nat) : Int), (zD x 4294967295#64 (gR1 x)).2) := rfl
theorem zTW {x : List zR} (h : -2305843009213693952 ≤ (zJ x (gTx x).2).1 ∧ (zJ x (gTx x).2).1 ≤ 2305843009213693952) : zBk x = ((zJ x (gTx x).2).1, (zJ x (gTx x).2).2) := by unfold zBk gTm; rw [if_pos h]
theorem zL9 {x : List zR} (h : ¬ (-2305843009213693952 ≤ (zJ x (gTx x).2).1 ∧ (zJ x (gTx x).2).1 ≤ 2305843009213693952)) : zBk x = ((zJ x (gTx x).2).1, zBL 3 (zJ x (gTx x).2).2) := by unfold zBk gTm; rw [if_neg h]
theorem zOl {x : List zR} (h : 0 < (zD x (BitVec.ofInt 64 (gTx x).1) (zBk x).2).1.toNat) : gBx x = ((gTx x).1 - (((zD x (BitVec.ofInt 64 (gTx x).1) (zBk x).2).1.toNat : Nat) : Int), (zD x (BitVec.ofInt 64 (gTx x).1) (zBk x).2).2) := by unfold gBx gB; rw [if_pos h]
theorem zPZ {x : List zR} (h : ¬ 0 < (zD x (BitVec.ofInt 64 (gTx x).1) (zBk x).2).1.toNat) : gBx x = (-1, (zD x (BitVec.ofInt 64 (gTx x).1) (zBk x).2).2) := by unfold gBx gB; rw [if_neg h]
theorem zOy {bs : List zR} {R : Rs} (hR : R.p ≤ bs.length) {i : Nat} (h : (gD bs R i).2.2.e = 0) : -1 ≤ (gD bs R i).2.1 ∧ (gD bs R i).2.1 ≤ 65535 := by
 rw [(zMF hR i).2 h]
 exact ⟨(zBy hR i).lo, (zBy hR i).hi⟩
theorem zKZ {x : List zR} {i : Nat} (h : (zZ x (gBx x).2 (gN x (gBx x).2)).2.2 = (gD x (gBx x).2 i).2.2) : zDt x (gD x (gBx x).2 i).2.2 = gEx x := by
 rw [← h, zDl, zP4]
theorem zJV {x : List zR} {R : Rs} (h : zDt x R = 0) : R.e = 0 := by
 unfold zDt at h
 split at h
 · exact h
 · contradiction
theorem zDk (bs : List zR) (R : Rs) : gD bs R 0 = ([], -1, (zD bs 128#64 R).2) := rfl
end Go.Sx

set_option linter.unusedVariables false
set_option linter.unusedSimpArgs false
namespace Go.Sx
theorem zQE {bs : List zR} {s : List zAd × Int × Rs} (h : zSh bs 0 s) (hw : ∀ r ∈ s.1, r.wf) : ∀ i, ∀ r ∈ (zIV bs s i).1, r.wf
 | 0 => hw
 | i + 1 => by
   have h1 := zJb h i
   have h2 := zQE h hw i
   unfold zIV
   split
   · exact h2
   · unfold zK0
     split
     · exact h2
     · intro r hr
       rcases List.mem_append.1 hr with hr | hr
       · exact h2 r hr
       · rw [List.mem_singleton.1 hr]; exact zRC h1.p
theorem zVX (x : List zR) : ∀ r ∈ (gSx x).1, r.wf := by
 rw [← zDl]
 unfold zZ
 exact zQE (zSi (zDT x).1) (fun r hr => by cases hr) _
theorem zJf (bs : List zR) : ∀ r ∈ (zA bs).l, r.wf := by
 unfold zA
 split
 · simp
 · split
   · simp
   · split
     · simp
     · dsimp only; exact zVX _
end Go.Sx

set_option linter.unusedVariables false
set_option linter.unusedSimpArgs false
namespace Go.Sx
theorem zKF.full {α : Type} {bs c rest : List zR} {f : Rs → α × Rs} {v : α} {p : Nat} (h : zKF bs c f v) (hp : p ≤ bs.length) (hd : bs.drop p = c ++ rest) : f ⟨p, 0⟩ = (v, ⟨p + c.length, 0⟩) ∧ bs.drop (p + c.length) = rest ∧ p + c.length ≤ bs.length := by
 have hd' : bs.drop p = (c ++ rest).take (c ++ rest).length := by rw [List.take_length]; exact hd
 have h2 := zLn hd' (by simp) hp
 exact ⟨h.good ⟨p, 0⟩ _ rest rfl hp hd' (by simp), by rw [h2.1, List.length_append, Nat.add_sub_cancel_left, List.take_length], h2.2⟩
end Go.Sx

set_option linter.unusedVariables false
set_option linter.unusedSimpArgs false
namespace Go.Sx
theorem zL6 {α : Type} {f : Nat → List Value} {g : α → List Value} {p : α → Prop} : ∀ (n : Nat), (∀ i, i < n → ∃ a : α, f i = g a ∧ p a) → ∃ l : List α, l.length = n ∧ (List.range n).flatMap f = l.flatMap g ∧ ∀ x ∈ l, p x
 | 0, _ => ⟨[], rfl, rfl, by simp⟩
 | n + 1, h => by
   obtain ⟨l, hl, he, hp⟩ := zL6 n fun i hi => h i (by omega)
   obtain ⟨a, ha, hpa⟩ := h n (by omega)
   refine ⟨l ++ [a], by simp [hl], by rw [List.range_succ, List.flatMap_append, List.flatMap_append, he]; simp [ha], fun x hx => ?_⟩
   rcases List.mem_append.1 hx with hx | hx
   · exact hp x hx
   · rw [List.mem_singleton] at hx; subst hx; exact hpa
/-! ### A row of records -/
/-! ### Sizes -/
end Go.Sx
