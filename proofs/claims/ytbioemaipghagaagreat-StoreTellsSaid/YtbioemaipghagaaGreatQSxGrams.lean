/- Texts of the small logic, one behind the other: SxPcrc, SxPgram, SxRgram, SxPgramR, SxPgramK, SxPgramF, SxRrec. -/
import Derived.Test.YtbioemaipghagaaGreatQSxBasA
import Derived.Test.YtbioemaipghagaaGreatQSxRecs
import Derived.Test.YtbioemaipghagaaGreatQSxBasB
set_option linter.unusedVariables false
set_option linter.unusedSimpArgs false
namespace Go.Sx

def stepBit (s : BitVec 32) : BitVec 32 := (s >>> 1) ^^^ (3988292384#32 &&& -(s &&& 1#32))
def stepN : Nat → BitVec 32 → BitVec 32
 | 0, s => s
 | k + 1, s => stepBit (stepN k s)
def stepC (s : BitVec 32) (c : Byte) : BitVec 32 := stepN 8 (s ^^^ c.setWidth 32)
def foldC (s : BitVec 32) (bs : List Byte) : BitVec 32 := bs.foldl stepC s
def crcMore (s : BitVec 32) (bs : List Byte) : BitVec 32 := ~~~(foldC (~~~s) bs)
def crcSum (bs : List Byte) : BitVec 32 := crcMore 0#32 bs
theorem foldC_succ (s : BitVec 32) (bs : List Byte) (k : Nat) (h : k < bs.length) : foldC s (bs.take (k + 1)) = stepC (foldC s (bs.take k)) (bs.getD k 0) := by
 unfold foldC
 rw [List.take_succ_eq_append_getElem h, List.foldl_append]
 simp [List.getD_eq_getElem?_getD, h]
def be4 (s : BitVec 32) : List Byte := [(s >>> 24).setWidth 8, (s >>> 16).setWidth 8, (s >>> 8).setWidth 8, s.setWidth 8]
def seal_ (bs : List Byte) : List Byte := bs ++ be4 (crcSum bs)
theorem length_seal (bs : List Byte) : (seal_ bs).length = bs.length + 4 := by simp [seal_, be4]
def beN (bs : List Byte) : BitVec 32 := bs.foldl (fun s c => (s <<< 8) ||| c.setWidth 32) 0#32
theorem beN_succ (bs : List Byte) (k : Nat) (h : k < bs.length) : beN (bs.take (k + 1)) = (beN (bs.take k) <<< 8) ||| (bs.getD k 0).setWidth 32 := by
 unfold beN
 rw [List.take_succ_eq_append_getElem h, List.foldl_append]
 simp [List.getD_eq_getElem?_getD, h]
theorem shor (s : BitVec 32) (c : Byte) (h : s.toNat < 2 ^ 24) : ((s <<< 8) ||| c.setWidth 32).toNat = s.toNat * 256 + c.toNat := by
 have hc := c.isLt
 rw [BitVec.toNat_or, BitVec.toNat_shiftLeft, BitVec.toNat_setWidth, Nat.shiftLeft_eq, Nat.mod_eq_of_lt (by omega), Nat.mod_eq_of_lt (by omega)]
 rw [Nat.mul_comm, ← Nat.two_pow_add_eq_or_of_lt hc]
theorem beN4 (a b c d : Byte) : (beN [a, b, c, d]).toNat = a.toNat * 16777216 + b.toNat * 65536 + c.toNat * 256 + d.toNat := by
 simp only [beN, List.foldl_cons, List.foldl_nil]
 have ha := a.isLt
 have hb := b.isLt
 have hc := c.isLt
 have hd := d.isLt
 have h0 : (0#32 : BitVec 32).toNat = 0 := rfl
 have h1 := shor 0#32 a (by omega)
 have h2 := shor _ b (by rw [h1]; omega)
 have h3 := shor _ c (by rw [h2, h1]; omega)
 have h4 := shor _ d (by rw [h3, h2, h1]; omega)
 rw [h4, h3, h2, h1]
 omega
theorem beN_be4 (s : BitVec 32) : beN (be4 s) = s := by
 apply BitVec.eq_of_toNat_eq
 have := s.isLt
 rw [be4, beN4]
 simp only [BitVec.toNat_setWidth, BitVec.toNat_ushiftRight, Nat.shiftRight_eq_div_pow]
 omega
theorem be4_beN' (a b c d : Byte) : be4 (beN [a, b, c, d]) = [a, b, c, d] := by
 have h := beN4 a b c d
 have ha := a.isLt
 have hb := b.isLt
 have hc := c.isLt
 have hd := d.isLt
 simp only [be4, List.cons.injEq, and_true]
 refine ⟨?_, ?_, ?_, ?_⟩ <;> apply BitVec.eq_of_toNat_eq <;> simp only [BitVec.toNat_setWidth, BitVec.toNat_ushiftRight, Nat.shiftRight_eq_div_pow, h] <;> omega
theorem be4_beN : ∀ (l : List Byte), l.length = 4 → be4 (beN l) = l
 | [a, b, c, d], _ => be4_beN' a b c d
def open_ (bs : List Byte) : Option (List Byte) :=
 if bs.length < 4 then none else if beN (bs.drop (bs.length - 4)) = crcSum (bs.take (bs.length - 4)) then some (bs.take (bs.length - 4)) else none
theorem open_seal (bs : List Byte) : open_ (seal_ bs) = some bs := by
 unfold open_
 have hl := length_seal bs
 rw [if_neg (by omega), hl, show bs.length + 4 - 4 = bs.length by omega]
 have h1 : (seal_ bs).drop bs.length = be4 (crcSum bs) := by simp [seal_]
 have h2 : (seal_ bs).take bs.length = bs := by simp [seal_]
 rw [h1, h2, beN_be4, if_pos rfl]
theorem open_spec (bs x : List Byte) : open_ bs = some x ↔ bs = seal_ x := by
 constructor
 · intro h
   unfold open_ at h
   split at h
   · cases h
   · rename_i hl
     split at h
     · rename_i he
       injection h with h
       subst h
       unfold seal_
       rw [← he, be4_beN _ (by simp; omega), List.take_append_drop]
     · cases h
 · rintro rfl
   exact open_seal x
/-! ### No two sums alike -/
end Go.Sx
namespace Go.Sx
/-! ### What the laws ask -/
end Go.Sx

set_option linter.unusedVariables false
set_option linter.unusedSimpArgs false
namespace Go.Sx
theorem recV_len (r : RecR) : (recV r).length = 9 := rfl
theorem take_next {α : Type} [Inhabited α] {l : List α} {j : Nat} (h : j < l.length) : l.take (j + 1) = l.take j ++ [l.getD j default] := by
 rw [List.take_add_one, List.getD_eq_getElem?_getD, List.getElem?_eq_getElem h]
 rfl
theorem recs_getD {l : List RecR} (h : ∀ x ∈ l, x.wf) {j : Nat} (hj : j < l.length) : (l.getD j default).wf := by
 rw [List.getD_eq_getElem?_getD, List.getElem?_eq_getElem hj]
 exact h _ (List.getElem_mem hj)
def rowE (O : List RecR) : List Byte × Int := O.foldl (fun s r => (s.1 ++ recB r s.2, r.id)) ([], -1)
theorem rowE_next {O : List RecR} {k : Nat} (h : k < O.length) : rowE (O.take (k + 1)) = ((rowE (O.take k)).1 ++ recB (O.getD k default) (rowE (O.take k)).2, (O.getD k default).id) := by
 unfold rowE
 rw [take_next h, List.foldl_append]
 rfl
theorem rowE_pre : ∀ (O : List RecR) (s : List Byte × Int), ∃ rest, (O.foldl (fun s r => (s.1 ++ recB r s.2, r.id)) s).1 = s.1 ++ rest
 | [], s => ⟨[], by simp⟩
 | r :: O, s => by
   obtain ⟨rest, h⟩ := rowE_pre O (s.1 ++ recB r s.2, r.id)
   exact ⟨recB r s.2 ++ rest, by rw [List.foldl_cons, h]; simp⟩
theorem rowE_split {O : List RecR} (k : Nat) : ∃ rest, (rowE O).1 = (rowE (O.take k)).1 ++ rest := by
 have : rowE O = (O.drop k).foldl (fun s r => (s.1 ++ recB r s.2, r.id)) (rowE (O.take k)) := by
   unfold rowE
   rw [← List.foldl_append, List.take_append_drop]
 rw [this]
 exact rowE_pre _ _
theorem rowE_snoc (O : List RecR) (r : RecR) : rowE (O ++ [r]) = ((rowE O).1 ++ recB r (rowE O).2, r.id) := by unfold rowE; rw [List.foldl_append]; rfl
theorem rowE_len : ∀ (O : List RecR), (rowE O).1.length ≤ 100 * O.length := by
 have key : ∀ (O : List RecR) (s : List Byte × Int), (O.foldl (fun s r => (s.1 ++ recB r s.2, r.id)) s).1.length ≤ s.1.length + 100 * O.length := by
   intro O
   induction O with
   | nil => intro s; simp
   | cons r O ih =>
     intro s
     have h1 := ih (s.1 ++ recB r s.2, r.id)
     have h2 := length_recB r s.2
     rw [List.foldl_cons]
     simp only [List.length_append, List.length_cons] at h1 ⊢
     omega
 intro O
 have := key O ([], -1)
 simpa [rowE] using this
def errAt (l : List RecR) (k : Nat) : Nat := recErr (l.getD k default) (rowE (l.take k)).2
def recsTo (l : List RecR) : Nat → Nat
 | 0 => 0
 | j + 1 => if recsTo l j ≠ 0 then recsTo l j else errAt l j
def recsErr (l : List RecR) : Nat := recsTo l l.length
theorem recsTo_ok {l : List RecR} {j : Nat} (h : recsTo l j = 0) (h2 : errAt l j = 0) : recsTo l (j + 1) = 0 := by unfold recsTo; rw [if_neg (by omega), h2]
theorem recsTo_err {l : List RecR} {j : Nat} (h : recsTo l j = 0) : recsTo l (j + 1) = errAt l j := by unfold recsTo; rw [if_neg (by omega)]
theorem recsTo_stay {l : List RecR} {j e : Nat} (h : recsTo l j = e) (he : e ≠ 0) : ∀ k, recsTo l (j + k) = e
 | 0 => h
 | k + 1 => by
   have := recsTo_stay h he k
   show (if recsTo l (j + k) ≠ 0 then recsTo l (j + k) else errAt l (j + k)) = e
   rw [if_pos (by omega), this]
theorem recsErr_at {l : List RecR} {j : Nat} (hj : j < l.length) (h : recsTo l j = 0) (he : errAt l j ≠ 0) : recsErr l = errAt l j := by
 have := recsTo_stay (recsTo_err h) he (l.length - (j + 1))
 rwa [show j + 1 + (l.length - (j + 1)) = l.length by omega] at this
theorem recsTo_all {l : List RecR} {j : Nat} (h : recsTo l j = 0) : ∀ k, k < j → errAt l k = 0 := by
 induction j with
 | zero => intro k hk; omega
 | succ j ih =>
   unfold recsTo at h
   split at h
   · omega
   · intro k hk
     by_cases e : k = j
     · subst e; exact h
     · exact ih (by omega) k (by omega)
theorem recsTo_last {l : List RecR} {j : Nat} (hj : j ≤ l.length) (h : recsTo l j = 0) : -1 ≤ (rowE (l.take j)).2 ∧ (rowE (l.take j)).2 ≤ 65535 := by
 cases j with
 | zero => exact ⟨(show -1 ≤ (-1 : Int) by decide), (show (-1 : Int) ≤ 65535 by decide)⟩
 | succ j =>
   have h1 := recErr_parts' (recsTo_all h j (by omega))
   rw [rowE_next (by omega)]
   dsimp only
   omega
def gErr (t tm b : Int) (m : Nat) : Nat := if t < 0 ∨ 4294967295 < t ∨ tm < -2305843009213693952 ∨ 2305843009213693952 < tm ∨ b < -1 then 3 else if t ≤ b then 10 else if 128 < m then 8 else 0
def gBack (t b : Int) : BitVec 64 := if 0 ≤ b then BitVec.ofInt 64 (t - b) else 0#64
def gHeadB (t tm b : Int) (m : Nat) : List Byte := [71#8, 1#8] ++ vput (BitVec.ofInt 64 t).toNat ++ vput (zigI tm).toNat ++ vput (gBack t b).toNat ++ vput (BitVec.ofInt 64 (m : Int)).toNat
def gHead (t tm b : Int) (m : Nat) : List Byte := if gErr t tm b m ≠ 0 then [] else gHeadB t tm b m
def bodyErr (t tm b : Int) (l : List RecR) : Nat := if gErr t tm b l.length ≠ 0 then gErr t tm b l.length else recsErr l
def bodyB (t tm b : Int) (l : List RecR) : List Byte := if bodyErr t tm b l ≠ 0 then [] else gHeadB t tm b l.length ++ (rowE l).1
def gwErr (t tm b : Int) (l : List RecR) : Nat := if bodyErr t tm b l ≠ 0 then bodyErr t tm b l else if 4092 < (bodyB t tm b l).length then 8 else 0
def gwB (t tm b : Int) (l : List RecR) : List Byte := if gwErr t tm b l ≠ 0 then [] else seal_ (bodyB t tm b l)
theorem length_gHeadB (t tm b : Int) (m : Nat) : (gHeadB t tm b m).length ≤ 42 := by
 have h1 := vlen10 (BitVec.ofInt 64 t).toNat
 have h2 := vlen10 (zigI tm).toNat
 have h3 := vlen10 (gBack t b).toNat
 have h4 := vlen10 (BitVec.ofInt 64 (m : Int)).toNat
 unfold gHeadB
 simp only [List.length_append, List.length_cons, List.length_nil]
 omega
theorem gErr_3 {t tm b : Int} {m : Nat} (h : t < 0 ∨ 4294967295 < t ∨ tm < -2305843009213693952 ∨ 2305843009213693952 < tm ∨ b < -1) : gErr t tm b m = 3 := by unfold gErr; rw [if_pos h]
theorem gErr_10 {t tm b : Int} {m : Nat} (h : ¬ (t < 0 ∨ 4294967295 < t ∨ tm < -2305843009213693952 ∨ 2305843009213693952 < tm ∨ b < -1)) (h2 : t ≤ b) : gErr t tm b m = 10 := by unfold gErr; rw [if_neg h, if_pos h2]
theorem gErr_8 {t tm b : Int} {m : Nat} (h : ¬ (t < 0 ∨ 4294967295 < t ∨ tm < -2305843009213693952 ∨ 2305843009213693952 < tm ∨ b < -1)) (h2 : ¬ t ≤ b) (h3 : 128 < m) : gErr t tm b m = 8 := by unfold gErr; rw [if_neg h, if_neg h2, if_pos h3]
theorem gErr_0 {t tm b : Int} {m : Nat} (h : ¬ (t < 0 ∨ 4294967295 < t ∨ tm < -2305843009213693952 ∨ 2305843009213693952 < tm ∨ b < -1)) (h2 : ¬ t ≤ b) (h3 : ¬ 128 < m) : gErr t tm b m = 0 := by unfold gErr; rw [if_neg h, if_neg h2, if_neg h3]
theorem gErr_parts {t tm b : Int} {m : Nat} (h : gErr t tm b m = 0) : 0 ≤ t ∧ t ≤ 4294967295 ∧ -2305843009213693952 ≤ tm ∧ tm ≤ 2305843009213693952 ∧ -1 ≤ b ∧ b < t ∧ m ≤ 128 := by
 unfold gErr at h
 split at h
 · cases h
 · split at h
   · cases h
   · split at h
     · cases h
     · omega
theorem bodyErr_head {t tm b : Int} {l : List RecR} (h : gErr t tm b l.length ≠ 0) : bodyErr t tm b l = gErr t tm b l.length := by unfold bodyErr; rw [if_pos h]
theorem bodyErr_recs {t tm b : Int} {l : List RecR} (h : gErr t tm b l.length = 0) : bodyErr t tm b l = recsErr l := by unfold bodyErr; rw [if_neg (by omega)]
theorem bodyB_err {t tm b : Int} {l : List RecR} (h : bodyErr t tm b l ≠ 0) : bodyB t tm b l = [] := by unfold bodyB; rw [if_pos h]
theorem bodyB_ok {t tm b : Int} {l : List RecR} (h : bodyErr t tm b l = 0) : bodyB t tm b l = gHeadB t tm b l.length ++ (rowE l).1 := by unfold bodyB; rw [if_neg (by omega)]
theorem bodyErr_parts {t tm b : Int} {l : List RecR} (h : bodyErr t tm b l = 0) : gErr t tm b l.length = 0 ∧ recsErr l = 0 := by
 unfold bodyErr at h
 split at h
 · omega
 · exact ⟨by omega, h⟩
theorem length_bodyB (t tm b : Int) (l : List RecR) : (bodyB t tm b l).length ≤ 12842 := by
 unfold bodyB
 split
 · simp
 · rename_i h
   have h1 := gErr_parts (bodyErr_parts (by omega : bodyErr t tm b l = 0)).1
   have h2 := length_gHeadB t tm b l.length
   have h3 := rowE_len l
   simp only [List.length_append]
   omega
theorem length_gwB (t tm b : Int) (l : List RecR) : (gwB t tm b l).length ≤ 4096 := by
 unfold gwB
 split
 · simp
 · rename_i h
   have h1 : gwErr t tm b l = 0 := by omega
   unfold gwErr at h1
   rw [length_seal]
   split at h1
   · omega
   · split at h1
     · cases h1
     · omega
end Go.Sx

set_option linter.unusedVariables false
set_option linter.unusedSimpArgs false
namespace Go.Sx
theorem list_of2 {α : Type} {f : Nat → List Value} {g : α → List Value} {p : α → Prop} : ∀ (n : Nat), (∀ i, i < n → ∃ a : α, f i = g a ∧ p a) → ∃ l : List α, l.length = n ∧ (List.range n).flatMap f = l.flatMap g ∧ ∀ x ∈ l, p x
 | 0, _ => ⟨[], rfl, rfl, by simp⟩
 | n + 1, h => by
   obtain ⟨l, hl, he, hp⟩ := list_of2 n fun i hi => h i (by omega)
   obtain ⟨a, ha, hpa⟩ := h n (by omega)
   refine ⟨l ++ [a], by simp [hl], by rw [List.range_succ, List.flatMap_append, List.flatMap_append, he]; simp [ha], fun x hx => ?_⟩
   rcases List.mem_append.1 hx with hx | hx
   · exact hp x hx
   · rw [List.mem_singleton] at hx; subst hx; exact hpa
/-! ### What the laws need -/
theorem gwErr_parts {t tm b : Int} {l : List RecR} (h : gwErr t tm b l = 0) : bodyErr t tm b l = 0 ∧ (bodyB t tm b l).length ≤ 4092 := by
 unfold gwErr at h
 split at h
 · omega
 · split at h
   · cases h
   · omega
theorem gwB_seal {t tm b : Int} {l : List RecR} (h : gwErr t tm b l = 0) : gwB t tm b l = seal_ (bodyB t tm b l) := by unfold gwB; rw [if_neg (by omega)]
theorem open_gw {t tm b : Int} {l : List RecR} (h : gwErr t tm b l = 0) : open_ (gwB t tm b l) = some (bodyB t tm b l) := by rw [gwB_seal h]; exact open_seal _
end Go.Sx

set_option linter.unusedVariables false
set_option linter.unusedSimpArgs false
namespace Go.Sx
def mustB (c : Byte) (bs : List Byte) (R : Rs) : Rs := if (rByte bs R).1.toNat = c.toNat then (rByte bs R).2 else rFail 7 (rByte bs R).2
def gSigns (bs : List Byte) (R : Rs) : Rs := mustB 1#8 bs (mustB 71#8 bs R)
def gT (bs : List Byte) (R : Rs) : Int × Rs := ((((rUint bs 4294967295#64 R).1.toNat : Nat) : Int), (rUint bs 4294967295#64 R).2)
def gTm (bs : List Byte) (R : Rs) : Int × Rs := ((rInt bs R).1, if -2305843009213693952 ≤ (rInt bs R).1 ∧ (rInt bs R).1 ≤ 2305843009213693952 then (rInt bs R).2 else rFail 3 (rInt bs R).2)
def gB (bs : List Byte) (t : Int) (R : Rs) : Int × Rs := (if 0 < (rUint bs (BitVec.ofInt 64 t) R).1.toNat then t - (((rUint bs (BitVec.ofInt 64 t) R).1.toNat : Nat) : Int) else -1, (rUint bs (BitVec.ofInt 64 t) R).2)
def gStep (bs : List Byte) (s : List RecR × Int × Rs) : List RecR × Int × Rs :=
 if (rdRec bs s.2.1 s.2.2).2.1 ≠ 0 then (s.1, s.2.1, (rdRec bs s.2.1 s.2.2).2.2) else (s.1 ++ [(rdRec bs s.2.1 s.2.2).1], (rdRec bs s.2.1 s.2.2).1.id, (rdRec bs s.2.1 s.2.2).2.2)
def gRun (bs : List Byte) (s : List RecR × Int × Rs) : Nat → List RecR × Int × Rs
 | 0 => s
 | i + 1 => if (gRun bs s i).2.2.e ≠ 0 then gRun bs s i else gStep bs (gRun bs s i)
def gRecs (bs : List Byte) (R : Rs) (i : Nat) : List RecR × Int × Rs := gRun bs ([], -1, (rUint bs 128#64 R).2) i
def gN (bs : List Byte) (R : Rs) : Nat := (rUint bs 128#64 R).1.toNat
def gR1 (x : List Byte) : Rs := gSigns x ⟨0, 0⟩
def gTx (x : List Byte) : Int × Rs := gT x (gR1 x)
def gTmx (x : List Byte) : Int × Rs := gTm x (gTx x).2
def gBx (x : List Byte) : Int × Rs := gB x (gTx x).1 (gTmx x).2
def gSx (x : List Byte) : List RecR × Int × Rs := gRecs x (gBx x).2 (gN x (gBx x).2)
def gEx (x : List Byte) : Nat := rDone x (gSx x).2.2
structure GramD where
 t : Int
 tm : Int
 b : Int
 l : List RecR
 e : Nat
def gRead (bs : List Byte) : GramD :=
 if 4096 < bs.length then ⟨0, 0, 0, [], 8⟩ else match open_ bs with
   | none => ⟨0, 0, 0, [], 9⟩
   | some x => if gEx x ≠ 0 then ⟨0, 0, 0, [], gEx x⟩ else ⟨(gTx x).1, (gTmx x).1, (gBx x).1, (gSx x).1, 0⟩
theorem toInt_lim {X : BitVec 64} (h : X.toNat ≤ 9223372036854775807) : X.toInt = ((X.toNat : Nat) : Int) := by rw [BitVec.toInt_eq_toNat_cond, if_pos (by omega)]
theorem ofNat_succ64 (i : Nat) : BitVec.ofNat 64 i + 1#64 = BitVec.ofNat 64 (i + 1) := by
 apply BitVec.eq_of_toNat_eq
 simp
theorem mustB_le {c : Byte} {bs : List Byte} {R : Rs} (h : R.p ≤ bs.length) : (mustB c bs R).p ≤ bs.length ∧ R.p ≤ (mustB c bs R).p := by
 have h1 := rByte_le h
 have h2 := rFail_le (e := 7) h1.1
 unfold mustB
 split <;> omega
theorem gSigns_le {bs : List Byte} {R : Rs} (h : R.p ≤ bs.length) : (gSigns bs R).p ≤ bs.length := (mustB_le (mustB_le h).1).1
theorem gT_le {bs : List Byte} {R : Rs} (h : R.p ≤ bs.length) : (gT bs R).2.p ≤ bs.length ∧ 0 ≤ (gT bs R).1 ∧ (gT bs R).1 ≤ 4294967295 := by
 have h1 := rUint_le (X := 4294967295#64) h
 have h2 : (4294967295#64).toNat = 4294967295 := rfl
 unfold gT
 dsimp only
 omega
theorem gTm_le {bs : List Byte} {R : Rs} (h : R.p ≤ bs.length) : (gTm bs R).2.p ≤ bs.length ∧ -9223372036854775808 ≤ (gTm bs R).1 ∧ (gTm bs R).1 ≤ 9223372036854775807 := by
 have h1 := rInt_le h
 have h2 := rFail_le (e := 3) h1.1
 have h3 : -9223372036854775808 ≤ (rInt bs R).1 ∧ (rInt bs R).1 ≤ 9223372036854775807 := by unfold rInt; exact zag_range _
 unfold gTm
 dsimp only
 split <;> omega
theorem gB_le {bs : List Byte} {t : Int} {R : Rs} (h : R.p ≤ bs.length) (ht : 0 ≤ t ∧ t ≤ 4294967295) : (gB bs t R).2.p ≤ bs.length ∧ -1 ≤ (gB bs t R).1 ∧ (gB bs t R).1 ≤ 4294967295 := by
 have h1 := rUint_le (X := BitVec.ofInt 64 t) h
 have h2 := ofInt64 (x := t) (by omega) (by omega)
 unfold gB
 dsimp only
 split <;> omega
structure GInv (bs : List Byte) (i : Nat) (s : List RecR × Int × Rs) : Prop where
 p : s.2.2.p ≤ bs.length
 lo : -1 ≤ s.2.1
 hi : s.2.1 ≤ 65535
 len : s.1.length ≤ i
theorem rdRec_e {bs : List Byte} {last : Int} {R : Rs} (h : -1 ≤ last ∧ last ≤ 65535) : (rdRec bs last R).2.1 = (rdRec bs last R).2.2.e := by
 unfold rdRec
 rw [if_neg (by omega)]
 split
 · rfl
 · split
   · rfl
   · rename_i h1
     exact (Decidable.not_not.1 h1).symm
theorem rdRaw_id (bs : List Byte) (last : Int) (R : Rs) : (rdRaw bs last R).1.id = last + 1 + (((rdId bs last R).1.toNat : Nat) : Int) := by
 unfold rdRaw rdBody rdAll rdSome
 dsimp only
 (repeat' split) <;> rfl
theorem rdRec_id {bs : List Byte} {last : Int} {R : Rs} (hp : R.p ≤ bs.length) (h : -1 ≤ last ∧ last ≤ 65535) (h0 : (rdRec bs last R).2.1 = 0) : last < (rdRec bs last R).1.id ∧ (rdRec bs last R).1.id ≤ 65535 := by
 unfold rdRec at h0 ⊢
 rw [if_neg (by omega)] at h0 ⊢
 by_cases hl : last = 65535
 · rw [if_pos hl] at h0
   unfold rFail at h0
   split at h0
   · simp at h0
   · contradiction
 · rw [if_neg hl] at h0 ⊢
   split at h0
   · contradiction
   · rename_i h1
     rw [if_neg h1]
     dsimp only
     rw [rdRaw_id]
     have h2 := rUint_le (X := BitVec.ofInt 64 (65534 - last)) hp
     have h3 := ofInt64 (x := 65534 - last) (by omega) (by omega)
     unfold rdId
     omega
theorem gInv_step {bs : List Byte} {i : Nat} {s : List RecR × Int × Rs} (h : GInv bs i s) : GInv bs (i + 1) (gStep bs s) := by
 have hp := rdRec_le (last := s.2.1) h.p
 have hl := h.len
 unfold gStep
 split
 · exact ⟨hp.1, h.lo, h.hi, by dsimp only; omega⟩
 · rename_i h0
   have hi := rdRec_id h.p ⟨h.lo, h.hi⟩ (by omega)
   have hlo := h.lo
   refine ⟨hp.1, by dsimp only; omega, by dsimp only; omega, by simp only [List.length_append, List.length_singleton]; omega⟩
theorem gRun_inv {bs : List Byte} {s : List RecR × Int × Rs} (h : GInv bs 0 s) : ∀ i, GInv bs i (gRun bs s i)
 | 0 => h
 | i + 1 => by
   unfold gRun
   have h1 := gRun_inv h i
   split
   · exact ⟨h1.p, h1.lo, h1.hi, Nat.le_succ_of_le h1.len⟩
   · exact gInv_step h1
theorem gRecs_inv {bs : List Byte} {R : Rs} (hR : R.p ≤ bs.length) (i : Nat) : GInv bs i (gRecs bs R i) :=
 gRun_inv (s := ([], -1, (rUint bs 128#64 R).2)) ⟨(rUint_le hR).1, Int.le_refl _, by show (-1 : Int) ≤ 65535; decide, Nat.le_refl 0⟩ i
theorem gRun_stay {bs : List Byte} {s : List RecR × Int × Rs} {i : Nat} (h : (gRun bs s i).2.2.e ≠ 0) : ∀ k, gRun bs s (i + k) = gRun bs s i
 | 0 => rfl
 | k + 1 => by
   have h1 := gRun_stay h k
   show (if (gRun bs s (i + k)).2.2.e ≠ 0 then gRun bs s (i + k) else _) = _
   rw [h1, if_pos h]
theorem gN_le (bs : List Byte) (R : Rs) : gN bs R ≤ 128 := by
 have h2 : (128#64).toNat = 128 := rfl
 unfold gN rUint
 split
 · exact Nat.zero_le _
 · split
   · exact Nat.zero_le _
   · split
     · exact Nat.zero_le _
     · rename_i h
       have h1 := (uerr_ok (Decidable.not_not.1 h)).2
       dsimp only
       omega
theorem gRecs_e0 {bs : List Byte} {R : Rs} : gN bs R ≤ 0 ∨ (gRecs bs R 0).2.2.e = 0 := by
 show (rUint bs 128#64 R).1.toNat ≤ 0 ∨ (rUint bs 128#64 R).2.e = 0
 unfold rUint
 (repeat' split) <;> first | exact .inl (Nat.le_refl 0) | exact .inr rfl
theorem gRecs_ok {bs : List Byte} {R : Rs} {i : Nat} (h : (gRecs bs R i).2.2.e = 0) (h0 : (rdRec bs (gRecs bs R i).2.1 (gRecs bs R i).2.2).2.1 = 0) : gRecs bs R (i + 1) = ((gRecs bs R i).1 ++ [(rdRec bs (gRecs bs R i).2.1 (gRecs bs R i).2.2).1], (rdRec bs (gRecs bs R i).2.1 (gRecs bs R i).2.2).1.id, (rdRec bs (gRecs bs R i).2.1 (gRecs bs R i).2.2).2.2) := by
 show gRun _ _ (i + 1) = _
 unfold gRun
 rw [if_neg (by unfold gRecs at h; omega)]
 unfold gStep
 rw [if_neg (by unfold gRecs at h0; omega)]
 rfl
theorem gRecs_next {bs : List Byte} {R : Rs} {i : Nat} (hR : R.p ≤ bs.length) (h : (gRecs bs R i).2.2.e = 0) (h0 : (rdRec bs (gRecs bs R i).2.1 (gRecs bs R i).2.2).2.1 = 0) : (gRecs bs R (i + 1)).2.2.e = 0 := by
 have hi := gRecs_inv hR i
 rw [gRecs_ok h h0, ← h0]
 exact (rdRec_e ⟨hi.lo, hi.hi⟩).symm
theorem gRecs_end {bs : List Byte} {R : Rs} {i : Nat} (hR : R.p ≤ bs.length) (hi : i < gN bs R) (h : (gRecs bs R i).2.2.e = 0) (h0 : (rdRec bs (gRecs bs R i).2.1 (gRecs bs R i).2.2).2.1 ≠ 0) : gRecs bs R (gN bs R) = ((gRecs bs R i).1, (gRecs bs R i).2.1, (rdRec bs (gRecs bs R i).2.1 (gRecs bs R i).2.2).2.2) := by
 have hv := gRecs_inv hR i
 have h1 : gRecs bs R (i + 1) = ((gRecs bs R i).1, (gRecs bs R i).2.1, (rdRec bs (gRecs bs R i).2.1 (gRecs bs R i).2.2).2.2) := by
   show gRun _ _ (i + 1) = _
   unfold gRun
   rw [if_neg (by unfold gRecs at h; omega)]
   unfold gStep
   rw [if_pos (by unfold gRecs at h0; omega)]
   rfl
 have h2 := rdRec_e (bs := bs) (R := (gRecs bs R i).2.2) ⟨hv.lo, hv.hi⟩
 have h3 := gRun_stay (bs := bs) (s := ([], -1, (rUint bs 128#64 R).2)) (i := i + 1) (by
   show (gRecs bs R (i + 1)).2.2.e ≠ 0
   rw [h1]
   dsimp only
   omega) (gN bs R - (i + 1))
 rw [show i + 1 + (gN bs R - (i + 1)) = gN bs R by omega] at h3
 exact h3.trans h1
theorem gRead_long {bs : List Byte} (h : 4096 < bs.length) : gRead bs = ⟨0, 0, 0, [], 8⟩ := by unfold gRead; rw [if_pos h]
theorem gRead_none {bs : List Byte} (h : ¬ 4096 < bs.length) (ho : open_ bs = none) : gRead bs = ⟨0, 0, 0, [], 9⟩ := by unfold gRead; rw [if_neg h, ho]
theorem gRead_err {bs x : List Byte} (h : ¬ 4096 < bs.length) (ho : open_ bs = some x) (he : gEx x ≠ 0) : gRead bs = ⟨0, 0, 0, [], gEx x⟩ := by
 unfold gRead
 rw [if_neg h, ho]
 dsimp only
 rw [if_pos he]
theorem gRead_ok {bs x : List Byte} (h : ¬ 4096 < bs.length) (ho : open_ bs = some x) (he : gEx x = 0) : gRead bs = ⟨(gTx x).1, (gTmx x).1, (gBx x).1, (gSx x).1, 0⟩ := by
 unfold gRead
 rw [if_neg h, ho]
 dsimp only
 rw [if_neg (by omega)]
theorem gR1_le (x : List Byte) : (gR1 x).p ≤ x.length := gSigns_le (Nat.zero_le _)
theorem gTx_le (x : List Byte) : (gTx x).2.p ≤ x.length ∧ 0 ≤ (gTx x).1 ∧ (gTx x).1 ≤ 4294967295 := gT_le (gR1_le x)
theorem gTmx_le (x : List Byte) : (gTmx x).2.p ≤ x.length ∧ -9223372036854775808 ≤ (gTmx x).1 ∧ (gTmx x).1 ≤ 9223372036854775807 := gTm_le (gTx_le x).1
theorem gBx_le (x : List Byte) : (gBx x).2.p ≤ x.length ∧ -1 ≤ (gBx x).1 ∧ (gBx x).1 ≤ 4294967295 := gB_le (gTmx_le x).1 (gTx_le x).2
theorem gSx_len (x : List Byte) : (gSx x).1.length ≤ 128 := by unfold gSx; exact Nat.le_trans (gRecs_inv (gBx_le x).1 _).len (gN_le _ _)
theorem gSx_def (x : List Byte) : gRecs x (gBx x).2 (gN x (gBx x).2) = gSx x := rfl
theorem gEx_def (x : List Byte) : rDone x (gSx x).2.2 = gEx x := rfl
theorem gSx_p (x : List Byte) : (gSx x).2.2.p ≤ x.length := by rw [← gSx_def]; exact (gRecs_inv (gBx_le x).1 _).p
theorem gRead_le (bs : List Byte) : (gRead bs).l.length ≤ 128 ∧ 0 ≤ (gRead bs).t ∧ (gRead bs).t ≤ 4294967295 ∧ -9223372036854775808 ≤ (gRead bs).tm ∧ (gRead bs).tm ≤ 9223372036854775807 ∧ -1 ≤ (gRead bs).b ∧ (gRead bs).b ≤ 4294967295 := by
 unfold gRead
 split
 · simp
 · split
   · simp
   · rename_i x _
     have h1 := gTx_le x
     have h2 := gTmx_le x
     have h3 := gBx_le x
     have h4 := gSx_len x
     split
     · simp
     · dsimp only
       omega
theorem gR1_eq (x : List Byte) : mustB 1#8 x (mustB 71#8 x ⟨0, 0⟩) = gR1 x := rfl
theorem gTx_eq (x : List Byte) : gTx x = ((((rUint x 4294967295#64 (gR1 x)).1.toNat : Nat) : Int), (rUint x 4294967295#64 (gR1 x)).2) := rfl
theorem gTmx_ok {x : List Byte} (h : -2305843009213693952 ≤ (rInt x (gTx x).2).1 ∧ (rInt x (gTx x).2).1 ≤ 2305843009213693952) : gTmx x = ((rInt x (gTx x).2).1, (rInt x (gTx x).2).2) := by unfold gTmx gTm; rw [if_pos h]
theorem gTmx_bad {x : List Byte} (h : ¬ (-2305843009213693952 ≤ (rInt x (gTx x).2).1 ∧ (rInt x (gTx x).2).1 ≤ 2305843009213693952)) : gTmx x = ((rInt x (gTx x).2).1, rFail 3 (rInt x (gTx x).2).2) := by unfold gTmx gTm; rw [if_neg h]
theorem gBx_pos {x : List Byte} (h : 0 < (rUint x (BitVec.ofInt 64 (gTx x).1) (gTmx x).2).1.toNat) : gBx x = ((gTx x).1 - (((rUint x (BitVec.ofInt 64 (gTx x).1) (gTmx x).2).1.toNat : Nat) : Int), (rUint x (BitVec.ofInt 64 (gTx x).1) (gTmx x).2).2) := by unfold gBx gB; rw [if_pos h]
theorem gBx_neg {x : List Byte} (h : ¬ 0 < (rUint x (BitVec.ofInt 64 (gTx x).1) (gTmx x).2).1.toNat) : gBx x = (-1, (rUint x (BitVec.ofInt 64 (gTx x).1) (gTmx x).2).2) := by unfold gBx gB; rw [if_neg h]
theorem rDone_e {x : List Byte} {R : Rs} (h : rDone x R = 0) : R.e = 0 := by
 unfold rDone at h
 split at h
 · exact h
 · contradiction
end Go.Sx

set_option linter.unusedVariables false
set_option linter.unusedSimpArgs false
namespace Go.Sx
theorem recsTo_of {l : List RecR} : ∀ j, (∀ k, k < j → errAt l k = 0) → recsTo l j = 0
 | 0, _ => rfl
 | j + 1, h => recsTo_ok (recsTo_of j fun k hk => h k (by omega)) (h j (by omega))
theorem recs_snoc {l : List RecR} {r : RecR} (h : recsErr l = 0) (hr : recErr r (rowE l).2 = 0) : recsErr (l ++ [r]) = 0 := by
 refine recsTo_of _ fun k hk => ?_
 rw [List.length_append, List.length_singleton] at hk
 unfold errAt
 by_cases e : k < l.length
 · rw [List.take_append_of_le_length (by omega), List.getD_eq_getElem?_getD, List.getElem?_append_left e, ← List.getD_eq_getElem?_getD]
   exact recsTo_all h k e
 · rw [show k = l.length by omega, List.take_left, List.getD_eq_getElem?_getD, List.getElem?_append_right (Nat.le_refl _), Nat.sub_self]
   exact hr
structure RBack (bs : List Byte) (R' : Rs) (i : Nat) (s : List RecR × Int × Rs) : Prop where
 len : s.1.length = i
 last : (rowE s.1).2 = s.2.1
 err : recsErr s.1 = 0
 wf : ∀ x ∈ s.1, x.wf
 e0 : R'.e = 0
 drop : bs.drop R'.p = (rowE s.1).1 ++ bs.drop s.2.2.p
 at_ : s.2.2.p = R'.p + (rowE s.1).1.length
theorem gRecs_back {bs : List Byte} {R : Rs} (hR : R.p ≤ bs.length) : ∀ i, (gRecs bs R i).2.2.e = 0 → RBack bs (rUint bs 128#64 R).2 i (gRecs bs R i)
 | 0, h => ⟨rfl, rfl, rfl, (by intro x hx; cases hx), h, rfl, rfl⟩
 | i + 1, h => by
   have hv := gRecs_inv hR i
   by_cases h0 : (gRecs bs R i).2.2.e = 0
   · have ih := gRecs_back hR i h0
     by_cases h1 : (rdRec bs (gRecs bs R i).2.1 (gRecs bs R i).2.2).2.1 = 0
     · have hq : rdRec bs (gRecs bs R i).2.1 (gRecs bs R i).2.2 = ((rdRec bs (gRecs bs R i).2.1 (gRecs bs R i).2.2).1, 0, (rdRec bs (gRecs bs R i).2.1 (gRecs bs R i).2.2).2.2) := by rw [← h1]
       obtain ⟨k1, k2, k3, k4, k5, k6, k7⟩ := rd_back hv.p hq
       rw [gRecs_ok h0 h1]
       generalize rdRec bs (gRecs bs R i).2.1 (gRecs bs R i).2.2 = q at *
       refine ⟨by simp [ih.len], by rw [rowE_snoc], recs_snoc ih.err (by rw [ih.last]; exact k1), ?_, ih.e0, ?_, ?_⟩
       · intro x hx
         rcases List.mem_append.1 hx with hx | hx
         · exact ih.wf x hx
         · rw [List.mem_singleton.1 hx]; exact k2
       · dsimp only
         rw [rowE_snoc, ih.last, ih.drop, k3]
         simp only [List.append_assoc]
       · dsimp only
         rw [rowE_snoc, ih.last, k4, ih.at_]
         simp only [List.length_append]
         omega
     · exfalso
       have he := rdRec_e (bs := bs) (R := (gRecs bs R i).2.2) ⟨hv.lo, hv.hi⟩
       have h3 : gRecs bs R (i + 1) = gStep bs (gRecs bs R i) := by
         show gRun _ _ (i + 1) = _
         unfold gRun
         rw [if_neg (by unfold gRecs at h0; omega)]
         rfl
       rw [h3] at h
       unfold gStep at h
       rw [if_pos h1] at h
       dsimp only at h
       omega
   · exfalso
     have h3 : gRecs bs R (i + 1) = gRecs bs R i := gRun_stay (bs := bs) (s := ([], -1, (rUint bs 128#64 R).2)) (i := i) h0 1
     rw [h3] at h
     exact h0 h
theorem must_back {bs : List Byte} {c : Byte} {R : Rs} (hp : R.p ≤ bs.length) (h : (mustB c bs R).e = 0) : R.e = 0 ∧ bs.drop R.p = [c] ++ bs.drop (mustB c bs R).p := by
 unfold mustB at h ⊢
 split at h
 · rename_i h1
   rw [if_pos h1]
   obtain ⟨k1, k2, _⟩ := back_byte R hp h
   rw [BitVec.eq_of_toNat_eq h1] at k2
   exact ⟨k1, k2⟩
 · exact absurd h fun h => rFail_e h (by decide)
theorem body_back {x : List Byte} (h : gEx x = 0) : bodyErr (gTx x).1 (gTmx x).1 (gBx x).1 (gSx x).1 = 0 ∧ bodyB (gTx x).1 (gTmx x).1 (gBx x).1 (gSx x).1 = x ∧ ∀ r ∈ (gSx x).1, r.wf := by
 have hS0 : (gSx x).2.2.e = 0 := rDone_e (by rw [gEx_def]; exact h)
 have hEnd : x.length ≤ (gSx x).2.2.p := by
   rw [← gEx_def] at h
   unfold rDone at h
   split at h
   · rename_i h1
     exact h1.resolve_left (by omega)
   · cases h
 have hB := gBx_le x
 have hT := gTx_le x
 have hTm := gTmx_le x
 have hb := gRecs_back (bs := x) (R := (gBx x).2) hB.1 (gN x (gBx x).2) (by rw [gSx_def]; exact hS0)
 rw [gSx_def] at hb
 have hNm := gN_le x (gBx x).2
 obtain ⟨n1, n2, n3, n4⟩ := back_uint (L := 128#64) (gBx x).2 hB.1 hb.e0
 have hBq : (gBx x).2 = (rUint x (BitVec.ofInt 64 (gTx x).1) (gTmx x).2).2 := by
   by_cases h0 : 0 < (rUint x (BitVec.ofInt 64 (gTx x).1) (gTmx x).2).1.toNat
   · rw [gBx_pos h0]
   · rw [gBx_neg h0]
 have hUb := rUint_le (X := BitVec.ofInt 64 (gTx x).1) hTm.1
 have hot := ofInt64 (x := (gTx x).1) (by omega) (by omega)
 obtain ⟨b1, b2, b3, b4⟩ := back_uint (L := BitVec.ofInt 64 (gTx x).1) (gTmx x).2 hTm.1 (by rw [← hBq]; exact n1)
 have hTq : -2305843009213693952 ≤ (rInt x (gTx x).2).1 ∧ (rInt x (gTx x).2).1 ≤ 2305843009213693952 := by
   refine Decidable.by_contra fun hc => ?_
   rw [gTmx_bad hc] at b1
   exact rFail_e b1 (by decide)
 have hTe := gTmx_ok hTq
 obtain ⟨t1, t2, t3, t4⟩ := back_int (gTx x).2 hT.1 (by rw [hTe] at b1; exact b1)
 obtain ⟨u1, u2, u3, u4⟩ := back_uint (L := 4294967295#64) (gR1 x) (gR1_le x) (by rw [gTx_eq] at t1; exact t1)
 have hm1 := (mustB_le (c := 71#8) (bs := x) (R := ⟨0, 0⟩) (Nat.zero_le _)).1
 obtain ⟨m1, m2⟩ := must_back (c := 1#8) hm1 (by rw [gR1_eq]; exact u1)
 obtain ⟨s1, s2⟩ := must_back (bs := x) (c := 71#8) (R := ⟨0, 0⟩) (Nat.zero_le _) m1
 have hdz : x.drop (gSx x).2.2.p = [] := List.drop_eq_nil_of_le hEnd
 have hlen : (gSx x).1.length = (rUint x 128#64 (gBx x).2).1.toNat := hb.len
 have hbk : (gBack (gTx x).1 (gBx x).1).toNat = (rUint x (BitVec.ofInt 64 (gTx x).1) (gTmx x).2).1.toNat ∧ -1 ≤ (gBx x).1 ∧ (gBx x).1 < (gTx x).1 := by
   by_cases h0 : 0 < (rUint x (BitVec.ofInt 64 (gTx x).1) (gTmx x).2).1.toNat
   · rw [gBx_pos h0]
     dsimp only
     unfold gBack
     rw [if_pos (by omega)]
     have := ofInt64 (x := (gTx x).1 - ((gTx x).1 - (((rUint x (BitVec.ofInt 64 (gTx x).1) (gTmx x).2).1.toNat : Nat) : Int))) (by omega) (by omega)
     omega
   · rw [gBx_neg h0]
     dsimp only
     unfold gBack
     rw [if_neg (by omega)]
     refine ⟨?_, by omega, by omega⟩
     show 0 = _
     omega
 have hNn : (gSx x).1.length ≤ 128 := gSx_len x
 have hmm := ofInt64 (x := (((gSx x).1.length : Nat) : Int)) (by omega) (by omega)
 have hg : gErr (gTx x).1 (gTmx x).1 (gBx x).1 (gSx x).1.length = 0 := gErr_0 (by rw [hTe]; dsimp only; omega) (by omega) (by omega)
 have hbe : bodyErr (gTx x).1 (gTmx x).1 (gBx x).1 (gSx x).1 = 0 := (bodyErr_recs hg).trans hb.err
 refine ⟨hbe, ?_, hb.wf⟩
 have hd := hb.drop
 rw [hdz, List.append_nil] at hd
 rw [bodyB_ok hbe, gHeadB, hbk.1, show (BitVec.ofInt 64 (((gSx x).1.length : Nat) : Int)).toNat = (rUint x 128#64 (gBx x).2).1.toNat by omega, ← hd]
 have e0 : x = x.drop 0 := rfl
 rw [gR1_eq] at m2
 rw [show (gR1 x) = gR1 x from rfl] at u2
 have hZ : numB (rInt x (gTx x).2).1 = vput (zigI (gTmx x).1).toNat := by rw [hTe]; rfl
 have hV : (BitVec.ofInt 64 (gTx x).1).toNat = (rUint x 4294967295#64 (gR1 x)).1.toNat := by
   have : (gTx x).1 = (((rUint x 4294967295#64 (gR1 x)).1.toNat : Nat) : Int) := by rw [gTx_eq]
   omega
 have u2' : x.drop (gR1 x).p = vput (BitVec.ofInt 64 (gTx x).1).toNat ++ x.drop (gTx x).2.p := by rw [hV]; exact u2
 have t2' : x.drop (gTx x).2.p = vput (zigI (gTmx x).1).toNat ++ x.drop (gTmx x).2.p := by rw [← hZ, hTe]; exact t2
 have b2' : x.drop (gTmx x).2.p = vput (rUint x (BitVec.ofInt 64 (gTx x).1) (gTmx x).2).1.toNat ++ x.drop (gBx x).2.p := by rw [hBq]; exact b2
 have n2' : x.drop (gBx x).2.p = vput (rUint x 128#64 (gBx x).2).1.toNat ++ x.drop (rUint x 128#64 (gBx x).2).2.p := n2
 have : x = [71#8] ++ ([1#8] ++ (vput (BitVec.ofInt 64 (gTx x).1).toNat ++ (vput (zigI (gTmx x).1).toNat ++ (vput (rUint x (BitVec.ofInt 64 (gTx x).1) (gTmx x).2).1.toNat ++ (vput (rUint x 128#64 (gBx x).2).1.toNat ++ x.drop (rUint x 128#64 (gBx x).2).2.p))))) := by
   rw [← n2', ← b2', ← t2', ← u2', ← m2]
   exact s2
 conv => rhs; rw [this]
 simp only [List.append_assoc, List.cons_append, List.nil_append]
theorem gread_back {bs : List Byte} (h : (gRead bs).e = 0) : gwErr (gRead bs).t (gRead bs).tm (gRead bs).b (gRead bs).l = 0 ∧ gwB (gRead bs).t (gRead bs).tm (gRead bs).b (gRead bs).l = bs ∧ ∀ r ∈ (gRead bs).l, r.wf := by
 by_cases h1 : 4096 < bs.length
 · rw [gRead_long h1] at h; cases h
 · cases ho : open_ bs with
   | none => rw [gRead_none h1 ho] at h; cases h
   | some x =>
     by_cases he : gEx x = 0
     · rw [gRead_ok h1 ho he]
       obtain ⟨k1, k2, k3⟩ := body_back he
       have hbs := (open_spec bs x).1 ho
       have hls := length_seal x
       rw [← hbs] at hls
       dsimp only
       have hw : gwErr (gTx x).1 (gTmx x).1 (gBx x).1 (gSx x).1 = 0 := by
         unfold gwErr
         rw [if_neg (by omega), k2, if_neg (by omega)]
       exact ⟨hw, by rw [gwB_seal hw, k2, hbs], k3⟩
     · rw [gRead_err h1 ho he] at h
       dsimp only at h
       exact absurd h he
theorem gread_wf (bs : List Byte) : ∀ r ∈ (gRead bs).l, r.wf := by
 by_cases h : (gRead bs).e = 0
 · exact (gread_back h).2.2
 · unfold gRead at h ⊢
   split
   · simp
   · split
     · simp
     · split
       · simp
       · rename_i h1 _ _ h2 h3
         rw [if_neg h1, h2] at h
         dsimp only at h
         rw [if_neg h3] at h
         exact absurd rfl h
end Go.Sx

set_option linter.unusedVariables false
set_option linter.unusedSimpArgs false
namespace Go.Sx
theorem Takes.full {α : Type} {bs c rest : List Byte} {f : Rs → α × Rs} {v : α} {p : Nat} (h : Takes bs c f v) (hp : p ≤ bs.length) (hd : bs.drop p = c ++ rest) : f ⟨p, 0⟩ = (v, ⟨p + c.length, 0⟩) ∧ bs.drop (p + c.length) = rest ∧ p + c.length ≤ bs.length := by
 have hd' : bs.drop p = (c ++ rest).take (c ++ rest).length := by rw [List.take_length]; exact hd
 have h2 := drop_on hd' (by simp) hp
 exact ⟨h.good ⟨p, 0⟩ _ rest rfl hp hd' (by simp), by rw [h2.1, List.length_append, Nat.add_sub_cancel_left, List.take_length], h2.2⟩
theorem must_full {bs rest : List Byte} {c : Byte} {p : Nat} (hp : p ≤ bs.length) (hd : bs.drop p = [c] ++ rest) : mustB c bs ⟨p, 0⟩ = ⟨p + 1, 0⟩ ∧ bs.drop (p + 1) = rest ∧ p + 1 ≤ bs.length := by
 obtain ⟨h1, h2, h3⟩ := (takes_byte (bs := bs) (c := c)).full hp hd
 refine ⟨?_, h2, h3⟩
 unfold mustB
 rw [h1, if_pos rfl]
 rfl
theorem recs_full {bs : List Byte} {l : List RecR} {R : Rs} {p : Nat} (hl : ∀ x ∈ l, x.wf) (he : recsErr l = 0) (h0 : (rUint bs 128#64 R).2 = ⟨p, 0⟩) (hp : p ≤ bs.length) (hR : R.p ≤ bs.length) {tail : List Byte} (hd : bs.drop p = (rowE l).1 ++ tail) :
   ∀ i, i ≤ l.length → gRecs bs R i = (l.take i, (rowE (l.take i)).2, ⟨p + (rowE (l.take i)).1.length, 0⟩)
 | 0, _ => by
   show ([], (-1 : Int), (rUint bs 128#64 R).2) = _
   rw [h0]
   rfl
 | i + 1, hi => by
   have ih := recs_full hl he h0 hp hR hd i (by omega)
   obtain ⟨rest, hs⟩ := rowE_split (O := l) (i + 1)
   rw [rowE_next (by omega)] at hs
   have hds := hd
   rw [hs, List.append_assoc, List.append_assoc] at hds
   have hlen := congrArg List.length hds
   simp only [List.length_drop, List.length_append] at hlen
   have h1 : bs.drop (p + (rowE (l.take i)).1.length) = recB (l.getD i default) (rowE (l.take i)).2 ++ (rest ++ tail) := by
     rw [← List.drop_drop, hds, List.drop_left]
   have hq := rd_full (bs := bs) (last := (rowE (l.take i)).2) (recs_getD hl (by omega)) (recsTo_all he i (by omega)) (by omega) h1
   rw [gRecs_ok (by rw [ih]) (by rw [ih]; dsimp only; rw [hq]), ih]
   dsimp only
   rw [hq, rowE_next (by omega), take_next (by omega)]
   dsimp only
   rw [List.length_append, Nat.add_assoc]
theorem body_forth {t tm b : Int} {l : List RecR} {x tail : List Byte} (hl : ∀ x ∈ l, x.wf) (hb : bodyErr t tm b l = 0) (hx0 : x = bodyB t tm b l ++ tail) : (gTx x).1 = t ∧ (gTmx x).1 = tm ∧ (gBx x).1 = b ∧ (gSx x).1 = l ∧ gEx x = if tail = [] then 0 else 8 := by
 obtain ⟨hg, hr⟩ := bodyErr_parts hb
 obtain ⟨g1, g2, g3, g4, g5, g6, g7⟩ := gErr_parts hg
 have hx : x = [71#8] ++ ([1#8] ++ (vput (BitVec.ofInt 64 t).toNat ++ (numB tm ++ (vput (gBack t b).toNat ++ (vput (BitVec.ofInt 64 (l.length : Int)).toNat ++ ((rowE l).1 ++ tail)))))) := by
   rw [hx0, bodyB_ok hb, gHeadB, numB]
   simp only [List.append_assoc, List.cons_append, List.nil_append]
 have ht := ofInt64 (x := t) (by omega) (by omega)
 have hm := ofInt64 (x := (l.length : Int)) (by omega) (by omega)
 have hbk : ((gBack t b).toNat : Int) = if 0 ≤ b then t - b else 0 := by
   unfold gBack
   split
   · exact ofInt64 (by omega) (by omega)
   · rfl
 obtain ⟨a1, a2, a3⟩ := must_full (bs := x) (p := 0) (Nat.zero_le _) (by rw [List.drop_zero]; exact hx)
 obtain ⟨b1, b2, b3⟩ := must_full a3 a2
 have e1 : gR1 x = ⟨0 + 1 + 1, 0⟩ := by rw [← gR1_eq, a1, b1]
 obtain ⟨c1, c2, c3⟩ := (takes_uint (bs := x) (L := 4294967295#64) (X := BitVec.ofInt 64 t) (by show _ ≤ 4294967295; omega)).full b3 b2
 have e2 : gTx x = (t, ⟨0 + 1 + 1 + (vput (BitVec.ofInt 64 t).toNat).length, 0⟩) := by rw [gTx_eq, e1, c1, ht]
 obtain ⟨d1, d2, d3⟩ := (takes_int (bs := x) (x := tm) (by omega)).full c3 c2
 generalize hp2 : 0 + 1 + 1 + (vput (BitVec.ofInt 64 t).toNat).length = p2 at *
 have e3 : gTmx x = (tm, ⟨p2 + (numB tm).length, 0⟩) := by
   have q : rInt x (gTx x).2 = (tm, ⟨p2 + (numB tm).length, 0⟩) := by rw [e2]; exact d1
   rw [gTmx_ok (by rw [q]; dsimp only; omega), q]
 generalize hp3 : p2 + (numB tm).length = p3 at *
 obtain ⟨f1, f2, f3⟩ := (takes_uint (bs := x) (L := BitVec.ofInt 64 t) (X := gBack t b) (by split at hbk <;> omega)).full d3 d2
 generalize hp4 : p3 + (vput (gBack t b).toNat).length = p4 at *
 have e4 : gBx x = (b, ⟨p4, 0⟩) := by
   have q : rUint x (BitVec.ofInt 64 (gTx x).1) (gTmx x).2 = (gBack t b, ⟨p4, 0⟩) := by rw [e2, e3]; exact f1
   by_cases hb0 : 0 ≤ b
   · rw [if_pos hb0] at hbk
     rw [gBx_pos (by rw [q]; dsimp only; omega), q, e2]
     dsimp only
     rw [hbk, show t - (t - b) = b by omega]
   · rw [if_neg hb0] at hbk
     rw [gBx_neg (by rw [q]; dsimp only; omega), q]
     dsimp only
     rw [show b = -1 by omega]
 obtain ⟨k1, k2, k3⟩ := (takes_uint (bs := x) (L := 128#64) (X := BitVec.ofInt 64 (l.length : Int)) (by show _ ≤ 128; omega)).full f3 f2
 have hn : gN x (gBx x).2 = l.length := by
   unfold gN
   rw [e4]
   dsimp only
   rw [k1]
   dsimp only
   omega
 have hrec := recs_full (R := (gBx x).2) hl hr (by rw [e4]; dsimp only; rw [k1]) k3 (by rw [e4]; exact f3) k2 l.length (Nat.le_refl _)
 rw [List.take_length] at hrec
 have hS : gSx x = (l, (rowE l).2, ⟨p4 + (vput (BitVec.ofInt 64 (l.length : Int)).toNat).length + (rowE l).1.length, 0⟩) := by rw [← gSx_def, hn, hrec]
 have hlen := congrArg List.length k2
 rw [List.length_drop, List.length_append] at hlen
 have hE : gEx x = if tail = [] then 0 else 8 := by
   rw [← gEx_def, hS]
   unfold rDone
   cases tail with
   | nil =>
     rw [List.length_nil] at hlen
     rw [if_pos (.inr (by dsimp only; omega)), if_pos rfl]
   | cons c tl =>
     rw [List.length_cons] at hlen
     rw [if_neg (by dsimp only; omega), if_neg (by simp)]
 exact ⟨by rw [e2], by rw [e3], by rw [e4], by rw [hS], hE⟩
theorem gread_forth {t tm b : Int} {l : List RecR} (hl : ∀ x ∈ l, x.wf) (h : gwErr t tm b l = 0) : gRead (gwB t tm b l) = ⟨t, tm, b, l, 0⟩ := by
 have hw := length_gwB t tm b l
 obtain ⟨h1, h2, h3, h4, h5⟩ := body_forth (x := bodyB t tm b l) (tail := []) hl (gwErr_parts h).1 (by rw [List.append_nil])
 rw [gRead_ok (by omega) (open_gw h) (by rw [h5]; rfl), h1, h2, h3, h4]
end Go.Sx

set_option linter.unusedVariables false
set_option linter.unusedSimpArgs false
namespace Go.Sx
theorem ent_of {cs : List Value} (h : AllFK cs [.i .i64, .i .i64, .i .i64, .i .i64, .i .i64, .i .i64, .i .i64, .i .u16, .i .u8]) : ∃ r : EntR, cs = entV r ∧ r.wf := by
 obtain ⟨_, _, rfl, h1, h⟩ := h.split
 obtain ⟨_, _, rfl, h2, h⟩ := h.split
 obtain ⟨_, _, rfl, h3, h⟩ := h.split
 obtain ⟨_, _, rfl, h4, h⟩ := h.split
 obtain ⟨_, _, rfl, h5, h⟩ := h.split
 obtain ⟨_, _, rfl, h6, h⟩ := h.split
 obtain ⟨_, _, rfl, h7, h⟩ := h.split
 obtain ⟨_, _, rfl, h8, h⟩ := h.split
 obtain ⟨_, _, rfl, h9, h⟩ := h.split
 obtain rfl := h.none
 obtain ⟨z1, rfl, w1⟩ := h1.i64
 obtain ⟨z2, rfl, w2⟩ := h2.i64
 obtain ⟨z3, rfl, w3⟩ := h3.i64
 obtain ⟨z4, rfl, w4⟩ := h4.i64
 obtain ⟨z5, rfl, w5⟩ := h5.i64
 obtain ⟨z6, rfl, w6⟩ := h6.i64
 obtain ⟨z7, rfl, w7⟩ := h7.i64
 obtain ⟨z8, rfl⟩ := h8.u16
 obtain ⟨z9, rfl⟩ := h9.u8
 exact ⟨⟨z1, z2, z3, z4, z5, z6, z7, z8, z9⟩, rfl, ⟨w1, w2, w3, w4, w5, w6, w7⟩⟩
theorem list_ofP {α : Type} {f : Nat → List Value} {g : α → List Value} {p : α → Prop} : ∀ (n : Nat), (∀ i, i < n → ∃ a : α, f i = g a ∧ p a) → ∃ l : List α, l.length = n ∧ (List.range n).flatMap f = l.flatMap g ∧ ∀ x ∈ l, p x
 | 0, _ => ⟨[], rfl, rfl, by simp⟩
 | n + 1, h => by
   obtain ⟨l, hl, he, hp⟩ := list_ofP n fun i hi => h i (by omega)
   obtain ⟨a, ha, hpa⟩ := h n (by omega)
   refine ⟨l ++ [a], by simp [hl], by rw [List.range_succ, List.flatMap_append, List.flatMap_append, he]; simp [ha], fun x hx => ?_⟩
   rcases List.mem_append.1 hx with hx | hx
   · exact hp x hx
   · rw [List.mem_singleton] at hx; subst hx; exact hpa
/-! ### A row of records -/
/-! ### Sizes -/
end Go.Sx
