/- Datagrams: plain data and what is written of them. -/
import Derived.Test.YtbioemaipghagaaGreatQSxPrec
import Derived.Test.YtbioemaipghagaaGreatQSxPcrc
import Derived.Test.YtbioemaipghagaaGreatQSxBasB
set_option linter.unusedVariables false
set_option linter.unusedSimpArgs false
namespace Go.Sx
theorem recV_len (r : RecR) : (recV r).length = 9 := rfl
theorem take_next {α : Type} [Inhabited α] {l : List α} {j : Nat} (h : j < l.length) : l.take (j + 1) = l.take j ++ [l.getD j default] := by
  rw [List.take_add_one, List.getD_eq_getElem?_getD, List.getElem?_eq_getElem h]
  rfl
theorem recs_getD {l : List RecR} (h : ∀ x ∈ l, x.wf) {j : Nat} (hj : j < l.length) : (l.getD j default).wf := by
  rw [List.getD_eq_getElem?_getD, List.getElem?_eq_getElem hj]
  exact h _ (List.getElem_mem hj)
/-- Records one behind the other: the bytes, the last one's Id. -/
def rowE (O : List RecR) : List Byte × Int := O.foldl (fun s r => (s.1 ++ recB r s.2, r.id)) ([], -1)
theorem rowE_next {O : List RecR} {k : Nat} (h : k < O.length) : rowE (O.take (k + 1)) = ((rowE (O.take k)).1 ++ recB (O.getD k default) (rowE (O.take k)).2, (O.getD k default).id) := by
  unfold rowE
  rw [take_next h, List.foldl_append]
  rfl
theorem rowE_pre : ∀ (O : List RecR) (s : List Byte × Int), ∃ rest, (O.foldl (fun s r => (s.1 ++ recB r s.2, r.id)) s).1 = s.1 ++ rest
  | [], s => ⟨[], by simp⟩
  | r :: O, s => by
    obtain ⟨rest, h⟩ := rowE_pre O (s.1 ++ recB r s.2, r.id)
    exact ⟨recB r s.2 ++ rest, by rw [List.foldl_cons, h]; simp⟩
theorem rowE_split {O : List RecR} (k : Nat) : ∃ rest, (rowE O).1 = (rowE (O.take k)).1 ++ rest := by
  have : rowE O = (O.drop k).foldl (fun s r => (s.1 ++ recB r s.2, r.id)) (rowE (O.take k)) := by
    unfold rowE
    rw [← List.foldl_append, List.take_append_drop]
  rw [this]
  exact rowE_pre _ _
theorem rowE_len : ∀ (O : List RecR), (rowE O).1.length ≤ 100 * O.length := by
  have key : ∀ (O : List RecR) (s : List Byte × Int), (O.foldl (fun s r => (s.1 ++ recB r s.2, r.id)) s).1.length ≤ s.1.length + 100 * O.length := by
    intro O
    induction O with
    | nil => intro s; simp
    | cons r O ih =>
      intro s
      have h1 := ih (s.1 ++ recB r s.2, r.id)
      have h2 := length_recB r s.2
      rw [List.foldl_cons]
      simp only [List.length_append, List.length_cons] at h1 ⊢
      omega
  intro O
  have := key O ([], -1)
  simpa [rowE] using this
/-- Why record k can't be written; the first such among the first j. -/
def errAt (l : List RecR) (k : Nat) : Nat := recErr (l.getD k default) (rowE (l.take k)).2
def recsTo (l : List RecR) : Nat → Nat
  | 0 => 0
  | j + 1 => if recsTo l j ≠ 0 then recsTo l j else errAt l j
def recsErr (l : List RecR) : Nat := recsTo l l.length
theorem recsTo_ok {l : List RecR} {j : Nat} (h : recsTo l j = 0) (h2 : errAt l j = 0) : recsTo l (j + 1) = 0 := by unfold recsTo; rw [if_neg (by omega), h2]
theorem recsTo_err {l : List RecR} {j : Nat} (h : recsTo l j = 0) : recsTo l (j + 1) = errAt l j := by unfold recsTo; rw [if_neg (by omega)]
theorem recsTo_stay {l : List RecR} {j e : Nat} (h : recsTo l j = e) (he : e ≠ 0) : ∀ k, recsTo l (j + k) = e
  | 0 => h
  | k + 1 => by
    have := recsTo_stay h he k
    show (if recsTo l (j + k) ≠ 0 then recsTo l (j + k) else errAt l (j + k)) = e
    rw [if_pos (by omega), this]
theorem recsErr_at {l : List RecR} {j : Nat} (hj : j < l.length) (h : recsTo l j = 0) (he : errAt l j ≠ 0) : recsErr l = errAt l j := by
  have := recsTo_stay (recsTo_err h) he (l.length - (j + 1))
  rwa [show j + 1 + (l.length - (j + 1)) = l.length by omega] at this
theorem recsTo_all {l : List RecR} {j : Nat} (h : recsTo l j = 0) : ∀ k, k < j → errAt l k = 0 := by
  induction j with
  | zero => intro k hk; omega
  | succ j ih =>
    unfold recsTo at h
    split at h
    · omega
    · intro k hk
      by_cases e : k = j
      · subst e; exact h
      · exact ih (by omega) k (by omega)
theorem recsTo_last {l : List RecR} {j : Nat} (hj : j ≤ l.length) (h : recsTo l j = 0) : -1 ≤ (rowE (l.take j)).2 ∧ (rowE (l.take j)).2 ≤ 65535 := by
  cases j with
  | zero => exact ⟨(show -1 ≤ (-1 : Int) by decide), (show (-1 : Int) ≤ 65535 by decide)⟩
  | succ j =>
    have h1 := recErr_parts' (recsTo_all h j (by omega))
    rw [rowE_next (by omega)]
    dsimp only
    omega
/-- Why a datagram's head can't be written. -/
def gErr (t tm b : Int) (m : Nat) : Nat := if t < 0 ∨ 4294967295 < t ∨ tm < -2305843009213693952 ∨ 2305843009213693952 < tm ∨ b < -1 then 3 else if t ≤ b then 10 else if 128 < m then 8 else 0
def gBack (t b : Int) : BitVec 64 := if 0 ≤ b then BitVec.ofInt 64 (t - b) else 0#64
def gHeadB (t tm b : Int) (m : Nat) : List Byte := [71#8, 1#8] ++ vput (BitVec.ofInt 64 t).toNat ++ vput (zigI tm).toNat ++ vput (gBack t b).toNat ++ vput (BitVec.ofInt 64 (m : Int)).toNat
def gHead (t tm b : Int) (m : Nat) : List Byte := if gErr t tm b m ≠ 0 then [] else gHeadB t tm b m
def bodyErr (t tm b : Int) (l : List RecR) : Nat := if gErr t tm b l.length ≠ 0 then gErr t tm b l.length else recsErr l
def bodyB (t tm b : Int) (l : List RecR) : List Byte := if bodyErr t tm b l ≠ 0 then [] else gHeadB t tm b l.length ++ (rowE l).1
def gwErr (t tm b : Int) (l : List RecR) : Nat := if bodyErr t tm b l ≠ 0 then bodyErr t tm b l else if 4092 < (bodyB t tm b l).length then 8 else 0
def gwB (t tm b : Int) (l : List RecR) : List Byte := if gwErr t tm b l ≠ 0 then [] else seal_ (bodyB t tm b l)
theorem length_gHeadB (t tm b : Int) (m : Nat) : (gHeadB t tm b m).length ≤ 42 := by
  have h1 := vlen10 (BitVec.ofInt 64 t).toNat
  have h2 := vlen10 (zigI tm).toNat
  have h3 := vlen10 (gBack t b).toNat
  have h4 := vlen10 (BitVec.ofInt 64 (m : Int)).toNat
  unfold gHeadB
  simp only [List.length_append, List.length_cons, List.length_nil]
  omega
theorem gErr_3 {t tm b : Int} {m : Nat} (h : t < 0 ∨ 4294967295 < t ∨ tm < -2305843009213693952 ∨ 2305843009213693952 < tm ∨ b < -1) : gErr t tm b m = 3 := by unfold gErr; rw [if_pos h]
theorem gErr_10 {t tm b : Int} {m : Nat} (h : ¬ (t < 0 ∨ 4294967295 < t ∨ tm < -2305843009213693952 ∨ 2305843009213693952 < tm ∨ b < -1)) (h2 : t ≤ b) : gErr t tm b m = 10 := by unfold gErr; rw [if_neg h, if_pos h2]
theorem gErr_8 {t tm b : Int} {m : Nat} (h : ¬ (t < 0 ∨ 4294967295 < t ∨ tm < -2305843009213693952 ∨ 2305843009213693952 < tm ∨ b < -1)) (h2 : ¬ t ≤ b) (h3 : 128 < m) : gErr t tm b m = 8 := by unfold gErr; rw [if_neg h, if_neg h2, if_pos h3]
theorem gErr_0 {t tm b : Int} {m : Nat} (h : ¬ (t < 0 ∨ 4294967295 < t ∨ tm < -2305843009213693952 ∨ 2305843009213693952 < tm ∨ b < -1)) (h2 : ¬ t ≤ b) (h3 : ¬ 128 < m) : gErr t tm b m = 0 := by unfold gErr; rw [if_neg h, if_neg h2, if_neg h3]
theorem gErr_parts {t tm b : Int} {m : Nat} (h : gErr t tm b m = 0) : 0 ≤ t ∧ t ≤ 4294967295 ∧ -2305843009213693952 ≤ tm ∧ tm ≤ 2305843009213693952 ∧ -1 ≤ b ∧ b < t ∧ m ≤ 128 := by
  unfold gErr at h
  split at h
  · cases h
  · split at h
    · cases h
    · split at h
      · cases h
      · omega
theorem bodyErr_head {t tm b : Int} {l : List RecR} (h : gErr t tm b l.length ≠ 0) : bodyErr t tm b l = gErr t tm b l.length := by unfold bodyErr; rw [if_pos h]
theorem bodyErr_recs {t tm b : Int} {l : List RecR} (h : gErr t tm b l.length = 0) : bodyErr t tm b l = recsErr l := by unfold bodyErr; rw [if_neg (by omega)]
theorem bodyB_err {t tm b : Int} {l : List RecR} (h : bodyErr t tm b l ≠ 0) : bodyB t tm b l = [] := by unfold bodyB; rw [if_pos h]
theorem bodyB_ok {t tm b : Int} {l : List RecR} (h : bodyErr t tm b l = 0) : bodyB t tm b l = gHeadB t tm b l.length ++ (rowE l).1 := by unfold bodyB; rw [if_neg (by omega)]
theorem bodyErr_parts {t tm b : Int} {l : List RecR} (h : bodyErr t tm b l = 0) : gErr t tm b l.length = 0 ∧ recsErr l = 0 := by
  unfold bodyErr at h
  split at h
  · omega
  · exact ⟨by omega, h⟩
theorem length_bodyB (t tm b : Int) (l : List RecR) : (bodyB t tm b l).length ≤ 12842 := by
  unfold bodyB
  split
  · simp
  · rename_i h
    have h1 := gErr_parts (bodyErr_parts (by omega : bodyErr t tm b l = 0)).1
    have h2 := length_gHeadB t tm b l.length
    have h3 := rowE_len l
    simp only [List.length_append]
    omega
theorem length_gwB (t tm b : Int) (l : List RecR) : (gwB t tm b l).length ≤ 4096 := by
  unfold gwB
  split
  · simp
  · rename_i h
    have h1 : gwErr t tm b l = 0 := by omega
    unfold gwErr at h1
    rw [length_seal]
    split at h1
    · omega
    · split at h1
      · cases h1
      · omega
end Go.Sx
