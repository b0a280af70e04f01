/- What the document's delta needs: its two rows, step by step. -/
import Derived.Test.YtbioemaipghagaaQSxDel
import Derived.Test.YtbioemaipghagaaQSxMe
set_option linter.unusedVariables false
set_option linter.unusedSimpArgs false
namespace Go.Sx
theorem entLast_eq (l : List EntR) (j : Nat) : (j = 0 → entLast l j = -1) ∧ (0 < j → entLast l j = (l.getD (j - 1) default).id) := by
  cases j with
  | zero => exact ⟨fun _ => rfl, fun h => by omega⟩
  | succ j => exact ⟨fun h => by omega, fun _ => rfl⟩
theorem map_app {α : Type} (o : Option (List α)) (a b : List α) : (o.map (b ++ ·)).map (a ++ ·) = o.map ((a ++ b) ++ ·) := by cases o <;> simp
theorem map_app1 {α : Type} (o : Option (List α)) (a : List α) (x : α) : (o.map (x :: ·)).map (a ++ ·) = o.map ((a ++ [x]) ++ ·) := by cases o <;> simp
theorem map_nil0 {α : Type} (o : Option (List α)) : o = o.map (([] : List α) ++ ·) := by cases o <;> simp
/-! ### Full -/
theorem fInv_next {l : List EntR} {out : List RecR} {j : Nat} (hj : j < l.length) (h : mrg [] l = (mrg [] (l.drop j)).map (out ++ ·)) (hg : (l.getD j default).g = 0#8) : mrg [] l = (mrg [] (l.drop (j + 1))).map ((out ++ [putOf (l.getD j default)]) ++ ·) := by
  rw [h, List.drop_eq_getElem_cons hj, mrg_nc]
  rw [ent_getD hj] at hg ⊢
  rw [if_pos hg, map_app1]
theorem fInv_err {l : List EntR} {out : List RecR} {j : Nat} (hj : j < l.length) (h : mrg [] l = (mrg [] (l.drop j)).map (out ++ ·)) (hg : (l.getD j default).g ≠ 0#8) : mrg [] l = none := by
  rw [h, List.drop_eq_getElem_cons hj, mrg_nc]
  rw [ent_getD hj] at hg
  rw [if_neg hg]
  rfl
theorem fInv_end {l : List EntR} {out : List RecR} {j : Nat} (hj : l.length ≤ j) (h : mrg [] l = (mrg [] (l.drop j)).map (out ++ ·)) : mrg [] l = some out := by
  rw [h, List.drop_of_length_le hj, mrg_nn]
  simp
theorem mE_some {a b : List EntR} {L : List RecR} (h : mrg a b = some L) : mE a b = 0 ∧ mL a b = L := by
  unfold mE mL
  rw [h]
  exact ⟨rfl, rfl⟩
theorem mE_none {a b : List EntR} (h : mrg a b = none) : mE a b = 15 := by
  unfold mE
  rw [h]
  rfl
/-! ### Diff -/
section
variable {al bl : List EntR} {out : List RecR} {i k : Nat}
theorem dInv_rem (hi : i < al.length) (h : mrg al bl = (mrg (al.drop i) (bl.drop k)).map (out ++ ·)) (hc : bl.length ≤ k ∨ (k < bl.length ∧ (al.getD i default).id < (bl.getD k default).id)) :
    mrg al bl = (mrg (al.drop (i + 1)) (bl.drop k)).map ((out ++ [remOf (al.getD i default)]) ++ ·) := by
  rw [h, List.drop_eq_getElem_cons hi, ← map_app1, ← ent_getD hi]
  congr 1
  rcases hc with hc | ⟨hk, hc⟩
  · rw [List.drop_of_length_le hc, mrg_cn]
  · rw [List.drop_eq_getElem_cons hk, mrg_cc, ← ent_getD hk, if_pos hc]
theorem dInv_put (hk : k < bl.length) (h : mrg al bl = (mrg (al.drop i) (bl.drop k)).map (out ++ ·)) (hc : al.length ≤ i ∨ (i < al.length ∧ (bl.getD k default).id < (al.getD i default).id)) (hg : (bl.getD k default).g = 0#8) :
    mrg al bl = (mrg (al.drop i) (bl.drop (k + 1))).map ((out ++ [putOf (bl.getD k default)]) ++ ·) := by
  rw [h, List.drop_eq_getElem_cons hk, ← map_app1, ← ent_getD hk]
  congr 1
  rcases hc with hc | ⟨hi, hc⟩
  · rw [List.drop_of_length_le hc, mrg_nc, if_pos hg]
  · rw [List.drop_eq_getElem_cons hi, mrg_cc, ← ent_getD hi, if_neg (by omega), if_pos hc, if_pos hg]
theorem dInv_perr (hk : k < bl.length) (h : mrg al bl = (mrg (al.drop i) (bl.drop k)).map (out ++ ·)) (hc : al.length ≤ i ∨ (i < al.length ∧ (bl.getD k default).id < (al.getD i default).id)) (hg : (bl.getD k default).g ≠ 0#8) : mrg al bl = none := by
  rw [h, List.drop_eq_getElem_cons hk, ← ent_getD hk]
  rcases hc with hc | ⟨hi, hc⟩
  · rw [List.drop_of_length_le hc, mrg_nc, if_neg hg]; rfl
  · rw [List.drop_eq_getElem_cons hi, mrg_cc, ← ent_getD hi, if_neg (by omega), if_pos hc, if_neg hg]; rfl
theorem dInv_eq (hi : i < al.length) (hk : k < bl.length) (h : mrg al bl = (mrg (al.drop i) (bl.drop k)).map (out ++ ·)) (h1 : ¬ (al.getD i default).id < (bl.getD k default).id) (h2 : ¬ (bl.getD k default).id < (al.getD i default).id)
    (hg : (bl.getD k default).g = (al.getD i default).g ∨ (bl.getD k default).g = (al.getD i default).g + 1#8) : mrg al bl = (mrg (al.drop (i + 1)) (bl.drop (k + 1))).map ((out ++ stepR (al.getD i default) (bl.getD k default)) ++ ·) := by
  rw [h, List.drop_eq_getElem_cons hk, List.drop_eq_getElem_cons hi, ← ent_getD hk, ← ent_getD hi, mrg_cc, if_neg h1, if_neg h2, if_pos hg, map_app]
theorem dInv_eerr (hi : i < al.length) (hk : k < bl.length) (h : mrg al bl = (mrg (al.drop i) (bl.drop k)).map (out ++ ·)) (h1 : ¬ (al.getD i default).id < (bl.getD k default).id) (h2 : ¬ (bl.getD k default).id < (al.getD i default).id)
    (hg : ¬ ((bl.getD k default).g = (al.getD i default).g ∨ (bl.getD k default).g = (al.getD i default).g + 1#8)) : mrg al bl = none := by
  rw [h, List.drop_eq_getElem_cons hk, List.drop_eq_getElem_cons hi, ← ent_getD hk, ← ent_getD hi, mrg_cc, if_neg h1, if_neg h2, if_neg hg]
  rfl
theorem dInv_end (hi : al.length ≤ i) (hk : bl.length ≤ k) (h : mrg al bl = (mrg (al.drop i) (bl.drop k)).map (out ++ ·)) : mrg al bl = some out := by
  rw [h, List.drop_of_length_le hi, List.drop_of_length_le hk, mrg_nn]
  simp
end
theorem g_eq {X Y : BitVec 8} (h : ((X.toNat : Nat) : Int) = ((Y.toNat : Nat) : Int)) : X = Y := BitVec.eq_of_toNat_eq (by omega)
theorem g_0 {X : BitVec 8} (h : ((X.toNat : Nat) : Int) = 0) : X = 0#8 := BitVec.eq_of_toNat_eq (by simp; omega)
theorem g_n0 {X : BitVec 8} (h : ((X.toNat : Nat) : Int) ≠ 0) : X ≠ 0#8 := fun e => h (by rw [e]; rfl)
theorem g_ne {X Y : BitVec 8} (h : ((X.toNat : Nat) : Int) ≠ ((Y.toNat : Nat) : Int)) : X ≠ Y := fun e => h (by rw [e])
/-! ### Apply -/
section
variable {was out : List EntR} {rl : List RecR} {i k : Nat}
end
/-! ### Alike -/
end Go.Sx
