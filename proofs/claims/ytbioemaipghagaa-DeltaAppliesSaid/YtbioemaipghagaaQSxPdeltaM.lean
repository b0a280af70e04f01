/- What the document's delta needs: its two rows, step by step. -/
import Derived.Test.YtbioemaipghagaaQSxDel
import Derived.Test.YtbioemaipghagaaQSxMe
set_option linter.unusedVariables false
set_option linter.unusedSimpArgs false
namespace Go.Sx
theorem entLast_eq (l : List EntR) (j : Nat) : (j = 0 → entLast l j = -1) ∧ (0 < j → entLast l j = (l.getD (j - 1) default).id) := by
  cases j with
  | zero => exact ⟨fun _ => rfl, fun h => by omega⟩
  | succ j => exact ⟨fun h => by omega, fun _ => rfl⟩
theorem map_app1 {α : Type} (o : Option (List α)) (a : List α) (x : α) : (o.map (x :: ·)).map (a ++ ·) = o.map ((a ++ [x]) ++ ·) := by cases o <;> simp
theorem map_nil0 {α : Type} (o : Option (List α)) : o = o.map (([] : List α) ++ ·) := by cases o <;> simp
/-! ### Full -/
/-! ### Diff -/
section
variable {al bl : List EntR} {out : List RecR} {i k : Nat}
end
/-! ### Apply -/
section
variable {was out : List EntR} {rl : List RecR} {i k : Nat}
theorem aInv_skip (hi : i < was.length) (hk : k < rl.length) (h : apl was rl = (apl (was.drop i) (rl.drop k)).map (out ++ ·)) (hc : (was.getD i default).id < (rl.getD k default).id) :
    apl was rl = (apl (was.drop (i + 1)) (rl.drop k)).map ((out ++ [was.getD i default]) ++ ·) := by
  rw [h, List.drop_eq_getElem_cons hi, List.drop_eq_getElem_cons hk, ← rec_getD hk, ← ent_getD hi, apl_cons, if_pos hc, map_app1]
theorem aInv_new (hk : k < rl.length) (h : apl was rl = (apl (was.drop i) (rl.drop k)).map (out ++ ·)) (hc : was.length ≤ i ∨ (i < was.length ∧ ¬ (was.getD i default).id < (rl.getD k default).id ∧ (was.getD i default).id ≠ (rl.getD k default).id)) (h0 : (rl.getD k default).k = 0) :
    apl was rl = (apl (was.drop i) (rl.drop (k + 1))).map ((out ++ [entOf (rl.getD k default)]) ++ ·) := by
  rw [h, List.drop_eq_getElem_cons hk, ← rec_getD hk, ← map_app1]
  congr 1
  rcases hc with hc | ⟨hi, h1, h2⟩
  · rw [List.drop_of_length_le hc, apl_new, if_pos h0]
  · rw [List.drop_eq_getElem_cons hi, ← ent_getD hi, apl_cons, if_neg h1, if_neg h2, if_pos h0]
theorem aInv_del (hi : i < was.length) (hk : k < rl.length) (h : apl was rl = (apl (was.drop i) (rl.drop k)).map (out ++ ·)) (h2 : (was.getD i default).id = (rl.getD k default).id) (h0 : (rl.getD k default).k ≠ 0) (h3 : (rl.getD k default).k = 2) :
    apl was rl = (apl (was.drop (i + 1)) (rl.drop (k + 1))).map (out ++ ·) := by
  rw [h, List.drop_eq_getElem_cons hi, List.drop_eq_getElem_cons hk, ← rec_getD hk, ← ent_getD hi, apl_cons, if_neg (by omega), if_pos h2, if_neg h0, if_pos h3]
theorem aInv_upd (hi : i < was.length) (hk : k < rl.length) (h : apl was rl = (apl (was.drop i) (rl.drop k)).map (out ++ ·)) (h2 : (was.getD i default).id = (rl.getD k default).id) (h0 : (rl.getD k default).k ≠ 0) (h3 : (rl.getD k default).k ≠ 2) :
    apl was rl = (apl (was.drop (i + 1)) (rl.drop (k + 1))).map ((out ++ [(entApply (was.getD i default) (rl.getD k default)).1]) ++ ·) := by
  rw [h, List.drop_eq_getElem_cons hi, List.drop_eq_getElem_cons hk, ← rec_getD hk, ← ent_getD hi, apl_cons, if_neg (by omega), if_pos h2, if_neg h0, if_neg h3, map_app1]
theorem aInv_err (hk : k < rl.length) (h : apl was rl = (apl (was.drop i) (rl.drop k)).map (out ++ ·))
    (hc : (was.length ≤ i ∧ (rl.getD k default).k ≠ 0) ∨ (i < was.length ∧ ¬ (was.getD i default).id < (rl.getD k default).id ∧ ((was.getD i default).id = (rl.getD k default).id ↔ (rl.getD k default).k = 0))) : apl was rl = none := by
  rw [h, List.drop_eq_getElem_cons hk, ← rec_getD hk]
  rcases hc with ⟨hi, h0⟩ | ⟨hi, h1, h2⟩
  · rw [List.drop_of_length_le hi, apl_new, if_neg h0]; rfl
  · rw [List.drop_eq_getElem_cons hi, ← ent_getD hi, apl_cons, if_neg h1]
    by_cases e : (rl.getD k default).k = 0
    · rw [if_pos (h2.2 e), if_pos e]; rfl
    · rw [if_neg (fun h => e (h2.1 h)), if_neg e]; rfl
theorem aInv_end (hk : rl.length ≤ k) (h : apl was rl = (apl (was.drop i) (rl.drop k)).map (out ++ ·)) : apl was rl = some (out ++ was.drop i) := by
  rw [h, List.drop_of_length_le hk, apl_nil]
  rfl
end
theorem bbT {p q x : Int} (h : (((p : Int) == q) == (x == 0)) = true) : p = q ↔ x = 0 := by
  by_cases h1 : p = q <;> by_cases h2 : x = 0 <;> simp_all
theorem bbF {p q x : Int} (h : (((p : Int) == q) == (x == 0)) = false) : (x = 0 → p ≠ q) ∧ (x ≠ 0 → p = q) := by
  have e1 : (p == q) = decide (p = q) := by by_cases h1 : p = q <;> simp [h1]
  have e2 : (x == 0) = decide (x = 0) := by by_cases h1 : x = 0 <;> simp [h1]
  rw [e1, e2] at h
  by_cases h1 : p = q <;> by_cases h2 : x = 0 <;> simp [h1, h2] at h ⊢
theorem bb0T {x : Int} (h : (false == (x == 0)) = true) : x ≠ 0 := by
  by_cases h2 : x = 0 <;> simp_all
theorem bb0F {x : Int} (h : (false == (x == 0)) = false) : x = 0 := by
  by_cases h2 : x = 0 <;> simp_all
theorem flat_drop {α : Type} {g : α → List Value} {size : Nat} (hg : ∀ a, (g a).length = size) (l : List α) (i : Nat) (hi : i ≤ l.length) : ((l.flatMap g).drop (i * size)).take ((l.length - i) * size) = (l.drop i).flatMap g := by
  have h1 : l.flatMap g = (l.take i).flatMap g ++ (l.drop i).flatMap g := by rw [← List.flatMap_append, List.take_append_drop]
  have hl : ∀ m : List α, (m.flatMap g).length = m.length * size := by
    intro m
    induction m with
    | nil => simp
    | cons a m ih => rw [List.flatMap_cons, List.length_append, hg, ih, List.length_cons, Nat.add_mul]; omega
  rw [h1, List.drop_left' (by rw [hl, List.length_take, Nat.min_eq_left hi])]
  rw [List.take_of_length_le (by rw [hl, List.length_drop]; exact Nat.le_refl _)]
theorem one_ents (l : List EntR) (a b : Nat) : ∀ z ∈ ((l.flatMap entV).drop a).take b, z.oneCell' = true := by
  intro z hz
  obtain ⟨e, _, he⟩ := List.mem_flatMap.1 (List.mem_of_mem_drop (List.mem_of_mem_take hz))
  simp only [entV, List.mem_cons, List.not_mem_nil, or_false] at he
  rcases he with rfl | rfl | rfl | rfl | rfl | rfl | rfl | rfl | rfl <;> rfl
/-! ### Alike -/
open Classical in
noncomputable def sSame (t tm : Int) (l : List EntR) (t2 tm2 : Int) (l2 : List EntR) : Bool := decide (t = t2 ∧ tm = tm2 ∧ l = l2)
theorem sSame_t {t tm t2 tm2 : Int} {l l2 : List EntR} (h : t = t2) (h1 : tm = tm2) (h2 : l = l2) : sSame t tm l t2 tm2 l2 = true := by unfold sSame; exact @decide_eq_true _ (_) ⟨h, h1, h2⟩
theorem sSame_f {t tm t2 tm2 : Int} {l l2 : List EntR} (h : ¬ (t = t2 ∧ tm = tm2 ∧ l = l2)) : sSame t tm l t2 tm2 l2 = false := by unfold sSame; exact @decide_eq_false _ (_) h
theorem sSame_refl (t tm : Int) (l : List EntR) : sSame t tm l t tm l = true := sSame_t rfl rfl rfl
theorem ents_eq {l l2 : List EntR} (hl : l.length = l2.length) (h : ∀ i, i < l.length → l.getD i default = l2.getD i default) : l = l2 := by
  apply List.ext_getElem hl
  intro i h1 h2
  have := h i h1
  rwa [ent_getD h1, ent_getD h2] at this
theorem all_next {l l2 : List EntR} {j : Nat} (h : ∀ i, i < j → l.getD i default = l2.getD i default) (h2 : l.getD j default = l2.getD j default) : ∀ i, i < j + 1 → l.getD i default = l2.getD i default := by
  intro i hi
  by_cases e : i = j
  · rw [e]; exact h2
  · exact h i (by omega)
theorem getD_ne {l l2 : List EntR} {j : Nat} (h : l.getD j default ≠ l2.getD j default) : l ≠ l2 := fun e => h (by rw [e])
end Go.Sx
