/- What the document's delta needs: its two rows, step by step. -/
import Derived.Test.YtbioemaipghagaaGreatQSxDel
import Derived.Test.YtbioemaipghagaaGreatQSxMe
set_option linter.unusedVariables false
set_option linter.unusedSimpArgs false
namespace Go.Sx
/-! ### Full -/
/-! ### Diff -/
section
variable {al bl : List EntR} {out : List RecR} {i k : Nat}
end
/-! ### Apply -/
section
variable {was out : List EntR} {rl : List RecR} {i k : Nat}
end
/-! ### Alike -/
open Classical in
noncomputable def sSame (t tm : Int) (l : List EntR) (t2 tm2 : Int) (l2 : List EntR) : Bool := decide (t = t2 ∧ tm = tm2 ∧ l = l2)
theorem sSame_t {t tm t2 tm2 : Int} {l l2 : List EntR} (h : t = t2) (h1 : tm = tm2) (h2 : l = l2) : sSame t tm l t2 tm2 l2 = true := by unfold sSame; exact @decide_eq_true _ (_) ⟨h, h1, h2⟩
theorem sSame_f {t tm t2 tm2 : Int} {l l2 : List EntR} (h : ¬ (t = t2 ∧ tm = tm2 ∧ l = l2)) : sSame t tm l t2 tm2 l2 = false := by unfold sSame; exact @decide_eq_false _ (_) h
theorem sSame_refl (t tm : Int) (l : List EntR) : sSame t tm l t tm l = true := sSame_t rfl rfl rfl
theorem ents_eq {l l2 : List EntR} (hl : l.length = l2.length) (h : ∀ i, i < l.length → l.getD i default = l2.getD i default) : l = l2 := by
  apply List.ext_getElem hl
  intro i h1 h2
  have := h i h1
  rwa [ent_getD h1, ent_getD h2] at this
theorem all_next {l l2 : List EntR} {j : Nat} (h : ∀ i, i < j → l.getD i default = l2.getD i default) (h2 : l.getD j default = l2.getD j default) : ∀ i, i < j + 1 → l.getD i default = l2.getD i default := by
  intro i hi
  by_cases e : i = j
  · rw [e]; exact h2
  · exact h i (by omega)
theorem getD_ne {l l2 : List EntR} {j : Nat} (h : l.getD j default ≠ l2.getD j default) : l ≠ l2 := fun e => h (by rw [e])
end Go.Sx
