/- Stores: the example; what is refused changes a count alone; order. Plain mathematics. -/
import Derived.Test.YtbioemaipghagaaGreatQSxStos
import Derived.Test.YtbioemaipghagaaGreatQSxGrams
set_option linter.unusedVariables false
set_option linter.unusedSimpArgs false
namespace Go.Sx
theorem rnone_wf : ∀ x ∈ ([] : List RecR), x.wf := by simp
theorem al_g1 : gRead (gwB 1 10 (-1) []) = ⟨1, 10, -1, [], 0⟩ := gread_forth rnone_wf (by decide +kernel)
theorem al_g2 : gRead (gwB 3 30 1 []) = ⟨3, 30, 1, [], 0⟩ := gread_forth rnone_wf (by decide +kernel)
theorem al_g3 : gRead (gwB 2 20 1 []) = ⟨2, 20, 1, [], 0⟩ := gread_forth rnone_wf (by decide +kernel)
def als1 : Stt := accS 4 stt0 (gRead (gwB 1 10 (-1) []))
def als2 : Stt := accS 4 als1 (gRead (gwB 3 30 1 []))
def als3 : Stt := accS 4 als2 (gRead (gwB 2 20 1 []))
def als4 : Stt := accS 4 als3 (gRead (gwB 3 30 1 []))
theorem al_1 : accE stt0.l 4 stt0.floor stt0.gone (gRead (gwB 1 10 (-1) [])) = 0 ∧ accT stt0.l 4 stt0.floor stt0.gone (gRead (gwB 1 10 (-1) [])) = 1 := by
  rw [al_g1]; decide +kernel
theorem al_2 : accE als1.l 4 als1.floor als1.gone (gRead (gwB 3 30 1 [])) = 0 ∧ accT als1.l 4 als1.floor als1.gone (gRead (gwB 3 30 1 [])) = 3 := by
  unfold als1; rw [al_g1, al_g2]; decide +kernel
theorem al_3 : accE als2.l 4 als2.floor als2.gone (gRead (gwB 2 20 1 [])) = 0 ∧ accT als2.l 4 als2.floor als2.gone (gRead (gwB 2 20 1 [])) = 2 := by
  unfold als2 als1; rw [al_g1, al_g2, al_g3]; decide +kernel
theorem al_4 : accE als3.l 4 als3.floor als3.gone (gRead (gwB 3 30 1 [])) = 12 := by
  unfold als3 als2 als1; rw [al_g1, al_g2, al_g3]; decide +kernel
theorem al_5 : ratE als4.l 1 = 0 ∧ (sat als4.l 1).t = 2 ∧ als4.l.length = 3 ∧ als4.n 0 = 3 ∧ nref als4.n 12 = 1 := by
  unfold als4 als3 als2 als1; rw [al_g1, al_g2, al_g3]; decide +kernel
theorem none_all (i tick : Int) : ratE stt0.l i = 3 ∧ khas stt0.l tick = false ∧ ∀ e, nref stt0.n e = 0 := by
  refine ⟨?_, rfl, fun e => ?_⟩
  · unfold ratE; rw [if_neg (by simp [stt0])]
  · unfold nref; split <;> rfl
end Go.Sx
