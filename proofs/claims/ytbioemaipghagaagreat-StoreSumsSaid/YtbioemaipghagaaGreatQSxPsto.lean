/- Stores: the example; what is refused changes a count alone; order. Plain mathematics. -/
import Derived.Test.YtbioemaipghagaaGreatQSxStos
import Derived.Test.YtbioemaipghagaaGreatQSxGrams
set_option linter.unusedVariables false
set_option linter.unusedSimpArgs false
namespace Go.Sx
theorem rnone_wf : ∀ x ∈ ([] : List RecR), x.wf := by simp
theorem al_g1 : gRead (gwB 1 10 (-1) []) = ⟨1, 10, -1, [], 0⟩ := gread_forth rnone_wf (by decide +kernel)
theorem al_g2 : gRead (gwB 3 30 1 []) = ⟨3, 30, 1, [], 0⟩ := gread_forth rnone_wf (by decide +kernel)
theorem al_g3 : gRead (gwB 2 20 1 []) = ⟨2, 20, 1, [], 0⟩ := gread_forth rnone_wf (by decide +kernel)
def als1 : Stt := accS 4 stt0 (gRead (gwB 1 10 (-1) []))
def als2 : Stt := accS 4 als1 (gRead (gwB 3 30 1 []))
def als3 : Stt := accS 4 als2 (gRead (gwB 2 20 1 []))
def als4 : Stt := accS 4 als3 (gRead (gwB 3 30 1 []))
theorem al_1 : accE stt0.l 4 stt0.floor stt0.gone (gRead (gwB 1 10 (-1) [])) = 0 ∧ accT stt0.l 4 stt0.floor stt0.gone (gRead (gwB 1 10 (-1) [])) = 1 := by
  rw [al_g1]; decide +kernel
theorem al_2 : accE als1.l 4 als1.floor als1.gone (gRead (gwB 3 30 1 [])) = 0 ∧ accT als1.l 4 als1.floor als1.gone (gRead (gwB 3 30 1 [])) = 3 := by
  unfold als1; rw [al_g1, al_g2]; decide +kernel
theorem al_3 : accE als2.l 4 als2.floor als2.gone (gRead (gwB 2 20 1 [])) = 0 ∧ accT als2.l 4 als2.floor als2.gone (gRead (gwB 2 20 1 [])) = 2 := by
  unfold als2 als1; rw [al_g1, al_g2, al_g3]; decide +kernel
theorem al_4 : accE als3.l 4 als3.floor als3.gone (gRead (gwB 3 30 1 [])) = 12 := by
  unfold als3 als2 als1; rw [al_g1, al_g2, al_g3]; decide +kernel
theorem al_5 : ratE als4.l 1 = 0 ∧ (sat als4.l 1).t = 2 ∧ als4.l.length = 3 ∧ als4.n 0 = 3 ∧ nref als4.n 12 = 1 := by
  unfold als4 als3 als2 als1; rw [al_g1, al_g2, al_g3]; decide +kernel
theorem gopen_turned {t tm b : Int} {l : List RecR} (h : gwErr t tm b l = 0) (i : Nat) (y : Byte) (hi : i < (gwB t tm b l).length) (hy : y ≠ 0) : open_ ((gwB t tm b l).set i ((gwB t tm b l).getD i 0 ^^^ y)) = none := by
  rw [gwB_seal h] at hi ⊢
  exact open_turned _ i y hi hy
theorem gread_nil : gRead [] = ⟨0, 0, 0, [], 9⟩ := gRead_none (by simp) (by decide +kernel)
theorem sums_all {x : List Byte} (h : gRead x = ⟨0, 0, 0, [], 9⟩) : accE stt0.l 3 stt0.floor stt0.gone (gRead x) = 9 ∧ accE (accS 3 stt0 (gRead x)).l 3 (accS 3 stt0 (gRead x)).floor (accS 3 stt0 (gRead x)).gone (gRead []) = 9 ∧
    nref (accS 3 (accS 3 stt0 (gRead x)) (gRead [])).n 9 = 2 ∧ (accS 3 (accS 3 stt0 (gRead x)) (gRead [])).l.length = 0 ∧ (accS 3 (accS 3 stt0 (gRead x)) (gRead [])).n 0 = 0 := by
  rw [h, gread_nil]; decide +kernel
end Go.Sx
