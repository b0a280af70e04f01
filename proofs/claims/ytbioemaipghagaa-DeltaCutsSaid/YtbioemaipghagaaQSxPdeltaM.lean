/- What the document's delta needs: its two rows, step by step. -/
import Derived.Test.YtbioemaipghagaaQSxDel
import Derived.Test.YtbioemaipghagaaQSxMe
set_option linter.unusedVariables false
set_option linter.unusedSimpArgs false
namespace Go.Sx
/-! ### Full -/
/-! ### Diff -/
section
variable {al bl : List EntR} {out : List RecR} {i k : Nat}
end
theorem g_0 {X : BitVec 8} (h : ((X.toNat : Nat) : Int) = 0) : X = 0#8 := BitVec.eq_of_toNat_eq (by simp; omega)
theorem g_n0 {X : BitVec 8} (h : ((X.toNat : Nat) : Int) ≠ 0) : X ≠ 0#8 := fun e => h (by rw [e]; rfl)
/-! ### Apply -/
section
variable {was out : List EntR} {rl : List RecR} {i k : Nat}
end
theorem one_ents (l : List EntR) (a b : Nat) : ∀ z ∈ ((l.flatMap entV).drop a).take b, z.oneCell' = true := by
  intro z hz
  obtain ⟨e, _, he⟩ := List.mem_flatMap.1 (List.mem_of_mem_drop (List.mem_of_mem_take hz))
  simp only [entV, List.mem_cons, List.not_mem_nil, or_false] at he
  rcases he with rfl | rfl | rfl | rfl | rfl | rfl | rfl | rfl | rfl <;> rfl
/-! ### Alike -/
end Go.Sx
