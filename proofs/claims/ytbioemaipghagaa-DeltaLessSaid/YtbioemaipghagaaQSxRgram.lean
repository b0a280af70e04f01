/- Datagrams that came in; what the laws of datagrams need. -/
import Derived.Test.YtbioemaipghagaaQSxQ
import Derived.Test.YtbioemaipghagaaQSxPgram
set_option linter.unusedVariables false
set_option linter.unusedSimpArgs false
namespace Go.Sx
theorem list_of2 {α : Type} {f : Nat → List Value} {g : α → List Value} {p : α → Prop} : ∀ (n : Nat), (∀ i, i < n → ∃ a : α, f i = g a ∧ p a) → ∃ l : List α, l.length = n ∧ (List.range n).flatMap f = l.flatMap g ∧ ∀ x ∈ l, p x
  | 0, _ => ⟨[], rfl, rfl, by simp⟩
  | n + 1, h => by
    obtain ⟨l, hl, he, hp⟩ := list_of2 n fun i hi => h i (by omega)
    obtain ⟨a, ha, hpa⟩ := h n (by omega)
    refine ⟨l ++ [a], by simp [hl], by rw [List.range_succ, List.flatMap_append, List.flatMap_append, he]; simp [ha], fun x hx => ?_⟩
    rcases List.mem_append.1 hx with hx | hx
    · exact hp x hx
    · rw [List.mem_singleton] at hx; subst hx; exact hpa
/-! ### What the laws need -/
end Go.Sx
