/- Datagrams that came in; what the laws of datagrams need. -/
import Derived.Test.YtbioemaipghagaaGreatQSxQ
import Derived.Test.YtbioemaipghagaaGreatQSxPgram
set_option linter.unusedVariables false
set_option linter.unusedSimpArgs false
namespace Go.Sx
theorem list_of2 {α : Type} {f : Nat → List Value} {g : α → List Value} {p : α → Prop} : ∀ (n : Nat), (∀ i, i < n → ∃ a : α, f i = g a ∧ p a) → ∃ l : List α, l.length = n ∧ (List.range n).flatMap f = l.flatMap g ∧ ∀ x ∈ l, p x
  | 0, _ => ⟨[], rfl, rfl, by simp⟩
  | n + 1, h => by
    obtain ⟨l, hl, he, hp⟩ := list_of2 n fun i hi => h i (by omega)
    obtain ⟨a, ha, hpa⟩ := h n (by omega)
    refine ⟨l ++ [a], by simp [hl], by rw [List.range_succ, List.flatMap_append, List.flatMap_append, he]; simp [ha], fun x hx => ?_⟩
    rcases List.mem_append.1 hx with hx | hx
    · exact hp x hx
    · rw [List.mem_singleton] at hx; subst hx; exact hpa
/-! ### What the laws need -/
theorem gwErr_parts {t tm b : Int} {l : List RecR} (h : gwErr t tm b l = 0) : bodyErr t tm b l = 0 ∧ (bodyB t tm b l).length ≤ 4092 := by
  unfold gwErr at h
  split at h
  · omega
  · split at h
    · cases h
    · omega
theorem gwB_seal {t tm b : Int} {l : List RecR} (h : gwErr t tm b l = 0) : gwB t tm b l = seal_ (bodyB t tm b l) := by unfold gwB; rw [if_neg (by omega)]
theorem open_gw {t tm b : Int} {l : List RecR} (h : gwErr t tm b l = 0) : open_ (gwB t tm b l) = some (bodyB t tm b l) := by rw [gwB_seal h]; exact open_seal _
end Go.Sx
