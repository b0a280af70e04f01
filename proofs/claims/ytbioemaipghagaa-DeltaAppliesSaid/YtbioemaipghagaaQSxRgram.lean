/- Datagrams that came in; what the laws of datagrams need. -/
import Derived.Test.YtbioemaipghagaaQSxQ
import Derived.Test.YtbioemaipghagaaQSxPgram
set_option linter.unusedVariables false
set_option linter.unusedSimpArgs false
namespace Go.Sx
theorem rec_of2 {cs : List Value} (h : AllFK cs [.i .i64, .i .i64, .i .i64, .i .i64, .i .i64, .i .i64, .i .i64, .i .i64, .i .u16]) : ∃ r : RecR, cs = recV r ∧ r.wf := by
  obtain ⟨_, _, rfl, h1, h⟩ := h.split
  obtain ⟨_, _, rfl, h2, h⟩ := h.split
  obtain ⟨_, _, rfl, h3, h⟩ := h.split
  obtain ⟨_, _, rfl, h4, h⟩ := h.split
  obtain ⟨_, _, rfl, h5, h⟩ := h.split
  obtain ⟨_, _, rfl, h6, h⟩ := h.split
  obtain ⟨_, _, rfl, h7, h⟩ := h.split
  obtain ⟨_, _, rfl, h8, h⟩ := h.split
  obtain ⟨_, _, rfl, h9, h⟩ := h.split
  obtain rfl := h.none
  obtain ⟨z1, rfl, w1⟩ := h1.i64
  obtain ⟨z2, rfl, w2⟩ := h2.i64
  obtain ⟨z3, rfl, w3⟩ := h3.i64
  obtain ⟨z4, rfl, w4⟩ := h4.i64
  obtain ⟨z5, rfl, w5⟩ := h5.i64
  obtain ⟨z6, rfl, w6⟩ := h6.i64
  obtain ⟨z7, rfl, w7⟩ := h7.i64
  obtain ⟨z8, rfl, w8⟩ := h8.i64
  obtain ⟨z9, rfl⟩ := h9.u16
  exact ⟨⟨z1, z2, z3, z4, z5, z6, z7, z8, z9⟩, rfl, ⟨w1, w2, w3, w4, w5, w6, w7, w8⟩⟩
theorem list_of2 {α : Type} {f : Nat → List Value} {g : α → List Value} {p : α → Prop} : ∀ (n : Nat), (∀ i, i < n → ∃ a : α, f i = g a ∧ p a) → ∃ l : List α, l.length = n ∧ (List.range n).flatMap f = l.flatMap g ∧ ∀ x ∈ l, p x
  | 0, _ => ⟨[], rfl, rfl, by simp⟩
  | n + 1, h => by
    obtain ⟨l, hl, he, hp⟩ := list_of2 n fun i hi => h i (by omega)
    obtain ⟨a, ha, hpa⟩ := h n (by omega)
    refine ⟨l ++ [a], by simp [hl], by rw [List.range_succ, List.flatMap_append, List.flatMap_append, he]; simp [ha], fun x hx => ?_⟩
    rcases List.mem_append.1 hx with hx | hx
    · exact hp x hx
    · rw [List.mem_singleton] at hx; subst hx; exact hpa
abbrev recK : List FK2 := [.i .i64, .i .i64, .i .i64, .i .i64, .i .i64, .i .i64, .i .i64, .i .i64, .i .u16]
theorem recs_of {W : World} {v : Value} (h : OneK W v (.s 9 recK)) : ∃ l : List RecR, Rd W [] v 9 l.length (l.flatMap recV) ∧ ∀ x ∈ l, x.wf := by
  obtain ⟨len, f, hf, hr⟩ := h.sl
  obtain ⟨l, h1, h2, h3⟩ := list_of2 (g := recV) (p := RecR.wf) len fun i hi => rec_of2 (AllK.flat (ks := [.i .i64, .i .i64, .i .i64, .i .i64, .i .i64, .i .i64, .i .i64, .i .i64, .i .u16]) (hf i hi))
  subst h1
  rw [h2] at hr
  exact ⟨l, hr, h3⟩
theorem gram_of {W : World} {cs : List Value} (h : AllK W cs [.i .i64, .i .i64, .i .i64, .s 9 recK]) : ∃ (t tm b : Int) (u : Value) (l : List RecR), cs = [.int .i64 t, .int .i64 tm, .int .i64 b, u] ∧ (-9223372036854775808 ≤ t ∧ t ≤ 9223372036854775807) ∧ (-9223372036854775808 ≤ tm ∧ tm ≤ 9223372036854775807) ∧ (-9223372036854775808 ≤ b ∧ b ≤ 9223372036854775807) ∧ Rd W [] u 9 l.length (l.flatMap recV) ∧ ∀ x ∈ l, x.wf := by
  obtain ⟨_, _, rfl, h1, h⟩ := h.split
  obtain ⟨_, _, rfl, h2, h⟩ := h.split
  obtain ⟨_, _, rfl, h3, h⟩ := h.split
  obtain ⟨_, _, rfl, h4, h⟩ := h.split
  obtain rfl := h.none
  obtain ⟨z1, rfl, w1⟩ := h1.i64
  obtain ⟨z2, rfl, w2⟩ := h2.i64
  obtain ⟨z3, rfl, w3⟩ := h3.i64
  obtain ⟨l, hr, hl⟩ := recs_of h4
  exact ⟨z1, z2, z3, _, l, rfl, w1, w2, w3, hr, hl⟩
/-! ### What the laws need -/
end Go.Sx
