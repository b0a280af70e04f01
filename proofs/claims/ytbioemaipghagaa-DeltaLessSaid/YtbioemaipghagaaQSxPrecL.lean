/- Records: what is written is read, and the other way about. Plain mathematics. -/
import Derived.Test.YtbioemaipghagaaQSxPent
import Derived.Test.YtbioemaipghagaaQSxRrd
set_option linter.unusedVariables false
set_option linter.unusedSimpArgs false
namespace Go.Sx
/-- f takes the bytes c, and its value is then v; of fewer it is too short; behind that error it stays. -/
structure Takes {α : Type} (bs : List Byte) (c : List Byte) (f : Rs → α × Rs) (v : α) : Prop where
  stay : ∀ R, R.e = 6 → (f R).2.e = 6
  good : ∀ R n rest, R.e = 0 → R.p ≤ bs.length → bs.drop R.p = (c ++ rest).take n → c.length ≤ n → f R = (v, ⟨R.p + c.length, 0⟩)
  short : ∀ R n rest, R.e = 0 → R.p ≤ bs.length → bs.drop R.p = (c ++ rest).take n → n < c.length → (f R).2.e = 6
theorem drop_on {bs c rest : List Byte} {p n : Nat} (h : bs.drop p = (c ++ rest).take n) (hn : c.length ≤ n) (hp : p ≤ bs.length) : bs.drop (p + c.length) = rest.take (n - c.length) ∧ p + c.length ≤ bs.length := by
  have h1 : bs.drop (p + c.length) = (bs.drop p).drop c.length := by rw [List.drop_drop]
  have h2 := congrArg List.length h
  simp only [List.length_drop, List.length_take, List.length_append] at h2
  refine ⟨?_, by omega⟩
  rw [h1, h, List.take_append, List.drop_append_of_le_length (by rw [List.length_take]; omega), List.take_of_length_le hn, List.drop_length, List.nil_append]
theorem Takes.bind {α β : Type} {bs c d : List Byte} {f : Rs → α × Rs} {g : α → Rs → β × Rs} {v : α} {u : β} (hf : Takes bs c f v) (hs : ∀ x R, R.e = 6 → (g x R).2.e = 6) (hg : Takes bs d (g v) u) : Takes bs (c ++ d) (fun R => g (f R).1 (f R).2) u := by
  refine ⟨fun R h => hs _ _ (hf.stay R h), fun R n rest h0 hp hd hn => ?_, fun R n rest h0 hp hd hn => ?_⟩
  · rw [List.append_assoc] at hd
    rw [List.length_append] at hn
    have h1 := hf.good R n _ h0 hp hd (by omega)
    obtain ⟨h2, h3⟩ := drop_on hd (by omega) hp
    rw [h1]
    dsimp only
    rw [hg.good ⟨R.p + c.length, 0⟩ (n - c.length) rest rfl h3 h2 (by omega), List.length_append]
    dsimp only
    rw [Nat.add_assoc]
  · rw [List.append_assoc] at hd
    rw [List.length_append] at hn
    by_cases hc : c.length ≤ n
    · have h1 := hf.good R n _ h0 hp hd hc
      obtain ⟨h2, h3⟩ := drop_on hd hc hp
      rw [h1]
      exact hg.short ⟨R.p + c.length, 0⟩ (n - c.length) rest rfl h3 h2 (by omega)
    · exact hs _ _ (hf.short R n _ h0 hp hd (by omega))
theorem Takes.pure {α : Type} {bs : List Byte} (v : α) : Takes bs [] (fun R => (v, R)) v := by
  refine ⟨fun R h => h, fun R n rest h0 hp hd hn => ?_, fun R n rest h0 hp hd hn => ?_⟩
  · cases R; simp at h0; subst h0; rfl
  · simp at hn
/-! ### The mask -/
/-! ### The bodies -/
theorem RecR.wf.num {r : RecR} (h : r.wf) (i : Nat) : -9223372036854775808 ≤ r.num i ∧ r.num i ≤ 9223372036854775807 := by
  match i with
  | 0 => exact h.p0
  | 1 => exact h.p1
  | 2 => exact h.p2
  | 3 => exact h.v0
  | 4 => exact h.v1
  | _ + 5 => exact h.v2
end Go.Sx
