/- Snapshots that came in. -/
import Derived.Test.YtbioemaipghagaaGreatQSxGrams
set_option linter.unusedVariables false
set_option linter.unusedSimpArgs false
namespace Go.Sx
abbrev entK : List FK2 := [.i .i64, .i .i64, .i .i64, .i .i64, .i .i64, .i .i64, .i .i64, .i .u16, .i .u8]
theorem ents_of {W : World} {v : Value} (h : OneK W v (.s 9 entK)) : ∃ l : List EntR, Rd W [] v 9 l.length (l.flatMap entV) ∧ ∀ x ∈ l, x.wf := by
 obtain ⟨len, f, hf, hr⟩ := h.sl
 obtain ⟨l, h1, h2, h3⟩ := list_of2 (g := entV) (p := EntR.wf) len fun i hi => ent_of (AllK.flat (ks := [.i .i64, .i .i64, .i .i64, .i .i64, .i .i64, .i .i64, .i .i64, .i .u16, .i .u8]) (hf i hi))
 subst h1
 rw [h2] at hr
 exact ⟨l, hr, h3⟩
theorem snap_of {W : World} {cs : List Value} (h : AllK W cs [.i .i64, .i .i64, .s 9 entK]) : ∃ (t tm : Int) (u : Value) (l : List EntR), cs = [.int .i64 t, .int .i64 tm, u] ∧ (-9223372036854775808 ≤ t ∧ t ≤ 9223372036854775807) ∧ (-9223372036854775808 ≤ tm ∧ tm ≤ 9223372036854775807) ∧
   Rd W [] u 9 l.length (l.flatMap entV) ∧ ∀ x ∈ l, x.wf := by
 obtain ⟨_, _, rfl, h1, h⟩ := h.split
 obtain ⟨_, _, rfl, h2, h⟩ := h.split
 obtain ⟨_, _, rfl, h4, h⟩ := h.split
 obtain rfl := h.none
 obtain ⟨z1, rfl, w1⟩ := h1.i64
 obtain ⟨z2, rfl, w2⟩ := h2.i64
 obtain ⟨l, hr, hl⟩ := ents_of h4
 exact ⟨z1, z2, _, l, rfl, w1, w2, hr, hl⟩
end Go.Sx
