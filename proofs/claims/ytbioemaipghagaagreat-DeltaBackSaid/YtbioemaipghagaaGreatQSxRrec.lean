/- Records and entities that came in; what the laws of records need. -/
import Derived.Test.YtbioemaipghagaaGreatQSxPrecB
import Derived.Test.YtbioemaipghagaaGreatQSxPgram
import Derived.Test.YtbioemaipghagaaGreatQSxBasB
set_option linter.unusedVariables false
set_option linter.unusedSimpArgs false
namespace Go.Sx
theorem ent_of {cs : List Value} (h : AllFK cs [.i .i64, .i .i64, .i .i64, .i .i64, .i .i64, .i .i64, .i .i64, .i .u16, .i .u8]) : ∃ r : EntR, cs = entV r ∧ r.wf := by
  obtain ⟨_, _, rfl, h1, h⟩ := h.split
  obtain ⟨_, _, rfl, h2, h⟩ := h.split
  obtain ⟨_, _, rfl, h3, h⟩ := h.split
  obtain ⟨_, _, rfl, h4, h⟩ := h.split
  obtain ⟨_, _, rfl, h5, h⟩ := h.split
  obtain ⟨_, _, rfl, h6, h⟩ := h.split
  obtain ⟨_, _, rfl, h7, h⟩ := h.split
  obtain ⟨_, _, rfl, h8, h⟩ := h.split
  obtain ⟨_, _, rfl, h9, h⟩ := h.split
  obtain rfl := h.none
  obtain ⟨z1, rfl, w1⟩ := h1.i64
  obtain ⟨z2, rfl, w2⟩ := h2.i64
  obtain ⟨z3, rfl, w3⟩ := h3.i64
  obtain ⟨z4, rfl, w4⟩ := h4.i64
  obtain ⟨z5, rfl, w5⟩ := h5.i64
  obtain ⟨z6, rfl, w6⟩ := h6.i64
  obtain ⟨z7, rfl, w7⟩ := h7.i64
  obtain ⟨z8, rfl⟩ := h8.u16
  obtain ⟨z9, rfl⟩ := h9.u8
  exact ⟨⟨z1, z2, z3, z4, z5, z6, z7, z8, z9⟩, rfl, ⟨w1, w2, w3, w4, w5, w6, w7⟩⟩
theorem entV_len (r : EntR) : (entV r).length = 9 := rfl
/-! ### A row of records -/
/-! ### Sizes -/
end Go.Sx
