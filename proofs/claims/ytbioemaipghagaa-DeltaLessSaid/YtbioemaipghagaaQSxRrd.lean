/- Calls on a reader, as data. -/
import Derived.Test.YtbioemaipghagaaQSxBasB
import Derived.Test.YtbioemaipghagaaQSxPrd
set_option linter.unusedVariables false
set_option linter.unusedSimpArgs false
namespace Go.Sx
structure ActR where
  k : Int
  m : BitVec 64
  e : BitVec 8
instance : Inhabited ActR := ⟨⟨0, 0#64, 0#8⟩⟩
theorem flat_len {α : Type} {g : α → List Value} {size : Nat} (hg : ∀ a, (g a).length = size) : ∀ (l : List α), (l.flatMap g).length = l.length * size
  | [] => by simp
  | a :: l => by rw [List.flatMap_cons, List.length_append, hg, flat_len hg l, List.length_cons, Nat.add_mul]; omega
theorem flat_get {α : Type} [Inhabited α] {g : α → List Value} {size : Nat} (hg : ∀ a, (g a).length = size) : ∀ (l : List α) (j : Nat), j < l.length → ((l.flatMap g).drop (j * size)).take size = g (l.getD j default)
  | [], j, h => by simp at h
  | a :: l, 0, _ => by
    simp only [Nat.zero_mul, List.drop_zero, List.flatMap_cons, List.getD_cons_zero]
    rw [← hg a, List.take_left']
    rfl
  | a :: l, j + 1, h => by
    have ih := flat_get hg l j (by simpa using h)
    rw [List.flatMap_cons, show (j + 1) * size = (g a).length + j * size by rw [hg, Nat.add_mul]; omega, ← List.drop_drop, List.drop_left', List.getD_cons_succ]
    · exact ih
    · rfl
/-- Where the document's reader has come, over the same bytes. -/
theorem flat_get1 {α : Type} [Inhabited α] {g : α → List Value} {size : Nat} (hg : ∀ a, (g a).length = size) (l : List α) (j o : Nat) (h : j < l.length) (ho : o < size) : (l.flatMap g)[j * size + o]? = (g (l.getD j default))[o]? := by
  rw [← flat_get hg l j h, List.getElem?_take, if_pos ho, List.getElem?_drop]
def Tr (bs : List Byte) (u : Value) (p : Nat) (u' : Value) (p' : Nat) : Prop := ∀ w' T, Rd w' T u 1 (bs.length - p) (bytesV (bs.drop p)) → Rd w' T u' 1 (bs.length - p') (bytesV (bs.drop p'))
theorem Tr.refl {bs : List Byte} {u : Value} {p : Nat} : Tr bs u p u p := fun _ _ h => h
theorem Tr.trans {bs : List Byte} {u u2 u3 : Value} {p p2 p3 : Nat} (h : Tr bs u p u2 p2) (h2 : Tr bs u2 p2 u3 p3) : Tr bs u p u3 p3 := fun w T h0 => h2 w T (h w T h0)
end Go.Sx
