/- Calls on a reader, as data. -/
import Derived.Test.YtbioemaipghagaaGreatQSxBasB
import Derived.Test.YtbioemaipghagaaGreatQSxPrd
set_option linter.unusedVariables false
set_option linter.unusedSimpArgs false
namespace Go.Sx
structure ActR where
  k : Int
  m : BitVec 64
  e : BitVec 8
instance : Inhabited ActR := ⟨⟨0, 0#64, 0#8⟩⟩
theorem flat_len {α : Type} {g : α → List Value} {size : Nat} (hg : ∀ a, (g a).length = size) : ∀ (l : List α), (l.flatMap g).length = l.length * size
  | [] => by simp
  | a :: l => by rw [List.flatMap_cons, List.length_append, hg, flat_len hg l, List.length_cons, Nat.add_mul]; omega
theorem flat_get {α : Type} [Inhabited α] {g : α → List Value} {size : Nat} (hg : ∀ a, (g a).length = size) : ∀ (l : List α) (j : Nat), j < l.length → ((l.flatMap g).drop (j * size)).take size = g (l.getD j default)
  | [], j, h => by simp at h
  | a :: l, 0, _ => by
    simp only [Nat.zero_mul, List.drop_zero, List.flatMap_cons, List.getD_cons_zero]
    rw [← hg a, List.take_left']
    rfl
  | a :: l, j + 1, h => by
    have ih := flat_get hg l j (by simpa using h)
    rw [List.flatMap_cons, show (j + 1) * size = (g a).length + j * size by rw [hg, Nat.add_mul]; omega, ← List.drop_drop, List.drop_left', List.getD_cons_succ]
    · exact ih
    · rfl
/-- Where the document's reader has come, over the same bytes. -/
theorem flat_get1 {α : Type} [Inhabited α] {g : α → List Value} {size : Nat} (hg : ∀ a, (g a).length = size) (l : List α) (j o : Nat) (h : j < l.length) (ho : o < size) : (l.flatMap g)[j * size + o]? = (g (l.getD j default))[o]? := by
  rw [← flat_get hg l j h, List.getElem?_take, if_pos ho, List.getElem?_drop]
def Tr (bs : List Byte) (u : Value) (p : Nat) (u' : Value) (p' : Nat) : Prop := ∀ w' T, Rd w' T u 1 (bs.length - p) (bytesV (bs.drop p)) → Rd w' T u' 1 (bs.length - p') (bytesV (bs.drop p'))
theorem Tr.refl {bs : List Byte} {u : Value} {p : Nat} : Tr bs u p u p := fun _ _ h => h
theorem Tr.trans {bs : List Byte} {u u2 u3 : Value} {p p2 p3 : Nat} (h : Tr bs u p u2 p2) (h2 : Tr bs u2 p2 u3 p3) : Tr bs u p u3 p3 := fun w T h0 => h2 w T (h w T h0)
theorem vget_some {b : List Byte} (h : b.length = 0) : (vget b).2.2 = 5 := by rw [vget_nil h]
theorem not_len {bs : List Byte} {k : Nat} (h : (vget (bs.drop k)).2.2 ≠ 5) : ¬ bs.length ≤ k := fun h2 => h (vget_some (by simp only [List.length_drop]; omega))
theorem rUint_fine {bs : List Byte} {X : BitVec 64} {R : Rs} (h : R.e = 0) (h1 : (vget (bs.drop R.p)).2.2 = 0) (h2 : (vget (bs.drop R.p)).1.toNat ≤ X.toNat) : rUint bs X R = ((vget (bs.drop R.p)).1, ⟨R.p + (vget (bs.drop R.p)).2.1, 0⟩) := by
  have hu : uerr (bs.drop R.p) X = 0 := by unfold uerr; rw [if_neg (fun h => by omega)]; exact h1
  exact rUint_good h (not_len (by omega)) hu
theorem rVec_le' {bs : List Byte} {R : Rs} (h : R.p ≤ bs.length) : (rInt bs (rInt bs (rInt bs R).2).2).2.p ≤ bs.length ∧ R.p ≤ (rInt bs (rInt bs (rInt bs R).2).2).2.p ∧ (rInt bs (rInt bs (rInt bs R).2).2).2.p ≤ R.p + 30 := rVec_le h
end Go.Sx
