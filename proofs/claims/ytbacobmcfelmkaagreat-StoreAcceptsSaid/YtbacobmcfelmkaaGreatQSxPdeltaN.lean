/- Plain law of the statements about one record, and about one entity less. -/
import Derived.Test.YtbacobmcfelmkaaGreatQSxDel
import Derived.Test.YtbacobmcfelmkaaGreatQSxRecs
set_option linter.unusedVariables false
set_option linter.unusedSimpArgs false
namespace Go.Sx
theorem zKS {α : Type} [Inhabited α] {g : α → List Value} {size : Nat} (hg : ∀ a, (g a).length = size) (l : List α) (j o sz : Nat) (h : j < l.length ∧ o + sz ≤ size) : ((l.flatMap g).drop (j * size + o)).take sz = ((g (l.getD j default)).drop o).take sz := by
 rw [← zBe hg l j h.1, List.drop_take, List.drop_drop, List.take_take, Nat.min_eq_left (by omega)]
/-! ### One record -/
/-! ### One entity less -/
end Go.Sx
