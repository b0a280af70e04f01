/- Rows' arguments: slices of bytes' slices. -/
import Derived.Test.YtbioemaipghagaaGreatQSxPsto
import Derived.Test.YtbioemaipghagaaGreatQSxBasB
import Derived.Test.YtbioemaipghagaaGreatQSxGrams
set_option linter.unusedVariables false
set_option linter.unusedSimpArgs false
namespace Go.Sx
open Go.RowKit Go.ChangeShapes Go.WideShapes
variable {W : World}
theorem flat_one {α : Type} (f : α → Value) : ∀ (l : List α), (l.flatMap fun x => [f x]) = l.map f
 | [] => rfl
 | a :: l => by simp [flat_one f l]
end Go.Sx
