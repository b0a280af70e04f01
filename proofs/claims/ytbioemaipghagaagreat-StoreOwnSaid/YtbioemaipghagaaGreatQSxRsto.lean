/- Rows' arguments: slices of bytes' slices. -/
import Derived.Test.YtbioemaipghagaaGreatQSxPsto
import Derived.Test.YtbioemaipghagaaGreatQSxBasB
import Derived.Test.YtbioemaipghagaaGreatQSxGrams
set_option linter.unusedVariables false
set_option linter.unusedSimpArgs false
namespace Go.Sx
open Go.RowKit Go.ChangeShapes Go.WideShapes
variable {W : World}
end Go.Sx
