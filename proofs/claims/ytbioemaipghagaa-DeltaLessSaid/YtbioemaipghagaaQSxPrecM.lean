/- Records: the whole, there and back. Plain mathematics. -/
import Derived.Test.YtbioemaipghagaaQSxPrecL
set_option linter.unusedVariables false
set_option linter.unusedSimpArgs false
namespace Go.Sx
/-! ### The other way about -/
end Go.Sx
