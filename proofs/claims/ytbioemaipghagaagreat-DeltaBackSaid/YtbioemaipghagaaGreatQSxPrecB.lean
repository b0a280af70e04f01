/- Records: what was read is written again. Plain mathematics. -/
import Derived.Test.YtbioemaipghagaaGreatQSxPrecM
set_option linter.unusedVariables false
set_option linter.unusedSimpArgs false
namespace Go.Sx
end Go.Sx
