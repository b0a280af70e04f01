/- Datagrams: what is read is written as it came. Plain mathematics. -/
import Derived.Test.YtbioemaipghagaaGreatQSxPgramR
import Derived.Test.YtbioemaipghagaaGreatQSxPrecB
import Derived.Test.YtbioemaipghagaaGreatQSxRgram
set_option linter.unusedVariables false
set_option linter.unusedSimpArgs false
namespace Go.Sx
end Go.Sx
