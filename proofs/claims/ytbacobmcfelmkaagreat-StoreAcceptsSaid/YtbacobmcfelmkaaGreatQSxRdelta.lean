/- Snapshots that came in. -/
import Derived.Test.YtbacobmcfelmkaaGreatQSxGrams
set_option linter.unusedVariables false
set_option linter.unusedSimpArgs false
namespace Go.Sx
end Go.Sx
