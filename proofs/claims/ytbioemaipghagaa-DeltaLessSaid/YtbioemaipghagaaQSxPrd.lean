/- Numbers off bytes: plain mathematics. -/
import Derived.Test.YtbioemaipghagaaQSxPvar
set_option linter.unusedVariables false
set_option linter.unusedSimpArgs false
namespace Go.Sx
/-- Where a reader stands: the place, the error. -/
structure Rs where
  p : Nat
  e : Nat
end Go.Sx
