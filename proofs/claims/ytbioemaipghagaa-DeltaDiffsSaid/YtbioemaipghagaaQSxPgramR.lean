/- Datagrams off bytes: plain data. -/
import Derived.Test.YtbioemaipghagaaQSxPgram
import Derived.Test.YtbioemaipghagaaQSxPrecR
set_option linter.unusedVariables false
set_option linter.unusedSimpArgs false
namespace Go.Sx
theorem recW_refl (r : RecR) : eqCells (recV r) (recV r) = true := by simp [eqCells, recV, vEq]
end Go.Sx
