/- Records off bytes: plain mathematics. -/
import Derived.Test.YtbioemaipghagaaQSxPrec
set_option linter.unusedVariables false
set_option linter.unusedSimpArgs false
namespace Go.Sx
def recZ : RecR := ⟨0, 0, 0, 0, 0, 0, 0, 0, 0#16⟩
end Go.Sx
