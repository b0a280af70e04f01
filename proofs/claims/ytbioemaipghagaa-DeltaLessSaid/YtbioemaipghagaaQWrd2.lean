/- Walks of reader: New, the document's, the example: what each function does, over the program of this seat. Printed by a program of this session. -/
import Derived.Test.YtbioemaipghagaaQWrd
import Derived.Test.YtbioemaipghagaaQSxRrd
namespace Go.Proofs.Ytbioemaipghagaa
open Go Go.Sx Go.RowKit
set_option linter.unusedVariables false
set_option linter.unusedSimpArgs false
set_option maxRecDepth 4000
set_option maxHeartbeats 1000000

end Go.Proofs.Ytbioemaipghagaa
