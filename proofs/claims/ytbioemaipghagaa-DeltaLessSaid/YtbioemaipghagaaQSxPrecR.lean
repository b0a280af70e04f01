/- Records off bytes: plain mathematics. -/
import Derived.Test.YtbioemaipghagaaQSxPrec
set_option linter.unusedVariables false
set_option linter.unusedSimpArgs false
namespace Go.Sx
def recZ : RecR := ⟨0, 0, 0, 0, 0, 0, 0, 0, 0#16⟩
theorem toInt_small {X : BitVec 64} (h : X.toNat ≤ 65535) : X.toInt = ((X.toNat : Nat) : Int) := by
  rw [BitVec.toInt_eq_toNat_cond, if_pos (by omega)]
end Go.Sx
