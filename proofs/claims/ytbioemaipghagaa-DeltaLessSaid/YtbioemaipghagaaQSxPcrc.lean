/- Sums of bytes: plain mathematics. -/
import Derived.Test.YtbioemaipghagaaQSxBasA
set_option linter.unusedVariables false
set_option linter.unusedSimpArgs false
namespace Go.Sx

/-! ### No two sums alike -/
def le4 (a b c d : Byte) : BitVec 32 := a.setWidth 32 ^^^ (b.setWidth 32 <<< 8) ^^^ (c.setWidth 32 <<< 16) ^^^ (d.setWidth 32 <<< 24)
end Go.Sx
namespace Go.Sx
/-! ### What the laws ask -/
theorem getD_mid (p q : List Byte) (x : Byte) (i : Nat) (h : p.length = i) : (p ++ x :: q).getD i 0 = x := by subst h; simp
theorem set_mid (p q : List Byte) (x y : Byte) (i : Nat) (h : p.length = i) : (p ++ x :: q).set i y = p ++ y :: q := by subst h; simp
end Go.Sx
