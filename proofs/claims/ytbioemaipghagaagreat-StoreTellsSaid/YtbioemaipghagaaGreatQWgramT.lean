/- Walks of times: what each function does, over the program of this seat. Printed by a program of this session. -/
import Derived.Test.YtbioemaipghagaaGreatQSxBasB
import Derived.KernelRfl
import Derived.Test.YtbioemaipghagaaGreatProg
namespace Go.Proofs.YtbioemaipghagaaGreat
open Go Go.Sx Go.RowKit
set_option linter.unusedVariables false
set_option linter.unusedSimpArgs false
set_option maxRecDepth 4000
set_option maxHeartbeats 1000000

theorem timely_ok (x : Int) (w0 : World) : Calls Tryz.prog 73 #[.int .i64 x] w0 (RetV w0 (.bool (decide (-2305843009213693952 ≤ x ∧ x ≤ 2305843009213693952)))) := by
 refine enterG (F0 := [(0, .int .i64 (x))]) Tryz.func73 rfl rfl rfl (.c .n) (Mem.nil _) fun a w hs => ?_
 refine go 4 [] [5, 0] hs .n ?_; clear hs w a; intro a w hs
 refine st_part (b := decide ((-2305843009213693952) ≤ x)) (fun c_1 => ?_) (fun c_1 => ?_)
 ·
  rw [c_1] at hs
  replace c_1 := of_decide_eq_true c_1
  refine go 4 [] [2] hs .n ?_; clear hs w a; intro a w hs
  exact fin hs rfl rfl ⟨congrArg Value.bool (by first | (rw [decide_eq_decide]; omega) | (symm; rw [decide_eq_false_iff_not]; omega)), rfl⟩
 rw [c_1] at hs
 replace c_1 := of_decide_eq_false c_1
 refine go 4 [] [2] hs .n ?_; clear hs w a; intro a w hs
 exact fin hs rfl rfl ⟨congrArg Value.bool (by first | (rw [decide_eq_decide]; omega) | (symm; rw [decide_eq_false_iff_not]; omega)), rfl⟩
end Go.Proofs.YtbioemaipghagaaGreat
