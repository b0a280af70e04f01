/- Walks of times: what each function does, over the program of this seat. Printed by a program of this session. -/
import Derived.Test.YtbacobmcfelmkaaGreatQSxBasB
import Derived.KernelRfl
import Derived.Test.YtbacobmcfelmkaaGreatProg
namespace Go.Proofs.YtbacobmcfelmkaaGreat
open Tryz
open Go Go.Sx Go.RowKit
set_option linter.unusedVariables false
set_option linter.unusedSimpArgs false
set_option maxRecDepth 4000
set_option maxHeartbeats 1000000

theorem zKW (x : Int) (w0 : World) : Calls Tryz.prog 76 #[.int .i64 x] w0 (zCn w0 (.bool (decide (-2305843009213693952 ≤ x ∧ x ≤ 2305843009213693952)))) := by
 refine zT (F0 := [(0, zI x)]) func76 rfl rfl rfl (.c .n) (Mem.nil _) ?_
 refine go 4 [] [5, 0] .n ?_
 intro a w hs; refine zAB (b := decide ((-2305843009213693952) ≤ x)) (fun c_1 => ?_) (fun c_1 => ?_)
 ·
  rw [c_1] at hs
  replace c_1 := of_decide_eq_true c_1
  revert a w hs
  refine go 4 [] [2] .n ?_
  intro a w hs; exact fin hs rfl rfl ⟨congrArg Value.bool (by first | (rw [decide_eq_decide]; omega) | (symm; rw [decide_eq_false_iff_not]; omega)), rfl⟩
 rw [c_1] at hs
 replace c_1 := of_decide_eq_false c_1
 revert a w hs
 refine go 4 [] [2] .n ?_
 intro a w hs; exact fin hs rfl rfl ⟨congrArg Value.bool (by first | (rw [decide_eq_decide]; omega) | (symm; rw [decide_eq_false_iff_not]; omega)), rfl⟩
end Go.Proofs.YtbacobmcfelmkaaGreat
