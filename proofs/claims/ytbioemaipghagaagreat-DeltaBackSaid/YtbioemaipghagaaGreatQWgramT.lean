/- Walks of times: what each function does, over the program of this seat. Printed by a program of this session. -/
import Derived.Test.YtbioemaipghagaaGreatQSxS
import Derived.Test.YtbioemaipghagaaGreatQSxBasB
import Derived.KernelRfl
import Derived.Test.YtbioemaipghagaaGreatProg
namespace Go.Proofs.YtbioemaipghagaaGreat
open Go Go.Sx Go.RowKit
set_option linter.unusedVariables false
set_option linter.unusedSimpArgs false
set_option maxRecDepth 4000
set_option maxHeartbeats 1000000

theorem timely_ok (x : Int) (w0 : World) : Calls Tryz.prog 73 #[.int .i64 x] w0 (RetV w0 (.bool (decide (-2305843009213693952 ≤ x ∧ x ≤ 2305843009213693952)))) := by
  refine enter (F0 := [(0, .int .i64 (x))]) Tryz.func73 rfl rfl rfl (.c .n) (Mem.nil _) fun a w hs => ?_
  refine wp_seq_k fun K1 hK2 => ?_
  refine wp_region_lit ?_
  refine st_as hs rfl rfl ?_; clear hs w a; intro a w hs
  refine wpList_nil ?_
  refine then_n (hK2 _ _ ?_)
  refine wp_seq_k fun K3 hK4 => ?_
  refine wp_region_lit ?_
  refine st_run 3 [(5, .bool (decide ((-2305843009213693952) ≤ x)))] hs .n (by kernel_rfl) (by kernel_rfl) (by kernel_rfl) ?_; clear hs a; intro a hs
  refine st_part (b := decide ((-2305843009213693952) ≤ x)) (fun hc5 => ?_) (fun hc5 => ?_)
  ·
   rw [hc5] at hs
   replace hc5 := of_decide_eq_true hc5
   refine st_run 4 [(2, .bool (decide (x ≤ 2305843009213693952)))] hs .n (by kernel_rfl) (by kernel_rfl) (by kernel_rfl) ?_; clear hs a; intro a hs
   refine wpList_nil ?_
   refine then_n (hK4 _ _ ?_)
   refine wp_ret ?_
   exact fin hs rfl rfl ⟨congrArg Value.bool (by first | (rw [decide_eq_decide]; omega) | (symm; rw [decide_eq_false_iff_not]; omega)), rfl⟩
  rw [hc5] at hs
  replace hc5 := of_decide_eq_false hc5
  refine st_run 4 [(2, .bool (false))] hs .n (by kernel_rfl) (by kernel_rfl) (by kernel_rfl) ?_; clear hs a; intro a hs
  refine wpList_nil ?_
  refine then_n (hK4 _ _ ?_)
  refine wp_ret ?_
  exact fin hs rfl rfl ⟨congrArg Value.bool (by first | (rw [decide_eq_decide]; omega) | (symm; rw [decide_eq_false_iff_not]; omega)), rfl⟩
end Go.Proofs.YtbioemaipghagaaGreat
