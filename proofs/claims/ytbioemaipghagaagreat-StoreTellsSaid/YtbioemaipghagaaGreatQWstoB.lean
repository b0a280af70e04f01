/- Walks of arguments of the laws of stores: what each function does, over the program of this seat. Printed by a program of this session. -/
import Derived.Test.YtbioemaipghagaaGreatQSxPsto
import Derived.Test.YtbioemaipghagaaGreatQSxGrams
import Derived.Test.YtbioemaipghagaaGreatProg
import Derived.Test.YtbioemaipghagaaGreatQSxBasB
namespace Go.Proofs.YtbioemaipghagaaGreat
open Go Go.Sx Go.RowKit
set_option linter.unusedVariables false
set_option linter.unusedSimpArgs false
set_option maxRecDepth 4000
set_option maxHeartbeats 1000000

theorem most12_ok (n : Int) (w0 : World) (hn : R64 n) : Calls Tryz.prog 22 #[.int .i64 n] w0 (RetV w0 (.int .i64 ((mostN n : Nat) : Int))) := by
 have hmr := mostN_rng n
 have hmi := mostN_int n
 refine enterG (F0 := [(0, .int .i64 (n))]) Tryz.func22 rfl rfl rfl (.c .n) (Mem.nil _) fun a w hs => ?_
 refine go 2 [] [3] hs .n ?_; clear hs w a; intro a w hs
 refine st_cv_u64 hs rfl Tryz.underlying3 Tryz.underlying55 rfl ?_; clear hs w a; intro a w hs
 refine st_rem_u64 (X := BitVec.ofInt 64 n) (Y := 64#64) hs rfl rfl rfl (by decide) (by decide) rfl ?_; clear hs w a; intro a w hs
 refine st_cv_u64_i64 (X := (BitVec.ofInt 64 n) % (64#64)) hs rfl rfl Tryz.underlying55 Tryz.underlying3 rfl ?_; clear hs w a; intro a w hs
 refine goL 2 [] [2] hs .n ⟨(by omega), ?_⟩; clear hs w a; intro a w hs
 exact fin hs rfl rfl ⟨by rw [← hmi], rfl⟩
end Go.Proofs.YtbioemaipghagaaGreat
