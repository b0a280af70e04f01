/- Walks of arguments of the laws of stores: what each function does, over the program of this seat. Printed by a program of this session. -/
import Derived.Test.YtbioemaipghagaaGreatQSxPsto
import Derived.Test.YtbioemaipghagaaGreatQSxGrams
import Derived.Test.YtbioemaipghagaaGreatProg
import Derived.Test.YtbioemaipghagaaGreatQSxBasB
namespace Go.Proofs.YtbioemaipghagaaGreat
open Go Go.Sx Go.RowKit
set_option linter.unusedVariables false
set_option linter.unusedSimpArgs false
set_option maxRecDepth 4000
set_option maxHeartbeats 1000000

theorem most12_ok (n : Int) (w0 : World) (hn : R64 n) : Calls Tryz.prog 22 #[.int .i64 n] w0 (RetV w0 (.int .i64 ((mostN n : Nat) : Int))) := by
  have hmr := mostN_rng n
  have hmi := mostN_int n
  refine enterG (F0 := [(0, .int .i64 (n))]) Tryz.func22 rfl rfl rfl (.c .n) (Mem.nil _) fun a w hs => ?_
  refine go 2 [] [3] hs .n ?_; clear hs w a; intro a w hs
  refine st_cv_u64 hs rfl Tryz.underlying3 Tryz.underlying55 rfl ?_; clear hs w a; intro a w hs
  refine st_rem_u64 (X := BitVec.ofInt 64 n) (Y := 64#64) hs rfl rfl rfl (by decide) (by decide) rfl ?_; clear hs w a; intro a w hs
  refine st_cv_u64_i64 (X := (BitVec.ofInt 64 n) % (64#64)) hs rfl rfl Tryz.underlying55 Tryz.underlying3 rfl ?_; clear hs w a; intro a w hs
  refine goL 2 [] [2] hs .n ⟨(by omega), ?_⟩; clear hs w a; intro a w hs
  exact fin hs rfl rfl ⟨by rw [← hmi], rfl⟩
theorem great12_ok (u : Value) (L : List BR) (w0 : World) (hu : Rd w0 [] u 1 L.length (L.map BR.v)) (hLb : ∀ x ∈ L, Rd w0 [] x.v 1 x.bs.length (bytesV x.bs)) : Calls Tryz.prog 24 #[u] w0 (Ret w0 [] fun z N => ∃ b : Bool, z = .bool b ∧ (b = false → L.length ≤ 60) ∧ N = []) := by
  have hue := hu.le
  simp only [maxLen] at hue
  refine enterG (F0 := [(0, u)]) Tryz.func24 rfl rfl rfl (.c .n) (Mem.nil _) fun a w hs => ?_
  refine go 3 [] [6, 3, 0] hs .n ?_; clear hs w a; intro a w hs
  refine st_len hs rfl (hs.rd0 hu).isSl Tryz.underlying43 rfl ?_; clear hs w a; intro a w hs
  refine goL 1 [] [8, 7, 6, 3, 0] hs .n ?_; clear hs w a; intro a w hs
  refine loopG (fun mm_ a w => ∃ j : Nat, ∃ c : Int, mm_ = L.length - j ∧ St 24 [(0, u), (3, .int .i64 (c)), (6, u), (7, .int .i64 (((L.length : Nat) : Int))), (8, .int .i64 (((j : Nat) : Int)))] w0 [] [] a w ∧ j ≤ L.length) ⟨0, 0, rfl, hs.sub (.c rfl (.c rfl (.c rfl (.c rfl (.c rfl .n))))), by omega⟩ ?_
  clear hs w a; rintro mm_ a w ⟨j, c, rfl, hs, hI1_0⟩
  refine go 1 [] [9, 0, 3, 6, 7, 8] hs .n ?_; clear hs w a; intro a w hs
  refine ifG hs rfl (fun c_1 => ?_) (fun c_1 => ?_)
  ·
   replace c_1 := of_decide_eq_true c_1
   refine go 0 [] [0, 3, 6, 7, 8] hs .n ?_; clear hs w a; intro a w hs
   refine st_ia1 (j := j) hs rfl rfl (hs.rd0 hu) rfl (by omega) Tryz.underlying43 Tryz.sizeOf37 rfl ?_; clear hs w a; intro a w hs
   refine st_ld (u := (L.getD j default).v) hs rfl (hs.rd0 hu) (brv_get (by omega)) Tryz.isAgg37 rfl ?_; clear hs w a; intro a w hs
   refine goL 3 [] [13, 12, 0, 6, 7, 8] hs .n ?_; clear hs w a; intro a w hs
   refine st_len hs rfl (hs.rd0 (hLb (L.getD j default) (br_in (by omega)))).isSl Tryz.underlying37 rfl ?_; clear hs w a; intro a w hs
   refine st_add hs rfl rfl rfl ?_; clear hs w a; intro a w hs
   refine goL 3 [] [8, 3, 0, 6, 7] hs .n ⟨(by omega), ?_⟩; clear hs w a; intro a w hs
   refine ⟨_, ?_, j + 1, IntKind.i64.wrap (c + ((((L.getD j default).bs.length : Nat) : Int))), rfl, hs.sub (.c rfl (.c rfl (.c rfl (.c rfl (.c rfl .n))))), by omega⟩
   omega
  replace c_1 := of_decide_eq_false c_1
  refine go 1 [] [17, 3] hs .n ?_; clear hs w a; intro a w hs
  refine st_len hs rfl (hs.rd0 hu).isSl Tryz.underlying43 rfl ?_; clear hs w a; intro a w hs
  refine goL 2 [] [20, 3] hs .n ?_; clear hs w a; intro a w hs
  refine st_part (b := decide (60 < (((L.length : Nat) : Int)))) (fun c_2 => ?_) (fun c_2 => ?_)
  ·
   rw [c_2] at hs
   replace c_2 := of_decide_eq_true c_2
   refine go 4 [] [2] hs .n ?_; clear hs w a; intro a w hs
   exact fin hs rfl rfl ⟨_, rfl, (by first | (intro h_; cases h_; done) | (intro _; omega)), rfl⟩
  rw [c_2] at hs
  replace c_2 := of_decide_eq_false c_2
  refine go 4 [] [2] hs .n ?_; clear hs w a; intro a w hs
  exact fin hs rfl rfl ⟨_, rfl, (by first | (intro h_; cases h_; done) | (intro _; omega)), rfl⟩
end Go.Proofs.YtbioemaipghagaaGreat
