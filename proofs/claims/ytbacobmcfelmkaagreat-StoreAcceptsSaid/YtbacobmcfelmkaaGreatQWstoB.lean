/- Walks of arguments of the laws of stores: what each function does, over the program of this seat. Printed by a program of this session. -/
import Derived.Test.YtbacobmcfelmkaaGreatQSxPsto
import Derived.Test.YtbacobmcfelmkaaGreatQSxGrams
import Derived.Test.YtbacobmcfelmkaaGreatProg
import Derived.Test.YtbacobmcfelmkaaGreatQSxBasB
namespace Go.Proofs.YtbacobmcfelmkaaGreat
open Tryz
open Go Go.Sx Go.RowKit
set_option linter.unusedVariables false
set_option linter.unusedSimpArgs false
set_option maxRecDepth 4000
set_option maxHeartbeats 1000000

theorem zKI (n : Int) (w0 : World) (hn : R64 n) : Calls Tryz.prog 5 #[.int .i64 n] w0 (zCn w0 (nI (zAu n))) := by
 have hmr := zEo n
 have hmi := zPg n
 refine zT (F0 := [(0, zI n)]) func5 rfl rfl rfl (.c .n) (Mem.nil _) ?_
 refine go 2 [] [3] .n ?_
 intro a w hs; refine zA0 hs rfl underlying3 underlying57 rfl ?_
 intro a w hs; refine zGy (X := BitVec.ofInt 64 n) (Y := 64#64) hs rfl rfl rfl (by decide) (by decide) rfl ?_
 intro a w hs; refine zAh (X := (BitVec.ofInt 64 n) % (64#64)) hs rfl rfl underlying57 underlying3 rfl ?_
 refine goL 2 [] [2] .n ⟨(by omega), ?_⟩
 intro a w hs; exact fin hs rfl rfl ⟨congrArg (Value.int .i64) hmi, rfl⟩
theorem zNk (u : Value) (L : List BR) (w0 : World) (hu : Rd w0 [] u 1 L.length (L.map BR.v)) (hLb : ∀ x ∈ L, Rd w0 [] x.v 1 x.bs.length (zF x.bs)) : Calls Tryz.prog 7 #[u] w0 (Ret w0 [] fun z N => ∃ b : Bool, z = .bool b ∧ (b = false → L.length ≤ 60) ∧ N = []) := by
 have hue := hu.le
 simp only [maxLen] at hue
 refine zT (F0 := [(0, u)]) func7 rfl rfl rfl (.c .n) (Mem.nil _) ?_
 refine go 3 [] [6, 3, 0] .n ?_
 intro a w hs; refine zAG hs rfl (hs.rd0 hu).isSl underlying22 rfl ?_
 refine goL 1 [] [8, 7, 6, 3, 0] .n ?_
 intro a w hs; refine zCA (fun mm_ a w => ∃ j : Nat, ∃ c : Int, mm_ = L.length - j ∧ St 24 [(0, u), (3, zI c), (6, u), (7, nI L.length), (8, nI j)] w0 [] [] a w ∧ j ≤ L.length) ⟨0, 0, rfl, hs.sub (.c rfl (.c rfl (.c rfl (.c rfl (.c rfl .n))))), by omega⟩ ?_
 clear hs w a; rintro mm_ a w ⟨j, c, rfl, hs, hI1_0⟩
 revert a w hs
 refine go 1 [] [9, 0, 3, 6, 7, 8] .n ?_
 refine ifG rfl (fun c_1 => ?_) (fun c_1 => ?_)
 ·
  refine go 0 [] [0, 3, 6, 7, 8] .n ?_
  intro a w hs; refine zA9 (j := j) hs rfl rfl (hs.rd0 hu) rfl (by omega) underlying22 sizeOf32 rfl ?_
  intro a w hs; refine zA7 (u := (L.getD j default).v) hs rfl (hs.rd0 hu) (zOe (by omega)) isAgg32 rfl ?_
  refine goL 3 [] [13, 12, 0, 6, 7, 8] .n ?_
  intro a w hs; refine zAG hs rfl (hs.rd0 (hLb (L.getD j default) (zT8 (by omega)))).isSl underlying32 rfl ?_
  intro a w hs; refine zDw hs rfl rfl rfl ?_
  refine goL 3 [] [8, 3, 0, 6, 7] .n ⟨(by omega), ?_⟩
  intro a w hs; refine ⟨_, ?_, j + 1, IntKind.i64.wrap (c + (((L.getD j default).bs.length : Nat) : Int)), rfl, hs.sub (.c rfl (.c rfl (.c rfl (.c rfl (.c rfl .n))))), by omega⟩
  omega
 refine go 1 [] [17, 3] .n ?_
 intro a w hs; refine zAG hs rfl (hs.rd0 hu).isSl underlying22 rfl ?_
 refine goL 2 [] [20, 3] .n ?_
 intro a w hs; refine zAB (b := decide (60 < ((L.length : Nat) : Int))) (fun c_2 => ?_) (fun c_2 => ?_)
 ·
  rw [c_2] at hs
  replace c_2 := of_decide_eq_true c_2
  revert a w hs
  refine go 4 [] [2] .n ?_
  intro a w hs; exact fin hs rfl rfl ⟨_, rfl, (by first | (intro h_; cases h_; done) | (intro _; omega)), rfl⟩
 rw [c_2] at hs
 replace c_2 := of_decide_eq_false c_2
 revert a w hs
 refine go 4 [] [2] .n ?_
 intro a w hs; exact fin hs rfl rfl ⟨_, rfl, (by first | (intro h_; cases h_; done) | (intro _; omega)), rfl⟩
end Go.Proofs.YtbacobmcfelmkaaGreat
