/- Walks of varint: what each function does, over the program of this seat. Printed by a program of this session. -/
import Derived.Test.YtbacobmcfelmkaaGreatQSxBasB
import Derived.Test.YtbacobmcfelmkaaGreatQSxRecs
import Derived.KernelRfl
import Derived.Test.YtbacobmcfelmkaaGreatProg
namespace Go.Proofs.YtbacobmcfelmkaaGreat
open Tryz
open Go Go.Sx Go.RowKit
set_option linter.unusedVariables false
set_option linter.unusedSimpArgs false
set_option maxRecDepth 4000
set_option maxHeartbeats 1000000

theorem zQz (X : BitVec 64) (w0 : World) : Calls Tryz.prog 133 #[.int .u64 (X.toNat : Int)] w0 (zCn w0 (nI (zBs X.toNat))) := by
 have hx := X.isLt
 refine zT (F0 := [(0, qI X)]) func133 rfl rfl rfl (.c .n) (Mem.nil _) ?_
 refine go 3 [] [4, 2, 0] .n ?_
 refine ifG rfl (fun c_1 => ?_) (fun c_1 => ?_)
 ·
  have l32 := zTc X 32 (by omega)
  have s32 := zEE X 32
  intro a w hs; simp only [Nat.reducePow] at s32
  revert a w hs
  refine go 1 [] [5] .n ?_
  intro a w hs; refine zBz (X := X) (m := 32) hs rfl rfl rfl (by decide) rfl ?_
  refine goL 4 [] [8, 2, 0] .n ?_
  refine ifG rfl (fun c_2 => ?_) (fun c_2 => ?_)
  ·
   have l16 := zTc (X >>> 32) 16 (by omega)
   have s16 := zEE (X >>> 32) 16
   intro a w hs; simp only [Nat.reducePow] at s16
   revert a w hs
   refine go 1 [] [9, 2] .n ?_
   intro a w hs; refine zBz (X := X >>> 32) (m := 16) hs rfl rfl rfl (by decide) rfl ?_
   refine goL 6 [] [14, 2, 0] .n ⟨by decide, ?_⟩
   refine ifG rfl (fun c_3 => ?_) (fun c_3 => ?_)
   ·
    have l8 := zTc ((X >>> 32) >>> 16) 8 (by omega)
    have s8 := zEE ((X >>> 32) >>> 16) 8
    intro a w hs; simp only [Nat.reducePow] at s8
    revert a w hs
    refine go 1 [] [15, 2] .n ?_
    intro a w hs; refine zBz (X := (X >>> 32) >>> 16) (m := 8) hs rfl rfl rfl (by decide) rfl ?_
    refine goL 6 [] [20, 19] .n ⟨by decide, ?_⟩
    intro a w hs; refine zBU (X := ((X >>> 32) >>> 16) >>> 8) hs rfl rfl underlying130 underlying5 rfl ?_
    intro a w hs; refine zG2 (Y := (((X >>> 32) >>> 16) >>> 8).setWidth 8) hs rfl rfl rfl underlying9 zDf rfl ?_
    intro a w hs; refine zCW hs rfl (bvr (BitVec.ofNat 8 (zBs ((((X >>> 32) >>> 16) >>> 8).setWidth 8).toNat))) underlying5 underlying3 rfl ?_
    refine goL 2 [] [2] .n ⟨(by omega), ?_⟩
    have l9 := zSt (((X >>> 32) >>> 16) >>> 8) (by omega)
    intro a w hs; exact fin hs rfl rfl ⟨congrArg (Value.int .i64) (by omega), rfl⟩
   refine go 2 [] [20, 19] .n ?_
   intro a w hs; refine zBU (X := (X >>> 32) >>> 16) hs rfl rfl underlying130 underlying5 rfl ?_
   intro a w hs; refine zG2 (Y := ((X >>> 32) >>> 16).setWidth 8) hs rfl rfl rfl underlying9 zDf rfl ?_
   intro a w hs; refine zCW hs rfl (bvr (BitVec.ofNat 8 (zBs (((X >>> 32) >>> 16).setWidth 8).toNat))) underlying5 underlying3 rfl ?_
   refine goL 2 [] [2] .n ⟨(by omega), ?_⟩
   have l9 := zSt ((X >>> 32) >>> 16) (by omega)
   intro a w hs; exact fin hs rfl rfl ⟨congrArg (Value.int .i64) (by omega), rfl⟩
  refine go 2 [] [14, 2, 0] .n ?_
  refine ifG rfl (fun c_4 => ?_) (fun c_4 => ?_)
  ·
   have l8 := zTc (X >>> 32) 8 (by omega)
   have s8 := zEE (X >>> 32) 8
   intro a w hs; simp only [Nat.reducePow] at s8
   revert a w hs
   refine go 1 [] [15, 2] .n ?_
   intro a w hs; refine zBz (X := X >>> 32) (m := 8) hs rfl rfl rfl (by decide) rfl ?_
   refine goL 6 [] [20, 19] .n ⟨by decide, ?_⟩
   intro a w hs; refine zBU (X := (X >>> 32) >>> 8) hs rfl rfl underlying130 underlying5 rfl ?_
   intro a w hs; refine zG2 (Y := ((X >>> 32) >>> 8).setWidth 8) hs rfl rfl rfl underlying9 zDf rfl ?_
   intro a w hs; refine zCW hs rfl (bvr (BitVec.ofNat 8 (zBs (((X >>> 32) >>> 8).setWidth 8).toNat))) underlying5 underlying3 rfl ?_
   refine goL 2 [] [2] .n ⟨(by omega), ?_⟩
   have l9 := zSt ((X >>> 32) >>> 8) (by omega)
   intro a w hs; exact fin hs rfl rfl ⟨congrArg (Value.int .i64) (by omega), rfl⟩
  refine go 2 [] [20, 19] .n ?_
  intro a w hs; refine zBU (X := X >>> 32) hs rfl rfl underlying130 underlying5 rfl ?_
  intro a w hs; refine zG2 (Y := (X >>> 32).setWidth 8) hs rfl rfl rfl underlying9 zDf rfl ?_
  intro a w hs; refine zCW hs rfl (bvr (BitVec.ofNat 8 (zBs ((X >>> 32).setWidth 8).toNat))) underlying5 underlying3 rfl ?_
  refine goL 2 [] [2] .n ⟨(by omega), ?_⟩
  have l9 := zSt (X >>> 32) (by omega)
  intro a w hs; exact fin hs rfl rfl ⟨congrArg (Value.int .i64) (by omega), rfl⟩
 refine go 2 [] [8, 2, 0] .n ?_
 refine ifG rfl (fun c_5 => ?_) (fun c_5 => ?_)
 ·
  have l16 := zTc X 16 (by omega)
  have s16 := zEE X 16
  intro a w hs; simp only [Nat.reducePow] at s16
  revert a w hs
  refine go 1 [] [9, 2] .n ?_
  intro a w hs; refine zBz (X := X) (m := 16) hs rfl rfl rfl (by decide) rfl ?_
  refine goL 6 [] [14, 2, 0] .n ⟨by decide, ?_⟩
  refine ifG rfl (fun c_6 => ?_) (fun c_6 => ?_)
  ·
   have l8 := zTc (X >>> 16) 8 (by omega)
   have s8 := zEE (X >>> 16) 8
   intro a w hs; simp only [Nat.reducePow] at s8
   revert a w hs
   refine go 1 [] [15, 2] .n ?_
   intro a w hs; refine zBz (X := X >>> 16) (m := 8) hs rfl rfl rfl (by decide) rfl ?_
   refine goL 6 [] [20, 19] .n ⟨by decide, ?_⟩
   intro a w hs; refine zBU (X := (X >>> 16) >>> 8) hs rfl rfl underlying130 underlying5 rfl ?_
   intro a w hs; refine zG2 (Y := ((X >>> 16) >>> 8).setWidth 8) hs rfl rfl rfl underlying9 zDf rfl ?_
   intro a w hs; refine zCW hs rfl (bvr (BitVec.ofNat 8 (zBs (((X >>> 16) >>> 8).setWidth 8).toNat))) underlying5 underlying3 rfl ?_
   refine goL 2 [] [2] .n ⟨(by omega), ?_⟩
   have l9 := zSt ((X >>> 16) >>> 8) (by omega)
   intro a w hs; exact fin hs rfl rfl ⟨congrArg (Value.int .i64) (by omega), rfl⟩
  refine go 2 [] [20, 19] .n ?_
  intro a w hs; refine zBU (X := X >>> 16) hs rfl rfl underlying130 underlying5 rfl ?_
  intro a w hs; refine zG2 (Y := (X >>> 16).setWidth 8) hs rfl rfl rfl underlying9 zDf rfl ?_
  intro a w hs; refine zCW hs rfl (bvr (BitVec.ofNat 8 (zBs ((X >>> 16).setWidth 8).toNat))) underlying5 underlying3 rfl ?_
  refine goL 2 [] [2] .n ⟨(by omega), ?_⟩
  have l9 := zSt (X >>> 16) (by omega)
  intro a w hs; exact fin hs rfl rfl ⟨congrArg (Value.int .i64) (by omega), rfl⟩
 refine go 2 [] [14, 2, 0] .n ?_
 refine ifG rfl (fun c_7 => ?_) (fun c_7 => ?_)
 ·
  have l8 := zTc X 8 (by omega)
  have s8 := zEE X 8
  intro a w hs; simp only [Nat.reducePow] at s8
  revert a w hs
  refine go 1 [] [15, 2] .n ?_
  intro a w hs; refine zBz (X := X) (m := 8) hs rfl rfl rfl (by decide) rfl ?_
  refine goL 6 [] [20, 19] .n ⟨by decide, ?_⟩
  intro a w hs; refine zBU (X := X >>> 8) hs rfl rfl underlying130 underlying5 rfl ?_
  intro a w hs; refine zG2 (Y := (X >>> 8).setWidth 8) hs rfl rfl rfl underlying9 zDf rfl ?_
  intro a w hs; refine zCW hs rfl (bvr (BitVec.ofNat 8 (zBs ((X >>> 8).setWidth 8).toNat))) underlying5 underlying3 rfl ?_
  refine goL 2 [] [2] .n ⟨(by omega), ?_⟩
  have l9 := zSt (X >>> 8) (by omega)
  intro a w hs; exact fin hs rfl rfl ⟨congrArg (Value.int .i64) (by omega), rfl⟩
 refine go 2 [] [20, 19] .n ?_
 intro a w hs; refine zBU (X := X) hs rfl rfl underlying130 underlying5 rfl ?_
 intro a w hs; refine zG2 (Y := (X).setWidth 8) hs rfl rfl rfl underlying9 zDf rfl ?_
 intro a w hs; refine zCW hs rfl (bvr (BitVec.ofNat 8 (zBs ((X).setWidth 8).toNat))) underlying5 underlying3 rfl ?_
 refine goL 2 [] [2] .n ⟨(by omega), ?_⟩
 have l9 := zSt X (by omega)
 intro a w hs; exact fin hs rfl rfl ⟨congrArg (Value.int .i64) (by omega), rfl⟩
theorem zS2 (X : BitVec 64) (w0 : World) : Calls Tryz.prog 113 #[.int .u64 (X.toNat : Int)] w0 (zCn w0 (nI (zCe X.toNat))) := by
 have hx := X.isLt
 have hl := zF1 hx
 refine zT (F0 := [(0, qI X)]) func113 rfl rfl rfl (.c .n) (Mem.nil _) ?_
 refine go 2 [] [3] .n ?_
 intro a w hs; refine zH (v := nI (zBs X.toNat)) hs (.c rfl .n) call133 (zQz X _) rfl ?_
 refine goL 3 [] [7] .n ⟨(by omega), (by omega), ?_⟩
 intro a w hs; refine zUE hs rfl rfl (by omega) rfl ?_
 refine goL 1 [] [2] .n ?_
 intro a w hs; exact fin hs rfl rfl ⟨congrArg (Value.int .i64) (zRG X), rfl⟩
theorem zEW (X : BitVec 64) (w0 : World) : Calls Tryz.prog 96 #[.int .u64 (X.toNat : Int)] w0 (Ret w0 [] fun r N => N = [row r 5 1 (zCe X.toNat) (zF (zDL X.toNat))]) := by
 have hvl := zCJ X.toNat
 have hvp := zES X.toNat
 refine zT (F0 := [(0, qI X)]) func96 rfl rfl rfl (.c .n) (Mem.nil _) ?_
 refine go 2 [] [5, 0] .n ?_
 intro a w hs; refine zH (v := nI (zCe X.toNat)) hs (.c rfl .n) call113 (zS2 X _) rfl ?_
 intro a w hs; refine zVm (m := zCe X.toNat) (bytes := 1) hs rfl rfl underlying32 (i := Tryz.t5) rfl rfl rfl rfl (by show 1 * (zCe X.toNat) ≤ 281474976710656; omega) (by omega) rfl ?_; intro v1
 refine cl (·.rerow .z (m' := zCe X.toNat) (xs' := zF (zK1 X (zCe X.toNat) 0)) (by omega) (by simp [zF, zIc, zK1])) ?_
 refine goL 2 [] [8, 3, 0] .n ?_
 intro a w hs; refine zAG hs rfl (zM (hs.mem.del .z)).isSl underlying32 rfl ?_
 refine goL 1 [] [10, 9, 3, 0] .n ?_
 intro a w hs; refine zCA (fun mm_ a w => ∃ k : Nat, mm_ = zCe X.toNat - k ∧ St 32 [(0, qI X), (3, v1), (9, nI (zCe X.toNat)), (10, zI (k : Int))] w0 [] [row v1 5 1 (zCe X.toNat) (zF (zK1 X (zCe X.toNat) k))] a w ∧ k ≤ zCe X.toNat) ⟨0, rfl, hs.sub (.c rfl (.c rfl (.c rfl (.c rfl .n)))), by omega⟩ ?_
 clear hs w a; rintro mm_ a w ⟨k, rfl, hs, hI1_0⟩
 have hlp := zDb X (zCe X.toNat) k
 revert a w hs
 refine go 1 [] [11, 0, 3, 9, 10] .n ?_
 refine ifG rfl (fun c_2 => ?_) (fun c_2 => ?_)
 ·
  refine go 7 [] [17, 15, 14, 13, 0, 3, 9, 10] .n ⟨(by omega), ?_⟩
  have hv_ : (7 * (k : Int) : Int) = (((7 * k : Nat) : Int) : Int) := by omega
  intro a w hs; rw [hv_] at hs; clear hv_
  refine zBz (X := X) (m := (7 * k)) hs rfl rfl rfl rfl rfl ?_
  intro a w hs; refine zBU (X := X >>> (7 * k)) hs rfl rfl underlying130 underlying5 rfl ?_
  intro a w hs; refine zJZ (X := (X >>> (7 * k)).setWidth 8) (Y := 128#8) hs rfl rfl rfl (by decide) rfl ?_
  intro a w hs; refine zA9 (j := k) hs rfl rfl (zM (hs.mem.del .z)) rfl (by omega) underlying32 sizeOf5 rfl ?_
  intro a w hs; refine zMX hs rfl rfl .z (by omega) rfl sizeOf5 ?_
  refine cl (·.rerow .z (m' := zCe X.toNat) (xs' := zF ((zK1 X (zCe X.toNat) k).set k (((X >>> (7 * k)).setWidth 8) ||| (128#8)))) (rfl) ((zE2 _ _ _).symm)) ?_
  refine goL 2 [] [10, 0, 3, 9] .n ⟨(by omega), ?_⟩
  intro a w hs; refine ⟨_, ?_, k + 1, rfl, hs.sub (.c rfl (.c rfl (.c rfl (.c rfl .n)))), by omega⟩
  omega
 refine go 2 [] [24, 23, 3] .n ?_
 intro a w hs; refine zAG hs rfl (zM (hs.mem.del .z)).isSl underlying32 rfl ?_
 refine goL 1 [] [26, 23, 3] .n ⟨(by omega), ?_⟩
 have hv_ : (((zCe X.toNat : Nat) : Int) - 1 : Int) = (((zCe X.toNat - 1 : Nat) : Int) : Int) := by omega
 intro a w hs; rw [hv_] at hs; clear hv_
 refine zA9 (j := (zCe X.toNat - 1)) hs rfl rfl (zM (hs.mem.del .z)) rfl (by omega) underlying32 sizeOf5 rfl ?_
 intro a w hs; refine zA7 hs rfl (zM (hs.mem.del .z)) (zA5 (zK1 X (zCe X.toNat) k) (by first | omega | (simp; omega))) isAgg5 rfl ?_
 intro a w hs; refine zEw (X := (zK1 X (zCe X.toNat) k).getD (zCe X.toNat - 1) 0) (Y := 128#8) hs rfl rfl rfl (by decide) rfl ?_
 intro a w hs; refine zA9 (j := (zCe X.toNat - 1)) hs rfl rfl (zM (hs.mem.del .z)) rfl (by omega) underlying32 sizeOf5 rfl ?_
 intro a w hs; refine zMX hs rfl rfl .z (by omega) rfl sizeOf5 ?_
 refine cl (·.rerow .z (m' := zCe X.toNat) (xs' := zF ((zK1 X (zCe X.toNat) k).set (zCe X.toNat - 1) (((zK1 X (zCe X.toNat) k).getD (zCe X.toNat - 1) 0) &&& ~~~(128#8)))) (rfl) ((zE2 _ _ _).symm)) ?_
 refine goL 2 [] [2] .n ?_
 intro a w hs; replace hs := hs.rerow .z (m' := zCe X.toNat) (xs' := zF (zDL X.toNat)) (by omega) (by rw [show k = zCe X.toNat by omega]; exact congrArg zF (zU3 X _ rfl))
 exact fin hs rfl rfl rfl
theorem zEN (X : BitVec 64) (w0 : World) : Calls Tryz.prog 109 #[.int .u64 (X.toNat : Int)] w0 (Ret w0 [] fun r N => N = [row r 5 1 (zCe X.toNat) (zF (zDL X.toNat))]) := by
 have hvl := zCJ X.toNat
 have hvp := zES X.toNat
 refine zT (F0 := [(0, qI X)]) func109 rfl rfl rfl (.c .n) (Mem.nil _) ?_
 refine go 2 [] [3, 0] .n ?_
 refine cl (·.addNil 5 1) ?_
 intro a w hs; refine zCA (fun mm_ a w => ∃ r : Value, ∃ o : List zR, ∃ Y : BitVec 64, mm_ = Y.toNat ∧ St 20 [(0, qI Y), (3, r)] w0 [] [row r 5 1 o.length (zF o)] a w ∧ o ++ zDL Y.toNat = zDL X.toNat) ⟨.slice none 0 0, [], X, rfl, hs.sub (.c rfl (.c rfl .n)), rfl⟩ ?_
 clear hs w a; rintro mm_ a w ⟨r, o, Y, rfl, hs, hI1_0⟩
 have hlo : o.length + zCe Y.toNat = zCe X.toNat := by have := congrArg List.length hI1_0; simpa [zCe] using this
 have hyp := zES Y.toNat
 revert a w hs
 refine go 2 [] [5, 0, 3] .n ?_
 refine ifG rfl (fun c_1 => ?_) (fun c_1 => ?_)
 ·
  refine go 2 [] [7, 6, 0] .n ?_
  intro a w hs; refine zGy (X := Y) (Y := 128#64) hs rfl rfl rfl (by decide) (by decide) rfl ?_
  intro a w hs; refine zDJ (X := 128#64) (Y := Y % (128#64)) hs rfl (by decide) rfl rfl rfl ?_
  intro a w hs; refine zBU (X := (128#64) + (Y % (128#64))) hs rfl rfl underlying130 underlying5 rfl ?_
  refine goL 1 [] [11, 6, 0] .n (fun g2 => ?_)
  intro a w hs; refine zAj (size := 1) (bytes := 1) hs rfl rfl (.s .z) (zAa (m := 1) (size := 1) (hs.mem.del .z) rfl (by decide)) (by simp [Value.oneCell']) underlying32 (i := Tryz.t5) rfl rfl rfl rfl rfl (by decide) (by omega) (by simp only [maxLen]; omega) rfl ?_; intro v3
  refine cl (·.drop (.c (.s .z) .n)) ?_
  refine goL 2 [] [13, 3] .n ?_
  intro a w hs; refine zGi (X := Y) (Y := 128#64) hs rfl rfl rfl (by decide) (by decide) rfl ?_
  refine goL 1 [] [0, 3] .n ?_
  intro a w hs; replace hs := hs.rerow .z (m' := (o ++ [((128#64) + (Y % (128#64))).setWidth 8]).length) (xs' := zF (o ++ [((128#64) + (Y % (128#64))).setWidth 8])) (by simp) (by rw [zAi]; rfl)
  have hdv : (Y / 128#64).toNat = Y.toNat / 128 := by rw [BitVec.toNat_udiv]; rfl
  refine ⟨_, ?_, v3, (o ++ [((128#64) + (Y % (128#64))).setWidth 8]), (Y / 128#64), rfl, hs.sub (.c rfl (.c rfl .n)), by rw [List.append_assoc, List.singleton_append, ← zQS Y (by omega)]; exact hI1_0⟩
  omega
 refine go 2 [] [16, 15] .n ?_
 intro a w hs; refine zBU (X := Y) hs rfl rfl underlying130 underlying5 rfl ?_
 refine goL 1 [] [18, 15] .n (fun g4 => ?_)
 intro a w hs; refine zAj (size := 1) (bytes := 1) hs rfl rfl (.s .z) (zAa (m := 1) (size := 1) (hs.mem.del .z) rfl (by decide)) (by simp [Value.oneCell']) underlying32 (i := Tryz.t5) rfl rfl rfl rfl rfl (by decide) (by omega) (by simp only [maxLen]; omega) rfl ?_; intro v5
 refine cl (·.drop (.c (.s .z) .n)) ?_
 refine goL 1 [] [2] .n ?_
 intro a w hs; replace hs := hs.rerow .z (m' := zCe X.toNat) (xs' := zF (zDL X.toNat)) (by rw [zFD (by omega)] at hlo; omega) (by rw [← hI1_0, zRQ Y (by omega), zAi]; rfl)
 exact fin hs rfl rfl rfl
theorem zVN (v : Value) (m : Nat) (bs : List zR) (w0 : World) (hb : Rd w0 [] v 1 m (zF bs)) : Calls Tryz.prog 102 #[v] w0 (zCn w0 (.tuple #[.int .u64 (((zBu bs).1.toNat : Nat) : Int), nI ((zBu bs).2.1), nI ((zBu bs).2.2)])) := by
 have hbl : bs.length = m := by have := hb.len; simpa [zF] using this
 have hbe : m ≤ maxLen := hb.le
 simp only [maxLen] at hbe
 refine zT (F0 := [(0, v)]) func102 rfl rfl rfl (.c .n) (Mem.nil _) ?_
 refine go 4 [] [9, 0] .n ?_
 intro a w hs; refine zAG hs rfl (hs.rd0 hb).isSl underlying32 rfl ?_
 refine goL 1 [] [11, 0] .n ?_
 refine ifG rfl (fun c_1 => ?_) (fun c_1 => ?_)
 ·
  refine go 3 [] [4, 3, 2] .n ?_
  intro a w hs; exact zDE hs rfl rfl rfl rfl ⟨by first | (rw [zAo (by omega)]; rfl) | (rw [zCV (i := i) hI1_2 (by omega) (by omega) (by omega) (by rw [← BitVec.toNat_inj]; omega)]; rfl) | (rw [zAc (i := i) hI1_2 (by omega) (by omega) (by omega) (by omega)]; rfl) | (rw [zC1 (i := i) hI1_2 (by omega) (by omega) (by omega) (by rw [← BitVec.toNat_inj]; omega) (by omega), ← zHG bs i (by omega) (by omega)]; rfl) | (rw [zAb (by omega)]; rfl) | (rw [zAS (by omega) (by omega) (by omega)]; rfl), rfl⟩
 refine go 2 [] [12, 5, 0] .n ?_
 intro a w hs; refine zAG hs rfl (hs.rd0 hb).isSl underlying32 rfl ?_
 refine goL 2 [] [15, 14, 5, 0] .n ?_
 intro a w hs; refine zCA (fun mm_ a w => ∃ i : Nat, mm_ = 10 - i ∧ St 60 [(0, v), (5, qI (BitVec.ofNat 64 (zEX (bs.take i)))), (14, zI (min (m : Int) 10)), (15, zI (i : Int))] w0 [] [] a w ∧ i ≤ m ∧ i ≤ 10 ∧ i ≤ zBf 10 bs) ⟨0, rfl, hs.sub (.c rfl (.c (congrArg (fun z : BitVec 64 => some (Value.int .u64 ((z.toNat : Nat) : Int))) (show 0#64 = BitVec.ofNat 64 (zEX (bs.take 0)) by rw [List.take_zero]; rfl)) (.c rfl (.c rfl .n)))), by omega, by omega, Nat.zero_le _⟩ ?_
 clear hs w a; rintro mm_ a w ⟨i, rfl, hs, hI1_0, hI1_1, hI1_2⟩
 revert a w hs
 refine go 1 [] [16, 0, 5, 14, 15] .n ?_
 refine ifG rfl (fun c_2 => ?_) (fun c_2 => ?_)
 ·
  refine go 4 [] [19, 18, 6, 0, 5, 14, 15] .n ?_
  intro a w hs; refine zA9 (j := i) hs rfl rfl (hs.rd0 hb) rfl (by omega) underlying32 sizeOf5 rfl ?_
  intro a w hs; refine zA7 hs rfl (hs.rd0 hb) (zA5 bs (by first | omega | (simp; omega))) isAgg5 rfl ?_
  refine goL 2 [] [22, 7, 6, 0, 5, 14, 15] .n ?_
  intro a w hs; refine zEw (X := bs.getD i 0) (Y := 128#8) hs rfl rfl rfl (by decide) rfl ?_
  intro a w hs; refine zC4 (X := (bs.getD i 0) &&& ~~~(128#8)) hs rfl rfl underlying5 underlying130 rfl ?_
  refine goL 2 [] [26, 24, 7, 6, 0, 5, 14, 15] .n ⟨(by omega), ?_⟩
  have hv_ : (7 * (i : Int) : Int) = (((7 * i : Nat) : Int) : Int) := by omega
  intro a w hs; rw [hv_] at hs; clear hv_
  refine zM5 (X := ((bs.getD i 0) &&& ~~~(128#8)).setWidth 64) (m := (7 * i)) hs rfl rfl rfl rfl rfl ?_
  refine goL 4 [] [30, 28, 8, 7, 6, 0, 5, 14, 15] .n ⟨(by omega), ?_⟩
  have hv_ : (7 * (i : Int) : Int) = (((7 * i : Nat) : Int) : Int) := by omega
  intro a w hs; rw [hv_] at hs; clear hv_
  refine zBz (X := (((bs.getD i 0) &&& ~~~(128#8)).setWidth 64) <<< (7 * i)) (m := (7 * i)) hs rfl rfl rfl rfl rfl ?_
  refine goL 1 [] [32, 31, 8, 7, 6, 0, 5, 14, 15] .n ?_
  intro a w hs; refine zEw (X := bs.getD i 0) (Y := 128#8) hs rfl rfl rfl (by decide) rfl ?_
  intro a w hs; refine zC4 (X := (bs.getD i 0) &&& ~~~(128#8)) hs rfl rfl underlying5 underlying130 rfl ?_
  refine goL 2 [] [36, 8, 7, 6, 0, 5, 14, 15] .n ?_
  intro a w hs; refine zAB (b := !(((((((((bs.getD i 0) &&& ~~~(128#8)).setWidth 64) <<< (7 * i)) >>> (7 * i)).toNat : Nat) : Int) : Int) == (((((bs.getD i 0) &&& ~~~(128#8)).setWidth 64).toNat : Nat) : Int))) (fun c_3 => ?_) (fun c_3 => ?_)
  ·
   rw [c_3] at hs
   replace c_3 := zHB c_3
   replace c_3 := zAK c_3
   revert a w hs
   refine go 3 [] [39, 8, 7, 6, 0, 5, 14, 15] .n ?_
   refine ifG rfl (fun c_4 => ?_) (fun c_4 => ?_)
   ·
    refine go 3 [] [4, 3, 2] .n ?_
    intro a w hs; exact zDE hs rfl rfl rfl rfl ⟨by first | (rw [zAo (by omega)]; rfl) | (rw [zCV (i := i) hI1_2 (by omega) (by omega) (by omega) (by rw [← BitVec.toNat_inj]; omega)]; rfl) | (rw [zAc (i := i) hI1_2 (by omega) (by omega) (by omega) (by omega)]; rfl) | (rw [zC1 (i := i) hI1_2 (by omega) (by omega) (by omega) (by rw [← BitVec.toNat_inj]; omega) (by omega), ← zHG bs i (by omega) (by omega)]; rfl) | (rw [zAb (by omega)]; rfl) | (rw [zAS (by omega) (by omega) (by omega)]; rfl), rfl⟩
   refine go 2 [] [41, 40, 7, 6, 0, 14, 15] .n ?_
   intro a w hs; refine zKO (X := BitVec.ofNat 64 (zEX (bs.take i))) (Y := (((bs.getD i 0) &&& ~~~(128#8)).setWidth 64) <<< (7 * i)) hs rfl rfl rfl rfl rfl ?_
   refine goL 4 [] [46, 5, 7, 6, 0, 14, 15] .n ?_
   refine ifG rfl (fun c_5 => ?_) (fun c_5 => ?_)
   ·
    refine go 2 [] [15, 5, 0, 14] .n ⟨(by omega), ?_⟩
    intro a w hs; rw [zHG bs i (by omega) (by omega)] at hs
    refine ⟨_, ?_, i + 1, rfl, hs.sub (.c rfl (.c rfl (.c rfl (.c rfl .n)))), by omega, by omega, zE4 10 i bs hI1_2 (by omega) (by omega) (by omega)⟩
    omega
   refine go 3 [] [52, 5, 6] .n ?_
   intro a w hs; refine zAB (b := ((((bs.getD i 0).toNat : Nat) : Int) : Int) == 0) (fun c_6 => ?_) (fun c_6 => ?_)
   ·
    rw [c_6] at hs
    replace c_6 := eq_of_beq c_6
    revert a w hs
    refine go 4 [] [49, 5, 6] .n ?_
    refine ifG rfl (fun c_7 => ?_) (fun c_7 => ?_)
    ·
     refine go 3 [] [4, 3, 2] .n ?_
     intro a w hs; exact zDE hs rfl rfl rfl rfl ⟨by first | (rw [zAo (by omega)]; rfl) | (rw [zCV (i := i) hI1_2 (by omega) (by omega) (by omega) (by rw [← BitVec.toNat_inj]; omega)]; rfl) | (rw [zAc (i := i) hI1_2 (by omega) (by omega) (by omega) (by omega)]; rfl) | (rw [zC1 (i := i) hI1_2 (by omega) (by omega) (by omega) (by rw [← BitVec.toNat_inj]; omega) (by omega), ← zHG bs i (by omega) (by omega)]; rfl) | (rw [zAb (by omega)]; rfl) | (rw [zAS (by omega) (by omega) (by omega)]; rfl), rfl⟩
    refine go 6 [] [4, 3, 2] .n ⟨(by omega), ?_⟩
    intro a w hs; exact zDE hs rfl rfl rfl rfl ⟨by first | (rw [zAo (by omega)]; rfl) | (rw [zCV (i := i) hI1_2 (by omega) (by omega) (by omega) (by rw [← BitVec.toNat_inj]; omega)]; rfl) | (rw [zAc (i := i) hI1_2 (by omega) (by omega) (by omega) (by omega)]; rfl) | (rw [zC1 (i := i) hI1_2 (by omega) (by omega) (by omega) (by rw [← BitVec.toNat_inj]; omega) (by omega), ← zHG bs i (by omega) (by omega)]; rfl) | (rw [zAb (by omega)]; rfl) | (rw [zAS (by omega) (by omega) (by omega)]; rfl), rfl⟩
   rw [c_6] at hs
   replace c_6 := zAK c_6
   revert a w hs
   refine go 11 [] [4, 3, 2] .n ⟨(by omega), ?_⟩
   intro a w hs; exact zDE hs rfl rfl rfl rfl ⟨by first | (rw [zAo (by omega)]; rfl) | (rw [zCV (i := i) hI1_2 (by omega) (by omega) (by omega) (by rw [← BitVec.toNat_inj]; omega)]; rfl) | (rw [zAc (i := i) hI1_2 (by omega) (by omega) (by omega) (by omega)]; rfl) | (rw [zC1 (i := i) hI1_2 (by omega) (by omega) (by omega) (by rw [← BitVec.toNat_inj]; omega) (by omega), ← zHG bs i (by omega) (by omega)]; rfl) | (rw [zAb (by omega)]; rfl) | (rw [zAS (by omega) (by omega) (by omega)]; rfl), rfl⟩
  rw [c_3] at hs
  replace c_3 := zHC c_3
  replace c_3 := eq_of_beq c_3
  revert a w hs
  refine go 6 [] [41, 40, 7, 6, 0, 14, 15] .n ?_
  intro a w hs; refine zKO (X := BitVec.ofNat 64 (zEX (bs.take i))) (Y := (((bs.getD i 0) &&& ~~~(128#8)).setWidth 64) <<< (7 * i)) hs rfl rfl rfl rfl rfl ?_
  refine goL 4 [] [46, 5, 7, 6, 0, 14, 15] .n ?_
  refine ifG rfl (fun c_8 => ?_) (fun c_8 => ?_)
  ·
   refine go 2 [] [15, 5, 0, 14] .n ⟨(by omega), ?_⟩
   intro a w hs; rw [zHG bs i (by omega) (by omega)] at hs
   refine ⟨_, ?_, i + 1, rfl, hs.sub (.c rfl (.c rfl (.c rfl (.c rfl .n)))), by omega, by omega, zE4 10 i bs hI1_2 (by omega) (by omega) (by omega)⟩
   omega
  refine go 3 [] [52, 5, 6] .n ?_
  intro a w hs; refine zAB (b := ((((bs.getD i 0).toNat : Nat) : Int) : Int) == 0) (fun c_9 => ?_) (fun c_9 => ?_)
  ·
   rw [c_9] at hs
   replace c_9 := eq_of_beq c_9
   revert a w hs
   refine go 4 [] [49, 5, 6] .n ?_
   refine ifG rfl (fun c_10 => ?_) (fun c_10 => ?_)
   ·
    refine go 3 [] [4, 3, 2] .n ?_
    intro a w hs; exact zDE hs rfl rfl rfl rfl ⟨by first | (rw [zAo (by omega)]; rfl) | (rw [zCV (i := i) hI1_2 (by omega) (by omega) (by omega) (by rw [← BitVec.toNat_inj]; omega)]; rfl) | (rw [zAc (i := i) hI1_2 (by omega) (by omega) (by omega) (by omega)]; rfl) | (rw [zC1 (i := i) hI1_2 (by omega) (by omega) (by omega) (by rw [← BitVec.toNat_inj]; omega) (by omega), ← zHG bs i (by omega) (by omega)]; rfl) | (rw [zAb (by omega)]; rfl) | (rw [zAS (by omega) (by omega) (by omega)]; rfl), rfl⟩
   refine go 6 [] [4, 3, 2] .n ⟨(by omega), ?_⟩
   intro a w hs; exact zDE hs rfl rfl rfl rfl ⟨by first | (rw [zAo (by omega)]; rfl) | (rw [zCV (i := i) hI1_2 (by omega) (by omega) (by omega) (by rw [← BitVec.toNat_inj]; omega)]; rfl) | (rw [zAc (i := i) hI1_2 (by omega) (by omega) (by omega) (by omega)]; rfl) | (rw [zC1 (i := i) hI1_2 (by omega) (by omega) (by omega) (by rw [← BitVec.toNat_inj]; omega) (by omega), ← zHG bs i (by omega) (by omega)]; rfl) | (rw [zAb (by omega)]; rfl) | (rw [zAS (by omega) (by omega) (by omega)]; rfl), rfl⟩
  rw [c_9] at hs
  replace c_9 := zAK c_9
  revert a w hs
  refine go 11 [] [4, 3, 2] .n ⟨(by omega), ?_⟩
  intro a w hs; exact zDE hs rfl rfl rfl rfl ⟨by first | (rw [zAo (by omega)]; rfl) | (rw [zCV (i := i) hI1_2 (by omega) (by omega) (by omega) (by rw [← BitVec.toNat_inj]; omega)]; rfl) | (rw [zAc (i := i) hI1_2 (by omega) (by omega) (by omega) (by omega)]; rfl) | (rw [zC1 (i := i) hI1_2 (by omega) (by omega) (by omega) (by rw [← BitVec.toNat_inj]; omega) (by omega), ← zHG bs i (by omega) (by omega)]; rfl) | (rw [zAb (by omega)]; rfl) | (rw [zAS (by omega) (by omega) (by omega)]; rfl), rfl⟩
 refine go 1 [] [57] .n ?_
 intro a w hs; refine zAG hs rfl (hs.rd0 hb).isSl underlying32 rfl ?_
 refine goL 1 [] [59] .n ?_
 refine ifG rfl (fun c_11 => ?_) (fun c_11 => ?_)
 ·
  refine go 3 [] [4, 3, 2] .n ?_
  intro a w hs; exact zDE hs rfl rfl rfl rfl ⟨by first | (rw [zAo (by omega)]; rfl) | (rw [zCV (i := i) hI1_2 (by omega) (by omega) (by omega) (by rw [← BitVec.toNat_inj]; omega)]; rfl) | (rw [zAc (i := i) hI1_2 (by omega) (by omega) (by omega) (by omega)]; rfl) | (rw [zC1 (i := i) hI1_2 (by omega) (by omega) (by omega) (by rw [← BitVec.toNat_inj]; omega) (by omega), ← zHG bs i (by omega) (by omega)]; rfl) | (rw [zAb (by omega)]; rfl) | (rw [zAS (by omega) (by omega) (by omega)]; rfl), rfl⟩
 refine go 3 [] [4, 3, 2] .n ?_
 intro a w hs; exact zDE hs rfl rfl rfl rfl ⟨by first | (rw [zAo (by omega)]; rfl) | (rw [zCV (i := i) hI1_2 (by omega) (by omega) (by omega) (by rw [← BitVec.toNat_inj]; omega)]; rfl) | (rw [zAc (i := i) hI1_2 (by omega) (by omega) (by omega) (by omega)]; rfl) | (rw [zC1 (i := i) hI1_2 (by omega) (by omega) (by omega) (by rw [← BitVec.toNat_inj]; omega) (by omega), ← zHG bs i (by omega) (by omega)]; rfl) | (rw [zAb (by omega)]; rfl) | (rw [zAS (by omega) (by omega) (by omega)]; rfl), rfl⟩
theorem zTT (v : Value) (m : Nat) (bs : List zR) (w0 : World) (hb : Rd w0 [] v 1 m (zF bs)) : Calls Tryz.prog 89 #[v] w0 (zCn w0 (.tuple #[.int .u64 (((zBu bs).1.toNat : Nat) : Int), nI ((zBu bs).2.1), nI ((zBu bs).2.2)])) := by
 have hbl : bs.length = m := by have := hb.len; simpa [zF] using this
 have hbe : m ≤ maxLen := hb.le
 simp only [maxLen] at hbe
 refine zT (F0 := [(0, v)]) func89 rfl rfl rfl (.c .n) (Mem.nil _) ?_
 refine go 4 [] [8, 0] .n ?_
 intro a w hs; refine zAG hs rfl (hs.rd0 hb).isSl underlying32 rfl ?_
 refine goL 1 [] [10, 0] .n ?_
 refine ifG rfl (fun c_1 => ?_) (fun c_1 => ?_)
 ·
  refine go 3 [] [4, 3, 2] .n ?_
  intro a w hs; exact zDE hs rfl rfl rfl rfl ⟨by first | (exfalso; omega) | (rw [zAo (by omega)]; rfl) | (rw [zAb (by omega)]; rfl) | (rw [zAS (by omega) (by omega) (by omega)]; rfl) | (rw [zAm (n := n) (q := q) hI1_2 (by omega) (by omega) (by omega) (by omega) (by omega) (by omega)]; rfl) | (rw [zAc (i := n) hI1_2 (by omega) (by omega) (by omega) (by omega)]; rfl) | (rw [zBJ (n := n) hI1_2 (by omega) (by omega) (by omega) (hI2_1 (by omega)) (by omega), show zAp bs n 0 = zAp bs n q by rw [show q = 0 by omega]]; rfl), rfl⟩
 refine go 1 [] [5, 0] .n ?_
 intro a w hs; refine zCA (fun mm_ a w => ∃ n : Nat, mm_ = 10 - n ∧ St 62 [(0, v), (5, zI (n : Int))] w0 [] [] a w ∧ n ≤ m ∧ n ≤ 10 ∧ n ≤ zBf 10 bs) ⟨0, rfl, hs.sub (.c rfl (.c rfl .n)), by omega, by omega, Nat.zero_le _⟩ ?_
 clear hs w a; rintro mm_ a w ⟨n, rfl, hs, hI1_0, hI1_1, hI1_2⟩
 revert a w hs
 refine go 3 [] [13, 0, 5] .n ?_
 intro a w hs; refine zAB (b := decide ((n : Int) < 10)) (fun c_2 => ?_) (fun c_2 => ?_)
 ·
  rw [c_2] at hs
  replace c_2 := of_decide_eq_true c_2
  revert a w hs
  refine go 2 [] [15, 14, 13, 0, 5] .n ?_
  intro a w hs; refine zC hs rfl rfl rfl ?_
  refine zAG hs rfl (hs.rd0 hb).isSl underlying32 rfl ?_
  refine goL 3 [] [19, 0, 5] .n ?_
  intro a w hs; refine zAB (b := decide ((n : Int) < (m : Int))) (fun c_3 => ?_) (fun c_3 => ?_)
  ·
   rw [c_3] at hs
   replace c_3 := of_decide_eq_true c_3
   revert a w hs
   refine go 2 [] [21, 20, 19, 0, 5] .n ?_
   intro a w hs; refine zC hs rfl rfl rfl ?_
   refine zA9 (j := n) hs rfl rfl (hs.rd0 hb) rfl (by omega) underlying32 sizeOf5 rfl ?_
   intro a w hs; refine zC hs rfl rfl rfl ?_
   refine zA7 hs rfl (hs.rd0 hb) (zA5 bs (by first | omega | (simp; omega))) isAgg5 rfl ?_
   refine goL 2 [] [25, 0, 5] .n ?_
   refine ifG rfl (fun c_4 => ?_) (fun c_4 => ?_)
   ·
    refine go 3 [] [5, 0] .n ⟨(by omega), ?_⟩
    intro a w hs; refine ⟨_, ?_, n + 1, rfl, hs.sub (.c rfl (.c rfl .n)), by omega, by omega, zE4 10 n bs hI1_2 (by omega) (by omega) (by omega)⟩
    omega
   refine go 2 [] [29, 0, 5] .n ?_
   refine ifG rfl (fun c_5 => ?_) (fun c_5 => ?_)
   ·
    refine go 3 [] [4, 3, 2] .n ?_
    intro a w hs; exact zDE hs rfl rfl rfl rfl ⟨by first | (exfalso; omega) | (rw [zAo (by omega)]; rfl) | (rw [zAb (by omega)]; rfl) | (rw [zAS (by omega) (by omega) (by omega)]; rfl) | (rw [zAm (n := n) (q := q) hI1_2 (by omega) (by omega) (by omega) (by omega) (by omega) (by omega)]; rfl) | (rw [zAc (i := n) hI1_2 (by omega) (by omega) (by omega) (by omega)]; rfl) | (rw [zBJ (n := n) hI1_2 (by omega) (by omega) (by omega) (hI2_1 (by omega)) (by omega), show zAp bs n 0 = zAp bs n q by rw [show q = 0 by omega]]; rfl), rfl⟩
   refine go 2 [] [31, 30, 0, 5] .n ?_
   intro a w hs; refine zAG hs rfl (hs.rd0 hb).isSl underlying32 rfl ?_
   refine goL 1 [] [33, 0, 5] .n ?_
   refine ifG rfl (fun c_6 => ?_) (fun c_6 => ?_)
   ·
    refine go 3 [] [4, 3, 2] .n ?_
    intro a w hs; exact zDE hs rfl rfl rfl rfl ⟨by first | (exfalso; omega) | (rw [zAo (by omega)]; rfl) | (rw [zAb (by omega)]; rfl) | (rw [zAS (by omega) (by omega) (by omega)]; rfl) | (rw [zAm (n := n) (q := q) hI1_2 (by omega) (by omega) (by omega) (by omega) (by omega) (by omega)]; rfl) | (rw [zAc (i := n) hI1_2 (by omega) (by omega) (by omega) (by omega)]; rfl) | (rw [zBJ (n := n) hI1_2 (by omega) (by omega) (by omega) (hI2_1 (by omega)) (by omega), show zAp bs n 0 = zAp bs n q by rw [show q = 0 by omega]]; rfl), rfl⟩
   refine go 3 [] [7, 6, 0, 5] .n ?_
   intro a w hs; refine zCA (fun mm_ a w => ∃ q : Nat, mm_ = 1 + q ∧ St 62 [(0, v), (5, zI (n : Int)), (6, qI (BitVec.ofNat 64 (zAp bs n q))), (7, zI ((q : Int) - 1))] w0 [] [] a w ∧ q ≤ n + 1 ∧ (q = 0 → zAp bs n 1 ≤ 144115188075855871)) ⟨(n + 1), rfl, hs.sub (.c rfl (.c rfl (.c (congrArg (fun z : BitVec 64 => some (Value.int .u64 ((z.toNat : Nat) : Int))) (show 0#64 = BitVec.ofNat 64 (zAp bs n (n + 1)) by rw [zHs bs n (by omega)])) (.c (congrArg (fun z : Int => some (Value.int .i64 z)) (show (n : Int) = ((n + 1 : Nat) : Int) - 1 by omega)) .n)))), by omega, by omega⟩ ?_
   clear hs w a; rintro mm_ a w ⟨q, rfl, hs, hI2_0, hI2_1⟩
   revert a w hs
   refine go 2 [] [36, 0, 5, 6, 7] .n ?_
   refine ifG rfl (fun c_7 => ?_) (fun c_7 => ?_)
   ·
    have hv_ : ((q : Int) - 1 : Int) = (((q - 1 : Nat) : Int) : Int) := by omega
    intro a w hs; rw [hv_] at hs; clear hv_
    have htl := zIA bs n q (by omega) (by omega) (by omega) (by omega)
    revert a w hs
    refine go 2 [] [40, 0, 5, 6, 7] .n ?_
    refine ifG rfl (fun c_8 => ?_) (fun c_8 => ?_)
    ·
     refine go 3 [] [4, 3, 2] .n ?_
     intro a w hs; exact zDE hs rfl rfl rfl rfl ⟨by first | (exfalso; omega) | (rw [zAo (by omega)]; rfl) | (rw [zAb (by omega)]; rfl) | (rw [zAS (by omega) (by omega) (by omega)]; rfl) | (rw [zAm (n := n) (q := q) hI1_2 (by omega) (by omega) (by omega) (by omega) (by omega) (by omega)]; rfl) | (rw [zAc (i := n) hI1_2 (by omega) (by omega) (by omega) (by omega)]; rfl) | (rw [zBJ (n := n) hI1_2 (by omega) (by omega) (by omega) (hI2_1 (by omega)) (by omega), show zAp bs n 0 = zAp bs n q by rw [show q = 0 by omega]]; rfl), rfl⟩
    refine go 1 [] [41, 0, 5, 7] .n ?_
    intro a w hs; refine zD7 (X := 128#64) (Y := BitVec.ofNat 64 (zAp bs n q)) hs rfl (by decide) rfl rfl rfl ?_
    refine goL 2 [] [44, 43, 42, 0, 5, 7] .n ?_
    intro a w hs; refine zA9 (j := (q - 1)) hs rfl rfl (hs.rd0 hb) rfl (by omega) underlying32 sizeOf5 rfl ?_
    intro a w hs; refine zA7 hs rfl (hs.rd0 hb) (zA5 bs (by first | omega | (simp; omega))) isAgg5 rfl ?_
    intro a w hs; refine zFw (X := bs.getD (q - 1) 0) (Y := 128#8) hs rfl rfl rfl (by decide) (by decide) rfl ?_
    intro a w hs; refine zC4 (X := (bs.getD (q - 1) 0) % (128#8)) hs rfl rfl underlying5 underlying130 rfl ?_
    intro a w hs; refine zDJ (X := (128#64) * (BitVec.ofNat 64 (zAp bs n q))) (Y := ((bs.getD (q - 1) 0) % (128#8)).setWidth 64) hs rfl rfl rfl rfl rfl ?_
    refine goL 4 [] [7, 6, 0, 5] .n ⟨(by omega), ?_⟩
    intro a w hs; rw [zGb bs n q (by omega) (by omega) (by omega)] at hs
    refine ⟨_, ?_, (q - 1), rfl, hs.sub (.c rfl (.c rfl (.c rfl (.c rfl .n)))), by omega, by intro h; rw [show (1 : Nat) = q by omega]; omega⟩
    omega
   refine go 3 [] [52, 0, 5, 6] .n ?_
   intro a w hs; refine zAB (b := decide (0 < (n : Int))) (fun c_9 => ?_) (fun c_9 => ?_)
   ·
    rw [c_9] at hs
    replace c_9 := of_decide_eq_true c_9
    revert a w hs
    refine go 2 [] [54, 53, 52, 5, 6] .n ?_
    intro a w hs; refine zC hs rfl rfl rfl ?_
    refine zA9 (j := n) hs rfl rfl (hs.rd0 hb) rfl (by omega) underlying32 sizeOf5 rfl ?_
    intro a w hs; refine zC hs rfl rfl rfl ?_
    refine zA7 hs rfl (hs.rd0 hb) (zA5 bs (by first | omega | (simp; omega))) isAgg5 rfl ?_
    refine goL 2 [] [58, 5, 6] .n ?_
    refine ifG rfl (fun c_10 => ?_) (fun c_10 => ?_)
    ·
     refine go 3 [] [4, 3, 2] .n ?_
     intro a w hs; exact zDE hs rfl rfl rfl rfl ⟨by first | (exfalso; omega) | (rw [zAo (by omega)]; rfl) | (rw [zAb (by omega)]; rfl) | (rw [zAS (by omega) (by omega) (by omega)]; rfl) | (rw [zAm (n := n) (q := q) hI1_2 (by omega) (by omega) (by omega) (by omega) (by omega) (by omega)]; rfl) | (rw [zAc (i := n) hI1_2 (by omega) (by omega) (by omega) (by omega)]; rfl) | (rw [zBJ (n := n) hI1_2 (by omega) (by omega) (by omega) (hI2_1 (by omega)) (by omega), show zAp bs n 0 = zAp bs n q by rw [show q = 0 by omega]]; rfl), rfl⟩
    refine go 6 [] [4, 3, 2] .n ⟨(by omega), ?_⟩
    intro a w hs; exact zDE hs rfl rfl rfl rfl ⟨by first | (exfalso; omega) | (rw [zAo (by omega)]; rfl) | (rw [zAb (by omega)]; rfl) | (rw [zAS (by omega) (by omega) (by omega)]; rfl) | (rw [zAm (n := n) (q := q) hI1_2 (by omega) (by omega) (by omega) (by omega) (by omega) (by omega)]; rfl) | (rw [zAc (i := n) hI1_2 (by omega) (by omega) (by omega) (by omega)]; rfl) | (rw [zBJ (n := n) hI1_2 (by omega) (by omega) (by omega) (hI2_1 (by omega)) (by omega), show zAp bs n 0 = zAp bs n q by rw [show q = 0 by omega]]; rfl), rfl⟩
   rw [c_9] at hs
   replace c_9 := of_decide_eq_false c_9
   revert a w hs
   refine go 13 [] [4, 3, 2] .n ⟨(by omega), ?_⟩
   intro a w hs; exact zDE hs rfl rfl rfl rfl ⟨by first | (exfalso; omega) | (rw [zAo (by omega)]; rfl) | (rw [zAb (by omega)]; rfl) | (rw [zAS (by omega) (by omega) (by omega)]; rfl) | (rw [zAm (n := n) (q := q) hI1_2 (by omega) (by omega) (by omega) (by omega) (by omega) (by omega)]; rfl) | (rw [zAc (i := n) hI1_2 (by omega) (by omega) (by omega) (by omega)]; rfl) | (rw [zBJ (n := n) hI1_2 (by omega) (by omega) (by omega) (hI2_1 (by omega)) (by omega), show zAp bs n 0 = zAp bs n q by rw [show q = 0 by omega]]; rfl), rfl⟩
  rw [c_3] at hs
  replace c_3 := of_decide_eq_false c_3
  revert a w hs
  refine go 9 [] [29, 0, 5] .n ?_
  refine ifG rfl (fun c_11 => ?_) (fun c_11 => ?_)
  ·
   refine go 3 [] [4, 3, 2] .n ?_
   intro a w hs; exact zDE hs rfl rfl rfl rfl ⟨by first | (exfalso; omega) | (rw [zAo (by omega)]; rfl) | (rw [zAb (by omega)]; rfl) | (rw [zAS (by omega) (by omega) (by omega)]; rfl) | (rw [zAm (n := n) (q := q) hI1_2 (by omega) (by omega) (by omega) (by omega) (by omega) (by omega)]; rfl) | (rw [zAc (i := n) hI1_2 (by omega) (by omega) (by omega) (by omega)]; rfl) | (rw [zBJ (n := n) hI1_2 (by omega) (by omega) (by omega) (hI2_1 (by omega)) (by omega), show zAp bs n 0 = zAp bs n q by rw [show q = 0 by omega]]; rfl), rfl⟩
  refine go 2 [] [31, 30, 0, 5] .n ?_
  intro a w hs; refine zAG hs rfl (hs.rd0 hb).isSl underlying32 rfl ?_
  refine goL 1 [] [33, 0, 5] .n ?_
  refine ifG rfl (fun c_12 => ?_) (fun c_12 => ?_)
  ·
   refine go 3 [] [4, 3, 2] .n ?_
   intro a w hs; exact zDE hs rfl rfl rfl rfl ⟨by first | (exfalso; omega) | (rw [zAo (by omega)]; rfl) | (rw [zAb (by omega)]; rfl) | (rw [zAS (by omega) (by omega) (by omega)]; rfl) | (rw [zAm (n := n) (q := q) hI1_2 (by omega) (by omega) (by omega) (by omega) (by omega) (by omega)]; rfl) | (rw [zAc (i := n) hI1_2 (by omega) (by omega) (by omega) (by omega)]; rfl) | (rw [zBJ (n := n) hI1_2 (by omega) (by omega) (by omega) (hI2_1 (by omega)) (by omega), show zAp bs n 0 = zAp bs n q by rw [show q = 0 by omega]]; rfl), rfl⟩
  refine go 3 [] [7, 6, 0, 5] .n ?_
  intro a w hs; refine zCA (fun mm_ a w => ∃ q : Nat, mm_ = 1 + q ∧ St 62 [(0, v), (5, zI (n : Int)), (6, qI (BitVec.ofNat 64 (zAp bs n q))), (7, zI ((q : Int) - 1))] w0 [] [] a w ∧ q ≤ n + 1 ∧ (q = 0 → zAp bs n 1 ≤ 144115188075855871)) ⟨(n + 1), rfl, hs.sub (.c rfl (.c rfl (.c (congrArg (fun z : BitVec 64 => some (Value.int .u64 ((z.toNat : Nat) : Int))) (show 0#64 = BitVec.ofNat 64 (zAp bs n (n + 1)) by rw [zHs bs n (by omega)])) (.c (congrArg (fun z : Int => some (Value.int .i64 z)) (show (n : Int) = ((n + 1 : Nat) : Int) - 1 by omega)) .n)))), by omega, by omega⟩ ?_
  clear hs w a; rintro mm_ a w ⟨q, rfl, hs, hI2_0, hI2_1⟩
  revert a w hs
  refine go 2 [] [36, 0, 5, 6, 7] .n ?_
  refine ifG rfl (fun c_13 => ?_) (fun c_13 => ?_)
  ·
   have hv_ : ((q : Int) - 1 : Int) = (((q - 1 : Nat) : Int) : Int) := by omega
   intro a w hs; rw [hv_] at hs; clear hv_
   have htl := zIA bs n q (by omega) (by omega) (by omega) (by omega)
   revert a w hs
   refine go 2 [] [40, 0, 5, 6, 7] .n ?_
   refine ifG rfl (fun c_14 => ?_) (fun c_14 => ?_)
   ·
    refine go 3 [] [4, 3, 2] .n ?_
    intro a w hs; exact zDE hs rfl rfl rfl rfl ⟨by first | (exfalso; omega) | (rw [zAo (by omega)]; rfl) | (rw [zAb (by omega)]; rfl) | (rw [zAS (by omega) (by omega) (by omega)]; rfl) | (rw [zAm (n := n) (q := q) hI1_2 (by omega) (by omega) (by omega) (by omega) (by omega) (by omega)]; rfl) | (rw [zAc (i := n) hI1_2 (by omega) (by omega) (by omega) (by omega)]; rfl) | (rw [zBJ (n := n) hI1_2 (by omega) (by omega) (by omega) (hI2_1 (by omega)) (by omega), show zAp bs n 0 = zAp bs n q by rw [show q = 0 by omega]]; rfl), rfl⟩
   refine go 1 [] [41, 0, 5, 7] .n ?_
   intro a w hs; refine zD7 (X := 128#64) (Y := BitVec.ofNat 64 (zAp bs n q)) hs rfl (by decide) rfl rfl rfl ?_
   refine goL 2 [] [44, 43, 42, 0, 5, 7] .n ?_
   intro a w hs; refine zA9 (j := (q - 1)) hs rfl rfl (hs.rd0 hb) rfl (by omega) underlying32 sizeOf5 rfl ?_
   intro a w hs; refine zA7 hs rfl (hs.rd0 hb) (zA5 bs (by first | omega | (simp; omega))) isAgg5 rfl ?_
   intro a w hs; refine zFw (X := bs.getD (q - 1) 0) (Y := 128#8) hs rfl rfl rfl (by decide) (by decide) rfl ?_
   intro a w hs; refine zC4 (X := (bs.getD (q - 1) 0) % (128#8)) hs rfl rfl underlying5 underlying130 rfl ?_
   intro a w hs; refine zDJ (X := (128#64) * (BitVec.ofNat 64 (zAp bs n q))) (Y := ((bs.getD (q - 1) 0) % (128#8)).setWidth 64) hs rfl rfl rfl rfl rfl ?_
   refine goL 4 [] [7, 6, 0, 5] .n ⟨(by omega), ?_⟩
   intro a w hs; rw [zGb bs n q (by omega) (by omega) (by omega)] at hs
   refine ⟨_, ?_, (q - 1), rfl, hs.sub (.c rfl (.c rfl (.c rfl (.c rfl .n)))), by omega, by intro h; rw [show (1 : Nat) = q by omega]; omega⟩
   omega
  refine go 3 [] [52, 0, 5, 6] .n ?_
  intro a w hs; refine zAB (b := decide (0 < (n : Int))) (fun c_15 => ?_) (fun c_15 => ?_)
  ·
   rw [c_15] at hs
   replace c_15 := of_decide_eq_true c_15
   revert a w hs
   refine go 2 [] [54, 53, 52, 5, 6] .n ?_
   intro a w hs; refine zC hs rfl rfl rfl ?_
   refine zA9 (j := n) hs rfl rfl (hs.rd0 hb) rfl (by omega) underlying32 sizeOf5 rfl ?_
   intro a w hs; refine zC hs rfl rfl rfl ?_
   refine zA7 hs rfl (hs.rd0 hb) (zA5 bs (by first | omega | (simp; omega))) isAgg5 rfl ?_
   refine goL 2 [] [58, 5, 6] .n ?_
   refine ifG rfl (fun c_16 => ?_) (fun c_16 => ?_)
   ·
    refine go 3 [] [4, 3, 2] .n ?_
    intro a w hs; exact zDE hs rfl rfl rfl rfl ⟨by first | (exfalso; omega) | (rw [zAo (by omega)]; rfl) | (rw [zAb (by omega)]; rfl) | (rw [zAS (by omega) (by omega) (by omega)]; rfl) | (rw [zAm (n := n) (q := q) hI1_2 (by omega) (by omega) (by omega) (by omega) (by omega) (by omega)]; rfl) | (rw [zAc (i := n) hI1_2 (by omega) (by omega) (by omega) (by omega)]; rfl) | (rw [zBJ (n := n) hI1_2 (by omega) (by omega) (by omega) (hI2_1 (by omega)) (by omega), show zAp bs n 0 = zAp bs n q by rw [show q = 0 by omega]]; rfl), rfl⟩
   refine go 6 [] [4, 3, 2] .n ⟨(by omega), ?_⟩
   intro a w hs; exact zDE hs rfl rfl rfl rfl ⟨by first | (exfalso; omega) | (rw [zAo (by omega)]; rfl) | (rw [zAb (by omega)]; rfl) | (rw [zAS (by omega) (by omega) (by omega)]; rfl) | (rw [zAm (n := n) (q := q) hI1_2 (by omega) (by omega) (by omega) (by omega) (by omega) (by omega)]; rfl) | (rw [zAc (i := n) hI1_2 (by omega) (by omega) (by omega) (by omega)]; rfl) | (rw [zBJ (n := n) hI1_2 (by omega) (by omega) (by omega) (hI2_1 (by omega)) (by omega), show zAp bs n 0 = zAp bs n q by rw [show q = 0 by omega]]; rfl), rfl⟩
  rw [c_15] at hs
  replace c_15 := of_decide_eq_false c_15
  revert a w hs
  refine go 13 [] [4, 3, 2] .n ⟨(by omega), ?_⟩
  intro a w hs; exact zDE hs rfl rfl rfl rfl ⟨by first | (exfalso; omega) | (rw [zAo (by omega)]; rfl) | (rw [zAb (by omega)]; rfl) | (rw [zAS (by omega) (by omega) (by omega)]; rfl) | (rw [zAm (n := n) (q := q) hI1_2 (by omega) (by omega) (by omega) (by omega) (by omega) (by omega)]; rfl) | (rw [zAc (i := n) hI1_2 (by omega) (by omega) (by omega) (by omega)]; rfl) | (rw [zBJ (n := n) hI1_2 (by omega) (by omega) (by omega) (hI2_1 (by omega)) (by omega), show zAp bs n 0 = zAp bs n q by rw [show q = 0 by omega]]; rfl), rfl⟩
 rw [c_2] at hs
 replace c_2 := of_decide_eq_false c_2
 revert a w hs
 refine go 15 [] [29, 0, 5] .n ?_
 refine ifG rfl (fun c_17 => ?_) (fun c_17 => ?_)
 ·
  refine go 3 [] [4, 3, 2] .n ?_
  intro a w hs; exact zDE hs rfl rfl rfl rfl ⟨by first | (exfalso; omega) | (rw [zAo (by omega)]; rfl) | (rw [zAb (by omega)]; rfl) | (rw [zAS (by omega) (by omega) (by omega)]; rfl) | (rw [zAm (n := n) (q := q) hI1_2 (by omega) (by omega) (by omega) (by omega) (by omega) (by omega)]; rfl) | (rw [zAc (i := n) hI1_2 (by omega) (by omega) (by omega) (by omega)]; rfl) | (rw [zBJ (n := n) hI1_2 (by omega) (by omega) (by omega) (hI2_1 (by omega)) (by omega), show zAp bs n 0 = zAp bs n q by rw [show q = 0 by omega]]; rfl), rfl⟩
 refine go 2 [] [31, 30, 0, 5] .n ?_
 intro a w hs; refine zAG hs rfl (hs.rd0 hb).isSl underlying32 rfl ?_
 refine goL 1 [] [33, 0, 5] .n ?_
 refine ifG rfl (fun c_18 => ?_) (fun c_18 => ?_)
 ·
  refine go 3 [] [4, 3, 2] .n ?_
  intro a w hs; exact zDE hs rfl rfl rfl rfl ⟨by first | (exfalso; omega) | (rw [zAo (by omega)]; rfl) | (rw [zAb (by omega)]; rfl) | (rw [zAS (by omega) (by omega) (by omega)]; rfl) | (rw [zAm (n := n) (q := q) hI1_2 (by omega) (by omega) (by omega) (by omega) (by omega) (by omega)]; rfl) | (rw [zAc (i := n) hI1_2 (by omega) (by omega) (by omega) (by omega)]; rfl) | (rw [zBJ (n := n) hI1_2 (by omega) (by omega) (by omega) (hI2_1 (by omega)) (by omega), show zAp bs n 0 = zAp bs n q by rw [show q = 0 by omega]]; rfl), rfl⟩
 refine go 3 [] [7, 6, 0, 5] .n ?_
 intro a w hs; refine zCA (fun mm_ a w => ∃ q : Nat, mm_ = 1 + q ∧ St 62 [(0, v), (5, zI (n : Int)), (6, qI (BitVec.ofNat 64 (zAp bs n q))), (7, zI ((q : Int) - 1))] w0 [] [] a w ∧ q ≤ n + 1 ∧ (q = 0 → zAp bs n 1 ≤ 144115188075855871)) ⟨(n + 1), rfl, hs.sub (.c rfl (.c rfl (.c (congrArg (fun z : BitVec 64 => some (Value.int .u64 ((z.toNat : Nat) : Int))) (show 0#64 = BitVec.ofNat 64 (zAp bs n (n + 1)) by rw [zHs bs n (by omega)])) (.c (congrArg (fun z : Int => some (Value.int .i64 z)) (show (n : Int) = ((n + 1 : Nat) : Int) - 1 by omega)) .n)))), by omega, by omega⟩ ?_
 clear hs w a; rintro mm_ a w ⟨q, rfl, hs, hI2_0, hI2_1⟩
 revert a w hs
 refine go 2 [] [36, 0, 5, 6, 7] .n ?_
 refine ifG rfl (fun c_19 => ?_) (fun c_19 => ?_)
 ·
  have hv_ : ((q : Int) - 1 : Int) = (((q - 1 : Nat) : Int) : Int) := by omega
  intro a w hs; rw [hv_] at hs; clear hv_
  have htl := zIA bs n q (by omega) (by omega) (by omega) (by omega)
  revert a w hs
  refine go 2 [] [40, 0, 5, 6, 7] .n ?_
  refine ifG rfl (fun c_20 => ?_) (fun c_20 => ?_)
  ·
   refine go 3 [] [4, 3, 2] .n ?_
   intro a w hs; exact zDE hs rfl rfl rfl rfl ⟨by first | (exfalso; omega) | (rw [zAo (by omega)]; rfl) | (rw [zAb (by omega)]; rfl) | (rw [zAS (by omega) (by omega) (by omega)]; rfl) | (rw [zAm (n := n) (q := q) hI1_2 (by omega) (by omega) (by omega) (by omega) (by omega) (by omega)]; rfl) | (rw [zAc (i := n) hI1_2 (by omega) (by omega) (by omega) (by omega)]; rfl) | (rw [zBJ (n := n) hI1_2 (by omega) (by omega) (by omega) (hI2_1 (by omega)) (by omega), show zAp bs n 0 = zAp bs n q by rw [show q = 0 by omega]]; rfl), rfl⟩
  refine go 1 [] [41, 0, 5, 7] .n ?_
  intro a w hs; refine zD7 (X := 128#64) (Y := BitVec.ofNat 64 (zAp bs n q)) hs rfl (by decide) rfl rfl rfl ?_
  refine goL 2 [] [44, 43, 42, 0, 5, 7] .n ?_
  intro a w hs; refine zA9 (j := (q - 1)) hs rfl rfl (hs.rd0 hb) rfl (by omega) underlying32 sizeOf5 rfl ?_
  intro a w hs; refine zA7 hs rfl (hs.rd0 hb) (zA5 bs (by first | omega | (simp; omega))) isAgg5 rfl ?_
  intro a w hs; refine zFw (X := bs.getD (q - 1) 0) (Y := 128#8) hs rfl rfl rfl (by decide) (by decide) rfl ?_
  intro a w hs; refine zC4 (X := (bs.getD (q - 1) 0) % (128#8)) hs rfl rfl underlying5 underlying130 rfl ?_
  intro a w hs; refine zDJ (X := (128#64) * (BitVec.ofNat 64 (zAp bs n q))) (Y := ((bs.getD (q - 1) 0) % (128#8)).setWidth 64) hs rfl rfl rfl rfl rfl ?_
  refine goL 4 [] [7, 6, 0, 5] .n ⟨(by omega), ?_⟩
  intro a w hs; rw [zGb bs n q (by omega) (by omega) (by omega)] at hs
  refine ⟨_, ?_, (q - 1), rfl, hs.sub (.c rfl (.c rfl (.c rfl (.c rfl .n)))), by omega, by intro h; rw [show (1 : Nat) = q by omega]; omega⟩
  omega
 refine go 3 [] [52, 0, 5, 6] .n ?_
 intro a w hs; refine zAB (b := decide (0 < (n : Int))) (fun c_21 => ?_) (fun c_21 => ?_)
 ·
  rw [c_21] at hs
  replace c_21 := of_decide_eq_true c_21
  revert a w hs
  refine go 2 [] [54, 53, 52, 5, 6] .n ?_
  intro a w hs; refine zC hs rfl rfl rfl ?_
  refine zA9 (j := n) hs rfl rfl (hs.rd0 hb) rfl (by omega) underlying32 sizeOf5 rfl ?_
  intro a w hs; refine zC hs rfl rfl rfl ?_
  refine zA7 hs rfl (hs.rd0 hb) (zA5 bs (by first | omega | (simp; omega))) isAgg5 rfl ?_
  refine goL 2 [] [58, 5, 6] .n ?_
  refine ifG rfl (fun c_22 => ?_) (fun c_22 => ?_)
  ·
   refine go 3 [] [4, 3, 2] .n ?_
   intro a w hs; exact zDE hs rfl rfl rfl rfl ⟨by first | (exfalso; omega) | (rw [zAo (by omega)]; rfl) | (rw [zAb (by omega)]; rfl) | (rw [zAS (by omega) (by omega) (by omega)]; rfl) | (rw [zAm (n := n) (q := q) hI1_2 (by omega) (by omega) (by omega) (by omega) (by omega) (by omega)]; rfl) | (rw [zAc (i := n) hI1_2 (by omega) (by omega) (by omega) (by omega)]; rfl) | (rw [zBJ (n := n) hI1_2 (by omega) (by omega) (by omega) (hI2_1 (by omega)) (by omega), show zAp bs n 0 = zAp bs n q by rw [show q = 0 by omega]]; rfl), rfl⟩
  refine go 6 [] [4, 3, 2] .n ⟨(by omega), ?_⟩
  intro a w hs; exact zDE hs rfl rfl rfl rfl ⟨by first | (exfalso; omega) | (rw [zAo (by omega)]; rfl) | (rw [zAb (by omega)]; rfl) | (rw [zAS (by omega) (by omega) (by omega)]; rfl) | (rw [zAm (n := n) (q := q) hI1_2 (by omega) (by omega) (by omega) (by omega) (by omega) (by omega)]; rfl) | (rw [zAc (i := n) hI1_2 (by omega) (by omega) (by omega) (by omega)]; rfl) | (rw [zBJ (n := n) hI1_2 (by omega) (by omega) (by omega) (hI2_1 (by omega)) (by omega), show zAp bs n 0 = zAp bs n q by rw [show q = 0 by omega]]; rfl), rfl⟩
 rw [c_21] at hs
 replace c_21 := of_decide_eq_false c_21
 revert a w hs
 refine go 13 [] [4, 3, 2] .n ⟨(by omega), ?_⟩
 intro a w hs; exact zDE hs rfl rfl rfl rfl ⟨by first | (exfalso; omega) | (rw [zAo (by omega)]; rfl) | (rw [zAb (by omega)]; rfl) | (rw [zAS (by omega) (by omega) (by omega)]; rfl) | (rw [zAm (n := n) (q := q) hI1_2 (by omega) (by omega) (by omega) (by omega) (by omega) (by omega)]; rfl) | (rw [zAc (i := n) hI1_2 (by omega) (by omega) (by omega) (by omega)]; rfl) | (rw [zBJ (n := n) hI1_2 (by omega) (by omega) (by omega) (hI2_1 (by omega)) (by omega), show zAp bs n 0 = zAp bs n q by rw [show q = 0 by omega]]; rfl), rfl⟩
theorem zOg (p : Int) (w0 : World) (hp : -9223372036854775808 ≤ p ∧ p ≤ 9223372036854775807) : Calls Tryz.prog 95 #[.int .i64 p] w0 (zCn w0 (qI (zFK p))) := by
 refine zT (F0 := [(0, zI p)]) func95 rfl rfl rfl (.c .n) (Mem.nil _) ?_
 refine go 2 [] [3, 0] .n ?_
 intro a w hs; refine zUG (m := 1) hs rfl rfl (by decide) rfl ?_
 intro a w hs; refine zA0 hs rfl underlying2 underlying130 rfl ?_
 refine goL 1 [] [6, 5] .n ?_
 intro a w hs; refine zT7 (m := 63) hs rfl rfl (by decide) rfl ?_
 intro a w hs; refine zA0 hs rfl underlying2 underlying130 rfl ?_
 intro a w hs; refine zNO (X := BitVec.ofInt 64 (IntKind.i64.wrap (p * 2 ^ (min 1 64)))) (Y := BitVec.ofInt 64 ((p).fdiv (2 ^ (min 63 64)))) hs rfl rfl rfl rfl rfl ?_
 refine goL 1 [] [2] .n ?_
 intro a w hs; exact fin hs rfl rfl ⟨by rw [zU4 p hp], rfl⟩
theorem zO3 (p : Int) (w0 : World) (hp : -9223372036854775808 ≤ p ∧ p ≤ 9223372036854775807) : Calls Tryz.prog 110 #[.int .i64 p] w0 (zCn w0 (qI (zFK p))) := by
 refine zT (F0 := [(0, zI p)]) func110 rfl rfl rfl (.c .n) (Mem.nil _) ?_
 refine go 3 [] [4, 0] .n ?_
 refine ifG rfl (fun c_1 => ?_) (fun c_1 => ?_)
 ·
  refine go 1 [] [5] .n ?_
  intro a w hs; refine zA0 hs rfl underlying2 underlying130 rfl ?_
  intro a w hs; refine zD7 (X := 2#64) (Y := BitVec.ofInt 64 p) hs rfl (by decide) rfl rfl rfl ?_
  refine goL 1 [] [2] .n ?_
  intro a w hs; exact fin hs rfl rfl ⟨by first | rw [zMV p (by omega)] | rw [zMs p (by omega)], rfl⟩
 refine go 3 [] [10] .n ⟨(by omega), (by omega), ?_⟩
 intro a w hs; refine zA0 hs rfl underlying2 underlying130 rfl ?_
 intro a w hs; refine zD7 (X := 2#64) (Y := BitVec.ofInt 64 (-(p + 1))) hs rfl (by decide) rfl rfl rfl ?_
 intro a w hs; refine zDJ (X := (2#64) * (BitVec.ofInt 64 (-(p + 1)))) (Y := 1#64) hs rfl rfl rfl (by decide) rfl ?_
 refine goL 1 [] [2] .n ?_
 intro a w hs; exact fin hs rfl rfl ⟨by first | rw [zMV p (by omega)] | rw [zMs p (by omega)], rfl⟩
theorem zU8 (X : BitVec 64) (w0 : World) : Calls Tryz.prog 103 #[.int .u64 (X.toNat : Int)] w0 (zCn w0 (zI (zNg X))) := by
 refine zT (F0 := [(0, qI X)]) func103 rfl rfl rfl (.c .n) (Mem.nil _) ?_
 refine go 2 [] [3, 0] .n ?_
 intro a w hs; refine zBz (X := X) (m := 1) hs rfl rfl rfl (by decide) rfl ?_
 intro a w hs; refine zAh (X := X >>> 1) hs rfl rfl underlying130 underlying2 rfl ?_
 refine goL 1 [] [6, 5] .n ?_
 intro a w hs; refine zNo (X := X) (Y := 1#64) hs rfl rfl rfl (by decide) rfl ?_
 intro a w hs; refine zAh (X := X &&& (1#64)) hs rfl rfl underlying130 underlying2 rfl ?_
 refine goL 1 [] [9, 5] .n ⟨(by rw [zU0]; omega), ?_⟩
 intro a w hs; refine zTB hs rfl rfl rfl ?_
 refine goL 1 [] [2] .n ?_
 intro a w hs; exact fin hs rfl rfl ⟨by rw [zVV X], rfl⟩
theorem zTk (X : BitVec 64) (w0 : World) : Calls Tryz.prog 90 #[.int .u64 (X.toNat : Int)] w0 (zCn w0 (zI (zNg X))) := by
 have hx := X.isLt
 have hxh := zRd X
 have hxm : (X % 2#64).toNat = X.toNat % 2 := by rw [BitVec.toNat_umod]; rfl
 refine zT (F0 := [(0, qI X)]) func90 rfl rfl rfl (.c .n) (Mem.nil _) ?_
 refine go 2 [] [3, 0] .n ?_
 intro a w hs; refine zGy (X := X) (Y := 2#64) hs rfl rfl rfl (by decide) (by decide) rfl ?_
 refine goL 1 [] [5, 0] .n ?_
 refine ifG rfl (fun c_1 => ?_) (fun c_1 => ?_)
 ·
  refine go 1 [] [6] .n ?_
  intro a w hs; refine zGi (X := X) (Y := 2#64) hs rfl rfl rfl (by decide) (by decide) rfl ?_
  intro a w hs; refine zAh (X := X / (2#64)) hs rfl rfl underlying130 underlying2 rfl ?_
  have hv_ : ((X / (2#64)).toInt : Int) = (((X.toNat / 2 : Nat) : Int) : Int) := by exact hxh
  intro a w hs; rw [hv_] at hs; clear hv_
  revert a w hs
  refine goL 1 [] [2] .n ?_
  intro a w hs; exact fin hs rfl rfl ⟨by unfold zNg; first | rw [if_pos (by omega)] | rw [if_neg (by omega)], rfl⟩
 refine go 1 [] [9] .n ?_
 intro a w hs; refine zGi (X := X) (Y := 2#64) hs rfl rfl rfl (by decide) (by decide) rfl ?_
 intro a w hs; refine zAh (X := X / (2#64)) hs rfl rfl underlying130 underlying2 rfl ?_
 have hv_ : ((X / (2#64)).toInt : Int) = (((X.toNat / 2 : Nat) : Int) : Int) := by exact hxh
 intro a w hs; rw [hv_] at hs; clear hv_
 revert a w hs
 refine goL 3 [] [2] .n ⟨(by omega), (by omega), ?_⟩
 intro a w hs; exact fin hs rfl rfl ⟨by unfold zNg; first | rw [if_pos (by omega)] | rw [if_neg (by omega)], rfl⟩
end Go.Proofs.YtbacobmcfelmkaaGreat
