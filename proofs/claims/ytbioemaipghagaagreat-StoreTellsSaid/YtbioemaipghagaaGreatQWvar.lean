/- Walks of varint: what each function does, over the program of this seat. Printed by a program of this session. -/
import Derived.Test.YtbioemaipghagaaGreatQSxBasB
import Derived.Test.YtbioemaipghagaaGreatQSxRecs
import Derived.KernelRfl
import Derived.Test.YtbioemaipghagaaGreatProg
namespace Go.Proofs.YtbioemaipghagaaGreat
open Go Go.Sx Go.RowKit
set_option linter.unusedVariables false
set_option linter.unusedSimpArgs false
set_option maxRecDepth 4000
set_option maxHeartbeats 1000000

theorem len64_ok (X : BitVec 64) (w0 : World) : Calls Tryz.prog 127 #[.int .u64 (X.toNat : Int)] w0 (RetV w0 (.int .i64 ((bitlen X.toNat : Nat) : Int))) := by
 have hx := X.isLt
 refine enterG (F0 := [(0, .int .u64 ((((X).toNat : Nat) : Int)))]) Tryz.func127 rfl rfl rfl (.c .n) (Mem.nil _) fun a w hs => ?_
 refine go 3 [] [4, 2, 0] hs .n ?_; clear hs w a; intro a w hs
 refine ifG hs rfl (fun c_1 => ?_) (fun c_1 => ?_)
 ·
  replace c_1 := of_decide_eq_true c_1
  have l32 := lenA X 32 (by omega)
  have s32 := shr_nat X 32
  simp only [Nat.reducePow] at s32
  refine go 1 [] [5] hs .n ?_; clear hs w a; intro a w hs
  refine st_shr_u64 (X := X) (m := 32) hs rfl rfl rfl (by decide) rfl ?_; clear hs w a; intro a w hs
  refine goL 4 [] [8, 2, 0] hs .n ?_; clear hs w a; intro a w hs
  refine ifG hs rfl (fun c_2 => ?_) (fun c_2 => ?_)
  ·
   replace c_2 := of_decide_eq_true c_2
   have l16 := lenA (X >>> 32) 16 (by omega)
   have s16 := shr_nat (X >>> 32) 16
   simp only [Nat.reducePow] at s16
   refine go 1 [] [9, 2] hs .n ?_; clear hs w a; intro a w hs
   refine st_shr_u64 (X := X >>> 32) (m := 16) hs rfl rfl rfl (by decide) rfl ?_; clear hs w a; intro a w hs
   refine goL 6 [] [14, 2, 0] hs .n ⟨by decide, ?_⟩; clear hs w a; intro a w hs
   refine ifG hs rfl (fun c_3 => ?_) (fun c_3 => ?_)
   ·
    replace c_3 := of_decide_eq_true c_3
    have l8 := lenA ((X >>> 32) >>> 16) 8 (by omega)
    have s8 := shr_nat ((X >>> 32) >>> 16) 8
    simp only [Nat.reducePow] at s8
    refine go 1 [] [15, 2] hs .n ?_; clear hs w a; intro a w hs
    refine st_shr_u64 (X := (X >>> 32) >>> 16) (m := 8) hs rfl rfl rfl (by decide) rfl ?_; clear hs w a; intro a w hs
    refine goL 6 [] [20, 19] hs .n ⟨by decide, ?_⟩; clear hs w a; intro a w hs
    refine st_cv_u64_u8 (X := ((X >>> 32) >>> 16) >>> 8) hs rfl rfl Tryz.underlying129 Tryz.underlying5 rfl ?_; clear hs w a; intro a w hs
    refine st_ixT (Y := (((X >>> 32) >>> 16) >>> 8).setWidth 8) hs rfl rfl rfl Tryz.underlying9 len8_tab rfl ?_; clear hs w a; intro a w hs
    refine st_cv_i64 hs rfl (bvr (BitVec.ofNat 8 (bitlen ((((X >>> 32) >>> 16) >>> 8).setWidth 8).toNat))) Tryz.underlying5 Tryz.underlying3 rfl ?_; clear hs w a; intro a w hs
    refine goL 2 [] [2] hs .n ⟨(by omega), ?_⟩; clear hs w a; intro a w hs
    have l9 := lenB (((X >>> 32) >>> 16) >>> 8) (by omega)
    exact fin hs rfl rfl ⟨congrArg (Value.int .i64) (by omega), rfl⟩
   replace c_3 := of_decide_eq_false c_3
   refine go 2 [] [20, 19] hs .n ?_; clear hs w a; intro a w hs
   refine st_cv_u64_u8 (X := (X >>> 32) >>> 16) hs rfl rfl Tryz.underlying129 Tryz.underlying5 rfl ?_; clear hs w a; intro a w hs
   refine st_ixT (Y := ((X >>> 32) >>> 16).setWidth 8) hs rfl rfl rfl Tryz.underlying9 len8_tab rfl ?_; clear hs w a; intro a w hs
   refine st_cv_i64 hs rfl (bvr (BitVec.ofNat 8 (bitlen (((X >>> 32) >>> 16).setWidth 8).toNat))) Tryz.underlying5 Tryz.underlying3 rfl ?_; clear hs w a; intro a w hs
   refine goL 2 [] [2] hs .n ⟨(by omega), ?_⟩; clear hs w a; intro a w hs
   have l9 := lenB ((X >>> 32) >>> 16) (by omega)
   exact fin hs rfl rfl ⟨congrArg (Value.int .i64) (by omega), rfl⟩
  replace c_2 := of_decide_eq_false c_2
  refine go 2 [] [14, 2, 0] hs .n ?_; clear hs w a; intro a w hs
  refine ifG hs rfl (fun c_4 => ?_) (fun c_4 => ?_)
  ·
   replace c_4 := of_decide_eq_true c_4
   have l8 := lenA (X >>> 32) 8 (by omega)
   have s8 := shr_nat (X >>> 32) 8
   simp only [Nat.reducePow] at s8
   refine go 1 [] [15, 2] hs .n ?_; clear hs w a; intro a w hs
   refine st_shr_u64 (X := X >>> 32) (m := 8) hs rfl rfl rfl (by decide) rfl ?_; clear hs w a; intro a w hs
   refine goL 6 [] [20, 19] hs .n ⟨by decide, ?_⟩; clear hs w a; intro a w hs
   refine st_cv_u64_u8 (X := (X >>> 32) >>> 8) hs rfl rfl Tryz.underlying129 Tryz.underlying5 rfl ?_; clear hs w a; intro a w hs
   refine st_ixT (Y := ((X >>> 32) >>> 8).setWidth 8) hs rfl rfl rfl Tryz.underlying9 len8_tab rfl ?_; clear hs w a; intro a w hs
   refine st_cv_i64 hs rfl (bvr (BitVec.ofNat 8 (bitlen (((X >>> 32) >>> 8).setWidth 8).toNat))) Tryz.underlying5 Tryz.underlying3 rfl ?_; clear hs w a; intro a w hs
   refine goL 2 [] [2] hs .n ⟨(by omega), ?_⟩; clear hs w a; intro a w hs
   have l9 := lenB ((X >>> 32) >>> 8) (by omega)
   exact fin hs rfl rfl ⟨congrArg (Value.int .i64) (by omega), rfl⟩
  replace c_4 := of_decide_eq_false c_4
  refine go 2 [] [20, 19] hs .n ?_; clear hs w a; intro a w hs
  refine st_cv_u64_u8 (X := X >>> 32) hs rfl rfl Tryz.underlying129 Tryz.underlying5 rfl ?_; clear hs w a; intro a w hs
  refine st_ixT (Y := (X >>> 32).setWidth 8) hs rfl rfl rfl Tryz.underlying9 len8_tab rfl ?_; clear hs w a; intro a w hs
  refine st_cv_i64 hs rfl (bvr (BitVec.ofNat 8 (bitlen ((X >>> 32).setWidth 8).toNat))) Tryz.underlying5 Tryz.underlying3 rfl ?_; clear hs w a; intro a w hs
  refine goL 2 [] [2] hs .n ⟨(by omega), ?_⟩; clear hs w a; intro a w hs
  have l9 := lenB (X >>> 32) (by omega)
  exact fin hs rfl rfl ⟨congrArg (Value.int .i64) (by omega), rfl⟩
 replace c_1 := of_decide_eq_false c_1
 refine go 2 [] [8, 2, 0] hs .n ?_; clear hs w a; intro a w hs
 refine ifG hs rfl (fun c_5 => ?_) (fun c_5 => ?_)
 ·
  replace c_5 := of_decide_eq_true c_5
  have l16 := lenA X 16 (by omega)
  have s16 := shr_nat X 16
  simp only [Nat.reducePow] at s16
  refine go 1 [] [9, 2] hs .n ?_; clear hs w a; intro a w hs
  refine st_shr_u64 (X := X) (m := 16) hs rfl rfl rfl (by decide) rfl ?_; clear hs w a; intro a w hs
  refine goL 6 [] [14, 2, 0] hs .n ⟨by decide, ?_⟩; clear hs w a; intro a w hs
  refine ifG hs rfl (fun c_6 => ?_) (fun c_6 => ?_)
  ·
   replace c_6 := of_decide_eq_true c_6
   have l8 := lenA (X >>> 16) 8 (by omega)
   have s8 := shr_nat (X >>> 16) 8
   simp only [Nat.reducePow] at s8
   refine go 1 [] [15, 2] hs .n ?_; clear hs w a; intro a w hs
   refine st_shr_u64 (X := X >>> 16) (m := 8) hs rfl rfl rfl (by decide) rfl ?_; clear hs w a; intro a w hs
   refine goL 6 [] [20, 19] hs .n ⟨by decide, ?_⟩; clear hs w a; intro a w hs
   refine st_cv_u64_u8 (X := (X >>> 16) >>> 8) hs rfl rfl Tryz.underlying129 Tryz.underlying5 rfl ?_; clear hs w a; intro a w hs
   refine st_ixT (Y := ((X >>> 16) >>> 8).setWidth 8) hs rfl rfl rfl Tryz.underlying9 len8_tab rfl ?_; clear hs w a; intro a w hs
   refine st_cv_i64 hs rfl (bvr (BitVec.ofNat 8 (bitlen (((X >>> 16) >>> 8).setWidth 8).toNat))) Tryz.underlying5 Tryz.underlying3 rfl ?_; clear hs w a; intro a w hs
   refine goL 2 [] [2] hs .n ⟨(by omega), ?_⟩; clear hs w a; intro a w hs
   have l9 := lenB ((X >>> 16) >>> 8) (by omega)
   exact fin hs rfl rfl ⟨congrArg (Value.int .i64) (by omega), rfl⟩
  replace c_6 := of_decide_eq_false c_6
  refine go 2 [] [20, 19] hs .n ?_; clear hs w a; intro a w hs
  refine st_cv_u64_u8 (X := X >>> 16) hs rfl rfl Tryz.underlying129 Tryz.underlying5 rfl ?_; clear hs w a; intro a w hs
  refine st_ixT (Y := (X >>> 16).setWidth 8) hs rfl rfl rfl Tryz.underlying9 len8_tab rfl ?_; clear hs w a; intro a w hs
  refine st_cv_i64 hs rfl (bvr (BitVec.ofNat 8 (bitlen ((X >>> 16).setWidth 8).toNat))) Tryz.underlying5 Tryz.underlying3 rfl ?_; clear hs w a; intro a w hs
  refine goL 2 [] [2] hs .n ⟨(by omega), ?_⟩; clear hs w a; intro a w hs
  have l9 := lenB (X >>> 16) (by omega)
  exact fin hs rfl rfl ⟨congrArg (Value.int .i64) (by omega), rfl⟩
 replace c_5 := of_decide_eq_false c_5
 refine go 2 [] [14, 2, 0] hs .n ?_; clear hs w a; intro a w hs
 refine ifG hs rfl (fun c_7 => ?_) (fun c_7 => ?_)
 ·
  replace c_7 := of_decide_eq_true c_7
  have l8 := lenA X 8 (by omega)
  have s8 := shr_nat X 8
  simp only [Nat.reducePow] at s8
  refine go 1 [] [15, 2] hs .n ?_; clear hs w a; intro a w hs
  refine st_shr_u64 (X := X) (m := 8) hs rfl rfl rfl (by decide) rfl ?_; clear hs w a; intro a w hs
  refine goL 6 [] [20, 19] hs .n ⟨by decide, ?_⟩; clear hs w a; intro a w hs
  refine st_cv_u64_u8 (X := X >>> 8) hs rfl rfl Tryz.underlying129 Tryz.underlying5 rfl ?_; clear hs w a; intro a w hs
  refine st_ixT (Y := (X >>> 8).setWidth 8) hs rfl rfl rfl Tryz.underlying9 len8_tab rfl ?_; clear hs w a; intro a w hs
  refine st_cv_i64 hs rfl (bvr (BitVec.ofNat 8 (bitlen ((X >>> 8).setWidth 8).toNat))) Tryz.underlying5 Tryz.underlying3 rfl ?_; clear hs w a; intro a w hs
  refine goL 2 [] [2] hs .n ⟨(by omega), ?_⟩; clear hs w a; intro a w hs
  have l9 := lenB (X >>> 8) (by omega)
  exact fin hs rfl rfl ⟨congrArg (Value.int .i64) (by omega), rfl⟩
 replace c_7 := of_decide_eq_false c_7
 refine go 2 [] [20, 19] hs .n ?_; clear hs w a; intro a w hs
 refine st_cv_u64_u8 (X := X) hs rfl rfl Tryz.underlying129 Tryz.underlying5 rfl ?_; clear hs w a; intro a w hs
 refine st_ixT (Y := (X).setWidth 8) hs rfl rfl rfl Tryz.underlying9 len8_tab rfl ?_; clear hs w a; intro a w hs
 refine st_cv_i64 hs rfl (bvr (BitVec.ofNat 8 (bitlen ((X).setWidth 8).toNat))) Tryz.underlying5 Tryz.underlying3 rfl ?_; clear hs w a; intro a w hs
 refine goL 2 [] [2] hs .n ⟨(by omega), ?_⟩; clear hs w a; intro a w hs
 have l9 := lenB X (by omega)
 exact fin hs rfl rfl ⟨congrArg (Value.int .i64) (by omega), rfl⟩
theorem size_ok (X : BitVec 64) (w0 : World) : Calls Tryz.prog 136 #[.int .u64 (X.toNat : Int)] w0 (RetV w0 (.int .i64 ((vlen X.toNat : Nat) : Int))) := by
 have hx := X.isLt
 have hl := bitlen_lt hx
 refine enterG (F0 := [(0, .int .u64 ((((X).toNat : Nat) : Int)))]) Tryz.func136 rfl rfl rfl (.c .n) (Mem.nil _) fun a w hs => ?_
 refine go 2 [] [3] hs .n ?_; clear hs w a; intro a w hs
 refine st_callP (v := .int .i64 (((bitlen X.toNat : Nat) : Int))) hs (.c rfl .n) Tryz.call127 (len64_ok X _) rfl ?_; clear hs w a; intro a w hs
 refine goL 3 [] [7] hs .n ⟨(by omega), (by omega), ?_⟩; clear hs w a; intro a w hs
 refine st_quoN hs rfl rfl (by omega) rfl ?_; clear hs w a; intro a w hs
 refine goL 1 [] [2] hs .n ?_; clear hs w a; intro a w hs
 exact fin hs rfl rfl ⟨congrArg (Value.int .i64) (vlen_int X), rfl⟩
theorem put_ok (X : BitVec 64) (w0 : World) : Calls Tryz.prog 93 #[.int .u64 (X.toNat : Int)] w0 (Ret w0 [] fun r N => N = [row r 5 1 (vlen X.toNat) (bytesV (vput X.toNat))]) := by
 have hvl := vlen_le X.toNat
 have hvp := vlen_pos X.toNat
 refine enterG (F0 := [(0, .int .u64 ((((X).toNat : Nat) : Int)))]) Tryz.func93 rfl rfl rfl (.c .n) (Mem.nil _) fun a w hs => ?_
 refine go 2 [] [5, 0] hs .n ?_; clear hs w a; intro a w hs
 refine st_callP (v := .int .i64 (((vlen X.toNat : Nat) : Int))) hs (.c rfl .n) Tryz.call136 (size_ok X _) rfl ?_; clear hs w a; intro a w hs
 refine st_mk (m := vlen X.toNat) (bytes := 1) hs rfl rfl Tryz.underlying37 (i := Tryz.t5) rfl rfl rfl rfl (by show 1 * (vlen X.toNat) ≤ 281474976710656; omega) (by omega) rfl ?_; clear hs w a; intro v1 a w hs
 replace hs := hs.rerow .z (m' := vlen X.toNat) (xs' := bytesV (putK X (vlen X.toNat) 0)) (by omega) (by simp [bytesV, byteV, putK])
 refine goL 2 [] [8, 3, 0] hs .n ?_; clear hs w a; intro a w hs
 refine st_len hs rfl (rd_row (hs.mem.del .z)).isSl Tryz.underlying37 rfl ?_; clear hs w a; intro a w hs
 refine goL 1 [] [10, 9, 3, 0] hs .n ?_; clear hs w a; intro a w hs
 refine loopG (fun mm_ a w => ∃ k : Nat, mm_ = vlen X.toNat - k ∧ St 32 [(0, .int .u64 ((((X).toNat : Nat) : Int))), (3, v1), (9, .int .i64 (((vlen X.toNat : Nat) : Int))), (10, .int .i64 ((k : Int)))] w0 [] [row v1 5 1 (vlen X.toNat) (bytesV (putK X (vlen X.toNat) k))] a w ∧ k ≤ vlen X.toNat) ⟨0, rfl, hs.sub (.c rfl (.c rfl (.c rfl (.c rfl .n)))), by omega⟩ ?_
 clear hs w a; rintro mm_ a w ⟨k, rfl, hs, hI1_0⟩
 have hlp := length_putK X (vlen X.toNat) k
 refine go 1 [] [11, 0, 3, 9, 10] hs .n ?_; clear hs w a; intro a w hs
 refine ifG hs rfl (fun c_2 => ?_) (fun c_2 => ?_)
 ·
  replace c_2 := of_decide_eq_true c_2
  refine go 7 [] [17, 15, 14, 13, 0, 3, 9, 10] hs .n ⟨(by omega), ?_⟩; clear hs w a; intro a w hs
  have hv_ : (7 * (k : Int) : Int) = (((7 * k : Nat) : Int) : Int) := by omega
  rw [hv_] at hs; clear hv_
  refine st_shr_u64 (X := X) (m := (7 * k)) hs rfl rfl rfl rfl rfl ?_; clear hs w a; intro a w hs
  refine st_cv_u64_u8 (X := X >>> (7 * k)) hs rfl rfl Tryz.underlying129 Tryz.underlying5 rfl ?_; clear hs w a; intro a w hs
  refine st_or_u8 (X := (X >>> (7 * k)).setWidth 8) (Y := 128#8) hs rfl rfl rfl (by decide) rfl ?_; clear hs w a; intro a w hs
  refine st_ia1 (j := k) hs rfl rfl (rd_row (hs.mem.del .z)) rfl (by omega) Tryz.underlying37 Tryz.sizeOf5 rfl ?_; clear hs w a; intro a w hs
  refine st_stR hs rfl rfl .z (by omega) rfl Tryz.sizeOf5 ?_; clear hs w a; intro a w hs
  replace hs := hs.rerow .z (m' := vlen X.toNat) (xs' := bytesV (((putK X (vlen X.toNat) k)).set k (((X >>> (7 * k)).setWidth 8) ||| (128#8)))) (rfl) ((bytesV_set _ _ _).symm)
  refine goL 2 [] [10, 0, 3, 9] hs .n ⟨(by omega), ?_⟩; clear hs w a; intro a w hs
  refine ⟨_, ?_, k + 1, rfl, hs.sub (.c rfl (.c rfl (.c rfl (.c rfl .n)))), by omega⟩
  omega
 replace c_2 := of_decide_eq_false c_2
 refine go 2 [] [24, 23, 3] hs .n ?_; clear hs w a; intro a w hs
 refine st_len hs rfl (rd_row (hs.mem.del .z)).isSl Tryz.underlying37 rfl ?_; clear hs w a; intro a w hs
 refine goL 1 [] [26, 23, 3] hs .n ⟨(by omega), ?_⟩; clear hs w a; intro a w hs
 have hv_ : ((((vlen X.toNat : Nat) : Int)) - 1 : Int) = (((vlen X.toNat - 1 : Nat) : Int) : Int) := by omega
 rw [hv_] at hs; clear hv_
 refine st_ia1 (j := (vlen X.toNat - 1)) hs rfl rfl (rd_row (hs.mem.del .z)) rfl (by omega) Tryz.underlying37 Tryz.sizeOf5 rfl ?_; clear hs w a; intro a w hs
 refine st_ld hs rfl (rd_row (hs.mem.del .z)) (bytesV_getD ((putK X (vlen X.toNat) k)) (by first | omega | (simp; omega))) Tryz.isAgg5 rfl ?_; clear hs w a; intro a w hs
 refine st_andNot_u8 (X := ((putK X (vlen X.toNat) k)).getD (vlen X.toNat - 1) 0) (Y := 128#8) hs rfl rfl rfl (by decide) rfl ?_; clear hs w a; intro a w hs
 refine st_ia1 (j := (vlen X.toNat - 1)) hs rfl rfl (rd_row (hs.mem.del .z)) rfl (by omega) Tryz.underlying37 Tryz.sizeOf5 rfl ?_; clear hs w a; intro a w hs
 refine st_stR hs rfl rfl .z (by omega) rfl Tryz.sizeOf5 ?_; clear hs w a; intro a w hs
 replace hs := hs.rerow .z (m' := vlen X.toNat) (xs' := bytesV (((putK X (vlen X.toNat) k)).set (vlen X.toNat - 1) ((((putK X (vlen X.toNat) k)).getD (vlen X.toNat - 1) 0) &&& ~~~(128#8)))) (rfl) ((bytesV_set _ _ _).symm)
 refine goL 2 [] [2] hs .n ?_; clear hs w a; intro a w hs
 replace hs := hs.rerow .z (m' := vlen X.toNat) (xs' := bytesV (vput X.toNat)) (by omega) (by rw [show k = vlen X.toNat by omega]; exact congrArg bytesV (putEnd X _ rfl))
 exact fin hs rfl rfl rfl
theorem get_ok (v : Value) (m : Nat) (bs : List Byte) (w0 : World) (hb : Rd w0 [] v 1 m (bytesV bs)) : Calls Tryz.prog 98 #[v] w0 (RetV w0 (.tuple #[.int .u64 (((vget bs).1.toNat : Nat) : Int), .int .i64 (((vget bs).2.1 : Nat) : Int), .int .i64 (((vget bs).2.2 : Nat) : Int)])) := by
 have hbl : bs.length = m := by have := hb.len; simpa [bytesV] using this
 have hbe : m ≤ maxLen := hb.le
 simp only [maxLen] at hbe
 refine enterG (F0 := [(0, v)]) Tryz.func98 rfl rfl rfl (.c .n) (Mem.nil _) fun a w hs => ?_
 refine go 4 [] [9, 0] hs .n ?_; clear hs w a; intro a w hs
 refine st_len hs rfl (hs.rd0 hb).isSl Tryz.underlying37 rfl ?_; clear hs w a; intro a w hs
 refine goL 1 [] [11, 0] hs .n ?_; clear hs w a; intro a w hs
 refine ifG hs rfl (fun c_1 => ?_) (fun c_1 => ?_)
 ·
  replace c_1 := eq_of_beq c_1
  refine go 3 [] [4, 3, 2] hs .n ?_; clear hs w a; intro a w hs
  exact fin3 hs rfl rfl rfl rfl ⟨by first | (rw [vget_nil (by omega)]; rfl) | (rw [vget_over (i := i) hI1_2 (by omega) (by omega) (by omega) (by rw [← BitVec.toNat_inj]; omega)]; rfl) | (rw [vget_long (i := i) hI1_2 (by omega) (by omega) (by omega) (by omega)]; rfl) | (rw [vget_one (i := i) hI1_2 (by omega) (by omega) (by omega) (by rw [← BitVec.toNat_inj]; omega) (by omega), ← vpart bs i (by omega) (by omega)]; rfl) | (rw [vget_more (by omega)]; rfl) | (rw [vget_short (by omega) (by omega) (by omega)]; rfl), rfl⟩
 replace c_1 := ne_of_beq_f c_1
 refine go 2 [] [12, 5, 0] hs .n ?_; clear hs w a; intro a w hs
 refine st_len hs rfl (hs.rd0 hb).isSl Tryz.underlying37 rfl ?_; clear hs w a; intro a w hs
 refine goL 2 [] [15, 14, 5, 0] hs .n ?_; clear hs w a; intro a w hs
 refine loopG (fun mm_ a w => ∃ i : Nat, mm_ = 10 - i ∧ St 60 [(0, v), (5, .int .u64 ((((BitVec.ofNat 64 (vval (bs.take i))).toNat : Nat) : Int))), (14, .int .i64 (min (m : Int) 10)), (15, .int .i64 ((i : Int)))] w0 [] [] a w ∧ i ≤ m ∧ i ≤ 10 ∧ i ≤ vcont 10 bs) ⟨0, rfl, hs.sub (.c rfl (.c (congrArg (fun z : BitVec 64 => some (Value.int .u64 ((z.toNat : Nat) : Int))) (show 0#64 = BitVec.ofNat 64 (vval (bs.take 0)) by rw [List.take_zero]; rfl)) (.c rfl (.c rfl .n)))), by omega, by omega, Nat.zero_le _⟩ ?_
 clear hs w a; rintro mm_ a w ⟨i, rfl, hs, hI1_0, hI1_1, hI1_2⟩
 refine go 1 [] [16, 0, 5, 14, 15] hs .n ?_; clear hs w a; intro a w hs
 refine ifG hs rfl (fun c_2 => ?_) (fun c_2 => ?_)
 ·
  replace c_2 := of_decide_eq_true c_2
  refine go 4 [] [19, 18, 6, 0, 5, 14, 15] hs .n ?_; clear hs w a; intro a w hs
  refine st_ia1 (j := i) hs rfl rfl (hs.rd0 hb) rfl (by omega) Tryz.underlying37 Tryz.sizeOf5 rfl ?_; clear hs w a; intro a w hs
  refine st_ld hs rfl (hs.rd0 hb) (bytesV_getD bs (by first | omega | (simp; omega))) Tryz.isAgg5 rfl ?_; clear hs w a; intro a w hs
  refine goL 2 [] [22, 7, 6, 0, 5, 14, 15] hs .n ?_; clear hs w a; intro a w hs
  refine st_andNot_u8 (X := bs.getD i 0) (Y := 128#8) hs rfl rfl rfl (by decide) rfl ?_; clear hs w a; intro a w hs
  refine st_cv_u8_u64 (X := (bs.getD i 0) &&& ~~~(128#8)) hs rfl rfl Tryz.underlying5 Tryz.underlying129 rfl ?_; clear hs w a; intro a w hs
  refine goL 2 [] [26, 24, 7, 6, 0, 5, 14, 15] hs .n ⟨(by omega), ?_⟩; clear hs w a; intro a w hs
  have hv_ : (7 * (i : Int) : Int) = (((7 * i : Nat) : Int) : Int) := by omega
  rw [hv_] at hs; clear hv_
  refine st_shl_u64 (X := ((bs.getD i 0) &&& ~~~(128#8)).setWidth 64) (m := (7 * i)) hs rfl rfl rfl rfl rfl ?_; clear hs w a; intro a w hs
  refine goL 4 [] [30, 28, 8, 7, 6, 0, 5, 14, 15] hs .n ⟨(by omega), ?_⟩; clear hs w a; intro a w hs
  have hv_ : (7 * (i : Int) : Int) = (((7 * i : Nat) : Int) : Int) := by omega
  rw [hv_] at hs; clear hv_
  refine st_shr_u64 (X := (((bs.getD i 0) &&& ~~~(128#8)).setWidth 64) <<< (7 * i)) (m := (7 * i)) hs rfl rfl rfl rfl rfl ?_; clear hs w a; intro a w hs
  refine goL 1 [] [32, 31, 8, 7, 6, 0, 5, 14, 15] hs .n ?_; clear hs w a; intro a w hs
  refine st_andNot_u8 (X := bs.getD i 0) (Y := 128#8) hs rfl rfl rfl (by decide) rfl ?_; clear hs w a; intro a w hs
  refine st_cv_u8_u64 (X := (bs.getD i 0) &&& ~~~(128#8)) hs rfl rfl Tryz.underlying5 Tryz.underlying129 rfl ?_; clear hs w a; intro a w hs
  refine goL 2 [] [36, 8, 7, 6, 0, 5, 14, 15] hs .n ?_; clear hs w a; intro a w hs
  refine st_part (b := !(((((((((bs.getD i 0) &&& ~~~(128#8)).setWidth 64) <<< (7 * i)) >>> (7 * i)).toNat : Nat) : Int) : Int) == ((((((bs.getD i 0) &&& ~~~(128#8)).setWidth 64).toNat : Nat) : Int)))) (fun c_3 => ?_) (fun c_3 => ?_)
  ·
   rw [c_3] at hs
   replace c_3 := not_t c_3
   replace c_3 := ne_of_beq_f c_3
   refine go 3 [] [39, 8, 7, 6, 0, 5, 14, 15] hs .n ?_; clear hs w a; intro a w hs
   refine ifG hs rfl (fun c_4 => ?_) (fun c_4 => ?_)
   ·
    replace c_4 := of_decide_eq_true c_4
    refine go 3 [] [4, 3, 2] hs .n ?_; clear hs w a; intro a w hs
    exact fin3 hs rfl rfl rfl rfl ⟨by first | (rw [vget_nil (by omega)]; rfl) | (rw [vget_over (i := i) hI1_2 (by omega) (by omega) (by omega) (by rw [← BitVec.toNat_inj]; omega)]; rfl) | (rw [vget_long (i := i) hI1_2 (by omega) (by omega) (by omega) (by omega)]; rfl) | (rw [vget_one (i := i) hI1_2 (by omega) (by omega) (by omega) (by rw [← BitVec.toNat_inj]; omega) (by omega), ← vpart bs i (by omega) (by omega)]; rfl) | (rw [vget_more (by omega)]; rfl) | (rw [vget_short (by omega) (by omega) (by omega)]; rfl), rfl⟩
   replace c_4 := of_decide_eq_false c_4
   refine go 2 [] [41, 40, 7, 6, 0, 14, 15] hs .n ?_; clear hs w a; intro a w hs
   refine st_or_u64 (X := BitVec.ofNat 64 (vval (bs.take i))) (Y := (((bs.getD i 0) &&& ~~~(128#8)).setWidth 64) <<< (7 * i)) hs rfl rfl rfl rfl rfl ?_; clear hs w a; intro a w hs
   refine goL 4 [] [46, 5, 7, 6, 0, 14, 15] hs .n ?_; clear hs w a; intro a w hs
   refine ifG hs rfl (fun c_5 => ?_) (fun c_5 => ?_)
   ·
    replace c_5 := of_decide_eq_true c_5
    refine go 2 [] [15, 5, 0, 14] hs .n ⟨(by omega), ?_⟩; clear hs w a; intro a w hs
    rw [vpart bs i (by omega) (by omega)] at hs
    refine ⟨_, ?_, i + 1, rfl, hs.sub (.c rfl (.c rfl (.c rfl (.c rfl .n)))), by omega, by omega, vcont_more 10 i bs hI1_2 (by omega) (by omega) (by omega)⟩
    omega
   replace c_5 := of_decide_eq_false c_5
   refine go 3 [] [52, 5, 6] hs .n ?_; clear hs w a; intro a w hs
   refine st_part (b := ((((bs.getD i 0).toNat : Nat) : Int) : Int) == 0) (fun c_6 => ?_) (fun c_6 => ?_)
   ·
    rw [c_6] at hs
    replace c_6 := eq_of_beq c_6
    refine go 4 [] [49, 5, 6] hs .n ?_; clear hs w a; intro a w hs
    refine ifG hs rfl (fun c_7 => ?_) (fun c_7 => ?_)
    ·
     replace c_7 := of_decide_eq_true c_7
     refine go 3 [] [4, 3, 2] hs .n ?_; clear hs w a; intro a w hs
     exact fin3 hs rfl rfl rfl rfl ⟨by first | (rw [vget_nil (by omega)]; rfl) | (rw [vget_over (i := i) hI1_2 (by omega) (by omega) (by omega) (by rw [← BitVec.toNat_inj]; omega)]; rfl) | (rw [vget_long (i := i) hI1_2 (by omega) (by omega) (by omega) (by omega)]; rfl) | (rw [vget_one (i := i) hI1_2 (by omega) (by omega) (by omega) (by rw [← BitVec.toNat_inj]; omega) (by omega), ← vpart bs i (by omega) (by omega)]; rfl) | (rw [vget_more (by omega)]; rfl) | (rw [vget_short (by omega) (by omega) (by omega)]; rfl), rfl⟩
    replace c_7 := of_decide_eq_false c_7
    refine go 6 [] [4, 3, 2] hs .n ⟨(by omega), ?_⟩; clear hs w a; intro a w hs
    exact fin3 hs rfl rfl rfl rfl ⟨by first | (rw [vget_nil (by omega)]; rfl) | (rw [vget_over (i := i) hI1_2 (by omega) (by omega) (by omega) (by rw [← BitVec.toNat_inj]; omega)]; rfl) | (rw [vget_long (i := i) hI1_2 (by omega) (by omega) (by omega) (by omega)]; rfl) | (rw [vget_one (i := i) hI1_2 (by omega) (by omega) (by omega) (by rw [← BitVec.toNat_inj]; omega) (by omega), ← vpart bs i (by omega) (by omega)]; rfl) | (rw [vget_more (by omega)]; rfl) | (rw [vget_short (by omega) (by omega) (by omega)]; rfl), rfl⟩
   rw [c_6] at hs
   replace c_6 := ne_of_beq_f c_6
   refine go 11 [] [4, 3, 2] hs .n ⟨(by omega), ?_⟩; clear hs w a; intro a w hs
   exact fin3 hs rfl rfl rfl rfl ⟨by first | (rw [vget_nil (by omega)]; rfl) | (rw [vget_over (i := i) hI1_2 (by omega) (by omega) (by omega) (by rw [← BitVec.toNat_inj]; omega)]; rfl) | (rw [vget_long (i := i) hI1_2 (by omega) (by omega) (by omega) (by omega)]; rfl) | (rw [vget_one (i := i) hI1_2 (by omega) (by omega) (by omega) (by rw [← BitVec.toNat_inj]; omega) (by omega), ← vpart bs i (by omega) (by omega)]; rfl) | (rw [vget_more (by omega)]; rfl) | (rw [vget_short (by omega) (by omega) (by omega)]; rfl), rfl⟩
  rw [c_3] at hs
  replace c_3 := not_f c_3
  replace c_3 := eq_of_beq c_3
  refine go 6 [] [41, 40, 7, 6, 0, 14, 15] hs .n ?_; clear hs w a; intro a w hs
  refine st_or_u64 (X := BitVec.ofNat 64 (vval (bs.take i))) (Y := (((bs.getD i 0) &&& ~~~(128#8)).setWidth 64) <<< (7 * i)) hs rfl rfl rfl rfl rfl ?_; clear hs w a; intro a w hs
  refine goL 4 [] [46, 5, 7, 6, 0, 14, 15] hs .n ?_; clear hs w a; intro a w hs
  refine ifG hs rfl (fun c_8 => ?_) (fun c_8 => ?_)
  ·
   replace c_8 := of_decide_eq_true c_8
   refine go 2 [] [15, 5, 0, 14] hs .n ⟨(by omega), ?_⟩; clear hs w a; intro a w hs
   rw [vpart bs i (by omega) (by omega)] at hs
   refine ⟨_, ?_, i + 1, rfl, hs.sub (.c rfl (.c rfl (.c rfl (.c rfl .n)))), by omega, by omega, vcont_more 10 i bs hI1_2 (by omega) (by omega) (by omega)⟩
   omega
  replace c_8 := of_decide_eq_false c_8
  refine go 3 [] [52, 5, 6] hs .n ?_; clear hs w a; intro a w hs
  refine st_part (b := ((((bs.getD i 0).toNat : Nat) : Int) : Int) == 0) (fun c_9 => ?_) (fun c_9 => ?_)
  ·
   rw [c_9] at hs
   replace c_9 := eq_of_beq c_9
   refine go 4 [] [49, 5, 6] hs .n ?_; clear hs w a; intro a w hs
   refine ifG hs rfl (fun c_10 => ?_) (fun c_10 => ?_)
   ·
    replace c_10 := of_decide_eq_true c_10
    refine go 3 [] [4, 3, 2] hs .n ?_; clear hs w a; intro a w hs
    exact fin3 hs rfl rfl rfl rfl ⟨by first | (rw [vget_nil (by omega)]; rfl) | (rw [vget_over (i := i) hI1_2 (by omega) (by omega) (by omega) (by rw [← BitVec.toNat_inj]; omega)]; rfl) | (rw [vget_long (i := i) hI1_2 (by omega) (by omega) (by omega) (by omega)]; rfl) | (rw [vget_one (i := i) hI1_2 (by omega) (by omega) (by omega) (by rw [← BitVec.toNat_inj]; omega) (by omega), ← vpart bs i (by omega) (by omega)]; rfl) | (rw [vget_more (by omega)]; rfl) | (rw [vget_short (by omega) (by omega) (by omega)]; rfl), rfl⟩
   replace c_10 := of_decide_eq_false c_10
   refine go 6 [] [4, 3, 2] hs .n ⟨(by omega), ?_⟩; clear hs w a; intro a w hs
   exact fin3 hs rfl rfl rfl rfl ⟨by first | (rw [vget_nil (by omega)]; rfl) | (rw [vget_over (i := i) hI1_2 (by omega) (by omega) (by omega) (by rw [← BitVec.toNat_inj]; omega)]; rfl) | (rw [vget_long (i := i) hI1_2 (by omega) (by omega) (by omega) (by omega)]; rfl) | (rw [vget_one (i := i) hI1_2 (by omega) (by omega) (by omega) (by rw [← BitVec.toNat_inj]; omega) (by omega), ← vpart bs i (by omega) (by omega)]; rfl) | (rw [vget_more (by omega)]; rfl) | (rw [vget_short (by omega) (by omega) (by omega)]; rfl), rfl⟩
  rw [c_9] at hs
  replace c_9 := ne_of_beq_f c_9
  refine go 11 [] [4, 3, 2] hs .n ⟨(by omega), ?_⟩; clear hs w a; intro a w hs
  exact fin3 hs rfl rfl rfl rfl ⟨by first | (rw [vget_nil (by omega)]; rfl) | (rw [vget_over (i := i) hI1_2 (by omega) (by omega) (by omega) (by rw [← BitVec.toNat_inj]; omega)]; rfl) | (rw [vget_long (i := i) hI1_2 (by omega) (by omega) (by omega) (by omega)]; rfl) | (rw [vget_one (i := i) hI1_2 (by omega) (by omega) (by omega) (by rw [← BitVec.toNat_inj]; omega) (by omega), ← vpart bs i (by omega) (by omega)]; rfl) | (rw [vget_more (by omega)]; rfl) | (rw [vget_short (by omega) (by omega) (by omega)]; rfl), rfl⟩
 replace c_2 := of_decide_eq_false c_2
 refine go 1 [] [57] hs .n ?_; clear hs w a; intro a w hs
 refine st_len hs rfl (hs.rd0 hb).isSl Tryz.underlying37 rfl ?_; clear hs w a; intro a w hs
 refine goL 1 [] [59] hs .n ?_; clear hs w a; intro a w hs
 refine ifG hs rfl (fun c_11 => ?_) (fun c_11 => ?_)
 ·
  replace c_11 := of_decide_eq_true c_11
  refine go 3 [] [4, 3, 2] hs .n ?_; clear hs w a; intro a w hs
  exact fin3 hs rfl rfl rfl rfl ⟨by first | (rw [vget_nil (by omega)]; rfl) | (rw [vget_over (i := i) hI1_2 (by omega) (by omega) (by omega) (by rw [← BitVec.toNat_inj]; omega)]; rfl) | (rw [vget_long (i := i) hI1_2 (by omega) (by omega) (by omega) (by omega)]; rfl) | (rw [vget_one (i := i) hI1_2 (by omega) (by omega) (by omega) (by rw [← BitVec.toNat_inj]; omega) (by omega), ← vpart bs i (by omega) (by omega)]; rfl) | (rw [vget_more (by omega)]; rfl) | (rw [vget_short (by omega) (by omega) (by omega)]; rfl), rfl⟩
 replace c_11 := of_decide_eq_false c_11
 refine go 3 [] [4, 3, 2] hs .n ?_; clear hs w a; intro a w hs
 exact fin3 hs rfl rfl rfl rfl ⟨by first | (rw [vget_nil (by omega)]; rfl) | (rw [vget_over (i := i) hI1_2 (by omega) (by omega) (by omega) (by rw [← BitVec.toNat_inj]; omega)]; rfl) | (rw [vget_long (i := i) hI1_2 (by omega) (by omega) (by omega) (by omega)]; rfl) | (rw [vget_one (i := i) hI1_2 (by omega) (by omega) (by omega) (by rw [← BitVec.toNat_inj]; omega) (by omega), ← vpart bs i (by omega) (by omega)]; rfl) | (rw [vget_more (by omega)]; rfl) | (rw [vget_short (by omega) (by omega) (by omega)]; rfl), rfl⟩
theorem zig_ok (p : Int) (w0 : World) (hp : -9223372036854775808 ≤ p ∧ p ≤ 9223372036854775807) : Calls Tryz.prog 92 #[.int .i64 p] w0 (RetV w0 (.int .u64 (((zigI p).toNat : Nat) : Int))) := by
 refine enterG (F0 := [(0, .int .i64 (p))]) Tryz.func92 rfl rfl rfl (.c .n) (Mem.nil _) fun a w hs => ?_
 refine go 2 [] [3, 0] hs .n ?_; clear hs w a; intro a w hs
 refine st_shlI (m := 1) hs rfl rfl (by decide) rfl ?_; clear hs w a; intro a w hs
 refine st_cv_u64 hs rfl Tryz.underlying2 Tryz.underlying129 rfl ?_; clear hs w a; intro a w hs
 refine goL 1 [] [6, 5] hs .n ?_; clear hs w a; intro a w hs
 refine st_shrI (m := 63) hs rfl rfl (by decide) rfl ?_; clear hs w a; intro a w hs
 refine st_cv_u64 hs rfl Tryz.underlying2 Tryz.underlying129 rfl ?_; clear hs w a; intro a w hs
 refine st_xor_u64 (X := BitVec.ofInt 64 (IntKind.i64.wrap (p * 2 ^ (min 1 64)))) (Y := BitVec.ofInt 64 ((p).fdiv (2 ^ (min 63 64)))) hs rfl rfl rfl rfl rfl ?_; clear hs w a; intro a w hs
 refine goL 1 [] [2] hs .n ?_; clear hs w a; intro a w hs
 exact fin hs rfl rfl ⟨by rw [zig_eq p hp], rfl⟩
theorem zag_ok (X : BitVec 64) (w0 : World) : Calls Tryz.prog 99 #[.int .u64 (X.toNat : Int)] w0 (RetV w0 (.int .i64 (zagI X))) := by
 refine enterG (F0 := [(0, .int .u64 ((((X).toNat : Nat) : Int)))]) Tryz.func99 rfl rfl rfl (.c .n) (Mem.nil _) fun a w hs => ?_
 refine go 2 [] [3, 0] hs .n ?_; clear hs w a; intro a w hs
 refine st_shr_u64 (X := X) (m := 1) hs rfl rfl rfl (by decide) rfl ?_; clear hs w a; intro a w hs
 refine st_cv_u64_i64 (X := X >>> 1) hs rfl rfl Tryz.underlying129 Tryz.underlying2 rfl ?_; clear hs w a; intro a w hs
 refine goL 1 [] [6, 5] hs .n ?_; clear hs w a; intro a w hs
 refine st_and_u64 (X := X) (Y := 1#64) hs rfl rfl rfl (by decide) rfl ?_; clear hs w a; intro a w hs
 refine st_cv_u64_i64 (X := X &&& (1#64)) hs rfl rfl Tryz.underlying129 Tryz.underlying2 rfl ?_; clear hs w a; intro a w hs
 refine goL 1 [] [9, 5] hs .n ⟨(by rw [and_1]; omega), ?_⟩; clear hs w a; intro a w hs
 refine st_xorI hs rfl rfl rfl ?_; clear hs w a; intro a w hs
 refine goL 1 [] [2] hs .n ?_; clear hs w a; intro a w hs
 exact fin hs rfl rfl ⟨by rw [zag_eq X], rfl⟩
end Go.Proofs.YtbioemaipghagaaGreat
