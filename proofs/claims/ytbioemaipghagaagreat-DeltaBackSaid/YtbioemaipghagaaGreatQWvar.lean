/- Walks of varint: what each function does, over the program of this seat. Printed by a program of this session. -/
import Derived.Test.YtbioemaipghagaaGreatQSxS
import Derived.Test.YtbioemaipghagaaGreatQSxBasB
import Derived.Test.YtbioemaipghagaaGreatQSxPvar
import Derived.KernelRfl
import Derived.Test.YtbioemaipghagaaGreatProg
namespace Go.Proofs.YtbioemaipghagaaGreat
open Go Go.Sx Go.RowKit
set_option linter.unusedVariables false
set_option linter.unusedSimpArgs false
set_option maxRecDepth 4000
set_option maxHeartbeats 1000000

theorem len64_ok (X : BitVec 64) (w0 : World) : Calls Tryz.prog 127 #[.int .u64 (X.toNat : Int)] w0 (RetV w0 (.int .i64 ((bitlen X.toNat : Nat) : Int))) := by
  have hx := X.isLt
  refine enter (F0 := [(0, .int .u64 ((((X).toNat : Nat) : Int)))]) Tryz.func127 rfl rfl rfl (.c .n) (Mem.nil _) fun a w hs => ?_
  refine wp_seq_k fun K1 hK2 => ?_
  refine wp_region_lit ?_
  refine st_as hs rfl rfl ?_; clear hs w a; intro a w hs
  refine wpList_nil ?_
  refine then_n (hK2 _ _ ?_)
  refine wp_seq_k fun K3 hK4 => ?_
  refine wp_seq_k fun K5 hK6 => ?_
  refine wp_region_lit ?_
  refine st_run 2 [(4, .bool (decide (4294967296 ≤ ((((X).toNat : Nat) : Int)))))] hs .n (by kernel_rfl) (by kernel_rfl) (by kernel_rfl) ?_; clear hs a; intro a hs
  refine wpList_nil ?_
  refine then_n (hK6 _ _ ?_)
  refine wp_if hs rfl (fun hc7 => ?_) (fun hc7 => ?_)
  ·
   replace hc7 := of_decide_eq_true hc7
   have l32 := lenA X 32 (by omega)
   have s32 := shr_nat X 32
   simp only [Nat.reducePow] at s32
   refine wp_seq_k fun K8 hK9 => ?_
   refine wp_region_lit ?_
   refine st_mv hs rfl rfl ?_; clear hs w a; intro a w hs
   refine st_shr_u64 (X := X) (m := 32) hs rfl rfl rfl (by decide) rfl ?_; clear hs w a; intro a w hs
   refine st_as hs rfl rfl ?_; clear hs w a; intro a w hs
   refine wpList_nil ?_
   refine then_n (hK9 _ _ ?_)
   refine wp_region_lit ?_
   refine st_as hs rfl rfl ?_; clear hs w a; intro a w hs
   refine wpList_nil ?_
   refine then_n (hK4 _ _ ?_)
   refine wp_seq_k fun K10 hK11 => ?_
   refine wp_seq_k fun K12 hK13 => ?_
   refine wp_region_lit ?_
   refine st_run 2 [(8, .bool (decide (65536 ≤ ((((X >>> 32).toNat : Nat) : Int)))))] hs .n (by kernel_rfl) (by kernel_rfl) (by kernel_rfl) ?_; clear hs a; intro a hs
   refine wpList_nil ?_
   refine then_n (hK13 _ _ ?_)
   refine wp_if hs rfl (fun hc14 => ?_) (fun hc14 => ?_)
   ·
    replace hc14 := of_decide_eq_true hc14
    have l16 := lenA (X >>> 32) 16 (by omega)
    have s16 := shr_nat (X >>> 32) 16
    simp only [Nat.reducePow] at s16
    refine wp_seq_k fun K15 hK16 => ?_
    refine wp_region_lit ?_
    refine st_mv hs rfl rfl ?_; clear hs w a; intro a w hs
    refine st_shr_u64 (X := X >>> 32) (m := 16) hs rfl rfl rfl (by decide) rfl ?_; clear hs w a; intro a w hs
    refine st_as hs rfl rfl ?_; clear hs w a; intro a w hs
    refine wpList_nil ?_
    refine then_n (hK16 _ _ ?_)
    refine wp_region_lit ?_
    refine st_run 3 [(2, .int .i64 (48))] hs .n (by kernel_rfl) (by kernel_rfl) (by kernel_rfl) ?_; clear hs a; intro a hs
    refine wpList_nil ?_
    refine then_n (hK11 _ _ ?_)
    refine wp_seq_k fun K17 hK18 => ?_
    refine wp_seq_k fun K19 hK20 => ?_
    refine wp_region_lit ?_
    refine st_run 2 [(14, .bool (decide (256 ≤ (((((X >>> 32) >>> 16).toNat : Nat) : Int)))))] hs .n (by kernel_rfl) (by kernel_rfl) (by kernel_rfl) ?_; clear hs a; intro a hs
    refine wpList_nil ?_
    refine then_n (hK20 _ _ ?_)
    refine wp_if hs rfl (fun hc21 => ?_) (fun hc21 => ?_)
    ·
     replace hc21 := of_decide_eq_true hc21
     have l8 := lenA ((X >>> 32) >>> 16) 8 (by omega)
     have s8 := shr_nat ((X >>> 32) >>> 16) 8
     simp only [Nat.reducePow] at s8
     refine wp_seq_k fun K22 hK23 => ?_
     refine wp_region_lit ?_
     refine st_mv hs rfl rfl ?_; clear hs w a; intro a w hs
     refine st_shr_u64 (X := (X >>> 32) >>> 16) (m := 8) hs rfl rfl rfl (by decide) rfl ?_; clear hs w a; intro a w hs
     refine st_as hs rfl rfl ?_; clear hs w a; intro a w hs
     refine wpList_nil ?_
     refine then_n (hK23 _ _ ?_)
     refine wp_region_lit ?_
     refine st_run 3 [(2, .int .i64 (56))] hs .n (by kernel_rfl) (by kernel_rfl) (by kernel_rfl) ?_; clear hs a; intro a hs
     refine wpList_nil ?_
     refine then_n (hK18 _ _ ?_)
     refine wp_seq_k fun K24 hK25 => ?_
     refine wp_region_lit ?_
     refine st_run 2 [(20, .int .u64 ((((((X >>> 32) >>> 16) >>> 8).toNat : Nat) : Int))), (19, .int .i64 (56))] hs .n (by kernel_rfl) (by kernel_rfl) (by kernel_rfl) ?_; clear hs a; intro a hs
     refine st_cv_u64_u8 (X := ((X >>> 32) >>> 16) >>> 8) hs rfl rfl Tryz.underlying129 Tryz.underlying5 rfl ?_; clear hs w a; intro a w hs
     refine st_ixT (Y := (((X >>> 32) >>> 16) >>> 8).setWidth 8) hs rfl rfl rfl Tryz.underlying9 len8_tab rfl ?_; clear hs w a; intro a w hs
     refine st_cv_i64 hs rfl (bvr (BitVec.ofNat 8 (bitlen ((((X >>> 32) >>> 16) >>> 8).setWidth 8).toNat))) Tryz.underlying5 Tryz.underlying3 rfl ?_; clear hs w a; intro a w hs
     refine st_addR hs rfl rfl (by omega) rfl ?_; clear hs w a; intro a w hs
     refine st_as hs rfl rfl ?_; clear hs w a; intro a w hs
     refine wpList_nil ?_
     refine then_n (hK25 _ _ ?_)
     refine wp_ret ?_
     have l9 := lenB (((X >>> 32) >>> 16) >>> 8) (by omega)
     exact fin hs rfl rfl ⟨congrArg (Value.int .i64) (by omega), rfl⟩
    replace hc21 := of_decide_eq_false hc21
    refine wp_skip ?_
    refine then_n (hK18 _ _ ?_)
    refine wp_seq_k fun K26 hK27 => ?_
    refine wp_region_lit ?_
    refine st_run 2 [(20, .int .u64 (((((X >>> 32) >>> 16).toNat : Nat) : Int))), (19, .int .i64 (48))] hs .n (by kernel_rfl) (by kernel_rfl) (by kernel_rfl) ?_; clear hs a; intro a hs
    refine st_cv_u64_u8 (X := (X >>> 32) >>> 16) hs rfl rfl Tryz.underlying129 Tryz.underlying5 rfl ?_; clear hs w a; intro a w hs
    refine st_ixT (Y := ((X >>> 32) >>> 16).setWidth 8) hs rfl rfl rfl Tryz.underlying9 len8_tab rfl ?_; clear hs w a; intro a w hs
    refine st_cv_i64 hs rfl (bvr (BitVec.ofNat 8 (bitlen (((X >>> 32) >>> 16).setWidth 8).toNat))) Tryz.underlying5 Tryz.underlying3 rfl ?_; clear hs w a; intro a w hs
    refine st_addR hs rfl rfl (by omega) rfl ?_; clear hs w a; intro a w hs
    refine st_as hs rfl rfl ?_; clear hs w a; intro a w hs
    refine wpList_nil ?_
    refine then_n (hK27 _ _ ?_)
    refine wp_ret ?_
    have l9 := lenB ((X >>> 32) >>> 16) (by omega)
    exact fin hs rfl rfl ⟨congrArg (Value.int .i64) (by omega), rfl⟩
   replace hc14 := of_decide_eq_false hc14
   refine wp_skip ?_
   refine then_n (hK11 _ _ ?_)
   refine wp_seq_k fun K28 hK29 => ?_
   refine wp_seq_k fun K30 hK31 => ?_
   refine wp_region_lit ?_
   refine st_run 2 [(14, .bool (decide (256 ≤ ((((X >>> 32).toNat : Nat) : Int)))))] hs .n (by kernel_rfl) (by kernel_rfl) (by kernel_rfl) ?_; clear hs a; intro a hs
   refine wpList_nil ?_
   refine then_n (hK31 _ _ ?_)
   refine wp_if hs rfl (fun hc32 => ?_) (fun hc32 => ?_)
   ·
    replace hc32 := of_decide_eq_true hc32
    have l8 := lenA (X >>> 32) 8 (by omega)
    have s8 := shr_nat (X >>> 32) 8
    simp only [Nat.reducePow] at s8
    refine wp_seq_k fun K33 hK34 => ?_
    refine wp_region_lit ?_
    refine st_mv hs rfl rfl ?_; clear hs w a; intro a w hs
    refine st_shr_u64 (X := X >>> 32) (m := 8) hs rfl rfl rfl (by decide) rfl ?_; clear hs w a; intro a w hs
    refine st_as hs rfl rfl ?_; clear hs w a; intro a w hs
    refine wpList_nil ?_
    refine then_n (hK34 _ _ ?_)
    refine wp_region_lit ?_
    refine st_run 3 [(2, .int .i64 (40))] hs .n (by kernel_rfl) (by kernel_rfl) (by kernel_rfl) ?_; clear hs a; intro a hs
    refine wpList_nil ?_
    refine then_n (hK29 _ _ ?_)
    refine wp_seq_k fun K35 hK36 => ?_
    refine wp_region_lit ?_
    refine st_run 2 [(20, .int .u64 (((((X >>> 32) >>> 8).toNat : Nat) : Int))), (19, .int .i64 (40))] hs .n (by kernel_rfl) (by kernel_rfl) (by kernel_rfl) ?_; clear hs a; intro a hs
    refine st_cv_u64_u8 (X := (X >>> 32) >>> 8) hs rfl rfl Tryz.underlying129 Tryz.underlying5 rfl ?_; clear hs w a; intro a w hs
    refine st_ixT (Y := ((X >>> 32) >>> 8).setWidth 8) hs rfl rfl rfl Tryz.underlying9 len8_tab rfl ?_; clear hs w a; intro a w hs
    refine st_cv_i64 hs rfl (bvr (BitVec.ofNat 8 (bitlen (((X >>> 32) >>> 8).setWidth 8).toNat))) Tryz.underlying5 Tryz.underlying3 rfl ?_; clear hs w a; intro a w hs
    refine st_addR hs rfl rfl (by omega) rfl ?_; clear hs w a; intro a w hs
    refine st_as hs rfl rfl ?_; clear hs w a; intro a w hs
    refine wpList_nil ?_
    refine then_n (hK36 _ _ ?_)
    refine wp_ret ?_
    have l9 := lenB ((X >>> 32) >>> 8) (by omega)
    exact fin hs rfl rfl ⟨congrArg (Value.int .i64) (by omega), rfl⟩
   replace hc32 := of_decide_eq_false hc32
   refine wp_skip ?_
   refine then_n (hK29 _ _ ?_)
   refine wp_seq_k fun K37 hK38 => ?_
   refine wp_region_lit ?_
   refine st_run 2 [(20, .int .u64 ((((X >>> 32).toNat : Nat) : Int))), (19, .int .i64 (32))] hs .n (by kernel_rfl) (by kernel_rfl) (by kernel_rfl) ?_; clear hs a; intro a hs
   refine st_cv_u64_u8 (X := X >>> 32) hs rfl rfl Tryz.underlying129 Tryz.underlying5 rfl ?_; clear hs w a; intro a w hs
   refine st_ixT (Y := (X >>> 32).setWidth 8) hs rfl rfl rfl Tryz.underlying9 len8_tab rfl ?_; clear hs w a; intro a w hs
   refine st_cv_i64 hs rfl (bvr (BitVec.ofNat 8 (bitlen ((X >>> 32).setWidth 8).toNat))) Tryz.underlying5 Tryz.underlying3 rfl ?_; clear hs w a; intro a w hs
   refine st_addR hs rfl rfl (by omega) rfl ?_; clear hs w a; intro a w hs
   refine st_as hs rfl rfl ?_; clear hs w a; intro a w hs
   refine wpList_nil ?_
   refine then_n (hK38 _ _ ?_)
   refine wp_ret ?_
   have l9 := lenB (X >>> 32) (by omega)
   exact fin hs rfl rfl ⟨congrArg (Value.int .i64) (by omega), rfl⟩
  replace hc7 := of_decide_eq_false hc7
  refine wp_skip ?_
  refine then_n (hK4 _ _ ?_)
  refine wp_seq_k fun K39 hK40 => ?_
  refine wp_seq_k fun K41 hK42 => ?_
  refine wp_region_lit ?_
  refine st_run 2 [(8, .bool (decide (65536 ≤ ((((X).toNat : Nat) : Int)))))] hs .n (by kernel_rfl) (by kernel_rfl) (by kernel_rfl) ?_; clear hs a; intro a hs
  refine wpList_nil ?_
  refine then_n (hK42 _ _ ?_)
  refine wp_if hs rfl (fun hc43 => ?_) (fun hc43 => ?_)
  ·
   replace hc43 := of_decide_eq_true hc43
   have l16 := lenA X 16 (by omega)
   have s16 := shr_nat X 16
   simp only [Nat.reducePow] at s16
   refine wp_seq_k fun K44 hK45 => ?_
   refine wp_region_lit ?_
   refine st_mv hs rfl rfl ?_; clear hs w a; intro a w hs
   refine st_shr_u64 (X := X) (m := 16) hs rfl rfl rfl (by decide) rfl ?_; clear hs w a; intro a w hs
   refine st_as hs rfl rfl ?_; clear hs w a; intro a w hs
   refine wpList_nil ?_
   refine then_n (hK45 _ _ ?_)
   refine wp_region_lit ?_
   refine st_run 3 [(2, .int .i64 (16))] hs .n (by kernel_rfl) (by kernel_rfl) (by kernel_rfl) ?_; clear hs a; intro a hs
   refine wpList_nil ?_
   refine then_n (hK40 _ _ ?_)
   refine wp_seq_k fun K46 hK47 => ?_
   refine wp_seq_k fun K48 hK49 => ?_
   refine wp_region_lit ?_
   refine st_run 2 [(14, .bool (decide (256 ≤ ((((X >>> 16).toNat : Nat) : Int)))))] hs .n (by kernel_rfl) (by kernel_rfl) (by kernel_rfl) ?_; clear hs a; intro a hs
   refine wpList_nil ?_
   refine then_n (hK49 _ _ ?_)
   refine wp_if hs rfl (fun hc50 => ?_) (fun hc50 => ?_)
   ·
    replace hc50 := of_decide_eq_true hc50
    have l8 := lenA (X >>> 16) 8 (by omega)
    have s8 := shr_nat (X >>> 16) 8
    simp only [Nat.reducePow] at s8
    refine wp_seq_k fun K51 hK52 => ?_
    refine wp_region_lit ?_
    refine st_mv hs rfl rfl ?_; clear hs w a; intro a w hs
    refine st_shr_u64 (X := X >>> 16) (m := 8) hs rfl rfl rfl (by decide) rfl ?_; clear hs w a; intro a w hs
    refine st_as hs rfl rfl ?_; clear hs w a; intro a w hs
    refine wpList_nil ?_
    refine then_n (hK52 _ _ ?_)
    refine wp_region_lit ?_
    refine st_run 3 [(2, .int .i64 (24))] hs .n (by kernel_rfl) (by kernel_rfl) (by kernel_rfl) ?_; clear hs a; intro a hs
    refine wpList_nil ?_
    refine then_n (hK47 _ _ ?_)
    refine wp_seq_k fun K53 hK54 => ?_
    refine wp_region_lit ?_
    refine st_run 2 [(20, .int .u64 (((((X >>> 16) >>> 8).toNat : Nat) : Int))), (19, .int .i64 (24))] hs .n (by kernel_rfl) (by kernel_rfl) (by kernel_rfl) ?_; clear hs a; intro a hs
    refine st_cv_u64_u8 (X := (X >>> 16) >>> 8) hs rfl rfl Tryz.underlying129 Tryz.underlying5 rfl ?_; clear hs w a; intro a w hs
    refine st_ixT (Y := ((X >>> 16) >>> 8).setWidth 8) hs rfl rfl rfl Tryz.underlying9 len8_tab rfl ?_; clear hs w a; intro a w hs
    refine st_cv_i64 hs rfl (bvr (BitVec.ofNat 8 (bitlen (((X >>> 16) >>> 8).setWidth 8).toNat))) Tryz.underlying5 Tryz.underlying3 rfl ?_; clear hs w a; intro a w hs
    refine st_addR hs rfl rfl (by omega) rfl ?_; clear hs w a; intro a w hs
    refine st_as hs rfl rfl ?_; clear hs w a; intro a w hs
    refine wpList_nil ?_
    refine then_n (hK54 _ _ ?_)
    refine wp_ret ?_
    have l9 := lenB ((X >>> 16) >>> 8) (by omega)
    exact fin hs rfl rfl ⟨congrArg (Value.int .i64) (by omega), rfl⟩
   replace hc50 := of_decide_eq_false hc50
   refine wp_skip ?_
   refine then_n (hK47 _ _ ?_)
   refine wp_seq_k fun K55 hK56 => ?_
   refine wp_region_lit ?_
   refine st_run 2 [(20, .int .u64 ((((X >>> 16).toNat : Nat) : Int))), (19, .int .i64 (16))] hs .n (by kernel_rfl) (by kernel_rfl) (by kernel_rfl) ?_; clear hs a; intro a hs
   refine st_cv_u64_u8 (X := X >>> 16) hs rfl rfl Tryz.underlying129 Tryz.underlying5 rfl ?_; clear hs w a; intro a w hs
   refine st_ixT (Y := (X >>> 16).setWidth 8) hs rfl rfl rfl Tryz.underlying9 len8_tab rfl ?_; clear hs w a; intro a w hs
   refine st_cv_i64 hs rfl (bvr (BitVec.ofNat 8 (bitlen ((X >>> 16).setWidth 8).toNat))) Tryz.underlying5 Tryz.underlying3 rfl ?_; clear hs w a; intro a w hs
   refine st_addR hs rfl rfl (by omega) rfl ?_; clear hs w a; intro a w hs
   refine st_as hs rfl rfl ?_; clear hs w a; intro a w hs
   refine wpList_nil ?_
   refine then_n (hK56 _ _ ?_)
   refine wp_ret ?_
   have l9 := lenB (X >>> 16) (by omega)
   exact fin hs rfl rfl ⟨congrArg (Value.int .i64) (by omega), rfl⟩
  replace hc43 := of_decide_eq_false hc43
  refine wp_skip ?_
  refine then_n (hK40 _ _ ?_)
  refine wp_seq_k fun K57 hK58 => ?_
  refine wp_seq_k fun K59 hK60 => ?_
  refine wp_region_lit ?_
  refine st_run 2 [(14, .bool (decide (256 ≤ ((((X).toNat : Nat) : Int)))))] hs .n (by kernel_rfl) (by kernel_rfl) (by kernel_rfl) ?_; clear hs a; intro a hs
  refine wpList_nil ?_
  refine then_n (hK60 _ _ ?_)
  refine wp_if hs rfl (fun hc61 => ?_) (fun hc61 => ?_)
  ·
   replace hc61 := of_decide_eq_true hc61
   have l8 := lenA X 8 (by omega)
   have s8 := shr_nat X 8
   simp only [Nat.reducePow] at s8
   refine wp_seq_k fun K62 hK63 => ?_
   refine wp_region_lit ?_
   refine st_mv hs rfl rfl ?_; clear hs w a; intro a w hs
   refine st_shr_u64 (X := X) (m := 8) hs rfl rfl rfl (by decide) rfl ?_; clear hs w a; intro a w hs
   refine st_as hs rfl rfl ?_; clear hs w a; intro a w hs
   refine wpList_nil ?_
   refine then_n (hK63 _ _ ?_)
   refine wp_region_lit ?_
   refine st_run 3 [(2, .int .i64 (8))] hs .n (by kernel_rfl) (by kernel_rfl) (by kernel_rfl) ?_; clear hs a; intro a hs
   refine wpList_nil ?_
   refine then_n (hK58 _ _ ?_)
   refine wp_seq_k fun K64 hK65 => ?_
   refine wp_region_lit ?_
   refine st_run 2 [(20, .int .u64 ((((X >>> 8).toNat : Nat) : Int))), (19, .int .i64 (8))] hs .n (by kernel_rfl) (by kernel_rfl) (by kernel_rfl) ?_; clear hs a; intro a hs
   refine st_cv_u64_u8 (X := X >>> 8) hs rfl rfl Tryz.underlying129 Tryz.underlying5 rfl ?_; clear hs w a; intro a w hs
   refine st_ixT (Y := (X >>> 8).setWidth 8) hs rfl rfl rfl Tryz.underlying9 len8_tab rfl ?_; clear hs w a; intro a w hs
   refine st_cv_i64 hs rfl (bvr (BitVec.ofNat 8 (bitlen ((X >>> 8).setWidth 8).toNat))) Tryz.underlying5 Tryz.underlying3 rfl ?_; clear hs w a; intro a w hs
   refine st_addR hs rfl rfl (by omega) rfl ?_; clear hs w a; intro a w hs
   refine st_as hs rfl rfl ?_; clear hs w a; intro a w hs
   refine wpList_nil ?_
   refine then_n (hK65 _ _ ?_)
   refine wp_ret ?_
   have l9 := lenB (X >>> 8) (by omega)
   exact fin hs rfl rfl ⟨congrArg (Value.int .i64) (by omega), rfl⟩
  replace hc61 := of_decide_eq_false hc61
  refine wp_skip ?_
  refine then_n (hK58 _ _ ?_)
  refine wp_seq_k fun K66 hK67 => ?_
  refine wp_region_lit ?_
  refine st_run 2 [(20, .int .u64 ((((X).toNat : Nat) : Int))), (19, .int .i64 (0))] hs .n (by kernel_rfl) (by kernel_rfl) (by kernel_rfl) ?_; clear hs a; intro a hs
  refine st_cv_u64_u8 (X := X) hs rfl rfl Tryz.underlying129 Tryz.underlying5 rfl ?_; clear hs w a; intro a w hs
  refine st_ixT (Y := (X).setWidth 8) hs rfl rfl rfl Tryz.underlying9 len8_tab rfl ?_; clear hs w a; intro a w hs
  refine st_cv_i64 hs rfl (bvr (BitVec.ofNat 8 (bitlen ((X).setWidth 8).toNat))) Tryz.underlying5 Tryz.underlying3 rfl ?_; clear hs w a; intro a w hs
  refine st_addR hs rfl rfl (by omega) rfl ?_; clear hs w a; intro a w hs
  refine st_as hs rfl rfl ?_; clear hs w a; intro a w hs
  refine wpList_nil ?_
  refine then_n (hK67 _ _ ?_)
  refine wp_ret ?_
  have l9 := lenB X (by omega)
  exact fin hs rfl rfl ⟨congrArg (Value.int .i64) (by omega), rfl⟩
theorem size_ok (X : BitVec 64) (w0 : World) : Calls Tryz.prog 136 #[.int .u64 (X.toNat : Int)] w0 (RetV w0 (.int .i64 ((vlen X.toNat : Nat) : Int))) := by
  have hx := X.isLt
  have hl := bitlen_lt hx
  refine enter (F0 := [(0, .int .u64 ((((X).toNat : Nat) : Int)))]) Tryz.func136 rfl rfl rfl (.c .n) (Mem.nil _) fun a w hs => ?_
  refine wp_seq_k fun K1 hK2 => ?_
  refine wp_region_lit ?_
  refine st_as hs rfl rfl ?_; clear hs w a; intro a w hs
  refine wpList_nil ?_
  refine then_n (hK2 _ _ ?_)
  refine wp_seq_k fun K3 hK4 => ?_
  refine wp_region_lit ?_
  refine st_mv hs rfl rfl ?_; clear hs w a; intro a w hs
  refine st_callP (v := .int .i64 (((bitlen X.toNat : Nat) : Int))) hs (.c rfl .n) Tryz.call127 (len64_ok X _) rfl ?_; clear hs w a; intro a w hs
  refine st_max hs rfl rfl rfl ?_; clear hs w a; intro a w hs
  refine st_addR hs rfl rfl (by omega) rfl ?_; clear hs w a; intro a w hs
  refine st_subR hs rfl rfl (by omega) rfl ?_; clear hs w a; intro a w hs
  refine st_quoN hs rfl rfl (by omega) rfl ?_; clear hs w a; intro a w hs
  refine st_as hs rfl rfl ?_; clear hs w a; intro a w hs
  refine wpList_nil ?_
  refine then_n (hK4 _ _ ?_)
  refine wp_ret ?_
  exact fin hs rfl rfl ⟨congrArg (Value.int .i64) (vlen_int X), rfl⟩
theorem put_ok (X : BitVec 64) (w0 : World) : Calls Tryz.prog 93 #[.int .u64 (X.toNat : Int)] w0 (Ret w0 [] fun r N => N = [row r 5 1 (vlen X.toNat) (bytesV (vput X.toNat))]) := by
  have hvl := vlen_le X.toNat
  have hvp := vlen_pos X.toNat
  refine enter (F0 := [(0, .int .u64 ((((X).toNat : Nat) : Int)))]) Tryz.func93 rfl rfl rfl (.c .n) (Mem.nil _) fun a w hs => ?_
  refine wp_seq_k fun K1 hK2 => ?_
  refine wp_region_lit ?_
  refine st_as hs rfl rfl ?_; clear hs w a; intro a w hs
  refine wpList_nil ?_
  refine then_n (hK2 _ _ ?_)
  refine wp_seq_k fun K3 hK4 => ?_
  refine wp_region_lit ?_
  refine st_mv hs rfl rfl ?_; clear hs w a; intro a w hs
  refine st_callP (v := .int .i64 (((vlen X.toNat : Nat) : Int))) hs (.c rfl .n) Tryz.call136 (size_ok X _) rfl ?_; clear hs w a; intro a w hs
  refine st_mk (m := vlen X.toNat) (bytes := 1) hs rfl rfl Tryz.underlying37 (i := Tryz.t5) rfl rfl rfl rfl (by show 1 * (vlen X.toNat) ≤ 281474976710656; omega) (by omega) rfl ?_; clear hs w a; intro v5 a w hs
  replace hs := hs.rerow .z (m' := vlen X.toNat) (xs' := bytesV (putK X (vlen X.toNat) 0)) (by omega) (by simp [bytesV, byteV, putK])
  refine st_as hs rfl rfl ?_; clear hs w a; intro a w hs
  refine wpList_nil ?_
  refine then_n (hK4 _ _ ?_)
  refine wp_seq_k fun K6 hK7 => ?_
  refine wp_seq_k fun K8 hK9 => ?_
  refine wp_region_lit ?_
  refine st_mv hs rfl rfl ?_; clear hs w a; intro a w hs
  refine st_len hs rfl (rd_row (hs.mem.del .z)).isSl Tryz.underlying37 rfl ?_; clear hs w a; intro a w hs
  refine st_mv hs rfl rfl ?_; clear hs w a; intro a w hs
  refine wpList_nil ?_
  refine then_n (hK9 _ _ ?_)
  refine wp_block ?_
  refine wp_loopI (fun mm_ a w => ∃ k : Nat, mm_ = vlen X.toNat - k ∧ St 32 [(0, .int .u64 ((((X).toNat : Nat) : Int))), (3, v5), (9, .int .i64 (((vlen X.toNat : Nat) : Int))), (10, .int .i64 ((k : Int)))] w0 [] [row v5 5 1 (vlen X.toNat) (bytesV (putK X (vlen X.toNat) k))] a w ∧ k ≤ vlen X.toNat) ⟨0, rfl, hs.sub (.c rfl (.c rfl (.c rfl (.c rfl .n)))), by omega⟩ ?_
  clear hs w a; rintro mm_ a w ⟨k, rfl, hs, hI1_0⟩
  have hlp := length_putK X (vlen X.toNat) k
  refine wp_seq_k fun K10 hK11 => ?_
  refine wp_region_lit ?_
  refine st_lss hs rfl rfl rfl ?_; clear hs w a; intro a w hs
  refine wpList_nil ?_
  refine then_n (hK11 _ _ ?_)
  refine wp_seq_k fun K12 hK13 => ?_
  refine wp_if hs rfl (fun hc14 => ?_) (fun hc14 => ?_)
  ·
   replace hc14 := of_decide_eq_true hc14
   refine wp_skip ?_
   refine then_n (hK13 _ _ ?_)
   refine wp_seq_k fun K15 hK16 => ?_
   refine wp_block ?_
   refine wp_seq_k fun K17 hK18 => ?_
   refine wp_region_lit ?_
   refine st_run 2 [(4, .int .i64 ((k : Int))), (12, .int .i64 ((k : Int)))] hs .n (by kernel_rfl) (by kernel_rfl) (by kernel_rfl) ?_; clear hs a; intro a hs
   refine wpList_nil ?_
   refine then_n (hK18 _ _ ?_)
   refine wp_region_lit ?_
   refine st_run 4 [(16, .int .i64 ((k : Int))), (15, .int .u64 ((((X).toNat : Nat) : Int))), (14, .int .i64 ((k : Int))), (13, v5)] hs .n (by kernel_rfl) (by kernel_rfl) (by kernel_rfl) ?_; clear hs a; intro a hs
   refine st_mulR hs rfl rfl (by omega) rfl ?_; clear hs w a; intro a w hs
   have hv_ : (7 * (k : Int) : Int) = (((7 * k : Nat) : Int) : Int) := by omega
   rw [hv_] at hs; clear hv_
   refine st_shr_u64 (X := X) (m := (7 * k)) hs rfl rfl rfl rfl rfl ?_; clear hs w a; intro a w hs
   refine st_cv_u64_u8 (X := X >>> (7 * k)) hs rfl rfl Tryz.underlying129 Tryz.underlying5 rfl ?_; clear hs w a; intro a w hs
   refine st_or_u8 (X := (X >>> (7 * k)).setWidth 8) (Y := 128#8) hs rfl rfl rfl (by decide) rfl ?_; clear hs w a; intro a w hs
   refine st_ia1 (j := k) hs rfl rfl (rd_row (hs.mem.del .z)) rfl (by omega) Tryz.underlying37 Tryz.sizeOf5 rfl ?_; clear hs w a; intro a w hs
   refine st_stR hs rfl rfl .z (by omega) rfl Tryz.sizeOf5 ?_; clear hs w a; intro a w hs
   replace hs := hs.rerow .z (m' := vlen X.toNat) (xs' := bytesV (((putK X (vlen X.toNat) k)).set k (((X >>> (7 * k)).setWidth 8) ||| (128#8)))) (rfl) ((bytesV_set _ _ _).symm)
   refine wpList_nil ?_
   refine in_n ?_
   refine then_n (hK16 _ _ ?_)
   refine wp_region_lit ?_
   refine st_addR hs rfl rfl (by omega) rfl ?_; clear hs w a; intro a w hs
   refine st_mv hs rfl rfl ?_; clear hs w a; intro a w hs
   refine wpList_nil ?_
   refine then_n ?_
   refine ⟨_, ?_, k + 1, rfl, hs.sub (.c rfl (.c rfl (.c rfl (.c rfl .n)))), by omega⟩
   omega
  replace hc14 := of_decide_eq_false hc14
  refine wp_exit ?_
  refine th_e ?_
  refine th_e ?_
  refine in_hit ?_
  refine then_n (hK7 _ _ ?_)
  refine wp_seq_k fun K19 hK20 => ?_
  refine wp_region_lit ?_
  refine st_run 2 [(24, v5), (23, v5)] hs .n (by kernel_rfl) (by kernel_rfl) (by kernel_rfl) ?_; clear hs a; intro a hs
  refine st_len hs rfl (rd_row (hs.mem.del .z)).isSl Tryz.underlying37 rfl ?_; clear hs w a; intro a w hs
  refine st_subR hs rfl rfl (by omega) rfl ?_; clear hs w a; intro a w hs
  have hv_ : ((((vlen X.toNat : Nat) : Int)) - 1 : Int) = (((vlen X.toNat - 1 : Nat) : Int) : Int) := by omega
  rw [hv_] at hs; clear hv_
  refine st_ia1 (j := (vlen X.toNat - 1)) hs rfl rfl (rd_row (hs.mem.del .z)) rfl (by omega) Tryz.underlying37 Tryz.sizeOf5 rfl ?_; clear hs w a; intro a w hs
  refine st_ld hs rfl (rd_row (hs.mem.del .z)) (bytesV_getD ((putK X (vlen X.toNat) k)) (by first | omega | (simp; omega))) Tryz.isAgg5 rfl ?_; clear hs w a; intro a w hs
  refine st_andNot_u8 (X := ((putK X (vlen X.toNat) k)).getD (vlen X.toNat - 1) 0) (Y := 128#8) hs rfl rfl rfl (by decide) rfl ?_; clear hs w a; intro a w hs
  refine st_ia1 (j := (vlen X.toNat - 1)) hs rfl rfl (rd_row (hs.mem.del .z)) rfl (by omega) Tryz.underlying37 Tryz.sizeOf5 rfl ?_; clear hs w a; intro a w hs
  refine st_stR hs rfl rfl .z (by omega) rfl Tryz.sizeOf5 ?_; clear hs w a; intro a w hs
  replace hs := hs.rerow .z (m' := vlen X.toNat) (xs' := bytesV (((putK X (vlen X.toNat) k)).set (vlen X.toNat - 1) ((((putK X (vlen X.toNat) k)).getD (vlen X.toNat - 1) 0) &&& ~~~(128#8)))) (rfl) ((bytesV_set _ _ _).symm)
  refine wpList_nil ?_
  refine then_n (hK20 _ _ ?_)
  refine wp_seq_k fun K21 hK22 => ?_
  refine wp_region_lit ?_
  refine st_run 2 [(2, v5)] hs .n (by kernel_rfl) (by kernel_rfl) (by kernel_rfl) ?_; clear hs a; intro a hs
  refine wpList_nil ?_
  refine then_n (hK22 _ _ ?_)
  refine wp_ret ?_
  replace hs := hs.rerow .z (m' := vlen X.toNat) (xs' := bytesV (vput X.toNat)) (by omega) (by rw [show k = vlen X.toNat by omega]; exact congrArg bytesV (putEnd X _ rfl))
  exact fin hs rfl rfl rfl
theorem get_ok (v : Value) (m : Nat) (bs : List Byte) (w0 : World) (hb : Rd w0 [] v 1 m (bytesV bs)) : Calls Tryz.prog 98 #[v] w0 (RetV w0 (.tuple #[.int .u64 (((vget bs).1.toNat : Nat) : Int), .int .i64 (((vget bs).2.1 : Nat) : Int), .int .i64 (((vget bs).2.2 : Nat) : Int)])) := by
  have hbl : bs.length = m := by have := hb.len; simpa [bytesV] using this
  have hbe : m ≤ maxLen := hb.le
  simp only [maxLen] at hbe
  refine enter (F0 := [(0, v)]) Tryz.func98 rfl rfl rfl (.c .n) (Mem.nil _) fun a w hs => ?_
  refine wp_seq_k fun K1 hK2 => ?_
  refine wp_region_lit ?_
  refine st_run 3 [(4, .int .i64 (0)), (3, .int .i64 (0)), (2, .int .u64 (0))] hs .n (by kernel_rfl) (by kernel_rfl) (by kernel_rfl) ?_; clear hs a; intro a hs
  refine wpList_nil ?_
  refine then_n (hK2 _ _ ?_)
  refine wp_seq_k fun K3 hK4 => ?_
  refine wp_seq_k fun K5 hK6 => ?_
  refine wp_region_lit ?_
  refine st_mv hs rfl rfl ?_; clear hs w a; intro a w hs
  refine st_len hs rfl (hs.rd0 hb).isSl Tryz.underlying37 rfl ?_; clear hs w a; intro a w hs
  refine st_eql hs rfl rfl rfl ?_; clear hs w a; intro a w hs
  refine wpList_nil ?_
  refine then_n (hK6 _ _ ?_)
  refine wp_if hs rfl (fun hc7 => ?_) (fun hc7 => ?_)
  ·
   replace hc7 := eq_of_beq hc7
   refine wp_seq_k fun K8 hK9 => ?_
   refine wp_region_lit ?_
   refine st_run 3 [(4, .int .i64 (5)), (3, .int .i64 (0)), (2, .int .u64 (0))] hs .n (by kernel_rfl) (by kernel_rfl) (by kernel_rfl) ?_; clear hs a; intro a hs
   refine wpList_nil ?_
   refine then_n (hK9 _ _ ?_)
   refine wp_ret ?_
   refine th_r ?_
   exact fin3 hs rfl rfl rfl rfl ⟨by first | (rw [vget_nil (by omega)]; rfl) | (rw [vget_over (i := i) hI1_2 (by omega) (by omega) (by omega) (by rw [← BitVec.toNat_inj]; omega)]; rfl) | (rw [vget_long (i := i) hI1_2 (by omega) (by omega) (by omega) (by omega)]; rfl) | (rw [vget_one (i := i) hI1_2 (by omega) (by omega) (by omega) (by rw [← BitVec.toNat_inj]; omega) (by omega), ← vpart bs i (by omega) (by omega)]; rfl) | (rw [vget_more (by omega)]; rfl) | (rw [vget_short (by omega) (by omega) (by omega)]; rfl), rfl⟩
  replace hc7 := ne_of_beq_f hc7
  refine wp_skip ?_
  refine then_n (hK4 _ _ ?_)
  refine wp_seq_k fun K10 hK11 => ?_
  refine wp_region_lit ?_
  refine st_as hs rfl rfl ?_; clear hs w a; intro a w hs
  refine wpList_nil ?_
  refine then_n (hK11 _ _ ?_)
  refine wp_seq_k fun K12 hK13 => ?_
  refine wp_seq_k fun K14 hK15 => ?_
  refine wp_region_lit ?_
  refine st_mv hs rfl rfl ?_; clear hs w a; intro a w hs
  refine st_len hs rfl (hs.rd0 hb).isSl Tryz.underlying37 rfl ?_; clear hs w a; intro a w hs
  refine st_min hs rfl rfl rfl ?_; clear hs w a; intro a w hs
  refine st_mv hs rfl rfl ?_; clear hs w a; intro a w hs
  refine wpList_nil ?_
  refine then_n (hK15 _ _ ?_)
  refine wp_block ?_
  refine wp_loopI (fun mm_ a w => ∃ i : Nat, mm_ = 10 - i ∧ St 60 [(0, v), (5, .int .u64 ((((BitVec.ofNat 64 (vval (bs.take i))).toNat : Nat) : Int))), (14, .int .i64 (min (m : Int) 10)), (15, .int .i64 ((i : Int)))] w0 [] [] a w ∧ i ≤ m ∧ i ≤ 10 ∧ i ≤ vcont 10 bs) ⟨0, rfl, hs.sub (.c rfl (.c (congrArg (fun z : BitVec 64 => some (Value.int .u64 ((z.toNat : Nat) : Int))) (show 0#64 = BitVec.ofNat 64 (vval (bs.take 0)) by rw [List.take_zero]; rfl)) (.c rfl (.c rfl .n)))), by omega, by omega, Nat.zero_le _⟩ ?_
  clear hs w a; rintro mm_ a w ⟨i, rfl, hs, hI1_0, hI1_1, hI1_2⟩
  refine wp_seq_k fun K16 hK17 => ?_
  refine wp_region_lit ?_
  refine st_lss hs rfl rfl rfl ?_; clear hs w a; intro a w hs
  refine wpList_nil ?_
  refine then_n (hK17 _ _ ?_)
  refine wp_seq_k fun K18 hK19 => ?_
  refine wp_if hs rfl (fun hc20 => ?_) (fun hc20 => ?_)
  ·
   replace hc20 := of_decide_eq_true hc20
   refine wp_skip ?_
   refine then_n (hK19 _ _ ?_)
   refine wp_seq_k fun K21 hK22 => ?_
   refine wp_block ?_
   refine wp_seq_k fun K23 hK24 => ?_
   refine wp_region_lit ?_
   refine st_run 2 [(6, .int .i64 ((i : Int))), (17, .int .i64 ((i : Int)))] hs .n (by kernel_rfl) (by kernel_rfl) (by kernel_rfl) ?_; clear hs a; intro a hs
   refine wpList_nil ?_
   refine then_n (hK24 _ _ ?_)
   refine wp_seq_k fun K25 hK26 => ?_
   refine wp_region_lit ?_
   refine st_run 2 [(19, .int .i64 ((i : Int))), (18, v)] hs .n (by kernel_rfl) (by kernel_rfl) (by kernel_rfl) ?_; clear hs a; intro a hs
   refine st_ia1 (j := i) hs rfl rfl (hs.rd0 hb) rfl (by omega) Tryz.underlying37 Tryz.sizeOf5 rfl ?_; clear hs w a; intro a w hs
   refine st_ld hs rfl (hs.rd0 hb) (bytesV_getD bs (by first | omega | (simp; omega))) Tryz.isAgg5 rfl ?_; clear hs w a; intro a w hs
   refine st_as hs rfl rfl ?_; clear hs w a; intro a w hs
   refine wpList_nil ?_
   refine then_n (hK26 _ _ ?_)
   refine wp_seq_k fun K27 hK28 => ?_
   refine wp_region_lit ?_
   refine st_mv hs rfl rfl ?_; clear hs w a; intro a w hs
   refine st_andNot_u8 (X := bs.getD i 0) (Y := 128#8) hs rfl rfl rfl (by decide) rfl ?_; clear hs w a; intro a w hs
   refine st_cv_u8_u64 (X := (bs.getD i 0) &&& ~~~(128#8)) hs rfl rfl Tryz.underlying5 Tryz.underlying129 rfl ?_; clear hs w a; intro a w hs
   refine st_mv hs rfl rfl ?_; clear hs w a; intro a w hs
   refine st_mulR hs rfl rfl (by omega) rfl ?_; clear hs w a; intro a w hs
   have hv_ : (7 * (i : Int) : Int) = (((7 * i : Nat) : Int) : Int) := by omega
   rw [hv_] at hs; clear hv_
   refine st_shl_u64 (X := ((bs.getD i 0) &&& ~~~(128#8)).setWidth 64) (m := (7 * i)) hs rfl rfl rfl rfl rfl ?_; clear hs w a; intro a w hs
   refine st_as hs rfl rfl ?_; clear hs w a; intro a w hs
   refine wpList_nil ?_
   refine then_n (hK28 _ _ ?_)
   refine wp_seq_k fun K29 hK30 => ?_
   refine wp_seq_k fun K31 hK32 => ?_
   refine wp_region_lit ?_
   refine st_run 2 [(29, .int .i64 ((i : Int))), (28, .int .u64 (((((((bs.getD i 0) &&& ~~~(128#8)).setWidth 64) <<< (7 * i)).toNat : Nat) : Int)))] hs .n (by kernel_rfl) (by kernel_rfl) (by kernel_rfl) ?_; clear hs a; intro a hs
   refine st_mulR hs rfl rfl (by omega) rfl ?_; clear hs w a; intro a w hs
   have hv_ : (7 * (i : Int) : Int) = (((7 * i : Nat) : Int) : Int) := by omega
   rw [hv_] at hs; clear hv_
   refine st_shr_u64 (X := (((bs.getD i 0) &&& ~~~(128#8)).setWidth 64) <<< (7 * i)) (m := (7 * i)) hs rfl rfl rfl rfl rfl ?_; clear hs w a; intro a w hs
   refine st_mv hs rfl rfl ?_; clear hs w a; intro a w hs
   refine st_andNot_u8 (X := bs.getD i 0) (Y := 128#8) hs rfl rfl rfl (by decide) rfl ?_; clear hs w a; intro a w hs
   refine st_cv_u8_u64 (X := (bs.getD i 0) &&& ~~~(128#8)) hs rfl rfl Tryz.underlying5 Tryz.underlying129 rfl ?_; clear hs w a; intro a w hs
   refine st_run 2 [(36, .bool (!(((((((((bs.getD i 0) &&& ~~~(128#8)).setWidth 64) <<< (7 * i)) >>> (7 * i)).toNat : Nat) : Int) : Int) == ((((((bs.getD i 0) &&& ~~~(128#8)).setWidth 64).toNat : Nat) : Int))))), (35, .bool (!(((((((((bs.getD i 0) &&& ~~~(128#8)).setWidth 64) <<< (7 * i)) >>> (7 * i)).toNat : Nat) : Int) : Int) == ((((((bs.getD i 0) &&& ~~~(128#8)).setWidth 64).toNat : Nat) : Int)))))] hs .n (by kernel_rfl) (by kernel_rfl) (by kernel_rfl) ?_; clear hs a; intro a hs
   refine st_part (b := !(((((((((bs.getD i 0) &&& ~~~(128#8)).setWidth 64) <<< (7 * i)) >>> (7 * i)).toNat : Nat) : Int) : Int) == ((((((bs.getD i 0) &&& ~~~(128#8)).setWidth 64).toNat : Nat) : Int)))) (fun hc33 => ?_) (fun hc33 => ?_)
   ·
    rw [hc33] at hs
    replace hc33 := not_t hc33
    replace hc33 := ne_of_beq_f hc33
    refine st_run 3 [(39, .bool (decide (((((bs.getD i 0).toNat : Nat) : Int)) < 128))), (38, .bool (decide (((((bs.getD i 0).toNat : Nat) : Int)) < 128))), (37, .int .u8 ((((bs.getD i 0).toNat : Nat) : Int)))] hs .n (by kernel_rfl) (by kernel_rfl) (by kernel_rfl) ?_; clear hs a; intro a hs
    refine wpList_nil ?_
    refine then_n (hK32 _ _ ?_)
    refine wp_if hs rfl (fun hc34 => ?_) (fun hc34 => ?_)
    ·
     replace hc34 := of_decide_eq_true hc34
     refine wp_seq_k fun K35 hK36 => ?_
     refine wp_region_lit ?_
     refine st_run 3 [(4, .int .i64 (8)), (3, .int .i64 (0)), (2, .int .u64 (0))] hs .n (by kernel_rfl) (by kernel_rfl) (by kernel_rfl) ?_; clear hs a; intro a hs
     refine wpList_nil ?_
     refine then_n (hK36 _ _ ?_)
     refine wp_ret ?_
     refine th_r ?_
     refine in_r ?_
     refine th_r ?_
     refine th_r ?_
     refine in_r ?_
     refine th_r ?_
     exact fin3 hs rfl rfl rfl rfl ⟨by first | (rw [vget_nil (by omega)]; rfl) | (rw [vget_over (i := i) hI1_2 (by omega) (by omega) (by omega) (by rw [← BitVec.toNat_inj]; omega)]; rfl) | (rw [vget_long (i := i) hI1_2 (by omega) (by omega) (by omega) (by omega)]; rfl) | (rw [vget_one (i := i) hI1_2 (by omega) (by omega) (by omega) (by rw [← BitVec.toNat_inj]; omega) (by omega), ← vpart bs i (by omega) (by omega)]; rfl) | (rw [vget_more (by omega)]; rfl) | (rw [vget_short (by omega) (by omega) (by omega)]; rfl), rfl⟩
    replace hc34 := of_decide_eq_false hc34
    refine wp_skip ?_
    refine then_n (hK30 _ _ ?_)
    refine wp_seq_k fun K37 hK38 => ?_
    refine wp_region_lit ?_
    refine st_run 2 [(41, .int .u64 (((((((bs.getD i 0) &&& ~~~(128#8)).setWidth 64) <<< (7 * i)).toNat : Nat) : Int))), (40, .int .u64 ((((BitVec.ofNat 64 (vval (bs.take i))).toNat : Nat) : Int)))] hs .n (by kernel_rfl) (by kernel_rfl) (by kernel_rfl) ?_; clear hs a; intro a hs
    refine st_or_u64 (X := BitVec.ofNat 64 (vval (bs.take i))) (Y := (((bs.getD i 0) &&& ~~~(128#8)).setWidth 64) <<< (7 * i)) hs rfl rfl rfl rfl rfl ?_; clear hs w a; intro a w hs
    refine st_as hs rfl rfl ?_; clear hs w a; intro a w hs
    refine wpList_nil ?_
    refine then_n (hK38 _ _ ?_)
    refine wp_block ?_
    refine wp_seq_k fun K39 hK40 => ?_
    refine wp_region_lit ?_
    refine st_run 3 [(46, .bool (decide (128 ≤ ((((bs.getD i 0).toNat : Nat) : Int))))), (48, .bool (decide (128 ≤ ((((bs.getD i 0).toNat : Nat) : Int))))), (47, .int .u8 ((((bs.getD i 0).toNat : Nat) : Int)))] hs .n (by kernel_rfl) (by kernel_rfl) (by kernel_rfl) ?_; clear hs a; intro a hs
    refine wpList_nil ?_
    refine then_n (hK40 _ _ ?_)
    refine wp_if hs rfl (fun hc41 => ?_) (fun hc41 => ?_)
    ·
     replace hc41 := of_decide_eq_true hc41
     refine wp_skip ?_
     refine in_n ?_
     refine in_n ?_
     refine then_n (hK22 _ _ ?_)
     refine wp_region_lit ?_
     refine st_addR hs rfl rfl (by omega) rfl ?_; clear hs w a; intro a w hs
     refine st_mv hs rfl rfl ?_; clear hs w a; intro a w hs
     refine wpList_nil ?_
     refine then_n ?_
     rw [vpart bs i (by omega) (by omega)] at hs
     refine ⟨_, ?_, i + 1, rfl, hs.sub (.c rfl (.c rfl (.c rfl (.c rfl .n)))), by omega, by omega, vcont_more 10 i bs hI1_2 (by omega) (by omega) (by omega)⟩
     omega
    replace hc41 := of_decide_eq_false hc41
    refine wp_seq_k fun K42 hK43 => ?_
    refine wp_region_lit ?_
    refine st_run 3 [(52, .bool (((((bs.getD i 0).toNat : Nat) : Int) : Int) == 0)), (51, .bool (((((bs.getD i 0).toNat : Nat) : Int) : Int) == 0)), (50, .int .u8 ((((bs.getD i 0).toNat : Nat) : Int)))] hs .n (by kernel_rfl) (by kernel_rfl) (by kernel_rfl) ?_; clear hs a; intro a hs
    refine st_part (b := ((((bs.getD i 0).toNat : Nat) : Int) : Int) == 0) (fun hc44 => ?_) (fun hc44 => ?_)
    ·
     rw [hc44] at hs
     replace hc44 := eq_of_beq hc44
     refine st_run 4 [(49, .bool (decide (0 < (i : Int)))), (55, .bool (decide (0 < (i : Int)))), (54, .bool (decide (0 < (i : Int)))), (53, .int .i64 ((i : Int)))] hs .n (by kernel_rfl) (by kernel_rfl) (by kernel_rfl) ?_; clear hs a; intro a hs
     refine wpList_nil ?_
     refine then_n (hK43 _ _ ?_)
     refine wp_if hs rfl (fun hc45 => ?_) (fun hc45 => ?_)
     ·
      replace hc45 := of_decide_eq_true hc45
      refine wp_seq_k fun K46 hK47 => ?_
      refine wp_region_lit ?_
      refine st_run 3 [(4, .int .i64 (7)), (3, .int .i64 (0)), (2, .int .u64 (0))] hs .n (by kernel_rfl) (by kernel_rfl) (by kernel_rfl) ?_; clear hs a; intro a hs
      refine wpList_nil ?_
      refine then_n (hK47 _ _ ?_)
      refine wp_ret ?_
      refine in_r ?_
      refine in_r ?_
      refine th_r ?_
      refine th_r ?_
      refine in_r ?_
      refine th_r ?_
      exact fin3 hs rfl rfl rfl rfl ⟨by first | (rw [vget_nil (by omega)]; rfl) | (rw [vget_over (i := i) hI1_2 (by omega) (by omega) (by omega) (by rw [← BitVec.toNat_inj]; omega)]; rfl) | (rw [vget_long (i := i) hI1_2 (by omega) (by omega) (by omega) (by omega)]; rfl) | (rw [vget_one (i := i) hI1_2 (by omega) (by omega) (by omega) (by rw [← BitVec.toNat_inj]; omega) (by omega), ← vpart bs i (by omega) (by omega)]; rfl) | (rw [vget_more (by omega)]; rfl) | (rw [vget_short (by omega) (by omega) (by omega)]; rfl), rfl⟩
     replace hc45 := of_decide_eq_false hc45
     refine wp_seq_k fun K48 hK49 => ?_
     refine wp_region_lit ?_
     refine st_run 2 [(44, .int .i64 ((i : Int))), (43, .int .u64 (((((BitVec.ofNat 64 (vval (bs.take i))) ||| ((((bs.getD i 0) &&& ~~~(128#8)).setWidth 64) <<< (7 * i))).toNat : Nat) : Int)))] hs .n (by kernel_rfl) (by kernel_rfl) (by kernel_rfl) ?_; clear hs a; intro a hs
     refine st_addR hs rfl rfl (by omega) rfl ?_; clear hs w a; intro a w hs
     refine st_run 3 [(4, .int .i64 (0)), (3, .int .i64 ((i : Int) + 1)), (2, .int .u64 (((((BitVec.ofNat 64 (vval (bs.take i))) ||| ((((bs.getD i 0) &&& ~~~(128#8)).setWidth 64) <<< (7 * i))).toNat : Nat) : Int)))] hs .n (by kernel_rfl) (by kernel_rfl) (by kernel_rfl) ?_; clear hs a; intro a hs
     refine wpList_nil ?_
     refine then_n (hK49 _ _ ?_)
     refine wp_ret ?_
     refine in_r ?_
     refine in_r ?_
     refine th_r ?_
     refine th_r ?_
     refine in_r ?_
     refine th_r ?_
     exact fin3 hs rfl rfl rfl rfl ⟨by first | (rw [vget_nil (by omega)]; rfl) | (rw [vget_over (i := i) hI1_2 (by omega) (by omega) (by omega) (by rw [← BitVec.toNat_inj]; omega)]; rfl) | (rw [vget_long (i := i) hI1_2 (by omega) (by omega) (by omega) (by omega)]; rfl) | (rw [vget_one (i := i) hI1_2 (by omega) (by omega) (by omega) (by rw [← BitVec.toNat_inj]; omega) (by omega), ← vpart bs i (by omega) (by omega)]; rfl) | (rw [vget_more (by omega)]; rfl) | (rw [vget_short (by omega) (by omega) (by omega)]; rfl), rfl⟩
    rw [hc44] at hs
    replace hc44 := ne_of_beq_f hc44
    refine st_run 4 [(49, .bool (false)), (55, .bool (false)), (54, undef), (53, undef)] hs .n (by kernel_rfl) (by kernel_rfl) (by kernel_rfl) ?_; clear hs a; intro a hs
    refine wpList_nil ?_
    refine then_n (hK43 _ _ ?_)
    refine wp_cond_false (hs.ev rfl) ?_
    refine wp_seq_k fun K50 hK51 => ?_
    refine wp_region_lit ?_
    refine st_run 2 [(44, .int .i64 ((i : Int))), (43, .int .u64 (((((BitVec.ofNat 64 (vval (bs.take i))) ||| ((((bs.getD i 0) &&& ~~~(128#8)).setWidth 64) <<< (7 * i))).toNat : Nat) : Int)))] hs .n (by kernel_rfl) (by kernel_rfl) (by kernel_rfl) ?_; clear hs a; intro a hs
    refine st_addR hs rfl rfl (by omega) rfl ?_; clear hs w a; intro a w hs
    refine st_run 3 [(4, .int .i64 (0)), (3, .int .i64 ((i : Int) + 1)), (2, .int .u64 (((((BitVec.ofNat 64 (vval (bs.take i))) ||| ((((bs.getD i 0) &&& ~~~(128#8)).setWidth 64) <<< (7 * i))).toNat : Nat) : Int)))] hs .n (by kernel_rfl) (by kernel_rfl) (by kernel_rfl) ?_; clear hs a; intro a hs
    refine wpList_nil ?_
    refine then_n (hK51 _ _ ?_)
    refine wp_ret ?_
    refine in_r ?_
    refine in_r ?_
    refine th_r ?_
    refine th_r ?_
    refine in_r ?_
    refine th_r ?_
    exact fin3 hs rfl rfl rfl rfl ⟨by first | (rw [vget_nil (by omega)]; rfl) | (rw [vget_over (i := i) hI1_2 (by omega) (by omega) (by omega) (by rw [← BitVec.toNat_inj]; omega)]; rfl) | (rw [vget_long (i := i) hI1_2 (by omega) (by omega) (by omega) (by omega)]; rfl) | (rw [vget_one (i := i) hI1_2 (by omega) (by omega) (by omega) (by rw [← BitVec.toNat_inj]; omega) (by omega), ← vpart bs i (by omega) (by omega)]; rfl) | (rw [vget_more (by omega)]; rfl) | (rw [vget_short (by omega) (by omega) (by omega)]; rfl), rfl⟩
   rw [hc33] at hs
   replace hc33 := not_f hc33
   replace hc33 := eq_of_beq hc33
   refine st_run 3 [(39, .bool (false)), (38, undef), (37, undef)] hs .n (by kernel_rfl) (by kernel_rfl) (by kernel_rfl) ?_; clear hs a; intro a hs
   refine wpList_nil ?_
   refine then_n (hK32 _ _ ?_)
   refine wp_cond_false (hs.ev rfl) ?_
   refine wp_skip ?_
   refine then_n (hK30 _ _ ?_)
   refine wp_seq_k fun K52 hK53 => ?_
   refine wp_region_lit ?_
   refine st_run 2 [(41, .int .u64 (((((((bs.getD i 0) &&& ~~~(128#8)).setWidth 64) <<< (7 * i)).toNat : Nat) : Int))), (40, .int .u64 ((((BitVec.ofNat 64 (vval (bs.take i))).toNat : Nat) : Int)))] hs .n (by kernel_rfl) (by kernel_rfl) (by kernel_rfl) ?_; clear hs a; intro a hs
   refine st_or_u64 (X := BitVec.ofNat 64 (vval (bs.take i))) (Y := (((bs.getD i 0) &&& ~~~(128#8)).setWidth 64) <<< (7 * i)) hs rfl rfl rfl rfl rfl ?_; clear hs w a; intro a w hs
   refine st_as hs rfl rfl ?_; clear hs w a; intro a w hs
   refine wpList_nil ?_
   refine then_n (hK53 _ _ ?_)
   refine wp_block ?_
   refine wp_seq_k fun K54 hK55 => ?_
   refine wp_region_lit ?_
   refine st_run 3 [(46, .bool (decide (128 ≤ ((((bs.getD i 0).toNat : Nat) : Int))))), (48, .bool (decide (128 ≤ ((((bs.getD i 0).toNat : Nat) : Int))))), (47, .int .u8 ((((bs.getD i 0).toNat : Nat) : Int)))] hs .n (by kernel_rfl) (by kernel_rfl) (by kernel_rfl) ?_; clear hs a; intro a hs
   refine wpList_nil ?_
   refine then_n (hK55 _ _ ?_)
   refine wp_if hs rfl (fun hc56 => ?_) (fun hc56 => ?_)
   ·
    replace hc56 := of_decide_eq_true hc56
    refine wp_skip ?_
    refine in_n ?_
    refine in_n ?_
    refine then_n (hK22 _ _ ?_)
    refine wp_region_lit ?_
    refine st_addR hs rfl rfl (by omega) rfl ?_; clear hs w a; intro a w hs
    refine st_mv hs rfl rfl ?_; clear hs w a; intro a w hs
    refine wpList_nil ?_
    refine then_n ?_
    rw [vpart bs i (by omega) (by omega)] at hs
    refine ⟨_, ?_, i + 1, rfl, hs.sub (.c rfl (.c rfl (.c rfl (.c rfl .n)))), by omega, by omega, vcont_more 10 i bs hI1_2 (by omega) (by omega) (by omega)⟩
    omega
   replace hc56 := of_decide_eq_false hc56
   refine wp_seq_k fun K57 hK58 => ?_
   refine wp_region_lit ?_
   refine st_run 3 [(52, .bool (((((bs.getD i 0).toNat : Nat) : Int) : Int) == 0)), (51, .bool (((((bs.getD i 0).toNat : Nat) : Int) : Int) == 0)), (50, .int .u8 ((((bs.getD i 0).toNat : Nat) : Int)))] hs .n (by kernel_rfl) (by kernel_rfl) (by kernel_rfl) ?_; clear hs a; intro a hs
   refine st_part (b := ((((bs.getD i 0).toNat : Nat) : Int) : Int) == 0) (fun hc59 => ?_) (fun hc59 => ?_)
   ·
    rw [hc59] at hs
    replace hc59 := eq_of_beq hc59
    refine st_run 4 [(49, .bool (decide (0 < (i : Int)))), (55, .bool (decide (0 < (i : Int)))), (54, .bool (decide (0 < (i : Int)))), (53, .int .i64 ((i : Int)))] hs .n (by kernel_rfl) (by kernel_rfl) (by kernel_rfl) ?_; clear hs a; intro a hs
    refine wpList_nil ?_
    refine then_n (hK58 _ _ ?_)
    refine wp_if hs rfl (fun hc60 => ?_) (fun hc60 => ?_)
    ·
     replace hc60 := of_decide_eq_true hc60
     refine wp_seq_k fun K61 hK62 => ?_
     refine wp_region_lit ?_
     refine st_run 3 [(4, .int .i64 (7)), (3, .int .i64 (0)), (2, .int .u64 (0))] hs .n (by kernel_rfl) (by kernel_rfl) (by kernel_rfl) ?_; clear hs a; intro a hs
     refine wpList_nil ?_
     refine then_n (hK62 _ _ ?_)
     refine wp_ret ?_
     refine in_r ?_
     refine in_r ?_
     refine th_r ?_
     refine th_r ?_
     refine in_r ?_
     refine th_r ?_
     exact fin3 hs rfl rfl rfl rfl ⟨by first | (rw [vget_nil (by omega)]; rfl) | (rw [vget_over (i := i) hI1_2 (by omega) (by omega) (by omega) (by rw [← BitVec.toNat_inj]; omega)]; rfl) | (rw [vget_long (i := i) hI1_2 (by omega) (by omega) (by omega) (by omega)]; rfl) | (rw [vget_one (i := i) hI1_2 (by omega) (by omega) (by omega) (by rw [← BitVec.toNat_inj]; omega) (by omega), ← vpart bs i (by omega) (by omega)]; rfl) | (rw [vget_more (by omega)]; rfl) | (rw [vget_short (by omega) (by omega) (by omega)]; rfl), rfl⟩
    replace hc60 := of_decide_eq_false hc60
    refine wp_seq_k fun K63 hK64 => ?_
    refine wp_region_lit ?_
    refine st_run 2 [(44, .int .i64 ((i : Int))), (43, .int .u64 (((((BitVec.ofNat 64 (vval (bs.take i))) ||| ((((bs.getD i 0) &&& ~~~(128#8)).setWidth 64) <<< (7 * i))).toNat : Nat) : Int)))] hs .n (by kernel_rfl) (by kernel_rfl) (by kernel_rfl) ?_; clear hs a; intro a hs
    refine st_addR hs rfl rfl (by omega) rfl ?_; clear hs w a; intro a w hs
    refine st_run 3 [(4, .int .i64 (0)), (3, .int .i64 ((i : Int) + 1)), (2, .int .u64 (((((BitVec.ofNat 64 (vval (bs.take i))) ||| ((((bs.getD i 0) &&& ~~~(128#8)).setWidth 64) <<< (7 * i))).toNat : Nat) : Int)))] hs .n (by kernel_rfl) (by kernel_rfl) (by kernel_rfl) ?_; clear hs a; intro a hs
    refine wpList_nil ?_
    refine then_n (hK64 _ _ ?_)
    refine wp_ret ?_
    refine in_r ?_
    refine in_r ?_
    refine th_r ?_
    refine th_r ?_
    refine in_r ?_
    refine th_r ?_
    exact fin3 hs rfl rfl rfl rfl ⟨by first | (rw [vget_nil (by omega)]; rfl) | (rw [vget_over (i := i) hI1_2 (by omega) (by omega) (by omega) (by rw [← BitVec.toNat_inj]; omega)]; rfl) | (rw [vget_long (i := i) hI1_2 (by omega) (by omega) (by omega) (by omega)]; rfl) | (rw [vget_one (i := i) hI1_2 (by omega) (by omega) (by omega) (by rw [← BitVec.toNat_inj]; omega) (by omega), ← vpart bs i (by omega) (by omega)]; rfl) | (rw [vget_more (by omega)]; rfl) | (rw [vget_short (by omega) (by omega) (by omega)]; rfl), rfl⟩
   rw [hc59] at hs
   replace hc59 := ne_of_beq_f hc59
   refine st_run 4 [(49, .bool (false)), (55, .bool (false)), (54, undef), (53, undef)] hs .n (by kernel_rfl) (by kernel_rfl) (by kernel_rfl) ?_; clear hs a; intro a hs
   refine wpList_nil ?_
   refine then_n (hK58 _ _ ?_)
   refine wp_cond_false (hs.ev rfl) ?_
   refine wp_seq_k fun K65 hK66 => ?_
   refine wp_region_lit ?_
   refine st_run 2 [(44, .int .i64 ((i : Int))), (43, .int .u64 (((((BitVec.ofNat 64 (vval (bs.take i))) ||| ((((bs.getD i 0) &&& ~~~(128#8)).setWidth 64) <<< (7 * i))).toNat : Nat) : Int)))] hs .n (by kernel_rfl) (by kernel_rfl) (by kernel_rfl) ?_; clear hs a; intro a hs
   refine st_addR hs rfl rfl (by omega) rfl ?_; clear hs w a; intro a w hs
   refine st_run 3 [(4, .int .i64 (0)), (3, .int .i64 ((i : Int) + 1)), (2, .int .u64 (((((BitVec.ofNat 64 (vval (bs.take i))) ||| ((((bs.getD i 0) &&& ~~~(128#8)).setWidth 64) <<< (7 * i))).toNat : Nat) : Int)))] hs .n (by kernel_rfl) (by kernel_rfl) (by kernel_rfl) ?_; clear hs a; intro a hs
   refine wpList_nil ?_
   refine then_n (hK66 _ _ ?_)
   refine wp_ret ?_
   refine in_r ?_
   refine in_r ?_
   refine th_r ?_
   refine th_r ?_
   refine in_r ?_
   refine th_r ?_
   exact fin3 hs rfl rfl rfl rfl ⟨by first | (rw [vget_nil (by omega)]; rfl) | (rw [vget_over (i := i) hI1_2 (by omega) (by omega) (by omega) (by rw [← BitVec.toNat_inj]; omega)]; rfl) | (rw [vget_long (i := i) hI1_2 (by omega) (by omega) (by omega) (by omega)]; rfl) | (rw [vget_one (i := i) hI1_2 (by omega) (by omega) (by omega) (by rw [← BitVec.toNat_inj]; omega) (by omega), ← vpart bs i (by omega) (by omega)]; rfl) | (rw [vget_more (by omega)]; rfl) | (rw [vget_short (by omega) (by omega) (by omega)]; rfl), rfl⟩
  replace hc20 := of_decide_eq_false hc20
  refine wp_exit ?_
  refine th_e ?_
  refine th_e ?_
  refine in_hit ?_
  refine then_n (hK13 _ _ ?_)
  refine wp_seq_k fun K67 hK68 => ?_
  refine wp_seq_k fun K69 hK70 => ?_
  refine wp_region_lit ?_
  refine st_mv hs rfl rfl ?_; clear hs w a; intro a w hs
  refine st_len hs rfl (hs.rd0 hb).isSl Tryz.underlying37 rfl ?_; clear hs w a; intro a w hs
  refine st_geq hs rfl rfl rfl ?_; clear hs w a; intro a w hs
  refine wpList_nil ?_
  refine then_n (hK70 _ _ ?_)
  refine wp_if hs rfl (fun hc71 => ?_) (fun hc71 => ?_)
  ·
   replace hc71 := of_decide_eq_true hc71
   refine wp_seq_k fun K72 hK73 => ?_
   refine wp_region_lit ?_
   refine st_run 3 [(4, .int .i64 (8)), (3, .int .i64 (0)), (2, .int .u64 (0))] hs .n (by kernel_rfl) (by kernel_rfl) (by kernel_rfl) ?_; clear hs a; intro a hs
   refine wpList_nil ?_
   refine then_n (hK73 _ _ ?_)
   refine wp_ret ?_
   refine th_r ?_
   exact fin3 hs rfl rfl rfl rfl ⟨by first | (rw [vget_nil (by omega)]; rfl) | (rw [vget_over (i := i) hI1_2 (by omega) (by omega) (by omega) (by rw [← BitVec.toNat_inj]; omega)]; rfl) | (rw [vget_long (i := i) hI1_2 (by omega) (by omega) (by omega) (by omega)]; rfl) | (rw [vget_one (i := i) hI1_2 (by omega) (by omega) (by omega) (by rw [← BitVec.toNat_inj]; omega) (by omega), ← vpart bs i (by omega) (by omega)]; rfl) | (rw [vget_more (by omega)]; rfl) | (rw [vget_short (by omega) (by omega) (by omega)]; rfl), rfl⟩
  replace hc71 := of_decide_eq_false hc71
  refine wp_skip ?_
  refine then_n (hK68 _ _ ?_)
  refine wp_seq_k fun K74 hK75 => ?_
  refine wp_region_lit ?_
  refine st_run 3 [(4, .int .i64 (6)), (3, .int .i64 (0)), (2, .int .u64 (0))] hs .n (by kernel_rfl) (by kernel_rfl) (by kernel_rfl) ?_; clear hs a; intro a hs
  refine wpList_nil ?_
  refine then_n (hK75 _ _ ?_)
  refine wp_ret ?_
  exact fin3 hs rfl rfl rfl rfl ⟨by first | (rw [vget_nil (by omega)]; rfl) | (rw [vget_over (i := i) hI1_2 (by omega) (by omega) (by omega) (by rw [← BitVec.toNat_inj]; omega)]; rfl) | (rw [vget_long (i := i) hI1_2 (by omega) (by omega) (by omega) (by omega)]; rfl) | (rw [vget_one (i := i) hI1_2 (by omega) (by omega) (by omega) (by rw [← BitVec.toNat_inj]; omega) (by omega), ← vpart bs i (by omega) (by omega)]; rfl) | (rw [vget_more (by omega)]; rfl) | (rw [vget_short (by omega) (by omega) (by omega)]; rfl), rfl⟩
theorem zig_ok (p : Int) (w0 : World) (hp : -9223372036854775808 ≤ p ∧ p ≤ 9223372036854775807) : Calls Tryz.prog 92 #[.int .i64 p] w0 (RetV w0 (.int .u64 (((zigI p).toNat : Nat) : Int))) := by
  refine enter (F0 := [(0, .int .i64 (p))]) Tryz.func92 rfl rfl rfl (.c .n) (Mem.nil _) fun a w hs => ?_
  refine wp_seq_k fun K1 hK2 => ?_
  refine wp_region_lit ?_
  refine st_as hs rfl rfl ?_; clear hs w a; intro a w hs
  refine wpList_nil ?_
  refine then_n (hK2 _ _ ?_)
  refine wp_seq_k fun K3 hK4 => ?_
  refine wp_region_lit ?_
  refine st_mv hs rfl rfl ?_; clear hs w a; intro a w hs
  refine st_shlI (m := 1) hs rfl rfl (by decide) rfl ?_; clear hs w a; intro a w hs
  refine st_cv_u64 hs rfl Tryz.underlying2 Tryz.underlying129 rfl ?_; clear hs w a; intro a w hs
  refine st_mv hs rfl rfl ?_; clear hs w a; intro a w hs
  refine st_shrI (m := 63) hs rfl rfl (by decide) rfl ?_; clear hs w a; intro a w hs
  refine st_cv_u64 hs rfl Tryz.underlying2 Tryz.underlying129 rfl ?_; clear hs w a; intro a w hs
  refine st_xor_u64 (X := BitVec.ofInt 64 (IntKind.i64.wrap (p * 2 ^ (min 1 64)))) (Y := BitVec.ofInt 64 ((p).fdiv (2 ^ (min 63 64)))) hs rfl rfl rfl rfl rfl ?_; clear hs w a; intro a w hs
  refine st_as hs rfl rfl ?_; clear hs w a; intro a w hs
  refine wpList_nil ?_
  refine then_n (hK4 _ _ ?_)
  refine wp_ret ?_
  exact fin hs rfl rfl ⟨by rw [zig_eq p hp], rfl⟩
theorem zag_ok (X : BitVec 64) (w0 : World) : Calls Tryz.prog 99 #[.int .u64 (X.toNat : Int)] w0 (RetV w0 (.int .i64 (zagI X))) := by
  refine enter (F0 := [(0, .int .u64 ((((X).toNat : Nat) : Int)))]) Tryz.func99 rfl rfl rfl (.c .n) (Mem.nil _) fun a w hs => ?_
  refine wp_seq_k fun K1 hK2 => ?_
  refine wp_region_lit ?_
  refine st_as hs rfl rfl ?_; clear hs w a; intro a w hs
  refine wpList_nil ?_
  refine then_n (hK2 _ _ ?_)
  refine wp_seq_k fun K3 hK4 => ?_
  refine wp_region_lit ?_
  refine st_mv hs rfl rfl ?_; clear hs w a; intro a w hs
  refine st_shr_u64 (X := X) (m := 1) hs rfl rfl rfl (by decide) rfl ?_; clear hs w a; intro a w hs
  refine st_cv_u64_i64 (X := X >>> 1) hs rfl rfl Tryz.underlying129 Tryz.underlying2 rfl ?_; clear hs w a; intro a w hs
  refine st_mv hs rfl rfl ?_; clear hs w a; intro a w hs
  refine st_and_u64 (X := X) (Y := 1#64) hs rfl rfl rfl (by decide) rfl ?_; clear hs w a; intro a w hs
  refine st_cv_u64_i64 (X := X &&& (1#64)) hs rfl rfl Tryz.underlying129 Tryz.underlying2 rfl ?_; clear hs w a; intro a w hs
  refine st_negR hs rfl (by rw [and_1]; omega) rfl ?_; clear hs w a; intro a w hs
  refine st_xorI hs rfl rfl rfl ?_; clear hs w a; intro a w hs
  refine st_as hs rfl rfl ?_; clear hs w a; intro a w hs
  refine wpList_nil ?_
  refine then_n (hK4 _ _ ?_)
  refine wp_ret ?_
  exact fin hs rfl rfl ⟨by rw [zag_eq X], rfl⟩
end Go.Proofs.YtbioemaipghagaaGreat
