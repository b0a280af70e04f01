/- Walks of VarintOrder: what each function does, over the program of this seat. Printed by a program of this session. -/
import Derived.Test.YtmhkekdhijnnbaaWvar
namespace Go.Proofs.Ytmhkekdhijnnbaa
open Go Go.Sx Go.RowKit
set_option linter.unusedVariables false
set_option linter.unusedSimpArgs false
set_option maxRecDepth 4000

theorem vord_eq {X Y : BitVec 64} : ((((X.toNat : Nat) : Int) == ((Y.toNat : Nat) : Int)) == (zagI X == zagI Y)) = true := by
  by_cases e : X = Y
  · subst e; simp
  · have e1 : ¬ X.toNat = Y.toNat := fun h => e (BitVec.eq_of_toNat_eq h)
    have e2 : ¬ zagI X = zagI Y := fun h => e (zag_inj h)
    rw [beq_eq_false_iff_ne.2 (show ((X.toNat : Nat) : Int) ≠ ((Y.toNat : Nat) : Int) by omega), beq_eq_false_iff_ne.2 e2]; rfl
theorem vord_eq' {X Y : BitVec 64} : ((((Y.toNat : Nat) : Int) == ((X.toNat : Nat) : Int)) == (zagI Y == zagI X)) = true := vord_eq
theorem varintOrder_a (X Y : BitVec 64) (w0 : World) (hxy : X.toNat ≤ Y.toNat) : Calls Try.prog 13 #[.int .u64 (X.toNat : Int), .int .u64 (Y.toNat : Int)] w0 (RetV w0 (.bool true)) := by
  have hml := vlen_mono hxy (BitVec.isLt _)
  have hs1 := size_zag X
  have hs2 := size_zag Y
  refine enter (F0 := [(0, .int .u64 ((((X).toNat : Nat) : Int))), (1, .int .u64 ((((Y).toNat : Nat) : Int)))]) Try.func13 rfl rfl rfl (.c (.c .n)) (Mem.nil _) fun a w hs => ?_
  refine wp_seq_k fun K1 hK2 => ?_
  refine wp_region_lit ?_
  refine st_as hs rfl rfl ?_; clear hs w a; intro a w hs
  refine wpList_nil ?_
  refine then_n (hK2 _ _ ?_)
  refine wp_seq_k fun K3 hK4 => ?_
  refine wp_region_lit ?_
  refine st_mv hs rfl rfl ?_; clear hs w a; intro a w hs
  refine st_mv hs rfl rfl ?_; clear hs w a; intro a w hs
  refine st_minK hs rfl rfl rfl ?_; clear hs w a; intro a w hs
  have hv_ : (min ((((X).toNat : Nat) : Int)) ((((Y).toNat : Nat) : Int)) : Int) = ((X.toNat : Nat) : Int) := by omega
  rw [hv_] at hs; clear hv_
  refine st_mv hs rfl rfl ?_; clear hs w a; intro a w hs
  refine st_mv hs rfl rfl ?_; clear hs w a; intro a w hs
  refine st_maxK hs rfl rfl rfl ?_; clear hs w a; intro a w hs
  have hv_ : (max ((((X).toNat : Nat) : Int)) ((((Y).toNat : Nat) : Int)) : Int) = ((Y.toNat : Nat) : Int) := by omega
  rw [hv_] at hs; clear hv_
  refine st_as hs rfl rfl ?_; clear hs w a; intro a w hs
  refine st_as hs rfl rfl ?_; clear hs w a; intro a w hs
  refine wpList_nil ?_
  refine then_n (hK4 _ _ ?_)
  refine wp_seq_k fun K5 hK6 => ?_
  refine wp_region_lit ?_
  refine st_mv hs rfl rfl ?_; clear hs w a; intro a w hs
  refine st_callP (v := .int .i64 (zagI X)) hs (.c rfl .n) Try.call35 (zag_ok X _) rfl ?_; clear hs w a; intro a w hs
  have := zag_range X
  refine st_mv hs rfl rfl ?_; clear hs w a; intro a w hs
  refine st_callP (v := .int .i64 (zagI Y)) hs (.c rfl .n) Try.call35 (zag_ok Y _) rfl ?_; clear hs w a; intro a w hs
  have := zag_range Y
  refine st_as hs rfl rfl ?_; clear hs w a; intro a w hs
  refine st_as hs rfl rfl ?_; clear hs w a; intro a w hs
  refine wpList_nil ?_
  refine then_n (hK6 _ _ ?_)
  refine wp_seq_k fun K7 hK8 => ?_
  refine wp_region_lit ?_
  refine st_as hs rfl rfl ?_; clear hs w a; intro a w hs
  refine wpList_nil ?_
  refine then_n (hK8 _ _ ?_)
  refine wp_seq_k fun K9 hK10 => ?_
  refine wp_region_lit ?_
  refine st_callP (v := .bool (true)) hs .n Try.call28 (alive05_ok _) rfl ?_; clear hs w a; intro a w hs
  refine st_mv hs rfl rfl ?_; clear hs w a; intro a w hs
  refine st_guardT hs rfl rfl rfl ?_
  refine st_mv hs rfl rfl ?_; clear hs w a; intro a w hs
  refine st_guardT hs rfl rfl rfl ?_
  refine st_callP (v := .int .i64 (((vlen X.toNat : Nat) : Int))) hs (.c rfl .n) Try.call30 (size_ok X _) rfl ?_; clear hs w a; intro a w hs
  refine st_guardT hs rfl rfl rfl ?_
  refine st_mv hs rfl rfl ?_; clear hs w a; intro a w hs
  refine st_guardT hs rfl rfl rfl ?_
  refine st_callP (v := .int .i64 (((vlen Y.toNat : Nat) : Int))) hs (.c rfl .n) Try.call30 (size_ok Y _) rfl ?_; clear hs w a; intro a w hs
  refine st_guardT hs rfl rfl rfl ?_
  refine st_leq hs rfl rfl rfl ?_; clear hs w a; intro a w hs
  have hb_ : (decide ((((vlen X.toNat : Nat) : Int)) ≤ (((vlen Y.toNat : Nat) : Int)))) = true := decide_eq_true (by omega)
  rw [hb_] at hs; clear hb_
  refine st_pickT hs rfl rfl rfl ?_; clear hs w a; intro a w hs
  refine st_mv hs rfl rfl ?_; clear hs w a; intro a w hs
  refine st_guardT hs rfl rfl rfl ?_
  refine st_mv hs rfl rfl ?_; clear hs w a; intro a w hs
  refine st_guardT hs rfl rfl rfl ?_
  refine st_mv hs rfl rfl ?_; clear hs w a; intro a w hs
  refine st_guardT hs rfl rfl rfl ?_
  refine st_callPV (us := []) (v := .int .u64 ((((sizeI (zagI X)).toNat : Nat) : Int))) hs rfl (.c rfl .n) rfl Try.call37 (vsize_ok (zagI X) _) rfl ?_; clear hs w a; intro a w hs
  refine st_guardT hs rfl rfl rfl ?_
  refine st_mv hs rfl rfl ?_; clear hs w a; intro a w hs
  refine st_guardT hs rfl rfl rfl ?_
  refine st_mv hs rfl rfl ?_; clear hs w a; intro a w hs
  refine st_guardT hs rfl rfl rfl ?_
  refine st_callPV (us := []) (v := .int .u64 ((((sizeI (zagI Y)).toNat : Nat) : Int))) hs rfl (.c rfl .n) rfl Try.call37 (vsize_ok (zagI Y) _) rfl ?_; clear hs w a; intro a w hs
  refine st_guardT hs rfl rfl rfl ?_
  refine st_leq hs rfl rfl rfl ?_; clear hs w a; intro a w hs
  have hb_ : (decide (((((sizeI (zagI X)).toNat : Nat) : Int)) ≤ ((((sizeI (zagI Y)).toNat : Nat) : Int)))) = true := decide_eq_true (by omega)
  rw [hb_] at hs; clear hb_
  refine st_pickT hs rfl rfl rfl ?_; clear hs w a; intro a w hs
  refine st_mv hs rfl rfl ?_; clear hs w a; intro a w hs
  refine st_guardT hs rfl rfl rfl ?_
  refine st_mv hs rfl rfl ?_; clear hs w a; intro a w hs
  refine st_guardT hs rfl rfl rfl ?_
  refine st_mv hs rfl rfl ?_; clear hs w a; intro a w hs
  refine st_guardT hs rfl rfl rfl ?_
  refine st_eql hs rfl rfl rfl ?_; clear hs w a; intro a w hs
  refine st_guardT hs rfl rfl rfl ?_
  refine st_mv hs rfl rfl ?_; clear hs w a; intro a w hs
  refine st_guardT hs rfl rfl rfl ?_
  refine st_mv hs rfl rfl ?_; clear hs w a; intro a w hs
  refine st_guardT hs rfl rfl rfl ?_
  refine st_eql hs rfl rfl rfl ?_; clear hs w a; intro a w hs
  refine st_guardT hs rfl rfl rfl ?_
  refine st_eqb hs rfl rfl Try.underlying4 rfl ?_; clear hs w a; intro a w hs
  have hb_ : ((((((X).toNat : Nat) : Int) : Int) == ((((Y).toNat : Nat) : Int)) : Bool) == ((zagI X : Int) == (zagI Y))) = true := vord_eq
  rw [hb_] at hs; clear hb_
  refine st_pickT hs rfl rfl rfl ?_; clear hs w a; intro a w hs
  refine st_as hs rfl rfl ?_; clear hs w a; intro a w hs
  refine wpList_nil ?_
  refine then_n (hK10 _ _ ?_)
  refine wp_ret ?_
  exact fin hs rfl rfl ⟨rfl, rfl⟩
theorem varintOrder_b (X Y : BitVec 64) (w0 : World) (hxy : Y.toNat ≤ X.toNat) : Calls Try.prog 13 #[.int .u64 (X.toNat : Int), .int .u64 (Y.toNat : Int)] w0 (RetV w0 (.bool true)) := by
  have hml := vlen_mono hxy (BitVec.isLt _)
  have hs1 := size_zag X
  have hs2 := size_zag Y
  refine enter (F0 := [(0, .int .u64 ((((X).toNat : Nat) : Int))), (1, .int .u64 ((((Y).toNat : Nat) : Int)))]) Try.func13 rfl rfl rfl (.c (.c .n)) (Mem.nil _) fun a w hs => ?_
  refine wp_seq_k fun K1 hK2 => ?_
  refine wp_region_lit ?_
  refine st_as hs rfl rfl ?_; clear hs w a; intro a w hs
  refine wpList_nil ?_
  refine then_n (hK2 _ _ ?_)
  refine wp_seq_k fun K3 hK4 => ?_
  refine wp_region_lit ?_
  refine st_mv hs rfl rfl ?_; clear hs w a; intro a w hs
  refine st_mv hs rfl rfl ?_; clear hs w a; intro a w hs
  refine st_minK hs rfl rfl rfl ?_; clear hs w a; intro a w hs
  have hv_ : (min ((((X).toNat : Nat) : Int)) ((((Y).toNat : Nat) : Int)) : Int) = ((Y.toNat : Nat) : Int) := by omega
  rw [hv_] at hs; clear hv_
  refine st_mv hs rfl rfl ?_; clear hs w a; intro a w hs
  refine st_mv hs rfl rfl ?_; clear hs w a; intro a w hs
  refine st_maxK hs rfl rfl rfl ?_; clear hs w a; intro a w hs
  have hv_ : (max ((((X).toNat : Nat) : Int)) ((((Y).toNat : Nat) : Int)) : Int) = ((X.toNat : Nat) : Int) := by omega
  rw [hv_] at hs; clear hv_
  refine st_as hs rfl rfl ?_; clear hs w a; intro a w hs
  refine st_as hs rfl rfl ?_; clear hs w a; intro a w hs
  refine wpList_nil ?_
  refine then_n (hK4 _ _ ?_)
  refine wp_seq_k fun K5 hK6 => ?_
  refine wp_region_lit ?_
  refine st_mv hs rfl rfl ?_; clear hs w a; intro a w hs
  refine st_callP (v := .int .i64 (zagI Y)) hs (.c rfl .n) Try.call35 (zag_ok Y _) rfl ?_; clear hs w a; intro a w hs
  have := zag_range Y
  refine st_mv hs rfl rfl ?_; clear hs w a; intro a w hs
  refine st_callP (v := .int .i64 (zagI X)) hs (.c rfl .n) Try.call35 (zag_ok X _) rfl ?_; clear hs w a; intro a w hs
  have := zag_range X
  refine st_as hs rfl rfl ?_; clear hs w a; intro a w hs
  refine st_as hs rfl rfl ?_; clear hs w a; intro a w hs
  refine wpList_nil ?_
  refine then_n (hK6 _ _ ?_)
  refine wp_seq_k fun K7 hK8 => ?_
  refine wp_region_lit ?_
  refine st_as hs rfl rfl ?_; clear hs w a; intro a w hs
  refine wpList_nil ?_
  refine then_n (hK8 _ _ ?_)
  refine wp_seq_k fun K9 hK10 => ?_
  refine wp_region_lit ?_
  refine st_callP (v := .bool (true)) hs .n Try.call28 (alive05_ok _) rfl ?_; clear hs w a; intro a w hs
  refine st_mv hs rfl rfl ?_; clear hs w a; intro a w hs
  refine st_guardT hs rfl rfl rfl ?_
  refine st_mv hs rfl rfl ?_; clear hs w a; intro a w hs
  refine st_guardT hs rfl rfl rfl ?_
  refine st_callP (v := .int .i64 (((vlen Y.toNat : Nat) : Int))) hs (.c rfl .n) Try.call30 (size_ok Y _) rfl ?_; clear hs w a; intro a w hs
  refine st_guardT hs rfl rfl rfl ?_
  refine st_mv hs rfl rfl ?_; clear hs w a; intro a w hs
  refine st_guardT hs rfl rfl rfl ?_
  refine st_callP (v := .int .i64 (((vlen X.toNat : Nat) : Int))) hs (.c rfl .n) Try.call30 (size_ok X _) rfl ?_; clear hs w a; intro a w hs
  refine st_guardT hs rfl rfl rfl ?_
  refine st_leq hs rfl rfl rfl ?_; clear hs w a; intro a w hs
  have hb_ : (decide ((((vlen Y.toNat : Nat) : Int)) ≤ (((vlen X.toNat : Nat) : Int)))) = true := decide_eq_true (by omega)
  rw [hb_] at hs; clear hb_
  refine st_pickT hs rfl rfl rfl ?_; clear hs w a; intro a w hs
  refine st_mv hs rfl rfl ?_; clear hs w a; intro a w hs
  refine st_guardT hs rfl rfl rfl ?_
  refine st_mv hs rfl rfl ?_; clear hs w a; intro a w hs
  refine st_guardT hs rfl rfl rfl ?_
  refine st_mv hs rfl rfl ?_; clear hs w a; intro a w hs
  refine st_guardT hs rfl rfl rfl ?_
  refine st_callPV (us := []) (v := .int .u64 ((((sizeI (zagI Y)).toNat : Nat) : Int))) hs rfl (.c rfl .n) rfl Try.call37 (vsize_ok (zagI Y) _) rfl ?_; clear hs w a; intro a w hs
  refine st_guardT hs rfl rfl rfl ?_
  refine st_mv hs rfl rfl ?_; clear hs w a; intro a w hs
  refine st_guardT hs rfl rfl rfl ?_
  refine st_mv hs rfl rfl ?_; clear hs w a; intro a w hs
  refine st_guardT hs rfl rfl rfl ?_
  refine st_callPV (us := []) (v := .int .u64 ((((sizeI (zagI X)).toNat : Nat) : Int))) hs rfl (.c rfl .n) rfl Try.call37 (vsize_ok (zagI X) _) rfl ?_; clear hs w a; intro a w hs
  refine st_guardT hs rfl rfl rfl ?_
  refine st_leq hs rfl rfl rfl ?_; clear hs w a; intro a w hs
  have hb_ : (decide (((((sizeI (zagI Y)).toNat : Nat) : Int)) ≤ ((((sizeI (zagI X)).toNat : Nat) : Int)))) = true := decide_eq_true (by omega)
  rw [hb_] at hs; clear hb_
  refine st_pickT hs rfl rfl rfl ?_; clear hs w a; intro a w hs
  refine st_mv hs rfl rfl ?_; clear hs w a; intro a w hs
  refine st_guardT hs rfl rfl rfl ?_
  refine st_mv hs rfl rfl ?_; clear hs w a; intro a w hs
  refine st_guardT hs rfl rfl rfl ?_
  refine st_mv hs rfl rfl ?_; clear hs w a; intro a w hs
  refine st_guardT hs rfl rfl rfl ?_
  refine st_eql hs rfl rfl rfl ?_; clear hs w a; intro a w hs
  refine st_guardT hs rfl rfl rfl ?_
  refine st_mv hs rfl rfl ?_; clear hs w a; intro a w hs
  refine st_guardT hs rfl rfl rfl ?_
  refine st_mv hs rfl rfl ?_; clear hs w a; intro a w hs
  refine st_guardT hs rfl rfl rfl ?_
  refine st_eql hs rfl rfl rfl ?_; clear hs w a; intro a w hs
  refine st_guardT hs rfl rfl rfl ?_
  refine st_eqb hs rfl rfl Try.underlying4 rfl ?_; clear hs w a; intro a w hs
  have hb_ : ((((((Y).toNat : Nat) : Int) : Int) == ((((X).toNat : Nat) : Int)) : Bool) == ((zagI Y : Int) == (zagI X))) = true := vord_eq'
  rw [hb_] at hs; clear hb_
  refine st_pickT hs rfl rfl rfl ?_; clear hs w a; intro a w hs
  refine st_as hs rfl rfl ?_; clear hs w a; intro a w hs
  refine wpList_nil ?_
  refine then_n (hK10 _ _ ?_)
  refine wp_ret ?_
  exact fin hs rfl rfl ⟨rfl, rfl⟩
theorem varintOrder_ok (X Y : BitVec 64) (w0 : World) : Calls Try.prog 13 #[.int .u64 (X.toNat : Int), .int .u64 (Y.toNat : Int)] w0 (RetV w0 (.bool true)) := by
  rcases Nat.le_total X.toNat Y.toNat with h | h
  · exact varintOrder_a X Y w0 h
  · exact varintOrder_b X Y w0 h
end Go.Proofs.Ytmhkekdhijnnbaa
