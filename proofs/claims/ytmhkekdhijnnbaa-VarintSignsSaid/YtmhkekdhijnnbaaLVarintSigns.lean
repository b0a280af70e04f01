/- Walks of VarintSigns: what each function does, over the program of this seat. Printed by a program of this session. -/
import Derived.Test.YtmhkekdhijnnbaaWvar
namespace Go.Proofs.Ytmhkekdhijnnbaa
open Go Go.Sx Go.RowKit
set_option linter.unusedVariables false
set_option linter.unusedSimpArgs false
set_option maxRecDepth 4000

theorem varintSigns_ok (p : Int) (Y : BitVec 64) (w0 : World) (hp : -9223372036854775808 ≤ p ∧ p ≤ 9223372036854775807) : Calls Try.prog 12 #[.int .i64 p, .int .u64 (Y.toNat : Int)] w0 (RetV w0 (.bool true)) := by
  have hzr := zag_range Y
  refine enter (F0 := [(0, .int .i64 (p)), (1, .int .u64 ((((Y).toNat : Nat) : Int)))]) Try.func12 rfl rfl rfl (.c (.c .n)) (Mem.nil _) fun a w hs => ?_
  refine wp_seq_k fun K1 hK2 => ?_
  refine wp_region_lit ?_
  refine st_as hs rfl rfl ?_; clear hs w a; intro a w hs
  refine wpList_nil ?_
  refine then_n (hK2 _ _ ?_)
  refine wp_seq_k fun K3 hK4 => ?_
  refine wp_region_lit ?_
  refine st_callP (v := .bool (true)) hs .n Try.call28 (alive05_ok _) rfl ?_; clear hs w a; intro a w hs
  refine st_mv hs rfl rfl ?_; clear hs w a; intro a w hs
  refine st_guardT hs rfl rfl rfl ?_
  refine st_mv hs rfl rfl ?_; clear hs w a; intro a w hs
  refine st_guardT hs rfl rfl rfl ?_
  refine st_callP (v := .int .u64 ((((zigI p).toNat : Nat) : Int))) hs (.c rfl .n) Try.call33 (zig_ok p _ (by omega)) rfl ?_; clear hs w a; intro a w hs
  refine st_guardT hs rfl rfl rfl ?_
  refine st_mv hs rfl rfl ?_; clear hs w a; intro a w hs
  refine st_guardT hs rfl rfl rfl ?_
  refine st_callP (v := .int .u64 ((((zigI p).toNat : Nat) : Int))) hs (.c rfl .n) Try.call34 (rzig_ok p _ (by omega)) rfl ?_; clear hs w a; intro a w hs
  refine st_guardT hs rfl rfl rfl ?_
  refine st_eql hs rfl rfl rfl ?_; clear hs w a; intro a w hs
  have hb_ : (((((zigI p).toNat : Nat) : Int) : Int) == ((((zigI p).toNat : Nat) : Int))) = true := beq_self_eq_true _
  rw [hb_] at hs; clear hb_
  refine st_pickT hs rfl rfl rfl ?_; clear hs w a; intro a w hs
  refine st_mv hs rfl rfl ?_; clear hs w a; intro a w hs
  refine st_guardT hs rfl rfl rfl ?_
  refine st_mv hs rfl rfl ?_; clear hs w a; intro a w hs
  refine st_guardT hs rfl rfl rfl ?_
  refine st_callP (v := .int .i64 (zagI Y)) hs (.c rfl .n) Try.call35 (zag_ok Y _) rfl ?_; clear hs w a; intro a w hs
  have := zag_range Y
  refine st_guardT hs rfl rfl rfl ?_
  refine st_mv hs rfl rfl ?_; clear hs w a; intro a w hs
  refine st_guardT hs rfl rfl rfl ?_
  refine st_callP (v := .int .i64 (zagI Y)) hs (.c rfl .n) Try.call36 (rzag_ok Y _) rfl ?_; clear hs w a; intro a w hs
  have := zag_range Y
  refine st_guardT hs rfl rfl rfl ?_
  refine st_eql hs rfl rfl rfl ?_; clear hs w a; intro a w hs
  have hb_ : ((zagI Y : Int) == (zagI Y)) = true := beq_self_eq_true _
  rw [hb_] at hs; clear hb_
  refine st_pickT hs rfl rfl rfl ?_; clear hs w a; intro a w hs
  refine st_mv hs rfl rfl ?_; clear hs w a; intro a w hs
  refine st_guardT hs rfl rfl rfl ?_
  refine st_mv hs rfl rfl ?_; clear hs w a; intro a w hs
  refine st_guardT hs rfl rfl rfl ?_
  refine st_callP (v := .int .u64 ((((zigI p).toNat : Nat) : Int))) hs (.c rfl .n) Try.call33 (zig_ok p _ (by omega)) rfl ?_; clear hs w a; intro a w hs
  refine st_guardT hs rfl rfl rfl ?_
  refine st_callP (v := .int .i64 (zagI (zigI p))) hs (.c rfl .n) Try.call35 (zag_ok (zigI p) _) rfl ?_; clear hs w a; intro a w hs
  have := zag_range (zigI p)
  refine st_guardT hs rfl rfl rfl ?_
  refine st_mv hs rfl rfl ?_; clear hs w a; intro a w hs
  refine st_guardT hs rfl rfl rfl ?_
  refine st_eql hs rfl rfl rfl ?_; clear hs w a; intro a w hs
  have hb_ : ((zagI (zigI p) : Int) == p) = true := by rw [zag_zig p hp]; exact beq_self_eq_true _
  rw [hb_] at hs; clear hb_
  refine st_pickT hs rfl rfl rfl ?_; clear hs w a; intro a w hs
  refine st_mv hs rfl rfl ?_; clear hs w a; intro a w hs
  refine st_guardT hs rfl rfl rfl ?_
  refine st_mv hs rfl rfl ?_; clear hs w a; intro a w hs
  refine st_guardT hs rfl rfl rfl ?_
  refine st_callP (v := .int .i64 (zagI Y)) hs (.c rfl .n) Try.call35 (zag_ok Y _) rfl ?_; clear hs w a; intro a w hs
  have := zag_range Y
  refine st_guardT hs rfl rfl rfl ?_
  refine st_callP (v := .int .u64 ((((zigI (zagI Y)).toNat : Nat) : Int))) hs (.c rfl .n) Try.call33 (zig_ok (zagI Y) _ (by omega)) rfl ?_; clear hs w a; intro a w hs
  refine st_guardT hs rfl rfl rfl ?_
  refine st_mv hs rfl rfl ?_; clear hs w a; intro a w hs
  refine st_guardT hs rfl rfl rfl ?_
  refine st_eql hs rfl rfl rfl ?_; clear hs w a; intro a w hs
  have hb_ : (((((zigI (zagI Y)).toNat : Nat) : Int) : Int) == ((((Y).toNat : Nat) : Int))) = true := by rw [zig_zag Y]; exact beq_self_eq_true _
  rw [hb_] at hs; clear hb_
  refine st_pickT hs rfl rfl rfl ?_; clear hs w a; intro a w hs
  refine st_as hs rfl rfl ?_; clear hs w a; intro a w hs
  refine wpList_nil ?_
  refine then_n (hK4 _ _ ?_)
  refine wp_ret ?_
  exact fin hs rfl rfl ⟨rfl, rfl⟩
end Go.Proofs.Ytmhkekdhijnnbaa
