/- Walks of ReaderNone: what each function does, over the program of this seat. Printed by a program of this session. -/
import Derived.Test.YtmhkekdhijnnbaaWrd2
namespace Go.Proofs.Ytmhkekdhijnnbaa
open Go Go.Sx Go.RowKit
set_option linter.unusedVariables false
set_option linter.unusedSimpArgs false
set_option maxRecDepth 4000

theorem readerNone_ok (X : BitVec 64) (e : BitVec 8) (w0 : World) : Calls Try.prog 16 #[.int .u64 (X.toNat : Int), .int .u8 (e.toNat : Int)] w0 (RetV w0 (.bool true)) := by
  refine enter (F0 := [(0, .int .u64 ((((X).toNat : Nat) : Int))), (1, .int .u8 ((((e).toNat : Nat) : Int)))]) Try.func16 rfl rfl rfl (.c (.c .n)) (Mem.nil _) fun a w hs => ?_
  refine wp_seq_k fun K1 hK2 => ?_
  refine wp_region_lit ?_
  refine st_as hs rfl rfl ?_; clear hs w a; intro a w hs
  refine wpList_nil ?_
  refine then_n (hK2 _ _ ?_)
  refine wp_seq_k fun K3 hK4 => ?_
  refine wp_region_lit ?_
  refine st_as hs rfl rfl ?_; clear hs w a; intro a w hs
  refine wpList_nil ?_
  refine then_n (hK4 _ _ ?_)
  refine wp_seq_k fun K5 hK6 => ?_
  refine wp_region_lit ?_
  refine st_mv hs rfl rfl ?_; clear hs w a; intro a w hs
  refine st_mv hs rfl rfl ?_; clear hs w a; intro a w hs
  refine st_rem_u8 (X := e) (Y := 18#8) hs rfl rfl rfl (by decide) (by decide) rfl ?_; clear hs w a; intro a w hs
  refine st_cv_i64 hs rfl (bvr (e % (18#8))) Try.underlying5 Try.underlying39 rfl ?_; clear hs w a; intro a w hs
  refine st_callP (v := .tuple #[]) hs (.c rfl (.c rfl .n)) Try.call52 (rfail_ok_nil ((e % (18#8)).toNat) _) rfl ?_; clear hs w a; intro a w hs
  refine wpList_nil ?_
  refine then_n (hK6 _ _ ?_)
  refine wp_seq_k fun K7 hK8 => ?_
  refine wp_region_lit ?_
  refine st_callP (v := .bool (true)) hs .n Try.call39 (alive07_ok _) rfl ?_; clear hs w a; intro a w hs
  refine st_mv hs rfl rfl ?_; clear hs w a; intro a w hs
  refine st_guardT hs rfl rfl rfl ?_
  refine st_mv hs rfl rfl ?_; clear hs w a; intro a w hs
  refine st_guardT hs rfl rfl rfl ?_
  refine st_callP (v := .int .u8 (0)) hs (.c rfl .n) Try.call41 (rbyte_ok_nil  _) rfl ?_; clear hs w a; intro a w hs
  refine st_guardT hs rfl rfl rfl ?_
  refine st_eql hs rfl rfl rfl ?_; clear hs w a; intro a w hs
  rw [show ((0 : Int) == 0) = true from by decide] at hs
  refine st_pickT hs rfl rfl rfl ?_; clear hs w a; intro a w hs
  refine st_mv hs rfl rfl ?_; clear hs w a; intro a w hs
  refine st_guardT hs rfl rfl rfl ?_
  refine st_mv hs rfl rfl ?_; clear hs w a; intro a w hs
  refine st_guardT hs rfl rfl rfl ?_
  refine st_mv hs rfl rfl ?_; clear hs w a; intro a w hs
  refine st_guardT hs rfl rfl rfl ?_
  refine st_callP (v := .int .u64 (0)) hs (.c rfl (.c rfl .n)) Try.call42 (ruint_ok_nil X _) rfl ?_; clear hs w a; intro a w hs
  refine st_guardT hs rfl rfl rfl ?_
  refine st_eql hs rfl rfl rfl ?_; clear hs w a; intro a w hs
  rw [show ((0 : Int) == 0) = true from by decide] at hs
  refine st_pickT hs rfl rfl rfl ?_; clear hs w a; intro a w hs
  refine st_mv hs rfl rfl ?_; clear hs w a; intro a w hs
  refine st_guardT hs rfl rfl rfl ?_
  refine st_mv hs rfl rfl ?_; clear hs w a; intro a w hs
  refine st_guardT hs rfl rfl rfl ?_
  refine st_callP (v := .int .i64 (0)) hs (.c rfl .n) Try.call43 (rint_ok_nil  _) rfl ?_; clear hs w a; intro a w hs
  refine st_guardT hs rfl rfl rfl ?_
  refine st_eql hs rfl rfl rfl ?_; clear hs w a; intro a w hs
  rw [show ((0 : Int) == 0) = true from by decide] at hs
  refine st_pickT hs rfl rfl rfl ?_; clear hs w a; intro a w hs
  refine st_mv hs rfl rfl ?_; clear hs w a; intro a w hs
  refine st_guardT hs rfl rfl rfl ?_
  refine st_mv hs rfl rfl ?_; clear hs w a; intro a w hs
  refine st_guardT hs rfl rfl rfl ?_
  refine st_callP (v := .agg #[.int .i64 (0), .int .i64 (0), .int .i64 (0)]) hs (.c rfl .n) Try.call44 (rvec_ok_nil  _) rfl ?_; clear hs w a; intro a w hs
  refine st_guardT hs rfl rfl rfl ?_
  refine st_buildA (it := Try.t60) (ie := Try.t2) (zs := [.int .i64 (0), .int .i64 (0), .int .i64 (0)]) (sz := 1) hs .n Try.underlying60 rfl rfl rfl rfl rfl .n rfl ?_; clear hs w a; intro a w hs
  refine st_guardT hs rfl rfl rfl ?_
  refine st_eq3 hs rfl rfl (by kernel_rfl) Try.underlying60 Try.underlying2 Try.sizeOf2 Try.isAgg2 rfl ?_; clear hs w a; intro a w hs
  have hb_ : ((0 : Int) == 0 && (0 : Int) == 0 && (0 : Int) == 0) = true := by first | decide | (simp; done)
  rw [hb_] at hs; clear hb_
  refine st_pickT hs rfl rfl rfl ?_; clear hs w a; intro a w hs
  refine st_mv hs rfl rfl ?_; clear hs w a; intro a w hs
  refine st_guardT hs rfl rfl rfl ?_
  refine st_mv hs rfl rfl ?_; clear hs w a; intro a w hs
  refine st_guardT hs rfl rfl rfl ?_
  refine st_callP (v := .int .i64 (1)) hs (.c rfl .n) Try.call47 (rerr_ok_nil _) rfl ?_; clear hs w a; intro a w hs
  refine st_guardT hs rfl rfl rfl ?_
  refine st_eql hs rfl rfl rfl ?_; clear hs w a; intro a w hs
  rw [show ((1 : Int) == 1) = true from by decide] at hs
  refine st_pickT hs rfl rfl rfl ?_; clear hs w a; intro a w hs
  refine st_mv hs rfl rfl ?_; clear hs w a; intro a w hs
  refine st_guardT hs rfl rfl rfl ?_
  refine st_mv hs rfl rfl ?_; clear hs w a; intro a w hs
  refine st_guardT hs rfl rfl rfl ?_
  refine st_callP (v := .int .i64 (1)) hs (.c rfl .n) Try.call46 (rdone_ok_nil _) rfl ?_; clear hs w a; intro a w hs
  refine st_guardT hs rfl rfl rfl ?_
  refine st_eql hs rfl rfl rfl ?_; clear hs w a; intro a w hs
  rw [show ((1 : Int) == 1) = true from by decide] at hs
  refine st_pickT hs rfl rfl rfl ?_; clear hs w a; intro a w hs
  refine st_mv hs rfl rfl ?_; clear hs w a; intro a w hs
  refine st_guardT hs rfl rfl rfl ?_
  refine st_mv hs rfl rfl ?_; clear hs w a; intro a w hs
  refine st_guardT hs rfl rfl rfl ?_
  refine st_callP (v := .int .i64 (0)) hs (.c rfl .n) Try.call40 (rat_ok_nil _) rfl ?_; clear hs w a; intro a w hs
  refine st_guardT hs rfl rfl rfl ?_
  refine st_eql hs rfl rfl rfl ?_; clear hs w a; intro a w hs
  rw [show ((0 : Int) == 0) = true from by decide] at hs
  refine st_pickT hs rfl rfl rfl ?_; clear hs w a; intro a w hs
  refine st_mv hs rfl rfl ?_; clear hs w a; intro a w hs
  refine st_guardT hs rfl rfl rfl ?_
  refine st_mv hs rfl rfl ?_; clear hs w a; intro a w hs
  refine st_guardT hs rfl rfl rfl ?_
  refine st_callP (v := .int .i64 (0)) hs (.c rfl .n) Try.call45 (rleft_ok_nil _) rfl ?_; clear hs w a; intro a w hs
  refine st_guardT hs rfl rfl rfl ?_
  refine st_eql hs rfl rfl rfl ?_; clear hs w a; intro a w hs
  rw [show ((0 : Int) == 0) = true from by decide] at hs
  refine st_pickT hs rfl rfl rfl ?_; clear hs w a; intro a w hs
  refine st_as hs rfl rfl ?_; clear hs w a; intro a w hs
  refine wpList_nil ?_
  refine then_n (hK8 _ _ ?_)
  refine wp_ret ?_
  exact fin hs rfl rfl ⟨rfl, rfl⟩
end Go.Proofs.Ytmhkekdhijnnbaa
