/- Walks of records off bytes: what each function does, over the program of this seat. Printed by a program of this session. -/
import Derived.Test.YtbioemaipghagaaGreatQWrec
namespace Go.Proofs.YtbioemaipghagaaGreat
open Go Go.Sx Go.RowKit
set_option linter.unusedVariables false
set_option linter.unusedSimpArgs false
set_option maxRecDepth 4000
set_option maxHeartbeats 1000000

theorem readAll_ok (g h : Nat) (v : Value) (m : Nat) (bs : List Byte) (R : Rs) (k id : Int) (w0 : World) (hb : Rd w0 [g, h] v 1 m (bytesV bs)) (hg : (blk g [v, .int .i64 (((R).p : Nat) : Int), .int .i64 (((R).e : Nat) : Int)] 127).p w0) (hh : (blk h [.int .i64 (k), .int .i64 (id), .int .i64 (0), .int .i64 (0), .int .i64 (0), .int .i64 (0), .int .i64 (0), .int .i64 (0), .int .u16 (0)] 78).p w0) (hle : R.p ≤ bs.length) : Calls Tryz.prog 140 #[.pointer (some ⟨g, 0, none⟩), .pointer (some ⟨h, 0, none⟩)] w0 (Ret w0 [g, h] fun u N => u = .tuple #[] ∧ N = [blk g [v, .int .i64 ((((rdAll bs k id R).2).p : Nat) : Int), .int .i64 ((((rdAll bs k id R).2).e : Nat) : Int)] 127, blk h [.int .i64 (((rdAll bs k id R).1).k), .int .i64 (((rdAll bs k id R).1).id), .int .i64 (((rdAll bs k id R).1).p0), .int .i64 (((rdAll bs k id R).1).p1), .int .i64 (((rdAll bs k id R).1).p2), .int .i64 (((rdAll bs k id R).1).v0), .int .i64 (((rdAll bs k id R).1).v1), .int .i64 (((rdAll bs k id R).1).v2), .int .u16 ((((((rdAll bs k id R).1).a).toNat : Nat) : Int))] 78]) := by
  have hbl : bs.length = m := by have := hb.len; simpa [bytesV] using this
  have hbe : m ≤ maxLen := hb.le
  simp only [maxLen] at hbe
  refine enter (F0 := [(0, .pointer (some ⟨g, 0, none⟩)), (1, .pointer (some ⟨h, 0, none⟩))]) Tryz.func140 rfl rfl rfl (.c (.c .n)) (mem_two hg hh (by simp [feet, blk, blk_ne hg hh (by decide)])) fun a w hs => ?_
  refine wp_seq_k fun K1 hK2 => ?_
  refine wp_region_lit ?_
  refine st_run 3 [(6, .pointer (some ⟨g, 0, none⟩)), (5, .pointer (some ⟨h, 0, none⟩)), (4, .pointer (some ⟨h, 0, none⟩))] hs .n (by kernel_rfl) (by kernel_rfl) (by kernel_rfl) ?_; clear hs a; intro a hs
  refine st_call hs (.c rfl .n) Tryz.call163 (.c .z .n) (rvec_ok  g _ _ bs R _ (hs.mem.rd1 hb (.c .z .n)) (hs.mem.del .z) (by omega)) rfl ?_; clear hs w a; rintro _ _ a w ⟨rfl, rfl⟩ hs; simp only [List.cons_append, List.nil_append] at hs
  have hk3 := rVec_le' (bs := bs) (R := R) (by omega)
  refine st_mv hs rfl rfl ?_; clear hs w a; intro a w hs
  refine st_call hs (.c rfl .n) Tryz.call163 (.c .z .n) (rvec_ok  g _ _ bs (((rInt bs (rInt bs (rInt bs R).2).2).2)) _ (hs.mem.rd1 hb (.c .z .n)) (hs.mem.del .z) (by omega)) rfl ?_; clear hs w a; rintro _ _ a w ⟨rfl, rfl⟩ hs; simp only [List.cons_append, List.nil_append] at hs
  have hk4 := rVec_le' (bs := bs) (R := ((rInt bs (rInt bs (rInt bs R).2).2).2)) (by omega)
  refine st_run 2 [(11, .pointer (some ⟨h, 2, none⟩))] hs .n (by kernel_rfl) (by kernel_rfl) (by kernel_rfl) ?_; clear hs a; intro a hs
  refine st_stBA hs rfl rfl (.s .z) (.s (.s (.z (.c (.c (.c .n)))))) (ones_c rfl (ones_c rfl (ones_c rfl ones_n))) Tryz.sizeOf71 rfl ?_; clear hs w a; intro a w hs
  refine st_run 2 [(13, .pointer (some ⟨h, 5, none⟩))] hs .n (by kernel_rfl) (by kernel_rfl) (by kernel_rfl) ?_; clear hs a; intro a hs
  refine st_stBA hs rfl rfl .z (.s (.s (.s (.s (.s (.z (.c (.c (.c .n))))))))) (ones_c rfl (ones_c rfl (ones_c rfl ones_n))) Tryz.sizeOf71 rfl ?_; clear hs w a; intro a w hs
  refine wpList_nil ?_
  refine then_n (hK2 _ _ ?_)
  refine wp_region_lit ?_
  refine st_run 2 [(15, .pointer (some ⟨g, 0, none⟩)), (14, .pointer (some ⟨h, 0, none⟩))] hs .n (by kernel_rfl) (by kernel_rfl) (by kernel_rfl) ?_; clear hs a; intro a hs
  refine st_call hs (.c rfl (.c rfl .n)) Tryz.call71 (.c (.s .z) .n) (ruint_ok (65535#64) g _ _ bs (((rInt bs (rInt bs (rInt bs ((((rInt bs (rInt bs (rInt bs R).2).2).2)))).2).2).2)) _ (hs.mem.rd1 hb (.c (.s .z) .n)) (hs.mem.del (.s .z)) (by omega)) rfl ?_; clear hs w a; rintro _ _ a w ⟨rfl, rfl⟩ hs; simp only [List.cons_append, List.nil_append] at hs
  have hk5 := rUint_le (X := 65535#64) (bs := bs) (R := ((rInt bs (rInt bs (rInt bs ((((rInt bs (rInt bs (rInt bs R).2).2).2)))).2).2).2)) (by omega)
  refine st_cv_u64_u16 (X := (rUint bs (65535#64) (((rInt bs (rInt bs (rInt bs ((((rInt bs (rInt bs (rInt bs R).2).2).2)))).2).2).2))).1) hs rfl rfl Tryz.underlying129 Tryz.underlying70 rfl ?_; clear hs w a; intro a w hs
  refine st_run 2 [(19, .pointer (some ⟨h, 8, none⟩))] hs .n (by kernel_rfl) (by kernel_rfl) (by kernel_rfl) ?_; clear hs a; intro a hs
  refine st_stB hs rfl rfl (.s .z) (.s (.s (.s (.s (.s (.s (.s (.s .z)))))))) rfl Tryz.sizeOf70 ?_; clear hs w a; intro a w hs
  refine wpList_nil ?_
  replace hs := hs.reorder (.c (.s .z) (.c .z .n))
  exact fin0 hs rfl ⟨rfl, by simp only [rdAll, nX, nS]⟩
theorem readSome_ok (g h : Nat) (v : Value) (m : Nat) (bs : List Byte) (R : Rs) (k id : Int) (w0 : World) (hb : Rd w0 [g, h] v 1 m (bytesV bs)) (hg : (blk g [v, .int .i64 (((R).p : Nat) : Int), .int .i64 (((R).e : Nat) : Int)] 127).p w0) (hh : (blk h [.int .i64 (k), .int .i64 (id), .int .i64 (0), .int .i64 (0), .int .i64 (0), .int .i64 (0), .int .i64 (0), .int .i64 (0), .int .u16 (0)] 78).p w0) (hle : R.p ≤ bs.length) : Calls Tryz.prog 142 #[.pointer (some ⟨g, 0, none⟩), .pointer (some ⟨h, 0, none⟩)] w0 (Ret w0 [g, h] fun u N => u = .tuple #[] ∧ N = [blk g [v, .int .i64 ((((rdSome bs k id R).2).p : Nat) : Int), .int .i64 ((((rdSome bs k id R).2).e : Nat) : Int)] 127, blk h [.int .i64 (((rdSome bs k id R).1).k), .int .i64 (((rdSome bs k id R).1).id), .int .i64 (((rdSome bs k id R).1).p0), .int .i64 (((rdSome bs k id R).1).p1), .int .i64 (((rdSome bs k id R).1).p2), .int .i64 (((rdSome bs k id R).1).v0), .int .i64 (((rdSome bs k id R).1).v1), .int .i64 (((rdSome bs k id R).1).v2), .int .u16 ((((((rdSome bs k id R).1).a).toNat : Nat) : Int))] 78]) := by
  have hbl : bs.length = m := by have := hb.len; simpa [bytesV] using this
  have hbe : m ≤ maxLen := hb.le
  simp only [maxLen] at hbe
  refine enter (F0 := [(0, .pointer (some ⟨g, 0, none⟩)), (1, .pointer (some ⟨h, 0, none⟩))]) Tryz.func142 rfl rfl rfl (.c (.c .n)) (mem_two hg hh (by simp [feet, blk, blk_ne hg hh (by decide)])) fun a w hs => ?_
  refine wp_seq_k fun K1 hK2 => ?_
  refine wp_region_lit ?_
  refine st_mv hs rfl rfl ?_; clear hs w a; intro a w hs
  refine st_call hs (.c rfl .n) Tryz.call95 (.c .z .n) (rbyte_ok  g _ _ bs R _ (hs.mem.rd1 hb (.c .z .n)) (hs.mem.del .z) (by omega)) rfl ?_; clear hs w a; rintro _ _ a w ⟨rfl, rfl⟩ hs; simp only [List.cons_append, List.nil_append] at hs
  have hk3 := rByte_le (bs := bs) (R := R) (by omega)
  refine st_as hs rfl rfl ?_; clear hs w a; intro a w hs
  refine wpList_nil ?_
  refine then_n (hK2 _ _ ?_)
  refine wp_seq_k fun K4 hK5 => ?_
  refine wp_seq_k fun K6 hK7 => ?_
  refine wp_region_lit ?_
  refine st_run 3 [(11, .bool ((((((rByte bs R).1).toNat : Nat) : Int) : Int) == 0))] hs .n (by kernel_rfl) (by kernel_rfl) (by kernel_rfl) ?_; clear hs a; intro a hs
  refine st_part (b := (((((rByte bs R).1).toNat : Nat) : Int) : Int) == 0) (fun hc8 => ?_) (fun hc8 => ?_)
  ·
   rw [hc8] at hs
   replace hc8 := eq_of_beq hc8
   refine st_run 3 [(14, .bool (true))] hs .n (by kernel_rfl) (by kernel_rfl) (by kernel_rfl) ?_; clear hs a; intro a hs
   refine wpList_nil ?_
   refine then_n (hK7 _ _ ?_)
   refine wp_cond_true (hs.ev rfl) ?_
   refine wp_seq_k fun K9 hK10 => ?_
   refine wp_region_lit ?_
   refine st_mv hs rfl rfl ?_; clear hs w a; intro a w hs
   refine st_call hs (.c rfl (.c rfl .n)) Tryz.call74 (.c .z .n) (rfail_ok 7 g _ _ bs (((rByte bs R).2)) _ (hs.mem.rd1 hb (.c .z .n)) (hs.mem.del .z) (by omega)) rfl ?_; clear hs w a; rintro _ _ a w ⟨rfl, rfl⟩ hs; simp only [List.cons_append, List.nil_append] at hs
   have hk11 := rFail_le (e := 7) (bs := bs) (R := ((rByte bs R).2)) (by omega)
   refine wpList_nil ?_
   refine then_n (hK10 _ _ ?_)
   refine wp_ret ?_
   refine th_r ?_
   exact fin0r hs rfl (by rw [rdSome_bad (by omega)]; exact ⟨rfl, rfl⟩)
  rw [hc8] at hs
  replace hc8 := ne_of_beq_f hc8
  refine st_run 3 [(14, .bool (decide (127 < (((((rByte bs R).1).toNat : Nat) : Int)))))] hs .n (by kernel_rfl) (by kernel_rfl) (by kernel_rfl) ?_; clear hs a; intro a hs
  refine wpList_nil ?_
  refine then_n (hK7 _ _ ?_)
  refine wp_if hs rfl (fun hc12 => ?_) (fun hc12 => ?_)
  ·
   replace hc12 := of_decide_eq_true hc12
   refine wp_seq_k fun K13 hK14 => ?_
   refine wp_region_lit ?_
   refine st_mv hs rfl rfl ?_; clear hs w a; intro a w hs
   refine st_call hs (.c rfl (.c rfl .n)) Tryz.call74 (.c .z .n) (rfail_ok 7 g _ _ bs (((rByte bs R).2)) _ (hs.mem.rd1 hb (.c .z .n)) (hs.mem.del .z) (by omega)) rfl ?_; clear hs w a; rintro _ _ a w ⟨rfl, rfl⟩ hs; simp only [List.cons_append, List.nil_append] at hs
   have hk15 := rFail_le (e := 7) (bs := bs) (R := ((rByte bs R).2)) (by omega)
   refine wpList_nil ?_
   refine then_n (hK14 _ _ ?_)
   refine wp_ret ?_
   refine th_r ?_
   exact fin0r hs rfl (by rw [rdSome_bad (by omega)]; exact ⟨rfl, rfl⟩)
  replace hc12 := of_decide_eq_false hc12
  refine wp_skip ?_
  refine then_n (hK5 _ _ ?_)
  refine wp_seq_k fun K16 hK17 => ?_
  refine wp_seq_k fun K18 hK19 => ?_
  refine wp_region_lit ?_
  refine st_mv hs rfl rfl ?_; clear hs w a; intro a w hs
  replace hs := hs.reblk .z (cs' := [v, .int .i64 ((((upS bs (rByte bs R).1 (rByte bs R).2 0).p : Nat) : Int)), .int .i64 ((((upS bs (rByte bs R).1 (rByte bs R).2 0).e : Nat) : Int))]) rfl
  have hu0 : (upS bs (rByte bs R).1 (rByte bs R).2 0).p = (rByte bs R).2.p := rfl
  refine st_callP (v := .agg #[.pointer (some ⟨h, 2, none⟩), .pointer (some ⟨h, 3, none⟩), .pointer (some ⟨h, 4, none⟩), .pointer (some ⟨h, 5, none⟩), .pointer (some ⟨h, 6, none⟩), .pointer (some ⟨h, 7, none⟩)]) hs (.c rfl .n) Tryz.call87 (nums_ok h _) rfl ?_; clear hs w a; intro a w hs
  refine st_mv hs rfl rfl ?_; clear hs w a; intro a w hs
  refine wpList_nil ?_
  refine then_n (hK19 _ _ ?_)
  refine wp_block ?_
  refine wp_loop_rounds 7 ?_
  refine rounds_in ?_
  refine Go.Sx.wp_cut (fun a w => St 55 [(0, .pointer (some ⟨g, 0, none⟩)), (1, .pointer (some ⟨h, 0, none⟩)), (4, .int .u8 (((((rByte bs R).1).toNat : Nat) : Int))), (18, .agg #[.pointer (some ⟨h, 2, none⟩), .pointer (some ⟨h, 3, none⟩), .pointer (some ⟨h, 4, none⟩), .pointer (some ⟨h, 5, none⟩), .pointer (some ⟨h, 6, none⟩), .pointer (some ⟨h, 7, none⟩)]), (19, .int .i64 (1))] w0 [g, h] [blk g [v, .int .i64 (((((upS bs (rByte bs R).1 (rByte bs R).2 1)).p : Nat) : Int)), .int .i64 (((((upS bs (rByte bs R).1 (rByte bs R).2 1)).e : Nat) : Int))] 127, blk h [.int .i64 (k), .int .i64 (id), .int .i64 (upX bs (rByte bs R).1 (rByte bs R).2 0), .int .i64 (0), .int .i64 (0), .int .i64 (0), .int .i64 (0), .int .i64 (0), .int .u16 (0)] 78] a w ∧ (upS bs (rByte bs R).1 (rByte bs R).2 1).p ≤ bs.length) ?_ ?_
  ·
   refine wp_seq_k fun K20 hK21 => ?_
   refine wp_region_lit ?_
   refine st_lss hs rfl rfl rfl ?_; clear hs w a; intro a w hs
   rw [show (decide ((0 : Int) < 6)) = true from by decide] at hs
   refine wpList_nil ?_
   refine then_n (hK21 _ _ ?_)
   refine wp_seq_k fun K22 hK23 => ?_
   refine wp_cond_true (hs.ev rfl) ?_
   refine wp_skip ?_
   refine then_n (hK23 _ _ ?_)
   refine wp_seq_k fun K24 hK25 => ?_
   refine wp_block ?_
   refine wp_seq_k fun K26 hK27 => ?_
   refine wp_region_lit ?_
   refine st_run 4 [(6, .pointer (some ⟨h, 2, none⟩)), (5, .int .i64 (0)), (22, .pointer (some ⟨h, 2, none⟩)), (21, .int .i64 (0))] hs .n (by kernel_rfl) (by kernel_rfl) (by kernel_rfl) ?_; clear hs a; intro a hs
   refine wpList_nil ?_
   refine then_n (hK27 _ _ ?_)
   refine wp_seq_k fun K28 hK29 => ?_
   refine wp_seq_k fun K30 hK31 => ?_
   refine wp_region_lit ?_
   refine st_run 2 [(24, .int .i64 (0)), (23, .int .u8 (((((rByte bs R).1).toNat : Nat) : Int)))] hs .n (by kernel_rfl) (by kernel_rfl) (by kernel_rfl) ?_; clear hs a; intro a hs
   refine st_shr_u8 (X := (rByte bs R).1) (m := 0) hs rfl rfl rfl (by decide) rfl ?_; clear hs w a; intro a w hs
   refine st_and_u8 (X := ((rByte bs R).1) >>> 0) (Y := 1#8) hs rfl rfl rfl (by decide) rfl ?_; clear hs w a; intro a w hs
   refine st_eql hs rfl rfl rfl ?_; clear hs w a; intro a w hs
   refine wpList_nil ?_
   refine then_n (hK31 _ _ ?_)
   refine wp_if hs rfl (fun hc32 => ?_) (fun hc32 => ?_)
   ·
    replace hc32 := eq_of_beq hc32
    have hz_ := upBit_f (m := (rByte bs R).1) (i := 0) (by assumption)
    refine wp_exit ?_
    refine th_e ?_
    refine in_hit ?_
    refine then_n (hK25 _ _ ?_)
    refine wp_region_lit ?_
    refine st_run 2 [(19, .int .i64 (1)), (38, .int .i64 (1))] hs .n (by kernel_rfl) (by kernel_rfl) (by kernel_rfl) ?_; clear hs a; intro a hs
    refine wpList_nil ?_
    refine then_n ?_
    have hS_ : upS bs (rByte bs R).1 (rByte bs R).2 1 = (upS bs (rByte bs R).1 (rByte bs R).2 0) := upS_f hz_
    have hX_ : upX bs (rByte bs R).1 (rByte bs R).2 0 = 0 := upX_f hz_
    replace hs := hs.reblk .z (cs' := [v, .int .i64 ((((upS bs (rByte bs R).1 (rByte bs R).2 1).p : Nat) : Int)), .int .i64 ((((upS bs (rByte bs R).1 (rByte bs R).2 1).e : Nat) : Int))]) (by rw [hS_])
    replace hs := hs.reblk (.s .z) (cs' := [.int .i64 (k), .int .i64 (id), .int .i64 (upX bs (rByte bs R).1 (rByte bs R).2 0), .int .i64 (0), .int .i64 (0), .int .i64 (0), .int .i64 (0), .int .i64 (0), .int .u16 (0)]) (by rw [hX_])
    replace hs := hs.reorder (.c (.s .z) (.c .z .n))
    exact ⟨hs.sub (.c rfl (.c rfl (.c rfl (.c rfl (.c rfl .n))))), (upS_le (m := (rByte bs R).1) (R := (rByte bs R).2) (bs := bs) (by omega) 1).1⟩
   replace hc32 := ne_of_beq_f hc32
   have hz_ := upBit_t (m := (rByte bs R).1) (i := 0) (by assumption)
   refine wp_skip ?_
   refine then_n (hK29 _ _ ?_)
   refine wp_seq_k fun K33 hK34 => ?_
   refine wp_region_lit ?_
   refine st_run 2 [(29, .pointer (some ⟨g, 0, none⟩)), (28, .pointer (some ⟨h, 2, none⟩))] hs .n (by kernel_rfl) (by kernel_rfl) (by kernel_rfl) ?_; clear hs a; intro a hs
   refine st_call hs (.c rfl .n) Tryz.call72 (.c .z .n) (rint_ok  g _ _ bs ((upS bs (rByte bs R).1 (rByte bs R).2 0)) _ (hs.mem.rd1 hb (.c .z .n)) (hs.mem.del .z) (by omega)) rfl ?_; clear hs w a; rintro _ _ a w ⟨rfl, rfl⟩ hs; simp only [List.cons_append, List.nil_append] at hs
   have hk35 := rInt_le (bs := bs) (R := (upS bs (rByte bs R).1 (rByte bs R).2 0)) (by omega)
   refine st_nc hs rfl rfl ?_; clear hs w a; intro a w hs
   refine st_stB hs rfl rfl (.s .z) (.s (.s .z)) rfl Tryz.sizeOf2 ?_; clear hs w a; intro a w hs
   refine wpList_nil ?_
   refine then_n (hK34 _ _ ?_)
   refine wp_seq_k fun K36 hK37 => ?_
   refine wp_region_lit ?_
   refine st_run 4 [(35, .bool (((rInt bs ((upS bs (rByte bs R).1 (rByte bs R).2 0))).1 : Int) == 0)), (34, .int .i64 ((rInt bs ((upS bs (rByte bs R).1 (rByte bs R).2 0))).1)), (33, .pointer (some ⟨h, 2, none⟩)), (32, .pointer (some ⟨h, 2, none⟩))] hs (.c (hs.mem.del .z) .n) (by kernel_rfl) (by kernel_rfl) (by kernel_rfl) ?_; clear hs a; intro a hs
   refine wpList_nil ?_
   refine then_n (hK37 _ _ ?_)
   refine wp_if hs rfl (fun hc38 => ?_) (fun hc38 => ?_)
   ·
    replace hc38 := eq_of_beq hc38
    refine wp_region_lit ?_
    refine st_mv hs rfl rfl ?_; clear hs w a; intro a w hs
    refine st_call hs (.c rfl (.c rfl .n)) Tryz.call74 (.c (.s .z) .n) (rfail_ok 7 g _ _ bs (((rInt bs ((upS bs (rByte bs R).1 (rByte bs R).2 0))).2)) _ (hs.mem.rd1 hb (.c (.s .z) .n)) (hs.mem.del (.s .z)) (by omega)) rfl ?_; clear hs w a; rintro _ _ a w ⟨rfl, rfl⟩ hs; simp only [List.cons_append, List.nil_append] at hs
    have hk39 := rFail_le (e := 7) (bs := bs) (R := ((rInt bs ((upS bs (rByte bs R).1 (rByte bs R).2 0))).2)) (by omega)
    refine wpList_nil ?_
    refine in_n ?_
    refine then_n (hK25 _ _ ?_)
    refine wp_region_lit ?_
    refine st_run 2 [(19, .int .i64 (1)), (38, .int .i64 (1))] hs .n (by kernel_rfl) (by kernel_rfl) (by kernel_rfl) ?_; clear hs a; intro a hs
    refine wpList_nil ?_
    refine then_n ?_
    have hS_ : upS bs (rByte bs R).1 (rByte bs R).2 1 = ((rFail 7 (((rInt bs ((upS bs (rByte bs R).1 (rByte bs R).2 0))).2)))) := upSZ hz_ (by assumption)
    have hX_ : upX bs (rByte bs R).1 (rByte bs R).2 0 = (rInt bs ((upS bs (rByte bs R).1 (rByte bs R).2 0))).1 := upX_t hz_
    replace hs := hs.reblk .z (cs' := [v, .int .i64 ((((upS bs (rByte bs R).1 (rByte bs R).2 1).p : Nat) : Int)), .int .i64 ((((upS bs (rByte bs R).1 (rByte bs R).2 1).e : Nat) : Int))]) (by rw [hS_])
    replace hs := hs.reblk (.s .z) (cs' := [.int .i64 (k), .int .i64 (id), .int .i64 (upX bs (rByte bs R).1 (rByte bs R).2 0), .int .i64 (0), .int .i64 (0), .int .i64 (0), .int .i64 (0), .int .i64 (0), .int .u16 (0)]) (by rw [hX_])
    replace hs := hs.reorder (.c (.s .z) (.c .z .n))
    exact ⟨hs.sub (.c rfl (.c rfl (.c rfl (.c rfl (.c rfl .n))))), (upS_le (m := (rByte bs R).1) (R := (rByte bs R).2) (bs := bs) (by omega) 1).1⟩
   replace hc38 := ne_of_beq_f hc38
   refine wp_skip ?_
   refine in_n ?_
   refine then_n (hK25 _ _ ?_)
   refine wp_region_lit ?_
   refine st_run 2 [(19, .int .i64 (1)), (38, .int .i64 (1))] hs .n (by kernel_rfl) (by kernel_rfl) (by kernel_rfl) ?_; clear hs a; intro a hs
   refine wpList_nil ?_
   refine then_n ?_
   have hS_ : upS bs (rByte bs R).1 (rByte bs R).2 1 = ((rInt bs ((upS bs (rByte bs R).1 (rByte bs R).2 0))).2) := upSN hz_ (by assumption)
   have hX_ : upX bs (rByte bs R).1 (rByte bs R).2 0 = (rInt bs ((upS bs (rByte bs R).1 (rByte bs R).2 0))).1 := upX_t hz_
   replace hs := hs.reblk (.s .z) (cs' := [v, .int .i64 ((((upS bs (rByte bs R).1 (rByte bs R).2 1).p : Nat) : Int)), .int .i64 ((((upS bs (rByte bs R).1 (rByte bs R).2 1).e : Nat) : Int))]) (by rw [hS_])
   replace hs := hs.reblk (.s .z) (cs' := [.int .i64 (k), .int .i64 (id), .int .i64 (upX bs (rByte bs R).1 (rByte bs R).2 0), .int .i64 (0), .int .i64 (0), .int .i64 (0), .int .i64 (0), .int .i64 (0), .int .u16 (0)]) (by rw [hX_])
   replace hs := hs.reorder (.c (.s .z) (.c .z .n))
   exact ⟨hs.sub (.c rfl (.c rfl (.c rfl (.c rfl (.c rfl .n))))), (upS_le (m := (rByte bs R).1) (R := (rByte bs R).2) (bs := bs) (by omega) 1).1⟩
  clear hs w a; rintro a w ⟨hs, hJ40⟩
  refine then_n ?_
  refine rounds_in ?_
  refine Go.Sx.wp_cut (fun a w => St 55 [(0, .pointer (some ⟨g, 0, none⟩)), (1, .pointer (some ⟨h, 0, none⟩)), (4, .int .u8 (((((rByte bs R).1).toNat : Nat) : Int))), (18, .agg #[.pointer (some ⟨h, 2, none⟩), .pointer (some ⟨h, 3, none⟩), .pointer (some ⟨h, 4, none⟩), .pointer (some ⟨h, 5, none⟩), .pointer (some ⟨h, 6, none⟩), .pointer (some ⟨h, 7, none⟩)]), (19, .int .i64 (2))] w0 [g, h] [blk g [v, .int .i64 (((((upS bs (rByte bs R).1 (rByte bs R).2 2)).p : Nat) : Int)), .int .i64 (((((upS bs (rByte bs R).1 (rByte bs R).2 2)).e : Nat) : Int))] 127, blk h [.int .i64 (k), .int .i64 (id), .int .i64 (upX bs (rByte bs R).1 (rByte bs R).2 0), .int .i64 (upX bs (rByte bs R).1 (rByte bs R).2 1), .int .i64 (0), .int .i64 (0), .int .i64 (0), .int .i64 (0), .int .u16 (0)] 78] a w ∧ (upS bs (rByte bs R).1 (rByte bs R).2 2).p ≤ bs.length) ?_ ?_
  ·
   refine wp_seq_k fun K41 hK42 => ?_
   refine wp_region_lit ?_
   refine st_lss hs rfl rfl rfl ?_; clear hs w a; intro a w hs
   rw [show (decide ((1 : Int) < 6)) = true from by decide] at hs
   refine wpList_nil ?_
   refine then_n (hK42 _ _ ?_)
   refine wp_seq_k fun K43 hK44 => ?_
   refine wp_cond_true (hs.ev rfl) ?_
   refine wp_skip ?_
   refine then_n (hK44 _ _ ?_)
   refine wp_seq_k fun K45 hK46 => ?_
   refine wp_block ?_
   refine wp_seq_k fun K47 hK48 => ?_
   refine wp_region_lit ?_
   refine st_run 4 [(6, .pointer (some ⟨h, 3, none⟩)), (5, .int .i64 (1)), (22, .pointer (some ⟨h, 3, none⟩)), (21, .int .i64 (1))] hs .n (by kernel_rfl) (by kernel_rfl) (by kernel_rfl) ?_; clear hs a; intro a hs
   refine wpList_nil ?_
   refine then_n (hK48 _ _ ?_)
   refine wp_seq_k fun K49 hK50 => ?_
   refine wp_seq_k fun K51 hK52 => ?_
   refine wp_region_lit ?_
   refine st_run 2 [(24, .int .i64 (1)), (23, .int .u8 (((((rByte bs R).1).toNat : Nat) : Int)))] hs .n (by kernel_rfl) (by kernel_rfl) (by kernel_rfl) ?_; clear hs a; intro a hs
   refine st_shr_u8 (X := (rByte bs R).1) (m := 1) hs rfl rfl rfl (by decide) rfl ?_; clear hs w a; intro a w hs
   refine st_and_u8 (X := ((rByte bs R).1) >>> 1) (Y := 1#8) hs rfl rfl rfl (by decide) rfl ?_; clear hs w a; intro a w hs
   refine st_eql hs rfl rfl rfl ?_; clear hs w a; intro a w hs
   refine wpList_nil ?_
   refine then_n (hK52 _ _ ?_)
   refine wp_if hs rfl (fun hc53 => ?_) (fun hc53 => ?_)
   ·
    replace hc53 := eq_of_beq hc53
    have hz_ := upBit_f (m := (rByte bs R).1) (i := 1) (by assumption)
    refine wp_exit ?_
    refine th_e ?_
    refine in_hit ?_
    refine then_n (hK46 _ _ ?_)
    refine wp_region_lit ?_
    refine st_run 2 [(19, .int .i64 (2)), (38, .int .i64 (2))] hs .n (by kernel_rfl) (by kernel_rfl) (by kernel_rfl) ?_; clear hs a; intro a hs
    refine wpList_nil ?_
    refine then_n ?_
    have hS_ : upS bs (rByte bs R).1 (rByte bs R).2 2 = ((upS bs (rByte bs R).1 (rByte bs R).2 1)) := upS_f hz_
    have hX_ : upX bs (rByte bs R).1 (rByte bs R).2 1 = 0 := upX_f hz_
    replace hs := hs.reblk .z (cs' := [v, .int .i64 ((((upS bs (rByte bs R).1 (rByte bs R).2 2).p : Nat) : Int)), .int .i64 ((((upS bs (rByte bs R).1 (rByte bs R).2 2).e : Nat) : Int))]) (by rw [hS_])
    replace hs := hs.reblk (.s .z) (cs' := [.int .i64 (k), .int .i64 (id), .int .i64 (upX bs (rByte bs R).1 (rByte bs R).2 0), .int .i64 (upX bs (rByte bs R).1 (rByte bs R).2 1), .int .i64 (0), .int .i64 (0), .int .i64 (0), .int .i64 (0), .int .u16 (0)]) (by rw [hX_])
    replace hs := hs.reorder (.c (.s .z) (.c .z .n))
    exact ⟨hs.sub (.c rfl (.c rfl (.c rfl (.c rfl (.c rfl .n))))), (upS_le (m := (rByte bs R).1) (R := (rByte bs R).2) (bs := bs) (by omega) 2).1⟩
   replace hc53 := ne_of_beq_f hc53
   have hz_ := upBit_t (m := (rByte bs R).1) (i := 1) (by assumption)
   refine wp_skip ?_
   refine then_n (hK50 _ _ ?_)
   refine wp_seq_k fun K54 hK55 => ?_
   refine wp_region_lit ?_
   refine st_run 2 [(29, .pointer (some ⟨g, 0, none⟩)), (28, .pointer (some ⟨h, 3, none⟩))] hs .n (by kernel_rfl) (by kernel_rfl) (by kernel_rfl) ?_; clear hs a; intro a hs
   refine st_call hs (.c rfl .n) Tryz.call72 (.c .z .n) (rint_ok  g _ _ bs (((upS bs (rByte bs R).1 (rByte bs R).2 1))) _ (hs.mem.rd1 hb (.c .z .n)) (hs.mem.del .z) (by omega)) rfl ?_; clear hs w a; rintro _ _ a w ⟨rfl, rfl⟩ hs; simp only [List.cons_append, List.nil_append] at hs
   have hk56 := rInt_le (bs := bs) (R := ((upS bs (rByte bs R).1 (rByte bs R).2 1))) (by omega)
   refine st_nc hs rfl rfl ?_; clear hs w a; intro a w hs
   refine st_stB hs rfl rfl (.s .z) (.s (.s (.s .z))) rfl Tryz.sizeOf2 ?_; clear hs w a; intro a w hs
   refine wpList_nil ?_
   refine then_n (hK55 _ _ ?_)
   refine wp_seq_k fun K57 hK58 => ?_
   refine wp_region_lit ?_
   refine st_run 4 [(35, .bool (((rInt bs (((upS bs (rByte bs R).1 (rByte bs R).2 1)))).1 : Int) == 0)), (34, .int .i64 ((rInt bs (((upS bs (rByte bs R).1 (rByte bs R).2 1)))).1)), (33, .pointer (some ⟨h, 3, none⟩)), (32, .pointer (some ⟨h, 3, none⟩))] hs (.c (hs.mem.del .z) .n) (by kernel_rfl) (by kernel_rfl) (by kernel_rfl) ?_; clear hs a; intro a hs
   refine wpList_nil ?_
   refine then_n (hK58 _ _ ?_)
   refine wp_if hs rfl (fun hc59 => ?_) (fun hc59 => ?_)
   ·
    replace hc59 := eq_of_beq hc59
    refine wp_region_lit ?_
    refine st_mv hs rfl rfl ?_; clear hs w a; intro a w hs
    refine st_call hs (.c rfl (.c rfl .n)) Tryz.call74 (.c (.s .z) .n) (rfail_ok 7 g _ _ bs (((rInt bs (((upS bs (rByte bs R).1 (rByte bs R).2 1)))).2)) _ (hs.mem.rd1 hb (.c (.s .z) .n)) (hs.mem.del (.s .z)) (by omega)) rfl ?_; clear hs w a; rintro _ _ a w ⟨rfl, rfl⟩ hs; simp only [List.cons_append, List.nil_append] at hs
    have hk60 := rFail_le (e := 7) (bs := bs) (R := ((rInt bs (((upS bs (rByte bs R).1 (rByte bs R).2 1)))).2)) (by omega)
    refine wpList_nil ?_
    refine in_n ?_
    refine then_n (hK46 _ _ ?_)
    refine wp_region_lit ?_
    refine st_run 2 [(19, .int .i64 (2)), (38, .int .i64 (2))] hs .n (by kernel_rfl) (by kernel_rfl) (by kernel_rfl) ?_; clear hs a; intro a hs
    refine wpList_nil ?_
    refine then_n ?_
    have hS_ : upS bs (rByte bs R).1 (rByte bs R).2 2 = ((rFail 7 (((rInt bs (((upS bs (rByte bs R).1 (rByte bs R).2 1)))).2)))) := upSZ hz_ (by assumption)
    have hX_ : upX bs (rByte bs R).1 (rByte bs R).2 1 = (rInt bs (((upS bs (rByte bs R).1 (rByte bs R).2 1)))).1 := upX_t hz_
    replace hs := hs.reblk .z (cs' := [v, .int .i64 ((((upS bs (rByte bs R).1 (rByte bs R).2 2).p : Nat) : Int)), .int .i64 ((((upS bs (rByte bs R).1 (rByte bs R).2 2).e : Nat) : Int))]) (by rw [hS_])
    replace hs := hs.reblk (.s .z) (cs' := [.int .i64 (k), .int .i64 (id), .int .i64 (upX bs (rByte bs R).1 (rByte bs R).2 0), .int .i64 (upX bs (rByte bs R).1 (rByte bs R).2 1), .int .i64 (0), .int .i64 (0), .int .i64 (0), .int .i64 (0), .int .u16 (0)]) (by rw [hX_])
    replace hs := hs.reorder (.c (.s .z) (.c .z .n))
    exact ⟨hs.sub (.c rfl (.c rfl (.c rfl (.c rfl (.c rfl .n))))), (upS_le (m := (rByte bs R).1) (R := (rByte bs R).2) (bs := bs) (by omega) 2).1⟩
   replace hc59 := ne_of_beq_f hc59
   refine wp_skip ?_
   refine in_n ?_
   refine then_n (hK46 _ _ ?_)
   refine wp_region_lit ?_
   refine st_run 2 [(19, .int .i64 (2)), (38, .int .i64 (2))] hs .n (by kernel_rfl) (by kernel_rfl) (by kernel_rfl) ?_; clear hs a; intro a hs
   refine wpList_nil ?_
   refine then_n ?_
   have hS_ : upS bs (rByte bs R).1 (rByte bs R).2 2 = ((rInt bs (((upS bs (rByte bs R).1 (rByte bs R).2 1)))).2) := upSN hz_ (by assumption)
   have hX_ : upX bs (rByte bs R).1 (rByte bs R).2 1 = (rInt bs (((upS bs (rByte bs R).1 (rByte bs R).2 1)))).1 := upX_t hz_
   replace hs := hs.reblk (.s .z) (cs' := [v, .int .i64 ((((upS bs (rByte bs R).1 (rByte bs R).2 2).p : Nat) : Int)), .int .i64 ((((upS bs (rByte bs R).1 (rByte bs R).2 2).e : Nat) : Int))]) (by rw [hS_])
   replace hs := hs.reblk (.s .z) (cs' := [.int .i64 (k), .int .i64 (id), .int .i64 (upX bs (rByte bs R).1 (rByte bs R).2 0), .int .i64 (upX bs (rByte bs R).1 (rByte bs R).2 1), .int .i64 (0), .int .i64 (0), .int .i64 (0), .int .i64 (0), .int .u16 (0)]) (by rw [hX_])
   replace hs := hs.reorder (.c (.s .z) (.c .z .n))
   exact ⟨hs.sub (.c rfl (.c rfl (.c rfl (.c rfl (.c rfl .n))))), (upS_le (m := (rByte bs R).1) (R := (rByte bs R).2) (bs := bs) (by omega) 2).1⟩
  clear hs w a; rintro a w ⟨hs, hJ61⟩
  refine then_n ?_
  refine rounds_in ?_
  refine Go.Sx.wp_cut (fun a w => St 55 [(0, .pointer (some ⟨g, 0, none⟩)), (1, .pointer (some ⟨h, 0, none⟩)), (4, .int .u8 (((((rByte bs R).1).toNat : Nat) : Int))), (18, .agg #[.pointer (some ⟨h, 2, none⟩), .pointer (some ⟨h, 3, none⟩), .pointer (some ⟨h, 4, none⟩), .pointer (some ⟨h, 5, none⟩), .pointer (some ⟨h, 6, none⟩), .pointer (some ⟨h, 7, none⟩)]), (19, .int .i64 (3))] w0 [g, h] [blk g [v, .int .i64 (((((upS bs (rByte bs R).1 (rByte bs R).2 3)).p : Nat) : Int)), .int .i64 (((((upS bs (rByte bs R).1 (rByte bs R).2 3)).e : Nat) : Int))] 127, blk h [.int .i64 (k), .int .i64 (id), .int .i64 (upX bs (rByte bs R).1 (rByte bs R).2 0), .int .i64 (upX bs (rByte bs R).1 (rByte bs R).2 1), .int .i64 (upX bs (rByte bs R).1 (rByte bs R).2 2), .int .i64 (0), .int .i64 (0), .int .i64 (0), .int .u16 (0)] 78] a w ∧ (upS bs (rByte bs R).1 (rByte bs R).2 3).p ≤ bs.length) ?_ ?_
  ·
   refine wp_seq_k fun K62 hK63 => ?_
   refine wp_region_lit ?_
   refine st_lss hs rfl rfl rfl ?_; clear hs w a; intro a w hs
   rw [show (decide ((2 : Int) < 6)) = true from by decide] at hs
   refine wpList_nil ?_
   refine then_n (hK63 _ _ ?_)
   refine wp_seq_k fun K64 hK65 => ?_
   refine wp_cond_true (hs.ev rfl) ?_
   refine wp_skip ?_
   refine then_n (hK65 _ _ ?_)
   refine wp_seq_k fun K66 hK67 => ?_
   refine wp_block ?_
   refine wp_seq_k fun K68 hK69 => ?_
   refine wp_region_lit ?_
   refine st_run 4 [(6, .pointer (some ⟨h, 4, none⟩)), (5, .int .i64 (2)), (22, .pointer (some ⟨h, 4, none⟩)), (21, .int .i64 (2))] hs .n (by kernel_rfl) (by kernel_rfl) (by kernel_rfl) ?_; clear hs a; intro a hs
   refine wpList_nil ?_
   refine then_n (hK69 _ _ ?_)
   refine wp_seq_k fun K70 hK71 => ?_
   refine wp_seq_k fun K72 hK73 => ?_
   refine wp_region_lit ?_
   refine st_run 2 [(24, .int .i64 (2)), (23, .int .u8 (((((rByte bs R).1).toNat : Nat) : Int)))] hs .n (by kernel_rfl) (by kernel_rfl) (by kernel_rfl) ?_; clear hs a; intro a hs
   refine st_shr_u8 (X := (rByte bs R).1) (m := 2) hs rfl rfl rfl (by decide) rfl ?_; clear hs w a; intro a w hs
   refine st_and_u8 (X := ((rByte bs R).1) >>> 2) (Y := 1#8) hs rfl rfl rfl (by decide) rfl ?_; clear hs w a; intro a w hs
   refine st_eql hs rfl rfl rfl ?_; clear hs w a; intro a w hs
   refine wpList_nil ?_
   refine then_n (hK73 _ _ ?_)
   refine wp_if hs rfl (fun hc74 => ?_) (fun hc74 => ?_)
   ·
    replace hc74 := eq_of_beq hc74
    have hz_ := upBit_f (m := (rByte bs R).1) (i := 2) (by assumption)
    refine wp_exit ?_
    refine th_e ?_
    refine in_hit ?_
    refine then_n (hK67 _ _ ?_)
    refine wp_region_lit ?_
    refine st_run 2 [(19, .int .i64 (3)), (38, .int .i64 (3))] hs .n (by kernel_rfl) (by kernel_rfl) (by kernel_rfl) ?_; clear hs a; intro a hs
    refine wpList_nil ?_
    refine then_n ?_
    have hS_ : upS bs (rByte bs R).1 (rByte bs R).2 3 = ((upS bs (rByte bs R).1 (rByte bs R).2 2)) := upS_f hz_
    have hX_ : upX bs (rByte bs R).1 (rByte bs R).2 2 = 0 := upX_f hz_
    replace hs := hs.reblk .z (cs' := [v, .int .i64 ((((upS bs (rByte bs R).1 (rByte bs R).2 3).p : Nat) : Int)), .int .i64 ((((upS bs (rByte bs R).1 (rByte bs R).2 3).e : Nat) : Int))]) (by rw [hS_])
    replace hs := hs.reblk (.s .z) (cs' := [.int .i64 (k), .int .i64 (id), .int .i64 (upX bs (rByte bs R).1 (rByte bs R).2 0), .int .i64 (upX bs (rByte bs R).1 (rByte bs R).2 1), .int .i64 (upX bs (rByte bs R).1 (rByte bs R).2 2), .int .i64 (0), .int .i64 (0), .int .i64 (0), .int .u16 (0)]) (by rw [hX_])
    replace hs := hs.reorder (.c (.s .z) (.c .z .n))
    exact ⟨hs.sub (.c rfl (.c rfl (.c rfl (.c rfl (.c rfl .n))))), (upS_le (m := (rByte bs R).1) (R := (rByte bs R).2) (bs := bs) (by omega) 3).1⟩
   replace hc74 := ne_of_beq_f hc74
   have hz_ := upBit_t (m := (rByte bs R).1) (i := 2) (by assumption)
   refine wp_skip ?_
   refine then_n (hK71 _ _ ?_)
   refine wp_seq_k fun K75 hK76 => ?_
   refine wp_region_lit ?_
   refine st_run 2 [(29, .pointer (some ⟨g, 0, none⟩)), (28, .pointer (some ⟨h, 4, none⟩))] hs .n (by kernel_rfl) (by kernel_rfl) (by kernel_rfl) ?_; clear hs a; intro a hs
   refine st_call hs (.c rfl .n) Tryz.call72 (.c .z .n) (rint_ok  g _ _ bs (((upS bs (rByte bs R).1 (rByte bs R).2 2))) _ (hs.mem.rd1 hb (.c .z .n)) (hs.mem.del .z) (by omega)) rfl ?_; clear hs w a; rintro _ _ a w ⟨rfl, rfl⟩ hs; simp only [List.cons_append, List.nil_append] at hs
   have hk77 := rInt_le (bs := bs) (R := ((upS bs (rByte bs R).1 (rByte bs R).2 2))) (by omega)
   refine st_nc hs rfl rfl ?_; clear hs w a; intro a w hs
   refine st_stB hs rfl rfl (.s .z) (.s (.s (.s (.s .z)))) rfl Tryz.sizeOf2 ?_; clear hs w a; intro a w hs
   refine wpList_nil ?_
   refine then_n (hK76 _ _ ?_)
   refine wp_seq_k fun K78 hK79 => ?_
   refine wp_region_lit ?_
   refine st_run 4 [(35, .bool (((rInt bs (((upS bs (rByte bs R).1 (rByte bs R).2 2)))).1 : Int) == 0)), (34, .int .i64 ((rInt bs (((upS bs (rByte bs R).1 (rByte bs R).2 2)))).1)), (33, .pointer (some ⟨h, 4, none⟩)), (32, .pointer (some ⟨h, 4, none⟩))] hs (.c (hs.mem.del .z) .n) (by kernel_rfl) (by kernel_rfl) (by kernel_rfl) ?_; clear hs a; intro a hs
   refine wpList_nil ?_
   refine then_n (hK79 _ _ ?_)
   refine wp_if hs rfl (fun hc80 => ?_) (fun hc80 => ?_)
   ·
    replace hc80 := eq_of_beq hc80
    refine wp_region_lit ?_
    refine st_mv hs rfl rfl ?_; clear hs w a; intro a w hs
    refine st_call hs (.c rfl (.c rfl .n)) Tryz.call74 (.c (.s .z) .n) (rfail_ok 7 g _ _ bs (((rInt bs (((upS bs (rByte bs R).1 (rByte bs R).2 2)))).2)) _ (hs.mem.rd1 hb (.c (.s .z) .n)) (hs.mem.del (.s .z)) (by omega)) rfl ?_; clear hs w a; rintro _ _ a w ⟨rfl, rfl⟩ hs; simp only [List.cons_append, List.nil_append] at hs
    have hk81 := rFail_le (e := 7) (bs := bs) (R := ((rInt bs (((upS bs (rByte bs R).1 (rByte bs R).2 2)))).2)) (by omega)
    refine wpList_nil ?_
    refine in_n ?_
    refine then_n (hK67 _ _ ?_)
    refine wp_region_lit ?_
    refine st_run 2 [(19, .int .i64 (3)), (38, .int .i64 (3))] hs .n (by kernel_rfl) (by kernel_rfl) (by kernel_rfl) ?_; clear hs a; intro a hs
    refine wpList_nil ?_
    refine then_n ?_
    have hS_ : upS bs (rByte bs R).1 (rByte bs R).2 3 = ((rFail 7 (((rInt bs (((upS bs (rByte bs R).1 (rByte bs R).2 2)))).2)))) := upSZ hz_ (by assumption)
    have hX_ : upX bs (rByte bs R).1 (rByte bs R).2 2 = (rInt bs (((upS bs (rByte bs R).1 (rByte bs R).2 2)))).1 := upX_t hz_
    replace hs := hs.reblk .z (cs' := [v, .int .i64 ((((upS bs (rByte bs R).1 (rByte bs R).2 3).p : Nat) : Int)), .int .i64 ((((upS bs (rByte bs R).1 (rByte bs R).2 3).e : Nat) : Int))]) (by rw [hS_])
    replace hs := hs.reblk (.s .z) (cs' := [.int .i64 (k), .int .i64 (id), .int .i64 (upX bs (rByte bs R).1 (rByte bs R).2 0), .int .i64 (upX bs (rByte bs R).1 (rByte bs R).2 1), .int .i64 (upX bs (rByte bs R).1 (rByte bs R).2 2), .int .i64 (0), .int .i64 (0), .int .i64 (0), .int .u16 (0)]) (by rw [hX_])
    replace hs := hs.reorder (.c (.s .z) (.c .z .n))
    exact ⟨hs.sub (.c rfl (.c rfl (.c rfl (.c rfl (.c rfl .n))))), (upS_le (m := (rByte bs R).1) (R := (rByte bs R).2) (bs := bs) (by omega) 3).1⟩
   replace hc80 := ne_of_beq_f hc80
   refine wp_skip ?_
   refine in_n ?_
   refine then_n (hK67 _ _ ?_)
   refine wp_region_lit ?_
   refine st_run 2 [(19, .int .i64 (3)), (38, .int .i64 (3))] hs .n (by kernel_rfl) (by kernel_rfl) (by kernel_rfl) ?_; clear hs a; intro a hs
   refine wpList_nil ?_
   refine then_n ?_
   have hS_ : upS bs (rByte bs R).1 (rByte bs R).2 3 = ((rInt bs (((upS bs (rByte bs R).1 (rByte bs R).2 2)))).2) := upSN hz_ (by assumption)
   have hX_ : upX bs (rByte bs R).1 (rByte bs R).2 2 = (rInt bs (((upS bs (rByte bs R).1 (rByte bs R).2 2)))).1 := upX_t hz_
   replace hs := hs.reblk (.s .z) (cs' := [v, .int .i64 ((((upS bs (rByte bs R).1 (rByte bs R).2 3).p : Nat) : Int)), .int .i64 ((((upS bs (rByte bs R).1 (rByte bs R).2 3).e : Nat) : Int))]) (by rw [hS_])
   replace hs := hs.reblk (.s .z) (cs' := [.int .i64 (k), .int .i64 (id), .int .i64 (upX bs (rByte bs R).1 (rByte bs R).2 0), .int .i64 (upX bs (rByte bs R).1 (rByte bs R).2 1), .int .i64 (upX bs (rByte bs R).1 (rByte bs R).2 2), .int .i64 (0), .int .i64 (0), .int .i64 (0), .int .u16 (0)]) (by rw [hX_])
   replace hs := hs.reorder (.c (.s .z) (.c .z .n))
   exact ⟨hs.sub (.c rfl (.c rfl (.c rfl (.c rfl (.c rfl .n))))), (upS_le (m := (rByte bs R).1) (R := (rByte bs R).2) (bs := bs) (by omega) 3).1⟩
  clear hs w a; rintro a w ⟨hs, hJ82⟩
  refine then_n ?_
  refine rounds_in ?_
  refine Go.Sx.wp_cut (fun a w => St 55 [(0, .pointer (some ⟨g, 0, none⟩)), (1, .pointer (some ⟨h, 0, none⟩)), (4, .int .u8 (((((rByte bs R).1).toNat : Nat) : Int))), (18, .agg #[.pointer (some ⟨h, 2, none⟩), .pointer (some ⟨h, 3, none⟩), .pointer (some ⟨h, 4, none⟩), .pointer (some ⟨h, 5, none⟩), .pointer (some ⟨h, 6, none⟩), .pointer (some ⟨h, 7, none⟩)]), (19, .int .i64 (4))] w0 [g, h] [blk g [v, .int .i64 (((((upS bs (rByte bs R).1 (rByte bs R).2 4)).p : Nat) : Int)), .int .i64 (((((upS bs (rByte bs R).1 (rByte bs R).2 4)).e : Nat) : Int))] 127, blk h [.int .i64 (k), .int .i64 (id), .int .i64 (upX bs (rByte bs R).1 (rByte bs R).2 0), .int .i64 (upX bs (rByte bs R).1 (rByte bs R).2 1), .int .i64 (upX bs (rByte bs R).1 (rByte bs R).2 2), .int .i64 (upX bs (rByte bs R).1 (rByte bs R).2 3), .int .i64 (0), .int .i64 (0), .int .u16 (0)] 78] a w ∧ (upS bs (rByte bs R).1 (rByte bs R).2 4).p ≤ bs.length) ?_ ?_
  ·
   refine wp_seq_k fun K83 hK84 => ?_
   refine wp_region_lit ?_
   refine st_lss hs rfl rfl rfl ?_; clear hs w a; intro a w hs
   rw [show (decide ((3 : Int) < 6)) = true from by decide] at hs
   refine wpList_nil ?_
   refine then_n (hK84 _ _ ?_)
   refine wp_seq_k fun K85 hK86 => ?_
   refine wp_cond_true (hs.ev rfl) ?_
   refine wp_skip ?_
   refine then_n (hK86 _ _ ?_)
   refine wp_seq_k fun K87 hK88 => ?_
   refine wp_block ?_
   refine wp_seq_k fun K89 hK90 => ?_
   refine wp_region_lit ?_
   refine st_run 4 [(6, .pointer (some ⟨h, 5, none⟩)), (5, .int .i64 (3)), (22, .pointer (some ⟨h, 5, none⟩)), (21, .int .i64 (3))] hs .n (by kernel_rfl) (by kernel_rfl) (by kernel_rfl) ?_; clear hs a; intro a hs
   refine wpList_nil ?_
   refine then_n (hK90 _ _ ?_)
   refine wp_seq_k fun K91 hK92 => ?_
   refine wp_seq_k fun K93 hK94 => ?_
   refine wp_region_lit ?_
   refine st_run 2 [(24, .int .i64 (3)), (23, .int .u8 (((((rByte bs R).1).toNat : Nat) : Int)))] hs .n (by kernel_rfl) (by kernel_rfl) (by kernel_rfl) ?_; clear hs a; intro a hs
   refine st_shr_u8 (X := (rByte bs R).1) (m := 3) hs rfl rfl rfl (by decide) rfl ?_; clear hs w a; intro a w hs
   refine st_and_u8 (X := ((rByte bs R).1) >>> 3) (Y := 1#8) hs rfl rfl rfl (by decide) rfl ?_; clear hs w a; intro a w hs
   refine st_eql hs rfl rfl rfl ?_; clear hs w a; intro a w hs
   refine wpList_nil ?_
   refine then_n (hK94 _ _ ?_)
   refine wp_if hs rfl (fun hc95 => ?_) (fun hc95 => ?_)
   ·
    replace hc95 := eq_of_beq hc95
    have hz_ := upBit_f (m := (rByte bs R).1) (i := 3) (by assumption)
    refine wp_exit ?_
    refine th_e ?_
    refine in_hit ?_
    refine then_n (hK88 _ _ ?_)
    refine wp_region_lit ?_
    refine st_run 2 [(19, .int .i64 (4)), (38, .int .i64 (4))] hs .n (by kernel_rfl) (by kernel_rfl) (by kernel_rfl) ?_; clear hs a; intro a hs
    refine wpList_nil ?_
    refine then_n ?_
    have hS_ : upS bs (rByte bs R).1 (rByte bs R).2 4 = ((upS bs (rByte bs R).1 (rByte bs R).2 3)) := upS_f hz_
    have hX_ : upX bs (rByte bs R).1 (rByte bs R).2 3 = 0 := upX_f hz_
    replace hs := hs.reblk .z (cs' := [v, .int .i64 ((((upS bs (rByte bs R).1 (rByte bs R).2 4).p : Nat) : Int)), .int .i64 ((((upS bs (rByte bs R).1 (rByte bs R).2 4).e : Nat) : Int))]) (by rw [hS_])
    replace hs := hs.reblk (.s .z) (cs' := [.int .i64 (k), .int .i64 (id), .int .i64 (upX bs (rByte bs R).1 (rByte bs R).2 0), .int .i64 (upX bs (rByte bs R).1 (rByte bs R).2 1), .int .i64 (upX bs (rByte bs R).1 (rByte bs R).2 2), .int .i64 (upX bs (rByte bs R).1 (rByte bs R).2 3), .int .i64 (0), .int .i64 (0), .int .u16 (0)]) (by rw [hX_])
    replace hs := hs.reorder (.c (.s .z) (.c .z .n))
    exact ⟨hs.sub (.c rfl (.c rfl (.c rfl (.c rfl (.c rfl .n))))), (upS_le (m := (rByte bs R).1) (R := (rByte bs R).2) (bs := bs) (by omega) 4).1⟩
   replace hc95 := ne_of_beq_f hc95
   have hz_ := upBit_t (m := (rByte bs R).1) (i := 3) (by assumption)
   refine wp_skip ?_
   refine then_n (hK92 _ _ ?_)
   refine wp_seq_k fun K96 hK97 => ?_
   refine wp_region_lit ?_
   refine st_run 2 [(29, .pointer (some ⟨g, 0, none⟩)), (28, .pointer (some ⟨h, 5, none⟩))] hs .n (by kernel_rfl) (by kernel_rfl) (by kernel_rfl) ?_; clear hs a; intro a hs
   refine st_call hs (.c rfl .n) Tryz.call72 (.c .z .n) (rint_ok  g _ _ bs (((upS bs (rByte bs R).1 (rByte bs R).2 3))) _ (hs.mem.rd1 hb (.c .z .n)) (hs.mem.del .z) (by omega)) rfl ?_; clear hs w a; rintro _ _ a w ⟨rfl, rfl⟩ hs; simp only [List.cons_append, List.nil_append] at hs
   have hk98 := rInt_le (bs := bs) (R := ((upS bs (rByte bs R).1 (rByte bs R).2 3))) (by omega)
   refine st_nc hs rfl rfl ?_; clear hs w a; intro a w hs
   refine st_stB hs rfl rfl (.s .z) (.s (.s (.s (.s (.s .z))))) rfl Tryz.sizeOf2 ?_; clear hs w a; intro a w hs
   refine wpList_nil ?_
   refine then_n (hK97 _ _ ?_)
   refine wp_seq_k fun K99 hK100 => ?_
   refine wp_region_lit ?_
   refine st_run 4 [(35, .bool (((rInt bs (((upS bs (rByte bs R).1 (rByte bs R).2 3)))).1 : Int) == 0)), (34, .int .i64 ((rInt bs (((upS bs (rByte bs R).1 (rByte bs R).2 3)))).1)), (33, .pointer (some ⟨h, 5, none⟩)), (32, .pointer (some ⟨h, 5, none⟩))] hs (.c (hs.mem.del .z) .n) (by kernel_rfl) (by kernel_rfl) (by kernel_rfl) ?_; clear hs a; intro a hs
   refine wpList_nil ?_
   refine then_n (hK100 _ _ ?_)
   refine wp_if hs rfl (fun hc101 => ?_) (fun hc101 => ?_)
   ·
    replace hc101 := eq_of_beq hc101
    refine wp_region_lit ?_
    refine st_mv hs rfl rfl ?_; clear hs w a; intro a w hs
    refine st_call hs (.c rfl (.c rfl .n)) Tryz.call74 (.c (.s .z) .n) (rfail_ok 7 g _ _ bs (((rInt bs (((upS bs (rByte bs R).1 (rByte bs R).2 3)))).2)) _ (hs.mem.rd1 hb (.c (.s .z) .n)) (hs.mem.del (.s .z)) (by omega)) rfl ?_; clear hs w a; rintro _ _ a w ⟨rfl, rfl⟩ hs; simp only [List.cons_append, List.nil_append] at hs
    have hk102 := rFail_le (e := 7) (bs := bs) (R := ((rInt bs (((upS bs (rByte bs R).1 (rByte bs R).2 3)))).2)) (by omega)
    refine wpList_nil ?_
    refine in_n ?_
    refine then_n (hK88 _ _ ?_)
    refine wp_region_lit ?_
    refine st_run 2 [(19, .int .i64 (4)), (38, .int .i64 (4))] hs .n (by kernel_rfl) (by kernel_rfl) (by kernel_rfl) ?_; clear hs a; intro a hs
    refine wpList_nil ?_
    refine then_n ?_
    have hS_ : upS bs (rByte bs R).1 (rByte bs R).2 4 = ((rFail 7 (((rInt bs (((upS bs (rByte bs R).1 (rByte bs R).2 3)))).2)))) := upSZ hz_ (by assumption)
    have hX_ : upX bs (rByte bs R).1 (rByte bs R).2 3 = (rInt bs (((upS bs (rByte bs R).1 (rByte bs R).2 3)))).1 := upX_t hz_
    replace hs := hs.reblk .z (cs' := [v, .int .i64 ((((upS bs (rByte bs R).1 (rByte bs R).2 4).p : Nat) : Int)), .int .i64 ((((upS bs (rByte bs R).1 (rByte bs R).2 4).e : Nat) : Int))]) (by rw [hS_])
    replace hs := hs.reblk (.s .z) (cs' := [.int .i64 (k), .int .i64 (id), .int .i64 (upX bs (rByte bs R).1 (rByte bs R).2 0), .int .i64 (upX bs (rByte bs R).1 (rByte bs R).2 1), .int .i64 (upX bs (rByte bs R).1 (rByte bs R).2 2), .int .i64 (upX bs (rByte bs R).1 (rByte bs R).2 3), .int .i64 (0), .int .i64 (0), .int .u16 (0)]) (by rw [hX_])
    replace hs := hs.reorder (.c (.s .z) (.c .z .n))
    exact ⟨hs.sub (.c rfl (.c rfl (.c rfl (.c rfl (.c rfl .n))))), (upS_le (m := (rByte bs R).1) (R := (rByte bs R).2) (bs := bs) (by omega) 4).1⟩
   replace hc101 := ne_of_beq_f hc101
   refine wp_skip ?_
   refine in_n ?_
   refine then_n (hK88 _ _ ?_)
   refine wp_region_lit ?_
   refine st_run 2 [(19, .int .i64 (4)), (38, .int .i64 (4))] hs .n (by kernel_rfl) (by kernel_rfl) (by kernel_rfl) ?_; clear hs a; intro a hs
   refine wpList_nil ?_
   refine then_n ?_
   have hS_ : upS bs (rByte bs R).1 (rByte bs R).2 4 = ((rInt bs (((upS bs (rByte bs R).1 (rByte bs R).2 3)))).2) := upSN hz_ (by assumption)
   have hX_ : upX bs (rByte bs R).1 (rByte bs R).2 3 = (rInt bs (((upS bs (rByte bs R).1 (rByte bs R).2 3)))).1 := upX_t hz_
   replace hs := hs.reblk (.s .z) (cs' := [v, .int .i64 ((((upS bs (rByte bs R).1 (rByte bs R).2 4).p : Nat) : Int)), .int .i64 ((((upS bs (rByte bs R).1 (rByte bs R).2 4).e : Nat) : Int))]) (by rw [hS_])
   replace hs := hs.reblk (.s .z) (cs' := [.int .i64 (k), .int .i64 (id), .int .i64 (upX bs (rByte bs R).1 (rByte bs R).2 0), .int .i64 (upX bs (rByte bs R).1 (rByte bs R).2 1), .int .i64 (upX bs (rByte bs R).1 (rByte bs R).2 2), .int .i64 (upX bs (rByte bs R).1 (rByte bs R).2 3), .int .i64 (0), .int .i64 (0), .int .u16 (0)]) (by rw [hX_])
   replace hs := hs.reorder (.c (.s .z) (.c .z .n))
   exact ⟨hs.sub (.c rfl (.c rfl (.c rfl (.c rfl (.c rfl .n))))), (upS_le (m := (rByte bs R).1) (R := (rByte bs R).2) (bs := bs) (by omega) 4).1⟩
  clear hs w a; rintro a w ⟨hs, hJ103⟩
  refine then_n ?_
  refine rounds_in ?_
  refine Go.Sx.wp_cut (fun a w => St 55 [(0, .pointer (some ⟨g, 0, none⟩)), (1, .pointer (some ⟨h, 0, none⟩)), (4, .int .u8 (((((rByte bs R).1).toNat : Nat) : Int))), (18, .agg #[.pointer (some ⟨h, 2, none⟩), .pointer (some ⟨h, 3, none⟩), .pointer (some ⟨h, 4, none⟩), .pointer (some ⟨h, 5, none⟩), .pointer (some ⟨h, 6, none⟩), .pointer (some ⟨h, 7, none⟩)]), (19, .int .i64 (5))] w0 [g, h] [blk g [v, .int .i64 (((((upS bs (rByte bs R).1 (rByte bs R).2 5)).p : Nat) : Int)), .int .i64 (((((upS bs (rByte bs R).1 (rByte bs R).2 5)).e : Nat) : Int))] 127, blk h [.int .i64 (k), .int .i64 (id), .int .i64 (upX bs (rByte bs R).1 (rByte bs R).2 0), .int .i64 (upX bs (rByte bs R).1 (rByte bs R).2 1), .int .i64 (upX bs (rByte bs R).1 (rByte bs R).2 2), .int .i64 (upX bs (rByte bs R).1 (rByte bs R).2 3), .int .i64 (upX bs (rByte bs R).1 (rByte bs R).2 4), .int .i64 (0), .int .u16 (0)] 78] a w ∧ (upS bs (rByte bs R).1 (rByte bs R).2 5).p ≤ bs.length) ?_ ?_
  ·
   refine wp_seq_k fun K104 hK105 => ?_
   refine wp_region_lit ?_
   refine st_lss hs rfl rfl rfl ?_; clear hs w a; intro a w hs
   rw [show (decide ((4 : Int) < 6)) = true from by decide] at hs
   refine wpList_nil ?_
   refine then_n (hK105 _ _ ?_)
   refine wp_seq_k fun K106 hK107 => ?_
   refine wp_cond_true (hs.ev rfl) ?_
   refine wp_skip ?_
   refine then_n (hK107 _ _ ?_)
   refine wp_seq_k fun K108 hK109 => ?_
   refine wp_block ?_
   refine wp_seq_k fun K110 hK111 => ?_
   refine wp_region_lit ?_
   refine st_run 4 [(6, .pointer (some ⟨h, 6, none⟩)), (5, .int .i64 (4)), (22, .pointer (some ⟨h, 6, none⟩)), (21, .int .i64 (4))] hs .n (by kernel_rfl) (by kernel_rfl) (by kernel_rfl) ?_; clear hs a; intro a hs
   refine wpList_nil ?_
   refine then_n (hK111 _ _ ?_)
   refine wp_seq_k fun K112 hK113 => ?_
   refine wp_seq_k fun K114 hK115 => ?_
   refine wp_region_lit ?_
   refine st_run 2 [(24, .int .i64 (4)), (23, .int .u8 (((((rByte bs R).1).toNat : Nat) : Int)))] hs .n (by kernel_rfl) (by kernel_rfl) (by kernel_rfl) ?_; clear hs a; intro a hs
   refine st_shr_u8 (X := (rByte bs R).1) (m := 4) hs rfl rfl rfl (by decide) rfl ?_; clear hs w a; intro a w hs
   refine st_and_u8 (X := ((rByte bs R).1) >>> 4) (Y := 1#8) hs rfl rfl rfl (by decide) rfl ?_; clear hs w a; intro a w hs
   refine st_eql hs rfl rfl rfl ?_; clear hs w a; intro a w hs
   refine wpList_nil ?_
   refine then_n (hK115 _ _ ?_)
   refine wp_if hs rfl (fun hc116 => ?_) (fun hc116 => ?_)
   ·
    replace hc116 := eq_of_beq hc116
    have hz_ := upBit_f (m := (rByte bs R).1) (i := 4) (by assumption)
    refine wp_exit ?_
    refine th_e ?_
    refine in_hit ?_
    refine then_n (hK109 _ _ ?_)
    refine wp_region_lit ?_
    refine st_run 2 [(19, .int .i64 (5)), (38, .int .i64 (5))] hs .n (by kernel_rfl) (by kernel_rfl) (by kernel_rfl) ?_; clear hs a; intro a hs
    refine wpList_nil ?_
    refine then_n ?_
    have hS_ : upS bs (rByte bs R).1 (rByte bs R).2 5 = ((upS bs (rByte bs R).1 (rByte bs R).2 4)) := upS_f hz_
    have hX_ : upX bs (rByte bs R).1 (rByte bs R).2 4 = 0 := upX_f hz_
    replace hs := hs.reblk .z (cs' := [v, .int .i64 ((((upS bs (rByte bs R).1 (rByte bs R).2 5).p : Nat) : Int)), .int .i64 ((((upS bs (rByte bs R).1 (rByte bs R).2 5).e : Nat) : Int))]) (by rw [hS_])
    replace hs := hs.reblk (.s .z) (cs' := [.int .i64 (k), .int .i64 (id), .int .i64 (upX bs (rByte bs R).1 (rByte bs R).2 0), .int .i64 (upX bs (rByte bs R).1 (rByte bs R).2 1), .int .i64 (upX bs (rByte bs R).1 (rByte bs R).2 2), .int .i64 (upX bs (rByte bs R).1 (rByte bs R).2 3), .int .i64 (upX bs (rByte bs R).1 (rByte bs R).2 4), .int .i64 (0), .int .u16 (0)]) (by rw [hX_])
    replace hs := hs.reorder (.c (.s .z) (.c .z .n))
    exact ⟨hs.sub (.c rfl (.c rfl (.c rfl (.c rfl (.c rfl .n))))), (upS_le (m := (rByte bs R).1) (R := (rByte bs R).2) (bs := bs) (by omega) 5).1⟩
   replace hc116 := ne_of_beq_f hc116
   have hz_ := upBit_t (m := (rByte bs R).1) (i := 4) (by assumption)
   refine wp_skip ?_
   refine then_n (hK113 _ _ ?_)
   refine wp_seq_k fun K117 hK118 => ?_
   refine wp_region_lit ?_
   refine st_run 2 [(29, .pointer (some ⟨g, 0, none⟩)), (28, .pointer (some ⟨h, 6, none⟩))] hs .n (by kernel_rfl) (by kernel_rfl) (by kernel_rfl) ?_; clear hs a; intro a hs
   refine st_call hs (.c rfl .n) Tryz.call72 (.c .z .n) (rint_ok  g _ _ bs (((upS bs (rByte bs R).1 (rByte bs R).2 4))) _ (hs.mem.rd1 hb (.c .z .n)) (hs.mem.del .z) (by omega)) rfl ?_; clear hs w a; rintro _ _ a w ⟨rfl, rfl⟩ hs; simp only [List.cons_append, List.nil_append] at hs
   have hk119 := rInt_le (bs := bs) (R := ((upS bs (rByte bs R).1 (rByte bs R).2 4))) (by omega)
   refine st_nc hs rfl rfl ?_; clear hs w a; intro a w hs
   refine st_stB hs rfl rfl (.s .z) (.s (.s (.s (.s (.s (.s .z)))))) rfl Tryz.sizeOf2 ?_; clear hs w a; intro a w hs
   refine wpList_nil ?_
   refine then_n (hK118 _ _ ?_)
   refine wp_seq_k fun K120 hK121 => ?_
   refine wp_region_lit ?_
   refine st_run 4 [(35, .bool (((rInt bs (((upS bs (rByte bs R).1 (rByte bs R).2 4)))).1 : Int) == 0)), (34, .int .i64 ((rInt bs (((upS bs (rByte bs R).1 (rByte bs R).2 4)))).1)), (33, .pointer (some ⟨h, 6, none⟩)), (32, .pointer (some ⟨h, 6, none⟩))] hs (.c (hs.mem.del .z) .n) (by kernel_rfl) (by kernel_rfl) (by kernel_rfl) ?_; clear hs a; intro a hs
   refine wpList_nil ?_
   refine then_n (hK121 _ _ ?_)
   refine wp_if hs rfl (fun hc122 => ?_) (fun hc122 => ?_)
   ·
    replace hc122 := eq_of_beq hc122
    refine wp_region_lit ?_
    refine st_mv hs rfl rfl ?_; clear hs w a; intro a w hs
    refine st_call hs (.c rfl (.c rfl .n)) Tryz.call74 (.c (.s .z) .n) (rfail_ok 7 g _ _ bs (((rInt bs (((upS bs (rByte bs R).1 (rByte bs R).2 4)))).2)) _ (hs.mem.rd1 hb (.c (.s .z) .n)) (hs.mem.del (.s .z)) (by omega)) rfl ?_; clear hs w a; rintro _ _ a w ⟨rfl, rfl⟩ hs; simp only [List.cons_append, List.nil_append] at hs
    have hk123 := rFail_le (e := 7) (bs := bs) (R := ((rInt bs (((upS bs (rByte bs R).1 (rByte bs R).2 4)))).2)) (by omega)
    refine wpList_nil ?_
    refine in_n ?_
    refine then_n (hK109 _ _ ?_)
    refine wp_region_lit ?_
    refine st_run 2 [(19, .int .i64 (5)), (38, .int .i64 (5))] hs .n (by kernel_rfl) (by kernel_rfl) (by kernel_rfl) ?_; clear hs a; intro a hs
    refine wpList_nil ?_
    refine then_n ?_
    have hS_ : upS bs (rByte bs R).1 (rByte bs R).2 5 = ((rFail 7 (((rInt bs (((upS bs (rByte bs R).1 (rByte bs R).2 4)))).2)))) := upSZ hz_ (by assumption)
    have hX_ : upX bs (rByte bs R).1 (rByte bs R).2 4 = (rInt bs (((upS bs (rByte bs R).1 (rByte bs R).2 4)))).1 := upX_t hz_
    replace hs := hs.reblk .z (cs' := [v, .int .i64 ((((upS bs (rByte bs R).1 (rByte bs R).2 5).p : Nat) : Int)), .int .i64 ((((upS bs (rByte bs R).1 (rByte bs R).2 5).e : Nat) : Int))]) (by rw [hS_])
    replace hs := hs.reblk (.s .z) (cs' := [.int .i64 (k), .int .i64 (id), .int .i64 (upX bs (rByte bs R).1 (rByte bs R).2 0), .int .i64 (upX bs (rByte bs R).1 (rByte bs R).2 1), .int .i64 (upX bs (rByte bs R).1 (rByte bs R).2 2), .int .i64 (upX bs (rByte bs R).1 (rByte bs R).2 3), .int .i64 (upX bs (rByte bs R).1 (rByte bs R).2 4), .int .i64 (0), .int .u16 (0)]) (by rw [hX_])
    replace hs := hs.reorder (.c (.s .z) (.c .z .n))
    exact ⟨hs.sub (.c rfl (.c rfl (.c rfl (.c rfl (.c rfl .n))))), (upS_le (m := (rByte bs R).1) (R := (rByte bs R).2) (bs := bs) (by omega) 5).1⟩
   replace hc122 := ne_of_beq_f hc122
   refine wp_skip ?_
   refine in_n ?_
   refine then_n (hK109 _ _ ?_)
   refine wp_region_lit ?_
   refine st_run 2 [(19, .int .i64 (5)), (38, .int .i64 (5))] hs .n (by kernel_rfl) (by kernel_rfl) (by kernel_rfl) ?_; clear hs a; intro a hs
   refine wpList_nil ?_
   refine then_n ?_
   have hS_ : upS bs (rByte bs R).1 (rByte bs R).2 5 = ((rInt bs (((upS bs (rByte bs R).1 (rByte bs R).2 4)))).2) := upSN hz_ (by assumption)
   have hX_ : upX bs (rByte bs R).1 (rByte bs R).2 4 = (rInt bs (((upS bs (rByte bs R).1 (rByte bs R).2 4)))).1 := upX_t hz_
   replace hs := hs.reblk (.s .z) (cs' := [v, .int .i64 ((((upS bs (rByte bs R).1 (rByte bs R).2 5).p : Nat) : Int)), .int .i64 ((((upS bs (rByte bs R).1 (rByte bs R).2 5).e : Nat) : Int))]) (by rw [hS_])
   replace hs := hs.reblk (.s .z) (cs' := [.int .i64 (k), .int .i64 (id), .int .i64 (upX bs (rByte bs R).1 (rByte bs R).2 0), .int .i64 (upX bs (rByte bs R).1 (rByte bs R).2 1), .int .i64 (upX bs (rByte bs R).1 (rByte bs R).2 2), .int .i64 (upX bs (rByte bs R).1 (rByte bs R).2 3), .int .i64 (upX bs (rByte bs R).1 (rByte bs R).2 4), .int .i64 (0), .int .u16 (0)]) (by rw [hX_])
   replace hs := hs.reorder (.c (.s .z) (.c .z .n))
   exact ⟨hs.sub (.c rfl (.c rfl (.c rfl (.c rfl (.c rfl .n))))), (upS_le (m := (rByte bs R).1) (R := (rByte bs R).2) (bs := bs) (by omega) 5).1⟩
  clear hs w a; rintro a w ⟨hs, hJ124⟩
  refine then_n ?_
  refine rounds_in ?_
  refine Go.Sx.wp_cut (fun a w => St 55 [(0, .pointer (some ⟨g, 0, none⟩)), (1, .pointer (some ⟨h, 0, none⟩)), (4, .int .u8 (((((rByte bs R).1).toNat : Nat) : Int))), (18, .agg #[.pointer (some ⟨h, 2, none⟩), .pointer (some ⟨h, 3, none⟩), .pointer (some ⟨h, 4, none⟩), .pointer (some ⟨h, 5, none⟩), .pointer (some ⟨h, 6, none⟩), .pointer (some ⟨h, 7, none⟩)]), (19, .int .i64 (6))] w0 [g, h] [blk g [v, .int .i64 (((((upS bs (rByte bs R).1 (rByte bs R).2 6)).p : Nat) : Int)), .int .i64 (((((upS bs (rByte bs R).1 (rByte bs R).2 6)).e : Nat) : Int))] 127, blk h [.int .i64 (k), .int .i64 (id), .int .i64 (upX bs (rByte bs R).1 (rByte bs R).2 0), .int .i64 (upX bs (rByte bs R).1 (rByte bs R).2 1), .int .i64 (upX bs (rByte bs R).1 (rByte bs R).2 2), .int .i64 (upX bs (rByte bs R).1 (rByte bs R).2 3), .int .i64 (upX bs (rByte bs R).1 (rByte bs R).2 4), .int .i64 (upX bs (rByte bs R).1 (rByte bs R).2 5), .int .u16 (0)] 78] a w ∧ (upS bs (rByte bs R).1 (rByte bs R).2 6).p ≤ bs.length) ?_ ?_
  ·
   refine wp_seq_k fun K125 hK126 => ?_
   refine wp_region_lit ?_
   refine st_lss hs rfl rfl rfl ?_; clear hs w a; intro a w hs
   rw [show (decide ((5 : Int) < 6)) = true from by decide] at hs
   refine wpList_nil ?_
   refine then_n (hK126 _ _ ?_)
   refine wp_seq_k fun K127 hK128 => ?_
   refine wp_cond_true (hs.ev rfl) ?_
   refine wp_skip ?_
   refine then_n (hK128 _ _ ?_)
   refine wp_seq_k fun K129 hK130 => ?_
   refine wp_block ?_
   refine wp_seq_k fun K131 hK132 => ?_
   refine wp_region_lit ?_
   refine st_run 4 [(6, .pointer (some ⟨h, 7, none⟩)), (5, .int .i64 (5)), (22, .pointer (some ⟨h, 7, none⟩)), (21, .int .i64 (5))] hs .n (by kernel_rfl) (by kernel_rfl) (by kernel_rfl) ?_; clear hs a; intro a hs
   refine wpList_nil ?_
   refine then_n (hK132 _ _ ?_)
   refine wp_seq_k fun K133 hK134 => ?_
   refine wp_seq_k fun K135 hK136 => ?_
   refine wp_region_lit ?_
   refine st_run 2 [(24, .int .i64 (5)), (23, .int .u8 (((((rByte bs R).1).toNat : Nat) : Int)))] hs .n (by kernel_rfl) (by kernel_rfl) (by kernel_rfl) ?_; clear hs a; intro a hs
   refine st_shr_u8 (X := (rByte bs R).1) (m := 5) hs rfl rfl rfl (by decide) rfl ?_; clear hs w a; intro a w hs
   refine st_and_u8 (X := ((rByte bs R).1) >>> 5) (Y := 1#8) hs rfl rfl rfl (by decide) rfl ?_; clear hs w a; intro a w hs
   refine st_eql hs rfl rfl rfl ?_; clear hs w a; intro a w hs
   refine wpList_nil ?_
   refine then_n (hK136 _ _ ?_)
   refine wp_if hs rfl (fun hc137 => ?_) (fun hc137 => ?_)
   ·
    replace hc137 := eq_of_beq hc137
    have hz_ := upBit_f (m := (rByte bs R).1) (i := 5) (by assumption)
    refine wp_exit ?_
    refine th_e ?_
    refine in_hit ?_
    refine then_n (hK130 _ _ ?_)
    refine wp_region_lit ?_
    refine st_run 2 [(19, .int .i64 (6)), (38, .int .i64 (6))] hs .n (by kernel_rfl) (by kernel_rfl) (by kernel_rfl) ?_; clear hs a; intro a hs
    refine wpList_nil ?_
    refine then_n ?_
    have hS_ : upS bs (rByte bs R).1 (rByte bs R).2 6 = ((upS bs (rByte bs R).1 (rByte bs R).2 5)) := upS_f hz_
    have hX_ : upX bs (rByte bs R).1 (rByte bs R).2 5 = 0 := upX_f hz_
    replace hs := hs.reblk .z (cs' := [v, .int .i64 ((((upS bs (rByte bs R).1 (rByte bs R).2 6).p : Nat) : Int)), .int .i64 ((((upS bs (rByte bs R).1 (rByte bs R).2 6).e : Nat) : Int))]) (by rw [hS_])
    replace hs := hs.reblk (.s .z) (cs' := [.int .i64 (k), .int .i64 (id), .int .i64 (upX bs (rByte bs R).1 (rByte bs R).2 0), .int .i64 (upX bs (rByte bs R).1 (rByte bs R).2 1), .int .i64 (upX bs (rByte bs R).1 (rByte bs R).2 2), .int .i64 (upX bs (rByte bs R).1 (rByte bs R).2 3), .int .i64 (upX bs (rByte bs R).1 (rByte bs R).2 4), .int .i64 (upX bs (rByte bs R).1 (rByte bs R).2 5), .int .u16 (0)]) (by rw [hX_])
    replace hs := hs.reorder (.c (.s .z) (.c .z .n))
    exact ⟨hs.sub (.c rfl (.c rfl (.c rfl (.c rfl (.c rfl .n))))), (upS_le (m := (rByte bs R).1) (R := (rByte bs R).2) (bs := bs) (by omega) 6).1⟩
   replace hc137 := ne_of_beq_f hc137
   have hz_ := upBit_t (m := (rByte bs R).1) (i := 5) (by assumption)
   refine wp_skip ?_
   refine then_n (hK134 _ _ ?_)
   refine wp_seq_k fun K138 hK139 => ?_
   refine wp_region_lit ?_
   refine st_run 2 [(29, .pointer (some ⟨g, 0, none⟩)), (28, .pointer (some ⟨h, 7, none⟩))] hs .n (by kernel_rfl) (by kernel_rfl) (by kernel_rfl) ?_; clear hs a; intro a hs
   refine st_call hs (.c rfl .n) Tryz.call72 (.c .z .n) (rint_ok  g _ _ bs (((upS bs (rByte bs R).1 (rByte bs R).2 5))) _ (hs.mem.rd1 hb (.c .z .n)) (hs.mem.del .z) (by omega)) rfl ?_; clear hs w a; rintro _ _ a w ⟨rfl, rfl⟩ hs; simp only [List.cons_append, List.nil_append] at hs
   have hk140 := rInt_le (bs := bs) (R := ((upS bs (rByte bs R).1 (rByte bs R).2 5))) (by omega)
   refine st_nc hs rfl rfl ?_; clear hs w a; intro a w hs
   refine st_stB hs rfl rfl (.s .z) (.s (.s (.s (.s (.s (.s (.s .z))))))) rfl Tryz.sizeOf2 ?_; clear hs w a; intro a w hs
   refine wpList_nil ?_
   refine then_n (hK139 _ _ ?_)
   refine wp_seq_k fun K141 hK142 => ?_
   refine wp_region_lit ?_
   refine st_run 4 [(35, .bool (((rInt bs (((upS bs (rByte bs R).1 (rByte bs R).2 5)))).1 : Int) == 0)), (34, .int .i64 ((rInt bs (((upS bs (rByte bs R).1 (rByte bs R).2 5)))).1)), (33, .pointer (some ⟨h, 7, none⟩)), (32, .pointer (some ⟨h, 7, none⟩))] hs (.c (hs.mem.del .z) .n) (by kernel_rfl) (by kernel_rfl) (by kernel_rfl) ?_; clear hs a; intro a hs
   refine wpList_nil ?_
   refine then_n (hK142 _ _ ?_)
   refine wp_if hs rfl (fun hc143 => ?_) (fun hc143 => ?_)
   ·
    replace hc143 := eq_of_beq hc143
    refine wp_region_lit ?_
    refine st_mv hs rfl rfl ?_; clear hs w a; intro a w hs
    refine st_call hs (.c rfl (.c rfl .n)) Tryz.call74 (.c (.s .z) .n) (rfail_ok 7 g _ _ bs (((rInt bs (((upS bs (rByte bs R).1 (rByte bs R).2 5)))).2)) _ (hs.mem.rd1 hb (.c (.s .z) .n)) (hs.mem.del (.s .z)) (by omega)) rfl ?_; clear hs w a; rintro _ _ a w ⟨rfl, rfl⟩ hs; simp only [List.cons_append, List.nil_append] at hs
    have hk144 := rFail_le (e := 7) (bs := bs) (R := ((rInt bs (((upS bs (rByte bs R).1 (rByte bs R).2 5)))).2)) (by omega)
    refine wpList_nil ?_
    refine in_n ?_
    refine then_n (hK130 _ _ ?_)
    refine wp_region_lit ?_
    refine st_run 2 [(19, .int .i64 (6)), (38, .int .i64 (6))] hs .n (by kernel_rfl) (by kernel_rfl) (by kernel_rfl) ?_; clear hs a; intro a hs
    refine wpList_nil ?_
    refine then_n ?_
    have hS_ : upS bs (rByte bs R).1 (rByte bs R).2 6 = ((rFail 7 (((rInt bs (((upS bs (rByte bs R).1 (rByte bs R).2 5)))).2)))) := upSZ hz_ (by assumption)
    have hX_ : upX bs (rByte bs R).1 (rByte bs R).2 5 = (rInt bs (((upS bs (rByte bs R).1 (rByte bs R).2 5)))).1 := upX_t hz_
    replace hs := hs.reblk .z (cs' := [v, .int .i64 ((((upS bs (rByte bs R).1 (rByte bs R).2 6).p : Nat) : Int)), .int .i64 ((((upS bs (rByte bs R).1 (rByte bs R).2 6).e : Nat) : Int))]) (by rw [hS_])
    replace hs := hs.reblk (.s .z) (cs' := [.int .i64 (k), .int .i64 (id), .int .i64 (upX bs (rByte bs R).1 (rByte bs R).2 0), .int .i64 (upX bs (rByte bs R).1 (rByte bs R).2 1), .int .i64 (upX bs (rByte bs R).1 (rByte bs R).2 2), .int .i64 (upX bs (rByte bs R).1 (rByte bs R).2 3), .int .i64 (upX bs (rByte bs R).1 (rByte bs R).2 4), .int .i64 (upX bs (rByte bs R).1 (rByte bs R).2 5), .int .u16 (0)]) (by rw [hX_])
    replace hs := hs.reorder (.c (.s .z) (.c .z .n))
    exact ⟨hs.sub (.c rfl (.c rfl (.c rfl (.c rfl (.c rfl .n))))), (upS_le (m := (rByte bs R).1) (R := (rByte bs R).2) (bs := bs) (by omega) 6).1⟩
   replace hc143 := ne_of_beq_f hc143
   refine wp_skip ?_
   refine in_n ?_
   refine then_n (hK130 _ _ ?_)
   refine wp_region_lit ?_
   refine st_run 2 [(19, .int .i64 (6)), (38, .int .i64 (6))] hs .n (by kernel_rfl) (by kernel_rfl) (by kernel_rfl) ?_; clear hs a; intro a hs
   refine wpList_nil ?_
   refine then_n ?_
   have hS_ : upS bs (rByte bs R).1 (rByte bs R).2 6 = ((rInt bs (((upS bs (rByte bs R).1 (rByte bs R).2 5)))).2) := upSN hz_ (by assumption)
   have hX_ : upX bs (rByte bs R).1 (rByte bs R).2 5 = (rInt bs (((upS bs (rByte bs R).1 (rByte bs R).2 5)))).1 := upX_t hz_
   replace hs := hs.reblk (.s .z) (cs' := [v, .int .i64 ((((upS bs (rByte bs R).1 (rByte bs R).2 6).p : Nat) : Int)), .int .i64 ((((upS bs (rByte bs R).1 (rByte bs R).2 6).e : Nat) : Int))]) (by rw [hS_])
   replace hs := hs.reblk (.s .z) (cs' := [.int .i64 (k), .int .i64 (id), .int .i64 (upX bs (rByte bs R).1 (rByte bs R).2 0), .int .i64 (upX bs (rByte bs R).1 (rByte bs R).2 1), .int .i64 (upX bs (rByte bs R).1 (rByte bs R).2 2), .int .i64 (upX bs (rByte bs R).1 (rByte bs R).2 3), .int .i64 (upX bs (rByte bs R).1 (rByte bs R).2 4), .int .i64 (upX bs (rByte bs R).1 (rByte bs R).2 5), .int .u16 (0)]) (by rw [hX_])
   replace hs := hs.reorder (.c (.s .z) (.c .z .n))
   exact ⟨hs.sub (.c rfl (.c rfl (.c rfl (.c rfl (.c rfl .n))))), (upS_le (m := (rByte bs R).1) (R := (rByte bs R).2) (bs := bs) (by omega) 6).1⟩
  clear hs w a; rintro a w ⟨hs, hJ145⟩
  refine then_n ?_
  refine rounds_in ?_
  refine wp_seq_k fun K146 hK147 => ?_
  refine wp_region_lit ?_
  refine st_lss hs rfl rfl rfl ?_; clear hs w a; intro a w hs
  rw [show (decide ((6 : Int) < 6)) = false from by decide] at hs
  refine wpList_nil ?_
  refine then_n (hK147 _ _ ?_)
  refine wp_seq_k fun K148 hK149 => ?_
  refine wp_cond_false (hs.ev rfl) ?_
  refine wp_exit ?_
  refine th_e ?_
  refine th_e ?_
  refine in_hit ?_
  refine then_n (hK17 _ _ ?_)
  refine wp_seq_k fun K150 hK151 => ?_
  refine wp_region_lit ?_
  refine st_mv hs rfl rfl ?_; clear hs w a; intro a w hs
  refine st_and_u8 (X := (rByte bs R).1) (Y := 64#8) hs rfl rfl rfl (by decide) rfl ?_; clear hs w a; intro a w hs
  refine st_neq hs rfl rfl rfl ?_; clear hs w a; intro a w hs
  have hua := rUint_le (X := 65535#64) (bs := bs) (R := (upS bs (rByte bs R).1 (rByte bs R).2 6)) (by omega)
  refine wpList_nil ?_
  refine then_n (hK151 _ _ ?_)
  refine wp_if hs rfl (fun hc152 => ?_) (fun hc152 => ?_)
  ·
   replace hc152 := not_t hc152
   replace hc152 := ne_of_beq_f hc152
   have hz6 := upBit6_t (by assumption)
   refine wp_seq_k fun K153 hK154 => ?_
   refine wp_region_lit ?_
   refine st_run 2 [(43, .pointer (some ⟨g, 0, none⟩)), (42, .pointer (some ⟨h, 0, none⟩))] hs .n (by kernel_rfl) (by kernel_rfl) (by kernel_rfl) ?_; clear hs a; intro a hs
   refine st_call hs (.c rfl (.c rfl .n)) Tryz.call71 (.c .z .n) (ruint_ok (65535#64) g _ _ bs (((upS bs (rByte bs R).1 (rByte bs R).2 6))) _ (hs.mem.rd1 hb (.c .z .n)) (hs.mem.del .z) (by omega)) rfl ?_; clear hs w a; rintro _ _ a w ⟨rfl, rfl⟩ hs; simp only [List.cons_append, List.nil_append] at hs
   have hk155 := rUint_le (X := 65535#64) (bs := bs) (R := ((upS bs (rByte bs R).1 (rByte bs R).2 6))) (by omega)
   refine st_cv_u64_u16 (X := (rUint bs (65535#64) (((upS bs (rByte bs R).1 (rByte bs R).2 6)))).1) hs rfl rfl Tryz.underlying129 Tryz.underlying70 rfl ?_; clear hs w a; intro a w hs
   refine st_run 2 [(47, .pointer (some ⟨h, 8, none⟩))] hs .n (by kernel_rfl) (by kernel_rfl) (by kernel_rfl) ?_; clear hs a; intro a hs
   refine st_stB hs rfl rfl (.s .z) (.s (.s (.s (.s (.s (.s (.s (.s .z)))))))) rfl Tryz.sizeOf70 ?_; clear hs w a; intro a w hs
   refine wpList_nil ?_
   refine then_n (hK154 _ _ ?_)
   refine wp_seq_k fun K156 hK157 => ?_
   refine wp_region_lit ?_
   refine st_run 5 [(52, .bool (((((((rUint bs (65535#64) (((upS bs (rByte bs R).1 (rByte bs R).2 6)))).1).setWidth 16).toNat : Nat) : Int) : Int) == 0))] hs (.c (hs.mem.del .z) .n) (by kernel_rfl) (by kernel_rfl) (by kernel_rfl) ?_; clear hs a; intro a hs
   have hsw := sw16 (X := (rUint bs 65535#64 (upS bs (rByte bs R).1 (rByte bs R).2 6)).1) (by have : (65535#64).toNat = 65535 := rfl; omega)
   refine wpList_nil ?_
   refine then_n (hK157 _ _ ?_)
   refine wp_if hs rfl (fun hc158 => ?_) (fun hc158 => ?_)
   ·
    replace hc158 := eq_of_beq hc158
    refine wp_region_lit ?_
    refine st_mv hs rfl rfl ?_; clear hs w a; intro a w hs
    refine st_call hs (.c rfl (.c rfl .n)) Tryz.call74 (.c (.s .z) .n) (rfail_ok 7 g _ _ bs (((rUint bs (65535#64) (((upS bs (rByte bs R).1 (rByte bs R).2 6)))).2)) _ (hs.mem.rd1 hb (.c (.s .z) .n)) (hs.mem.del (.s .z)) (by omega)) rfl ?_; clear hs w a; rintro _ _ a w ⟨rfl, rfl⟩ hs; simp only [List.cons_append, List.nil_append] at hs
    have hk159 := rFail_le (e := 7) (bs := bs) (R := ((rUint bs (65535#64) (((upS bs (rByte bs R).1 (rByte bs R).2 6)))).2)) (by omega)
    refine wpList_nil ?_
    exact fin0 hs rfl (by rw [rdSome_ok (by omega) (by first | exact upA_f hz6 | exact upA_z hz6 (by omega) | exact upA_n hz6 (by omega))]; exact ⟨rfl, rfl⟩)
   replace hc158 := ne_of_beq_f hc158
   refine wp_skip ?_
   replace hs := hs.reorder (.c (.s .z) (.c .z .n))
   exact fin0 hs rfl (by rw [rdSome_ok (by omega) (by first | exact upA_f hz6 | exact upA_z hz6 (by omega) | exact upA_n hz6 (by omega))]; exact ⟨rfl, rfl⟩)
  replace hc152 := not_f hc152
  replace hc152 := eq_of_beq hc152
  have hz6 := upBit6_f (by assumption)
  refine wp_skip ?_
  exact fin0 hs rfl (by rw [rdSome_ok (by omega) (by first | exact upA_f hz6 | exact upA_z hz6 (by omega) | exact upA_n hz6 (by omega))]; exact ⟨rfl, rfl⟩)
theorem kinds2_ok (x y : Value) (w0 : World) : Calls Tryz.prog 138 #[x, y] w0 (RetV w0 (.tuple #[])) := by
  refine enter (F0 := [(0, x), (1, y)]) Tryz.func138 rfl rfl rfl (.c (.c .n)) (Mem.nil _) fun a w hs => ?_
  refine wp_skip ?_
  exact fin0 hs rfl ⟨rfl, rfl⟩
theorem read_ok (g : Nat) (v : Value) (m : Nat) (bs : List Byte) (R : Rs) (last : Int) (w0 : World) (hb : Rd w0 [g] v 1 m (bytesV bs)) (hg : (blk g [v, .int .i64 (((R).p : Nat) : Int), .int .i64 (((R).e : Nat) : Int)] 127).p w0) (hle : R.p ≤ bs.length) (hl : -9223372036854775808 ≤ last ∧ last ≤ 9223372036854775807) : Calls Tryz.prog 75 #[.pointer (some ⟨g, 0, none⟩), .int .i64 last] w0 (Ret w0 [g] fun u N => u = Value.tuple #[.agg #[.int .i64 (((rdRec bs last R).1).k), .int .i64 (((rdRec bs last R).1).id), .int .i64 (((rdRec bs last R).1).p0), .int .i64 (((rdRec bs last R).1).p1), .int .i64 (((rdRec bs last R).1).p2), .int .i64 (((rdRec bs last R).1).v0), .int .i64 (((rdRec bs last R).1).v1), .int .i64 (((rdRec bs last R).1).v2), .int .u16 ((((((rdRec bs last R).1).a).toNat : Nat) : Int))], .int .i64 (((rdRec bs last R).2.1 : Nat) : Int)] ∧ N = [blk g [v, .int .i64 ((((rdRec bs last R).2.2).p : Nat) : Int), .int .i64 ((((rdRec bs last R).2.2).e : Nat) : Int)] 127]) := by
  have hbl : bs.length = m := by have := hb.len; simpa [bytesV] using this
  have hbe : m ≤ maxLen := hb.le
  simp only [maxLen] at hbe
  refine enter (F0 := [(0, .pointer (some ⟨g, 0, none⟩)), (1, .int .i64 (last))]) Tryz.func75 rfl rfl rfl (.c (.c .n)) (mem_one hg) fun a w hs => ?_
  refine wp_seq_k fun K1 hK2 => ?_
  refine wp_region_lit ?_
  refine st_alloc (cs := [.int .i64 (0), .int .i64 (0), .int .i64 (0), .int .i64 (0), .int .i64 (0), .int .i64 (0), .int .i64 (0), .int .i64 (0), .int .u16 (0)]) hs Tryz.zeroValue78 rfl rfl ?_; clear hs w a; intro g3 a w hs
  refine st_as hs rfl rfl ?_; clear hs w a; intro a w hs
  refine wpList_nil ?_
  refine then_n (hK2 _ _ ?_)
  refine wp_seq_k fun K4 hK5 => ?_
  refine wp_block ?_
  refine wp_seq_k fun K6 hK7 => ?_
  refine wp_region_lit ?_
  refine st_mv hs rfl rfl ?_; clear hs w a; intro a w hs
  refine st_eqnil hs rfl rfl Tryz.underlying95 rfl ?_; clear hs w a; intro a w hs
  refine st_as hs rfl rfl ?_; clear hs w a; intro a w hs
  refine wpList_nil ?_
  refine then_n (hK7 _ _ ?_)
  refine wp_cond_false (hs.ev rfl) ?_
  refine wp_seq_k fun K8 hK9 => ?_
  refine wp_region_lit ?_
  refine st_run 3 [(16, .bool (decide (last < (-1))))] hs .n (by kernel_rfl) (by kernel_rfl) (by kernel_rfl) ?_; clear hs a; intro a hs
  refine st_part (b := decide (last < (-1))) (fun hc10 => ?_) (fun hc10 => ?_)
  ·
   rw [hc10] at hs
   replace hc10 := of_decide_eq_true hc10
   refine st_run 4 [(13, .bool (true))] hs .n (by kernel_rfl) (by kernel_rfl) (by kernel_rfl) ?_; clear hs a; intro a hs
   refine wpList_nil ?_
   refine then_n (hK9 _ _ ?_)
   refine wp_cond_true (hs.ev rfl) ?_
   refine wp_seq_k fun K11 hK12 => ?_
   refine wp_region_lit ?_
   refine st_build (it := Tryz.t78) (zs := [.int .i64 (0), .int .i64 (0), .int .i64 (0), .int .i64 (0), .int .i64 (0), .int .i64 (0), .int .i64 (0), .int .i64 (0), .int .u16 (0)]) (places := [(0, 1), (1, 1), (2, 3), (5, 3), (8, 1)]) hs .n Tryz.underlying78 rfl rfl rfl rfl .n rfl ?_; clear hs w a; intro a w hs
   refine st_stBA hs rfl rfl .z (.z (.c (.c (.c (.c (.c (.c (.c (.c (.c .n)))))))))) (ones_c rfl (ones_c rfl (ones_c rfl (ones_c rfl (ones_c rfl (ones_c rfl (ones_c rfl (ones_c rfl (ones_c rfl ones_n))))))))) Tryz.sizeOf78 rfl ?_; clear hs w a; intro a w hs
   refine st_as hs rfl rfl ?_; clear hs w a; intro a w hs
   refine wpList_nil ?_
   refine then_n (hK12 _ _ ?_)
   refine wp_ret ?_
   refine in_r ?_
   refine th_r ?_
   have hq_ : rdRec bs last R = (recZ, 3, R) := by first | exact rdRec_rng (by omega) | exact rdRec_end (by omega) | exact rdRec_bad (by omega) (by omega) hraw (by omega) | exact rdRec_ok (by omega) (by omega) hraw (by omega)
   exact finC2 hs rfl rfl rfl .z (.z (.c (.c (.c (.c (.c (.c (.c (.c (.c .n)))))))))) Tryz.isAgg78 Tryz.sizeOf78 (.c .z .n) (by rw [hq_]; exact ⟨rfl, rfl⟩)
  rw [hc10] at hs
  replace hc10 := of_decide_eq_false hc10
  refine st_run 4 [(13, .bool (decide (65535 < last)))] hs .n (by kernel_rfl) (by kernel_rfl) (by kernel_rfl) ?_; clear hs a; intro a hs
  refine wpList_nil ?_
  refine then_n (hK9 _ _ ?_)
  refine wp_if hs rfl (fun hc13 => ?_) (fun hc13 => ?_)
  ·
   replace hc13 := of_decide_eq_true hc13
   refine wp_seq_k fun K14 hK15 => ?_
   refine wp_region_lit ?_
   refine st_build (it := Tryz.t78) (zs := [.int .i64 (0), .int .i64 (0), .int .i64 (0), .int .i64 (0), .int .i64 (0), .int .i64 (0), .int .i64 (0), .int .i64 (0), .int .u16 (0)]) (places := [(0, 1), (1, 1), (2, 3), (5, 3), (8, 1)]) hs .n Tryz.underlying78 rfl rfl rfl rfl .n rfl ?_; clear hs w a; intro a w hs
   refine st_stBA hs rfl rfl .z (.z (.c (.c (.c (.c (.c (.c (.c (.c (.c .n)))))))))) (ones_c rfl (ones_c rfl (ones_c rfl (ones_c rfl (ones_c rfl (ones_c rfl (ones_c rfl (ones_c rfl (ones_c rfl ones_n))))))))) Tryz.sizeOf78 rfl ?_; clear hs w a; intro a w hs
   refine st_as hs rfl rfl ?_; clear hs w a; intro a w hs
   refine wpList_nil ?_
   refine then_n (hK15 _ _ ?_)
   refine wp_ret ?_
   refine in_r ?_
   refine th_r ?_
   have hq_ : rdRec bs last R = (recZ, 3, R) := by first | exact rdRec_rng (by omega) | exact rdRec_end (by omega) | exact rdRec_bad (by omega) (by omega) hraw (by omega) | exact rdRec_ok (by omega) (by omega) hraw (by omega)
   exact finC2 hs rfl rfl rfl .z (.z (.c (.c (.c (.c (.c (.c (.c (.c (.c .n)))))))))) Tryz.isAgg78 Tryz.sizeOf78 (.c .z .n) (by rw [hq_]; exact ⟨rfl, rfl⟩)
  replace hc13 := of_decide_eq_false hc13
  refine wp_seq_k fun K16 hK17 => ?_
  refine wp_region_lit ?_
  refine st_run 3 [(21, .bool ((last : Int) == 65535))] hs .n (by kernel_rfl) (by kernel_rfl) (by kernel_rfl) ?_; clear hs a; intro a hs
  refine wpList_nil ?_
  refine then_n (hK17 _ _ ?_)
  refine wp_if hs rfl (fun hc18 => ?_) (fun hc18 => ?_)
  ·
   replace hc18 := eq_of_beq hc18
   refine wp_seq_k fun K19 hK20 => ?_
   refine wp_region_lit ?_
   refine st_mv hs rfl rfl ?_; clear hs w a; intro a w hs
   refine st_call hs (.c rfl (.c rfl .n)) Tryz.call74 (.c (.s .z) .n) (rfail_ok 10 g _ _ bs R _ (hs.mem.rd1 hb (.c (.s .z) .n)) (hs.mem.del (.s .z)) (by omega)) rfl ?_; clear hs w a; rintro _ _ a w ⟨rfl, rfl⟩ hs; simp only [List.cons_append, List.nil_append] at hs
   have hk21 := rFail_le (e := 10) (bs := bs) (R := R) (by omega)
   refine wpList_nil ?_
   refine then_n (hK20 _ _ ?_)
   refine wp_seq_k fun K22 hK23 => ?_
   refine wp_region_lit ?_
   refine st_build (it := Tryz.t78) (zs := [.int .i64 (0), .int .i64 (0), .int .i64 (0), .int .i64 (0), .int .i64 (0), .int .i64 (0), .int .i64 (0), .int .i64 (0), .int .u16 (0)]) (places := [(0, 1), (1, 1), (2, 3), (5, 3), (8, 1)]) hs .n Tryz.underlying78 rfl rfl rfl rfl .n rfl ?_; clear hs w a; intro a w hs
   refine st_mv hs rfl rfl ?_; clear hs w a; intro a w hs
   refine st_callP (v := .int .i64 ((((rFail 10 R).e : Nat) : Int))) hs (.c rfl .n) Tryz.call76 (rerr_ok g _ _ bs (rFail 10 R) _ (hs.rd0 hb) (hs.mem.del .z) (by omega)) rfl ?_; clear hs w a; intro a w hs
   refine st_stBA hs rfl rfl (.s .z) (.z (.c (.c (.c (.c (.c (.c (.c (.c (.c .n)))))))))) (ones_c rfl (ones_c rfl (ones_c rfl (ones_c rfl (ones_c rfl (ones_c rfl (ones_c rfl (ones_c rfl (ones_c rfl ones_n))))))))) Tryz.sizeOf78 rfl ?_; clear hs w a; intro a w hs
   refine st_as hs rfl rfl ?_; clear hs w a; intro a w hs
   refine wpList_nil ?_
   refine then_n (hK23 _ _ ?_)
   refine wp_ret ?_
   refine in_r ?_
   refine th_r ?_
   have hq_ : rdRec bs last R = (recZ, (rFail 10 R).e, (rFail 10 R)) := by first | exact rdRec_rng (by omega) | exact rdRec_end (by omega) | exact rdRec_bad (by omega) (by omega) hraw (by omega) | exact rdRec_ok (by omega) (by omega) hraw (by omega)
   exact finC2 hs rfl rfl rfl .z (.z (.c (.c (.c (.c (.c (.c (.c (.c (.c .n)))))))))) Tryz.isAgg78 Tryz.sizeOf78 (.c .z .n) (by rw [hq_]; exact ⟨rfl, rfl⟩)
  replace hc18 := ne_of_beq_f hc18
  refine wp_skip ?_
  refine in_n ?_
  refine then_n (hK5 _ _ ?_)
  refine wp_seq_k fun K24 hK25 => ?_
  refine wp_region_lit ?_
  refine st_mv hs rfl rfl ?_; clear hs w a; intro a w hs
  refine st_addR hs rfl rfl (by omega) rfl ?_; clear hs w a; intro a w hs
  refine st_build (it := Tryz.t78) (zs := [.int .i64 (0), .int .i64 (0), .int .i64 (0), .int .i64 (0), .int .i64 (0), .int .i64 (0), .int .i64 (0), .int .i64 (0), .int .u16 (0)]) (places := [(0, 1), (1, 1), (2, 3), (5, 3), (8, 1)]) hs (.c rfl .n) Tryz.underlying78 rfl rfl rfl rfl (.c rfl rfl (.s (.z (.c .n))) .n) rfl ?_; clear hs w a; intro a w hs
  refine st_alloc (cs := [.int .i64 (0), .int .i64 (0), .int .i64 (0), .int .i64 (0), .int .i64 (0), .int .i64 (0), .int .i64 (0), .int .i64 (0), .int .u16 (0)]) hs Tryz.zeroValue78 rfl rfl ?_; clear hs w a; intro g26 a w hs
  refine st_stBA hs rfl rfl .z (.z (.c (.c (.c (.c (.c (.c (.c (.c (.c .n)))))))))) (ones_c rfl (ones_c rfl (ones_c rfl (ones_c rfl (ones_c rfl (ones_c rfl (ones_c rfl (ones_c rfl (ones_c rfl ones_n))))))))) Tryz.sizeOf78 rfl ?_; clear hs w a; intro a w hs
  refine wpList_nil ?_
  refine then_n (hK25 _ _ ?_)
  refine wp_seq_k fun K27 hK28 => ?_
  replace hs := hs.sub (F' := [(6, .pointer (some ⟨g26, 0, none⟩)), (5, .int .i64 (0)), (4, .pointer (some ⟨g3, 0, none⟩)), (0, .pointer (some ⟨g, 0, none⟩))]) (.c rfl (.c rfl (.c rfl (.c rfl .n))))
  have hk30 := rUint_le (X := BitVec.ofInt 64 (65534 - last)) (bs := bs) (R := R) (by omega)
  refine wp_drawG (M0 := [blk g3 [.int .i64 (0), .int .i64 (0), .int .i64 (0), .int .i64 (0), .int .i64 (0), .int .i64 (0), .int .i64 (0), .int .i64 (0), .int .u16 (0)] 78]) (Ds := [Pv 0 (.pointer (some ⟨g26, 1, none⟩)), Pv 1 (.int .i64 (last + 1)), Pv 2 (.pointer (some ⟨g, 0, none⟩)), Pv 3 (.pointer (some ⟨g26, 1, none⟩)), Pv 4 (.int .i64 (last + 1)), Pv 5 (.int .i64 (65534 - last)), Pv 6 (.int .u64 ((((BitVec.ofInt 64 (65534 - last)).toNat : Nat) : Int))), ⟨[blk g [v, .int .i64 (((R.p : Nat) : Int)), .int .i64 (((R.e : Nat) : Int))] 127], [], [], fun vs29 => vs29 7 = .int .u64 (((((rUint bs (BitVec.ofInt 64 (65534 - last)) R).1).toNat : Nat) : Int)), fun vs29 => [blk g [v, .int .i64 (((((rUint bs (BitVec.ofInt 64 (65534 - last)) R).2).p : Nat) : Int)), .int .i64 (((((rUint bs (BitVec.ofInt 64 (65534 - last)) R).2).e : Nat) : Int))] 127], none⟩, Pv 8 (.int .i64 ((((rUint bs (BitVec.ofInt 64 (65534 - last)) R).1.toNat : Nat) : Int))), Pv 9 (.int .i64 ((last + 1) + ((((rUint bs (BitVec.ofInt 64 (65534 - last)) R).1.toNat : Nat) : Int)))), Pv 10 (.pointer (some ⟨g26, 1, none⟩)), ⟨[blk g26 [.int .i64 (0), .int .i64 (last + 1), .int .i64 (0), .int .i64 (0), .int .i64 (0), .int .i64 (0), .int .i64 (0), .int .i64 (0), .int .u16 (0)] 78], [], [], fun vs29 => True, fun vs29 => [blk g26 [.int .i64 (0), .int .i64 ((last + 1) + ((((rUint bs (BitVec.ofInt 64 (65534 - last)) R).1.toNat : Nat) : Int))), .int .i64 (0), .int .i64 (0), .int .i64 (0), .int .i64 (0), .int .i64 (0), .int .i64 (0), .int .u16 (0)] 78], none⟩]) (by kernel_rfl) hs rfl (.c (.s (.s .z)) (.c .z .n)) (by kernel_rfl) (by kernel_rfl) (by kernel_rfl) ?_ ?_
  ·
   refine (.c ?_ (.c ?_ (.c ?_ (.c ?_ (.c ?_ (.c ?_ (.c ?_ (.c ?_ (.c ?_ (.c ?_ (.c ?_ (.c ?_ .n))))))))))))
   · exact trip_pv (m := 12) .n (fun hm0 hm hx => .n) (by kernel_rfl) (by kernel_rfl) rfl
   · exact trip_pv (m := 12) (.c (k := 0) (by kernel_rfl) rfl rfl .n) (fun hm0 hm hx => (.c (hm.own (List.mem_append.2 (.inr ((hx 11 (twB_spec 12 _ (by kernel_rfl))).1 _ (List.Mem.head _))))))) (by kernel_rfl) (by kernel_rfl) rfl
   · exact trip_pv (m := 12) .n (fun hm0 hm hx => .n) (by kernel_rfl) (by kernel_rfl) rfl
   · exact trip_pv (m := 12) .n (fun hm0 hm hx => .n) (by kernel_rfl) (by kernel_rfl) rfl
   · exact trip_pv (m := 12) (.c (k := 3) (by kernel_rfl) rfl rfl .n) (fun hm0 hm hx => (.c (hm.own (List.mem_append.2 (.inr ((hx 11 (twB_spec 12 _ (by kernel_rfl))).1 _ (List.Mem.head _))))))) (by kernel_rfl) (by kernel_rfl) rfl
   ·
    intro a_ w_ R_ rest_ vs29 hm hs ht hx
    have hm0 := hm.mid
    replace hs := hs.lrn (ht 4 (twB_spec 12 _ (by kernel_rfl))) rfl rfl
    have hs0 := hs.bare
    refine st_subR hs rfl rfl (by omega) rfl ?_; clear hs; intro a w hs
    replace hs := hs.recell (v' := .int .i64 (65534 - last)) (Option.some.inj (congrArg (fun z => some (Value.int .i64 z)) (show 65535 - (last + 1) = 65534 - last by omega)))
    exact wpList_nil ⟨rfl, _, _, hs0, (.c .r), hs, rfl⟩
   ·
    intro a_ w_ R_ rest_ vs29 hm hs ht hx
    have hm0 := hm.mid
    replace hs := hs.lrn (ht 5 (twB_spec 12 _ (by kernel_rfl))) rfl rfl
    have hs0 := hs.bare
    refine st_cv_u64 hs rfl Tryz.underlying3 Tryz.underlying129 rfl ?_; clear hs; intro a w hs
    exact wpList_nil ⟨rfl, _, _, hs0, (.c .r), hs, rfl⟩
   ·
    intro a_ w_ R_ rest_ vs29 hm hs ht hx
    replace hs : St _ _ _ (feet [blk g [v, .int .i64 (((R.p : Nat) : Int)), .int .i64 (((R.e : Nat) : Int))] 127]) [blk g [v, .int .i64 (((R.p : Nat) : Int)), .int .i64 (((R.e : Nat) : Int))] 127] _ _ := hs
    have hm0 := hm.mid
    replace hs := hs.lrn (ht 2 (twB_spec 12 _ (by kernel_rfl))) rfl rfl
    replace hs := hs.lrn (ht 6 (twB_spec 12 _ (by kernel_rfl))) rfl rfl
    have hs0 := hs.bare
    refine st_call hs (.c rfl (.c rfl .n)) Tryz.call71 (.c .z .n) (ruint_ok (BitVec.ofInt 64 (65534 - last)) g _ _ bs R _ (hm.rd1 hb (Dels.app _ _)) (hs.mem.del .z) (by omega)) rfl ?_; clear hs; rintro _ _ a w ⟨rfl, rfl⟩ hs; simp only [List.cons_append, List.nil_append] at hs
    have hk30 := rUint_le (X := BitVec.ofInt 64 (65534 - last)) (bs := bs) (R := R) (by omega)
    exact wpList_nil ⟨rfl, _, _, hs0, (.c (.c .r)), hs, rfl⟩
   ·
    intro a_ w_ R_ rest_ vs29 hm hs ht hx
    have hm0 := hm.mid
    have t7 := ht 7 (twB_spec 12 _ (by kernel_rfl))
    have e7 : _ = some (vs29 7) := t7.val rfl
    rw [show vs29 7 = .int .u64 (((((rUint bs (BitVec.ofInt 64 (65534 - last)) R).1).toNat : Nat) : Int)) from t7.2.1] at e7
    replace hs := hs.learn e7
    have hs0 := hs.bare
    refine st_cv_u64_i64 (X := (rUint bs (BitVec.ofInt 64 (65534 - last)) R).1) hs rfl rfl Tryz.underlying129 Tryz.underlying3 rfl ?_; clear hs; intro a w hs
    replace hs := hs.recell (v' := .int .i64 ((((rUint bs (BitVec.ofInt 64 (65534 - last)) R).1.toNat : Nat) : Int))) (Option.some.inj (congrArg (fun z => some (Value.int .i64 z)) (toInt_id (bs := bs) (R := R) (by omega) (by omega) (by omega))))
    exact wpList_nil ⟨rfl, _, _, hs0, (.c .r), hs, rfl⟩
   ·
    intro a_ w_ R_ rest_ vs29 hm hs ht hx
    have hm0 := hm.mid
    replace hs := hs.lrn (ht 1 (twB_spec 12 _ (by kernel_rfl))) rfl rfl
    replace hs := hs.lrn (ht 8 (twB_spec 12 _ (by kernel_rfl))) rfl rfl
    have hs0 := hs.bare
    refine st_addR hs rfl rfl (by have := rId_le (bs := bs) (last := last) (R := R) (by omega) (by omega) (by omega); omega) rfl ?_; clear hs; intro a w hs
    exact wpList_nil ⟨rfl, _, _, hs0, (.c (.c .r)), hs, rfl⟩
   · exact trip_pv (m := 12) .n (fun hm0 hm hx => .n) (by kernel_rfl) (by kernel_rfl) rfl
   intro a_ w_ R_ rest_ vs29 hm hs ht hx
   replace hs : St _ _ _ (feet [blk g26 [.int .i64 (0), .int .i64 (last + 1), .int .i64 (0), .int .i64 (0), .int .i64 (0), .int .i64 (0), .int .i64 (0), .int .i64 (0), .int .u16 (0)] 78]) [blk g26 [.int .i64 (0), .int .i64 (last + 1), .int .i64 (0), .int .i64 (0), .int .i64 (0), .int .i64 (0), .int .i64 (0), .int .i64 (0), .int .u16 (0)] 78] _ _ := hs
   have hm0 := hm.mid
   replace hs := hs.lrn (ht 9 (twB_spec 12 _ (by kernel_rfl))) rfl rfl
   replace hs := hs.lrn (ht 10 (twB_spec 12 _ (by kernel_rfl))) rfl rfl
   have hs0 := hs.bare
   refine st_stB hs rfl rfl .z (.s .z) rfl Tryz.sizeOf3 ?_; clear hs; intro a w hs
   exact wpList_nil ⟨rfl, .tuple #[], _, hs0, (.c (.c .r)), hs, trivial⟩
  clear hs w a; intro a w vs29 hs hf
  replace hs : St _ _ _ _ [blk g3 [.int .i64 (0), .int .i64 (0), .int .i64 (0), .int .i64 (0), .int .i64 (0), .int .i64 (0), .int .i64 (0), .int .i64 (0), .int .u16 (0)] 78, blk g [v, .int .i64 (((((rUint bs (BitVec.ofInt 64 (65534 - last)) R).2).p : Nat) : Int)), .int .i64 (((((rUint bs (BitVec.ofInt 64 (65534 - last)) R).2).e : Nat) : Int))] 127, blk g26 [.int .i64 (0), .int .i64 ((last + 1) + ((((rUint bs (BitVec.ofInt 64 (65534 - last)) R).1.toNat : Nat) : Int))), .int .i64 (0), .int .i64 (0), .int .i64 (0), .int .i64 (0), .int .i64 (0), .int .i64 (0), .int .u16 (0)] 78] _ _ := hs
  clear hf
  refine then_n (hK28 _ _ ?_)
  refine wp_seq_k fun K31 hK32 => ?_
  refine wp_region_lit ?_
  refine st_mv hs rfl rfl ?_; clear hs w a; intro a w hs
  refine st_call hs (.c rfl .n) Tryz.call95 (.c (.s .z) .n) (rbyte_ok  g _ _ bs (((rUint bs (BitVec.ofInt 64 (65534 - last)) R).2)) _ (hs.mem.rd1 hb (.c (.s .z) .n)) (hs.mem.del (.s .z)) (by omega)) rfl ?_; clear hs w a; rintro _ _ a w ⟨rfl, rfl⟩ hs; simp only [List.cons_append, List.nil_append] at hs
  have hk33 := rByte_le (bs := bs) (R := ((rUint bs (BitVec.ofInt 64 (65534 - last)) R).2)) (by omega)
  refine st_cv_i64 hs rfl (bvr ((rByte bs (((rUint bs (BitVec.ofInt 64 (65534 - last)) R).2))).1)) Tryz.underlying5 Tryz.underlying3 rfl ?_; clear hs w a; intro a w hs
  refine st_fa hs rfl Tryz.underlying78 rfl Tryz.sizeOf3 (by decide) (o := 0) rfl rfl ?_; clear hs w a; intro a w hs
  refine st_stB hs rfl rfl (.s (.s .z)) .z rfl Tryz.sizeOf3 ?_; clear hs w a; intro a w hs
  refine wpList_nil ?_
  refine then_n (hK32 _ _ ?_)
  refine wp_seq_k fun K34 hK35 => ?_
  refine wp_seq_k fun K36 hK37 => ?_
  refine wp_region_lit ?_
  refine st_callP (v := .agg #[.func (.func 139) #[] #[], .func (.func 140) #[] #[], .func (.func 141) #[] #[], .func (.func 142) #[] #[], .func (.func 137) #[] #[], .func (.func 138) #[] #[], .func (.func 139) #[] #[], .func (.func 140) #[] #[]]) hs .n Tryz.call94 (kinds_ok _) rfl ?_; clear hs w a; intro a w hs
  refine st_alloc (cs := [.nilFunc, .nilFunc, .nilFunc, .nilFunc, .nilFunc, .nilFunc, .nilFunc, .nilFunc]) hs Tryz.zeroValue167 rfl rfl ?_; clear hs w a; intro g38 a w hs
  refine st_stBA hs rfl rfl .z (.z (.c (.c (.c (.c (.c (.c (.c (.c .n))))))))) (ones_c rfl (ones_c rfl (ones_c rfl (ones_c rfl (ones_c rfl (ones_c rfl (ones_c rfl (ones_c rfl ones_n)))))))) Tryz.sizeOf167 rfl ?_; clear hs w a; intro a w hs
  refine wpList_nil ?_
  refine then_n (hK37 _ _ ?_)
  refine wp_seq_k fun K39 hK40 => ?_
  refine wp_region_lit ?_
  refine st_run 3 [(50, .bool (decide ((((((rByte bs (((rUint bs (BitVec.ofInt 64 (65534 - last)) R).2))).1).toNat : Nat) : Int)) < 4)))] hs (.c (hs.mem.del (.s .z)) .n) (by kernel_rfl) (by kernel_rfl) (by kernel_rfl) ?_; clear hs a; intro a hs
  refine wpList_nil ?_
  refine then_n (hK40 _ _ ?_)
  refine Go.Sx.wp_cut (fun a w => ∃ rr : RecR, ∃ RR : Rs, St 67 [(0, .pointer (some ⟨g, 0, none⟩)), (4, .pointer (some ⟨g3, 0, none⟩)), (6, .pointer (some ⟨g26, 0, none⟩))] w0 [g] [blk g [v, .int .i64 (((RR.p : Nat) : Int)), .int .i64 (((RR.e : Nat) : Int))] 127, blk g26 [.int .i64 (rr.k), .int .i64 (rr.id), .int .i64 (rr.p0), .int .i64 (rr.p1), .int .i64 (rr.p2), .int .i64 (rr.v0), .int .i64 (rr.v1), .int .i64 (rr.v2), .int .u16 ((((rr.a).toNat : Nat) : Int))] 78, blk g3 [.int .i64 (0), .int .i64 (0), .int .i64 (0), .int .i64 (0), .int .i64 (0), .int .i64 (0), .int .i64 (0), .int .i64 (0), .int .u16 (0)] 78] a w ∧ rdRaw bs last R = (rr, RR) ∧ RR.p ≤ bs.length) ?_ ?_
  ·
   refine wp_if hs rfl (fun hc41 => ?_) (fun hc41 => ?_)
   ·
    replace hc41 := of_decide_eq_true hc41
    rcases (show (((rByte bs (rUint bs (BitVec.ofInt 64 (65534 - last)) R).2).1.toNat : Nat) : Int) = 0 ∨ (((rByte bs (rUint bs (BitVec.ofInt 64 (65534 - last)) R).2).1.toNat : Nat) : Int) = 1 ∨ (((rByte bs (rUint bs (BitVec.ofInt 64 (65534 - last)) R).2).1.toNat : Nat) : Int) = 2 ∨ (((rByte bs (rUint bs (BitVec.ofInt 64 (65534 - last)) R).2).1.toNat : Nat) : Int) = 3 from by omega) with hk42 | hk42 | hk42 | hk42
    ·
     refine wp_region_lit ?_
     refine st_run 2 [(52, .int .i64 (((((rByte bs (((rUint bs (BitVec.ofInt 64 (65534 - last)) R).2))).1).toNat : Nat) : Int)))] hs (.c (hs.mem.del (.s .z)) .n) (by kernel_rfl) (by kernel_rfl) (by kernel_rfl) ?_; clear hs a; intro a hs
     replace hs := hs.recell (v' := .int .i64 (0)) (Option.some.inj (congrArg (fun z => some (Value.int .i64 z)) hk42))
     refine st_run 4 [(56, .pointer (some ⟨g, 0, none⟩)), (55, .func (.func 140) #[] #[])] hs (.c (hs.mem.del .z) .n) (by kernel_rfl) (by kernel_rfl) (by kernel_rfl) ?_; clear hs a; intro a hs
     refine st_callV (us := []) hs rfl (.c rfl (.c rfl .n)) rfl Tryz.call140 (.c (.s (.s .z)) (.c (.s .z) .n)) (readAll_ok g g26 _ _ bs (((rByte bs (((rUint bs (BitVec.ofInt 64 (65534 - last)) R).2))).2)) (((((rByte bs (((rUint bs (BitVec.ofInt 64 (65534 - last)) R).2))).1).toNat : Nat) : Int)) ((last + 1) + ((((rUint bs (BitVec.ofInt 64 (65534 - last)) R).1.toNat : Nat) : Int))) _ (hs.mem.rd1 hb (.c (.s (.s .z)) (.c (.s .z) .n))) (hs.mem.del (.s (.s .z))) (hs.mem.del (.s .z)) (by omega)) rfl ?_; clear hs w a; rintro _ _ a w ⟨rfl, rfl⟩ hs; simp only [List.cons_append, List.nil_append] at hs
     have hk43 := rdAll_le (bs := bs) (k := ((((rByte bs (((rUint bs (BitVec.ofInt 64 (65534 - last)) R).2))).1).toNat : Nat) : Int)) (id := (last + 1) + ((((rUint bs (BitVec.ofInt 64 (65534 - last)) R).1.toNat : Nat) : Int))) (R := ((rByte bs (((rUint bs (BitVec.ofInt 64 (65534 - last)) R).2))).2)) (by omega)
     refine wpList_nil ?_
     refine then_n ?_
     replace hs := hs.drop (.c (.s (.s .z)) .n)
     exact ⟨((rdAll bs (((((rByte bs (((rUint bs (BitVec.ofInt 64 (65534 - last)) R).2))).1).toNat : Nat) : Int)) ((last + 1) + ((((rUint bs (BitVec.ofInt 64 (65534 - last)) R).1.toNat : Nat) : Int))) (((rByte bs (((rUint bs (BitVec.ofInt 64 (65534 - last)) R).2))).2))).1), ((rdAll bs (((((rByte bs (((rUint bs (BitVec.ofInt 64 (65534 - last)) R).2))).1).toNat : Nat) : Int)) ((last + 1) + ((((rUint bs (BitVec.ofInt 64 (65534 - last)) R).1.toNat : Nat) : Int))) (((rByte bs (((rUint bs (BitVec.ofInt 64 (65534 - last)) R).2))).2))).2), hs.sub (.c rfl (.c rfl (.c rfl .n))), pair_eq ((rdRaw_eq _ _ _).trans (rdBody_all (by omega))), by omega⟩
    ·
     refine wp_region_lit ?_
     refine st_run 2 [(52, .int .i64 (((((rByte bs (((rUint bs (BitVec.ofInt 64 (65534 - last)) R).2))).1).toNat : Nat) : Int)))] hs (.c (hs.mem.del (.s .z)) .n) (by kernel_rfl) (by kernel_rfl) (by kernel_rfl) ?_; clear hs a; intro a hs
     replace hs := hs.recell (v' := .int .i64 (1)) (Option.some.inj (congrArg (fun z => some (Value.int .i64 z)) hk42))
     refine st_run 4 [(56, .pointer (some ⟨g, 0, none⟩)), (55, .func (.func 142) #[] #[])] hs (.c (hs.mem.del .z) .n) (by kernel_rfl) (by kernel_rfl) (by kernel_rfl) ?_; clear hs a; intro a hs
     refine st_callV (us := []) hs rfl (.c rfl (.c rfl .n)) rfl Tryz.call142 (.c (.s (.s .z)) (.c (.s .z) .n)) (readSome_ok g g26 _ _ bs (((rByte bs (((rUint bs (BitVec.ofInt 64 (65534 - last)) R).2))).2)) (((((rByte bs (((rUint bs (BitVec.ofInt 64 (65534 - last)) R).2))).1).toNat : Nat) : Int)) ((last + 1) + ((((rUint bs (BitVec.ofInt 64 (65534 - last)) R).1.toNat : Nat) : Int))) _ (hs.mem.rd1 hb (.c (.s (.s .z)) (.c (.s .z) .n))) (hs.mem.del (.s (.s .z))) (hs.mem.del (.s .z)) (by omega)) rfl ?_; clear hs w a; rintro _ _ a w ⟨rfl, rfl⟩ hs; simp only [List.cons_append, List.nil_append] at hs
     have hk44 := rdSome_le (bs := bs) (k := ((((rByte bs (((rUint bs (BitVec.ofInt 64 (65534 - last)) R).2))).1).toNat : Nat) : Int)) (id := (last + 1) + ((((rUint bs (BitVec.ofInt 64 (65534 - last)) R).1.toNat : Nat) : Int))) (R := ((rByte bs (((rUint bs (BitVec.ofInt 64 (65534 - last)) R).2))).2)) (by omega)
     refine wpList_nil ?_
     refine then_n ?_
     replace hs := hs.drop (.c (.s (.s .z)) .n)
     exact ⟨((rdSome bs (((((rByte bs (((rUint bs (BitVec.ofInt 64 (65534 - last)) R).2))).1).toNat : Nat) : Int)) ((last + 1) + ((((rUint bs (BitVec.ofInt 64 (65534 - last)) R).1.toNat : Nat) : Int))) (((rByte bs (((rUint bs (BitVec.ofInt 64 (65534 - last)) R).2))).2))).1), ((rdSome bs (((((rByte bs (((rUint bs (BitVec.ofInt 64 (65534 - last)) R).2))).1).toNat : Nat) : Int)) ((last + 1) + ((((rUint bs (BitVec.ofInt 64 (65534 - last)) R).1.toNat : Nat) : Int))) (((rByte bs (((rUint bs (BitVec.ofInt 64 (65534 - last)) R).2))).2))).2), hs.sub (.c rfl (.c rfl (.c rfl .n))), pair_eq ((rdRaw_eq _ _ _).trans (rdBody_some (by omega))), by omega⟩
    ·
     refine wp_region_lit ?_
     refine st_run 2 [(52, .int .i64 (((((rByte bs (((rUint bs (BitVec.ofInt 64 (65534 - last)) R).2))).1).toNat : Nat) : Int)))] hs (.c (hs.mem.del (.s .z)) .n) (by kernel_rfl) (by kernel_rfl) (by kernel_rfl) ?_; clear hs a; intro a hs
     replace hs := hs.recell (v' := .int .i64 (2)) (Option.some.inj (congrArg (fun z => some (Value.int .i64 z)) hk42))
     refine st_run 4 [(56, .pointer (some ⟨g, 0, none⟩)), (55, .func (.func 138) #[] #[])] hs (.c (hs.mem.del .z) .n) (by kernel_rfl) (by kernel_rfl) (by kernel_rfl) ?_; clear hs a; intro a hs
     refine st_callPV (us := []) (v := .tuple #[]) hs rfl (.c rfl (.c rfl .n)) rfl Tryz.call138 (kinds2_ok _ _ _) rfl ?_; clear hs w a; intro a w hs
     refine wpList_nil ?_
     refine then_n ?_
     replace hs := hs.drop (.c .z .n)
     replace hs := hs.reorder (.c (.s .z) (.c .z (.c .z .n)))
     exact ⟨(⟨((((rByte bs (((rUint bs (BitVec.ofInt 64 (65534 - last)) R).2))).1).toNat : Nat) : Int), (last + 1) + ((((rUint bs (BitVec.ofInt 64 (65534 - last)) R).1.toNat : Nat) : Int)), 0, 0, 0, 0, 0, 0, 0#16⟩ : RecR), ((rByte bs (((rUint bs (BitVec.ofInt 64 (65534 - last)) R).2))).2), hs.sub (.c rfl (.c rfl (.c rfl .n))), (rdRaw_eq _ _ _).trans (rdBody_none (by omega)), by omega⟩
    refine wp_region_lit ?_
    refine st_run 2 [(52, .int .i64 (((((rByte bs (((rUint bs (BitVec.ofInt 64 (65534 - last)) R).2))).1).toNat : Nat) : Int)))] hs (.c (hs.mem.del (.s .z)) .n) (by kernel_rfl) (by kernel_rfl) (by kernel_rfl) ?_; clear hs a; intro a hs
    replace hs := hs.recell (v' := .int .i64 (3)) (Option.some.inj (congrArg (fun z => some (Value.int .i64 z)) hk42))
    refine st_run 4 [(56, .pointer (some ⟨g, 0, none⟩)), (55, .func (.func 140) #[] #[])] hs (.c (hs.mem.del .z) .n) (by kernel_rfl) (by kernel_rfl) (by kernel_rfl) ?_; clear hs a; intro a hs
    refine st_callV (us := []) hs rfl (.c rfl (.c rfl .n)) rfl Tryz.call140 (.c (.s (.s .z)) (.c (.s .z) .n)) (readAll_ok g g26 _ _ bs (((rByte bs (((rUint bs (BitVec.ofInt 64 (65534 - last)) R).2))).2)) (((((rByte bs (((rUint bs (BitVec.ofInt 64 (65534 - last)) R).2))).1).toNat : Nat) : Int)) ((last + 1) + ((((rUint bs (BitVec.ofInt 64 (65534 - last)) R).1.toNat : Nat) : Int))) _ (hs.mem.rd1 hb (.c (.s (.s .z)) (.c (.s .z) .n))) (hs.mem.del (.s (.s .z))) (hs.mem.del (.s .z)) (by omega)) rfl ?_; clear hs w a; rintro _ _ a w ⟨rfl, rfl⟩ hs; simp only [List.cons_append, List.nil_append] at hs
    have hk45 := rdAll_le (bs := bs) (k := ((((rByte bs (((rUint bs (BitVec.ofInt 64 (65534 - last)) R).2))).1).toNat : Nat) : Int)) (id := (last + 1) + ((((rUint bs (BitVec.ofInt 64 (65534 - last)) R).1.toNat : Nat) : Int))) (R := ((rByte bs (((rUint bs (BitVec.ofInt 64 (65534 - last)) R).2))).2)) (by omega)
    refine wpList_nil ?_
    refine then_n ?_
    replace hs := hs.drop (.c (.s (.s .z)) .n)
    exact ⟨((rdAll bs (((((rByte bs (((rUint bs (BitVec.ofInt 64 (65534 - last)) R).2))).1).toNat : Nat) : Int)) ((last + 1) + ((((rUint bs (BitVec.ofInt 64 (65534 - last)) R).1.toNat : Nat) : Int))) (((rByte bs (((rUint bs (BitVec.ofInt 64 (65534 - last)) R).2))).2))).1), ((rdAll bs (((((rByte bs (((rUint bs (BitVec.ofInt 64 (65534 - last)) R).2))).1).toNat : Nat) : Int)) ((last + 1) + ((((rUint bs (BitVec.ofInt 64 (65534 - last)) R).1.toNat : Nat) : Int))) (((rByte bs (((rUint bs (BitVec.ofInt 64 (65534 - last)) R).2))).2))).2), hs.sub (.c rfl (.c rfl (.c rfl .n))), pair_eq ((rdRaw_eq _ _ _).trans (rdBody_all (by omega))), by omega⟩
   replace hc41 := of_decide_eq_false hc41
   refine wp_region_lit ?_
   refine st_mv hs rfl rfl ?_; clear hs w a; intro a w hs
   refine st_call hs (.c rfl (.c rfl .n)) Tryz.call74 (.c (.s (.s .z)) .n) (rfail_ok 11 g _ _ bs (((rByte bs (((rUint bs (BitVec.ofInt 64 (65534 - last)) R).2))).2)) _ (hs.mem.rd1 hb (.c (.s (.s .z)) .n)) (hs.mem.del (.s (.s .z))) (by omega)) rfl ?_; clear hs w a; rintro _ _ a w ⟨rfl, rfl⟩ hs; simp only [List.cons_append, List.nil_append] at hs
   have hk46 := rFail_le (e := 11) (bs := bs) (R := ((rByte bs (((rUint bs (BitVec.ofInt 64 (65534 - last)) R).2))).2)) (by omega)
   refine wpList_nil ?_
   refine then_n ?_
   replace hs := hs.drop (.c (.s .z) .n)
   exact ⟨(⟨((((rByte bs (((rUint bs (BitVec.ofInt 64 (65534 - last)) R).2))).1).toNat : Nat) : Int), (last + 1) + ((((rUint bs (BitVec.ofInt 64 (65534 - last)) R).1.toNat : Nat) : Int)), 0, 0, 0, 0, 0, 0, 0#16⟩ : RecR), ((rFail 11 (((rByte bs (((rUint bs (BitVec.ofInt 64 (65534 - last)) R).2))).2)))), hs.sub (.c rfl (.c rfl (.c rfl .n))), (rdRaw_eq _ _ _).trans (rdBody_bad (by omega)), by omega⟩
  clear hs w a; rintro a w ⟨rr, RR, hs, hJ47, hJ48⟩
  have hraw := hJ47
  refine then_n (hK35 _ _ ?_)
  refine wp_seq_k fun K49 hK50 => ?_
  refine wp_seq_k fun K51 hK52 => ?_
  refine wp_region_lit ?_
  refine st_mv hs rfl rfl ?_; clear hs w a; intro a w hs
  refine st_callP (v := .int .i64 (((RR.e : Nat) : Int))) hs (.c rfl .n) Tryz.call76 (rerr_ok g _ _ bs RR _ (hs.rd0 hb) (hs.mem.del .z) (by omega)) rfl ?_; clear hs w a; intro a w hs
  refine st_as hs rfl rfl ?_; clear hs w a; intro a w hs
  refine wpList_nil ?_
  refine then_n (hK52 _ _ ?_)
  refine wp_seq_k fun K53 hK54 => ?_
  refine wp_region_lit ?_
  refine st_run 2 [(63, .bool (!((((RR.e : Nat) : Int) : Int) == 0)))] hs .n (by kernel_rfl) (by kernel_rfl) (by kernel_rfl) ?_; clear hs a; intro a hs
  refine wpList_nil ?_
  refine then_n (hK54 _ _ ?_)
  refine wp_if hs rfl (fun hc55 => ?_) (fun hc55 => ?_)
  ·
   replace hc55 := not_t hc55
   replace hc55 := ne_of_beq_f hc55
   refine wp_seq_k fun K56 hK57 => ?_
   refine wp_region_lit ?_
   refine st_build (it := Tryz.t78) (zs := [.int .i64 (0), .int .i64 (0), .int .i64 (0), .int .i64 (0), .int .i64 (0), .int .i64 (0), .int .i64 (0), .int .i64 (0), .int .u16 (0)]) (places := [(0, 1), (1, 1), (2, 3), (5, 3), (8, 1)]) hs .n Tryz.underlying78 rfl rfl rfl rfl .n rfl ?_; clear hs w a; intro a w hs
   refine st_mv hs rfl rfl ?_; clear hs w a; intro a w hs
   refine st_stBA hs rfl rfl (.s (.s .z)) (.z (.c (.c (.c (.c (.c (.c (.c (.c (.c .n)))))))))) (ones_c rfl (ones_c rfl (ones_c rfl (ones_c rfl (ones_c rfl (ones_c rfl (ones_c rfl (ones_c rfl (ones_c rfl ones_n))))))))) Tryz.sizeOf78 rfl ?_; clear hs w a; intro a w hs
   refine st_as hs rfl rfl ?_; clear hs w a; intro a w hs
   refine wpList_nil ?_
   refine then_n (hK57 _ _ ?_)
   refine wp_ret ?_
   refine th_r ?_
   have hq_ : rdRec bs last R = (recZ, RR.e, RR) := by first | exact rdRec_rng (by omega) | exact rdRec_end (by omega) | exact rdRec_bad (by omega) (by omega) hraw (by omega) | exact rdRec_ok (by omega) (by omega) hraw (by omega)
   exact finC2 hs rfl rfl rfl .z (.z (.c (.c (.c (.c (.c (.c (.c (.c (.c .n)))))))))) Tryz.isAgg78 Tryz.sizeOf78 (.c (.s (.s .z)) (.c .z .n)) (by rw [hq_]; exact ⟨rfl, rfl⟩)
  replace hc55 := not_f hc55
  replace hc55 := eq_of_beq hc55
  refine wp_skip ?_
  refine then_n (hK50 _ _ ?_)
  refine wp_seq_k fun K58 hK59 => ?_
  refine wp_region_lit ?_
  refine st_ldBA hs rfl (.s .z) (.z (.c (.c (.c (.c (.c (.c (.c (.c (.c .n)))))))))) Tryz.isAgg78 Tryz.sizeOf78 rfl ?_; clear hs w a; intro a w hs
  refine st_stBA hs rfl rfl (.s (.s .z)) (.z (.c (.c (.c (.c (.c (.c (.c (.c (.c .n)))))))))) (ones_c rfl (ones_c rfl (ones_c rfl (ones_c rfl (ones_c rfl (ones_c rfl (ones_c rfl (ones_c rfl (ones_c rfl ones_n))))))))) Tryz.sizeOf78 rfl ?_; clear hs w a; intro a w hs
  refine st_as hs rfl rfl ?_; clear hs w a; intro a w hs
  refine wpList_nil ?_
  refine then_n (hK59 _ _ ?_)
  refine wp_ret ?_
  have hq_ : rdRec bs last R = (rr, 0, RR) := by first | exact rdRec_rng (by omega) | exact rdRec_end (by omega) | exact rdRec_bad (by omega) (by omega) hraw (by omega) | exact rdRec_ok (by omega) (by omega) hraw (by omega)
  exact finC2 hs rfl rfl rfl .z (.z (.c (.c (.c (.c (.c (.c (.c (.c (.c .n)))))))))) Tryz.isAgg78 Tryz.sizeOf78 (.c (.s (.s .z)) (.c .z .n)) (by rw [hq_]; exact ⟨rfl, rfl⟩)
end Go.Proofs.YtbioemaipghagaaGreat
