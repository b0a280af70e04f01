/- Walks of the document's datagrams: what each function does, over the program of this seat. Printed by a program of this session. -/
import Derived.Test.YtbioemaipghagaaQWgram
import Derived.Test.YtbioemaipghagaaQWrecm
namespace Go.Proofs.Ytbioemaipghagaa
open Go Go.Sx Go.RowKit
set_option linter.unusedVariables false
set_option linter.unusedSimpArgs false
set_option maxRecDepth 4000
set_option maxHeartbeats 1000000

theorem mbody_ok (t tm b : Int) (u : Value) (l : List RecR) (w0 : World) (ht_ : -9223372036854775808 ≤ t ∧ t ≤ 9223372036854775807) (htm_ : -9223372036854775808 ≤ tm ∧ tm ≤ 9223372036854775807) (hb_ : -9223372036854775808 ≤ b ∧ b ≤ 9223372036854775807) (hc : Rd w0 [] u 9 l.length (l.flatMap recV)) (hl : ∀ x ∈ l, x.wf) : Calls Try.prog 43 #[.agg #[.int .i64 t, .int .i64 tm, .int .i64 b, u]] w0 (Ret w0 [] fun x N => ∃ v, x = .tuple #[v, .int .i64 (((bodyErr t tm b l : Nat)) : Int)] ∧ N = [row v 5 1 (bodyB t tm b l).length (bytesV (bodyB t tm b l))]) := by
  have hce := hc.le
  simp only [maxLen] at hce
  have hv1 := vlen_le (BitVec.ofInt 64 t).toNat
  have hv2 := vlen_le (zigI tm).toNat
  have hv3 := vlen_le (BitVec.ofInt 64 (t - b)).toNat
  have hv4 := vlen_le (BitVec.ofInt 64 (l.length : Int)).toNat
  have hv5 := vlen_le (0#64).toNat
  have hgl := length_gHeadB t tm b l.length
  refine enter (F0 := [(0, .agg #[.int .i64 (t), .int .i64 (tm), .int .i64 (b), u])]) Try.func43 rfl rfl rfl (.c .n) (Mem.nil _) fun a w hs => ?_
  refine wp_seq_k fun K1 hK2 => ?_
  refine wp_region_lit ?_
  refine st_box (cs := [.int .i64 (t), .int .i64 (tm), .int .i64 (b), u]) hs rfl rfl rfl ?_; clear hs w a; intro g3 a w hs
  refine st_run 2 [(3, .int .i64 (0)), (2, .slice none 0 0)] hs .n (by kernel_rfl) (by kernel_rfl) (by kernel_rfl) ?_; clear hs a; intro a hs
  refine wpList_nil ?_
  refine then_n (hK2 _ _ ?_)
  refine wp_seq_k fun K4 hK5 => ?_
  refine wp_seq_k fun K6 hK7 => ?_
  refine wp_region_lit ?_
  refine st_run 4 [(13, .bool (decide (t < 0)))] hs (.c (hs.mem.del .z) .n) (by kernel_rfl) (by kernel_rfl) (by kernel_rfl) ?_; clear hs a; intro a hs
  refine st_part (b := decide (t < 0)) (fun hc8 => ?_) (fun hc8 => ?_)
  ·
   rw [hc8] at hs
   replace hc8 := of_decide_eq_true hc8
   refine st_run 19 [(32, .bool (true))] hs .n (by kernel_rfl) (by kernel_rfl) (by kernel_rfl) ?_; clear hs a; intro a hs
   refine wpList_nil ?_
   refine then_n (hK7 _ _ ?_)
   refine wp_cond_true (hs.ev rfl) ?_
   refine wp_seq_k fun K9 hK10 => ?_
   refine wp_region_lit ?_
   refine st_run 2 [(3, .int .i64 (3)), (2, .slice none 0 0)] hs .n (by kernel_rfl) (by kernel_rfl) (by kernel_rfl) ?_; clear hs a; intro a hs
   refine wpList_nil ?_
   refine then_n (hK10 _ _ ?_)
   refine wp_ret ?_
   refine th_r ?_
   have hbe : bodyErr t tm b l = 3 := by first | exact bodyErr_head (by omega) | exact (bodyErr_head (by rw [(show gErr t tm b l.length = _ by first | exact gErr_3 (by omega) | exact gErr_10 (by omega) (by omega) | exact gErr_8 (by omega) (by omega) (by omega))]; decide)).trans (show gErr t tm b l.length = _ by first | exact gErr_3 (by omega) | exact gErr_10 (by omega) (by omega) | exact gErr_8 (by omega) (by omega) (by omega)) | (rw [bodyErr_recs (by omega)]; exact recsErr_at (by omega) hI1_1 (by unfold errAt; omega)) | (rw [bodyErr_recs (by omega)]; unfold recsErr; rw [← show j = l.length by omega]; exact hI1_1)
   replace hs := hs.drop (.c .z .n)
   replace hs := hs.addNil 5 1
   replace hs := hs.rerow .z (m' := (bodyB t tm b l).length) (xs' := bytesV (bodyB t tm b l)) (by rw [bodyB_err (by omega)]; rfl) (by rw [bodyB_err (by omega)]; rfl)
   exact fin2 hs rfl rfl rfl ⟨_, congrArg (fun z : Nat => Value.tuple #[.slice none 0 0, .int .i64 (z : Int)]) hbe.symm, rfl⟩
  rw [hc8] at hs
  replace hc8 := of_decide_eq_false hc8
  refine st_run 5 [(18, .bool (decide (4294967295 < t)))] hs (.c (hs.mem.del .z) .n) (by kernel_rfl) (by kernel_rfl) (by kernel_rfl) ?_; clear hs a; intro a hs
  refine st_part (b := decide (4294967295 < t)) (fun hc11 => ?_) (fun hc11 => ?_)
  ·
   rw [hc11] at hs
   replace hc11 := of_decide_eq_true hc11
   refine st_run 14 [(32, .bool (true))] hs .n (by kernel_rfl) (by kernel_rfl) (by kernel_rfl) ?_; clear hs a; intro a hs
   refine wpList_nil ?_
   refine then_n (hK7 _ _ ?_)
   refine wp_cond_true (hs.ev rfl) ?_
   refine wp_seq_k fun K12 hK13 => ?_
   refine wp_region_lit ?_
   refine st_run 2 [(3, .int .i64 (3)), (2, .slice none 0 0)] hs .n (by kernel_rfl) (by kernel_rfl) (by kernel_rfl) ?_; clear hs a; intro a hs
   refine wpList_nil ?_
   refine then_n (hK13 _ _ ?_)
   refine wp_ret ?_
   refine th_r ?_
   have hbe : bodyErr t tm b l = 3 := by first | exact bodyErr_head (by omega) | exact (bodyErr_head (by rw [(show gErr t tm b l.length = _ by first | exact gErr_3 (by omega) | exact gErr_10 (by omega) (by omega) | exact gErr_8 (by omega) (by omega) (by omega))]; decide)).trans (show gErr t tm b l.length = _ by first | exact gErr_3 (by omega) | exact gErr_10 (by omega) (by omega) | exact gErr_8 (by omega) (by omega) (by omega)) | (rw [bodyErr_recs (by omega)]; exact recsErr_at (by omega) hI1_1 (by unfold errAt; omega)) | (rw [bodyErr_recs (by omega)]; unfold recsErr; rw [← show j = l.length by omega]; exact hI1_1)
   replace hs := hs.drop (.c .z .n)
   replace hs := hs.addNil 5 1
   replace hs := hs.rerow .z (m' := (bodyB t tm b l).length) (xs' := bytesV (bodyB t tm b l)) (by rw [bodyB_err (by omega)]; rfl) (by rw [bodyB_err (by omega)]; rfl)
   exact fin2 hs rfl rfl rfl ⟨_, congrArg (fun z : Nat => Value.tuple #[.slice none 0 0, .int .i64 (z : Int)]) hbe.symm, rfl⟩
  rw [hc11] at hs
  replace hc11 := of_decide_eq_false hc11
  refine st_run 5 [(23, .bool (decide (tm < (-2305843009213693952))))] hs (.c (hs.mem.del .z) .n) (by kernel_rfl) (by kernel_rfl) (by kernel_rfl) ?_; clear hs a; intro a hs
  refine st_part (b := decide (tm < (-2305843009213693952))) (fun hc14 => ?_) (fun hc14 => ?_)
  ·
   rw [hc14] at hs
   replace hc14 := of_decide_eq_true hc14
   refine st_run 9 [(32, .bool (true))] hs .n (by kernel_rfl) (by kernel_rfl) (by kernel_rfl) ?_; clear hs a; intro a hs
   refine wpList_nil ?_
   refine then_n (hK7 _ _ ?_)
   refine wp_cond_true (hs.ev rfl) ?_
   refine wp_seq_k fun K15 hK16 => ?_
   refine wp_region_lit ?_
   refine st_run 2 [(3, .int .i64 (3)), (2, .slice none 0 0)] hs .n (by kernel_rfl) (by kernel_rfl) (by kernel_rfl) ?_; clear hs a; intro a hs
   refine wpList_nil ?_
   refine then_n (hK16 _ _ ?_)
   refine wp_ret ?_
   refine th_r ?_
   have hbe : bodyErr t tm b l = 3 := by first | exact bodyErr_head (by omega) | exact (bodyErr_head (by rw [(show gErr t tm b l.length = _ by first | exact gErr_3 (by omega) | exact gErr_10 (by omega) (by omega) | exact gErr_8 (by omega) (by omega) (by omega))]; decide)).trans (show gErr t tm b l.length = _ by first | exact gErr_3 (by omega) | exact gErr_10 (by omega) (by omega) | exact gErr_8 (by omega) (by omega) (by omega)) | (rw [bodyErr_recs (by omega)]; exact recsErr_at (by omega) hI1_1 (by unfold errAt; omega)) | (rw [bodyErr_recs (by omega)]; unfold recsErr; rw [← show j = l.length by omega]; exact hI1_1)
   replace hs := hs.drop (.c .z .n)
   replace hs := hs.addNil 5 1
   replace hs := hs.rerow .z (m' := (bodyB t tm b l).length) (xs' := bytesV (bodyB t tm b l)) (by rw [bodyB_err (by omega)]; rfl) (by rw [bodyB_err (by omega)]; rfl)
   exact fin2 hs rfl rfl rfl ⟨_, congrArg (fun z : Nat => Value.tuple #[.slice none 0 0, .int .i64 (z : Int)]) hbe.symm, rfl⟩
  rw [hc14] at hs
  replace hc14 := of_decide_eq_false hc14
  refine st_run 5 [(28, .bool (decide (2305843009213693952 < tm)))] hs (.c (hs.mem.del .z) .n) (by kernel_rfl) (by kernel_rfl) (by kernel_rfl) ?_; clear hs a; intro a hs
  refine st_part (b := decide (2305843009213693952 < tm)) (fun hc17 => ?_) (fun hc17 => ?_)
  ·
   rw [hc17] at hs
   replace hc17 := of_decide_eq_true hc17
   refine st_run 4 [(32, .bool (true))] hs .n (by kernel_rfl) (by kernel_rfl) (by kernel_rfl) ?_; clear hs a; intro a hs
   refine wpList_nil ?_
   refine then_n (hK7 _ _ ?_)
   refine wp_cond_true (hs.ev rfl) ?_
   refine wp_seq_k fun K18 hK19 => ?_
   refine wp_region_lit ?_
   refine st_run 2 [(3, .int .i64 (3)), (2, .slice none 0 0)] hs .n (by kernel_rfl) (by kernel_rfl) (by kernel_rfl) ?_; clear hs a; intro a hs
   refine wpList_nil ?_
   refine then_n (hK19 _ _ ?_)
   refine wp_ret ?_
   refine th_r ?_
   have hbe : bodyErr t tm b l = 3 := by first | exact bodyErr_head (by omega) | exact (bodyErr_head (by rw [(show gErr t tm b l.length = _ by first | exact gErr_3 (by omega) | exact gErr_10 (by omega) (by omega) | exact gErr_8 (by omega) (by omega) (by omega))]; decide)).trans (show gErr t tm b l.length = _ by first | exact gErr_3 (by omega) | exact gErr_10 (by omega) (by omega) | exact gErr_8 (by omega) (by omega) (by omega)) | (rw [bodyErr_recs (by omega)]; exact recsErr_at (by omega) hI1_1 (by unfold errAt; omega)) | (rw [bodyErr_recs (by omega)]; unfold recsErr; rw [← show j = l.length by omega]; exact hI1_1)
   replace hs := hs.drop (.c .z .n)
   replace hs := hs.addNil 5 1
   replace hs := hs.rerow .z (m' := (bodyB t tm b l).length) (xs' := bytesV (bodyB t tm b l)) (by rw [bodyB_err (by omega)]; rfl) (by rw [bodyB_err (by omega)]; rfl)
   exact fin2 hs rfl rfl rfl ⟨_, congrArg (fun z : Nat => Value.tuple #[.slice none 0 0, .int .i64 (z : Int)]) hbe.symm, rfl⟩
  rw [hc17] at hs
  replace hc17 := of_decide_eq_false hc17
  refine st_run 4 [(32, .bool (decide (b < (-1))))] hs (.c (hs.mem.del .z) .n) (by kernel_rfl) (by kernel_rfl) (by kernel_rfl) ?_; clear hs a; intro a hs
  refine wpList_nil ?_
  refine then_n (hK7 _ _ ?_)
  refine wp_if hs rfl (fun hc20 => ?_) (fun hc20 => ?_)
  ·
   replace hc20 := of_decide_eq_true hc20
   refine wp_seq_k fun K21 hK22 => ?_
   refine wp_region_lit ?_
   refine st_run 2 [(3, .int .i64 (3)), (2, .slice none 0 0)] hs .n (by kernel_rfl) (by kernel_rfl) (by kernel_rfl) ?_; clear hs a; intro a hs
   refine wpList_nil ?_
   refine then_n (hK22 _ _ ?_)
   refine wp_ret ?_
   refine th_r ?_
   have hbe : bodyErr t tm b l = 3 := by first | exact bodyErr_head (by omega) | exact (bodyErr_head (by rw [(show gErr t tm b l.length = _ by first | exact gErr_3 (by omega) | exact gErr_10 (by omega) (by omega) | exact gErr_8 (by omega) (by omega) (by omega))]; decide)).trans (show gErr t tm b l.length = _ by first | exact gErr_3 (by omega) | exact gErr_10 (by omega) (by omega) | exact gErr_8 (by omega) (by omega) (by omega)) | (rw [bodyErr_recs (by omega)]; exact recsErr_at (by omega) hI1_1 (by unfold errAt; omega)) | (rw [bodyErr_recs (by omega)]; unfold recsErr; rw [← show j = l.length by omega]; exact hI1_1)
   replace hs := hs.drop (.c .z .n)
   replace hs := hs.addNil 5 1
   replace hs := hs.rerow .z (m' := (bodyB t tm b l).length) (xs' := bytesV (bodyB t tm b l)) (by rw [bodyB_err (by omega)]; rfl) (by rw [bodyB_err (by omega)]; rfl)
   exact fin2 hs rfl rfl rfl ⟨_, congrArg (fun z : Nat => Value.tuple #[.slice none 0 0, .int .i64 (z : Int)]) hbe.symm, rfl⟩
  replace hc20 := of_decide_eq_false hc20
  refine wp_skip ?_
  refine then_n (hK5 _ _ ?_)
  refine wp_seq_k fun K23 hK24 => ?_
  refine wp_seq_k fun K25 hK26 => ?_
  refine wp_region_lit ?_
  refine st_run 5 [(37, .bool (decide (t ≤ b)))] hs (.c (hs.mem.del .z) (.c (hs.mem.del .z) .n)) (by kernel_rfl) (by kernel_rfl) (by kernel_rfl) ?_; clear hs a; intro a hs
  refine wpList_nil ?_
  refine then_n (hK26 _ _ ?_)
  refine wp_if hs rfl (fun hc27 => ?_) (fun hc27 => ?_)
  ·
   replace hc27 := of_decide_eq_true hc27
   refine wp_seq_k fun K28 hK29 => ?_
   refine wp_region_lit ?_
   refine st_run 2 [(3, .int .i64 (10)), (2, .slice none 0 0)] hs .n (by kernel_rfl) (by kernel_rfl) (by kernel_rfl) ?_; clear hs a; intro a hs
   refine wpList_nil ?_
   refine then_n (hK29 _ _ ?_)
   refine wp_ret ?_
   refine th_r ?_
   have hbe : bodyErr t tm b l = 10 := by first | exact bodyErr_head (by omega) | exact (bodyErr_head (by rw [(show gErr t tm b l.length = _ by first | exact gErr_3 (by omega) | exact gErr_10 (by omega) (by omega) | exact gErr_8 (by omega) (by omega) (by omega))]; decide)).trans (show gErr t tm b l.length = _ by first | exact gErr_3 (by omega) | exact gErr_10 (by omega) (by omega) | exact gErr_8 (by omega) (by omega) (by omega)) | (rw [bodyErr_recs (by omega)]; exact recsErr_at (by omega) hI1_1 (by unfold errAt; omega)) | (rw [bodyErr_recs (by omega)]; unfold recsErr; rw [← show j = l.length by omega]; exact hI1_1)
   replace hs := hs.drop (.c .z .n)
   replace hs := hs.addNil 5 1
   replace hs := hs.rerow .z (m' := (bodyB t tm b l).length) (xs' := bytesV (bodyB t tm b l)) (by rw [bodyB_err (by omega)]; rfl) (by rw [bodyB_err (by omega)]; rfl)
   exact fin2 hs rfl rfl rfl ⟨_, congrArg (fun z : Nat => Value.tuple #[.slice none 0 0, .int .i64 (z : Int)]) hbe.symm, rfl⟩
  replace hc27 := of_decide_eq_false hc27
  refine wp_skip ?_
  refine then_n (hK24 _ _ ?_)
  refine wp_seq_k fun K30 hK31 => ?_
  refine wp_seq_k fun K32 hK33 => ?_
  refine wp_region_lit ?_
  refine st_run 2 [(39, u)] hs (.c (hs.mem.del .z) .n) (by kernel_rfl) (by kernel_rfl) (by kernel_rfl) ?_; clear hs a; intro a hs
  refine st_len hs rfl (hs.rd0 hc).isSl Try.underlying25 rfl ?_; clear hs w a; intro a w hs
  refine st_gtr hs rfl rfl rfl ?_; clear hs w a; intro a w hs
  refine wpList_nil ?_
  refine then_n (hK33 _ _ ?_)
  refine wp_if hs rfl (fun hc34 => ?_) (fun hc34 => ?_)
  ·
   replace hc34 := of_decide_eq_true hc34
   refine wp_seq_k fun K35 hK36 => ?_
   refine wp_region_lit ?_
   refine st_run 2 [(3, .int .i64 (8)), (2, .slice none 0 0)] hs .n (by kernel_rfl) (by kernel_rfl) (by kernel_rfl) ?_; clear hs a; intro a hs
   refine wpList_nil ?_
   refine then_n (hK36 _ _ ?_)
   refine wp_ret ?_
   refine th_r ?_
   have hbe : bodyErr t tm b l = 8 := by first | exact bodyErr_head (by omega) | exact (bodyErr_head (by rw [(show gErr t tm b l.length = _ by first | exact gErr_3 (by omega) | exact gErr_10 (by omega) (by omega) | exact gErr_8 (by omega) (by omega) (by omega))]; decide)).trans (show gErr t tm b l.length = _ by first | exact gErr_3 (by omega) | exact gErr_10 (by omega) (by omega) | exact gErr_8 (by omega) (by omega) (by omega)) | (rw [bodyErr_recs (by omega)]; exact recsErr_at (by omega) hI1_1 (by unfold errAt; omega)) | (rw [bodyErr_recs (by omega)]; unfold recsErr; rw [← show j = l.length by omega]; exact hI1_1)
   replace hs := hs.drop (.c .z .n)
   replace hs := hs.addNil 5 1
   replace hs := hs.rerow .z (m' := (bodyB t tm b l).length) (xs' := bytesV (bodyB t tm b l)) (by rw [bodyB_err (by omega)]; rfl) (by rw [bodyB_err (by omega)]; rfl)
   exact fin2 hs rfl rfl rfl ⟨_, congrArg (fun z : Nat => Value.tuple #[.slice none 0 0, .int .i64 (z : Int)]) hbe.symm, rfl⟩
  replace hc34 := of_decide_eq_false hc34
  refine wp_skip ?_
  refine then_n (hK31 _ _ ?_)
  refine wp_seq_k fun K37 hK38 => ?_
  refine wp_region_lit ?_
  refine st_bs (cs := [.int .u8 (71), .int .u8 (1)]) hs (.c (.c .n)) (.c rfl (.c rfl .n)) Try.underlying79 (ie := Try.t5) rfl rfl rfl rfl (by decide) (by decide) rfl (by decide) rfl rfl rfl ?_; clear hs w a; intro g39 a w hs
  refine st_run 2 [(44, .int .i64 (t))] hs (.c (hs.mem.del (.s .z)) .n) (by kernel_rfl) (by kernel_rfl) (by kernel_rfl) ?_; clear hs a; intro a hs
  refine st_cv_u64 hs rfl Try.underlying2 Try.underlying99 rfl ?_; clear hs w a; intro a w hs
  refine st_call hs (.c rfl .n) Try.call53 .n (rput_ok (BitVec.ofInt 64 t) _) rfl ?_; clear hs w a; rintro v40 _ a w rfl hs; simp only [List.cons_append, List.nil_append] at hs
  replace hs := hs.toRow (size := 1) (m := 2) (.s .z) rfl (by decide)
  refine st_app (size := 1) (bytes := 1) hs rfl rfl .z (rd_row (hs.mem.del (.s .z))) (oneCell_bytesV _) Try.underlying79 (i := Try.t5) rfl rfl rfl rfl rfl (by decide) (by omega) (by simp only [maxLen]; omega) rfl ?_; clear hs w a; intro v41 a w hs
  refine st_as hs rfl rfl ?_; clear hs w a; intro a w hs
  refine wpList_nil ?_
  refine then_n (hK38 _ _ ?_)
  refine wp_seq_k fun K42 hK43 => ?_
  refine wp_region_lit ?_
  refine st_run 3 [(50, .int .i64 (tm)), (48, v41)] hs (.c (hs.mem.del (.s (.s .z))) .n) (by kernel_rfl) (by kernel_rfl) (by kernel_rfl) ?_; clear hs a; intro a hs
  refine st_callP (v := .int .u64 ((((zigI tm).toNat : Nat) : Int))) hs (.c rfl .n) Try.call54 (rzig_ok tm _ (by omega)) rfl ?_; clear hs w a; intro a w hs
  refine st_call hs (.c rfl .n) Try.call53 .n (rput_ok (zigI tm) _) rfl ?_; clear hs w a; rintro v44 _ a w rfl hs; simp only [List.cons_append, List.nil_append] at hs
  refine st_app (size := 1) (bytes := 1) hs rfl rfl (.s .z) (rd_row (hs.mem.del .z)) (oneCell_bytesV _) Try.underlying79 (i := Try.t5) rfl rfl rfl rfl rfl (by decide) (by omega) (by simp only [maxLen]; omega) rfl ?_; clear hs w a; intro v45 a w hs
  refine st_as hs rfl rfl ?_; clear hs w a; intro a w hs
  refine wpList_nil ?_
  refine then_n (hK43 _ _ ?_)
  refine wp_seq_k fun K46 hK47 => ?_
  refine wp_region_lit ?_
  refine st_as hs rfl rfl ?_; clear hs w a; intro a w hs
  refine wpList_nil ?_
  refine then_n (hK47 _ _ ?_)
  refine wp_seq_k fun K48 hK49 => ?_
  refine wp_seq_k fun K50 hK51 => ?_
  refine wp_region_lit ?_
  refine st_run 3 [(56, .bool (decide (0 ≤ b)))] hs (.c (hs.mem.del (.s (.s (.s .z)))) .n) (by kernel_rfl) (by kernel_rfl) (by kernel_rfl) ?_; clear hs a; intro a hs
  refine wpList_nil ?_
  refine then_n (hK51 _ _ ?_)
  refine wp_if hs rfl (fun hc52 => ?_) (fun hc52 => ?_)
  ·
   replace hc52 := of_decide_eq_true hc52
   refine wp_region_lit ?_
   refine st_run 4 [(60, .int .i64 (b)), (58, .int .i64 (t))] hs (.c (hs.mem.del (.s (.s (.s .z)))) (.c (hs.mem.del (.s (.s (.s .z)))) .n)) (by kernel_rfl) (by kernel_rfl) (by kernel_rfl) ?_; clear hs a; intro a hs
   refine st_subR hs rfl rfl (by omega) rfl ?_; clear hs w a; intro a w hs
   refine st_cv_u64 hs rfl Try.underlying2 Try.underlying99 rfl ?_; clear hs w a; intro a w hs
   refine st_as hs rfl rfl ?_; clear hs w a; intro a w hs
   refine wpList_nil ?_
   refine then_n (hK49 _ _ ?_)
   refine wp_seq_k fun K53 hK54 => ?_
   refine wp_region_lit ?_
   refine st_run 2 [(64, .int .u64 ((((BitVec.ofInt 64 (t - b)).toNat : Nat) : Int))), (63, v45)] hs .n (by kernel_rfl) (by kernel_rfl) (by kernel_rfl) ?_; clear hs a; intro a hs
   refine st_call hs (.c rfl .n) Try.call53 .n (rput_ok (BitVec.ofInt 64 (t - b)) _) rfl ?_; clear hs w a; rintro v55 _ a w rfl hs; simp only [List.cons_append, List.nil_append] at hs
   refine st_app (size := 1) (bytes := 1) hs rfl rfl (.s .z) (rd_row (hs.mem.del .z)) (oneCell_bytesV _) Try.underlying79 (i := Try.t5) rfl rfl rfl rfl rfl (by decide) (by omega) (by simp only [maxLen]; omega) rfl ?_; clear hs w a; intro v56 a w hs
   refine st_as hs rfl rfl ?_; clear hs w a; intro a w hs
   refine wpList_nil ?_
   refine then_n (hK54 _ _ ?_)
   refine wp_seq_k fun K57 hK58 => ?_
   refine wp_region_lit ?_
   refine st_run 3 [(69, u), (67, v56)] hs (.c (hs.mem.del (.s (.s (.s (.s .z))))) .n) (by kernel_rfl) (by kernel_rfl) (by kernel_rfl) ?_; clear hs a; intro a hs
   refine st_len hs rfl (hs.rd0 hc).isSl Try.underlying25 rfl ?_; clear hs w a; intro a w hs
   refine st_cv_u64 hs rfl Try.underlying3 Try.underlying99 rfl ?_; clear hs w a; intro a w hs
   refine st_call hs (.c rfl .n) Try.call53 .n (rput_ok (BitVec.ofInt 64 (((l.length : Nat) : Int))) _) rfl ?_; clear hs w a; rintro v59 _ a w rfl hs; simp only [List.cons_append, List.nil_append] at hs
   refine st_app (size := 1) (bytes := 1) hs rfl rfl (.s .z) (rd_row (hs.mem.del .z)) (oneCell_bytesV _) Try.underlying79 (i := Try.t5) rfl rfl rfl rfl rfl (by decide) (by omega) (by simp only [maxLen]; omega) rfl ?_; clear hs w a; intro v60 a w hs
   replace hs := hs.drop (.c (.s (.s (.s (.s .z)))) (.c (.s (.s (.s .z))) (.c (.s (.s .z)) (.c (.s .z) .n))))
   replace hs := hs.rerow .z (m' := (gHeadB t tm b l.length).length) (xs' := bytesV (gHeadB t tm b l.length)) (by rw [gHeadB, gBack]; (first | rw [if_pos (by omega)] | rw [if_neg (by omega)]); simp only [List.length_append, List.length_cons, List.length_nil, vlen]) (by rw [gHeadB, gBack]; (first | rw [if_pos (by omega)] | rw [if_neg (by omega)]); simp [bytesV, byteV])
   have hge : gErr t tm b l.length = 0 := gErr_0 (by omega) (by omega) (by omega)
   refine st_as hs rfl rfl ?_; clear hs w a; intro a w hs
   refine wpList_nil ?_
   refine then_n (hK58 _ _ ?_)
   refine wp_seq_k fun K61 hK62 => ?_
   refine wp_region_lit ?_
   refine st_as hs rfl rfl ?_; clear hs w a; intro a w hs
   refine wpList_nil ?_
   refine then_n (hK62 _ _ ?_)
   refine wp_seq_k fun K63 hK64 => ?_
   refine wp_seq_k fun K65 hK66 => ?_
   refine wp_region_lit ?_
   refine st_as hs rfl rfl ?_; clear hs w a; intro a w hs
   refine wpList_nil ?_
   refine then_n (hK66 _ _ ?_)
   refine wp_block ?_
   replace hs := hs.rerow .z (m' := (gHeadB t tm b l.length).length + (rowE (l.take 0)).1.length) (xs' := bytesV (gHeadB t tm b l.length ++ (rowE (l.take 0)).1)) (by show _ = _ + 0; first | rfl | (simp only [vlen, gHeadB, List.length_append, List.length_cons, List.length_nil]; omega)) (by show _ = bytesV (_ ++ []); rw [List.append_nil])
   refine wp_loopI (fun mm_ a w => ∃ j : Nat, ∃ p : Value, mm_ = l.length - j ∧ St 104 [(1, .pointer (some ⟨g3, 0, none⟩)), (4, p), (6, .int .i64 ((rowE (l.take j)).2)), (7, .int .i64 ((j : Int)))] w0 [] [row p 5 1 ((gHeadB t tm b l.length).length + (rowE (l.take j)).1.length) (bytesV (gHeadB t tm b l.length ++ (rowE (l.take j)).1)), blk g3 [.int .i64 (t), .int .i64 (tm), .int .i64 (b), u] 27] a w ∧ j ≤ l.length ∧ recsTo l j = 0) ⟨0, v60, rfl, hs.sub (.c rfl (.c rfl (.c rfl (.c rfl .n)))), by omega, rfl⟩ ?_
   clear hs w a; rintro mm_ a w ⟨j, p, rfl, hs, hI1_0, hI1_1⟩
   have hll := recsTo_last hI1_0 hI1_1
   have hrl := rowE_len (l.take j)
   have htl : (l.take j).length ≤ j := by rw [List.length_take]; omega
   refine wp_seq_k fun K67 hK68 => ?_
   refine wp_seq_k fun K69 hK70 => ?_
   refine wp_region_lit ?_
   refine st_run 3 [(76, u), (75, .pointer (some ⟨g3, 3, none⟩)), (74, .int .i64 ((j : Int)))] hs (.c (hs.mem.del (.s .z)) .n) (by kernel_rfl) (by kernel_rfl) (by kernel_rfl) ?_; clear hs a; intro a hs
   refine st_len hs rfl (hs.rd0 hc).isSl Try.underlying25 rfl ?_; clear hs w a; intro a w hs
   refine st_lss hs rfl rfl rfl ?_; clear hs w a; intro a w hs
   refine wpList_nil ?_
   refine then_n (hK70 _ _ ?_)
   refine wp_if hs rfl (fun hc71 => ?_) (fun hc71 => ?_)
   ·
    replace hc71 := of_decide_eq_true hc71
    refine wp_skip ?_
    refine then_n (hK68 _ _ ?_)
    refine wp_seq_k fun K72 hK73 => ?_
    refine wp_block ?_
    refine wp_seq_k fun K74 hK75 => ?_
    refine wp_region_lit ?_
    refine st_run 3 [(84, .int .i64 ((j : Int))), (83, u), (82, .pointer (some ⟨g3, 3, none⟩))] hs (.c (hs.mem.del (.s .z)) .n) (by kernel_rfl) (by kernel_rfl) (by kernel_rfl) ?_; clear hs a; intro a hs
    refine st_ia (j := j) hs rfl rfl (hs.rd0 hc) rfl (by omega) Try.underlying25 Try.sizeOf45 rfl ?_; clear hs w a; intro a w hs
    refine st_ldA (cs := recV (l.getD j default)) hs rfl (hs.rd0 hc) (flat_get recV_len l j (by omega)) (by rw [flat_len recV_len]; omega) (by omega) Try.isAgg45 Try.sizeOf45 rfl ?_; clear hs w a; intro a w hs
    refine st_mv hs rfl rfl ?_; clear hs w a; intro a w hs
    refine st_call hs (.c rfl (.c rfl .n)) Try.call55 .n (rwrite_ok (l.getD j default) ((rowE (l.take j)).2) _ (recs_getD hl (by omega)) (by omega)) rfl ?_; clear hs w a; rintro _ _ a w ⟨v76, rfl, rfl⟩ hs; simp only [List.cons_append, List.nil_append] at hs
    have hk77 := length_recB (l.getD j default) ((rowE (l.take j)).2)
    refine st_run 5 [(9, .int .i64 (((recErr (l.getD j default) ((rowE (l.take j)).2) : Nat) : Int))), (8, v76), (90, .int .i64 (((recErr (l.getD j default) ((rowE (l.take j)).2) : Nat) : Int))), (89, v76), (81, .tuple #[v76, .int .i64 (((recErr (l.getD j default) ((rowE (l.take j)).2) : Nat) : Int))])] hs .n (by kernel_rfl) (by kernel_rfl) (by kernel_rfl) ?_; clear hs a; intro a hs
    refine wpList_nil ?_
    refine then_n (hK75 _ _ ?_)
    refine wp_seq_k fun K78 hK79 => ?_
    refine wp_seq_k fun K80 hK81 => ?_
    refine wp_region_lit ?_
    refine st_run 2 [(92, .bool (!((((recErr (l.getD j default) ((rowE (l.take j)).2) : Nat) : Int) : Int) == 0))), (91, .int .i64 (((recErr (l.getD j default) ((rowE (l.take j)).2) : Nat) : Int)))] hs .n (by kernel_rfl) (by kernel_rfl) (by kernel_rfl) ?_; clear hs a; intro a hs
    refine wpList_nil ?_
    refine then_n (hK81 _ _ ?_)
    refine wp_if hs rfl (fun hc82 => ?_) (fun hc82 => ?_)
    ·
     replace hc82 := not_t hc82
     replace hc82 := ne_of_beq_f hc82
     refine wp_seq_k fun K83 hK84 => ?_
     refine wp_region_lit ?_
     refine st_run 3 [(3, .int .i64 (((recErr (l.getD j default) ((rowE (l.take j)).2) : Nat) : Int))), (2, .slice none 0 0), (93, .int .i64 (((recErr (l.getD j default) ((rowE (l.take j)).2) : Nat) : Int)))] hs .n (by kernel_rfl) (by kernel_rfl) (by kernel_rfl) ?_; clear hs a; intro a hs
     refine wpList_nil ?_
     refine then_n (hK84 _ _ ?_)
     refine wp_ret ?_
     refine th_r ?_
     refine in_r ?_
     refine th_r ?_
     refine th_r ?_
     refine in_r ?_
     refine th_r ?_
     have hbe : bodyErr t tm b l = recErr (l.getD j default) ((rowE (l.take j)).2) := by first | exact bodyErr_head (by omega) | exact (bodyErr_head (by rw [(show gErr t tm b l.length = _ by first | exact gErr_3 (by omega) | exact gErr_10 (by omega) (by omega) | exact gErr_8 (by omega) (by omega) (by omega))]; decide)).trans (show gErr t tm b l.length = _ by first | exact gErr_3 (by omega) | exact gErr_10 (by omega) (by omega) | exact gErr_8 (by omega) (by omega) (by omega)) | (rw [bodyErr_recs (by omega)]; exact recsErr_at (by omega) hI1_1 (by unfold errAt; omega)) | (rw [bodyErr_recs (by omega)]; unfold recsErr; rw [← show j = l.length by omega]; exact hI1_1)
     replace hs := hs.drop (.c (.s (.s .z)) (.c (.s .z) (.c .z .n)))
     replace hs := hs.addNil 5 1
     replace hs := hs.rerow .z (m' := (bodyB t tm b l).length) (xs' := bytesV (bodyB t tm b l)) (by rw [bodyB_err (by omega)]; rfl) (by rw [bodyB_err (by omega)]; rfl)
     exact fin2 hs rfl rfl rfl ⟨_, congrArg (fun z : Nat => Value.tuple #[.slice none 0 0, .int .i64 (z : Int)]) hbe.symm, rfl⟩
    replace hc82 := not_f hc82
    replace hc82 := eq_of_beq hc82
    refine wp_skip ?_
    refine then_n (hK79 _ _ ?_)
    refine wp_seq_k fun K85 hK86 => ?_
    refine wp_region_lit ?_
    refine st_run 2 [(95, v76), (94, p)] hs .n (by kernel_rfl) (by kernel_rfl) (by kernel_rfl) ?_; clear hs a; intro a hs
    refine st_app (size := 1) (bytes := 1) hs rfl rfl (.s .z) (rd_row (hs.mem.del .z)) (oneCell_bytesV _) Try.underlying79 (i := Try.t5) rfl rfl rfl rfl rfl (by decide) (by omega) (by simp only [maxLen]; omega) rfl ?_; clear hs w a; intro v87 a w hs
    refine st_as hs rfl rfl ?_; clear hs w a; intro a w hs
    refine wpList_nil ?_
    refine then_n (hK86 _ _ ?_)
    refine wp_region_lit ?_
    refine st_run 3 [(99, .int .i64 ((j : Int))), (98, u), (97, .pointer (some ⟨g3, 3, none⟩))] hs (.c (hs.mem.del (.s (.s .z))) .n) (by kernel_rfl) (by kernel_rfl) (by kernel_rfl) ?_; clear hs a; intro a hs
    refine st_ia (j := j) hs rfl rfl (hs.rd0 hc) rfl (by omega) Try.underlying25 Try.sizeOf45 rfl ?_; clear hs w a; intro a w hs
    refine st_faV hs rfl (hs.rd0 hc) (by omega) Try.underlying45 rfl Try.sizeOf3 (by decide) (o := j * 9 + 1) rfl rfl ?_; clear hs w a; intro a w hs
    refine st_ld (u := .int .i64 ((l.getD j default).id)) hs rfl (hs.rd0 hc) ((flat_get1 recV_len l j 1 (by omega) (by decide)).trans rfl) Try.isAgg3 rfl ?_; clear hs w a; intro a w hs
    refine st_as hs rfl rfl ?_; clear hs w a; intro a w hs
    refine wpList_nil ?_
    refine in_n ?_
    refine then_n (hK73 _ _ ?_)
    refine wp_region_lit ?_
    refine st_mv hs rfl rfl ?_; clear hs w a; intro a w hs
    refine st_addR hs rfl rfl (by omega) rfl ?_; clear hs w a; intro a w hs
    refine st_as hs rfl rfl ?_; clear hs w a; intro a w hs
    refine wpList_nil ?_
    refine then_n ?_
    have he0 : errAt l j = 0 := by unfold errAt; omega
    replace hs := hs.rerow .z (m' := (gHeadB t tm b l.length).length + (rowE (l.take (j + 1))).1.length) (xs' := bytesV (gHeadB t tm b l.length ++ (rowE (l.take (j + 1))).1)) (by rw [rowE_next (by omega)]; simp only [List.length_append]; omega) (by rw [rowE_next (by omega)]; simp [bytesV])
    replace hs := hs.reslot (d := 6) (v := .int .i64 ((l.getD j default).id)) (v' := .int .i64 ((rowE (l.take (j + 1))).2)) rfl (Option.some.inj (by rw [rowE_next (by omega)]))
    replace hs := hs.drop (.c (.s .z) .n)
    refine ⟨_, ?_, j + 1, v87, rfl, hs.sub (.c rfl (.c rfl (.c rfl (.c rfl .n)))), by omega, recsTo_ok hI1_1 he0⟩
    omega
   replace hc71 := of_decide_eq_false hc71
   refine wp_exit ?_
   refine th_e ?_
   refine th_e ?_
   refine in_hit ?_
   refine then_n (hK64 _ _ ?_)
   refine wp_seq_k fun K88 hK89 => ?_
   refine wp_region_lit ?_
   refine st_run 3 [(3, .int .i64 (0)), (2, p)] hs .n (by kernel_rfl) (by kernel_rfl) (by kernel_rfl) ?_; clear hs a; intro a hs
   refine wpList_nil ?_
   refine then_n (hK89 _ _ ?_)
   refine wp_ret ?_
   have hbe : bodyErr t tm b l = 0 := by first | exact bodyErr_head (by omega) | exact (bodyErr_head (by rw [(show gErr t tm b l.length = _ by first | exact gErr_3 (by omega) | exact gErr_10 (by omega) (by omega) | exact gErr_8 (by omega) (by omega) (by omega))]; decide)).trans (show gErr t tm b l.length = _ by first | exact gErr_3 (by omega) | exact gErr_10 (by omega) (by omega) | exact gErr_8 (by omega) (by omega) (by omega)) | (rw [bodyErr_recs (by omega)]; exact recsErr_at (by omega) hI1_1 (by unfold errAt; omega)) | (rw [bodyErr_recs (by omega)]; unfold recsErr; rw [← show j = l.length by omega]; exact hI1_1)
   replace hs := hs.drop (.c (.s .z) .n)
   have hta : l.take j = l := List.take_of_length_le (by omega)
   replace hs := hs.rerow .z (m' := (bodyB t tm b l).length) (xs' := bytesV (bodyB t tm b l)) (by rw [bodyB_ok hbe, hta]; simp only [List.length_append]) (by rw [bodyB_ok hbe, hta])
   exact fin2 hs rfl rfl rfl ⟨_, congrArg (fun z : Nat => Value.tuple #[p, .int .i64 (z : Int)]) hbe.symm, rfl⟩
  replace hc52 := of_decide_eq_false hc52
  refine wp_skip ?_
  refine then_n (hK49 _ _ ?_)
  refine wp_seq_k fun K90 hK91 => ?_
  refine wp_region_lit ?_
  refine st_run 2 [(64, .int .u64 (0)), (63, v45)] hs .n (by kernel_rfl) (by kernel_rfl) (by kernel_rfl) ?_; clear hs a; intro a hs
  refine st_call hs (.c rfl .n) Try.call53 .n (rput_ok (0#64) _) rfl ?_; clear hs w a; rintro v92 _ a w rfl hs; simp only [List.cons_append, List.nil_append] at hs
  refine st_app (size := 1) (bytes := 1) hs rfl rfl (.s .z) (rd_row (hs.mem.del .z)) (oneCell_bytesV _) Try.underlying79 (i := Try.t5) rfl rfl rfl rfl rfl (by decide) (by omega) (by simp only [maxLen]; omega) rfl ?_; clear hs w a; intro v93 a w hs
  refine st_as hs rfl rfl ?_; clear hs w a; intro a w hs
  refine wpList_nil ?_
  refine then_n (hK91 _ _ ?_)
  refine wp_seq_k fun K94 hK95 => ?_
  refine wp_region_lit ?_
  refine st_run 3 [(69, u), (67, v93)] hs (.c (hs.mem.del (.s (.s (.s (.s .z))))) .n) (by kernel_rfl) (by kernel_rfl) (by kernel_rfl) ?_; clear hs a; intro a hs
  refine st_len hs rfl (hs.rd0 hc).isSl Try.underlying25 rfl ?_; clear hs w a; intro a w hs
  refine st_cv_u64 hs rfl Try.underlying3 Try.underlying99 rfl ?_; clear hs w a; intro a w hs
  refine st_call hs (.c rfl .n) Try.call53 .n (rput_ok (BitVec.ofInt 64 (((l.length : Nat) : Int))) _) rfl ?_; clear hs w a; rintro v96 _ a w rfl hs; simp only [List.cons_append, List.nil_append] at hs
  refine st_app (size := 1) (bytes := 1) hs rfl rfl (.s .z) (rd_row (hs.mem.del .z)) (oneCell_bytesV _) Try.underlying79 (i := Try.t5) rfl rfl rfl rfl rfl (by decide) (by omega) (by simp only [maxLen]; omega) rfl ?_; clear hs w a; intro v97 a w hs
  replace hs := hs.drop (.c (.s (.s (.s (.s .z)))) (.c (.s (.s (.s .z))) (.c (.s (.s .z)) (.c (.s .z) .n))))
  replace hs := hs.rerow .z (m' := (gHeadB t tm b l.length).length) (xs' := bytesV (gHeadB t tm b l.length)) (by rw [gHeadB, gBack]; (first | rw [if_pos (by omega)] | rw [if_neg (by omega)]); simp only [List.length_append, List.length_cons, List.length_nil, vlen]) (by rw [gHeadB, gBack]; (first | rw [if_pos (by omega)] | rw [if_neg (by omega)]); simp [bytesV, byteV])
  have hge : gErr t tm b l.length = 0 := gErr_0 (by omega) (by omega) (by omega)
  refine st_as hs rfl rfl ?_; clear hs w a; intro a w hs
  refine wpList_nil ?_
  refine then_n (hK95 _ _ ?_)
  refine wp_seq_k fun K98 hK99 => ?_
  refine wp_region_lit ?_
  refine st_as hs rfl rfl ?_; clear hs w a; intro a w hs
  refine wpList_nil ?_
  refine then_n (hK99 _ _ ?_)
  refine wp_seq_k fun K100 hK101 => ?_
  refine wp_seq_k fun K102 hK103 => ?_
  refine wp_region_lit ?_
  refine st_as hs rfl rfl ?_; clear hs w a; intro a w hs
  refine wpList_nil ?_
  refine then_n (hK103 _ _ ?_)
  refine wp_block ?_
  replace hs := hs.rerow .z (m' := (gHeadB t tm b l.length).length + (rowE (l.take 0)).1.length) (xs' := bytesV (gHeadB t tm b l.length ++ (rowE (l.take 0)).1)) (by show _ = _ + 0; first | rfl | (simp only [vlen, gHeadB, List.length_append, List.length_cons, List.length_nil]; omega)) (by show _ = bytesV (_ ++ []); rw [List.append_nil])
  refine wp_loopI (fun mm_ a w => ∃ j : Nat, ∃ p : Value, mm_ = l.length - j ∧ St 104 [(1, .pointer (some ⟨g3, 0, none⟩)), (4, p), (6, .int .i64 ((rowE (l.take j)).2)), (7, .int .i64 ((j : Int)))] w0 [] [row p 5 1 ((gHeadB t tm b l.length).length + (rowE (l.take j)).1.length) (bytesV (gHeadB t tm b l.length ++ (rowE (l.take j)).1)), blk g3 [.int .i64 (t), .int .i64 (tm), .int .i64 (b), u] 27] a w ∧ j ≤ l.length ∧ recsTo l j = 0) ⟨0, v97, rfl, hs.sub (.c rfl (.c rfl (.c rfl (.c rfl .n)))), by omega, rfl⟩ ?_
  clear hs w a; rintro mm_ a w ⟨j, p, rfl, hs, hI1_0, hI1_1⟩
  have hll := recsTo_last hI1_0 hI1_1
  have hrl := rowE_len (l.take j)
  have htl : (l.take j).length ≤ j := by rw [List.length_take]; omega
  refine wp_seq_k fun K104 hK105 => ?_
  refine wp_seq_k fun K106 hK107 => ?_
  refine wp_region_lit ?_
  refine st_run 3 [(76, u), (75, .pointer (some ⟨g3, 3, none⟩)), (74, .int .i64 ((j : Int)))] hs (.c (hs.mem.del (.s .z)) .n) (by kernel_rfl) (by kernel_rfl) (by kernel_rfl) ?_; clear hs a; intro a hs
  refine st_len hs rfl (hs.rd0 hc).isSl Try.underlying25 rfl ?_; clear hs w a; intro a w hs
  refine st_lss hs rfl rfl rfl ?_; clear hs w a; intro a w hs
  refine wpList_nil ?_
  refine then_n (hK107 _ _ ?_)
  refine wp_if hs rfl (fun hc108 => ?_) (fun hc108 => ?_)
  ·
   replace hc108 := of_decide_eq_true hc108
   refine wp_skip ?_
   refine then_n (hK105 _ _ ?_)
   refine wp_seq_k fun K109 hK110 => ?_
   refine wp_block ?_
   refine wp_seq_k fun K111 hK112 => ?_
   refine wp_region_lit ?_
   refine st_run 3 [(84, .int .i64 ((j : Int))), (83, u), (82, .pointer (some ⟨g3, 3, none⟩))] hs (.c (hs.mem.del (.s .z)) .n) (by kernel_rfl) (by kernel_rfl) (by kernel_rfl) ?_; clear hs a; intro a hs
   refine st_ia (j := j) hs rfl rfl (hs.rd0 hc) rfl (by omega) Try.underlying25 Try.sizeOf45 rfl ?_; clear hs w a; intro a w hs
   refine st_ldA (cs := recV (l.getD j default)) hs rfl (hs.rd0 hc) (flat_get recV_len l j (by omega)) (by rw [flat_len recV_len]; omega) (by omega) Try.isAgg45 Try.sizeOf45 rfl ?_; clear hs w a; intro a w hs
   refine st_mv hs rfl rfl ?_; clear hs w a; intro a w hs
   refine st_call hs (.c rfl (.c rfl .n)) Try.call55 .n (rwrite_ok (l.getD j default) ((rowE (l.take j)).2) _ (recs_getD hl (by omega)) (by omega)) rfl ?_; clear hs w a; rintro _ _ a w ⟨v113, rfl, rfl⟩ hs; simp only [List.cons_append, List.nil_append] at hs
   have hk114 := length_recB (l.getD j default) ((rowE (l.take j)).2)
   refine st_run 5 [(9, .int .i64 (((recErr (l.getD j default) ((rowE (l.take j)).2) : Nat) : Int))), (8, v113), (90, .int .i64 (((recErr (l.getD j default) ((rowE (l.take j)).2) : Nat) : Int))), (89, v113), (81, .tuple #[v113, .int .i64 (((recErr (l.getD j default) ((rowE (l.take j)).2) : Nat) : Int))])] hs .n (by kernel_rfl) (by kernel_rfl) (by kernel_rfl) ?_; clear hs a; intro a hs
   refine wpList_nil ?_
   refine then_n (hK112 _ _ ?_)
   refine wp_seq_k fun K115 hK116 => ?_
   refine wp_seq_k fun K117 hK118 => ?_
   refine wp_region_lit ?_
   refine st_run 2 [(92, .bool (!((((recErr (l.getD j default) ((rowE (l.take j)).2) : Nat) : Int) : Int) == 0))), (91, .int .i64 (((recErr (l.getD j default) ((rowE (l.take j)).2) : Nat) : Int)))] hs .n (by kernel_rfl) (by kernel_rfl) (by kernel_rfl) ?_; clear hs a; intro a hs
   refine wpList_nil ?_
   refine then_n (hK118 _ _ ?_)
   refine wp_if hs rfl (fun hc119 => ?_) (fun hc119 => ?_)
   ·
    replace hc119 := not_t hc119
    replace hc119 := ne_of_beq_f hc119
    refine wp_seq_k fun K120 hK121 => ?_
    refine wp_region_lit ?_
    refine st_run 3 [(3, .int .i64 (((recErr (l.getD j default) ((rowE (l.take j)).2) : Nat) : Int))), (2, .slice none 0 0), (93, .int .i64 (((recErr (l.getD j default) ((rowE (l.take j)).2) : Nat) : Int)))] hs .n (by kernel_rfl) (by kernel_rfl) (by kernel_rfl) ?_; clear hs a; intro a hs
    refine wpList_nil ?_
    refine then_n (hK121 _ _ ?_)
    refine wp_ret ?_
    refine th_r ?_
    refine in_r ?_
    refine th_r ?_
    refine th_r ?_
    refine in_r ?_
    refine th_r ?_
    have hbe : bodyErr t tm b l = recErr (l.getD j default) ((rowE (l.take j)).2) := by first | exact bodyErr_head (by omega) | exact (bodyErr_head (by rw [(show gErr t tm b l.length = _ by first | exact gErr_3 (by omega) | exact gErr_10 (by omega) (by omega) | exact gErr_8 (by omega) (by omega) (by omega))]; decide)).trans (show gErr t tm b l.length = _ by first | exact gErr_3 (by omega) | exact gErr_10 (by omega) (by omega) | exact gErr_8 (by omega) (by omega) (by omega)) | (rw [bodyErr_recs (by omega)]; exact recsErr_at (by omega) hI1_1 (by unfold errAt; omega)) | (rw [bodyErr_recs (by omega)]; unfold recsErr; rw [← show j = l.length by omega]; exact hI1_1)
    replace hs := hs.drop (.c (.s (.s .z)) (.c (.s .z) (.c .z .n)))
    replace hs := hs.addNil 5 1
    replace hs := hs.rerow .z (m' := (bodyB t tm b l).length) (xs' := bytesV (bodyB t tm b l)) (by rw [bodyB_err (by omega)]; rfl) (by rw [bodyB_err (by omega)]; rfl)
    exact fin2 hs rfl rfl rfl ⟨_, congrArg (fun z : Nat => Value.tuple #[.slice none 0 0, .int .i64 (z : Int)]) hbe.symm, rfl⟩
   replace hc119 := not_f hc119
   replace hc119 := eq_of_beq hc119
   refine wp_skip ?_
   refine then_n (hK116 _ _ ?_)
   refine wp_seq_k fun K122 hK123 => ?_
   refine wp_region_lit ?_
   refine st_run 2 [(95, v113), (94, p)] hs .n (by kernel_rfl) (by kernel_rfl) (by kernel_rfl) ?_; clear hs a; intro a hs
   refine st_app (size := 1) (bytes := 1) hs rfl rfl (.s .z) (rd_row (hs.mem.del .z)) (oneCell_bytesV _) Try.underlying79 (i := Try.t5) rfl rfl rfl rfl rfl (by decide) (by omega) (by simp only [maxLen]; omega) rfl ?_; clear hs w a; intro v124 a w hs
   refine st_as hs rfl rfl ?_; clear hs w a; intro a w hs
   refine wpList_nil ?_
   refine then_n (hK123 _ _ ?_)
   refine wp_region_lit ?_
   refine st_run 3 [(99, .int .i64 ((j : Int))), (98, u), (97, .pointer (some ⟨g3, 3, none⟩))] hs (.c (hs.mem.del (.s (.s .z))) .n) (by kernel_rfl) (by kernel_rfl) (by kernel_rfl) ?_; clear hs a; intro a hs
   refine st_ia (j := j) hs rfl rfl (hs.rd0 hc) rfl (by omega) Try.underlying25 Try.sizeOf45 rfl ?_; clear hs w a; intro a w hs
   refine st_faV hs rfl (hs.rd0 hc) (by omega) Try.underlying45 rfl Try.sizeOf3 (by decide) (o := j * 9 + 1) rfl rfl ?_; clear hs w a; intro a w hs
   refine st_ld (u := .int .i64 ((l.getD j default).id)) hs rfl (hs.rd0 hc) ((flat_get1 recV_len l j 1 (by omega) (by decide)).trans rfl) Try.isAgg3 rfl ?_; clear hs w a; intro a w hs
   refine st_as hs rfl rfl ?_; clear hs w a; intro a w hs
   refine wpList_nil ?_
   refine in_n ?_
   refine then_n (hK110 _ _ ?_)
   refine wp_region_lit ?_
   refine st_mv hs rfl rfl ?_; clear hs w a; intro a w hs
   refine st_addR hs rfl rfl (by omega) rfl ?_; clear hs w a; intro a w hs
   refine st_as hs rfl rfl ?_; clear hs w a; intro a w hs
   refine wpList_nil ?_
   refine then_n ?_
   have he0 : errAt l j = 0 := by unfold errAt; omega
   replace hs := hs.rerow .z (m' := (gHeadB t tm b l.length).length + (rowE (l.take (j + 1))).1.length) (xs' := bytesV (gHeadB t tm b l.length ++ (rowE (l.take (j + 1))).1)) (by rw [rowE_next (by omega)]; simp only [List.length_append]; omega) (by rw [rowE_next (by omega)]; simp [bytesV])
   replace hs := hs.reslot (d := 6) (v := .int .i64 ((l.getD j default).id)) (v' := .int .i64 ((rowE (l.take (j + 1))).2)) rfl (Option.some.inj (by rw [rowE_next (by omega)]))
   replace hs := hs.drop (.c (.s .z) .n)
   refine ⟨_, ?_, j + 1, v124, rfl, hs.sub (.c rfl (.c rfl (.c rfl (.c rfl .n)))), by omega, recsTo_ok hI1_1 he0⟩
   omega
  replace hc108 := of_decide_eq_false hc108
  refine wp_exit ?_
  refine th_e ?_
  refine th_e ?_
  refine in_hit ?_
  refine then_n (hK101 _ _ ?_)
  refine wp_seq_k fun K125 hK126 => ?_
  refine wp_region_lit ?_
  refine st_run 3 [(3, .int .i64 (0)), (2, p)] hs .n (by kernel_rfl) (by kernel_rfl) (by kernel_rfl) ?_; clear hs a; intro a hs
  refine wpList_nil ?_
  refine then_n (hK126 _ _ ?_)
  refine wp_ret ?_
  have hbe : bodyErr t tm b l = 0 := by first | exact bodyErr_head (by omega) | exact (bodyErr_head (by rw [(show gErr t tm b l.length = _ by first | exact gErr_3 (by omega) | exact gErr_10 (by omega) (by omega) | exact gErr_8 (by omega) (by omega) (by omega))]; decide)).trans (show gErr t tm b l.length = _ by first | exact gErr_3 (by omega) | exact gErr_10 (by omega) (by omega) | exact gErr_8 (by omega) (by omega) (by omega)) | (rw [bodyErr_recs (by omega)]; exact recsErr_at (by omega) hI1_1 (by unfold errAt; omega)) | (rw [bodyErr_recs (by omega)]; unfold recsErr; rw [← show j = l.length by omega]; exact hI1_1)
  replace hs := hs.drop (.c (.s .z) .n)
  have hta : l.take j = l := List.take_of_length_le (by omega)
  replace hs := hs.rerow .z (m' := (bodyB t tm b l).length) (xs' := bytesV (bodyB t tm b l)) (by rw [bodyB_ok hbe, hta]; simp only [List.length_append]) (by rw [bodyB_ok hbe, hta])
  exact fin2 hs rfl rfl rfl ⟨_, congrArg (fun z : Nat => Value.tuple #[p, .int .i64 (z : Int)]) hbe.symm, rfl⟩
theorem mcheck_ok (t tm b : Int) (u : Value) (l : List RecR) (w0 : World) (ht_ : -9223372036854775808 ≤ t ∧ t ≤ 9223372036854775807) (htm_ : -9223372036854775808 ≤ tm ∧ tm ≤ 9223372036854775807) (hb_ : -9223372036854775808 ≤ b ∧ b ≤ 9223372036854775807) (hc : Rd w0 [] u 9 l.length (l.flatMap recV)) (hl : ∀ x ∈ l, x.wf) : Calls Try.prog 30 #[.agg #[.int .i64 t, .int .i64 tm, .int .i64 b, u]] w0 (RetV w0 (.int .i64 ((bodyErr t tm b l : Nat) : Int))) := by
  have hce := hc.le
  simp only [maxLen] at hce
  refine enter (F0 := [(0, .agg #[.int .i64 (t), .int .i64 (tm), .int .i64 (b), u])]) Try.func30 rfl rfl rfl (.c .n) (Mem.nil _) fun a w hs => ?_
  refine wp_seq_k fun K1 hK2 => ?_
  refine wp_region_lit ?_
  refine st_box (cs := [.int .i64 (t), .int .i64 (tm), .int .i64 (b), u]) hs rfl rfl rfl ?_; clear hs w a; intro g3 a w hs
  refine st_as hs rfl rfl ?_; clear hs w a; intro a w hs
  refine wpList_nil ?_
  refine then_n (hK2 _ _ ?_)
  refine wp_seq_k fun K4 hK5 => ?_
  refine wp_region_lit ?_
  refine st_ldBA hs rfl .z (.z (.c (.c (.c (.c .n))))) Try.isAgg27 Try.sizeOf27 rfl ?_; clear hs w a; intro a w hs
  refine st_call hs (.c rfl .n) Try.call43 .n (mbody_ok t tm b _ l _ (by omega) (by omega) (by omega) (hs.rd0 hc) hl) rfl ?_; clear hs w a; rintro _ _ a w ⟨v6, rfl, rfl⟩ hs; simp only [List.cons_append, List.nil_append] at hs
  have hk7 := length_bodyB t tm b l
  refine st_run 5 [(4, .int .i64 (((bodyErr t tm b l : Nat) : Int)))] hs .n (by kernel_rfl) (by kernel_rfl) (by kernel_rfl) ?_; clear hs a; intro a hs
  refine wpList_nil ?_
  refine then_n (hK5 _ _ ?_)
  refine wp_seq_k fun K8 hK9 => ?_
  refine wp_region_lit ?_
  refine st_run 2 [(2, .int .i64 (((bodyErr t tm b l : Nat) : Int)))] hs .n (by kernel_rfl) (by kernel_rfl) (by kernel_rfl) ?_; clear hs a; intro a hs
  refine wpList_nil ?_
  refine then_n (hK9 _ _ ?_)
  refine wp_ret ?_
  replace hs := hs.drop (.c (.s .z) (.c .z .n))
  exact fin hs rfl rfl ⟨rfl, rfl⟩
end Go.Proofs.Ytbioemaipghagaa
