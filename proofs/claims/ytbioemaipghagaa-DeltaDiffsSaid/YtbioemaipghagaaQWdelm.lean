/- Walks of the document's snapshots: what each function does, over the program of this seat. Printed by a program of this session. -/
import Derived.Test.YtbioemaipghagaaQSxPdeltaM
import Derived.Test.YtbioemaipghagaaQSxRrd
import Derived.Test.YtbioemaipghagaaQSxS
import Derived.Test.YtbioemaipghagaaQSxBasB
import Derived.Test.YtbioemaipghagaaProg
namespace Go.Proofs.Ytbioemaipghagaa
open Go Go.Sx Go.RowKit
set_option linter.unusedVariables false
set_option linter.unusedSimpArgs false
set_option maxRecDepth 4000
set_option maxHeartbeats 1000000

theorem mscheck_ok (t tm : Int) (u : Value) (l : List EntR) (w0 : World) (ht_ : -9223372036854775808 ≤ t ∧ t ≤ 9223372036854775807) (htm_ : -9223372036854775808 ≤ tm ∧ tm ≤ 9223372036854775807) (hc : Rd w0 [] u 9 l.length (l.flatMap entV)) : Calls Try.prog 23 #[.agg #[.int .i64 (t), .int .i64 (tm), u]] w0 (RetV w0 (.int .i64 ((snapErr t tm l : Nat) : Int))) := by
  have hce := hc.le
  simp only [maxLen] at hce
  refine enter (F0 := [(0, .agg #[.int .i64 (t), .int .i64 (tm), u])]) Try.func23 rfl rfl rfl (.c .n) (Mem.nil _) fun a w hs => ?_
  refine wp_seq_k fun K1 hK2 => ?_
  refine wp_region_lit ?_
  refine st_box (cs := [.int .i64 (t), .int .i64 (tm), u]) hs rfl rfl rfl ?_; clear hs w a; intro g3 a w hs
  refine st_as hs rfl rfl ?_; clear hs w a; intro a w hs
  refine wpList_nil ?_
  refine then_n (hK2 _ _ ?_)
  refine wp_seq_k fun K4 hK5 => ?_
  refine wp_seq_k fun K6 hK7 => ?_
  refine wp_region_lit ?_
  refine st_run 4 [(7, .bool (decide (t < 0)))] hs (.c (hs.mem.del .z) .n) (by kernel_rfl) (by kernel_rfl) (by kernel_rfl) ?_; clear hs a; intro a hs
  refine st_part (b := decide (t < 0)) (fun hc8 => ?_) (fun hc8 => ?_)
  ·
   rw [hc8] at hs
   replace hc8 := of_decide_eq_true hc8
   refine st_run 14 [(21, .bool (true))] hs .n (by kernel_rfl) (by kernel_rfl) (by kernel_rfl) ?_; clear hs a; intro a hs
   refine wpList_nil ?_
   refine then_n (hK7 _ _ ?_)
   refine wp_cond_true (hs.ev rfl) ?_
   refine wp_seq_k fun K9 hK10 => ?_
   refine wp_region_lit ?_
   refine st_as hs rfl rfl ?_; clear hs w a; intro a w hs
   refine wpList_nil ?_
   refine then_n (hK10 _ _ ?_)
   refine wp_ret ?_
   refine th_r ?_
   replace hs := hs.drop (.c .z .n)
   exact fin hs rfl rfl ⟨congrArg (fun z : Nat => Value.int .i64 (z : Int)) (show 3 = snapErr t tm l from by first | exact (snapErr_3 (by omega)).symm | exact (snapErr_4 (by omega) (by omega)).symm | (rw [snapErr_e (by omega) (by omega)]; first | exact ((entsErr_at (j := j) (by omega) hI1_1 (by rw [entAt_3 (by omega)]; decide)).trans (entAt_3 (by omega))).symm | exact ((entsErr_at (j := j) (by omega) hI1_1 (by rw [entAt_10 (by omega) (by omega)]; decide)).trans (entAt_10 (by omega) (by omega))).symm | (unfold entsErr; rw [← show j = l.length by omega]; exact hI1_1.symm))), rfl⟩
  rw [hc8] at hs
  replace hc8 := of_decide_eq_false hc8
  refine st_run 5 [(12, .bool (decide (4294967295 < t)))] hs (.c (hs.mem.del .z) .n) (by kernel_rfl) (by kernel_rfl) (by kernel_rfl) ?_; clear hs a; intro a hs
  refine st_part (b := decide (4294967295 < t)) (fun hc11 => ?_) (fun hc11 => ?_)
  ·
   rw [hc11] at hs
   replace hc11 := of_decide_eq_true hc11
   refine st_run 9 [(21, .bool (true))] hs .n (by kernel_rfl) (by kernel_rfl) (by kernel_rfl) ?_; clear hs a; intro a hs
   refine wpList_nil ?_
   refine then_n (hK7 _ _ ?_)
   refine wp_cond_true (hs.ev rfl) ?_
   refine wp_seq_k fun K12 hK13 => ?_
   refine wp_region_lit ?_
   refine st_as hs rfl rfl ?_; clear hs w a; intro a w hs
   refine wpList_nil ?_
   refine then_n (hK13 _ _ ?_)
   refine wp_ret ?_
   refine th_r ?_
   replace hs := hs.drop (.c .z .n)
   exact fin hs rfl rfl ⟨congrArg (fun z : Nat => Value.int .i64 (z : Int)) (show 3 = snapErr t tm l from by first | exact (snapErr_3 (by omega)).symm | exact (snapErr_4 (by omega) (by omega)).symm | (rw [snapErr_e (by omega) (by omega)]; first | exact ((entsErr_at (j := j) (by omega) hI1_1 (by rw [entAt_3 (by omega)]; decide)).trans (entAt_3 (by omega))).symm | exact ((entsErr_at (j := j) (by omega) hI1_1 (by rw [entAt_10 (by omega) (by omega)]; decide)).trans (entAt_10 (by omega) (by omega))).symm | (unfold entsErr; rw [← show j = l.length by omega]; exact hI1_1.symm))), rfl⟩
  rw [hc11] at hs
  replace hc11 := of_decide_eq_false hc11
  refine st_run 5 [(17, .bool (decide (tm < (-2305843009213693952))))] hs (.c (hs.mem.del .z) .n) (by kernel_rfl) (by kernel_rfl) (by kernel_rfl) ?_; clear hs a; intro a hs
  refine st_part (b := decide (tm < (-2305843009213693952))) (fun hc14 => ?_) (fun hc14 => ?_)
  ·
   rw [hc14] at hs
   replace hc14 := of_decide_eq_true hc14
   refine st_run 4 [(21, .bool (true))] hs .n (by kernel_rfl) (by kernel_rfl) (by kernel_rfl) ?_; clear hs a; intro a hs
   refine wpList_nil ?_
   refine then_n (hK7 _ _ ?_)
   refine wp_cond_true (hs.ev rfl) ?_
   refine wp_seq_k fun K15 hK16 => ?_
   refine wp_region_lit ?_
   refine st_as hs rfl rfl ?_; clear hs w a; intro a w hs
   refine wpList_nil ?_
   refine then_n (hK16 _ _ ?_)
   refine wp_ret ?_
   refine th_r ?_
   replace hs := hs.drop (.c .z .n)
   exact fin hs rfl rfl ⟨congrArg (fun z : Nat => Value.int .i64 (z : Int)) (show 3 = snapErr t tm l from by first | exact (snapErr_3 (by omega)).symm | exact (snapErr_4 (by omega) (by omega)).symm | (rw [snapErr_e (by omega) (by omega)]; first | exact ((entsErr_at (j := j) (by omega) hI1_1 (by rw [entAt_3 (by omega)]; decide)).trans (entAt_3 (by omega))).symm | exact ((entsErr_at (j := j) (by omega) hI1_1 (by rw [entAt_10 (by omega) (by omega)]; decide)).trans (entAt_10 (by omega) (by omega))).symm | (unfold entsErr; rw [← show j = l.length by omega]; exact hI1_1.symm))), rfl⟩
  rw [hc14] at hs
  replace hc14 := of_decide_eq_false hc14
  refine st_run 4 [(21, .bool (decide (2305843009213693952 < tm)))] hs (.c (hs.mem.del .z) .n) (by kernel_rfl) (by kernel_rfl) (by kernel_rfl) ?_; clear hs a; intro a hs
  refine wpList_nil ?_
  refine then_n (hK7 _ _ ?_)
  refine wp_if hs rfl (fun hc17 => ?_) (fun hc17 => ?_)
  ·
   replace hc17 := of_decide_eq_true hc17
   refine wp_seq_k fun K18 hK19 => ?_
   refine wp_region_lit ?_
   refine st_as hs rfl rfl ?_; clear hs w a; intro a w hs
   refine wpList_nil ?_
   refine then_n (hK19 _ _ ?_)
   refine wp_ret ?_
   refine th_r ?_
   replace hs := hs.drop (.c .z .n)
   exact fin hs rfl rfl ⟨congrArg (fun z : Nat => Value.int .i64 (z : Int)) (show 3 = snapErr t tm l from by first | exact (snapErr_3 (by omega)).symm | exact (snapErr_4 (by omega) (by omega)).symm | (rw [snapErr_e (by omega) (by omega)]; first | exact ((entsErr_at (j := j) (by omega) hI1_1 (by rw [entAt_3 (by omega)]; decide)).trans (entAt_3 (by omega))).symm | exact ((entsErr_at (j := j) (by omega) hI1_1 (by rw [entAt_10 (by omega) (by omega)]; decide)).trans (entAt_10 (by omega) (by omega))).symm | (unfold entsErr; rw [← show j = l.length by omega]; exact hI1_1.symm))), rfl⟩
  replace hc17 := of_decide_eq_false hc17
  refine wp_skip ?_
  refine then_n (hK5 _ _ ?_)
  refine wp_seq_k fun K20 hK21 => ?_
  refine wp_seq_k fun K22 hK23 => ?_
  refine wp_region_lit ?_
  refine st_run 2 [(23, u)] hs (.c (hs.mem.del .z) .n) (by kernel_rfl) (by kernel_rfl) (by kernel_rfl) ?_; clear hs a; intro a hs
  refine st_len hs rfl (hs.rd0 hc).isSl Try.underlying22 rfl ?_; clear hs w a; intro a w hs
  refine st_gtr hs rfl rfl rfl ?_; clear hs w a; intro a w hs
  refine wpList_nil ?_
  refine then_n (hK23 _ _ ?_)
  refine wp_if hs rfl (fun hc24 => ?_) (fun hc24 => ?_)
  ·
   replace hc24 := of_decide_eq_true hc24
   refine wp_seq_k fun K25 hK26 => ?_
   refine wp_region_lit ?_
   refine st_as hs rfl rfl ?_; clear hs w a; intro a w hs
   refine wpList_nil ?_
   refine then_n (hK26 _ _ ?_)
   refine wp_ret ?_
   refine th_r ?_
   replace hs := hs.drop (.c .z .n)
   exact fin hs rfl rfl ⟨congrArg (fun z : Nat => Value.int .i64 (z : Int)) (show 4 = snapErr t tm l from by first | exact (snapErr_3 (by omega)).symm | exact (snapErr_4 (by omega) (by omega)).symm | (rw [snapErr_e (by omega) (by omega)]; first | exact ((entsErr_at (j := j) (by omega) hI1_1 (by rw [entAt_3 (by omega)]; decide)).trans (entAt_3 (by omega))).symm | exact ((entsErr_at (j := j) (by omega) hI1_1 (by rw [entAt_10 (by omega) (by omega)]; decide)).trans (entAt_10 (by omega) (by omega))).symm | (unfold entsErr; rw [← show j = l.length by omega]; exact hI1_1.symm))), rfl⟩
  replace hc24 := of_decide_eq_false hc24
  refine wp_skip ?_
  refine then_n (hK21 _ _ ?_)
  refine wp_seq_k fun K27 hK28 => ?_
  refine wp_seq_k fun K29 hK30 => ?_
  refine wp_region_lit ?_
  refine st_as hs rfl rfl ?_; clear hs w a; intro a w hs
  refine wpList_nil ?_
  refine then_n (hK30 _ _ ?_)
  refine wp_block ?_
  refine wp_loopI (fun mm_ a w => ∃ j : Nat, mm_ = l.length - j ∧ St 67 [(1, .pointer (some ⟨g3, 0, none⟩)), (3, .int .i64 ((j : Int)))] w0 [] [blk g3 [.int .i64 (t), .int .i64 (tm), u] 24] a w ∧ j ≤ l.length ∧ entTo l j = 0) ⟨0, rfl, hs.sub (.c rfl (.c rfl .n)), by omega, rfl⟩ ?_
  clear hs w a; rintro mm_ a w ⟨j, rfl, hs, hI1_0, hI1_1⟩
  have hel := entLast_eq l j
  refine wp_seq_k fun K31 hK32 => ?_
  refine wp_seq_k fun K33 hK34 => ?_
  refine wp_region_lit ?_
  refine st_run 3 [(28, u), (27, .pointer (some ⟨g3, 2, none⟩)), (26, .int .i64 ((j : Int)))] hs (.c (hs.mem.del .z) .n) (by kernel_rfl) (by kernel_rfl) (by kernel_rfl) ?_; clear hs a; intro a hs
  refine st_len hs rfl (hs.rd0 hc).isSl Try.underlying22 rfl ?_; clear hs w a; intro a w hs
  refine st_lss hs rfl rfl rfl ?_; clear hs w a; intro a w hs
  refine wpList_nil ?_
  refine then_n (hK34 _ _ ?_)
  refine wp_if hs rfl (fun hc35 => ?_) (fun hc35 => ?_)
  ·
   replace hc35 := of_decide_eq_true hc35
   refine wp_skip ?_
   refine then_n (hK32 _ _ ?_)
   refine wp_seq_k fun K36 hK37 => ?_
   refine wp_block ?_
   refine wp_seq_k fun K38 hK39 => ?_
   refine wp_seq_k fun K40 hK41 => ?_
   refine wp_region_lit ?_
   refine st_run 3 [(35, .int .i64 ((j : Int))), (34, u), (33, .pointer (some ⟨g3, 2, none⟩))] hs (.c (hs.mem.del .z) .n) (by kernel_rfl) (by kernel_rfl) (by kernel_rfl) ?_; clear hs a; intro a hs
   refine st_ia (j := j) hs rfl rfl (hs.rd0 hc) rfl (by omega) Try.underlying22 Try.sizeOf47 rfl ?_; clear hs w a; intro a w hs
   refine st_faV hs rfl (hs.rd0 hc) (by omega) Try.underlying47 rfl Try.sizeOf3 (by decide) (o := j * 9 + 0) rfl rfl ?_; clear hs w a; intro a w hs
   refine st_ld (u := .int .i64 ((l.getD j default).id)) hs rfl (hs.rd0 hc) ((flat_get1 entV_len l j 0 (by omega) (by decide)).trans rfl) Try.isAgg3 rfl ?_; clear hs w a; intro a w hs
   refine st_run 2 [(40, .bool (decide (((l.getD j default).id) < 0))), (39, .bool (decide (((l.getD j default).id) < 0)))] hs .n (by kernel_rfl) (by kernel_rfl) (by kernel_rfl) ?_; clear hs a; intro a hs
   refine st_part (b := decide (((l.getD j default).id) < 0)) (fun hc42 => ?_) (fun hc42 => ?_)
   ·
    rw [hc42] at hs
    replace hc42 := of_decide_eq_true hc42
    refine st_run 8 [(48, .bool (true)), (47, undef), (46, undef), (45, undef), (44, undef), (43, undef), (42, undef), (41, undef)] hs .n (by kernel_rfl) (by kernel_rfl) (by kernel_rfl) ?_; clear hs a; intro a hs
    refine wpList_nil ?_
    refine then_n (hK41 _ _ ?_)
    refine wp_cond_true (hs.ev rfl) ?_
    refine wp_seq_k fun K43 hK44 => ?_
    refine wp_region_lit ?_
    refine st_as hs rfl rfl ?_; clear hs w a; intro a w hs
    refine wpList_nil ?_
    refine then_n (hK44 _ _ ?_)
    refine wp_ret ?_
    refine th_r ?_
    refine in_r ?_
    refine th_r ?_
    refine th_r ?_
    refine in_r ?_
    refine th_r ?_
    replace hs := hs.drop (.c .z .n)
    exact fin hs rfl rfl ⟨congrArg (fun z : Nat => Value.int .i64 (z : Int)) (show 3 = snapErr t tm l from by first | exact (snapErr_3 (by omega)).symm | exact (snapErr_4 (by omega) (by omega)).symm | (rw [snapErr_e (by omega) (by omega)]; first | exact ((entsErr_at (j := j) (by omega) hI1_1 (by rw [entAt_3 (by omega)]; decide)).trans (entAt_3 (by omega))).symm | exact ((entsErr_at (j := j) (by omega) hI1_1 (by rw [entAt_10 (by omega) (by omega)]; decide)).trans (entAt_10 (by omega) (by omega))).symm | (unfold entsErr; rw [← show j = l.length by omega]; exact hI1_1.symm))), rfl⟩
   rw [hc42] at hs
   replace hc42 := of_decide_eq_false hc42
   refine st_run 3 [(43, .int .i64 ((j : Int))), (42, u), (41, .pointer (some ⟨g3, 2, none⟩))] hs (.c (hs.mem.del .z) .n) (by kernel_rfl) (by kernel_rfl) (by kernel_rfl) ?_; clear hs a; intro a hs
   refine st_guardT hs rfl rfl rfl ?_
   refine st_ia (j := j) hs rfl rfl (hs.rd0 hc) rfl (by omega) Try.underlying22 Try.sizeOf47 rfl ?_; clear hs w a; intro a w hs
   refine st_guardT hs rfl rfl rfl ?_
   refine st_faV hs rfl (hs.rd0 hc) (by omega) Try.underlying47 rfl Try.sizeOf3 (by decide) (o := j * 9 + 0) rfl rfl ?_; clear hs w a; intro a w hs
   refine st_guardT hs rfl rfl rfl ?_
   refine st_ld (u := .int .i64 ((l.getD j default).id)) hs rfl (hs.rd0 hc) ((flat_get1 entV_len l j 0 (by omega) (by decide)).trans rfl) Try.isAgg3 rfl ?_; clear hs w a; intro a w hs
   refine st_run 2 [(48, .bool (decide (65535 < ((l.getD j default).id)))), (47, .bool (decide (65535 < ((l.getD j default).id))))] hs .n (by kernel_rfl) (by kernel_rfl) (by kernel_rfl) ?_; clear hs a; intro a hs
   refine wpList_nil ?_
   refine then_n (hK41 _ _ ?_)
   refine wp_if hs rfl (fun hc45 => ?_) (fun hc45 => ?_)
   ·
    replace hc45 := of_decide_eq_true hc45
    refine wp_seq_k fun K46 hK47 => ?_
    refine wp_region_lit ?_
    refine st_as hs rfl rfl ?_; clear hs w a; intro a w hs
    refine wpList_nil ?_
    refine then_n (hK47 _ _ ?_)
    refine wp_ret ?_
    refine th_r ?_
    refine in_r ?_
    refine th_r ?_
    refine th_r ?_
    refine in_r ?_
    refine th_r ?_
    replace hs := hs.drop (.c .z .n)
    exact fin hs rfl rfl ⟨congrArg (fun z : Nat => Value.int .i64 (z : Int)) (show 3 = snapErr t tm l from by first | exact (snapErr_3 (by omega)).symm | exact (snapErr_4 (by omega) (by omega)).symm | (rw [snapErr_e (by omega) (by omega)]; first | exact ((entsErr_at (j := j) (by omega) hI1_1 (by rw [entAt_3 (by omega)]; decide)).trans (entAt_3 (by omega))).symm | exact ((entsErr_at (j := j) (by omega) hI1_1 (by rw [entAt_10 (by omega) (by omega)]; decide)).trans (entAt_10 (by omega) (by omega))).symm | (unfold entsErr; rw [← show j = l.length by omega]; exact hI1_1.symm))), rfl⟩
   replace hc45 := of_decide_eq_false hc45
   refine wp_skip ?_
   refine then_n (hK39 _ _ ?_)
   refine wp_seq_k fun K48 hK49 => ?_
   by_cases cz : 0 < j
   ·
    replace hs := hs.sub (F' := [(48, .bool (decide (65535 < ((l.getD j default).id)))), (47, .bool (decide (65535 < ((l.getD j default).id)))), (46, .int .i64 ((l.getD j default).id)), (45, .pointer (some (adr u (j * 9 + 0)))), (44, .pointer (some (adr u (j * 9)))), (43, .int .i64 ((j : Int))), (42, u), (41, .pointer (some ⟨g3, 2, none⟩)), (40, .bool (false)), (39, .bool (false)), (38, .int .i64 ((l.getD j default).id)), (37, .pointer (some (adr u (j * 9 + 0)))), (36, .pointer (some (adr u (j * 9)))), (35, .int .i64 ((j : Int))), (34, u), (33, .pointer (some ⟨g3, 2, none⟩)), (30, .bool (decide ((j : Int) < (((l.length : Nat) : Int))))), (29, .int .i64 (((l.length : Nat) : Int))), (28, u), (27, .pointer (some ⟨g3, 2, none⟩)), (26, .int .i64 ((j : Int))), (1, .pointer (some ⟨g3, 0, none⟩)), (3, .int .i64 ((j : Int)))]) (.c rfl (.c rfl (.c rfl (.c rfl (.c rfl (.c rfl (.c rfl (.c rfl (.c rfl (.c rfl (.c rfl (.c rfl (.c rfl (.c rfl (.c rfl (.c rfl (.c rfl (.c rfl (.c rfl (.c rfl (.c rfl (.c rfl (.c rfl .n)))))))))))))))))))))))
    refine wp_drawG (M0 := [blk g3 [.int .i64 (t), .int .i64 (tm), u] 24]) (Ds := [Pv 0 (.int .i64 ((j : Int))), Pv 1 (.bool (true)), Pv 2 (.bool (true)), Pv 3 (.pointer (some ⟨g3, 2, none⟩)), Pv 4 u, Pv 5 (.int .i64 ((j : Int))), Pv 6 (.pointer (some (adr u (j * 9)))), Pv 7 (.pointer (some (adr u (j * 9 + 0)))), Pv 8 (.int .i64 ((l.getD j default).id)), Pv 9 (.pointer (some ⟨g3, 2, none⟩)), Pv 10 u, Pv 11 (.int .i64 ((j : Int))), Pv 12 (.int .i64 (((j - 1 : Nat) : Int))), Pv 13 (.pointer (some (adr u ((j - 1) * 9)))), Pv 14 (.pointer (some (adr u ((j - 1) * 9 + 0)))), Pv 15 (.int .i64 (((l.getD (j - 1) default)).id)), Pv 16 (.bool (decide (((l.getD j default).id) ≤ (((l.getD (j - 1) default)).id)))), Pv 17 (.bool (decide (((l.getD j default).id) ≤ (((l.getD (j - 1) default)).id))))]) (by kernel_rfl) hs rfl .n (by kernel_rfl) (by kernel_rfl) (by kernel_rfl) ?_ ?_
    ·
     refine (.c ?_ (.c ?_ (.c ?_ (.c ?_ (.c ?_ (.c ?_ (.c ?_ (.c ?_ (.c ?_ (.c ?_ (.c ?_ (.c ?_ (.c ?_ (.c ?_ (.c ?_ (.c ?_ (.c ?_ (.c ?_ .n))))))))))))))))))
     · exact trip_pv (m := 18) .n (fun hm0 hm hx => .n) (by kernel_rfl) (by kernel_rfl) rfl
     ·
      intro a_ w_ R_ rest_ vs50 hm hs ht hx
      have hm0 := hm.mid
      replace hs := hs.lrn (ht 0 (twB_spec 18 _ (by kernel_rfl))) rfl rfl
      have hs0 := hs.bare
      refine st_gtr hs rfl rfl rfl ?_; clear hs; intro a w hs
      have hb_ : (decide (0 < (j : Int))) = true := decide_eq_true (by omega)
      rw [hb_] at hs; clear hb_
      exact wpList_nil ⟨rfl, _, _, hs0, (.c .r), hs, rfl⟩
     · exact trip_pv (m := 18) (.c (k := 1) (by kernel_rfl) rfl rfl .n) (fun hm0 hm hx => .n) (by kernel_rfl) (by kernel_rfl) rfl
     · exact trip_pg (m := 18) rfl (.c (k := 2) (by kernel_rfl) rfl rfl .n) rfl (fun hm0 hm hx => .n) (by kernel_rfl) (by kernel_rfl) rfl
     · exact trip_pg (m := 18) rfl (.c (k := 2) (by kernel_rfl) rfl rfl (.c (k := 3) (by kernel_rfl) rfl rfl .n)) rfl (fun hm0 hm hx => (.c (hm0.del .z))) (by kernel_rfl) (by kernel_rfl) rfl
     · exact trip_pg (m := 18) rfl (.c (k := 2) (by kernel_rfl) rfl rfl .n) rfl (fun hm0 hm hx => .n) (by kernel_rfl) (by kernel_rfl) rfl
     ·
      intro a_ w_ R_ rest_ vs50 hm hs ht hx
      have hm0 := hm.mid
      replace hs := hs.lrn (ht 2 (twB_spec 18 _ (by kernel_rfl))) rfl rfl
      replace hs := hs.lrn (ht 4 (twB_spec 18 _ (by kernel_rfl))) rfl rfl
      replace hs := hs.lrn (ht 5 (twB_spec 18 _ (by kernel_rfl))) rfl rfl
      have hs0 := hs.bare
      refine st_guardT hs rfl rfl rfl ?_
      refine st_ia (j := j) hs rfl rfl (hm.rd0 hc) rfl (by omega) Try.underlying22 Try.sizeOf47 rfl ?_; clear hs; intro a w hs
      exact wpList_nil ⟨rfl, _, _, hs0, (.c (.c (.c .r))), hs, rfl⟩
     ·
      intro a_ w_ R_ rest_ vs50 hm hs ht hx
      have hm0 := hm.mid
      replace hs := hs.lrn (ht 2 (twB_spec 18 _ (by kernel_rfl))) rfl rfl
      replace hs := hs.lrn (ht 6 (twB_spec 18 _ (by kernel_rfl))) rfl rfl
      have hs0 := hs.bare
      refine st_guardT hs rfl rfl rfl ?_
      refine st_faV hs rfl (hm.rd0 hc) (by omega) Try.underlying47 rfl Try.sizeOf3 (by decide) (o := j * 9 + 0) rfl rfl ?_; clear hs; intro a w hs
      exact wpList_nil ⟨rfl, _, _, hs0, (.c (.c .r)), hs, rfl⟩
     ·
      intro a_ w_ R_ rest_ vs50 hm hs ht hx
      have hm0 := hm.mid
      replace hs := hs.lrn (ht 2 (twB_spec 18 _ (by kernel_rfl))) rfl rfl
      replace hs := hs.lrn (ht 7 (twB_spec 18 _ (by kernel_rfl))) rfl rfl
      have hs0 := hs.bare
      refine st_guardT hs rfl rfl rfl ?_
      refine st_ld (u := .int .i64 ((l.getD j default).id)) hs rfl (hm.rd0 hc) ((flat_get1 entV_len l j 0 (by omega) (by decide)).trans rfl) Try.isAgg3 rfl ?_; clear hs; intro a w hs
      exact wpList_nil ⟨rfl, _, _, hs0, (.c (.c .r)), hs, rfl⟩
     · exact trip_pg (m := 18) rfl (.c (k := 2) (by kernel_rfl) rfl rfl .n) rfl (fun hm0 hm hx => .n) (by kernel_rfl) (by kernel_rfl) rfl
     · exact trip_pg (m := 18) rfl (.c (k := 2) (by kernel_rfl) rfl rfl (.c (k := 9) (by kernel_rfl) rfl rfl .n)) rfl (fun hm0 hm hx => (.c (hm0.del .z))) (by kernel_rfl) (by kernel_rfl) rfl
     · exact trip_pg (m := 18) rfl (.c (k := 2) (by kernel_rfl) rfl rfl .n) rfl (fun hm0 hm hx => .n) (by kernel_rfl) (by kernel_rfl) rfl
     ·
      intro a_ w_ R_ rest_ vs50 hm hs ht hx
      have hm0 := hm.mid
      replace hs := hs.lrn (ht 2 (twB_spec 18 _ (by kernel_rfl))) rfl rfl
      replace hs := hs.lrn (ht 11 (twB_spec 18 _ (by kernel_rfl))) rfl rfl
      have hs0 := hs.bare
      refine st_guardT hs rfl rfl rfl ?_
      refine st_subR hs rfl rfl (by omega) rfl ?_; clear hs; intro a w hs
      have hv_ : ((j : Int) - 1 : Int) = (((j - 1 : Nat) : Int) : Int) := by omega
      rw [hv_] at hs; clear hv_
      exact wpList_nil ⟨rfl, _, _, hs0, (.c (.c .r)), hs, rfl⟩
     ·
      intro a_ w_ R_ rest_ vs50 hm hs ht hx
      have hm0 := hm.mid
      replace hs := hs.lrn (ht 2 (twB_spec 18 _ (by kernel_rfl))) rfl rfl
      replace hs := hs.lrn (ht 10 (twB_spec 18 _ (by kernel_rfl))) rfl rfl
      replace hs := hs.lrn (ht 12 (twB_spec 18 _ (by kernel_rfl))) rfl rfl
      have hs0 := hs.bare
      refine st_guardT hs rfl rfl rfl ?_
      refine st_ia (j := (j - 1)) hs rfl rfl (hm.rd0 hc) rfl (by omega) Try.underlying22 Try.sizeOf47 rfl ?_; clear hs; intro a w hs
      exact wpList_nil ⟨rfl, _, _, hs0, (.c (.c (.c .r))), hs, rfl⟩
     ·
      intro a_ w_ R_ rest_ vs50 hm hs ht hx
      have hm0 := hm.mid
      replace hs := hs.lrn (ht 2 (twB_spec 18 _ (by kernel_rfl))) rfl rfl
      replace hs := hs.lrn (ht 13 (twB_spec 18 _ (by kernel_rfl))) rfl rfl
      have hs0 := hs.bare
      refine st_guardT hs rfl rfl rfl ?_
      refine st_faV hs rfl (hm.rd0 hc) (by omega) Try.underlying47 rfl Try.sizeOf3 (by decide) (o := (j - 1) * 9 + 0) rfl rfl ?_; clear hs; intro a w hs
      exact wpList_nil ⟨rfl, _, _, hs0, (.c (.c .r)), hs, rfl⟩
     ·
      intro a_ w_ R_ rest_ vs50 hm hs ht hx
      have hm0 := hm.mid
      replace hs := hs.lrn (ht 2 (twB_spec 18 _ (by kernel_rfl))) rfl rfl
      replace hs := hs.lrn (ht 14 (twB_spec 18 _ (by kernel_rfl))) rfl rfl
      have hs0 := hs.bare
      refine st_guardT hs rfl rfl rfl ?_
      refine st_ld (u := .int .i64 (((l.getD (j - 1) default)).id)) hs rfl (hm.rd0 hc) ((flat_get1 entV_len l (j - 1) 0 (by omega) (by decide)).trans rfl) Try.isAgg3 rfl ?_; clear hs; intro a w hs
      exact wpList_nil ⟨rfl, _, _, hs0, (.c (.c .r)), hs, rfl⟩
     · exact trip_pg (m := 18) rfl (.c (k := 2) (by kernel_rfl) rfl rfl (.c (k := 8) (by kernel_rfl) rfl rfl (.c (k := 15) (by kernel_rfl) rfl rfl .n))) rfl (fun hm0 hm hx => .n) (by kernel_rfl) (by kernel_rfl) rfl
     exact trip_pv (m := 18) (.c (k := 2) (by kernel_rfl) rfl rfl (.c (k := 16) (by kernel_rfl) rfl rfl .n)) (fun hm0 hm hx => .n) (by kernel_rfl) (by kernel_rfl) rfl
    clear hs w a; intro a w vs50 hs hf
    replace hs : St _ _ _ _ [blk g3 [.int .i64 (t), .int .i64 (tm), u] 24] _ _ := hs
    obtain ⟨e17, q17⟩ := hf 17 (by decide)
    replace e17 : _ = some (vs50 17) := e17.val rfl
    rw [show vs50 17 = .bool (decide (((l.getD j default).id) ≤ (((l.getD (j - 1) default)).id))) from q17] at e17
    replace hs := hs.learn e17; clear e17 q17
    clear hf
    refine then_n (hK49 _ _ ?_)
    refine wp_if hs rfl (fun hc51 => ?_) (fun hc51 => ?_)
    ·
     replace hc51 := of_decide_eq_true hc51
     refine wp_seq_k fun K52 hK53 => ?_
     refine wp_region_lit ?_
     refine st_as hs rfl rfl ?_; clear hs w a; intro a w hs
     refine wpList_nil ?_
     refine then_n (hK53 _ _ ?_)
     refine wp_ret ?_
     refine in_r ?_
     refine th_r ?_
     refine th_r ?_
     refine in_r ?_
     refine th_r ?_
     replace hs := hs.drop (.c .z .n)
     exact fin hs rfl rfl ⟨congrArg (fun z : Nat => Value.int .i64 (z : Int)) (show 10 = snapErr t tm l from by first | exact (snapErr_3 (by omega)).symm | exact (snapErr_4 (by omega) (by omega)).symm | (rw [snapErr_e (by omega) (by omega)]; first | exact ((entsErr_at (j := j) (by omega) hI1_1 (by rw [entAt_3 (by omega)]; decide)).trans (entAt_3 (by omega))).symm | exact ((entsErr_at (j := j) (by omega) hI1_1 (by rw [entAt_10 (by omega) (by omega)]; decide)).trans (entAt_10 (by omega) (by omega))).symm | (unfold entsErr; rw [← show j = l.length by omega]; exact hI1_1.symm))), rfl⟩
    replace hc51 := of_decide_eq_false hc51
    refine wp_skip ?_
    refine in_n ?_
    refine then_n (hK37 _ _ ?_)
    refine wp_region_lit ?_
    refine st_mv hs rfl rfl ?_; clear hs w a; intro a w hs
    refine st_addR hs rfl rfl (by omega) rfl ?_; clear hs w a; intro a w hs
    refine st_as hs rfl rfl ?_; clear hs w a; intro a w hs
    refine wpList_nil ?_
    refine then_n ?_
    refine ⟨_, ?_, j + 1, rfl, hs.sub (.c rfl (.c rfl .n)), by omega, entTo_ok hI1_1 (entAt_0 (by omega) (by omega))⟩
    omega
   replace hs := hs.sub (F' := [(48, .bool (decide (65535 < ((l.getD j default).id)))), (47, .bool (decide (65535 < ((l.getD j default).id)))), (46, .int .i64 ((l.getD j default).id)), (45, .pointer (some (adr u (j * 9 + 0)))), (44, .pointer (some (adr u (j * 9)))), (43, .int .i64 ((j : Int))), (42, u), (41, .pointer (some ⟨g3, 2, none⟩)), (40, .bool (false)), (39, .bool (false)), (38, .int .i64 ((l.getD j default).id)), (37, .pointer (some (adr u (j * 9 + 0)))), (36, .pointer (some (adr u (j * 9)))), (35, .int .i64 ((j : Int))), (34, u), (33, .pointer (some ⟨g3, 2, none⟩)), (30, .bool (decide ((j : Int) < (((l.length : Nat) : Int))))), (29, .int .i64 (((l.length : Nat) : Int))), (28, u), (27, .pointer (some ⟨g3, 2, none⟩)), (26, .int .i64 ((j : Int))), (1, .pointer (some ⟨g3, 0, none⟩)), (3, .int .i64 ((j : Int)))]) (.c rfl (.c rfl (.c rfl (.c rfl (.c rfl (.c rfl (.c rfl (.c rfl (.c rfl (.c rfl (.c rfl (.c rfl (.c rfl (.c rfl (.c rfl (.c rfl (.c rfl (.c rfl (.c rfl (.c rfl (.c rfl (.c rfl (.c rfl .n)))))))))))))))))))))))
   refine wp_drawG (M0 := [blk g3 [.int .i64 (t), .int .i64 (tm), u] 24]) (Ds := [Pv 0 (.int .i64 ((j : Int))), Pv 1 (.bool (false)), Pv 2 (.bool (false)), Pv 3 undef, Pv 4 undef, Pv 5 undef, Pv 6 undef, Pv 7 undef, Pv 8 undef, Pv 9 undef, Pv 10 undef, Pv 11 undef, Pv 12 undef, Pv 13 undef, Pv 14 undef, Pv 15 undef, Pv 16 undef, Pv 17 (.bool (false))]) (by kernel_rfl) hs rfl .n (by kernel_rfl) (by kernel_rfl) (by kernel_rfl) ?_ ?_
   ·
    refine (.c ?_ (.c ?_ (.c ?_ (.c ?_ (.c ?_ (.c ?_ (.c ?_ (.c ?_ (.c ?_ (.c ?_ (.c ?_ (.c ?_ (.c ?_ (.c ?_ (.c ?_ (.c ?_ (.c ?_ (.c ?_ .n))))))))))))))))))
    · exact trip_pv (m := 18) .n (fun hm0 hm hx => .n) (by kernel_rfl) (by kernel_rfl) rfl
    ·
     intro a_ w_ R_ rest_ vs54 hm hs ht hx
     have hm0 := hm.mid
     replace hs := hs.lrn (ht 0 (twB_spec 18 _ (by kernel_rfl))) rfl rfl
     have hs0 := hs.bare
     refine st_gtr hs rfl rfl rfl ?_; clear hs; intro a w hs
     have hb_ : (decide (0 < (j : Int))) = false := decide_eq_false (by omega)
     rw [hb_] at hs; clear hb_
     exact wpList_nil ⟨rfl, _, _, hs0, (.c .r), hs, rfl⟩
    · exact trip_pv (m := 18) (.c (k := 1) (by kernel_rfl) rfl rfl .n) (fun hm0 hm hx => .n) (by kernel_rfl) (by kernel_rfl) rfl
    · exact trip_pf (m := 18) rfl (.c (k := 2) (by kernel_rfl) rfl rfl .n) rfl rfl rfl
    · exact trip_pf (m := 18) rfl (.c (k := 2) (by kernel_rfl) rfl rfl (.c (k := 3) (by kernel_rfl) rfl rfl .n)) rfl rfl rfl
    · exact trip_pf (m := 18) rfl (.c (k := 2) (by kernel_rfl) rfl rfl .n) rfl rfl rfl
    · exact trip_pf (m := 18) rfl (.c (k := 2) (by kernel_rfl) rfl rfl (.c (k := 4) (by kernel_rfl) rfl rfl (.c (k := 5) (by kernel_rfl) rfl rfl .n))) rfl rfl rfl
    · exact trip_pf (m := 18) rfl (.c (k := 2) (by kernel_rfl) rfl rfl (.c (k := 6) (by kernel_rfl) rfl rfl .n)) rfl rfl rfl
    · exact trip_pf (m := 18) rfl (.c (k := 2) (by kernel_rfl) rfl rfl (.c (k := 7) (by kernel_rfl) rfl rfl .n)) rfl rfl rfl
    · exact trip_pf (m := 18) rfl (.c (k := 2) (by kernel_rfl) rfl rfl .n) rfl rfl rfl
    · exact trip_pf (m := 18) rfl (.c (k := 2) (by kernel_rfl) rfl rfl (.c (k := 9) (by kernel_rfl) rfl rfl .n)) rfl rfl rfl
    · exact trip_pf (m := 18) rfl (.c (k := 2) (by kernel_rfl) rfl rfl .n) rfl rfl rfl
    ·
     intro a_ w_ R_ rest_ vs54 hm hs ht hx
     have hm0 := hm.mid
     replace hs := hs.lrn (ht 2 (twB_spec 18 _ (by kernel_rfl))) rfl rfl
     replace hs := hs.lrn (ht 11 (twB_spec 18 _ (by kernel_rfl))) rfl rfl
     have hs0 := hs.bare
     refine st_guardF hs rfl rfl rfl rfl rfl ?_; clear hs; intro a w hs
     exact wpList_nil ⟨rfl, _, _, hs0, (.c (.c .r)), hs, rfl⟩
    · exact trip_pf (m := 18) rfl (.c (k := 2) (by kernel_rfl) rfl rfl (.c (k := 10) (by kernel_rfl) rfl rfl (.c (k := 12) (by kernel_rfl) rfl rfl .n))) rfl rfl rfl
    · exact trip_pf (m := 18) rfl (.c (k := 2) (by kernel_rfl) rfl rfl (.c (k := 13) (by kernel_rfl) rfl rfl .n)) rfl rfl rfl
    · exact trip_pf (m := 18) rfl (.c (k := 2) (by kernel_rfl) rfl rfl (.c (k := 14) (by kernel_rfl) rfl rfl .n)) rfl rfl rfl
    · exact trip_pf (m := 18) rfl (.c (k := 2) (by kernel_rfl) rfl rfl (.c (k := 8) (by kernel_rfl) rfl rfl (.c (k := 15) (by kernel_rfl) rfl rfl .n))) rfl rfl rfl
    exact trip_pv (m := 18) (.c (k := 2) (by kernel_rfl) rfl rfl (.c (k := 16) (by kernel_rfl) rfl rfl .n)) (fun hm0 hm hx => .n) (by kernel_rfl) (by kernel_rfl) rfl
   clear hs w a; intro a w vs54 hs hf
   replace hs : St _ _ _ _ [blk g3 [.int .i64 (t), .int .i64 (tm), u] 24] _ _ := hs
   obtain ⟨e17, q17⟩ := hf 17 (by decide)
   replace e17 : _ = some (vs54 17) := e17.val rfl
   rw [show vs54 17 = .bool (false) from q17] at e17
   replace hs := hs.learn e17; clear e17 q17
   clear hf
   refine then_n (hK49 _ _ ?_)
   refine wp_cond_false (hs.ev rfl) ?_
   refine wp_skip ?_
   refine in_n ?_
   refine then_n (hK37 _ _ ?_)
   refine wp_region_lit ?_
   refine st_mv hs rfl rfl ?_; clear hs w a; intro a w hs
   refine st_addR hs rfl rfl (by omega) rfl ?_; clear hs w a; intro a w hs
   refine st_as hs rfl rfl ?_; clear hs w a; intro a w hs
   refine wpList_nil ?_
   refine then_n ?_
   refine ⟨_, ?_, j + 1, rfl, hs.sub (.c rfl (.c rfl .n)), by omega, entTo_ok hI1_1 (entAt_0 (by omega) (by omega))⟩
   omega
  replace hc35 := of_decide_eq_false hc35
  refine wp_exit ?_
  refine th_e ?_
  refine th_e ?_
  refine in_hit ?_
  refine then_n (hK28 _ _ ?_)
  refine wp_seq_k fun K55 hK56 => ?_
  refine wp_region_lit ?_
  refine st_as hs rfl rfl ?_; clear hs w a; intro a w hs
  refine wpList_nil ?_
  refine then_n (hK56 _ _ ?_)
  refine wp_ret ?_
  replace hs := hs.drop (.c .z .n)
  exact fin hs rfl rfl ⟨congrArg (fun z : Nat => Value.int .i64 (z : Int)) (show 0 = snapErr t tm l from by first | exact (snapErr_3 (by omega)).symm | exact (snapErr_4 (by omega) (by omega)).symm | (rw [snapErr_e (by omega) (by omega)]; first | exact ((entsErr_at (j := j) (by omega) hI1_1 (by rw [entAt_3 (by omega)]; decide)).trans (entAt_3 (by omega))).symm | exact ((entsErr_at (j := j) (by omega) hI1_1 (by rw [entAt_10 (by omega) (by omega)]; decide)).trans (entAt_10 (by omega) (by omega))).symm | (unfold entsErr; rw [← show j = l.length by omega]; exact hI1_1.symm))), rfl⟩
theorem mfind_ok (t tm : Int) (u : Value) (l : List EntR) (id : Int) (w0 : World) (hc : Rd w0 [] u 9 l.length (l.flatMap entV)) : Calls Try.prog 21 #[.agg #[.int .i64 (t), .int .i64 (tm), u], .int .i64 id] w0 (RetV w0 (.tuple #[.agg #[.int .i64 ((((eget id l).getD entZ)).id), .int .i64 ((((eget id l).getD entZ)).p0), .int .i64 ((((eget id l).getD entZ)).p1), .int .i64 ((((eget id l).getD entZ)).p2), .int .i64 ((((eget id l).getD entZ)).v0), .int .i64 ((((eget id l).getD entZ)).v1), .int .i64 ((((eget id l).getD entZ)).v2), .int .u16 (((((((eget id l).getD entZ)).a).toNat : Nat) : Int)), .int .u8 (((((((eget id l).getD entZ)).g).toNat : Nat) : Int))], .bool (eget id l).isSome])) := by
  have hce := hc.le
  simp only [maxLen] at hce
  refine enter (F0 := [(0, .agg #[.int .i64 (t), .int .i64 (tm), u]), (1, .int .i64 (id))]) Try.func21 rfl rfl rfl (.c (.c .n)) (Mem.nil _) fun a w hs => ?_
  refine wp_seq_k fun K1 hK2 => ?_
  refine wp_region_lit ?_
  refine st_box (cs := [.int .i64 (t), .int .i64 (tm), u]) hs rfl rfl rfl ?_; clear hs w a; intro g3 a w hs
  refine st_alloc (cs := [.int .i64 (0), .int .i64 (0), .int .i64 (0), .int .i64 (0), .int .i64 (0), .int .i64 (0), .int .i64 (0), .int .u16 (0), .int .u8 (0)]) hs Try.zeroValue47 rfl rfl ?_; clear hs w a; intro g4 a w hs
  refine st_as hs rfl rfl ?_; clear hs w a; intro a w hs
  refine wpList_nil ?_
  refine then_n (hK2 _ _ ?_)
  refine wp_seq_k fun K5 hK6 => ?_
  refine wp_seq_k fun K7 hK8 => ?_
  refine wp_region_lit ?_
  refine st_as hs rfl rfl ?_; clear hs w a; intro a w hs
  refine wpList_nil ?_
  refine then_n (hK8 _ _ ?_)
  refine wp_block ?_
  refine wp_loopI (fun mm_ a w => ∃ j : Nat, mm_ = l.length - j ∧ St 28 [(1, .int .i64 (id)), (2, .pointer (some ⟨g3, 0, none⟩)), (4, .pointer (some ⟨g4, 0, none⟩)), (5, .bool (false)), (6, .int .i64 ((j : Int)))] w0 [] [blk g4 [.int .i64 (0), .int .i64 (0), .int .i64 (0), .int .i64 (0), .int .i64 (0), .int .i64 (0), .int .i64 (0), .int .u16 (0), .int .u8 (0)] 47, blk g3 [.int .i64 (t), .int .i64 (tm), u] 24] a w ∧ j ≤ l.length ∧ ∀ i, i < j → (l.getD i default).id ≠ id) ⟨0, rfl, hs.sub (.c rfl (.c rfl (.c rfl (.c rfl (.c rfl .n))))), by omega, fun i hi => absurd hi (Nat.not_lt_zero i)⟩ ?_
  clear hs w a; rintro mm_ a w ⟨j, rfl, hs, hI1_0, hI1_1⟩
  refine wp_seq_k fun K9 hK10 => ?_
  refine wp_seq_k fun K11 hK12 => ?_
  refine wp_region_lit ?_
  refine st_run 3 [(9, u), (8, .pointer (some ⟨g3, 2, none⟩)), (7, .int .i64 ((j : Int)))] hs (.c (hs.mem.del (.s .z)) .n) (by kernel_rfl) (by kernel_rfl) (by kernel_rfl) ?_; clear hs a; intro a hs
  refine st_len hs rfl (hs.rd0 hc).isSl Try.underlying22 rfl ?_; clear hs w a; intro a w hs
  refine st_lss hs rfl rfl rfl ?_; clear hs w a; intro a w hs
  refine wpList_nil ?_
  refine then_n (hK12 _ _ ?_)
  refine wp_if hs rfl (fun hc13 => ?_) (fun hc13 => ?_)
  ·
   replace hc13 := of_decide_eq_true hc13
   refine wp_skip ?_
   refine then_n (hK10 _ _ ?_)
   refine wp_seq_k fun K14 hK15 => ?_
   refine wp_block ?_
   refine wp_seq_k fun K16 hK17 => ?_
   refine wp_region_lit ?_
   refine st_run 3 [(16, .int .i64 ((j : Int))), (15, u), (14, .pointer (some ⟨g3, 2, none⟩))] hs (.c (hs.mem.del (.s .z)) .n) (by kernel_rfl) (by kernel_rfl) (by kernel_rfl) ?_; clear hs a; intro a hs
   refine st_ia (j := j) hs rfl rfl (hs.rd0 hc) rfl (by omega) Try.underlying22 Try.sizeOf47 rfl ?_; clear hs w a; intro a w hs
   refine st_faV hs rfl (hs.rd0 hc) (by omega) Try.underlying47 rfl Try.sizeOf3 (by decide) (o := j * 9 + 0) rfl rfl ?_; clear hs w a; intro a w hs
   refine st_ld (u := .int .i64 ((l.getD j default).id)) hs rfl (hs.rd0 hc) ((flat_get1 entV_len l j 0 (by omega) (by decide)).trans rfl) Try.isAgg3 rfl ?_; clear hs w a; intro a w hs
   refine st_run 2 [(21, .bool (((l.getD j default).id : Int) == id)), (20, .int .i64 (id))] hs .n (by kernel_rfl) (by kernel_rfl) (by kernel_rfl) ?_; clear hs a; intro a hs
   refine wpList_nil ?_
   refine then_n (hK17 _ _ ?_)
   refine wp_if hs rfl (fun hc18 => ?_) (fun hc18 => ?_)
   ·
    replace hc18 := eq_of_beq hc18
    refine wp_seq_k fun K19 hK20 => ?_
    refine wp_region_lit ?_
    refine st_run 3 [(24, .int .i64 ((j : Int))), (23, u), (22, .pointer (some ⟨g3, 2, none⟩))] hs (.c (hs.mem.del (.s .z)) .n) (by kernel_rfl) (by kernel_rfl) (by kernel_rfl) ?_; clear hs a; intro a hs
    refine st_ia (j := j) hs rfl rfl (hs.rd0 hc) rfl (by omega) Try.underlying22 Try.sizeOf47 rfl ?_; clear hs w a; intro a w hs
    refine st_ldA (cs := entV (l.getD j default)) hs rfl (hs.rd0 hc) (flat_get entV_len l j (by omega)) (by rw [flat_len entV_len]; omega) (by omega) Try.isAgg47 Try.sizeOf47 rfl ?_; clear hs w a; intro a w hs
    refine st_stBA hs rfl rfl .z (.z (.c (.c (.c (.c (.c (.c (.c (.c (.c .n)))))))))) (ones_c rfl (ones_c rfl (ones_c rfl (ones_c rfl (ones_c rfl (ones_c rfl (ones_c rfl (ones_c rfl (ones_c rfl ones_n))))))))) Try.sizeOf47 rfl ?_; clear hs w a; intro a w hs
    refine st_as hs rfl rfl ?_; clear hs w a; intro a w hs
    refine wpList_nil ?_
    refine then_n (hK20 _ _ ?_)
    refine wp_ret ?_
    refine in_r ?_
    refine th_r ?_
    refine th_r ?_
    refine in_r ?_
    refine th_r ?_
    exact finC2 hs rfl rfl rfl .z (.z (.c (.c (.c (.c (.c (.c (.c (.c (.c .n)))))))))) Try.isAgg47 Try.sizeOf47 (.c .z (.c .z .n)) (by first | (rw [(eidx_none (k := id) (l := l) fun i hi => hI1_1 i (by omega)).2]; exact ⟨rfl, rfl⟩) | (rw [eget_at (by omega) hI1_1 (by assumption)]; exact ⟨rfl, rfl⟩))
   replace hc18 := ne_of_beq_f hc18
   refine wp_skip ?_
   refine in_n ?_
   refine then_n (hK15 _ _ ?_)
   refine wp_region_lit ?_
   refine st_mv hs rfl rfl ?_; clear hs w a; intro a w hs
   refine st_addR hs rfl rfl (by omega) rfl ?_; clear hs w a; intro a w hs
   refine st_as hs rfl rfl ?_; clear hs w a; intro a w hs
   refine wpList_nil ?_
   refine then_n ?_
   refine ⟨_, ?_, j + 1, rfl, hs.sub (.c rfl (.c rfl (.c rfl (.c rfl (.c rfl .n))))), by omega, idx_next hI1_1 (by assumption)⟩
   omega
  replace hc13 := of_decide_eq_false hc13
  refine wp_exit ?_
  refine th_e ?_
  refine th_e ?_
  refine in_hit ?_
  refine then_n (hK6 _ _ ?_)
  refine wp_seq_k fun K21 hK22 => ?_
  refine wp_region_lit ?_
  refine st_build (it := Try.t47) (zs := [.int .i64 (0), .int .i64 (0), .int .i64 (0), .int .i64 (0), .int .i64 (0), .int .i64 (0), .int .i64 (0), .int .u16 (0), .int .u8 (0)]) (places := [(0, 1), (1, 3), (4, 3), (7, 1), (8, 1)]) hs .n Try.underlying47 rfl rfl rfl rfl .n rfl ?_; clear hs w a; intro a w hs
  refine st_stBA hs rfl rfl .z (.z (.c (.c (.c (.c (.c (.c (.c (.c (.c .n)))))))))) (ones_c rfl (ones_c rfl (ones_c rfl (ones_c rfl (ones_c rfl (ones_c rfl (ones_c rfl (ones_c rfl (ones_c rfl ones_n))))))))) Try.sizeOf47 rfl ?_; clear hs w a; intro a w hs
  refine st_as hs rfl rfl ?_; clear hs w a; intro a w hs
  refine wpList_nil ?_
  refine then_n (hK22 _ _ ?_)
  refine wp_ret ?_
  exact finC2 hs rfl rfl rfl .z (.z (.c (.c (.c (.c (.c (.c (.c (.c (.c .n)))))))))) Try.isAgg47 Try.sizeOf47 (.c .z (.c .z .n)) (by first | (rw [(eidx_none (k := id) (l := l) fun i hi => hI1_1 i (by omega)).2]; exact ⟨rfl, rfl⟩) | (rw [eget_at (by omega) hI1_1 (by assumption)]; exact ⟨rfl, rfl⟩))
theorem mput_ok (x : EntR) (w0 : World) : Calls Try.prog 36 #[.agg #[.int .i64 (x.id), .int .i64 (x.p0), .int .i64 (x.p1), .int .i64 (x.p2), .int .i64 (x.v0), .int .i64 (x.v1), .int .i64 (x.v2), .int .u16 ((((x.a).toNat : Nat) : Int)), .int .u8 ((((x.g).toNat : Nat) : Int))]] w0 (RetV w0 (.agg #[.int .i64 ((putOf x).k), .int .i64 ((putOf x).id), .int .i64 ((putOf x).p0), .int .i64 ((putOf x).p1), .int .i64 ((putOf x).p2), .int .i64 ((putOf x).v0), .int .i64 ((putOf x).v1), .int .i64 ((putOf x).v2), .int .u16 (((((putOf x).a).toNat : Nat) : Int))])) := by
  refine enter (F0 := [(0, .agg #[.int .i64 (x.id), .int .i64 (x.p0), .int .i64 (x.p1), .int .i64 (x.p2), .int .i64 (x.v0), .int .i64 (x.v1), .int .i64 (x.v2), .int .u16 ((((x.a).toNat : Nat) : Int)), .int .u8 ((((x.g).toNat : Nat) : Int))])]) Try.func36 rfl rfl rfl (.c .n) (Mem.nil _) fun a w hs => ?_
  refine wp_seq_k fun K1 hK2 => ?_
  refine wp_region_lit ?_
  refine st_box (cs := [.int .i64 (x.id), .int .i64 (x.p0), .int .i64 (x.p1), .int .i64 (x.p2), .int .i64 (x.v0), .int .i64 (x.v1), .int .i64 (x.v2), .int .u16 ((((x.a).toNat : Nat) : Int)), .int .u8 ((((x.g).toNat : Nat) : Int))]) hs rfl rfl rfl ?_; clear hs w a; intro g3 a w hs
  refine st_alloc (cs := [.int .i64 (0), .int .i64 (0), .int .i64 (0), .int .i64 (0), .int .i64 (0), .int .i64 (0), .int .i64 (0), .int .i64 (0), .int .u16 (0)]) hs Try.zeroValue45 rfl rfl ?_; clear hs w a; intro g4 a w hs
  refine wpList_nil ?_
  refine then_n (hK2 _ _ ?_)
  refine wp_seq_k fun K5 hK6 => ?_
  refine wp_region_lit ?_
  refine st_run 8 [(10, .int .u16 ((((x.a).toNat : Nat) : Int))), (8, .agg #[.int .i64 (x.v0), .int .i64 (x.v1), .int .i64 (x.v2)]), (6, .agg #[.int .i64 (x.p0), .int .i64 (x.p1), .int .i64 (x.p2)]), (4, .int .i64 (x.id))] hs (.c (hs.mem.del (.s .z)) (.c (hs.mem.del (.s .z)) (.c (hs.mem.del (.s .z)) (.c (hs.mem.del (.s .z)) .n)))) (by kernel_rfl) (by kernel_rfl) (by kernel_rfl) ?_; clear hs a; intro a hs
  refine st_build (it := Try.t45) (zs := [.int .i64 (0), .int .i64 (0), .int .i64 (0), .int .i64 (0), .int .i64 (0), .int .i64 (0), .int .i64 (0), .int .i64 (0), .int .u16 (0)]) (places := [(0, 1), (1, 1), (2, 3), (5, 3), (8, 1)]) hs (.c rfl (.c rfl (.c rfl (.c rfl (.c rfl .n))))) Try.underlying45 rfl rfl rfl rfl (.c rfl rfl (.z (.c .n)) (.c rfl rfl (.s (.z (.c .n))) (.c rfl rfl (.s (.s (.z (.c (.c (.c .n)))))) (.c rfl rfl (.s (.s (.s (.s (.s (.z (.c (.c (.c .n))))))))) (.c rfl rfl (.s (.s (.s (.s (.s (.s (.s (.s (.z (.c .n)))))))))) .n))))) rfl ?_; clear hs w a; intro a w hs
  refine st_stBA hs rfl rfl .z (.z (.c (.c (.c (.c (.c (.c (.c (.c (.c .n)))))))))) (ones_c rfl (ones_c rfl (ones_c rfl (ones_c rfl (ones_c rfl (ones_c rfl (ones_c rfl (ones_c rfl (ones_c rfl ones_n))))))))) Try.sizeOf45 rfl ?_; clear hs w a; intro a w hs
  refine wpList_nil ?_
  refine then_n (hK6 _ _ ?_)
  refine wp_ret ?_
  exact finC hs rfl rfl .z (.z (.c (.c (.c (.c (.c (.c (.c (.c (.c .n)))))))))) Try.isAgg45 Try.sizeOf45 (.c (.s .z) (.c .z .n)) ⟨rfl, rfl⟩
theorem mfull_ok (t tm : Int) (u : Value) (l : List EntR) (w0 : World) (ht_ : -9223372036854775808 ≤ t ∧ t ≤ 9223372036854775807) (htm_ : -9223372036854775808 ≤ tm ∧ tm ≤ 9223372036854775807) (hc : Rd w0 [] u 9 l.length (l.flatMap entV)) (hw : ∀ x ∈ l, x.wf) : Calls Try.prog 20 #[.agg #[.int .i64 (t), .int .i64 (tm), u]] w0 (Ret w0 [] fun x N => ∃ v, x = .tuple #[.agg #[.int .i64 ((fG t tm l).t), .int .i64 ((fG t tm l).tm), .int .i64 ((fG t tm l).b), v], .int .i64 ((fErr t tm l : Nat) : Int)] ∧ N = [row v 45 9 (fG t tm l).l.length ((fG t tm l).l.flatMap recV)]) := by
  have hce := hc.le
  simp only [maxLen] at hce
  refine enter (F0 := [(0, .agg #[.int .i64 (t), .int .i64 (tm), u])]) Try.func20 rfl rfl rfl (.c .n) (Mem.nil _) fun a w hs => ?_
  refine wp_seq_k fun K1 hK2 => ?_
  refine wp_region_lit ?_
  refine st_box (cs := [.int .i64 (t), .int .i64 (tm), u]) hs rfl rfl rfl ?_; clear hs w a; intro g3 a w hs
  refine st_alloc (cs := [.int .i64 (0), .int .i64 (0), .int .i64 (0), .slice none 0 0]) hs Try.zeroValue27 rfl rfl ?_; clear hs w a; intro g4 a w hs
  refine st_as hs rfl rfl ?_; clear hs w a; intro a w hs
  refine wpList_nil ?_
  refine then_n (hK2 _ _ ?_)
  refine wp_seq_k fun K5 hK6 => ?_
  refine wp_region_lit ?_
  refine st_ldBA hs rfl (.s .z) (.z (.c (.c (.c .n)))) Try.isAgg24 Try.sizeOf24 rfl ?_; clear hs w a; intro a w hs
  refine st_callP (v := .int .i64 (((snapErr t tm l : Nat) : Int))) hs (.c rfl .n) Try.call23 (mscheck_ok t tm _ l _ (by omega) (by omega) (hs.rd0 hc)) rfl ?_; clear hs w a; intro a w hs
  refine st_as hs rfl rfl ?_; clear hs w a; intro a w hs
  refine wpList_nil ?_
  refine then_n (hK6 _ _ ?_)
  refine wp_seq_k fun K7 hK8 => ?_
  refine wp_seq_k fun K9 hK10 => ?_
  refine wp_region_lit ?_
  refine st_run 2 [(10, .bool (!((((snapErr t tm l : Nat) : Int) : Int) == 0)))] hs .n (by kernel_rfl) (by kernel_rfl) (by kernel_rfl) ?_; clear hs a; intro a hs
  refine wpList_nil ?_
  refine then_n (hK10 _ _ ?_)
  refine wp_if hs rfl (fun hc11 => ?_) (fun hc11 => ?_)
  ·
   replace hc11 := not_t hc11
   replace hc11 := ne_of_beq_f hc11
   refine wp_seq_k fun K12 hK13 => ?_
   refine wp_region_lit ?_
   refine st_build (it := Try.t27) (zs := [.int .i64 (0), .int .i64 (0), .int .i64 (0), .slice none 0 0]) (places := [(0, 1), (1, 1), (2, 1), (3, 1)]) hs .n Try.underlying27 rfl rfl rfl rfl .n rfl ?_; clear hs w a; intro a w hs
   refine st_mv hs rfl rfl ?_; clear hs w a; intro a w hs
   refine st_stBA hs rfl rfl .z (.z (.c (.c (.c (.c .n))))) (ones_c rfl (ones_c rfl (ones_c rfl (ones_c rfl ones_n)))) Try.sizeOf27 rfl ?_; clear hs w a; intro a w hs
   refine st_as hs rfl rfl ?_; clear hs w a; intro a w hs
   refine wpList_nil ?_
   refine then_n (hK13 _ _ ?_)
   refine wp_ret ?_
   refine th_r ?_
   have hE : fErr t tm l = snapErr t tm l := by first | exact fErr_1 (by omega) | (rw [fErr_2 (by omega)]; exact mE_none (fInv_err (by omega) hI1_1 (g_n0 (by omega))))
   have hS : fG t tm l = ⟨0, 0, 0, []⟩ := fG_e (by omega)
   replace hs := hs.addNil 45 9
   replace hs := hs.rerow .z (m' := (fG t tm l).l.length) (xs' := ((fG t tm l).l.flatMap recV)) (by rw [hS]; rfl) (by rw [hS]; rfl)
   exact finC2 hs rfl rfl rfl (.s .z) (.z (.c (.c (.c (.c .n))))) Try.isAgg27 Try.sizeOf27 (.c (.s (.s .z)) (.c (.s .z) .n)) ⟨_, by rw [hE, hS] <;> rfl, rfl⟩
  replace hc11 := not_f hc11
  replace hc11 := eq_of_beq hc11
  have hsp := snapErr_parts (by omega : snapErr t tm l = 0)
  refine wp_skip ?_
  refine then_n (hK8 _ _ ?_)
  refine wp_seq_k fun K14 hK15 => ?_
  refine wp_region_lit ?_
  refine st_run 4 [(16, .int .i64 (tm)), (14, .int .i64 (t))] hs (.c (hs.mem.del (.s .z)) (.c (hs.mem.del (.s .z)) .n)) (by kernel_rfl) (by kernel_rfl) (by kernel_rfl) ?_; clear hs a; intro a hs
  refine st_build (it := Try.t27) (zs := [.int .i64 (0), .int .i64 (0), .int .i64 (0), .slice none 0 0]) (places := [(0, 1), (1, 1), (2, 1), (3, 1)]) hs (.c rfl (.c rfl (.c rfl .n))) Try.underlying27 rfl rfl rfl rfl (.c rfl rfl (.z (.c .n)) (.c rfl rfl (.s (.z (.c .n))) (.c rfl rfl (.s (.s (.z (.c .n)))) .n))) rfl ?_; clear hs w a; intro a w hs
  refine st_alloc (cs := [.int .i64 (0), .int .i64 (0), .int .i64 (0), .slice none 0 0]) hs Try.zeroValue27 rfl rfl ?_; clear hs w a; intro g16 a w hs
  refine st_stBA hs rfl rfl .z (.z (.c (.c (.c (.c .n))))) (ones_c rfl (ones_c rfl (ones_c rfl (ones_c rfl ones_n)))) Try.sizeOf27 rfl ?_; clear hs w a; intro a w hs
  refine wpList_nil ?_
  refine then_n (hK15 _ _ ?_)
  refine wp_seq_k fun K17 hK18 => ?_
  refine wp_seq_k fun K19 hK20 => ?_
  refine wp_region_lit ?_
  refine st_as hs rfl rfl ?_; clear hs w a; intro a w hs
  refine wpList_nil ?_
  refine then_n (hK20 _ _ ?_)
  refine wp_block ?_
  replace hs := hs.addNil 45 9
  replace hs := hs.rerow .z (m' := ([] : List RecR).length) (xs' := (([] : List RecR).flatMap recV)) (rfl) (rfl)
  refine wp_loopI (fun mm_ a w => ∃ j : Nat, ∃ q : Value, ∃ out : List RecR, mm_ = l.length - j ∧ St 45 [(1, .pointer (some ⟨g3, 0, none⟩)), (2, .pointer (some ⟨g4, 0, none⟩)), (3, .int .i64 (0)), (5, .pointer (some ⟨g16, 0, none⟩)), (6, .int .i64 ((j : Int)))] w0 [] [row q 45 9 out.length (out.flatMap recV), blk g16 [.int .i64 (t), .int .i64 (tm), .int .i64 ((-1)), q] 27, blk g4 [.int .i64 (0), .int .i64 (0), .int .i64 (0), .slice none 0 0] 27, blk g3 [.int .i64 (t), .int .i64 (tm), u] 24] a w ∧ j ≤ l.length ∧ (mrg [] l = (mrg [] (l.drop j)).map (out ++ ·)) ∧ out.length ≤ j) ⟨0, .slice none 0 0, [], rfl, hs.sub (.c rfl (.c rfl (.c rfl (.c rfl (.c rfl .n))))), by omega, map_nil0 _, Nat.le_refl _⟩ ?_
  clear hs w a; rintro mm_ a w ⟨j, q, out, rfl, hs, hI1_0, hI1_1, hI1_2⟩
  refine wp_seq_k fun K21 hK22 => ?_
  refine wp_seq_k fun K23 hK24 => ?_
  refine wp_region_lit ?_
  refine st_run 3 [(20, u), (19, .pointer (some ⟨g3, 2, none⟩)), (18, .int .i64 ((j : Int)))] hs (.c (hs.mem.del (.s (.s (.s .z)))) .n) (by kernel_rfl) (by kernel_rfl) (by kernel_rfl) ?_; clear hs a; intro a hs
  refine st_len hs rfl (hs.rd0 hc).isSl Try.underlying22 rfl ?_; clear hs w a; intro a w hs
  refine st_lss hs rfl rfl rfl ?_; clear hs w a; intro a w hs
  refine wpList_nil ?_
  refine then_n (hK24 _ _ ?_)
  refine wp_if hs rfl (fun hc25 => ?_) (fun hc25 => ?_)
  ·
   replace hc25 := of_decide_eq_true hc25
   refine wp_skip ?_
   refine then_n (hK22 _ _ ?_)
   refine wp_seq_k fun K26 hK27 => ?_
   refine wp_block ?_
   refine wp_seq_k fun K28 hK29 => ?_
   refine wp_seq_k fun K30 hK31 => ?_
   refine wp_region_lit ?_
   refine st_run 3 [(27, .int .i64 ((j : Int))), (26, u), (25, .pointer (some ⟨g3, 2, none⟩))] hs (.c (hs.mem.del (.s (.s (.s .z)))) .n) (by kernel_rfl) (by kernel_rfl) (by kernel_rfl) ?_; clear hs a; intro a hs
   refine st_ia (j := j) hs rfl rfl (hs.rd0 hc) rfl (by omega) Try.underlying22 Try.sizeOf47 rfl ?_; clear hs w a; intro a w hs
   refine st_faV hs rfl (hs.rd0 hc) (by omega) Try.underlying47 rfl Try.sizeOf5 (by decide) (o := j * 9 + 8) rfl rfl ?_; clear hs w a; intro a w hs
   refine st_ld (u := .int .u8 (((((l.getD j default).g).toNat : Nat) : Int))) hs rfl (hs.rd0 hc) ((flat_get1 entV_len l j 8 (by omega) (by decide)).trans rfl) Try.isAgg5 rfl ?_; clear hs w a; intro a w hs
   refine st_neq hs rfl rfl rfl ?_; clear hs w a; intro a w hs
   refine wpList_nil ?_
   refine then_n (hK31 _ _ ?_)
   refine wp_if hs rfl (fun hc32 => ?_) (fun hc32 => ?_)
   ·
    replace hc32 := not_t hc32
    replace hc32 := ne_of_beq_f hc32
    refine wp_seq_k fun K33 hK34 => ?_
    refine wp_region_lit ?_
    refine st_build (it := Try.t27) (zs := [.int .i64 (0), .int .i64 (0), .int .i64 (0), .slice none 0 0]) (places := [(0, 1), (1, 1), (2, 1), (3, 1)]) hs .n Try.underlying27 rfl rfl rfl rfl .n rfl ?_; clear hs w a; intro a w hs
    refine st_stBA hs rfl rfl (.s (.s .z)) (.z (.c (.c (.c (.c .n))))) (ones_c rfl (ones_c rfl (ones_c rfl (ones_c rfl ones_n)))) Try.sizeOf27 rfl ?_; clear hs w a; intro a w hs
    refine st_as hs rfl rfl ?_; clear hs w a; intro a w hs
    refine wpList_nil ?_
    refine then_n (hK34 _ _ ?_)
    refine wp_ret ?_
    refine th_r ?_
    refine in_r ?_
    refine th_r ?_
    refine th_r ?_
    refine in_r ?_
    refine th_r ?_
    have hE : fErr t tm l = 15 := by first | exact fErr_1 (by omega) | (rw [fErr_2 (by omega)]; exact mE_none (fInv_err (by omega) hI1_1 (g_n0 (by omega))))
    have hS : fG t tm l = ⟨0, 0, 0, []⟩ := fG_e (by omega)
    replace hs := hs.addNil 45 9
    replace hs := hs.rerow .z (m' := (fG t tm l).l.length) (xs' := ((fG t tm l).l.flatMap recV)) (by rw [hS]; rfl) (by rw [hS]; rfl)
    exact finC2 hs rfl rfl rfl (.s .z) (.z (.c (.c (.c (.c .n))))) Try.isAgg27 Try.sizeOf27 (.c (.s (.s (.s (.s .z)))) (.c (.s (.s (.s .z))) (.c (.s (.s .z)) (.c (.s .z) .n)))) ⟨_, by rw [hE, hS] <;> rfl, rfl⟩
   replace hc32 := not_f hc32
   replace hc32 := eq_of_beq hc32
   refine wp_skip ?_
   refine then_n (hK29 _ _ ?_)
   replace hs := hs.sub (F' := [(31, .bool (!((((((l.getD j default).g).toNat : Nat) : Int) : Int) == 0))), (30, .int .u8 (((((l.getD j default).g).toNat : Nat) : Int))), (29, .pointer (some (adr u (j * 9 + 8)))), (28, .pointer (some (adr u (j * 9)))), (27, .int .i64 ((j : Int))), (26, u), (25, .pointer (some ⟨g3, 2, none⟩)), (22, .bool (decide ((j : Int) < (((l.length : Nat) : Int))))), (21, .int .i64 (((l.length : Nat) : Int))), (20, u), (19, .pointer (some ⟨g3, 2, none⟩)), (18, .int .i64 ((j : Int))), (1, .pointer (some ⟨g3, 0, none⟩)), (2, .pointer (some ⟨g4, 0, none⟩)), (3, .int .i64 (0)), (5, .pointer (some ⟨g16, 0, none⟩)), (6, .int .i64 ((j : Int)))]) (.c rfl (.c rfl (.c rfl (.c rfl (.c rfl (.c rfl (.c rfl (.c rfl (.c rfl (.c rfl (.c rfl (.c rfl (.c rfl (.c rfl (.c rfl (.c rfl (.c rfl .n)))))))))))))))))
   refine wp_drawG (M0 := [blk g4 [.int .i64 (0), .int .i64 (0), .int .i64 (0), .slice none 0 0] 27, blk g3 [.int .i64 (t), .int .i64 (tm), u] 24]) (Ds := [Pv 0 (.pointer (some ⟨g16, 3, none⟩)), Pv 1 q, Pv 2 (.pointer (some ⟨g3, 2, none⟩)), Pv 3 u, Pv 4 (.int .i64 ((j : Int))), Pv 5 (.pointer (some (adr u (j * 9)))), Pv 6 (.agg #[.int .i64 ((l.getD j default).id), .int .i64 ((l.getD j default).p0), .int .i64 ((l.getD j default).p1), .int .i64 ((l.getD j default).p2), .int .i64 ((l.getD j default).v0), .int .i64 ((l.getD j default).v1), .int .i64 ((l.getD j default).v2), .int .u16 (((((l.getD j default).a).toNat : Nat) : Int)), .int .u8 (((((l.getD j default).g).toNat : Nat) : Int))]), Pv 7 (.agg #[.int .i64 (((putOf (l.getD j default))).k), .int .i64 (((putOf (l.getD j default))).id), .int .i64 (((putOf (l.getD j default))).p0), .int .i64 (((putOf (l.getD j default))).p1), .int .i64 (((putOf (l.getD j default))).p2), .int .i64 (((putOf (l.getD j default))).v0), .int .i64 (((putOf (l.getD j default))).v1), .int .i64 (((putOf (l.getD j default))).v2), .int .u16 ((((((putOf (l.getD j default))).a).toNat : Nat) : Int))]), ⟨[], [], [], fun vs35 => vs35 8 = .slice (some ⟨(ptrG (vs35 8)), 0, none⟩) 1 1, fun vs35 => [blk (ptrG (vs35 8)) [.int .i64 (((putOf (l.getD j default))).k), .int .i64 (((putOf (l.getD j default))).id), .int .i64 (((putOf (l.getD j default))).p0), .int .i64 (((putOf (l.getD j default))).p1), .int .i64 (((putOf (l.getD j default))).p2), .int .i64 (((putOf (l.getD j default))).v0), .int .i64 (((putOf (l.getD j default))).v1), .int .i64 (((putOf (l.getD j default))).v2), .int .u16 ((((((putOf (l.getD j default))).a).toNat : Nat) : Int))] 45], none⟩, ⟨[row q 45 9 out.length (out.flatMap recV)], [], [], fun vs35 => True, fun vs35 => [row (vs35 9) 45 9 (out.length + 1) ((out.flatMap recV) ++ ([.int .i64 (((putOf (l.getD j default))).k), .int .i64 (((putOf (l.getD j default))).id), .int .i64 (((putOf (l.getD j default))).p0), .int .i64 (((putOf (l.getD j default))).p1), .int .i64 (((putOf (l.getD j default))).p2), .int .i64 (((putOf (l.getD j default))).v0), .int .i64 (((putOf (l.getD j default))).v1), .int .i64 (((putOf (l.getD j default))).v2), .int .u16 ((((((putOf (l.getD j default))).a).toNat : Nat) : Int))]))], none⟩, Pv 10 (.pointer (some ⟨g16, 3, none⟩)), ⟨[blk g16 [.int .i64 (t), .int .i64 (tm), .int .i64 ((-1)), q] 27], [], [9], fun vs35 => True, fun vs35 => [blk g16 [.int .i64 (t), .int .i64 (tm), .int .i64 ((-1)), (vs35 9)] 27], none⟩]) (by kernel_rfl) hs rfl (.c .z (.c .z .n)) (by kernel_rfl) (by kernel_rfl) (by kernel_rfl) ?_ ?_
   ·
    refine (.c ?_ (.c ?_ (.c ?_ (.c ?_ (.c ?_ (.c ?_ (.c ?_ (.c ?_ (.c ?_ (.c ?_ (.c ?_ (.c ?_ .n))))))))))))
    · exact trip_pv (m := 12) .n (fun hm0 hm hx => .n) (by kernel_rfl) (by kernel_rfl) rfl
    · exact trip_pv (m := 12) (.c (k := 0) (by kernel_rfl) rfl rfl .n) (fun hm0 hm hx => (.c (hm.own (List.mem_append.2 (.inr ((hx 11 (twB_spec 12 _ (by kernel_rfl))).1 _ (List.Mem.head _))))))) (by kernel_rfl) (by kernel_rfl) rfl
    · exact trip_pv (m := 12) .n (fun hm0 hm hx => .n) (by kernel_rfl) (by kernel_rfl) rfl
    · exact trip_pv (m := 12) (.c (k := 2) (by kernel_rfl) rfl rfl .n) (fun hm0 hm hx => (.c (hm0.del (.s .z)))) (by kernel_rfl) (by kernel_rfl) rfl
    · exact trip_pv (m := 12) .n (fun hm0 hm hx => .n) (by kernel_rfl) (by kernel_rfl) rfl
    ·
     intro a_ w_ R_ rest_ vs35 hm hs ht hx
     have hm0 := hm.mid
     replace hs := hs.lrn (ht 3 (twB_spec 12 _ (by kernel_rfl))) rfl rfl
     replace hs := hs.lrn (ht 4 (twB_spec 12 _ (by kernel_rfl))) rfl rfl
     have hs0 := hs.bare
     refine st_ia (j := j) hs rfl rfl (hm.rd0 hc) rfl (by omega) Try.underlying22 Try.sizeOf47 rfl ?_; clear hs; intro a w hs
     exact wpList_nil ⟨rfl, _, _, hs0, (.c (.c .r)), hs, rfl⟩
    ·
     intro a_ w_ R_ rest_ vs35 hm hs ht hx
     have hm0 := hm.mid
     replace hs := hs.lrn (ht 5 (twB_spec 12 _ (by kernel_rfl))) rfl rfl
     have hs0 := hs.bare
     refine st_ldA (cs := entV (l.getD j default)) hs rfl (hm.rd0 hc) (flat_get entV_len l j (by omega)) (by rw [flat_len entV_len]; omega) (by omega) Try.isAgg47 Try.sizeOf47 rfl ?_; clear hs; intro a w hs
     exact wpList_nil ⟨rfl, _, _, hs0, (.c .r), hs, rfl⟩
    ·
     intro a_ w_ R_ rest_ vs35 hm hs ht hx
     have hm0 := hm.mid
     replace hs := hs.lrn (ht 6 (twB_spec 12 _ (by kernel_rfl))) rfl rfl
     have hs0 := hs.bare
     refine st_callP (v := .agg #[.int .i64 (((putOf (l.getD j default))).k), .int .i64 (((putOf (l.getD j default))).id), .int .i64 (((putOf (l.getD j default))).p0), .int .i64 (((putOf (l.getD j default))).p1), .int .i64 (((putOf (l.getD j default))).p2), .int .i64 (((putOf (l.getD j default))).v0), .int .i64 (((putOf (l.getD j default))).v1), .int .i64 (((putOf (l.getD j default))).v2), .int .u16 ((((((putOf (l.getD j default))).a).toNat : Nat) : Int))]) hs (.c rfl .n) Try.call36 (mput_ok (l.getD j default) _) rfl ?_; clear hs; intro a w hs
     exact wpList_nil ⟨rfl, _, _, hs0, (.c .r), hs, rfl⟩
    ·
     intro a_ w_ R_ rest_ vs35 hm hs ht hx
     have hm0 := hm.mid
     replace hs := hs.lrn (ht 7 (twB_spec 12 _ (by kernel_rfl))) rfl rfl
     have hs0 := hs.bare
     refine st_bs (cs := [.int .i64 (((putOf (l.getD j default))).k), .int .i64 (((putOf (l.getD j default))).id), .int .i64 (((putOf (l.getD j default))).p0), .int .i64 (((putOf (l.getD j default))).p1), .int .i64 (((putOf (l.getD j default))).p2), .int .i64 (((putOf (l.getD j default))).v0), .int .i64 (((putOf (l.getD j default))).v1), .int .i64 (((putOf (l.getD j default))).v2), .int .u16 ((((((putOf (l.getD j default))).a).toNat : Nat) : Int))]) hs (.c .n) (.c rfl .n) Try.underlying25 (ie := Try.t45) rfl rfl rfl rfl (by decide) (by decide) rfl (by decide) rfl rfl rfl ?_; clear hs; intro g36 a w hs
     exact wpList_nil ⟨rfl, _, _, hs0, (.c .r), hs, rfl⟩
    ·
     intro a_ w_ R_ rest_ vs35 hm hs ht hx
     replace hs : St _ _ _ (feet [row q 45 9 out.length (out.flatMap recV)]) [row q 45 9 out.length (out.flatMap recV)] _ _ := hs
     have hm0 := hm.mid
     replace hs := hs.lrn (ht 1 (twB_spec 12 _ (by kernel_rfl))) rfl rfl
     have t8 := ht 8 (twB_spec 12 _ (by kernel_rfl))
     have e8 : _ = some (vs35 8) := t8.val rfl
     rw [show vs35 8 = .slice (some ⟨(ptrG (vs35 8)), 0, none⟩) 1 1 from t8.2.1] at e8
     replace hs := hs.learn e8
     have hs0 := hs.bare
     refine st_app (size := 9) (bytes := 72) hs rfl rfl .z (rd_blk (m := 1) (size := 9) (hm.own (List.mem_append.2 (.inr ((ht 8 (twB_spec 12 _ (by kernel_rfl))).2.2 (later (n := 12) (by kernel_rfl)) _ (List.Mem.head _))))) rfl (by decide)) (by simp [Value.oneCell']) Try.underlying25 (i := Try.t45) rfl rfl rfl rfl rfl (by decide) (by omega) (by simp only [maxLen]; omega) rfl ?_; clear hs; intro v37 a w hs
     exact wpList_nil ⟨rfl, _, _, hs0, (.c (.c .r)), hs, trivial⟩
    · exact trip_pv (m := 12) .n (fun hm0 hm hx => .n) (by kernel_rfl) (by kernel_rfl) rfl
    intro a_ w_ R_ rest_ vs35 hm hs ht hx
    replace hs : St _ _ _ (feet [blk g16 [.int .i64 (t), .int .i64 (tm), .int .i64 ((-1)), q] 27]) [blk g16 [.int .i64 (t), .int .i64 (tm), .int .i64 ((-1)), q] 27] _ _ := hs
    have hm0 := hm.mid
    have t9 := ht 9 (twB_spec 12 _ (by kernel_rfl))
    have e9 : _ = some (vs35 9) := t9.val rfl
    replace hs := hs.learn e9
    replace hs := hs.lrn (ht 10 (twB_spec 12 _ (by kernel_rfl))) rfl rfl
    have hs0 := hs.bare
    refine st_stB hs rfl rfl .z (.s (.s (.s .z))) (rd_row (hm.own (List.mem_append.2 (.inr ((ht 9 (twB_spec 12 _ (by kernel_rfl))).2.2 (later (n := 12) (by kernel_rfl)) _ (List.Mem.head _)))))).isSl.one Try.sizeOf25 ?_; clear hs; intro a w hs
    exact wpList_nil ⟨rfl, .tuple #[], _, hs0, (.c (.c .r)), hs, trivial⟩
   clear hs w a; intro a w vs35 hs hf
   replace hs : St _ _ _ _ [blk g4 [.int .i64 (0), .int .i64 (0), .int .i64 (0), .slice none 0 0] 27, blk g3 [.int .i64 (t), .int .i64 (tm), u] 24, blk (ptrG (vs35 8)) [.int .i64 (((putOf (l.getD j default))).k), .int .i64 (((putOf (l.getD j default))).id), .int .i64 (((putOf (l.getD j default))).p0), .int .i64 (((putOf (l.getD j default))).p1), .int .i64 (((putOf (l.getD j default))).p2), .int .i64 (((putOf (l.getD j default))).v0), .int .i64 (((putOf (l.getD j default))).v1), .int .i64 (((putOf (l.getD j default))).v2), .int .u16 ((((((putOf (l.getD j default))).a).toNat : Nat) : Int))] 45, row (vs35 9) 45 9 (out.length + 1) ((out.flatMap recV) ++ ([.int .i64 (((putOf (l.getD j default))).k), .int .i64 (((putOf (l.getD j default))).id), .int .i64 (((putOf (l.getD j default))).p0), .int .i64 (((putOf (l.getD j default))).p1), .int .i64 (((putOf (l.getD j default))).p2), .int .i64 (((putOf (l.getD j default))).v0), .int .i64 (((putOf (l.getD j default))).v1), .int .i64 (((putOf (l.getD j default))).v2), .int .u16 ((((((putOf (l.getD j default))).a).toNat : Nat) : Int))])), blk g16 [.int .i64 (t), .int .i64 (tm), .int .i64 ((-1)), (vs35 9)] 27] _ _ := hs
   generalize ptrG (vs35 8) = g38 at hs
   generalize vs35 9 = v39 at hs
   clear hf
   refine in_n ?_
   refine then_n (hK27 _ _ ?_)
   refine wp_region_lit ?_
   refine st_mv hs rfl rfl ?_; clear hs w a; intro a w hs
   refine st_addR hs rfl rfl (by omega) rfl ?_; clear hs w a; intro a w hs
   refine st_as hs rfl rfl ?_; clear hs w a; intro a w hs
   refine wpList_nil ?_
   refine then_n ?_
   have hF := fInv_next (by omega) hI1_1 (g_0 (by omega))
   replace hs := hs.rerow (.s (.s (.s .z))) (m' := (out ++ [putOf (l.getD j default)]).length) (xs' := ((out ++ [putOf (l.getD j default)]).flatMap recV)) (by rw [List.length_append]; rfl) (by rw [List.flatMap_append]; rfl)
   replace hs := hs.drop (.c (.s (.s (.s .z))) .n)
   replace hs := hs.reorder (.c .z (.c (.s (.s .z)) (.c .z (.c .z .n))))
   refine ⟨_, ?_, j + 1, v39, out ++ [putOf (l.getD j default)], rfl, hs.sub (.c rfl (.c rfl (.c rfl (.c rfl (.c rfl .n))))), by omega, hF, by rw [List.length_append]; show _ + 1 ≤ _; omega⟩
   omega
  replace hc25 := of_decide_eq_false hc25
  refine wp_exit ?_
  refine th_e ?_
  refine th_e ?_
  refine in_hit ?_
  refine then_n (hK18 _ _ ?_)
  refine wp_seq_k fun K40 hK41 => ?_
  refine wp_region_lit ?_
  refine st_ldBA hs rfl (.s .z) (.z (.c (.c (.c (.c .n))))) Try.isAgg27 Try.sizeOf27 rfl ?_; clear hs w a; intro a w hs
  refine st_stBA hs rfl rfl (.s (.s .z)) (.z (.c (.c (.c (.c .n))))) (ones_c rfl (ones_c rfl (ones_c rfl (ones_c (rd_row (hs.mem.del .z)).isSl.one ones_n)))) Try.sizeOf27 rfl ?_; clear hs w a; intro a w hs
  refine st_as hs rfl rfl ?_; clear hs w a; intro a w hs
  refine wpList_nil ?_
  refine then_n (hK41 _ _ ?_)
  refine wp_ret ?_
  have hm := mE_some (fInv_end (by omega) hI1_1)
  have hE : fErr t tm l = 0 := by rw [fErr_2 (by omega)]; exact hm.1
  have hS : fG t tm l = ⟨t, tm, -1, out⟩ := by rw [fG_0 hE, hm.2]
  replace hs := hs.rerow (.s .z) (m' := (fG t tm l).l.length) (xs' := ((fG t tm l).l.flatMap recV)) (by rw [hS]) (by rw [hS])
  exact finC2 hs rfl rfl rfl (.s .z) (.z (.c (.c (.c (.c .n))))) Try.isAgg27 Try.sizeOf27 (.c (.s (.s (.s .z))) (.c (.s (.s .z)) (.c (.s .z) .n))) ⟨_, by rw [hE, hS] <;> rfl, rfl⟩
end Go.Proofs.Ytbioemaipghagaa
