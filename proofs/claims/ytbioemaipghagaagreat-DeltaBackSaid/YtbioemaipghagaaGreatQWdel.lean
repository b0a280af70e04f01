/- Walks of delta: what each function does, over the program of this seat. Printed by a program of this session. -/
import Derived.Test.YtbioemaipghagaaGreatQWdelI
import Derived.Test.YtbioemaipghagaaGreatQWgram
import Derived.Test.YtbioemaipghagaaGreatQWrec4
import Derived.Test.YtbioemaipghagaaGreatQSxDel
namespace Go.Proofs.YtbioemaipghagaaGreat
open Go Go.Sx Go.RowKit
set_option linter.unusedVariables false
set_option linter.unusedSimpArgs false
set_option maxRecDepth 4000
set_option maxHeartbeats 1000000

theorem collect_ok (g bx : Nat) (l : List EntR) (w0 : World) (hg : (mpr g (ekv l)).p w0) (hb : (blk bx [.map (some g)] 81).p w0) (hnd : (feet [mpr g (ekv l), blk bx [.map (some g)] 81]).Nodup) (hl : l.length ≤ 100000) : Calls Tryz.prog 64 #[.func (.func 66) #[] #[.pointer (some ⟨bx, 0, none⟩)]] w0 (Ret w0 (feet [mpr g (ekv l), blk bx [.map (some g)] 81]) fun u N => ∃ l' : List EntR, l'.Perm l ∧ N = [row u 73 9 l'.length (l'.flatMap entV), mpr g (ekv l), blk bx [.map (some g)] 81]) := by
  refine enter (F0 := [(0, .func (.func 66) #[] #[.pointer (some ⟨bx, 0, none⟩)])]) Tryz.func64 rfl rfl rfl (.c .n) (mem_two hg hb hnd) fun a w hs => ?_
  refine wp_seq_k fun K1 hK2 => ?_
  refine wp_region_lit ?_
  refine st_as hs rfl rfl ?_; clear hs w a; intro a w hs
  refine wpList_nil ?_
  refine then_n (hK2 _ _ ?_)
  refine wp_seq_k fun K3 hK4 => ?_
  refine wp_region_lit ?_
  refine st_mv hs rfl rfl ?_; clear hs w a; intro a w hs
  refine st_call hs (.c rfl (.c rfl .n)) Tryz.call90 (.c .z (.c .z .n)) (appseq_ok g bx l _ (hs.mem.del .z) (hs.mem.del (.s .z)) (hs.mem.ndX (.c .z (.c .z .n))) (by omega)) rfl ?_; clear hs w a; rintro v5 _ a w ⟨l6, hp7, rfl⟩ hs; simp only [List.cons_append, List.nil_append] at hs
  have hk8 := hp7.length_eq
  refine st_as hs rfl rfl ?_; clear hs w a; intro a w hs
  refine wpList_nil ?_
  refine then_n (hK4 _ _ ?_)
  refine wp_ret ?_
  exact fin hs rfl rfl ⟨_, hp7, rfl⟩
theorem sortedf_ok (g bx : Nat) (l : List EntR) (w0 : World) (hg : (mpr g (ekv l)).p w0) (hb : (blk bx [.map (some g)] 81).p w0) (hnd : (feet [mpr g (ekv l), blk bx [.map (some g)] 81]).Nodup) (hl : l.length ≤ 100000) : Calls Tryz.prog 38 #[.func (.func 66) #[] #[.pointer (some ⟨bx, 0, none⟩)], .func (.func 40) #[] #[]] w0 (Ret w0 (feet [mpr g (ekv l), blk bx [.map (some g)] 81]) fun u N => ∃ l' : List EntR, (l'.Perm l ∧ l'.Pairwise (fun x y => x.id ≤ y.id)) ∧ N = [row u 73 9 l'.length (l'.flatMap entV), mpr g (ekv l), blk bx [.map (some g)] 81]) := by
  refine enter (F0 := [(0, .func (.func 66) #[] #[.pointer (some ⟨bx, 0, none⟩)]), (1, .func (.func 40) #[] #[])]) Tryz.func38 rfl rfl rfl (.c (.c .n)) (mem_two hg hb hnd) fun a w hs => ?_
  refine wp_seq_k fun K1 hK2 => ?_
  refine wp_region_lit ?_
  refine st_as hs rfl rfl ?_; clear hs w a; intro a w hs
  refine wpList_nil ?_
  refine then_n (hK2 _ _ ?_)
  refine wp_seq_k fun K3 hK4 => ?_
  refine wp_region_lit ?_
  refine st_mv hs rfl rfl ?_; clear hs w a; intro a w hs
  refine st_call hs (.c rfl .n) Tryz.call64 (.c .z (.c .z .n)) (collect_ok g bx l _ (hs.mem.del .z) (hs.mem.del (.s .z)) (hs.mem.ndX (.c .z (.c .z .n))) (by omega)) rfl ?_; clear hs w a; rintro v5 _ a w ⟨l6, hp7, rfl⟩ hs; simp only [List.cons_append, List.nil_append] at hs
  have hk8 := hp7.length_eq
  refine st_as hs rfl rfl ?_; clear hs w a; intro a w hs
  refine wpList_nil ?_
  refine then_n (hK4 _ _ ?_)
  refine wp_seq_k fun K9 hK10 => ?_
  refine wp_region_lit ?_
  refine st_run 2 [(9, .func (.func 40) #[] #[]), (8, v5)] hs .n (by kernel_rfl) (by kernel_rfl) (by kernel_rfl) ?_; clear hs a; intro a hs
  refine st_call hs (.c rfl (.c rfl .n)) Tryz.call65 (.c .z .n) (sortE_ok (hs.mem.del .z) (by first | omega | (simp; done) | (simp; omega)) (by first | omega | (simp; omega))) rfl ?_; clear hs w a; rintro _ _ a w ⟨rfl, l11, ⟨hp12, hs13⟩, rfl⟩ hs; simp only [List.cons_append, List.nil_append] at hs
  refine wpList_nil ?_
  refine then_n (hK10 _ _ ?_)
  refine wp_seq_k fun K14 hK15 => ?_
  refine wp_region_lit ?_
  refine st_run 2 [(4, v5)] hs .n (by kernel_rfl) (by kernel_rfl) (by kernel_rfl) ?_; clear hs a; intro a hs
  refine wpList_nil ?_
  refine then_n (hK15 _ _ ?_)
  refine wp_ret ?_
  replace hs := hs.rerow .z (m' := l11.length) (xs' := (l11.flatMap entV)) (hp12.length_eq.symm) (rfl)
  exact fin hs rfl rfl ⟨_, ⟨hp12.trans hp7, hs13⟩, rfl⟩
theorem values_ok (g : Nat) (w0 : World) : Calls Tryz.prog 39 #[.map (some g)] w0 (Ret w0 [] fun u N => ∃ bx, u = .func (.func 66) #[] #[.pointer (some ⟨bx, 0, none⟩)] ∧ N = [blk bx [.map (some g)] 81]) := by
  refine enter (F0 := [(0, .map (some g))]) Tryz.func39 rfl rfl rfl (.c .n) (Mem.nil _) fun a w hs => ?_
  refine wp_seq_k fun K1 hK2 => ?_
  refine wp_region_lit ?_
  refine st_box (cs := [.map (some g)]) hs rfl rfl rfl ?_; clear hs w a; intro g3 a w hs
  refine st_as hs rfl rfl ?_; clear hs w a; intro a w hs
  refine wpList_nil ?_
  refine then_n (hK2 _ _ ?_)
  refine wp_seq_k fun K4 hK5 => ?_
  refine wp_region_lit ?_
  refine st_mf hs .n (.c rfl .n) rfl ?_; clear hs w a; intro a w hs
  refine st_as hs rfl rfl ?_; clear hs w a; intro a w hs
  refine wpList_nil ?_
  refine then_n (hK5 _ _ ?_)
  refine wp_ret ?_
  exact fin hs rfl rfl ⟨_, rfl, rfl⟩
theorem scheck_ok (t tm : Int) (u : Value) (l : List EntR) (w0 : World) (ht_ : -9223372036854775808 ≤ t ∧ t ≤ 9223372036854775807) (htm_ : -9223372036854775808 ≤ tm ∧ tm ≤ 9223372036854775807) (hc : Rd w0 [] u 9 l.length (l.flatMap entV)) : Calls Tryz.prog 16 #[.agg #[.int .i64 (t), .int .i64 (tm), u]] w0 (RetV w0 (.int .i64 ((snapErr t tm l : Nat) : Int))) := by
  have hce := hc.le
  simp only [maxLen] at hce
  refine enter (F0 := [(0, .agg #[.int .i64 (t), .int .i64 (tm), u])]) Tryz.func16 rfl rfl rfl (.c .n) (Mem.nil _) fun a w hs => ?_
  refine wp_seq_k fun K1 hK2 => ?_
  refine wp_region_lit ?_
  refine st_box (cs := [.int .i64 (t), .int .i64 (tm), u]) hs rfl rfl rfl ?_; clear hs w a; intro g3 a w hs
  refine st_as hs rfl rfl ?_; clear hs w a; intro a w hs
  refine wpList_nil ?_
  refine then_n (hK2 _ _ ?_)
  refine wp_seq_k fun K4 hK5 => ?_
  refine wp_block ?_
  refine wp_seq_k fun K6 hK7 => ?_
  refine wp_region_lit ?_
  refine st_run 4 [(10, .bool (decide (t < 0)))] hs (.c (hs.mem.del .z) .n) (by kernel_rfl) (by kernel_rfl) (by kernel_rfl) ?_; clear hs a; intro a hs
  refine st_part (b := decide (t < 0)) (fun hc8 => ?_) (fun hc8 => ?_)
  ·
   rw [hc8] at hs
   replace hc8 := of_decide_eq_true hc8
   refine st_run 15 [(6, .bool (true))] hs .n (by kernel_rfl) (by kernel_rfl) (by kernel_rfl) ?_; clear hs a; intro a hs
   refine wpList_nil ?_
   refine then_n (hK7 _ _ ?_)
   refine wp_cond_true (hs.ev rfl) ?_
   refine wp_seq_k fun K9 hK10 => ?_
   refine wp_region_lit ?_
   refine st_as hs rfl rfl ?_; clear hs w a; intro a w hs
   refine wpList_nil ?_
   refine then_n (hK10 _ _ ?_)
   refine wp_ret ?_
   refine in_r ?_
   refine th_r ?_
   replace hs := hs.drop (.c .z .n)
   exact fin hs rfl rfl ⟨congrArg (fun z : Nat => Value.int .i64 (z : Int)) (show 3 = snapErr t tm l from by first | exact (snapErr_3 (by omega)).symm | exact (snapErr_4 (by omega) (by omega)).symm | (rw [snapErr_e (by omega) (by omega)]; first | exact ((entsErr_at (j := j) (by omega) hI1_1 (by rw [entAt_3 (by omega)]; decide)).trans (entAt_3 (by omega))).symm | exact ((entsErr_at (j := j) (by omega) hI1_1 (by rw [entAt_10 (by omega) (by omega)]; decide)).trans (entAt_10 (by omega) (by omega))).symm | (unfold entsErr; rw [← show j = l.length by omega]; exact hI1_1.symm))), rfl⟩
  rw [hc8] at hs
  replace hc8 := of_decide_eq_false hc8
  refine st_run 5 [(15, .bool (decide (4294967295 < t)))] hs (.c (hs.mem.del .z) .n) (by kernel_rfl) (by kernel_rfl) (by kernel_rfl) ?_; clear hs a; intro a hs
  refine st_part (b := decide (4294967295 < t)) (fun hc11 => ?_) (fun hc11 => ?_)
  ·
   rw [hc11] at hs
   replace hc11 := of_decide_eq_true hc11
   refine st_run 10 [(6, .bool (true))] hs .n (by kernel_rfl) (by kernel_rfl) (by kernel_rfl) ?_; clear hs a; intro a hs
   refine wpList_nil ?_
   refine then_n (hK7 _ _ ?_)
   refine wp_cond_true (hs.ev rfl) ?_
   refine wp_seq_k fun K12 hK13 => ?_
   refine wp_region_lit ?_
   refine st_as hs rfl rfl ?_; clear hs w a; intro a w hs
   refine wpList_nil ?_
   refine then_n (hK13 _ _ ?_)
   refine wp_ret ?_
   refine in_r ?_
   refine th_r ?_
   replace hs := hs.drop (.c .z .n)
   exact fin hs rfl rfl ⟨congrArg (fun z : Nat => Value.int .i64 (z : Int)) (show 3 = snapErr t tm l from by first | exact (snapErr_3 (by omega)).symm | exact (snapErr_4 (by omega) (by omega)).symm | (rw [snapErr_e (by omega) (by omega)]; first | exact ((entsErr_at (j := j) (by omega) hI1_1 (by rw [entAt_3 (by omega)]; decide)).trans (entAt_3 (by omega))).symm | exact ((entsErr_at (j := j) (by omega) hI1_1 (by rw [entAt_10 (by omega) (by omega)]; decide)).trans (entAt_10 (by omega) (by omega))).symm | (unfold entsErr; rw [← show j = l.length by omega]; exact hI1_1.symm))), rfl⟩
  rw [hc11] at hs
  replace hc11 := of_decide_eq_false hc11
  refine st_run 5 [(20, .bool (decide (tm < (-2305843009213693952))))] hs (.c (hs.mem.del .z) .n) (by kernel_rfl) (by kernel_rfl) (by kernel_rfl) ?_; clear hs a; intro a hs
  refine st_part (b := decide (tm < (-2305843009213693952))) (fun hc14 => ?_) (fun hc14 => ?_)
  ·
   rw [hc14] at hs
   replace hc14 := of_decide_eq_true hc14
   refine st_run 5 [(6, .bool (true))] hs .n (by kernel_rfl) (by kernel_rfl) (by kernel_rfl) ?_; clear hs a; intro a hs
   refine wpList_nil ?_
   refine then_n (hK7 _ _ ?_)
   refine wp_cond_true (hs.ev rfl) ?_
   refine wp_seq_k fun K15 hK16 => ?_
   refine wp_region_lit ?_
   refine st_as hs rfl rfl ?_; clear hs w a; intro a w hs
   refine wpList_nil ?_
   refine then_n (hK16 _ _ ?_)
   refine wp_ret ?_
   refine in_r ?_
   refine th_r ?_
   replace hs := hs.drop (.c .z .n)
   exact fin hs rfl rfl ⟨congrArg (fun z : Nat => Value.int .i64 (z : Int)) (show 3 = snapErr t tm l from by first | exact (snapErr_3 (by omega)).symm | exact (snapErr_4 (by omega) (by omega)).symm | (rw [snapErr_e (by omega) (by omega)]; first | exact ((entsErr_at (j := j) (by omega) hI1_1 (by rw [entAt_3 (by omega)]; decide)).trans (entAt_3 (by omega))).symm | exact ((entsErr_at (j := j) (by omega) hI1_1 (by rw [entAt_10 (by omega) (by omega)]; decide)).trans (entAt_10 (by omega) (by omega))).symm | (unfold entsErr; rw [← show j = l.length by omega]; exact hI1_1.symm))), rfl⟩
  rw [hc14] at hs
  replace hc14 := of_decide_eq_false hc14
  refine st_run 5 [(6, .bool (decide (2305843009213693952 < tm)))] hs (.c (hs.mem.del .z) .n) (by kernel_rfl) (by kernel_rfl) (by kernel_rfl) ?_; clear hs a; intro a hs
  refine wpList_nil ?_
  refine then_n (hK7 _ _ ?_)
  refine wp_if hs rfl (fun hc17 => ?_) (fun hc17 => ?_)
  ·
   replace hc17 := of_decide_eq_true hc17
   refine wp_seq_k fun K18 hK19 => ?_
   refine wp_region_lit ?_
   refine st_as hs rfl rfl ?_; clear hs w a; intro a w hs
   refine wpList_nil ?_
   refine then_n (hK19 _ _ ?_)
   refine wp_ret ?_
   refine in_r ?_
   refine th_r ?_
   replace hs := hs.drop (.c .z .n)
   exact fin hs rfl rfl ⟨congrArg (fun z : Nat => Value.int .i64 (z : Int)) (show 3 = snapErr t tm l from by first | exact (snapErr_3 (by omega)).symm | exact (snapErr_4 (by omega) (by omega)).symm | (rw [snapErr_e (by omega) (by omega)]; first | exact ((entsErr_at (j := j) (by omega) hI1_1 (by rw [entAt_3 (by omega)]; decide)).trans (entAt_3 (by omega))).symm | exact ((entsErr_at (j := j) (by omega) hI1_1 (by rw [entAt_10 (by omega) (by omega)]; decide)).trans (entAt_10 (by omega) (by omega))).symm | (unfold entsErr; rw [← show j = l.length by omega]; exact hI1_1.symm))), rfl⟩
  replace hc17 := of_decide_eq_false hc17
  refine wp_seq_k fun K20 hK21 => ?_
  refine wp_region_lit ?_
  refine st_run 2 [(27, u)] hs (.c (hs.mem.del .z) .n) (by kernel_rfl) (by kernel_rfl) (by kernel_rfl) ?_; clear hs a; intro a hs
  refine st_len hs rfl (hs.rd0 hc).isSl Tryz.underlying22 rfl ?_; clear hs w a; intro a w hs
  refine st_run 2 [(25, .bool (decide (64 < (((l.length : Nat) : Int)))))] hs .n (by kernel_rfl) (by kernel_rfl) (by kernel_rfl) ?_; clear hs a; intro a hs
  refine wpList_nil ?_
  refine then_n (hK21 _ _ ?_)
  refine wp_if hs rfl (fun hc22 => ?_) (fun hc22 => ?_)
  ·
   replace hc22 := of_decide_eq_true hc22
   refine wp_seq_k fun K23 hK24 => ?_
   refine wp_region_lit ?_
   refine st_as hs rfl rfl ?_; clear hs w a; intro a w hs
   refine wpList_nil ?_
   refine then_n (hK24 _ _ ?_)
   refine wp_ret ?_
   refine in_r ?_
   refine th_r ?_
   replace hs := hs.drop (.c .z .n)
   exact fin hs rfl rfl ⟨congrArg (fun z : Nat => Value.int .i64 (z : Int)) (show 4 = snapErr t tm l from by first | exact (snapErr_3 (by omega)).symm | exact (snapErr_4 (by omega) (by omega)).symm | (rw [snapErr_e (by omega) (by omega)]; first | exact ((entsErr_at (j := j) (by omega) hI1_1 (by rw [entAt_3 (by omega)]; decide)).trans (entAt_3 (by omega))).symm | exact ((entsErr_at (j := j) (by omega) hI1_1 (by rw [entAt_10 (by omega) (by omega)]; decide)).trans (entAt_10 (by omega) (by omega))).symm | (unfold entsErr; rw [← show j = l.length by omega]; exact hI1_1.symm))), rfl⟩
  replace hc22 := of_decide_eq_false hc22
  refine wp_skip ?_
  refine in_n ?_
  refine then_n (hK5 _ _ ?_)
  refine wp_seq_k fun K25 hK26 => ?_
  refine wp_region_lit ?_
  refine st_as hs rfl rfl ?_; clear hs w a; intro a w hs
  refine wpList_nil ?_
  refine then_n (hK26 _ _ ?_)
  refine wp_seq_k fun K27 hK28 => ?_
  refine wp_seq_k fun K29 hK30 => ?_
  refine wp_region_lit ?_
  refine st_run 2 [(31, u)] hs (.c (hs.mem.del .z) .n) (by kernel_rfl) (by kernel_rfl) (by kernel_rfl) ?_; clear hs a; intro a hs
  refine st_len hs rfl (hs.rd0 hc).isSl Tryz.underlying22 rfl ?_; clear hs w a; intro a w hs
  refine st_mv hs rfl rfl ?_; clear hs w a; intro a w hs
  refine wpList_nil ?_
  refine then_n (hK30 _ _ ?_)
  refine wp_block ?_
  replace hs := hs.reslot (d := 3) (v := .int .i64 (-1)) (v' := .int .i64 (entLast l 0)) rfl (Option.some.inj rfl)
  replace hs := hs.drop (.c .z .n)
  refine wp_loopI (fun mm_ a w => ∃ j : Nat, mm_ = l.length - j ∧ St 54 [(3, .int .i64 (entLast l j)), (31, u), (32, .int .i64 (((l.length : Nat) : Int))), (33, .int .i64 ((j : Int)))] w0 [] [] a w ∧ j ≤ l.length ∧ entTo l j = 0) ⟨0, rfl, hs.sub (.c rfl (.c rfl (.c rfl (.c rfl .n)))), by omega, rfl⟩ ?_
  clear hs w a; rintro mm_ a w ⟨j, rfl, hs, hI1_0, hI1_1⟩
  refine wp_seq_k fun K31 hK32 => ?_
  refine wp_region_lit ?_
  refine st_lss hs rfl rfl rfl ?_; clear hs w a; intro a w hs
  refine wpList_nil ?_
  refine then_n (hK32 _ _ ?_)
  refine wp_seq_k fun K33 hK34 => ?_
  refine wp_if hs rfl (fun hc35 => ?_) (fun hc35 => ?_)
  ·
   replace hc35 := of_decide_eq_true hc35
   refine wp_skip ?_
   refine then_n (hK34 _ _ ?_)
   refine wp_seq_k fun K36 hK37 => ?_
   refine wp_block ?_
   refine wp_seq_k fun K38 hK39 => ?_
   refine wp_region_lit ?_
   refine st_ia (j := j) hs rfl rfl (hs.rd0 hc) rfl (by omega) Tryz.underlying22 Tryz.sizeOf73 rfl ?_; clear hs w a; intro a w hs
   refine st_ldA (cs := entV (l.getD j default)) hs rfl (hs.rd0 hc) (flat_get entV_len l j (by omega)) (by rw [flat_len entV_len]; omega) (by omega) Tryz.isAgg73 Tryz.sizeOf73 rfl ?_; clear hs w a; intro a w hs
   refine st_alloc (cs := [.int .i64 (0), .int .i64 (0), .int .i64 (0), .int .i64 (0), .int .i64 (0), .int .i64 (0), .int .i64 (0), .int .u16 (0), .int .u8 (0)]) hs Tryz.zeroValue73 rfl rfl ?_; clear hs w a; intro g40 a w hs
   refine st_stBA hs rfl rfl .z (.z (.c (.c (.c (.c (.c (.c (.c (.c (.c .n)))))))))) (ones_c rfl (ones_c rfl (ones_c rfl (ones_c rfl (ones_c rfl (ones_c rfl (ones_c rfl (ones_c rfl (ones_c rfl ones_n))))))))) Tryz.sizeOf73 rfl ?_; clear hs w a; intro a w hs
   refine wpList_nil ?_
   refine then_n (hK39 _ _ ?_)
   refine wp_seq_k fun K41 hK42 => ?_
   refine wp_block ?_
   refine wp_seq_k fun K43 hK44 => ?_
   refine wp_region_lit ?_
   refine st_run 4 [(41, .bool (decide (((l.getD j default).id) < 0))), (40, .bool (decide (((l.getD j default).id) < 0))), (39, .int .i64 ((l.getD j default).id)), (38, .pointer (some ⟨g40, 0, none⟩))] hs (.c (hs.mem.del .z) .n) (by kernel_rfl) (by kernel_rfl) (by kernel_rfl) ?_; clear hs a; intro a hs
   refine st_part (b := decide (((l.getD j default).id) < 0)) (fun hc45 => ?_) (fun hc45 => ?_)
   ·
    rw [hc45] at hs
    replace hc45 := of_decide_eq_true hc45
    refine st_run 5 [(37, .bool (true)), (45, .bool (true)), (44, undef), (43, undef), (42, undef)] hs .n (by kernel_rfl) (by kernel_rfl) (by kernel_rfl) ?_; clear hs a; intro a hs
    refine wpList_nil ?_
    refine then_n (hK44 _ _ ?_)
    refine wp_cond_true (hs.ev rfl) ?_
    refine wp_seq_k fun K46 hK47 => ?_
    refine wp_region_lit ?_
    refine st_as hs rfl rfl ?_; clear hs w a; intro a w hs
    refine wpList_nil ?_
    refine then_n (hK47 _ _ ?_)
    refine wp_ret ?_
    refine in_r ?_
    refine th_r ?_
    refine in_r ?_
    refine th_r ?_
    refine th_r ?_
    refine in_r ?_
    refine th_r ?_
    replace hs := hs.drop (.c .z .n)
    exact fin hs rfl rfl ⟨congrArg (fun z : Nat => Value.int .i64 (z : Int)) (show 3 = snapErr t tm l from by first | exact (snapErr_3 (by omega)).symm | exact (snapErr_4 (by omega) (by omega)).symm | (rw [snapErr_e (by omega) (by omega)]; first | exact ((entsErr_at (j := j) (by omega) hI1_1 (by rw [entAt_3 (by omega)]; decide)).trans (entAt_3 (by omega))).symm | exact ((entsErr_at (j := j) (by omega) hI1_1 (by rw [entAt_10 (by omega) (by omega)]; decide)).trans (entAt_10 (by omega) (by omega))).symm | (unfold entsErr; rw [← show j = l.length by omega]; exact hI1_1.symm))), rfl⟩
   rw [hc45] at hs
   replace hc45 := of_decide_eq_false hc45
   refine st_run 5 [(37, .bool (decide (65535 < ((l.getD j default).id)))), (45, .bool (decide (65535 < ((l.getD j default).id)))), (44, .bool (decide (65535 < ((l.getD j default).id)))), (43, .int .i64 ((l.getD j default).id)), (42, .pointer (some ⟨g40, 0, none⟩))] hs (.c (hs.mem.del .z) .n) (by kernel_rfl) (by kernel_rfl) (by kernel_rfl) ?_; clear hs a; intro a hs
   refine wpList_nil ?_
   refine then_n (hK44 _ _ ?_)
   refine wp_if hs rfl (fun hc48 => ?_) (fun hc48 => ?_)
   ·
    replace hc48 := of_decide_eq_true hc48
    refine wp_seq_k fun K49 hK50 => ?_
    refine wp_region_lit ?_
    refine st_as hs rfl rfl ?_; clear hs w a; intro a w hs
    refine wpList_nil ?_
    refine then_n (hK50 _ _ ?_)
    refine wp_ret ?_
    refine in_r ?_
    refine th_r ?_
    refine in_r ?_
    refine th_r ?_
    refine th_r ?_
    refine in_r ?_
    refine th_r ?_
    replace hs := hs.drop (.c .z .n)
    exact fin hs rfl rfl ⟨congrArg (fun z : Nat => Value.int .i64 (z : Int)) (show 3 = snapErr t tm l from by first | exact (snapErr_3 (by omega)).symm | exact (snapErr_4 (by omega) (by omega)).symm | (rw [snapErr_e (by omega) (by omega)]; first | exact ((entsErr_at (j := j) (by omega) hI1_1 (by rw [entAt_3 (by omega)]; decide)).trans (entAt_3 (by omega))).symm | exact ((entsErr_at (j := j) (by omega) hI1_1 (by rw [entAt_10 (by omega) (by omega)]; decide)).trans (entAt_10 (by omega) (by omega))).symm | (unfold entsErr; rw [← show j = l.length by omega]; exact hI1_1.symm))), rfl⟩
   replace hc48 := of_decide_eq_false hc48
   refine wp_seq_k fun K51 hK52 => ?_
   refine wp_region_lit ?_
   refine st_run 5 [(46, .bool (decide (((l.getD j default).id) ≤ (entLast l j)))), (50, .bool (decide (((l.getD j default).id) ≤ (entLast l j)))), (49, .int .i64 (entLast l j)), (48, .int .i64 ((l.getD j default).id)), (47, .pointer (some ⟨g40, 0, none⟩))] hs (.c (hs.mem.del .z) .n) (by kernel_rfl) (by kernel_rfl) (by kernel_rfl) ?_; clear hs a; intro a hs
   refine wpList_nil ?_
   refine then_n (hK52 _ _ ?_)
   refine wp_if hs rfl (fun hc53 => ?_) (fun hc53 => ?_)
   ·
    replace hc53 := of_decide_eq_true hc53
    refine wp_seq_k fun K54 hK55 => ?_
    refine wp_region_lit ?_
    refine st_as hs rfl rfl ?_; clear hs w a; intro a w hs
    refine wpList_nil ?_
    refine then_n (hK55 _ _ ?_)
    refine wp_ret ?_
    refine in_r ?_
    refine th_r ?_
    refine in_r ?_
    refine th_r ?_
    refine th_r ?_
    refine in_r ?_
    refine th_r ?_
    replace hs := hs.drop (.c .z .n)
    exact fin hs rfl rfl ⟨congrArg (fun z : Nat => Value.int .i64 (z : Int)) (show 10 = snapErr t tm l from by first | exact (snapErr_3 (by omega)).symm | exact (snapErr_4 (by omega) (by omega)).symm | (rw [snapErr_e (by omega) (by omega)]; first | exact ((entsErr_at (j := j) (by omega) hI1_1 (by rw [entAt_3 (by omega)]; decide)).trans (entAt_3 (by omega))).symm | exact ((entsErr_at (j := j) (by omega) hI1_1 (by rw [entAt_10 (by omega) (by omega)]; decide)).trans (entAt_10 (by omega) (by omega))).symm | (unfold entsErr; rw [← show j = l.length by omega]; exact hI1_1.symm))), rfl⟩
   replace hc53 := of_decide_eq_false hc53
   refine wp_skip ?_
   refine in_n ?_
   refine then_n (hK42 _ _ ?_)
   refine wp_region_lit ?_
   refine st_run 3 [(3, .int .i64 ((l.getD j default).id)), (52, .int .i64 ((l.getD j default).id)), (51, .pointer (some ⟨g40, 0, none⟩))] hs (.c (hs.mem.del .z) .n) (by kernel_rfl) (by kernel_rfl) (by kernel_rfl) ?_; clear hs a; intro a hs
   refine wpList_nil ?_
   refine in_n ?_
   refine then_n (hK37 _ _ ?_)
   refine wp_region_lit ?_
   refine st_addR hs rfl rfl (by omega) rfl ?_; clear hs w a; intro a w hs
   refine st_mv hs rfl rfl ?_; clear hs w a; intro a w hs
   refine wpList_nil ?_
   refine then_n ?_
   replace hs := hs.reslot (d := 3) (v := .int .i64 ((l.getD j default).id)) (v' := .int .i64 (entLast l (j + 1))) rfl (Option.some.inj rfl)
   replace hs := hs.drop (.c .z .n)
   refine ⟨_, ?_, j + 1, rfl, hs.sub (.c rfl (.c rfl (.c rfl (.c rfl .n)))), by omega, entTo_ok hI1_1 (entAt_0 (by omega) (by omega))⟩
   omega
  replace hc35 := of_decide_eq_false hc35
  refine wp_exit ?_
  refine th_e ?_
  refine th_e ?_
  refine in_hit ?_
  refine then_n (hK28 _ _ ?_)
  refine wp_seq_k fun K56 hK57 => ?_
  refine wp_region_lit ?_
  refine st_as hs rfl rfl ?_; clear hs w a; intro a w hs
  refine wpList_nil ?_
  refine then_n (hK57 _ _ ?_)
  refine wp_ret ?_
  exact fin hs rfl rfl ⟨congrArg (fun z : Nat => Value.int .i64 (z : Int)) (show 0 = snapErr t tm l from by first | exact (snapErr_3 (by omega)).symm | exact (snapErr_4 (by omega) (by omega)).symm | (rw [snapErr_e (by omega) (by omega)]; first | exact ((entsErr_at (j := j) (by omega) hI1_1 (by rw [entAt_3 (by omega)]; decide)).trans (entAt_3 (by omega))).symm | exact ((entsErr_at (j := j) (by omega) hI1_1 (by rw [entAt_10 (by omega) (by omega)]; decide)).trans (entAt_10 (by omega) (by omega))).symm | (unfold entsErr; rw [← show j = l.length by omega]; exact hI1_1.symm))), rfl⟩
theorem byId_ok (u : Value) (l : List EntR) (w0 : World) (hc : Rd w0 [] u 9 l.length (l.flatMap entV)) (hsrt : Srt l) : Calls Tryz.prog 35 #[u] w0 (Ret w0 [] fun x N => ∃ g, x = .map (some g) ∧ N = [mpr g (ekv l)]) := by
  have hce := hc.le
  simp only [maxLen] at hce
  refine enter (F0 := [(0, u)]) Tryz.func35 rfl rfl rfl (.c .n) (Mem.nil _) fun a w hs => ?_
  refine wp_seq_k fun K1 hK2 => ?_
  refine wp_region_lit ?_
  refine st_as hs rfl rfl ?_; clear hs w a; intro a w hs
  refine wpList_nil ?_
  refine then_n (hK2 _ _ ?_)
  refine wp_seq_k fun K3 hK4 => ?_
  refine wp_region_lit ?_
  refine st_mkE hs rfl ?_; clear hs w a; intro g5 a w hs
  refine st_as hs rfl rfl ?_; clear hs w a; intro a w hs
  refine wpList_nil ?_
  refine then_n (hK4 _ _ ?_)
  refine wp_seq_k fun K6 hK7 => ?_
  refine wp_seq_k fun K8 hK9 => ?_
  refine wp_region_lit ?_
  refine st_mv hs rfl rfl ?_; clear hs w a; intro a w hs
  refine st_len hs rfl (hs.rd0 hc).isSl Tryz.underlying22 rfl ?_; clear hs w a; intro a w hs
  refine st_mv hs rfl rfl ?_; clear hs w a; intro a w hs
  refine wpList_nil ?_
  refine then_n (hK9 _ _ ?_)
  refine wp_block ?_
  replace hs := hs.remap (l' := (l.take 0)) .z (by simp)
  refine wp_loopI (fun mm_ a w => ∃ j : Nat, mm_ = l.length - j ∧ St 19 [(3, .map (some g5)), (7, u), (8, .int .i64 (((l.length : Nat) : Int))), (9, .int .i64 ((j : Int)))] w0 [] [mpr g5 (ekv (l.take j))] a w ∧ j ≤ l.length) ⟨0, rfl, hs.sub (.c rfl (.c rfl (.c rfl (.c rfl .n)))), by omega⟩ ?_
  clear hs w a; rintro mm_ a w ⟨j, rfl, hs, hI1_0⟩
  refine wp_seq_k fun K10 hK11 => ?_
  refine wp_region_lit ?_
  refine st_lss hs rfl rfl rfl ?_; clear hs w a; intro a w hs
  refine wpList_nil ?_
  refine then_n (hK11 _ _ ?_)
  refine wp_seq_k fun K12 hK13 => ?_
  refine wp_if hs rfl (fun hc14 => ?_) (fun hc14 => ?_)
  ·
   replace hc14 := of_decide_eq_true hc14
   refine wp_skip ?_
   refine then_n (hK13 _ _ ?_)
   refine wp_seq_k fun K15 hK16 => ?_
   refine wp_block ?_
   refine wp_seq_k fun K17 hK18 => ?_
   refine wp_region_lit ?_
   refine st_ia (j := j) hs rfl rfl (hs.rd0 hc) rfl (by omega) Tryz.underlying22 Tryz.sizeOf73 rfl ?_; clear hs w a; intro a w hs
   refine st_ldA (cs := entV (l.getD j default)) hs rfl (hs.rd0 hc) (flat_get entV_len l j (by omega)) (by rw [flat_len entV_len]; omega) (by omega) Tryz.isAgg73 Tryz.sizeOf73 rfl ?_; clear hs w a; intro a w hs
   refine st_alloc (cs := [.int .i64 (0), .int .i64 (0), .int .i64 (0), .int .i64 (0), .int .i64 (0), .int .i64 (0), .int .i64 (0), .int .u16 (0), .int .u8 (0)]) hs Tryz.zeroValue73 rfl rfl ?_; clear hs w a; intro g19 a w hs
   refine st_stBA hs rfl rfl .z (.z (.c (.c (.c (.c (.c (.c (.c (.c (.c .n)))))))))) (ones_c rfl (ones_c rfl (ones_c rfl (ones_c rfl (ones_c rfl (ones_c rfl (ones_c rfl (ones_c rfl (ones_c rfl ones_n))))))))) Tryz.sizeOf73 rfl ?_; clear hs w a; intro a w hs
   refine wpList_nil ?_
   refine then_n (hK18 _ _ ?_)
   refine wp_region_lit ?_
   refine st_run 4 [(16, .agg #[.int .i64 ((l.getD j default).id), .int .i64 ((l.getD j default).p0), .int .i64 ((l.getD j default).p1), .int .i64 ((l.getD j default).p2), .int .i64 ((l.getD j default).v0), .int .i64 ((l.getD j default).v1), .int .i64 ((l.getD j default).v2), .int .u16 (((((l.getD j default).a).toNat : Nat) : Int)), .int .u8 (((((l.getD j default).g).toNat : Nat) : Int))]), (15, .int .i64 ((l.getD j default).id)), (14, .pointer (some ⟨g19, 0, none⟩)), (13, .map (some g5))] hs (.c (hs.mem.del .z) (.c (hs.mem.del .z) .n)) (by kernel_rfl) (by kernel_rfl) (by kernel_rfl) ?_; clear hs a; intro a hs
   refine st_updE (u := (l.getD j default)) hs rfl rfl rfl (.s .z) (by first | rfl | assumption | omega) Tryz.underlying81 Tryz.underlying3 ?_; clear hs w a; intro a w hs
   refine wpList_nil ?_
   refine in_n ?_
   refine then_n (hK16 _ _ ?_)
   refine wp_region_lit ?_
   refine st_addR hs rfl rfl (by omega) rfl ?_; clear hs w a; intro a w hs
   refine st_mv hs rfl rfl ?_; clear hs w a; intro a w hs
   refine wpList_nil ?_
   refine then_n ?_
   replace hs := hs.remap (l' := (l.take (j + 1))) .z (take_put hsrt (by omega))
   replace hs := hs.drop (.c (.s .z) .n)
   refine ⟨_, ?_, j + 1, rfl, hs.sub (.c rfl (.c rfl (.c rfl (.c rfl .n)))), by omega⟩
   omega
  replace hc14 := of_decide_eq_false hc14
  refine wp_exit ?_
  refine th_e ?_
  refine th_e ?_
  refine in_hit ?_
  refine then_n (hK7 _ _ ?_)
  refine wp_seq_k fun K20 hK21 => ?_
  refine wp_region_lit ?_
  refine st_run 2 [(2, .map (some g5))] hs .n (by kernel_rfl) (by kernel_rfl) (by kernel_rfl) ?_; clear hs a; intro a hs
  refine wpList_nil ?_
  refine then_n (hK21 _ _ ?_)
  refine wp_ret ?_
  replace hs := hs.remap (l' := l) .z (List.take_of_length_le (by omega))
  exact fin hs rfl rfl ⟨_, rfl, rfl⟩
end Go.Proofs.YtbioemaipghagaaGreat
