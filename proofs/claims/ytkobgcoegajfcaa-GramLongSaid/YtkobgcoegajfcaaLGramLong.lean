/- Walks of GramLong: what each function does, over the program of this seat. Printed by a program of this session. -/
import Derived.Test.YtkobgcoegajfcaaWgram
import Derived.Test.YtkobgcoegajfcaaWgramS
import Derived.Test.YtkobgcoegajfcaaSxPgramZ
namespace Go.Proofs.Ytkobgcoegajfcaa
open Go Go.Sx Go.RowKit
set_option linter.unusedVariables false
set_option linter.unusedSimpArgs false
set_option maxRecDepth 4000
set_option maxHeartbeats 1000000

theorem gramLong_ok (c : BitVec 8) (z : BitVec 16) (w0 : World) : Calls Try.prog 16 #[.int .u8 ((c.toNat : Nat) : Int), .int .u16 ((z.toNat : Nat) : Int)] w0 (RetV w0 (.bool true)) := by
  refine enter (F0 := [(0, .int .u8 ((((c).toNat : Nat) : Int))), (1, .int .u16 ((((z).toNat : Nat) : Int)))]) Try.func16 rfl rfl rfl (.c (.c .n)) (Mem.nil _) fun a w hs => ?_
  refine wp_seq_k fun K1 hK2 => ?_
  refine wp_region_lit ?_
  refine st_as hs rfl rfl ?_; clear hs w a; intro a w hs
  refine wpList_nil ?_
  refine then_n (hK2 _ _ ?_)
  refine wp_seq_k fun K3 hK4 => ?_
  refine wp_region_lit ?_
  refine st_callP (v := .int .i64 (128)) hs .n Try.call45 (most_ok _) rfl ?_; clear hs w a; intro a w hs
  refine st_run 2 [(14, .int .u8 ((((c).toNat : Nat) : Int))), (13, .int .i64 (126))] hs .n (by kernel_rfl) (by kernel_rfl) (by kernel_rfl) ?_; clear hs a; intro a hs
  refine st_rem_u8 (X := c) (Y := 5#8) hs rfl rfl rfl (by decide) (by decide) rfl ?_; clear hs w a; intro a w hs
  refine st_cv_i64 hs rfl (bvr (c % (5#8))) Try.underlying5 Try.underlying3 rfl ?_; clear hs w a; intro a w hs
  refine st_addR hs rfl rfl (by omega) rfl ?_; clear hs w a; intro a w hs
  obtain ⟨n, hn1, hn2, hn⟩ : ∃ n : Nat, 126 ≤ n ∧ n ≤ 130 ∧ 126 + ((((c % (5#8)).toNat : Nat) : Int)) = (n : Int) := ⟨126 + (c % 5#8).toNat, by omega, (by rw [BitVec.toNat_umod]; show 126 + c.toNat % 5 ≤ 130; omega), by omega⟩
  rw [hn] at hs; clear hn
  refine st_as hs rfl rfl ?_; clear hs w a; intro a w hs
  refine wpList_nil ?_
  refine then_n (hK4 _ _ ?_)
  refine wp_seq_k fun K5 hK6 => ?_
  refine wp_seq_k fun K7 hK8 => ?_
  refine wp_region_lit ?_
  refine st_run 2 [(19, .bool (decide ((n : Int) < 100)))] hs .n (by kernel_rfl) (by kernel_rfl) (by kernel_rfl) ?_; clear hs a; intro a hs
  have hb_ : (decide ((n : Int) < 100)) = false := decide_eq_false (by omega)
  rw [hb_] at hs; clear hb_
  refine st_run 3 [(22, .bool (decide (200 < (n : Int)))), (20, .bool (false))] hs .n (by kernel_rfl) (by kernel_rfl) (by kernel_rfl) ?_; clear hs a; intro a hs
  have hb_ : (decide (200 < (n : Int))) = false := decide_eq_false (by omega)
  rw [hb_] at hs; clear hb_
  refine st_pickF hs rfl rfl rfl ?_; clear hs w a; intro a w hs
  refine wpList_nil ?_
  refine then_n (hK8 _ _ ?_)
  refine wp_cond_false (hs.ev rfl) ?_
  refine wp_skip ?_
  refine then_n (hK6 _ _ ?_)
  refine wp_seq_k fun K9 hK10 => ?_
  refine wp_region_lit ?_
  refine st_build (it := Try.t69) (zs := [.int .i64 (0), .int .i64 (0), .int .i64 (0), .slice none 0 0]) (places := [(0, 1), (1, 1), (2, 1), (3, 1)]) hs (.c rfl .n) Try.underlying69 rfl rfl rfl rfl (.c rfl rfl (.s (.s (.z (.c .n)))) .n) rfl ?_; clear hs w a; intro a w hs
  refine st_alloc (cs := [.int .i64 (0), .int .i64 (0), .int .i64 (0), .slice none 0 0]) hs Try.zeroValue69 rfl rfl ?_; clear hs w a; intro g11 a w hs
  refine st_stBA hs rfl rfl .z (.z (.c (.c (.c (.c .n))))) (ones_c rfl (ones_c rfl (ones_c rfl (ones_c rfl ones_n)))) Try.sizeOf69 rfl ?_; clear hs w a; intro a w hs
  refine wpList_nil ?_
  refine then_n (hK10 _ _ ?_)
  refine wp_seq_k fun K12 hK13 => ?_
  refine wp_seq_k fun K14 hK15 => ?_
  refine wp_region_lit ?_
  refine st_run 2 [(26, .int .i64 (0)), (25, .int .i64 ((n : Int)))] hs .n (by kernel_rfl) (by kernel_rfl) (by kernel_rfl) ?_; clear hs a; intro a hs
  refine wpList_nil ?_
  refine then_n (hK15 _ _ ?_)
  refine wp_block ?_
  replace hs := hs.addNil 25 9
  replace hs := hs.rerow .z (m' := (longL 0).length) (xs' := ((longL 0).flatMap recV)) (rfl) (rfl)
  replace hs := hs.reorder (.c (.s .z) (.c .z .n))
  refine wp_loopI (fun mm_ a w => ∃ i : Nat, ∃ p : Value, mm_ = n - i ∧ St 91 [(0, .int .u8 ((((c).toNat : Nat) : Int))), (1, .int .u16 ((((z).toNat : Nat) : Int))), (5, .int .i64 ((n : Int))), (6, .pointer (some ⟨g11, 0, none⟩)), (25, .int .i64 ((n : Int))), (26, .int .i64 ((i : Int)))] w0 [] [blk g11 [.int .i64 (0), .int .i64 (0), .int .i64 (-1), p] 69, row p 25 9 ((longL i).length) (((longL i).flatMap recV))] a w ∧ i ≤ n) ⟨0, .slice none 0 0, rfl, hs.sub (.c rfl (.c rfl (.c rfl (.c rfl (.c rfl (.c rfl .n)))))), by omega⟩ ?_
  clear hs w a; rintro mm_ a w ⟨i, p, rfl, hs, hI1_0⟩
  have hll := longL_len i
  refine wp_seq_k fun K16 hK17 => ?_
  refine wp_region_lit ?_
  refine st_lss hs rfl rfl rfl ?_; clear hs w a; intro a w hs
  refine wpList_nil ?_
  refine then_n (hK17 _ _ ?_)
  refine wp_seq_k fun K18 hK19 => ?_
  refine wp_if hs rfl (fun hc20 => ?_) (fun hc20 => ?_)
  ·
   replace hc20 := of_decide_eq_true hc20
   refine wp_skip ?_
   refine then_n (hK19 _ _ ?_)
   refine wp_seq_k fun K21 hK22 => ?_
   refine wp_block ?_
   refine wp_seq_k fun K23 hK24 => ?_
   refine wp_region_lit ?_
   refine st_run 2 [(7, .int .i64 ((i : Int))), (28, .int .i64 ((i : Int)))] hs .n (by kernel_rfl) (by kernel_rfl) (by kernel_rfl) ?_; clear hs a; intro a hs
   refine wpList_nil ?_
   refine then_n (hK24 _ _ ?_)
   refine wp_region_lit ?_
   refine st_run 3 [(31, .int .i64 ((i : Int))), (30, p), (29, .pointer (some ⟨g11, 3, none⟩))] hs (.c (hs.mem.del .z) .n) (by kernel_rfl) (by kernel_rfl) (by kernel_rfl) ?_; clear hs a; intro a hs
   refine st_build (it := Try.t25) (zs := [.int .i64 (0), .int .i64 (0), .int .i64 (0), .int .i64 (0), .int .i64 (0), .int .i64 (0), .int .i64 (0), .int .i64 (0), .int .u16 (0)]) (places := [(0, 1), (1, 1), (2, 3), (5, 3), (8, 1)]) hs (.c rfl .n) Try.underlying25 rfl rfl rfl rfl (.c rfl rfl (.s (.z (.c .n))) .n) rfl ?_; clear hs w a; intro a w hs
   refine st_bs (cs := [.int .i64 (0), .int .i64 ((i : Int)), .int .i64 (0), .int .i64 (0), .int .i64 (0), .int .i64 (0), .int .i64 (0), .int .i64 (0), .int .u16 (0)]) hs (.c .n) (.c rfl .n) Try.underlying66 (ie := Try.t25) rfl rfl rfl rfl (by decide) (by decide) rfl (by decide) rfl rfl rfl ?_; clear hs w a; intro g25 a w hs
   refine st_app (size := 9) (bytes := 72) hs rfl rfl (.s (.s .z)) (rd_blk (m := 1) (size := 9) (hs.mem.del .z) rfl (by decide)) (by simp [Value.oneCell']) Try.underlying66 (i := Try.t25) rfl rfl rfl rfl rfl (by decide) (by omega) (by simp only [maxLen]; omega) rfl ?_; clear hs w a; intro v26 a w hs
   replace hs := hs.drop (.c (.s .z) .n)
   refine st_fa hs rfl Try.underlying69 rfl Try.sizeOf66 (by decide) (o := 3) rfl rfl ?_; clear hs w a; intro a w hs
   refine st_stB hs rfl rfl (.s .z) (.s (.s (.s .z))) (rd_row (hs.mem.del .z)).isSl.one Try.sizeOf66 ?_; clear hs w a; intro a w hs
   refine wpList_nil ?_
   refine in_n ?_
   refine then_n (hK22 _ _ ?_)
   refine wp_region_lit ?_
   refine st_addR hs rfl rfl (by omega) rfl ?_; clear hs w a; intro a w hs
   refine st_mv hs rfl rfl ?_; clear hs w a; intro a w hs
   refine wpList_nil ?_
   refine then_n ?_
   replace hs := hs.rerow (.s .z) (m' := (longL (i + 1)).length) (xs' := ((longL (i + 1)).flatMap recV)) (by simp only [longL_len]) (by rw [longL_succ, List.flatMap_append]; rfl)
   replace hs := hs.reorder (.c (.s .z) (.c .z .n))
   refine ⟨_, ?_, i + 1, v26, rfl, hs.sub (.c rfl (.c rfl (.c rfl (.c rfl (.c rfl (.c rfl .n)))))), by omega⟩
   omega
  replace hc20 := of_decide_eq_false hc20
  refine wp_exit ?_
  refine th_e ?_
  refine th_e ?_
  refine in_hit ?_
  refine then_n (hK13 _ _ ?_)
  refine wp_seq_k fun K27 hK28 => ?_
  refine wp_region_lit ?_
  refine st_ldBA hs rfl .z (.z (.c (.c (.c (.c .n))))) Try.isAgg69 Try.sizeOf69 rfl ?_; clear hs w a; intro a w hs
  refine st_call hs (.c rfl .n) Try.call36 .n (gwrite_ok 0 0 (-1) _ (longL i) _ (by omega) (by omega) (by omega) (rd_row (hs.mem.del (.s .z))) (longL_wf (by omega))) rfl ?_; clear hs w a; rintro _ _ a w ⟨v29, rfl, rfl⟩ hs; simp only [List.cons_append, List.nil_append] at hs
  have hk30 := length_gwB 0 0 (-1) (longL i)
  refine st_run 5 [(9, .int .i64 (((gwErr 0 0 (-1) (longL i) : Nat) : Int))), (8, v29)] hs .n (by kernel_rfl) (by kernel_rfl) (by kernel_rfl) ?_; clear hs a; intro a hs
  refine wpList_nil ?_
  refine then_n (hK28 _ _ ?_)
  refine wp_seq_k fun K31 hK32 => ?_
  refine wp_seq_k fun K33 hK34 => ?_
  refine wp_region_lit ?_
  refine st_run 2 [(43, .bool (decide (128 < (n : Int))))] hs .n (by kernel_rfl) (by kernel_rfl) (by kernel_rfl) ?_; clear hs a; intro a hs
  refine wpList_nil ?_
  refine then_n (hK34 _ _ ?_)
  refine wp_if hs rfl (fun hc35 => ?_) (fun hc35 => ?_)
  ·
   replace hc35 := of_decide_eq_true hc35
   have hge := gw_long8 (n := i) (by omega)
   refine wp_seq_k fun K36 hK37 => ?_
   refine wp_region_lit ?_
   refine st_run 2 [(45, .bool (!((((gwErr 0 0 (-1) (longL i) : Nat) : Int) : Int) == 8)))] hs .n (by kernel_rfl) (by kernel_rfl) (by kernel_rfl) ?_; clear hs a; intro a hs
   have hb_ : (!((((gwErr 0 0 (-1) (longL i) : Nat) : Int) : Int) == 8)) = false := by rw [Bool.not_eq_false', beq_iff_eq]; omega
   rw [hb_] at hs; clear hb_
   refine st_run 2 [(47, v29), (46, .bool (false))] hs .n (by kernel_rfl) (by kernel_rfl) (by kernel_rfl) ?_; clear hs a; intro a hs
   refine st_guardT hs rfl rfl rfl ?_
   refine st_len hs rfl (rd_row (hs.mem.del .z)).isSl Try.underlying26 rfl ?_; clear hs w a; intro a w hs
   refine st_guardT hs rfl rfl rfl ?_
   refine st_neq hs rfl rfl rfl ?_; clear hs w a; intro a w hs
   have hb_ : (!(((((gwB 0 0 (-1) (longL i)).length : Nat) : Int) : Int) == 0)) = false := by rw [gwB, if_pos (by omega)]; rfl
   rw [hb_] at hs; clear hb_
   refine st_pickF hs rfl rfl rfl ?_; clear hs w a; intro a w hs
   refine wpList_nil ?_
   refine then_n (hK37 _ _ ?_)
   refine wp_cond_false (hs.ev rfl) ?_
   refine wp_skip ?_
   refine then_n (hK32 _ _ ?_)
   refine wp_seq_k fun K38 hK39 => ?_
   refine wp_region_lit ?_
   refine st_mv hs rfl rfl ?_; clear hs w a; intro a w hs
   refine st_cv_i64 hs rfl (bvr z) Try.underlying23 Try.underlying3 rfl ?_; clear hs w a; intro a w hs
   refine st_remN hs rfl rfl (by omega) rfl ?_; clear hs w a; intro a w hs
   have hv_ : (((((z).toNat : Nat) : Int)) % 9000 : Int) = (((z.toNat % 9000 : Nat) : Int) : Int) := by omega
   rw [hv_] at hs; clear hv_
   refine st_mk (m := (z.toNat % 9000)) (bytes := 1) hs rfl rfl Try.underlying26 (i := Try.t5) rfl rfl rfl rfl (by show 1 * ((z.toNat % 9000)) ≤ 281474976710656; omega) (by omega) rfl ?_; clear hs w a; intro v40 a w hs
   replace hs := hs.rerow .z (m' := (z.toNat % 9000)) (xs' := bytesV (List.replicate (z.toNat % 9000) 0#8)) (rfl) (by simp [bytesV, byteV])
   refine st_call hs (.c rfl .n) Try.call41 .n (gread_ok _ _ ((List.replicate (z.toNat % 9000) 0#8)) _ (rd_row (hs.mem.del .z))) rfl ?_; clear hs w a; rintro _ _ a w ⟨v41, rfl, rfl⟩ hs; simp only [List.cons_append, List.nil_append] at hs
   have hk42 := gRead_le ((List.replicate (z.toNat % 9000) 0#8))
   have hz := gread_zeros (z.toNat % 9000)
   refine st_run 4 [(9, .int .i64 ((((gRead ((List.replicate (z.toNat % 9000) 0#8))).e : Nat) : Int)))] hs .n (by kernel_rfl) (by kernel_rfl) (by kernel_rfl) ?_; clear hs a; intro a hs
   refine wpList_nil ?_
   refine then_n (hK39 _ _ ?_)
   refine wp_seq_k fun K43 hK44 => ?_
   refine wp_region_lit ?_
   refine st_callP (v := .bool (true)) hs .n Try.call35 (alive09_ok _) rfl ?_; clear hs w a; intro a w hs
   refine st_run 4 [(81, .int .u16 ((((z).toNat : Nat) : Int))), (80, .bool (((((gRead ((List.replicate (z.toNat % 9000) 0#8))).e : Nat) : Int) : Int) == 8)), (78, .bool (true))] hs .n (by kernel_rfl) (by kernel_rfl) (by kernel_rfl) ?_; clear hs a; intro a hs
   refine st_guardT hs rfl rfl rfl ?_
   refine st_cv_i64 hs rfl (bvr z) Try.underlying23 Try.underlying3 rfl ?_; clear hs w a; intro a w hs
   refine st_guardT hs rfl rfl rfl ?_
   refine st_remN hs rfl rfl (by omega) rfl ?_; clear hs w a; intro a w hs
   have hv_ : (((((z).toNat : Nat) : Int)) % 9000 : Int) = (((z.toNat % 9000 : Nat) : Int) : Int) := by omega
   rw [hv_] at hs; clear hv_
   refine st_guardT hs rfl rfl rfl ?_
   refine st_gtr hs rfl rfl rfl ?_; clear hs w a; intro a w hs
   refine st_guardT hs rfl rfl rfl ?_
   refine st_eqb hs rfl rfl Try.underlying4 rfl ?_; clear hs w a; intro a w hs
   have hb_ : ((((((gRead ((List.replicate (z.toNat % 9000) 0#8))).e : Nat) : Int) : Int) == 8 : Bool) == (decide (4096 < (((z.toNat % 9000 : Nat) : Int))))) = true := by rw [beq_iff_eq, Bool.eq_iff_iff, beq_iff_eq, decide_eq_true_iff]; omega
   rw [hb_] at hs; clear hb_
   refine st_run 4 [(89, .bool (!(((((gRead ((List.replicate (z.toNat % 9000) 0#8))).e : Nat) : Int) : Int) == 0))), (87, .bool (true))] hs .n (by kernel_rfl) (by kernel_rfl) (by kernel_rfl) ?_; clear hs a; intro a hs
   have hb_ : (!(((((gRead ((List.replicate (z.toNat % 9000) 0#8))).e : Nat) : Int) : Int) == 0)) = true := by rw [Bool.not_eq_true']; exact beq_eq_false_iff_ne.2 (by omega)
   rw [hb_] at hs; clear hb_
   refine st_run 2 [(4, .bool (true))] hs .n (by kernel_rfl) (by kernel_rfl) (by kernel_rfl) ?_; clear hs a; intro a hs
   refine wpList_nil ?_
   refine then_n (hK44 _ _ ?_)
   refine wp_ret ?_
   replace hs := hs.drop (.c (.s (.s (.s (.s .z)))) (.c (.s (.s (.s .z))) (.c (.s (.s .z)) (.c (.s .z) (.c .z .n)))))
   exact fin hs rfl rfl ⟨rfl, rfl⟩
  replace hc35 := of_decide_eq_false hc35
  have hge := gw_long0 (n := i) (by omega)
  have hF := gread_forth (longL_wf (by omega)) hge
  refine wp_seq_k fun K45 hK46 => ?_
  refine wp_region_lit ?_
  refine st_mv hs rfl rfl ?_; clear hs w a; intro a w hs
  refine st_call hs (.c rfl .n) Try.call41 .n (gread_ok _ _ ((gwB 0 0 (-1) (longL i))) _ (rd_row (hs.mem.del .z))) rfl ?_; clear hs w a; rintro _ _ a w ⟨v47, rfl, rfl⟩ hs; simp only [List.cons_append, List.nil_append] at hs
  have hk48 := gRead_le ((gwB 0 0 (-1) (longL i)))
  refine st_run 3 [(55, .int .i64 ((((gRead ((gwB 0 0 (-1) (longL i)))).e : Nat) : Int))), (54, .agg #[.int .i64 ((gRead ((gwB 0 0 (-1) (longL i)))).t), .int .i64 ((gRead ((gwB 0 0 (-1) (longL i)))).tm), .int .i64 ((gRead ((gwB 0 0 (-1) (longL i)))).b), v47])] hs .n (by kernel_rfl) (by kernel_rfl) (by kernel_rfl) ?_; clear hs a; intro a hs
  refine st_alloc (cs := [.int .i64 (0), .int .i64 (0), .int .i64 (0), .slice none 0 0]) hs Try.zeroValue69 rfl rfl ?_; clear hs w a; intro g49 a w hs
  refine st_stBA hs rfl rfl .z (.z (.c (.c (.c (.c .n))))) (ones_c rfl (ones_c rfl (ones_c rfl (ones_c (rd_row (hs.mem.del (.s .z))).isSl.one ones_n)))) Try.sizeOf69 rfl ?_; clear hs w a; intro a w hs
  refine st_as hs rfl rfl ?_; clear hs w a; intro a w hs
  refine wpList_nil ?_
  refine then_n (hK46 _ _ ?_)
  refine wp_seq_k fun K50 hK51 => ?_
  refine wp_region_lit ?_
  refine st_run 2 [(57, .bool (!((((gwErr 0 0 (-1) (longL i) : Nat) : Int) : Int) == 0)))] hs .n (by kernel_rfl) (by kernel_rfl) (by kernel_rfl) ?_; clear hs a; intro a hs
  have hb_ : (!((((gwErr 0 0 (-1) (longL i) : Nat) : Int) : Int) == 0)) = false := by rw [Bool.not_eq_false', beq_iff_eq]; omega
  rw [hb_] at hs; clear hb_
  refine st_run 3 [(60, .bool (!(((((gRead ((gwB 0 0 (-1) (longL i)))).e : Nat) : Int) : Int) == 0))), (58, .bool (false))] hs .n (by kernel_rfl) (by kernel_rfl) (by kernel_rfl) ?_; clear hs a; intro a hs
  have hb_ : (!(((((gRead ((gwB 0 0 (-1) (longL i)))).e : Nat) : Int) : Int) == 0)) = false := by rw [hF]; rfl
  rw [hb_] at hs; clear hb_
  refine st_run 4 [(64, v47), (62, .bool (false))] hs (.c (hs.mem.del .z) .n) (by kernel_rfl) (by kernel_rfl) (by kernel_rfl) ?_; clear hs a; intro a hs
  refine st_guardT hs rfl rfl rfl ?_
  refine st_len hs rfl (rd_row (hs.mem.del (.s .z))).isSl Try.underlying66 rfl ?_; clear hs w a; intro a w hs
  refine st_run 2 [(67, .bool (!(((((gRead ((gwB 0 0 (-1) (longL i)))).l.length : Nat) : Int) : Int) == (n : Int))))] hs .n (by kernel_rfl) (by kernel_rfl) (by kernel_rfl) ?_; clear hs a; intro a hs
  have hb_ : (!(((((gRead ((gwB 0 0 (-1) (longL i)))).l.length : Nat) : Int) : Int) == (n : Int))) = false := by rw [hF, Bool.not_eq_false', beq_iff_eq]; dsimp only; rw [longL_len]; omega
  rw [hb_] at hs; clear hb_
  refine st_pickF hs rfl rfl rfl ?_; clear hs w a; intro a w hs
  refine wpList_nil ?_
  refine then_n (hK51 _ _ ?_)
  refine wp_cond_false (hs.ev rfl) ?_
  refine wp_skip ?_
  refine then_n (hK32 _ _ ?_)
  refine wp_seq_k fun K52 hK53 => ?_
  refine wp_region_lit ?_
  refine st_mv hs rfl rfl ?_; clear hs w a; intro a w hs
  refine st_cv_i64 hs rfl (bvr z) Try.underlying23 Try.underlying3 rfl ?_; clear hs w a; intro a w hs
  refine st_remN hs rfl rfl (by omega) rfl ?_; clear hs w a; intro a w hs
  have hv_ : (((((z).toNat : Nat) : Int)) % 9000 : Int) = (((z.toNat % 9000 : Nat) : Int) : Int) := by omega
  rw [hv_] at hs; clear hv_
  refine st_mk (m := (z.toNat % 9000)) (bytes := 1) hs rfl rfl Try.underlying26 (i := Try.t5) rfl rfl rfl rfl (by show 1 * ((z.toNat % 9000)) ≤ 281474976710656; omega) (by omega) rfl ?_; clear hs w a; intro v54 a w hs
  replace hs := hs.rerow .z (m' := (z.toNat % 9000)) (xs' := bytesV (List.replicate (z.toNat % 9000) 0#8)) (rfl) (by simp [bytesV, byteV])
  refine st_call hs (.c rfl .n) Try.call41 .n (gread_ok _ _ ((List.replicate (z.toNat % 9000) 0#8)) _ (rd_row (hs.mem.del .z))) rfl ?_; clear hs w a; rintro _ _ a w ⟨v55, rfl, rfl⟩ hs; simp only [List.cons_append, List.nil_append] at hs
  have hk56 := gRead_le ((List.replicate (z.toNat % 9000) 0#8))
  have hz := gread_zeros (z.toNat % 9000)
  refine st_run 4 [(9, .int .i64 ((((gRead ((List.replicate (z.toNat % 9000) 0#8))).e : Nat) : Int)))] hs .n (by kernel_rfl) (by kernel_rfl) (by kernel_rfl) ?_; clear hs a; intro a hs
  refine wpList_nil ?_
  refine then_n (hK53 _ _ ?_)
  refine wp_seq_k fun K57 hK58 => ?_
  refine wp_region_lit ?_
  refine st_callP (v := .bool (true)) hs .n Try.call35 (alive09_ok _) rfl ?_; clear hs w a; intro a w hs
  refine st_run 4 [(81, .int .u16 ((((z).toNat : Nat) : Int))), (80, .bool (((((gRead ((List.replicate (z.toNat % 9000) 0#8))).e : Nat) : Int) : Int) == 8)), (78, .bool (true))] hs .n (by kernel_rfl) (by kernel_rfl) (by kernel_rfl) ?_; clear hs a; intro a hs
  refine st_guardT hs rfl rfl rfl ?_
  refine st_cv_i64 hs rfl (bvr z) Try.underlying23 Try.underlying3 rfl ?_; clear hs w a; intro a w hs
  refine st_guardT hs rfl rfl rfl ?_
  refine st_remN hs rfl rfl (by omega) rfl ?_; clear hs w a; intro a w hs
  have hv_ : (((((z).toNat : Nat) : Int)) % 9000 : Int) = (((z.toNat % 9000 : Nat) : Int) : Int) := by omega
  rw [hv_] at hs; clear hv_
  refine st_guardT hs rfl rfl rfl ?_
  refine st_gtr hs rfl rfl rfl ?_; clear hs w a; intro a w hs
  refine st_guardT hs rfl rfl rfl ?_
  refine st_eqb hs rfl rfl Try.underlying4 rfl ?_; clear hs w a; intro a w hs
  have hb_ : ((((((gRead ((List.replicate (z.toNat % 9000) 0#8))).e : Nat) : Int) : Int) == 8 : Bool) == (decide (4096 < (((z.toNat % 9000 : Nat) : Int))))) = true := by rw [beq_iff_eq, Bool.eq_iff_iff, beq_iff_eq, decide_eq_true_iff]; omega
  rw [hb_] at hs; clear hb_
  refine st_run 4 [(89, .bool (!(((((gRead ((List.replicate (z.toNat % 9000) 0#8))).e : Nat) : Int) : Int) == 0))), (87, .bool (true))] hs .n (by kernel_rfl) (by kernel_rfl) (by kernel_rfl) ?_; clear hs a; intro a hs
  have hb_ : (!(((((gRead ((List.replicate (z.toNat % 9000) 0#8))).e : Nat) : Int) : Int) == 0)) = true := by rw [Bool.not_eq_true']; exact beq_eq_false_iff_ne.2 (by omega)
  rw [hb_] at hs; clear hb_
  refine st_run 2 [(4, .bool (true))] hs .n (by kernel_rfl) (by kernel_rfl) (by kernel_rfl) ?_; clear hs a; intro a hs
  refine wpList_nil ?_
  refine then_n (hK58 _ _ ?_)
  refine wp_ret ?_
  replace hs := hs.drop (.c (.s (.s (.s (.s (.s (.s .z)))))) (.c (.s (.s (.s (.s (.s .z))))) (.c (.s (.s (.s (.s .z)))) (.c (.s (.s (.s .z))) (.c (.s (.s .z)) (.c (.s .z) (.c .z .n)))))))
  exact fin hs rfl rfl ⟨rfl, rfl⟩
end Go.Proofs.Ytkobgcoegajfcaa
