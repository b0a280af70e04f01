/- Walks of GramOne: what each function does, over the program of this seat. Printed by a program of this session. -/
import Derived.Test.YtkobgcoegajfcaaWgram
import Derived.Test.YtkobgcoegajfcaaWgramS
import Derived.Test.YtkobgcoegajfcaaSxPgramK
namespace Go.Proofs.Ytkobgcoegajfcaa
open Go Go.Sx Go.RowKit
set_option linter.unusedVariables false
set_option linter.unusedSimpArgs false
set_option maxRecDepth 4000
set_option maxHeartbeats 1000000

theorem gramOne_ok (v : Value) (m : Nat) (bs : List Byte) (w0 : World) (hb : Rd w0 [] v 1 m (bytesV bs)) : Calls Try.prog 17 #[v] w0 (RetV w0 (.bool true)) := by
  have hbl : bs.length = m := by have := hb.len; simpa [bytesV] using this
  have hbe : m ≤ maxLen := hb.le
  simp only [maxLen] at hbe
  refine enter (F0 := [(0, v)]) Try.func17 rfl rfl rfl (.c .n) (Mem.nil _) fun a w hs => ?_
  refine wp_seq_k fun K1 hK2 => ?_
  refine wp_region_lit ?_
  refine st_as hs rfl rfl ?_; clear hs w a; intro a w hs
  refine wpList_nil ?_
  refine then_n (hK2 _ _ ?_)
  refine wp_seq_k fun K3 hK4 => ?_
  refine wp_seq_k fun K5 hK6 => ?_
  refine wp_region_lit ?_
  refine st_mv hs rfl rfl ?_; clear hs w a; intro a w hs
  refine st_len hs rfl (hs.rd0 hb).isSl Try.underlying26 rfl ?_; clear hs w a; intro a w hs
  refine st_gtr hs rfl rfl rfl ?_; clear hs w a; intro a w hs
  refine wpList_nil ?_
  refine then_n (hK6 _ _ ?_)
  refine wp_if hs rfl (fun hc7 => ?_) (fun hc7 => ?_)
  ·
   replace hc7 := of_decide_eq_true hc7
   refine wp_seq_k fun K8 hK9 => ?_
   refine wp_region_lit ?_
   refine st_callP (v := .bool (true)) hs .n Try.call35 (alive09_ok _) rfl ?_; clear hs w a; intro a w hs
   refine st_as hs rfl rfl ?_; clear hs w a; intro a w hs
   refine wpList_nil ?_
   refine then_n (hK9 _ _ ?_)
   refine wp_ret ?_
   refine th_r ?_
   exact fin hs rfl rfl ⟨rfl, rfl⟩
  replace hc7 := of_decide_eq_false hc7
  refine wp_skip ?_
  refine then_n (hK4 _ _ ?_)
  refine wp_seq_k fun K10 hK11 => ?_
  refine wp_seq_k fun K12 hK13 => ?_
  refine wp_region_lit ?_
  refine st_run 2 [(14, v), (13, v)] hs .n (by kernel_rfl) (by kernel_rfl) (by kernel_rfl) ?_; clear hs a; intro a hs
  refine st_call hs (.c rfl .n) Try.call43 .n (seal_ok _ _ bs _ (hs.rd0 hb) (by omega)) rfl ?_; clear hs w a; rintro v14 _ a w rfl hs; simp only [List.cons_append, List.nil_append] at hs
  refine st_bs (cs := [v, v14]) hs (.c (.c .n)) (.c rfl (.c rfl .n)) Try.underlying86 (ie := Try.t26) rfl rfl rfl rfl (by decide) (by decide) rfl (by decide) (by simp only [List.all_cons, List.all_nil, ← Array.length_toList, (hs.rd0 hb).isSl.lcells, (rd_row (hs.mem.del .z)).isSl.lcells]; rfl) (by simp [(hs.rd0 hb).isSl.lcells, (rd_row (hs.mem.del .z)).isSl.lcells]) rfl ?_; clear hs w a; intro g15 a w hs
  refine st_len hs rfl (rd_blk (m := 2) (size := 1) (hs.mem.del .z) rfl (by decide)).isSl Try.underlying86 rfl ?_; clear hs w a; intro a w hs
  replace hs := hs.recell (v' := .int .i64 (2)) (Option.some.inj rfl)
  refine st_mv hs rfl rfl ?_; clear hs w a; intro a w hs
  refine wpList_nil ?_
  refine then_n (hK13 _ _ ?_)
  refine wp_block ?_
  refine wp_loop_rounds 3 ?_
  refine rounds_in ?_
  refine wp_cut (fun a w => St 69 [(16, .slice (some ⟨g15, 0, none⟩) 2 2), (17, .int .i64 (2)), (18, .int .i64 (1))] w0 [] [blk g15 [v, v14] 26, row v14 5 1 (m + 4) (bytesV (seal_ bs))] a w) ?_ ?_
  ·
   refine wp_seq_k fun K16 hK17 => ?_
   refine wp_region_lit ?_
   refine st_lss hs rfl rfl rfl ?_; clear hs w a; intro a w hs
   rw [show (decide ((0 : Int) < 2)) = true from by decide] at hs
   refine wpList_nil ?_
   refine then_n (hK17 _ _ ?_)
   refine wp_seq_k fun K18 hK19 => ?_
   refine wp_cond_true (hs.ev rfl) ?_
   refine wp_skip ?_
   refine then_n (hK19 _ _ ?_)
   refine wp_seq_k fun K20 hK21 => ?_
   refine wp_block ?_
   refine wp_seq_k fun K22 hK23 => ?_
   refine wp_region_lit ?_
   refine st_ia1 (j := 0) hs rfl rfl (rd_blk (m := 2) (size := 1) (hs.mem.del .z) rfl (by decide)) (by decide) (by omega) Try.underlying86 Try.sizeOf26 rfl ?_; clear hs w a; intro a w hs
   refine st_ld (u := v) hs rfl (rd_blk (m := 2) (size := 1) (hs.mem.del .z) rfl (by decide)) (by rfl) Try.isAgg26 rfl ?_; clear hs w a; intro a w hs
   refine st_as hs rfl rfl ?_; clear hs w a; intro a w hs
   refine wpList_nil ?_
   refine then_n (hK23 _ _ ?_)
   refine wp_seq_k fun K24 hK25 => ?_
   refine wp_region_lit ?_
   refine st_mv hs rfl rfl ?_; clear hs w a; intro a w hs
   refine st_call hs (.c rfl .n) Try.call41 .n (gread_ok _ _ bs _ (hs.rd0 hb)) rfl ?_; clear hs w a; rintro _ _ a w ⟨v26, rfl, rfl⟩ hs; simp only [List.cons_append, List.nil_append] at hs
   have hk27 := gRead_le bs
   refine st_run 3 [(26, .int .i64 ((((gRead bs).e : Nat) : Int))), (25, .agg #[.int .i64 ((gRead bs).t), .int .i64 ((gRead bs).tm), .int .i64 ((gRead bs).b), v26]), (22, .tuple #[.agg #[.int .i64 ((gRead bs).t), .int .i64 ((gRead bs).tm), .int .i64 ((gRead bs).b), v26], .int .i64 ((((gRead bs).e : Nat) : Int))])] hs .n (by kernel_rfl) (by kernel_rfl) (by kernel_rfl) ?_; clear hs a; intro a hs
   refine st_alloc (cs := [.int .i64 (0), .int .i64 (0), .int .i64 (0), .slice none 0 0]) hs Try.zeroValue69 rfl rfl ?_; clear hs w a; intro g28 a w hs
   refine st_stBA hs rfl rfl .z (.z (.c (.c (.c (.c .n))))) (ones_c rfl (ones_c rfl (ones_c rfl (ones_c (rd_row (hs.mem.del (.s .z))).isSl.one ones_n)))) Try.sizeOf69 rfl ?_; clear hs w a; intro a w hs
   refine st_as hs rfl rfl ?_; clear hs w a; intro a w hs
   refine wpList_nil ?_
   refine then_n (hK25 _ _ ?_)
   refine wp_seq_k fun K29 hK30 => ?_
   refine wp_seq_k fun K31 hK32 => ?_
   refine wp_region_lit ?_
   refine st_run 2 [(28, .bool (!(((((gRead bs).e : Nat) : Int) : Int) == 0))), (27, .int .i64 ((((gRead bs).e : Nat) : Int)))] hs .n (by kernel_rfl) (by kernel_rfl) (by kernel_rfl) ?_; clear hs a; intro a hs
   refine wpList_nil ?_
   refine then_n (hK32 _ _ ?_)
   refine wp_if hs rfl (fun hc33 => ?_) (fun hc33 => ?_)
   ·
    replace hc33 := not_t hc33
    replace hc33 := ne_of_beq_f hc33
    have hz := gRead_zero (bs := bs) (by omega)
    refine wp_seq_k fun K34 hK35 => ?_
    refine wp_seq_k fun K36 hK37 => ?_
    refine wp_region_lit ?_
    refine st_run 2 [(30, v26), (29, .pointer (some ⟨g28, 3, none⟩))] hs (.c (hs.mem.del .z) .n) (by kernel_rfl) (by kernel_rfl) (by kernel_rfl) ?_; clear hs a; intro a hs
    refine st_len hs rfl (rd_row (hs.mem.del (.s .z))).isSl Try.underlying66 rfl ?_; clear hs w a; intro a w hs
    refine st_neq hs rfl rfl rfl ?_; clear hs w a; intro a w hs
    have hb_ : (!(((((gRead bs).l.length : Nat) : Int) : Int) == 0)) = false := by rw [Bool.not_eq_false', beq_iff_eq]; omega
    rw [hb_] at hs; clear hb_
    refine st_run 4 [(36, .bool (!(((gRead bs).t : Int) == 0))), (35, .int .i64 ((gRead bs).t)), (34, .pointer (some ⟨g28, 0, none⟩)), (33, .bool (false))] hs (.c (hs.mem.del .z) .n) (by kernel_rfl) (by kernel_rfl) (by kernel_rfl) ?_; clear hs a; intro a hs
    have hb_ : (!(((gRead bs).t : Int) == 0)) = false := by rw [Bool.not_eq_false', beq_iff_eq]; omega
    rw [hb_] at hs; clear hb_
    refine st_run 5 [(41, .bool (!(((gRead bs).tm : Int) == 0))), (40, .int .i64 ((gRead bs).tm)), (39, .pointer (some ⟨g28, 1, none⟩)), (38, .bool (false)), (37, .bool (false))] hs (.c (hs.mem.del .z) .n) (by kernel_rfl) (by kernel_rfl) (by kernel_rfl) ?_; clear hs a; intro a hs
    have hb_ : (!(((gRead bs).tm : Int) == 0)) = false := by rw [Bool.not_eq_false', beq_iff_eq]; omega
    rw [hb_] at hs; clear hb_
    refine st_run 5 [(46, .bool (!(((gRead bs).b : Int) == 0))), (45, .int .i64 ((gRead bs).b)), (44, .pointer (some ⟨g28, 2, none⟩)), (43, .bool (false)), (42, .bool (false))] hs (.c (hs.mem.del .z) .n) (by kernel_rfl) (by kernel_rfl) (by kernel_rfl) ?_; clear hs a; intro a hs
    have hb_ : (!(((gRead bs).b : Int) == 0)) = false := by rw [Bool.not_eq_false', beq_iff_eq]; omega
    rw [hb_] at hs; clear hb_
    refine st_pickF hs rfl rfl rfl ?_; clear hs w a; intro a w hs
    refine wpList_nil ?_
    refine then_n (hK37 _ _ ?_)
    refine wp_cond_false (hs.ev rfl) ?_
    refine wp_skip ?_
    refine then_n (hK35 _ _ ?_)
    refine wp_exit ?_
    refine th_e ?_
    refine in_hit ?_
    refine then_n (hK21 _ _ ?_)
    refine wp_region_lit ?_
    refine st_run 2 [(18, .int .i64 (1)), (67, .int .i64 (1))] hs .n (by kernel_rfl) (by kernel_rfl) (by kernel_rfl) ?_; clear hs a; intro a hs
    refine wpList_nil ?_
    refine then_n ?_
    replace hs := hs.drop (.c (.s .z) (.c .z .n))
    exact hs.sub (.c rfl (.c rfl (.c rfl .n)))
   replace hc33 := not_f hc33
   replace hc33 := eq_of_beq hc33
   have hbk := gread_back (bs := bs) (by omega)
   have hbp := (gwErr_parts hbk.1).1
   have hb1 := hbk.1
   refine wp_skip ?_
   refine then_n (hK30 _ _ ?_)
   refine wp_seq_k fun K38 hK39 => ?_
   refine wp_region_lit ?_
   refine st_ldBA hs rfl .z (.z (.c (.c (.c (.c .n))))) Try.isAgg69 Try.sizeOf69 rfl ?_; clear hs w a; intro a w hs
   refine st_call hs (.c rfl .n) Try.call36 .n (gwrite_ok ((gRead bs).t) ((gRead bs).tm) ((gRead bs).b) _ ((gRead bs).l) _ (by omega) (by omega) (by omega) (rd_row (hs.mem.del (.s .z))) (gread_wf bs)) rfl ?_; clear hs w a; rintro _ _ a w ⟨v40, rfl, rfl⟩ hs; simp only [List.cons_append, List.nil_append] at hs
   have hk41 := length_gwB ((gRead bs).t) ((gRead bs).tm) ((gRead bs).b) ((gRead bs).l)
   refine st_run 5 [(8, .int .i64 (((gwErr ((gRead bs).t) ((gRead bs).tm) ((gRead bs).b) ((gRead bs).l) : Nat) : Int))), (7, v40), (52, .int .i64 (((gwErr ((gRead bs).t) ((gRead bs).tm) ((gRead bs).b) ((gRead bs).l) : Nat) : Int))), (51, v40), (48, .tuple #[v40, .int .i64 (((gwErr ((gRead bs).t) ((gRead bs).tm) ((gRead bs).b) ((gRead bs).l) : Nat) : Int))])] hs .n (by kernel_rfl) (by kernel_rfl) (by kernel_rfl) ?_; clear hs a; intro a hs
   refine wpList_nil ?_
   refine then_n (hK39 _ _ ?_)
   refine wp_seq_k fun K42 hK43 => ?_
   refine wp_region_lit ?_
   refine st_run 2 [(54, .bool (!((((gwErr ((gRead bs).t) ((gRead bs).tm) ((gRead bs).b) ((gRead bs).l) : Nat) : Int) : Int) == 0))), (53, .int .i64 (((gwErr ((gRead bs).t) ((gRead bs).tm) ((gRead bs).b) ((gRead bs).l) : Nat) : Int)))] hs .n (by kernel_rfl) (by kernel_rfl) (by kernel_rfl) ?_; clear hs a; intro a hs
   have hb_ : (!((((gwErr ((gRead bs).t) ((gRead bs).tm) ((gRead bs).b) ((gRead bs).l) : Nat) : Int) : Int) == 0)) = false := by rw [Bool.not_eq_false', beq_iff_eq]; omega
   rw [hb_] at hs; clear hb_
   refine st_run 2 [(56, v40), (55, .bool (false))] hs .n (by kernel_rfl) (by kernel_rfl) (by kernel_rfl) ?_; clear hs a; intro a hs
   refine st_guardT hs rfl rfl rfl ?_
   refine st_str (bs := (gwB ((gRead bs).t) ((gRead bs).tm) ((gRead bs).b) ((gRead bs).l))) hs rfl (rd_row (hs.mem.del .z)) Try.underlying26 Try.underlying5 Try.underlying9 rfl ?_; clear hs w a; intro a w hs
   refine st_guardT hs rfl rfl rfl ?_
   refine st_mv hs rfl rfl ?_; clear hs w a; intro a w hs
   refine st_guardT hs rfl rfl rfl ?_
   refine st_str (bs := bs) hs rfl (hs.rd0 hb) Try.underlying26 Try.underlying5 Try.underlying9 rfl ?_; clear hs w a; intro a w hs
   refine st_guardT hs rfl rfl rfl ?_
   refine st_nes (p := strB ((gwB ((gRead bs).t) ((gRead bs).tm) ((gRead bs).b) ((gRead bs).l)))) (q := strB bs) hs rfl rfl rfl ?_; clear hs w a; intro a w hs
   have hb_ : (!((strB ((gwB ((gRead bs).t) ((gRead bs).tm) ((gRead bs).b) ((gRead bs).l)))).toList == (strB bs).toList)) = false := by rw [hbk.2.1]; exact congrArg (!·) (beq_self_eq_true _)
   rw [hb_] at hs; clear hb_
   refine st_run 3 [(63, .agg #[.int .i64 ((gRead bs).t), .int .i64 ((gRead bs).tm), .int .i64 ((gRead bs).b), v26]), (62, .bool (false)), (61, .bool (false))] hs (.c (hs.mem.del (.s .z)) .n) (by kernel_rfl) (by kernel_rfl) (by kernel_rfl) ?_; clear hs a; intro a hs
   refine st_guardT hs rfl rfl rfl ?_
   refine st_callP (v := .int .i64 (((bodyErr ((gRead bs).t) ((gRead bs).tm) ((gRead bs).b) ((gRead bs).l) : Nat) : Int))) hs (.c rfl .n) Try.call39 (gcheck_ok ((gRead bs).t) ((gRead bs).tm) ((gRead bs).b) _ ((gRead bs).l) _ (by omega) (by omega) (by omega) (rd_row (hs.mem.del (.s (.s .z)))) (gread_wf bs)) rfl ?_; clear hs w a; intro a w hs
   refine st_guardT hs rfl rfl rfl ?_
   refine st_neq hs rfl rfl rfl ?_; clear hs w a; intro a w hs
   have hb_ : (!((((bodyErr ((gRead bs).t) ((gRead bs).tm) ((gRead bs).b) ((gRead bs).l) : Nat) : Int) : Int) == 0)) = false := by rw [Bool.not_eq_false', beq_iff_eq]; omega
   rw [hb_] at hs; clear hb_
   refine st_pickF hs rfl rfl rfl ?_; clear hs w a; intro a w hs
   refine wpList_nil ?_
   refine then_n (hK43 _ _ ?_)
   refine wp_cond_false (hs.ev rfl) ?_
   refine wp_skip ?_
   refine in_n ?_
   refine then_n (hK21 _ _ ?_)
   refine wp_region_lit ?_
   refine st_run 2 [(18, .int .i64 (1)), (67, .int .i64 (1))] hs .n (by kernel_rfl) (by kernel_rfl) (by kernel_rfl) ?_; clear hs a; intro a hs
   refine wpList_nil ?_
   refine then_n ?_
   replace hs := hs.drop (.c (.s (.s .z)) (.c (.s .z) (.c .z .n)))
   exact hs.sub (.c rfl (.c rfl (.c rfl .n)))
  clear hs w a; rintro a w hs
  refine then_n ?_
  refine rounds_in ?_
  refine wp_cut (fun a w => St 69 [(16, .slice (some ⟨g15, 0, none⟩) 2 2), (17, .int .i64 (2)), (18, .int .i64 (2))] w0 [] [blk g15 [v, v14] 26, row v14 5 1 (m + 4) (bytesV (seal_ bs))] a w) ?_ ?_
  ·
   refine wp_seq_k fun K44 hK45 => ?_
   refine wp_region_lit ?_
   refine st_lss hs rfl rfl rfl ?_; clear hs w a; intro a w hs
   rw [show (decide ((1 : Int) < 2)) = true from by decide] at hs
   refine wpList_nil ?_
   refine then_n (hK45 _ _ ?_)
   refine wp_seq_k fun K46 hK47 => ?_
   refine wp_cond_true (hs.ev rfl) ?_
   refine wp_skip ?_
   refine then_n (hK47 _ _ ?_)
   refine wp_seq_k fun K48 hK49 => ?_
   refine wp_block ?_
   refine wp_seq_k fun K50 hK51 => ?_
   refine wp_region_lit ?_
   refine st_ia1 (j := 1) hs rfl rfl (rd_blk (m := 2) (size := 1) (hs.mem.del .z) rfl (by decide)) (by decide) (by omega) Try.underlying86 Try.sizeOf26 rfl ?_; clear hs w a; intro a w hs
   refine st_ld (u := v14) hs rfl (rd_blk (m := 2) (size := 1) (hs.mem.del .z) rfl (by decide)) (by rfl) Try.isAgg26 rfl ?_; clear hs w a; intro a w hs
   refine st_as hs rfl rfl ?_; clear hs w a; intro a w hs
   refine wpList_nil ?_
   refine then_n (hK51 _ _ ?_)
   refine wp_seq_k fun K52 hK53 => ?_
   refine wp_region_lit ?_
   refine st_mv hs rfl rfl ?_; clear hs w a; intro a w hs
   refine st_call hs (.c rfl .n) Try.call41 .n (gread_ok _ _ (seal_ bs) _ (rd_row (hs.mem.del (.s .z)))) rfl ?_; clear hs w a; rintro _ _ a w ⟨v54, rfl, rfl⟩ hs; simp only [List.cons_append, List.nil_append] at hs
   have hk55 := gRead_le (seal_ bs)
   refine st_run 3 [(26, .int .i64 ((((gRead (seal_ bs)).e : Nat) : Int))), (25, .agg #[.int .i64 ((gRead (seal_ bs)).t), .int .i64 ((gRead (seal_ bs)).tm), .int .i64 ((gRead (seal_ bs)).b), v54]), (22, .tuple #[.agg #[.int .i64 ((gRead (seal_ bs)).t), .int .i64 ((gRead (seal_ bs)).tm), .int .i64 ((gRead (seal_ bs)).b), v54], .int .i64 ((((gRead (seal_ bs)).e : Nat) : Int))])] hs .n (by kernel_rfl) (by kernel_rfl) (by kernel_rfl) ?_; clear hs a; intro a hs
   refine st_alloc (cs := [.int .i64 (0), .int .i64 (0), .int .i64 (0), .slice none 0 0]) hs Try.zeroValue69 rfl rfl ?_; clear hs w a; intro g56 a w hs
   refine st_stBA hs rfl rfl .z (.z (.c (.c (.c (.c .n))))) (ones_c rfl (ones_c rfl (ones_c rfl (ones_c (rd_row (hs.mem.del (.s .z))).isSl.one ones_n)))) Try.sizeOf69 rfl ?_; clear hs w a; intro a w hs
   refine st_as hs rfl rfl ?_; clear hs w a; intro a w hs
   refine wpList_nil ?_
   refine then_n (hK53 _ _ ?_)
   refine wp_seq_k fun K57 hK58 => ?_
   refine wp_seq_k fun K59 hK60 => ?_
   refine wp_region_lit ?_
   refine st_run 2 [(28, .bool (!(((((gRead (seal_ bs)).e : Nat) : Int) : Int) == 0))), (27, .int .i64 ((((gRead (seal_ bs)).e : Nat) : Int)))] hs .n (by kernel_rfl) (by kernel_rfl) (by kernel_rfl) ?_; clear hs a; intro a hs
   refine wpList_nil ?_
   refine then_n (hK60 _ _ ?_)
   refine wp_if hs rfl (fun hc61 => ?_) (fun hc61 => ?_)
   ·
    replace hc61 := not_t hc61
    replace hc61 := ne_of_beq_f hc61
    have hz := gRead_zero (bs := (seal_ bs)) (by omega)
    refine wp_seq_k fun K62 hK63 => ?_
    refine wp_seq_k fun K64 hK65 => ?_
    refine wp_region_lit ?_
    refine st_run 2 [(30, v54), (29, .pointer (some ⟨g56, 3, none⟩))] hs (.c (hs.mem.del .z) .n) (by kernel_rfl) (by kernel_rfl) (by kernel_rfl) ?_; clear hs a; intro a hs
    refine st_len hs rfl (rd_row (hs.mem.del (.s .z))).isSl Try.underlying66 rfl ?_; clear hs w a; intro a w hs
    refine st_neq hs rfl rfl rfl ?_; clear hs w a; intro a w hs
    have hb_ : (!(((((gRead (seal_ bs)).l.length : Nat) : Int) : Int) == 0)) = false := by rw [Bool.not_eq_false', beq_iff_eq]; omega
    rw [hb_] at hs; clear hb_
    refine st_run 4 [(36, .bool (!(((gRead (seal_ bs)).t : Int) == 0))), (35, .int .i64 ((gRead (seal_ bs)).t)), (34, .pointer (some ⟨g56, 0, none⟩)), (33, .bool (false))] hs (.c (hs.mem.del .z) .n) (by kernel_rfl) (by kernel_rfl) (by kernel_rfl) ?_; clear hs a; intro a hs
    have hb_ : (!(((gRead (seal_ bs)).t : Int) == 0)) = false := by rw [Bool.not_eq_false', beq_iff_eq]; omega
    rw [hb_] at hs; clear hb_
    refine st_run 5 [(41, .bool (!(((gRead (seal_ bs)).tm : Int) == 0))), (40, .int .i64 ((gRead (seal_ bs)).tm)), (39, .pointer (some ⟨g56, 1, none⟩)), (38, .bool (false)), (37, .bool (false))] hs (.c (hs.mem.del .z) .n) (by kernel_rfl) (by kernel_rfl) (by kernel_rfl) ?_; clear hs a; intro a hs
    have hb_ : (!(((gRead (seal_ bs)).tm : Int) == 0)) = false := by rw [Bool.not_eq_false', beq_iff_eq]; omega
    rw [hb_] at hs; clear hb_
    refine st_run 5 [(46, .bool (!(((gRead (seal_ bs)).b : Int) == 0))), (45, .int .i64 ((gRead (seal_ bs)).b)), (44, .pointer (some ⟨g56, 2, none⟩)), (43, .bool (false)), (42, .bool (false))] hs (.c (hs.mem.del .z) .n) (by kernel_rfl) (by kernel_rfl) (by kernel_rfl) ?_; clear hs a; intro a hs
    have hb_ : (!(((gRead (seal_ bs)).b : Int) == 0)) = false := by rw [Bool.not_eq_false', beq_iff_eq]; omega
    rw [hb_] at hs; clear hb_
    refine st_pickF hs rfl rfl rfl ?_; clear hs w a; intro a w hs
    refine wpList_nil ?_
    refine then_n (hK65 _ _ ?_)
    refine wp_cond_false (hs.ev rfl) ?_
    refine wp_skip ?_
    refine then_n (hK63 _ _ ?_)
    refine wp_exit ?_
    refine th_e ?_
    refine in_hit ?_
    refine then_n (hK49 _ _ ?_)
    refine wp_region_lit ?_
    refine st_run 2 [(18, .int .i64 (2)), (67, .int .i64 (2))] hs .n (by kernel_rfl) (by kernel_rfl) (by kernel_rfl) ?_; clear hs a; intro a hs
    refine wpList_nil ?_
    refine then_n ?_
    replace hs := hs.drop (.c (.s .z) (.c .z .n))
    exact hs.sub (.c rfl (.c rfl (.c rfl .n)))
   replace hc61 := not_f hc61
   replace hc61 := eq_of_beq hc61
   have hbk := gread_back (bs := (seal_ bs)) (by omega)
   have hbp := (gwErr_parts hbk.1).1
   have hb1 := hbk.1
   refine wp_skip ?_
   refine then_n (hK58 _ _ ?_)
   refine wp_seq_k fun K66 hK67 => ?_
   refine wp_region_lit ?_
   refine st_ldBA hs rfl .z (.z (.c (.c (.c (.c .n))))) Try.isAgg69 Try.sizeOf69 rfl ?_; clear hs w a; intro a w hs
   refine st_call hs (.c rfl .n) Try.call36 .n (gwrite_ok ((gRead (seal_ bs)).t) ((gRead (seal_ bs)).tm) ((gRead (seal_ bs)).b) _ ((gRead (seal_ bs)).l) _ (by omega) (by omega) (by omega) (rd_row (hs.mem.del (.s .z))) (gread_wf (seal_ bs))) rfl ?_; clear hs w a; rintro _ _ a w ⟨v68, rfl, rfl⟩ hs; simp only [List.cons_append, List.nil_append] at hs
   have hk69 := length_gwB ((gRead (seal_ bs)).t) ((gRead (seal_ bs)).tm) ((gRead (seal_ bs)).b) ((gRead (seal_ bs)).l)
   refine st_run 5 [(8, .int .i64 (((gwErr ((gRead (seal_ bs)).t) ((gRead (seal_ bs)).tm) ((gRead (seal_ bs)).b) ((gRead (seal_ bs)).l) : Nat) : Int))), (7, v68), (52, .int .i64 (((gwErr ((gRead (seal_ bs)).t) ((gRead (seal_ bs)).tm) ((gRead (seal_ bs)).b) ((gRead (seal_ bs)).l) : Nat) : Int))), (51, v68), (48, .tuple #[v68, .int .i64 (((gwErr ((gRead (seal_ bs)).t) ((gRead (seal_ bs)).tm) ((gRead (seal_ bs)).b) ((gRead (seal_ bs)).l) : Nat) : Int))])] hs .n (by kernel_rfl) (by kernel_rfl) (by kernel_rfl) ?_; clear hs a; intro a hs
   refine wpList_nil ?_
   refine then_n (hK67 _ _ ?_)
   refine wp_seq_k fun K70 hK71 => ?_
   refine wp_region_lit ?_
   refine st_run 2 [(54, .bool (!((((gwErr ((gRead (seal_ bs)).t) ((gRead (seal_ bs)).tm) ((gRead (seal_ bs)).b) ((gRead (seal_ bs)).l) : Nat) : Int) : Int) == 0))), (53, .int .i64 (((gwErr ((gRead (seal_ bs)).t) ((gRead (seal_ bs)).tm) ((gRead (seal_ bs)).b) ((gRead (seal_ bs)).l) : Nat) : Int)))] hs .n (by kernel_rfl) (by kernel_rfl) (by kernel_rfl) ?_; clear hs a; intro a hs
   have hb_ : (!((((gwErr ((gRead (seal_ bs)).t) ((gRead (seal_ bs)).tm) ((gRead (seal_ bs)).b) ((gRead (seal_ bs)).l) : Nat) : Int) : Int) == 0)) = false := by rw [Bool.not_eq_false', beq_iff_eq]; omega
   rw [hb_] at hs; clear hb_
   refine st_run 2 [(56, v68), (55, .bool (false))] hs .n (by kernel_rfl) (by kernel_rfl) (by kernel_rfl) ?_; clear hs a; intro a hs
   refine st_guardT hs rfl rfl rfl ?_
   refine st_str (bs := (gwB ((gRead (seal_ bs)).t) ((gRead (seal_ bs)).tm) ((gRead (seal_ bs)).b) ((gRead (seal_ bs)).l))) hs rfl (rd_row (hs.mem.del .z)) Try.underlying26 Try.underlying5 Try.underlying9 rfl ?_; clear hs w a; intro a w hs
   refine st_guardT hs rfl rfl rfl ?_
   refine st_mv hs rfl rfl ?_; clear hs w a; intro a w hs
   refine st_guardT hs rfl rfl rfl ?_
   refine st_str (bs := (seal_ bs)) hs rfl (rd_row (hs.mem.del (.s (.s (.s (.s .z)))))) Try.underlying26 Try.underlying5 Try.underlying9 rfl ?_; clear hs w a; intro a w hs
   refine st_guardT hs rfl rfl rfl ?_
   refine st_nes (p := strB ((gwB ((gRead (seal_ bs)).t) ((gRead (seal_ bs)).tm) ((gRead (seal_ bs)).b) ((gRead (seal_ bs)).l)))) (q := strB (seal_ bs)) hs rfl rfl rfl ?_; clear hs w a; intro a w hs
   have hb_ : (!((strB ((gwB ((gRead (seal_ bs)).t) ((gRead (seal_ bs)).tm) ((gRead (seal_ bs)).b) ((gRead (seal_ bs)).l)))).toList == (strB (seal_ bs)).toList)) = false := by rw [hbk.2.1]; exact congrArg (!·) (beq_self_eq_true _)
   rw [hb_] at hs; clear hb_
   refine st_run 3 [(63, .agg #[.int .i64 ((gRead (seal_ bs)).t), .int .i64 ((gRead (seal_ bs)).tm), .int .i64 ((gRead (seal_ bs)).b), v54]), (62, .bool (false)), (61, .bool (false))] hs (.c (hs.mem.del (.s .z)) .n) (by kernel_rfl) (by kernel_rfl) (by kernel_rfl) ?_; clear hs a; intro a hs
   refine st_guardT hs rfl rfl rfl ?_
   refine st_callP (v := .int .i64 (((bodyErr ((gRead (seal_ bs)).t) ((gRead (seal_ bs)).tm) ((gRead (seal_ bs)).b) ((gRead (seal_ bs)).l) : Nat) : Int))) hs (.c rfl .n) Try.call39 (gcheck_ok ((gRead (seal_ bs)).t) ((gRead (seal_ bs)).tm) ((gRead (seal_ bs)).b) _ ((gRead (seal_ bs)).l) _ (by omega) (by omega) (by omega) (rd_row (hs.mem.del (.s (.s .z)))) (gread_wf (seal_ bs))) rfl ?_; clear hs w a; intro a w hs
   refine st_guardT hs rfl rfl rfl ?_
   refine st_neq hs rfl rfl rfl ?_; clear hs w a; intro a w hs
   have hb_ : (!((((bodyErr ((gRead (seal_ bs)).t) ((gRead (seal_ bs)).tm) ((gRead (seal_ bs)).b) ((gRead (seal_ bs)).l) : Nat) : Int) : Int) == 0)) = false := by rw [Bool.not_eq_false', beq_iff_eq]; omega
   rw [hb_] at hs; clear hb_
   refine st_pickF hs rfl rfl rfl ?_; clear hs w a; intro a w hs
   refine wpList_nil ?_
   refine then_n (hK71 _ _ ?_)
   refine wp_cond_false (hs.ev rfl) ?_
   refine wp_skip ?_
   refine in_n ?_
   refine then_n (hK49 _ _ ?_)
   refine wp_region_lit ?_
   refine st_run 2 [(18, .int .i64 (2)), (67, .int .i64 (2))] hs .n (by kernel_rfl) (by kernel_rfl) (by kernel_rfl) ?_; clear hs a; intro a hs
   refine wpList_nil ?_
   refine then_n ?_
   replace hs := hs.drop (.c (.s (.s .z)) (.c (.s .z) (.c .z .n)))
   exact hs.sub (.c rfl (.c rfl (.c rfl .n)))
  clear hs w a; rintro a w hs
  refine then_n ?_
  refine rounds_in ?_
  refine wp_seq_k fun K72 hK73 => ?_
  refine wp_region_lit ?_
  refine st_lss hs rfl rfl rfl ?_; clear hs w a; intro a w hs
  rw [show (decide ((2 : Int) < 2)) = false from by decide] at hs
  refine wpList_nil ?_
  refine then_n (hK73 _ _ ?_)
  refine wp_seq_k fun K74 hK75 => ?_
  refine wp_cond_false (hs.ev rfl) ?_
  refine wp_exit ?_
  refine th_e ?_
  refine th_e ?_
  refine in_hit ?_
  refine then_n (hK11 _ _ ?_)
  refine wp_seq_k fun K76 hK77 => ?_
  refine wp_region_lit ?_
  refine st_callP (v := .bool (true)) hs .n Try.call35 (alive09_ok _) rfl ?_; clear hs w a; intro a w hs
  refine st_as hs rfl rfl ?_; clear hs w a; intro a w hs
  refine wpList_nil ?_
  refine then_n (hK77 _ _ ?_)
  refine wp_ret ?_
  replace hs := hs.drop (.c (.s .z) (.c .z .n))
  exact fin hs rfl rfl ⟨rfl, rfl⟩
end Go.Proofs.Ytkobgcoegajfcaa
