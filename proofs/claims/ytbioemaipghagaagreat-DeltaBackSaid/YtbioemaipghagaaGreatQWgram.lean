/- Walks of datagrams: what each function does, over the program of this seat. Printed by a program of this session. -/
import Derived.Test.YtbioemaipghagaaGreatQWgramT
import Derived.Test.YtbioemaipghagaaGreatQWrec
import Derived.Test.YtbioemaipghagaaGreatQWcrc
import Derived.Test.YtbioemaipghagaaGreatQSxPgram
import Derived.Test.YtbioemaipghagaaGreatQSxRrd
namespace Go.Proofs.YtbioemaipghagaaGreat
open Go Go.Sx Go.RowKit
set_option linter.unusedVariables false
set_option linter.unusedSimpArgs false
set_option maxRecDepth 4000
set_option maxHeartbeats 1000000

theorem ghead_ok (t tm b : Int) (u : Value) (l : List RecR) (w0 : World) (ht_ : -9223372036854775808 ≤ t ∧ t ≤ 9223372036854775807) (htm_ : -9223372036854775808 ≤ tm ∧ tm ≤ 9223372036854775807) (hb_ : -9223372036854775808 ≤ b ∧ b ≤ 9223372036854775807) (hc : Rd w0 [] u 9 l.length (l.flatMap recV)) : Calls Tryz.prog 68 #[.agg #[.int .i64 t, .int .i64 tm, .int .i64 b, u]] w0 (Ret w0 [] fun x N => ∃ v, x = .tuple #[v, .int .i64 (((gErr t tm b l.length : Nat)) : Int)] ∧ N = [row v 5 1 (gHead t tm b l.length).length (bytesV (gHead t tm b l.length))]) := by
  have hce := hc.le
  simp only [maxLen] at hce
  have hv1 := vlen_le (BitVec.ofInt 64 t).toNat
  have hv2 := vlen_le (zigI tm).toNat
  have hv3 := vlen_le (BitVec.ofInt 64 (t - b)).toNat
  have hv4 := vlen_le (BitVec.ofInt 64 (l.length : Int)).toNat
  have hv5 := vlen_le (0#64).toNat
  refine enter (F0 := [(0, .agg #[.int .i64 (t), .int .i64 (tm), .int .i64 (b), u])]) Tryz.func68 rfl rfl rfl (.c .n) (Mem.nil _) fun a w hs => ?_
  refine wp_seq_k fun K1 hK2 => ?_
  refine wp_region_lit ?_
  refine st_box (cs := [.int .i64 (t), .int .i64 (tm), .int .i64 (b), u]) hs rfl rfl rfl ?_; clear hs w a; intro g3 a w hs
  refine st_run 2 [(3, .int .i64 (0)), (2, .slice none 0 0)] hs .n (by kernel_rfl) (by kernel_rfl) (by kernel_rfl) ?_; clear hs a; intro a hs
  refine wpList_nil ?_
  refine then_n (hK2 _ _ ?_)
  refine wp_seq_k fun K4 hK5 => ?_
  refine wp_block ?_
  refine wp_seq_k fun K6 hK7 => ?_
  refine wp_region_lit ?_
  refine st_run 4 [(12, .bool (decide (t < 0)))] hs (.c (hs.mem.del .z) .n) (by kernel_rfl) (by kernel_rfl) (by kernel_rfl) ?_; clear hs a; intro a hs
  refine st_part (b := decide (t < 0)) (fun hc8 => ?_) (fun hc8 => ?_)
  ·
   rw [hc8] at hs
   replace hc8 := of_decide_eq_true hc8
   refine st_run 16 [(8, .bool (true))] hs .n (by kernel_rfl) (by kernel_rfl) (by kernel_rfl) ?_; clear hs a; intro a hs
   refine wpList_nil ?_
   refine then_n (hK7 _ _ ?_)
   refine wp_cond_true (hs.ev rfl) ?_
   refine wp_seq_k fun K9 hK10 => ?_
   refine wp_region_lit ?_
   refine st_run 2 [(3, .int .i64 (3)), (2, .slice none 0 0)] hs .n (by kernel_rfl) (by kernel_rfl) (by kernel_rfl) ?_; clear hs a; intro a hs
   refine wpList_nil ?_
   refine then_n (hK10 _ _ ?_)
   refine wp_ret ?_
   refine in_r ?_
   refine th_r ?_
   have hge : gErr t tm b l.length = 3 := by first | exact gErr_3 (by omega) | exact gErr_10 (by omega) (by omega) | exact gErr_8 (by omega) (by omega) (by omega) | exact gErr_0 (by omega) (by omega) (by omega)
   replace hs := hs.drop (.c .z .n)
   replace hs := hs.addNil 5 1
   replace hs := hs.rerow .z (m' := (gHead t tm b l.length).length) (xs' := bytesV (gHead t tm b l.length)) (by rw [gHead, if_pos (by omega)]; rfl) (by rw [gHead, if_pos (by omega)]; rfl)
   exact fin2 hs rfl rfl rfl ⟨_, congrArg (fun z : Nat => Value.tuple #[.slice none 0 0, .int .i64 (z : Int)]) hge.symm, rfl⟩
  rw [hc8] at hs
  replace hc8 := of_decide_eq_false hc8
  refine st_run 5 [(17, .bool (decide (4294967295 < t)))] hs (.c (hs.mem.del .z) .n) (by kernel_rfl) (by kernel_rfl) (by kernel_rfl) ?_; clear hs a; intro a hs
  refine st_part (b := decide (4294967295 < t)) (fun hc11 => ?_) (fun hc11 => ?_)
  ·
   rw [hc11] at hs
   replace hc11 := of_decide_eq_true hc11
   refine st_run 11 [(8, .bool (true))] hs .n (by kernel_rfl) (by kernel_rfl) (by kernel_rfl) ?_; clear hs a; intro a hs
   refine wpList_nil ?_
   refine then_n (hK7 _ _ ?_)
   refine wp_cond_true (hs.ev rfl) ?_
   refine wp_seq_k fun K12 hK13 => ?_
   refine wp_region_lit ?_
   refine st_run 2 [(3, .int .i64 (3)), (2, .slice none 0 0)] hs .n (by kernel_rfl) (by kernel_rfl) (by kernel_rfl) ?_; clear hs a; intro a hs
   refine wpList_nil ?_
   refine then_n (hK13 _ _ ?_)
   refine wp_ret ?_
   refine in_r ?_
   refine th_r ?_
   have hge : gErr t tm b l.length = 3 := by first | exact gErr_3 (by omega) | exact gErr_10 (by omega) (by omega) | exact gErr_8 (by omega) (by omega) (by omega) | exact gErr_0 (by omega) (by omega) (by omega)
   replace hs := hs.drop (.c .z .n)
   replace hs := hs.addNil 5 1
   replace hs := hs.rerow .z (m' := (gHead t tm b l.length).length) (xs' := bytesV (gHead t tm b l.length)) (by rw [gHead, if_pos (by omega)]; rfl) (by rw [gHead, if_pos (by omega)]; rfl)
   exact fin2 hs rfl rfl rfl ⟨_, congrArg (fun z : Nat => Value.tuple #[.slice none 0 0, .int .i64 (z : Int)]) hge.symm, rfl⟩
  rw [hc11] at hs
  replace hc11 := of_decide_eq_false hc11
  refine st_run 2 [(19, .int .i64 (tm))] hs (.c (hs.mem.del .z) .n) (by kernel_rfl) (by kernel_rfl) (by kernel_rfl) ?_; clear hs a; intro a hs
  refine st_guardT hs rfl rfl rfl ?_
  refine st_callP (v := .bool (decide (-2305843009213693952 ≤ tm ∧ tm ≤ 2305843009213693952))) hs (.c rfl .n) Tryz.call73 (timely_ok tm _) rfl ?_; clear hs w a; intro a w hs
  refine st_run 3 [(23, .bool (!(decide (-2305843009213693952 ≤ tm ∧ tm ≤ 2305843009213693952))))] hs .n (by kernel_rfl) (by kernel_rfl) (by kernel_rfl) ?_; clear hs a; intro a hs
  refine st_part (b := !(decide (-2305843009213693952 ≤ tm ∧ tm ≤ 2305843009213693952))) (fun hc14 => ?_) (fun hc14 => ?_)
  ·
   rw [hc14] at hs
   replace hc14 := not_t hc14
   replace hc14 := of_decide_eq_false hc14
   refine st_run 5 [(8, .bool (true))] hs .n (by kernel_rfl) (by kernel_rfl) (by kernel_rfl) ?_; clear hs a; intro a hs
   refine wpList_nil ?_
   refine then_n (hK7 _ _ ?_)
   refine wp_cond_true (hs.ev rfl) ?_
   refine wp_seq_k fun K15 hK16 => ?_
   refine wp_region_lit ?_
   refine st_run 2 [(3, .int .i64 (3)), (2, .slice none 0 0)] hs .n (by kernel_rfl) (by kernel_rfl) (by kernel_rfl) ?_; clear hs a; intro a hs
   refine wpList_nil ?_
   refine then_n (hK16 _ _ ?_)
   refine wp_ret ?_
   refine in_r ?_
   refine th_r ?_
   have hge : gErr t tm b l.length = 3 := by first | exact gErr_3 (by omega) | exact gErr_10 (by omega) (by omega) | exact gErr_8 (by omega) (by omega) (by omega) | exact gErr_0 (by omega) (by omega) (by omega)
   replace hs := hs.drop (.c .z .n)
   replace hs := hs.addNil 5 1
   replace hs := hs.rerow .z (m' := (gHead t tm b l.length).length) (xs' := bytesV (gHead t tm b l.length)) (by rw [gHead, if_pos (by omega)]; rfl) (by rw [gHead, if_pos (by omega)]; rfl)
   exact fin2 hs rfl rfl rfl ⟨_, congrArg (fun z : Nat => Value.tuple #[.slice none 0 0, .int .i64 (z : Int)]) hge.symm, rfl⟩
  rw [hc14] at hs
  replace hc14 := not_f hc14
  replace hc14 := of_decide_eq_true hc14
  refine st_run 5 [(8, .bool (decide (b < (-1))))] hs (.c (hs.mem.del .z) .n) (by kernel_rfl) (by kernel_rfl) (by kernel_rfl) ?_; clear hs a; intro a hs
  refine wpList_nil ?_
  refine then_n (hK7 _ _ ?_)
  refine wp_if hs rfl (fun hc17 => ?_) (fun hc17 => ?_)
  ·
   replace hc17 := of_decide_eq_true hc17
   refine wp_seq_k fun K18 hK19 => ?_
   refine wp_region_lit ?_
   refine st_run 2 [(3, .int .i64 (3)), (2, .slice none 0 0)] hs .n (by kernel_rfl) (by kernel_rfl) (by kernel_rfl) ?_; clear hs a; intro a hs
   refine wpList_nil ?_
   refine then_n (hK19 _ _ ?_)
   refine wp_ret ?_
   refine in_r ?_
   refine th_r ?_
   have hge : gErr t tm b l.length = 3 := by first | exact gErr_3 (by omega) | exact gErr_10 (by omega) (by omega) | exact gErr_8 (by omega) (by omega) (by omega) | exact gErr_0 (by omega) (by omega) (by omega)
   replace hs := hs.drop (.c .z .n)
   replace hs := hs.addNil 5 1
   replace hs := hs.rerow .z (m' := (gHead t tm b l.length).length) (xs' := bytesV (gHead t tm b l.length)) (by rw [gHead, if_pos (by omega)]; rfl) (by rw [gHead, if_pos (by omega)]; rfl)
   exact fin2 hs rfl rfl rfl ⟨_, congrArg (fun z : Nat => Value.tuple #[.slice none 0 0, .int .i64 (z : Int)]) hge.symm, rfl⟩
  replace hc17 := of_decide_eq_false hc17
  refine wp_seq_k fun K20 hK21 => ?_
  refine wp_region_lit ?_
  refine st_run 6 [(28, .bool (decide (t ≤ b)))] hs (.c (hs.mem.del .z) (.c (hs.mem.del .z) .n)) (by kernel_rfl) (by kernel_rfl) (by kernel_rfl) ?_; clear hs a; intro a hs
  refine wpList_nil ?_
  refine then_n (hK21 _ _ ?_)
  refine wp_if hs rfl (fun hc22 => ?_) (fun hc22 => ?_)
  ·
   replace hc22 := of_decide_eq_true hc22
   refine wp_seq_k fun K23 hK24 => ?_
   refine wp_region_lit ?_
   refine st_run 2 [(3, .int .i64 (10)), (2, .slice none 0 0)] hs .n (by kernel_rfl) (by kernel_rfl) (by kernel_rfl) ?_; clear hs a; intro a hs
   refine wpList_nil ?_
   refine then_n (hK24 _ _ ?_)
   refine wp_ret ?_
   refine in_r ?_
   refine th_r ?_
   have hge : gErr t tm b l.length = 10 := by first | exact gErr_3 (by omega) | exact gErr_10 (by omega) (by omega) | exact gErr_8 (by omega) (by omega) (by omega) | exact gErr_0 (by omega) (by omega) (by omega)
   replace hs := hs.drop (.c .z .n)
   replace hs := hs.addNil 5 1
   replace hs := hs.rerow .z (m' := (gHead t tm b l.length).length) (xs' := bytesV (gHead t tm b l.length)) (by rw [gHead, if_pos (by omega)]; rfl) (by rw [gHead, if_pos (by omega)]; rfl)
   exact fin2 hs rfl rfl rfl ⟨_, congrArg (fun z : Nat => Value.tuple #[.slice none 0 0, .int .i64 (z : Int)]) hge.symm, rfl⟩
  replace hc22 := of_decide_eq_false hc22
  refine wp_seq_k fun K25 hK26 => ?_
  refine wp_region_lit ?_
  refine st_run 2 [(36, u)] hs (.c (hs.mem.del .z) .n) (by kernel_rfl) (by kernel_rfl) (by kernel_rfl) ?_; clear hs a; intro a hs
  refine st_len hs rfl (hs.rd0 hc).isSl Tryz.underlying27 rfl ?_; clear hs w a; intro a w hs
  refine st_run 2 [(34, .bool (decide (128 < (((l.length : Nat) : Int)))))] hs .n (by kernel_rfl) (by kernel_rfl) (by kernel_rfl) ?_; clear hs a; intro a hs
  refine wpList_nil ?_
  refine then_n (hK26 _ _ ?_)
  refine wp_if hs rfl (fun hc27 => ?_) (fun hc27 => ?_)
  ·
   replace hc27 := of_decide_eq_true hc27
   refine wp_seq_k fun K28 hK29 => ?_
   refine wp_region_lit ?_
   refine st_run 2 [(3, .int .i64 (8)), (2, .slice none 0 0)] hs .n (by kernel_rfl) (by kernel_rfl) (by kernel_rfl) ?_; clear hs a; intro a hs
   refine wpList_nil ?_
   refine then_n (hK29 _ _ ?_)
   refine wp_ret ?_
   refine in_r ?_
   refine th_r ?_
   have hge : gErr t tm b l.length = 8 := by first | exact gErr_3 (by omega) | exact gErr_10 (by omega) (by omega) | exact gErr_8 (by omega) (by omega) (by omega) | exact gErr_0 (by omega) (by omega) (by omega)
   replace hs := hs.drop (.c .z .n)
   replace hs := hs.addNil 5 1
   replace hs := hs.rerow .z (m' := (gHead t tm b l.length).length) (xs' := bytesV (gHead t tm b l.length)) (by rw [gHead, if_pos (by omega)]; rfl) (by rw [gHead, if_pos (by omega)]; rfl)
   exact fin2 hs rfl rfl rfl ⟨_, congrArg (fun z : Nat => Value.tuple #[.slice none 0 0, .int .i64 (z : Int)]) hge.symm, rfl⟩
  replace hc27 := of_decide_eq_false hc27
  refine wp_skip ?_
  refine in_n ?_
  refine then_n (hK5 _ _ ?_)
  refine wp_seq_k fun K30 hK31 => ?_
  refine wp_region_lit ?_
  refine st_as hs rfl rfl ?_; clear hs w a; intro a w hs
  refine wpList_nil ?_
  refine then_n (hK31 _ _ ?_)
  refine wp_seq_k fun K32 hK33 => ?_
  refine wp_seq_k fun K34 hK35 => ?_
  refine wp_region_lit ?_
  refine st_run 3 [(41, .bool (decide (0 ≤ b)))] hs (.c (hs.mem.del .z) .n) (by kernel_rfl) (by kernel_rfl) (by kernel_rfl) ?_; clear hs a; intro a hs
  refine wpList_nil ?_
  refine then_n (hK35 _ _ ?_)
  refine wp_if hs rfl (fun hc36 => ?_) (fun hc36 => ?_)
  ·
   replace hc36 := of_decide_eq_true hc36
   refine wp_region_lit ?_
   refine st_run 4 [(45, .int .i64 (b)), (43, .int .i64 (t))] hs (.c (hs.mem.del .z) (.c (hs.mem.del .z) .n)) (by kernel_rfl) (by kernel_rfl) (by kernel_rfl) ?_; clear hs a; intro a hs
   refine st_subR hs rfl rfl (by omega) rfl ?_; clear hs w a; intro a w hs
   refine st_cv_u64 hs rfl Tryz.underlying2 Tryz.underlying129 rfl ?_; clear hs w a; intro a w hs
   refine st_as hs rfl rfl ?_; clear hs w a; intro a w hs
   refine wpList_nil ?_
   refine then_n (hK33 _ _ ?_)
   refine wp_seq_k fun K37 hK38 => ?_
   refine wp_region_lit ?_
   refine st_bs (cs := [.int .u8 (71), .int .u8 (1)]) hs (.c (.c .n)) (.c rfl (.c rfl .n)) Tryz.underlying37 (ie := Tryz.t5) rfl rfl rfl rfl (by decide) (by decide) rfl (by decide) rfl rfl rfl ?_; clear hs w a; intro g39 a w hs
   refine st_as hs rfl rfl ?_; clear hs w a; intro a w hs
   refine wpList_nil ?_
   refine then_n (hK38 _ _ ?_)
   refine wp_seq_k fun K40 hK41 => ?_
   refine wp_seq_k fun K42 hK43 => ?_
   replace hs := hs.sub (F' := [(5, .slice (some ⟨g39, 0, none⟩) 2 2), (4, .int .u64 ((((BitVec.ofInt 64 (t - b)).toNat : Nat) : Int))), (3, .int .i64 (0)), (2, .slice none 0 0), (1, .pointer (some ⟨g3, 0, none⟩))]) (.c rfl (.c rfl (.c rfl (.c rfl (.c rfl .n)))))
   refine wp_drawG (M0 := [blk g39 [.int .u8 (71), .int .u8 (1)] 5, blk g3 [.int .i64 (t), .int .i64 (tm), .int .i64 (b), u] 29]) (Ds := [Pv 0 (.pointer (some ⟨g3, 0, none⟩)), Pv 1 (.int .i64 (t)), Pv 2 (.int .u64 ((((BitVec.ofInt 64 t).toNat : Nat) : Int))), Pv 3 (.pointer (some ⟨g3, 1, none⟩)), Pv 4 (.int .i64 (tm)), Pv 5 (.int .u64 ((((zigI tm).toNat : Nat) : Int))), Pv 6 (.int .u64 ((((BitVec.ofInt 64 (t - b)).toNat : Nat) : Int))), Pv 7 (.pointer (some ⟨g3, 3, none⟩)), Pv 8 u, Pv 9 (.int .i64 (((l.length : Nat) : Int))), Pv 10 (.int .u64 ((((BitVec.ofInt 64 (((l.length : Nat) : Int))).toNat : Nat) : Int))), ⟨[], [], [], fun vs44 => vs44 11 = .slice (some ⟨(ptrG (vs44 11)), 0, none⟩) 4 4, fun vs44 => [blk (ptrG (vs44 11)) [.int .u64 ((((BitVec.ofInt 64 t).toNat : Nat) : Int)), .int .u64 ((((zigI tm).toNat : Nat) : Int)), .int .u64 ((((BitVec.ofInt 64 (t - b)).toNat : Nat) : Int)), .int .u64 ((((BitVec.ofInt 64 (((l.length : Nat) : Int))).toNat : Nat) : Int))] 129], none⟩, Pv 12 (.int .i64 (4)), Pv 13 (.int .i64 (0))]) (by kernel_rfl) hs rfl .n (by kernel_rfl) (by kernel_rfl) (by kernel_rfl) ?_ ?_
   ·
    refine (.c ?_ (.c ?_ (.c ?_ (.c ?_ (.c ?_ (.c ?_ (.c ?_ (.c ?_ (.c ?_ (.c ?_ (.c ?_ (.c ?_ (.c ?_ (.c ?_ .n))))))))))))))
    · exact trip_pv (m := 14) .n (fun hm0 hm hx => .n) (by kernel_rfl) (by kernel_rfl) rfl
    · exact trip_pv (m := 14) (.c (k := 0) (by kernel_rfl) rfl rfl .n) (fun hm0 hm hx => (.c (hm0.del (.s .z)))) (by kernel_rfl) (by kernel_rfl) rfl
    ·
     intro a_ w_ R_ rest_ vs44 hm hs ht hx
     have hm0 := hm.mid
     replace hs := hs.lrn (ht 1 (twB_spec 14 _ (by kernel_rfl))) rfl rfl
     have hs0 := hs.bare
     refine st_cv_u64 hs rfl Tryz.underlying2 Tryz.underlying129 rfl ?_; clear hs; intro a w hs
     exact wpList_nil ⟨rfl, _, _, hs0, (.c .r), hs, rfl⟩
    · exact trip_pv (m := 14) .n (fun hm0 hm hx => .n) (by kernel_rfl) (by kernel_rfl) rfl
    · exact trip_pv (m := 14) (.c (k := 3) (by kernel_rfl) rfl rfl .n) (fun hm0 hm hx => (.c (hm0.del (.s .z)))) (by kernel_rfl) (by kernel_rfl) rfl
    ·
     intro a_ w_ R_ rest_ vs44 hm hs ht hx
     have hm0 := hm.mid
     replace hs := hs.lrn (ht 4 (twB_spec 14 _ (by kernel_rfl))) rfl rfl
     have hs0 := hs.bare
     refine st_callP (v := .int .u64 ((((zigI tm).toNat : Nat) : Int))) hs (.c rfl .n) Tryz.call92 (zig_ok tm _ (by omega)) rfl ?_; clear hs; intro a w hs
     exact wpList_nil ⟨rfl, _, _, hs0, (.c .r), hs, rfl⟩
    · exact trip_pv (m := 14) .n (fun hm0 hm hx => .n) (by kernel_rfl) (by kernel_rfl) rfl
    · exact trip_pv (m := 14) .n (fun hm0 hm hx => .n) (by kernel_rfl) (by kernel_rfl) rfl
    · exact trip_pv (m := 14) (.c (k := 7) (by kernel_rfl) rfl rfl .n) (fun hm0 hm hx => (.c (hm0.del (.s .z)))) (by kernel_rfl) (by kernel_rfl) rfl
    ·
     intro a_ w_ R_ rest_ vs44 hm hs ht hx
     have hm0 := hm.mid
     replace hs := hs.lrn (ht 8 (twB_spec 14 _ (by kernel_rfl))) rfl rfl
     have hs0 := hs.bare
     refine st_len hs rfl (hm.rd0 hc).isSl Tryz.underlying27 rfl ?_; clear hs; intro a w hs
     exact wpList_nil ⟨rfl, _, _, hs0, (.c .r), hs, rfl⟩
    ·
     intro a_ w_ R_ rest_ vs44 hm hs ht hx
     have hm0 := hm.mid
     replace hs := hs.lrn (ht 9 (twB_spec 14 _ (by kernel_rfl))) rfl rfl
     have hs0 := hs.bare
     refine st_cv_u64 hs rfl Tryz.underlying3 Tryz.underlying129 rfl ?_; clear hs; intro a w hs
     exact wpList_nil ⟨rfl, _, _, hs0, (.c .r), hs, rfl⟩
    ·
     intro a_ w_ R_ rest_ vs44 hm hs ht hx
     have hm0 := hm.mid
     replace hs := hs.lrn (ht 2 (twB_spec 14 _ (by kernel_rfl))) rfl rfl
     replace hs := hs.lrn (ht 5 (twB_spec 14 _ (by kernel_rfl))) rfl rfl
     replace hs := hs.lrn (ht 6 (twB_spec 14 _ (by kernel_rfl))) rfl rfl
     replace hs := hs.lrn (ht 10 (twB_spec 14 _ (by kernel_rfl))) rfl rfl
     have hs0 := hs.bare
     refine st_bs (cs := [.int .u64 ((((BitVec.ofInt 64 t).toNat : Nat) : Int)), .int .u64 ((((zigI tm).toNat : Nat) : Int)), .int .u64 ((((BitVec.ofInt 64 (t - b)).toNat : Nat) : Int)), .int .u64 ((((BitVec.ofInt 64 (((l.length : Nat) : Int))).toNat : Nat) : Int))]) hs (.c (.c (.c (.c .n)))) (.c rfl (.c rfl (.c rfl (.c rfl .n)))) Tryz.underlying161 (ie := Tryz.t129) rfl rfl rfl rfl (by decide) (by decide) rfl (by decide) rfl rfl rfl ?_; clear hs; intro g45 a w hs
     exact wpList_nil ⟨rfl, _, _, hs0, (.c (.c (.c (.c .r)))), hs, rfl⟩
    ·
     intro a_ w_ R_ rest_ vs44 hm hs ht hx
     have hm0 := hm.mid
     have t11 := ht 11 (twB_spec 14 _ (by kernel_rfl))
     have e11 : _ = some (vs44 11) := t11.val rfl
     rw [show vs44 11 = .slice (some ⟨(ptrG (vs44 11)), 0, none⟩) 4 4 from t11.2.1] at e11
     replace hs := hs.learn e11
     have hs0 := hs.bare
     refine st_len hs rfl (rd_blk (m := 4) (size := 1) (hm.own (List.mem_append.2 (.inr ((ht 11 (twB_spec 14 _ (by kernel_rfl))).2.2 (later (n := 14) (by kernel_rfl)) _ (List.Mem.head _))))) rfl (by decide)).isSl Tryz.underlying161 rfl ?_; clear hs; intro a w hs
     replace hs := hs.recell (v' := .int .i64 (4)) (Option.some.inj rfl)
     exact wpList_nil ⟨rfl, _, _, hs0, (.c .r), hs, rfl⟩
    exact trip_pv (m := 14) .n (fun hm0 hm hx => .n) (by kernel_rfl) (by kernel_rfl) rfl
   clear hs w a; intro a w vs44 hs hf
   replace hs : St _ _ _ _ [blk g39 [.int .u8 (71), .int .u8 (1)] 5, blk g3 [.int .i64 (t), .int .i64 (tm), .int .i64 (b), u] 29, blk (ptrG (vs44 11)) [.int .u64 ((((BitVec.ofInt 64 t).toNat : Nat) : Int)), .int .u64 ((((zigI tm).toNat : Nat) : Int)), .int .u64 ((((BitVec.ofInt 64 (t - b)).toNat : Nat) : Int)), .int .u64 ((((BitVec.ofInt 64 (((l.length : Nat) : Int))).toNat : Nat) : Int))] 129] _ _ := hs
   obtain ⟨e11, q11⟩ := hf 11 (by decide)
   replace e11 : _ = some (vs44 11) := e11.val rfl
   rw [show vs44 11 = .slice (some ⟨(ptrG (vs44 11)), 0, none⟩) 4 4 from q11] at e11
   replace hs := hs.learn e11; clear e11 q11
   obtain ⟨e12, q12⟩ := hf 12 (by decide)
   replace e12 : _ = some (vs44 12) := e12.val rfl
   rw [show vs44 12 = .int .i64 (4) from q12] at e12
   replace hs := hs.learn e12; clear e12 q12
   obtain ⟨e13, q13⟩ := hf 13 (by decide)
   replace e13 : _ = some (vs44 13) := e13.val rfl
   rw [show vs44 13 = .int .i64 (0) from q13] at e13
   replace hs := hs.learn e13; clear e13 q13
   generalize ptrG (vs44 11) = g46 at hs
   clear hf
   refine then_n (hK43 _ _ ?_)
   refine wp_block ?_
   refine wp_loop_rounds 5 ?_
   refine rounds_in ?_
   refine wp_seq_k fun K47 hK48 => ?_
   refine wp_region_lit ?_
   refine st_lss hs rfl rfl rfl ?_; clear hs w a; intro a w hs
   rw [show (decide ((0 : Int) < 4)) = true from by decide] at hs
   refine wpList_nil ?_
   refine then_n (hK48 _ _ ?_)
   refine wp_seq_k fun K49 hK50 => ?_
   refine wp_cond_true (hs.ev rfl) ?_
   refine wp_skip ?_
   refine then_n (hK50 _ _ ?_)
   refine wp_seq_k fun K51 hK52 => ?_
   refine wp_block ?_
   refine wp_seq_k fun K53 hK54 => ?_
   refine wp_region_lit ?_
   refine st_ia1 (j := 0) hs rfl rfl (rd_blk (m := 4) (size := 1) (hs.mem.del (.s (.s .z))) rfl (by decide)) (by decide) (by omega) Tryz.underlying161 Tryz.sizeOf129 rfl ?_; clear hs w a; intro a w hs
   refine st_ld (u := .int .u64 ((((BitVec.ofInt 64 t).toNat : Nat) : Int))) hs rfl (rd_blk (m := 4) (size := 1) (hs.mem.del (.s (.s .z))) rfl (by decide)) (by rfl) Tryz.isAgg129 rfl ?_; clear hs w a; intro a w hs
   refine st_as hs rfl rfl ?_; clear hs w a; intro a w hs
   refine wpList_nil ?_
   refine then_n (hK54 _ _ ?_)
   refine wp_region_lit ?_
   refine st_run 2 [(67, .int .u64 ((((BitVec.ofInt 64 t).toNat : Nat) : Int))), (66, .slice (some ⟨g39, 0, none⟩) 2 2)] hs .n (by kernel_rfl) (by kernel_rfl) (by kernel_rfl) ?_; clear hs a; intro a hs
   refine st_call hs (.c rfl .n) Tryz.call93 .n (put_ok (BitVec.ofInt 64 t) _) rfl ?_; clear hs w a; rintro v55 _ a w rfl hs; simp only [List.cons_append, List.nil_append] at hs
   replace hs := hs.toRow (size := 1) (m := 2) (.s .z) rfl (by decide)
   refine st_app (size := 1) (bytes := 1) hs rfl rfl .z (rd_row (hs.mem.del (.s .z))) (oneCell_bytesV _) Tryz.underlying37 (i := Tryz.t5) rfl rfl rfl rfl rfl (by decide) (by omega) (by simp only [maxLen]; omega) rfl ?_; clear hs w a; intro v56 a w hs
   refine st_as hs rfl rfl ?_; clear hs w a; intro a w hs
   refine wpList_nil ?_
   refine in_n ?_
   refine then_n (hK52 _ _ ?_)
   refine wp_region_lit ?_
   refine st_run 2 [(62, .int .i64 (1)), (70, .int .i64 (1))] hs .n (by kernel_rfl) (by kernel_rfl) (by kernel_rfl) ?_; clear hs a; intro a hs
   refine wpList_nil ?_
   refine then_n ?_
   refine rounds_in ?_
   refine wp_seq_k fun K57 hK58 => ?_
   refine wp_region_lit ?_
   refine st_lss hs rfl rfl rfl ?_; clear hs w a; intro a w hs
   rw [show (decide ((1 : Int) < 4)) = true from by decide] at hs
   refine wpList_nil ?_
   refine then_n (hK58 _ _ ?_)
   refine wp_seq_k fun K59 hK60 => ?_
   refine wp_cond_true (hs.ev rfl) ?_
   refine wp_skip ?_
   refine then_n (hK60 _ _ ?_)
   refine wp_seq_k fun K61 hK62 => ?_
   refine wp_block ?_
   refine wp_seq_k fun K63 hK64 => ?_
   refine wp_region_lit ?_
   refine st_ia1 (j := 1) hs rfl rfl (rd_blk (m := 4) (size := 1) (hs.mem.del (.s (.s (.s .z)))) rfl (by decide)) (by decide) (by omega) Tryz.underlying161 Tryz.sizeOf129 rfl ?_; clear hs w a; intro a w hs
   refine st_ld (u := .int .u64 ((((zigI tm).toNat : Nat) : Int))) hs rfl (rd_blk (m := 4) (size := 1) (hs.mem.del (.s (.s (.s .z)))) rfl (by decide)) (by rfl) Tryz.isAgg129 rfl ?_; clear hs w a; intro a w hs
   refine st_as hs rfl rfl ?_; clear hs w a; intro a w hs
   refine wpList_nil ?_
   refine then_n (hK64 _ _ ?_)
   refine wp_region_lit ?_
   refine st_run 2 [(67, .int .u64 ((((zigI tm).toNat : Nat) : Int))), (66, v56)] hs .n (by kernel_rfl) (by kernel_rfl) (by kernel_rfl) ?_; clear hs a; intro a hs
   refine st_call hs (.c rfl .n) Tryz.call93 .n (put_ok (zigI tm) _) rfl ?_; clear hs w a; rintro v65 _ a w rfl hs; simp only [List.cons_append, List.nil_append] at hs
   refine st_app (size := 1) (bytes := 1) hs rfl rfl (.s .z) (rd_row (hs.mem.del .z)) (oneCell_bytesV _) Tryz.underlying37 (i := Tryz.t5) rfl rfl rfl rfl rfl (by decide) (by omega) (by simp only [maxLen]; omega) rfl ?_; clear hs w a; intro v66 a w hs
   refine st_as hs rfl rfl ?_; clear hs w a; intro a w hs
   refine wpList_nil ?_
   refine in_n ?_
   refine then_n (hK62 _ _ ?_)
   refine wp_region_lit ?_
   refine st_run 2 [(62, .int .i64 (2)), (70, .int .i64 (2))] hs .n (by kernel_rfl) (by kernel_rfl) (by kernel_rfl) ?_; clear hs a; intro a hs
   refine wpList_nil ?_
   refine then_n ?_
   refine rounds_in ?_
   refine wp_seq_k fun K67 hK68 => ?_
   refine wp_region_lit ?_
   refine st_lss hs rfl rfl rfl ?_; clear hs w a; intro a w hs
   rw [show (decide ((2 : Int) < 4)) = true from by decide] at hs
   refine wpList_nil ?_
   refine then_n (hK68 _ _ ?_)
   refine wp_seq_k fun K69 hK70 => ?_
   refine wp_cond_true (hs.ev rfl) ?_
   refine wp_skip ?_
   refine then_n (hK70 _ _ ?_)
   refine wp_seq_k fun K71 hK72 => ?_
   refine wp_block ?_
   refine wp_seq_k fun K73 hK74 => ?_
   refine wp_region_lit ?_
   refine st_ia1 (j := 2) hs rfl rfl (rd_blk (m := 4) (size := 1) (hs.mem.del (.s (.s (.s (.s .z))))) rfl (by decide)) (by decide) (by omega) Tryz.underlying161 Tryz.sizeOf129 rfl ?_; clear hs w a; intro a w hs
   refine st_ld (u := .int .u64 ((((BitVec.ofInt 64 (t - b)).toNat : Nat) : Int))) hs rfl (rd_blk (m := 4) (size := 1) (hs.mem.del (.s (.s (.s (.s .z))))) rfl (by decide)) (by rfl) Tryz.isAgg129 rfl ?_; clear hs w a; intro a w hs
   refine st_as hs rfl rfl ?_; clear hs w a; intro a w hs
   refine wpList_nil ?_
   refine then_n (hK74 _ _ ?_)
   refine wp_region_lit ?_
   refine st_run 2 [(67, .int .u64 ((((BitVec.ofInt 64 (t - b)).toNat : Nat) : Int))), (66, v66)] hs .n (by kernel_rfl) (by kernel_rfl) (by kernel_rfl) ?_; clear hs a; intro a hs
   refine st_call hs (.c rfl .n) Tryz.call93 .n (put_ok (BitVec.ofInt 64 (t - b)) _) rfl ?_; clear hs w a; rintro v75 _ a w rfl hs; simp only [List.cons_append, List.nil_append] at hs
   refine st_app (size := 1) (bytes := 1) hs rfl rfl (.s .z) (rd_row (hs.mem.del .z)) (oneCell_bytesV _) Tryz.underlying37 (i := Tryz.t5) rfl rfl rfl rfl rfl (by decide) (by omega) (by simp only [maxLen]; omega) rfl ?_; clear hs w a; intro v76 a w hs
   refine st_as hs rfl rfl ?_; clear hs w a; intro a w hs
   refine wpList_nil ?_
   refine in_n ?_
   refine then_n (hK72 _ _ ?_)
   refine wp_region_lit ?_
   refine st_run 2 [(62, .int .i64 (3)), (70, .int .i64 (3))] hs .n (by kernel_rfl) (by kernel_rfl) (by kernel_rfl) ?_; clear hs a; intro a hs
   refine wpList_nil ?_
   refine then_n ?_
   refine rounds_in ?_
   refine wp_seq_k fun K77 hK78 => ?_
   refine wp_region_lit ?_
   refine st_lss hs rfl rfl rfl ?_; clear hs w a; intro a w hs
   rw [show (decide ((3 : Int) < 4)) = true from by decide] at hs
   refine wpList_nil ?_
   refine then_n (hK78 _ _ ?_)
   refine wp_seq_k fun K79 hK80 => ?_
   refine wp_cond_true (hs.ev rfl) ?_
   refine wp_skip ?_
   refine then_n (hK80 _ _ ?_)
   refine wp_seq_k fun K81 hK82 => ?_
   refine wp_block ?_
   refine wp_seq_k fun K83 hK84 => ?_
   refine wp_region_lit ?_
   refine st_ia1 (j := 3) hs rfl rfl (rd_blk (m := 4) (size := 1) (hs.mem.del (.s (.s (.s (.s (.s .z)))))) rfl (by decide)) (by decide) (by omega) Tryz.underlying161 Tryz.sizeOf129 rfl ?_; clear hs w a; intro a w hs
   refine st_ld (u := .int .u64 ((((BitVec.ofInt 64 (((l.length : Nat) : Int))).toNat : Nat) : Int))) hs rfl (rd_blk (m := 4) (size := 1) (hs.mem.del (.s (.s (.s (.s (.s .z)))))) rfl (by decide)) (by rfl) Tryz.isAgg129 rfl ?_; clear hs w a; intro a w hs
   refine st_as hs rfl rfl ?_; clear hs w a; intro a w hs
   refine wpList_nil ?_
   refine then_n (hK84 _ _ ?_)
   refine wp_region_lit ?_
   refine st_run 2 [(67, .int .u64 ((((BitVec.ofInt 64 (((l.length : Nat) : Int))).toNat : Nat) : Int))), (66, v76)] hs .n (by kernel_rfl) (by kernel_rfl) (by kernel_rfl) ?_; clear hs a; intro a hs
   refine st_call hs (.c rfl .n) Tryz.call93 .n (put_ok (BitVec.ofInt 64 (((l.length : Nat) : Int))) _) rfl ?_; clear hs w a; rintro v85 _ a w rfl hs; simp only [List.cons_append, List.nil_append] at hs
   refine st_app (size := 1) (bytes := 1) hs rfl rfl (.s .z) (rd_row (hs.mem.del .z)) (oneCell_bytesV _) Tryz.underlying37 (i := Tryz.t5) rfl rfl rfl rfl rfl (by decide) (by omega) (by simp only [maxLen]; omega) rfl ?_; clear hs w a; intro v86 a w hs
   refine st_as hs rfl rfl ?_; clear hs w a; intro a w hs
   refine wpList_nil ?_
   refine in_n ?_
   refine then_n (hK82 _ _ ?_)
   refine wp_region_lit ?_
   refine st_run 2 [(62, .int .i64 (4)), (70, .int .i64 (4))] hs .n (by kernel_rfl) (by kernel_rfl) (by kernel_rfl) ?_; clear hs a; intro a hs
   refine wpList_nil ?_
   refine then_n ?_
   refine rounds_in ?_
   refine wp_seq_k fun K87 hK88 => ?_
   refine wp_region_lit ?_
   refine st_lss hs rfl rfl rfl ?_; clear hs w a; intro a w hs
   rw [show (decide ((4 : Int) < 4)) = false from by decide] at hs
   refine wpList_nil ?_
   refine then_n (hK88 _ _ ?_)
   refine wp_seq_k fun K89 hK90 => ?_
   refine wp_cond_false (hs.ev rfl) ?_
   refine wp_exit ?_
   refine th_e ?_
   refine th_e ?_
   refine in_hit ?_
   refine then_n (hK41 _ _ ?_)
   refine wp_seq_k fun K91 hK92 => ?_
   refine wp_region_lit ?_
   refine st_run 3 [(3, .int .i64 (0)), (2, v86)] hs .n (by kernel_rfl) (by kernel_rfl) (by kernel_rfl) ?_; clear hs a; intro a hs
   refine wpList_nil ?_
   refine then_n (hK92 _ _ ?_)
   refine wp_ret ?_
   have hge : gErr t tm b l.length = 0 := by first | exact gErr_3 (by omega) | exact gErr_10 (by omega) (by omega) | exact gErr_8 (by omega) (by omega) (by omega) | exact gErr_0 (by omega) (by omega) (by omega)
   replace hs := hs.drop (.c (.s (.s (.s (.s (.s (.s .z)))))) (.c (.s (.s (.s (.s (.s .z))))) (.c (.s (.s (.s (.s .z)))) (.c (.s (.s (.s .z))) (.c (.s (.s .z)) (.c (.s .z) .n))))))
   replace hs := hs.rerow .z (m' := (gHead t tm b l.length).length) (xs' := bytesV (gHead t tm b l.length)) (by rw [gHead, if_neg (by omega), gHeadB, gBack]; (first | rw [if_pos (by omega)] | rw [if_neg (by omega)]); simp only [List.length_append, List.length_cons, List.length_nil, vlen]) (by rw [gHead, if_neg (by omega), gHeadB, gBack]; (first | rw [if_pos (by omega)] | rw [if_neg (by omega)]); simp [bytesV, byteV])
   exact fin2 hs rfl rfl rfl ⟨_, congrArg (fun z : Nat => Value.tuple #[v86, .int .i64 (z : Int)]) hge.symm, rfl⟩
  replace hc36 := of_decide_eq_false hc36
  refine wp_skip ?_
  refine then_n (hK33 _ _ ?_)
  refine wp_seq_k fun K93 hK94 => ?_
  refine wp_region_lit ?_
  refine st_bs (cs := [.int .u8 (71), .int .u8 (1)]) hs (.c (.c .n)) (.c rfl (.c rfl .n)) Tryz.underlying37 (ie := Tryz.t5) rfl rfl rfl rfl (by decide) (by decide) rfl (by decide) rfl rfl rfl ?_; clear hs w a; intro g95 a w hs
  refine st_as hs rfl rfl ?_; clear hs w a; intro a w hs
  refine wpList_nil ?_
  refine then_n (hK94 _ _ ?_)
  refine wp_seq_k fun K96 hK97 => ?_
  refine wp_seq_k fun K98 hK99 => ?_
  replace hs := hs.sub (F' := [(5, .slice (some ⟨g95, 0, none⟩) 2 2), (4, .int .u64 (0)), (3, .int .i64 (0)), (2, .slice none 0 0), (1, .pointer (some ⟨g3, 0, none⟩))]) (.c rfl (.c rfl (.c rfl (.c rfl (.c rfl .n)))))
  refine wp_drawG (M0 := [blk g95 [.int .u8 (71), .int .u8 (1)] 5, blk g3 [.int .i64 (t), .int .i64 (tm), .int .i64 (b), u] 29]) (Ds := [Pv 0 (.pointer (some ⟨g3, 0, none⟩)), Pv 1 (.int .i64 (t)), Pv 2 (.int .u64 ((((BitVec.ofInt 64 t).toNat : Nat) : Int))), Pv 3 (.pointer (some ⟨g3, 1, none⟩)), Pv 4 (.int .i64 (tm)), Pv 5 (.int .u64 ((((zigI tm).toNat : Nat) : Int))), Pv 6 (.int .u64 (0)), Pv 7 (.pointer (some ⟨g3, 3, none⟩)), Pv 8 u, Pv 9 (.int .i64 (((l.length : Nat) : Int))), Pv 10 (.int .u64 ((((BitVec.ofInt 64 (((l.length : Nat) : Int))).toNat : Nat) : Int))), ⟨[], [], [], fun vs100 => vs100 11 = .slice (some ⟨(ptrG (vs100 11)), 0, none⟩) 4 4, fun vs100 => [blk (ptrG (vs100 11)) [.int .u64 ((((BitVec.ofInt 64 t).toNat : Nat) : Int)), .int .u64 ((((zigI tm).toNat : Nat) : Int)), .int .u64 (0), .int .u64 ((((BitVec.ofInt 64 (((l.length : Nat) : Int))).toNat : Nat) : Int))] 129], none⟩, Pv 12 (.int .i64 (4)), Pv 13 (.int .i64 (0))]) (by kernel_rfl) hs rfl .n (by kernel_rfl) (by kernel_rfl) (by kernel_rfl) ?_ ?_
  ·
   refine (.c ?_ (.c ?_ (.c ?_ (.c ?_ (.c ?_ (.c ?_ (.c ?_ (.c ?_ (.c ?_ (.c ?_ (.c ?_ (.c ?_ (.c ?_ (.c ?_ .n))))))))))))))
   · exact trip_pv (m := 14) .n (fun hm0 hm hx => .n) (by kernel_rfl) (by kernel_rfl) rfl
   · exact trip_pv (m := 14) (.c (k := 0) (by kernel_rfl) rfl rfl .n) (fun hm0 hm hx => (.c (hm0.del (.s .z)))) (by kernel_rfl) (by kernel_rfl) rfl
   ·
    intro a_ w_ R_ rest_ vs100 hm hs ht hx
    have hm0 := hm.mid
    replace hs := hs.lrn (ht 1 (twB_spec 14 _ (by kernel_rfl))) rfl rfl
    have hs0 := hs.bare
    refine st_cv_u64 hs rfl Tryz.underlying2 Tryz.underlying129 rfl ?_; clear hs; intro a w hs
    exact wpList_nil ⟨rfl, _, _, hs0, (.c .r), hs, rfl⟩
   · exact trip_pv (m := 14) .n (fun hm0 hm hx => .n) (by kernel_rfl) (by kernel_rfl) rfl
   · exact trip_pv (m := 14) (.c (k := 3) (by kernel_rfl) rfl rfl .n) (fun hm0 hm hx => (.c (hm0.del (.s .z)))) (by kernel_rfl) (by kernel_rfl) rfl
   ·
    intro a_ w_ R_ rest_ vs100 hm hs ht hx
    have hm0 := hm.mid
    replace hs := hs.lrn (ht 4 (twB_spec 14 _ (by kernel_rfl))) rfl rfl
    have hs0 := hs.bare
    refine st_callP (v := .int .u64 ((((zigI tm).toNat : Nat) : Int))) hs (.c rfl .n) Tryz.call92 (zig_ok tm _ (by omega)) rfl ?_; clear hs; intro a w hs
    exact wpList_nil ⟨rfl, _, _, hs0, (.c .r), hs, rfl⟩
   · exact trip_pv (m := 14) .n (fun hm0 hm hx => .n) (by kernel_rfl) (by kernel_rfl) rfl
   · exact trip_pv (m := 14) .n (fun hm0 hm hx => .n) (by kernel_rfl) (by kernel_rfl) rfl
   · exact trip_pv (m := 14) (.c (k := 7) (by kernel_rfl) rfl rfl .n) (fun hm0 hm hx => (.c (hm0.del (.s .z)))) (by kernel_rfl) (by kernel_rfl) rfl
   ·
    intro a_ w_ R_ rest_ vs100 hm hs ht hx
    have hm0 := hm.mid
    replace hs := hs.lrn (ht 8 (twB_spec 14 _ (by kernel_rfl))) rfl rfl
    have hs0 := hs.bare
    refine st_len hs rfl (hm.rd0 hc).isSl Tryz.underlying27 rfl ?_; clear hs; intro a w hs
    exact wpList_nil ⟨rfl, _, _, hs0, (.c .r), hs, rfl⟩
   ·
    intro a_ w_ R_ rest_ vs100 hm hs ht hx
    have hm0 := hm.mid
    replace hs := hs.lrn (ht 9 (twB_spec 14 _ (by kernel_rfl))) rfl rfl
    have hs0 := hs.bare
    refine st_cv_u64 hs rfl Tryz.underlying3 Tryz.underlying129 rfl ?_; clear hs; intro a w hs
    exact wpList_nil ⟨rfl, _, _, hs0, (.c .r), hs, rfl⟩
   ·
    intro a_ w_ R_ rest_ vs100 hm hs ht hx
    have hm0 := hm.mid
    replace hs := hs.lrn (ht 2 (twB_spec 14 _ (by kernel_rfl))) rfl rfl
    replace hs := hs.lrn (ht 5 (twB_spec 14 _ (by kernel_rfl))) rfl rfl
    replace hs := hs.lrn (ht 6 (twB_spec 14 _ (by kernel_rfl))) rfl rfl
    replace hs := hs.lrn (ht 10 (twB_spec 14 _ (by kernel_rfl))) rfl rfl
    have hs0 := hs.bare
    refine st_bs (cs := [.int .u64 ((((BitVec.ofInt 64 t).toNat : Nat) : Int)), .int .u64 ((((zigI tm).toNat : Nat) : Int)), .int .u64 (0), .int .u64 ((((BitVec.ofInt 64 (((l.length : Nat) : Int))).toNat : Nat) : Int))]) hs (.c (.c (.c (.c .n)))) (.c rfl (.c rfl (.c rfl (.c rfl .n)))) Tryz.underlying161 (ie := Tryz.t129) rfl rfl rfl rfl (by decide) (by decide) rfl (by decide) rfl rfl rfl ?_; clear hs; intro g101 a w hs
    exact wpList_nil ⟨rfl, _, _, hs0, (.c (.c (.c (.c .r)))), hs, rfl⟩
   ·
    intro a_ w_ R_ rest_ vs100 hm hs ht hx
    have hm0 := hm.mid
    have t11 := ht 11 (twB_spec 14 _ (by kernel_rfl))
    have e11 : _ = some (vs100 11) := t11.val rfl
    rw [show vs100 11 = .slice (some ⟨(ptrG (vs100 11)), 0, none⟩) 4 4 from t11.2.1] at e11
    replace hs := hs.learn e11
    have hs0 := hs.bare
    refine st_len hs rfl (rd_blk (m := 4) (size := 1) (hm.own (List.mem_append.2 (.inr ((ht 11 (twB_spec 14 _ (by kernel_rfl))).2.2 (later (n := 14) (by kernel_rfl)) _ (List.Mem.head _))))) rfl (by decide)).isSl Tryz.underlying161 rfl ?_; clear hs; intro a w hs
    replace hs := hs.recell (v' := .int .i64 (4)) (Option.some.inj rfl)
    exact wpList_nil ⟨rfl, _, _, hs0, (.c .r), hs, rfl⟩
   exact trip_pv (m := 14) .n (fun hm0 hm hx => .n) (by kernel_rfl) (by kernel_rfl) rfl
  clear hs w a; intro a w vs100 hs hf
  replace hs : St _ _ _ _ [blk g95 [.int .u8 (71), .int .u8 (1)] 5, blk g3 [.int .i64 (t), .int .i64 (tm), .int .i64 (b), u] 29, blk (ptrG (vs100 11)) [.int .u64 ((((BitVec.ofInt 64 t).toNat : Nat) : Int)), .int .u64 ((((zigI tm).toNat : Nat) : Int)), .int .u64 (0), .int .u64 ((((BitVec.ofInt 64 (((l.length : Nat) : Int))).toNat : Nat) : Int))] 129] _ _ := hs
  obtain ⟨e11, q11⟩ := hf 11 (by decide)
  replace e11 : _ = some (vs100 11) := e11.val rfl
  rw [show vs100 11 = .slice (some ⟨(ptrG (vs100 11)), 0, none⟩) 4 4 from q11] at e11
  replace hs := hs.learn e11; clear e11 q11
  obtain ⟨e12, q12⟩ := hf 12 (by decide)
  replace e12 : _ = some (vs100 12) := e12.val rfl
  rw [show vs100 12 = .int .i64 (4) from q12] at e12
  replace hs := hs.learn e12; clear e12 q12
  obtain ⟨e13, q13⟩ := hf 13 (by decide)
  replace e13 : _ = some (vs100 13) := e13.val rfl
  rw [show vs100 13 = .int .i64 (0) from q13] at e13
  replace hs := hs.learn e13; clear e13 q13
  generalize ptrG (vs100 11) = g102 at hs
  clear hf
  refine then_n (hK99 _ _ ?_)
  refine wp_block ?_
  refine wp_loop_rounds 5 ?_
  refine rounds_in ?_
  refine wp_seq_k fun K103 hK104 => ?_
  refine wp_region_lit ?_
  refine st_lss hs rfl rfl rfl ?_; clear hs w a; intro a w hs
  rw [show (decide ((0 : Int) < 4)) = true from by decide] at hs
  refine wpList_nil ?_
  refine then_n (hK104 _ _ ?_)
  refine wp_seq_k fun K105 hK106 => ?_
  refine wp_cond_true (hs.ev rfl) ?_
  refine wp_skip ?_
  refine then_n (hK106 _ _ ?_)
  refine wp_seq_k fun K107 hK108 => ?_
  refine wp_block ?_
  refine wp_seq_k fun K109 hK110 => ?_
  refine wp_region_lit ?_
  refine st_ia1 (j := 0) hs rfl rfl (rd_blk (m := 4) (size := 1) (hs.mem.del (.s (.s .z))) rfl (by decide)) (by decide) (by omega) Tryz.underlying161 Tryz.sizeOf129 rfl ?_; clear hs w a; intro a w hs
  refine st_ld (u := .int .u64 ((((BitVec.ofInt 64 t).toNat : Nat) : Int))) hs rfl (rd_blk (m := 4) (size := 1) (hs.mem.del (.s (.s .z))) rfl (by decide)) (by rfl) Tryz.isAgg129 rfl ?_; clear hs w a; intro a w hs
  refine st_as hs rfl rfl ?_; clear hs w a; intro a w hs
  refine wpList_nil ?_
  refine then_n (hK110 _ _ ?_)
  refine wp_region_lit ?_
  refine st_run 2 [(67, .int .u64 ((((BitVec.ofInt 64 t).toNat : Nat) : Int))), (66, .slice (some ⟨g95, 0, none⟩) 2 2)] hs .n (by kernel_rfl) (by kernel_rfl) (by kernel_rfl) ?_; clear hs a; intro a hs
  refine st_call hs (.c rfl .n) Tryz.call93 .n (put_ok (BitVec.ofInt 64 t) _) rfl ?_; clear hs w a; rintro v111 _ a w rfl hs; simp only [List.cons_append, List.nil_append] at hs
  replace hs := hs.toRow (size := 1) (m := 2) (.s .z) rfl (by decide)
  refine st_app (size := 1) (bytes := 1) hs rfl rfl .z (rd_row (hs.mem.del (.s .z))) (oneCell_bytesV _) Tryz.underlying37 (i := Tryz.t5) rfl rfl rfl rfl rfl (by decide) (by omega) (by simp only [maxLen]; omega) rfl ?_; clear hs w a; intro v112 a w hs
  refine st_as hs rfl rfl ?_; clear hs w a; intro a w hs
  refine wpList_nil ?_
  refine in_n ?_
  refine then_n (hK108 _ _ ?_)
  refine wp_region_lit ?_
  refine st_run 2 [(62, .int .i64 (1)), (70, .int .i64 (1))] hs .n (by kernel_rfl) (by kernel_rfl) (by kernel_rfl) ?_; clear hs a; intro a hs
  refine wpList_nil ?_
  refine then_n ?_
  refine rounds_in ?_
  refine wp_seq_k fun K113 hK114 => ?_
  refine wp_region_lit ?_
  refine st_lss hs rfl rfl rfl ?_; clear hs w a; intro a w hs
  rw [show (decide ((1 : Int) < 4)) = true from by decide] at hs
  refine wpList_nil ?_
  refine then_n (hK114 _ _ ?_)
  refine wp_seq_k fun K115 hK116 => ?_
  refine wp_cond_true (hs.ev rfl) ?_
  refine wp_skip ?_
  refine then_n (hK116 _ _ ?_)
  refine wp_seq_k fun K117 hK118 => ?_
  refine wp_block ?_
  refine wp_seq_k fun K119 hK120 => ?_
  refine wp_region_lit ?_
  refine st_ia1 (j := 1) hs rfl rfl (rd_blk (m := 4) (size := 1) (hs.mem.del (.s (.s (.s .z)))) rfl (by decide)) (by decide) (by omega) Tryz.underlying161 Tryz.sizeOf129 rfl ?_; clear hs w a; intro a w hs
  refine st_ld (u := .int .u64 ((((zigI tm).toNat : Nat) : Int))) hs rfl (rd_blk (m := 4) (size := 1) (hs.mem.del (.s (.s (.s .z)))) rfl (by decide)) (by rfl) Tryz.isAgg129 rfl ?_; clear hs w a; intro a w hs
  refine st_as hs rfl rfl ?_; clear hs w a; intro a w hs
  refine wpList_nil ?_
  refine then_n (hK120 _ _ ?_)
  refine wp_region_lit ?_
  refine st_run 2 [(67, .int .u64 ((((zigI tm).toNat : Nat) : Int))), (66, v112)] hs .n (by kernel_rfl) (by kernel_rfl) (by kernel_rfl) ?_; clear hs a; intro a hs
  refine st_call hs (.c rfl .n) Tryz.call93 .n (put_ok (zigI tm) _) rfl ?_; clear hs w a; rintro v121 _ a w rfl hs; simp only [List.cons_append, List.nil_append] at hs
  refine st_app (size := 1) (bytes := 1) hs rfl rfl (.s .z) (rd_row (hs.mem.del .z)) (oneCell_bytesV _) Tryz.underlying37 (i := Tryz.t5) rfl rfl rfl rfl rfl (by decide) (by omega) (by simp only [maxLen]; omega) rfl ?_; clear hs w a; intro v122 a w hs
  refine st_as hs rfl rfl ?_; clear hs w a; intro a w hs
  refine wpList_nil ?_
  refine in_n ?_
  refine then_n (hK118 _ _ ?_)
  refine wp_region_lit ?_
  refine st_run 2 [(62, .int .i64 (2)), (70, .int .i64 (2))] hs .n (by kernel_rfl) (by kernel_rfl) (by kernel_rfl) ?_; clear hs a; intro a hs
  refine wpList_nil ?_
  refine then_n ?_
  refine rounds_in ?_
  refine wp_seq_k fun K123 hK124 => ?_
  refine wp_region_lit ?_
  refine st_lss hs rfl rfl rfl ?_; clear hs w a; intro a w hs
  rw [show (decide ((2 : Int) < 4)) = true from by decide] at hs
  refine wpList_nil ?_
  refine then_n (hK124 _ _ ?_)
  refine wp_seq_k fun K125 hK126 => ?_
  refine wp_cond_true (hs.ev rfl) ?_
  refine wp_skip ?_
  refine then_n (hK126 _ _ ?_)
  refine wp_seq_k fun K127 hK128 => ?_
  refine wp_block ?_
  refine wp_seq_k fun K129 hK130 => ?_
  refine wp_region_lit ?_
  refine st_ia1 (j := 2) hs rfl rfl (rd_blk (m := 4) (size := 1) (hs.mem.del (.s (.s (.s (.s .z))))) rfl (by decide)) (by decide) (by omega) Tryz.underlying161 Tryz.sizeOf129 rfl ?_; clear hs w a; intro a w hs
  refine st_ld (u := .int .u64 (0)) hs rfl (rd_blk (m := 4) (size := 1) (hs.mem.del (.s (.s (.s (.s .z))))) rfl (by decide)) (by rfl) Tryz.isAgg129 rfl ?_; clear hs w a; intro a w hs
  refine st_as hs rfl rfl ?_; clear hs w a; intro a w hs
  refine wpList_nil ?_
  refine then_n (hK130 _ _ ?_)
  refine wp_region_lit ?_
  refine st_run 2 [(67, .int .u64 (0)), (66, v122)] hs .n (by kernel_rfl) (by kernel_rfl) (by kernel_rfl) ?_; clear hs a; intro a hs
  refine st_call hs (.c rfl .n) Tryz.call93 .n (put_ok (0#64) _) rfl ?_; clear hs w a; rintro v131 _ a w rfl hs; simp only [List.cons_append, List.nil_append] at hs
  refine st_app (size := 1) (bytes := 1) hs rfl rfl (.s .z) (rd_row (hs.mem.del .z)) (oneCell_bytesV _) Tryz.underlying37 (i := Tryz.t5) rfl rfl rfl rfl rfl (by decide) (by omega) (by simp only [maxLen]; omega) rfl ?_; clear hs w a; intro v132 a w hs
  refine st_as hs rfl rfl ?_; clear hs w a; intro a w hs
  refine wpList_nil ?_
  refine in_n ?_
  refine then_n (hK128 _ _ ?_)
  refine wp_region_lit ?_
  refine st_run 2 [(62, .int .i64 (3)), (70, .int .i64 (3))] hs .n (by kernel_rfl) (by kernel_rfl) (by kernel_rfl) ?_; clear hs a; intro a hs
  refine wpList_nil ?_
  refine then_n ?_
  refine rounds_in ?_
  refine wp_seq_k fun K133 hK134 => ?_
  refine wp_region_lit ?_
  refine st_lss hs rfl rfl rfl ?_; clear hs w a; intro a w hs
  rw [show (decide ((3 : Int) < 4)) = true from by decide] at hs
  refine wpList_nil ?_
  refine then_n (hK134 _ _ ?_)
  refine wp_seq_k fun K135 hK136 => ?_
  refine wp_cond_true (hs.ev rfl) ?_
  refine wp_skip ?_
  refine then_n (hK136 _ _ ?_)
  refine wp_seq_k fun K137 hK138 => ?_
  refine wp_block ?_
  refine wp_seq_k fun K139 hK140 => ?_
  refine wp_region_lit ?_
  refine st_ia1 (j := 3) hs rfl rfl (rd_blk (m := 4) (size := 1) (hs.mem.del (.s (.s (.s (.s (.s .z)))))) rfl (by decide)) (by decide) (by omega) Tryz.underlying161 Tryz.sizeOf129 rfl ?_; clear hs w a; intro a w hs
  refine st_ld (u := .int .u64 ((((BitVec.ofInt 64 (((l.length : Nat) : Int))).toNat : Nat) : Int))) hs rfl (rd_blk (m := 4) (size := 1) (hs.mem.del (.s (.s (.s (.s (.s .z)))))) rfl (by decide)) (by rfl) Tryz.isAgg129 rfl ?_; clear hs w a; intro a w hs
  refine st_as hs rfl rfl ?_; clear hs w a; intro a w hs
  refine wpList_nil ?_
  refine then_n (hK140 _ _ ?_)
  refine wp_region_lit ?_
  refine st_run 2 [(67, .int .u64 ((((BitVec.ofInt 64 (((l.length : Nat) : Int))).toNat : Nat) : Int))), (66, v132)] hs .n (by kernel_rfl) (by kernel_rfl) (by kernel_rfl) ?_; clear hs a; intro a hs
  refine st_call hs (.c rfl .n) Tryz.call93 .n (put_ok (BitVec.ofInt 64 (((l.length : Nat) : Int))) _) rfl ?_; clear hs w a; rintro v141 _ a w rfl hs; simp only [List.cons_append, List.nil_append] at hs
  refine st_app (size := 1) (bytes := 1) hs rfl rfl (.s .z) (rd_row (hs.mem.del .z)) (oneCell_bytesV _) Tryz.underlying37 (i := Tryz.t5) rfl rfl rfl rfl rfl (by decide) (by omega) (by simp only [maxLen]; omega) rfl ?_; clear hs w a; intro v142 a w hs
  refine st_as hs rfl rfl ?_; clear hs w a; intro a w hs
  refine wpList_nil ?_
  refine in_n ?_
  refine then_n (hK138 _ _ ?_)
  refine wp_region_lit ?_
  refine st_run 2 [(62, .int .i64 (4)), (70, .int .i64 (4))] hs .n (by kernel_rfl) (by kernel_rfl) (by kernel_rfl) ?_; clear hs a; intro a hs
  refine wpList_nil ?_
  refine then_n ?_
  refine rounds_in ?_
  refine wp_seq_k fun K143 hK144 => ?_
  refine wp_region_lit ?_
  refine st_lss hs rfl rfl rfl ?_; clear hs w a; intro a w hs
  rw [show (decide ((4 : Int) < 4)) = false from by decide] at hs
  refine wpList_nil ?_
  refine then_n (hK144 _ _ ?_)
  refine wp_seq_k fun K145 hK146 => ?_
  refine wp_cond_false (hs.ev rfl) ?_
  refine wp_exit ?_
  refine th_e ?_
  refine th_e ?_
  refine in_hit ?_
  refine then_n (hK97 _ _ ?_)
  refine wp_seq_k fun K147 hK148 => ?_
  refine wp_region_lit ?_
  refine st_run 3 [(3, .int .i64 (0)), (2, v142)] hs .n (by kernel_rfl) (by kernel_rfl) (by kernel_rfl) ?_; clear hs a; intro a hs
  refine wpList_nil ?_
  refine then_n (hK148 _ _ ?_)
  refine wp_ret ?_
  have hge : gErr t tm b l.length = 0 := by first | exact gErr_3 (by omega) | exact gErr_10 (by omega) (by omega) | exact gErr_8 (by omega) (by omega) (by omega) | exact gErr_0 (by omega) (by omega) (by omega)
  replace hs := hs.drop (.c (.s (.s (.s (.s (.s (.s .z)))))) (.c (.s (.s (.s (.s (.s .z))))) (.c (.s (.s (.s (.s .z)))) (.c (.s (.s (.s .z))) (.c (.s (.s .z)) (.c (.s .z) .n))))))
  replace hs := hs.rerow .z (m' := (gHead t tm b l.length).length) (xs' := bytesV (gHead t tm b l.length)) (by rw [gHead, if_neg (by omega), gHeadB, gBack]; (first | rw [if_pos (by omega)] | rw [if_neg (by omega)]); simp only [List.length_append, List.length_cons, List.length_nil, vlen]) (by rw [gHead, if_neg (by omega), gHeadB, gBack]; (first | rw [if_pos (by omega)] | rw [if_neg (by omega)]); simp [bytesV, byteV])
  exact fin2 hs rfl rfl rfl ⟨_, congrArg (fun z : Nat => Value.tuple #[v142, .int .i64 (z : Int)]) hge.symm, rfl⟩
theorem gbody_ok (t tm b : Int) (u : Value) (l : List RecR) (w0 : World) (ht_ : -9223372036854775808 ≤ t ∧ t ≤ 9223372036854775807) (htm_ : -9223372036854775808 ≤ tm ∧ tm ≤ 9223372036854775807) (hb_ : -9223372036854775808 ≤ b ∧ b ≤ 9223372036854775807) (hc : Rd w0 [] u 9 l.length (l.flatMap recV)) (hl : ∀ x ∈ l, x.wf) : Calls Tryz.prog 42 #[.agg #[.int .i64 t, .int .i64 tm, .int .i64 b, u]] w0 (Ret w0 [] fun x N => ∃ v, x = .tuple #[v, .int .i64 (((bodyErr t tm b l : Nat)) : Int)] ∧ N = [row v 5 1 (bodyB t tm b l).length (bytesV (bodyB t tm b l))]) := by
  have hce := hc.le
  simp only [maxLen] at hce
  refine enter (F0 := [(0, .agg #[.int .i64 (t), .int .i64 (tm), .int .i64 (b), u])]) Tryz.func42 rfl rfl rfl (.c .n) (Mem.nil _) fun a w hs => ?_
  refine wp_seq_k fun K1 hK2 => ?_
  refine wp_region_lit ?_
  refine st_box (cs := [.int .i64 (t), .int .i64 (tm), .int .i64 (b), u]) hs rfl rfl rfl ?_; clear hs w a; intro g3 a w hs
  refine st_run 2 [(3, .int .i64 (0)), (2, .slice none 0 0)] hs .n (by kernel_rfl) (by kernel_rfl) (by kernel_rfl) ?_; clear hs a; intro a hs
  refine wpList_nil ?_
  refine then_n (hK2 _ _ ?_)
  refine wp_seq_k fun K4 hK5 => ?_
  refine wp_region_lit ?_
  refine st_ldBA hs rfl .z (.z (.c (.c (.c (.c .n))))) Tryz.isAgg29 Tryz.sizeOf29 rfl ?_; clear hs w a; intro a w hs
  refine st_call hs (.c rfl .n) Tryz.call68 .n (ghead_ok t tm b _ l _ (by omega) (by omega) (by omega) (hs.rd0 hc)) rfl ?_; clear hs w a; rintro _ _ a w ⟨v6, rfl, rfl⟩ hs; simp only [List.cons_append, List.nil_append] at hs
  have hk7 := length_gHeadB t tm b l.length
  refine st_run 5 [(5, .int .i64 (((gErr t tm b l.length : Nat) : Int))), (4, v6)] hs .n (by kernel_rfl) (by kernel_rfl) (by kernel_rfl) ?_; clear hs a; intro a hs
  refine wpList_nil ?_
  refine then_n (hK5 _ _ ?_)
  refine wp_seq_k fun K8 hK9 => ?_
  refine wp_seq_k fun K10 hK11 => ?_
  refine wp_region_lit ?_
  refine st_run 2 [(17, .bool (!((((gErr t tm b l.length : Nat) : Int) : Int) == 0)))] hs .n (by kernel_rfl) (by kernel_rfl) (by kernel_rfl) ?_; clear hs a; intro a hs
  refine wpList_nil ?_
  refine then_n (hK11 _ _ ?_)
  refine wp_if hs rfl (fun hc12 => ?_) (fun hc12 => ?_)
  ·
   replace hc12 := not_t hc12
   replace hc12 := ne_of_beq_f hc12
   refine wp_seq_k fun K13 hK14 => ?_
   refine wp_region_lit ?_
   refine st_run 3 [(3, .int .i64 (((gErr t tm b l.length : Nat) : Int))), (2, .slice none 0 0)] hs .n (by kernel_rfl) (by kernel_rfl) (by kernel_rfl) ?_; clear hs a; intro a hs
   refine wpList_nil ?_
   refine then_n (hK14 _ _ ?_)
   refine wp_ret ?_
   refine th_r ?_
   have hbe : bodyErr t tm b l = gErr t tm b l.length := by first | exact bodyErr_head (by omega) | exact (bodyErr_head (by rw [(show gErr t tm b l.length = _ by first | exact gErr_3 (by omega) | exact gErr_10 (by omega) (by omega) | exact gErr_8 (by omega) (by omega) (by omega))]; decide)).trans (show gErr t tm b l.length = _ by first | exact gErr_3 (by omega) | exact gErr_10 (by omega) (by omega) | exact gErr_8 (by omega) (by omega) (by omega)) | (rw [bodyErr_recs (by omega)]; exact recsErr_at (by omega) hI1_1 (by unfold errAt; omega)) | (rw [bodyErr_recs (by omega)]; unfold recsErr; rw [← show j = l.length by omega]; exact hI1_1)
   replace hs := hs.drop (.c (.s .z) (.c .z .n))
   replace hs := hs.addNil 5 1
   replace hs := hs.rerow .z (m' := (bodyB t tm b l).length) (xs' := bytesV (bodyB t tm b l)) (by rw [bodyB_err (by omega)]; rfl) (by rw [bodyB_err (by omega)]; rfl)
   exact fin2 hs rfl rfl rfl ⟨_, congrArg (fun z : Nat => Value.tuple #[.slice none 0 0, .int .i64 (z : Int)]) hbe.symm, rfl⟩
  replace hc12 := not_f hc12
  replace hc12 := eq_of_beq hc12
  have hgp := gErr_parts (t := t) (tm := tm) (b := b) (m := l.length) (by omega)
  replace hs := hs.rerow .z (m' := (gHeadB t tm b l.length).length) (xs' := bytesV (gHeadB t tm b l.length)) (by rw [gHead, if_neg (by omega)]) (by rw [gHead, if_neg (by omega)])
  refine wp_skip ?_
  refine then_n (hK9 _ _ ?_)
  refine wp_seq_k fun K15 hK16 => ?_
  refine wp_region_lit ?_
  refine st_as hs rfl rfl ?_; clear hs w a; intro a w hs
  refine wpList_nil ?_
  refine then_n (hK16 _ _ ?_)
  refine wp_seq_k fun K17 hK18 => ?_
  refine wp_seq_k fun K19 hK20 => ?_
  refine wp_region_lit ?_
  refine st_run 2 [(20, u)] hs (.c (hs.mem.del (.s .z)) .n) (by kernel_rfl) (by kernel_rfl) (by kernel_rfl) ?_; clear hs a; intro a hs
  refine st_len hs rfl (hs.rd0 hc).isSl Tryz.underlying27 rfl ?_; clear hs w a; intro a w hs
  refine st_mv hs rfl rfl ?_; clear hs w a; intro a w hs
  refine wpList_nil ?_
  refine then_n (hK20 _ _ ?_)
  refine wp_block ?_
  replace hs := hs.drop (.c (.s .z) .n)
  replace hs := hs.rerow .z (m' := (gHeadB t tm b l.length).length + (rowE (l.take 0)).1.length) (xs' := bytesV (gHeadB t tm b l.length ++ (rowE (l.take 0)).1)) (by show _ = _ + 0; first | rfl | (simp only [vlen, gHeadB, List.length_append, List.length_cons, List.length_nil]; omega)) (by show _ = bytesV (_ ++ []); rw [List.append_nil])
  refine wp_loopI (fun mm_ a w => ∃ j : Nat, ∃ p : Value, mm_ = l.length - j ∧ St 42 [(4, p), (6, .int .i64 ((rowE (l.take j)).2)), (20, u), (21, .int .i64 (((l.length : Nat) : Int))), (22, .int .i64 ((j : Int)))] w0 [] [row p 5 1 ((gHeadB t tm b l.length).length + (rowE (l.take j)).1.length) (bytesV (gHeadB t tm b l.length ++ (rowE (l.take j)).1))] a w ∧ j ≤ l.length ∧ recsTo l j = 0) ⟨0, v6, rfl, hs.sub (.c rfl (.c rfl (.c rfl (.c rfl (.c rfl .n))))), by omega, rfl⟩ ?_
  clear hs w a; rintro mm_ a w ⟨j, p, rfl, hs, hI1_0, hI1_1⟩
  have hll := recsTo_last hI1_0 hI1_1
  have hrl := rowE_len (l.take j)
  have htl : (l.take j).length ≤ j := by rw [List.length_take]; omega
  refine wp_seq_k fun K21 hK22 => ?_
  refine wp_region_lit ?_
  refine st_lss hs rfl rfl rfl ?_; clear hs w a; intro a w hs
  refine wpList_nil ?_
  refine then_n (hK22 _ _ ?_)
  refine wp_seq_k fun K23 hK24 => ?_
  refine wp_if hs rfl (fun hc25 => ?_) (fun hc25 => ?_)
  ·
   replace hc25 := of_decide_eq_true hc25
   refine wp_skip ?_
   refine then_n (hK24 _ _ ?_)
   refine wp_seq_k fun K26 hK27 => ?_
   refine wp_block ?_
   refine wp_seq_k fun K28 hK29 => ?_
   refine wp_region_lit ?_
   refine st_ia (j := j) hs rfl rfl (hs.rd0 hc) rfl (by omega) Tryz.underlying27 Tryz.sizeOf78 rfl ?_; clear hs w a; intro a w hs
   refine st_ldA (cs := recV (l.getD j default)) hs rfl (hs.rd0 hc) (flat_get recV_len l j (by omega)) (by rw [flat_len recV_len]; omega) (by omega) Tryz.isAgg78 Tryz.sizeOf78 rfl ?_; clear hs w a; intro a w hs
   refine st_alloc (cs := [.int .i64 (0), .int .i64 (0), .int .i64 (0), .int .i64 (0), .int .i64 (0), .int .i64 (0), .int .i64 (0), .int .i64 (0), .int .u16 (0)]) hs Tryz.zeroValue78 rfl rfl ?_; clear hs w a; intro g30 a w hs
   refine st_stBA hs rfl rfl .z (.z (.c (.c (.c (.c (.c (.c (.c (.c (.c .n)))))))))) (ones_c rfl (ones_c rfl (ones_c rfl (ones_c rfl (ones_c rfl (ones_c rfl (ones_c rfl (ones_c rfl (ones_c rfl ones_n))))))))) Tryz.sizeOf78 rfl ?_; clear hs w a; intro a w hs
   refine wpList_nil ?_
   refine then_n (hK29 _ _ ?_)
   refine wp_seq_k fun K31 hK32 => ?_
   refine wp_region_lit ?_
   refine st_run 2 [(28, .int .i64 ((rowE (l.take j)).2)), (27, .agg #[.int .i64 ((l.getD j default).k), .int .i64 ((l.getD j default).id), .int .i64 ((l.getD j default).p0), .int .i64 ((l.getD j default).p1), .int .i64 ((l.getD j default).p2), .int .i64 ((l.getD j default).v0), .int .i64 ((l.getD j default).v1), .int .i64 ((l.getD j default).v2), .int .u16 (((((l.getD j default).a).toNat : Nat) : Int))])] hs (.c (hs.mem.del .z) .n) (by kernel_rfl) (by kernel_rfl) (by kernel_rfl) ?_; clear hs a; intro a hs
   refine st_call hs (.c rfl (.c rfl .n)) Tryz.call69 .n (write_ok (l.getD j default) ((rowE (l.take j)).2) _ (recs_getD hl (by omega)) (by omega)) rfl ?_; clear hs w a; rintro _ _ a w ⟨v33, rfl, rfl⟩ hs; simp only [List.cons_append, List.nil_append] at hs
   have hk34 := length_recB (l.getD j default) ((rowE (l.take j)).2)
   refine st_run 5 [(10, .int .i64 (((recErr (l.getD j default) ((rowE (l.take j)).2) : Nat) : Int))), (9, v33), (31, .int .i64 (((recErr (l.getD j default) ((rowE (l.take j)).2) : Nat) : Int))), (30, v33), (26, .tuple #[v33, .int .i64 (((recErr (l.getD j default) ((rowE (l.take j)).2) : Nat) : Int))])] hs .n (by kernel_rfl) (by kernel_rfl) (by kernel_rfl) ?_; clear hs a; intro a hs
   refine wpList_nil ?_
   refine then_n (hK32 _ _ ?_)
   refine wp_seq_k fun K35 hK36 => ?_
   refine wp_seq_k fun K37 hK38 => ?_
   refine wp_region_lit ?_
   refine st_run 2 [(33, .bool (!((((recErr (l.getD j default) ((rowE (l.take j)).2) : Nat) : Int) : Int) == 0))), (32, .int .i64 (((recErr (l.getD j default) ((rowE (l.take j)).2) : Nat) : Int)))] hs .n (by kernel_rfl) (by kernel_rfl) (by kernel_rfl) ?_; clear hs a; intro a hs
   refine wpList_nil ?_
   refine then_n (hK38 _ _ ?_)
   refine wp_if hs rfl (fun hc39 => ?_) (fun hc39 => ?_)
   ·
    replace hc39 := not_t hc39
    replace hc39 := ne_of_beq_f hc39
    refine wp_seq_k fun K40 hK41 => ?_
    refine wp_region_lit ?_
    refine st_run 3 [(3, .int .i64 (((recErr (l.getD j default) ((rowE (l.take j)).2) : Nat) : Int))), (2, .slice none 0 0), (34, .int .i64 (((recErr (l.getD j default) ((rowE (l.take j)).2) : Nat) : Int)))] hs .n (by kernel_rfl) (by kernel_rfl) (by kernel_rfl) ?_; clear hs a; intro a hs
    refine wpList_nil ?_
    refine then_n (hK41 _ _ ?_)
    refine wp_ret ?_
    refine th_r ?_
    refine in_r ?_
    refine th_r ?_
    refine th_r ?_
    refine in_r ?_
    refine th_r ?_
    have hbe : bodyErr t tm b l = recErr (l.getD j default) ((rowE (l.take j)).2) := by first | exact bodyErr_head (by omega) | exact (bodyErr_head (by rw [(show gErr t tm b l.length = _ by first | exact gErr_3 (by omega) | exact gErr_10 (by omega) (by omega) | exact gErr_8 (by omega) (by omega) (by omega))]; decide)).trans (show gErr t tm b l.length = _ by first | exact gErr_3 (by omega) | exact gErr_10 (by omega) (by omega) | exact gErr_8 (by omega) (by omega) (by omega)) | (rw [bodyErr_recs (by omega)]; exact recsErr_at (by omega) hI1_1 (by unfold errAt; omega)) | (rw [bodyErr_recs (by omega)]; unfold recsErr; rw [← show j = l.length by omega]; exact hI1_1)
    replace hs := hs.drop (.c (.s (.s .z)) (.c (.s .z) (.c .z .n)))
    replace hs := hs.addNil 5 1
    replace hs := hs.rerow .z (m' := (bodyB t tm b l).length) (xs' := bytesV (bodyB t tm b l)) (by rw [bodyB_err (by omega)]; rfl) (by rw [bodyB_err (by omega)]; rfl)
    exact fin2 hs rfl rfl rfl ⟨_, congrArg (fun z : Nat => Value.tuple #[.slice none 0 0, .int .i64 (z : Int)]) hbe.symm, rfl⟩
   replace hc39 := not_f hc39
   replace hc39 := eq_of_beq hc39
   refine wp_skip ?_
   refine then_n (hK36 _ _ ?_)
   replace hs := hs.sub (F' := [(33, .bool (!((((recErr (l.getD j default) ((rowE (l.take j)).2) : Nat) : Int) : Int) == 0))), (32, .int .i64 (((recErr (l.getD j default) ((rowE (l.take j)).2) : Nat) : Int))), (10, .int .i64 (((recErr (l.getD j default) ((rowE (l.take j)).2) : Nat) : Int))), (9, v33), (31, .int .i64 (((recErr (l.getD j default) ((rowE (l.take j)).2) : Nat) : Int))), (30, v33), (26, .tuple #[v33, .int .i64 (((recErr (l.getD j default) ((rowE (l.take j)).2) : Nat) : Int))]), (29, .tuple #[v33, .int .i64 (((recErr (l.getD j default) ((rowE (l.take j)).2) : Nat) : Int))]), (28, .int .i64 ((rowE (l.take j)).2)), (27, .agg #[.int .i64 ((l.getD j default).k), .int .i64 ((l.getD j default).id), .int .i64 ((l.getD j default).p0), .int .i64 ((l.getD j default).p1), .int .i64 ((l.getD j default).p2), .int .i64 ((l.getD j default).v0), .int .i64 ((l.getD j default).v1), .int .i64 ((l.getD j default).v2), .int .u16 (((((l.getD j default).a).toNat : Nat) : Int))]), (8, .pointer (some ⟨g30, 0, none⟩)), (25, .agg #[.int .i64 ((l.getD j default).k), .int .i64 ((l.getD j default).id), .int .i64 ((l.getD j default).p0), .int .i64 ((l.getD j default).p1), .int .i64 ((l.getD j default).p2), .int .i64 ((l.getD j default).v0), .int .i64 ((l.getD j default).v1), .int .i64 ((l.getD j default).v2), .int .u16 (((((l.getD j default).a).toNat : Nat) : Int))]), (24, .pointer (some (adr u (j * 9)))), (23, .bool (decide ((j : Int) < (((l.length : Nat) : Int))))), (4, p), (20, u), (21, .int .i64 (((l.length : Nat) : Int))), (22, .int .i64 ((j : Int)))]) (.c rfl (.c rfl (.c rfl (.c rfl (.c rfl (.c rfl (.c rfl (.c rfl (.c rfl (.c rfl (.c rfl (.c rfl (.c rfl (.c rfl (.c rfl (.c rfl (.c rfl (.c rfl .n))))))))))))))))))
   have hs1 := hs
   replace hs := hs.sub (F' := [(33, .bool (!((((recErr (l.getD j default) ((rowE (l.take j)).2) : Nat) : Int) : Int) == 0))), (32, .int .i64 (((recErr (l.getD j default) ((rowE (l.take j)).2) : Nat) : Int))), (10, .int .i64 (((recErr (l.getD j default) ((rowE (l.take j)).2) : Nat) : Int))), (9, v33), (31, .int .i64 (((recErr (l.getD j default) ((rowE (l.take j)).2) : Nat) : Int))), (30, v33), (26, .tuple #[v33, .int .i64 (((recErr (l.getD j default) ((rowE (l.take j)).2) : Nat) : Int))]), (29, .tuple #[v33, .int .i64 (((recErr (l.getD j default) ((rowE (l.take j)).2) : Nat) : Int))]), (28, .int .i64 ((rowE (l.take j)).2)), (27, .agg #[.int .i64 ((l.getD j default).k), .int .i64 ((l.getD j default).id), .int .i64 ((l.getD j default).p0), .int .i64 ((l.getD j default).p1), .int .i64 ((l.getD j default).p2), .int .i64 ((l.getD j default).v0), .int .i64 ((l.getD j default).v1), .int .i64 ((l.getD j default).v2), .int .u16 (((((l.getD j default).a).toNat : Nat) : Int))]), (8, .pointer (some ⟨g30, 0, none⟩)), (25, .agg #[.int .i64 ((l.getD j default).k), .int .i64 ((l.getD j default).id), .int .i64 ((l.getD j default).p0), .int .i64 ((l.getD j default).p1), .int .i64 ((l.getD j default).p2), .int .i64 ((l.getD j default).v0), .int .i64 ((l.getD j default).v1), .int .i64 ((l.getD j default).v2), .int .u16 (((((l.getD j default).a).toNat : Nat) : Int))]), (24, .pointer (some (adr u (j * 9)))), (23, .bool (decide ((j : Int) < (((l.length : Nat) : Int))))), (20, u), (21, .int .i64 (((l.length : Nat) : Int))), (22, .int .i64 ((j : Int)))]) (.c rfl (.c rfl (.c rfl (.c rfl (.c rfl (.c rfl (.c rfl (.c rfl (.c rfl (.c rfl (.c rfl (.c rfl (.c rfl (.c rfl (.c rfl (.c rfl (.c rfl .n)))))))))))))))))
   refine wp_drawGw (M0 := [row v33 5 1 ((recB (l.getD j default) ((rowE (l.take j)).2)).length) (bytesV (recB (l.getD j default) ((rowE (l.take j)).2))), blk g30 [.int .i64 ((l.getD j default).k), .int .i64 ((l.getD j default).id), .int .i64 ((l.getD j default).p0), .int .i64 ((l.getD j default).p1), .int .i64 ((l.getD j default).p2), .int .i64 ((l.getD j default).v0), .int .i64 ((l.getD j default).v1), .int .i64 ((l.getD j default).v2), .int .u16 (((((l.getD j default).a).toNat : Nat) : Int))] 78]) (Ds := [Pv 0 p, Pv 1 v33, ⟨[row p 5 1 ((gHeadB t tm b l.length).length + (rowE (l.take j)).1.length) (bytesV (gHeadB t tm b l.length ++ (rowE (l.take j)).1))], [], [], fun vs42 => True, fun vs42 => [row (vs42 2) 5 1 (((gHeadB t tm b l.length).length + (rowE (l.take j)).1.length) + ((recB (l.getD j default) ((rowE (l.take j)).2)).length)) ((bytesV (gHeadB t tm b l.length ++ (rowE (l.take j)).1)) ++ (bytesV (recB (l.getD j default) ((rowE (l.take j)).2))))], none⟩, Pv 3 (.pointer (some ⟨g30, 1, none⟩)), Pv 4 (.int .i64 ((l.getD j default).id)), ⟨[], [], [2], fun vs42 => vs42 5 = (vs42 2), fun vs42 => [], some (p)⟩, Pv 6 (.int .i64 ((l.getD j default).id))]) (by kernel_rfl) hs rfl (.c (.s (.s .z)) .n) (by kernel_rfl) (by kernel_rfl) ?_ (WasL.get (.z rfl (.z rfl (.z rfl (.z rfl (.z rfl (.s rfl rfl rfl (.z rfl .n))))))) hs1) ?_
   all_goals clear hs1
   ·
    refine (.c ?_ (.c ?_ (.c ?_ (.c ?_ (.c ?_ (.c ?_ (.c ?_ .n)))))))
    · exact trip_pv (m := 7) (.o (j := 5) (by kernel_rfl) rfl rfl .n) (fun hm0 hm hx => .n) (by kernel_rfl) (by kernel_rfl) rfl
    · exact trip_pv (m := 7) .n (fun hm0 hm hx => .n) (by kernel_rfl) (by kernel_rfl) rfl
    ·
     intro a_ w_ R_ rest_ vs42 hm hs ht hx
     replace hs : St _ _ _ (feet [row p 5 1 ((gHeadB t tm b l.length).length + (rowE (l.take j)).1.length) (bytesV (gHeadB t tm b l.length ++ (rowE (l.take j)).1))]) [row p 5 1 ((gHeadB t tm b l.length).length + (rowE (l.take j)).1.length) (bytesV (gHeadB t tm b l.length ++ (rowE (l.take j)).1))] _ _ := hs
     have hm0 := hm.mid
     replace hs := hs.lrn (ht 0 (twB_spec 7 _ (by kernel_rfl))) rfl rfl
     replace hs := hs.lrn (ht 1 (twB_spec 7 _ (by kernel_rfl))) rfl rfl
     have hs0 := hs.bare
     refine st_app (size := 1) (bytes := 1) hs rfl rfl .z (rd_row (hm0.del .z)) (oneCell_bytesV _) Tryz.underlying37 (i := Tryz.t5) rfl rfl rfl rfl rfl (by decide) (by omega) (by simp only [maxLen]; omega) rfl ?_; clear hs; intro v43 a w hs
     exact wpList_nil ⟨rfl, _, _, hs0, (.c (.c .r)), hs, trivial⟩
    · exact trip_pv (m := 7) .n (fun hm0 hm hx => .n) (by kernel_rfl) (by kernel_rfl) rfl
    · exact trip_pv (m := 7) (.c (k := 3) (by kernel_rfl) rfl rfl .n) (fun hm0 hm hx => (.c (hm0.del (.s .z)))) (by kernel_rfl) (by kernel_rfl) rfl
    ·
     intro a_ w_ R_ rest_ vs42 hm hs ht hx
     have hm0 := hm.mid
     have t2 := ht 2 (twB_spec 7 _ (by kernel_rfl))
     have e2 : _ = some (vs42 2) := t2.val rfl
     replace hs := hs.learn e2
     have hs0 := hs.bare
     refine st_as hs rfl rfl ?_; clear hs; intro a w hs
     exact wpList_nil ⟨rfl, _, _, hs0, (.c .r), hs, rfl⟩
    exact trip_pv (m := 7) (.c (k := 4) (by kernel_rfl) rfl rfl .n) (fun hm0 hm hx => .n) (by kernel_rfl) (by kernel_rfl) rfl
   clear hs w a; intro a w vs42 hs hf
   replace hs : St _ _ _ _ [row v33 5 1 ((recB (l.getD j default) ((rowE (l.take j)).2)).length) (bytesV (recB (l.getD j default) ((rowE (l.take j)).2))), blk g30 [.int .i64 ((l.getD j default).k), .int .i64 ((l.getD j default).id), .int .i64 ((l.getD j default).p0), .int .i64 ((l.getD j default).p1), .int .i64 ((l.getD j default).p2), .int .i64 ((l.getD j default).v0), .int .i64 ((l.getD j default).v1), .int .i64 ((l.getD j default).v2), .int .u16 (((((l.getD j default).a).toNat : Nat) : Int))] 78, row (vs42 2) 5 1 (((gHeadB t tm b l.length).length + (rowE (l.take j)).1.length) + ((recB (l.getD j default) ((rowE (l.take j)).2)).length)) ((bytesV (gHeadB t tm b l.length ++ (rowE (l.take j)).1)) ++ (bytesV (recB (l.getD j default) ((rowE (l.take j)).2))))] _ _ := hs
   obtain ⟨e5, q5⟩ := hf 5 (by decide)
   replace e5 : _ = some (vs42 5) := e5.val rfl
   rw [show vs42 5 = (vs42 2) from q5] at e5
   replace hs := hs.learn e5; clear e5 q5
   obtain ⟨e6, q6⟩ := hf 6 (by decide)
   replace e6 : _ = some (vs42 6) := e6.val rfl
   rw [show vs42 6 = .int .i64 ((l.getD j default).id) from q6] at e6
   replace hs := hs.learn e6; clear e6 q6
   generalize vs42 2 = v44 at hs
   clear hf
   refine in_n ?_
   refine then_n (hK27 _ _ ?_)
   refine wp_region_lit ?_
   refine st_addR hs rfl rfl (by omega) rfl ?_; clear hs w a; intro a w hs
   refine st_mv hs rfl rfl ?_; clear hs w a; intro a w hs
   refine wpList_nil ?_
   refine then_n ?_
   have he0 : errAt l j = 0 := by unfold errAt; omega
   replace hs := hs.rerow (.s (.s .z)) (m' := (gHeadB t tm b l.length).length + (rowE (l.take (j + 1))).1.length) (xs' := bytesV (gHeadB t tm b l.length ++ (rowE (l.take (j + 1))).1)) (by rw [rowE_next (by omega)]; simp only [List.length_append]; omega) (by rw [rowE_next (by omega)]; simp [bytesV])
   replace hs := hs.reslot (d := 6) (v := .int .i64 ((l.getD j default).id)) (v' := .int .i64 ((rowE (l.take (j + 1))).2)) rfl (Option.some.inj (by rw [rowE_next (by omega)]))
   replace hs := hs.drop (.c (.s (.s .z)) (.c (.s .z) .n))
   refine ⟨_, ?_, j + 1, v44, rfl, hs.sub (.c rfl (.c rfl (.c rfl (.c rfl (.c rfl .n))))), by omega, recsTo_ok hI1_1 he0⟩
   omega
  replace hc25 := of_decide_eq_false hc25
  refine wp_exit ?_
  refine th_e ?_
  refine th_e ?_
  refine in_hit ?_
  refine then_n (hK18 _ _ ?_)
  refine wp_seq_k fun K45 hK46 => ?_
  refine wp_region_lit ?_
  refine st_run 3 [(3, .int .i64 (0)), (2, p)] hs .n (by kernel_rfl) (by kernel_rfl) (by kernel_rfl) ?_; clear hs a; intro a hs
  refine wpList_nil ?_
  refine then_n (hK46 _ _ ?_)
  refine wp_ret ?_
  have hbe : bodyErr t tm b l = 0 := by first | exact bodyErr_head (by omega) | exact (bodyErr_head (by rw [(show gErr t tm b l.length = _ by first | exact gErr_3 (by omega) | exact gErr_10 (by omega) (by omega) | exact gErr_8 (by omega) (by omega) (by omega))]; decide)).trans (show gErr t tm b l.length = _ by first | exact gErr_3 (by omega) | exact gErr_10 (by omega) (by omega) | exact gErr_8 (by omega) (by omega) (by omega)) | (rw [bodyErr_recs (by omega)]; exact recsErr_at (by omega) hI1_1 (by unfold errAt; omega)) | (rw [bodyErr_recs (by omega)]; unfold recsErr; rw [← show j = l.length by omega]; exact hI1_1)
  have hta : l.take j = l := List.take_of_length_le (by omega)
  replace hs := hs.rerow .z (m' := (bodyB t tm b l).length) (xs' := bytesV (bodyB t tm b l)) (by rw [bodyB_ok hbe, hta]; simp only [List.length_append]) (by rw [bodyB_ok hbe, hta])
  exact fin2 hs rfl rfl rfl ⟨_, congrArg (fun z : Nat => Value.tuple #[p, .int .i64 (z : Int)]) hbe.symm, rfl⟩
theorem gwrite_ok (t tm b : Int) (u : Value) (l : List RecR) (w0 : World) (ht_ : -9223372036854775808 ≤ t ∧ t ≤ 9223372036854775807) (htm_ : -9223372036854775808 ≤ tm ∧ tm ≤ 9223372036854775807) (hb_ : -9223372036854775808 ≤ b ∧ b ≤ 9223372036854775807) (hc : Rd w0 [] u 9 l.length (l.flatMap recV)) (hl : ∀ x ∈ l, x.wf) : Calls Tryz.prog 17 #[.agg #[.int .i64 t, .int .i64 tm, .int .i64 b, u]] w0 (Ret w0 [] fun x N => ∃ v, x = .tuple #[v, .int .i64 (((gwErr t tm b l : Nat)) : Int)] ∧ N = [row v 5 1 (gwB t tm b l).length (bytesV (gwB t tm b l))]) := by
  have hce := hc.le
  simp only [maxLen] at hce
  refine enter (F0 := [(0, .agg #[.int .i64 (t), .int .i64 (tm), .int .i64 (b), u])]) Tryz.func17 rfl rfl rfl (.c .n) (Mem.nil _) fun a w hs => ?_
  refine wp_seq_k fun K1 hK2 => ?_
  refine wp_region_lit ?_
  refine st_box (cs := [.int .i64 (t), .int .i64 (tm), .int .i64 (b), u]) hs rfl rfl rfl ?_; clear hs w a; intro g3 a w hs
  refine st_run 2 [(3, .int .i64 (0)), (2, .slice none 0 0)] hs .n (by kernel_rfl) (by kernel_rfl) (by kernel_rfl) ?_; clear hs a; intro a hs
  refine wpList_nil ?_
  refine then_n (hK2 _ _ ?_)
  refine wp_seq_k fun K4 hK5 => ?_
  refine wp_region_lit ?_
  refine st_ldBA hs rfl .z (.z (.c (.c (.c (.c .n))))) Tryz.isAgg29 Tryz.sizeOf29 rfl ?_; clear hs w a; intro a w hs
  refine st_call hs (.c rfl .n) Tryz.call42 .n (gbody_ok t tm b _ l _ (by omega) (by omega) (by omega) (hs.rd0 hc) hl) rfl ?_; clear hs w a; rintro _ _ a w ⟨v6, rfl, rfl⟩ hs; simp only [List.cons_append, List.nil_append] at hs
  have hk7 := length_bodyB t tm b l
  refine st_run 5 [(5, .int .i64 (((bodyErr t tm b l : Nat) : Int))), (4, v6)] hs .n (by kernel_rfl) (by kernel_rfl) (by kernel_rfl) ?_; clear hs a; intro a hs
  refine wpList_nil ?_
  refine then_n (hK5 _ _ ?_)
  refine wp_seq_k fun K8 hK9 => ?_
  refine wp_block ?_
  refine wp_seq_k fun K10 hK11 => ?_
  refine wp_region_lit ?_
  refine st_run 3 [(11, .bool (!((((bodyErr t tm b l : Nat) : Int) : Int) == 0)))] hs .n (by kernel_rfl) (by kernel_rfl) (by kernel_rfl) ?_; clear hs a; intro a hs
  refine wpList_nil ?_
  refine then_n (hK11 _ _ ?_)
  refine wp_if hs rfl (fun hc12 => ?_) (fun hc12 => ?_)
  ·
   replace hc12 := not_t hc12
   replace hc12 := ne_of_beq_f hc12
   refine wp_seq_k fun K13 hK14 => ?_
   refine wp_region_lit ?_
   refine st_run 3 [(3, .int .i64 (((bodyErr t tm b l : Nat) : Int))), (2, .slice none 0 0)] hs .n (by kernel_rfl) (by kernel_rfl) (by kernel_rfl) ?_; clear hs a; intro a hs
   refine wpList_nil ?_
   refine then_n (hK14 _ _ ?_)
   refine wp_ret ?_
   refine in_r ?_
   refine th_r ?_
   have hwe : gwErr t tm b l = bodyErr t tm b l := by unfold gwErr; (repeat' split) <;> omega
   replace hs := hs.drop (.c (.s .z) (.c .z .n))
   replace hs := hs.addNil 5 1
   replace hs := hs.rerow .z (m' := (gwB t tm b l).length) (xs' := bytesV (gwB t tm b l)) (by rw [gwB, if_pos (by omega)]; rfl) (by rw [gwB, if_pos (by omega)]; rfl)
   exact fin2 hs rfl rfl rfl ⟨_, congrArg (fun z : Nat => Value.tuple #[.slice none 0 0, .int .i64 (z : Int)]) hwe.symm, rfl⟩
  replace hc12 := not_f hc12
  replace hc12 := eq_of_beq hc12
  refine wp_seq_k fun K15 hK16 => ?_
  refine wp_region_lit ?_
  refine st_mv hs rfl rfl ?_; clear hs w a; intro a w hs
  refine st_len hs rfl (rd_row (hs.mem.del .z)).isSl Tryz.underlying37 rfl ?_; clear hs w a; intro a w hs
  refine st_run 2 [(15, .bool (decide (4092 < ((((bodyB t tm b l).length : Nat) : Int)))))] hs .n (by kernel_rfl) (by kernel_rfl) (by kernel_rfl) ?_; clear hs a; intro a hs
  refine wpList_nil ?_
  refine then_n (hK16 _ _ ?_)
  refine wp_if hs rfl (fun hc17 => ?_) (fun hc17 => ?_)
  ·
   replace hc17 := of_decide_eq_true hc17
   refine wp_seq_k fun K18 hK19 => ?_
   refine wp_region_lit ?_
   refine st_run 2 [(3, .int .i64 (8)), (2, .slice none 0 0)] hs .n (by kernel_rfl) (by kernel_rfl) (by kernel_rfl) ?_; clear hs a; intro a hs
   refine wpList_nil ?_
   refine then_n (hK19 _ _ ?_)
   refine wp_ret ?_
   refine in_r ?_
   refine th_r ?_
   have hwe : gwErr t tm b l = 8 := by unfold gwErr; (repeat' split) <;> omega
   replace hs := hs.drop (.c (.s .z) (.c .z .n))
   replace hs := hs.addNil 5 1
   replace hs := hs.rerow .z (m' := (gwB t tm b l).length) (xs' := bytesV (gwB t tm b l)) (by rw [gwB, if_pos (by omega)]; rfl) (by rw [gwB, if_pos (by omega)]; rfl)
   exact fin2 hs rfl rfl rfl ⟨_, congrArg (fun z : Nat => Value.tuple #[.slice none 0 0, .int .i64 (z : Int)]) hwe.symm, rfl⟩
  replace hc17 := of_decide_eq_false hc17
  refine wp_skip ?_
  refine in_n ?_
  refine then_n (hK9 _ _ ?_)
  refine wp_seq_k fun K20 hK21 => ?_
  refine wp_region_lit ?_
  refine st_mv hs rfl rfl ?_; clear hs w a; intro a w hs
  refine st_call hs (.c rfl .n) Tryz.call43 .n (seal_ok _ _ (bodyB t tm b l) _ (rd_row (hs.mem.del .z)) (by omega)) rfl ?_; clear hs w a; rintro v22 _ a w rfl hs; simp only [List.cons_append, List.nil_append] at hs
  refine st_run 2 [(3, .int .i64 (0)), (2, v22)] hs .n (by kernel_rfl) (by kernel_rfl) (by kernel_rfl) ?_; clear hs a; intro a hs
  refine wpList_nil ?_
  refine then_n (hK21 _ _ ?_)
  refine wp_ret ?_
  have hwe : gwErr t tm b l = 0 := by unfold gwErr; (repeat' split) <;> omega
  replace hs := hs.drop (.c (.s (.s .z)) (.c (.s .z) .n))
  replace hs := hs.rerow .z (m' := (gwB t tm b l).length) (xs' := bytesV (gwB t tm b l)) (by rw [gwB, if_neg (by omega), length_seal]) (by rw [gwB, if_neg (by omega)])
  exact fin2 hs rfl rfl rfl ⟨_, congrArg (fun z : Nat => Value.tuple #[v22, .int .i64 (z : Int)]) hwe.symm, rfl⟩
theorem gcheck_ok (t tm b : Int) (u : Value) (l : List RecR) (w0 : World) (ht_ : -9223372036854775808 ≤ t ∧ t ≤ 9223372036854775807) (htm_ : -9223372036854775808 ≤ tm ∧ tm ≤ 9223372036854775807) (hb_ : -9223372036854775808 ≤ b ∧ b ≤ 9223372036854775807) (hc : Rd w0 [] u 9 l.length (l.flatMap recV)) (hl : ∀ x ∈ l, x.wf) : Calls Tryz.prog 36 #[.agg #[.int .i64 t, .int .i64 tm, .int .i64 b, u]] w0 (RetV w0 (.int .i64 ((bodyErr t tm b l : Nat) : Int))) := by
  have hce := hc.le
  simp only [maxLen] at hce
  refine enter (F0 := [(0, .agg #[.int .i64 (t), .int .i64 (tm), .int .i64 (b), u])]) Tryz.func36 rfl rfl rfl (.c .n) (Mem.nil _) fun a w hs => ?_
  refine wp_seq_k fun K1 hK2 => ?_
  refine wp_region_lit ?_
  refine st_box (cs := [.int .i64 (t), .int .i64 (tm), .int .i64 (b), u]) hs rfl rfl rfl ?_; clear hs w a; intro g3 a w hs
  refine st_as hs rfl rfl ?_; clear hs w a; intro a w hs
  refine wpList_nil ?_
  refine then_n (hK2 _ _ ?_)
  refine wp_seq_k fun K4 hK5 => ?_
  refine wp_region_lit ?_
  refine st_ldBA hs rfl .z (.z (.c (.c (.c (.c .n))))) Tryz.isAgg29 Tryz.sizeOf29 rfl ?_; clear hs w a; intro a w hs
  refine st_call hs (.c rfl .n) Tryz.call42 .n (gbody_ok t tm b _ l _ (by omega) (by omega) (by omega) (hs.rd0 hc) hl) rfl ?_; clear hs w a; rintro _ _ a w ⟨v6, rfl, rfl⟩ hs; simp only [List.cons_append, List.nil_append] at hs
  have hk7 := length_bodyB t tm b l
  refine st_run 5 [(4, .int .i64 (((bodyErr t tm b l : Nat) : Int)))] hs .n (by kernel_rfl) (by kernel_rfl) (by kernel_rfl) ?_; clear hs a; intro a hs
  refine wpList_nil ?_
  refine then_n (hK5 _ _ ?_)
  refine wp_seq_k fun K8 hK9 => ?_
  refine wp_region_lit ?_
  refine st_run 2 [(2, .int .i64 (((bodyErr t tm b l : Nat) : Int)))] hs .n (by kernel_rfl) (by kernel_rfl) (by kernel_rfl) ?_; clear hs a; intro a hs
  refine wpList_nil ?_
  refine then_n (hK9 _ _ ?_)
  refine wp_ret ?_
  replace hs := hs.drop (.c (.s .z) (.c .z .n))
  exact fin hs rfl rfl ⟨rfl, rfl⟩
end Go.Proofs.YtbioemaipghagaaGreat
