/- Walks of GramParts: what each function does, over the program of this seat. Printed by a program of this session. -/
import Derived.Test.YtkobgcoegajfcaaWgram
import Derived.Test.YtkobgcoegajfcaaSxRgram
namespace Go.Proofs.Ytkobgcoegajfcaa
open Go Go.Sx Go.RowKit
set_option linter.unusedVariables false
set_option linter.unusedSimpArgs false
set_option maxRecDepth 4000
set_option maxHeartbeats 1000000

theorem gramParts_ok (t tm b : Int) (u : Value) (l : List RecR) (w0 : World) (ht_ : -9223372036854775808 ≤ t ∧ t ≤ 9223372036854775807) (htm_ : -9223372036854775808 ≤ tm ∧ tm ≤ 9223372036854775807) (hb_ : -9223372036854775808 ≤ b ∧ b ≤ 9223372036854775807) (hc : Rd w0 [] u 9 l.length (l.flatMap recV)) (hl : ∀ x ∈ l, x.wf) : Calls Try.prog 12 #[.agg #[.int .i64 t, .int .i64 tm, .int .i64 b, u]] w0 (RetV w0 (.bool true)) := by
  have hce := hc.le
  simp only [maxLen] at hce
  refine enter (F0 := [(0, .agg #[.int .i64 (t), .int .i64 (tm), .int .i64 (b), u])]) Try.func12 rfl rfl rfl (.c .n) (Mem.nil _) fun a w hs => ?_
  refine wp_seq_k fun K1 hK2 => ?_
  refine wp_region_lit ?_
  refine st_box (cs := [.int .i64 (t), .int .i64 (tm), .int .i64 (b), u]) hs rfl rfl rfl ?_; clear hs w a; intro g3 a w hs
  refine st_as hs rfl rfl ?_; clear hs w a; intro a w hs
  refine wpList_nil ?_
  refine then_n (hK2 _ _ ?_)
  refine wp_seq_k fun K4 hK5 => ?_
  refine wp_seq_k fun K6 hK7 => ?_
  refine wp_region_lit ?_
  refine st_run 2 [(19, u)] hs (.c (hs.mem.del .z) .n) (by kernel_rfl) (by kernel_rfl) (by kernel_rfl) ?_; clear hs a; intro a hs
  refine st_len hs rfl (hs.rd0 hc).isSl Try.underlying66 rfl ?_; clear hs w a; intro a w hs
  refine st_gtr hs rfl rfl rfl ?_; clear hs w a; intro a w hs
  refine wpList_nil ?_
  refine then_n (hK7 _ _ ?_)
  refine wp_if hs rfl (fun hc8 => ?_) (fun hc8 => ?_)
  ·
   replace hc8 := of_decide_eq_true hc8
   refine wp_seq_k fun K9 hK10 => ?_
   refine wp_region_lit ?_
   refine st_callP (v := .bool (true)) hs .n Try.call35 (alive09_ok _) rfl ?_; clear hs w a; intro a w hs
   refine st_as hs rfl rfl ?_; clear hs w a; intro a w hs
   refine wpList_nil ?_
   refine then_n (hK10 _ _ ?_)
   refine wp_ret ?_
   refine th_r ?_
   replace hs := hs.drop (.c .z .n)
   exact fin hs rfl rfl (by first | exact ⟨rfl, rfl⟩ | (exfalso; omega))
  replace hc8 := of_decide_eq_false hc8
  refine wp_skip ?_
  refine then_n (hK5 _ _ ?_)
  refine wp_seq_k fun K11 hK12 => ?_
  refine wp_region_lit ?_
  refine st_ldBA hs rfl .z (.z (.c (.c (.c (.c .n))))) Try.isAgg69 Try.sizeOf69 rfl ?_; clear hs w a; intro a w hs
  refine st_call hs (.c rfl .n) Try.call36 .n (gwrite_ok t tm b _ l _ (by omega) (by omega) (by omega) (hs.rd0 hc) hl) rfl ?_; clear hs w a; rintro _ _ a w ⟨v13, rfl, rfl⟩ hs; simp only [List.cons_append, List.nil_append] at hs
  have hk14 := length_gwB t tm b l
  refine st_run 5 [(4, .int .i64 (((gwErr t tm b l : Nat) : Int))), (3, v13)] hs .n (by kernel_rfl) (by kernel_rfl) (by kernel_rfl) ?_; clear hs a; intro a hs
  refine wpList_nil ?_
  refine then_n (hK12 _ _ ?_)
  refine wp_seq_k fun K15 hK16 => ?_
  refine wp_region_lit ?_
  refine st_ldBA hs rfl (.s .z) (.z (.c (.c (.c (.c .n))))) Try.isAgg69 Try.sizeOf69 rfl ?_; clear hs w a; intro a w hs
  refine st_alloc (cs := [.int .i64 (0), .int .i64 (0), .int .i64 (0), .slice none 0 0]) hs Try.zeroValue69 rfl rfl ?_; clear hs w a; intro g17 a w hs
  refine st_stBA hs rfl rfl .z (.z (.c (.c (.c (.c .n))))) (ones_c rfl (ones_c rfl (ones_c rfl (ones_c (hs.rd0 hc).isSl.one ones_n)))) Try.sizeOf69 rfl ?_; clear hs w a; intro a w hs
  refine wpList_nil ?_
  refine then_n (hK16 _ _ ?_)
  refine wp_seq_k fun K18 hK19 => ?_
  refine wp_region_lit ?_
  refine st_fa hs rfl Try.underlying69 rfl Try.sizeOf66 (by decide) (o := 3) rfl rfl ?_; clear hs w a; intro a w hs
  refine st_stB hs rfl rfl .z (.s (.s (.s .z))) rfl Try.sizeOf66 ?_; clear hs w a; intro a w hs
  refine wpList_nil ?_
  refine then_n (hK19 _ _ ?_)
  refine wp_seq_k fun K20 hK21 => ?_
  refine wp_region_lit ?_
  refine st_ldBA hs rfl .z (.z (.c (.c (.c (.c .n))))) Try.isAgg69 Try.sizeOf69 rfl ?_; clear hs w a; intro a w hs
  refine st_call hs (.c rfl .n) Try.call36 .n (gwrite_ok t tm b _ ([] : List RecR) _ (by omega) (by omega) (by omega) (rd_nil9 _) (by simp)) rfl ?_; clear hs w a; rintro _ _ a w ⟨v22, rfl, rfl⟩ hs; simp only [List.cons_append, List.nil_append] at hs
  have hk23 := length_gwB t tm b ([] : List RecR)
  refine st_run 5 [(7, .int .i64 (((gwErr t tm b ([] : List RecR) : Nat) : Int))), (6, v22)] hs .n (by kernel_rfl) (by kernel_rfl) (by kernel_rfl) ?_; clear hs a; intro a hs
  refine wpList_nil ?_
  refine then_n (hK21 _ _ ?_)
  refine wp_seq_k fun K24 hK25 => ?_
  refine wp_seq_k fun K26 hK27 => ?_
  refine wp_region_lit ?_
  refine st_run 3 [(37, .bool (!((((gwErr t tm b l : Nat) : Int) : Int) == 0)))] hs .n (by kernel_rfl) (by kernel_rfl) (by kernel_rfl) ?_; clear hs a; intro a hs
  refine st_part (b := !((((gwErr t tm b l : Nat) : Int) : Int) == 0)) (fun hc28 => ?_) (fun hc28 => ?_)
  ·
   rw [hc28] at hs
   replace hc28 := not_t hc28
   replace hc28 := ne_of_beq_f hc28
   refine st_run 3 [(40, .bool (true))] hs .n (by kernel_rfl) (by kernel_rfl) (by kernel_rfl) ?_; clear hs a; intro a hs
   refine wpList_nil ?_
   refine then_n (hK27 _ _ ?_)
   refine wp_cond_true (hs.ev rfl) ?_
   refine wp_seq_k fun K29 hK30 => ?_
   refine wp_region_lit ?_
   refine st_callP (v := .bool (true)) hs .n Try.call35 (alive09_ok _) rfl ?_; clear hs w a; intro a w hs
   refine st_run 4 [(45, .bool ((((gwErr t tm b l : Nat) : Int) : Int) == 0)), (42, .bool (true))] hs .n (by kernel_rfl) (by kernel_rfl) (by kernel_rfl) ?_; clear hs a; intro a hs
   refine st_part (b := (((gwErr t tm b l : Nat) : Int) : Int) == 0) (fun hc31 => ?_) (fun hc31 => ?_)
   ·
    rw [hc31] at hs
    replace hc31 := eq_of_beq hc31
    refine st_run 6 [(2, .bool (true))] hs .n (by kernel_rfl) (by kernel_rfl) (by kernel_rfl) ?_; clear hs a; intro a hs
    refine wpList_nil ?_
    refine then_n (hK30 _ _ ?_)
    refine wp_ret ?_
    refine th_r ?_
    replace hs := hs.drop (.c (.s (.s (.s .z))) (.c (.s (.s .z)) (.c (.s .z) (.c .z .n))))
    exact fin hs rfl rfl (by first | exact ⟨rfl, rfl⟩ | (exfalso; omega))
   rw [hc31] at hs
   replace hc31 := ne_of_beq_f hc31
   refine st_guardT hs rfl rfl rfl ?_
   refine st_mv hs rfl rfl ?_; clear hs w a; intro a w hs
   refine st_guardT hs rfl rfl rfl ?_
   refine st_len hs rfl (rd_row (hs.mem.del (.s (.s .z)))).isSl Try.underlying26 rfl ?_; clear hs w a; intro a w hs
   refine st_guardT hs rfl rfl rfl ?_
   refine st_eql hs rfl rfl rfl ?_; clear hs w a; intro a w hs
   have hb_ : (((((gwB t tm b l).length : Nat) : Int) : Int) == 0) = true := by rw [gwB, if_pos (by omega)]; rfl
   rw [hb_] at hs; clear hb_
   refine st_run 3 [(2, .bool (true))] hs .n (by kernel_rfl) (by kernel_rfl) (by kernel_rfl) ?_; clear hs a; intro a hs
   refine wpList_nil ?_
   refine then_n (hK30 _ _ ?_)
   refine wp_ret ?_
   refine th_r ?_
   replace hs := hs.drop (.c (.s (.s (.s .z))) (.c (.s (.s .z)) (.c (.s .z) (.c .z .n))))
   exact fin hs rfl rfl (by first | exact ⟨rfl, rfl⟩ | (exfalso; omega))
  rw [hc28] at hs
  replace hc28 := not_f hc28
  replace hc28 := eq_of_beq hc28
  refine st_run 3 [(40, .bool (!((((gwErr t tm b ([] : List RecR) : Nat) : Int) : Int) == 0)))] hs .n (by kernel_rfl) (by kernel_rfl) (by kernel_rfl) ?_; clear hs a; intro a hs
  refine wpList_nil ?_
  refine then_n (hK27 _ _ ?_)
  refine wp_if hs rfl (fun hc32 => ?_) (fun hc32 => ?_)
  ·
   replace hc32 := not_t hc32
   replace hc32 := ne_of_beq_f hc32
   refine wp_seq_k fun K33 hK34 => ?_
   refine wp_region_lit ?_
   refine st_callP (v := .bool (true)) hs .n Try.call35 (alive09_ok _) rfl ?_; clear hs w a; intro a w hs
   refine st_run 4 [(45, .bool ((((gwErr t tm b l : Nat) : Int) : Int) == 0)), (42, .bool (true))] hs .n (by kernel_rfl) (by kernel_rfl) (by kernel_rfl) ?_; clear hs a; intro a hs
   refine st_part (b := (((gwErr t tm b l : Nat) : Int) : Int) == 0) (fun hc35 => ?_) (fun hc35 => ?_)
   ·
    rw [hc35] at hs
    replace hc35 := eq_of_beq hc35
    refine st_run 6 [(2, .bool (true))] hs .n (by kernel_rfl) (by kernel_rfl) (by kernel_rfl) ?_; clear hs a; intro a hs
    refine wpList_nil ?_
    refine then_n (hK34 _ _ ?_)
    refine wp_ret ?_
    refine th_r ?_
    replace hs := hs.drop (.c (.s (.s (.s .z))) (.c (.s (.s .z)) (.c (.s .z) (.c .z .n))))
    exact fin hs rfl rfl (by first | exact ⟨rfl, rfl⟩ | (exfalso; omega))
   rw [hc35] at hs
   replace hc35 := ne_of_beq_f hc35
   refine st_guardT hs rfl rfl rfl ?_
   refine st_mv hs rfl rfl ?_; clear hs w a; intro a w hs
   refine st_guardT hs rfl rfl rfl ?_
   refine st_len hs rfl (rd_row (hs.mem.del (.s (.s .z)))).isSl Try.underlying26 rfl ?_; clear hs w a; intro a w hs
   refine st_guardT hs rfl rfl rfl ?_
   refine st_eql hs rfl rfl rfl ?_; clear hs w a; intro a w hs
   have hb_ : (((((gwB t tm b l).length : Nat) : Int) : Int) == 0) = true := by rw [gwB, if_pos (by omega)]; rfl
   rw [hb_] at hs; clear hb_
   refine st_run 3 [(2, .bool (true))] hs .n (by kernel_rfl) (by kernel_rfl) (by kernel_rfl) ?_; clear hs a; intro a hs
   refine wpList_nil ?_
   refine then_n (hK34 _ _ ?_)
   refine wp_ret ?_
   refine th_r ?_
   replace hs := hs.drop (.c (.s (.s (.s .z))) (.c (.s (.s .z)) (.c (.s .z) (.c .z .n))))
   exact fin hs rfl rfl (by first | exact ⟨rfl, rfl⟩ | (exfalso; omega))
  replace hc32 := not_f hc32
  replace hc32 := eq_of_beq hc32
  have hbe := (gwErr_parts (t := t) (tm := tm) (b := b) (l := l) (by omega)).1
  have hbe0 := (gwErr_parts (t := t) (tm := tm) (b := b) (l := []) (by omega)).1
  have hps := body_pos hbe0
  have hln1 := length_bodyB t tm b l
  have hln0 := length_bodyB t tm b []
  have hre := (bodyErr_parts hbe).2
  refine wp_skip ?_
  refine then_n (hK25 _ _ ?_)
  refine wp_seq_k fun K36 hK37 => ?_
  refine wp_region_lit ?_
  refine st_mv hs rfl rfl ?_; clear hs w a; intro a w hs
  refine st_call hs (.c rfl .n) Try.call37 .n (open_some _ _ (gwB t tm b l) _ (rd_row (hs.mem.del (.s (.s .z)))) _ (by omega) (open_gw (by omega))) rfl ?_; clear hs w a; rintro _ _ a w ⟨v38, rfl, rfl⟩ hs; simp only [List.cons_append, List.nil_append] at hs
  refine st_run 5 [(9, .bool (true)), (8, v38)] hs .n (by kernel_rfl) (by kernel_rfl) (by kernel_rfl) ?_; clear hs a; intro a hs
  refine wpList_nil ?_
  refine then_n (hK37 _ _ ?_)
  refine wp_seq_k fun K39 hK40 => ?_
  refine wp_region_lit ?_
  refine st_mv hs rfl rfl ?_; clear hs w a; intro a w hs
  refine st_call hs (.c rfl .n) Try.call37 .n (open_some _ _ ((gwB t tm b ([] : List RecR))) _ (rd_row (hs.mem.del (.s .z))) _ (by omega) (open_gw (by omega))) rfl ?_; clear hs w a; rintro _ _ a w ⟨v41, rfl, rfl⟩ hs; simp only [List.cons_append, List.nil_append] at hs
  refine st_run 5 [(11, .bool (true)), (10, v41)] hs .n (by kernel_rfl) (by kernel_rfl) (by kernel_rfl) ?_; clear hs a; intro a hs
  refine wpList_nil ?_
  refine then_n (hK40 _ _ ?_)
  refine wp_seq_k fun K42 hK43 => ?_
  refine wp_seq_k fun K44 hK45 => ?_
  refine wp_region_lit ?_
  refine st_run 8 [(68, v41), (67, .bool (false))] hs .n (by kernel_rfl) (by kernel_rfl) (by kernel_rfl) ?_; clear hs a; intro a hs
  refine st_guardT hs rfl rfl rfl ?_
  refine st_len hs rfl (rd_row (hs.mem.del .z)).isSl Try.underlying26 rfl ?_; clear hs w a; intro a w hs
  refine st_guardT hs rfl rfl rfl ?_
  refine st_lss hs rfl rfl rfl ?_; clear hs w a; intro a w hs
  have hb_ : (decide (((((bodyB t tm b []).length : Nat) : Int)) < 1)) = false := decide_eq_false (by omega)
  rw [hb_] at hs; clear hb_
  refine st_pickF hs rfl rfl rfl ?_; clear hs w a; intro a w hs
  refine wpList_nil ?_
  refine then_n (hK45 _ _ ?_)
  refine wp_cond_false (hs.ev rfl) ?_
  refine wp_skip ?_
  refine then_n (hK43 _ _ ?_)
  refine wp_seq_k fun K46 hK47 => ?_
  replace hs := hs.sub (F' := [(10, v41), (8, v38), (2, .bool (false)), (1, .pointer (some ⟨g3, 0, none⟩))]) (.c rfl (.c rfl (.c rfl (.c rfl .n))))
  refine wp_drawG (M0 := [row v41 5 1 ((bodyB t tm b []).length) (bytesV (bodyB t tm b [])), row v38 5 1 ((bodyB t tm b l).length) (bytesV (bodyB t tm b l)), row v22 5 1 ((gwB t tm b ([] : List RecR)).length) (bytesV (gwB t tm b ([] : List RecR))), blk g17 [.int .i64 (t), .int .i64 (tm), .int .i64 (b), .slice none 0 0] 69, row v13 5 1 ((gwB t tm b l).length) (bytesV (gwB t tm b l)), blk g3 [.int .i64 (t), .int .i64 (tm), .int .i64 (b), u] 69]) (Ds := [⟨[], [], [], fun vs48 => vs48 0 = .slice (some ⟨(ptrG (vs48 0)), 0, none⟩) 0 0, fun vs48 => [blk (ptrG (vs48 0)) [] 5], none⟩, Pv 1 v41, Pv 2 v41, Pv 3 (.int .i64 ((((bodyB t tm b []).length : Nat) : Int))), Pv 4 (.int .i64 (((((bodyB t tm b []).length : Nat) : Int)) - 1)), Pv 5 (slcV v41 1 0 ((((((bodyB t tm b []).length : Nat) : Int)) - 1).toNat)), ⟨[], [0], [], fun vs48 => True, fun vs48 => [row (vs48 6) 5 1 (0 + (((((((bodyB t tm b []).length : Nat) : Int)) - 1).toNat))) (([]) ++ (bytesV ((bodyB t tm b []).take ((((((bodyB t tm b []).length : Nat) : Int)) - 1).toNat))))], none⟩, Pv 7 (.pointer (some ⟨g3, 3, none⟩)), Pv 8 u, Pv 9 (.int .i64 (((l.length : Nat) : Int))), Pv 10 (.int .u8 ((((BitVec.ofInt 8 (((l.length : Nat) : Int))).toNat : Nat) : Int))), ⟨[], [], [], fun vs48 => vs48 11 = .slice (some ⟨(ptrG (vs48 11)), 0, none⟩) 1 1, fun vs48 => [blk (ptrG (vs48 11)) [.int .u8 ((((BitVec.ofInt 8 (((l.length : Nat) : Int))).toNat : Nat) : Int))] 5], none⟩, ⟨[], [6], [], fun vs48 => True, fun vs48 => [row (vs48 12) 5 1 ((gHeadB t tm b l.length).length) (bytesV (gHeadB t tm b l.length))], none⟩, ⟨[], [], [12], fun vs48 => vs48 13 = (vs48 12), fun vs48 => [], none⟩]) (by kernel_rfl) hs rfl .n (by kernel_rfl) (by kernel_rfl) (by kernel_rfl) ?_ ?_
  ·
   refine (.c ?_ (.c ?_ (.c ?_ (.c ?_ (.c ?_ (.c ?_ (.c ?_ (.c ?_ (.c ?_ (.c ?_ (.c ?_ (.c ?_ (.c ?_ (.c ?_ .n))))))))))))))
   ·
    intro a_ w_ R_ rest_ vs48 hm hs ht hx
    have hm0 := hm.mid
    have hs0 := hs.bare
    refine st_bs0 hs Try.underlying26 rfl ?_ ⟨_, Try.sizeOf5⟩; clear hs; intro g49 a w hs
    exact wpList_nil ⟨rfl, _, _, hs0, .r, hs, rfl⟩
   · exact trip_pv (m := 14) .n (fun hm0 hm hx => .n) (by kernel_rfl) (by kernel_rfl) rfl
   · exact trip_pv (m := 14) .n (fun hm0 hm hx => .n) (by kernel_rfl) (by kernel_rfl) rfl
   ·
    intro a_ w_ R_ rest_ vs48 hm hs ht hx
    have hm0 := hm.mid
    replace hs := hs.lrn (ht 2 (twB_spec 14 _ (by kernel_rfl))) rfl rfl
    have hs0 := hs.bare
    refine st_len hs rfl (rd_row (hm0.del .z)).isSl Try.underlying26 rfl ?_; clear hs; intro a w hs
    exact wpList_nil ⟨rfl, _, _, hs0, (.c .r), hs, rfl⟩
   ·
    intro a_ w_ R_ rest_ vs48 hm hs ht hx
    have hm0 := hm.mid
    replace hs := hs.lrn (ht 3 (twB_spec 14 _ (by kernel_rfl))) rfl rfl
    have hs0 := hs.bare
    refine st_subR hs rfl rfl (by omega) rfl ?_; clear hs; intro a w hs
    exact wpList_nil ⟨rfl, _, _, hs0, (.c .r), hs, rfl⟩
   ·
    intro a_ w_ R_ rest_ vs48 hm hs ht hx
    have hm0 := hm.mid
    replace hs := hs.lrn (ht 1 (twB_spec 14 _ (by kernel_rfl))) rfl rfl
    replace hs := hs.lrn (ht 4 (twB_spec 14 _ (by kernel_rfl))) rfl rfl
    have hs0 := hs.bare
    refine st_slcH (j := (((((bodyB t tm b []).length : Nat) : Int)) - 1).toNat) hs rfl rfl (by omega) (rd_row (hm0.del .z)) (by omega) Try.underlying26 Try.sizeOf5 rfl ?_; clear hs; intro a w hs
    exact wpList_nil ⟨rfl, _, _, hs0, (.c (.c .r)), hs, rfl⟩
   ·
    intro a_ w_ R_ rest_ vs48 hm hs ht hx
    replace hs : St _ _ _ (feet [blk (ptrG (vs48 0)) [] 5]) [blk (ptrG (vs48 0)) [] 5] _ _ := hs
    have hm0 := hm.mid
    have t0 := ht 0 (twB_spec 14 _ (by kernel_rfl))
    have e0 : _ = some (vs48 0) := t0.val rfl
    rw [show vs48 0 = .slice (some ⟨(ptrG (vs48 0)), 0, none⟩) 0 0 from t0.2.1] at e0
    replace hs := hs.learn e0
    replace hs := hs.lrn (ht 5 (twB_spec 14 _ (by kernel_rfl))) rfl rfl
    have hs0 := hs.bare
    replace hs := hs.toRow (size := 1) (m := 0) .z rfl (by decide)
    refine st_app (size := 1) (bytes := 1) hs rfl rfl .z ((rd_row (hm0.del .z)).slcT (h := ((((((bodyB t tm b []).length : Nat) : Int)) - 1).toNat)) (by omega)) (oneCell_bytesV _) Try.underlying26 (i := Try.t5) rfl rfl rfl rfl rfl (by decide) (by omega) (by simp only [maxLen]; omega) rfl ?_; clear hs; intro v50 a w hs
    exact wpList_nil ⟨rfl, _, _, hs0, (.c (.c .r)), hs, trivial⟩
   · exact trip_pv (m := 14) .n (fun hm0 hm hx => .n) (by kernel_rfl) (by kernel_rfl) rfl
   · exact trip_pv (m := 14) (.c (k := 7) (by kernel_rfl) rfl rfl .n) (fun hm0 hm hx => (.c (hm0.del (.s (.s (.s (.s (.s .z)))))))) (by kernel_rfl) (by kernel_rfl) rfl
   ·
    intro a_ w_ R_ rest_ vs48 hm hs ht hx
    have hm0 := hm.mid
    replace hs := hs.lrn (ht 8 (twB_spec 14 _ (by kernel_rfl))) rfl rfl
    have hs0 := hs.bare
    refine st_len hs rfl (hm.rd0 hc).isSl Try.underlying66 rfl ?_; clear hs; intro a w hs
    exact wpList_nil ⟨rfl, _, _, hs0, (.c .r), hs, rfl⟩
   ·
    intro a_ w_ R_ rest_ vs48 hm hs ht hx
    have hm0 := hm.mid
    replace hs := hs.lrn (ht 9 (twB_spec 14 _ (by kernel_rfl))) rfl rfl
    have hs0 := hs.bare
    refine st_cv_u8 hs rfl Try.underlying3 Try.underlying5 rfl ?_; clear hs; intro a w hs
    exact wpList_nil ⟨rfl, _, _, hs0, (.c .r), hs, rfl⟩
   ·
    intro a_ w_ R_ rest_ vs48 hm hs ht hx
    have hm0 := hm.mid
    replace hs := hs.lrn (ht 10 (twB_spec 14 _ (by kernel_rfl))) rfl rfl
    have hs0 := hs.bare
    refine st_bs (cs := [.int .u8 ((((BitVec.ofInt 8 (((l.length : Nat) : Int))).toNat : Nat) : Int))]) hs (.c .n) (.c rfl .n) Try.underlying26 (ie := Try.t5) rfl rfl rfl rfl (by decide) (by decide) rfl (by decide) rfl rfl rfl ?_; clear hs; intro g51 a w hs
    exact wpList_nil ⟨rfl, _, _, hs0, (.c .r), hs, rfl⟩
   ·
    intro a_ w_ R_ rest_ vs48 hm hs ht hx
    replace hs : St _ _ _ (feet [row (vs48 6) 5 1 (0 + (((((((bodyB t tm b []).length : Nat) : Int)) - 1).toNat))) (([]) ++ (bytesV ((bodyB t tm b []).take ((((((bodyB t tm b []).length : Nat) : Int)) - 1).toNat))))]) [row (vs48 6) 5 1 (0 + (((((((bodyB t tm b []).length : Nat) : Int)) - 1).toNat))) (([]) ++ (bytesV ((bodyB t tm b []).take ((((((bodyB t tm b []).length : Nat) : Int)) - 1).toNat))))] _ _ := hs
    have hm0 := hm.mid
    have t6 := ht 6 (twB_spec 14 _ (by kernel_rfl))
    have e6 : _ = some (vs48 6) := t6.val rfl
    replace hs := hs.learn e6
    have t11 := ht 11 (twB_spec 14 _ (by kernel_rfl))
    have e11 : _ = some (vs48 11) := t11.val rfl
    rw [show vs48 11 = .slice (some ⟨(ptrG (vs48 11)), 0, none⟩) 1 1 from t11.2.1] at e11
    replace hs := hs.learn e11
    have hs0 := hs.bare
    refine st_app (size := 1) (bytes := 1) hs rfl rfl .z (rd_blk (m := 1) (size := 1) (hm.own (List.mem_append.2 (.inr ((ht 11 (twB_spec 14 _ (by kernel_rfl))).2.2 (later (n := 14) (by kernel_rfl)) _ (List.Mem.head _))))) rfl (by decide)) (by simp [Value.oneCell']) Try.underlying26 (i := Try.t5) rfl rfl rfl rfl rfl (by decide) (by omega) (by simp only [maxLen]; omega) rfl ?_; clear hs; intro v52 a w hs
    have hcl := congrArg List.length (head_cut (l := l) hbe0 (by omega))
    simp only [List.length_append, List.length_cons, List.length_nil, List.length_take] at hcl
    replace hs := hs.rerow .z (m' := (gHeadB t tm b l.length).length) (xs' := bytesV (gHeadB t tm b l.length)) (by first | omega | (simp only [List.length_take]; omega)) (by rw [← head_cut hbe0 (by omega)]; simp [bytesV, byteV])
    exact wpList_nil ⟨rfl, _, _, hs0, (.c (.c .r)), hs, trivial⟩
   intro a_ w_ R_ rest_ vs48 hm hs ht hx
   have hm0 := hm.mid
   have t12 := ht 12 (twB_spec 14 _ (by kernel_rfl))
   have e12 : _ = some (vs48 12) := t12.val rfl
   replace hs := hs.learn e12
   have hs0 := hs.bare
   refine st_as hs rfl rfl ?_; clear hs; intro a w hs
   exact wpList_nil ⟨rfl, _, _, hs0, (.c .r), hs, rfl⟩
  clear hs w a; intro a w vs48 hs hf
  replace hs : St _ _ _ _ [row v41 5 1 ((bodyB t tm b []).length) (bytesV (bodyB t tm b [])), row v38 5 1 ((bodyB t tm b l).length) (bytesV (bodyB t tm b l)), row v22 5 1 ((gwB t tm b ([] : List RecR)).length) (bytesV (gwB t tm b ([] : List RecR))), blk g17 [.int .i64 (t), .int .i64 (tm), .int .i64 (b), .slice none 0 0] 69, row v13 5 1 ((gwB t tm b l).length) (bytesV (gwB t tm b l)), blk g3 [.int .i64 (t), .int .i64 (tm), .int .i64 (b), u] 69, blk (ptrG (vs48 11)) [.int .u8 ((((BitVec.ofInt 8 (((l.length : Nat) : Int))).toNat : Nat) : Int))] 5, row (vs48 12) 5 1 ((gHeadB t tm b l.length).length) (bytesV (gHeadB t tm b l.length))] _ _ := hs
  obtain ⟨e13, q13⟩ := hf 13 (by decide)
  replace e13 : _ = some (vs48 13) := e13.val rfl
  rw [show vs48 13 = (vs48 12) from q13] at e13
  replace hs := hs.learn e13; clear e13 q13
  generalize ptrG (vs48 11) = g53 at hs
  generalize vs48 12 = v54 at hs
  clear hf
  refine then_n (hK47 _ _ ?_)
  refine wp_seq_k fun K55 hK56 => ?_
  refine wp_region_lit ?_
  refine st_as hs rfl rfl ?_; clear hs w a; intro a w hs
  refine wpList_nil ?_
  refine then_n (hK56 _ _ ?_)
  refine wp_seq_k fun K57 hK58 => ?_
  refine wp_seq_k fun K59 hK60 => ?_
  refine wp_region_lit ?_
  refine st_run 2 [(86, u)] hs (.c (hs.mem.del (.s (.s (.s (.s (.s .z)))))) .n) (by kernel_rfl) (by kernel_rfl) (by kernel_rfl) ?_; clear hs a; intro a hs
  refine st_len hs rfl (hs.rd0 hc).isSl Try.underlying66 rfl ?_; clear hs w a; intro a w hs
  refine st_mv hs rfl rfl ?_; clear hs w a; intro a w hs
  refine wpList_nil ?_
  refine then_n (hK60 _ _ ?_)
  refine wp_block ?_
  replace hs := hs.drop (.c (.s (.s (.s (.s (.s (.s .z)))))) (.c (.s (.s (.s (.s (.s .z))))) (.c (.s (.s (.s (.s .z)))) (.c (.s (.s (.s .z))) (.c (.s (.s .z)) (.c .z .n))))))
  replace hs := hs.reorder (.c (.s .z) (.c .z .n))
  replace hs := hs.rerow .z (m' := (gHeadB t tm b l.length).length + (rowE (l.take 0)).1.length) (xs' := bytesV (gHeadB t tm b l.length ++ (rowE (l.take 0)).1)) (rfl) (by show _ = bytesV (_ ++ []); rw [List.append_nil])
  refine wp_loopI (fun mm_ a w => ∃ j : Nat, ∃ p : Value, mm_ = l.length - j ∧ St 111 [(8, v38), (12, p), (13, .int .i64 ((rowE (l.take j)).2)), (86, u), (87, .int .i64 (((l.length : Nat) : Int))), (88, .int .i64 ((j : Int)))] w0 [] [row p 5 1 ((gHeadB t tm b l.length).length + (rowE (l.take j)).1.length) (bytesV (gHeadB t tm b l.length ++ (rowE (l.take j)).1)), row v38 5 1 ((bodyB t tm b l).length) (bytesV (bodyB t tm b l))] a w ∧ j ≤ l.length) ⟨0, v54, rfl, hs.sub (.c rfl (.c rfl (.c rfl (.c rfl (.c rfl (.c rfl .n)))))), by omega⟩ ?_
  clear hs w a; rintro mm_ a w ⟨j, p, rfl, hs, hI1_0⟩
  have hll := recsTo_last hI1_0 (recsTo_zero hre (by omega))
  have hrl := rowE_len (l.take j)
  have htl : (l.take j).length ≤ j := by rw [List.length_take]; omega
  have hgl := length_gHeadB t tm b l.length
  refine wp_seq_k fun K61 hK62 => ?_
  refine wp_region_lit ?_
  refine st_lss hs rfl rfl rfl ?_; clear hs w a; intro a w hs
  refine wpList_nil ?_
  refine then_n (hK62 _ _ ?_)
  refine wp_seq_k fun K63 hK64 => ?_
  refine wp_if hs rfl (fun hc65 => ?_) (fun hc65 => ?_)
  ·
   replace hc65 := of_decide_eq_true hc65
   refine wp_skip ?_
   refine then_n (hK64 _ _ ?_)
   refine wp_seq_k fun K66 hK67 => ?_
   refine wp_block ?_
   refine wp_seq_k fun K68 hK69 => ?_
   refine wp_region_lit ?_
   refine st_ia (j := j) hs rfl rfl (hs.rd0 hc) rfl (by omega) Try.underlying66 Try.sizeOf25 rfl ?_; clear hs w a; intro a w hs
   refine st_ldA (cs := recV (l.getD j default)) hs rfl (hs.rd0 hc) (flat_get recV_len l j (by omega)) (by rw [flat_len recV_len]; omega) (by omega) Try.isAgg25 Try.sizeOf25 rfl ?_; clear hs w a; intro a w hs
   refine st_alloc (cs := [.int .i64 (0), .int .i64 (0), .int .i64 (0), .int .i64 (0), .int .i64 (0), .int .i64 (0), .int .i64 (0), .int .i64 (0), .int .u16 (0)]) hs Try.zeroValue25 rfl rfl ?_; clear hs w a; intro g70 a w hs
   refine st_stBA hs rfl rfl .z (.z (.c (.c (.c (.c (.c (.c (.c (.c (.c .n)))))))))) (ones_c rfl (ones_c rfl (ones_c rfl (ones_c rfl (ones_c rfl (ones_c rfl (ones_c rfl (ones_c rfl (ones_c rfl ones_n))))))))) Try.sizeOf25 rfl ?_; clear hs w a; intro a w hs
   refine wpList_nil ?_
   refine then_n (hK69 _ _ ?_)
   refine wp_seq_k fun K71 hK72 => ?_
   refine wp_region_lit ?_
   refine st_run 2 [(94, .int .i64 ((rowE (l.take j)).2)), (93, .agg #[.int .i64 ((l.getD j default).k), .int .i64 ((l.getD j default).id), .int .i64 ((l.getD j default).p0), .int .i64 ((l.getD j default).p1), .int .i64 ((l.getD j default).p2), .int .i64 ((l.getD j default).v0), .int .i64 ((l.getD j default).v1), .int .i64 ((l.getD j default).v2), .int .u16 (((((l.getD j default).a).toNat : Nat) : Int))])] hs (.c (hs.mem.del .z) .n) (by kernel_rfl) (by kernel_rfl) (by kernel_rfl) ?_; clear hs a; intro a hs
   refine st_call hs (.c rfl (.c rfl .n)) Try.call18 .n (write_ok (l.getD j default) ((rowE (l.take j)).2) _ (recs_getD hl (by omega)) (by omega)) rfl ?_; clear hs w a; rintro _ _ a w ⟨v73, rfl, rfl⟩ hs; simp only [List.cons_append, List.nil_append] at hs
   have hk74 := length_recB (l.getD j default) ((rowE (l.take j)).2)
   refine st_run 5 [(17, .int .i64 (((recErr (l.getD j default) ((rowE (l.take j)).2) : Nat) : Int))), (16, v73), (97, .int .i64 (((recErr (l.getD j default) ((rowE (l.take j)).2) : Nat) : Int))), (96, v73), (92, .tuple #[v73, .int .i64 (((recErr (l.getD j default) ((rowE (l.take j)).2) : Nat) : Int))])] hs .n (by kernel_rfl) (by kernel_rfl) (by kernel_rfl) ?_; clear hs a; intro a hs
   refine wpList_nil ?_
   refine then_n (hK72 _ _ ?_)
   refine wp_seq_k fun K75 hK76 => ?_
   refine wp_seq_k fun K77 hK78 => ?_
   refine wp_region_lit ?_
   refine st_run 2 [(99, .bool (!((((recErr (l.getD j default) ((rowE (l.take j)).2) : Nat) : Int) : Int) == 0))), (98, .int .i64 (((recErr (l.getD j default) ((rowE (l.take j)).2) : Nat) : Int)))] hs .n (by kernel_rfl) (by kernel_rfl) (by kernel_rfl) ?_; clear hs a; intro a hs
   have hb_ : (!((((recErr (l.getD j default) ((rowE (l.take j)).2) : Nat) : Int) : Int) == 0)) = false := by rw [show recErr (l.getD j default) (rowE (l.take j)).2 = 0 from recsTo_all hre j (by omega)]; rfl
   rw [hb_] at hs; clear hb_
   refine wpList_nil ?_
   refine then_n (hK78 _ _ ?_)
   refine wp_cond_false (hs.ev rfl) ?_
   refine wp_skip ?_
   refine then_n (hK76 _ _ ?_)
   replace hs := hs.sub (F' := [(99, .bool (false)), (98, .int .i64 (((recErr (l.getD j default) ((rowE (l.take j)).2) : Nat) : Int))), (17, .int .i64 (((recErr (l.getD j default) ((rowE (l.take j)).2) : Nat) : Int))), (16, v73), (97, .int .i64 (((recErr (l.getD j default) ((rowE (l.take j)).2) : Nat) : Int))), (96, v73), (92, .tuple #[v73, .int .i64 (((recErr (l.getD j default) ((rowE (l.take j)).2) : Nat) : Int))]), (95, .tuple #[v73, .int .i64 (((recErr (l.getD j default) ((rowE (l.take j)).2) : Nat) : Int))]), (94, .int .i64 ((rowE (l.take j)).2)), (93, .agg #[.int .i64 ((l.getD j default).k), .int .i64 ((l.getD j default).id), .int .i64 ((l.getD j default).p0), .int .i64 ((l.getD j default).p1), .int .i64 ((l.getD j default).p2), .int .i64 ((l.getD j default).v0), .int .i64 ((l.getD j default).v1), .int .i64 ((l.getD j default).v2), .int .u16 (((((l.getD j default).a).toNat : Nat) : Int))]), (15, .pointer (some ⟨g70, 0, none⟩)), (91, .agg #[.int .i64 ((l.getD j default).k), .int .i64 ((l.getD j default).id), .int .i64 ((l.getD j default).p0), .int .i64 ((l.getD j default).p1), .int .i64 ((l.getD j default).p2), .int .i64 ((l.getD j default).v0), .int .i64 ((l.getD j default).v1), .int .i64 ((l.getD j default).v2), .int .u16 (((((l.getD j default).a).toNat : Nat) : Int))]), (90, .pointer (some (adr u (j * 9)))), (89, .bool (decide ((j : Int) < (((l.length : Nat) : Int))))), (8, v38), (12, p), (86, u), (87, .int .i64 (((l.length : Nat) : Int))), (88, .int .i64 ((j : Int)))]) (.c rfl (.c rfl (.c rfl (.c rfl (.c rfl (.c rfl (.c rfl (.c rfl (.c rfl (.c rfl (.c rfl (.c rfl (.c rfl (.c rfl (.c rfl (.c rfl (.c rfl (.c rfl (.c rfl .n)))))))))))))))))))
   have hs1 := hs
   replace hs := hs.sub (F' := [(99, .bool (false)), (98, .int .i64 (((recErr (l.getD j default) ((rowE (l.take j)).2) : Nat) : Int))), (17, .int .i64 (((recErr (l.getD j default) ((rowE (l.take j)).2) : Nat) : Int))), (16, v73), (97, .int .i64 (((recErr (l.getD j default) ((rowE (l.take j)).2) : Nat) : Int))), (96, v73), (92, .tuple #[v73, .int .i64 (((recErr (l.getD j default) ((rowE (l.take j)).2) : Nat) : Int))]), (95, .tuple #[v73, .int .i64 (((recErr (l.getD j default) ((rowE (l.take j)).2) : Nat) : Int))]), (94, .int .i64 ((rowE (l.take j)).2)), (93, .agg #[.int .i64 ((l.getD j default).k), .int .i64 ((l.getD j default).id), .int .i64 ((l.getD j default).p0), .int .i64 ((l.getD j default).p1), .int .i64 ((l.getD j default).p2), .int .i64 ((l.getD j default).v0), .int .i64 ((l.getD j default).v1), .int .i64 ((l.getD j default).v2), .int .u16 (((((l.getD j default).a).toNat : Nat) : Int))]), (15, .pointer (some ⟨g70, 0, none⟩)), (91, .agg #[.int .i64 ((l.getD j default).k), .int .i64 ((l.getD j default).id), .int .i64 ((l.getD j default).p0), .int .i64 ((l.getD j default).p1), .int .i64 ((l.getD j default).p2), .int .i64 ((l.getD j default).v0), .int .i64 ((l.getD j default).v1), .int .i64 ((l.getD j default).v2), .int .u16 (((((l.getD j default).a).toNat : Nat) : Int))]), (90, .pointer (some (adr u (j * 9)))), (89, .bool (decide ((j : Int) < (((l.length : Nat) : Int))))), (8, v38), (86, u), (87, .int .i64 (((l.length : Nat) : Int))), (88, .int .i64 ((j : Int)))]) (.c rfl (.c rfl (.c rfl (.c rfl (.c rfl (.c rfl (.c rfl (.c rfl (.c rfl (.c rfl (.c rfl (.c rfl (.c rfl (.c rfl (.c rfl (.c rfl (.c rfl (.c rfl .n))))))))))))))))))
   refine wp_drawGw (M0 := [row v73 5 1 ((recB (l.getD j default) ((rowE (l.take j)).2)).length) (bytesV (recB (l.getD j default) ((rowE (l.take j)).2))), blk g70 [.int .i64 ((l.getD j default).k), .int .i64 ((l.getD j default).id), .int .i64 ((l.getD j default).p0), .int .i64 ((l.getD j default).p1), .int .i64 ((l.getD j default).p2), .int .i64 ((l.getD j default).v0), .int .i64 ((l.getD j default).v1), .int .i64 ((l.getD j default).v2), .int .u16 (((((l.getD j default).a).toNat : Nat) : Int))] 25, row v38 5 1 ((bodyB t tm b l).length) (bytesV (bodyB t tm b l))]) (Ds := [Pv 0 p, Pv 1 v73, ⟨[row p 5 1 ((gHeadB t tm b l.length).length + (rowE (l.take j)).1.length) (bytesV (gHeadB t tm b l.length ++ (rowE (l.take j)).1))], [], [], fun vs79 => True, fun vs79 => [row (vs79 2) 5 1 (((gHeadB t tm b l.length).length + (rowE (l.take j)).1.length) + ((recB (l.getD j default) ((rowE (l.take j)).2)).length)) ((bytesV (gHeadB t tm b l.length ++ (rowE (l.take j)).1)) ++ (bytesV (recB (l.getD j default) ((rowE (l.take j)).2))))], none⟩, Pv 3 (.pointer (some ⟨g70, 1, none⟩)), Pv 4 (.int .i64 ((l.getD j default).id)), ⟨[], [], [2], fun vs79 => vs79 5 = (vs79 2), fun vs79 => [], some (p)⟩, Pv 6 (.int .i64 ((l.getD j default).id))]) (by kernel_rfl) hs rfl (.c (.s (.s .z)) .n) (by kernel_rfl) (by kernel_rfl) ?_ (WasL.get (.z rfl (.z rfl (.z rfl (.z rfl (.z rfl (.s rfl rfl rfl (.z rfl .n))))))) hs1) ?_
   all_goals clear hs1
   ·
    refine (.c ?_ (.c ?_ (.c ?_ (.c ?_ (.c ?_ (.c ?_ (.c ?_ .n)))))))
    · exact trip_pv (m := 7) (.o (j := 5) (by kernel_rfl) rfl rfl .n) (fun hm0 hm hx => .n) (by kernel_rfl) (by kernel_rfl) rfl
    · exact trip_pv (m := 7) .n (fun hm0 hm hx => .n) (by kernel_rfl) (by kernel_rfl) rfl
    ·
     intro a_ w_ R_ rest_ vs79 hm hs ht hx
     replace hs : St _ _ _ (feet [row p 5 1 ((gHeadB t tm b l.length).length + (rowE (l.take j)).1.length) (bytesV (gHeadB t tm b l.length ++ (rowE (l.take j)).1))]) [row p 5 1 ((gHeadB t tm b l.length).length + (rowE (l.take j)).1.length) (bytesV (gHeadB t tm b l.length ++ (rowE (l.take j)).1))] _ _ := hs
     have hm0 := hm.mid
     replace hs := hs.lrn (ht 0 (twB_spec 7 _ (by kernel_rfl))) rfl rfl
     replace hs := hs.lrn (ht 1 (twB_spec 7 _ (by kernel_rfl))) rfl rfl
     have hs0 := hs.bare
     refine st_app (size := 1) (bytes := 1) hs rfl rfl .z (rd_row (hm0.del .z)) (oneCell_bytesV _) Try.underlying26 (i := Try.t5) rfl rfl rfl rfl rfl (by decide) (by omega) (by simp only [maxLen]; omega) rfl ?_; clear hs; intro v80 a w hs
     exact wpList_nil ⟨rfl, _, _, hs0, (.c (.c .r)), hs, trivial⟩
    · exact trip_pv (m := 7) .n (fun hm0 hm hx => .n) (by kernel_rfl) (by kernel_rfl) rfl
    · exact trip_pv (m := 7) (.c (k := 3) (by kernel_rfl) rfl rfl .n) (fun hm0 hm hx => (.c (hm0.del (.s .z)))) (by kernel_rfl) (by kernel_rfl) rfl
    ·
     intro a_ w_ R_ rest_ vs79 hm hs ht hx
     have hm0 := hm.mid
     have t2 := ht 2 (twB_spec 7 _ (by kernel_rfl))
     have e2 : _ = some (vs79 2) := t2.val rfl
     replace hs := hs.learn e2
     have hs0 := hs.bare
     refine st_as hs rfl rfl ?_; clear hs; intro a w hs
     exact wpList_nil ⟨rfl, _, _, hs0, (.c .r), hs, rfl⟩
    exact trip_pv (m := 7) (.c (k := 4) (by kernel_rfl) rfl rfl .n) (fun hm0 hm hx => .n) (by kernel_rfl) (by kernel_rfl) rfl
   clear hs w a; intro a w vs79 hs hf
   replace hs : St _ _ _ _ [row v73 5 1 ((recB (l.getD j default) ((rowE (l.take j)).2)).length) (bytesV (recB (l.getD j default) ((rowE (l.take j)).2))), blk g70 [.int .i64 ((l.getD j default).k), .int .i64 ((l.getD j default).id), .int .i64 ((l.getD j default).p0), .int .i64 ((l.getD j default).p1), .int .i64 ((l.getD j default).p2), .int .i64 ((l.getD j default).v0), .int .i64 ((l.getD j default).v1), .int .i64 ((l.getD j default).v2), .int .u16 (((((l.getD j default).a).toNat : Nat) : Int))] 25, row v38 5 1 ((bodyB t tm b l).length) (bytesV (bodyB t tm b l)), row (vs79 2) 5 1 (((gHeadB t tm b l.length).length + (rowE (l.take j)).1.length) + ((recB (l.getD j default) ((rowE (l.take j)).2)).length)) ((bytesV (gHeadB t tm b l.length ++ (rowE (l.take j)).1)) ++ (bytesV (recB (l.getD j default) ((rowE (l.take j)).2))))] _ _ := hs
   obtain ⟨e5, q5⟩ := hf 5 (by decide)
   replace e5 : _ = some (vs79 5) := e5.val rfl
   rw [show vs79 5 = (vs79 2) from q5] at e5
   replace hs := hs.learn e5; clear e5 q5
   obtain ⟨e6, q6⟩ := hf 6 (by decide)
   replace e6 : _ = some (vs79 6) := e6.val rfl
   rw [show vs79 6 = .int .i64 ((l.getD j default).id) from q6] at e6
   replace hs := hs.learn e6; clear e6 q6
   generalize vs79 2 = v81 at hs
   clear hf
   refine in_n ?_
   refine then_n (hK67 _ _ ?_)
   refine wp_region_lit ?_
   refine st_addR hs rfl rfl (by omega) rfl ?_; clear hs w a; intro a w hs
   refine st_mv hs rfl rfl ?_; clear hs w a; intro a w hs
   refine wpList_nil ?_
   refine then_n ?_
   replace hs := hs.rerow (.s (.s (.s .z))) (m' := (gHeadB t tm b l.length).length + (rowE (l.take (j + 1))).1.length) (xs' := bytesV (gHeadB t tm b l.length ++ (rowE (l.take (j + 1))).1)) (by rw [rowE_next (by omega)]; simp only [List.length_append]; omega) (by rw [rowE_next (by omega)]; simp [bytesV])
   replace hs := hs.reslot (d := 13) (v := .int .i64 ((l.getD j default).id)) (v' := .int .i64 ((rowE (l.take (j + 1))).2)) rfl (Option.some.inj (by rw [rowE_next (by omega)]))
   replace hs := hs.drop (.c (.s (.s .z)) (.c (.s .z) .n))
   refine ⟨_, ?_, j + 1, v81, rfl, hs.sub (.c rfl (.c rfl (.c rfl (.c rfl (.c rfl (.c rfl .n)))))), by omega⟩
   omega
  replace hc65 := of_decide_eq_false hc65
  refine wp_exit ?_
  refine th_e ?_
  refine th_e ?_
  refine in_hit ?_
  refine then_n (hK58 _ _ ?_)
  refine wp_seq_k fun K82 hK83 => ?_
  refine wp_region_lit ?_
  refine st_mv hs rfl rfl ?_; clear hs w a; intro a w hs
  refine st_str (bs := (bodyB t tm b l)) hs rfl (rd_row (hs.mem.del (.s .z))) Try.underlying26 Try.underlying5 Try.underlying9 rfl ?_; clear hs w a; intro a w hs
  refine st_mv hs rfl rfl ?_; clear hs w a; intro a w hs
  refine st_str (bs := (gHeadB t tm b l.length ++ (rowE (l.take j)).1)) hs rfl (rd_row (hs.mem.del .z)) Try.underlying26 Try.underlying5 Try.underlying9 rfl ?_; clear hs w a; intro a w hs
  refine st_eqs (p := strB (bodyB t tm b l)) (q := strB ((gHeadB t tm b l.length ++ (rowE (l.take j)).1))) hs rfl rfl rfl ?_; clear hs w a; intro a w hs
  have hb_ : ((strB (bodyB t tm b l)).toList == (strB ((gHeadB t tm b l.length ++ (rowE (l.take j)).1))).toList) = true := by rw [show l.take j = l from List.take_of_length_le (by omega), ← bodyB_ok hbe]; exact beq_self_eq_true _
  rw [hb_] at hs; clear hb_
  refine st_as hs rfl rfl ?_; clear hs w a; intro a w hs
  refine wpList_nil ?_
  refine then_n (hK83 _ _ ?_)
  refine wp_ret ?_
  replace hs := hs.drop (.c (.s .z) (.c .z .n))
  exact fin hs rfl rfl (by first | exact ⟨rfl, rfl⟩ | (exfalso; omega))
end Go.Proofs.Ytkobgcoegajfcaa
