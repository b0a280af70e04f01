/- Walks of GramBack: what each function does, over the program of this seat. Printed by a program of this session. -/
import Derived.Test.YtkobgcoegajfcaaWgram
import Derived.Test.YtkobgcoegajfcaaWgramS
import Derived.Test.YtkobgcoegajfcaaWgramV
import Derived.Test.YtkobgcoegajfcaaSxPgramF
namespace Go.Proofs.Ytkobgcoegajfcaa
open Go Go.Sx Go.RowKit
set_option linter.unusedVariables false
set_option linter.unusedSimpArgs false
set_option maxRecDepth 4000
set_option maxHeartbeats 1000000

theorem gramBack_ok (t tm b : Int) (u : Value) (l : List RecR) (w0 : World) (ht_ : -9223372036854775808 ≤ t ∧ t ≤ 9223372036854775807) (htm_ : -9223372036854775808 ≤ tm ∧ tm ≤ 9223372036854775807) (hb_ : -9223372036854775808 ≤ b ∧ b ≤ 9223372036854775807) (hc : Rd w0 [] u 9 l.length (l.flatMap recV)) (hl : ∀ x ∈ l, x.wf) (at_ : Int) : Calls Try.prog 15 #[.agg #[.int .i64 t, .int .i64 tm, .int .i64 b, u], .int .i64 at_] w0 (RetV w0 (.bool true)) := by
  have hce := hc.le
  simp only [maxLen] at hce
  refine enter (F0 := [(0, .agg #[.int .i64 (t), .int .i64 (tm), .int .i64 (b), u]), (1, .int .i64 (at_))]) Try.func15 rfl rfl rfl (.c (.c .n)) (Mem.nil _) fun a w hs => ?_
  refine wp_seq_k fun K1 hK2 => ?_
  refine wp_region_lit ?_
  refine st_box (cs := [.int .i64 (t), .int .i64 (tm), .int .i64 (b), u]) hs rfl rfl rfl ?_; clear hs w a; intro g3 a w hs
  refine st_as hs rfl rfl ?_; clear hs w a; intro a w hs
  refine wpList_nil ?_
  refine then_n (hK2 _ _ ?_)
  refine wp_seq_k fun K4 hK5 => ?_
  refine wp_seq_k fun K6 hK7 => ?_
  refine wp_region_lit ?_
  refine st_run 2 [(16, u)] hs (.c (hs.mem.del .z) .n) (by kernel_rfl) (by kernel_rfl) (by kernel_rfl) ?_; clear hs a; intro a hs
  refine st_len hs rfl (hs.rd0 hc).isSl Try.underlying66 rfl ?_; clear hs w a; intro a w hs
  refine st_gtr hs rfl rfl rfl ?_; clear hs w a; intro a w hs
  refine wpList_nil ?_
  refine then_n (hK7 _ _ ?_)
  refine wp_if hs rfl (fun hc8 => ?_) (fun hc8 => ?_)
  ·
   replace hc8 := of_decide_eq_true hc8
   refine wp_seq_k fun K9 hK10 => ?_
   refine wp_region_lit ?_
   refine st_callP (v := .bool (true)) hs .n Try.call35 (alive09_ok _) rfl ?_; clear hs w a; intro a w hs
   refine st_as hs rfl rfl ?_; clear hs w a; intro a w hs
   refine wpList_nil ?_
   refine then_n (hK10 _ _ ?_)
   refine wp_ret ?_
   refine th_r ?_
   replace hs := hs.drop (.c .z .n)
   exact fin hs rfl rfl ⟨rfl, rfl⟩
  replace hc8 := of_decide_eq_false hc8
  refine wp_skip ?_
  refine then_n (hK5 _ _ ?_)
  refine wp_seq_k fun K11 hK12 => ?_
  refine wp_region_lit ?_
  refine st_ldBA hs rfl .z (.z (.c (.c (.c (.c .n))))) Try.isAgg69 Try.sizeOf69 rfl ?_; clear hs w a; intro a w hs
  refine st_call hs (.c rfl .n) Try.call36 .n (gwrite_ok t tm b _ l _ (by omega) (by omega) (by omega) (hs.rd0 hc) hl) rfl ?_; clear hs w a; rintro _ _ a w ⟨v13, rfl, rfl⟩ hs; simp only [List.cons_append, List.nil_append] at hs
  have hk14 := length_gwB t tm b l
  refine st_run 5 [(6, .int .i64 (((gwErr t tm b l : Nat) : Int))), (5, v13)] hs .n (by kernel_rfl) (by kernel_rfl) (by kernel_rfl) ?_; clear hs a; intro a hs
  refine wpList_nil ?_
  refine then_n (hK12 _ _ ?_)
  refine wp_seq_k fun K15 hK16 => ?_
  refine wp_seq_k fun K17 hK18 => ?_
  refine wp_region_lit ?_
  refine st_run 3 [(27, .bool (!((((gwErr t tm b l : Nat) : Int) : Int) == 0)))] hs .n (by kernel_rfl) (by kernel_rfl) (by kernel_rfl) ?_; clear hs a; intro a hs
  refine st_part (b := !((((gwErr t tm b l : Nat) : Int) : Int) == 0)) (fun hc19 => ?_) (fun hc19 => ?_)
  ·
   rw [hc19] at hs
   replace hc19 := not_t hc19
   replace hc19 := ne_of_beq_f hc19
   refine st_run 4 [(31, .bool (true))] hs .n (by kernel_rfl) (by kernel_rfl) (by kernel_rfl) ?_; clear hs a; intro a hs
   refine wpList_nil ?_
   refine then_n (hK18 _ _ ?_)
   refine wp_cond_true (hs.ev rfl) ?_
   refine wp_seq_k fun K20 hK21 => ?_
   refine wp_region_lit ?_
   refine st_callP (v := .bool (true)) hs .n Try.call35 (alive09_ok _) rfl ?_; clear hs w a; intro a w hs
   refine st_run 3 [(35, .bool (!((((gwErr t tm b l : Nat) : Int) : Int) == 0))), (33, .bool (true))] hs .n (by kernel_rfl) (by kernel_rfl) (by kernel_rfl) ?_; clear hs a; intro a hs
   have hb_ : (!((((gwErr t tm b l : Nat) : Int) : Int) == 0)) = true := by rw [Bool.not_eq_true']; exact beq_eq_false_iff_ne.2 (by omega)
   rw [hb_] at hs; clear hb_
   refine st_run 3 [(38, v13), (37, .bool (true))] hs .n (by kernel_rfl) (by kernel_rfl) (by kernel_rfl) ?_; clear hs a; intro a hs
   refine st_guardT hs rfl rfl rfl ?_
   refine st_len hs rfl (rd_row (hs.mem.del .z)).isSl Try.underlying26 rfl ?_; clear hs w a; intro a w hs
   refine st_guardT hs rfl rfl rfl ?_
   refine st_eql hs rfl rfl rfl ?_; clear hs w a; intro a w hs
   have hb_ : (((((gwB t tm b l).length : Nat) : Int) : Int) == 0) = true := by rw [gwB, if_pos (by omega)]; rfl
   rw [hb_] at hs; clear hb_
   refine st_run 2 [(4, .bool (true))] hs .n (by kernel_rfl) (by kernel_rfl) (by kernel_rfl) ?_; clear hs a; intro a hs
   refine wpList_nil ?_
   refine then_n (hK21 _ _ ?_)
   refine wp_ret ?_
   refine th_r ?_
   replace hs := hs.drop (.c (.s .z) (.c .z .n))
   exact fin hs rfl rfl ⟨rfl, rfl⟩
  rw [hc19] at hs
  replace hc19 := not_f hc19
  replace hc19 := eq_of_beq hc19
  refine st_guardT hs rfl rfl rfl ?_
  refine st_mv hs rfl rfl ?_; clear hs w a; intro a w hs
  refine st_guardT hs rfl rfl rfl ?_
  refine st_len hs rfl (rd_row (hs.mem.del .z)).isSl Try.underlying26 rfl ?_; clear hs w a; intro a w hs
  refine st_guardT hs rfl rfl rfl ?_
  refine st_lss hs rfl rfl rfl ?_; clear hs w a; intro a w hs
  have hb_ : (decide (((((gwB t tm b l).length : Nat) : Int)) < 10)) = false := decide_eq_false (by have := gw_long (t := t) (tm := tm) (b := b) (l := l) (by omega); omega)
  rw [hb_] at hs; clear hb_
  refine st_pickF hs rfl rfl rfl ?_; clear hs w a; intro a w hs
  refine wpList_nil ?_
  refine then_n (hK18 _ _ ?_)
  refine wp_cond_false (hs.ev rfl) ?_
  refine wp_skip ?_
  refine then_n (hK16 _ _ ?_)
  refine wp_seq_k fun K22 hK23 => ?_
  refine wp_region_lit ?_
  refine st_mv hs rfl rfl ?_; clear hs w a; intro a w hs
  have hw0 : gwErr t tm b l = 0 := by omega
  have hF := gread_forth hl hw0
  have hSh := gread_short hl hw0
  have hXl := gw_long hw0
  have hXm := length_gwB t tm b l
  refine st_call hs (.c rfl .n) Try.call41 .n (gread_ok _ _ (gwB t tm b l) _ (rd_row (hs.mem.del .z))) rfl ?_; clear hs w a; rintro _ _ a w ⟨v24, rfl, rfl⟩ hs; simp only [List.cons_append, List.nil_append] at hs
  have hk25 := gRead_le (gwB t tm b l)
  replace hs := hs.recell (v' := .tuple #[.agg #[.int .i64 (t), .int .i64 (tm), .int .i64 (b), v24], .int .i64 (0)]) (Option.some.inj (by rw [hF]; first | done | rfl))
  replace hs := hs.rerow .z (m' := l.length) (xs' := (l.flatMap recV)) (by rw [hF]) (by rw [hF])
  refine st_run 3 [(46, .int .i64 (0)), (45, .agg #[.int .i64 (t), .int .i64 (tm), .int .i64 (b), v24])] hs .n (by kernel_rfl) (by kernel_rfl) (by kernel_rfl) ?_; clear hs a; intro a hs
  refine st_alloc (cs := [.int .i64 (0), .int .i64 (0), .int .i64 (0), .slice none 0 0]) hs Try.zeroValue69 rfl rfl ?_; clear hs w a; intro g26 a w hs
  refine st_stBA hs rfl rfl .z (.z (.c (.c (.c (.c .n))))) (ones_c rfl (ones_c rfl (ones_c rfl (ones_c (rd_row (hs.mem.del (.s .z))).isSl.one ones_n)))) Try.sizeOf69 rfl ?_; clear hs w a; intro a w hs
  refine st_as hs rfl rfl ?_; clear hs w a; intro a w hs
  refine wpList_nil ?_
  refine then_n (hK23 _ _ ?_)
  refine wp_seq_k fun K27 hK28 => ?_
  refine wp_seq_k fun K29 hK30 => ?_
  refine wp_region_lit ?_
  refine st_run 2 [(48, .bool (false))] hs .n (by kernel_rfl) (by kernel_rfl) (by kernel_rfl) ?_; clear hs a; intro a hs
  refine st_run 3 [(51, .agg #[.int .i64 (t), .int .i64 (tm), .int .i64 (b), v24]), (50, .agg #[.int .i64 (t), .int .i64 (tm), .int .i64 (b), u]), (49, .bool (false))] hs (.c (hs.mem.del (.s (.s (.s .z)))) (.c (hs.mem.del .z) .n)) (by kernel_rfl) (by kernel_rfl) (by kernel_rfl) ?_; clear hs a; intro a hs
  refine st_guardT hs rfl rfl rfl ?_
  refine st_callP (v := .bool (true)) hs (.c rfl (.c rfl .n)) Try.call44 (gsame_ok _ _ _ _ _ l _ (hs.rd0 hc) (rd_row (hs.mem.del (.s .z)))) rfl ?_; clear hs w a; intro a w hs
  refine st_run 2 [(54, .bool (false))] hs .n (by kernel_rfl) (by kernel_rfl) (by kernel_rfl) ?_; clear hs a; intro a hs
  refine wpList_nil ?_
  refine then_n (hK30 _ _ ?_)
  refine wp_cond_false (hs.ev rfl) ?_
  refine wp_skip ?_
  refine then_n (hK28 _ _ ?_)
  refine wp_seq_k fun K31 hK32 => ?_
  refine wp_region_lit ?_
  refine st_mv hs rfl rfl ?_; clear hs w a; intro a w hs
  refine st_cv_u64 hs rfl Try.underlying3 Try.underlying62 rfl ?_; clear hs w a; intro a w hs
  refine st_mv hs rfl rfl ?_; clear hs w a; intro a w hs
  refine st_len hs rfl (rd_row (hs.mem.del (.s (.s .z)))).isSl Try.underlying26 rfl ?_; clear hs w a; intro a w hs
  refine st_mulR hs rfl rfl (by omega) rfl ?_; clear hs w a; intro a w hs
  have hv_ : (8 * ((((gwB t tm b l).length : Nat) : Int)) : Int) = (((8 * (gwB t tm b l).length : Nat) : Int) : Int) := by omega
  rw [hv_] at hs; clear hv_
  refine st_cv_u64 hs rfl Try.underlying3 Try.underlying62 rfl ?_; clear hs w a; intro a w hs
  refine st_rem_u64 (X := BitVec.ofInt 64 at_) (Y := BitVec.ofInt 64 (((8 * (gwB t tm b l).length : Nat) : Int))) hs rfl rfl rfl rfl (ofInt_ne _ (by omega) (by omega)) rfl ?_; clear hs w a; intro a w hs
  refine st_cv_u64_i64 (X := (BitVec.ofInt 64 at_) % (BitVec.ofInt 64 (((8 * (gwB t tm b l).length : Nat) : Int)))) hs rfl rfl Try.underlying62 Try.underlying3 rfl ?_; clear hs w a; intro a w hs
  obtain ⟨kk, hkb, hkk⟩ := idx_mod (BitVec.ofInt 64 at_) (8 * (gwB t tm b l).length) (by omega) (by omega)
  rw [hkk] at hs; clear hkk
  refine st_as hs rfl rfl ?_; clear hs w a; intro a w hs
  refine wpList_nil ?_
  refine then_n (hK32 _ _ ?_)
  refine wp_seq_k fun K33 hK34 => ?_
  refine wp_region_lit ?_
  refine st_bs0 hs Try.underlying26 rfl ?_ ⟨_, Try.sizeOf5⟩; clear hs w a; intro g35 a w hs
  refine st_mv hs rfl rfl ?_; clear hs w a; intro a w hs
  replace hs := hs.toRow (size := 1) (m := 0) .z rfl (by decide)
  refine st_app (size := 1) (bytes := 1) hs rfl rfl .z (rd_row (hs.mem.del (.s (.s (.s .z))))) (oneCell_bytesV _) Try.underlying26 (i := Try.t5) rfl rfl rfl rfl rfl (by decide) (by omega) (by simp only [maxLen]; omega) rfl ?_; clear hs w a; intro v36 a w hs
  replace hs := hs.rerow .z (m' := (gwB t tm b l).length) (xs' := bytesV (gwB t tm b l)) (by omega) (by rw [List.nil_append])
  refine st_as hs rfl rfl ?_; clear hs w a; intro a w hs
  refine wpList_nil ?_
  refine then_n (hK34 _ _ ?_)
  refine wp_seq_k fun K37 hK38 => ?_
  replace hs := hs.sub (F' := [(10, v36), (9, .int .i64 ((kk : Int))), (5, v13), (4, .bool (false))]) (.c rfl (.c rfl (.c rfl (.c rfl .n))))
  refine wp_drawG (M0 := [blk g26 [.int .i64 (t), .int .i64 (tm), .int .i64 (b), v24] 69, row v24 25 9 l.length (l.flatMap recV), row v13 5 1 ((gwB t tm b l).length) (bytesV (gwB t tm b l)), blk g3 [.int .i64 (t), .int .i64 (tm), .int .i64 (b), u] 69]) (Ds := [Pv 0 v36, Pv 1 (.int .i64 ((kk : Int))), Pv 2 (.int .i64 (((kk / 8 : Nat) : Int))), Pv 3 (.pointer (some (adr v36 (kk / 8)))), Pv 4 (.int .u8 (((((gwB t tm b l).getD (kk / 8) 0).toNat : Nat) : Int))), Pv 5 (.int .i64 ((kk : Int))), Pv 6 (.int .i64 (((kk % 8 : Nat) : Int))), Pv 7 (.int .u8 (((((1#8) <<< (kk % 8)).toNat : Nat) : Int))), Pv 8 (.int .u8 ((((((gwB t tm b l).getD (kk / 8) 0) ^^^ ((1#8) <<< (kk % 8))).toNat : Nat) : Int))), Pv 9 (.pointer (some (adr v36 (kk / 8)))), ⟨[row v36 5 1 ((gwB t tm b l).length) (bytesV (gwB t tm b l))], [], [], fun vs39 => True, fun vs39 => [row v36 5 1 ((gwB t tm b l).length) (bytesV ((gwB t tm b l).set (kk / 8) (((gwB t tm b l).getD (kk / 8) 0) ^^^ ((1#8) <<< (kk % 8)))))], none⟩]) (by kernel_rfl) hs rfl (.c .z .n) (by kernel_rfl) (by kernel_rfl) (by kernel_rfl) ?_ ?_
  ·
   refine (.c ?_ (.c ?_ (.c ?_ (.c ?_ (.c ?_ (.c ?_ (.c ?_ (.c ?_ (.c ?_ (.c ?_ (.c ?_ .n)))))))))))
   · exact trip_pv (m := 11) .n (fun hm0 hm hx => .n) (by kernel_rfl) (by kernel_rfl) rfl
   · exact trip_pv (m := 11) .n (fun hm0 hm hx => .n) (by kernel_rfl) (by kernel_rfl) rfl
   ·
    intro a_ w_ R_ rest_ vs39 hm hs ht hx
    have hm0 := hm.mid
    replace hs := hs.lrn (ht 1 (twB_spec 11 _ (by kernel_rfl))) rfl rfl
    have hs0 := hs.bare
    refine st_quoN hs rfl rfl (by omega) rfl ?_; clear hs; intro a w hs
    have hv_ : ((kk : Int) / 8 : Int) = (((kk / 8 : Nat) : Int) : Int) := by omega
    rw [hv_] at hs; clear hv_
    exact wpList_nil ⟨rfl, _, _, hs0, (.c .r), hs, rfl⟩
   ·
    intro a_ w_ R_ rest_ vs39 hm hs ht hx
    have hm0 := hm.mid
    replace hs := hs.lrn (ht 0 (twB_spec 11 _ (by kernel_rfl))) rfl rfl
    replace hs := hs.lrn (ht 2 (twB_spec 11 _ (by kernel_rfl))) rfl rfl
    have hs0 := hs.bare
    refine st_ia1 (j := (kk / 8)) hs rfl rfl (rd_row (hm.own (List.mem_append.2 (.inr ((hx 10 (twB_spec 11 _ (by kernel_rfl))).1 _ (List.Mem.head _)))))) rfl (by omega) Try.underlying26 Try.sizeOf5 rfl ?_; clear hs; intro a w hs
    exact wpList_nil ⟨rfl, _, _, hs0, (.c (.c .r)), hs, rfl⟩
   ·
    intro a_ w_ R_ rest_ vs39 hm hs ht hx
    have hm0 := hm.mid
    replace hs := hs.lrn (ht 3 (twB_spec 11 _ (by kernel_rfl))) rfl rfl
    have hs0 := hs.bare
    refine st_ld hs rfl (rd_row (hm.own (List.mem_append.2 (.inr ((hx 10 (twB_spec 11 _ (by kernel_rfl))).1 _ (List.Mem.head _)))))) (bytesV_getD (gwB t tm b l) (by first | omega | (simp; omega))) Try.isAgg5 rfl ?_; clear hs; intro a w hs
    exact wpList_nil ⟨rfl, _, _, hs0, (.c .r), hs, rfl⟩
   · exact trip_pv (m := 11) .n (fun hm0 hm hx => .n) (by kernel_rfl) (by kernel_rfl) rfl
   ·
    intro a_ w_ R_ rest_ vs39 hm hs ht hx
    have hm0 := hm.mid
    replace hs := hs.lrn (ht 5 (twB_spec 11 _ (by kernel_rfl))) rfl rfl
    have hs0 := hs.bare
    refine st_remN hs rfl rfl (by omega) rfl ?_; clear hs; intro a w hs
    have hv_ : ((kk : Int) % 8 : Int) = (((kk % 8 : Nat) : Int) : Int) := by omega
    rw [hv_] at hs; clear hv_
    exact wpList_nil ⟨rfl, _, _, hs0, (.c .r), hs, rfl⟩
   ·
    intro a_ w_ R_ rest_ vs39 hm hs ht hx
    have hm0 := hm.mid
    replace hs := hs.lrn (ht 6 (twB_spec 11 _ (by kernel_rfl))) rfl rfl
    have hs0 := hs.bare
    refine st_shl_u8 (X := 1#8) (m := (kk % 8)) hs rfl (by decide) rfl rfl rfl ?_; clear hs; intro a w hs
    exact wpList_nil ⟨rfl, _, _, hs0, (.c .r), hs, rfl⟩
   ·
    intro a_ w_ R_ rest_ vs39 hm hs ht hx
    have hm0 := hm.mid
    replace hs := hs.lrn (ht 4 (twB_spec 11 _ (by kernel_rfl))) rfl rfl
    replace hs := hs.lrn (ht 7 (twB_spec 11 _ (by kernel_rfl))) rfl rfl
    have hs0 := hs.bare
    refine st_xor_u8 (X := (gwB t tm b l).getD (kk / 8) 0) (Y := (1#8) <<< (kk % 8)) hs rfl rfl rfl rfl rfl ?_; clear hs; intro a w hs
    exact wpList_nil ⟨rfl, _, _, hs0, (.c (.c .r)), hs, rfl⟩
   ·
    intro a_ w_ R_ rest_ vs39 hm hs ht hx
    have hm0 := hm.mid
    replace hs := hs.lrn (ht 0 (twB_spec 11 _ (by kernel_rfl))) rfl rfl
    replace hs := hs.lrn (ht 2 (twB_spec 11 _ (by kernel_rfl))) rfl rfl
    have hs0 := hs.bare
    refine st_ia1 (j := (kk / 8)) hs rfl rfl (rd_row (hm.own (List.mem_append.2 (.inr ((hx 10 (twB_spec 11 _ (by kernel_rfl))).1 _ (List.Mem.head _)))))) rfl (by omega) Try.underlying26 Try.sizeOf5 rfl ?_; clear hs; intro a w hs
    exact wpList_nil ⟨rfl, _, _, hs0, (.c (.c .r)), hs, rfl⟩
   intro a_ w_ R_ rest_ vs39 hm hs ht hx
   replace hs : St _ _ _ (feet [row v36 5 1 ((gwB t tm b l).length) (bytesV (gwB t tm b l))]) [row v36 5 1 ((gwB t tm b l).length) (bytesV (gwB t tm b l))] _ _ := hs
   have hm0 := hm.mid
   replace hs := hs.lrn (ht 8 (twB_spec 11 _ (by kernel_rfl))) rfl rfl
   replace hs := hs.lrn (ht 9 (twB_spec 11 _ (by kernel_rfl))) rfl rfl
   have hs0 := hs.bare
   refine st_stR hs rfl rfl .z (by omega) rfl Try.sizeOf5 ?_; clear hs; intro a w hs
   replace hs := hs.rerow .z (m' := (gwB t tm b l).length) (xs' := bytesV ((gwB t tm b l).set (kk / 8) (((gwB t tm b l).getD (kk / 8) 0) ^^^ ((1#8) <<< (kk % 8))))) (rfl) ((bytesV_set _ _ _).symm)
   exact wpList_nil ⟨rfl, .tuple #[], _, hs0, (.c (.c .r)), hs, trivial⟩
  clear hs w a; intro a w vs39 hs hf
  replace hs : St _ _ _ _ [blk g26 [.int .i64 (t), .int .i64 (tm), .int .i64 (b), v24] 69, row v24 25 9 l.length (l.flatMap recV), row v13 5 1 ((gwB t tm b l).length) (bytesV (gwB t tm b l)), blk g3 [.int .i64 (t), .int .i64 (tm), .int .i64 (b), u] 69, row v36 5 1 ((gwB t tm b l).length) (bytesV ((gwB t tm b l).set (kk / 8) (((gwB t tm b l).getD (kk / 8) 0) ^^^ ((1#8) <<< (kk % 8)))))] _ _ := hs
  clear hf
  refine then_n (hK38 _ _ ?_)
  refine wp_seq_k fun K40 hK41 => ?_
  refine wp_region_lit ?_
  refine st_mv hs rfl rfl ?_; clear hs w a; intro a w hs
  refine st_call hs (.c rfl .n) Try.call41 .n (gread_ok _ _ (((gwB t tm b l).set (kk / 8) (((gwB t tm b l).getD (kk / 8) 0) ^^^ ((1#8) <<< (kk % 8))))) _ (rd_row (hs.mem.del (.s (.s (.s (.s .z))))))) rfl ?_; clear hs w a; rintro _ _ a w ⟨v42, rfl, rfl⟩ hs; simp only [List.cons_append, List.nil_append] at hs
  have hk43 := gRead_le (((gwB t tm b l).set (kk / 8) (((gwB t tm b l).getD (kk / 8) 0) ^^^ ((1#8) <<< (kk % 8)))))
  refine st_run 3 [(80, .int .i64 ((((gRead (((gwB t tm b l).set (kk / 8) (((gwB t tm b l).getD (kk / 8) 0) ^^^ ((1#8) <<< (kk % 8)))))).e : Nat) : Int))), (79, .agg #[.int .i64 ((gRead (((gwB t tm b l).set (kk / 8) (((gwB t tm b l).getD (kk / 8) 0) ^^^ ((1#8) <<< (kk % 8)))))).t), .int .i64 ((gRead (((gwB t tm b l).set (kk / 8) (((gwB t tm b l).getD (kk / 8) 0) ^^^ ((1#8) <<< (kk % 8)))))).tm), .int .i64 ((gRead (((gwB t tm b l).set (kk / 8) (((gwB t tm b l).getD (kk / 8) 0) ^^^ ((1#8) <<< (kk % 8)))))).b), v42])] hs .n (by kernel_rfl) (by kernel_rfl) (by kernel_rfl) ?_; clear hs a; intro a hs
  refine st_alloc (cs := [.int .i64 (0), .int .i64 (0), .int .i64 (0), .slice none 0 0]) hs Try.zeroValue69 rfl rfl ?_; clear hs w a; intro g44 a w hs
  refine st_stBA hs rfl rfl .z (.z (.c (.c (.c (.c .n))))) (ones_c rfl (ones_c rfl (ones_c rfl (ones_c (rd_row (hs.mem.del (.s .z))).isSl.one ones_n)))) Try.sizeOf69 rfl ?_; clear hs w a; intro a w hs
  refine st_as hs rfl rfl ?_; clear hs w a; intro a w hs
  refine wpList_nil ?_
  refine then_n (hK41 _ _ ?_)
  refine wp_seq_k fun K45 hK46 => ?_
  refine wp_region_lit ?_
  refine st_run 2 [(83, v13), (82, v13)] hs .n (by kernel_rfl) (by kernel_rfl) (by kernel_rfl) ?_; clear hs a; intro a hs
  refine st_len hs rfl (rd_row (hs.mem.del (.s (.s (.s (.s .z)))))).isSl Try.underlying26 rfl ?_; clear hs w a; intro a w hs
  refine st_subR hs rfl rfl (by omega) rfl ?_; clear hs w a; intro a w hs
  have hv_ : (((((gwB t tm b l).length : Nat) : Int)) - 1 : Int) = ((((gwB t tm b l).length - 1 : Nat) : Int) : Int) := by omega
  rw [hv_] at hs; clear hv_
  refine st_slcH (j := ((gwB t tm b l).length - 1)) hs rfl rfl rfl (rd_row (hs.mem.del (.s (.s (.s (.s .z)))))) (by omega) Try.underlying26 Try.sizeOf5 rfl ?_; clear hs w a; intro a w hs
  refine st_call hs (.c rfl .n) Try.call41 .n (gread_ok _ _ (((gwB t tm b l).take (((gwB t tm b l).length - 1)))) _ ((rd_row (hs.mem.del (.s (.s (.s (.s .z)))))).slcT (h := (((gwB t tm b l).length - 1))) (by omega))) rfl ?_; clear hs w a; rintro _ _ a w ⟨v47, rfl, rfl⟩ hs; simp only [List.cons_append, List.nil_append] at hs
  have hk48 := gRead_le (((gwB t tm b l).take (((gwB t tm b l).length - 1))))
  refine st_run 3 [(89, .int .i64 ((((gRead (((gwB t tm b l).take (((gwB t tm b l).length - 1))))).e : Nat) : Int))), (88, .agg #[.int .i64 ((gRead (((gwB t tm b l).take (((gwB t tm b l).length - 1))))).t), .int .i64 ((gRead (((gwB t tm b l).take (((gwB t tm b l).length - 1))))).tm), .int .i64 ((gRead (((gwB t tm b l).take (((gwB t tm b l).length - 1))))).b), v47])] hs .n (by kernel_rfl) (by kernel_rfl) (by kernel_rfl) ?_; clear hs a; intro a hs
  refine st_alloc (cs := [.int .i64 (0), .int .i64 (0), .int .i64 (0), .slice none 0 0]) hs Try.zeroValue69 rfl rfl ?_; clear hs w a; intro g49 a w hs
  refine st_stBA hs rfl rfl .z (.z (.c (.c (.c (.c .n))))) (ones_c rfl (ones_c rfl (ones_c rfl (ones_c (rd_row (hs.mem.del (.s .z))).isSl.one ones_n)))) Try.sizeOf69 rfl ?_; clear hs w a; intro a w hs
  refine st_as hs rfl rfl ?_; clear hs w a; intro a w hs
  refine wpList_nil ?_
  refine then_n (hK46 _ _ ?_)
  refine wp_seq_k fun K50 hK51 => ?_
  refine wp_region_lit ?_
  refine st_callP (v := .bool (true)) hs .n Try.call35 (alive09_ok _) rfl ?_; clear hs w a; intro a w hs
  refine st_run 3 [(93, .bool (((((gRead (((gwB t tm b l).set (kk / 8) (((gwB t tm b l).getD (kk / 8) 0) ^^^ ((1#8) <<< (kk % 8)))))).e : Nat) : Int) : Int) == 9)), (91, .bool (true))] hs .n (by kernel_rfl) (by kernel_rfl) (by kernel_rfl) ?_; clear hs a; intro a hs
  have hb_ : (((((gRead (((gwB t tm b l).set (kk / 8) (((gwB t tm b l).getD (kk / 8) 0) ^^^ ((1#8) <<< (kk % 8)))))).e : Nat) : Int) : Int) == 9) = true := by rw [gread_turned hw0 (kk / 8) _ (by omega) (bit_ne _ (by omega))]; rfl
  rw [hb_] at hs; clear hb_
  refine st_run 4 [(97, .bool (!(((((gRead (((gwB t tm b l).take (((gwB t tm b l).length - 1))))).e : Nat) : Int) : Int) == 0))), (95, .bool (true))] hs .n (by kernel_rfl) (by kernel_rfl) (by kernel_rfl) ?_; clear hs a; intro a hs
  have hb_ : (!(((((gRead (((gwB t tm b l).take (((gwB t tm b l).length - 1))))).e : Nat) : Int) : Int) == 0)) = true := by rw [Bool.not_eq_true']; exact beq_eq_false_iff_ne.2 (by omega)
  rw [hb_] at hs; clear hb_
  refine st_run 3 [(100, v13), (99, .bool (true))] hs .n (by kernel_rfl) (by kernel_rfl) (by kernel_rfl) ?_; clear hs a; intro a hs
  refine st_guardT hs rfl rfl rfl ?_
  refine st_len hs rfl (rd_row (hs.mem.del (.s (.s (.s (.s (.s (.s .z)))))))).isSl Try.underlying26 rfl ?_; clear hs w a; intro a w hs
  refine st_guardT hs rfl rfl rfl ?_
  refine st_leq hs rfl rfl rfl ?_; clear hs w a; intro a w hs
  have hb_ : (decide (((((gwB t tm b l).length : Nat) : Int)) ≤ 4096)) = true := decide_eq_true (by omega)
  rw [hb_] at hs; clear hb_
  refine st_run 2 [(4, .bool (true))] hs .n (by kernel_rfl) (by kernel_rfl) (by kernel_rfl) ?_; clear hs a; intro a hs
  refine wpList_nil ?_
  refine then_n (hK51 _ _ ?_)
  refine wp_ret ?_
  replace hs := hs.drop (.c (.s (.s (.s (.s (.s (.s (.s (.s .z)))))))) (.c (.s (.s (.s (.s (.s (.s (.s .z))))))) (.c (.s (.s (.s (.s (.s (.s .z)))))) (.c (.s (.s (.s (.s (.s .z))))) (.c (.s (.s (.s (.s .z)))) (.c (.s (.s (.s .z))) (.c (.s (.s .z)) (.c (.s .z) (.c .z .n)))))))))
  exact fin hs rfl rfl ⟨rfl, rfl⟩
end Go.Proofs.Ytkobgcoegajfcaa
