/- Walks of GramWrites: what each function does, over the program of this seat. Printed by a program of this session. -/
import Derived.Test.YtkobgcoegajfcaaWgramm
import Derived.Test.YtkobgcoegajfcaaSxRgram
namespace Go.Proofs.Ytkobgcoegajfcaa
open Go Go.Sx Go.RowKit
set_option linter.unusedVariables false
set_option linter.unusedSimpArgs false
set_option maxRecDepth 4000
set_option maxHeartbeats 1000000

theorem gramWrites_ok (t tm b : Int) (u : Value) (l : List RecR) (w0 : World) (ht_ : -9223372036854775808 ≤ t ∧ t ≤ 9223372036854775807) (htm_ : -9223372036854775808 ≤ tm ∧ tm ≤ 9223372036854775807) (hb_ : -9223372036854775808 ≤ b ∧ b ≤ 9223372036854775807) (hc : Rd w0 [] u 9 l.length (l.flatMap recV)) (hl : ∀ x ∈ l, x.wf) : Calls Try.prog 13 #[.agg #[.int .i64 t, .int .i64 tm, .int .i64 b, u]] w0 (RetV w0 (.bool true)) := by
  have hce := hc.le
  simp only [maxLen] at hce
  refine enter (F0 := [(0, .agg #[.int .i64 (t), .int .i64 (tm), .int .i64 (b), u])]) Try.func13 rfl rfl rfl (.c .n) (Mem.nil _) fun a w hs => ?_
  refine wp_seq_k fun K1 hK2 => ?_
  refine wp_region_lit ?_
  refine st_box (cs := [.int .i64 (t), .int .i64 (tm), .int .i64 (b), u]) hs rfl rfl rfl ?_; clear hs w a; intro g3 a w hs
  refine st_as hs rfl rfl ?_; clear hs w a; intro a w hs
  refine wpList_nil ?_
  refine then_n (hK2 _ _ ?_)
  refine wp_seq_k fun K4 hK5 => ?_
  refine wp_seq_k fun K6 hK7 => ?_
  refine wp_region_lit ?_
  refine st_run 2 [(8, u)] hs (.c (hs.mem.del .z) .n) (by kernel_rfl) (by kernel_rfl) (by kernel_rfl) ?_; clear hs a; intro a hs
  refine st_len hs rfl (hs.rd0 hc).isSl Try.underlying66 rfl ?_; clear hs w a; intro a w hs
  refine st_gtr hs rfl rfl rfl ?_; clear hs w a; intro a w hs
  refine wpList_nil ?_
  refine then_n (hK7 _ _ ?_)
  refine wp_if hs rfl (fun hc8 => ?_) (fun hc8 => ?_)
  ·
   replace hc8 := of_decide_eq_true hc8
   refine wp_seq_k fun K9 hK10 => ?_
   refine wp_region_lit ?_
   refine st_callP (v := .bool (true)) hs .n Try.call35 (alive09_ok _) rfl ?_; clear hs w a; intro a w hs
   refine st_as hs rfl rfl ?_; clear hs w a; intro a w hs
   refine wpList_nil ?_
   refine then_n (hK10 _ _ ?_)
   refine wp_ret ?_
   refine th_r ?_
   replace hs := hs.drop (.c .z .n)
   exact fin hs rfl rfl ⟨rfl, rfl⟩
  replace hc8 := of_decide_eq_false hc8
  refine wp_skip ?_
  refine then_n (hK5 _ _ ?_)
  refine wp_seq_k fun K11 hK12 => ?_
  refine wp_region_lit ?_
  refine st_ldBA hs rfl .z (.z (.c (.c (.c (.c .n))))) Try.isAgg69 Try.sizeOf69 rfl ?_; clear hs w a; intro a w hs
  refine st_call hs (.c rfl .n) Try.call36 .n (gwrite_ok t tm b _ l _ (by omega) (by omega) (by omega) (hs.rd0 hc) hl) rfl ?_; clear hs w a; rintro _ _ a w ⟨v13, rfl, rfl⟩ hs; simp only [List.cons_append, List.nil_append] at hs
  have hk14 := length_gwB t tm b l
  refine st_run 5 [(4, .int .i64 (((gwErr t tm b l : Nat) : Int))), (3, v13)] hs .n (by kernel_rfl) (by kernel_rfl) (by kernel_rfl) ?_; clear hs a; intro a hs
  refine wpList_nil ?_
  refine then_n (hK12 _ _ ?_)
  refine wp_seq_k fun K15 hK16 => ?_
  refine wp_region_lit ?_
  refine st_ldBA hs rfl (.s .z) (.z (.c (.c (.c (.c .n))))) Try.isAgg69 Try.sizeOf69 rfl ?_; clear hs w a; intro a w hs
  refine st_call hs (.c rfl .n) Try.call38 .n (mwrite_ok t tm b _ l _ (by omega) (by omega) (by omega) (hs.rd0 hc) hl) rfl ?_; clear hs w a; rintro _ _ a w ⟨v17, rfl, rfl⟩ hs; simp only [List.cons_append, List.nil_append] at hs
  have hk18 := length_gwB t tm b l
  refine st_run 5 [(6, .int .i64 (((gwErr t tm b l : Nat) : Int))), (5, v17)] hs .n (by kernel_rfl) (by kernel_rfl) (by kernel_rfl) ?_; clear hs a; intro a hs
  refine wpList_nil ?_
  refine then_n (hK16 _ _ ?_)
  refine wp_seq_k fun K19 hK20 => ?_
  replace hs := hs.sub (F' := [(6, .int .i64 (((gwErr t tm b l : Nat) : Int))), (5, v17), (4, .int .i64 (((gwErr t tm b l : Nat) : Int))), (3, v13), (1, .pointer (some ⟨g3, 0, none⟩))]) (.c rfl (.c rfl (.c rfl (.c rfl (.c rfl .n)))))
  refine wp_drawG (M0 := [row v17 5 1 ((gwB t tm b l).length) (bytesV (gwB t tm b l)), row v13 5 1 ((gwB t tm b l).length) (bytesV (gwB t tm b l)), blk g3 [.int .i64 (t), .int .i64 (tm), .int .i64 (b), u] 69]) (Ds := [Pv 0 (.bool (true)), Pv 1 (.bool (true)), Pv 2 v13, Pv 3 (.string (strB (gwB t tm b l))), Pv 4 v17, Pv 5 (.string (strB (gwB t tm b l))), Pv 6 (.bool (true)), Pv 7 (.bool (true)), Pv 8 (.bool (true)), Pv 9 (.int .i64 (((gwErr t tm b l : Nat) : Int))), Pv 10 (.int .i64 (((gwErr t tm b l : Nat) : Int))), Pv 11 (.bool (true)), Pv 12 (.bool (true)), Pv 13 (.bool (true)), Pv 14 (.agg #[.int .i64 (t), .int .i64 (tm), .int .i64 (b), u]), Pv 15 (.int .i64 (((bodyErr t tm b l : Nat) : Int))), Pv 16 (.agg #[.int .i64 (t), .int .i64 (tm), .int .i64 (b), u]), Pv 17 (.int .i64 (((bodyErr t tm b l : Nat) : Int))), Pv 18 (.bool (true)), Pv 19 (.bool (true)), Pv 20 (.bool (true))]) (by kernel_rfl) hs rfl .n (by kernel_rfl) (by kernel_rfl) (by kernel_rfl) ?_ ?_
  ·
   refine (.c ?_ (.c ?_ (.c ?_ (.c ?_ (.c ?_ (.c ?_ (.c ?_ (.c ?_ (.c ?_ (.c ?_ (.c ?_ (.c ?_ (.c ?_ (.c ?_ (.c ?_ (.c ?_ (.c ?_ (.c ?_ (.c ?_ (.c ?_ (.c ?_ .n)))))))))))))))))))))
   ·
    intro a_ w_ R_ rest_ vs21 hm hs ht hx
    have hm0 := hm.mid
    have hs0 := hs.bare
    refine st_callP (v := .bool (true)) hs .n Try.call35 (alive09_ok _) rfl ?_; clear hs; intro a w hs
    exact wpList_nil ⟨rfl, _, _, hs0, .r, hs, rfl⟩
   · exact trip_pv (m := 21) (.c (k := 0) (by kernel_rfl) rfl rfl .n) (fun hm0 hm hx => .n) (by kernel_rfl) (by kernel_rfl) rfl
   · exact trip_pg (m := 21) rfl (.c (k := 1) (by kernel_rfl) rfl rfl .n) rfl (fun hm0 hm hx => .n) (by kernel_rfl) (by kernel_rfl) rfl
   ·
    intro a_ w_ R_ rest_ vs21 hm hs ht hx
    have hm0 := hm.mid
    replace hs := hs.lrn (ht 1 (twB_spec 21 _ (by kernel_rfl))) rfl rfl
    replace hs := hs.lrn (ht 2 (twB_spec 21 _ (by kernel_rfl))) rfl rfl
    have hs0 := hs.bare
    refine st_guardT hs rfl rfl rfl ?_
    refine st_str (bs := (gwB t tm b l)) hs rfl (rd_row (hm0.del (.s .z))) Try.underlying26 Try.underlying5 Try.underlying9 rfl ?_; clear hs; intro a w hs
    exact wpList_nil ⟨rfl, _, _, hs0, (.c (.c .r)), hs, rfl⟩
   · exact trip_pg (m := 21) rfl (.c (k := 1) (by kernel_rfl) rfl rfl .n) rfl (fun hm0 hm hx => .n) (by kernel_rfl) (by kernel_rfl) rfl
   ·
    intro a_ w_ R_ rest_ vs21 hm hs ht hx
    have hm0 := hm.mid
    replace hs := hs.lrn (ht 1 (twB_spec 21 _ (by kernel_rfl))) rfl rfl
    replace hs := hs.lrn (ht 4 (twB_spec 21 _ (by kernel_rfl))) rfl rfl
    have hs0 := hs.bare
    refine st_guardT hs rfl rfl rfl ?_
    refine st_str (bs := (gwB t tm b l)) hs rfl (rd_row (hm0.del .z)) Try.underlying26 Try.underlying5 Try.underlying9 rfl ?_; clear hs; intro a w hs
    exact wpList_nil ⟨rfl, _, _, hs0, (.c (.c .r)), hs, rfl⟩
   ·
    intro a_ w_ R_ rest_ vs21 hm hs ht hx
    have hm0 := hm.mid
    replace hs := hs.lrn (ht 1 (twB_spec 21 _ (by kernel_rfl))) rfl rfl
    replace hs := hs.lrn (ht 3 (twB_spec 21 _ (by kernel_rfl))) rfl rfl
    replace hs := hs.lrn (ht 5 (twB_spec 21 _ (by kernel_rfl))) rfl rfl
    have hs0 := hs.bare
    refine st_guardT hs rfl rfl rfl ?_
    refine st_eqs (p := strB (gwB t tm b l)) (q := strB (gwB t tm b l)) hs rfl rfl rfl ?_; clear hs; intro a w hs
    have hb_ : ((strB (gwB t tm b l)).toList == (strB (gwB t tm b l)).toList) = true := beq_self_eq_true _
    rw [hb_] at hs; clear hb_
    exact wpList_nil ⟨rfl, _, _, hs0, (.c (.c (.c .r))), hs, rfl⟩
   · exact trip_pv (m := 21) (.c (k := 1) (by kernel_rfl) rfl rfl (.c (k := 6) (by kernel_rfl) rfl rfl .n)) (fun hm0 hm hx => .n) (by kernel_rfl) (by kernel_rfl) rfl
   · exact trip_pv (m := 21) (.c (k := 7) (by kernel_rfl) rfl rfl .n) (fun hm0 hm hx => .n) (by kernel_rfl) (by kernel_rfl) rfl
   · exact trip_pg (m := 21) rfl (.c (k := 8) (by kernel_rfl) rfl rfl .n) rfl (fun hm0 hm hx => .n) (by kernel_rfl) (by kernel_rfl) rfl
   · exact trip_pg (m := 21) rfl (.c (k := 8) (by kernel_rfl) rfl rfl .n) rfl (fun hm0 hm hx => .n) (by kernel_rfl) (by kernel_rfl) rfl
   ·
    intro a_ w_ R_ rest_ vs21 hm hs ht hx
    have hm0 := hm.mid
    replace hs := hs.lrn (ht 8 (twB_spec 21 _ (by kernel_rfl))) rfl rfl
    replace hs := hs.lrn (ht 9 (twB_spec 21 _ (by kernel_rfl))) rfl rfl
    replace hs := hs.lrn (ht 10 (twB_spec 21 _ (by kernel_rfl))) rfl rfl
    have hs0 := hs.bare
    refine st_guardT hs rfl rfl rfl ?_
    refine st_eql hs rfl rfl rfl ?_; clear hs; intro a w hs
    have hb_ : ((((gwErr t tm b l : Nat) : Int) : Int) == (((gwErr t tm b l : Nat) : Int))) = true := beq_self_eq_true _
    rw [hb_] at hs; clear hb_
    exact wpList_nil ⟨rfl, _, _, hs0, (.c (.c (.c .r))), hs, rfl⟩
   · exact trip_pv (m := 21) (.c (k := 8) (by kernel_rfl) rfl rfl (.c (k := 11) (by kernel_rfl) rfl rfl .n)) (fun hm0 hm hx => .n) (by kernel_rfl) (by kernel_rfl) rfl
   · exact trip_pv (m := 21) (.c (k := 12) (by kernel_rfl) rfl rfl .n) (fun hm0 hm hx => .n) (by kernel_rfl) (by kernel_rfl) rfl
   · exact trip_pg (m := 21) rfl (.c (k := 13) (by kernel_rfl) rfl rfl .n) rfl (fun hm0 hm hx => (.c (hm0.del (.s (.s .z))))) (by kernel_rfl) (by kernel_rfl) rfl
   ·
    intro a_ w_ R_ rest_ vs21 hm hs ht hx
    have hm0 := hm.mid
    replace hs := hs.lrn (ht 13 (twB_spec 21 _ (by kernel_rfl))) rfl rfl
    replace hs := hs.lrn (ht 14 (twB_spec 21 _ (by kernel_rfl))) rfl rfl
    have hs0 := hs.bare
    refine st_guardT hs rfl rfl rfl ?_
    refine st_callP (v := .int .i64 (((bodyErr t tm b l : Nat) : Int))) hs (.c rfl .n) Try.call39 (gcheck_ok t tm b _ l _ (by omega) (by omega) (by omega) (hm.rd0 hc) hl) rfl ?_; clear hs; intro a w hs
    exact wpList_nil ⟨rfl, _, _, hs0, (.c (.c .r)), hs, rfl⟩
   · exact trip_pg (m := 21) rfl (.c (k := 13) (by kernel_rfl) rfl rfl .n) rfl (fun hm0 hm hx => (.c (hm0.del (.s (.s .z))))) (by kernel_rfl) (by kernel_rfl) rfl
   ·
    intro a_ w_ R_ rest_ vs21 hm hs ht hx
    have hm0 := hm.mid
    replace hs := hs.lrn (ht 13 (twB_spec 21 _ (by kernel_rfl))) rfl rfl
    replace hs := hs.lrn (ht 16 (twB_spec 21 _ (by kernel_rfl))) rfl rfl
    have hs0 := hs.bare
    refine st_guardT hs rfl rfl rfl ?_
    refine st_callP (v := .int .i64 (((bodyErr t tm b l : Nat) : Int))) hs (.c rfl .n) Try.call40 (mcheck_ok t tm b _ l _ (by omega) (by omega) (by omega) (hm.rd0 hc) hl) rfl ?_; clear hs; intro a w hs
    exact wpList_nil ⟨rfl, _, _, hs0, (.c (.c .r)), hs, rfl⟩
   ·
    intro a_ w_ R_ rest_ vs21 hm hs ht hx
    have hm0 := hm.mid
    replace hs := hs.lrn (ht 13 (twB_spec 21 _ (by kernel_rfl))) rfl rfl
    replace hs := hs.lrn (ht 15 (twB_spec 21 _ (by kernel_rfl))) rfl rfl
    replace hs := hs.lrn (ht 17 (twB_spec 21 _ (by kernel_rfl))) rfl rfl
    have hs0 := hs.bare
    refine st_guardT hs rfl rfl rfl ?_
    refine st_eql hs rfl rfl rfl ?_; clear hs; intro a w hs
    have hb_ : ((((bodyErr t tm b l : Nat) : Int) : Int) == (((bodyErr t tm b l : Nat) : Int))) = true := beq_self_eq_true _
    rw [hb_] at hs; clear hb_
    exact wpList_nil ⟨rfl, _, _, hs0, (.c (.c (.c .r))), hs, rfl⟩
   · exact trip_pv (m := 21) (.c (k := 13) (by kernel_rfl) rfl rfl (.c (k := 18) (by kernel_rfl) rfl rfl .n)) (fun hm0 hm hx => .n) (by kernel_rfl) (by kernel_rfl) rfl
   exact trip_pv (m := 21) (.c (k := 19) (by kernel_rfl) rfl rfl .n) (fun hm0 hm hx => .n) (by kernel_rfl) (by kernel_rfl) rfl
  clear hs w a; intro a w vs21 hs hf
  replace hs : St _ _ _ _ [row v17 5 1 ((gwB t tm b l).length) (bytesV (gwB t tm b l)), row v13 5 1 ((gwB t tm b l).length) (bytesV (gwB t tm b l)), blk g3 [.int .i64 (t), .int .i64 (tm), .int .i64 (b), u] 69] _ _ := hs
  obtain ⟨e20, q20⟩ := hf 20 (by decide)
  replace e20 : _ = some (vs21 20) := e20.val rfl
  rw [show vs21 20 = .bool (true) from q20] at e20
  replace hs := hs.learn e20; clear e20 q20
  clear hf
  refine then_n (hK20 _ _ ?_)
  refine wp_ret ?_
  replace hs := hs.drop (.c (.s (.s .z)) (.c (.s .z) (.c .z .n)))
  exact fin hs rfl rfl ⟨rfl, rfl⟩
end Go.Proofs.Ytkobgcoegajfcaa
