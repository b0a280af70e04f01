/- Walks of DeltaTwo: what each function does, over the program of this seat. Printed by a program of this session. -/
import Derived.Test.YtbioemaipghagaaQWdelA
import Derived.Test.YtbioemaipghagaaQWdelm
namespace Go.Proofs.Ytbioemaipghagaa
open Go Go.Sx Go.RowKit
set_option linter.unusedVariables false
set_option linter.unusedSimpArgs false
set_option maxRecDepth 4000
set_option maxHeartbeats 1000000

theorem deltaTwo_ok (ta ma : Int) (ua : Value) (la : List EntR) (tb mb : Int) (ub : Value) (lb : List EntR) (tc mc : Int) (uc : Value) (lc : List EntR) (w0 : World) (hta_ : -9223372036854775808 ≤ ta ∧ ta ≤ 9223372036854775807) (hma_ : -9223372036854775808 ≤ ma ∧ ma ≤ 9223372036854775807) (hca : Rd w0 [] ua 9 la.length (la.flatMap entV)) (hwa : ∀ x ∈ la, x.wf) (htb_ : -9223372036854775808 ≤ tb ∧ tb ≤ 9223372036854775807) (hmb_ : -9223372036854775808 ≤ mb ∧ mb ≤ 9223372036854775807) (hcb : Rd w0 [] ub 9 lb.length (lb.flatMap entV)) (hwb : ∀ x ∈ lb, x.wf) (htc_ : -9223372036854775808 ≤ tc ∧ tc ≤ 9223372036854775807) (hmc_ : -9223372036854775808 ≤ mc ∧ mc ≤ 9223372036854775807) (hcc : Rd w0 [] uc 9 lc.length (lc.flatMap entV)) (hwc : ∀ x ∈ lc, x.wf) : Calls Try.prog 4 #[.agg #[.int .i64 (ta), .int .i64 (ma), ua], .agg #[.int .i64 (tb), .int .i64 (mb), ub], .agg #[.int .i64 (tc), .int .i64 (mc), uc]] w0 (RetV w0 (.bool true)) := by
  have hcea := hca.le
  simp only [maxLen] at hcea
  have hceb := hcb.le
  simp only [maxLen] at hceb
  have hcec := hcc.le
  simp only [maxLen] at hcec
  refine enter (F0 := [(0, .agg #[.int .i64 (ta), .int .i64 (ma), ua]), (1, .agg #[.int .i64 (tb), .int .i64 (mb), ub]), (2, .agg #[.int .i64 (tc), .int .i64 (mc), uc])]) Try.func4 rfl rfl rfl (.c (.c (.c .n))) (Mem.nil _) fun a w hs => ?_
  refine wp_seq_k fun K1 hK2 => ?_
  refine wp_region_lit ?_
  refine st_box (cs := [.int .i64 (ta), .int .i64 (ma), ua]) hs rfl rfl rfl ?_; clear hs w a; intro g3 a w hs
  refine st_box (cs := [.int .i64 (tb), .int .i64 (mb), ub]) hs rfl rfl rfl ?_; clear hs w a; intro g4 a w hs
  refine st_box (cs := [.int .i64 (tc), .int .i64 (mc), uc]) hs rfl rfl rfl ?_; clear hs w a; intro g5 a w hs
  refine st_as hs rfl rfl ?_; clear hs w a; intro a w hs
  refine wpList_nil ?_
  refine then_n (hK2 _ _ ?_)
  refine wp_seq_k fun K6 hK7 => ?_
  refine wp_seq_k fun K8 hK9 => ?_
  refine wp_region_lit ?_
  refine st_run 3 [(21, .agg #[.int .i64 (tc), .int .i64 (mc), uc]), (20, .agg #[.int .i64 (tb), .int .i64 (mb), ub]), (19, .agg #[.int .i64 (ta), .int .i64 (ma), ua])] hs (.c (hs.mem.del (.s (.s .z))) (.c (hs.mem.del (.s .z)) (.c (hs.mem.del .z) .n))) (by kernel_rfl) (by kernel_rfl) (by kernel_rfl) ?_; clear hs a; intro a hs
  refine st_bs (cs := [.int .i64 (ta), .int .i64 (ma), ua, .int .i64 (tb), .int .i64 (mb), ub, .int .i64 (tc), .int .i64 (mc), uc]) hs (.c (.c (.c .n))) (.c rfl (.c rfl (.c rfl .n))) Try.underlying61 (ie := Try.t24) rfl rfl rfl rfl (by decide) (by decide) rfl (by decide) rfl rfl rfl ?_; clear hs w a; intro g10 a w hs
  refine st_callP (v := .bool (decide (100 < la.length ∨ 100 < lb.length ∨ 100 < lc.length))) hs (.c rfl .n) Try.call9 (great3_ok g10 _ _ _ la _ _ _ lb _ _ _ lc _ (hs.mem.del .z) (hs.rd0 hca) (hs.rd0 hcb) (hs.rd0 hcc)) rfl ?_; clear hs w a; intro a w hs
  refine wpList_nil ?_
  refine then_n (hK9 _ _ ?_)
  refine wp_if hs rfl (fun hc11 => ?_) (fun hc11 => ?_)
  ·
   replace hc11 := of_decide_eq_true hc11
   refine wp_seq_k fun K12 hK13 => ?_
   refine wp_region_lit ?_
   refine st_callP (v := .bool (true)) hs .n Try.call10 (alive10_ok _) rfl ?_; clear hs w a; intro a w hs
   refine st_as hs rfl rfl ?_; clear hs w a; intro a w hs
   refine wpList_nil ?_
   refine then_n (hK13 _ _ ?_)
   refine wp_ret ?_
   refine th_r ?_
   replace hs := hs.drop (.c (.s (.s (.s .z))) (.c (.s (.s .z)) (.c (.s .z) (.c .z .n))))
   exact fin hs rfl rfl ⟨rfl, rfl⟩
  replace hc11 := of_decide_eq_false hc11
  refine wp_skip ?_
  refine then_n (hK7 _ _ ?_)
  refine wp_seq_k fun K14 hK15 => ?_
  refine wp_region_lit ?_
  refine st_run 2 [(27, .agg #[.int .i64 (tb), .int .i64 (mb), ub]), (26, .agg #[.int .i64 (ta), .int .i64 (ma), ua])] hs (.c (hs.mem.del (.s (.s (.s .z)))) (.c (hs.mem.del (.s (.s .z))) .n)) (by kernel_rfl) (by kernel_rfl) (by kernel_rfl) ?_; clear hs a; intro a hs
  refine st_call hs (.c rfl (.c rfl .n)) Try.call14 .n (ddiff_ok ta ma _ la tb mb _ lb _ (by omega) (by omega) (by omega) (by omega) (hs.rd0 hca) (hs.rd0 hcb) hwa hwb) rfl ?_; clear hs w a; rintro _ _ a w ⟨v16, rfl, rfl⟩ hs; simp only [List.cons_append, List.nil_append] at hs
  have hk17 := dG_rng (at_ := ta) (atm := ma) (a := la) (bt := tb) (btm := mb) (b := lb)
  refine st_run 3 [(30, .int .i64 (((dErr ta ma la tb mb lb : Nat) : Int))), (29, .agg #[.int .i64 ((dG ta ma la tb mb lb).t), .int .i64 ((dG ta ma la tb mb lb).tm), .int .i64 ((dG ta ma la tb mb lb).b), v16])] hs .n (by kernel_rfl) (by kernel_rfl) (by kernel_rfl) ?_; clear hs a; intro a hs
  refine st_alloc (cs := [.int .i64 (0), .int .i64 (0), .int .i64 (0), .slice none 0 0]) hs Try.zeroValue27 rfl rfl ?_; clear hs w a; intro g18 a w hs
  refine st_stBA hs rfl rfl .z (.z (.c (.c (.c (.c .n))))) (ones_c rfl (ones_c rfl (ones_c rfl (ones_c (rd_row (hs.mem.del (.s .z))).isSl.one ones_n)))) Try.sizeOf27 rfl ?_; clear hs w a; intro a w hs
  refine st_as hs rfl rfl ?_; clear hs w a; intro a w hs
  refine wpList_nil ?_
  refine then_n (hK15 _ _ ?_)
  refine wp_seq_k fun K19 hK20 => ?_
  refine wp_region_lit ?_
  refine st_run 2 [(33, .agg #[.int .i64 (tc), .int .i64 (mc), uc]), (32, .agg #[.int .i64 (tb), .int .i64 (mb), ub])] hs (.c (hs.mem.del (.s (.s (.s (.s .z))))) (.c (hs.mem.del (.s (.s (.s .z)))) .n)) (by kernel_rfl) (by kernel_rfl) (by kernel_rfl) ?_; clear hs a; intro a hs
  refine st_call hs (.c rfl (.c rfl .n)) Try.call14 .n (ddiff_ok tb mb _ lb tc mc _ lc _ (by omega) (by omega) (by omega) (by omega) (hs.rd0 hcb) (hs.rd0 hcc) hwb hwc) rfl ?_; clear hs w a; rintro _ _ a w ⟨v21, rfl, rfl⟩ hs; simp only [List.cons_append, List.nil_append] at hs
  have hk22 := dG_rng (at_ := tb) (atm := mb) (a := lb) (bt := tc) (btm := mc) (b := lc)
  refine st_run 3 [(36, .int .i64 (((dErr tb mb lb tc mc lc : Nat) : Int))), (35, .agg #[.int .i64 ((dG tb mb lb tc mc lc).t), .int .i64 ((dG tb mb lb tc mc lc).tm), .int .i64 ((dG tb mb lb tc mc lc).b), v21])] hs .n (by kernel_rfl) (by kernel_rfl) (by kernel_rfl) ?_; clear hs a; intro a hs
  refine st_alloc (cs := [.int .i64 (0), .int .i64 (0), .int .i64 (0), .slice none 0 0]) hs Try.zeroValue27 rfl rfl ?_; clear hs w a; intro g23 a w hs
  refine st_stBA hs rfl rfl .z (.z (.c (.c (.c (.c .n))))) (ones_c rfl (ones_c rfl (ones_c rfl (ones_c (rd_row (hs.mem.del (.s .z))).isSl.one ones_n)))) Try.sizeOf27 rfl ?_; clear hs w a; intro a w hs
  refine st_as hs rfl rfl ?_; clear hs w a; intro a w hs
  refine wpList_nil ?_
  refine then_n (hK20 _ _ ?_)
  refine wp_seq_k fun K24 hK25 => ?_
  refine wp_region_lit ?_
  refine st_run 2 [(39, .agg #[.int .i64 (tc), .int .i64 (mc), uc]), (38, .agg #[.int .i64 (ta), .int .i64 (ma), ua])] hs (.c (hs.mem.del (.s (.s (.s (.s (.s (.s (.s .z)))))))) (.c (hs.mem.del (.s (.s (.s (.s (.s .z)))))) .n)) (by kernel_rfl) (by kernel_rfl) (by kernel_rfl) ?_; clear hs a; intro a hs
  refine st_call hs (.c rfl (.c rfl .n)) Try.call14 .n (ddiff_ok ta ma _ la tc mc _ lc _ (by omega) (by omega) (by omega) (by omega) (hs.rd0 hca) (hs.rd0 hcc) hwa hwc) rfl ?_; clear hs w a; rintro _ _ a w ⟨v26, rfl, rfl⟩ hs; simp only [List.cons_append, List.nil_append] at hs
  have hk27 := dG_rng (at_ := ta) (atm := ma) (a := la) (bt := tc) (btm := mc) (b := lc)
  refine st_run 3 [(42, .int .i64 (((dErr ta ma la tc mc lc : Nat) : Int))), (41, .agg #[.int .i64 ((dG ta ma la tc mc lc).t), .int .i64 ((dG ta ma la tc mc lc).tm), .int .i64 ((dG ta ma la tc mc lc).b), v26])] hs .n (by kernel_rfl) (by kernel_rfl) (by kernel_rfl) ?_; clear hs a; intro a hs
  refine st_alloc (cs := [.int .i64 (0), .int .i64 (0), .int .i64 (0), .slice none 0 0]) hs Try.zeroValue27 rfl rfl ?_; clear hs w a; intro g28 a w hs
  refine st_stBA hs rfl rfl .z (.z (.c (.c (.c (.c .n))))) (ones_c rfl (ones_c rfl (ones_c rfl (ones_c (rd_row (hs.mem.del (.s .z))).isSl.one ones_n)))) Try.sizeOf27 rfl ?_; clear hs w a; intro a w hs
  refine st_as hs rfl rfl ?_; clear hs w a; intro a w hs
  refine wpList_nil ?_
  refine then_n (hK25 _ _ ?_)
  refine wp_seq_k fun K29 hK30 => ?_
  refine wp_seq_k fun K31 hK32 => ?_
  refine wp_region_lit ?_
  refine st_run 3 [(45, .bool (!((((dErr ta ma la tb mb lb : Nat) : Int) : Int) == 0)))] hs .n (by kernel_rfl) (by kernel_rfl) (by kernel_rfl) ?_; clear hs a; intro a hs
  refine st_part (b := !((((dErr ta ma la tb mb lb : Nat) : Int) : Int) == 0)) (fun hc33 => ?_) (fun hc33 => ?_)
  ·
   rw [hc33] at hs
   replace hc33 := not_t hc33
   replace hc33 := ne_of_beq_f hc33
   refine st_run 7 [(52, .bool (true))] hs .n (by kernel_rfl) (by kernel_rfl) (by kernel_rfl) ?_; clear hs a; intro a hs
   refine wpList_nil ?_
   refine then_n (hK32 _ _ ?_)
   refine wp_cond_true (hs.ev rfl) ?_
   refine wp_seq_k fun K34 hK35 => ?_
   refine wp_region_lit ?_
   refine st_callP (v := .bool (true)) hs .n Try.call10 (alive10_ok _) rfl ?_; clear hs w a; intro a w hs
   refine st_as hs rfl rfl ?_; clear hs w a; intro a w hs
   refine wpList_nil ?_
   refine then_n (hK35 _ _ ?_)
   refine wp_ret ?_
   refine th_r ?_
   replace hs := hs.drop (.c (.s (.s (.s (.s (.s (.s (.s (.s (.s .z))))))))) (.c (.s (.s (.s (.s (.s (.s (.s (.s .z)))))))) (.c (.s (.s (.s (.s (.s (.s (.s .z))))))) (.c (.s (.s (.s (.s (.s (.s .z)))))) (.c (.s (.s (.s (.s (.s .z))))) (.c (.s (.s (.s (.s .z)))) (.c (.s (.s (.s .z))) (.c (.s (.s .z)) (.c (.s .z) (.c .z .n))))))))))
   exact fin hs rfl rfl ⟨rfl, rfl⟩
  rw [hc33] at hs
  replace hc33 := not_f hc33
  replace hc33 := eq_of_beq hc33
  refine st_run 4 [(49, .bool (!((((dErr tb mb lb tc mc lc : Nat) : Int) : Int) == 0)))] hs .n (by kernel_rfl) (by kernel_rfl) (by kernel_rfl) ?_; clear hs a; intro a hs
  refine st_part (b := !((((dErr tb mb lb tc mc lc : Nat) : Int) : Int) == 0)) (fun hc36 => ?_) (fun hc36 => ?_)
  ·
   rw [hc36] at hs
   replace hc36 := not_t hc36
   replace hc36 := ne_of_beq_f hc36
   refine st_run 3 [(52, .bool (true))] hs .n (by kernel_rfl) (by kernel_rfl) (by kernel_rfl) ?_; clear hs a; intro a hs
   refine wpList_nil ?_
   refine then_n (hK32 _ _ ?_)
   refine wp_cond_true (hs.ev rfl) ?_
   refine wp_seq_k fun K37 hK38 => ?_
   refine wp_region_lit ?_
   refine st_callP (v := .bool (true)) hs .n Try.call10 (alive10_ok _) rfl ?_; clear hs w a; intro a w hs
   refine st_as hs rfl rfl ?_; clear hs w a; intro a w hs
   refine wpList_nil ?_
   refine then_n (hK38 _ _ ?_)
   refine wp_ret ?_
   refine th_r ?_
   replace hs := hs.drop (.c (.s (.s (.s (.s (.s (.s (.s (.s (.s .z))))))))) (.c (.s (.s (.s (.s (.s (.s (.s (.s .z)))))))) (.c (.s (.s (.s (.s (.s (.s (.s .z))))))) (.c (.s (.s (.s (.s (.s (.s .z)))))) (.c (.s (.s (.s (.s (.s .z))))) (.c (.s (.s (.s (.s .z)))) (.c (.s (.s (.s .z))) (.c (.s (.s .z)) (.c (.s .z) (.c .z .n))))))))))
   exact fin hs rfl rfl ⟨rfl, rfl⟩
  rw [hc36] at hs
  replace hc36 := not_f hc36
  replace hc36 := eq_of_beq hc36
  refine st_run 3 [(52, .bool (!((((dErr ta ma la tc mc lc : Nat) : Int) : Int) == 0)))] hs .n (by kernel_rfl) (by kernel_rfl) (by kernel_rfl) ?_; clear hs a; intro a hs
  refine wpList_nil ?_
  refine then_n (hK32 _ _ ?_)
  refine wp_if hs rfl (fun hc39 => ?_) (fun hc39 => ?_)
  ·
   replace hc39 := not_t hc39
   replace hc39 := ne_of_beq_f hc39
   refine wp_seq_k fun K40 hK41 => ?_
   refine wp_region_lit ?_
   refine st_callP (v := .bool (true)) hs .n Try.call10 (alive10_ok _) rfl ?_; clear hs w a; intro a w hs
   refine st_as hs rfl rfl ?_; clear hs w a; intro a w hs
   refine wpList_nil ?_
   refine then_n (hK41 _ _ ?_)
   refine wp_ret ?_
   refine th_r ?_
   replace hs := hs.drop (.c (.s (.s (.s (.s (.s (.s (.s (.s (.s .z))))))))) (.c (.s (.s (.s (.s (.s (.s (.s (.s .z)))))))) (.c (.s (.s (.s (.s (.s (.s (.s .z))))))) (.c (.s (.s (.s (.s (.s (.s .z)))))) (.c (.s (.s (.s (.s (.s .z))))) (.c (.s (.s (.s (.s .z)))) (.c (.s (.s (.s .z))) (.c (.s (.s .z)) (.c (.s .z) (.c .z .n))))))))))
   exact fin hs rfl rfl ⟨rfl, rfl⟩
  replace hc39 := not_f hc39
  replace hc39 := eq_of_beq hc39
  have h1 := diff_apply (by omega : dErr ta ma la tb mb lb = 0) hwa hwb
  have h2 := diff_apply (by omega : dErr tb mb lb tc mc lc = 0) hwb hwc
  have h3 := diff_apply (by omega : dErr ta ma la tc mc lc = 0) hwa hwc
  refine wp_skip ?_
  refine then_n (hK30 _ _ ?_)
  refine wp_seq_k fun K42 hK43 => ?_
  refine wp_region_lit ?_
  refine st_run 2 [(56, .agg #[.int .i64 ((dG ta ma la tb mb lb).t), .int .i64 ((dG ta ma la tb mb lb).tm), .int .i64 ((dG ta ma la tb mb lb).b), v16]), (55, .agg #[.int .i64 (ta), .int .i64 (ma), ua])] hs (.c (hs.mem.del (.s (.s (.s (.s (.s (.s (.s (.s (.s .z)))))))))) (.c (hs.mem.del (.s (.s (.s (.s .z))))) .n)) (by kernel_rfl) (by kernel_rfl) (by kernel_rfl) ?_; clear hs a; intro a hs
  refine st_call hs (.c rfl (.c rfl .n)) Try.call11 .n (dapply_ok ta ma _ la ((dG ta ma la tb mb lb).t) ((dG ta ma la tb mb lb).tm) ((dG ta ma la tb mb lb).b) _ ((dG ta ma la tb mb lb).l) _ (by omega) (by omega) (by omega) (by omega) (by omega) (hs.rd0 hca) (rd_row (hs.mem.del (.s (.s (.s (.s (.s .z))))))) (dG_wf hwa hwb)) rfl ?_; clear hs w a; rintro _ _ a w ⟨v44, rfl, rfl⟩ hs; simp only [List.cons_append, List.nil_append] at hs
  have hk45 := aS_rng (at_ := ta) (atm := ma) (a := la) (gt := ((dG ta ma la tb mb lb).t)) (gtm := ((dG ta ma la tb mb lb).tm)) (gb := ((dG ta ma la tb mb lb).b)) (rl := (dG ta ma la tb mb lb).l)
  have z1 : aE ta ma la ((dG ta ma la tb mb lb).t) ((dG ta ma la tb mb lb).tm) ((dG ta ma la tb mb lb).b) ((dG ta ma la tb mb lb).l) = 0 := h1.1
  refine st_run 3 [(59, .int .i64 (((aE ta ma la ((dG ta ma la tb mb lb).t) ((dG ta ma la tb mb lb).tm) ((dG ta ma la tb mb lb).b) ((dG ta ma la tb mb lb).l) : Nat) : Int))), (58, .agg #[.int .i64 ((aS ta ma la ((dG ta ma la tb mb lb).t) ((dG ta ma la tb mb lb).tm) ((dG ta ma la tb mb lb).b) ((dG ta ma la tb mb lb).l)).t), .int .i64 ((aS ta ma la ((dG ta ma la tb mb lb).t) ((dG ta ma la tb mb lb).tm) ((dG ta ma la tb mb lb).b) ((dG ta ma la tb mb lb).l)).tm), v44])] hs .n (by kernel_rfl) (by kernel_rfl) (by kernel_rfl) ?_; clear hs a; intro a hs
  refine st_alloc (cs := [.int .i64 (0), .int .i64 (0), .slice none 0 0]) hs Try.zeroValue24 rfl rfl ?_; clear hs w a; intro g46 a w hs
  refine st_stBA hs rfl rfl .z (.z (.c (.c (.c .n)))) (ones_c rfl (ones_c rfl (ones_c (rd_row (hs.mem.del (.s .z))).isSl.one ones_n))) Try.sizeOf24 rfl ?_; clear hs w a; intro a w hs
  refine st_as hs rfl rfl ?_; clear hs w a; intro a w hs
  refine wpList_nil ?_
  refine then_n (hK43 _ _ ?_)
  refine wp_seq_k fun K47 hK48 => ?_
  refine wp_region_lit ?_
  refine st_run 2 [(62, .agg #[.int .i64 ((dG tb mb lb tc mc lc).t), .int .i64 ((dG tb mb lb tc mc lc).tm), .int .i64 ((dG tb mb lb tc mc lc).b), v21]), (61, .agg #[.int .i64 ((aS ta ma la ((dG ta ma la tb mb lb).t) ((dG ta ma la tb mb lb).tm) ((dG ta ma la tb mb lb).b) ((dG ta ma la tb mb lb).l)).t), .int .i64 ((aS ta ma la ((dG ta ma la tb mb lb).t) ((dG ta ma la tb mb lb).tm) ((dG ta ma la tb mb lb).b) ((dG ta ma la tb mb lb).l)).tm), v44])] hs (.c (hs.mem.del .z) (.c (hs.mem.del (.s (.s (.s (.s .z))))) .n)) (by kernel_rfl) (by kernel_rfl) (by kernel_rfl) ?_; clear hs a; intro a hs
  refine st_call hs (.c rfl (.c rfl .n)) Try.call11 .n (dapply_ok ((aS ta ma la ((dG ta ma la tb mb lb).t) ((dG ta ma la tb mb lb).tm) ((dG ta ma la tb mb lb).b) ((dG ta ma la tb mb lb).l)).t) ((aS ta ma la ((dG ta ma la tb mb lb).t) ((dG ta ma la tb mb lb).tm) ((dG ta ma la tb mb lb).b) ((dG ta ma la tb mb lb).l)).tm) _ ((aS ta ma la ((dG ta ma la tb mb lb).t) ((dG ta ma la tb mb lb).tm) ((dG ta ma la tb mb lb).b) ((dG ta ma la tb mb lb).l)).l) ((dG tb mb lb tc mc lc).t) ((dG tb mb lb tc mc lc).tm) ((dG tb mb lb tc mc lc).b) _ ((dG tb mb lb tc mc lc).l) _ (by omega) (by omega) (by omega) (by omega) (by omega) (rd_row (hs.mem.del (.s .z))) (rd_row (hs.mem.del (.s (.s (.s (.s (.s .z))))))) (dG_wf hwb hwc)) rfl ?_; clear hs w a; rintro _ _ a w ⟨v49, rfl, rfl⟩ hs; simp only [List.cons_append, List.nil_append] at hs
  have hk50 := aS_rng (at_ := ((aS ta ma la ((dG ta ma la tb mb lb).t) ((dG ta ma la tb mb lb).tm) ((dG ta ma la tb mb lb).b) ((dG ta ma la tb mb lb).l)).t)) (atm := ((aS ta ma la ((dG ta ma la tb mb lb).t) ((dG ta ma la tb mb lb).tm) ((dG ta ma la tb mb lb).b) ((dG ta ma la tb mb lb).l)).tm)) (a := (aS ta ma la ((dG ta ma la tb mb lb).t) ((dG ta ma la tb mb lb).tm) ((dG ta ma la tb mb lb).b) ((dG ta ma la tb mb lb).l)).l) (gt := ((dG tb mb lb tc mc lc).t)) (gtm := ((dG tb mb lb tc mc lc).tm)) (gb := ((dG tb mb lb tc mc lc).b)) (rl := (dG tb mb lb tc mc lc).l)
  have z2 : aE ((aS ta ma la ((dG ta ma la tb mb lb).t) ((dG ta ma la tb mb lb).tm) ((dG ta ma la tb mb lb).b) ((dG ta ma la tb mb lb).l)).t) ((aS ta ma la ((dG ta ma la tb mb lb).t) ((dG ta ma la tb mb lb).tm) ((dG ta ma la tb mb lb).b) ((dG ta ma la tb mb lb).l)).tm) ((aS ta ma la ((dG ta ma la tb mb lb).t) ((dG ta ma la tb mb lb).tm) ((dG ta ma la tb mb lb).b) ((dG ta ma la tb mb lb).l)).l) ((dG tb mb lb tc mc lc).t) ((dG tb mb lb tc mc lc).tm) ((dG tb mb lb tc mc lc).b) ((dG tb mb lb tc mc lc).l) = 0 := by rw [h1.2]; exact h2.1
  refine st_run 3 [(65, .int .i64 (((aE ((aS ta ma la ((dG ta ma la tb mb lb).t) ((dG ta ma la tb mb lb).tm) ((dG ta ma la tb mb lb).b) ((dG ta ma la tb mb lb).l)).t) ((aS ta ma la ((dG ta ma la tb mb lb).t) ((dG ta ma la tb mb lb).tm) ((dG ta ma la tb mb lb).b) ((dG ta ma la tb mb lb).l)).tm) ((aS ta ma la ((dG ta ma la tb mb lb).t) ((dG ta ma la tb mb lb).tm) ((dG ta ma la tb mb lb).b) ((dG ta ma la tb mb lb).l)).l) ((dG tb mb lb tc mc lc).t) ((dG tb mb lb tc mc lc).tm) ((dG tb mb lb tc mc lc).b) ((dG tb mb lb tc mc lc).l) : Nat) : Int))), (64, .agg #[.int .i64 ((aS ((aS ta ma la ((dG ta ma la tb mb lb).t) ((dG ta ma la tb mb lb).tm) ((dG ta ma la tb mb lb).b) ((dG ta ma la tb mb lb).l)).t) ((aS ta ma la ((dG ta ma la tb mb lb).t) ((dG ta ma la tb mb lb).tm) ((dG ta ma la tb mb lb).b) ((dG ta ma la tb mb lb).l)).tm) ((aS ta ma la ((dG ta ma la tb mb lb).t) ((dG ta ma la tb mb lb).tm) ((dG ta ma la tb mb lb).b) ((dG ta ma la tb mb lb).l)).l) ((dG tb mb lb tc mc lc).t) ((dG tb mb lb tc mc lc).tm) ((dG tb mb lb tc mc lc).b) ((dG tb mb lb tc mc lc).l)).t), .int .i64 ((aS ((aS ta ma la ((dG ta ma la tb mb lb).t) ((dG ta ma la tb mb lb).tm) ((dG ta ma la tb mb lb).b) ((dG ta ma la tb mb lb).l)).t) ((aS ta ma la ((dG ta ma la tb mb lb).t) ((dG ta ma la tb mb lb).tm) ((dG ta ma la tb mb lb).b) ((dG ta ma la tb mb lb).l)).tm) ((aS ta ma la ((dG ta ma la tb mb lb).t) ((dG ta ma la tb mb lb).tm) ((dG ta ma la tb mb lb).b) ((dG ta ma la tb mb lb).l)).l) ((dG tb mb lb tc mc lc).t) ((dG tb mb lb tc mc lc).tm) ((dG tb mb lb tc mc lc).b) ((dG tb mb lb tc mc lc).l)).tm), v49])] hs .n (by kernel_rfl) (by kernel_rfl) (by kernel_rfl) ?_; clear hs a; intro a hs
  refine st_alloc (cs := [.int .i64 (0), .int .i64 (0), .slice none 0 0]) hs Try.zeroValue24 rfl rfl ?_; clear hs w a; intro g51 a w hs
  refine st_stBA hs rfl rfl .z (.z (.c (.c (.c .n)))) (ones_c rfl (ones_c rfl (ones_c (rd_row (hs.mem.del (.s .z))).isSl.one ones_n))) Try.sizeOf24 rfl ?_; clear hs w a; intro a w hs
  refine st_as hs rfl rfl ?_; clear hs w a; intro a w hs
  refine wpList_nil ?_
  refine then_n (hK48 _ _ ?_)
  refine wp_seq_k fun K52 hK53 => ?_
  refine wp_region_lit ?_
  refine st_run 2 [(68, .agg #[.int .i64 ((dG ta ma la tc mc lc).t), .int .i64 ((dG ta ma la tc mc lc).tm), .int .i64 ((dG ta ma la tc mc lc).b), v26]), (67, .agg #[.int .i64 (ta), .int .i64 (ma), ua])] hs (.c (hs.mem.del (.s (.s (.s (.s (.s (.s (.s (.s (.s (.s (.s (.s (.s .z)))))))))))))) (.c (hs.mem.del (.s (.s (.s (.s .z))))) .n)) (by kernel_rfl) (by kernel_rfl) (by kernel_rfl) ?_; clear hs a; intro a hs
  refine st_call hs (.c rfl (.c rfl .n)) Try.call11 .n (dapply_ok ta ma _ la ((dG ta ma la tc mc lc).t) ((dG ta ma la tc mc lc).tm) ((dG ta ma la tc mc lc).b) _ ((dG ta ma la tc mc lc).l) _ (by omega) (by omega) (by omega) (by omega) (by omega) (hs.rd0 hca) (rd_row (hs.mem.del (.s (.s (.s (.s (.s .z))))))) (dG_wf hwa hwc)) rfl ?_; clear hs w a; rintro _ _ a w ⟨v54, rfl, rfl⟩ hs; simp only [List.cons_append, List.nil_append] at hs
  have hk55 := aS_rng (at_ := ta) (atm := ma) (a := la) (gt := ((dG ta ma la tc mc lc).t)) (gtm := ((dG ta ma la tc mc lc).tm)) (gb := ((dG ta ma la tc mc lc).b)) (rl := (dG ta ma la tc mc lc).l)
  have z3 : aE ta ma la ((dG ta ma la tc mc lc).t) ((dG ta ma la tc mc lc).tm) ((dG ta ma la tc mc lc).b) ((dG ta ma la tc mc lc).l) = 0 := h3.1
  refine st_run 3 [(71, .int .i64 (((aE ta ma la ((dG ta ma la tc mc lc).t) ((dG ta ma la tc mc lc).tm) ((dG ta ma la tc mc lc).b) ((dG ta ma la tc mc lc).l) : Nat) : Int))), (70, .agg #[.int .i64 ((aS ta ma la ((dG ta ma la tc mc lc).t) ((dG ta ma la tc mc lc).tm) ((dG ta ma la tc mc lc).b) ((dG ta ma la tc mc lc).l)).t), .int .i64 ((aS ta ma la ((dG ta ma la tc mc lc).t) ((dG ta ma la tc mc lc).tm) ((dG ta ma la tc mc lc).b) ((dG ta ma la tc mc lc).l)).tm), v54])] hs .n (by kernel_rfl) (by kernel_rfl) (by kernel_rfl) ?_; clear hs a; intro a hs
  refine st_alloc (cs := [.int .i64 (0), .int .i64 (0), .slice none 0 0]) hs Try.zeroValue24 rfl rfl ?_; clear hs w a; intro g56 a w hs
  refine st_stBA hs rfl rfl .z (.z (.c (.c (.c .n)))) (ones_c rfl (ones_c rfl (ones_c (rd_row (hs.mem.del (.s .z))).isSl.one ones_n))) Try.sizeOf24 rfl ?_; clear hs w a; intro a w hs
  refine st_as hs rfl rfl ?_; clear hs w a; intro a w hs
  refine wpList_nil ?_
  refine then_n (hK53 _ _ ?_)
  refine wp_seq_k fun K57 hK58 => ?_
  refine wp_region_lit ?_
  refine st_callP (v := .bool (true)) hs .n Try.call10 (alive10_ok _) rfl ?_; clear hs w a; intro a w hs
  refine st_run 3 [(75, .bool ((((aE ta ma la ((dG ta ma la tb mb lb).t) ((dG ta ma la tb mb lb).tm) ((dG ta ma la tb mb lb).b) ((dG ta ma la tb mb lb).l) : Nat) : Int) : Int) == 0)), (73, .bool (true))] hs .n (by kernel_rfl) (by kernel_rfl) (by kernel_rfl) ?_; clear hs a; intro a hs
  have hb_ : ((((aE ta ma la ((dG ta ma la tb mb lb).t) ((dG ta ma la tb mb lb).tm) ((dG ta ma la tb mb lb).b) ((dG ta ma la tb mb lb).l) : Nat) : Int) : Int) == 0) = true := by rw [z1]; rfl
  rw [hb_] at hs; clear hb_
  refine st_run 4 [(79, .bool ((((aE ((aS ta ma la ((dG ta ma la tb mb lb).t) ((dG ta ma la tb mb lb).tm) ((dG ta ma la tb mb lb).b) ((dG ta ma la tb mb lb).l)).t) ((aS ta ma la ((dG ta ma la tb mb lb).t) ((dG ta ma la tb mb lb).tm) ((dG ta ma la tb mb lb).b) ((dG ta ma la tb mb lb).l)).tm) ((aS ta ma la ((dG ta ma la tb mb lb).t) ((dG ta ma la tb mb lb).tm) ((dG ta ma la tb mb lb).b) ((dG ta ma la tb mb lb).l)).l) ((dG tb mb lb tc mc lc).t) ((dG tb mb lb tc mc lc).tm) ((dG tb mb lb tc mc lc).b) ((dG tb mb lb tc mc lc).l) : Nat) : Int) : Int) == 0)), (77, .bool (true))] hs .n (by kernel_rfl) (by kernel_rfl) (by kernel_rfl) ?_; clear hs a; intro a hs
  have hb_ : ((((aE ((aS ta ma la ((dG ta ma la tb mb lb).t) ((dG ta ma la tb mb lb).tm) ((dG ta ma la tb mb lb).b) ((dG ta ma la tb mb lb).l)).t) ((aS ta ma la ((dG ta ma la tb mb lb).t) ((dG ta ma la tb mb lb).tm) ((dG ta ma la tb mb lb).b) ((dG ta ma la tb mb lb).l)).tm) ((aS ta ma la ((dG ta ma la tb mb lb).t) ((dG ta ma la tb mb lb).tm) ((dG ta ma la tb mb lb).b) ((dG ta ma la tb mb lb).l)).l) ((dG tb mb lb tc mc lc).t) ((dG tb mb lb tc mc lc).tm) ((dG tb mb lb tc mc lc).b) ((dG tb mb lb tc mc lc).l) : Nat) : Int) : Int) == 0) = true := by rw [z2]; rfl
  rw [hb_] at hs; clear hb_
  refine st_run 4 [(83, .bool ((((aE ta ma la ((dG ta ma la tc mc lc).t) ((dG ta ma la tc mc lc).tm) ((dG ta ma la tc mc lc).b) ((dG ta ma la tc mc lc).l) : Nat) : Int) : Int) == 0)), (81, .bool (true))] hs .n (by kernel_rfl) (by kernel_rfl) (by kernel_rfl) ?_; clear hs a; intro a hs
  have hb_ : ((((aE ta ma la ((dG ta ma la tc mc lc).t) ((dG ta ma la tc mc lc).tm) ((dG ta ma la tc mc lc).b) ((dG ta ma la tc mc lc).l) : Nat) : Int) : Int) == 0) = true := by rw [z3]; rfl
  rw [hb_] at hs; clear hb_
  refine st_run 4 [(87, .agg #[.int .i64 ((aS ta ma la ((dG ta ma la tc mc lc).t) ((dG ta ma la tc mc lc).tm) ((dG ta ma la tc mc lc).b) ((dG ta ma la tc mc lc).l)).t), .int .i64 ((aS ta ma la ((dG ta ma la tc mc lc).t) ((dG ta ma la tc mc lc).tm) ((dG ta ma la tc mc lc).b) ((dG ta ma la tc mc lc).l)).tm), v54]), (86, .agg #[.int .i64 ((aS ((aS ta ma la ((dG ta ma la tb mb lb).t) ((dG ta ma la tb mb lb).tm) ((dG ta ma la tb mb lb).b) ((dG ta ma la tb mb lb).l)).t) ((aS ta ma la ((dG ta ma la tb mb lb).t) ((dG ta ma la tb mb lb).tm) ((dG ta ma la tb mb lb).b) ((dG ta ma la tb mb lb).l)).tm) ((aS ta ma la ((dG ta ma la tb mb lb).t) ((dG ta ma la tb mb lb).tm) ((dG ta ma la tb mb lb).b) ((dG ta ma la tb mb lb).l)).l) ((dG tb mb lb tc mc lc).t) ((dG tb mb lb tc mc lc).tm) ((dG tb mb lb tc mc lc).b) ((dG tb mb lb tc mc lc).l)).t), .int .i64 ((aS ((aS ta ma la ((dG ta ma la tb mb lb).t) ((dG ta ma la tb mb lb).tm) ((dG ta ma la tb mb lb).b) ((dG ta ma la tb mb lb).l)).t) ((aS ta ma la ((dG ta ma la tb mb lb).t) ((dG ta ma la tb mb lb).tm) ((dG ta ma la tb mb lb).b) ((dG ta ma la tb mb lb).l)).tm) ((aS ta ma la ((dG ta ma la tb mb lb).t) ((dG ta ma la tb mb lb).tm) ((dG ta ma la tb mb lb).b) ((dG ta ma la tb mb lb).l)).l) ((dG tb mb lb tc mc lc).t) ((dG tb mb lb tc mc lc).tm) ((dG tb mb lb tc mc lc).b) ((dG tb mb lb tc mc lc).l)).tm), v49]), (85, .bool (true))] hs (.c (hs.mem.del (.s (.s .z))) (.c (hs.mem.del .z) .n)) (by kernel_rfl) (by kernel_rfl) (by kernel_rfl) ?_; clear hs a; intro a hs
  refine st_guardT hs rfl rfl rfl ?_
  refine st_callP (v := .bool (sSame ((aS ((aS ta ma la ((dG ta ma la tb mb lb).t) ((dG ta ma la tb mb lb).tm) ((dG ta ma la tb mb lb).b) ((dG ta ma la tb mb lb).l)).t) ((aS ta ma la ((dG ta ma la tb mb lb).t) ((dG ta ma la tb mb lb).tm) ((dG ta ma la tb mb lb).b) ((dG ta ma la tb mb lb).l)).tm) ((aS ta ma la ((dG ta ma la tb mb lb).t) ((dG ta ma la tb mb lb).tm) ((dG ta ma la tb mb lb).b) ((dG ta ma la tb mb lb).l)).l) ((dG tb mb lb tc mc lc).t) ((dG tb mb lb tc mc lc).tm) ((dG tb mb lb tc mc lc).b) ((dG tb mb lb tc mc lc).l)).t) ((aS ((aS ta ma la ((dG ta ma la tb mb lb).t) ((dG ta ma la tb mb lb).tm) ((dG ta ma la tb mb lb).b) ((dG ta ma la tb mb lb).l)).t) ((aS ta ma la ((dG ta ma la tb mb lb).t) ((dG ta ma la tb mb lb).tm) ((dG ta ma la tb mb lb).b) ((dG ta ma la tb mb lb).l)).tm) ((aS ta ma la ((dG ta ma la tb mb lb).t) ((dG ta ma la tb mb lb).tm) ((dG ta ma la tb mb lb).b) ((dG ta ma la tb mb lb).l)).l) ((dG tb mb lb tc mc lc).t) ((dG tb mb lb tc mc lc).tm) ((dG tb mb lb tc mc lc).b) ((dG tb mb lb tc mc lc).l)).tm) ((aS ((aS ta ma la ((dG ta ma la tb mb lb).t) ((dG ta ma la tb mb lb).tm) ((dG ta ma la tb mb lb).b) ((dG ta ma la tb mb lb).l)).t) ((aS ta ma la ((dG ta ma la tb mb lb).t) ((dG ta ma la tb mb lb).tm) ((dG ta ma la tb mb lb).b) ((dG ta ma la tb mb lb).l)).tm) ((aS ta ma la ((dG ta ma la tb mb lb).t) ((dG ta ma la tb mb lb).tm) ((dG ta ma la tb mb lb).b) ((dG ta ma la tb mb lb).l)).l) ((dG tb mb lb tc mc lc).t) ((dG tb mb lb tc mc lc).tm) ((dG tb mb lb tc mc lc).b) ((dG tb mb lb tc mc lc).l)).l) ((aS ta ma la ((dG ta ma la tc mc lc).t) ((dG ta ma la tc mc lc).tm) ((dG ta ma la tc mc lc).b) ((dG ta ma la tc mc lc).l)).t) ((aS ta ma la ((dG ta ma la tc mc lc).t) ((dG ta ma la tc mc lc).tm) ((dG ta ma la tc mc lc).b) ((dG ta ma la tc mc lc).l)).tm) ((aS ta ma la ((dG ta ma la tc mc lc).t) ((dG ta ma la tc mc lc).tm) ((dG ta ma la tc mc lc).b) ((dG ta ma la tc mc lc).l)).l))) hs (.c rfl (.c rfl .n)) Try.call13 (ssame_ok ((aS ((aS ta ma la ((dG ta ma la tb mb lb).t) ((dG ta ma la tb mb lb).tm) ((dG ta ma la tb mb lb).b) ((dG ta ma la tb mb lb).l)).t) ((aS ta ma la ((dG ta ma la tb mb lb).t) ((dG ta ma la tb mb lb).tm) ((dG ta ma la tb mb lb).b) ((dG ta ma la tb mb lb).l)).tm) ((aS ta ma la ((dG ta ma la tb mb lb).t) ((dG ta ma la tb mb lb).tm) ((dG ta ma la tb mb lb).b) ((dG ta ma la tb mb lb).l)).l) ((dG tb mb lb tc mc lc).t) ((dG tb mb lb tc mc lc).tm) ((dG tb mb lb tc mc lc).b) ((dG tb mb lb tc mc lc).l)).t) ((aS ((aS ta ma la ((dG ta ma la tb mb lb).t) ((dG ta ma la tb mb lb).tm) ((dG ta ma la tb mb lb).b) ((dG ta ma la tb mb lb).l)).t) ((aS ta ma la ((dG ta ma la tb mb lb).t) ((dG ta ma la tb mb lb).tm) ((dG ta ma la tb mb lb).b) ((dG ta ma la tb mb lb).l)).tm) ((aS ta ma la ((dG ta ma la tb mb lb).t) ((dG ta ma la tb mb lb).tm) ((dG ta ma la tb mb lb).b) ((dG ta ma la tb mb lb).l)).l) ((dG tb mb lb tc mc lc).t) ((dG tb mb lb tc mc lc).tm) ((dG tb mb lb tc mc lc).b) ((dG tb mb lb tc mc lc).l)).tm) _ ((aS ((aS ta ma la ((dG ta ma la tb mb lb).t) ((dG ta ma la tb mb lb).tm) ((dG ta ma la tb mb lb).b) ((dG ta ma la tb mb lb).l)).t) ((aS ta ma la ((dG ta ma la tb mb lb).t) ((dG ta ma la tb mb lb).tm) ((dG ta ma la tb mb lb).b) ((dG ta ma la tb mb lb).l)).tm) ((aS ta ma la ((dG ta ma la tb mb lb).t) ((dG ta ma la tb mb lb).tm) ((dG ta ma la tb mb lb).b) ((dG ta ma la tb mb lb).l)).l) ((dG tb mb lb tc mc lc).t) ((dG tb mb lb tc mc lc).tm) ((dG tb mb lb tc mc lc).b) ((dG tb mb lb tc mc lc).l)).l) ((aS ta ma la ((dG ta ma la tc mc lc).t) ((dG ta ma la tc mc lc).tm) ((dG ta ma la tc mc lc).b) ((dG ta ma la tc mc lc).l)).t) ((aS ta ma la ((dG ta ma la tc mc lc).t) ((dG ta ma la tc mc lc).tm) ((dG ta ma la tc mc lc).b) ((dG ta ma la tc mc lc).l)).tm) _ ((aS ta ma la ((dG ta ma la tc mc lc).t) ((dG ta ma la tc mc lc).tm) ((dG ta ma la tc mc lc).b) ((dG ta ma la tc mc lc).l)).l) _ (rd_row (hs.mem.del (.s (.s (.s .z))))) (rd_row (hs.mem.del (.s .z)))) rfl ?_; clear hs w a; intro a w hs
  have hb_ : (sSame ((aS ((aS ta ma la ((dG ta ma la tb mb lb).t) ((dG ta ma la tb mb lb).tm) ((dG ta ma la tb mb lb).b) ((dG ta ma la tb mb lb).l)).t) ((aS ta ma la ((dG ta ma la tb mb lb).t) ((dG ta ma la tb mb lb).tm) ((dG ta ma la tb mb lb).b) ((dG ta ma la tb mb lb).l)).tm) ((aS ta ma la ((dG ta ma la tb mb lb).t) ((dG ta ma la tb mb lb).tm) ((dG ta ma la tb mb lb).b) ((dG ta ma la tb mb lb).l)).l) ((dG tb mb lb tc mc lc).t) ((dG tb mb lb tc mc lc).tm) ((dG tb mb lb tc mc lc).b) ((dG tb mb lb tc mc lc).l)).t) ((aS ((aS ta ma la ((dG ta ma la tb mb lb).t) ((dG ta ma la tb mb lb).tm) ((dG ta ma la tb mb lb).b) ((dG ta ma la tb mb lb).l)).t) ((aS ta ma la ((dG ta ma la tb mb lb).t) ((dG ta ma la tb mb lb).tm) ((dG ta ma la tb mb lb).b) ((dG ta ma la tb mb lb).l)).tm) ((aS ta ma la ((dG ta ma la tb mb lb).t) ((dG ta ma la tb mb lb).tm) ((dG ta ma la tb mb lb).b) ((dG ta ma la tb mb lb).l)).l) ((dG tb mb lb tc mc lc).t) ((dG tb mb lb tc mc lc).tm) ((dG tb mb lb tc mc lc).b) ((dG tb mb lb tc mc lc).l)).tm) ((aS ((aS ta ma la ((dG ta ma la tb mb lb).t) ((dG ta ma la tb mb lb).tm) ((dG ta ma la tb mb lb).b) ((dG ta ma la tb mb lb).l)).t) ((aS ta ma la ((dG ta ma la tb mb lb).t) ((dG ta ma la tb mb lb).tm) ((dG ta ma la tb mb lb).b) ((dG ta ma la tb mb lb).l)).tm) ((aS ta ma la ((dG ta ma la tb mb lb).t) ((dG ta ma la tb mb lb).tm) ((dG ta ma la tb mb lb).b) ((dG ta ma la tb mb lb).l)).l) ((dG tb mb lb tc mc lc).t) ((dG tb mb lb tc mc lc).tm) ((dG tb mb lb tc mc lc).b) ((dG tb mb lb tc mc lc).l)).l) ((aS ta ma la ((dG ta ma la tc mc lc).t) ((dG ta ma la tc mc lc).tm) ((dG ta ma la tc mc lc).b) ((dG ta ma la tc mc lc).l)).t) ((aS ta ma la ((dG ta ma la tc mc lc).t) ((dG ta ma la tc mc lc).tm) ((dG ta ma la tc mc lc).b) ((dG ta ma la tc mc lc).l)).tm) ((aS ta ma la ((dG ta ma la tc mc lc).t) ((dG ta ma la tc mc lc).tm) ((dG ta ma la tc mc lc).b) ((dG ta ma la tc mc lc).l)).l)) = true := by rw [h1.2, h3.2]; dsimp only; rw [h2.2]; exact sSame_refl _ _ _
  rw [hb_] at hs; clear hb_
  refine st_run 2 [(6, .bool (true))] hs .n (by kernel_rfl) (by kernel_rfl) (by kernel_rfl) ?_; clear hs a; intro a hs
  refine wpList_nil ?_
  refine then_n (hK58 _ _ ?_)
  refine wp_ret ?_
  replace hs := hs.drop (.c (.s (.s (.s (.s (.s (.s (.s (.s (.s (.s (.s (.s (.s (.s (.s .z))))))))))))))) (.c (.s (.s (.s (.s (.s (.s (.s (.s (.s (.s (.s (.s (.s (.s .z)))))))))))))) (.c (.s (.s (.s (.s (.s (.s (.s (.s (.s (.s (.s (.s (.s .z))))))))))))) (.c (.s (.s (.s (.s (.s (.s (.s (.s (.s (.s (.s (.s .z)))))))))))) (.c (.s (.s (.s (.s (.s (.s (.s (.s (.s (.s (.s .z))))))))))) (.c (.s (.s (.s (.s (.s (.s (.s (.s (.s (.s .z)))))))))) (.c (.s (.s (.s (.s (.s (.s (.s (.s (.s .z))))))))) (.c (.s (.s (.s (.s (.s (.s (.s (.s .z)))))))) (.c (.s (.s (.s (.s (.s (.s (.s .z))))))) (.c (.s (.s (.s (.s (.s (.s .z)))))) (.c (.s (.s (.s (.s (.s .z))))) (.c (.s (.s (.s (.s .z)))) (.c (.s (.s (.s .z))) (.c (.s (.s .z)) (.c (.s .z) (.c .z .n))))))))))))))))
  exact fin hs rfl rfl ⟨rfl, rfl⟩
end Go.Proofs.Ytbioemaipghagaa
