/- Walks of DeltaDiffs: what each function does, over the program of this seat. Printed by a program of this session. -/
import Derived.Test.YtbioemaipghagaaQWdelA
import Derived.Test.YtbioemaipghagaaQWdelm2
import Derived.Test.YtbioemaipghagaaQWgramV
import Derived.Test.YtbioemaipghagaaQSxRrec
namespace Go.Proofs.Ytbioemaipghagaa
open Go Go.Sx Go.RowKit
set_option linter.unusedVariables false
set_option linter.unusedSimpArgs false
set_option maxRecDepth 4000
set_option maxHeartbeats 1000000

theorem deltaDiffs_ok (ta ma : Int) (ua : Value) (la : List EntR) (tb mb : Int) (ub : Value) (lb : List EntR) (id : Int) (w0 : World) (hta_ : -9223372036854775808 ≤ ta ∧ ta ≤ 9223372036854775807) (hma_ : -9223372036854775808 ≤ ma ∧ ma ≤ 9223372036854775807) (hca : Rd w0 [] ua 9 la.length (la.flatMap entV)) (hwa : ∀ x ∈ la, x.wf) (htb_ : -9223372036854775808 ≤ tb ∧ tb ≤ 9223372036854775807) (hmb_ : -9223372036854775808 ≤ mb ∧ mb ≤ 9223372036854775807) (hcb : Rd w0 [] ub 9 lb.length (lb.flatMap entV)) (hwb : ∀ x ∈ lb, x.wf) : Calls Try.prog 8 #[.agg #[.int .i64 (ta), .int .i64 (ma), ua], .agg #[.int .i64 (tb), .int .i64 (mb), ub], .int .i64 id] w0 (RetV w0 (.bool true)) := by
  have hcea := hca.le
  simp only [maxLen] at hcea
  have hceb := hcb.le
  simp only [maxLen] at hceb
  refine enter (F0 := [(0, .agg #[.int .i64 (ta), .int .i64 (ma), ua]), (1, .agg #[.int .i64 (tb), .int .i64 (mb), ub]), (2, .int .i64 (id))]) Try.func8 rfl rfl rfl (.c (.c (.c .n))) (Mem.nil _) fun a w hs => ?_
  refine wp_seq_k fun K1 hK2 => ?_
  refine wp_region_lit ?_
  refine st_box (cs := [.int .i64 (ta), .int .i64 (ma), ua]) hs rfl rfl rfl ?_; clear hs w a; intro g3 a w hs
  refine st_box (cs := [.int .i64 (tb), .int .i64 (mb), ub]) hs rfl rfl rfl ?_; clear hs w a; intro g4 a w hs
  refine st_as hs rfl rfl ?_; clear hs w a; intro a w hs
  refine wpList_nil ?_
  refine then_n (hK2 _ _ ?_)
  refine wp_seq_k fun K5 hK6 => ?_
  refine wp_seq_k fun K7 hK8 => ?_
  refine wp_region_lit ?_
  refine st_run 2 [(20, .agg #[.int .i64 (tb), .int .i64 (mb), ub]), (19, .agg #[.int .i64 (ta), .int .i64 (ma), ua])] hs (.c (hs.mem.del (.s .z)) (.c (hs.mem.del .z) .n)) (by kernel_rfl) (by kernel_rfl) (by kernel_rfl) ?_; clear hs a; intro a hs
  refine st_bs (cs := [.int .i64 (ta), .int .i64 (ma), ua, .int .i64 (tb), .int .i64 (mb), ub]) hs (.c (.c .n)) (.c rfl (.c rfl .n)) Try.underlying61 (ie := Try.t24) rfl rfl rfl rfl (by decide) (by decide) rfl (by decide) rfl rfl rfl ?_; clear hs w a; intro g9 a w hs
  refine st_callP (v := .bool (decide (100 < la.length ∨ 100 < lb.length))) hs (.c rfl .n) Try.call9 (great2_ok g9 _ _ _ la _ _ _ lb _ (hs.mem.del .z) (hs.rd0 hca) (hs.rd0 hcb)) rfl ?_; clear hs w a; intro a w hs
  refine wpList_nil ?_
  refine then_n (hK8 _ _ ?_)
  refine wp_if hs rfl (fun hc10 => ?_) (fun hc10 => ?_)
  ·
   replace hc10 := of_decide_eq_true hc10
   refine wp_seq_k fun K11 hK12 => ?_
   refine wp_region_lit ?_
   refine st_callP (v := .bool (true)) hs .n Try.call10 (alive10_ok _) rfl ?_; clear hs w a; intro a w hs
   refine st_as hs rfl rfl ?_; clear hs w a; intro a w hs
   refine wpList_nil ?_
   refine then_n (hK12 _ _ ?_)
   refine wp_ret ?_
   refine th_r ?_
   replace hs := hs.drop (.c (.s (.s .z)) (.c (.s .z) (.c .z .n)))
   exact fin hs rfl rfl ⟨rfl, rfl⟩
  replace hc10 := of_decide_eq_false hc10
  refine wp_skip ?_
  refine then_n (hK6 _ _ ?_)
  refine wp_seq_k fun K13 hK14 => ?_
  refine wp_region_lit ?_
  refine st_run 2 [(26, .agg #[.int .i64 (tb), .int .i64 (mb), ub]), (25, .agg #[.int .i64 (ta), .int .i64 (ma), ua])] hs (.c (hs.mem.del (.s (.s .z))) (.c (hs.mem.del (.s .z)) .n)) (by kernel_rfl) (by kernel_rfl) (by kernel_rfl) ?_; clear hs a; intro a hs
  refine st_call hs (.c rfl (.c rfl .n)) Try.call14 .n (ddiff_ok ta ma _ la tb mb _ lb _ (by omega) (by omega) (by omega) (by omega) (hs.rd0 hca) (hs.rd0 hcb) hwa hwb) rfl ?_; clear hs w a; rintro _ _ a w ⟨v15, rfl, rfl⟩ hs; simp only [List.cons_append, List.nil_append] at hs
  have hk16 := dG_rng (at_ := ta) (atm := ma) (a := la) (bt := tb) (btm := mb) (b := lb)
  refine st_run 3 [(29, .int .i64 (((dErr ta ma la tb mb lb : Nat) : Int))), (28, .agg #[.int .i64 ((dG ta ma la tb mb lb).t), .int .i64 ((dG ta ma la tb mb lb).tm), .int .i64 ((dG ta ma la tb mb lb).b), v15])] hs .n (by kernel_rfl) (by kernel_rfl) (by kernel_rfl) ?_; clear hs a; intro a hs
  refine st_alloc (cs := [.int .i64 (0), .int .i64 (0), .int .i64 (0), .slice none 0 0]) hs Try.zeroValue27 rfl rfl ?_; clear hs w a; intro g17 a w hs
  refine st_stBA hs rfl rfl .z (.z (.c (.c (.c (.c .n))))) (ones_c rfl (ones_c rfl (ones_c rfl (ones_c (rd_row (hs.mem.del (.s .z))).isSl.one ones_n)))) Try.sizeOf27 rfl ?_; clear hs w a; intro a w hs
  refine st_as hs rfl rfl ?_; clear hs w a; intro a w hs
  refine wpList_nil ?_
  refine then_n (hK14 _ _ ?_)
  refine wp_seq_k fun K18 hK19 => ?_
  refine wp_region_lit ?_
  refine st_run 2 [(32, .agg #[.int .i64 (tb), .int .i64 (mb), ub]), (31, .agg #[.int .i64 (ta), .int .i64 (ma), ua])] hs (.c (hs.mem.del (.s (.s (.s (.s .z))))) (.c (hs.mem.del (.s (.s (.s .z)))) .n)) (by kernel_rfl) (by kernel_rfl) (by kernel_rfl) ?_; clear hs a; intro a hs
  refine st_call hs (.c rfl (.c rfl .n)) Try.call18 .n (mddiff_ok ta ma _ la tb mb _ lb _ (by omega) (by omega) (by omega) (by omega) (hs.rd0 hca) (hs.rd0 hcb) hwa hwb) rfl ?_; clear hs w a; rintro _ _ a w ⟨v20, rfl, rfl⟩ hs; simp only [List.cons_append, List.nil_append] at hs
  have hk21 := dG_rng (at_ := ta) (atm := ma) (a := la) (bt := tb) (btm := mb) (b := lb)
  refine st_run 3 [(35, .int .i64 (((dErr ta ma la tb mb lb : Nat) : Int))), (34, .agg #[.int .i64 ((dG ta ma la tb mb lb).t), .int .i64 ((dG ta ma la tb mb lb).tm), .int .i64 ((dG ta ma la tb mb lb).b), v20])] hs .n (by kernel_rfl) (by kernel_rfl) (by kernel_rfl) ?_; clear hs a; intro a hs
  refine st_alloc (cs := [.int .i64 (0), .int .i64 (0), .int .i64 (0), .slice none 0 0]) hs Try.zeroValue27 rfl rfl ?_; clear hs w a; intro g22 a w hs
  refine st_stBA hs rfl rfl .z (.z (.c (.c (.c (.c .n))))) (ones_c rfl (ones_c rfl (ones_c rfl (ones_c (rd_row (hs.mem.del (.s .z))).isSl.one ones_n)))) Try.sizeOf27 rfl ?_; clear hs w a; intro a w hs
  refine st_as hs rfl rfl ?_; clear hs w a; intro a w hs
  refine wpList_nil ?_
  refine then_n (hK19 _ _ ?_)
  refine wp_seq_k fun K23 hK24 => ?_
  refine wp_region_lit ?_
  refine st_ldBA hs rfl (.s (.s (.s (.s (.s .z))))) (.z (.c (.c (.c .n)))) Try.isAgg24 Try.sizeOf24 rfl ?_; clear hs w a; intro a w hs
  refine st_call hs (.c rfl .n) Try.call19 .n (full_ok tb mb _ lb _ (by omega) (by omega) (hs.rd0 hcb) hwb) rfl ?_; clear hs w a; rintro _ _ a w ⟨v25, rfl, rfl⟩ hs; simp only [List.cons_append, List.nil_append] at hs
  have hk26 := fG_rng (bt := tb) (btm := mb) (b := lb)
  refine st_run 3 [(40, .int .i64 (((fErr tb mb lb : Nat) : Int))), (39, .agg #[.int .i64 ((fG tb mb lb).t), .int .i64 ((fG tb mb lb).tm), .int .i64 ((fG tb mb lb).b), v25])] hs .n (by kernel_rfl) (by kernel_rfl) (by kernel_rfl) ?_; clear hs a; intro a hs
  refine st_alloc (cs := [.int .i64 (0), .int .i64 (0), .int .i64 (0), .slice none 0 0]) hs Try.zeroValue27 rfl rfl ?_; clear hs w a; intro g27 a w hs
  refine st_stBA hs rfl rfl .z (.z (.c (.c (.c (.c .n))))) (ones_c rfl (ones_c rfl (ones_c rfl (ones_c (rd_row (hs.mem.del (.s .z))).isSl.one ones_n)))) Try.sizeOf27 rfl ?_; clear hs w a; intro a w hs
  refine st_as hs rfl rfl ?_; clear hs w a; intro a w hs
  refine wpList_nil ?_
  refine then_n (hK24 _ _ ?_)
  refine wp_seq_k fun K28 hK29 => ?_
  refine wp_region_lit ?_
  refine st_ldBA hs rfl (.s (.s (.s (.s (.s (.s (.s .z))))))) (.z (.c (.c (.c .n)))) Try.isAgg24 Try.sizeOf24 rfl ?_; clear hs w a; intro a w hs
  refine st_call hs (.c rfl .n) Try.call20 .n (mfull_ok tb mb _ lb _ (by omega) (by omega) (hs.rd0 hcb) hwb) rfl ?_; clear hs w a; rintro _ _ a w ⟨v30, rfl, rfl⟩ hs; simp only [List.cons_append, List.nil_append] at hs
  have hk31 := fG_rng (bt := tb) (btm := mb) (b := lb)
  refine st_run 3 [(45, .int .i64 (((fErr tb mb lb : Nat) : Int))), (44, .agg #[.int .i64 ((fG tb mb lb).t), .int .i64 ((fG tb mb lb).tm), .int .i64 ((fG tb mb lb).b), v30])] hs .n (by kernel_rfl) (by kernel_rfl) (by kernel_rfl) ?_; clear hs a; intro a hs
  refine st_alloc (cs := [.int .i64 (0), .int .i64 (0), .int .i64 (0), .slice none 0 0]) hs Try.zeroValue27 rfl rfl ?_; clear hs w a; intro g32 a w hs
  refine st_stBA hs rfl rfl .z (.z (.c (.c (.c (.c .n))))) (ones_c rfl (ones_c rfl (ones_c rfl (ones_c (rd_row (hs.mem.del (.s .z))).isSl.one ones_n)))) Try.sizeOf27 rfl ?_; clear hs w a; intro a w hs
  refine st_as hs rfl rfl ?_; clear hs w a; intro a w hs
  refine wpList_nil ?_
  refine then_n (hK29 _ _ ?_)
  refine wp_seq_k fun K33 hK34 => ?_
  refine wp_region_lit ?_
  refine st_run 2 [(48, .int .i64 (id)), (47, .agg #[.int .i64 (ta), .int .i64 (ma), ua])] hs (.c (hs.mem.del (.s (.s (.s (.s (.s (.s (.s (.s (.s (.s .z))))))))))) .n) (by kernel_rfl) (by kernel_rfl) (by kernel_rfl) ?_; clear hs a; intro a hs
  refine st_callP (v := .tuple #[.agg #[.int .i64 ((((eget id la).getD entZ)).id), .int .i64 ((((eget id la).getD entZ)).p0), .int .i64 ((((eget id la).getD entZ)).p1), .int .i64 ((((eget id la).getD entZ)).p2), .int .i64 ((((eget id la).getD entZ)).v0), .int .i64 ((((eget id la).getD entZ)).v1), .int .i64 ((((eget id la).getD entZ)).v2), .int .u16 (((((((eget id la).getD entZ)).a).toNat : Nat) : Int)), .int .u8 (((((((eget id la).getD entZ)).g).toNat : Nat) : Int))], .bool ((eget id la).isSome)]) hs (.c rfl (.c rfl .n)) Try.call16 (find_ok ta ma _ la id _ (hs.rd0 hca)) rfl ?_; clear hs w a; intro a w hs
  refine st_run 3 [(51, .bool ((eget id la).isSome)), (50, .agg #[.int .i64 ((((eget id la).getD entZ)).id), .int .i64 ((((eget id la).getD entZ)).p0), .int .i64 ((((eget id la).getD entZ)).p1), .int .i64 ((((eget id la).getD entZ)).p2), .int .i64 ((((eget id la).getD entZ)).v0), .int .i64 ((((eget id la).getD entZ)).v1), .int .i64 ((((eget id la).getD entZ)).v2), .int .u16 (((((((eget id la).getD entZ)).a).toNat : Nat) : Int)), .int .u8 (((((((eget id la).getD entZ)).g).toNat : Nat) : Int))])] hs .n (by kernel_rfl) (by kernel_rfl) (by kernel_rfl) ?_; clear hs a; intro a hs
  refine st_alloc (cs := [.int .i64 (0), .int .i64 (0), .int .i64 (0), .int .i64 (0), .int .i64 (0), .int .i64 (0), .int .i64 (0), .int .u16 (0), .int .u8 (0)]) hs Try.zeroValue47 rfl rfl ?_; clear hs w a; intro g35 a w hs
  refine st_stBA hs rfl rfl .z (.z (.c (.c (.c (.c (.c (.c (.c (.c (.c .n)))))))))) (ones_c rfl (ones_c rfl (ones_c rfl (ones_c rfl (ones_c rfl (ones_c rfl (ones_c rfl (ones_c rfl (ones_c rfl ones_n))))))))) Try.sizeOf47 rfl ?_; clear hs w a; intro a w hs
  refine st_as hs rfl rfl ?_; clear hs w a; intro a w hs
  refine wpList_nil ?_
  refine then_n (hK34 _ _ ?_)
  refine wp_seq_k fun K36 hK37 => ?_
  refine wp_region_lit ?_
  refine st_run 2 [(54, .int .i64 (id)), (53, .agg #[.int .i64 (ta), .int .i64 (ma), ua])] hs (.c (hs.mem.del (.s (.s (.s (.s (.s (.s (.s (.s (.s (.s (.s .z)))))))))))) .n) (by kernel_rfl) (by kernel_rfl) (by kernel_rfl) ?_; clear hs a; intro a hs
  refine st_callP (v := .tuple #[.agg #[.int .i64 ((((eget id la).getD entZ)).id), .int .i64 ((((eget id la).getD entZ)).p0), .int .i64 ((((eget id la).getD entZ)).p1), .int .i64 ((((eget id la).getD entZ)).p2), .int .i64 ((((eget id la).getD entZ)).v0), .int .i64 ((((eget id la).getD entZ)).v1), .int .i64 ((((eget id la).getD entZ)).v2), .int .u16 (((((((eget id la).getD entZ)).a).toNat : Nat) : Int)), .int .u8 (((((((eget id la).getD entZ)).g).toNat : Nat) : Int))], .bool ((eget id la).isSome)]) hs (.c rfl (.c rfl .n)) Try.call21 (mfind_ok ta ma _ la id _ (hs.rd0 hca)) rfl ?_; clear hs w a; intro a w hs
  refine st_run 3 [(57, .bool ((eget id la).isSome)), (56, .agg #[.int .i64 ((((eget id la).getD entZ)).id), .int .i64 ((((eget id la).getD entZ)).p0), .int .i64 ((((eget id la).getD entZ)).p1), .int .i64 ((((eget id la).getD entZ)).p2), .int .i64 ((((eget id la).getD entZ)).v0), .int .i64 ((((eget id la).getD entZ)).v1), .int .i64 ((((eget id la).getD entZ)).v2), .int .u16 (((((((eget id la).getD entZ)).a).toNat : Nat) : Int)), .int .u8 (((((((eget id la).getD entZ)).g).toNat : Nat) : Int))])] hs .n (by kernel_rfl) (by kernel_rfl) (by kernel_rfl) ?_; clear hs a; intro a hs
  refine st_alloc (cs := [.int .i64 (0), .int .i64 (0), .int .i64 (0), .int .i64 (0), .int .i64 (0), .int .i64 (0), .int .i64 (0), .int .u16 (0), .int .u8 (0)]) hs Try.zeroValue47 rfl rfl ?_; clear hs w a; intro g38 a w hs
  refine st_stBA hs rfl rfl .z (.z (.c (.c (.c (.c (.c (.c (.c (.c (.c .n)))))))))) (ones_c rfl (ones_c rfl (ones_c rfl (ones_c rfl (ones_c rfl (ones_c rfl (ones_c rfl (ones_c rfl (ones_c rfl ones_n))))))))) Try.sizeOf47 rfl ?_; clear hs w a; intro a w hs
  refine st_as hs rfl rfl ?_; clear hs w a; intro a w hs
  refine wpList_nil ?_
  refine then_n (hK37 _ _ ?_)
  refine wp_seq_k fun K39 hK40 => ?_
  replace hs := hs.sub (F' := [(18, .bool ((eget id la).isSome)), (17, .pointer (some ⟨g38, 0, none⟩)), (16, .bool ((eget id la).isSome)), (15, .pointer (some ⟨g35, 0, none⟩)), (14, .int .i64 (((fErr tb mb lb : Nat) : Int))), (13, .pointer (some ⟨g32, 0, none⟩)), (12, .int .i64 (((fErr tb mb lb : Nat) : Int))), (11, .pointer (some ⟨g27, 0, none⟩)), (10, .int .i64 (((dErr ta ma la tb mb lb : Nat) : Int))), (9, .pointer (some ⟨g22, 0, none⟩)), (8, .int .i64 (((dErr ta ma la tb mb lb : Nat) : Int))), (7, .pointer (some ⟨g17, 0, none⟩)), (3, .pointer (some ⟨g3, 0, none⟩))]) (.c rfl (.c rfl (.c rfl (.c rfl (.c rfl (.c rfl (.c rfl (.c rfl (.c rfl (.c rfl (.c rfl (.c rfl (.c rfl .n)))))))))))))
  refine wp_drawG (M0 := [blk g38 [.int .i64 ((((eget id la).getD entZ)).id), .int .i64 ((((eget id la).getD entZ)).p0), .int .i64 ((((eget id la).getD entZ)).p1), .int .i64 ((((eget id la).getD entZ)).p2), .int .i64 ((((eget id la).getD entZ)).v0), .int .i64 ((((eget id la).getD entZ)).v1), .int .i64 ((((eget id la).getD entZ)).v2), .int .u16 (((((((eget id la).getD entZ)).a).toNat : Nat) : Int)), .int .u8 (((((((eget id la).getD entZ)).g).toNat : Nat) : Int))] 47, blk g35 [.int .i64 ((((eget id la).getD entZ)).id), .int .i64 ((((eget id la).getD entZ)).p0), .int .i64 ((((eget id la).getD entZ)).p1), .int .i64 ((((eget id la).getD entZ)).p2), .int .i64 ((((eget id la).getD entZ)).v0), .int .i64 ((((eget id la).getD entZ)).v1), .int .i64 ((((eget id la).getD entZ)).v2), .int .u16 (((((((eget id la).getD entZ)).a).toNat : Nat) : Int)), .int .u8 (((((((eget id la).getD entZ)).g).toNat : Nat) : Int))] 47, blk g32 [.int .i64 ((fG tb mb lb).t), .int .i64 ((fG tb mb lb).tm), .int .i64 ((fG tb mb lb).b), v30] 27, row v30 45 9 ((fG tb mb lb).l.length) (((fG tb mb lb).l.flatMap recV)), blk g27 [.int .i64 ((fG tb mb lb).t), .int .i64 ((fG tb mb lb).tm), .int .i64 ((fG tb mb lb).b), v25] 27, row v25 45 9 ((fG tb mb lb).l.length) (((fG tb mb lb).l.flatMap recV)), blk g22 [.int .i64 ((dG ta ma la tb mb lb).t), .int .i64 ((dG ta ma la tb mb lb).tm), .int .i64 ((dG ta ma la tb mb lb).b), v20] 27, row v20 45 9 ((dG ta ma la tb mb lb).l.length) (((dG ta ma la tb mb lb).l.flatMap recV)), blk g17 [.int .i64 ((dG ta ma la tb mb lb).t), .int .i64 ((dG ta ma la tb mb lb).tm), .int .i64 ((dG ta ma la tb mb lb).b), v15] 27, row v15 45 9 ((dG ta ma la tb mb lb).l.length) (((dG ta ma la tb mb lb).l.flatMap recV)), blk g9 [.int .i64 (ta), .int .i64 (ma), ua, .int .i64 (tb), .int .i64 (mb), ub] 24, blk g4 [.int .i64 (tb), .int .i64 (mb), ub] 24, blk g3 [.int .i64 (ta), .int .i64 (ma), ua] 24]) (Ds := [Pv 0 (.bool (true)), Pv 1 (.bool (true)), Pv 2 (.agg #[.int .i64 ((dG ta ma la tb mb lb).t), .int .i64 ((dG ta ma la tb mb lb).tm), .int .i64 ((dG ta ma la tb mb lb).b), v15]), Pv 3 (.agg #[.int .i64 ((dG ta ma la tb mb lb).t), .int .i64 ((dG ta ma la tb mb lb).tm), .int .i64 ((dG ta ma la tb mb lb).b), v20]), Pv 4 (.bool (true)), Pv 5 (.bool (true)), Pv 6 (.bool (true)), Pv 7 (.int .i64 (((dErr ta ma la tb mb lb : Nat) : Int))), Pv 8 (.int .i64 (((dErr ta ma la tb mb lb : Nat) : Int))), Pv 9 (.bool (true)), Pv 10 (.bool (true)), Pv 11 (.bool (true)), Pv 12 (.agg #[.int .i64 ((fG tb mb lb).t), .int .i64 ((fG tb mb lb).tm), .int .i64 ((fG tb mb lb).b), v25]), Pv 13 (.agg #[.int .i64 ((fG tb mb lb).t), .int .i64 ((fG tb mb lb).tm), .int .i64 ((fG tb mb lb).b), v30]), Pv 14 (.bool (true)), Pv 15 (.bool (true)), Pv 16 (.bool (true)), Pv 17 (.int .i64 (((fErr tb mb lb : Nat) : Int))), Pv 18 (.int .i64 (((fErr tb mb lb : Nat) : Int))), Pv 19 (.bool (true)), Pv 20 (.bool (true)), Pv 21 (.bool (true)), Pv 22 (.agg #[.int .i64 (ta), .int .i64 (ma), ua]), Pv 23 (.int .i64 (((snapErr ta ma la : Nat) : Int))), Pv 24 (.agg #[.int .i64 (ta), .int .i64 (ma), ua]), Pv 25 (.int .i64 (((snapErr ta ma la : Nat) : Int))), Pv 26 (.bool (true)), Pv 27 (.bool (true)), Pv 28 (.bool (true)), Pv 29 (.agg #[.int .i64 ((((eget id la).getD entZ)).id), .int .i64 ((((eget id la).getD entZ)).p0), .int .i64 ((((eget id la).getD entZ)).p1), .int .i64 ((((eget id la).getD entZ)).p2), .int .i64 ((((eget id la).getD entZ)).v0), .int .i64 ((((eget id la).getD entZ)).v1), .int .i64 ((((eget id la).getD entZ)).v2), .int .u16 (((((((eget id la).getD entZ)).a).toNat : Nat) : Int)), .int .u8 (((((((eget id la).getD entZ)).g).toNat : Nat) : Int))]), Pv 30 (.agg #[.int .i64 ((((eget id la).getD entZ)).id), .int .i64 ((((eget id la).getD entZ)).p0), .int .i64 ((((eget id la).getD entZ)).p1), .int .i64 ((((eget id la).getD entZ)).p2), .int .i64 ((((eget id la).getD entZ)).v0), .int .i64 ((((eget id la).getD entZ)).v1), .int .i64 ((((eget id la).getD entZ)).v2), .int .u16 (((((((eget id la).getD entZ)).a).toNat : Nat) : Int)), .int .u8 (((((((eget id la).getD entZ)).g).toNat : Nat) : Int))]), Pv 31 (.bool (true)), Pv 32 (.bool (true)), Pv 33 (.bool (true)), Pv 34 (.bool ((eget id la).isSome)), Pv 35 (.bool ((eget id la).isSome)), Pv 36 (.bool (true)), Pv 37 (.bool (true)), Pv 38 (.bool (true))]) (by kernel_rfl) hs rfl .n (by kernel_rfl) (by kernel_rfl) (by kernel_rfl) ?_ ?_
  ·
   refine (.c ?_ (.c ?_ (.c ?_ (.c ?_ (.c ?_ (.c ?_ (.c ?_ (.c ?_ (.c ?_ (.c ?_ (.c ?_ (.c ?_ (.c ?_ (.c ?_ (.c ?_ (.c ?_ (.c ?_ (.c ?_ (.c ?_ (.c ?_ (.c ?_ (.c ?_ (.c ?_ (.c ?_ (.c ?_ (.c ?_ (.c ?_ (.c ?_ (.c ?_ (.c ?_ (.c ?_ (.c ?_ (.c ?_ (.c ?_ (.c ?_ (.c ?_ (.c ?_ (.c ?_ (.c ?_ .n)))))))))))))))))))))))))))))))))))))))
   ·
    intro a_ w_ R_ rest_ vs41 hm hs ht hx
    have hm0 := hm.mid
    have hs0 := hs.bare
    refine st_callP (v := .bool (true)) hs .n Try.call10 (alive10_ok _) rfl ?_; clear hs; intro a w hs
    exact wpList_nil ⟨rfl, _, _, hs0, .r, hs, rfl⟩
   · exact trip_pv (m := 39) (.c (k := 0) (by kernel_rfl) rfl rfl .n) (fun hm0 hm hx => .n) (by kernel_rfl) (by kernel_rfl) rfl
   · exact trip_pg (m := 39) rfl (.c (k := 1) (by kernel_rfl) rfl rfl .n) rfl (fun hm0 hm hx => (.c (hm0.del (.s (.s (.s (.s (.s (.s (.s (.s .z))))))))))) (by kernel_rfl) (by kernel_rfl) rfl
   · exact trip_pg (m := 39) rfl (.c (k := 1) (by kernel_rfl) rfl rfl .n) rfl (fun hm0 hm hx => (.c (hm0.del (.s (.s (.s (.s (.s (.s .z))))))))) (by kernel_rfl) (by kernel_rfl) rfl
   ·
    intro a_ w_ R_ rest_ vs41 hm hs ht hx
    have hm0 := hm.mid
    replace hs := hs.lrn (ht 1 (twB_spec 39 _ (by kernel_rfl))) rfl rfl
    replace hs := hs.lrn (ht 2 (twB_spec 39 _ (by kernel_rfl))) rfl rfl
    replace hs := hs.lrn (ht 3 (twB_spec 39 _ (by kernel_rfl))) rfl rfl
    have hs0 := hs.bare
    refine st_guardT hs rfl rfl rfl ?_
    refine st_callP (v := .bool (true)) hs (.c rfl (.c rfl .n)) Try.call22 (gsame_ok _ _ _ _ _ ((dG ta ma la tb mb lb).l) _ (rd_row (hm0.del (.s (.s (.s (.s (.s (.s (.s (.s (.s .z))))))))))) (rd_row (hm0.del (.s (.s (.s (.s (.s (.s (.s .z)))))))))) rfl ?_; clear hs; intro a w hs
    exact wpList_nil ⟨rfl, _, _, hs0, (.c (.c (.c .r))), hs, rfl⟩
   · exact trip_pv (m := 39) (.c (k := 1) (by kernel_rfl) rfl rfl (.c (k := 4) (by kernel_rfl) rfl rfl .n)) (fun hm0 hm hx => .n) (by kernel_rfl) (by kernel_rfl) rfl
   · exact trip_pv (m := 39) (.c (k := 5) (by kernel_rfl) rfl rfl .n) (fun hm0 hm hx => .n) (by kernel_rfl) (by kernel_rfl) rfl
   · exact trip_pg (m := 39) rfl (.c (k := 6) (by kernel_rfl) rfl rfl .n) rfl (fun hm0 hm hx => .n) (by kernel_rfl) (by kernel_rfl) rfl
   · exact trip_pg (m := 39) rfl (.c (k := 6) (by kernel_rfl) rfl rfl .n) rfl (fun hm0 hm hx => .n) (by kernel_rfl) (by kernel_rfl) rfl
   ·
    intro a_ w_ R_ rest_ vs41 hm hs ht hx
    have hm0 := hm.mid
    replace hs := hs.lrn (ht 6 (twB_spec 39 _ (by kernel_rfl))) rfl rfl
    replace hs := hs.lrn (ht 7 (twB_spec 39 _ (by kernel_rfl))) rfl rfl
    replace hs := hs.lrn (ht 8 (twB_spec 39 _ (by kernel_rfl))) rfl rfl
    have hs0 := hs.bare
    refine st_guardT hs rfl rfl rfl ?_
    refine st_eql hs rfl rfl rfl ?_; clear hs; intro a w hs
    have hb_ : ((((dErr ta ma la tb mb lb : Nat) : Int) : Int) == (((dErr ta ma la tb mb lb : Nat) : Int))) = true := beq_self_eq_true _
    rw [hb_] at hs; clear hb_
    exact wpList_nil ⟨rfl, _, _, hs0, (.c (.c (.c .r))), hs, rfl⟩
   · exact trip_pv (m := 39) (.c (k := 6) (by kernel_rfl) rfl rfl (.c (k := 9) (by kernel_rfl) rfl rfl .n)) (fun hm0 hm hx => .n) (by kernel_rfl) (by kernel_rfl) rfl
   · exact trip_pv (m := 39) (.c (k := 10) (by kernel_rfl) rfl rfl .n) (fun hm0 hm hx => .n) (by kernel_rfl) (by kernel_rfl) rfl
   · exact trip_pg (m := 39) rfl (.c (k := 11) (by kernel_rfl) rfl rfl .n) rfl (fun hm0 hm hx => (.c (hm0.del (.s (.s (.s (.s .z))))))) (by kernel_rfl) (by kernel_rfl) rfl
   · exact trip_pg (m := 39) rfl (.c (k := 11) (by kernel_rfl) rfl rfl .n) rfl (fun hm0 hm hx => (.c (hm0.del (.s (.s .z))))) (by kernel_rfl) (by kernel_rfl) rfl
   ·
    intro a_ w_ R_ rest_ vs41 hm hs ht hx
    have hm0 := hm.mid
    replace hs := hs.lrn (ht 11 (twB_spec 39 _ (by kernel_rfl))) rfl rfl
    replace hs := hs.lrn (ht 12 (twB_spec 39 _ (by kernel_rfl))) rfl rfl
    replace hs := hs.lrn (ht 13 (twB_spec 39 _ (by kernel_rfl))) rfl rfl
    have hs0 := hs.bare
    refine st_guardT hs rfl rfl rfl ?_
    refine st_callP (v := .bool (true)) hs (.c rfl (.c rfl .n)) Try.call22 (gsame_ok _ _ _ _ _ ((fG tb mb lb).l) _ (rd_row (hm0.del (.s (.s (.s (.s (.s .z))))))) (rd_row (hm0.del (.s (.s (.s .z)))))) rfl ?_; clear hs; intro a w hs
    exact wpList_nil ⟨rfl, _, _, hs0, (.c (.c (.c .r))), hs, rfl⟩
   · exact trip_pv (m := 39) (.c (k := 11) (by kernel_rfl) rfl rfl (.c (k := 14) (by kernel_rfl) rfl rfl .n)) (fun hm0 hm hx => .n) (by kernel_rfl) (by kernel_rfl) rfl
   · exact trip_pv (m := 39) (.c (k := 15) (by kernel_rfl) rfl rfl .n) (fun hm0 hm hx => .n) (by kernel_rfl) (by kernel_rfl) rfl
   · exact trip_pg (m := 39) rfl (.c (k := 16) (by kernel_rfl) rfl rfl .n) rfl (fun hm0 hm hx => .n) (by kernel_rfl) (by kernel_rfl) rfl
   · exact trip_pg (m := 39) rfl (.c (k := 16) (by kernel_rfl) rfl rfl .n) rfl (fun hm0 hm hx => .n) (by kernel_rfl) (by kernel_rfl) rfl
   ·
    intro a_ w_ R_ rest_ vs41 hm hs ht hx
    have hm0 := hm.mid
    replace hs := hs.lrn (ht 16 (twB_spec 39 _ (by kernel_rfl))) rfl rfl
    replace hs := hs.lrn (ht 17 (twB_spec 39 _ (by kernel_rfl))) rfl rfl
    replace hs := hs.lrn (ht 18 (twB_spec 39 _ (by kernel_rfl))) rfl rfl
    have hs0 := hs.bare
    refine st_guardT hs rfl rfl rfl ?_
    refine st_eql hs rfl rfl rfl ?_; clear hs; intro a w hs
    have hb_ : ((((fErr tb mb lb : Nat) : Int) : Int) == (((fErr tb mb lb : Nat) : Int))) = true := beq_self_eq_true _
    rw [hb_] at hs; clear hb_
    exact wpList_nil ⟨rfl, _, _, hs0, (.c (.c (.c .r))), hs, rfl⟩
   · exact trip_pv (m := 39) (.c (k := 16) (by kernel_rfl) rfl rfl (.c (k := 19) (by kernel_rfl) rfl rfl .n)) (fun hm0 hm hx => .n) (by kernel_rfl) (by kernel_rfl) rfl
   · exact trip_pv (m := 39) (.c (k := 20) (by kernel_rfl) rfl rfl .n) (fun hm0 hm hx => .n) (by kernel_rfl) (by kernel_rfl) rfl
   · exact trip_pg (m := 39) rfl (.c (k := 21) (by kernel_rfl) rfl rfl .n) rfl (fun hm0 hm hx => (.c (hm0.del (.s (.s (.s (.s (.s (.s (.s (.s (.s (.s (.s (.s .z))))))))))))))) (by kernel_rfl) (by kernel_rfl) rfl
   ·
    intro a_ w_ R_ rest_ vs41 hm hs ht hx
    have hm0 := hm.mid
    replace hs := hs.lrn (ht 21 (twB_spec 39 _ (by kernel_rfl))) rfl rfl
    replace hs := hs.lrn (ht 22 (twB_spec 39 _ (by kernel_rfl))) rfl rfl
    have hs0 := hs.bare
    refine st_guardT hs rfl rfl rfl ?_
    refine st_callP (v := .int .i64 (((snapErr ta ma la : Nat) : Int))) hs (.c rfl .n) Try.call15 (scheck_ok ta ma _ la _ (by omega) (by omega) (hm.rd0 hca)) rfl ?_; clear hs; intro a w hs
    exact wpList_nil ⟨rfl, _, _, hs0, (.c (.c .r)), hs, rfl⟩
   · exact trip_pg (m := 39) rfl (.c (k := 21) (by kernel_rfl) rfl rfl .n) rfl (fun hm0 hm hx => (.c (hm0.del (.s (.s (.s (.s (.s (.s (.s (.s (.s (.s (.s (.s .z))))))))))))))) (by kernel_rfl) (by kernel_rfl) rfl
   ·
    intro a_ w_ R_ rest_ vs41 hm hs ht hx
    have hm0 := hm.mid
    replace hs := hs.lrn (ht 21 (twB_spec 39 _ (by kernel_rfl))) rfl rfl
    replace hs := hs.lrn (ht 24 (twB_spec 39 _ (by kernel_rfl))) rfl rfl
    have hs0 := hs.bare
    refine st_guardT hs rfl rfl rfl ?_
    refine st_callP (v := .int .i64 (((snapErr ta ma la : Nat) : Int))) hs (.c rfl .n) Try.call23 (mscheck_ok ta ma _ la _ (by omega) (by omega) (hm.rd0 hca)) rfl ?_; clear hs; intro a w hs
    exact wpList_nil ⟨rfl, _, _, hs0, (.c (.c .r)), hs, rfl⟩
   ·
    intro a_ w_ R_ rest_ vs41 hm hs ht hx
    have hm0 := hm.mid
    replace hs := hs.lrn (ht 21 (twB_spec 39 _ (by kernel_rfl))) rfl rfl
    replace hs := hs.lrn (ht 23 (twB_spec 39 _ (by kernel_rfl))) rfl rfl
    replace hs := hs.lrn (ht 25 (twB_spec 39 _ (by kernel_rfl))) rfl rfl
    have hs0 := hs.bare
    refine st_guardT hs rfl rfl rfl ?_
    refine st_eql hs rfl rfl rfl ?_; clear hs; intro a w hs
    have hb_ : ((((snapErr ta ma la : Nat) : Int) : Int) == (((snapErr ta ma la : Nat) : Int))) = true := beq_self_eq_true _
    rw [hb_] at hs; clear hb_
    exact wpList_nil ⟨rfl, _, _, hs0, (.c (.c (.c .r))), hs, rfl⟩
   · exact trip_pv (m := 39) (.c (k := 21) (by kernel_rfl) rfl rfl (.c (k := 26) (by kernel_rfl) rfl rfl .n)) (fun hm0 hm hx => .n) (by kernel_rfl) (by kernel_rfl) rfl
   · exact trip_pv (m := 39) (.c (k := 27) (by kernel_rfl) rfl rfl .n) (fun hm0 hm hx => .n) (by kernel_rfl) (by kernel_rfl) rfl
   · exact trip_pg (m := 39) rfl (.c (k := 28) (by kernel_rfl) rfl rfl .n) rfl (fun hm0 hm hx => (.c (hm0.del (.s .z)))) (by kernel_rfl) (by kernel_rfl) rfl
   · exact trip_pg (m := 39) rfl (.c (k := 28) (by kernel_rfl) rfl rfl .n) rfl (fun hm0 hm hx => (.c (hm0.del .z))) (by kernel_rfl) (by kernel_rfl) rfl
   ·
    intro a_ w_ R_ rest_ vs41 hm hs ht hx
    have hm0 := hm.mid
    replace hs := hs.lrn (ht 28 (twB_spec 39 _ (by kernel_rfl))) rfl rfl
    replace hs := hs.lrn (ht 29 (twB_spec 39 _ (by kernel_rfl))) rfl rfl
    replace hs := hs.lrn (ht 30 (twB_spec 39 _ (by kernel_rfl))) rfl rfl
    have hs0 := hs.bare
    refine st_guardT hs rfl rfl rfl ?_
    refine st_eqF (xs := [.int .i64 ((((eget id la).getD entZ)).id), .int .i64 ((((eget id la).getD entZ)).p0), .int .i64 ((((eget id la).getD entZ)).p1), .int .i64 ((((eget id la).getD entZ)).p2), .int .i64 ((((eget id la).getD entZ)).v0), .int .i64 ((((eget id la).getD entZ)).v1), .int .i64 ((((eget id la).getD entZ)).v2), .int .u16 (((((((eget id la).getD entZ)).a).toNat : Nat) : Int)), .int .u8 (((((((eget id la).getD entZ)).g).toNat : Nat) : Int))]) (ys := [.int .i64 ((((eget id la).getD entZ)).id), .int .i64 ((((eget id la).getD entZ)).p0), .int .i64 ((((eget id la).getD entZ)).p1), .int .i64 ((((eget id la).getD entZ)).p2), .int .i64 ((((eget id la).getD entZ)).v0), .int .i64 ((((eget id la).getD entZ)).v1), .int .i64 ((((eget id la).getD entZ)).v2), .int .u16 (((((((eget id la).getD entZ)).a).toNat : Nat) : Int)), .int .u8 (((((((eget id la).getD entZ)).g).toNat : Nat) : Int))]) (ks := [.i .i64, .i .i64, .i .i64, .i .i64, .i .i64, .i .i64, .i .i64, .i .u16, .i .u8]) 6 hs rfl rfl (by kernel_rfl) (by kernel_rfl) (by kernel_rfl) (by decide) (.i (.i (.i (.i (.i (.i (.i (.i (.i .n))))))))) (.i (.i (.i (.i (.i (.i (.i (.i (.i .n))))))))) rfl ?_; clear hs; intro a w hs
    have hb_ : (eqCells [.int .i64 ((((eget id la).getD entZ)).id), .int .i64 ((((eget id la).getD entZ)).p0), .int .i64 ((((eget id la).getD entZ)).p1), .int .i64 ((((eget id la).getD entZ)).p2), .int .i64 ((((eget id la).getD entZ)).v0), .int .i64 ((((eget id la).getD entZ)).v1), .int .i64 ((((eget id la).getD entZ)).v2), .int .u16 (((((((eget id la).getD entZ)).a).toNat : Nat) : Int)), .int .u8 (((((((eget id la).getD entZ)).g).toNat : Nat) : Int))] [.int .i64 ((((eget id la).getD entZ)).id), .int .i64 ((((eget id la).getD entZ)).p0), .int .i64 ((((eget id la).getD entZ)).p1), .int .i64 ((((eget id la).getD entZ)).p2), .int .i64 ((((eget id la).getD entZ)).v0), .int .i64 ((((eget id la).getD entZ)).v1), .int .i64 ((((eget id la).getD entZ)).v2), .int .u16 (((((((eget id la).getD entZ)).a).toNat : Nat) : Int)), .int .u8 (((((((eget id la).getD entZ)).g).toNat : Nat) : Int))]) = true := entV_eq.2 rfl
    rw [hb_] at hs; clear hb_
    exact wpList_nil ⟨rfl, _, _, hs0, (.c (.c (.c .r))), hs, rfl⟩
   · exact trip_pv (m := 39) (.c (k := 28) (by kernel_rfl) rfl rfl (.c (k := 31) (by kernel_rfl) rfl rfl .n)) (fun hm0 hm hx => .n) (by kernel_rfl) (by kernel_rfl) rfl
   · exact trip_pv (m := 39) (.c (k := 32) (by kernel_rfl) rfl rfl .n) (fun hm0 hm hx => .n) (by kernel_rfl) (by kernel_rfl) rfl
   · exact trip_pg (m := 39) rfl (.c (k := 33) (by kernel_rfl) rfl rfl .n) rfl (fun hm0 hm hx => .n) (by kernel_rfl) (by kernel_rfl) rfl
   · exact trip_pg (m := 39) rfl (.c (k := 33) (by kernel_rfl) rfl rfl .n) rfl (fun hm0 hm hx => .n) (by kernel_rfl) (by kernel_rfl) rfl
   ·
    intro a_ w_ R_ rest_ vs41 hm hs ht hx
    have hm0 := hm.mid
    replace hs := hs.lrn (ht 33 (twB_spec 39 _ (by kernel_rfl))) rfl rfl
    replace hs := hs.lrn (ht 34 (twB_spec 39 _ (by kernel_rfl))) rfl rfl
    replace hs := hs.lrn (ht 35 (twB_spec 39 _ (by kernel_rfl))) rfl rfl
    have hs0 := hs.bare
    refine st_guardT hs rfl rfl rfl ?_
    refine st_eqb hs rfl rfl Try.underlying4 rfl ?_; clear hs; intro a w hs
    have hb_ : (((eget id la).isSome : Bool) == ((eget id la).isSome)) = true := beq_self_eq_true _
    rw [hb_] at hs; clear hb_
    exact wpList_nil ⟨rfl, _, _, hs0, (.c (.c (.c .r))), hs, rfl⟩
   · exact trip_pv (m := 39) (.c (k := 33) (by kernel_rfl) rfl rfl (.c (k := 36) (by kernel_rfl) rfl rfl .n)) (fun hm0 hm hx => .n) (by kernel_rfl) (by kernel_rfl) rfl
   exact trip_pv (m := 39) (.c (k := 37) (by kernel_rfl) rfl rfl .n) (fun hm0 hm hx => .n) (by kernel_rfl) (by kernel_rfl) rfl
  clear hs w a; intro a w vs41 hs hf
  replace hs : St _ _ _ _ [blk g38 [.int .i64 ((((eget id la).getD entZ)).id), .int .i64 ((((eget id la).getD entZ)).p0), .int .i64 ((((eget id la).getD entZ)).p1), .int .i64 ((((eget id la).getD entZ)).p2), .int .i64 ((((eget id la).getD entZ)).v0), .int .i64 ((((eget id la).getD entZ)).v1), .int .i64 ((((eget id la).getD entZ)).v2), .int .u16 (((((((eget id la).getD entZ)).a).toNat : Nat) : Int)), .int .u8 (((((((eget id la).getD entZ)).g).toNat : Nat) : Int))] 47, blk g35 [.int .i64 ((((eget id la).getD entZ)).id), .int .i64 ((((eget id la).getD entZ)).p0), .int .i64 ((((eget id la).getD entZ)).p1), .int .i64 ((((eget id la).getD entZ)).p2), .int .i64 ((((eget id la).getD entZ)).v0), .int .i64 ((((eget id la).getD entZ)).v1), .int .i64 ((((eget id la).getD entZ)).v2), .int .u16 (((((((eget id la).getD entZ)).a).toNat : Nat) : Int)), .int .u8 (((((((eget id la).getD entZ)).g).toNat : Nat) : Int))] 47, blk g32 [.int .i64 ((fG tb mb lb).t), .int .i64 ((fG tb mb lb).tm), .int .i64 ((fG tb mb lb).b), v30] 27, row v30 45 9 ((fG tb mb lb).l.length) (((fG tb mb lb).l.flatMap recV)), blk g27 [.int .i64 ((fG tb mb lb).t), .int .i64 ((fG tb mb lb).tm), .int .i64 ((fG tb mb lb).b), v25] 27, row v25 45 9 ((fG tb mb lb).l.length) (((fG tb mb lb).l.flatMap recV)), blk g22 [.int .i64 ((dG ta ma la tb mb lb).t), .int .i64 ((dG ta ma la tb mb lb).tm), .int .i64 ((dG ta ma la tb mb lb).b), v20] 27, row v20 45 9 ((dG ta ma la tb mb lb).l.length) (((dG ta ma la tb mb lb).l.flatMap recV)), blk g17 [.int .i64 ((dG ta ma la tb mb lb).t), .int .i64 ((dG ta ma la tb mb lb).tm), .int .i64 ((dG ta ma la tb mb lb).b), v15] 27, row v15 45 9 ((dG ta ma la tb mb lb).l.length) (((dG ta ma la tb mb lb).l.flatMap recV)), blk g9 [.int .i64 (ta), .int .i64 (ma), ua, .int .i64 (tb), .int .i64 (mb), ub] 24, blk g4 [.int .i64 (tb), .int .i64 (mb), ub] 24, blk g3 [.int .i64 (ta), .int .i64 (ma), ua] 24] _ _ := hs
  obtain ⟨e38, q38⟩ := hf 38 (by decide)
  replace e38 : _ = some (vs41 38) := e38.val rfl
  rw [show vs41 38 = .bool (true) from q38] at e38
  replace hs := hs.learn e38; clear e38 q38
  clear hf
  refine then_n (hK40 _ _ ?_)
  refine wp_ret ?_
  replace hs := hs.drop (.c (.s (.s (.s (.s (.s (.s (.s (.s (.s (.s (.s (.s .z)))))))))))) (.c (.s (.s (.s (.s (.s (.s (.s (.s (.s (.s (.s .z))))))))))) (.c (.s (.s (.s (.s (.s (.s (.s (.s (.s (.s .z)))))))))) (.c (.s (.s (.s (.s (.s (.s (.s (.s (.s .z))))))))) (.c (.s (.s (.s (.s (.s (.s (.s (.s .z)))))))) (.c (.s (.s (.s (.s (.s (.s (.s .z))))))) (.c (.s (.s (.s (.s (.s (.s .z)))))) (.c (.s (.s (.s (.s (.s .z))))) (.c (.s (.s (.s (.s .z)))) (.c (.s (.s (.s .z))) (.c (.s (.s .z)) (.c (.s .z) (.c .z .n)))))))))))))
  exact fin hs rfl rfl ⟨rfl, rfl⟩
end Go.Proofs.Ytbioemaipghagaa
