/- Walks of DeltaRecords: what each function does, over the program of this seat. Printed by a program of this session. -/
import Derived.Test.YtbioemaipghagaaQWdelA
import Derived.Test.YtbioemaipghagaaQSxPdeltaT
import Derived.Test.YtbioemaipghagaaQSxRrec
namespace Go.Proofs.Ytbioemaipghagaa
open Go Go.Sx Go.RowKit
set_option linter.unusedVariables false
set_option linter.unusedSimpArgs false
set_option maxRecDepth 4000
set_option maxHeartbeats 1000000

theorem deltaRecords_ok (ta ma : Int) (ua : Value) (la : List EntR) (tb mb : Int) (ub : Value) (lb : List EntR) (w0 : World) (hta_ : -9223372036854775808 ≤ ta ∧ ta ≤ 9223372036854775807) (hma_ : -9223372036854775808 ≤ ma ∧ ma ≤ 9223372036854775807) (hca : Rd w0 [] ua 9 la.length (la.flatMap entV)) (hwa : ∀ x ∈ la, x.wf) (htb_ : -9223372036854775808 ≤ tb ∧ tb ≤ 9223372036854775807) (hmb_ : -9223372036854775808 ≤ mb ∧ mb ≤ 9223372036854775807) (hcb : Rd w0 [] ub 9 lb.length (lb.flatMap entV)) (hwb : ∀ x ∈ lb, x.wf) : Calls Try.prog 7 #[.agg #[.int .i64 (ta), .int .i64 (ma), ua], .agg #[.int .i64 (tb), .int .i64 (mb), ub]] w0 (RetV w0 (.bool true)) := by
  have hcea := hca.le
  simp only [maxLen] at hcea
  have hceb := hcb.le
  simp only [maxLen] at hceb
  refine enter (F0 := [(0, .agg #[.int .i64 (ta), .int .i64 (ma), ua]), (1, .agg #[.int .i64 (tb), .int .i64 (mb), ub])]) Try.func7 rfl rfl rfl (.c (.c .n)) (Mem.nil _) fun a w hs => ?_
  refine wp_seq_k fun K1 hK2 => ?_
  refine wp_region_lit ?_
  refine st_box (cs := [.int .i64 (ta), .int .i64 (ma), ua]) hs rfl rfl rfl ?_; clear hs w a; intro g3 a w hs
  refine st_box (cs := [.int .i64 (tb), .int .i64 (mb), ub]) hs rfl rfl rfl ?_; clear hs w a; intro g4 a w hs
  refine st_as hs rfl rfl ?_; clear hs w a; intro a w hs
  refine wpList_nil ?_
  refine then_n (hK2 _ _ ?_)
  refine wp_seq_k fun K5 hK6 => ?_
  refine wp_seq_k fun K7 hK8 => ?_
  refine wp_region_lit ?_
  refine st_run 2 [(19, .agg #[.int .i64 (tb), .int .i64 (mb), ub]), (18, .agg #[.int .i64 (ta), .int .i64 (ma), ua])] hs (.c (hs.mem.del (.s .z)) (.c (hs.mem.del .z) .n)) (by kernel_rfl) (by kernel_rfl) (by kernel_rfl) ?_; clear hs a; intro a hs
  refine st_bs (cs := [.int .i64 (ta), .int .i64 (ma), ua, .int .i64 (tb), .int .i64 (mb), ub]) hs (.c (.c .n)) (.c rfl (.c rfl .n)) Try.underlying61 (ie := Try.t24) rfl rfl rfl rfl (by decide) (by decide) rfl (by decide) rfl rfl rfl ?_; clear hs w a; intro g9 a w hs
  refine st_callP (v := .bool (decide (100 < la.length ∨ 100 < lb.length))) hs (.c rfl .n) Try.call9 (great2_ok g9 _ _ _ la _ _ _ lb _ (hs.mem.del .z) (hs.rd0 hca) (hs.rd0 hcb)) rfl ?_; clear hs w a; intro a w hs
  refine wpList_nil ?_
  refine then_n (hK8 _ _ ?_)
  refine wp_if hs rfl (fun hc10 => ?_) (fun hc10 => ?_)
  ·
   replace hc10 := of_decide_eq_true hc10
   refine wp_seq_k fun K11 hK12 => ?_
   refine wp_region_lit ?_
   refine st_callP (v := .bool (true)) hs .n Try.call10 (alive10_ok _) rfl ?_; clear hs w a; intro a w hs
   refine st_as hs rfl rfl ?_; clear hs w a; intro a w hs
   refine wpList_nil ?_
   refine then_n (hK12 _ _ ?_)
   refine wp_ret ?_
   refine th_r ?_
   replace hs := hs.drop (.c (.s (.s .z)) (.c (.s .z) (.c .z .n)))
   exact fin hs rfl rfl ⟨rfl, rfl⟩
  replace hc10 := of_decide_eq_false hc10
  refine wp_skip ?_
  refine then_n (hK6 _ _ ?_)
  refine wp_seq_k fun K13 hK14 => ?_
  refine wp_region_lit ?_
  refine st_run 2 [(25, .agg #[.int .i64 (tb), .int .i64 (mb), ub]), (24, .agg #[.int .i64 (ta), .int .i64 (ma), ua])] hs (.c (hs.mem.del (.s (.s .z))) (.c (hs.mem.del (.s .z)) .n)) (by kernel_rfl) (by kernel_rfl) (by kernel_rfl) ?_; clear hs a; intro a hs
  refine st_call hs (.c rfl (.c rfl .n)) Try.call14 .n (ddiff_ok ta ma _ la tb mb _ lb _ (by omega) (by omega) (by omega) (by omega) (hs.rd0 hca) (hs.rd0 hcb) hwa hwb) rfl ?_; clear hs w a; rintro _ _ a w ⟨v15, rfl, rfl⟩ hs; simp only [List.cons_append, List.nil_append] at hs
  have hk16 := dG_rng (at_ := ta) (atm := ma) (a := la) (bt := tb) (btm := mb) (b := lb)
  refine st_run 3 [(28, .int .i64 (((dErr ta ma la tb mb lb : Nat) : Int))), (27, .agg #[.int .i64 ((dG ta ma la tb mb lb).t), .int .i64 ((dG ta ma la tb mb lb).tm), .int .i64 ((dG ta ma la tb mb lb).b), v15])] hs .n (by kernel_rfl) (by kernel_rfl) (by kernel_rfl) ?_; clear hs a; intro a hs
  refine st_alloc (cs := [.int .i64 (0), .int .i64 (0), .int .i64 (0), .slice none 0 0]) hs Try.zeroValue27 rfl rfl ?_; clear hs w a; intro g17 a w hs
  refine st_stBA hs rfl rfl .z (.z (.c (.c (.c (.c .n))))) (ones_c rfl (ones_c rfl (ones_c rfl (ones_c (rd_row (hs.mem.del (.s .z))).isSl.one ones_n)))) Try.sizeOf27 rfl ?_; clear hs w a; intro a w hs
  refine st_as hs rfl rfl ?_; clear hs w a; intro a w hs
  refine wpList_nil ?_
  refine then_n (hK14 _ _ ?_)
  refine wp_seq_k fun K18 hK19 => ?_
  refine wp_seq_k fun K20 hK21 => ?_
  refine wp_region_lit ?_
  refine st_run 2 [(30, .bool (!((((dErr ta ma la tb mb lb : Nat) : Int) : Int) == 0)))] hs .n (by kernel_rfl) (by kernel_rfl) (by kernel_rfl) ?_; clear hs a; intro a hs
  refine wpList_nil ?_
  refine then_n (hK21 _ _ ?_)
  refine wp_if hs rfl (fun hc22 => ?_) (fun hc22 => ?_)
  ·
   replace hc22 := not_t hc22
   replace hc22 := ne_of_beq_f hc22
   have hge := dG_e (at_ := ta) (atm := ma) (a := la) (bt := tb) (btm := mb) (b := lb) (by omega)
   refine wp_seq_k fun K23 hK24 => ?_
   refine wp_region_lit ?_
   refine st_callP (v := .bool (true)) hs .n Try.call10 (alive10_ok _) rfl ?_; clear hs w a; intro a w hs
   refine st_run 3 [(34, v15), (32, .bool (true))] hs (.c (hs.mem.del .z) .n) (by kernel_rfl) (by kernel_rfl) (by kernel_rfl) ?_; clear hs a; intro a hs
   refine st_guardT hs rfl rfl rfl ?_
   refine st_len hs rfl (rd_row (hs.mem.del (.s .z))).isSl Try.underlying25 rfl ?_; clear hs w a; intro a w hs
   refine st_guardT hs rfl rfl rfl ?_
   refine st_eql hs rfl rfl rfl ?_; clear hs w a; intro a w hs
   have hb_ : (((((dG ta ma la tb mb lb).l.length : Nat) : Int) : Int) == 0) = true := by rw [hge]; rfl
   rw [hb_] at hs; clear hb_
   refine st_run 2 [(4, .bool (true))] hs .n (by kernel_rfl) (by kernel_rfl) (by kernel_rfl) ?_; clear hs a; intro a hs
   refine wpList_nil ?_
   refine then_n (hK24 _ _ ?_)
   refine wp_ret ?_
   refine th_r ?_
   replace hs := hs.drop (.c (.s (.s (.s (.s .z)))) (.c (.s (.s (.s .z))) (.c (.s (.s .z)) (.c (.s .z) (.c .z .n)))))
   exact fin hs rfl rfl ⟨rfl, rfl⟩
  replace hc22 := not_f hc22
  replace hc22 := eq_of_beq hc22
  obtain ⟨hbe, hS, hT, hB, hL, hUa, hUb, hg1, hg2, hg3⟩ := recs_all (by omega : dErr ta ma la tb mb lb = 0) hwa hwb
  refine wp_skip ?_
  refine then_n (hK19 _ _ ?_)
  refine wp_seq_k fun K25 hK26 => ?_
  refine wp_seq_k fun K27 hK28 => ?_
  refine wp_region_lit ?_
  refine st_run 5 [(42, .bool (!(((dG ta ma la tb mb lb).t : Int) == tb)))] hs (.c (hs.mem.del .z) (.c (hs.mem.del (.s (.s (.s .z)))) .n)) (by kernel_rfl) (by kernel_rfl) (by kernel_rfl) ?_; clear hs a; intro a hs
  have hb_ : (!(((dG ta ma la tb mb lb).t : Int) == tb)) = false := by rw [Bool.not_eq_false', beq_iff_eq]; omega
  rw [hb_] at hs; clear hb_
  refine st_run 6 [(48, .bool (!(((dG ta ma la tb mb lb).tm : Int) == mb))), (43, .bool (false))] hs (.c (hs.mem.del .z) (.c (hs.mem.del (.s (.s (.s .z)))) .n)) (by kernel_rfl) (by kernel_rfl) (by kernel_rfl) ?_; clear hs a; intro a hs
  have hb_ : (!(((dG ta ma la tb mb lb).tm : Int) == mb)) = false := by rw [Bool.not_eq_false', beq_iff_eq]; omega
  rw [hb_] at hs; clear hb_
  refine st_run 7 [(55, .bool (!(((dG ta ma la tb mb lb).b : Int) == ta))), (50, .bool (false))] hs (.c (hs.mem.del .z) (.c (hs.mem.del (.s (.s (.s (.s .z))))) .n)) (by kernel_rfl) (by kernel_rfl) (by kernel_rfl) ?_; clear hs a; intro a hs
  have hb_ : (!(((dG ta ma la tb mb lb).b : Int) == ta)) = false := by rw [Bool.not_eq_false', beq_iff_eq]; omega
  rw [hb_] at hs; clear hb_
  refine st_run 3 [(58, .agg #[.int .i64 ((dG ta ma la tb mb lb).t), .int .i64 ((dG ta ma la tb mb lb).tm), .int .i64 ((dG ta ma la tb mb lb).b), v15]), (57, .bool (false))] hs (.c (hs.mem.del .z) .n) (by kernel_rfl) (by kernel_rfl) (by kernel_rfl) ?_; clear hs a; intro a hs
  refine st_guardT hs rfl rfl rfl ?_
  refine st_callP (v := .int .i64 (((bodyErr ((dG ta ma la tb mb lb).t) ((dG ta ma la tb mb lb).tm) ((dG ta ma la tb mb lb).b) ((dG ta ma la tb mb lb).l) : Nat) : Int))) hs (.c rfl .n) Try.call17 (gcheck_ok ((dG ta ma la tb mb lb).t) ((dG ta ma la tb mb lb).tm) ((dG ta ma la tb mb lb).b) _ ((dG ta ma la tb mb lb).l) _ (by omega) (by omega) (by omega) (rd_row (hs.mem.del (.s .z))) (dG_wf hwa hwb)) rfl ?_; clear hs w a; intro a w hs
  refine st_guardT hs rfl rfl rfl ?_
  refine st_neq hs rfl rfl rfl ?_; clear hs w a; intro a w hs
  have hb_ : (!((((bodyErr ((dG ta ma la tb mb lb).t) ((dG ta ma la tb mb lb).tm) ((dG ta ma la tb mb lb).b) ((dG ta ma la tb mb lb).l) : Nat) : Int) : Int) == 0)) = false := by rw [hbe]; rfl
  rw [hb_] at hs; clear hb_
  refine st_pickF hs rfl rfl rfl ?_; clear hs w a; intro a w hs
  refine wpList_nil ?_
  refine then_n (hK28 _ _ ?_)
  refine wp_cond_false (hs.ev rfl) ?_
  refine wp_skip ?_
  refine then_n (hK26 _ _ ?_)
  refine wp_seq_k fun K29 hK30 => ?_
  refine wp_region_lit ?_
  refine st_mkB hs rfl ?_; clear hs w a; intro g31 a w hs
  refine st_as hs rfl rfl ?_; clear hs w a; intro a w hs
  refine wpList_nil ?_
  refine then_n (hK30 _ _ ?_)
  refine wp_seq_k fun K32 hK33 => ?_
  refine wp_seq_k fun K34 hK35 => ?_
  refine wp_region_lit ?_
  refine st_run 2 [(64, v15)] hs (.c (hs.mem.del (.s .z)) .n) (by kernel_rfl) (by kernel_rfl) (by kernel_rfl) ?_; clear hs a; intro a hs
  refine st_len hs rfl (rd_row (hs.mem.del (.s (.s .z)))).isSl Try.underlying25 rfl ?_; clear hs w a; intro a w hs
  refine st_mv hs rfl rfl ?_; clear hs w a; intro a w hs
  refine wpList_nil ?_
  refine then_n (hK35 _ _ ?_)
  refine wp_block ?_
  replace hs := hs.remapB (l' := ((dG ta ma la tb mb lb).l.take 0)) .z (by simp)
  replace hs := hs.drop (.c (.s (.s (.s .z))) .n)
  replace hs := hs.reorder (.c .z (.c (.s .z) (.c .z (.c .z (.c .z .n)))))
  refine wp_loopI (fun mm_ a w => ∃ j : Nat, mm_ = (dG ta ma la tb mb lb).l.length - j ∧ St 158 [(2, .pointer (some ⟨g3, 0, none⟩)), (3, .pointer (some ⟨g4, 0, none⟩)), (5, .pointer (some ⟨g17, 0, none⟩)), (7, .map (some g31)), (64, v15), (65, .int .i64 ((((dG ta ma la tb mb lb).l.length : Nat) : Int))), (66, .int .i64 ((j : Int)))] w0 [] [mpr g31 (bkv (((dG ta ma la tb mb lb).l.take j))), row v15 45 9 ((dG ta ma la tb mb lb).l.length) (((dG ta ma la tb mb lb).l.flatMap recV)), blk g17 [.int .i64 ((dG ta ma la tb mb lb).t), .int .i64 ((dG ta ma la tb mb lb).tm), .int .i64 ((dG ta ma la tb mb lb).b), v15] 27, blk g4 [.int .i64 (tb), .int .i64 (mb), ub] 24, blk g3 [.int .i64 (ta), .int .i64 (ma), ua] 24] a w ∧ j ≤ (dG ta ma la tb mb lb).l.length) ⟨0, rfl, hs.sub (.c rfl (.c rfl (.c rfl (.c rfl (.c rfl (.c rfl (.c rfl .n))))))), by omega⟩ ?_
  clear hs w a; rintro mm_ a w ⟨j, rfl, hs, hI1_0⟩
  refine wp_seq_k fun K36 hK37 => ?_
  refine wp_region_lit ?_
  refine st_lss hs rfl rfl rfl ?_; clear hs w a; intro a w hs
  refine wpList_nil ?_
  refine then_n (hK37 _ _ ?_)
  refine wp_seq_k fun K38 hK39 => ?_
  refine wp_if hs rfl (fun hc40 => ?_) (fun hc40 => ?_)
  ·
   replace hc40 := of_decide_eq_true hc40
   refine wp_skip ?_
   refine then_n (hK39 _ _ ?_)
   refine wp_seq_k fun K41 hK42 => ?_
   refine wp_block ?_
   refine wp_seq_k fun K43 hK44 => ?_
   refine wp_region_lit ?_
   refine st_mv hs rfl rfl ?_; clear hs w a; intro a w hs
   refine st_ia (j := j) hs rfl rfl (rd_row (hs.mem.del (.s .z))) rfl (by omega) Try.underlying25 Try.sizeOf45 rfl ?_; clear hs w a; intro a w hs
   refine st_ldA (cs := recV ((dG ta ma la tb mb lb).l.getD j default)) hs rfl (rd_row (hs.mem.del (.s .z))) (flat_get recV_len (dG ta ma la tb mb lb).l j (by omega)) (by rw [flat_len recV_len]; omega) (by omega) Try.isAgg45 Try.sizeOf45 rfl ?_; clear hs w a; intro a w hs
   refine st_alloc (cs := [.int .i64 (0), .int .i64 (0), .int .i64 (0), .int .i64 (0), .int .i64 (0), .int .i64 (0), .int .i64 (0), .int .i64 (0), .int .u16 (0)]) hs Try.zeroValue45 rfl rfl ?_; clear hs w a; intro g45 a w hs
   refine st_as hs rfl rfl ?_; clear hs w a; intro a w hs
   refine st_stBA hs rfl rfl .z (.z (.c (.c (.c (.c (.c (.c (.c (.c (.c .n)))))))))) (ones_c rfl (ones_c rfl (ones_c rfl (ones_c rfl (ones_c rfl (ones_c rfl (ones_c rfl (ones_c rfl (ones_c rfl ones_n))))))))) Try.sizeOf45 rfl ?_; clear hs w a; intro a w hs
   refine wpList_nil ?_
   refine then_n (hK44 _ _ ?_)
   refine wp_seq_k fun K46 hK47 => ?_
   refine wp_region_lit ?_
   refine st_run 3 [(74, .int .i64 ((((dG ta ma la tb mb lb).l.getD j default)).id)), (73, .pointer (some ⟨g45, 1, none⟩)), (72, .agg #[.int .i64 (ta), .int .i64 (ma), ua])] hs (.c (hs.mem.del (.s (.s (.s (.s (.s .z)))))) (.c (hs.mem.del .z) .n)) (by kernel_rfl) (by kernel_rfl) (by kernel_rfl) ?_; clear hs a; intro a hs
   refine st_callP (v := .tuple #[.agg #[.int .i64 ((((eget ((((dG ta ma la tb mb lb).l.getD j default)).id) la).getD entZ)).id), .int .i64 ((((eget ((((dG ta ma la tb mb lb).l.getD j default)).id) la).getD entZ)).p0), .int .i64 ((((eget ((((dG ta ma la tb mb lb).l.getD j default)).id) la).getD entZ)).p1), .int .i64 ((((eget ((((dG ta ma la tb mb lb).l.getD j default)).id) la).getD entZ)).p2), .int .i64 ((((eget ((((dG ta ma la tb mb lb).l.getD j default)).id) la).getD entZ)).v0), .int .i64 ((((eget ((((dG ta ma la tb mb lb).l.getD j default)).id) la).getD entZ)).v1), .int .i64 ((((eget ((((dG ta ma la tb mb lb).l.getD j default)).id) la).getD entZ)).v2), .int .u16 (((((((eget ((((dG ta ma la tb mb lb).l.getD j default)).id) la).getD entZ)).a).toNat : Nat) : Int)), .int .u8 (((((((eget ((((dG ta ma la tb mb lb).l.getD j default)).id) la).getD entZ)).g).toNat : Nat) : Int))], .bool ((eget ((((dG ta ma la tb mb lb).l.getD j default)).id) la).isSome)]) hs (.c rfl (.c rfl .n)) Try.call16 (find_ok ta ma _ la ((((dG ta ma la tb mb lb).l.getD j default)).id) _ (hs.rd0 hca)) rfl ?_; clear hs w a; intro a w hs
   refine st_run 3 [(77, .bool ((eget ((((dG ta ma la tb mb lb).l.getD j default)).id) la).isSome)), (76, .agg #[.int .i64 ((((eget ((((dG ta ma la tb mb lb).l.getD j default)).id) la).getD entZ)).id), .int .i64 ((((eget ((((dG ta ma la tb mb lb).l.getD j default)).id) la).getD entZ)).p0), .int .i64 ((((eget ((((dG ta ma la tb mb lb).l.getD j default)).id) la).getD entZ)).p1), .int .i64 ((((eget ((((dG ta ma la tb mb lb).l.getD j default)).id) la).getD entZ)).p2), .int .i64 ((((eget ((((dG ta ma la tb mb lb).l.getD j default)).id) la).getD entZ)).v0), .int .i64 ((((eget ((((dG ta ma la tb mb lb).l.getD j default)).id) la).getD entZ)).v1), .int .i64 ((((eget ((((dG ta ma la tb mb lb).l.getD j default)).id) la).getD entZ)).v2), .int .u16 (((((((eget ((((dG ta ma la tb mb lb).l.getD j default)).id) la).getD entZ)).a).toNat : Nat) : Int)), .int .u8 (((((((eget ((((dG ta ma la tb mb lb).l.getD j default)).id) la).getD entZ)).g).toNat : Nat) : Int))]), (71, .tuple #[.agg #[.int .i64 ((((eget ((((dG ta ma la tb mb lb).l.getD j default)).id) la).getD entZ)).id), .int .i64 ((((eget ((((dG ta ma la tb mb lb).l.getD j default)).id) la).getD entZ)).p0), .int .i64 ((((eget ((((dG ta ma la tb mb lb).l.getD j default)).id) la).getD entZ)).p1), .int .i64 ((((eget ((((dG ta ma la tb mb lb).l.getD j default)).id) la).getD entZ)).p2), .int .i64 ((((eget ((((dG ta ma la tb mb lb).l.getD j default)).id) la).getD entZ)).v0), .int .i64 ((((eget ((((dG ta ma la tb mb lb).l.getD j default)).id) la).getD entZ)).v1), .int .i64 ((((eget ((((dG ta ma la tb mb lb).l.getD j default)).id) la).getD entZ)).v2), .int .u16 (((((((eget ((((dG ta ma la tb mb lb).l.getD j default)).id) la).getD entZ)).a).toNat : Nat) : Int)), .int .u8 (((((((eget ((((dG ta ma la tb mb lb).l.getD j default)).id) la).getD entZ)).g).toNat : Nat) : Int))], .bool ((eget ((((dG ta ma la tb mb lb).l.getD j default)).id) la).isSome)])] hs .n (by kernel_rfl) (by kernel_rfl) (by kernel_rfl) ?_; clear hs a; intro a hs
   refine st_alloc (cs := [.int .i64 (0), .int .i64 (0), .int .i64 (0), .int .i64 (0), .int .i64 (0), .int .i64 (0), .int .i64 (0), .int .u16 (0), .int .u8 (0)]) hs Try.zeroValue47 rfl rfl ?_; clear hs w a; intro g48 a w hs
   refine st_stBA hs rfl rfl .z (.z (.c (.c (.c (.c (.c (.c (.c (.c (.c .n)))))))))) (ones_c rfl (ones_c rfl (ones_c rfl (ones_c rfl (ones_c rfl (ones_c rfl (ones_c rfl (ones_c rfl (ones_c rfl ones_n))))))))) Try.sizeOf47 rfl ?_; clear hs w a; intro a w hs
   refine st_as hs rfl rfl ?_; clear hs w a; intro a w hs
   refine wpList_nil ?_
   refine then_n (hK47 _ _ ?_)
   refine wp_seq_k fun K49 hK50 => ?_
   refine wp_region_lit ?_
   refine st_run 3 [(81, .int .i64 ((((dG ta ma la tb mb lb).l.getD j default)).id)), (80, .pointer (some ⟨g45, 1, none⟩)), (79, .agg #[.int .i64 (tb), .int .i64 (mb), ub])] hs (.c (hs.mem.del (.s (.s (.s (.s (.s .z)))))) (.c (hs.mem.del (.s .z)) .n)) (by kernel_rfl) (by kernel_rfl) (by kernel_rfl) ?_; clear hs a; intro a hs
   refine st_callP (v := .tuple #[.agg #[.int .i64 ((((eget ((((dG ta ma la tb mb lb).l.getD j default)).id) lb).getD entZ)).id), .int .i64 ((((eget ((((dG ta ma la tb mb lb).l.getD j default)).id) lb).getD entZ)).p0), .int .i64 ((((eget ((((dG ta ma la tb mb lb).l.getD j default)).id) lb).getD entZ)).p1), .int .i64 ((((eget ((((dG ta ma la tb mb lb).l.getD j default)).id) lb).getD entZ)).p2), .int .i64 ((((eget ((((dG ta ma la tb mb lb).l.getD j default)).id) lb).getD entZ)).v0), .int .i64 ((((eget ((((dG ta ma la tb mb lb).l.getD j default)).id) lb).getD entZ)).v1), .int .i64 ((((eget ((((dG ta ma la tb mb lb).l.getD j default)).id) lb).getD entZ)).v2), .int .u16 (((((((eget ((((dG ta ma la tb mb lb).l.getD j default)).id) lb).getD entZ)).a).toNat : Nat) : Int)), .int .u8 (((((((eget ((((dG ta ma la tb mb lb).l.getD j default)).id) lb).getD entZ)).g).toNat : Nat) : Int))], .bool ((eget ((((dG ta ma la tb mb lb).l.getD j default)).id) lb).isSome)]) hs (.c rfl (.c rfl .n)) Try.call16 (find_ok tb mb _ lb ((((dG ta ma la tb mb lb).l.getD j default)).id) _ (hs.rd0 hcb)) rfl ?_; clear hs w a; intro a w hs
   refine st_run 3 [(84, .bool ((eget ((((dG ta ma la tb mb lb).l.getD j default)).id) lb).isSome)), (83, .agg #[.int .i64 ((((eget ((((dG ta ma la tb mb lb).l.getD j default)).id) lb).getD entZ)).id), .int .i64 ((((eget ((((dG ta ma la tb mb lb).l.getD j default)).id) lb).getD entZ)).p0), .int .i64 ((((eget ((((dG ta ma la tb mb lb).l.getD j default)).id) lb).getD entZ)).p1), .int .i64 ((((eget ((((dG ta ma la tb mb lb).l.getD j default)).id) lb).getD entZ)).p2), .int .i64 ((((eget ((((dG ta ma la tb mb lb).l.getD j default)).id) lb).getD entZ)).v0), .int .i64 ((((eget ((((dG ta ma la tb mb lb).l.getD j default)).id) lb).getD entZ)).v1), .int .i64 ((((eget ((((dG ta ma la tb mb lb).l.getD j default)).id) lb).getD entZ)).v2), .int .u16 (((((((eget ((((dG ta ma la tb mb lb).l.getD j default)).id) lb).getD entZ)).a).toNat : Nat) : Int)), .int .u8 (((((((eget ((((dG ta ma la tb mb lb).l.getD j default)).id) lb).getD entZ)).g).toNat : Nat) : Int))]), (78, .tuple #[.agg #[.int .i64 ((((eget ((((dG ta ma la tb mb lb).l.getD j default)).id) lb).getD entZ)).id), .int .i64 ((((eget ((((dG ta ma la tb mb lb).l.getD j default)).id) lb).getD entZ)).p0), .int .i64 ((((eget ((((dG ta ma la tb mb lb).l.getD j default)).id) lb).getD entZ)).p1), .int .i64 ((((eget ((((dG ta ma la tb mb lb).l.getD j default)).id) lb).getD entZ)).p2), .int .i64 ((((eget ((((dG ta ma la tb mb lb).l.getD j default)).id) lb).getD entZ)).v0), .int .i64 ((((eget ((((dG ta ma la tb mb lb).l.getD j default)).id) lb).getD entZ)).v1), .int .i64 ((((eget ((((dG ta ma la tb mb lb).l.getD j default)).id) lb).getD entZ)).v2), .int .u16 (((((((eget ((((dG ta ma la tb mb lb).l.getD j default)).id) lb).getD entZ)).a).toNat : Nat) : Int)), .int .u8 (((((((eget ((((dG ta ma la tb mb lb).l.getD j default)).id) lb).getD entZ)).g).toNat : Nat) : Int))], .bool ((eget ((((dG ta ma la tb mb lb).l.getD j default)).id) lb).isSome)])] hs .n (by kernel_rfl) (by kernel_rfl) (by kernel_rfl) ?_; clear hs a; intro a hs
   refine st_alloc (cs := [.int .i64 (0), .int .i64 (0), .int .i64 (0), .int .i64 (0), .int .i64 (0), .int .i64 (0), .int .i64 (0), .int .u16 (0), .int .u8 (0)]) hs Try.zeroValue47 rfl rfl ?_; clear hs w a; intro g51 a w hs
   refine st_stBA hs rfl rfl .z (.z (.c (.c (.c (.c (.c (.c (.c (.c (.c .n)))))))))) (ones_c rfl (ones_c rfl (ones_c rfl (ones_c rfl (ones_c rfl (ones_c rfl (ones_c rfl (ones_c rfl (ones_c rfl ones_n))))))))) Try.sizeOf47 rfl ?_; clear hs w a; intro a w hs
   refine st_as hs rfl rfl ?_; clear hs w a; intro a w hs
   refine wpList_nil ?_
   refine then_n (hK50 _ _ ?_)
   refine wp_seq_k fun K52 hK53 => ?_
   refine wp_seq_k fun K54 hK55 => ?_
   by_cases cz : 0 < j
   ·
    by_cases co : (eget (((dG ta ma la tb mb lb).l.getD j default).id) la).isSome = true
    ·
     rw [co] at hs
     have hA' : (!((((dG ta ma la tb mb lb).l.getD j default).k : Int) == 0)) = true := by rw [← told_a (hT _ (rs_mem (by omega)))]; exact co
     by_cases ci : (eget (((dG ta ma la tb mb lb).l.getD j default).id) lb).isSome = true
     ·
      rw [ci] at hs
      have hB' : (!((((dG ta ma la tb mb lb).l.getD j default).k : Int) == 2)) = true := by rw [← told_b (hT _ (rs_mem (by omega)))]; exact ci
      replace hs := hs.sub (F' := [(13, .bool (true)), (12, .pointer (some ⟨g51, 0, none⟩)), (84, .bool (true)), (83, .agg #[.int .i64 ((((eget ((((dG ta ma la tb mb lb).l.getD j default)).id) lb).getD entZ)).id), .int .i64 ((((eget ((((dG ta ma la tb mb lb).l.getD j default)).id) lb).getD entZ)).p0), .int .i64 ((((eget ((((dG ta ma la tb mb lb).l.getD j default)).id) lb).getD entZ)).p1), .int .i64 ((((eget ((((dG ta ma la tb mb lb).l.getD j default)).id) lb).getD entZ)).p2), .int .i64 ((((eget ((((dG ta ma la tb mb lb).l.getD j default)).id) lb).getD entZ)).v0), .int .i64 ((((eget ((((dG ta ma la tb mb lb).l.getD j default)).id) lb).getD entZ)).v1), .int .i64 ((((eget ((((dG ta ma la tb mb lb).l.getD j default)).id) lb).getD entZ)).v2), .int .u16 (((((((eget ((((dG ta ma la tb mb lb).l.getD j default)).id) lb).getD entZ)).a).toNat : Nat) : Int)), .int .u8 (((((((eget ((((dG ta ma la tb mb lb).l.getD j default)).id) lb).getD entZ)).g).toNat : Nat) : Int))]), (78, .tuple #[.agg #[.int .i64 ((((eget ((((dG ta ma la tb mb lb).l.getD j default)).id) lb).getD entZ)).id), .int .i64 ((((eget ((((dG ta ma la tb mb lb).l.getD j default)).id) lb).getD entZ)).p0), .int .i64 ((((eget ((((dG ta ma la tb mb lb).l.getD j default)).id) lb).getD entZ)).p1), .int .i64 ((((eget ((((dG ta ma la tb mb lb).l.getD j default)).id) lb).getD entZ)).p2), .int .i64 ((((eget ((((dG ta ma la tb mb lb).l.getD j default)).id) lb).getD entZ)).v0), .int .i64 ((((eget ((((dG ta ma la tb mb lb).l.getD j default)).id) lb).getD entZ)).v1), .int .i64 ((((eget ((((dG ta ma la tb mb lb).l.getD j default)).id) lb).getD entZ)).v2), .int .u16 (((((((eget ((((dG ta ma la tb mb lb).l.getD j default)).id) lb).getD entZ)).a).toNat : Nat) : Int)), .int .u8 (((((((eget ((((dG ta ma la tb mb lb).l.getD j default)).id) lb).getD entZ)).g).toNat : Nat) : Int))], .bool (true)]), (82, .tuple #[.agg #[.int .i64 ((((eget ((((dG ta ma la tb mb lb).l.getD j default)).id) lb).getD entZ)).id), .int .i64 ((((eget ((((dG ta ma la tb mb lb).l.getD j default)).id) lb).getD entZ)).p0), .int .i64 ((((eget ((((dG ta ma la tb mb lb).l.getD j default)).id) lb).getD entZ)).p1), .int .i64 ((((eget ((((dG ta ma la tb mb lb).l.getD j default)).id) lb).getD entZ)).p2), .int .i64 ((((eget ((((dG ta ma la tb mb lb).l.getD j default)).id) lb).getD entZ)).v0), .int .i64 ((((eget ((((dG ta ma la tb mb lb).l.getD j default)).id) lb).getD entZ)).v1), .int .i64 ((((eget ((((dG ta ma la tb mb lb).l.getD j default)).id) lb).getD entZ)).v2), .int .u16 (((((((eget ((((dG ta ma la tb mb lb).l.getD j default)).id) lb).getD entZ)).a).toNat : Nat) : Int)), .int .u8 (((((((eget ((((dG ta ma la tb mb lb).l.getD j default)).id) lb).getD entZ)).g).toNat : Nat) : Int))], .bool (true)]), (81, .int .i64 ((((dG ta ma la tb mb lb).l.getD j default)).id)), (80, .pointer (some ⟨g45, 1, none⟩)), (79, .agg #[.int .i64 (tb), .int .i64 (mb), ub]), (11, .bool (true)), (10, .pointer (some ⟨g48, 0, none⟩)), (77, .bool (true)), (76, .agg #[.int .i64 ((((eget ((((dG ta ma la tb mb lb).l.getD j default)).id) la).getD entZ)).id), .int .i64 ((((eget ((((dG ta ma la tb mb lb).l.getD j default)).id) la).getD entZ)).p0), .int .i64 ((((eget ((((dG ta ma la tb mb lb).l.getD j default)).id) la).getD entZ)).p1), .int .i64 ((((eget ((((dG ta ma la tb mb lb).l.getD j default)).id) la).getD entZ)).p2), .int .i64 ((((eget ((((dG ta ma la tb mb lb).l.getD j default)).id) la).getD entZ)).v0), .int .i64 ((((eget ((((dG ta ma la tb mb lb).l.getD j default)).id) la).getD entZ)).v1), .int .i64 ((((eget ((((dG ta ma la tb mb lb).l.getD j default)).id) la).getD entZ)).v2), .int .u16 (((((((eget ((((dG ta ma la tb mb lb).l.getD j default)).id) la).getD entZ)).a).toNat : Nat) : Int)), .int .u8 (((((((eget ((((dG ta ma la tb mb lb).l.getD j default)).id) la).getD entZ)).g).toNat : Nat) : Int))]), (71, .tuple #[.agg #[.int .i64 ((((eget ((((dG ta ma la tb mb lb).l.getD j default)).id) la).getD entZ)).id), .int .i64 ((((eget ((((dG ta ma la tb mb lb).l.getD j default)).id) la).getD entZ)).p0), .int .i64 ((((eget ((((dG ta ma la tb mb lb).l.getD j default)).id) la).getD entZ)).p1), .int .i64 ((((eget ((((dG ta ma la tb mb lb).l.getD j default)).id) la).getD entZ)).p2), .int .i64 ((((eget ((((dG ta ma la tb mb lb).l.getD j default)).id) la).getD entZ)).v0), .int .i64 ((((eget ((((dG ta ma la tb mb lb).l.getD j default)).id) la).getD entZ)).v1), .int .i64 ((((eget ((((dG ta ma la tb mb lb).l.getD j default)).id) la).getD entZ)).v2), .int .u16 (((((((eget ((((dG ta ma la tb mb lb).l.getD j default)).id) la).getD entZ)).a).toNat : Nat) : Int)), .int .u8 (((((((eget ((((dG ta ma la tb mb lb).l.getD j default)).id) la).getD entZ)).g).toNat : Nat) : Int))], .bool (true)]), (75, .tuple #[.agg #[.int .i64 ((((eget ((((dG ta ma la tb mb lb).l.getD j default)).id) la).getD entZ)).id), .int .i64 ((((eget ((((dG ta ma la tb mb lb).l.getD j default)).id) la).getD entZ)).p0), .int .i64 ((((eget ((((dG ta ma la tb mb lb).l.getD j default)).id) la).getD entZ)).p1), .int .i64 ((((eget ((((dG ta ma la tb mb lb).l.getD j default)).id) la).getD entZ)).p2), .int .i64 ((((eget ((((dG ta ma la tb mb lb).l.getD j default)).id) la).getD entZ)).v0), .int .i64 ((((eget ((((dG ta ma la tb mb lb).l.getD j default)).id) la).getD entZ)).v1), .int .i64 ((((eget ((((dG ta ma la tb mb lb).l.getD j default)).id) la).getD entZ)).v2), .int .u16 (((((((eget ((((dG ta ma la tb mb lb).l.getD j default)).id) la).getD entZ)).a).toNat : Nat) : Int)), .int .u8 (((((((eget ((((dG ta ma la tb mb lb).l.getD j default)).id) la).getD entZ)).g).toNat : Nat) : Int))], .bool (true)]), (74, .int .i64 ((((dG ta ma la tb mb lb).l.getD j default)).id)), (73, .pointer (some ⟨g45, 1, none⟩)), (72, .agg #[.int .i64 (ta), .int .i64 (ma), ua]), (8, .int .i64 ((j : Int))), (9, .pointer (some ⟨g45, 0, none⟩)), (70, .agg #[.int .i64 ((((dG ta ma la tb mb lb).l.getD j default)).k), .int .i64 ((((dG ta ma la tb mb lb).l.getD j default)).id), .int .i64 ((((dG ta ma la tb mb lb).l.getD j default)).p0), .int .i64 ((((dG ta ma la tb mb lb).l.getD j default)).p1), .int .i64 ((((dG ta ma la tb mb lb).l.getD j default)).p2), .int .i64 ((((dG ta ma la tb mb lb).l.getD j default)).v0), .int .i64 ((((dG ta ma la tb mb lb).l.getD j default)).v1), .int .i64 ((((dG ta ma la tb mb lb).l.getD j default)).v2), .int .u16 (((((((dG ta ma la tb mb lb).l.getD j default)).a).toNat : Nat) : Int))]), (69, .pointer (some (adr v15 (j * 9)))), (68, .int .i64 ((j : Int))), (67, .bool (decide ((j : Int) < ((((dG ta ma la tb mb lb).l.length : Nat) : Int))))), (2, .pointer (some ⟨g3, 0, none⟩)), (3, .pointer (some ⟨g4, 0, none⟩)), (5, .pointer (some ⟨g17, 0, none⟩)), (7, .map (some g31)), (64, v15), (65, .int .i64 ((((dG ta ma la tb mb lb).l.length : Nat) : Int))), (66, .int .i64 ((j : Int)))]) (.c rfl (.c rfl (.c rfl (.c rfl (.c rfl (.c rfl (.c rfl (.c rfl (.c rfl (.c rfl (.c rfl (.c rfl (.c rfl (.c rfl (.c rfl (.c rfl (.c rfl (.c rfl (.c rfl (.c rfl (.c rfl (.c rfl (.c rfl (.c rfl (.c rfl (.c rfl (.c rfl (.c rfl (.c rfl (.c rfl (.c rfl .n)))))))))))))))))))))))))))))))
      refine wp_drawG (M0 := [blk g51 [.int .i64 ((((eget ((((dG ta ma la tb mb lb).l.getD j default)).id) lb).getD entZ)).id), .int .i64 ((((eget ((((dG ta ma la tb mb lb).l.getD j default)).id) lb).getD entZ)).p0), .int .i64 ((((eget ((((dG ta ma la tb mb lb).l.getD j default)).id) lb).getD entZ)).p1), .int .i64 ((((eget ((((dG ta ma la tb mb lb).l.getD j default)).id) lb).getD entZ)).p2), .int .i64 ((((eget ((((dG ta ma la tb mb lb).l.getD j default)).id) lb).getD entZ)).v0), .int .i64 ((((eget ((((dG ta ma la tb mb lb).l.getD j default)).id) lb).getD entZ)).v1), .int .i64 ((((eget ((((dG ta ma la tb mb lb).l.getD j default)).id) lb).getD entZ)).v2), .int .u16 (((((((eget ((((dG ta ma la tb mb lb).l.getD j default)).id) lb).getD entZ)).a).toNat : Nat) : Int)), .int .u8 (((((((eget ((((dG ta ma la tb mb lb).l.getD j default)).id) lb).getD entZ)).g).toNat : Nat) : Int))] 47, blk g48 [.int .i64 ((((eget ((((dG ta ma la tb mb lb).l.getD j default)).id) la).getD entZ)).id), .int .i64 ((((eget ((((dG ta ma la tb mb lb).l.getD j default)).id) la).getD entZ)).p0), .int .i64 ((((eget ((((dG ta ma la tb mb lb).l.getD j default)).id) la).getD entZ)).p1), .int .i64 ((((eget ((((dG ta ma la tb mb lb).l.getD j default)).id) la).getD entZ)).p2), .int .i64 ((((eget ((((dG ta ma la tb mb lb).l.getD j default)).id) la).getD entZ)).v0), .int .i64 ((((eget ((((dG ta ma la tb mb lb).l.getD j default)).id) la).getD entZ)).v1), .int .i64 ((((eget ((((dG ta ma la tb mb lb).l.getD j default)).id) la).getD entZ)).v2), .int .u16 (((((((eget ((((dG ta ma la tb mb lb).l.getD j default)).id) la).getD entZ)).a).toNat : Nat) : Int)), .int .u8 (((((((eget ((((dG ta ma la tb mb lb).l.getD j default)).id) la).getD entZ)).g).toNat : Nat) : Int))] 47, blk g45 [.int .i64 ((((dG ta ma la tb mb lb).l.getD j default)).k), .int .i64 ((((dG ta ma la tb mb lb).l.getD j default)).id), .int .i64 ((((dG ta ma la tb mb lb).l.getD j default)).p0), .int .i64 ((((dG ta ma la tb mb lb).l.getD j default)).p1), .int .i64 ((((dG ta ma la tb mb lb).l.getD j default)).p2), .int .i64 ((((dG ta ma la tb mb lb).l.getD j default)).v0), .int .i64 ((((dG ta ma la tb mb lb).l.getD j default)).v1), .int .i64 ((((dG ta ma la tb mb lb).l.getD j default)).v2), .int .u16 (((((((dG ta ma la tb mb lb).l.getD j default)).a).toNat : Nat) : Int))] 45, mpr g31 (bkv (((dG ta ma la tb mb lb).l.take j))), row v15 45 9 ((dG ta ma la tb mb lb).l.length) (((dG ta ma la tb mb lb).l.flatMap recV)), blk g17 [.int .i64 ((dG ta ma la tb mb lb).t), .int .i64 ((dG ta ma la tb mb lb).tm), .int .i64 ((dG ta ma la tb mb lb).b), v15] 27, blk g4 [.int .i64 (tb), .int .i64 (mb), ub] 24, blk g3 [.int .i64 (ta), .int .i64 (ma), ua] 24]) (Ds := [Pv 0 (.int .i64 ((j : Int))), Pv 1 (.bool (true)), Pv 2 (.bool (true)), Pv 3 (.pointer (some ⟨g17, 3, none⟩)), Pv 4 v15, Pv 5 (.int .i64 ((j : Int))), Pv 6 (.int .i64 (((j - 1 : Nat) : Int))), Pv 7 (.pointer (some (adr v15 ((j - 1) * 9)))), Pv 8 (.pointer (some (adr v15 ((j - 1) * 9 + 1)))), Pv 9 (.int .i64 ((((dG ta ma la tb mb lb).l.getD (j - 1) default)).id)), Pv 10 (.pointer (some ⟨g45, 1, none⟩)), Pv 11 (.int .i64 ((((dG ta ma la tb mb lb).l.getD j default)).id)), Pv 12 (.bool (false)), Pv 13 (.bool (false)), Pv 14 (.bool (false)), Pv 15 (.bool (true)), Pv 16 (.pointer (some ⟨g45, 0, none⟩)), Pv 17 (.int .i64 ((((dG ta ma la tb mb lb).l.getD j default)).k)), Pv 18 (.bool (!(((((dG ta ma la tb mb lb).l.getD j default)).k : Int) == 0))), Pv 19 (.bool (false)), Pv 20 (.bool (false)), Pv 21 (.bool (false)), Pv 22 (.bool (true)), Pv 23 (.pointer (some ⟨g45, 0, none⟩)), Pv 24 (.int .i64 ((((dG ta ma la tb mb lb).l.getD j default)).k)), Pv 25 (.bool (!(((((dG ta ma la tb mb lb).l.getD j default)).k : Int) == 2))), Pv 26 (.bool (false)), Pv 27 (.bool (false)), Pv 28 (.bool (false)), Pv 29 (.bool (true)), Pv 30 (.bool (true)), Pv 31 (.bool (true)), Pv 32 (.bool (true)), Pv 33 (.bool (true)), Pv 34 (.agg #[.int .i64 ((((eget ((((dG ta ma la tb mb lb).l.getD j default)).id) la).getD entZ)).id), .int .i64 ((((eget ((((dG ta ma la tb mb lb).l.getD j default)).id) la).getD entZ)).p0), .int .i64 ((((eget ((((dG ta ma la tb mb lb).l.getD j default)).id) la).getD entZ)).p1), .int .i64 ((((eget ((((dG ta ma la tb mb lb).l.getD j default)).id) la).getD entZ)).p2), .int .i64 ((((eget ((((dG ta ma la tb mb lb).l.getD j default)).id) la).getD entZ)).v0), .int .i64 ((((eget ((((dG ta ma la tb mb lb).l.getD j default)).id) la).getD entZ)).v1), .int .i64 ((((eget ((((dG ta ma la tb mb lb).l.getD j default)).id) la).getD entZ)).v2), .int .u16 (((((((eget ((((dG ta ma la tb mb lb).l.getD j default)).id) la).getD entZ)).a).toNat : Nat) : Int)), .int .u8 (((((((eget ((((dG ta ma la tb mb lb).l.getD j default)).id) la).getD entZ)).g).toNat : Nat) : Int))]), Pv 35 (.agg #[.int .i64 ((((eget ((((dG ta ma la tb mb lb).l.getD j default)).id) lb).getD entZ)).id), .int .i64 ((((eget ((((dG ta ma la tb mb lb).l.getD j default)).id) lb).getD entZ)).p0), .int .i64 ((((eget ((((dG ta ma la tb mb lb).l.getD j default)).id) lb).getD entZ)).p1), .int .i64 ((((eget ((((dG ta ma la tb mb lb).l.getD j default)).id) lb).getD entZ)).p2), .int .i64 ((((eget ((((dG ta ma la tb mb lb).l.getD j default)).id) lb).getD entZ)).v0), .int .i64 ((((eget ((((dG ta ma la tb mb lb).l.getD j default)).id) lb).getD entZ)).v1), .int .i64 ((((eget ((((dG ta ma la tb mb lb).l.getD j default)).id) lb).getD entZ)).v2), .int .u16 (((((((eget ((((dG ta ma la tb mb lb).l.getD j default)).id) lb).getD entZ)).a).toNat : Nat) : Int)), .int .u8 (((((((eget ((((dG ta ma la tb mb lb).l.getD j default)).id) lb).getD entZ)).g).toNat : Nat) : Int))]), Pv 36 (.bool (false)), Pv 37 (.bool (false)), Pv 38 (.bool (false))]) (by kernel_rfl) hs rfl .n (by kernel_rfl) (by kernel_rfl) (by kernel_rfl) ?_ ?_
      ·
       refine (.c ?_ (.c ?_ (.c ?_ (.c ?_ (.c ?_ (.c ?_ (.c ?_ (.c ?_ (.c ?_ (.c ?_ (.c ?_ (.c ?_ (.c ?_ (.c ?_ (.c ?_ (.c ?_ (.c ?_ (.c ?_ (.c ?_ (.c ?_ (.c ?_ (.c ?_ (.c ?_ (.c ?_ (.c ?_ (.c ?_ (.c ?_ (.c ?_ (.c ?_ (.c ?_ (.c ?_ (.c ?_ (.c ?_ (.c ?_ (.c ?_ (.c ?_ (.c ?_ (.c ?_ (.c ?_ .n)))))))))))))))))))))))))))))))))))))))
       · exact trip_pv (m := 39) .n (fun hm0 hm hx => .n) (by kernel_rfl) (by kernel_rfl) rfl
       ·
        intro a_ w_ R_ rest_ vs56 hm hs ht hx
        have hm0 := hm.mid
        replace hs := hs.lrn (ht 0 (twB_spec 39 _ (by kernel_rfl))) rfl rfl
        have hs0 := hs.bare
        refine st_gtr hs rfl rfl rfl ?_; clear hs; intro a w hs
        have hb_ : (decide (0 < (j : Int))) = true := decide_eq_true (by omega)
        rw [hb_] at hs; clear hb_
        exact wpList_nil ⟨rfl, _, _, hs0, (.c .r), hs, rfl⟩
       · exact trip_pv (m := 39) (.c (k := 1) (by kernel_rfl) rfl rfl .n) (fun hm0 hm hx => .n) (by kernel_rfl) (by kernel_rfl) rfl
       · exact trip_pg (m := 39) rfl (.c (k := 2) (by kernel_rfl) rfl rfl .n) rfl (fun hm0 hm hx => .n) (by kernel_rfl) (by kernel_rfl) rfl
       · exact trip_pg (m := 39) rfl (.c (k := 2) (by kernel_rfl) rfl rfl (.c (k := 3) (by kernel_rfl) rfl rfl .n)) rfl (fun hm0 hm hx => (.c (hm0.del (.s (.s (.s (.s (.s .z)))))))) (by kernel_rfl) (by kernel_rfl) rfl
       · exact trip_pg (m := 39) rfl (.c (k := 2) (by kernel_rfl) rfl rfl .n) rfl (fun hm0 hm hx => .n) (by kernel_rfl) (by kernel_rfl) rfl
       ·
        intro a_ w_ R_ rest_ vs56 hm hs ht hx
        have hm0 := hm.mid
        replace hs := hs.lrn (ht 2 (twB_spec 39 _ (by kernel_rfl))) rfl rfl
        replace hs := hs.lrn (ht 5 (twB_spec 39 _ (by kernel_rfl))) rfl rfl
        have hs0 := hs.bare
        refine st_guardT hs rfl rfl rfl ?_
        refine st_subR hs rfl rfl (by omega) rfl ?_; clear hs; intro a w hs
        have hv_ : ((j : Int) - 1 : Int) = (((j - 1 : Nat) : Int) : Int) := by omega
        rw [hv_] at hs; clear hv_
        exact wpList_nil ⟨rfl, _, _, hs0, (.c (.c .r)), hs, rfl⟩
       ·
        intro a_ w_ R_ rest_ vs56 hm hs ht hx
        have hm0 := hm.mid
        replace hs := hs.lrn (ht 2 (twB_spec 39 _ (by kernel_rfl))) rfl rfl
        replace hs := hs.lrn (ht 4 (twB_spec 39 _ (by kernel_rfl))) rfl rfl
        replace hs := hs.lrn (ht 6 (twB_spec 39 _ (by kernel_rfl))) rfl rfl
        have hs0 := hs.bare
        refine st_guardT hs rfl rfl rfl ?_
        refine st_ia (j := (j - 1)) hs rfl rfl (rd_row (hm0.del (.s (.s (.s (.s .z)))))) rfl (by omega) Try.underlying25 Try.sizeOf45 rfl ?_; clear hs; intro a w hs
        exact wpList_nil ⟨rfl, _, _, hs0, (.c (.c (.c .r))), hs, rfl⟩
       ·
        intro a_ w_ R_ rest_ vs56 hm hs ht hx
        have hm0 := hm.mid
        replace hs := hs.lrn (ht 2 (twB_spec 39 _ (by kernel_rfl))) rfl rfl
        replace hs := hs.lrn (ht 7 (twB_spec 39 _ (by kernel_rfl))) rfl rfl
        have hs0 := hs.bare
        refine st_guardT hs rfl rfl rfl ?_
        refine st_faV hs rfl (rd_row (hm0.del (.s (.s (.s (.s .z)))))) (by omega) Try.underlying45 rfl Try.sizeOf3 (by decide) (o := (j - 1) * 9 + 1) rfl rfl ?_; clear hs; intro a w hs
        exact wpList_nil ⟨rfl, _, _, hs0, (.c (.c .r)), hs, rfl⟩
       ·
        intro a_ w_ R_ rest_ vs56 hm hs ht hx
        have hm0 := hm.mid
        replace hs := hs.lrn (ht 2 (twB_spec 39 _ (by kernel_rfl))) rfl rfl
        replace hs := hs.lrn (ht 8 (twB_spec 39 _ (by kernel_rfl))) rfl rfl
        have hs0 := hs.bare
        refine st_guardT hs rfl rfl rfl ?_
        refine st_ld (u := .int .i64 ((((dG ta ma la tb mb lb).l.getD (j - 1) default)).id)) hs rfl (rd_row (hm0.del (.s (.s (.s (.s .z)))))) ((flat_get1 recV_len (dG ta ma la tb mb lb).l (j - 1) 1 (by omega) (by decide)).trans rfl) Try.isAgg3 rfl ?_; clear hs; intro a w hs
        exact wpList_nil ⟨rfl, _, _, hs0, (.c (.c .r)), hs, rfl⟩
       · exact trip_pg (m := 39) rfl (.c (k := 2) (by kernel_rfl) rfl rfl .n) rfl (fun hm0 hm hx => .n) (by kernel_rfl) (by kernel_rfl) rfl
       · exact trip_pg (m := 39) rfl (.c (k := 2) (by kernel_rfl) rfl rfl (.c (k := 10) (by kernel_rfl) rfl rfl .n)) rfl (fun hm0 hm hx => (.c (hm0.del (.s (.s .z))))) (by kernel_rfl) (by kernel_rfl) rfl
       ·
        intro a_ w_ R_ rest_ vs56 hm hs ht hx
        have hm0 := hm.mid
        replace hs := hs.lrn (ht 2 (twB_spec 39 _ (by kernel_rfl))) rfl rfl
        replace hs := hs.lrn (ht 9 (twB_spec 39 _ (by kernel_rfl))) rfl rfl
        replace hs := hs.lrn (ht 11 (twB_spec 39 _ (by kernel_rfl))) rfl rfl
        have hs0 := hs.bare
        refine st_guardT hs rfl rfl rfl ?_
        refine st_geq hs rfl rfl rfl ?_; clear hs; intro a w hs
        have hb_ : (decide (((((dG ta ma la tb mb lb).l.getD j default)).id) ≤ ((((dG ta ma la tb mb lb).l.getD (j - 1) default)).id))) = false := decide_eq_false (by have := rs_lt hS (j := j) (by omega) (by omega); omega)
        rw [hb_] at hs; clear hb_
        exact wpList_nil ⟨rfl, _, _, hs0, (.c (.c (.c .r))), hs, rfl⟩
       · exact trip_pv (m := 39) (.c (k := 2) (by kernel_rfl) rfl rfl (.c (k := 12) (by kernel_rfl) rfl rfl .n)) (fun hm0 hm hx => .n) (by kernel_rfl) (by kernel_rfl) rfl
       · exact trip_pv (m := 39) (.c (k := 13) (by kernel_rfl) rfl rfl .n) (fun hm0 hm hx => .n) (by kernel_rfl) (by kernel_rfl) rfl
       · exact trip_pg (m := 39) rfl (.c (k := 14) (by kernel_rfl) rfl rfl .n) rfl (fun hm0 hm hx => .n) (by kernel_rfl) (by kernel_rfl) rfl
       · exact trip_pg (m := 39) rfl (.c (k := 14) (by kernel_rfl) rfl rfl .n) rfl (fun hm0 hm hx => .n) (by kernel_rfl) (by kernel_rfl) rfl
       · exact trip_pg (m := 39) rfl (.c (k := 14) (by kernel_rfl) rfl rfl (.c (k := 16) (by kernel_rfl) rfl rfl .n)) rfl (fun hm0 hm hx => (.c (hm0.del (.s (.s .z))))) (by kernel_rfl) (by kernel_rfl) rfl
       · exact trip_pg (m := 39) rfl (.c (k := 14) (by kernel_rfl) rfl rfl (.c (k := 17) (by kernel_rfl) rfl rfl .n)) rfl (fun hm0 hm hx => .n) (by kernel_rfl) (by kernel_rfl) rfl
       ·
        intro a_ w_ R_ rest_ vs56 hm hs ht hx
        have hm0 := hm.mid
        replace hs := hs.lrn (ht 14 (twB_spec 39 _ (by kernel_rfl))) rfl rfl
        replace hs := hs.lrn (ht 15 (twB_spec 39 _ (by kernel_rfl))) rfl rfl
        replace hs := hs.lrn (ht 18 (twB_spec 39 _ (by kernel_rfl))) rfl rfl
        have hs0 := hs.bare
        refine st_guardT hs rfl rfl rfl ?_
        refine st_neb hs rfl rfl Try.underlying4 rfl ?_; clear hs; intro a w hs
        have hb_ : (!((true : Bool) == (!(((((dG ta ma la tb mb lb).l.getD j default)).k : Int) == 0)))) = false := by rw [hA']; rfl
        rw [hb_] at hs; clear hb_
        exact wpList_nil ⟨rfl, _, _, hs0, (.c (.c (.c .r))), hs, rfl⟩
       · exact trip_pv (m := 39) (.c (k := 14) (by kernel_rfl) rfl rfl (.c (k := 19) (by kernel_rfl) rfl rfl .n)) (fun hm0 hm hx => .n) (by kernel_rfl) (by kernel_rfl) rfl
       · exact trip_pv (m := 39) (.c (k := 20) (by kernel_rfl) rfl rfl .n) (fun hm0 hm hx => .n) (by kernel_rfl) (by kernel_rfl) rfl
       · exact trip_pg (m := 39) rfl (.c (k := 21) (by kernel_rfl) rfl rfl .n) rfl (fun hm0 hm hx => .n) (by kernel_rfl) (by kernel_rfl) rfl
       · exact trip_pg (m := 39) rfl (.c (k := 21) (by kernel_rfl) rfl rfl .n) rfl (fun hm0 hm hx => .n) (by kernel_rfl) (by kernel_rfl) rfl
       · exact trip_pg (m := 39) rfl (.c (k := 21) (by kernel_rfl) rfl rfl (.c (k := 23) (by kernel_rfl) rfl rfl .n)) rfl (fun hm0 hm hx => (.c (hm0.del (.s (.s .z))))) (by kernel_rfl) (by kernel_rfl) rfl
       · exact trip_pg (m := 39) rfl (.c (k := 21) (by kernel_rfl) rfl rfl (.c (k := 24) (by kernel_rfl) rfl rfl .n)) rfl (fun hm0 hm hx => .n) (by kernel_rfl) (by kernel_rfl) rfl
       ·
        intro a_ w_ R_ rest_ vs56 hm hs ht hx
        have hm0 := hm.mid
        replace hs := hs.lrn (ht 21 (twB_spec 39 _ (by kernel_rfl))) rfl rfl
        replace hs := hs.lrn (ht 22 (twB_spec 39 _ (by kernel_rfl))) rfl rfl
        replace hs := hs.lrn (ht 25 (twB_spec 39 _ (by kernel_rfl))) rfl rfl
        have hs0 := hs.bare
        refine st_guardT hs rfl rfl rfl ?_
        refine st_neb hs rfl rfl Try.underlying4 rfl ?_; clear hs; intro a w hs
        have hb_ : (!((true : Bool) == (!(((((dG ta ma la tb mb lb).l.getD j default)).k : Int) == 2)))) = false := by rw [hB']; rfl
        rw [hb_] at hs; clear hb_
        exact wpList_nil ⟨rfl, _, _, hs0, (.c (.c (.c .r))), hs, rfl⟩
       · exact trip_pv (m := 39) (.c (k := 21) (by kernel_rfl) rfl rfl (.c (k := 26) (by kernel_rfl) rfl rfl .n)) (fun hm0 hm hx => .n) (by kernel_rfl) (by kernel_rfl) rfl
       · exact trip_pv (m := 39) (.c (k := 27) (by kernel_rfl) rfl rfl .n) (fun hm0 hm hx => .n) (by kernel_rfl) (by kernel_rfl) rfl
       · exact trip_pg (m := 39) rfl (.c (k := 28) (by kernel_rfl) rfl rfl .n) rfl (fun hm0 hm hx => .n) (by kernel_rfl) (by kernel_rfl) rfl
       · exact trip_pg (m := 39) rfl (.c (k := 28) (by kernel_rfl) rfl rfl (.c (k := 29) (by kernel_rfl) rfl rfl .n)) rfl (fun hm0 hm hx => .n) (by kernel_rfl) (by kernel_rfl) rfl
       · exact trip_pg (m := 39) rfl (.c (k := 30) (by kernel_rfl) rfl rfl .n) rfl (fun hm0 hm hx => .n) (by kernel_rfl) (by kernel_rfl) rfl
       · exact trip_pg (m := 39) rfl (.c (k := 28) (by kernel_rfl) rfl rfl (.c (k := 30) (by kernel_rfl) rfl rfl (.c (k := 31) (by kernel_rfl) rfl rfl .n))) rfl (fun hm0 hm hx => .n) (by kernel_rfl) (by kernel_rfl) rfl
       · exact trip_pg (m := 39) rfl (.c (k := 28) (by kernel_rfl) rfl rfl (.c (k := 32) (by kernel_rfl) rfl rfl .n)) rfl (fun hm0 hm hx => .n) (by kernel_rfl) (by kernel_rfl) rfl
       · exact trip_pg (m := 39) rfl (.c (k := 33) (by kernel_rfl) rfl rfl .n) rfl (fun hm0 hm hx => (.c (hm0.del (.s .z)))) (by kernel_rfl) (by kernel_rfl) rfl
       · exact trip_pg (m := 39) rfl (.c (k := 33) (by kernel_rfl) rfl rfl .n) rfl (fun hm0 hm hx => (.c (hm0.del .z))) (by kernel_rfl) (by kernel_rfl) rfl
       ·
        intro a_ w_ R_ rest_ vs56 hm hs ht hx
        have hm0 := hm.mid
        replace hs := hs.lrn (ht 33 (twB_spec 39 _ (by kernel_rfl))) rfl rfl
        replace hs := hs.lrn (ht 34 (twB_spec 39 _ (by kernel_rfl))) rfl rfl
        replace hs := hs.lrn (ht 35 (twB_spec 39 _ (by kernel_rfl))) rfl rfl
        have hs0 := hs.bare
        refine st_guardT hs rfl rfl rfl ?_
        refine st_eqF (xs := [.int .i64 ((((eget ((((dG ta ma la tb mb lb).l.getD j default)).id) la).getD entZ)).id), .int .i64 ((((eget ((((dG ta ma la tb mb lb).l.getD j default)).id) la).getD entZ)).p0), .int .i64 ((((eget ((((dG ta ma la tb mb lb).l.getD j default)).id) la).getD entZ)).p1), .int .i64 ((((eget ((((dG ta ma la tb mb lb).l.getD j default)).id) la).getD entZ)).p2), .int .i64 ((((eget ((((dG ta ma la tb mb lb).l.getD j default)).id) la).getD entZ)).v0), .int .i64 ((((eget ((((dG ta ma la tb mb lb).l.getD j default)).id) la).getD entZ)).v1), .int .i64 ((((eget ((((dG ta ma la tb mb lb).l.getD j default)).id) la).getD entZ)).v2), .int .u16 (((((((eget ((((dG ta ma la tb mb lb).l.getD j default)).id) la).getD entZ)).a).toNat : Nat) : Int)), .int .u8 (((((((eget ((((dG ta ma la tb mb lb).l.getD j default)).id) la).getD entZ)).g).toNat : Nat) : Int))]) (ys := [.int .i64 ((((eget ((((dG ta ma la tb mb lb).l.getD j default)).id) lb).getD entZ)).id), .int .i64 ((((eget ((((dG ta ma la tb mb lb).l.getD j default)).id) lb).getD entZ)).p0), .int .i64 ((((eget ((((dG ta ma la tb mb lb).l.getD j default)).id) lb).getD entZ)).p1), .int .i64 ((((eget ((((dG ta ma la tb mb lb).l.getD j default)).id) lb).getD entZ)).p2), .int .i64 ((((eget ((((dG ta ma la tb mb lb).l.getD j default)).id) lb).getD entZ)).v0), .int .i64 ((((eget ((((dG ta ma la tb mb lb).l.getD j default)).id) lb).getD entZ)).v1), .int .i64 ((((eget ((((dG ta ma la tb mb lb).l.getD j default)).id) lb).getD entZ)).v2), .int .u16 (((((((eget ((((dG ta ma la tb mb lb).l.getD j default)).id) lb).getD entZ)).a).toNat : Nat) : Int)), .int .u8 (((((((eget ((((dG ta ma la tb mb lb).l.getD j default)).id) lb).getD entZ)).g).toNat : Nat) : Int))]) (ks := [.i .i64, .i .i64, .i .i64, .i .i64, .i .i64, .i .i64, .i .i64, .i .u16, .i .u8]) 6 hs rfl rfl (by kernel_rfl) (by kernel_rfl) (by kernel_rfl) (by decide) (.i (.i (.i (.i (.i (.i (.i (.i (.i .n))))))))) (.i (.i (.i (.i (.i (.i (.i (.i (.i .n))))))))) rfl ?_; clear hs; intro a w hs
        have hb_ : (eqCells [.int .i64 ((((eget ((((dG ta ma la tb mb lb).l.getD j default)).id) la).getD entZ)).id), .int .i64 ((((eget ((((dG ta ma la tb mb lb).l.getD j default)).id) la).getD entZ)).p0), .int .i64 ((((eget ((((dG ta ma la tb mb lb).l.getD j default)).id) la).getD entZ)).p1), .int .i64 ((((eget ((((dG ta ma la tb mb lb).l.getD j default)).id) la).getD entZ)).p2), .int .i64 ((((eget ((((dG ta ma la tb mb lb).l.getD j default)).id) la).getD entZ)).v0), .int .i64 ((((eget ((((dG ta ma la tb mb lb).l.getD j default)).id) la).getD entZ)).v1), .int .i64 ((((eget ((((dG ta ma la tb mb lb).l.getD j default)).id) la).getD entZ)).v2), .int .u16 (((((((eget ((((dG ta ma la tb mb lb).l.getD j default)).id) la).getD entZ)).a).toNat : Nat) : Int)), .int .u8 (((((((eget ((((dG ta ma la tb mb lb).l.getD j default)).id) la).getD entZ)).g).toNat : Nat) : Int))] [.int .i64 ((((eget ((((dG ta ma la tb mb lb).l.getD j default)).id) lb).getD entZ)).id), .int .i64 ((((eget ((((dG ta ma la tb mb lb).l.getD j default)).id) lb).getD entZ)).p0), .int .i64 ((((eget ((((dG ta ma la tb mb lb).l.getD j default)).id) lb).getD entZ)).p1), .int .i64 ((((eget ((((dG ta ma la tb mb lb).l.getD j default)).id) lb).getD entZ)).p2), .int .i64 ((((eget ((((dG ta ma la tb mb lb).l.getD j default)).id) lb).getD entZ)).v0), .int .i64 ((((eget ((((dG ta ma la tb mb lb).l.getD j default)).id) lb).getD entZ)).v1), .int .i64 ((((eget ((((dG ta ma la tb mb lb).l.getD j default)).id) lb).getD entZ)).v2), .int .u16 (((((((eget ((((dG ta ma la tb mb lb).l.getD j default)).id) lb).getD entZ)).a).toNat : Nat) : Int)), .int .u8 (((((((eget ((((dG ta ma la tb mb lb).l.getD j default)).id) lb).getD entZ)).g).toNat : Nat) : Int))]) = false := by exact told_ne (hT _ (rs_mem (by omega))) hUa hUb co ci
        rw [hb_] at hs; clear hb_
        exact wpList_nil ⟨rfl, _, _, hs0, (.c (.c (.c .r))), hs, rfl⟩
       · exact trip_pg (m := 39) rfl (.c (k := 28) (by kernel_rfl) rfl rfl (.c (k := 33) (by kernel_rfl) rfl rfl (.c (k := 36) (by kernel_rfl) rfl rfl .n))) rfl (fun hm0 hm hx => .n) (by kernel_rfl) (by kernel_rfl) rfl
       exact trip_pv (m := 39) (.c (k := 28) (by kernel_rfl) rfl rfl (.c (k := 37) (by kernel_rfl) rfl rfl .n)) (fun hm0 hm hx => .n) (by kernel_rfl) (by kernel_rfl) rfl
      clear hs w a; intro a w vs56 hs hf
      replace hs : St _ _ _ _ [blk g51 [.int .i64 ((((eget ((((dG ta ma la tb mb lb).l.getD j default)).id) lb).getD entZ)).id), .int .i64 ((((eget ((((dG ta ma la tb mb lb).l.getD j default)).id) lb).getD entZ)).p0), .int .i64 ((((eget ((((dG ta ma la tb mb lb).l.getD j default)).id) lb).getD entZ)).p1), .int .i64 ((((eget ((((dG ta ma la tb mb lb).l.getD j default)).id) lb).getD entZ)).p2), .int .i64 ((((eget ((((dG ta ma la tb mb lb).l.getD j default)).id) lb).getD entZ)).v0), .int .i64 ((((eget ((((dG ta ma la tb mb lb).l.getD j default)).id) lb).getD entZ)).v1), .int .i64 ((((eget ((((dG ta ma la tb mb lb).l.getD j default)).id) lb).getD entZ)).v2), .int .u16 (((((((eget ((((dG ta ma la tb mb lb).l.getD j default)).id) lb).getD entZ)).a).toNat : Nat) : Int)), .int .u8 (((((((eget ((((dG ta ma la tb mb lb).l.getD j default)).id) lb).getD entZ)).g).toNat : Nat) : Int))] 47, blk g48 [.int .i64 ((((eget ((((dG ta ma la tb mb lb).l.getD j default)).id) la).getD entZ)).id), .int .i64 ((((eget ((((dG ta ma la tb mb lb).l.getD j default)).id) la).getD entZ)).p0), .int .i64 ((((eget ((((dG ta ma la tb mb lb).l.getD j default)).id) la).getD entZ)).p1), .int .i64 ((((eget ((((dG ta ma la tb mb lb).l.getD j default)).id) la).getD entZ)).p2), .int .i64 ((((eget ((((dG ta ma la tb mb lb).l.getD j default)).id) la).getD entZ)).v0), .int .i64 ((((eget ((((dG ta ma la tb mb lb).l.getD j default)).id) la).getD entZ)).v1), .int .i64 ((((eget ((((dG ta ma la tb mb lb).l.getD j default)).id) la).getD entZ)).v2), .int .u16 (((((((eget ((((dG ta ma la tb mb lb).l.getD j default)).id) la).getD entZ)).a).toNat : Nat) : Int)), .int .u8 (((((((eget ((((dG ta ma la tb mb lb).l.getD j default)).id) la).getD entZ)).g).toNat : Nat) : Int))] 47, blk g45 [.int .i64 ((((dG ta ma la tb mb lb).l.getD j default)).k), .int .i64 ((((dG ta ma la tb mb lb).l.getD j default)).id), .int .i64 ((((dG ta ma la tb mb lb).l.getD j default)).p0), .int .i64 ((((dG ta ma la tb mb lb).l.getD j default)).p1), .int .i64 ((((dG ta ma la tb mb lb).l.getD j default)).p2), .int .i64 ((((dG ta ma la tb mb lb).l.getD j default)).v0), .int .i64 ((((dG ta ma la tb mb lb).l.getD j default)).v1), .int .i64 ((((dG ta ma la tb mb lb).l.getD j default)).v2), .int .u16 (((((((dG ta ma la tb mb lb).l.getD j default)).a).toNat : Nat) : Int))] 45, mpr g31 (bkv (((dG ta ma la tb mb lb).l.take j))), row v15 45 9 ((dG ta ma la tb mb lb).l.length) (((dG ta ma la tb mb lb).l.flatMap recV)), blk g17 [.int .i64 ((dG ta ma la tb mb lb).t), .int .i64 ((dG ta ma la tb mb lb).tm), .int .i64 ((dG ta ma la tb mb lb).b), v15] 27, blk g4 [.int .i64 (tb), .int .i64 (mb), ub] 24, blk g3 [.int .i64 (ta), .int .i64 (ma), ua] 24] _ _ := hs
      obtain ⟨e38, q38⟩ := hf 38 (by decide)
      replace e38 : _ = some (vs56 38) := e38.val rfl
      rw [show vs56 38 = .bool (false) from q38] at e38
      replace hs := hs.learn e38; clear e38 q38
      clear hf
      refine then_n (hK55 _ _ ?_)
      refine wp_cond_false (hs.ev rfl) ?_
      refine wp_skip ?_
      refine then_n (hK53 _ _ ?_)
      refine wp_region_lit ?_
      refine st_run 3 [(126, .int .i64 ((((dG ta ma la tb mb lb).l.getD j default)).id)), (125, .pointer (some ⟨g45, 1, none⟩)), (124, .map (some g31))] hs (.c (hs.mem.del (.s (.s .z))) .n) (by kernel_rfl) (by kernel_rfl) (by kernel_rfl) ?_; clear hs a; intro a hs
      refine st_updB (l' := ((dG ta ma la tb mb lb).l.take (j + 1))) hs rfl rfl rfl (.s (.s (.s .z))) (bkv_next hS (by omega)) Try.underlying53 Try.underlying3 ?_; clear hs w a; intro a w hs
      refine wpList_nil ?_
      refine in_n ?_
      refine then_n (hK42 _ _ ?_)
      refine wp_region_lit ?_
      refine st_addR hs rfl rfl (by omega) rfl ?_; clear hs w a; intro a w hs
      refine st_mv hs rfl rfl ?_; clear hs w a; intro a w hs
      refine wpList_nil ?_
      refine then_n ?_
      replace hs := hs.drop (.c (.s (.s (.s .z))) (.c (.s (.s .z)) (.c (.s .z) .n)))
      refine ⟨_, ?_, j + 1, rfl, hs.sub (.c rfl (.c rfl (.c rfl (.c rfl (.c rfl (.c rfl (.c rfl .n))))))), by omega⟩
      omega
     replace ci := Bool.eq_false_iff.2 ci; rw [ci] at hs
     have hB' : (!((((dG ta ma la tb mb lb).l.getD j default).k : Int) == 2)) = false := by rw [← told_b (hT _ (rs_mem (by omega)))]; exact ci
     replace hs := hs.sub (F' := [(13, .bool (false)), (12, .pointer (some ⟨g51, 0, none⟩)), (84, .bool (false)), (83, .agg #[.int .i64 ((((eget ((((dG ta ma la tb mb lb).l.getD j default)).id) lb).getD entZ)).id), .int .i64 ((((eget ((((dG ta ma la tb mb lb).l.getD j default)).id) lb).getD entZ)).p0), .int .i64 ((((eget ((((dG ta ma la tb mb lb).l.getD j default)).id) lb).getD entZ)).p1), .int .i64 ((((eget ((((dG ta ma la tb mb lb).l.getD j default)).id) lb).getD entZ)).p2), .int .i64 ((((eget ((((dG ta ma la tb mb lb).l.getD j default)).id) lb).getD entZ)).v0), .int .i64 ((((eget ((((dG ta ma la tb mb lb).l.getD j default)).id) lb).getD entZ)).v1), .int .i64 ((((eget ((((dG ta ma la tb mb lb).l.getD j default)).id) lb).getD entZ)).v2), .int .u16 (((((((eget ((((dG ta ma la tb mb lb).l.getD j default)).id) lb).getD entZ)).a).toNat : Nat) : Int)), .int .u8 (((((((eget ((((dG ta ma la tb mb lb).l.getD j default)).id) lb).getD entZ)).g).toNat : Nat) : Int))]), (78, .tuple #[.agg #[.int .i64 ((((eget ((((dG ta ma la tb mb lb).l.getD j default)).id) lb).getD entZ)).id), .int .i64 ((((eget ((((dG ta ma la tb mb lb).l.getD j default)).id) lb).getD entZ)).p0), .int .i64 ((((eget ((((dG ta ma la tb mb lb).l.getD j default)).id) lb).getD entZ)).p1), .int .i64 ((((eget ((((dG ta ma la tb mb lb).l.getD j default)).id) lb).getD entZ)).p2), .int .i64 ((((eget ((((dG ta ma la tb mb lb).l.getD j default)).id) lb).getD entZ)).v0), .int .i64 ((((eget ((((dG ta ma la tb mb lb).l.getD j default)).id) lb).getD entZ)).v1), .int .i64 ((((eget ((((dG ta ma la tb mb lb).l.getD j default)).id) lb).getD entZ)).v2), .int .u16 (((((((eget ((((dG ta ma la tb mb lb).l.getD j default)).id) lb).getD entZ)).a).toNat : Nat) : Int)), .int .u8 (((((((eget ((((dG ta ma la tb mb lb).l.getD j default)).id) lb).getD entZ)).g).toNat : Nat) : Int))], .bool (false)]), (82, .tuple #[.agg #[.int .i64 ((((eget ((((dG ta ma la tb mb lb).l.getD j default)).id) lb).getD entZ)).id), .int .i64 ((((eget ((((dG ta ma la tb mb lb).l.getD j default)).id) lb).getD entZ)).p0), .int .i64 ((((eget ((((dG ta ma la tb mb lb).l.getD j default)).id) lb).getD entZ)).p1), .int .i64 ((((eget ((((dG ta ma la tb mb lb).l.getD j default)).id) lb).getD entZ)).p2), .int .i64 ((((eget ((((dG ta ma la tb mb lb).l.getD j default)).id) lb).getD entZ)).v0), .int .i64 ((((eget ((((dG ta ma la tb mb lb).l.getD j default)).id) lb).getD entZ)).v1), .int .i64 ((((eget ((((dG ta ma la tb mb lb).l.getD j default)).id) lb).getD entZ)).v2), .int .u16 (((((((eget ((((dG ta ma la tb mb lb).l.getD j default)).id) lb).getD entZ)).a).toNat : Nat) : Int)), .int .u8 (((((((eget ((((dG ta ma la tb mb lb).l.getD j default)).id) lb).getD entZ)).g).toNat : Nat) : Int))], .bool (false)]), (81, .int .i64 ((((dG ta ma la tb mb lb).l.getD j default)).id)), (80, .pointer (some ⟨g45, 1, none⟩)), (79, .agg #[.int .i64 (tb), .int .i64 (mb), ub]), (11, .bool (true)), (10, .pointer (some ⟨g48, 0, none⟩)), (77, .bool (true)), (76, .agg #[.int .i64 ((((eget ((((dG ta ma la tb mb lb).l.getD j default)).id) la).getD entZ)).id), .int .i64 ((((eget ((((dG ta ma la tb mb lb).l.getD j default)).id) la).getD entZ)).p0), .int .i64 ((((eget ((((dG ta ma la tb mb lb).l.getD j default)).id) la).getD entZ)).p1), .int .i64 ((((eget ((((dG ta ma la tb mb lb).l.getD j default)).id) la).getD entZ)).p2), .int .i64 ((((eget ((((dG ta ma la tb mb lb).l.getD j default)).id) la).getD entZ)).v0), .int .i64 ((((eget ((((dG ta ma la tb mb lb).l.getD j default)).id) la).getD entZ)).v1), .int .i64 ((((eget ((((dG ta ma la tb mb lb).l.getD j default)).id) la).getD entZ)).v2), .int .u16 (((((((eget ((((dG ta ma la tb mb lb).l.getD j default)).id) la).getD entZ)).a).toNat : Nat) : Int)), .int .u8 (((((((eget ((((dG ta ma la tb mb lb).l.getD j default)).id) la).getD entZ)).g).toNat : Nat) : Int))]), (71, .tuple #[.agg #[.int .i64 ((((eget ((((dG ta ma la tb mb lb).l.getD j default)).id) la).getD entZ)).id), .int .i64 ((((eget ((((dG ta ma la tb mb lb).l.getD j default)).id) la).getD entZ)).p0), .int .i64 ((((eget ((((dG ta ma la tb mb lb).l.getD j default)).id) la).getD entZ)).p1), .int .i64 ((((eget ((((dG ta ma la tb mb lb).l.getD j default)).id) la).getD entZ)).p2), .int .i64 ((((eget ((((dG ta ma la tb mb lb).l.getD j default)).id) la).getD entZ)).v0), .int .i64 ((((eget ((((dG ta ma la tb mb lb).l.getD j default)).id) la).getD entZ)).v1), .int .i64 ((((eget ((((dG ta ma la tb mb lb).l.getD j default)).id) la).getD entZ)).v2), .int .u16 (((((((eget ((((dG ta ma la tb mb lb).l.getD j default)).id) la).getD entZ)).a).toNat : Nat) : Int)), .int .u8 (((((((eget ((((dG ta ma la tb mb lb).l.getD j default)).id) la).getD entZ)).g).toNat : Nat) : Int))], .bool (true)]), (75, .tuple #[.agg #[.int .i64 ((((eget ((((dG ta ma la tb mb lb).l.getD j default)).id) la).getD entZ)).id), .int .i64 ((((eget ((((dG ta ma la tb mb lb).l.getD j default)).id) la).getD entZ)).p0), .int .i64 ((((eget ((((dG ta ma la tb mb lb).l.getD j default)).id) la).getD entZ)).p1), .int .i64 ((((eget ((((dG ta ma la tb mb lb).l.getD j default)).id) la).getD entZ)).p2), .int .i64 ((((eget ((((dG ta ma la tb mb lb).l.getD j default)).id) la).getD entZ)).v0), .int .i64 ((((eget ((((dG ta ma la tb mb lb).l.getD j default)).id) la).getD entZ)).v1), .int .i64 ((((eget ((((dG ta ma la tb mb lb).l.getD j default)).id) la).getD entZ)).v2), .int .u16 (((((((eget ((((dG ta ma la tb mb lb).l.getD j default)).id) la).getD entZ)).a).toNat : Nat) : Int)), .int .u8 (((((((eget ((((dG ta ma la tb mb lb).l.getD j default)).id) la).getD entZ)).g).toNat : Nat) : Int))], .bool (true)]), (74, .int .i64 ((((dG ta ma la tb mb lb).l.getD j default)).id)), (73, .pointer (some ⟨g45, 1, none⟩)), (72, .agg #[.int .i64 (ta), .int .i64 (ma), ua]), (8, .int .i64 ((j : Int))), (9, .pointer (some ⟨g45, 0, none⟩)), (70, .agg #[.int .i64 ((((dG ta ma la tb mb lb).l.getD j default)).k), .int .i64 ((((dG ta ma la tb mb lb).l.getD j default)).id), .int .i64 ((((dG ta ma la tb mb lb).l.getD j default)).p0), .int .i64 ((((dG ta ma la tb mb lb).l.getD j default)).p1), .int .i64 ((((dG ta ma la tb mb lb).l.getD j default)).p2), .int .i64 ((((dG ta ma la tb mb lb).l.getD j default)).v0), .int .i64 ((((dG ta ma la tb mb lb).l.getD j default)).v1), .int .i64 ((((dG ta ma la tb mb lb).l.getD j default)).v2), .int .u16 (((((((dG ta ma la tb mb lb).l.getD j default)).a).toNat : Nat) : Int))]), (69, .pointer (some (adr v15 (j * 9)))), (68, .int .i64 ((j : Int))), (67, .bool (decide ((j : Int) < ((((dG ta ma la tb mb lb).l.length : Nat) : Int))))), (2, .pointer (some ⟨g3, 0, none⟩)), (3, .pointer (some ⟨g4, 0, none⟩)), (5, .pointer (some ⟨g17, 0, none⟩)), (7, .map (some g31)), (64, v15), (65, .int .i64 ((((dG ta ma la tb mb lb).l.length : Nat) : Int))), (66, .int .i64 ((j : Int)))]) (.c rfl (.c rfl (.c rfl (.c rfl (.c rfl (.c rfl (.c rfl (.c rfl (.c rfl (.c rfl (.c rfl (.c rfl (.c rfl (.c rfl (.c rfl (.c rfl (.c rfl (.c rfl (.c rfl (.c rfl (.c rfl (.c rfl (.c rfl (.c rfl (.c rfl (.c rfl (.c rfl (.c rfl (.c rfl (.c rfl (.c rfl .n)))))))))))))))))))))))))))))))
     refine wp_drawG (M0 := [blk g51 [.int .i64 ((((eget ((((dG ta ma la tb mb lb).l.getD j default)).id) lb).getD entZ)).id), .int .i64 ((((eget ((((dG ta ma la tb mb lb).l.getD j default)).id) lb).getD entZ)).p0), .int .i64 ((((eget ((((dG ta ma la tb mb lb).l.getD j default)).id) lb).getD entZ)).p1), .int .i64 ((((eget ((((dG ta ma la tb mb lb).l.getD j default)).id) lb).getD entZ)).p2), .int .i64 ((((eget ((((dG ta ma la tb mb lb).l.getD j default)).id) lb).getD entZ)).v0), .int .i64 ((((eget ((((dG ta ma la tb mb lb).l.getD j default)).id) lb).getD entZ)).v1), .int .i64 ((((eget ((((dG ta ma la tb mb lb).l.getD j default)).id) lb).getD entZ)).v2), .int .u16 (((((((eget ((((dG ta ma la tb mb lb).l.getD j default)).id) lb).getD entZ)).a).toNat : Nat) : Int)), .int .u8 (((((((eget ((((dG ta ma la tb mb lb).l.getD j default)).id) lb).getD entZ)).g).toNat : Nat) : Int))] 47, blk g48 [.int .i64 ((((eget ((((dG ta ma la tb mb lb).l.getD j default)).id) la).getD entZ)).id), .int .i64 ((((eget ((((dG ta ma la tb mb lb).l.getD j default)).id) la).getD entZ)).p0), .int .i64 ((((eget ((((dG ta ma la tb mb lb).l.getD j default)).id) la).getD entZ)).p1), .int .i64 ((((eget ((((dG ta ma la tb mb lb).l.getD j default)).id) la).getD entZ)).p2), .int .i64 ((((eget ((((dG ta ma la tb mb lb).l.getD j default)).id) la).getD entZ)).v0), .int .i64 ((((eget ((((dG ta ma la tb mb lb).l.getD j default)).id) la).getD entZ)).v1), .int .i64 ((((eget ((((dG ta ma la tb mb lb).l.getD j default)).id) la).getD entZ)).v2), .int .u16 (((((((eget ((((dG ta ma la tb mb lb).l.getD j default)).id) la).getD entZ)).a).toNat : Nat) : Int)), .int .u8 (((((((eget ((((dG ta ma la tb mb lb).l.getD j default)).id) la).getD entZ)).g).toNat : Nat) : Int))] 47, blk g45 [.int .i64 ((((dG ta ma la tb mb lb).l.getD j default)).k), .int .i64 ((((dG ta ma la tb mb lb).l.getD j default)).id), .int .i64 ((((dG ta ma la tb mb lb).l.getD j default)).p0), .int .i64 ((((dG ta ma la tb mb lb).l.getD j default)).p1), .int .i64 ((((dG ta ma la tb mb lb).l.getD j default)).p2), .int .i64 ((((dG ta ma la tb mb lb).l.getD j default)).v0), .int .i64 ((((dG ta ma la tb mb lb).l.getD j default)).v1), .int .i64 ((((dG ta ma la tb mb lb).l.getD j default)).v2), .int .u16 (((((((dG ta ma la tb mb lb).l.getD j default)).a).toNat : Nat) : Int))] 45, mpr g31 (bkv (((dG ta ma la tb mb lb).l.take j))), row v15 45 9 ((dG ta ma la tb mb lb).l.length) (((dG ta ma la tb mb lb).l.flatMap recV)), blk g17 [.int .i64 ((dG ta ma la tb mb lb).t), .int .i64 ((dG ta ma la tb mb lb).tm), .int .i64 ((dG ta ma la tb mb lb).b), v15] 27, blk g4 [.int .i64 (tb), .int .i64 (mb), ub] 24, blk g3 [.int .i64 (ta), .int .i64 (ma), ua] 24]) (Ds := [Pv 0 (.int .i64 ((j : Int))), Pv 1 (.bool (true)), Pv 2 (.bool (true)), Pv 3 (.pointer (some ⟨g17, 3, none⟩)), Pv 4 v15, Pv 5 (.int .i64 ((j : Int))), Pv 6 (.int .i64 (((j - 1 : Nat) : Int))), Pv 7 (.pointer (some (adr v15 ((j - 1) * 9)))), Pv 8 (.pointer (some (adr v15 ((j - 1) * 9 + 1)))), Pv 9 (.int .i64 ((((dG ta ma la tb mb lb).l.getD (j - 1) default)).id)), Pv 10 (.pointer (some ⟨g45, 1, none⟩)), Pv 11 (.int .i64 ((((dG ta ma la tb mb lb).l.getD j default)).id)), Pv 12 (.bool (false)), Pv 13 (.bool (false)), Pv 14 (.bool (false)), Pv 15 (.bool (true)), Pv 16 (.pointer (some ⟨g45, 0, none⟩)), Pv 17 (.int .i64 ((((dG ta ma la tb mb lb).l.getD j default)).k)), Pv 18 (.bool (!(((((dG ta ma la tb mb lb).l.getD j default)).k : Int) == 0))), Pv 19 (.bool (false)), Pv 20 (.bool (false)), Pv 21 (.bool (false)), Pv 22 (.bool (false)), Pv 23 (.pointer (some ⟨g45, 0, none⟩)), Pv 24 (.int .i64 ((((dG ta ma la tb mb lb).l.getD j default)).k)), Pv 25 (.bool (!(((((dG ta ma la tb mb lb).l.getD j default)).k : Int) == 2))), Pv 26 (.bool (false)), Pv 27 (.bool (false)), Pv 28 (.bool (false)), Pv 29 (.bool (true)), Pv 30 (.bool (true)), Pv 31 (.bool (false)), Pv 32 (.bool (false)), Pv 33 (.bool (false)), Pv 34 undef, Pv 35 undef, Pv 36 undef, Pv 37 (.bool (false)), Pv 38 (.bool (false))]) (by kernel_rfl) hs rfl .n (by kernel_rfl) (by kernel_rfl) (by kernel_rfl) ?_ ?_
     ·
      refine (.c ?_ (.c ?_ (.c ?_ (.c ?_ (.c ?_ (.c ?_ (.c ?_ (.c ?_ (.c ?_ (.c ?_ (.c ?_ (.c ?_ (.c ?_ (.c ?_ (.c ?_ (.c ?_ (.c ?_ (.c ?_ (.c ?_ (.c ?_ (.c ?_ (.c ?_ (.c ?_ (.c ?_ (.c ?_ (.c ?_ (.c ?_ (.c ?_ (.c ?_ (.c ?_ (.c ?_ (.c ?_ (.c ?_ (.c ?_ (.c ?_ (.c ?_ (.c ?_ (.c ?_ (.c ?_ .n)))))))))))))))))))))))))))))))))))))))
      · exact trip_pv (m := 39) .n (fun hm0 hm hx => .n) (by kernel_rfl) (by kernel_rfl) rfl
      ·
       intro a_ w_ R_ rest_ vs57 hm hs ht hx
       have hm0 := hm.mid
       replace hs := hs.lrn (ht 0 (twB_spec 39 _ (by kernel_rfl))) rfl rfl
       have hs0 := hs.bare
       refine st_gtr hs rfl rfl rfl ?_; clear hs; intro a w hs
       have hb_ : (decide (0 < (j : Int))) = true := decide_eq_true (by omega)
       rw [hb_] at hs; clear hb_
       exact wpList_nil ⟨rfl, _, _, hs0, (.c .r), hs, rfl⟩
      · exact trip_pv (m := 39) (.c (k := 1) (by kernel_rfl) rfl rfl .n) (fun hm0 hm hx => .n) (by kernel_rfl) (by kernel_rfl) rfl
      · exact trip_pg (m := 39) rfl (.c (k := 2) (by kernel_rfl) rfl rfl .n) rfl (fun hm0 hm hx => .n) (by kernel_rfl) (by kernel_rfl) rfl
      · exact trip_pg (m := 39) rfl (.c (k := 2) (by kernel_rfl) rfl rfl (.c (k := 3) (by kernel_rfl) rfl rfl .n)) rfl (fun hm0 hm hx => (.c (hm0.del (.s (.s (.s (.s (.s .z)))))))) (by kernel_rfl) (by kernel_rfl) rfl
      · exact trip_pg (m := 39) rfl (.c (k := 2) (by kernel_rfl) rfl rfl .n) rfl (fun hm0 hm hx => .n) (by kernel_rfl) (by kernel_rfl) rfl
      ·
       intro a_ w_ R_ rest_ vs57 hm hs ht hx
       have hm0 := hm.mid
       replace hs := hs.lrn (ht 2 (twB_spec 39 _ (by kernel_rfl))) rfl rfl
       replace hs := hs.lrn (ht 5 (twB_spec 39 _ (by kernel_rfl))) rfl rfl
       have hs0 := hs.bare
       refine st_guardT hs rfl rfl rfl ?_
       refine st_subR hs rfl rfl (by omega) rfl ?_; clear hs; intro a w hs
       have hv_ : ((j : Int) - 1 : Int) = (((j - 1 : Nat) : Int) : Int) := by omega
       rw [hv_] at hs; clear hv_
       exact wpList_nil ⟨rfl, _, _, hs0, (.c (.c .r)), hs, rfl⟩
      ·
       intro a_ w_ R_ rest_ vs57 hm hs ht hx
       have hm0 := hm.mid
       replace hs := hs.lrn (ht 2 (twB_spec 39 _ (by kernel_rfl))) rfl rfl
       replace hs := hs.lrn (ht 4 (twB_spec 39 _ (by kernel_rfl))) rfl rfl
       replace hs := hs.lrn (ht 6 (twB_spec 39 _ (by kernel_rfl))) rfl rfl
       have hs0 := hs.bare
       refine st_guardT hs rfl rfl rfl ?_
       refine st_ia (j := (j - 1)) hs rfl rfl (rd_row (hm0.del (.s (.s (.s (.s .z)))))) rfl (by omega) Try.underlying25 Try.sizeOf45 rfl ?_; clear hs; intro a w hs
       exact wpList_nil ⟨rfl, _, _, hs0, (.c (.c (.c .r))), hs, rfl⟩
      ·
       intro a_ w_ R_ rest_ vs57 hm hs ht hx
       have hm0 := hm.mid
       replace hs := hs.lrn (ht 2 (twB_spec 39 _ (by kernel_rfl))) rfl rfl
       replace hs := hs.lrn (ht 7 (twB_spec 39 _ (by kernel_rfl))) rfl rfl
       have hs0 := hs.bare
       refine st_guardT hs rfl rfl rfl ?_
       refine st_faV hs rfl (rd_row (hm0.del (.s (.s (.s (.s .z)))))) (by omega) Try.underlying45 rfl Try.sizeOf3 (by decide) (o := (j - 1) * 9 + 1) rfl rfl ?_; clear hs; intro a w hs
       exact wpList_nil ⟨rfl, _, _, hs0, (.c (.c .r)), hs, rfl⟩
      ·
       intro a_ w_ R_ rest_ vs57 hm hs ht hx
       have hm0 := hm.mid
       replace hs := hs.lrn (ht 2 (twB_spec 39 _ (by kernel_rfl))) rfl rfl
       replace hs := hs.lrn (ht 8 (twB_spec 39 _ (by kernel_rfl))) rfl rfl
       have hs0 := hs.bare
       refine st_guardT hs rfl rfl rfl ?_
       refine st_ld (u := .int .i64 ((((dG ta ma la tb mb lb).l.getD (j - 1) default)).id)) hs rfl (rd_row (hm0.del (.s (.s (.s (.s .z)))))) ((flat_get1 recV_len (dG ta ma la tb mb lb).l (j - 1) 1 (by omega) (by decide)).trans rfl) Try.isAgg3 rfl ?_; clear hs; intro a w hs
       exact wpList_nil ⟨rfl, _, _, hs0, (.c (.c .r)), hs, rfl⟩
      · exact trip_pg (m := 39) rfl (.c (k := 2) (by kernel_rfl) rfl rfl .n) rfl (fun hm0 hm hx => .n) (by kernel_rfl) (by kernel_rfl) rfl
      · exact trip_pg (m := 39) rfl (.c (k := 2) (by kernel_rfl) rfl rfl (.c (k := 10) (by kernel_rfl) rfl rfl .n)) rfl (fun hm0 hm hx => (.c (hm0.del (.s (.s .z))))) (by kernel_rfl) (by kernel_rfl) rfl
      ·
       intro a_ w_ R_ rest_ vs57 hm hs ht hx
       have hm0 := hm.mid
       replace hs := hs.lrn (ht 2 (twB_spec 39 _ (by kernel_rfl))) rfl rfl
       replace hs := hs.lrn (ht 9 (twB_spec 39 _ (by kernel_rfl))) rfl rfl
       replace hs := hs.lrn (ht 11 (twB_spec 39 _ (by kernel_rfl))) rfl rfl
       have hs0 := hs.bare
       refine st_guardT hs rfl rfl rfl ?_
       refine st_geq hs rfl rfl rfl ?_; clear hs; intro a w hs
       have hb_ : (decide (((((dG ta ma la tb mb lb).l.getD j default)).id) ≤ ((((dG ta ma la tb mb lb).l.getD (j - 1) default)).id))) = false := decide_eq_false (by have := rs_lt hS (j := j) (by omega) (by omega); omega)
       rw [hb_] at hs; clear hb_
       exact wpList_nil ⟨rfl, _, _, hs0, (.c (.c (.c .r))), hs, rfl⟩
      · exact trip_pv (m := 39) (.c (k := 2) (by kernel_rfl) rfl rfl (.c (k := 12) (by kernel_rfl) rfl rfl .n)) (fun hm0 hm hx => .n) (by kernel_rfl) (by kernel_rfl) rfl
      · exact trip_pv (m := 39) (.c (k := 13) (by kernel_rfl) rfl rfl .n) (fun hm0 hm hx => .n) (by kernel_rfl) (by kernel_rfl) rfl
      · exact trip_pg (m := 39) rfl (.c (k := 14) (by kernel_rfl) rfl rfl .n) rfl (fun hm0 hm hx => .n) (by kernel_rfl) (by kernel_rfl) rfl
      · exact trip_pg (m := 39) rfl (.c (k := 14) (by kernel_rfl) rfl rfl .n) rfl (fun hm0 hm hx => .n) (by kernel_rfl) (by kernel_rfl) rfl
      · exact trip_pg (m := 39) rfl (.c (k := 14) (by kernel_rfl) rfl rfl (.c (k := 16) (by kernel_rfl) rfl rfl .n)) rfl (fun hm0 hm hx => (.c (hm0.del (.s (.s .z))))) (by kernel_rfl) (by kernel_rfl) rfl
      · exact trip_pg (m := 39) rfl (.c (k := 14) (by kernel_rfl) rfl rfl (.c (k := 17) (by kernel_rfl) rfl rfl .n)) rfl (fun hm0 hm hx => .n) (by kernel_rfl) (by kernel_rfl) rfl
      ·
       intro a_ w_ R_ rest_ vs57 hm hs ht hx
       have hm0 := hm.mid
       replace hs := hs.lrn (ht 14 (twB_spec 39 _ (by kernel_rfl))) rfl rfl
       replace hs := hs.lrn (ht 15 (twB_spec 39 _ (by kernel_rfl))) rfl rfl
       replace hs := hs.lrn (ht 18 (twB_spec 39 _ (by kernel_rfl))) rfl rfl
       have hs0 := hs.bare
       refine st_guardT hs rfl rfl rfl ?_
       refine st_neb hs rfl rfl Try.underlying4 rfl ?_; clear hs; intro a w hs
       have hb_ : (!((true : Bool) == (!(((((dG ta ma la tb mb lb).l.getD j default)).k : Int) == 0)))) = false := by rw [hA']; rfl
       rw [hb_] at hs; clear hb_
       exact wpList_nil ⟨rfl, _, _, hs0, (.c (.c (.c .r))), hs, rfl⟩
      · exact trip_pv (m := 39) (.c (k := 14) (by kernel_rfl) rfl rfl (.c (k := 19) (by kernel_rfl) rfl rfl .n)) (fun hm0 hm hx => .n) (by kernel_rfl) (by kernel_rfl) rfl
      · exact trip_pv (m := 39) (.c (k := 20) (by kernel_rfl) rfl rfl .n) (fun hm0 hm hx => .n) (by kernel_rfl) (by kernel_rfl) rfl
      · exact trip_pg (m := 39) rfl (.c (k := 21) (by kernel_rfl) rfl rfl .n) rfl (fun hm0 hm hx => .n) (by kernel_rfl) (by kernel_rfl) rfl
      · exact trip_pg (m := 39) rfl (.c (k := 21) (by kernel_rfl) rfl rfl .n) rfl (fun hm0 hm hx => .n) (by kernel_rfl) (by kernel_rfl) rfl
      · exact trip_pg (m := 39) rfl (.c (k := 21) (by kernel_rfl) rfl rfl (.c (k := 23) (by kernel_rfl) rfl rfl .n)) rfl (fun hm0 hm hx => (.c (hm0.del (.s (.s .z))))) (by kernel_rfl) (by kernel_rfl) rfl
      · exact trip_pg (m := 39) rfl (.c (k := 21) (by kernel_rfl) rfl rfl (.c (k := 24) (by kernel_rfl) rfl rfl .n)) rfl (fun hm0 hm hx => .n) (by kernel_rfl) (by kernel_rfl) rfl
      ·
       intro a_ w_ R_ rest_ vs57 hm hs ht hx
       have hm0 := hm.mid
       replace hs := hs.lrn (ht 21 (twB_spec 39 _ (by kernel_rfl))) rfl rfl
       replace hs := hs.lrn (ht 22 (twB_spec 39 _ (by kernel_rfl))) rfl rfl
       replace hs := hs.lrn (ht 25 (twB_spec 39 _ (by kernel_rfl))) rfl rfl
       have hs0 := hs.bare
       refine st_guardT hs rfl rfl rfl ?_
       refine st_neb hs rfl rfl Try.underlying4 rfl ?_; clear hs; intro a w hs
       have hb_ : (!((false : Bool) == (!(((((dG ta ma la tb mb lb).l.getD j default)).k : Int) == 2)))) = false := by rw [hB']; rfl
       rw [hb_] at hs; clear hb_
       exact wpList_nil ⟨rfl, _, _, hs0, (.c (.c (.c .r))), hs, rfl⟩
      · exact trip_pv (m := 39) (.c (k := 21) (by kernel_rfl) rfl rfl (.c (k := 26) (by kernel_rfl) rfl rfl .n)) (fun hm0 hm hx => .n) (by kernel_rfl) (by kernel_rfl) rfl
      · exact trip_pv (m := 39) (.c (k := 27) (by kernel_rfl) rfl rfl .n) (fun hm0 hm hx => .n) (by kernel_rfl) (by kernel_rfl) rfl
      · exact trip_pg (m := 39) rfl (.c (k := 28) (by kernel_rfl) rfl rfl .n) rfl (fun hm0 hm hx => .n) (by kernel_rfl) (by kernel_rfl) rfl
      · exact trip_pg (m := 39) rfl (.c (k := 28) (by kernel_rfl) rfl rfl (.c (k := 29) (by kernel_rfl) rfl rfl .n)) rfl (fun hm0 hm hx => .n) (by kernel_rfl) (by kernel_rfl) rfl
      · exact trip_pg (m := 39) rfl (.c (k := 30) (by kernel_rfl) rfl rfl .n) rfl (fun hm0 hm hx => .n) (by kernel_rfl) (by kernel_rfl) rfl
      · exact trip_pg (m := 39) rfl (.c (k := 28) (by kernel_rfl) rfl rfl (.c (k := 30) (by kernel_rfl) rfl rfl (.c (k := 31) (by kernel_rfl) rfl rfl .n))) rfl (fun hm0 hm hx => .n) (by kernel_rfl) (by kernel_rfl) rfl
      · exact trip_pg (m := 39) rfl (.c (k := 28) (by kernel_rfl) rfl rfl (.c (k := 32) (by kernel_rfl) rfl rfl .n)) rfl (fun hm0 hm hx => .n) (by kernel_rfl) (by kernel_rfl) rfl
      · exact trip_pf (m := 39) rfl (.c (k := 33) (by kernel_rfl) rfl rfl .n) rfl rfl rfl
      · exact trip_pf (m := 39) rfl (.c (k := 33) (by kernel_rfl) rfl rfl .n) rfl rfl rfl
      ·
       intro a_ w_ R_ rest_ vs57 hm hs ht hx
       have hm0 := hm.mid
       replace hs := hs.lrn (ht 33 (twB_spec 39 _ (by kernel_rfl))) rfl rfl
       replace hs := hs.lrn (ht 34 (twB_spec 39 _ (by kernel_rfl))) rfl rfl
       replace hs := hs.lrn (ht 35 (twB_spec 39 _ (by kernel_rfl))) rfl rfl
       have hs0 := hs.bare
       refine st_guardF hs rfl rfl rfl rfl rfl ?_; clear hs; intro a w hs
       exact wpList_nil ⟨rfl, _, _, hs0, (.c (.c (.c .r))), hs, rfl⟩
      · exact trip_pg (m := 39) rfl (.c (k := 28) (by kernel_rfl) rfl rfl (.c (k := 33) (by kernel_rfl) rfl rfl (.c (k := 36) (by kernel_rfl) rfl rfl .n))) rfl (fun hm0 hm hx => .n) (by kernel_rfl) (by kernel_rfl) rfl
      exact trip_pv (m := 39) (.c (k := 28) (by kernel_rfl) rfl rfl (.c (k := 37) (by kernel_rfl) rfl rfl .n)) (fun hm0 hm hx => .n) (by kernel_rfl) (by kernel_rfl) rfl
     clear hs w a; intro a w vs57 hs hf
     replace hs : St _ _ _ _ [blk g51 [.int .i64 ((((eget ((((dG ta ma la tb mb lb).l.getD j default)).id) lb).getD entZ)).id), .int .i64 ((((eget ((((dG ta ma la tb mb lb).l.getD j default)).id) lb).getD entZ)).p0), .int .i64 ((((eget ((((dG ta ma la tb mb lb).l.getD j default)).id) lb).getD entZ)).p1), .int .i64 ((((eget ((((dG ta ma la tb mb lb).l.getD j default)).id) lb).getD entZ)).p2), .int .i64 ((((eget ((((dG ta ma la tb mb lb).l.getD j default)).id) lb).getD entZ)).v0), .int .i64 ((((eget ((((dG ta ma la tb mb lb).l.getD j default)).id) lb).getD entZ)).v1), .int .i64 ((((eget ((((dG ta ma la tb mb lb).l.getD j default)).id) lb).getD entZ)).v2), .int .u16 (((((((eget ((((dG ta ma la tb mb lb).l.getD j default)).id) lb).getD entZ)).a).toNat : Nat) : Int)), .int .u8 (((((((eget ((((dG ta ma la tb mb lb).l.getD j default)).id) lb).getD entZ)).g).toNat : Nat) : Int))] 47, blk g48 [.int .i64 ((((eget ((((dG ta ma la tb mb lb).l.getD j default)).id) la).getD entZ)).id), .int .i64 ((((eget ((((dG ta ma la tb mb lb).l.getD j default)).id) la).getD entZ)).p0), .int .i64 ((((eget ((((dG ta ma la tb mb lb).l.getD j default)).id) la).getD entZ)).p1), .int .i64 ((((eget ((((dG ta ma la tb mb lb).l.getD j default)).id) la).getD entZ)).p2), .int .i64 ((((eget ((((dG ta ma la tb mb lb).l.getD j default)).id) la).getD entZ)).v0), .int .i64 ((((eget ((((dG ta ma la tb mb lb).l.getD j default)).id) la).getD entZ)).v1), .int .i64 ((((eget ((((dG ta ma la tb mb lb).l.getD j default)).id) la).getD entZ)).v2), .int .u16 (((((((eget ((((dG ta ma la tb mb lb).l.getD j default)).id) la).getD entZ)).a).toNat : Nat) : Int)), .int .u8 (((((((eget ((((dG ta ma la tb mb lb).l.getD j default)).id) la).getD entZ)).g).toNat : Nat) : Int))] 47, blk g45 [.int .i64 ((((dG ta ma la tb mb lb).l.getD j default)).k), .int .i64 ((((dG ta ma la tb mb lb).l.getD j default)).id), .int .i64 ((((dG ta ma la tb mb lb).l.getD j default)).p0), .int .i64 ((((dG ta ma la tb mb lb).l.getD j default)).p1), .int .i64 ((((dG ta ma la tb mb lb).l.getD j default)).p2), .int .i64 ((((dG ta ma la tb mb lb).l.getD j default)).v0), .int .i64 ((((dG ta ma la tb mb lb).l.getD j default)).v1), .int .i64 ((((dG ta ma la tb mb lb).l.getD j default)).v2), .int .u16 (((((((dG ta ma la tb mb lb).l.getD j default)).a).toNat : Nat) : Int))] 45, mpr g31 (bkv (((dG ta ma la tb mb lb).l.take j))), row v15 45 9 ((dG ta ma la tb mb lb).l.length) (((dG ta ma la tb mb lb).l.flatMap recV)), blk g17 [.int .i64 ((dG ta ma la tb mb lb).t), .int .i64 ((dG ta ma la tb mb lb).tm), .int .i64 ((dG ta ma la tb mb lb).b), v15] 27, blk g4 [.int .i64 (tb), .int .i64 (mb), ub] 24, blk g3 [.int .i64 (ta), .int .i64 (ma), ua] 24] _ _ := hs
     obtain ⟨e38, q38⟩ := hf 38 (by decide)
     replace e38 : _ = some (vs57 38) := e38.val rfl
     rw [show vs57 38 = .bool (false) from q38] at e38
     replace hs := hs.learn e38; clear e38 q38
     clear hf
     refine then_n (hK55 _ _ ?_)
     refine wp_cond_false (hs.ev rfl) ?_
     refine wp_skip ?_
     refine then_n (hK53 _ _ ?_)
     refine wp_region_lit ?_
     refine st_run 3 [(126, .int .i64 ((((dG ta ma la tb mb lb).l.getD j default)).id)), (125, .pointer (some ⟨g45, 1, none⟩)), (124, .map (some g31))] hs (.c (hs.mem.del (.s (.s .z))) .n) (by kernel_rfl) (by kernel_rfl) (by kernel_rfl) ?_; clear hs a; intro a hs
     refine st_updB (l' := ((dG ta ma la tb mb lb).l.take (j + 1))) hs rfl rfl rfl (.s (.s (.s .z))) (bkv_next hS (by omega)) Try.underlying53 Try.underlying3 ?_; clear hs w a; intro a w hs
     refine wpList_nil ?_
     refine in_n ?_
     refine then_n (hK42 _ _ ?_)
     refine wp_region_lit ?_
     refine st_addR hs rfl rfl (by omega) rfl ?_; clear hs w a; intro a w hs
     refine st_mv hs rfl rfl ?_; clear hs w a; intro a w hs
     refine wpList_nil ?_
     refine then_n ?_
     replace hs := hs.drop (.c (.s (.s (.s .z))) (.c (.s (.s .z)) (.c (.s .z) .n)))
     refine ⟨_, ?_, j + 1, rfl, hs.sub (.c rfl (.c rfl (.c rfl (.c rfl (.c rfl (.c rfl (.c rfl .n))))))), by omega⟩
     omega
    replace co := Bool.eq_false_iff.2 co; rw [co] at hs
    have hA' : (!((((dG ta ma la tb mb lb).l.getD j default).k : Int) == 0)) = false := by rw [← told_a (hT _ (rs_mem (by omega)))]; exact co
    by_cases ci : (eget (((dG ta ma la tb mb lb).l.getD j default).id) lb).isSome = true
    ·
     rw [ci] at hs
     have hB' : (!((((dG ta ma la tb mb lb).l.getD j default).k : Int) == 2)) = true := by rw [← told_b (hT _ (rs_mem (by omega)))]; exact ci
     replace hs := hs.sub (F' := [(13, .bool (true)), (12, .pointer (some ⟨g51, 0, none⟩)), (84, .bool (true)), (83, .agg #[.int .i64 ((((eget ((((dG ta ma la tb mb lb).l.getD j default)).id) lb).getD entZ)).id), .int .i64 ((((eget ((((dG ta ma la tb mb lb).l.getD j default)).id) lb).getD entZ)).p0), .int .i64 ((((eget ((((dG ta ma la tb mb lb).l.getD j default)).id) lb).getD entZ)).p1), .int .i64 ((((eget ((((dG ta ma la tb mb lb).l.getD j default)).id) lb).getD entZ)).p2), .int .i64 ((((eget ((((dG ta ma la tb mb lb).l.getD j default)).id) lb).getD entZ)).v0), .int .i64 ((((eget ((((dG ta ma la tb mb lb).l.getD j default)).id) lb).getD entZ)).v1), .int .i64 ((((eget ((((dG ta ma la tb mb lb).l.getD j default)).id) lb).getD entZ)).v2), .int .u16 (((((((eget ((((dG ta ma la tb mb lb).l.getD j default)).id) lb).getD entZ)).a).toNat : Nat) : Int)), .int .u8 (((((((eget ((((dG ta ma la tb mb lb).l.getD j default)).id) lb).getD entZ)).g).toNat : Nat) : Int))]), (78, .tuple #[.agg #[.int .i64 ((((eget ((((dG ta ma la tb mb lb).l.getD j default)).id) lb).getD entZ)).id), .int .i64 ((((eget ((((dG ta ma la tb mb lb).l.getD j default)).id) lb).getD entZ)).p0), .int .i64 ((((eget ((((dG ta ma la tb mb lb).l.getD j default)).id) lb).getD entZ)).p1), .int .i64 ((((eget ((((dG ta ma la tb mb lb).l.getD j default)).id) lb).getD entZ)).p2), .int .i64 ((((eget ((((dG ta ma la tb mb lb).l.getD j default)).id) lb).getD entZ)).v0), .int .i64 ((((eget ((((dG ta ma la tb mb lb).l.getD j default)).id) lb).getD entZ)).v1), .int .i64 ((((eget ((((dG ta ma la tb mb lb).l.getD j default)).id) lb).getD entZ)).v2), .int .u16 (((((((eget ((((dG ta ma la tb mb lb).l.getD j default)).id) lb).getD entZ)).a).toNat : Nat) : Int)), .int .u8 (((((((eget ((((dG ta ma la tb mb lb).l.getD j default)).id) lb).getD entZ)).g).toNat : Nat) : Int))], .bool (true)]), (82, .tuple #[.agg #[.int .i64 ((((eget ((((dG ta ma la tb mb lb).l.getD j default)).id) lb).getD entZ)).id), .int .i64 ((((eget ((((dG ta ma la tb mb lb).l.getD j default)).id) lb).getD entZ)).p0), .int .i64 ((((eget ((((dG ta ma la tb mb lb).l.getD j default)).id) lb).getD entZ)).p1), .int .i64 ((((eget ((((dG ta ma la tb mb lb).l.getD j default)).id) lb).getD entZ)).p2), .int .i64 ((((eget ((((dG ta ma la tb mb lb).l.getD j default)).id) lb).getD entZ)).v0), .int .i64 ((((eget ((((dG ta ma la tb mb lb).l.getD j default)).id) lb).getD entZ)).v1), .int .i64 ((((eget ((((dG ta ma la tb mb lb).l.getD j default)).id) lb).getD entZ)).v2), .int .u16 (((((((eget ((((dG ta ma la tb mb lb).l.getD j default)).id) lb).getD entZ)).a).toNat : Nat) : Int)), .int .u8 (((((((eget ((((dG ta ma la tb mb lb).l.getD j default)).id) lb).getD entZ)).g).toNat : Nat) : Int))], .bool (true)]), (81, .int .i64 ((((dG ta ma la tb mb lb).l.getD j default)).id)), (80, .pointer (some ⟨g45, 1, none⟩)), (79, .agg #[.int .i64 (tb), .int .i64 (mb), ub]), (11, .bool (false)), (10, .pointer (some ⟨g48, 0, none⟩)), (77, .bool (false)), (76, .agg #[.int .i64 ((((eget ((((dG ta ma la tb mb lb).l.getD j default)).id) la).getD entZ)).id), .int .i64 ((((eget ((((dG ta ma la tb mb lb).l.getD j default)).id) la).getD entZ)).p0), .int .i64 ((((eget ((((dG ta ma la tb mb lb).l.getD j default)).id) la).getD entZ)).p1), .int .i64 ((((eget ((((dG ta ma la tb mb lb).l.getD j default)).id) la).getD entZ)).p2), .int .i64 ((((eget ((((dG ta ma la tb mb lb).l.getD j default)).id) la).getD entZ)).v0), .int .i64 ((((eget ((((dG ta ma la tb mb lb).l.getD j default)).id) la).getD entZ)).v1), .int .i64 ((((eget ((((dG ta ma la tb mb lb).l.getD j default)).id) la).getD entZ)).v2), .int .u16 (((((((eget ((((dG ta ma la tb mb lb).l.getD j default)).id) la).getD entZ)).a).toNat : Nat) : Int)), .int .u8 (((((((eget ((((dG ta ma la tb mb lb).l.getD j default)).id) la).getD entZ)).g).toNat : Nat) : Int))]), (71, .tuple #[.agg #[.int .i64 ((((eget ((((dG ta ma la tb mb lb).l.getD j default)).id) la).getD entZ)).id), .int .i64 ((((eget ((((dG ta ma la tb mb lb).l.getD j default)).id) la).getD entZ)).p0), .int .i64 ((((eget ((((dG ta ma la tb mb lb).l.getD j default)).id) la).getD entZ)).p1), .int .i64 ((((eget ((((dG ta ma la tb mb lb).l.getD j default)).id) la).getD entZ)).p2), .int .i64 ((((eget ((((dG ta ma la tb mb lb).l.getD j default)).id) la).getD entZ)).v0), .int .i64 ((((eget ((((dG ta ma la tb mb lb).l.getD j default)).id) la).getD entZ)).v1), .int .i64 ((((eget ((((dG ta ma la tb mb lb).l.getD j default)).id) la).getD entZ)).v2), .int .u16 (((((((eget ((((dG ta ma la tb mb lb).l.getD j default)).id) la).getD entZ)).a).toNat : Nat) : Int)), .int .u8 (((((((eget ((((dG ta ma la tb mb lb).l.getD j default)).id) la).getD entZ)).g).toNat : Nat) : Int))], .bool (false)]), (75, .tuple #[.agg #[.int .i64 ((((eget ((((dG ta ma la tb mb lb).l.getD j default)).id) la).getD entZ)).id), .int .i64 ((((eget ((((dG ta ma la tb mb lb).l.getD j default)).id) la).getD entZ)).p0), .int .i64 ((((eget ((((dG ta ma la tb mb lb).l.getD j default)).id) la).getD entZ)).p1), .int .i64 ((((eget ((((dG ta ma la tb mb lb).l.getD j default)).id) la).getD entZ)).p2), .int .i64 ((((eget ((((dG ta ma la tb mb lb).l.getD j default)).id) la).getD entZ)).v0), .int .i64 ((((eget ((((dG ta ma la tb mb lb).l.getD j default)).id) la).getD entZ)).v1), .int .i64 ((((eget ((((dG ta ma la tb mb lb).l.getD j default)).id) la).getD entZ)).v2), .int .u16 (((((((eget ((((dG ta ma la tb mb lb).l.getD j default)).id) la).getD entZ)).a).toNat : Nat) : Int)), .int .u8 (((((((eget ((((dG ta ma la tb mb lb).l.getD j default)).id) la).getD entZ)).g).toNat : Nat) : Int))], .bool (false)]), (74, .int .i64 ((((dG ta ma la tb mb lb).l.getD j default)).id)), (73, .pointer (some ⟨g45, 1, none⟩)), (72, .agg #[.int .i64 (ta), .int .i64 (ma), ua]), (8, .int .i64 ((j : Int))), (9, .pointer (some ⟨g45, 0, none⟩)), (70, .agg #[.int .i64 ((((dG ta ma la tb mb lb).l.getD j default)).k), .int .i64 ((((dG ta ma la tb mb lb).l.getD j default)).id), .int .i64 ((((dG ta ma la tb mb lb).l.getD j default)).p0), .int .i64 ((((dG ta ma la tb mb lb).l.getD j default)).p1), .int .i64 ((((dG ta ma la tb mb lb).l.getD j default)).p2), .int .i64 ((((dG ta ma la tb mb lb).l.getD j default)).v0), .int .i64 ((((dG ta ma la tb mb lb).l.getD j default)).v1), .int .i64 ((((dG ta ma la tb mb lb).l.getD j default)).v2), .int .u16 (((((((dG ta ma la tb mb lb).l.getD j default)).a).toNat : Nat) : Int))]), (69, .pointer (some (adr v15 (j * 9)))), (68, .int .i64 ((j : Int))), (67, .bool (decide ((j : Int) < ((((dG ta ma la tb mb lb).l.length : Nat) : Int))))), (2, .pointer (some ⟨g3, 0, none⟩)), (3, .pointer (some ⟨g4, 0, none⟩)), (5, .pointer (some ⟨g17, 0, none⟩)), (7, .map (some g31)), (64, v15), (65, .int .i64 ((((dG ta ma la tb mb lb).l.length : Nat) : Int))), (66, .int .i64 ((j : Int)))]) (.c rfl (.c rfl (.c rfl (.c rfl (.c rfl (.c rfl (.c rfl (.c rfl (.c rfl (.c rfl (.c rfl (.c rfl (.c rfl (.c rfl (.c rfl (.c rfl (.c rfl (.c rfl (.c rfl (.c rfl (.c rfl (.c rfl (.c rfl (.c rfl (.c rfl (.c rfl (.c rfl (.c rfl (.c rfl (.c rfl (.c rfl .n)))))))))))))))))))))))))))))))
     refine wp_drawG (M0 := [blk g51 [.int .i64 ((((eget ((((dG ta ma la tb mb lb).l.getD j default)).id) lb).getD entZ)).id), .int .i64 ((((eget ((((dG ta ma la tb mb lb).l.getD j default)).id) lb).getD entZ)).p0), .int .i64 ((((eget ((((dG ta ma la tb mb lb).l.getD j default)).id) lb).getD entZ)).p1), .int .i64 ((((eget ((((dG ta ma la tb mb lb).l.getD j default)).id) lb).getD entZ)).p2), .int .i64 ((((eget ((((dG ta ma la tb mb lb).l.getD j default)).id) lb).getD entZ)).v0), .int .i64 ((((eget ((((dG ta ma la tb mb lb).l.getD j default)).id) lb).getD entZ)).v1), .int .i64 ((((eget ((((dG ta ma la tb mb lb).l.getD j default)).id) lb).getD entZ)).v2), .int .u16 (((((((eget ((((dG ta ma la tb mb lb).l.getD j default)).id) lb).getD entZ)).a).toNat : Nat) : Int)), .int .u8 (((((((eget ((((dG ta ma la tb mb lb).l.getD j default)).id) lb).getD entZ)).g).toNat : Nat) : Int))] 47, blk g48 [.int .i64 ((((eget ((((dG ta ma la tb mb lb).l.getD j default)).id) la).getD entZ)).id), .int .i64 ((((eget ((((dG ta ma la tb mb lb).l.getD j default)).id) la).getD entZ)).p0), .int .i64 ((((eget ((((dG ta ma la tb mb lb).l.getD j default)).id) la).getD entZ)).p1), .int .i64 ((((eget ((((dG ta ma la tb mb lb).l.getD j default)).id) la).getD entZ)).p2), .int .i64 ((((eget ((((dG ta ma la tb mb lb).l.getD j default)).id) la).getD entZ)).v0), .int .i64 ((((eget ((((dG ta ma la tb mb lb).l.getD j default)).id) la).getD entZ)).v1), .int .i64 ((((eget ((((dG ta ma la tb mb lb).l.getD j default)).id) la).getD entZ)).v2), .int .u16 (((((((eget ((((dG ta ma la tb mb lb).l.getD j default)).id) la).getD entZ)).a).toNat : Nat) : Int)), .int .u8 (((((((eget ((((dG ta ma la tb mb lb).l.getD j default)).id) la).getD entZ)).g).toNat : Nat) : Int))] 47, blk g45 [.int .i64 ((((dG ta ma la tb mb lb).l.getD j default)).k), .int .i64 ((((dG ta ma la tb mb lb).l.getD j default)).id), .int .i64 ((((dG ta ma la tb mb lb).l.getD j default)).p0), .int .i64 ((((dG ta ma la tb mb lb).l.getD j default)).p1), .int .i64 ((((dG ta ma la tb mb lb).l.getD j default)).p2), .int .i64 ((((dG ta ma la tb mb lb).l.getD j default)).v0), .int .i64 ((((dG ta ma la tb mb lb).l.getD j default)).v1), .int .i64 ((((dG ta ma la tb mb lb).l.getD j default)).v2), .int .u16 (((((((dG ta ma la tb mb lb).l.getD j default)).a).toNat : Nat) : Int))] 45, mpr g31 (bkv (((dG ta ma la tb mb lb).l.take j))), row v15 45 9 ((dG ta ma la tb mb lb).l.length) (((dG ta ma la tb mb lb).l.flatMap recV)), blk g17 [.int .i64 ((dG ta ma la tb mb lb).t), .int .i64 ((dG ta ma la tb mb lb).tm), .int .i64 ((dG ta ma la tb mb lb).b), v15] 27, blk g4 [.int .i64 (tb), .int .i64 (mb), ub] 24, blk g3 [.int .i64 (ta), .int .i64 (ma), ua] 24]) (Ds := [Pv 0 (.int .i64 ((j : Int))), Pv 1 (.bool (true)), Pv 2 (.bool (true)), Pv 3 (.pointer (some ⟨g17, 3, none⟩)), Pv 4 v15, Pv 5 (.int .i64 ((j : Int))), Pv 6 (.int .i64 (((j - 1 : Nat) : Int))), Pv 7 (.pointer (some (adr v15 ((j - 1) * 9)))), Pv 8 (.pointer (some (adr v15 ((j - 1) * 9 + 1)))), Pv 9 (.int .i64 ((((dG ta ma la tb mb lb).l.getD (j - 1) default)).id)), Pv 10 (.pointer (some ⟨g45, 1, none⟩)), Pv 11 (.int .i64 ((((dG ta ma la tb mb lb).l.getD j default)).id)), Pv 12 (.bool (false)), Pv 13 (.bool (false)), Pv 14 (.bool (false)), Pv 15 (.bool (false)), Pv 16 (.pointer (some ⟨g45, 0, none⟩)), Pv 17 (.int .i64 ((((dG ta ma la tb mb lb).l.getD j default)).k)), Pv 18 (.bool (!(((((dG ta ma la tb mb lb).l.getD j default)).k : Int) == 0))), Pv 19 (.bool (false)), Pv 20 (.bool (false)), Pv 21 (.bool (false)), Pv 22 (.bool (true)), Pv 23 (.pointer (some ⟨g45, 0, none⟩)), Pv 24 (.int .i64 ((((dG ta ma la tb mb lb).l.getD j default)).k)), Pv 25 (.bool (!(((((dG ta ma la tb mb lb).l.getD j default)).k : Int) == 2))), Pv 26 (.bool (false)), Pv 27 (.bool (false)), Pv 28 (.bool (false)), Pv 29 (.bool (false)), Pv 30 (.bool (false)), Pv 31 undef, Pv 32 (.bool (false)), Pv 33 (.bool (false)), Pv 34 undef, Pv 35 undef, Pv 36 undef, Pv 37 (.bool (false)), Pv 38 (.bool (false))]) (by kernel_rfl) hs rfl .n (by kernel_rfl) (by kernel_rfl) (by kernel_rfl) ?_ ?_
     ·
      refine (.c ?_ (.c ?_ (.c ?_ (.c ?_ (.c ?_ (.c ?_ (.c ?_ (.c ?_ (.c ?_ (.c ?_ (.c ?_ (.c ?_ (.c ?_ (.c ?_ (.c ?_ (.c ?_ (.c ?_ (.c ?_ (.c ?_ (.c ?_ (.c ?_ (.c ?_ (.c ?_ (.c ?_ (.c ?_ (.c ?_ (.c ?_ (.c ?_ (.c ?_ (.c ?_ (.c ?_ (.c ?_ (.c ?_ (.c ?_ (.c ?_ (.c ?_ (.c ?_ (.c ?_ (.c ?_ .n)))))))))))))))))))))))))))))))))))))))
      · exact trip_pv (m := 39) .n (fun hm0 hm hx => .n) (by kernel_rfl) (by kernel_rfl) rfl
      ·
       intro a_ w_ R_ rest_ vs58 hm hs ht hx
       have hm0 := hm.mid
       replace hs := hs.lrn (ht 0 (twB_spec 39 _ (by kernel_rfl))) rfl rfl
       have hs0 := hs.bare
       refine st_gtr hs rfl rfl rfl ?_; clear hs; intro a w hs
       have hb_ : (decide (0 < (j : Int))) = true := decide_eq_true (by omega)
       rw [hb_] at hs; clear hb_
       exact wpList_nil ⟨rfl, _, _, hs0, (.c .r), hs, rfl⟩
      · exact trip_pv (m := 39) (.c (k := 1) (by kernel_rfl) rfl rfl .n) (fun hm0 hm hx => .n) (by kernel_rfl) (by kernel_rfl) rfl
      · exact trip_pg (m := 39) rfl (.c (k := 2) (by kernel_rfl) rfl rfl .n) rfl (fun hm0 hm hx => .n) (by kernel_rfl) (by kernel_rfl) rfl
      · exact trip_pg (m := 39) rfl (.c (k := 2) (by kernel_rfl) rfl rfl (.c (k := 3) (by kernel_rfl) rfl rfl .n)) rfl (fun hm0 hm hx => (.c (hm0.del (.s (.s (.s (.s (.s .z)))))))) (by kernel_rfl) (by kernel_rfl) rfl
      · exact trip_pg (m := 39) rfl (.c (k := 2) (by kernel_rfl) rfl rfl .n) rfl (fun hm0 hm hx => .n) (by kernel_rfl) (by kernel_rfl) rfl
      ·
       intro a_ w_ R_ rest_ vs58 hm hs ht hx
       have hm0 := hm.mid
       replace hs := hs.lrn (ht 2 (twB_spec 39 _ (by kernel_rfl))) rfl rfl
       replace hs := hs.lrn (ht 5 (twB_spec 39 _ (by kernel_rfl))) rfl rfl
       have hs0 := hs.bare
       refine st_guardT hs rfl rfl rfl ?_
       refine st_subR hs rfl rfl (by omega) rfl ?_; clear hs; intro a w hs
       have hv_ : ((j : Int) - 1 : Int) = (((j - 1 : Nat) : Int) : Int) := by omega
       rw [hv_] at hs; clear hv_
       exact wpList_nil ⟨rfl, _, _, hs0, (.c (.c .r)), hs, rfl⟩
      ·
       intro a_ w_ R_ rest_ vs58 hm hs ht hx
       have hm0 := hm.mid
       replace hs := hs.lrn (ht 2 (twB_spec 39 _ (by kernel_rfl))) rfl rfl
       replace hs := hs.lrn (ht 4 (twB_spec 39 _ (by kernel_rfl))) rfl rfl
       replace hs := hs.lrn (ht 6 (twB_spec 39 _ (by kernel_rfl))) rfl rfl
       have hs0 := hs.bare
       refine st_guardT hs rfl rfl rfl ?_
       refine st_ia (j := (j - 1)) hs rfl rfl (rd_row (hm0.del (.s (.s (.s (.s .z)))))) rfl (by omega) Try.underlying25 Try.sizeOf45 rfl ?_; clear hs; intro a w hs
       exact wpList_nil ⟨rfl, _, _, hs0, (.c (.c (.c .r))), hs, rfl⟩
      ·
       intro a_ w_ R_ rest_ vs58 hm hs ht hx
       have hm0 := hm.mid
       replace hs := hs.lrn (ht 2 (twB_spec 39 _ (by kernel_rfl))) rfl rfl
       replace hs := hs.lrn (ht 7 (twB_spec 39 _ (by kernel_rfl))) rfl rfl
       have hs0 := hs.bare
       refine st_guardT hs rfl rfl rfl ?_
       refine st_faV hs rfl (rd_row (hm0.del (.s (.s (.s (.s .z)))))) (by omega) Try.underlying45 rfl Try.sizeOf3 (by decide) (o := (j - 1) * 9 + 1) rfl rfl ?_; clear hs; intro a w hs
       exact wpList_nil ⟨rfl, _, _, hs0, (.c (.c .r)), hs, rfl⟩
      ·
       intro a_ w_ R_ rest_ vs58 hm hs ht hx
       have hm0 := hm.mid
       replace hs := hs.lrn (ht 2 (twB_spec 39 _ (by kernel_rfl))) rfl rfl
       replace hs := hs.lrn (ht 8 (twB_spec 39 _ (by kernel_rfl))) rfl rfl
       have hs0 := hs.bare
       refine st_guardT hs rfl rfl rfl ?_
       refine st_ld (u := .int .i64 ((((dG ta ma la tb mb lb).l.getD (j - 1) default)).id)) hs rfl (rd_row (hm0.del (.s (.s (.s (.s .z)))))) ((flat_get1 recV_len (dG ta ma la tb mb lb).l (j - 1) 1 (by omega) (by decide)).trans rfl) Try.isAgg3 rfl ?_; clear hs; intro a w hs
       exact wpList_nil ⟨rfl, _, _, hs0, (.c (.c .r)), hs, rfl⟩
      · exact trip_pg (m := 39) rfl (.c (k := 2) (by kernel_rfl) rfl rfl .n) rfl (fun hm0 hm hx => .n) (by kernel_rfl) (by kernel_rfl) rfl
      · exact trip_pg (m := 39) rfl (.c (k := 2) (by kernel_rfl) rfl rfl (.c (k := 10) (by kernel_rfl) rfl rfl .n)) rfl (fun hm0 hm hx => (.c (hm0.del (.s (.s .z))))) (by kernel_rfl) (by kernel_rfl) rfl
      ·
       intro a_ w_ R_ rest_ vs58 hm hs ht hx
       have hm0 := hm.mid
       replace hs := hs.lrn (ht 2 (twB_spec 39 _ (by kernel_rfl))) rfl rfl
       replace hs := hs.lrn (ht 9 (twB_spec 39 _ (by kernel_rfl))) rfl rfl
       replace hs := hs.lrn (ht 11 (twB_spec 39 _ (by kernel_rfl))) rfl rfl
       have hs0 := hs.bare
       refine st_guardT hs rfl rfl rfl ?_
       refine st_geq hs rfl rfl rfl ?_; clear hs; intro a w hs
       have hb_ : (decide (((((dG ta ma la tb mb lb).l.getD j default)).id) ≤ ((((dG ta ma la tb mb lb).l.getD (j - 1) default)).id))) = false := decide_eq_false (by have := rs_lt hS (j := j) (by omega) (by omega); omega)
       rw [hb_] at hs; clear hb_
       exact wpList_nil ⟨rfl, _, _, hs0, (.c (.c (.c .r))), hs, rfl⟩
      · exact trip_pv (m := 39) (.c (k := 2) (by kernel_rfl) rfl rfl (.c (k := 12) (by kernel_rfl) rfl rfl .n)) (fun hm0 hm hx => .n) (by kernel_rfl) (by kernel_rfl) rfl
      · exact trip_pv (m := 39) (.c (k := 13) (by kernel_rfl) rfl rfl .n) (fun hm0 hm hx => .n) (by kernel_rfl) (by kernel_rfl) rfl
      · exact trip_pg (m := 39) rfl (.c (k := 14) (by kernel_rfl) rfl rfl .n) rfl (fun hm0 hm hx => .n) (by kernel_rfl) (by kernel_rfl) rfl
      · exact trip_pg (m := 39) rfl (.c (k := 14) (by kernel_rfl) rfl rfl .n) rfl (fun hm0 hm hx => .n) (by kernel_rfl) (by kernel_rfl) rfl
      · exact trip_pg (m := 39) rfl (.c (k := 14) (by kernel_rfl) rfl rfl (.c (k := 16) (by kernel_rfl) rfl rfl .n)) rfl (fun hm0 hm hx => (.c (hm0.del (.s (.s .z))))) (by kernel_rfl) (by kernel_rfl) rfl
      · exact trip_pg (m := 39) rfl (.c (k := 14) (by kernel_rfl) rfl rfl (.c (k := 17) (by kernel_rfl) rfl rfl .n)) rfl (fun hm0 hm hx => .n) (by kernel_rfl) (by kernel_rfl) rfl
      ·
       intro a_ w_ R_ rest_ vs58 hm hs ht hx
       have hm0 := hm.mid
       replace hs := hs.lrn (ht 14 (twB_spec 39 _ (by kernel_rfl))) rfl rfl
       replace hs := hs.lrn (ht 15 (twB_spec 39 _ (by kernel_rfl))) rfl rfl
       replace hs := hs.lrn (ht 18 (twB_spec 39 _ (by kernel_rfl))) rfl rfl
       have hs0 := hs.bare
       refine st_guardT hs rfl rfl rfl ?_
       refine st_neb hs rfl rfl Try.underlying4 rfl ?_; clear hs; intro a w hs
       have hb_ : (!((false : Bool) == (!(((((dG ta ma la tb mb lb).l.getD j default)).k : Int) == 0)))) = false := by rw [hA']; rfl
       rw [hb_] at hs; clear hb_
       exact wpList_nil ⟨rfl, _, _, hs0, (.c (.c (.c .r))), hs, rfl⟩
      · exact trip_pv (m := 39) (.c (k := 14) (by kernel_rfl) rfl rfl (.c (k := 19) (by kernel_rfl) rfl rfl .n)) (fun hm0 hm hx => .n) (by kernel_rfl) (by kernel_rfl) rfl
      · exact trip_pv (m := 39) (.c (k := 20) (by kernel_rfl) rfl rfl .n) (fun hm0 hm hx => .n) (by kernel_rfl) (by kernel_rfl) rfl
      · exact trip_pg (m := 39) rfl (.c (k := 21) (by kernel_rfl) rfl rfl .n) rfl (fun hm0 hm hx => .n) (by kernel_rfl) (by kernel_rfl) rfl
      · exact trip_pg (m := 39) rfl (.c (k := 21) (by kernel_rfl) rfl rfl .n) rfl (fun hm0 hm hx => .n) (by kernel_rfl) (by kernel_rfl) rfl
      · exact trip_pg (m := 39) rfl (.c (k := 21) (by kernel_rfl) rfl rfl (.c (k := 23) (by kernel_rfl) rfl rfl .n)) rfl (fun hm0 hm hx => (.c (hm0.del (.s (.s .z))))) (by kernel_rfl) (by kernel_rfl) rfl
      · exact trip_pg (m := 39) rfl (.c (k := 21) (by kernel_rfl) rfl rfl (.c (k := 24) (by kernel_rfl) rfl rfl .n)) rfl (fun hm0 hm hx => .n) (by kernel_rfl) (by kernel_rfl) rfl
      ·
       intro a_ w_ R_ rest_ vs58 hm hs ht hx
       have hm0 := hm.mid
       replace hs := hs.lrn (ht 21 (twB_spec 39 _ (by kernel_rfl))) rfl rfl
       replace hs := hs.lrn (ht 22 (twB_spec 39 _ (by kernel_rfl))) rfl rfl
       replace hs := hs.lrn (ht 25 (twB_spec 39 _ (by kernel_rfl))) rfl rfl
       have hs0 := hs.bare
       refine st_guardT hs rfl rfl rfl ?_
       refine st_neb hs rfl rfl Try.underlying4 rfl ?_; clear hs; intro a w hs
       have hb_ : (!((true : Bool) == (!(((((dG ta ma la tb mb lb).l.getD j default)).k : Int) == 2)))) = false := by rw [hB']; rfl
       rw [hb_] at hs; clear hb_
       exact wpList_nil ⟨rfl, _, _, hs0, (.c (.c (.c .r))), hs, rfl⟩
      · exact trip_pv (m := 39) (.c (k := 21) (by kernel_rfl) rfl rfl (.c (k := 26) (by kernel_rfl) rfl rfl .n)) (fun hm0 hm hx => .n) (by kernel_rfl) (by kernel_rfl) rfl
      · exact trip_pv (m := 39) (.c (k := 27) (by kernel_rfl) rfl rfl .n) (fun hm0 hm hx => .n) (by kernel_rfl) (by kernel_rfl) rfl
      · exact trip_pg (m := 39) rfl (.c (k := 28) (by kernel_rfl) rfl rfl .n) rfl (fun hm0 hm hx => .n) (by kernel_rfl) (by kernel_rfl) rfl
      · exact trip_pg (m := 39) rfl (.c (k := 28) (by kernel_rfl) rfl rfl (.c (k := 29) (by kernel_rfl) rfl rfl .n)) rfl (fun hm0 hm hx => .n) (by kernel_rfl) (by kernel_rfl) rfl
      · exact trip_pf (m := 39) rfl (.c (k := 30) (by kernel_rfl) rfl rfl .n) rfl rfl rfl
      · exact trip_pg (m := 39) rfl (.c (k := 28) (by kernel_rfl) rfl rfl (.c (k := 30) (by kernel_rfl) rfl rfl (.c (k := 31) (by kernel_rfl) rfl rfl .n))) rfl (fun hm0 hm hx => .n) (by kernel_rfl) (by kernel_rfl) rfl
      · exact trip_pg (m := 39) rfl (.c (k := 28) (by kernel_rfl) rfl rfl (.c (k := 32) (by kernel_rfl) rfl rfl .n)) rfl (fun hm0 hm hx => .n) (by kernel_rfl) (by kernel_rfl) rfl
      · exact trip_pf (m := 39) rfl (.c (k := 33) (by kernel_rfl) rfl rfl .n) rfl rfl rfl
      · exact trip_pf (m := 39) rfl (.c (k := 33) (by kernel_rfl) rfl rfl .n) rfl rfl rfl
      ·
       intro a_ w_ R_ rest_ vs58 hm hs ht hx
       have hm0 := hm.mid
       replace hs := hs.lrn (ht 33 (twB_spec 39 _ (by kernel_rfl))) rfl rfl
       replace hs := hs.lrn (ht 34 (twB_spec 39 _ (by kernel_rfl))) rfl rfl
       replace hs := hs.lrn (ht 35 (twB_spec 39 _ (by kernel_rfl))) rfl rfl
       have hs0 := hs.bare
       refine st_guardF hs rfl rfl rfl rfl rfl ?_; clear hs; intro a w hs
       exact wpList_nil ⟨rfl, _, _, hs0, (.c (.c (.c .r))), hs, rfl⟩
      · exact trip_pg (m := 39) rfl (.c (k := 28) (by kernel_rfl) rfl rfl (.c (k := 33) (by kernel_rfl) rfl rfl (.c (k := 36) (by kernel_rfl) rfl rfl .n))) rfl (fun hm0 hm hx => .n) (by kernel_rfl) (by kernel_rfl) rfl
      exact trip_pv (m := 39) (.c (k := 28) (by kernel_rfl) rfl rfl (.c (k := 37) (by kernel_rfl) rfl rfl .n)) (fun hm0 hm hx => .n) (by kernel_rfl) (by kernel_rfl) rfl
     clear hs w a; intro a w vs58 hs hf
     replace hs : St _ _ _ _ [blk g51 [.int .i64 ((((eget ((((dG ta ma la tb mb lb).l.getD j default)).id) lb).getD entZ)).id), .int .i64 ((((eget ((((dG ta ma la tb mb lb).l.getD j default)).id) lb).getD entZ)).p0), .int .i64 ((((eget ((((dG ta ma la tb mb lb).l.getD j default)).id) lb).getD entZ)).p1), .int .i64 ((((eget ((((dG ta ma la tb mb lb).l.getD j default)).id) lb).getD entZ)).p2), .int .i64 ((((eget ((((dG ta ma la tb mb lb).l.getD j default)).id) lb).getD entZ)).v0), .int .i64 ((((eget ((((dG ta ma la tb mb lb).l.getD j default)).id) lb).getD entZ)).v1), .int .i64 ((((eget ((((dG ta ma la tb mb lb).l.getD j default)).id) lb).getD entZ)).v2), .int .u16 (((((((eget ((((dG ta ma la tb mb lb).l.getD j default)).id) lb).getD entZ)).a).toNat : Nat) : Int)), .int .u8 (((((((eget ((((dG ta ma la tb mb lb).l.getD j default)).id) lb).getD entZ)).g).toNat : Nat) : Int))] 47, blk g48 [.int .i64 ((((eget ((((dG ta ma la tb mb lb).l.getD j default)).id) la).getD entZ)).id), .int .i64 ((((eget ((((dG ta ma la tb mb lb).l.getD j default)).id) la).getD entZ)).p0), .int .i64 ((((eget ((((dG ta ma la tb mb lb).l.getD j default)).id) la).getD entZ)).p1), .int .i64 ((((eget ((((dG ta ma la tb mb lb).l.getD j default)).id) la).getD entZ)).p2), .int .i64 ((((eget ((((dG ta ma la tb mb lb).l.getD j default)).id) la).getD entZ)).v0), .int .i64 ((((eget ((((dG ta ma la tb mb lb).l.getD j default)).id) la).getD entZ)).v1), .int .i64 ((((eget ((((dG ta ma la tb mb lb).l.getD j default)).id) la).getD entZ)).v2), .int .u16 (((((((eget ((((dG ta ma la tb mb lb).l.getD j default)).id) la).getD entZ)).a).toNat : Nat) : Int)), .int .u8 (((((((eget ((((dG ta ma la tb mb lb).l.getD j default)).id) la).getD entZ)).g).toNat : Nat) : Int))] 47, blk g45 [.int .i64 ((((dG ta ma la tb mb lb).l.getD j default)).k), .int .i64 ((((dG ta ma la tb mb lb).l.getD j default)).id), .int .i64 ((((dG ta ma la tb mb lb).l.getD j default)).p0), .int .i64 ((((dG ta ma la tb mb lb).l.getD j default)).p1), .int .i64 ((((dG ta ma la tb mb lb).l.getD j default)).p2), .int .i64 ((((dG ta ma la tb mb lb).l.getD j default)).v0), .int .i64 ((((dG ta ma la tb mb lb).l.getD j default)).v1), .int .i64 ((((dG ta ma la tb mb lb).l.getD j default)).v2), .int .u16 (((((((dG ta ma la tb mb lb).l.getD j default)).a).toNat : Nat) : Int))] 45, mpr g31 (bkv (((dG ta ma la tb mb lb).l.take j))), row v15 45 9 ((dG ta ma la tb mb lb).l.length) (((dG ta ma la tb mb lb).l.flatMap recV)), blk g17 [.int .i64 ((dG ta ma la tb mb lb).t), .int .i64 ((dG ta ma la tb mb lb).tm), .int .i64 ((dG ta ma la tb mb lb).b), v15] 27, blk g4 [.int .i64 (tb), .int .i64 (mb), ub] 24, blk g3 [.int .i64 (ta), .int .i64 (ma), ua] 24] _ _ := hs
     obtain ⟨e38, q38⟩ := hf 38 (by decide)
     replace e38 : _ = some (vs58 38) := e38.val rfl
     rw [show vs58 38 = .bool (false) from q38] at e38
     replace hs := hs.learn e38; clear e38 q38
     clear hf
     refine then_n (hK55 _ _ ?_)
     refine wp_cond_false (hs.ev rfl) ?_
     refine wp_skip ?_
     refine then_n (hK53 _ _ ?_)
     refine wp_region_lit ?_
     refine st_run 3 [(126, .int .i64 ((((dG ta ma la tb mb lb).l.getD j default)).id)), (125, .pointer (some ⟨g45, 1, none⟩)), (124, .map (some g31))] hs (.c (hs.mem.del (.s (.s .z))) .n) (by kernel_rfl) (by kernel_rfl) (by kernel_rfl) ?_; clear hs a; intro a hs
     refine st_updB (l' := ((dG ta ma la tb mb lb).l.take (j + 1))) hs rfl rfl rfl (.s (.s (.s .z))) (bkv_next hS (by omega)) Try.underlying53 Try.underlying3 ?_; clear hs w a; intro a w hs
     refine wpList_nil ?_
     refine in_n ?_
     refine then_n (hK42 _ _ ?_)
     refine wp_region_lit ?_
     refine st_addR hs rfl rfl (by omega) rfl ?_; clear hs w a; intro a w hs
     refine st_mv hs rfl rfl ?_; clear hs w a; intro a w hs
     refine wpList_nil ?_
     refine then_n ?_
     replace hs := hs.drop (.c (.s (.s (.s .z))) (.c (.s (.s .z)) (.c (.s .z) .n)))
     refine ⟨_, ?_, j + 1, rfl, hs.sub (.c rfl (.c rfl (.c rfl (.c rfl (.c rfl (.c rfl (.c rfl .n))))))), by omega⟩
     omega
    replace ci := Bool.eq_false_iff.2 ci; rw [ci] at hs
    have hB' : (!((((dG ta ma la tb mb lb).l.getD j default).k : Int) == 2)) = false := by rw [← told_b (hT _ (rs_mem (by omega)))]; exact ci
    replace hs := hs.sub (F' := [(13, .bool (false)), (12, .pointer (some ⟨g51, 0, none⟩)), (84, .bool (false)), (83, .agg #[.int .i64 ((((eget ((((dG ta ma la tb mb lb).l.getD j default)).id) lb).getD entZ)).id), .int .i64 ((((eget ((((dG ta ma la tb mb lb).l.getD j default)).id) lb).getD entZ)).p0), .int .i64 ((((eget ((((dG ta ma la tb mb lb).l.getD j default)).id) lb).getD entZ)).p1), .int .i64 ((((eget ((((dG ta ma la tb mb lb).l.getD j default)).id) lb).getD entZ)).p2), .int .i64 ((((eget ((((dG ta ma la tb mb lb).l.getD j default)).id) lb).getD entZ)).v0), .int .i64 ((((eget ((((dG ta ma la tb mb lb).l.getD j default)).id) lb).getD entZ)).v1), .int .i64 ((((eget ((((dG ta ma la tb mb lb).l.getD j default)).id) lb).getD entZ)).v2), .int .u16 (((((((eget ((((dG ta ma la tb mb lb).l.getD j default)).id) lb).getD entZ)).a).toNat : Nat) : Int)), .int .u8 (((((((eget ((((dG ta ma la tb mb lb).l.getD j default)).id) lb).getD entZ)).g).toNat : Nat) : Int))]), (78, .tuple #[.agg #[.int .i64 ((((eget ((((dG ta ma la tb mb lb).l.getD j default)).id) lb).getD entZ)).id), .int .i64 ((((eget ((((dG ta ma la tb mb lb).l.getD j default)).id) lb).getD entZ)).p0), .int .i64 ((((eget ((((dG ta ma la tb mb lb).l.getD j default)).id) lb).getD entZ)).p1), .int .i64 ((((eget ((((dG ta ma la tb mb lb).l.getD j default)).id) lb).getD entZ)).p2), .int .i64 ((((eget ((((dG ta ma la tb mb lb).l.getD j default)).id) lb).getD entZ)).v0), .int .i64 ((((eget ((((dG ta ma la tb mb lb).l.getD j default)).id) lb).getD entZ)).v1), .int .i64 ((((eget ((((dG ta ma la tb mb lb).l.getD j default)).id) lb).getD entZ)).v2), .int .u16 (((((((eget ((((dG ta ma la tb mb lb).l.getD j default)).id) lb).getD entZ)).a).toNat : Nat) : Int)), .int .u8 (((((((eget ((((dG ta ma la tb mb lb).l.getD j default)).id) lb).getD entZ)).g).toNat : Nat) : Int))], .bool (false)]), (82, .tuple #[.agg #[.int .i64 ((((eget ((((dG ta ma la tb mb lb).l.getD j default)).id) lb).getD entZ)).id), .int .i64 ((((eget ((((dG ta ma la tb mb lb).l.getD j default)).id) lb).getD entZ)).p0), .int .i64 ((((eget ((((dG ta ma la tb mb lb).l.getD j default)).id) lb).getD entZ)).p1), .int .i64 ((((eget ((((dG ta ma la tb mb lb).l.getD j default)).id) lb).getD entZ)).p2), .int .i64 ((((eget ((((dG ta ma la tb mb lb).l.getD j default)).id) lb).getD entZ)).v0), .int .i64 ((((eget ((((dG ta ma la tb mb lb).l.getD j default)).id) lb).getD entZ)).v1), .int .i64 ((((eget ((((dG ta ma la tb mb lb).l.getD j default)).id) lb).getD entZ)).v2), .int .u16 (((((((eget ((((dG ta ma la tb mb lb).l.getD j default)).id) lb).getD entZ)).a).toNat : Nat) : Int)), .int .u8 (((((((eget ((((dG ta ma la tb mb lb).l.getD j default)).id) lb).getD entZ)).g).toNat : Nat) : Int))], .bool (false)]), (81, .int .i64 ((((dG ta ma la tb mb lb).l.getD j default)).id)), (80, .pointer (some ⟨g45, 1, none⟩)), (79, .agg #[.int .i64 (tb), .int .i64 (mb), ub]), (11, .bool (false)), (10, .pointer (some ⟨g48, 0, none⟩)), (77, .bool (false)), (76, .agg #[.int .i64 ((((eget ((((dG ta ma la tb mb lb).l.getD j default)).id) la).getD entZ)).id), .int .i64 ((((eget ((((dG ta ma la tb mb lb).l.getD j default)).id) la).getD entZ)).p0), .int .i64 ((((eget ((((dG ta ma la tb mb lb).l.getD j default)).id) la).getD entZ)).p1), .int .i64 ((((eget ((((dG ta ma la tb mb lb).l.getD j default)).id) la).getD entZ)).p2), .int .i64 ((((eget ((((dG ta ma la tb mb lb).l.getD j default)).id) la).getD entZ)).v0), .int .i64 ((((eget ((((dG ta ma la tb mb lb).l.getD j default)).id) la).getD entZ)).v1), .int .i64 ((((eget ((((dG ta ma la tb mb lb).l.getD j default)).id) la).getD entZ)).v2), .int .u16 (((((((eget ((((dG ta ma la tb mb lb).l.getD j default)).id) la).getD entZ)).a).toNat : Nat) : Int)), .int .u8 (((((((eget ((((dG ta ma la tb mb lb).l.getD j default)).id) la).getD entZ)).g).toNat : Nat) : Int))]), (71, .tuple #[.agg #[.int .i64 ((((eget ((((dG ta ma la tb mb lb).l.getD j default)).id) la).getD entZ)).id), .int .i64 ((((eget ((((dG ta ma la tb mb lb).l.getD j default)).id) la).getD entZ)).p0), .int .i64 ((((eget ((((dG ta ma la tb mb lb).l.getD j default)).id) la).getD entZ)).p1), .int .i64 ((((eget ((((dG ta ma la tb mb lb).l.getD j default)).id) la).getD entZ)).p2), .int .i64 ((((eget ((((dG ta ma la tb mb lb).l.getD j default)).id) la).getD entZ)).v0), .int .i64 ((((eget ((((dG ta ma la tb mb lb).l.getD j default)).id) la).getD entZ)).v1), .int .i64 ((((eget ((((dG ta ma la tb mb lb).l.getD j default)).id) la).getD entZ)).v2), .int .u16 (((((((eget ((((dG ta ma la tb mb lb).l.getD j default)).id) la).getD entZ)).a).toNat : Nat) : Int)), .int .u8 (((((((eget ((((dG ta ma la tb mb lb).l.getD j default)).id) la).getD entZ)).g).toNat : Nat) : Int))], .bool (false)]), (75, .tuple #[.agg #[.int .i64 ((((eget ((((dG ta ma la tb mb lb).l.getD j default)).id) la).getD entZ)).id), .int .i64 ((((eget ((((dG ta ma la tb mb lb).l.getD j default)).id) la).getD entZ)).p0), .int .i64 ((((eget ((((dG ta ma la tb mb lb).l.getD j default)).id) la).getD entZ)).p1), .int .i64 ((((eget ((((dG ta ma la tb mb lb).l.getD j default)).id) la).getD entZ)).p2), .int .i64 ((((eget ((((dG ta ma la tb mb lb).l.getD j default)).id) la).getD entZ)).v0), .int .i64 ((((eget ((((dG ta ma la tb mb lb).l.getD j default)).id) la).getD entZ)).v1), .int .i64 ((((eget ((((dG ta ma la tb mb lb).l.getD j default)).id) la).getD entZ)).v2), .int .u16 (((((((eget ((((dG ta ma la tb mb lb).l.getD j default)).id) la).getD entZ)).a).toNat : Nat) : Int)), .int .u8 (((((((eget ((((dG ta ma la tb mb lb).l.getD j default)).id) la).getD entZ)).g).toNat : Nat) : Int))], .bool (false)]), (74, .int .i64 ((((dG ta ma la tb mb lb).l.getD j default)).id)), (73, .pointer (some ⟨g45, 1, none⟩)), (72, .agg #[.int .i64 (ta), .int .i64 (ma), ua]), (8, .int .i64 ((j : Int))), (9, .pointer (some ⟨g45, 0, none⟩)), (70, .agg #[.int .i64 ((((dG ta ma la tb mb lb).l.getD j default)).k), .int .i64 ((((dG ta ma la tb mb lb).l.getD j default)).id), .int .i64 ((((dG ta ma la tb mb lb).l.getD j default)).p0), .int .i64 ((((dG ta ma la tb mb lb).l.getD j default)).p1), .int .i64 ((((dG ta ma la tb mb lb).l.getD j default)).p2), .int .i64 ((((dG ta ma la tb mb lb).l.getD j default)).v0), .int .i64 ((((dG ta ma la tb mb lb).l.getD j default)).v1), .int .i64 ((((dG ta ma la tb mb lb).l.getD j default)).v2), .int .u16 (((((((dG ta ma la tb mb lb).l.getD j default)).a).toNat : Nat) : Int))]), (69, .pointer (some (adr v15 (j * 9)))), (68, .int .i64 ((j : Int))), (67, .bool (decide ((j : Int) < ((((dG ta ma la tb mb lb).l.length : Nat) : Int))))), (2, .pointer (some ⟨g3, 0, none⟩)), (3, .pointer (some ⟨g4, 0, none⟩)), (5, .pointer (some ⟨g17, 0, none⟩)), (7, .map (some g31)), (64, v15), (65, .int .i64 ((((dG ta ma la tb mb lb).l.length : Nat) : Int))), (66, .int .i64 ((j : Int)))]) (.c rfl (.c rfl (.c rfl (.c rfl (.c rfl (.c rfl (.c rfl (.c rfl (.c rfl (.c rfl (.c rfl (.c rfl (.c rfl (.c rfl (.c rfl (.c rfl (.c rfl (.c rfl (.c rfl (.c rfl (.c rfl (.c rfl (.c rfl (.c rfl (.c rfl (.c rfl (.c rfl (.c rfl (.c rfl (.c rfl (.c rfl .n)))))))))))))))))))))))))))))))
    refine wp_drawG (M0 := [blk g51 [.int .i64 ((((eget ((((dG ta ma la tb mb lb).l.getD j default)).id) lb).getD entZ)).id), .int .i64 ((((eget ((((dG ta ma la tb mb lb).l.getD j default)).id) lb).getD entZ)).p0), .int .i64 ((((eget ((((dG ta ma la tb mb lb).l.getD j default)).id) lb).getD entZ)).p1), .int .i64 ((((eget ((((dG ta ma la tb mb lb).l.getD j default)).id) lb).getD entZ)).p2), .int .i64 ((((eget ((((dG ta ma la tb mb lb).l.getD j default)).id) lb).getD entZ)).v0), .int .i64 ((((eget ((((dG ta ma la tb mb lb).l.getD j default)).id) lb).getD entZ)).v1), .int .i64 ((((eget ((((dG ta ma la tb mb lb).l.getD j default)).id) lb).getD entZ)).v2), .int .u16 (((((((eget ((((dG ta ma la tb mb lb).l.getD j default)).id) lb).getD entZ)).a).toNat : Nat) : Int)), .int .u8 (((((((eget ((((dG ta ma la tb mb lb).l.getD j default)).id) lb).getD entZ)).g).toNat : Nat) : Int))] 47, blk g48 [.int .i64 ((((eget ((((dG ta ma la tb mb lb).l.getD j default)).id) la).getD entZ)).id), .int .i64 ((((eget ((((dG ta ma la tb mb lb).l.getD j default)).id) la).getD entZ)).p0), .int .i64 ((((eget ((((dG ta ma la tb mb lb).l.getD j default)).id) la).getD entZ)).p1), .int .i64 ((((eget ((((dG ta ma la tb mb lb).l.getD j default)).id) la).getD entZ)).p2), .int .i64 ((((eget ((((dG ta ma la tb mb lb).l.getD j default)).id) la).getD entZ)).v0), .int .i64 ((((eget ((((dG ta ma la tb mb lb).l.getD j default)).id) la).getD entZ)).v1), .int .i64 ((((eget ((((dG ta ma la tb mb lb).l.getD j default)).id) la).getD entZ)).v2), .int .u16 (((((((eget ((((dG ta ma la tb mb lb).l.getD j default)).id) la).getD entZ)).a).toNat : Nat) : Int)), .int .u8 (((((((eget ((((dG ta ma la tb mb lb).l.getD j default)).id) la).getD entZ)).g).toNat : Nat) : Int))] 47, blk g45 [.int .i64 ((((dG ta ma la tb mb lb).l.getD j default)).k), .int .i64 ((((dG ta ma la tb mb lb).l.getD j default)).id), .int .i64 ((((dG ta ma la tb mb lb).l.getD j default)).p0), .int .i64 ((((dG ta ma la tb mb lb).l.getD j default)).p1), .int .i64 ((((dG ta ma la tb mb lb).l.getD j default)).p2), .int .i64 ((((dG ta ma la tb mb lb).l.getD j default)).v0), .int .i64 ((((dG ta ma la tb mb lb).l.getD j default)).v1), .int .i64 ((((dG ta ma la tb mb lb).l.getD j default)).v2), .int .u16 (((((((dG ta ma la tb mb lb).l.getD j default)).a).toNat : Nat) : Int))] 45, mpr g31 (bkv (((dG ta ma la tb mb lb).l.take j))), row v15 45 9 ((dG ta ma la tb mb lb).l.length) (((dG ta ma la tb mb lb).l.flatMap recV)), blk g17 [.int .i64 ((dG ta ma la tb mb lb).t), .int .i64 ((dG ta ma la tb mb lb).tm), .int .i64 ((dG ta ma la tb mb lb).b), v15] 27, blk g4 [.int .i64 (tb), .int .i64 (mb), ub] 24, blk g3 [.int .i64 (ta), .int .i64 (ma), ua] 24]) (Ds := [Pv 0 (.int .i64 ((j : Int))), Pv 1 (.bool (true)), Pv 2 (.bool (true)), Pv 3 (.pointer (some ⟨g17, 3, none⟩)), Pv 4 v15, Pv 5 (.int .i64 ((j : Int))), Pv 6 (.int .i64 (((j - 1 : Nat) : Int))), Pv 7 (.pointer (some (adr v15 ((j - 1) * 9)))), Pv 8 (.pointer (some (adr v15 ((j - 1) * 9 + 1)))), Pv 9 (.int .i64 ((((dG ta ma la tb mb lb).l.getD (j - 1) default)).id)), Pv 10 (.pointer (some ⟨g45, 1, none⟩)), Pv 11 (.int .i64 ((((dG ta ma la tb mb lb).l.getD j default)).id)), Pv 12 (.bool (false)), Pv 13 (.bool (false)), Pv 14 (.bool (false)), Pv 15 (.bool (false)), Pv 16 (.pointer (some ⟨g45, 0, none⟩)), Pv 17 (.int .i64 ((((dG ta ma la tb mb lb).l.getD j default)).k)), Pv 18 (.bool (!(((((dG ta ma la tb mb lb).l.getD j default)).k : Int) == 0))), Pv 19 (.bool (false)), Pv 20 (.bool (false)), Pv 21 (.bool (false)), Pv 22 (.bool (false)), Pv 23 (.pointer (some ⟨g45, 0, none⟩)), Pv 24 (.int .i64 ((((dG ta ma la tb mb lb).l.getD j default)).k)), Pv 25 (.bool (!(((((dG ta ma la tb mb lb).l.getD j default)).k : Int) == 2))), Pv 26 (.bool (false)), Pv 27 (.bool (false)), Pv 28 (.bool (false)), Pv 29 (.bool (false)), Pv 30 (.bool (false)), Pv 31 undef, Pv 32 (.bool (false)), Pv 33 (.bool (false)), Pv 34 undef, Pv 35 undef, Pv 36 undef, Pv 37 (.bool (false)), Pv 38 (.bool (false))]) (by kernel_rfl) hs rfl .n (by kernel_rfl) (by kernel_rfl) (by kernel_rfl) ?_ ?_
    ·
     refine (.c ?_ (.c ?_ (.c ?_ (.c ?_ (.c ?_ (.c ?_ (.c ?_ (.c ?_ (.c ?_ (.c ?_ (.c ?_ (.c ?_ (.c ?_ (.c ?_ (.c ?_ (.c ?_ (.c ?_ (.c ?_ (.c ?_ (.c ?_ (.c ?_ (.c ?_ (.c ?_ (.c ?_ (.c ?_ (.c ?_ (.c ?_ (.c ?_ (.c ?_ (.c ?_ (.c ?_ (.c ?_ (.c ?_ (.c ?_ (.c ?_ (.c ?_ (.c ?_ (.c ?_ (.c ?_ .n)))))))))))))))))))))))))))))))))))))))
     · exact trip_pv (m := 39) .n (fun hm0 hm hx => .n) (by kernel_rfl) (by kernel_rfl) rfl
     ·
      intro a_ w_ R_ rest_ vs59 hm hs ht hx
      have hm0 := hm.mid
      replace hs := hs.lrn (ht 0 (twB_spec 39 _ (by kernel_rfl))) rfl rfl
      have hs0 := hs.bare
      refine st_gtr hs rfl rfl rfl ?_; clear hs; intro a w hs
      have hb_ : (decide (0 < (j : Int))) = true := decide_eq_true (by omega)
      rw [hb_] at hs; clear hb_
      exact wpList_nil ⟨rfl, _, _, hs0, (.c .r), hs, rfl⟩
     · exact trip_pv (m := 39) (.c (k := 1) (by kernel_rfl) rfl rfl .n) (fun hm0 hm hx => .n) (by kernel_rfl) (by kernel_rfl) rfl
     · exact trip_pg (m := 39) rfl (.c (k := 2) (by kernel_rfl) rfl rfl .n) rfl (fun hm0 hm hx => .n) (by kernel_rfl) (by kernel_rfl) rfl
     · exact trip_pg (m := 39) rfl (.c (k := 2) (by kernel_rfl) rfl rfl (.c (k := 3) (by kernel_rfl) rfl rfl .n)) rfl (fun hm0 hm hx => (.c (hm0.del (.s (.s (.s (.s (.s .z)))))))) (by kernel_rfl) (by kernel_rfl) rfl
     · exact trip_pg (m := 39) rfl (.c (k := 2) (by kernel_rfl) rfl rfl .n) rfl (fun hm0 hm hx => .n) (by kernel_rfl) (by kernel_rfl) rfl
     ·
      intro a_ w_ R_ rest_ vs59 hm hs ht hx
      have hm0 := hm.mid
      replace hs := hs.lrn (ht 2 (twB_spec 39 _ (by kernel_rfl))) rfl rfl
      replace hs := hs.lrn (ht 5 (twB_spec 39 _ (by kernel_rfl))) rfl rfl
      have hs0 := hs.bare
      refine st_guardT hs rfl rfl rfl ?_
      refine st_subR hs rfl rfl (by omega) rfl ?_; clear hs; intro a w hs
      have hv_ : ((j : Int) - 1 : Int) = (((j - 1 : Nat) : Int) : Int) := by omega
      rw [hv_] at hs; clear hv_
      exact wpList_nil ⟨rfl, _, _, hs0, (.c (.c .r)), hs, rfl⟩
     ·
      intro a_ w_ R_ rest_ vs59 hm hs ht hx
      have hm0 := hm.mid
      replace hs := hs.lrn (ht 2 (twB_spec 39 _ (by kernel_rfl))) rfl rfl
      replace hs := hs.lrn (ht 4 (twB_spec 39 _ (by kernel_rfl))) rfl rfl
      replace hs := hs.lrn (ht 6 (twB_spec 39 _ (by kernel_rfl))) rfl rfl
      have hs0 := hs.bare
      refine st_guardT hs rfl rfl rfl ?_
      refine st_ia (j := (j - 1)) hs rfl rfl (rd_row (hm0.del (.s (.s (.s (.s .z)))))) rfl (by omega) Try.underlying25 Try.sizeOf45 rfl ?_; clear hs; intro a w hs
      exact wpList_nil ⟨rfl, _, _, hs0, (.c (.c (.c .r))), hs, rfl⟩
     ·
      intro a_ w_ R_ rest_ vs59 hm hs ht hx
      have hm0 := hm.mid
      replace hs := hs.lrn (ht 2 (twB_spec 39 _ (by kernel_rfl))) rfl rfl
      replace hs := hs.lrn (ht 7 (twB_spec 39 _ (by kernel_rfl))) rfl rfl
      have hs0 := hs.bare
      refine st_guardT hs rfl rfl rfl ?_
      refine st_faV hs rfl (rd_row (hm0.del (.s (.s (.s (.s .z)))))) (by omega) Try.underlying45 rfl Try.sizeOf3 (by decide) (o := (j - 1) * 9 + 1) rfl rfl ?_; clear hs; intro a w hs
      exact wpList_nil ⟨rfl, _, _, hs0, (.c (.c .r)), hs, rfl⟩
     ·
      intro a_ w_ R_ rest_ vs59 hm hs ht hx
      have hm0 := hm.mid
      replace hs := hs.lrn (ht 2 (twB_spec 39 _ (by kernel_rfl))) rfl rfl
      replace hs := hs.lrn (ht 8 (twB_spec 39 _ (by kernel_rfl))) rfl rfl
      have hs0 := hs.bare
      refine st_guardT hs rfl rfl rfl ?_
      refine st_ld (u := .int .i64 ((((dG ta ma la tb mb lb).l.getD (j - 1) default)).id)) hs rfl (rd_row (hm0.del (.s (.s (.s (.s .z)))))) ((flat_get1 recV_len (dG ta ma la tb mb lb).l (j - 1) 1 (by omega) (by decide)).trans rfl) Try.isAgg3 rfl ?_; clear hs; intro a w hs
      exact wpList_nil ⟨rfl, _, _, hs0, (.c (.c .r)), hs, rfl⟩
     · exact trip_pg (m := 39) rfl (.c (k := 2) (by kernel_rfl) rfl rfl .n) rfl (fun hm0 hm hx => .n) (by kernel_rfl) (by kernel_rfl) rfl
     · exact trip_pg (m := 39) rfl (.c (k := 2) (by kernel_rfl) rfl rfl (.c (k := 10) (by kernel_rfl) rfl rfl .n)) rfl (fun hm0 hm hx => (.c (hm0.del (.s (.s .z))))) (by kernel_rfl) (by kernel_rfl) rfl
     ·
      intro a_ w_ R_ rest_ vs59 hm hs ht hx
      have hm0 := hm.mid
      replace hs := hs.lrn (ht 2 (twB_spec 39 _ (by kernel_rfl))) rfl rfl
      replace hs := hs.lrn (ht 9 (twB_spec 39 _ (by kernel_rfl))) rfl rfl
      replace hs := hs.lrn (ht 11 (twB_spec 39 _ (by kernel_rfl))) rfl rfl
      have hs0 := hs.bare
      refine st_guardT hs rfl rfl rfl ?_
      refine st_geq hs rfl rfl rfl ?_; clear hs; intro a w hs
      have hb_ : (decide (((((dG ta ma la tb mb lb).l.getD j default)).id) ≤ ((((dG ta ma la tb mb lb).l.getD (j - 1) default)).id))) = false := decide_eq_false (by have := rs_lt hS (j := j) (by omega) (by omega); omega)
      rw [hb_] at hs; clear hb_
      exact wpList_nil ⟨rfl, _, _, hs0, (.c (.c (.c .r))), hs, rfl⟩
     · exact trip_pv (m := 39) (.c (k := 2) (by kernel_rfl) rfl rfl (.c (k := 12) (by kernel_rfl) rfl rfl .n)) (fun hm0 hm hx => .n) (by kernel_rfl) (by kernel_rfl) rfl
     · exact trip_pv (m := 39) (.c (k := 13) (by kernel_rfl) rfl rfl .n) (fun hm0 hm hx => .n) (by kernel_rfl) (by kernel_rfl) rfl
     · exact trip_pg (m := 39) rfl (.c (k := 14) (by kernel_rfl) rfl rfl .n) rfl (fun hm0 hm hx => .n) (by kernel_rfl) (by kernel_rfl) rfl
     · exact trip_pg (m := 39) rfl (.c (k := 14) (by kernel_rfl) rfl rfl .n) rfl (fun hm0 hm hx => .n) (by kernel_rfl) (by kernel_rfl) rfl
     · exact trip_pg (m := 39) rfl (.c (k := 14) (by kernel_rfl) rfl rfl (.c (k := 16) (by kernel_rfl) rfl rfl .n)) rfl (fun hm0 hm hx => (.c (hm0.del (.s (.s .z))))) (by kernel_rfl) (by kernel_rfl) rfl
     · exact trip_pg (m := 39) rfl (.c (k := 14) (by kernel_rfl) rfl rfl (.c (k := 17) (by kernel_rfl) rfl rfl .n)) rfl (fun hm0 hm hx => .n) (by kernel_rfl) (by kernel_rfl) rfl
     ·
      intro a_ w_ R_ rest_ vs59 hm hs ht hx
      have hm0 := hm.mid
      replace hs := hs.lrn (ht 14 (twB_spec 39 _ (by kernel_rfl))) rfl rfl
      replace hs := hs.lrn (ht 15 (twB_spec 39 _ (by kernel_rfl))) rfl rfl
      replace hs := hs.lrn (ht 18 (twB_spec 39 _ (by kernel_rfl))) rfl rfl
      have hs0 := hs.bare
      refine st_guardT hs rfl rfl rfl ?_
      refine st_neb hs rfl rfl Try.underlying4 rfl ?_; clear hs; intro a w hs
      have hb_ : (!((false : Bool) == (!(((((dG ta ma la tb mb lb).l.getD j default)).k : Int) == 0)))) = false := by rw [hA']; rfl
      rw [hb_] at hs; clear hb_
      exact wpList_nil ⟨rfl, _, _, hs0, (.c (.c (.c .r))), hs, rfl⟩
     · exact trip_pv (m := 39) (.c (k := 14) (by kernel_rfl) rfl rfl (.c (k := 19) (by kernel_rfl) rfl rfl .n)) (fun hm0 hm hx => .n) (by kernel_rfl) (by kernel_rfl) rfl
     · exact trip_pv (m := 39) (.c (k := 20) (by kernel_rfl) rfl rfl .n) (fun hm0 hm hx => .n) (by kernel_rfl) (by kernel_rfl) rfl
     · exact trip_pg (m := 39) rfl (.c (k := 21) (by kernel_rfl) rfl rfl .n) rfl (fun hm0 hm hx => .n) (by kernel_rfl) (by kernel_rfl) rfl
     · exact trip_pg (m := 39) rfl (.c (k := 21) (by kernel_rfl) rfl rfl .n) rfl (fun hm0 hm hx => .n) (by kernel_rfl) (by kernel_rfl) rfl
     · exact trip_pg (m := 39) rfl (.c (k := 21) (by kernel_rfl) rfl rfl (.c (k := 23) (by kernel_rfl) rfl rfl .n)) rfl (fun hm0 hm hx => (.c (hm0.del (.s (.s .z))))) (by kernel_rfl) (by kernel_rfl) rfl
     · exact trip_pg (m := 39) rfl (.c (k := 21) (by kernel_rfl) rfl rfl (.c (k := 24) (by kernel_rfl) rfl rfl .n)) rfl (fun hm0 hm hx => .n) (by kernel_rfl) (by kernel_rfl) rfl
     ·
      intro a_ w_ R_ rest_ vs59 hm hs ht hx
      have hm0 := hm.mid
      replace hs := hs.lrn (ht 21 (twB_spec 39 _ (by kernel_rfl))) rfl rfl
      replace hs := hs.lrn (ht 22 (twB_spec 39 _ (by kernel_rfl))) rfl rfl
      replace hs := hs.lrn (ht 25 (twB_spec 39 _ (by kernel_rfl))) rfl rfl
      have hs0 := hs.bare
      refine st_guardT hs rfl rfl rfl ?_
      refine st_neb hs rfl rfl Try.underlying4 rfl ?_; clear hs; intro a w hs
      have hb_ : (!((false : Bool) == (!(((((dG ta ma la tb mb lb).l.getD j default)).k : Int) == 2)))) = false := by rw [hB']; rfl
      rw [hb_] at hs; clear hb_
      exact wpList_nil ⟨rfl, _, _, hs0, (.c (.c (.c .r))), hs, rfl⟩
     · exact trip_pv (m := 39) (.c (k := 21) (by kernel_rfl) rfl rfl (.c (k := 26) (by kernel_rfl) rfl rfl .n)) (fun hm0 hm hx => .n) (by kernel_rfl) (by kernel_rfl) rfl
     · exact trip_pv (m := 39) (.c (k := 27) (by kernel_rfl) rfl rfl .n) (fun hm0 hm hx => .n) (by kernel_rfl) (by kernel_rfl) rfl
     · exact trip_pg (m := 39) rfl (.c (k := 28) (by kernel_rfl) rfl rfl .n) rfl (fun hm0 hm hx => .n) (by kernel_rfl) (by kernel_rfl) rfl
     · exact trip_pg (m := 39) rfl (.c (k := 28) (by kernel_rfl) rfl rfl (.c (k := 29) (by kernel_rfl) rfl rfl .n)) rfl (fun hm0 hm hx => .n) (by kernel_rfl) (by kernel_rfl) rfl
     · exact trip_pf (m := 39) rfl (.c (k := 30) (by kernel_rfl) rfl rfl .n) rfl rfl rfl
     · exact trip_pg (m := 39) rfl (.c (k := 28) (by kernel_rfl) rfl rfl (.c (k := 30) (by kernel_rfl) rfl rfl (.c (k := 31) (by kernel_rfl) rfl rfl .n))) rfl (fun hm0 hm hx => .n) (by kernel_rfl) (by kernel_rfl) rfl
     · exact trip_pg (m := 39) rfl (.c (k := 28) (by kernel_rfl) rfl rfl (.c (k := 32) (by kernel_rfl) rfl rfl .n)) rfl (fun hm0 hm hx => .n) (by kernel_rfl) (by kernel_rfl) rfl
     · exact trip_pf (m := 39) rfl (.c (k := 33) (by kernel_rfl) rfl rfl .n) rfl rfl rfl
     · exact trip_pf (m := 39) rfl (.c (k := 33) (by kernel_rfl) rfl rfl .n) rfl rfl rfl
     ·
      intro a_ w_ R_ rest_ vs59 hm hs ht hx
      have hm0 := hm.mid
      replace hs := hs.lrn (ht 33 (twB_spec 39 _ (by kernel_rfl))) rfl rfl
      replace hs := hs.lrn (ht 34 (twB_spec 39 _ (by kernel_rfl))) rfl rfl
      replace hs := hs.lrn (ht 35 (twB_spec 39 _ (by kernel_rfl))) rfl rfl
      have hs0 := hs.bare
      refine st_guardF hs rfl rfl rfl rfl rfl ?_; clear hs; intro a w hs
      exact wpList_nil ⟨rfl, _, _, hs0, (.c (.c (.c .r))), hs, rfl⟩
     · exact trip_pg (m := 39) rfl (.c (k := 28) (by kernel_rfl) rfl rfl (.c (k := 33) (by kernel_rfl) rfl rfl (.c (k := 36) (by kernel_rfl) rfl rfl .n))) rfl (fun hm0 hm hx => .n) (by kernel_rfl) (by kernel_rfl) rfl
     exact trip_pv (m := 39) (.c (k := 28) (by kernel_rfl) rfl rfl (.c (k := 37) (by kernel_rfl) rfl rfl .n)) (fun hm0 hm hx => .n) (by kernel_rfl) (by kernel_rfl) rfl
    clear hs w a; intro a w vs59 hs hf
    replace hs : St _ _ _ _ [blk g51 [.int .i64 ((((eget ((((dG ta ma la tb mb lb).l.getD j default)).id) lb).getD entZ)).id), .int .i64 ((((eget ((((dG ta ma la tb mb lb).l.getD j default)).id) lb).getD entZ)).p0), .int .i64 ((((eget ((((dG ta ma la tb mb lb).l.getD j default)).id) lb).getD entZ)).p1), .int .i64 ((((eget ((((dG ta ma la tb mb lb).l.getD j default)).id) lb).getD entZ)).p2), .int .i64 ((((eget ((((dG ta ma la tb mb lb).l.getD j default)).id) lb).getD entZ)).v0), .int .i64 ((((eget ((((dG ta ma la tb mb lb).l.getD j default)).id) lb).getD entZ)).v1), .int .i64 ((((eget ((((dG ta ma la tb mb lb).l.getD j default)).id) lb).getD entZ)).v2), .int .u16 (((((((eget ((((dG ta ma la tb mb lb).l.getD j default)).id) lb).getD entZ)).a).toNat : Nat) : Int)), .int .u8 (((((((eget ((((dG ta ma la tb mb lb).l.getD j default)).id) lb).getD entZ)).g).toNat : Nat) : Int))] 47, blk g48 [.int .i64 ((((eget ((((dG ta ma la tb mb lb).l.getD j default)).id) la).getD entZ)).id), .int .i64 ((((eget ((((dG ta ma la tb mb lb).l.getD j default)).id) la).getD entZ)).p0), .int .i64 ((((eget ((((dG ta ma la tb mb lb).l.getD j default)).id) la).getD entZ)).p1), .int .i64 ((((eget ((((dG ta ma la tb mb lb).l.getD j default)).id) la).getD entZ)).p2), .int .i64 ((((eget ((((dG ta ma la tb mb lb).l.getD j default)).id) la).getD entZ)).v0), .int .i64 ((((eget ((((dG ta ma la tb mb lb).l.getD j default)).id) la).getD entZ)).v1), .int .i64 ((((eget ((((dG ta ma la tb mb lb).l.getD j default)).id) la).getD entZ)).v2), .int .u16 (((((((eget ((((dG ta ma la tb mb lb).l.getD j default)).id) la).getD entZ)).a).toNat : Nat) : Int)), .int .u8 (((((((eget ((((dG ta ma la tb mb lb).l.getD j default)).id) la).getD entZ)).g).toNat : Nat) : Int))] 47, blk g45 [.int .i64 ((((dG ta ma la tb mb lb).l.getD j default)).k), .int .i64 ((((dG ta ma la tb mb lb).l.getD j default)).id), .int .i64 ((((dG ta ma la tb mb lb).l.getD j default)).p0), .int .i64 ((((dG ta ma la tb mb lb).l.getD j default)).p1), .int .i64 ((((dG ta ma la tb mb lb).l.getD j default)).p2), .int .i64 ((((dG ta ma la tb mb lb).l.getD j default)).v0), .int .i64 ((((dG ta ma la tb mb lb).l.getD j default)).v1), .int .i64 ((((dG ta ma la tb mb lb).l.getD j default)).v2), .int .u16 (((((((dG ta ma la tb mb lb).l.getD j default)).a).toNat : Nat) : Int))] 45, mpr g31 (bkv (((dG ta ma la tb mb lb).l.take j))), row v15 45 9 ((dG ta ma la tb mb lb).l.length) (((dG ta ma la tb mb lb).l.flatMap recV)), blk g17 [.int .i64 ((dG ta ma la tb mb lb).t), .int .i64 ((dG ta ma la tb mb lb).tm), .int .i64 ((dG ta ma la tb mb lb).b), v15] 27, blk g4 [.int .i64 (tb), .int .i64 (mb), ub] 24, blk g3 [.int .i64 (ta), .int .i64 (ma), ua] 24] _ _ := hs
    obtain ⟨e38, q38⟩ := hf 38 (by decide)
    replace e38 : _ = some (vs59 38) := e38.val rfl
    rw [show vs59 38 = .bool (false) from q38] at e38
    replace hs := hs.learn e38; clear e38 q38
    clear hf
    refine then_n (hK55 _ _ ?_)
    refine wp_cond_false (hs.ev rfl) ?_
    refine wp_skip ?_
    refine then_n (hK53 _ _ ?_)
    refine wp_region_lit ?_
    refine st_run 3 [(126, .int .i64 ((((dG ta ma la tb mb lb).l.getD j default)).id)), (125, .pointer (some ⟨g45, 1, none⟩)), (124, .map (some g31))] hs (.c (hs.mem.del (.s (.s .z))) .n) (by kernel_rfl) (by kernel_rfl) (by kernel_rfl) ?_; clear hs a; intro a hs
    refine st_updB (l' := ((dG ta ma la tb mb lb).l.take (j + 1))) hs rfl rfl rfl (.s (.s (.s .z))) (bkv_next hS (by omega)) Try.underlying53 Try.underlying3 ?_; clear hs w a; intro a w hs
    refine wpList_nil ?_
    refine in_n ?_
    refine then_n (hK42 _ _ ?_)
    refine wp_region_lit ?_
    refine st_addR hs rfl rfl (by omega) rfl ?_; clear hs w a; intro a w hs
    refine st_mv hs rfl rfl ?_; clear hs w a; intro a w hs
    refine wpList_nil ?_
    refine then_n ?_
    replace hs := hs.drop (.c (.s (.s (.s .z))) (.c (.s (.s .z)) (.c (.s .z) .n)))
    refine ⟨_, ?_, j + 1, rfl, hs.sub (.c rfl (.c rfl (.c rfl (.c rfl (.c rfl (.c rfl (.c rfl .n))))))), by omega⟩
    omega
   by_cases co : (eget (((dG ta ma la tb mb lb).l.getD j default).id) la).isSome = true
   ·
    rw [co] at hs
    have hA' : (!((((dG ta ma la tb mb lb).l.getD j default).k : Int) == 0)) = true := by rw [← told_a (hT _ (rs_mem (by omega)))]; exact co
    by_cases ci : (eget (((dG ta ma la tb mb lb).l.getD j default).id) lb).isSome = true
    ·
     rw [ci] at hs
     have hB' : (!((((dG ta ma la tb mb lb).l.getD j default).k : Int) == 2)) = true := by rw [← told_b (hT _ (rs_mem (by omega)))]; exact ci
     replace hs := hs.sub (F' := [(13, .bool (true)), (12, .pointer (some ⟨g51, 0, none⟩)), (84, .bool (true)), (83, .agg #[.int .i64 ((((eget ((((dG ta ma la tb mb lb).l.getD j default)).id) lb).getD entZ)).id), .int .i64 ((((eget ((((dG ta ma la tb mb lb).l.getD j default)).id) lb).getD entZ)).p0), .int .i64 ((((eget ((((dG ta ma la tb mb lb).l.getD j default)).id) lb).getD entZ)).p1), .int .i64 ((((eget ((((dG ta ma la tb mb lb).l.getD j default)).id) lb).getD entZ)).p2), .int .i64 ((((eget ((((dG ta ma la tb mb lb).l.getD j default)).id) lb).getD entZ)).v0), .int .i64 ((((eget ((((dG ta ma la tb mb lb).l.getD j default)).id) lb).getD entZ)).v1), .int .i64 ((((eget ((((dG ta ma la tb mb lb).l.getD j default)).id) lb).getD entZ)).v2), .int .u16 (((((((eget ((((dG ta ma la tb mb lb).l.getD j default)).id) lb).getD entZ)).a).toNat : Nat) : Int)), .int .u8 (((((((eget ((((dG ta ma la tb mb lb).l.getD j default)).id) lb).getD entZ)).g).toNat : Nat) : Int))]), (78, .tuple #[.agg #[.int .i64 ((((eget ((((dG ta ma la tb mb lb).l.getD j default)).id) lb).getD entZ)).id), .int .i64 ((((eget ((((dG ta ma la tb mb lb).l.getD j default)).id) lb).getD entZ)).p0), .int .i64 ((((eget ((((dG ta ma la tb mb lb).l.getD j default)).id) lb).getD entZ)).p1), .int .i64 ((((eget ((((dG ta ma la tb mb lb).l.getD j default)).id) lb).getD entZ)).p2), .int .i64 ((((eget ((((dG ta ma la tb mb lb).l.getD j default)).id) lb).getD entZ)).v0), .int .i64 ((((eget ((((dG ta ma la tb mb lb).l.getD j default)).id) lb).getD entZ)).v1), .int .i64 ((((eget ((((dG ta ma la tb mb lb).l.getD j default)).id) lb).getD entZ)).v2), .int .u16 (((((((eget ((((dG ta ma la tb mb lb).l.getD j default)).id) lb).getD entZ)).a).toNat : Nat) : Int)), .int .u8 (((((((eget ((((dG ta ma la tb mb lb).l.getD j default)).id) lb).getD entZ)).g).toNat : Nat) : Int))], .bool (true)]), (82, .tuple #[.agg #[.int .i64 ((((eget ((((dG ta ma la tb mb lb).l.getD j default)).id) lb).getD entZ)).id), .int .i64 ((((eget ((((dG ta ma la tb mb lb).l.getD j default)).id) lb).getD entZ)).p0), .int .i64 ((((eget ((((dG ta ma la tb mb lb).l.getD j default)).id) lb).getD entZ)).p1), .int .i64 ((((eget ((((dG ta ma la tb mb lb).l.getD j default)).id) lb).getD entZ)).p2), .int .i64 ((((eget ((((dG ta ma la tb mb lb).l.getD j default)).id) lb).getD entZ)).v0), .int .i64 ((((eget ((((dG ta ma la tb mb lb).l.getD j default)).id) lb).getD entZ)).v1), .int .i64 ((((eget ((((dG ta ma la tb mb lb).l.getD j default)).id) lb).getD entZ)).v2), .int .u16 (((((((eget ((((dG ta ma la tb mb lb).l.getD j default)).id) lb).getD entZ)).a).toNat : Nat) : Int)), .int .u8 (((((((eget ((((dG ta ma la tb mb lb).l.getD j default)).id) lb).getD entZ)).g).toNat : Nat) : Int))], .bool (true)]), (81, .int .i64 ((((dG ta ma la tb mb lb).l.getD j default)).id)), (80, .pointer (some ⟨g45, 1, none⟩)), (79, .agg #[.int .i64 (tb), .int .i64 (mb), ub]), (11, .bool (true)), (10, .pointer (some ⟨g48, 0, none⟩)), (77, .bool (true)), (76, .agg #[.int .i64 ((((eget ((((dG ta ma la tb mb lb).l.getD j default)).id) la).getD entZ)).id), .int .i64 ((((eget ((((dG ta ma la tb mb lb).l.getD j default)).id) la).getD entZ)).p0), .int .i64 ((((eget ((((dG ta ma la tb mb lb).l.getD j default)).id) la).getD entZ)).p1), .int .i64 ((((eget ((((dG ta ma la tb mb lb).l.getD j default)).id) la).getD entZ)).p2), .int .i64 ((((eget ((((dG ta ma la tb mb lb).l.getD j default)).id) la).getD entZ)).v0), .int .i64 ((((eget ((((dG ta ma la tb mb lb).l.getD j default)).id) la).getD entZ)).v1), .int .i64 ((((eget ((((dG ta ma la tb mb lb).l.getD j default)).id) la).getD entZ)).v2), .int .u16 (((((((eget ((((dG ta ma la tb mb lb).l.getD j default)).id) la).getD entZ)).a).toNat : Nat) : Int)), .int .u8 (((((((eget ((((dG ta ma la tb mb lb).l.getD j default)).id) la).getD entZ)).g).toNat : Nat) : Int))]), (71, .tuple #[.agg #[.int .i64 ((((eget ((((dG ta ma la tb mb lb).l.getD j default)).id) la).getD entZ)).id), .int .i64 ((((eget ((((dG ta ma la tb mb lb).l.getD j default)).id) la).getD entZ)).p0), .int .i64 ((((eget ((((dG ta ma la tb mb lb).l.getD j default)).id) la).getD entZ)).p1), .int .i64 ((((eget ((((dG ta ma la tb mb lb).l.getD j default)).id) la).getD entZ)).p2), .int .i64 ((((eget ((((dG ta ma la tb mb lb).l.getD j default)).id) la).getD entZ)).v0), .int .i64 ((((eget ((((dG ta ma la tb mb lb).l.getD j default)).id) la).getD entZ)).v1), .int .i64 ((((eget ((((dG ta ma la tb mb lb).l.getD j default)).id) la).getD entZ)).v2), .int .u16 (((((((eget ((((dG ta ma la tb mb lb).l.getD j default)).id) la).getD entZ)).a).toNat : Nat) : Int)), .int .u8 (((((((eget ((((dG ta ma la tb mb lb).l.getD j default)).id) la).getD entZ)).g).toNat : Nat) : Int))], .bool (true)]), (75, .tuple #[.agg #[.int .i64 ((((eget ((((dG ta ma la tb mb lb).l.getD j default)).id) la).getD entZ)).id), .int .i64 ((((eget ((((dG ta ma la tb mb lb).l.getD j default)).id) la).getD entZ)).p0), .int .i64 ((((eget ((((dG ta ma la tb mb lb).l.getD j default)).id) la).getD entZ)).p1), .int .i64 ((((eget ((((dG ta ma la tb mb lb).l.getD j default)).id) la).getD entZ)).p2), .int .i64 ((((eget ((((dG ta ma la tb mb lb).l.getD j default)).id) la).getD entZ)).v0), .int .i64 ((((eget ((((dG ta ma la tb mb lb).l.getD j default)).id) la).getD entZ)).v1), .int .i64 ((((eget ((((dG ta ma la tb mb lb).l.getD j default)).id) la).getD entZ)).v2), .int .u16 (((((((eget ((((dG ta ma la tb mb lb).l.getD j default)).id) la).getD entZ)).a).toNat : Nat) : Int)), .int .u8 (((((((eget ((((dG ta ma la tb mb lb).l.getD j default)).id) la).getD entZ)).g).toNat : Nat) : Int))], .bool (true)]), (74, .int .i64 ((((dG ta ma la tb mb lb).l.getD j default)).id)), (73, .pointer (some ⟨g45, 1, none⟩)), (72, .agg #[.int .i64 (ta), .int .i64 (ma), ua]), (8, .int .i64 ((j : Int))), (9, .pointer (some ⟨g45, 0, none⟩)), (70, .agg #[.int .i64 ((((dG ta ma la tb mb lb).l.getD j default)).k), .int .i64 ((((dG ta ma la tb mb lb).l.getD j default)).id), .int .i64 ((((dG ta ma la tb mb lb).l.getD j default)).p0), .int .i64 ((((dG ta ma la tb mb lb).l.getD j default)).p1), .int .i64 ((((dG ta ma la tb mb lb).l.getD j default)).p2), .int .i64 ((((dG ta ma la tb mb lb).l.getD j default)).v0), .int .i64 ((((dG ta ma la tb mb lb).l.getD j default)).v1), .int .i64 ((((dG ta ma la tb mb lb).l.getD j default)).v2), .int .u16 (((((((dG ta ma la tb mb lb).l.getD j default)).a).toNat : Nat) : Int))]), (69, .pointer (some (adr v15 (j * 9)))), (68, .int .i64 ((j : Int))), (67, .bool (decide ((j : Int) < ((((dG ta ma la tb mb lb).l.length : Nat) : Int))))), (2, .pointer (some ⟨g3, 0, none⟩)), (3, .pointer (some ⟨g4, 0, none⟩)), (5, .pointer (some ⟨g17, 0, none⟩)), (7, .map (some g31)), (64, v15), (65, .int .i64 ((((dG ta ma la tb mb lb).l.length : Nat) : Int))), (66, .int .i64 ((j : Int)))]) (.c rfl (.c rfl (.c rfl (.c rfl (.c rfl (.c rfl (.c rfl (.c rfl (.c rfl (.c rfl (.c rfl (.c rfl (.c rfl (.c rfl (.c rfl (.c rfl (.c rfl (.c rfl (.c rfl (.c rfl (.c rfl (.c rfl (.c rfl (.c rfl (.c rfl (.c rfl (.c rfl (.c rfl (.c rfl (.c rfl (.c rfl .n)))))))))))))))))))))))))))))))
     refine wp_drawG (M0 := [blk g51 [.int .i64 ((((eget ((((dG ta ma la tb mb lb).l.getD j default)).id) lb).getD entZ)).id), .int .i64 ((((eget ((((dG ta ma la tb mb lb).l.getD j default)).id) lb).getD entZ)).p0), .int .i64 ((((eget ((((dG ta ma la tb mb lb).l.getD j default)).id) lb).getD entZ)).p1), .int .i64 ((((eget ((((dG ta ma la tb mb lb).l.getD j default)).id) lb).getD entZ)).p2), .int .i64 ((((eget ((((dG ta ma la tb mb lb).l.getD j default)).id) lb).getD entZ)).v0), .int .i64 ((((eget ((((dG ta ma la tb mb lb).l.getD j default)).id) lb).getD entZ)).v1), .int .i64 ((((eget ((((dG ta ma la tb mb lb).l.getD j default)).id) lb).getD entZ)).v2), .int .u16 (((((((eget ((((dG ta ma la tb mb lb).l.getD j default)).id) lb).getD entZ)).a).toNat : Nat) : Int)), .int .u8 (((((((eget ((((dG ta ma la tb mb lb).l.getD j default)).id) lb).getD entZ)).g).toNat : Nat) : Int))] 47, blk g48 [.int .i64 ((((eget ((((dG ta ma la tb mb lb).l.getD j default)).id) la).getD entZ)).id), .int .i64 ((((eget ((((dG ta ma la tb mb lb).l.getD j default)).id) la).getD entZ)).p0), .int .i64 ((((eget ((((dG ta ma la tb mb lb).l.getD j default)).id) la).getD entZ)).p1), .int .i64 ((((eget ((((dG ta ma la tb mb lb).l.getD j default)).id) la).getD entZ)).p2), .int .i64 ((((eget ((((dG ta ma la tb mb lb).l.getD j default)).id) la).getD entZ)).v0), .int .i64 ((((eget ((((dG ta ma la tb mb lb).l.getD j default)).id) la).getD entZ)).v1), .int .i64 ((((eget ((((dG ta ma la tb mb lb).l.getD j default)).id) la).getD entZ)).v2), .int .u16 (((((((eget ((((dG ta ma la tb mb lb).l.getD j default)).id) la).getD entZ)).a).toNat : Nat) : Int)), .int .u8 (((((((eget ((((dG ta ma la tb mb lb).l.getD j default)).id) la).getD entZ)).g).toNat : Nat) : Int))] 47, blk g45 [.int .i64 ((((dG ta ma la tb mb lb).l.getD j default)).k), .int .i64 ((((dG ta ma la tb mb lb).l.getD j default)).id), .int .i64 ((((dG ta ma la tb mb lb).l.getD j default)).p0), .int .i64 ((((dG ta ma la tb mb lb).l.getD j default)).p1), .int .i64 ((((dG ta ma la tb mb lb).l.getD j default)).p2), .int .i64 ((((dG ta ma la tb mb lb).l.getD j default)).v0), .int .i64 ((((dG ta ma la tb mb lb).l.getD j default)).v1), .int .i64 ((((dG ta ma la tb mb lb).l.getD j default)).v2), .int .u16 (((((((dG ta ma la tb mb lb).l.getD j default)).a).toNat : Nat) : Int))] 45, mpr g31 (bkv (((dG ta ma la tb mb lb).l.take j))), row v15 45 9 ((dG ta ma la tb mb lb).l.length) (((dG ta ma la tb mb lb).l.flatMap recV)), blk g17 [.int .i64 ((dG ta ma la tb mb lb).t), .int .i64 ((dG ta ma la tb mb lb).tm), .int .i64 ((dG ta ma la tb mb lb).b), v15] 27, blk g4 [.int .i64 (tb), .int .i64 (mb), ub] 24, blk g3 [.int .i64 (ta), .int .i64 (ma), ua] 24]) (Ds := [Pv 0 (.int .i64 ((j : Int))), Pv 1 (.bool (false)), Pv 2 (.bool (false)), Pv 3 undef, Pv 4 undef, Pv 5 undef, Pv 6 undef, Pv 7 undef, Pv 8 undef, Pv 9 undef, Pv 10 undef, Pv 11 undef, Pv 12 undef, Pv 13 (.bool (false)), Pv 14 (.bool (false)), Pv 15 (.bool (true)), Pv 16 (.pointer (some ⟨g45, 0, none⟩)), Pv 17 (.int .i64 ((((dG ta ma la tb mb lb).l.getD j default)).k)), Pv 18 (.bool (!(((((dG ta ma la tb mb lb).l.getD j default)).k : Int) == 0))), Pv 19 (.bool (false)), Pv 20 (.bool (false)), Pv 21 (.bool (false)), Pv 22 (.bool (true)), Pv 23 (.pointer (some ⟨g45, 0, none⟩)), Pv 24 (.int .i64 ((((dG ta ma la tb mb lb).l.getD j default)).k)), Pv 25 (.bool (!(((((dG ta ma la tb mb lb).l.getD j default)).k : Int) == 2))), Pv 26 (.bool (false)), Pv 27 (.bool (false)), Pv 28 (.bool (false)), Pv 29 (.bool (true)), Pv 30 (.bool (true)), Pv 31 (.bool (true)), Pv 32 (.bool (true)), Pv 33 (.bool (true)), Pv 34 (.agg #[.int .i64 ((((eget ((((dG ta ma la tb mb lb).l.getD j default)).id) la).getD entZ)).id), .int .i64 ((((eget ((((dG ta ma la tb mb lb).l.getD j default)).id) la).getD entZ)).p0), .int .i64 ((((eget ((((dG ta ma la tb mb lb).l.getD j default)).id) la).getD entZ)).p1), .int .i64 ((((eget ((((dG ta ma la tb mb lb).l.getD j default)).id) la).getD entZ)).p2), .int .i64 ((((eget ((((dG ta ma la tb mb lb).l.getD j default)).id) la).getD entZ)).v0), .int .i64 ((((eget ((((dG ta ma la tb mb lb).l.getD j default)).id) la).getD entZ)).v1), .int .i64 ((((eget ((((dG ta ma la tb mb lb).l.getD j default)).id) la).getD entZ)).v2), .int .u16 (((((((eget ((((dG ta ma la tb mb lb).l.getD j default)).id) la).getD entZ)).a).toNat : Nat) : Int)), .int .u8 (((((((eget ((((dG ta ma la tb mb lb).l.getD j default)).id) la).getD entZ)).g).toNat : Nat) : Int))]), Pv 35 (.agg #[.int .i64 ((((eget ((((dG ta ma la tb mb lb).l.getD j default)).id) lb).getD entZ)).id), .int .i64 ((((eget ((((dG ta ma la tb mb lb).l.getD j default)).id) lb).getD entZ)).p0), .int .i64 ((((eget ((((dG ta ma la tb mb lb).l.getD j default)).id) lb).getD entZ)).p1), .int .i64 ((((eget ((((dG ta ma la tb mb lb).l.getD j default)).id) lb).getD entZ)).p2), .int .i64 ((((eget ((((dG ta ma la tb mb lb).l.getD j default)).id) lb).getD entZ)).v0), .int .i64 ((((eget ((((dG ta ma la tb mb lb).l.getD j default)).id) lb).getD entZ)).v1), .int .i64 ((((eget ((((dG ta ma la tb mb lb).l.getD j default)).id) lb).getD entZ)).v2), .int .u16 (((((((eget ((((dG ta ma la tb mb lb).l.getD j default)).id) lb).getD entZ)).a).toNat : Nat) : Int)), .int .u8 (((((((eget ((((dG ta ma la tb mb lb).l.getD j default)).id) lb).getD entZ)).g).toNat : Nat) : Int))]), Pv 36 (.bool (false)), Pv 37 (.bool (false)), Pv 38 (.bool (false))]) (by kernel_rfl) hs rfl .n (by kernel_rfl) (by kernel_rfl) (by kernel_rfl) ?_ ?_
     ·
      refine (.c ?_ (.c ?_ (.c ?_ (.c ?_ (.c ?_ (.c ?_ (.c ?_ (.c ?_ (.c ?_ (.c ?_ (.c ?_ (.c ?_ (.c ?_ (.c ?_ (.c ?_ (.c ?_ (.c ?_ (.c ?_ (.c ?_ (.c ?_ (.c ?_ (.c ?_ (.c ?_ (.c ?_ (.c ?_ (.c ?_ (.c ?_ (.c ?_ (.c ?_ (.c ?_ (.c ?_ (.c ?_ (.c ?_ (.c ?_ (.c ?_ (.c ?_ (.c ?_ (.c ?_ (.c ?_ .n)))))))))))))))))))))))))))))))))))))))
      · exact trip_pv (m := 39) .n (fun hm0 hm hx => .n) (by kernel_rfl) (by kernel_rfl) rfl
      ·
       intro a_ w_ R_ rest_ vs60 hm hs ht hx
       have hm0 := hm.mid
       replace hs := hs.lrn (ht 0 (twB_spec 39 _ (by kernel_rfl))) rfl rfl
       have hs0 := hs.bare
       refine st_gtr hs rfl rfl rfl ?_; clear hs; intro a w hs
       have hb_ : (decide (0 < (j : Int))) = false := decide_eq_false (by omega)
       rw [hb_] at hs; clear hb_
       exact wpList_nil ⟨rfl, _, _, hs0, (.c .r), hs, rfl⟩
      · exact trip_pv (m := 39) (.c (k := 1) (by kernel_rfl) rfl rfl .n) (fun hm0 hm hx => .n) (by kernel_rfl) (by kernel_rfl) rfl
      · exact trip_pf (m := 39) rfl (.c (k := 2) (by kernel_rfl) rfl rfl .n) rfl rfl rfl
      · exact trip_pf (m := 39) rfl (.c (k := 2) (by kernel_rfl) rfl rfl (.c (k := 3) (by kernel_rfl) rfl rfl .n)) rfl rfl rfl
      · exact trip_pf (m := 39) rfl (.c (k := 2) (by kernel_rfl) rfl rfl .n) rfl rfl rfl
      ·
       intro a_ w_ R_ rest_ vs60 hm hs ht hx
       have hm0 := hm.mid
       replace hs := hs.lrn (ht 2 (twB_spec 39 _ (by kernel_rfl))) rfl rfl
       replace hs := hs.lrn (ht 5 (twB_spec 39 _ (by kernel_rfl))) rfl rfl
       have hs0 := hs.bare
       refine st_guardF hs rfl rfl rfl rfl rfl ?_; clear hs; intro a w hs
       exact wpList_nil ⟨rfl, _, _, hs0, (.c (.c .r)), hs, rfl⟩
      · exact trip_pf (m := 39) rfl (.c (k := 2) (by kernel_rfl) rfl rfl (.c (k := 4) (by kernel_rfl) rfl rfl (.c (k := 6) (by kernel_rfl) rfl rfl .n))) rfl rfl rfl
      · exact trip_pf (m := 39) rfl (.c (k := 2) (by kernel_rfl) rfl rfl (.c (k := 7) (by kernel_rfl) rfl rfl .n)) rfl rfl rfl
      · exact trip_pf (m := 39) rfl (.c (k := 2) (by kernel_rfl) rfl rfl (.c (k := 8) (by kernel_rfl) rfl rfl .n)) rfl rfl rfl
      · exact trip_pf (m := 39) rfl (.c (k := 2) (by kernel_rfl) rfl rfl .n) rfl rfl rfl
      · exact trip_pf (m := 39) rfl (.c (k := 2) (by kernel_rfl) rfl rfl (.c (k := 10) (by kernel_rfl) rfl rfl .n)) rfl rfl rfl
      ·
       intro a_ w_ R_ rest_ vs60 hm hs ht hx
       have hm0 := hm.mid
       replace hs := hs.lrn (ht 2 (twB_spec 39 _ (by kernel_rfl))) rfl rfl
       replace hs := hs.lrn (ht 9 (twB_spec 39 _ (by kernel_rfl))) rfl rfl
       replace hs := hs.lrn (ht 11 (twB_spec 39 _ (by kernel_rfl))) rfl rfl
       have hs0 := hs.bare
       refine st_guardF hs rfl rfl rfl rfl rfl ?_; clear hs; intro a w hs
       exact wpList_nil ⟨rfl, _, _, hs0, (.c (.c (.c .r))), hs, rfl⟩
      · exact trip_pv (m := 39) (.c (k := 2) (by kernel_rfl) rfl rfl (.c (k := 12) (by kernel_rfl) rfl rfl .n)) (fun hm0 hm hx => .n) (by kernel_rfl) (by kernel_rfl) rfl
      · exact trip_pv (m := 39) (.c (k := 13) (by kernel_rfl) rfl rfl .n) (fun hm0 hm hx => .n) (by kernel_rfl) (by kernel_rfl) rfl
      · exact trip_pg (m := 39) rfl (.c (k := 14) (by kernel_rfl) rfl rfl .n) rfl (fun hm0 hm hx => .n) (by kernel_rfl) (by kernel_rfl) rfl
      · exact trip_pg (m := 39) rfl (.c (k := 14) (by kernel_rfl) rfl rfl .n) rfl (fun hm0 hm hx => .n) (by kernel_rfl) (by kernel_rfl) rfl
      · exact trip_pg (m := 39) rfl (.c (k := 14) (by kernel_rfl) rfl rfl (.c (k := 16) (by kernel_rfl) rfl rfl .n)) rfl (fun hm0 hm hx => (.c (hm0.del (.s (.s .z))))) (by kernel_rfl) (by kernel_rfl) rfl
      · exact trip_pg (m := 39) rfl (.c (k := 14) (by kernel_rfl) rfl rfl (.c (k := 17) (by kernel_rfl) rfl rfl .n)) rfl (fun hm0 hm hx => .n) (by kernel_rfl) (by kernel_rfl) rfl
      ·
       intro a_ w_ R_ rest_ vs60 hm hs ht hx
       have hm0 := hm.mid
       replace hs := hs.lrn (ht 14 (twB_spec 39 _ (by kernel_rfl))) rfl rfl
       replace hs := hs.lrn (ht 15 (twB_spec 39 _ (by kernel_rfl))) rfl rfl
       replace hs := hs.lrn (ht 18 (twB_spec 39 _ (by kernel_rfl))) rfl rfl
       have hs0 := hs.bare
       refine st_guardT hs rfl rfl rfl ?_
       refine st_neb hs rfl rfl Try.underlying4 rfl ?_; clear hs; intro a w hs
       have hb_ : (!((true : Bool) == (!(((((dG ta ma la tb mb lb).l.getD j default)).k : Int) == 0)))) = false := by rw [hA']; rfl
       rw [hb_] at hs; clear hb_
       exact wpList_nil ⟨rfl, _, _, hs0, (.c (.c (.c .r))), hs, rfl⟩
      · exact trip_pv (m := 39) (.c (k := 14) (by kernel_rfl) rfl rfl (.c (k := 19) (by kernel_rfl) rfl rfl .n)) (fun hm0 hm hx => .n) (by kernel_rfl) (by kernel_rfl) rfl
      · exact trip_pv (m := 39) (.c (k := 20) (by kernel_rfl) rfl rfl .n) (fun hm0 hm hx => .n) (by kernel_rfl) (by kernel_rfl) rfl
      · exact trip_pg (m := 39) rfl (.c (k := 21) (by kernel_rfl) rfl rfl .n) rfl (fun hm0 hm hx => .n) (by kernel_rfl) (by kernel_rfl) rfl
      · exact trip_pg (m := 39) rfl (.c (k := 21) (by kernel_rfl) rfl rfl .n) rfl (fun hm0 hm hx => .n) (by kernel_rfl) (by kernel_rfl) rfl
      · exact trip_pg (m := 39) rfl (.c (k := 21) (by kernel_rfl) rfl rfl (.c (k := 23) (by kernel_rfl) rfl rfl .n)) rfl (fun hm0 hm hx => (.c (hm0.del (.s (.s .z))))) (by kernel_rfl) (by kernel_rfl) rfl
      · exact trip_pg (m := 39) rfl (.c (k := 21) (by kernel_rfl) rfl rfl (.c (k := 24) (by kernel_rfl) rfl rfl .n)) rfl (fun hm0 hm hx => .n) (by kernel_rfl) (by kernel_rfl) rfl
      ·
       intro a_ w_ R_ rest_ vs60 hm hs ht hx
       have hm0 := hm.mid
       replace hs := hs.lrn (ht 21 (twB_spec 39 _ (by kernel_rfl))) rfl rfl
       replace hs := hs.lrn (ht 22 (twB_spec 39 _ (by kernel_rfl))) rfl rfl
       replace hs := hs.lrn (ht 25 (twB_spec 39 _ (by kernel_rfl))) rfl rfl
       have hs0 := hs.bare
       refine st_guardT hs rfl rfl rfl ?_
       refine st_neb hs rfl rfl Try.underlying4 rfl ?_; clear hs; intro a w hs
       have hb_ : (!((true : Bool) == (!(((((dG ta ma la tb mb lb).l.getD j default)).k : Int) == 2)))) = false := by rw [hB']; rfl
       rw [hb_] at hs; clear hb_
       exact wpList_nil ⟨rfl, _, _, hs0, (.c (.c (.c .r))), hs, rfl⟩
      · exact trip_pv (m := 39) (.c (k := 21) (by kernel_rfl) rfl rfl (.c (k := 26) (by kernel_rfl) rfl rfl .n)) (fun hm0 hm hx => .n) (by kernel_rfl) (by kernel_rfl) rfl
      · exact trip_pv (m := 39) (.c (k := 27) (by kernel_rfl) rfl rfl .n) (fun hm0 hm hx => .n) (by kernel_rfl) (by kernel_rfl) rfl
      · exact trip_pg (m := 39) rfl (.c (k := 28) (by kernel_rfl) rfl rfl .n) rfl (fun hm0 hm hx => .n) (by kernel_rfl) (by kernel_rfl) rfl
      · exact trip_pg (m := 39) rfl (.c (k := 28) (by kernel_rfl) rfl rfl (.c (k := 29) (by kernel_rfl) rfl rfl .n)) rfl (fun hm0 hm hx => .n) (by kernel_rfl) (by kernel_rfl) rfl
      · exact trip_pg (m := 39) rfl (.c (k := 30) (by kernel_rfl) rfl rfl .n) rfl (fun hm0 hm hx => .n) (by kernel_rfl) (by kernel_rfl) rfl
      · exact trip_pg (m := 39) rfl (.c (k := 28) (by kernel_rfl) rfl rfl (.c (k := 30) (by kernel_rfl) rfl rfl (.c (k := 31) (by kernel_rfl) rfl rfl .n))) rfl (fun hm0 hm hx => .n) (by kernel_rfl) (by kernel_rfl) rfl
      · exact trip_pg (m := 39) rfl (.c (k := 28) (by kernel_rfl) rfl rfl (.c (k := 32) (by kernel_rfl) rfl rfl .n)) rfl (fun hm0 hm hx => .n) (by kernel_rfl) (by kernel_rfl) rfl
      · exact trip_pg (m := 39) rfl (.c (k := 33) (by kernel_rfl) rfl rfl .n) rfl (fun hm0 hm hx => (.c (hm0.del (.s .z)))) (by kernel_rfl) (by kernel_rfl) rfl
      · exact trip_pg (m := 39) rfl (.c (k := 33) (by kernel_rfl) rfl rfl .n) rfl (fun hm0 hm hx => (.c (hm0.del .z))) (by kernel_rfl) (by kernel_rfl) rfl
      ·
       intro a_ w_ R_ rest_ vs60 hm hs ht hx
       have hm0 := hm.mid
       replace hs := hs.lrn (ht 33 (twB_spec 39 _ (by kernel_rfl))) rfl rfl
       replace hs := hs.lrn (ht 34 (twB_spec 39 _ (by kernel_rfl))) rfl rfl
       replace hs := hs.lrn (ht 35 (twB_spec 39 _ (by kernel_rfl))) rfl rfl
       have hs0 := hs.bare
       refine st_guardT hs rfl rfl rfl ?_
       refine st_eqF (xs := [.int .i64 ((((eget ((((dG ta ma la tb mb lb).l.getD j default)).id) la).getD entZ)).id), .int .i64 ((((eget ((((dG ta ma la tb mb lb).l.getD j default)).id) la).getD entZ)).p0), .int .i64 ((((eget ((((dG ta ma la tb mb lb).l.getD j default)).id) la).getD entZ)).p1), .int .i64 ((((eget ((((dG ta ma la tb mb lb).l.getD j default)).id) la).getD entZ)).p2), .int .i64 ((((eget ((((dG ta ma la tb mb lb).l.getD j default)).id) la).getD entZ)).v0), .int .i64 ((((eget ((((dG ta ma la tb mb lb).l.getD j default)).id) la).getD entZ)).v1), .int .i64 ((((eget ((((dG ta ma la tb mb lb).l.getD j default)).id) la).getD entZ)).v2), .int .u16 (((((((eget ((((dG ta ma la tb mb lb).l.getD j default)).id) la).getD entZ)).a).toNat : Nat) : Int)), .int .u8 (((((((eget ((((dG ta ma la tb mb lb).l.getD j default)).id) la).getD entZ)).g).toNat : Nat) : Int))]) (ys := [.int .i64 ((((eget ((((dG ta ma la tb mb lb).l.getD j default)).id) lb).getD entZ)).id), .int .i64 ((((eget ((((dG ta ma la tb mb lb).l.getD j default)).id) lb).getD entZ)).p0), .int .i64 ((((eget ((((dG ta ma la tb mb lb).l.getD j default)).id) lb).getD entZ)).p1), .int .i64 ((((eget ((((dG ta ma la tb mb lb).l.getD j default)).id) lb).getD entZ)).p2), .int .i64 ((((eget ((((dG ta ma la tb mb lb).l.getD j default)).id) lb).getD entZ)).v0), .int .i64 ((((eget ((((dG ta ma la tb mb lb).l.getD j default)).id) lb).getD entZ)).v1), .int .i64 ((((eget ((((dG ta ma la tb mb lb).l.getD j default)).id) lb).getD entZ)).v2), .int .u16 (((((((eget ((((dG ta ma la tb mb lb).l.getD j default)).id) lb).getD entZ)).a).toNat : Nat) : Int)), .int .u8 (((((((eget ((((dG ta ma la tb mb lb).l.getD j default)).id) lb).getD entZ)).g).toNat : Nat) : Int))]) (ks := [.i .i64, .i .i64, .i .i64, .i .i64, .i .i64, .i .i64, .i .i64, .i .u16, .i .u8]) 6 hs rfl rfl (by kernel_rfl) (by kernel_rfl) (by kernel_rfl) (by decide) (.i (.i (.i (.i (.i (.i (.i (.i (.i .n))))))))) (.i (.i (.i (.i (.i (.i (.i (.i (.i .n))))))))) rfl ?_; clear hs; intro a w hs
       have hb_ : (eqCells [.int .i64 ((((eget ((((dG ta ma la tb mb lb).l.getD j default)).id) la).getD entZ)).id), .int .i64 ((((eget ((((dG ta ma la tb mb lb).l.getD j default)).id) la).getD entZ)).p0), .int .i64 ((((eget ((((dG ta ma la tb mb lb).l.getD j default)).id) la).getD entZ)).p1), .int .i64 ((((eget ((((dG ta ma la tb mb lb).l.getD j default)).id) la).getD entZ)).p2), .int .i64 ((((eget ((((dG ta ma la tb mb lb).l.getD j default)).id) la).getD entZ)).v0), .int .i64 ((((eget ((((dG ta ma la tb mb lb).l.getD j default)).id) la).getD entZ)).v1), .int .i64 ((((eget ((((dG ta ma la tb mb lb).l.getD j default)).id) la).getD entZ)).v2), .int .u16 (((((((eget ((((dG ta ma la tb mb lb).l.getD j default)).id) la).getD entZ)).a).toNat : Nat) : Int)), .int .u8 (((((((eget ((((dG ta ma la tb mb lb).l.getD j default)).id) la).getD entZ)).g).toNat : Nat) : Int))] [.int .i64 ((((eget ((((dG ta ma la tb mb lb).l.getD j default)).id) lb).getD entZ)).id), .int .i64 ((((eget ((((dG ta ma la tb mb lb).l.getD j default)).id) lb).getD entZ)).p0), .int .i64 ((((eget ((((dG ta ma la tb mb lb).l.getD j default)).id) lb).getD entZ)).p1), .int .i64 ((((eget ((((dG ta ma la tb mb lb).l.getD j default)).id) lb).getD entZ)).p2), .int .i64 ((((eget ((((dG ta ma la tb mb lb).l.getD j default)).id) lb).getD entZ)).v0), .int .i64 ((((eget ((((dG ta ma la tb mb lb).l.getD j default)).id) lb).getD entZ)).v1), .int .i64 ((((eget ((((dG ta ma la tb mb lb).l.getD j default)).id) lb).getD entZ)).v2), .int .u16 (((((((eget ((((dG ta ma la tb mb lb).l.getD j default)).id) lb).getD entZ)).a).toNat : Nat) : Int)), .int .u8 (((((((eget ((((dG ta ma la tb mb lb).l.getD j default)).id) lb).getD entZ)).g).toNat : Nat) : Int))]) = false := by exact told_ne (hT _ (rs_mem (by omega))) hUa hUb co ci
       rw [hb_] at hs; clear hb_
       exact wpList_nil ⟨rfl, _, _, hs0, (.c (.c (.c .r))), hs, rfl⟩
      · exact trip_pg (m := 39) rfl (.c (k := 28) (by kernel_rfl) rfl rfl (.c (k := 33) (by kernel_rfl) rfl rfl (.c (k := 36) (by kernel_rfl) rfl rfl .n))) rfl (fun hm0 hm hx => .n) (by kernel_rfl) (by kernel_rfl) rfl
      exact trip_pv (m := 39) (.c (k := 28) (by kernel_rfl) rfl rfl (.c (k := 37) (by kernel_rfl) rfl rfl .n)) (fun hm0 hm hx => .n) (by kernel_rfl) (by kernel_rfl) rfl
     clear hs w a; intro a w vs60 hs hf
     replace hs : St _ _ _ _ [blk g51 [.int .i64 ((((eget ((((dG ta ma la tb mb lb).l.getD j default)).id) lb).getD entZ)).id), .int .i64 ((((eget ((((dG ta ma la tb mb lb).l.getD j default)).id) lb).getD entZ)).p0), .int .i64 ((((eget ((((dG ta ma la tb mb lb).l.getD j default)).id) lb).getD entZ)).p1), .int .i64 ((((eget ((((dG ta ma la tb mb lb).l.getD j default)).id) lb).getD entZ)).p2), .int .i64 ((((eget ((((dG ta ma la tb mb lb).l.getD j default)).id) lb).getD entZ)).v0), .int .i64 ((((eget ((((dG ta ma la tb mb lb).l.getD j default)).id) lb).getD entZ)).v1), .int .i64 ((((eget ((((dG ta ma la tb mb lb).l.getD j default)).id) lb).getD entZ)).v2), .int .u16 (((((((eget ((((dG ta ma la tb mb lb).l.getD j default)).id) lb).getD entZ)).a).toNat : Nat) : Int)), .int .u8 (((((((eget ((((dG ta ma la tb mb lb).l.getD j default)).id) lb).getD entZ)).g).toNat : Nat) : Int))] 47, blk g48 [.int .i64 ((((eget ((((dG ta ma la tb mb lb).l.getD j default)).id) la).getD entZ)).id), .int .i64 ((((eget ((((dG ta ma la tb mb lb).l.getD j default)).id) la).getD entZ)).p0), .int .i64 ((((eget ((((dG ta ma la tb mb lb).l.getD j default)).id) la).getD entZ)).p1), .int .i64 ((((eget ((((dG ta ma la tb mb lb).l.getD j default)).id) la).getD entZ)).p2), .int .i64 ((((eget ((((dG ta ma la tb mb lb).l.getD j default)).id) la).getD entZ)).v0), .int .i64 ((((eget ((((dG ta ma la tb mb lb).l.getD j default)).id) la).getD entZ)).v1), .int .i64 ((((eget ((((dG ta ma la tb mb lb).l.getD j default)).id) la).getD entZ)).v2), .int .u16 (((((((eget ((((dG ta ma la tb mb lb).l.getD j default)).id) la).getD entZ)).a).toNat : Nat) : Int)), .int .u8 (((((((eget ((((dG ta ma la tb mb lb).l.getD j default)).id) la).getD entZ)).g).toNat : Nat) : Int))] 47, blk g45 [.int .i64 ((((dG ta ma la tb mb lb).l.getD j default)).k), .int .i64 ((((dG ta ma la tb mb lb).l.getD j default)).id), .int .i64 ((((dG ta ma la tb mb lb).l.getD j default)).p0), .int .i64 ((((dG ta ma la tb mb lb).l.getD j default)).p1), .int .i64 ((((dG ta ma la tb mb lb).l.getD j default)).p2), .int .i64 ((((dG ta ma la tb mb lb).l.getD j default)).v0), .int .i64 ((((dG ta ma la tb mb lb).l.getD j default)).v1), .int .i64 ((((dG ta ma la tb mb lb).l.getD j default)).v2), .int .u16 (((((((dG ta ma la tb mb lb).l.getD j default)).a).toNat : Nat) : Int))] 45, mpr g31 (bkv (((dG ta ma la tb mb lb).l.take j))), row v15 45 9 ((dG ta ma la tb mb lb).l.length) (((dG ta ma la tb mb lb).l.flatMap recV)), blk g17 [.int .i64 ((dG ta ma la tb mb lb).t), .int .i64 ((dG ta ma la tb mb lb).tm), .int .i64 ((dG ta ma la tb mb lb).b), v15] 27, blk g4 [.int .i64 (tb), .int .i64 (mb), ub] 24, blk g3 [.int .i64 (ta), .int .i64 (ma), ua] 24] _ _ := hs
     obtain ⟨e38, q38⟩ := hf 38 (by decide)
     replace e38 : _ = some (vs60 38) := e38.val rfl
     rw [show vs60 38 = .bool (false) from q38] at e38
     replace hs := hs.learn e38; clear e38 q38
     clear hf
     refine then_n (hK55 _ _ ?_)
     refine wp_cond_false (hs.ev rfl) ?_
     refine wp_skip ?_
     refine then_n (hK53 _ _ ?_)
     refine wp_region_lit ?_
     refine st_run 3 [(126, .int .i64 ((((dG ta ma la tb mb lb).l.getD j default)).id)), (125, .pointer (some ⟨g45, 1, none⟩)), (124, .map (some g31))] hs (.c (hs.mem.del (.s (.s .z))) .n) (by kernel_rfl) (by kernel_rfl) (by kernel_rfl) ?_; clear hs a; intro a hs
     refine st_updB (l' := ((dG ta ma la tb mb lb).l.take (j + 1))) hs rfl rfl rfl (.s (.s (.s .z))) (bkv_next hS (by omega)) Try.underlying53 Try.underlying3 ?_; clear hs w a; intro a w hs
     refine wpList_nil ?_
     refine in_n ?_
     refine then_n (hK42 _ _ ?_)
     refine wp_region_lit ?_
     refine st_addR hs rfl rfl (by omega) rfl ?_; clear hs w a; intro a w hs
     refine st_mv hs rfl rfl ?_; clear hs w a; intro a w hs
     refine wpList_nil ?_
     refine then_n ?_
     replace hs := hs.drop (.c (.s (.s (.s .z))) (.c (.s (.s .z)) (.c (.s .z) .n)))
     refine ⟨_, ?_, j + 1, rfl, hs.sub (.c rfl (.c rfl (.c rfl (.c rfl (.c rfl (.c rfl (.c rfl .n))))))), by omega⟩
     omega
    replace ci := Bool.eq_false_iff.2 ci; rw [ci] at hs
    have hB' : (!((((dG ta ma la tb mb lb).l.getD j default).k : Int) == 2)) = false := by rw [← told_b (hT _ (rs_mem (by omega)))]; exact ci
    replace hs := hs.sub (F' := [(13, .bool (false)), (12, .pointer (some ⟨g51, 0, none⟩)), (84, .bool (false)), (83, .agg #[.int .i64 ((((eget ((((dG ta ma la tb mb lb).l.getD j default)).id) lb).getD entZ)).id), .int .i64 ((((eget ((((dG ta ma la tb mb lb).l.getD j default)).id) lb).getD entZ)).p0), .int .i64 ((((eget ((((dG ta ma la tb mb lb).l.getD j default)).id) lb).getD entZ)).p1), .int .i64 ((((eget ((((dG ta ma la tb mb lb).l.getD j default)).id) lb).getD entZ)).p2), .int .i64 ((((eget ((((dG ta ma la tb mb lb).l.getD j default)).id) lb).getD entZ)).v0), .int .i64 ((((eget ((((dG ta ma la tb mb lb).l.getD j default)).id) lb).getD entZ)).v1), .int .i64 ((((eget ((((dG ta ma la tb mb lb).l.getD j default)).id) lb).getD entZ)).v2), .int .u16 (((((((eget ((((dG ta ma la tb mb lb).l.getD j default)).id) lb).getD entZ)).a).toNat : Nat) : Int)), .int .u8 (((((((eget ((((dG ta ma la tb mb lb).l.getD j default)).id) lb).getD entZ)).g).toNat : Nat) : Int))]), (78, .tuple #[.agg #[.int .i64 ((((eget ((((dG ta ma la tb mb lb).l.getD j default)).id) lb).getD entZ)).id), .int .i64 ((((eget ((((dG ta ma la tb mb lb).l.getD j default)).id) lb).getD entZ)).p0), .int .i64 ((((eget ((((dG ta ma la tb mb lb).l.getD j default)).id) lb).getD entZ)).p1), .int .i64 ((((eget ((((dG ta ma la tb mb lb).l.getD j default)).id) lb).getD entZ)).p2), .int .i64 ((((eget ((((dG ta ma la tb mb lb).l.getD j default)).id) lb).getD entZ)).v0), .int .i64 ((((eget ((((dG ta ma la tb mb lb).l.getD j default)).id) lb).getD entZ)).v1), .int .i64 ((((eget ((((dG ta ma la tb mb lb).l.getD j default)).id) lb).getD entZ)).v2), .int .u16 (((((((eget ((((dG ta ma la tb mb lb).l.getD j default)).id) lb).getD entZ)).a).toNat : Nat) : Int)), .int .u8 (((((((eget ((((dG ta ma la tb mb lb).l.getD j default)).id) lb).getD entZ)).g).toNat : Nat) : Int))], .bool (false)]), (82, .tuple #[.agg #[.int .i64 ((((eget ((((dG ta ma la tb mb lb).l.getD j default)).id) lb).getD entZ)).id), .int .i64 ((((eget ((((dG ta ma la tb mb lb).l.getD j default)).id) lb).getD entZ)).p0), .int .i64 ((((eget ((((dG ta ma la tb mb lb).l.getD j default)).id) lb).getD entZ)).p1), .int .i64 ((((eget ((((dG ta ma la tb mb lb).l.getD j default)).id) lb).getD entZ)).p2), .int .i64 ((((eget ((((dG ta ma la tb mb lb).l.getD j default)).id) lb).getD entZ)).v0), .int .i64 ((((eget ((((dG ta ma la tb mb lb).l.getD j default)).id) lb).getD entZ)).v1), .int .i64 ((((eget ((((dG ta ma la tb mb lb).l.getD j default)).id) lb).getD entZ)).v2), .int .u16 (((((((eget ((((dG ta ma la tb mb lb).l.getD j default)).id) lb).getD entZ)).a).toNat : Nat) : Int)), .int .u8 (((((((eget ((((dG ta ma la tb mb lb).l.getD j default)).id) lb).getD entZ)).g).toNat : Nat) : Int))], .bool (false)]), (81, .int .i64 ((((dG ta ma la tb mb lb).l.getD j default)).id)), (80, .pointer (some ⟨g45, 1, none⟩)), (79, .agg #[.int .i64 (tb), .int .i64 (mb), ub]), (11, .bool (true)), (10, .pointer (some ⟨g48, 0, none⟩)), (77, .bool (true)), (76, .agg #[.int .i64 ((((eget ((((dG ta ma la tb mb lb).l.getD j default)).id) la).getD entZ)).id), .int .i64 ((((eget ((((dG ta ma la tb mb lb).l.getD j default)).id) la).getD entZ)).p0), .int .i64 ((((eget ((((dG ta ma la tb mb lb).l.getD j default)).id) la).getD entZ)).p1), .int .i64 ((((eget ((((dG ta ma la tb mb lb).l.getD j default)).id) la).getD entZ)).p2), .int .i64 ((((eget ((((dG ta ma la tb mb lb).l.getD j default)).id) la).getD entZ)).v0), .int .i64 ((((eget ((((dG ta ma la tb mb lb).l.getD j default)).id) la).getD entZ)).v1), .int .i64 ((((eget ((((dG ta ma la tb mb lb).l.getD j default)).id) la).getD entZ)).v2), .int .u16 (((((((eget ((((dG ta ma la tb mb lb).l.getD j default)).id) la).getD entZ)).a).toNat : Nat) : Int)), .int .u8 (((((((eget ((((dG ta ma la tb mb lb).l.getD j default)).id) la).getD entZ)).g).toNat : Nat) : Int))]), (71, .tuple #[.agg #[.int .i64 ((((eget ((((dG ta ma la tb mb lb).l.getD j default)).id) la).getD entZ)).id), .int .i64 ((((eget ((((dG ta ma la tb mb lb).l.getD j default)).id) la).getD entZ)).p0), .int .i64 ((((eget ((((dG ta ma la tb mb lb).l.getD j default)).id) la).getD entZ)).p1), .int .i64 ((((eget ((((dG ta ma la tb mb lb).l.getD j default)).id) la).getD entZ)).p2), .int .i64 ((((eget ((((dG ta ma la tb mb lb).l.getD j default)).id) la).getD entZ)).v0), .int .i64 ((((eget ((((dG ta ma la tb mb lb).l.getD j default)).id) la).getD entZ)).v1), .int .i64 ((((eget ((((dG ta ma la tb mb lb).l.getD j default)).id) la).getD entZ)).v2), .int .u16 (((((((eget ((((dG ta ma la tb mb lb).l.getD j default)).id) la).getD entZ)).a).toNat : Nat) : Int)), .int .u8 (((((((eget ((((dG ta ma la tb mb lb).l.getD j default)).id) la).getD entZ)).g).toNat : Nat) : Int))], .bool (true)]), (75, .tuple #[.agg #[.int .i64 ((((eget ((((dG ta ma la tb mb lb).l.getD j default)).id) la).getD entZ)).id), .int .i64 ((((eget ((((dG ta ma la tb mb lb).l.getD j default)).id) la).getD entZ)).p0), .int .i64 ((((eget ((((dG ta ma la tb mb lb).l.getD j default)).id) la).getD entZ)).p1), .int .i64 ((((eget ((((dG ta ma la tb mb lb).l.getD j default)).id) la).getD entZ)).p2), .int .i64 ((((eget ((((dG ta ma la tb mb lb).l.getD j default)).id) la).getD entZ)).v0), .int .i64 ((((eget ((((dG ta ma la tb mb lb).l.getD j default)).id) la).getD entZ)).v1), .int .i64 ((((eget ((((dG ta ma la tb mb lb).l.getD j default)).id) la).getD entZ)).v2), .int .u16 (((((((eget ((((dG ta ma la tb mb lb).l.getD j default)).id) la).getD entZ)).a).toNat : Nat) : Int)), .int .u8 (((((((eget ((((dG ta ma la tb mb lb).l.getD j default)).id) la).getD entZ)).g).toNat : Nat) : Int))], .bool (true)]), (74, .int .i64 ((((dG ta ma la tb mb lb).l.getD j default)).id)), (73, .pointer (some ⟨g45, 1, none⟩)), (72, .agg #[.int .i64 (ta), .int .i64 (ma), ua]), (8, .int .i64 ((j : Int))), (9, .pointer (some ⟨g45, 0, none⟩)), (70, .agg #[.int .i64 ((((dG ta ma la tb mb lb).l.getD j default)).k), .int .i64 ((((dG ta ma la tb mb lb).l.getD j default)).id), .int .i64 ((((dG ta ma la tb mb lb).l.getD j default)).p0), .int .i64 ((((dG ta ma la tb mb lb).l.getD j default)).p1), .int .i64 ((((dG ta ma la tb mb lb).l.getD j default)).p2), .int .i64 ((((dG ta ma la tb mb lb).l.getD j default)).v0), .int .i64 ((((dG ta ma la tb mb lb).l.getD j default)).v1), .int .i64 ((((dG ta ma la tb mb lb).l.getD j default)).v2), .int .u16 (((((((dG ta ma la tb mb lb).l.getD j default)).a).toNat : Nat) : Int))]), (69, .pointer (some (adr v15 (j * 9)))), (68, .int .i64 ((j : Int))), (67, .bool (decide ((j : Int) < ((((dG ta ma la tb mb lb).l.length : Nat) : Int))))), (2, .pointer (some ⟨g3, 0, none⟩)), (3, .pointer (some ⟨g4, 0, none⟩)), (5, .pointer (some ⟨g17, 0, none⟩)), (7, .map (some g31)), (64, v15), (65, .int .i64 ((((dG ta ma la tb mb lb).l.length : Nat) : Int))), (66, .int .i64 ((j : Int)))]) (.c rfl (.c rfl (.c rfl (.c rfl (.c rfl (.c rfl (.c rfl (.c rfl (.c rfl (.c rfl (.c rfl (.c rfl (.c rfl (.c rfl (.c rfl (.c rfl (.c rfl (.c rfl (.c rfl (.c rfl (.c rfl (.c rfl (.c rfl (.c rfl (.c rfl (.c rfl (.c rfl (.c rfl (.c rfl (.c rfl (.c rfl .n)))))))))))))))))))))))))))))))
    refine wp_drawG (M0 := [blk g51 [.int .i64 ((((eget ((((dG ta ma la tb mb lb).l.getD j default)).id) lb).getD entZ)).id), .int .i64 ((((eget ((((dG ta ma la tb mb lb).l.getD j default)).id) lb).getD entZ)).p0), .int .i64 ((((eget ((((dG ta ma la tb mb lb).l.getD j default)).id) lb).getD entZ)).p1), .int .i64 ((((eget ((((dG ta ma la tb mb lb).l.getD j default)).id) lb).getD entZ)).p2), .int .i64 ((((eget ((((dG ta ma la tb mb lb).l.getD j default)).id) lb).getD entZ)).v0), .int .i64 ((((eget ((((dG ta ma la tb mb lb).l.getD j default)).id) lb).getD entZ)).v1), .int .i64 ((((eget ((((dG ta ma la tb mb lb).l.getD j default)).id) lb).getD entZ)).v2), .int .u16 (((((((eget ((((dG ta ma la tb mb lb).l.getD j default)).id) lb).getD entZ)).a).toNat : Nat) : Int)), .int .u8 (((((((eget ((((dG ta ma la tb mb lb).l.getD j default)).id) lb).getD entZ)).g).toNat : Nat) : Int))] 47, blk g48 [.int .i64 ((((eget ((((dG ta ma la tb mb lb).l.getD j default)).id) la).getD entZ)).id), .int .i64 ((((eget ((((dG ta ma la tb mb lb).l.getD j default)).id) la).getD entZ)).p0), .int .i64 ((((eget ((((dG ta ma la tb mb lb).l.getD j default)).id) la).getD entZ)).p1), .int .i64 ((((eget ((((dG ta ma la tb mb lb).l.getD j default)).id) la).getD entZ)).p2), .int .i64 ((((eget ((((dG ta ma la tb mb lb).l.getD j default)).id) la).getD entZ)).v0), .int .i64 ((((eget ((((dG ta ma la tb mb lb).l.getD j default)).id) la).getD entZ)).v1), .int .i64 ((((eget ((((dG ta ma la tb mb lb).l.getD j default)).id) la).getD entZ)).v2), .int .u16 (((((((eget ((((dG ta ma la tb mb lb).l.getD j default)).id) la).getD entZ)).a).toNat : Nat) : Int)), .int .u8 (((((((eget ((((dG ta ma la tb mb lb).l.getD j default)).id) la).getD entZ)).g).toNat : Nat) : Int))] 47, blk g45 [.int .i64 ((((dG ta ma la tb mb lb).l.getD j default)).k), .int .i64 ((((dG ta ma la tb mb lb).l.getD j default)).id), .int .i64 ((((dG ta ma la tb mb lb).l.getD j default)).p0), .int .i64 ((((dG ta ma la tb mb lb).l.getD j default)).p1), .int .i64 ((((dG ta ma la tb mb lb).l.getD j default)).p2), .int .i64 ((((dG ta ma la tb mb lb).l.getD j default)).v0), .int .i64 ((((dG ta ma la tb mb lb).l.getD j default)).v1), .int .i64 ((((dG ta ma la tb mb lb).l.getD j default)).v2), .int .u16 (((((((dG ta ma la tb mb lb).l.getD j default)).a).toNat : Nat) : Int))] 45, mpr g31 (bkv (((dG ta ma la tb mb lb).l.take j))), row v15 45 9 ((dG ta ma la tb mb lb).l.length) (((dG ta ma la tb mb lb).l.flatMap recV)), blk g17 [.int .i64 ((dG ta ma la tb mb lb).t), .int .i64 ((dG ta ma la tb mb lb).tm), .int .i64 ((dG ta ma la tb mb lb).b), v15] 27, blk g4 [.int .i64 (tb), .int .i64 (mb), ub] 24, blk g3 [.int .i64 (ta), .int .i64 (ma), ua] 24]) (Ds := [Pv 0 (.int .i64 ((j : Int))), Pv 1 (.bool (false)), Pv 2 (.bool (false)), Pv 3 undef, Pv 4 undef, Pv 5 undef, Pv 6 undef, Pv 7 undef, Pv 8 undef, Pv 9 undef, Pv 10 undef, Pv 11 undef, Pv 12 undef, Pv 13 (.bool (false)), Pv 14 (.bool (false)), Pv 15 (.bool (true)), Pv 16 (.pointer (some ⟨g45, 0, none⟩)), Pv 17 (.int .i64 ((((dG ta ma la tb mb lb).l.getD j default)).k)), Pv 18 (.bool (!(((((dG ta ma la tb mb lb).l.getD j default)).k : Int) == 0))), Pv 19 (.bool (false)), Pv 20 (.bool (false)), Pv 21 (.bool (false)), Pv 22 (.bool (false)), Pv 23 (.pointer (some ⟨g45, 0, none⟩)), Pv 24 (.int .i64 ((((dG ta ma la tb mb lb).l.getD j default)).k)), Pv 25 (.bool (!(((((dG ta ma la tb mb lb).l.getD j default)).k : Int) == 2))), Pv 26 (.bool (false)), Pv 27 (.bool (false)), Pv 28 (.bool (false)), Pv 29 (.bool (true)), Pv 30 (.bool (true)), Pv 31 (.bool (false)), Pv 32 (.bool (false)), Pv 33 (.bool (false)), Pv 34 undef, Pv 35 undef, Pv 36 undef, Pv 37 (.bool (false)), Pv 38 (.bool (false))]) (by kernel_rfl) hs rfl .n (by kernel_rfl) (by kernel_rfl) (by kernel_rfl) ?_ ?_
    ·
     refine (.c ?_ (.c ?_ (.c ?_ (.c ?_ (.c ?_ (.c ?_ (.c ?_ (.c ?_ (.c ?_ (.c ?_ (.c ?_ (.c ?_ (.c ?_ (.c ?_ (.c ?_ (.c ?_ (.c ?_ (.c ?_ (.c ?_ (.c ?_ (.c ?_ (.c ?_ (.c ?_ (.c ?_ (.c ?_ (.c ?_ (.c ?_ (.c ?_ (.c ?_ (.c ?_ (.c ?_ (.c ?_ (.c ?_ (.c ?_ (.c ?_ (.c ?_ (.c ?_ (.c ?_ (.c ?_ .n)))))))))))))))))))))))))))))))))))))))
     · exact trip_pv (m := 39) .n (fun hm0 hm hx => .n) (by kernel_rfl) (by kernel_rfl) rfl
     ·
      intro a_ w_ R_ rest_ vs61 hm hs ht hx
      have hm0 := hm.mid
      replace hs := hs.lrn (ht 0 (twB_spec 39 _ (by kernel_rfl))) rfl rfl
      have hs0 := hs.bare
      refine st_gtr hs rfl rfl rfl ?_; clear hs; intro a w hs
      have hb_ : (decide (0 < (j : Int))) = false := decide_eq_false (by omega)
      rw [hb_] at hs; clear hb_
      exact wpList_nil ⟨rfl, _, _, hs0, (.c .r), hs, rfl⟩
     · exact trip_pv (m := 39) (.c (k := 1) (by kernel_rfl) rfl rfl .n) (fun hm0 hm hx => .n) (by kernel_rfl) (by kernel_rfl) rfl
     · exact trip_pf (m := 39) rfl (.c (k := 2) (by kernel_rfl) rfl rfl .n) rfl rfl rfl
     · exact trip_pf (m := 39) rfl (.c (k := 2) (by kernel_rfl) rfl rfl (.c (k := 3) (by kernel_rfl) rfl rfl .n)) rfl rfl rfl
     · exact trip_pf (m := 39) rfl (.c (k := 2) (by kernel_rfl) rfl rfl .n) rfl rfl rfl
     ·
      intro a_ w_ R_ rest_ vs61 hm hs ht hx
      have hm0 := hm.mid
      replace hs := hs.lrn (ht 2 (twB_spec 39 _ (by kernel_rfl))) rfl rfl
      replace hs := hs.lrn (ht 5 (twB_spec 39 _ (by kernel_rfl))) rfl rfl
      have hs0 := hs.bare
      refine st_guardF hs rfl rfl rfl rfl rfl ?_; clear hs; intro a w hs
      exact wpList_nil ⟨rfl, _, _, hs0, (.c (.c .r)), hs, rfl⟩
     · exact trip_pf (m := 39) rfl (.c (k := 2) (by kernel_rfl) rfl rfl (.c (k := 4) (by kernel_rfl) rfl rfl (.c (k := 6) (by kernel_rfl) rfl rfl .n))) rfl rfl rfl
     · exact trip_pf (m := 39) rfl (.c (k := 2) (by kernel_rfl) rfl rfl (.c (k := 7) (by kernel_rfl) rfl rfl .n)) rfl rfl rfl
     · exact trip_pf (m := 39) rfl (.c (k := 2) (by kernel_rfl) rfl rfl (.c (k := 8) (by kernel_rfl) rfl rfl .n)) rfl rfl rfl
     · exact trip_pf (m := 39) rfl (.c (k := 2) (by kernel_rfl) rfl rfl .n) rfl rfl rfl
     · exact trip_pf (m := 39) rfl (.c (k := 2) (by kernel_rfl) rfl rfl (.c (k := 10) (by kernel_rfl) rfl rfl .n)) rfl rfl rfl
     ·
      intro a_ w_ R_ rest_ vs61 hm hs ht hx
      have hm0 := hm.mid
      replace hs := hs.lrn (ht 2 (twB_spec 39 _ (by kernel_rfl))) rfl rfl
      replace hs := hs.lrn (ht 9 (twB_spec 39 _ (by kernel_rfl))) rfl rfl
      replace hs := hs.lrn (ht 11 (twB_spec 39 _ (by kernel_rfl))) rfl rfl
      have hs0 := hs.bare
      refine st_guardF hs rfl rfl rfl rfl rfl ?_; clear hs; intro a w hs
      exact wpList_nil ⟨rfl, _, _, hs0, (.c (.c (.c .r))), hs, rfl⟩
     · exact trip_pv (m := 39) (.c (k := 2) (by kernel_rfl) rfl rfl (.c (k := 12) (by kernel_rfl) rfl rfl .n)) (fun hm0 hm hx => .n) (by kernel_rfl) (by kernel_rfl) rfl
     · exact trip_pv (m := 39) (.c (k := 13) (by kernel_rfl) rfl rfl .n) (fun hm0 hm hx => .n) (by kernel_rfl) (by kernel_rfl) rfl
     · exact trip_pg (m := 39) rfl (.c (k := 14) (by kernel_rfl) rfl rfl .n) rfl (fun hm0 hm hx => .n) (by kernel_rfl) (by kernel_rfl) rfl
     · exact trip_pg (m := 39) rfl (.c (k := 14) (by kernel_rfl) rfl rfl .n) rfl (fun hm0 hm hx => .n) (by kernel_rfl) (by kernel_rfl) rfl
     · exact trip_pg (m := 39) rfl (.c (k := 14) (by kernel_rfl) rfl rfl (.c (k := 16) (by kernel_rfl) rfl rfl .n)) rfl (fun hm0 hm hx => (.c (hm0.del (.s (.s .z))))) (by kernel_rfl) (by kernel_rfl) rfl
     · exact trip_pg (m := 39) rfl (.c (k := 14) (by kernel_rfl) rfl rfl (.c (k := 17) (by kernel_rfl) rfl rfl .n)) rfl (fun hm0 hm hx => .n) (by kernel_rfl) (by kernel_rfl) rfl
     ·
      intro a_ w_ R_ rest_ vs61 hm hs ht hx
      have hm0 := hm.mid
      replace hs := hs.lrn (ht 14 (twB_spec 39 _ (by kernel_rfl))) rfl rfl
      replace hs := hs.lrn (ht 15 (twB_spec 39 _ (by kernel_rfl))) rfl rfl
      replace hs := hs.lrn (ht 18 (twB_spec 39 _ (by kernel_rfl))) rfl rfl
      have hs0 := hs.bare
      refine st_guardT hs rfl rfl rfl ?_
      refine st_neb hs rfl rfl Try.underlying4 rfl ?_; clear hs; intro a w hs
      have hb_ : (!((true : Bool) == (!(((((dG ta ma la tb mb lb).l.getD j default)).k : Int) == 0)))) = false := by rw [hA']; rfl
      rw [hb_] at hs; clear hb_
      exact wpList_nil ⟨rfl, _, _, hs0, (.c (.c (.c .r))), hs, rfl⟩
     · exact trip_pv (m := 39) (.c (k := 14) (by kernel_rfl) rfl rfl (.c (k := 19) (by kernel_rfl) rfl rfl .n)) (fun hm0 hm hx => .n) (by kernel_rfl) (by kernel_rfl) rfl
     · exact trip_pv (m := 39) (.c (k := 20) (by kernel_rfl) rfl rfl .n) (fun hm0 hm hx => .n) (by kernel_rfl) (by kernel_rfl) rfl
     · exact trip_pg (m := 39) rfl (.c (k := 21) (by kernel_rfl) rfl rfl .n) rfl (fun hm0 hm hx => .n) (by kernel_rfl) (by kernel_rfl) rfl
     · exact trip_pg (m := 39) rfl (.c (k := 21) (by kernel_rfl) rfl rfl .n) rfl (fun hm0 hm hx => .n) (by kernel_rfl) (by kernel_rfl) rfl
     · exact trip_pg (m := 39) rfl (.c (k := 21) (by kernel_rfl) rfl rfl (.c (k := 23) (by kernel_rfl) rfl rfl .n)) rfl (fun hm0 hm hx => (.c (hm0.del (.s (.s .z))))) (by kernel_rfl) (by kernel_rfl) rfl
     · exact trip_pg (m := 39) rfl (.c (k := 21) (by kernel_rfl) rfl rfl (.c (k := 24) (by kernel_rfl) rfl rfl .n)) rfl (fun hm0 hm hx => .n) (by kernel_rfl) (by kernel_rfl) rfl
     ·
      intro a_ w_ R_ rest_ vs61 hm hs ht hx
      have hm0 := hm.mid
      replace hs := hs.lrn (ht 21 (twB_spec 39 _ (by kernel_rfl))) rfl rfl
      replace hs := hs.lrn (ht 22 (twB_spec 39 _ (by kernel_rfl))) rfl rfl
      replace hs := hs.lrn (ht 25 (twB_spec 39 _ (by kernel_rfl))) rfl rfl
      have hs0 := hs.bare
      refine st_guardT hs rfl rfl rfl ?_
      refine st_neb hs rfl rfl Try.underlying4 rfl ?_; clear hs; intro a w hs
      have hb_ : (!((false : Bool) == (!(((((dG ta ma la tb mb lb).l.getD j default)).k : Int) == 2)))) = false := by rw [hB']; rfl
      rw [hb_] at hs; clear hb_
      exact wpList_nil ⟨rfl, _, _, hs0, (.c (.c (.c .r))), hs, rfl⟩
     · exact trip_pv (m := 39) (.c (k := 21) (by kernel_rfl) rfl rfl (.c (k := 26) (by kernel_rfl) rfl rfl .n)) (fun hm0 hm hx => .n) (by kernel_rfl) (by kernel_rfl) rfl
     · exact trip_pv (m := 39) (.c (k := 27) (by kernel_rfl) rfl rfl .n) (fun hm0 hm hx => .n) (by kernel_rfl) (by kernel_rfl) rfl
     · exact trip_pg (m := 39) rfl (.c (k := 28) (by kernel_rfl) rfl rfl .n) rfl (fun hm0 hm hx => .n) (by kernel_rfl) (by kernel_rfl) rfl
     · exact trip_pg (m := 39) rfl (.c (k := 28) (by kernel_rfl) rfl rfl (.c (k := 29) (by kernel_rfl) rfl rfl .n)) rfl (fun hm0 hm hx => .n) (by kernel_rfl) (by kernel_rfl) rfl
     · exact trip_pg (m := 39) rfl (.c (k := 30) (by kernel_rfl) rfl rfl .n) rfl (fun hm0 hm hx => .n) (by kernel_rfl) (by kernel_rfl) rfl
     · exact trip_pg (m := 39) rfl (.c (k := 28) (by kernel_rfl) rfl rfl (.c (k := 30) (by kernel_rfl) rfl rfl (.c (k := 31) (by kernel_rfl) rfl rfl .n))) rfl (fun hm0 hm hx => .n) (by kernel_rfl) (by kernel_rfl) rfl
     · exact trip_pg (m := 39) rfl (.c (k := 28) (by kernel_rfl) rfl rfl (.c (k := 32) (by kernel_rfl) rfl rfl .n)) rfl (fun hm0 hm hx => .n) (by kernel_rfl) (by kernel_rfl) rfl
     · exact trip_pf (m := 39) rfl (.c (k := 33) (by kernel_rfl) rfl rfl .n) rfl rfl rfl
     · exact trip_pf (m := 39) rfl (.c (k := 33) (by kernel_rfl) rfl rfl .n) rfl rfl rfl
     ·
      intro a_ w_ R_ rest_ vs61 hm hs ht hx
      have hm0 := hm.mid
      replace hs := hs.lrn (ht 33 (twB_spec 39 _ (by kernel_rfl))) rfl rfl
      replace hs := hs.lrn (ht 34 (twB_spec 39 _ (by kernel_rfl))) rfl rfl
      replace hs := hs.lrn (ht 35 (twB_spec 39 _ (by kernel_rfl))) rfl rfl
      have hs0 := hs.bare
      refine st_guardF hs rfl rfl rfl rfl rfl ?_; clear hs; intro a w hs
      exact wpList_nil ⟨rfl, _, _, hs0, (.c (.c (.c .r))), hs, rfl⟩
     · exact trip_pg (m := 39) rfl (.c (k := 28) (by kernel_rfl) rfl rfl (.c (k := 33) (by kernel_rfl) rfl rfl (.c (k := 36) (by kernel_rfl) rfl rfl .n))) rfl (fun hm0 hm hx => .n) (by kernel_rfl) (by kernel_rfl) rfl
     exact trip_pv (m := 39) (.c (k := 28) (by kernel_rfl) rfl rfl (.c (k := 37) (by kernel_rfl) rfl rfl .n)) (fun hm0 hm hx => .n) (by kernel_rfl) (by kernel_rfl) rfl
    clear hs w a; intro a w vs61 hs hf
    replace hs : St _ _ _ _ [blk g51 [.int .i64 ((((eget ((((dG ta ma la tb mb lb).l.getD j default)).id) lb).getD entZ)).id), .int .i64 ((((eget ((((dG ta ma la tb mb lb).l.getD j default)).id) lb).getD entZ)).p0), .int .i64 ((((eget ((((dG ta ma la tb mb lb).l.getD j default)).id) lb).getD entZ)).p1), .int .i64 ((((eget ((((dG ta ma la tb mb lb).l.getD j default)).id) lb).getD entZ)).p2), .int .i64 ((((eget ((((dG ta ma la tb mb lb).l.getD j default)).id) lb).getD entZ)).v0), .int .i64 ((((eget ((((dG ta ma la tb mb lb).l.getD j default)).id) lb).getD entZ)).v1), .int .i64 ((((eget ((((dG ta ma la tb mb lb).l.getD j default)).id) lb).getD entZ)).v2), .int .u16 (((((((eget ((((dG ta ma la tb mb lb).l.getD j default)).id) lb).getD entZ)).a).toNat : Nat) : Int)), .int .u8 (((((((eget ((((dG ta ma la tb mb lb).l.getD j default)).id) lb).getD entZ)).g).toNat : Nat) : Int))] 47, blk g48 [.int .i64 ((((eget ((((dG ta ma la tb mb lb).l.getD j default)).id) la).getD entZ)).id), .int .i64 ((((eget ((((dG ta ma la tb mb lb).l.getD j default)).id) la).getD entZ)).p0), .int .i64 ((((eget ((((dG ta ma la tb mb lb).l.getD j default)).id) la).getD entZ)).p1), .int .i64 ((((eget ((((dG ta ma la tb mb lb).l.getD j default)).id) la).getD entZ)).p2), .int .i64 ((((eget ((((dG ta ma la tb mb lb).l.getD j default)).id) la).getD entZ)).v0), .int .i64 ((((eget ((((dG ta ma la tb mb lb).l.getD j default)).id) la).getD entZ)).v1), .int .i64 ((((eget ((((dG ta ma la tb mb lb).l.getD j default)).id) la).getD entZ)).v2), .int .u16 (((((((eget ((((dG ta ma la tb mb lb).l.getD j default)).id) la).getD entZ)).a).toNat : Nat) : Int)), .int .u8 (((((((eget ((((dG ta ma la tb mb lb).l.getD j default)).id) la).getD entZ)).g).toNat : Nat) : Int))] 47, blk g45 [.int .i64 ((((dG ta ma la tb mb lb).l.getD j default)).k), .int .i64 ((((dG ta ma la tb mb lb).l.getD j default)).id), .int .i64 ((((dG ta ma la tb mb lb).l.getD j default)).p0), .int .i64 ((((dG ta ma la tb mb lb).l.getD j default)).p1), .int .i64 ((((dG ta ma la tb mb lb).l.getD j default)).p2), .int .i64 ((((dG ta ma la tb mb lb).l.getD j default)).v0), .int .i64 ((((dG ta ma la tb mb lb).l.getD j default)).v1), .int .i64 ((((dG ta ma la tb mb lb).l.getD j default)).v2), .int .u16 (((((((dG ta ma la tb mb lb).l.getD j default)).a).toNat : Nat) : Int))] 45, mpr g31 (bkv (((dG ta ma la tb mb lb).l.take j))), row v15 45 9 ((dG ta ma la tb mb lb).l.length) (((dG ta ma la tb mb lb).l.flatMap recV)), blk g17 [.int .i64 ((dG ta ma la tb mb lb).t), .int .i64 ((dG ta ma la tb mb lb).tm), .int .i64 ((dG ta ma la tb mb lb).b), v15] 27, blk g4 [.int .i64 (tb), .int .i64 (mb), ub] 24, blk g3 [.int .i64 (ta), .int .i64 (ma), ua] 24] _ _ := hs
    obtain ⟨e38, q38⟩ := hf 38 (by decide)
    replace e38 : _ = some (vs61 38) := e38.val rfl
    rw [show vs61 38 = .bool (false) from q38] at e38
    replace hs := hs.learn e38; clear e38 q38
    clear hf
    refine then_n (hK55 _ _ ?_)
    refine wp_cond_false (hs.ev rfl) ?_
    refine wp_skip ?_
    refine then_n (hK53 _ _ ?_)
    refine wp_region_lit ?_
    refine st_run 3 [(126, .int .i64 ((((dG ta ma la tb mb lb).l.getD j default)).id)), (125, .pointer (some ⟨g45, 1, none⟩)), (124, .map (some g31))] hs (.c (hs.mem.del (.s (.s .z))) .n) (by kernel_rfl) (by kernel_rfl) (by kernel_rfl) ?_; clear hs a; intro a hs
    refine st_updB (l' := ((dG ta ma la tb mb lb).l.take (j + 1))) hs rfl rfl rfl (.s (.s (.s .z))) (bkv_next hS (by omega)) Try.underlying53 Try.underlying3 ?_; clear hs w a; intro a w hs
    refine wpList_nil ?_
    refine in_n ?_
    refine then_n (hK42 _ _ ?_)
    refine wp_region_lit ?_
    refine st_addR hs rfl rfl (by omega) rfl ?_; clear hs w a; intro a w hs
    refine st_mv hs rfl rfl ?_; clear hs w a; intro a w hs
    refine wpList_nil ?_
    refine then_n ?_
    replace hs := hs.drop (.c (.s (.s (.s .z))) (.c (.s (.s .z)) (.c (.s .z) .n)))
    refine ⟨_, ?_, j + 1, rfl, hs.sub (.c rfl (.c rfl (.c rfl (.c rfl (.c rfl (.c rfl (.c rfl .n))))))), by omega⟩
    omega
   replace co := Bool.eq_false_iff.2 co; rw [co] at hs
   have hA' : (!((((dG ta ma la tb mb lb).l.getD j default).k : Int) == 0)) = false := by rw [← told_a (hT _ (rs_mem (by omega)))]; exact co
   by_cases ci : (eget (((dG ta ma la tb mb lb).l.getD j default).id) lb).isSome = true
   ·
    rw [ci] at hs
    have hB' : (!((((dG ta ma la tb mb lb).l.getD j default).k : Int) == 2)) = true := by rw [← told_b (hT _ (rs_mem (by omega)))]; exact ci
    replace hs := hs.sub (F' := [(13, .bool (true)), (12, .pointer (some ⟨g51, 0, none⟩)), (84, .bool (true)), (83, .agg #[.int .i64 ((((eget ((((dG ta ma la tb mb lb).l.getD j default)).id) lb).getD entZ)).id), .int .i64 ((((eget ((((dG ta ma la tb mb lb).l.getD j default)).id) lb).getD entZ)).p0), .int .i64 ((((eget ((((dG ta ma la tb mb lb).l.getD j default)).id) lb).getD entZ)).p1), .int .i64 ((((eget ((((dG ta ma la tb mb lb).l.getD j default)).id) lb).getD entZ)).p2), .int .i64 ((((eget ((((dG ta ma la tb mb lb).l.getD j default)).id) lb).getD entZ)).v0), .int .i64 ((((eget ((((dG ta ma la tb mb lb).l.getD j default)).id) lb).getD entZ)).v1), .int .i64 ((((eget ((((dG ta ma la tb mb lb).l.getD j default)).id) lb).getD entZ)).v2), .int .u16 (((((((eget ((((dG ta ma la tb mb lb).l.getD j default)).id) lb).getD entZ)).a).toNat : Nat) : Int)), .int .u8 (((((((eget ((((dG ta ma la tb mb lb).l.getD j default)).id) lb).getD entZ)).g).toNat : Nat) : Int))]), (78, .tuple #[.agg #[.int .i64 ((((eget ((((dG ta ma la tb mb lb).l.getD j default)).id) lb).getD entZ)).id), .int .i64 ((((eget ((((dG ta ma la tb mb lb).l.getD j default)).id) lb).getD entZ)).p0), .int .i64 ((((eget ((((dG ta ma la tb mb lb).l.getD j default)).id) lb).getD entZ)).p1), .int .i64 ((((eget ((((dG ta ma la tb mb lb).l.getD j default)).id) lb).getD entZ)).p2), .int .i64 ((((eget ((((dG ta ma la tb mb lb).l.getD j default)).id) lb).getD entZ)).v0), .int .i64 ((((eget ((((dG ta ma la tb mb lb).l.getD j default)).id) lb).getD entZ)).v1), .int .i64 ((((eget ((((dG ta ma la tb mb lb).l.getD j default)).id) lb).getD entZ)).v2), .int .u16 (((((((eget ((((dG ta ma la tb mb lb).l.getD j default)).id) lb).getD entZ)).a).toNat : Nat) : Int)), .int .u8 (((((((eget ((((dG ta ma la tb mb lb).l.getD j default)).id) lb).getD entZ)).g).toNat : Nat) : Int))], .bool (true)]), (82, .tuple #[.agg #[.int .i64 ((((eget ((((dG ta ma la tb mb lb).l.getD j default)).id) lb).getD entZ)).id), .int .i64 ((((eget ((((dG ta ma la tb mb lb).l.getD j default)).id) lb).getD entZ)).p0), .int .i64 ((((eget ((((dG ta ma la tb mb lb).l.getD j default)).id) lb).getD entZ)).p1), .int .i64 ((((eget ((((dG ta ma la tb mb lb).l.getD j default)).id) lb).getD entZ)).p2), .int .i64 ((((eget ((((dG ta ma la tb mb lb).l.getD j default)).id) lb).getD entZ)).v0), .int .i64 ((((eget ((((dG ta ma la tb mb lb).l.getD j default)).id) lb).getD entZ)).v1), .int .i64 ((((eget ((((dG ta ma la tb mb lb).l.getD j default)).id) lb).getD entZ)).v2), .int .u16 (((((((eget ((((dG ta ma la tb mb lb).l.getD j default)).id) lb).getD entZ)).a).toNat : Nat) : Int)), .int .u8 (((((((eget ((((dG ta ma la tb mb lb).l.getD j default)).id) lb).getD entZ)).g).toNat : Nat) : Int))], .bool (true)]), (81, .int .i64 ((((dG ta ma la tb mb lb).l.getD j default)).id)), (80, .pointer (some ⟨g45, 1, none⟩)), (79, .agg #[.int .i64 (tb), .int .i64 (mb), ub]), (11, .bool (false)), (10, .pointer (some ⟨g48, 0, none⟩)), (77, .bool (false)), (76, .agg #[.int .i64 ((((eget ((((dG ta ma la tb mb lb).l.getD j default)).id) la).getD entZ)).id), .int .i64 ((((eget ((((dG ta ma la tb mb lb).l.getD j default)).id) la).getD entZ)).p0), .int .i64 ((((eget ((((dG ta ma la tb mb lb).l.getD j default)).id) la).getD entZ)).p1), .int .i64 ((((eget ((((dG ta ma la tb mb lb).l.getD j default)).id) la).getD entZ)).p2), .int .i64 ((((eget ((((dG ta ma la tb mb lb).l.getD j default)).id) la).getD entZ)).v0), .int .i64 ((((eget ((((dG ta ma la tb mb lb).l.getD j default)).id) la).getD entZ)).v1), .int .i64 ((((eget ((((dG ta ma la tb mb lb).l.getD j default)).id) la).getD entZ)).v2), .int .u16 (((((((eget ((((dG ta ma la tb mb lb).l.getD j default)).id) la).getD entZ)).a).toNat : Nat) : Int)), .int .u8 (((((((eget ((((dG ta ma la tb mb lb).l.getD j default)).id) la).getD entZ)).g).toNat : Nat) : Int))]), (71, .tuple #[.agg #[.int .i64 ((((eget ((((dG ta ma la tb mb lb).l.getD j default)).id) la).getD entZ)).id), .int .i64 ((((eget ((((dG ta ma la tb mb lb).l.getD j default)).id) la).getD entZ)).p0), .int .i64 ((((eget ((((dG ta ma la tb mb lb).l.getD j default)).id) la).getD entZ)).p1), .int .i64 ((((eget ((((dG ta ma la tb mb lb).l.getD j default)).id) la).getD entZ)).p2), .int .i64 ((((eget ((((dG ta ma la tb mb lb).l.getD j default)).id) la).getD entZ)).v0), .int .i64 ((((eget ((((dG ta ma la tb mb lb).l.getD j default)).id) la).getD entZ)).v1), .int .i64 ((((eget ((((dG ta ma la tb mb lb).l.getD j default)).id) la).getD entZ)).v2), .int .u16 (((((((eget ((((dG ta ma la tb mb lb).l.getD j default)).id) la).getD entZ)).a).toNat : Nat) : Int)), .int .u8 (((((((eget ((((dG ta ma la tb mb lb).l.getD j default)).id) la).getD entZ)).g).toNat : Nat) : Int))], .bool (false)]), (75, .tuple #[.agg #[.int .i64 ((((eget ((((dG ta ma la tb mb lb).l.getD j default)).id) la).getD entZ)).id), .int .i64 ((((eget ((((dG ta ma la tb mb lb).l.getD j default)).id) la).getD entZ)).p0), .int .i64 ((((eget ((((dG ta ma la tb mb lb).l.getD j default)).id) la).getD entZ)).p1), .int .i64 ((((eget ((((dG ta ma la tb mb lb).l.getD j default)).id) la).getD entZ)).p2), .int .i64 ((((eget ((((dG ta ma la tb mb lb).l.getD j default)).id) la).getD entZ)).v0), .int .i64 ((((eget ((((dG ta ma la tb mb lb).l.getD j default)).id) la).getD entZ)).v1), .int .i64 ((((eget ((((dG ta ma la tb mb lb).l.getD j default)).id) la).getD entZ)).v2), .int .u16 (((((((eget ((((dG ta ma la tb mb lb).l.getD j default)).id) la).getD entZ)).a).toNat : Nat) : Int)), .int .u8 (((((((eget ((((dG ta ma la tb mb lb).l.getD j default)).id) la).getD entZ)).g).toNat : Nat) : Int))], .bool (false)]), (74, .int .i64 ((((dG ta ma la tb mb lb).l.getD j default)).id)), (73, .pointer (some ⟨g45, 1, none⟩)), (72, .agg #[.int .i64 (ta), .int .i64 (ma), ua]), (8, .int .i64 ((j : Int))), (9, .pointer (some ⟨g45, 0, none⟩)), (70, .agg #[.int .i64 ((((dG ta ma la tb mb lb).l.getD j default)).k), .int .i64 ((((dG ta ma la tb mb lb).l.getD j default)).id), .int .i64 ((((dG ta ma la tb mb lb).l.getD j default)).p0), .int .i64 ((((dG ta ma la tb mb lb).l.getD j default)).p1), .int .i64 ((((dG ta ma la tb mb lb).l.getD j default)).p2), .int .i64 ((((dG ta ma la tb mb lb).l.getD j default)).v0), .int .i64 ((((dG ta ma la tb mb lb).l.getD j default)).v1), .int .i64 ((((dG ta ma la tb mb lb).l.getD j default)).v2), .int .u16 (((((((dG ta ma la tb mb lb).l.getD j default)).a).toNat : Nat) : Int))]), (69, .pointer (some (adr v15 (j * 9)))), (68, .int .i64 ((j : Int))), (67, .bool (decide ((j : Int) < ((((dG ta ma la tb mb lb).l.length : Nat) : Int))))), (2, .pointer (some ⟨g3, 0, none⟩)), (3, .pointer (some ⟨g4, 0, none⟩)), (5, .pointer (some ⟨g17, 0, none⟩)), (7, .map (some g31)), (64, v15), (65, .int .i64 ((((dG ta ma la tb mb lb).l.length : Nat) : Int))), (66, .int .i64 ((j : Int)))]) (.c rfl (.c rfl (.c rfl (.c rfl (.c rfl (.c rfl (.c rfl (.c rfl (.c rfl (.c rfl (.c rfl (.c rfl (.c rfl (.c rfl (.c rfl (.c rfl (.c rfl (.c rfl (.c rfl (.c rfl (.c rfl (.c rfl (.c rfl (.c rfl (.c rfl (.c rfl (.c rfl (.c rfl (.c rfl (.c rfl (.c rfl .n)))))))))))))))))))))))))))))))
    refine wp_drawG (M0 := [blk g51 [.int .i64 ((((eget ((((dG ta ma la tb mb lb).l.getD j default)).id) lb).getD entZ)).id), .int .i64 ((((eget ((((dG ta ma la tb mb lb).l.getD j default)).id) lb).getD entZ)).p0), .int .i64 ((((eget ((((dG ta ma la tb mb lb).l.getD j default)).id) lb).getD entZ)).p1), .int .i64 ((((eget ((((dG ta ma la tb mb lb).l.getD j default)).id) lb).getD entZ)).p2), .int .i64 ((((eget ((((dG ta ma la tb mb lb).l.getD j default)).id) lb).getD entZ)).v0), .int .i64 ((((eget ((((dG ta ma la tb mb lb).l.getD j default)).id) lb).getD entZ)).v1), .int .i64 ((((eget ((((dG ta ma la tb mb lb).l.getD j default)).id) lb).getD entZ)).v2), .int .u16 (((((((eget ((((dG ta ma la tb mb lb).l.getD j default)).id) lb).getD entZ)).a).toNat : Nat) : Int)), .int .u8 (((((((eget ((((dG ta ma la tb mb lb).l.getD j default)).id) lb).getD entZ)).g).toNat : Nat) : Int))] 47, blk g48 [.int .i64 ((((eget ((((dG ta ma la tb mb lb).l.getD j default)).id) la).getD entZ)).id), .int .i64 ((((eget ((((dG ta ma la tb mb lb).l.getD j default)).id) la).getD entZ)).p0), .int .i64 ((((eget ((((dG ta ma la tb mb lb).l.getD j default)).id) la).getD entZ)).p1), .int .i64 ((((eget ((((dG ta ma la tb mb lb).l.getD j default)).id) la).getD entZ)).p2), .int .i64 ((((eget ((((dG ta ma la tb mb lb).l.getD j default)).id) la).getD entZ)).v0), .int .i64 ((((eget ((((dG ta ma la tb mb lb).l.getD j default)).id) la).getD entZ)).v1), .int .i64 ((((eget ((((dG ta ma la tb mb lb).l.getD j default)).id) la).getD entZ)).v2), .int .u16 (((((((eget ((((dG ta ma la tb mb lb).l.getD j default)).id) la).getD entZ)).a).toNat : Nat) : Int)), .int .u8 (((((((eget ((((dG ta ma la tb mb lb).l.getD j default)).id) la).getD entZ)).g).toNat : Nat) : Int))] 47, blk g45 [.int .i64 ((((dG ta ma la tb mb lb).l.getD j default)).k), .int .i64 ((((dG ta ma la tb mb lb).l.getD j default)).id), .int .i64 ((((dG ta ma la tb mb lb).l.getD j default)).p0), .int .i64 ((((dG ta ma la tb mb lb).l.getD j default)).p1), .int .i64 ((((dG ta ma la tb mb lb).l.getD j default)).p2), .int .i64 ((((dG ta ma la tb mb lb).l.getD j default)).v0), .int .i64 ((((dG ta ma la tb mb lb).l.getD j default)).v1), .int .i64 ((((dG ta ma la tb mb lb).l.getD j default)).v2), .int .u16 (((((((dG ta ma la tb mb lb).l.getD j default)).a).toNat : Nat) : Int))] 45, mpr g31 (bkv (((dG ta ma la tb mb lb).l.take j))), row v15 45 9 ((dG ta ma la tb mb lb).l.length) (((dG ta ma la tb mb lb).l.flatMap recV)), blk g17 [.int .i64 ((dG ta ma la tb mb lb).t), .int .i64 ((dG ta ma la tb mb lb).tm), .int .i64 ((dG ta ma la tb mb lb).b), v15] 27, blk g4 [.int .i64 (tb), .int .i64 (mb), ub] 24, blk g3 [.int .i64 (ta), .int .i64 (ma), ua] 24]) (Ds := [Pv 0 (.int .i64 ((j : Int))), Pv 1 (.bool (false)), Pv 2 (.bool (false)), Pv 3 undef, Pv 4 undef, Pv 5 undef, Pv 6 undef, Pv 7 undef, Pv 8 undef, Pv 9 undef, Pv 10 undef, Pv 11 undef, Pv 12 undef, Pv 13 (.bool (false)), Pv 14 (.bool (false)), Pv 15 (.bool (false)), Pv 16 (.pointer (some ⟨g45, 0, none⟩)), Pv 17 (.int .i64 ((((dG ta ma la tb mb lb).l.getD j default)).k)), Pv 18 (.bool (!(((((dG ta ma la tb mb lb).l.getD j default)).k : Int) == 0))), Pv 19 (.bool (false)), Pv 20 (.bool (false)), Pv 21 (.bool (false)), Pv 22 (.bool (true)), Pv 23 (.pointer (some ⟨g45, 0, none⟩)), Pv 24 (.int .i64 ((((dG ta ma la tb mb lb).l.getD j default)).k)), Pv 25 (.bool (!(((((dG ta ma la tb mb lb).l.getD j default)).k : Int) == 2))), Pv 26 (.bool (false)), Pv 27 (.bool (false)), Pv 28 (.bool (false)), Pv 29 (.bool (false)), Pv 30 (.bool (false)), Pv 31 undef, Pv 32 (.bool (false)), Pv 33 (.bool (false)), Pv 34 undef, Pv 35 undef, Pv 36 undef, Pv 37 (.bool (false)), Pv 38 (.bool (false))]) (by kernel_rfl) hs rfl .n (by kernel_rfl) (by kernel_rfl) (by kernel_rfl) ?_ ?_
    ·
     refine (.c ?_ (.c ?_ (.c ?_ (.c ?_ (.c ?_ (.c ?_ (.c ?_ (.c ?_ (.c ?_ (.c ?_ (.c ?_ (.c ?_ (.c ?_ (.c ?_ (.c ?_ (.c ?_ (.c ?_ (.c ?_ (.c ?_ (.c ?_ (.c ?_ (.c ?_ (.c ?_ (.c ?_ (.c ?_ (.c ?_ (.c ?_ (.c ?_ (.c ?_ (.c ?_ (.c ?_ (.c ?_ (.c ?_ (.c ?_ (.c ?_ (.c ?_ (.c ?_ (.c ?_ (.c ?_ .n)))))))))))))))))))))))))))))))))))))))
     · exact trip_pv (m := 39) .n (fun hm0 hm hx => .n) (by kernel_rfl) (by kernel_rfl) rfl
     ·
      intro a_ w_ R_ rest_ vs62 hm hs ht hx
      have hm0 := hm.mid
      replace hs := hs.lrn (ht 0 (twB_spec 39 _ (by kernel_rfl))) rfl rfl
      have hs0 := hs.bare
      refine st_gtr hs rfl rfl rfl ?_; clear hs; intro a w hs
      have hb_ : (decide (0 < (j : Int))) = false := decide_eq_false (by omega)
      rw [hb_] at hs; clear hb_
      exact wpList_nil ⟨rfl, _, _, hs0, (.c .r), hs, rfl⟩
     · exact trip_pv (m := 39) (.c (k := 1) (by kernel_rfl) rfl rfl .n) (fun hm0 hm hx => .n) (by kernel_rfl) (by kernel_rfl) rfl
     · exact trip_pf (m := 39) rfl (.c (k := 2) (by kernel_rfl) rfl rfl .n) rfl rfl rfl
     · exact trip_pf (m := 39) rfl (.c (k := 2) (by kernel_rfl) rfl rfl (.c (k := 3) (by kernel_rfl) rfl rfl .n)) rfl rfl rfl
     · exact trip_pf (m := 39) rfl (.c (k := 2) (by kernel_rfl) rfl rfl .n) rfl rfl rfl
     ·
      intro a_ w_ R_ rest_ vs62 hm hs ht hx
      have hm0 := hm.mid
      replace hs := hs.lrn (ht 2 (twB_spec 39 _ (by kernel_rfl))) rfl rfl
      replace hs := hs.lrn (ht 5 (twB_spec 39 _ (by kernel_rfl))) rfl rfl
      have hs0 := hs.bare
      refine st_guardF hs rfl rfl rfl rfl rfl ?_; clear hs; intro a w hs
      exact wpList_nil ⟨rfl, _, _, hs0, (.c (.c .r)), hs, rfl⟩
     · exact trip_pf (m := 39) rfl (.c (k := 2) (by kernel_rfl) rfl rfl (.c (k := 4) (by kernel_rfl) rfl rfl (.c (k := 6) (by kernel_rfl) rfl rfl .n))) rfl rfl rfl
     · exact trip_pf (m := 39) rfl (.c (k := 2) (by kernel_rfl) rfl rfl (.c (k := 7) (by kernel_rfl) rfl rfl .n)) rfl rfl rfl
     · exact trip_pf (m := 39) rfl (.c (k := 2) (by kernel_rfl) rfl rfl (.c (k := 8) (by kernel_rfl) rfl rfl .n)) rfl rfl rfl
     · exact trip_pf (m := 39) rfl (.c (k := 2) (by kernel_rfl) rfl rfl .n) rfl rfl rfl
     · exact trip_pf (m := 39) rfl (.c (k := 2) (by kernel_rfl) rfl rfl (.c (k := 10) (by kernel_rfl) rfl rfl .n)) rfl rfl rfl
     ·
      intro a_ w_ R_ rest_ vs62 hm hs ht hx
      have hm0 := hm.mid
      replace hs := hs.lrn (ht 2 (twB_spec 39 _ (by kernel_rfl))) rfl rfl
      replace hs := hs.lrn (ht 9 (twB_spec 39 _ (by kernel_rfl))) rfl rfl
      replace hs := hs.lrn (ht 11 (twB_spec 39 _ (by kernel_rfl))) rfl rfl
      have hs0 := hs.bare
      refine st_guardF hs rfl rfl rfl rfl rfl ?_; clear hs; intro a w hs
      exact wpList_nil ⟨rfl, _, _, hs0, (.c (.c (.c .r))), hs, rfl⟩
     · exact trip_pv (m := 39) (.c (k := 2) (by kernel_rfl) rfl rfl (.c (k := 12) (by kernel_rfl) rfl rfl .n)) (fun hm0 hm hx => .n) (by kernel_rfl) (by kernel_rfl) rfl
     · exact trip_pv (m := 39) (.c (k := 13) (by kernel_rfl) rfl rfl .n) (fun hm0 hm hx => .n) (by kernel_rfl) (by kernel_rfl) rfl
     · exact trip_pg (m := 39) rfl (.c (k := 14) (by kernel_rfl) rfl rfl .n) rfl (fun hm0 hm hx => .n) (by kernel_rfl) (by kernel_rfl) rfl
     · exact trip_pg (m := 39) rfl (.c (k := 14) (by kernel_rfl) rfl rfl .n) rfl (fun hm0 hm hx => .n) (by kernel_rfl) (by kernel_rfl) rfl
     · exact trip_pg (m := 39) rfl (.c (k := 14) (by kernel_rfl) rfl rfl (.c (k := 16) (by kernel_rfl) rfl rfl .n)) rfl (fun hm0 hm hx => (.c (hm0.del (.s (.s .z))))) (by kernel_rfl) (by kernel_rfl) rfl
     · exact trip_pg (m := 39) rfl (.c (k := 14) (by kernel_rfl) rfl rfl (.c (k := 17) (by kernel_rfl) rfl rfl .n)) rfl (fun hm0 hm hx => .n) (by kernel_rfl) (by kernel_rfl) rfl
     ·
      intro a_ w_ R_ rest_ vs62 hm hs ht hx
      have hm0 := hm.mid
      replace hs := hs.lrn (ht 14 (twB_spec 39 _ (by kernel_rfl))) rfl rfl
      replace hs := hs.lrn (ht 15 (twB_spec 39 _ (by kernel_rfl))) rfl rfl
      replace hs := hs.lrn (ht 18 (twB_spec 39 _ (by kernel_rfl))) rfl rfl
      have hs0 := hs.bare
      refine st_guardT hs rfl rfl rfl ?_
      refine st_neb hs rfl rfl Try.underlying4 rfl ?_; clear hs; intro a w hs
      have hb_ : (!((false : Bool) == (!(((((dG ta ma la tb mb lb).l.getD j default)).k : Int) == 0)))) = false := by rw [hA']; rfl
      rw [hb_] at hs; clear hb_
      exact wpList_nil ⟨rfl, _, _, hs0, (.c (.c (.c .r))), hs, rfl⟩
     · exact trip_pv (m := 39) (.c (k := 14) (by kernel_rfl) rfl rfl (.c (k := 19) (by kernel_rfl) rfl rfl .n)) (fun hm0 hm hx => .n) (by kernel_rfl) (by kernel_rfl) rfl
     · exact trip_pv (m := 39) (.c (k := 20) (by kernel_rfl) rfl rfl .n) (fun hm0 hm hx => .n) (by kernel_rfl) (by kernel_rfl) rfl
     · exact trip_pg (m := 39) rfl (.c (k := 21) (by kernel_rfl) rfl rfl .n) rfl (fun hm0 hm hx => .n) (by kernel_rfl) (by kernel_rfl) rfl
     · exact trip_pg (m := 39) rfl (.c (k := 21) (by kernel_rfl) rfl rfl .n) rfl (fun hm0 hm hx => .n) (by kernel_rfl) (by kernel_rfl) rfl
     · exact trip_pg (m := 39) rfl (.c (k := 21) (by kernel_rfl) rfl rfl (.c (k := 23) (by kernel_rfl) rfl rfl .n)) rfl (fun hm0 hm hx => (.c (hm0.del (.s (.s .z))))) (by kernel_rfl) (by kernel_rfl) rfl
     · exact trip_pg (m := 39) rfl (.c (k := 21) (by kernel_rfl) rfl rfl (.c (k := 24) (by kernel_rfl) rfl rfl .n)) rfl (fun hm0 hm hx => .n) (by kernel_rfl) (by kernel_rfl) rfl
     ·
      intro a_ w_ R_ rest_ vs62 hm hs ht hx
      have hm0 := hm.mid
      replace hs := hs.lrn (ht 21 (twB_spec 39 _ (by kernel_rfl))) rfl rfl
      replace hs := hs.lrn (ht 22 (twB_spec 39 _ (by kernel_rfl))) rfl rfl
      replace hs := hs.lrn (ht 25 (twB_spec 39 _ (by kernel_rfl))) rfl rfl
      have hs0 := hs.bare
      refine st_guardT hs rfl rfl rfl ?_
      refine st_neb hs rfl rfl Try.underlying4 rfl ?_; clear hs; intro a w hs
      have hb_ : (!((true : Bool) == (!(((((dG ta ma la tb mb lb).l.getD j default)).k : Int) == 2)))) = false := by rw [hB']; rfl
      rw [hb_] at hs; clear hb_
      exact wpList_nil ⟨rfl, _, _, hs0, (.c (.c (.c .r))), hs, rfl⟩
     · exact trip_pv (m := 39) (.c (k := 21) (by kernel_rfl) rfl rfl (.c (k := 26) (by kernel_rfl) rfl rfl .n)) (fun hm0 hm hx => .n) (by kernel_rfl) (by kernel_rfl) rfl
     · exact trip_pv (m := 39) (.c (k := 27) (by kernel_rfl) rfl rfl .n) (fun hm0 hm hx => .n) (by kernel_rfl) (by kernel_rfl) rfl
     · exact trip_pg (m := 39) rfl (.c (k := 28) (by kernel_rfl) rfl rfl .n) rfl (fun hm0 hm hx => .n) (by kernel_rfl) (by kernel_rfl) rfl
     · exact trip_pg (m := 39) rfl (.c (k := 28) (by kernel_rfl) rfl rfl (.c (k := 29) (by kernel_rfl) rfl rfl .n)) rfl (fun hm0 hm hx => .n) (by kernel_rfl) (by kernel_rfl) rfl
     · exact trip_pf (m := 39) rfl (.c (k := 30) (by kernel_rfl) rfl rfl .n) rfl rfl rfl
     · exact trip_pg (m := 39) rfl (.c (k := 28) (by kernel_rfl) rfl rfl (.c (k := 30) (by kernel_rfl) rfl rfl (.c (k := 31) (by kernel_rfl) rfl rfl .n))) rfl (fun hm0 hm hx => .n) (by kernel_rfl) (by kernel_rfl) rfl
     · exact trip_pg (m := 39) rfl (.c (k := 28) (by kernel_rfl) rfl rfl (.c (k := 32) (by kernel_rfl) rfl rfl .n)) rfl (fun hm0 hm hx => .n) (by kernel_rfl) (by kernel_rfl) rfl
     · exact trip_pf (m := 39) rfl (.c (k := 33) (by kernel_rfl) rfl rfl .n) rfl rfl rfl
     · exact trip_pf (m := 39) rfl (.c (k := 33) (by kernel_rfl) rfl rfl .n) rfl rfl rfl
     ·
      intro a_ w_ R_ rest_ vs62 hm hs ht hx
      have hm0 := hm.mid
      replace hs := hs.lrn (ht 33 (twB_spec 39 _ (by kernel_rfl))) rfl rfl
      replace hs := hs.lrn (ht 34 (twB_spec 39 _ (by kernel_rfl))) rfl rfl
      replace hs := hs.lrn (ht 35 (twB_spec 39 _ (by kernel_rfl))) rfl rfl
      have hs0 := hs.bare
      refine st_guardF hs rfl rfl rfl rfl rfl ?_; clear hs; intro a w hs
      exact wpList_nil ⟨rfl, _, _, hs0, (.c (.c (.c .r))), hs, rfl⟩
     · exact trip_pg (m := 39) rfl (.c (k := 28) (by kernel_rfl) rfl rfl (.c (k := 33) (by kernel_rfl) rfl rfl (.c (k := 36) (by kernel_rfl) rfl rfl .n))) rfl (fun hm0 hm hx => .n) (by kernel_rfl) (by kernel_rfl) rfl
     exact trip_pv (m := 39) (.c (k := 28) (by kernel_rfl) rfl rfl (.c (k := 37) (by kernel_rfl) rfl rfl .n)) (fun hm0 hm hx => .n) (by kernel_rfl) (by kernel_rfl) rfl
    clear hs w a; intro a w vs62 hs hf
    replace hs : St _ _ _ _ [blk g51 [.int .i64 ((((eget ((((dG ta ma la tb mb lb).l.getD j default)).id) lb).getD entZ)).id), .int .i64 ((((eget ((((dG ta ma la tb mb lb).l.getD j default)).id) lb).getD entZ)).p0), .int .i64 ((((eget ((((dG ta ma la tb mb lb).l.getD j default)).id) lb).getD entZ)).p1), .int .i64 ((((eget ((((dG ta ma la tb mb lb).l.getD j default)).id) lb).getD entZ)).p2), .int .i64 ((((eget ((((dG ta ma la tb mb lb).l.getD j default)).id) lb).getD entZ)).v0), .int .i64 ((((eget ((((dG ta ma la tb mb lb).l.getD j default)).id) lb).getD entZ)).v1), .int .i64 ((((eget ((((dG ta ma la tb mb lb).l.getD j default)).id) lb).getD entZ)).v2), .int .u16 (((((((eget ((((dG ta ma la tb mb lb).l.getD j default)).id) lb).getD entZ)).a).toNat : Nat) : Int)), .int .u8 (((((((eget ((((dG ta ma la tb mb lb).l.getD j default)).id) lb).getD entZ)).g).toNat : Nat) : Int))] 47, blk g48 [.int .i64 ((((eget ((((dG ta ma la tb mb lb).l.getD j default)).id) la).getD entZ)).id), .int .i64 ((((eget ((((dG ta ma la tb mb lb).l.getD j default)).id) la).getD entZ)).p0), .int .i64 ((((eget ((((dG ta ma la tb mb lb).l.getD j default)).id) la).getD entZ)).p1), .int .i64 ((((eget ((((dG ta ma la tb mb lb).l.getD j default)).id) la).getD entZ)).p2), .int .i64 ((((eget ((((dG ta ma la tb mb lb).l.getD j default)).id) la).getD entZ)).v0), .int .i64 ((((eget ((((dG ta ma la tb mb lb).l.getD j default)).id) la).getD entZ)).v1), .int .i64 ((((eget ((((dG ta ma la tb mb lb).l.getD j default)).id) la).getD entZ)).v2), .int .u16 (((((((eget ((((dG ta ma la tb mb lb).l.getD j default)).id) la).getD entZ)).a).toNat : Nat) : Int)), .int .u8 (((((((eget ((((dG ta ma la tb mb lb).l.getD j default)).id) la).getD entZ)).g).toNat : Nat) : Int))] 47, blk g45 [.int .i64 ((((dG ta ma la tb mb lb).l.getD j default)).k), .int .i64 ((((dG ta ma la tb mb lb).l.getD j default)).id), .int .i64 ((((dG ta ma la tb mb lb).l.getD j default)).p0), .int .i64 ((((dG ta ma la tb mb lb).l.getD j default)).p1), .int .i64 ((((dG ta ma la tb mb lb).l.getD j default)).p2), .int .i64 ((((dG ta ma la tb mb lb).l.getD j default)).v0), .int .i64 ((((dG ta ma la tb mb lb).l.getD j default)).v1), .int .i64 ((((dG ta ma la tb mb lb).l.getD j default)).v2), .int .u16 (((((((dG ta ma la tb mb lb).l.getD j default)).a).toNat : Nat) : Int))] 45, mpr g31 (bkv (((dG ta ma la tb mb lb).l.take j))), row v15 45 9 ((dG ta ma la tb mb lb).l.length) (((dG ta ma la tb mb lb).l.flatMap recV)), blk g17 [.int .i64 ((dG ta ma la tb mb lb).t), .int .i64 ((dG ta ma la tb mb lb).tm), .int .i64 ((dG ta ma la tb mb lb).b), v15] 27, blk g4 [.int .i64 (tb), .int .i64 (mb), ub] 24, blk g3 [.int .i64 (ta), .int .i64 (ma), ua] 24] _ _ := hs
    obtain ⟨e38, q38⟩ := hf 38 (by decide)
    replace e38 : _ = some (vs62 38) := e38.val rfl
    rw [show vs62 38 = .bool (false) from q38] at e38
    replace hs := hs.learn e38; clear e38 q38
    clear hf
    refine then_n (hK55 _ _ ?_)
    refine wp_cond_false (hs.ev rfl) ?_
    refine wp_skip ?_
    refine then_n (hK53 _ _ ?_)
    refine wp_region_lit ?_
    refine st_run 3 [(126, .int .i64 ((((dG ta ma la tb mb lb).l.getD j default)).id)), (125, .pointer (some ⟨g45, 1, none⟩)), (124, .map (some g31))] hs (.c (hs.mem.del (.s (.s .z))) .n) (by kernel_rfl) (by kernel_rfl) (by kernel_rfl) ?_; clear hs a; intro a hs
    refine st_updB (l' := ((dG ta ma la tb mb lb).l.take (j + 1))) hs rfl rfl rfl (.s (.s (.s .z))) (bkv_next hS (by omega)) Try.underlying53 Try.underlying3 ?_; clear hs w a; intro a w hs
    refine wpList_nil ?_
    refine in_n ?_
    refine then_n (hK42 _ _ ?_)
    refine wp_region_lit ?_
    refine st_addR hs rfl rfl (by omega) rfl ?_; clear hs w a; intro a w hs
    refine st_mv hs rfl rfl ?_; clear hs w a; intro a w hs
    refine wpList_nil ?_
    refine then_n ?_
    replace hs := hs.drop (.c (.s (.s (.s .z))) (.c (.s (.s .z)) (.c (.s .z) .n)))
    refine ⟨_, ?_, j + 1, rfl, hs.sub (.c rfl (.c rfl (.c rfl (.c rfl (.c rfl (.c rfl (.c rfl .n))))))), by omega⟩
    omega
   replace ci := Bool.eq_false_iff.2 ci; rw [ci] at hs
   have hB' : (!((((dG ta ma la tb mb lb).l.getD j default).k : Int) == 2)) = false := by rw [← told_b (hT _ (rs_mem (by omega)))]; exact ci
   replace hs := hs.sub (F' := [(13, .bool (false)), (12, .pointer (some ⟨g51, 0, none⟩)), (84, .bool (false)), (83, .agg #[.int .i64 ((((eget ((((dG ta ma la tb mb lb).l.getD j default)).id) lb).getD entZ)).id), .int .i64 ((((eget ((((dG ta ma la tb mb lb).l.getD j default)).id) lb).getD entZ)).p0), .int .i64 ((((eget ((((dG ta ma la tb mb lb).l.getD j default)).id) lb).getD entZ)).p1), .int .i64 ((((eget ((((dG ta ma la tb mb lb).l.getD j default)).id) lb).getD entZ)).p2), .int .i64 ((((eget ((((dG ta ma la tb mb lb).l.getD j default)).id) lb).getD entZ)).v0), .int .i64 ((((eget ((((dG ta ma la tb mb lb).l.getD j default)).id) lb).getD entZ)).v1), .int .i64 ((((eget ((((dG ta ma la tb mb lb).l.getD j default)).id) lb).getD entZ)).v2), .int .u16 (((((((eget ((((dG ta ma la tb mb lb).l.getD j default)).id) lb).getD entZ)).a).toNat : Nat) : Int)), .int .u8 (((((((eget ((((dG ta ma la tb mb lb).l.getD j default)).id) lb).getD entZ)).g).toNat : Nat) : Int))]), (78, .tuple #[.agg #[.int .i64 ((((eget ((((dG ta ma la tb mb lb).l.getD j default)).id) lb).getD entZ)).id), .int .i64 ((((eget ((((dG ta ma la tb mb lb).l.getD j default)).id) lb).getD entZ)).p0), .int .i64 ((((eget ((((dG ta ma la tb mb lb).l.getD j default)).id) lb).getD entZ)).p1), .int .i64 ((((eget ((((dG ta ma la tb mb lb).l.getD j default)).id) lb).getD entZ)).p2), .int .i64 ((((eget ((((dG ta ma la tb mb lb).l.getD j default)).id) lb).getD entZ)).v0), .int .i64 ((((eget ((((dG ta ma la tb mb lb).l.getD j default)).id) lb).getD entZ)).v1), .int .i64 ((((eget ((((dG ta ma la tb mb lb).l.getD j default)).id) lb).getD entZ)).v2), .int .u16 (((((((eget ((((dG ta ma la tb mb lb).l.getD j default)).id) lb).getD entZ)).a).toNat : Nat) : Int)), .int .u8 (((((((eget ((((dG ta ma la tb mb lb).l.getD j default)).id) lb).getD entZ)).g).toNat : Nat) : Int))], .bool (false)]), (82, .tuple #[.agg #[.int .i64 ((((eget ((((dG ta ma la tb mb lb).l.getD j default)).id) lb).getD entZ)).id), .int .i64 ((((eget ((((dG ta ma la tb mb lb).l.getD j default)).id) lb).getD entZ)).p0), .int .i64 ((((eget ((((dG ta ma la tb mb lb).l.getD j default)).id) lb).getD entZ)).p1), .int .i64 ((((eget ((((dG ta ma la tb mb lb).l.getD j default)).id) lb).getD entZ)).p2), .int .i64 ((((eget ((((dG ta ma la tb mb lb).l.getD j default)).id) lb).getD entZ)).v0), .int .i64 ((((eget ((((dG ta ma la tb mb lb).l.getD j default)).id) lb).getD entZ)).v1), .int .i64 ((((eget ((((dG ta ma la tb mb lb).l.getD j default)).id) lb).getD entZ)).v2), .int .u16 (((((((eget ((((dG ta ma la tb mb lb).l.getD j default)).id) lb).getD entZ)).a).toNat : Nat) : Int)), .int .u8 (((((((eget ((((dG ta ma la tb mb lb).l.getD j default)).id) lb).getD entZ)).g).toNat : Nat) : Int))], .bool (false)]), (81, .int .i64 ((((dG ta ma la tb mb lb).l.getD j default)).id)), (80, .pointer (some ⟨g45, 1, none⟩)), (79, .agg #[.int .i64 (tb), .int .i64 (mb), ub]), (11, .bool (false)), (10, .pointer (some ⟨g48, 0, none⟩)), (77, .bool (false)), (76, .agg #[.int .i64 ((((eget ((((dG ta ma la tb mb lb).l.getD j default)).id) la).getD entZ)).id), .int .i64 ((((eget ((((dG ta ma la tb mb lb).l.getD j default)).id) la).getD entZ)).p0), .int .i64 ((((eget ((((dG ta ma la tb mb lb).l.getD j default)).id) la).getD entZ)).p1), .int .i64 ((((eget ((((dG ta ma la tb mb lb).l.getD j default)).id) la).getD entZ)).p2), .int .i64 ((((eget ((((dG ta ma la tb mb lb).l.getD j default)).id) la).getD entZ)).v0), .int .i64 ((((eget ((((dG ta ma la tb mb lb).l.getD j default)).id) la).getD entZ)).v1), .int .i64 ((((eget ((((dG ta ma la tb mb lb).l.getD j default)).id) la).getD entZ)).v2), .int .u16 (((((((eget ((((dG ta ma la tb mb lb).l.getD j default)).id) la).getD entZ)).a).toNat : Nat) : Int)), .int .u8 (((((((eget ((((dG ta ma la tb mb lb).l.getD j default)).id) la).getD entZ)).g).toNat : Nat) : Int))]), (71, .tuple #[.agg #[.int .i64 ((((eget ((((dG ta ma la tb mb lb).l.getD j default)).id) la).getD entZ)).id), .int .i64 ((((eget ((((dG ta ma la tb mb lb).l.getD j default)).id) la).getD entZ)).p0), .int .i64 ((((eget ((((dG ta ma la tb mb lb).l.getD j default)).id) la).getD entZ)).p1), .int .i64 ((((eget ((((dG ta ma la tb mb lb).l.getD j default)).id) la).getD entZ)).p2), .int .i64 ((((eget ((((dG ta ma la tb mb lb).l.getD j default)).id) la).getD entZ)).v0), .int .i64 ((((eget ((((dG ta ma la tb mb lb).l.getD j default)).id) la).getD entZ)).v1), .int .i64 ((((eget ((((dG ta ma la tb mb lb).l.getD j default)).id) la).getD entZ)).v2), .int .u16 (((((((eget ((((dG ta ma la tb mb lb).l.getD j default)).id) la).getD entZ)).a).toNat : Nat) : Int)), .int .u8 (((((((eget ((((dG ta ma la tb mb lb).l.getD j default)).id) la).getD entZ)).g).toNat : Nat) : Int))], .bool (false)]), (75, .tuple #[.agg #[.int .i64 ((((eget ((((dG ta ma la tb mb lb).l.getD j default)).id) la).getD entZ)).id), .int .i64 ((((eget ((((dG ta ma la tb mb lb).l.getD j default)).id) la).getD entZ)).p0), .int .i64 ((((eget ((((dG ta ma la tb mb lb).l.getD j default)).id) la).getD entZ)).p1), .int .i64 ((((eget ((((dG ta ma la tb mb lb).l.getD j default)).id) la).getD entZ)).p2), .int .i64 ((((eget ((((dG ta ma la tb mb lb).l.getD j default)).id) la).getD entZ)).v0), .int .i64 ((((eget ((((dG ta ma la tb mb lb).l.getD j default)).id) la).getD entZ)).v1), .int .i64 ((((eget ((((dG ta ma la tb mb lb).l.getD j default)).id) la).getD entZ)).v2), .int .u16 (((((((eget ((((dG ta ma la tb mb lb).l.getD j default)).id) la).getD entZ)).a).toNat : Nat) : Int)), .int .u8 (((((((eget ((((dG ta ma la tb mb lb).l.getD j default)).id) la).getD entZ)).g).toNat : Nat) : Int))], .bool (false)]), (74, .int .i64 ((((dG ta ma la tb mb lb).l.getD j default)).id)), (73, .pointer (some ⟨g45, 1, none⟩)), (72, .agg #[.int .i64 (ta), .int .i64 (ma), ua]), (8, .int .i64 ((j : Int))), (9, .pointer (some ⟨g45, 0, none⟩)), (70, .agg #[.int .i64 ((((dG ta ma la tb mb lb).l.getD j default)).k), .int .i64 ((((dG ta ma la tb mb lb).l.getD j default)).id), .int .i64 ((((dG ta ma la tb mb lb).l.getD j default)).p0), .int .i64 ((((dG ta ma la tb mb lb).l.getD j default)).p1), .int .i64 ((((dG ta ma la tb mb lb).l.getD j default)).p2), .int .i64 ((((dG ta ma la tb mb lb).l.getD j default)).v0), .int .i64 ((((dG ta ma la tb mb lb).l.getD j default)).v1), .int .i64 ((((dG ta ma la tb mb lb).l.getD j default)).v2), .int .u16 (((((((dG ta ma la tb mb lb).l.getD j default)).a).toNat : Nat) : Int))]), (69, .pointer (some (adr v15 (j * 9)))), (68, .int .i64 ((j : Int))), (67, .bool (decide ((j : Int) < ((((dG ta ma la tb mb lb).l.length : Nat) : Int))))), (2, .pointer (some ⟨g3, 0, none⟩)), (3, .pointer (some ⟨g4, 0, none⟩)), (5, .pointer (some ⟨g17, 0, none⟩)), (7, .map (some g31)), (64, v15), (65, .int .i64 ((((dG ta ma la tb mb lb).l.length : Nat) : Int))), (66, .int .i64 ((j : Int)))]) (.c rfl (.c rfl (.c rfl (.c rfl (.c rfl (.c rfl (.c rfl (.c rfl (.c rfl (.c rfl (.c rfl (.c rfl (.c rfl (.c rfl (.c rfl (.c rfl (.c rfl (.c rfl (.c rfl (.c rfl (.c rfl (.c rfl (.c rfl (.c rfl (.c rfl (.c rfl (.c rfl (.c rfl (.c rfl (.c rfl (.c rfl .n)))))))))))))))))))))))))))))))
   refine wp_drawG (M0 := [blk g51 [.int .i64 ((((eget ((((dG ta ma la tb mb lb).l.getD j default)).id) lb).getD entZ)).id), .int .i64 ((((eget ((((dG ta ma la tb mb lb).l.getD j default)).id) lb).getD entZ)).p0), .int .i64 ((((eget ((((dG ta ma la tb mb lb).l.getD j default)).id) lb).getD entZ)).p1), .int .i64 ((((eget ((((dG ta ma la tb mb lb).l.getD j default)).id) lb).getD entZ)).p2), .int .i64 ((((eget ((((dG ta ma la tb mb lb).l.getD j default)).id) lb).getD entZ)).v0), .int .i64 ((((eget ((((dG ta ma la tb mb lb).l.getD j default)).id) lb).getD entZ)).v1), .int .i64 ((((eget ((((dG ta ma la tb mb lb).l.getD j default)).id) lb).getD entZ)).v2), .int .u16 (((((((eget ((((dG ta ma la tb mb lb).l.getD j default)).id) lb).getD entZ)).a).toNat : Nat) : Int)), .int .u8 (((((((eget ((((dG ta ma la tb mb lb).l.getD j default)).id) lb).getD entZ)).g).toNat : Nat) : Int))] 47, blk g48 [.int .i64 ((((eget ((((dG ta ma la tb mb lb).l.getD j default)).id) la).getD entZ)).id), .int .i64 ((((eget ((((dG ta ma la tb mb lb).l.getD j default)).id) la).getD entZ)).p0), .int .i64 ((((eget ((((dG ta ma la tb mb lb).l.getD j default)).id) la).getD entZ)).p1), .int .i64 ((((eget ((((dG ta ma la tb mb lb).l.getD j default)).id) la).getD entZ)).p2), .int .i64 ((((eget ((((dG ta ma la tb mb lb).l.getD j default)).id) la).getD entZ)).v0), .int .i64 ((((eget ((((dG ta ma la tb mb lb).l.getD j default)).id) la).getD entZ)).v1), .int .i64 ((((eget ((((dG ta ma la tb mb lb).l.getD j default)).id) la).getD entZ)).v2), .int .u16 (((((((eget ((((dG ta ma la tb mb lb).l.getD j default)).id) la).getD entZ)).a).toNat : Nat) : Int)), .int .u8 (((((((eget ((((dG ta ma la tb mb lb).l.getD j default)).id) la).getD entZ)).g).toNat : Nat) : Int))] 47, blk g45 [.int .i64 ((((dG ta ma la tb mb lb).l.getD j default)).k), .int .i64 ((((dG ta ma la tb mb lb).l.getD j default)).id), .int .i64 ((((dG ta ma la tb mb lb).l.getD j default)).p0), .int .i64 ((((dG ta ma la tb mb lb).l.getD j default)).p1), .int .i64 ((((dG ta ma la tb mb lb).l.getD j default)).p2), .int .i64 ((((dG ta ma la tb mb lb).l.getD j default)).v0), .int .i64 ((((dG ta ma la tb mb lb).l.getD j default)).v1), .int .i64 ((((dG ta ma la tb mb lb).l.getD j default)).v2), .int .u16 (((((((dG ta ma la tb mb lb).l.getD j default)).a).toNat : Nat) : Int))] 45, mpr g31 (bkv (((dG ta ma la tb mb lb).l.take j))), row v15 45 9 ((dG ta ma la tb mb lb).l.length) (((dG ta ma la tb mb lb).l.flatMap recV)), blk g17 [.int .i64 ((dG ta ma la tb mb lb).t), .int .i64 ((dG ta ma la tb mb lb).tm), .int .i64 ((dG ta ma la tb mb lb).b), v15] 27, blk g4 [.int .i64 (tb), .int .i64 (mb), ub] 24, blk g3 [.int .i64 (ta), .int .i64 (ma), ua] 24]) (Ds := [Pv 0 (.int .i64 ((j : Int))), Pv 1 (.bool (false)), Pv 2 (.bool (false)), Pv 3 undef, Pv 4 undef, Pv 5 undef, Pv 6 undef, Pv 7 undef, Pv 8 undef, Pv 9 undef, Pv 10 undef, Pv 11 undef, Pv 12 undef, Pv 13 (.bool (false)), Pv 14 (.bool (false)), Pv 15 (.bool (false)), Pv 16 (.pointer (some ⟨g45, 0, none⟩)), Pv 17 (.int .i64 ((((dG ta ma la tb mb lb).l.getD j default)).k)), Pv 18 (.bool (!(((((dG ta ma la tb mb lb).l.getD j default)).k : Int) == 0))), Pv 19 (.bool (false)), Pv 20 (.bool (false)), Pv 21 (.bool (false)), Pv 22 (.bool (false)), Pv 23 (.pointer (some ⟨g45, 0, none⟩)), Pv 24 (.int .i64 ((((dG ta ma la tb mb lb).l.getD j default)).k)), Pv 25 (.bool (!(((((dG ta ma la tb mb lb).l.getD j default)).k : Int) == 2))), Pv 26 (.bool (false)), Pv 27 (.bool (false)), Pv 28 (.bool (false)), Pv 29 (.bool (false)), Pv 30 (.bool (false)), Pv 31 undef, Pv 32 (.bool (false)), Pv 33 (.bool (false)), Pv 34 undef, Pv 35 undef, Pv 36 undef, Pv 37 (.bool (false)), Pv 38 (.bool (false))]) (by kernel_rfl) hs rfl .n (by kernel_rfl) (by kernel_rfl) (by kernel_rfl) ?_ ?_
   ·
    refine (.c ?_ (.c ?_ (.c ?_ (.c ?_ (.c ?_ (.c ?_ (.c ?_ (.c ?_ (.c ?_ (.c ?_ (.c ?_ (.c ?_ (.c ?_ (.c ?_ (.c ?_ (.c ?_ (.c ?_ (.c ?_ (.c ?_ (.c ?_ (.c ?_ (.c ?_ (.c ?_ (.c ?_ (.c ?_ (.c ?_ (.c ?_ (.c ?_ (.c ?_ (.c ?_ (.c ?_ (.c ?_ (.c ?_ (.c ?_ (.c ?_ (.c ?_ (.c ?_ (.c ?_ (.c ?_ .n)))))))))))))))))))))))))))))))))))))))
    · exact trip_pv (m := 39) .n (fun hm0 hm hx => .n) (by kernel_rfl) (by kernel_rfl) rfl
    ·
     intro a_ w_ R_ rest_ vs63 hm hs ht hx
     have hm0 := hm.mid
     replace hs := hs.lrn (ht 0 (twB_spec 39 _ (by kernel_rfl))) rfl rfl
     have hs0 := hs.bare
     refine st_gtr hs rfl rfl rfl ?_; clear hs; intro a w hs
     have hb_ : (decide (0 < (j : Int))) = false := decide_eq_false (by omega)
     rw [hb_] at hs; clear hb_
     exact wpList_nil ⟨rfl, _, _, hs0, (.c .r), hs, rfl⟩
    · exact trip_pv (m := 39) (.c (k := 1) (by kernel_rfl) rfl rfl .n) (fun hm0 hm hx => .n) (by kernel_rfl) (by kernel_rfl) rfl
    · exact trip_pf (m := 39) rfl (.c (k := 2) (by kernel_rfl) rfl rfl .n) rfl rfl rfl
    · exact trip_pf (m := 39) rfl (.c (k := 2) (by kernel_rfl) rfl rfl (.c (k := 3) (by kernel_rfl) rfl rfl .n)) rfl rfl rfl
    · exact trip_pf (m := 39) rfl (.c (k := 2) (by kernel_rfl) rfl rfl .n) rfl rfl rfl
    ·
     intro a_ w_ R_ rest_ vs63 hm hs ht hx
     have hm0 := hm.mid
     replace hs := hs.lrn (ht 2 (twB_spec 39 _ (by kernel_rfl))) rfl rfl
     replace hs := hs.lrn (ht 5 (twB_spec 39 _ (by kernel_rfl))) rfl rfl
     have hs0 := hs.bare
     refine st_guardF hs rfl rfl rfl rfl rfl ?_; clear hs; intro a w hs
     exact wpList_nil ⟨rfl, _, _, hs0, (.c (.c .r)), hs, rfl⟩
    · exact trip_pf (m := 39) rfl (.c (k := 2) (by kernel_rfl) rfl rfl (.c (k := 4) (by kernel_rfl) rfl rfl (.c (k := 6) (by kernel_rfl) rfl rfl .n))) rfl rfl rfl
    · exact trip_pf (m := 39) rfl (.c (k := 2) (by kernel_rfl) rfl rfl (.c (k := 7) (by kernel_rfl) rfl rfl .n)) rfl rfl rfl
    · exact trip_pf (m := 39) rfl (.c (k := 2) (by kernel_rfl) rfl rfl (.c (k := 8) (by kernel_rfl) rfl rfl .n)) rfl rfl rfl
    · exact trip_pf (m := 39) rfl (.c (k := 2) (by kernel_rfl) rfl rfl .n) rfl rfl rfl
    · exact trip_pf (m := 39) rfl (.c (k := 2) (by kernel_rfl) rfl rfl (.c (k := 10) (by kernel_rfl) rfl rfl .n)) rfl rfl rfl
    ·
     intro a_ w_ R_ rest_ vs63 hm hs ht hx
     have hm0 := hm.mid
     replace hs := hs.lrn (ht 2 (twB_spec 39 _ (by kernel_rfl))) rfl rfl
     replace hs := hs.lrn (ht 9 (twB_spec 39 _ (by kernel_rfl))) rfl rfl
     replace hs := hs.lrn (ht 11 (twB_spec 39 _ (by kernel_rfl))) rfl rfl
     have hs0 := hs.bare
     refine st_guardF hs rfl rfl rfl rfl rfl ?_; clear hs; intro a w hs
     exact wpList_nil ⟨rfl, _, _, hs0, (.c (.c (.c .r))), hs, rfl⟩
    · exact trip_pv (m := 39) (.c (k := 2) (by kernel_rfl) rfl rfl (.c (k := 12) (by kernel_rfl) rfl rfl .n)) (fun hm0 hm hx => .n) (by kernel_rfl) (by kernel_rfl) rfl
    · exact trip_pv (m := 39) (.c (k := 13) (by kernel_rfl) rfl rfl .n) (fun hm0 hm hx => .n) (by kernel_rfl) (by kernel_rfl) rfl
    · exact trip_pg (m := 39) rfl (.c (k := 14) (by kernel_rfl) rfl rfl .n) rfl (fun hm0 hm hx => .n) (by kernel_rfl) (by kernel_rfl) rfl
    · exact trip_pg (m := 39) rfl (.c (k := 14) (by kernel_rfl) rfl rfl .n) rfl (fun hm0 hm hx => .n) (by kernel_rfl) (by kernel_rfl) rfl
    · exact trip_pg (m := 39) rfl (.c (k := 14) (by kernel_rfl) rfl rfl (.c (k := 16) (by kernel_rfl) rfl rfl .n)) rfl (fun hm0 hm hx => (.c (hm0.del (.s (.s .z))))) (by kernel_rfl) (by kernel_rfl) rfl
    · exact trip_pg (m := 39) rfl (.c (k := 14) (by kernel_rfl) rfl rfl (.c (k := 17) (by kernel_rfl) rfl rfl .n)) rfl (fun hm0 hm hx => .n) (by kernel_rfl) (by kernel_rfl) rfl
    ·
     intro a_ w_ R_ rest_ vs63 hm hs ht hx
     have hm0 := hm.mid
     replace hs := hs.lrn (ht 14 (twB_spec 39 _ (by kernel_rfl))) rfl rfl
     replace hs := hs.lrn (ht 15 (twB_spec 39 _ (by kernel_rfl))) rfl rfl
     replace hs := hs.lrn (ht 18 (twB_spec 39 _ (by kernel_rfl))) rfl rfl
     have hs0 := hs.bare
     refine st_guardT hs rfl rfl rfl ?_
     refine st_neb hs rfl rfl Try.underlying4 rfl ?_; clear hs; intro a w hs
     have hb_ : (!((false : Bool) == (!(((((dG ta ma la tb mb lb).l.getD j default)).k : Int) == 0)))) = false := by rw [hA']; rfl
     rw [hb_] at hs; clear hb_
     exact wpList_nil ⟨rfl, _, _, hs0, (.c (.c (.c .r))), hs, rfl⟩
    · exact trip_pv (m := 39) (.c (k := 14) (by kernel_rfl) rfl rfl (.c (k := 19) (by kernel_rfl) rfl rfl .n)) (fun hm0 hm hx => .n) (by kernel_rfl) (by kernel_rfl) rfl
    · exact trip_pv (m := 39) (.c (k := 20) (by kernel_rfl) rfl rfl .n) (fun hm0 hm hx => .n) (by kernel_rfl) (by kernel_rfl) rfl
    · exact trip_pg (m := 39) rfl (.c (k := 21) (by kernel_rfl) rfl rfl .n) rfl (fun hm0 hm hx => .n) (by kernel_rfl) (by kernel_rfl) rfl
    · exact trip_pg (m := 39) rfl (.c (k := 21) (by kernel_rfl) rfl rfl .n) rfl (fun hm0 hm hx => .n) (by kernel_rfl) (by kernel_rfl) rfl
    · exact trip_pg (m := 39) rfl (.c (k := 21) (by kernel_rfl) rfl rfl (.c (k := 23) (by kernel_rfl) rfl rfl .n)) rfl (fun hm0 hm hx => (.c (hm0.del (.s (.s .z))))) (by kernel_rfl) (by kernel_rfl) rfl
    · exact trip_pg (m := 39) rfl (.c (k := 21) (by kernel_rfl) rfl rfl (.c (k := 24) (by kernel_rfl) rfl rfl .n)) rfl (fun hm0 hm hx => .n) (by kernel_rfl) (by kernel_rfl) rfl
    ·
     intro a_ w_ R_ rest_ vs63 hm hs ht hx
     have hm0 := hm.mid
     replace hs := hs.lrn (ht 21 (twB_spec 39 _ (by kernel_rfl))) rfl rfl
     replace hs := hs.lrn (ht 22 (twB_spec 39 _ (by kernel_rfl))) rfl rfl
     replace hs := hs.lrn (ht 25 (twB_spec 39 _ (by kernel_rfl))) rfl rfl
     have hs0 := hs.bare
     refine st_guardT hs rfl rfl rfl ?_
     refine st_neb hs rfl rfl Try.underlying4 rfl ?_; clear hs; intro a w hs
     have hb_ : (!((false : Bool) == (!(((((dG ta ma la tb mb lb).l.getD j default)).k : Int) == 2)))) = false := by rw [hB']; rfl
     rw [hb_] at hs; clear hb_
     exact wpList_nil ⟨rfl, _, _, hs0, (.c (.c (.c .r))), hs, rfl⟩
    · exact trip_pv (m := 39) (.c (k := 21) (by kernel_rfl) rfl rfl (.c (k := 26) (by kernel_rfl) rfl rfl .n)) (fun hm0 hm hx => .n) (by kernel_rfl) (by kernel_rfl) rfl
    · exact trip_pv (m := 39) (.c (k := 27) (by kernel_rfl) rfl rfl .n) (fun hm0 hm hx => .n) (by kernel_rfl) (by kernel_rfl) rfl
    · exact trip_pg (m := 39) rfl (.c (k := 28) (by kernel_rfl) rfl rfl .n) rfl (fun hm0 hm hx => .n) (by kernel_rfl) (by kernel_rfl) rfl
    · exact trip_pg (m := 39) rfl (.c (k := 28) (by kernel_rfl) rfl rfl (.c (k := 29) (by kernel_rfl) rfl rfl .n)) rfl (fun hm0 hm hx => .n) (by kernel_rfl) (by kernel_rfl) rfl
    · exact trip_pf (m := 39) rfl (.c (k := 30) (by kernel_rfl) rfl rfl .n) rfl rfl rfl
    · exact trip_pg (m := 39) rfl (.c (k := 28) (by kernel_rfl) rfl rfl (.c (k := 30) (by kernel_rfl) rfl rfl (.c (k := 31) (by kernel_rfl) rfl rfl .n))) rfl (fun hm0 hm hx => .n) (by kernel_rfl) (by kernel_rfl) rfl
    · exact trip_pg (m := 39) rfl (.c (k := 28) (by kernel_rfl) rfl rfl (.c (k := 32) (by kernel_rfl) rfl rfl .n)) rfl (fun hm0 hm hx => .n) (by kernel_rfl) (by kernel_rfl) rfl
    · exact trip_pf (m := 39) rfl (.c (k := 33) (by kernel_rfl) rfl rfl .n) rfl rfl rfl
    · exact trip_pf (m := 39) rfl (.c (k := 33) (by kernel_rfl) rfl rfl .n) rfl rfl rfl
    ·
     intro a_ w_ R_ rest_ vs63 hm hs ht hx
     have hm0 := hm.mid
     replace hs := hs.lrn (ht 33 (twB_spec 39 _ (by kernel_rfl))) rfl rfl
     replace hs := hs.lrn (ht 34 (twB_spec 39 _ (by kernel_rfl))) rfl rfl
     replace hs := hs.lrn (ht 35 (twB_spec 39 _ (by kernel_rfl))) rfl rfl
     have hs0 := hs.bare
     refine st_guardF hs rfl rfl rfl rfl rfl ?_; clear hs; intro a w hs
     exact wpList_nil ⟨rfl, _, _, hs0, (.c (.c (.c .r))), hs, rfl⟩
    · exact trip_pg (m := 39) rfl (.c (k := 28) (by kernel_rfl) rfl rfl (.c (k := 33) (by kernel_rfl) rfl rfl (.c (k := 36) (by kernel_rfl) rfl rfl .n))) rfl (fun hm0 hm hx => .n) (by kernel_rfl) (by kernel_rfl) rfl
    exact trip_pv (m := 39) (.c (k := 28) (by kernel_rfl) rfl rfl (.c (k := 37) (by kernel_rfl) rfl rfl .n)) (fun hm0 hm hx => .n) (by kernel_rfl) (by kernel_rfl) rfl
   clear hs w a; intro a w vs63 hs hf
   replace hs : St _ _ _ _ [blk g51 [.int .i64 ((((eget ((((dG ta ma la tb mb lb).l.getD j default)).id) lb).getD entZ)).id), .int .i64 ((((eget ((((dG ta ma la tb mb lb).l.getD j default)).id) lb).getD entZ)).p0), .int .i64 ((((eget ((((dG ta ma la tb mb lb).l.getD j default)).id) lb).getD entZ)).p1), .int .i64 ((((eget ((((dG ta ma la tb mb lb).l.getD j default)).id) lb).getD entZ)).p2), .int .i64 ((((eget ((((dG ta ma la tb mb lb).l.getD j default)).id) lb).getD entZ)).v0), .int .i64 ((((eget ((((dG ta ma la tb mb lb).l.getD j default)).id) lb).getD entZ)).v1), .int .i64 ((((eget ((((dG ta ma la tb mb lb).l.getD j default)).id) lb).getD entZ)).v2), .int .u16 (((((((eget ((((dG ta ma la tb mb lb).l.getD j default)).id) lb).getD entZ)).a).toNat : Nat) : Int)), .int .u8 (((((((eget ((((dG ta ma la tb mb lb).l.getD j default)).id) lb).getD entZ)).g).toNat : Nat) : Int))] 47, blk g48 [.int .i64 ((((eget ((((dG ta ma la tb mb lb).l.getD j default)).id) la).getD entZ)).id), .int .i64 ((((eget ((((dG ta ma la tb mb lb).l.getD j default)).id) la).getD entZ)).p0), .int .i64 ((((eget ((((dG ta ma la tb mb lb).l.getD j default)).id) la).getD entZ)).p1), .int .i64 ((((eget ((((dG ta ma la tb mb lb).l.getD j default)).id) la).getD entZ)).p2), .int .i64 ((((eget ((((dG ta ma la tb mb lb).l.getD j default)).id) la).getD entZ)).v0), .int .i64 ((((eget ((((dG ta ma la tb mb lb).l.getD j default)).id) la).getD entZ)).v1), .int .i64 ((((eget ((((dG ta ma la tb mb lb).l.getD j default)).id) la).getD entZ)).v2), .int .u16 (((((((eget ((((dG ta ma la tb mb lb).l.getD j default)).id) la).getD entZ)).a).toNat : Nat) : Int)), .int .u8 (((((((eget ((((dG ta ma la tb mb lb).l.getD j default)).id) la).getD entZ)).g).toNat : Nat) : Int))] 47, blk g45 [.int .i64 ((((dG ta ma la tb mb lb).l.getD j default)).k), .int .i64 ((((dG ta ma la tb mb lb).l.getD j default)).id), .int .i64 ((((dG ta ma la tb mb lb).l.getD j default)).p0), .int .i64 ((((dG ta ma la tb mb lb).l.getD j default)).p1), .int .i64 ((((dG ta ma la tb mb lb).l.getD j default)).p2), .int .i64 ((((dG ta ma la tb mb lb).l.getD j default)).v0), .int .i64 ((((dG ta ma la tb mb lb).l.getD j default)).v1), .int .i64 ((((dG ta ma la tb mb lb).l.getD j default)).v2), .int .u16 (((((((dG ta ma la tb mb lb).l.getD j default)).a).toNat : Nat) : Int))] 45, mpr g31 (bkv (((dG ta ma la tb mb lb).l.take j))), row v15 45 9 ((dG ta ma la tb mb lb).l.length) (((dG ta ma la tb mb lb).l.flatMap recV)), blk g17 [.int .i64 ((dG ta ma la tb mb lb).t), .int .i64 ((dG ta ma la tb mb lb).tm), .int .i64 ((dG ta ma la tb mb lb).b), v15] 27, blk g4 [.int .i64 (tb), .int .i64 (mb), ub] 24, blk g3 [.int .i64 (ta), .int .i64 (ma), ua] 24] _ _ := hs
   obtain ⟨e38, q38⟩ := hf 38 (by decide)
   replace e38 : _ = some (vs63 38) := e38.val rfl
   rw [show vs63 38 = .bool (false) from q38] at e38
   replace hs := hs.learn e38; clear e38 q38
   clear hf
   refine then_n (hK55 _ _ ?_)
   refine wp_cond_false (hs.ev rfl) ?_
   refine wp_skip ?_
   refine then_n (hK53 _ _ ?_)
   refine wp_region_lit ?_
   refine st_run 3 [(126, .int .i64 ((((dG ta ma la tb mb lb).l.getD j default)).id)), (125, .pointer (some ⟨g45, 1, none⟩)), (124, .map (some g31))] hs (.c (hs.mem.del (.s (.s .z))) .n) (by kernel_rfl) (by kernel_rfl) (by kernel_rfl) ?_; clear hs a; intro a hs
   refine st_updB (l' := ((dG ta ma la tb mb lb).l.take (j + 1))) hs rfl rfl rfl (.s (.s (.s .z))) (bkv_next hS (by omega)) Try.underlying53 Try.underlying3 ?_; clear hs w a; intro a w hs
   refine wpList_nil ?_
   refine in_n ?_
   refine then_n (hK42 _ _ ?_)
   refine wp_region_lit ?_
   refine st_addR hs rfl rfl (by omega) rfl ?_; clear hs w a; intro a w hs
   refine st_mv hs rfl rfl ?_; clear hs w a; intro a w hs
   refine wpList_nil ?_
   refine then_n ?_
   replace hs := hs.drop (.c (.s (.s (.s .z))) (.c (.s (.s .z)) (.c (.s .z) .n)))
   refine ⟨_, ?_, j + 1, rfl, hs.sub (.c rfl (.c rfl (.c rfl (.c rfl (.c rfl (.c rfl (.c rfl .n))))))), by omega⟩
   omega
  replace hc40 := of_decide_eq_false hc40
  refine wp_exit ?_
  refine th_e ?_
  refine th_e ?_
  refine in_hit ?_
  refine then_n (hK33 _ _ ?_)
  refine wp_seq_k fun K64 hK65 => ?_
  refine wp_seq_k fun K66 hK67 => ?_
  refine wp_region_lit ?_
  refine st_run 2 [(129, ub)] hs (.c (hs.mem.del (.s (.s (.s .z)))) .n) (by kernel_rfl) (by kernel_rfl) (by kernel_rfl) ?_; clear hs a; intro a hs
  refine st_len hs rfl (hs.rd0 hcb).isSl Try.underlying22 rfl ?_; clear hs w a; intro a w hs
  refine st_mv hs rfl rfl ?_; clear hs w a; intro a w hs
  refine wpList_nil ?_
  refine then_n (hK67 _ _ ?_)
  refine wp_block ?_
  replace hs := hs.remapB (l' := (dG ta ma la tb mb lb).l) .z (List.take_of_length_le (by omega))
  replace hs := hs.drop (.c (.s (.s (.s .z))) (.c (.s (.s .z)) (.c (.s .z) .n)))
  refine wp_loopI (fun mm_ a w => ∃ i : Nat, mm_ = lb.length - i ∧ St 158 [(2, .pointer (some ⟨g3, 0, none⟩)), (7, .map (some g31)), (129, ub), (130, .int .i64 (((lb.length : Nat) : Int))), (131, .int .i64 ((i : Int)))] w0 [] [mpr g31 (bkv ((dG ta ma la tb mb lb).l)), blk g3 [.int .i64 (ta), .int .i64 (ma), ua] 24] a w ∧ i ≤ lb.length) ⟨0, rfl, hs.sub (.c rfl (.c rfl (.c rfl (.c rfl (.c rfl .n))))), by omega⟩ ?_
  clear hs w a; rintro mm_ a w ⟨i, rfl, hs, hI2_0⟩
  refine wp_seq_k fun K68 hK69 => ?_
  refine wp_region_lit ?_
  refine st_lss hs rfl rfl rfl ?_; clear hs w a; intro a w hs
  refine wpList_nil ?_
  refine then_n (hK69 _ _ ?_)
  refine wp_seq_k fun K70 hK71 => ?_
  refine wp_if hs rfl (fun hc72 => ?_) (fun hc72 => ?_)
  ·
   replace hc72 := of_decide_eq_true hc72
   refine wp_skip ?_
   refine then_n (hK71 _ _ ?_)
   refine wp_seq_k fun K73 hK74 => ?_
   refine wp_block ?_
   refine wp_seq_k fun K75 hK76 => ?_
   refine wp_region_lit ?_
   refine st_ia (j := i) hs rfl rfl (hs.rd0 hcb) rfl (by omega) Try.underlying22 Try.sizeOf47 rfl ?_; clear hs w a; intro a w hs
   refine st_ldA (cs := entV (lb.getD i default)) hs rfl (hs.rd0 hcb) (flat_get entV_len lb i (by omega)) (by rw [flat_len entV_len]; omega) (by omega) Try.isAgg47 Try.sizeOf47 rfl ?_; clear hs w a; intro a w hs
   refine st_alloc (cs := [.int .i64 (0), .int .i64 (0), .int .i64 (0), .int .i64 (0), .int .i64 (0), .int .i64 (0), .int .i64 (0), .int .u16 (0), .int .u8 (0)]) hs Try.zeroValue47 rfl rfl ?_; clear hs w a; intro g77 a w hs
   refine st_stBA hs rfl rfl .z (.z (.c (.c (.c (.c (.c (.c (.c (.c (.c .n)))))))))) (ones_c rfl (ones_c rfl (ones_c rfl (ones_c rfl (ones_c rfl (ones_c rfl (ones_c rfl (ones_c rfl (ones_c rfl ones_n))))))))) Try.sizeOf47 rfl ?_; clear hs w a; intro a w hs
   refine wpList_nil ?_
   refine then_n (hK76 _ _ ?_)
   refine wp_seq_k fun K78 hK79 => ?_
   refine wp_region_lit ?_
   refine st_run 3 [(138, .int .i64 ((lb.getD i default).id)), (137, .pointer (some ⟨g77, 0, none⟩)), (136, .agg #[.int .i64 (ta), .int .i64 (ma), ua])] hs (.c (hs.mem.del (.s (.s .z))) (.c (hs.mem.del .z) .n)) (by kernel_rfl) (by kernel_rfl) (by kernel_rfl) ?_; clear hs a; intro a hs
   refine st_callP (v := .tuple #[.agg #[.int .i64 ((((eget ((lb.getD i default).id) la).getD entZ)).id), .int .i64 ((((eget ((lb.getD i default).id) la).getD entZ)).p0), .int .i64 ((((eget ((lb.getD i default).id) la).getD entZ)).p1), .int .i64 ((((eget ((lb.getD i default).id) la).getD entZ)).p2), .int .i64 ((((eget ((lb.getD i default).id) la).getD entZ)).v0), .int .i64 ((((eget ((lb.getD i default).id) la).getD entZ)).v1), .int .i64 ((((eget ((lb.getD i default).id) la).getD entZ)).v2), .int .u16 (((((((eget ((lb.getD i default).id) la).getD entZ)).a).toNat : Nat) : Int)), .int .u8 (((((((eget ((lb.getD i default).id) la).getD entZ)).g).toNat : Nat) : Int))], .bool ((eget ((lb.getD i default).id) la).isSome)]) hs (.c rfl (.c rfl .n)) Try.call16 (find_ok ta ma _ la ((lb.getD i default).id) _ (hs.rd0 hca)) rfl ?_; clear hs w a; intro a w hs
   refine st_run 3 [(141, .bool ((eget ((lb.getD i default).id) la).isSome)), (140, .agg #[.int .i64 ((((eget ((lb.getD i default).id) la).getD entZ)).id), .int .i64 ((((eget ((lb.getD i default).id) la).getD entZ)).p0), .int .i64 ((((eget ((lb.getD i default).id) la).getD entZ)).p1), .int .i64 ((((eget ((lb.getD i default).id) la).getD entZ)).p2), .int .i64 ((((eget ((lb.getD i default).id) la).getD entZ)).v0), .int .i64 ((((eget ((lb.getD i default).id) la).getD entZ)).v1), .int .i64 ((((eget ((lb.getD i default).id) la).getD entZ)).v2), .int .u16 (((((((eget ((lb.getD i default).id) la).getD entZ)).a).toNat : Nat) : Int)), .int .u8 (((((((eget ((lb.getD i default).id) la).getD entZ)).g).toNat : Nat) : Int))]), (135, .tuple #[.agg #[.int .i64 ((((eget ((lb.getD i default).id) la).getD entZ)).id), .int .i64 ((((eget ((lb.getD i default).id) la).getD entZ)).p0), .int .i64 ((((eget ((lb.getD i default).id) la).getD entZ)).p1), .int .i64 ((((eget ((lb.getD i default).id) la).getD entZ)).p2), .int .i64 ((((eget ((lb.getD i default).id) la).getD entZ)).v0), .int .i64 ((((eget ((lb.getD i default).id) la).getD entZ)).v1), .int .i64 ((((eget ((lb.getD i default).id) la).getD entZ)).v2), .int .u16 (((((((eget ((lb.getD i default).id) la).getD entZ)).a).toNat : Nat) : Int)), .int .u8 (((((((eget ((lb.getD i default).id) la).getD entZ)).g).toNat : Nat) : Int))], .bool ((eget ((lb.getD i default).id) la).isSome)])] hs .n (by kernel_rfl) (by kernel_rfl) (by kernel_rfl) ?_; clear hs a; intro a hs
   refine st_alloc (cs := [.int .i64 (0), .int .i64 (0), .int .i64 (0), .int .i64 (0), .int .i64 (0), .int .i64 (0), .int .i64 (0), .int .u16 (0), .int .u8 (0)]) hs Try.zeroValue47 rfl rfl ?_; clear hs w a; intro g80 a w hs
   refine st_stBA hs rfl rfl .z (.z (.c (.c (.c (.c (.c (.c (.c (.c (.c .n)))))))))) (ones_c rfl (ones_c rfl (ones_c rfl (ones_c rfl (ones_c rfl (ones_c rfl (ones_c rfl (ones_c rfl (ones_c rfl ones_n))))))))) Try.sizeOf47 rfl ?_; clear hs w a; intro a w hs
   refine st_as hs rfl rfl ?_; clear hs w a; intro a w hs
   refine wpList_nil ?_
   refine then_n (hK79 _ _ ?_)
   refine wp_seq_k fun K81 hK82 => ?_
   refine wp_region_lit ?_
   refine st_run 3 [(144, .int .i64 ((lb.getD i default).id)), (143, .pointer (some ⟨g77, 0, none⟩)), (142, .map (some g31))] hs (.c (hs.mem.del (.s .z)) .n) (by kernel_rfl) (by kernel_rfl) (by kernel_rfl) ?_; clear hs a; intro a hs
   refine st_lookB hs rfl rfl (.s (.s .z)) Try.underlying53 Try.underlying3 Try.zeroValue4 rfl ?_; clear hs w a; intro a w hs
   refine st_run 2 [(147, .bool (!(((dG ta ma la tb mb lb).l).any fun r => r.id == ((lb.getD i default).id)))), (146, .bool (!(((dG ta ma la tb mb lb).l).any fun r => r.id == ((lb.getD i default).id))))] hs .n (by kernel_rfl) (by kernel_rfl) (by kernel_rfl) ?_; clear hs a; intro a hs
   refine st_part (b := !(((dG ta ma la tb mb lb).l).any fun r => r.id == ((lb.getD i default).id))) (fun hc83 => ?_) (fun hc83 => ?_)
   ·
    rw [hc83] at hs
    replace hc83 := not_t hc83
    refine st_run 2 [(149, .bool (!((eget ((lb.getD i default).id) la).isSome))), (148, .bool ((eget ((lb.getD i default).id) la).isSome))] hs .n (by kernel_rfl) (by kernel_rfl) (by kernel_rfl) ?_; clear hs a; intro a hs
    have hb_ : (!((eget ((lb.getD i default).id) la).isSome)) = false := by rw [(told_has hB hUa (es_mem (by omega)) (by assumption : ((dG ta ma la tb mb lb).l.any fun r => r.id == (lb.getD i default).id) = false))]; rfl
    rw [hb_] at hs; clear hb_
    refine st_run 3 [(152, .agg #[.int .i64 ((((eget ((lb.getD i default).id) la).getD entZ)).id), .int .i64 ((((eget ((lb.getD i default).id) la).getD entZ)).p0), .int .i64 ((((eget ((lb.getD i default).id) la).getD entZ)).p1), .int .i64 ((((eget ((lb.getD i default).id) la).getD entZ)).p2), .int .i64 ((((eget ((lb.getD i default).id) la).getD entZ)).v0), .int .i64 ((((eget ((lb.getD i default).id) la).getD entZ)).v1), .int .i64 ((((eget ((lb.getD i default).id) la).getD entZ)).v2), .int .u16 (((((((eget ((lb.getD i default).id) la).getD entZ)).a).toNat : Nat) : Int)), .int .u8 (((((((eget ((lb.getD i default).id) la).getD entZ)).g).toNat : Nat) : Int))]), (151, .agg #[.int .i64 ((lb.getD i default).id), .int .i64 ((lb.getD i default).p0), .int .i64 ((lb.getD i default).p1), .int .i64 ((lb.getD i default).p2), .int .i64 ((lb.getD i default).v0), .int .i64 ((lb.getD i default).v1), .int .i64 ((lb.getD i default).v2), .int .u16 (((((lb.getD i default).a).toNat : Nat) : Int)), .int .u8 (((((lb.getD i default).g).toNat : Nat) : Int))]), (150, .bool (false))] hs (.c (hs.mem.del (.s .z)) (.c (hs.mem.del .z) .n)) (by kernel_rfl) (by kernel_rfl) (by kernel_rfl) ?_; clear hs a; intro a hs
    refine st_guardT hs rfl rfl rfl ?_
    refine st_neqF (xs := [.int .i64 ((lb.getD i default).id), .int .i64 ((lb.getD i default).p0), .int .i64 ((lb.getD i default).p1), .int .i64 ((lb.getD i default).p2), .int .i64 ((lb.getD i default).v0), .int .i64 ((lb.getD i default).v1), .int .i64 ((lb.getD i default).v2), .int .u16 (((((lb.getD i default).a).toNat : Nat) : Int)), .int .u8 (((((lb.getD i default).g).toNat : Nat) : Int))]) (ys := [.int .i64 ((((eget ((lb.getD i default).id) la).getD entZ)).id), .int .i64 ((((eget ((lb.getD i default).id) la).getD entZ)).p0), .int .i64 ((((eget ((lb.getD i default).id) la).getD entZ)).p1), .int .i64 ((((eget ((lb.getD i default).id) la).getD entZ)).p2), .int .i64 ((((eget ((lb.getD i default).id) la).getD entZ)).v0), .int .i64 ((((eget ((lb.getD i default).id) la).getD entZ)).v1), .int .i64 ((((eget ((lb.getD i default).id) la).getD entZ)).v2), .int .u16 (((((((eget ((lb.getD i default).id) la).getD entZ)).a).toNat : Nat) : Int)), .int .u8 (((((((eget ((lb.getD i default).id) la).getD entZ)).g).toNat : Nat) : Int))]) (ks := [.i .i64, .i .i64, .i .i64, .i .i64, .i .i64, .i .i64, .i .i64, .i .u16, .i .u8]) 6 hs rfl rfl (by kernel_rfl) (by kernel_rfl) (by kernel_rfl) (by decide) (.i (.i (.i (.i (.i (.i (.i (.i (.i .n))))))))) (.i (.i (.i (.i (.i (.i (.i (.i (.i .n))))))))) rfl ?_; clear hs w a; intro a w hs
    have hb_ : (!(eqCells [.int .i64 ((lb.getD i default).id), .int .i64 ((lb.getD i default).p0), .int .i64 ((lb.getD i default).p1), .int .i64 ((lb.getD i default).p2), .int .i64 ((lb.getD i default).v0), .int .i64 ((lb.getD i default).v1), .int .i64 ((lb.getD i default).v2), .int .u16 (((((lb.getD i default).a).toNat : Nat) : Int)), .int .u8 (((((lb.getD i default).g).toNat : Nat) : Int))] [.int .i64 ((((eget ((lb.getD i default).id) la).getD entZ)).id), .int .i64 ((((eget ((lb.getD i default).id) la).getD entZ)).p0), .int .i64 ((((eget ((lb.getD i default).id) la).getD entZ)).p1), .int .i64 ((((eget ((lb.getD i default).id) la).getD entZ)).p2), .int .i64 ((((eget ((lb.getD i default).id) la).getD entZ)).v0), .int .i64 ((((eget ((lb.getD i default).id) la).getD entZ)).v1), .int .i64 ((((eget ((lb.getD i default).id) la).getD entZ)).v2), .int .u16 (((((((eget ((lb.getD i default).id) la).getD entZ)).a).toNat : Nat) : Int)), .int .u8 (((((((eget ((lb.getD i default).id) la).getD entZ)).g).toNat : Nat) : Int))])) = false := by rw [(told_has hB hUa (es_mem (by omega)) (by assumption : ((dG ta ma la tb mb lb).l.any fun r => r.id == (lb.getD i default).id) = false))]; exact congrArg (!·) (entV_eq.2 rfl)
    rw [hb_] at hs; clear hb_
    refine st_run 2 [(155, .bool (false)), (154, .bool (false))] hs .n (by kernel_rfl) (by kernel_rfl) (by kernel_rfl) ?_; clear hs a; intro a hs
    refine wpList_nil ?_
    refine then_n (hK82 _ _ ?_)
    refine wp_cond_false (hs.ev rfl) ?_
    refine wp_skip ?_
    refine in_n ?_
    refine then_n (hK74 _ _ ?_)
    refine wp_region_lit ?_
    refine st_addR hs rfl rfl (by omega) rfl ?_; clear hs w a; intro a w hs
    refine st_mv hs rfl rfl ?_; clear hs w a; intro a w hs
    refine wpList_nil ?_
    refine then_n ?_
    replace hs := hs.drop (.c (.s .z) (.c .z .n))
    refine ⟨_, ?_, i + 1, rfl, hs.sub (.c rfl (.c rfl (.c rfl (.c rfl (.c rfl .n))))), by omega⟩
    omega
   rw [hc83] at hs
   replace hc83 := not_f hc83
   refine st_run 8 [(155, .bool (false)), (154, undef), (153, undef), (152, undef), (151, undef), (150, undef), (149, undef), (148, undef)] hs .n (by kernel_rfl) (by kernel_rfl) (by kernel_rfl) ?_; clear hs a; intro a hs
   refine wpList_nil ?_
   refine then_n (hK82 _ _ ?_)
   refine wp_cond_false (hs.ev rfl) ?_
   refine wp_skip ?_
   refine in_n ?_
   refine then_n (hK74 _ _ ?_)
   refine wp_region_lit ?_
   refine st_addR hs rfl rfl (by omega) rfl ?_; clear hs w a; intro a w hs
   refine st_mv hs rfl rfl ?_; clear hs w a; intro a w hs
   refine wpList_nil ?_
   refine then_n ?_
   replace hs := hs.drop (.c (.s .z) (.c .z .n))
   refine ⟨_, ?_, i + 1, rfl, hs.sub (.c rfl (.c rfl (.c rfl (.c rfl (.c rfl .n))))), by omega⟩
   omega
  replace hc72 := of_decide_eq_false hc72
  refine wp_exit ?_
  refine th_e ?_
  refine th_e ?_
  refine in_hit ?_
  refine then_n (hK65 _ _ ?_)
  refine wp_seq_k fun K84 hK85 => ?_
  refine wp_region_lit ?_
  refine st_callP (v := .bool (true)) hs .n Try.call10 (alive10_ok _) rfl ?_; clear hs w a; intro a w hs
  refine st_as hs rfl rfl ?_; clear hs w a; intro a w hs
  refine wpList_nil ?_
  refine then_n (hK85 _ _ ?_)
  refine wp_ret ?_
  replace hs := hs.drop (.c (.s .z) (.c .z .n))
  exact fin hs rfl rfl ⟨rfl, rfl⟩
end Go.Proofs.Ytbioemaipghagaa
