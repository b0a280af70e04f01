/- Walks of DeltaBack: what each function does, over the program of this seat. Printed by a program of this session. -/
import Derived.Test.YtbioemaipghagaaGreatQWdelA
import Derived.Test.YtbioemaipghagaaGreatQWdelm
import Derived.Test.YtbioemaipghagaaGreatQWgram
import Derived.Test.YtbioemaipghagaaGreatQWgramS
import Derived.Test.YtbioemaipghagaaGreatQWgramV
import Derived.Test.YtbioemaipghagaaGreatQSxPgramF
import Derived.Test.YtbioemaipghagaaGreatQSxRrec
namespace Go.Proofs.YtbioemaipghagaaGreat
open Go Go.Sx Go.RowKit
set_option linter.unusedVariables false
set_option linter.unusedSimpArgs false
set_option maxRecDepth 4000
set_option maxHeartbeats 1000000

theorem deltaBack_ok (ta ma : Int) (ua : Value) (la : List EntR) (tb mb : Int) (ub : Value) (lb : List EntR) (w0 : World) (hta_ : -9223372036854775808 ≤ ta ∧ ta ≤ 9223372036854775807) (hma_ : -9223372036854775808 ≤ ma ∧ ma ≤ 9223372036854775807) (hca : Rd w0 [] ua 9 la.length (la.flatMap entV)) (hwa : ∀ x ∈ la, x.wf) (htb_ : -9223372036854775808 ≤ tb ∧ tb ≤ 9223372036854775807) (hmb_ : -9223372036854775808 ≤ mb ∧ mb ≤ 9223372036854775807) (hcb : Rd w0 [] ub 9 lb.length (lb.flatMap entV)) (hwb : ∀ x ∈ lb, x.wf) : Calls Tryz.prog 3 #[.agg #[.int .i64 (ta), .int .i64 (ma), ua], .agg #[.int .i64 (tb), .int .i64 (mb), ub]] w0 (RetV w0 (.bool true)) := by
  have hcea := hca.le
  simp only [maxLen] at hcea
  have hceb := hcb.le
  simp only [maxLen] at hceb
  refine enter (F0 := [(0, .agg #[.int .i64 (ta), .int .i64 (ma), ua]), (1, .agg #[.int .i64 (tb), .int .i64 (mb), ub])]) Tryz.func3 rfl rfl rfl (.c (.c .n)) (Mem.nil _) fun a w hs => ?_
  refine wp_seq_k fun K1 hK2 => ?_
  refine wp_region_lit ?_
  refine st_box (cs := [.int .i64 (ta), .int .i64 (ma), ua]) hs rfl rfl rfl ?_; clear hs w a; intro g3 a w hs
  refine st_box (cs := [.int .i64 (tb), .int .i64 (mb), ub]) hs rfl rfl rfl ?_; clear hs w a; intro g4 a w hs
  refine st_as hs rfl rfl ?_; clear hs w a; intro a w hs
  refine wpList_nil ?_
  refine then_n (hK2 _ _ ?_)
  refine wp_seq_k fun K5 hK6 => ?_
  refine wp_seq_k fun K7 hK8 => ?_
  refine wp_region_lit ?_
  refine st_run 2 [(18, .agg #[.int .i64 (tb), .int .i64 (mb), ub]), (17, .agg #[.int .i64 (ta), .int .i64 (ma), ua])] hs (.c (hs.mem.del (.s .z)) (.c (hs.mem.del .z) .n)) (by kernel_rfl) (by kernel_rfl) (by kernel_rfl) ?_; clear hs a; intro a hs
  refine st_bs (cs := [.int .i64 (ta), .int .i64 (ma), ua, .int .i64 (tb), .int .i64 (mb), ub]) hs (.c (.c .n)) (.c rfl (.c rfl .n)) Tryz.underlying49 (ie := Tryz.t24) rfl rfl rfl rfl (by decide) (by decide) rfl (by decide) rfl rfl rfl ?_; clear hs w a; intro g9 a w hs
  refine st_callP (v := .bool (decide (100 < la.length ∨ 100 < lb.length))) hs (.c rfl .n) Tryz.call11 (great2_ok g9 _ _ _ la _ _ _ lb _ (hs.mem.del .z) (hs.rd0 hca) (hs.rd0 hcb)) rfl ?_; clear hs w a; intro a w hs
  refine wpList_nil ?_
  refine then_n (hK8 _ _ ?_)
  refine wp_if hs rfl (fun hc10 => ?_) (fun hc10 => ?_)
  ·
   replace hc10 := of_decide_eq_true hc10
   refine wp_seq_k fun K11 hK12 => ?_
   refine wp_region_lit ?_
   refine st_callP (v := .bool (true)) hs .n Tryz.call12 (alive10_ok _) rfl ?_; clear hs w a; intro a w hs
   refine st_as hs rfl rfl ?_; clear hs w a; intro a w hs
   refine wpList_nil ?_
   refine then_n (hK12 _ _ ?_)
   refine wp_ret ?_
   refine th_r ?_
   replace hs := hs.drop (.c (.s (.s .z)) (.c (.s .z) (.c .z .n)))
   exact fin hs rfl rfl ⟨rfl, rfl⟩
  replace hc10 := of_decide_eq_false hc10
  refine wp_skip ?_
  refine then_n (hK6 _ _ ?_)
  refine wp_seq_k fun K13 hK14 => ?_
  refine wp_seq_k fun K15 hK16 => ?_
  refine wp_region_lit ?_
  refine st_run 2 [(24, .agg #[.int .i64 (tb), .int .i64 (mb), ub]), (23, .agg #[.int .i64 (ta), .int .i64 (ma), ua])] hs (.c (hs.mem.del (.s (.s .z))) (.c (hs.mem.del (.s .z)) .n)) (by kernel_rfl) (by kernel_rfl) (by kernel_rfl) ?_; clear hs a; intro a hs
  refine st_call hs (.c rfl (.c rfl .n)) Tryz.call13 .n (ddiff_ok ta ma _ la tb mb _ lb _ (by omega) (by omega) (by omega) (by omega) (hs.rd0 hca) (hs.rd0 hcb) hwa hwb) rfl ?_; clear hs w a; rintro _ _ a w ⟨v17, rfl, rfl⟩ hs; simp only [List.cons_append, List.nil_append] at hs
  have hk18 := dG_rng (at_ := ta) (atm := ma) (a := la) (bt := tb) (btm := mb) (b := lb)
  refine st_run 3 [(27, .int .i64 (((dErr ta ma la tb mb lb : Nat) : Int))), (26, .agg #[.int .i64 ((dG ta ma la tb mb lb).t), .int .i64 ((dG ta ma la tb mb lb).tm), .int .i64 ((dG ta ma la tb mb lb).b), v17])] hs .n (by kernel_rfl) (by kernel_rfl) (by kernel_rfl) ?_; clear hs a; intro a hs
  refine st_alloc (cs := [.int .i64 (0), .int .i64 (0), .int .i64 (0), .slice none 0 0]) hs Tryz.zeroValue29 rfl rfl ?_; clear hs w a; intro g19 a w hs
  refine st_stBA hs rfl rfl .z (.z (.c (.c (.c (.c .n))))) (ones_c rfl (ones_c rfl (ones_c rfl (ones_c (rd_row (hs.mem.del (.s .z))).isSl.one ones_n)))) Tryz.sizeOf29 rfl ?_; clear hs w a; intro a w hs
  refine st_as hs rfl rfl ?_; clear hs w a; intro a w hs
  refine wpList_nil ?_
  refine then_n (hK16 _ _ ?_)
  refine wp_seq_k fun K20 hK21 => ?_
  refine wp_region_lit ?_
  refine st_run 2 [(29, .bool ((((dErr ta ma la tb mb lb : Nat) : Int) : Int) == 0))] hs .n (by kernel_rfl) (by kernel_rfl) (by kernel_rfl) ?_; clear hs a; intro a hs
  refine wpList_nil ?_
  refine then_n (hK21 _ _ ?_)
  refine Go.Sx.wp_cut (fun a w => St 104 [(2, .pointer (some ⟨g3, 0, none⟩)), (3, .pointer (some ⟨g4, 0, none⟩))] w0 [] [blk g4 [.int .i64 (tb), .int .i64 (mb), ub] 24, blk g3 [.int .i64 (ta), .int .i64 (ma), ua] 24] a w) ?_ ?_
  ·
   refine wp_if hs rfl (fun hc22 => ?_) (fun hc22 => ?_)
   ·
    replace hc22 := eq_of_beq hc22
    have hd0 : dErr ta ma la tb mb lb = 0 := by omega
    have h1 := diff_apply hd0 hwa hwb
    have hdp := dErr_parts hd0
    refine wp_seq_k fun K23 hK24 => ?_
    refine wp_region_lit ?_
    refine st_run 2 [(32, .agg #[.int .i64 ((dG ta ma la tb mb lb).t), .int .i64 ((dG ta ma la tb mb lb).tm), .int .i64 ((dG ta ma la tb mb lb).b), v17]), (31, .agg #[.int .i64 (ta), .int .i64 (ma), ua])] hs (.c (hs.mem.del (.s (.s (.s (.s .z))))) (.c (hs.mem.del .z) .n)) (by kernel_rfl) (by kernel_rfl) (by kernel_rfl) ?_; clear hs a; intro a hs
    refine st_call hs (.c rfl (.c rfl .n)) Tryz.call14 .n (dapply_ok ta ma _ la ((dG ta ma la tb mb lb).t) ((dG ta ma la tb mb lb).tm) ((dG ta ma la tb mb lb).b) _ ((dG ta ma la tb mb lb).l) _ (by omega) (by omega) (by omega) (by omega) (by omega) (hs.rd0 hca) (rd_row (hs.mem.del (.s .z))) (dG_wf hwa hwb)) rfl ?_; clear hs w a; rintro _ _ a w ⟨v25, rfl, rfl⟩ hs; simp only [List.cons_append, List.nil_append] at hs
    have hk26 := aS_rng (at_ := ta) (atm := ma) (a := la) (gt := ((dG ta ma la tb mb lb).t)) (gtm := ((dG ta ma la tb mb lb).tm)) (gb := ((dG ta ma la tb mb lb).b)) (rl := (dG ta ma la tb mb lb).l)
    have z1 : aE ta ma la ((dG ta ma la tb mb lb).t) ((dG ta ma la tb mb lb).tm) ((dG ta ma la tb mb lb).b) ((dG ta ma la tb mb lb).l) = 0 := h1.1
    refine st_run 3 [(35, .int .i64 (((aE ta ma la ((dG ta ma la tb mb lb).t) ((dG ta ma la tb mb lb).tm) ((dG ta ma la tb mb lb).b) ((dG ta ma la tb mb lb).l) : Nat) : Int))), (34, .agg #[.int .i64 ((aS ta ma la ((dG ta ma la tb mb lb).t) ((dG ta ma la tb mb lb).tm) ((dG ta ma la tb mb lb).b) ((dG ta ma la tb mb lb).l)).t), .int .i64 ((aS ta ma la ((dG ta ma la tb mb lb).t) ((dG ta ma la tb mb lb).tm) ((dG ta ma la tb mb lb).b) ((dG ta ma la tb mb lb).l)).tm), v25])] hs .n (by kernel_rfl) (by kernel_rfl) (by kernel_rfl) ?_; clear hs a; intro a hs
    refine st_alloc (cs := [.int .i64 (0), .int .i64 (0), .slice none 0 0]) hs Tryz.zeroValue24 rfl rfl ?_; clear hs w a; intro g27 a w hs
    refine st_stBA hs rfl rfl .z (.z (.c (.c (.c .n)))) (ones_c rfl (ones_c rfl (ones_c (rd_row (hs.mem.del (.s .z))).isSl.one ones_n))) Tryz.sizeOf24 rfl ?_; clear hs w a; intro a w hs
    refine st_as hs rfl rfl ?_; clear hs w a; intro a w hs
    refine wpList_nil ?_
    refine then_n (hK24 _ _ ?_)
    refine wp_seq_k fun K28 hK29 => ?_
    refine wp_seq_k fun K30 hK31 => ?_
    refine wp_region_lit ?_
    refine st_run 2 [(37, .bool (!((((aE ta ma la ((dG ta ma la tb mb lb).t) ((dG ta ma la tb mb lb).tm) ((dG ta ma la tb mb lb).b) ((dG ta ma la tb mb lb).l) : Nat) : Int) : Int) == 0)))] hs .n (by kernel_rfl) (by kernel_rfl) (by kernel_rfl) ?_; clear hs a; intro a hs
    have hb_ : (!((((aE ta ma la ((dG ta ma la tb mb lb).t) ((dG ta ma la tb mb lb).tm) ((dG ta ma la tb mb lb).b) ((dG ta ma la tb mb lb).l) : Nat) : Int) : Int) == 0)) = false := by rw [z1]; rfl
    rw [hb_] at hs; clear hb_
    refine st_run 3 [(40, .agg #[.int .i64 (tb), .int .i64 (mb), ub]), (39, .agg #[.int .i64 ((aS ta ma la ((dG ta ma la tb mb lb).t) ((dG ta ma la tb mb lb).tm) ((dG ta ma la tb mb lb).b) ((dG ta ma la tb mb lb).l)).t), .int .i64 ((aS ta ma la ((dG ta ma la tb mb lb).t) ((dG ta ma la tb mb lb).tm) ((dG ta ma la tb mb lb).b) ((dG ta ma la tb mb lb).l)).tm), v25]), (38, .bool (false))] hs (.c (hs.mem.del .z) (.c (hs.mem.del (.s (.s (.s (.s (.s .z)))))) .n)) (by kernel_rfl) (by kernel_rfl) (by kernel_rfl) ?_; clear hs a; intro a hs
    refine st_guardT hs rfl rfl rfl ?_
    refine st_callP (v := .bool (sSame ((aS ta ma la ((dG ta ma la tb mb lb).t) ((dG ta ma la tb mb lb).tm) ((dG ta ma la tb mb lb).b) ((dG ta ma la tb mb lb).l)).t) ((aS ta ma la ((dG ta ma la tb mb lb).t) ((dG ta ma la tb mb lb).tm) ((dG ta ma la tb mb lb).b) ((dG ta ma la tb mb lb).l)).tm) ((aS ta ma la ((dG ta ma la tb mb lb).t) ((dG ta ma la tb mb lb).tm) ((dG ta ma la tb mb lb).b) ((dG ta ma la tb mb lb).l)).l) tb mb lb)) hs (.c rfl (.c rfl .n)) Tryz.call15 (ssame_ok ((aS ta ma la ((dG ta ma la tb mb lb).t) ((dG ta ma la tb mb lb).tm) ((dG ta ma la tb mb lb).b) ((dG ta ma la tb mb lb).l)).t) ((aS ta ma la ((dG ta ma la tb mb lb).t) ((dG ta ma la tb mb lb).tm) ((dG ta ma la tb mb lb).b) ((dG ta ma la tb mb lb).l)).tm) _ ((aS ta ma la ((dG ta ma la tb mb lb).t) ((dG ta ma la tb mb lb).tm) ((dG ta ma la tb mb lb).b) ((dG ta ma la tb mb lb).l)).l) tb mb _ lb _ (rd_row (hs.mem.del (.s .z))) (hs.rd0 hcb)) rfl ?_; clear hs w a; intro a w hs
    have hb_ : (sSame ((aS ta ma la ((dG ta ma la tb mb lb).t) ((dG ta ma la tb mb lb).tm) ((dG ta ma la tb mb lb).b) ((dG ta ma la tb mb lb).l)).t) ((aS ta ma la ((dG ta ma la tb mb lb).t) ((dG ta ma la tb mb lb).tm) ((dG ta ma la tb mb lb).b) ((dG ta ma la tb mb lb).l)).tm) ((aS ta ma la ((dG ta ma la tb mb lb).t) ((dG ta ma la tb mb lb).tm) ((dG ta ma la tb mb lb).b) ((dG ta ma la tb mb lb).l)).l) tb mb lb) = true := by rw [h1.2]; exact sSame_refl _ _ _
    rw [hb_] at hs; clear hb_
    refine st_run 4 [(45, .agg #[.int .i64 ((aS ta ma la ((dG ta ma la tb mb lb).t) ((dG ta ma la tb mb lb).tm) ((dG ta ma la tb mb lb).b) ((dG ta ma la tb mb lb).l)).t), .int .i64 ((aS ta ma la ((dG ta ma la tb mb lb).t) ((dG ta ma la tb mb lb).tm) ((dG ta ma la tb mb lb).b) ((dG ta ma la tb mb lb).l)).tm), v25]), (44, .bool (false))] hs (.c (hs.mem.del .z) .n) (by kernel_rfl) (by kernel_rfl) (by kernel_rfl) ?_; clear hs a; intro a hs
    refine st_guardT hs rfl rfl rfl ?_
    refine st_callP (v := .int .i64 (((snapErr ((aS ta ma la ((dG ta ma la tb mb lb).t) ((dG ta ma la tb mb lb).tm) ((dG ta ma la tb mb lb).b) ((dG ta ma la tb mb lb).l)).t) ((aS ta ma la ((dG ta ma la tb mb lb).t) ((dG ta ma la tb mb lb).tm) ((dG ta ma la tb mb lb).b) ((dG ta ma la tb mb lb).l)).tm) ((aS ta ma la ((dG ta ma la tb mb lb).t) ((dG ta ma la tb mb lb).tm) ((dG ta ma la tb mb lb).b) ((dG ta ma la tb mb lb).l)).l) : Nat) : Int))) hs (.c rfl .n) Tryz.call16 (scheck_ok ((aS ta ma la ((dG ta ma la tb mb lb).t) ((dG ta ma la tb mb lb).tm) ((dG ta ma la tb mb lb).b) ((dG ta ma la tb mb lb).l)).t) ((aS ta ma la ((dG ta ma la tb mb lb).t) ((dG ta ma la tb mb lb).tm) ((dG ta ma la tb mb lb).b) ((dG ta ma la tb mb lb).l)).tm) _ ((aS ta ma la ((dG ta ma la tb mb lb).t) ((dG ta ma la tb mb lb).tm) ((dG ta ma la tb mb lb).b) ((dG ta ma la tb mb lb).l)).l) _ (by omega) (by omega) (rd_row (hs.mem.del (.s .z)))) rfl ?_; clear hs w a; intro a w hs
    have z2 : snapErr ((aS ta ma la ((dG ta ma la tb mb lb).t) ((dG ta ma la tb mb lb).tm) ((dG ta ma la tb mb lb).b) ((dG ta ma la tb mb lb).l)).t) ((aS ta ma la ((dG ta ma la tb mb lb).t) ((dG ta ma la tb mb lb).tm) ((dG ta ma la tb mb lb).b) ((dG ta ma la tb mb lb).l)).tm) ((aS ta ma la ((dG ta ma la tb mb lb).t) ((dG ta ma la tb mb lb).tm) ((dG ta ma la tb mb lb).b) ((dG ta ma la tb mb lb).l)).l) = 0 := by rw [h1.2]; exact hdp.2.1
    refine st_guardT hs rfl rfl rfl ?_
    refine st_neq hs rfl rfl rfl ?_; clear hs w a; intro a w hs
    have hb_ : (!((((snapErr ((aS ta ma la ((dG ta ma la tb mb lb).t) ((dG ta ma la tb mb lb).tm) ((dG ta ma la tb mb lb).b) ((dG ta ma la tb mb lb).l)).t) ((aS ta ma la ((dG ta ma la tb mb lb).t) ((dG ta ma la tb mb lb).tm) ((dG ta ma la tb mb lb).b) ((dG ta ma la tb mb lb).l)).tm) ((aS ta ma la ((dG ta ma la tb mb lb).t) ((dG ta ma la tb mb lb).tm) ((dG ta ma la tb mb lb).b) ((dG ta ma la tb mb lb).l)).l) : Nat) : Int) : Int) == 0)) = false := by rw [z2]; rfl
    rw [hb_] at hs; clear hb_
    refine st_pickF hs rfl rfl rfl ?_; clear hs w a; intro a w hs
    refine wpList_nil ?_
    refine then_n (hK31 _ _ ?_)
    refine wp_cond_false (hs.ev rfl) ?_
    refine wp_skip ?_
    refine then_n (hK29 _ _ ?_)
    refine wp_seq_k fun K32 hK33 => ?_
    refine wp_region_lit ?_
    refine st_ldBA hs rfl (.s (.s .z)) (.z (.c (.c (.c (.c .n))))) Tryz.isAgg29 Tryz.sizeOf29 rfl ?_; clear hs w a; intro a w hs
    refine st_call hs (.c rfl .n) Tryz.call17 .n (gwrite_ok ((dG ta ma la tb mb lb).t) ((dG ta ma la tb mb lb).tm) ((dG ta ma la tb mb lb).b) _ ((dG ta ma la tb mb lb).l) _ (by omega) (by omega) (by omega) (rd_row (hs.mem.del (.s (.s (.s .z))))) (dG_wf hwa hwb)) rfl ?_; clear hs w a; rintro _ _ a w ⟨v34, rfl, rfl⟩ hs; simp only [List.cons_append, List.nil_append] at hs
    have hk35 := length_gwB ((dG ta ma la tb mb lb).t) ((dG ta ma la tb mb lb).tm) ((dG ta ma la tb mb lb).b) ((dG ta ma la tb mb lb).l)
    refine st_run 5 [(10, .int .i64 (((gwErr ((dG ta ma la tb mb lb).t) ((dG ta ma la tb mb lb).tm) ((dG ta ma la tb mb lb).b) ((dG ta ma la tb mb lb).l) : Nat) : Int))), (9, v34)] hs .n (by kernel_rfl) (by kernel_rfl) (by kernel_rfl) ?_; clear hs a; intro a hs
    refine wpList_nil ?_
    refine then_n (hK33 _ _ ?_)
    refine wp_seq_k fun K36 hK37 => ?_
    refine wp_region_lit ?_
    refine st_run 2 [(55, .bool ((((gwErr ((dG ta ma la tb mb lb).t) ((dG ta ma la tb mb lb).tm) ((dG ta ma la tb mb lb).b) ((dG ta ma la tb mb lb).l) : Nat) : Int) : Int) == 0))] hs .n (by kernel_rfl) (by kernel_rfl) (by kernel_rfl) ?_; clear hs a; intro a hs
    refine wpList_nil ?_
    refine then_n (hK37 _ _ ?_)
    refine wp_if hs rfl (fun hc38 => ?_) (fun hc38 => ?_)
    ·
     replace hc38 := eq_of_beq hc38
     refine wp_seq_k fun K39 hK40 => ?_
     refine wp_region_lit ?_
     refine st_mv hs rfl rfl ?_; clear hs w a; intro a w hs
     refine st_call hs (.c rfl .n) Tryz.call18 .n (gread_ok _ _ ((gwB ((dG ta ma la tb mb lb).t) ((dG ta ma la tb mb lb).tm) ((dG ta ma la tb mb lb).b) ((dG ta ma la tb mb lb).l))) _ (rd_row (hs.mem.del .z))) rfl ?_; clear hs w a; rintro _ _ a w ⟨v41, rfl, rfl⟩ hs; simp only [List.cons_append, List.nil_append] at hs
     have hk42 := gRead_le ((gwB ((dG ta ma la tb mb lb).t) ((dG ta ma la tb mb lb).tm) ((dG ta ma la tb mb lb).b) ((dG ta ma la tb mb lb).l)))
     have hF := gread_forth (dG_wf (at_ := ta) (atm := ma) (bt := tb) (btm := mb) hwa hwb) (by omega : gwErr (dG ta ma la tb mb lb).t (dG ta ma la tb mb lb).tm (dG ta ma la tb mb lb).b (dG ta ma la tb mb lb).l = 0)
     replace hs := hs.recell (v' := .tuple #[.agg #[.int .i64 ((dG ta ma la tb mb lb).t), .int .i64 ((dG ta ma la tb mb lb).tm), .int .i64 ((dG ta ma la tb mb lb).b), v41], .int .i64 (0)]) (Option.some.inj (by rw [hF]; first | done | rfl))
     replace hs := hs.rerow .z (m' := (dG ta ma la tb mb lb).l.length) (xs' := ((dG ta ma la tb mb lb).l.flatMap recV)) (by rw [hF]) (by rw [hF])
     refine st_run 3 [(60, .int .i64 (0)), (59, .agg #[.int .i64 ((dG ta ma la tb mb lb).t), .int .i64 ((dG ta ma la tb mb lb).tm), .int .i64 ((dG ta ma la tb mb lb).b), v41])] hs .n (by kernel_rfl) (by kernel_rfl) (by kernel_rfl) ?_; clear hs a; intro a hs
     refine st_alloc (cs := [.int .i64 (0), .int .i64 (0), .int .i64 (0), .slice none 0 0]) hs Tryz.zeroValue29 rfl rfl ?_; clear hs w a; intro g43 a w hs
     refine st_stBA hs rfl rfl .z (.z (.c (.c (.c (.c .n))))) (ones_c rfl (ones_c rfl (ones_c rfl (ones_c (rd_row (hs.mem.del (.s .z))).isSl.one ones_n)))) Tryz.sizeOf29 rfl ?_; clear hs w a; intro a w hs
     refine st_as hs rfl rfl ?_; clear hs w a; intro a w hs
     refine wpList_nil ?_
     refine then_n (hK40 _ _ ?_)
     refine wp_seq_k fun K44 hK45 => ?_
     refine wp_region_lit ?_
     refine st_run 5 [(65, .agg #[.int .i64 ((dG ta ma la tb mb lb).t), .int .i64 ((dG ta ma la tb mb lb).tm), .int .i64 ((dG ta ma la tb mb lb).b), v17]), (64, .agg #[.int .i64 ((dG ta ma la tb mb lb).t), .int .i64 ((dG ta ma la tb mb lb).tm), .int .i64 ((dG ta ma la tb mb lb).b), v41]), (63, .bool (false))] hs (.c (hs.mem.del .z) (.c (hs.mem.del (.s (.s (.s (.s (.s .z)))))) .n)) (by kernel_rfl) (by kernel_rfl) (by kernel_rfl) ?_; clear hs a; intro a hs
     refine st_guardT hs rfl rfl rfl ?_
     refine st_callP (v := .bool (true)) hs (.c rfl (.c rfl .n)) Tryz.call19 (gsame_ok _ _ _ _ _ ((dG ta ma la tb mb lb).l) _ (rd_row (hs.mem.del (.s .z))) (rd_row (hs.mem.del (.s (.s (.s (.s (.s (.s .z))))))))) rfl ?_; clear hs w a; intro a w hs
     refine st_run 2 [(68, .bool (false))] hs .n (by kernel_rfl) (by kernel_rfl) (by kernel_rfl) ?_; clear hs a; intro a hs
     refine wpList_nil ?_
     refine then_n (hK45 _ _ ?_)
     refine wp_cond_false (hs.ev rfl) ?_
     refine wp_skip ?_
     refine then_n ?_
     replace hs := hs.drop (.c (.s (.s (.s (.s (.s (.s (.s .z))))))) (.c (.s (.s (.s (.s (.s (.s .z)))))) (.c (.s (.s (.s (.s (.s .z))))) (.c (.s (.s (.s (.s .z)))) (.c (.s (.s (.s .z))) (.c (.s (.s .z)) (.c (.s .z) (.c .z .n))))))))
     exact hs.sub (.c rfl (.c rfl .n))
    replace hc38 := ne_of_beq_f hc38
    refine wp_skip ?_
    refine then_n ?_
    replace hs := hs.drop (.c (.s (.s (.s (.s (.s .z))))) (.c (.s (.s (.s (.s .z)))) (.c (.s (.s (.s .z))) (.c (.s (.s .z)) (.c (.s .z) (.c .z .n))))))
    exact hs.sub (.c rfl (.c rfl .n))
   replace hc22 := ne_of_beq_f hc22
   refine wp_skip ?_
   refine then_n ?_
   replace hs := hs.drop (.c (.s (.s .z)) (.c (.s .z) (.c .z .n)))
   exact hs.sub (.c rfl (.c rfl .n))
  clear hs w a; rintro a w hs
  refine then_n (hK14 _ _ ?_)
  refine wp_seq_k fun K46 hK47 => ?_
  refine wp_region_lit ?_
  refine st_ldBA hs rfl .z (.z (.c (.c (.c .n)))) Tryz.isAgg24 Tryz.sizeOf24 rfl ?_; clear hs w a; intro a w hs
  refine st_call hs (.c rfl .n) Tryz.call20 .n (full_ok tb mb _ lb _ (by omega) (by omega) (hs.rd0 hcb) hwb) rfl ?_; clear hs w a; rintro _ _ a w ⟨v48, rfl, rfl⟩ hs; simp only [List.cons_append, List.nil_append] at hs
  have hk49 := fG_rng (bt := tb) (btm := mb) (b := lb)
  refine st_run 3 [(73, .int .i64 (((fErr tb mb lb : Nat) : Int))), (72, .agg #[.int .i64 ((fG tb mb lb).t), .int .i64 ((fG tb mb lb).tm), .int .i64 ((fG tb mb lb).b), v48])] hs .n (by kernel_rfl) (by kernel_rfl) (by kernel_rfl) ?_; clear hs a; intro a hs
  refine st_alloc (cs := [.int .i64 (0), .int .i64 (0), .int .i64 (0), .slice none 0 0]) hs Tryz.zeroValue29 rfl rfl ?_; clear hs w a; intro g50 a w hs
  refine st_stBA hs rfl rfl .z (.z (.c (.c (.c (.c .n))))) (ones_c rfl (ones_c rfl (ones_c rfl (ones_c (rd_row (hs.mem.del (.s .z))).isSl.one ones_n)))) Tryz.sizeOf29 rfl ?_; clear hs w a; intro a w hs
  refine st_as hs rfl rfl ?_; clear hs w a; intro a w hs
  refine wpList_nil ?_
  refine then_n (hK47 _ _ ?_)
  refine wp_seq_k fun K51 hK52 => ?_
  refine wp_seq_k fun K53 hK54 => ?_
  refine wp_region_lit ?_
  refine st_run 2 [(75, .bool (!((((fErr tb mb lb : Nat) : Int) : Int) == 0)))] hs .n (by kernel_rfl) (by kernel_rfl) (by kernel_rfl) ?_; clear hs a; intro a hs
  refine wpList_nil ?_
  refine then_n (hK54 _ _ ?_)
  refine wp_if hs rfl (fun hc55 => ?_) (fun hc55 => ?_)
  ·
   replace hc55 := not_t hc55
   replace hc55 := ne_of_beq_f hc55
   have hfe := fG_e (t := tb) (tm := mb) (l := lb) (by omega)
   refine wp_seq_k fun K56 hK57 => ?_
   refine wp_region_lit ?_
   refine st_callP (v := .bool (true)) hs .n Tryz.call12 (alive10_ok _) rfl ?_; clear hs w a; intro a w hs
   refine st_run 3 [(79, v48), (77, .bool (true))] hs (.c (hs.mem.del .z) .n) (by kernel_rfl) (by kernel_rfl) (by kernel_rfl) ?_; clear hs a; intro a hs
   refine st_guardT hs rfl rfl rfl ?_
   refine st_len hs rfl (rd_row (hs.mem.del (.s .z))).isSl Tryz.underlying27 rfl ?_; clear hs w a; intro a w hs
   refine st_guardT hs rfl rfl rfl ?_
   refine st_eql hs rfl rfl rfl ?_; clear hs w a; intro a w hs
   have hb_ : (((((fG tb mb lb).l.length : Nat) : Int) : Int) == 0) = true := by rw [hfe]; rfl
   rw [hb_] at hs; clear hb_
   refine st_run 2 [(4, .bool (true))] hs .n (by kernel_rfl) (by kernel_rfl) (by kernel_rfl) ?_; clear hs a; intro a hs
   refine wpList_nil ?_
   refine then_n (hK57 _ _ ?_)
   refine wp_ret ?_
   refine th_r ?_
   replace hs := hs.drop (.c (.s (.s (.s .z))) (.c (.s (.s .z)) (.c (.s .z) (.c .z .n))))
   exact fin hs rfl rfl ⟨rfl, rfl⟩
  replace hc55 := not_f hc55
  replace hc55 := eq_of_beq hc55
  have hf0 : fErr tb mb lb = 0 := by omega
  have h2 := full_apply (at_ := ta) (atm := ma) (a := la) hf0 hwb
  refine wp_skip ?_
  refine then_n (hK52 _ _ ?_)
  refine wp_seq_k fun K58 hK59 => ?_
  refine wp_region_lit ?_
  refine st_run 2 [(85, .agg #[.int .i64 ((fG tb mb lb).t), .int .i64 ((fG tb mb lb).tm), .int .i64 ((fG tb mb lb).b), v48]), (84, .agg #[.int .i64 (ta), .int .i64 (ma), ua])] hs (.c (hs.mem.del (.s (.s (.s .z)))) (.c (hs.mem.del .z) .n)) (by kernel_rfl) (by kernel_rfl) (by kernel_rfl) ?_; clear hs a; intro a hs
  refine st_call hs (.c rfl (.c rfl .n)) Tryz.call14 .n (dapply_ok ta ma _ la ((fG tb mb lb).t) ((fG tb mb lb).tm) ((fG tb mb lb).b) _ ((fG tb mb lb).l) _ (by omega) (by omega) (by omega) (by omega) (by omega) (hs.rd0 hca) (rd_row (hs.mem.del (.s .z))) (fG_wf hwb)) rfl ?_; clear hs w a; rintro _ _ a w ⟨v60, rfl, rfl⟩ hs; simp only [List.cons_append, List.nil_append] at hs
  have hk61 := aS_rng (at_ := ta) (atm := ma) (a := la) (gt := ((fG tb mb lb).t)) (gtm := ((fG tb mb lb).tm)) (gb := ((fG tb mb lb).b)) (rl := (fG tb mb lb).l)
  have z3 : aE ta ma la ((fG tb mb lb).t) ((fG tb mb lb).tm) ((fG tb mb lb).b) ((fG tb mb lb).l) = 0 := h2.1
  refine st_run 3 [(88, .int .i64 (((aE ta ma la ((fG tb mb lb).t) ((fG tb mb lb).tm) ((fG tb mb lb).b) ((fG tb mb lb).l) : Nat) : Int))), (87, .agg #[.int .i64 ((aS ta ma la ((fG tb mb lb).t) ((fG tb mb lb).tm) ((fG tb mb lb).b) ((fG tb mb lb).l)).t), .int .i64 ((aS ta ma la ((fG tb mb lb).t) ((fG tb mb lb).tm) ((fG tb mb lb).b) ((fG tb mb lb).l)).tm), v60])] hs .n (by kernel_rfl) (by kernel_rfl) (by kernel_rfl) ?_; clear hs a; intro a hs
  refine st_alloc (cs := [.int .i64 (0), .int .i64 (0), .slice none 0 0]) hs Tryz.zeroValue24 rfl rfl ?_; clear hs w a; intro g62 a w hs
  refine st_stBA hs rfl rfl .z (.z (.c (.c (.c .n)))) (ones_c rfl (ones_c rfl (ones_c (rd_row (hs.mem.del (.s .z))).isSl.one ones_n))) Tryz.sizeOf24 rfl ?_; clear hs w a; intro a w hs
  refine st_as hs rfl rfl ?_; clear hs w a; intro a w hs
  refine wpList_nil ?_
  refine then_n (hK59 _ _ ?_)
  refine wp_seq_k fun K63 hK64 => ?_
  refine wp_region_lit ?_
  refine st_callP (v := .bool (true)) hs .n Tryz.call12 (alive10_ok _) rfl ?_; clear hs w a; intro a w hs
  refine st_run 3 [(92, .bool ((((aE ta ma la ((fG tb mb lb).t) ((fG tb mb lb).tm) ((fG tb mb lb).b) ((fG tb mb lb).l) : Nat) : Int) : Int) == 0)), (90, .bool (true))] hs .n (by kernel_rfl) (by kernel_rfl) (by kernel_rfl) ?_; clear hs a; intro a hs
  have hb_ : ((((aE ta ma la ((fG tb mb lb).t) ((fG tb mb lb).tm) ((fG tb mb lb).b) ((fG tb mb lb).l) : Nat) : Int) : Int) == 0) = true := by rw [z3]; rfl
  rw [hb_] at hs; clear hb_
  refine st_run 4 [(96, .agg #[.int .i64 (tb), .int .i64 (mb), ub]), (95, .agg #[.int .i64 ((aS ta ma la ((fG tb mb lb).t) ((fG tb mb lb).tm) ((fG tb mb lb).b) ((fG tb mb lb).l)).t), .int .i64 ((aS ta ma la ((fG tb mb lb).t) ((fG tb mb lb).tm) ((fG tb mb lb).b) ((fG tb mb lb).l)).tm), v60]), (94, .bool (true))] hs (.c (hs.mem.del .z) (.c (hs.mem.del (.s (.s (.s (.s .z))))) .n)) (by kernel_rfl) (by kernel_rfl) (by kernel_rfl) ?_; clear hs a; intro a hs
  refine st_guardT hs rfl rfl rfl ?_
  refine st_callP (v := .bool (sSame ((aS ta ma la ((fG tb mb lb).t) ((fG tb mb lb).tm) ((fG tb mb lb).b) ((fG tb mb lb).l)).t) ((aS ta ma la ((fG tb mb lb).t) ((fG tb mb lb).tm) ((fG tb mb lb).b) ((fG tb mb lb).l)).tm) ((aS ta ma la ((fG tb mb lb).t) ((fG tb mb lb).tm) ((fG tb mb lb).b) ((fG tb mb lb).l)).l) tb mb lb)) hs (.c rfl (.c rfl .n)) Tryz.call15 (ssame_ok ((aS ta ma la ((fG tb mb lb).t) ((fG tb mb lb).tm) ((fG tb mb lb).b) ((fG tb mb lb).l)).t) ((aS ta ma la ((fG tb mb lb).t) ((fG tb mb lb).tm) ((fG tb mb lb).b) ((fG tb mb lb).l)).tm) _ ((aS ta ma la ((fG tb mb lb).t) ((fG tb mb lb).tm) ((fG tb mb lb).b) ((fG tb mb lb).l)).l) tb mb _ lb _ (rd_row (hs.mem.del (.s .z))) (hs.rd0 hcb)) rfl ?_; clear hs w a; intro a w hs
  have hb_ : (sSame ((aS ta ma la ((fG tb mb lb).t) ((fG tb mb lb).tm) ((fG tb mb lb).b) ((fG tb mb lb).l)).t) ((aS ta ma la ((fG tb mb lb).t) ((fG tb mb lb).tm) ((fG tb mb lb).b) ((fG tb mb lb).l)).tm) ((aS ta ma la ((fG tb mb lb).t) ((fG tb mb lb).tm) ((fG tb mb lb).b) ((fG tb mb lb).l)).l) tb mb lb) = true := by rw [h2.2]; exact sSame_refl _ _ _
  rw [hb_] at hs; clear hb_
  refine st_run 5 [(102, .bool (((fG tb mb lb).b : Int) == (-1))), (99, .bool (true))] hs (.c (hs.mem.del (.s (.s .z))) .n) (by kernel_rfl) (by kernel_rfl) (by kernel_rfl) ?_; clear hs a; intro a hs
  have hb_ : (((fG tb mb lb).b : Int) == (-1)) = true := by rw [fG_0 hf0]; rfl
  rw [hb_] at hs; clear hb_
  refine st_run 2 [(4, .bool (true))] hs .n (by kernel_rfl) (by kernel_rfl) (by kernel_rfl) ?_; clear hs a; intro a hs
  refine wpList_nil ?_
  refine then_n (hK64 _ _ ?_)
  refine wp_ret ?_
  replace hs := hs.drop (.c (.s (.s (.s (.s (.s .z))))) (.c (.s (.s (.s (.s .z)))) (.c (.s (.s (.s .z))) (.c (.s (.s .z)) (.c (.s .z) (.c .z .n))))))
  exact fin hs rfl rfl ⟨rfl, rfl⟩
end Go.Proofs.YtbioemaipghagaaGreat
