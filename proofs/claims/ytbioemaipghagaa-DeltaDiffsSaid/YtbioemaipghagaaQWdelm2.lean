/- Walks of the document's Wdelm2: what each function does, over the program of this seat. Printed by a program of this session. -/
import Derived.Test.YtbioemaipghagaaQWdelm
import Derived.Test.YtbioemaipghagaaQWrec4m
namespace Go.Proofs.Ytbioemaipghagaa
open Go Go.Sx Go.RowKit
set_option linter.unusedVariables false
set_option linter.unusedSimpArgs false
set_option maxRecDepth 4000
set_option maxHeartbeats 1000000

theorem mddiff_ok (at_ atm : Int) (ua : Value) (al : List EntR) (bt btm : Int) (ub : Value) (bl : List EntR) (w0 : World) (hat__ : -9223372036854775808 ≤ at_ ∧ at_ ≤ 9223372036854775807) (hatm_ : -9223372036854775808 ≤ atm ∧ atm ≤ 9223372036854775807) (hbt_ : -9223372036854775808 ≤ bt ∧ bt ≤ 9223372036854775807) (hbtm_ : -9223372036854775808 ≤ btm ∧ btm ≤ 9223372036854775807) (hca : Rd w0 [] ua 9 al.length (al.flatMap entV)) (hcb : Rd w0 [] ub 9 bl.length (bl.flatMap entV)) (hwa : ∀ x ∈ al, x.wf) (hwb : ∀ x ∈ bl, x.wf) : Calls Try.prog 18 #[.agg #[.int .i64 (at_), .int .i64 (atm), ua], .agg #[.int .i64 (bt), .int .i64 (btm), ub]] w0 (Ret w0 [] fun x N => ∃ v, x = .tuple #[.agg #[.int .i64 ((dG at_ atm al bt btm bl).t), .int .i64 ((dG at_ atm al bt btm bl).tm), .int .i64 ((dG at_ atm al bt btm bl).b), v], .int .i64 ((dErr at_ atm al bt btm bl : Nat) : Int)] ∧ N = [row v 45 9 (dG at_ atm al bt btm bl).l.length ((dG at_ atm al bt btm bl).l.flatMap recV)]) := by
  have hcea := hca.le
  simp only [maxLen] at hcea
  have hceb := hcb.le
  simp only [maxLen] at hceb
  refine enter (F0 := [(0, .agg #[.int .i64 (at_), .int .i64 (atm), ua]), (1, .agg #[.int .i64 (bt), .int .i64 (btm), ub])]) Try.func18 rfl rfl rfl (.c (.c .n)) (Mem.nil _) fun a w hs => ?_
  refine wp_seq_k fun K1 hK2 => ?_
  refine wp_region_lit ?_
  refine st_box (cs := [.int .i64 (at_), .int .i64 (atm), ua]) hs rfl rfl rfl ?_; clear hs w a; intro g3 a w hs
  refine st_box (cs := [.int .i64 (bt), .int .i64 (btm), ub]) hs rfl rfl rfl ?_; clear hs w a; intro g4 a w hs
  refine st_alloc (cs := [.int .i64 (0), .int .i64 (0), .int .i64 (0), .slice none 0 0]) hs Try.zeroValue27 rfl rfl ?_; clear hs w a; intro g5 a w hs
  refine st_as hs rfl rfl ?_; clear hs w a; intro a w hs
  refine wpList_nil ?_
  refine then_n (hK2 _ _ ?_)
  refine wp_seq_k fun K6 hK7 => ?_
  refine wp_region_lit ?_
  refine st_ldBA hs rfl (.s (.s .z)) (.z (.c (.c (.c .n)))) Try.isAgg24 Try.sizeOf24 rfl ?_; clear hs w a; intro a w hs
  refine st_callP (v := .int .i64 (((snapErr at_ atm al : Nat) : Int))) hs (.c rfl .n) Try.call23 (mscheck_ok at_ atm _ al _ (by omega) (by omega) (hs.rd0 hca)) rfl ?_; clear hs w a; intro a w hs
  refine st_as hs rfl rfl ?_; clear hs w a; intro a w hs
  refine wpList_nil ?_
  refine then_n (hK7 _ _ ?_)
  refine wp_seq_k fun K8 hK9 => ?_
  refine wp_seq_k fun K10 hK11 => ?_
  refine wp_region_lit ?_
  refine st_run 2 [(17, .bool ((((snapErr at_ atm al : Nat) : Int) : Int) == 0))] hs .n (by kernel_rfl) (by kernel_rfl) (by kernel_rfl) ?_; clear hs a; intro a hs
  refine wpList_nil ?_
  refine then_n (hK11 _ _ ?_)
  refine wp_if hs rfl (fun hc12 => ?_) (fun hc12 => ?_)
  ·
   replace hc12 := eq_of_beq hc12
   refine wp_region_lit ?_
   refine st_ldBA hs rfl (.s .z) (.z (.c (.c (.c .n)))) Try.isAgg24 Try.sizeOf24 rfl ?_; clear hs w a; intro a w hs
   refine st_callP (v := .int .i64 (((snapErr bt btm bl : Nat) : Int))) hs (.c rfl .n) Try.call23 (mscheck_ok bt btm _ bl _ (by omega) (by omega) (hs.rd0 hcb)) rfl ?_; clear hs w a; intro a w hs
   refine st_as hs rfl rfl ?_; clear hs w a; intro a w hs
   refine wpList_nil ?_
   refine then_n (hK9 _ _ ?_)
   refine wp_seq_k fun K13 hK14 => ?_
   refine wp_seq_k fun K15 hK16 => ?_
   refine wp_region_lit ?_
   refine st_run 2 [(21, .bool (!((((snapErr bt btm bl : Nat) : Int) : Int) == 0)))] hs .n (by kernel_rfl) (by kernel_rfl) (by kernel_rfl) ?_; clear hs a; intro a hs
   refine wpList_nil ?_
   refine then_n (hK16 _ _ ?_)
   refine wp_if hs rfl (fun hc17 => ?_) (fun hc17 => ?_)
   ·
    replace hc17 := not_t hc17
    replace hc17 := ne_of_beq_f hc17
    refine wp_seq_k fun K18 hK19 => ?_
    refine wp_region_lit ?_
    refine st_build (it := Try.t27) (zs := [.int .i64 (0), .int .i64 (0), .int .i64 (0), .slice none 0 0]) (places := [(0, 1), (1, 1), (2, 1), (3, 1)]) hs .n Try.underlying27 rfl rfl rfl rfl .n rfl ?_; clear hs w a; intro a w hs
    refine st_mv hs rfl rfl ?_; clear hs w a; intro a w hs
    refine st_stBA hs rfl rfl .z (.z (.c (.c (.c (.c .n))))) (ones_c rfl (ones_c rfl (ones_c rfl (ones_c rfl ones_n)))) Try.sizeOf27 rfl ?_; clear hs w a; intro a w hs
    refine st_as hs rfl rfl ?_; clear hs w a; intro a w hs
    refine wpList_nil ?_
    refine then_n (hK19 _ _ ?_)
    refine wp_ret ?_
    refine th_r ?_
    have hE : dErr at_ atm al bt btm bl = snapErr bt btm bl := by first | exact dErr_1 (by omega) | exact dErr_2 (by omega) (by omega) | exact dErr_3 (by omega) (by omega) (by omega) | (rw [dErr_4 (by omega) (by omega) (by omega)]; first | exact mE_none (dInv_perr (by omega) hI1_2 (by omega) (g_n0 (by omega))) | exact mE_none (dInv_eerr (by omega) (by omega) hI1_2 (by omega) (by omega) (not_or.2 ⟨g_ne (by omega), g_ne (by omega)⟩)))
    have hS : dG at_ atm al bt btm bl = ⟨0, 0, 0, []⟩ := dG_e (by omega)
    replace hs := hs.addNil 45 9
    replace hs := hs.rerow .z (m' := (dG at_ atm al bt btm bl).l.length) (xs' := ((dG at_ atm al bt btm bl).l.flatMap recV)) (by rw [hS]; rfl) (by rw [hS]; rfl)
    exact finC2 hs rfl rfl rfl (.s .z) (.z (.c (.c (.c (.c .n))))) Try.isAgg27 Try.sizeOf27 (.c (.s (.s (.s .z))) (.c (.s (.s .z)) (.c (.s .z) .n))) ⟨_, by rw [hE, hS] <;> rfl, rfl⟩
   replace hc17 := not_f hc17
   replace hc17 := eq_of_beq hc17
   refine wp_skip ?_
   refine then_n (hK14 _ _ ?_)
   refine wp_seq_k fun K20 hK21 => ?_
   refine wp_seq_k fun K22 hK23 => ?_
   refine wp_region_lit ?_
   refine st_run 5 [(28, .bool (decide (bt ≤ at_)))] hs (.c (hs.mem.del (.s (.s .z))) (.c (hs.mem.del (.s .z)) .n)) (by kernel_rfl) (by kernel_rfl) (by kernel_rfl) ?_; clear hs a; intro a hs
   refine wpList_nil ?_
   refine then_n (hK23 _ _ ?_)
   refine wp_if hs rfl (fun hc24 => ?_) (fun hc24 => ?_)
   ·
    replace hc24 := of_decide_eq_true hc24
    refine wp_seq_k fun K25 hK26 => ?_
    refine wp_region_lit ?_
    refine st_build (it := Try.t27) (zs := [.int .i64 (0), .int .i64 (0), .int .i64 (0), .slice none 0 0]) (places := [(0, 1), (1, 1), (2, 1), (3, 1)]) hs .n Try.underlying27 rfl rfl rfl rfl .n rfl ?_; clear hs w a; intro a w hs
    refine st_stBA hs rfl rfl .z (.z (.c (.c (.c (.c .n))))) (ones_c rfl (ones_c rfl (ones_c rfl (ones_c rfl ones_n)))) Try.sizeOf27 rfl ?_; clear hs w a; intro a w hs
    refine st_as hs rfl rfl ?_; clear hs w a; intro a w hs
    refine wpList_nil ?_
    refine then_n (hK26 _ _ ?_)
    refine wp_ret ?_
    refine th_r ?_
    have hE : dErr at_ atm al bt btm bl = 10 := by first | exact dErr_1 (by omega) | exact dErr_2 (by omega) (by omega) | exact dErr_3 (by omega) (by omega) (by omega) | (rw [dErr_4 (by omega) (by omega) (by omega)]; first | exact mE_none (dInv_perr (by omega) hI1_2 (by omega) (g_n0 (by omega))) | exact mE_none (dInv_eerr (by omega) (by omega) hI1_2 (by omega) (by omega) (not_or.2 ⟨g_ne (by omega), g_ne (by omega)⟩)))
    have hS : dG at_ atm al bt btm bl = ⟨0, 0, 0, []⟩ := dG_e (by omega)
    replace hs := hs.addNil 45 9
    replace hs := hs.rerow .z (m' := (dG at_ atm al bt btm bl).l.length) (xs' := ((dG at_ atm al bt btm bl).l.flatMap recV)) (by rw [hS]; rfl) (by rw [hS]; rfl)
    exact finC2 hs rfl rfl rfl (.s .z) (.z (.c (.c (.c (.c .n))))) Try.isAgg27 Try.sizeOf27 (.c (.s (.s (.s .z))) (.c (.s (.s .z)) (.c (.s .z) .n))) ⟨_, by rw [hE, hS] <;> rfl, rfl⟩
   replace hc24 := of_decide_eq_false hc24
   have hsa := snapErr_parts (by omega : snapErr at_ atm al = 0)
   have hsb := snapErr_parts (by omega : snapErr bt btm bl = 0)
   refine wp_skip ?_
   refine then_n (hK21 _ _ ?_)
   refine wp_seq_k fun K27 hK28 => ?_
   refine wp_region_lit ?_
   refine st_run 6 [(35, .int .i64 (at_)), (33, .int .i64 (btm)), (31, .int .i64 (bt))] hs (.c (hs.mem.del (.s .z)) (.c (hs.mem.del (.s .z)) (.c (hs.mem.del (.s (.s .z))) .n))) (by kernel_rfl) (by kernel_rfl) (by kernel_rfl) ?_; clear hs a; intro a hs
   refine st_build (it := Try.t27) (zs := [.int .i64 (0), .int .i64 (0), .int .i64 (0), .slice none 0 0]) (places := [(0, 1), (1, 1), (2, 1), (3, 1)]) hs (.c rfl (.c rfl (.c rfl .n))) Try.underlying27 rfl rfl rfl rfl (.c rfl rfl (.z (.c .n)) (.c rfl rfl (.s (.z (.c .n))) (.c rfl rfl (.s (.s (.z (.c .n)))) .n))) rfl ?_; clear hs w a; intro a w hs
   refine st_alloc (cs := [.int .i64 (0), .int .i64 (0), .int .i64 (0), .slice none 0 0]) hs Try.zeroValue27 rfl rfl ?_; clear hs w a; intro g29 a w hs
   refine st_stBA hs rfl rfl .z (.z (.c (.c (.c (.c .n))))) (ones_c rfl (ones_c rfl (ones_c rfl (ones_c rfl ones_n)))) Try.sizeOf27 rfl ?_; clear hs w a; intro a w hs
   refine wpList_nil ?_
   refine then_n (hK28 _ _ ?_)
   refine wp_seq_k fun K30 hK31 => ?_
   refine wp_region_lit ?_
   refine st_as hs rfl rfl ?_; clear hs w a; intro a w hs
   refine wpList_nil ?_
   refine then_n (hK31 _ _ ?_)
   refine wp_seq_k fun K32 hK33 => ?_
   refine wp_region_lit ?_
   refine st_as hs rfl rfl ?_; clear hs w a; intro a w hs
   refine wpList_nil ?_
   refine then_n (hK33 _ _ ?_)
   refine wp_seq_k fun K34 hK35 => ?_
   refine wp_block ?_
   replace hs := hs.addNil 45 9
   replace hs := hs.rerow .z (m' := ([] : List RecR).length) (xs' := (([] : List RecR).flatMap recV)) (rfl) (rfl)
   refine wp_loopI (fun mm_ a w => ∃ i : Nat, ∃ k : Nat, ∃ q : Value, ∃ out : List RecR, mm_ = al.length + bl.length - (i + k) ∧ St 159 [(2, .pointer (some ⟨g3, 0, none⟩)), (3, .pointer (some ⟨g4, 0, none⟩)), (4, .pointer (some ⟨g5, 0, none⟩)), (5, .int .i64 (0)), (7, .pointer (some ⟨g29, 0, none⟩)), (8, .int .i64 ((i : Int))), (9, .int .i64 ((k : Int)))] w0 [] [row q 45 9 out.length (out.flatMap recV), blk g29 [.int .i64 (bt), .int .i64 (btm), .int .i64 (at_), q] 27, blk g5 [.int .i64 (0), .int .i64 (0), .int .i64 (0), .slice none 0 0] 27, blk g4 [.int .i64 (bt), .int .i64 (btm), ub] 24, blk g3 [.int .i64 (at_), .int .i64 (atm), ua] 24] a w ∧ i ≤ al.length ∧ k ≤ bl.length ∧ (mrg al bl = (mrg (al.drop i) (bl.drop k)).map (out ++ ·)) ∧ out.length ≤ i + k) ⟨0, 0, .slice none 0 0, [], rfl, hs.sub (.c rfl (.c rfl (.c rfl (.c rfl (.c rfl (.c rfl (.c rfl .n))))))), by omega, by omega, map_nil0 _, Nat.le_refl _⟩ ?_
   clear hs w a; rintro mm_ a w ⟨i, k, q, out, rfl, hs, hI1_0, hI1_1, hI1_2, hI1_3⟩
   refine wp_seq_k fun K36 hK37 => ?_
   refine wp_seq_k fun K38 hK39 => ?_
   have hR_ : ∀ a w, St 159 [(2, .pointer (some ⟨g3, 0, none⟩)), (3, .pointer (some ⟨g4, 0, none⟩)), (4, .pointer (some ⟨g5, 0, none⟩)), (5, .int .i64 (0)), (7, .pointer (some ⟨g29, 0, none⟩)), (8, .int .i64 ((i : Int))), (9, .int .i64 ((k : Int))), (48, .bool (true))] w0 [] [row q 45 9 out.length (out.flatMap recV), blk g29 [.int .i64 (bt), .int .i64 (btm), .int .i64 (at_), q] 27, blk g5 [.int .i64 (0), .int .i64 (0), .int .i64 (0), .slice none 0 0] 27, blk g4 [.int .i64 (bt), .int .i64 (btm), ub] 24, blk g3 [.int .i64 (at_), .int .i64 (atm), ua] 24] a w → (i < al.length ∨ k < bl.length) → K38 a w := by
    clear hs w a; intro a w hs hfact_; refine hK39 _ _ ?_
    refine wp_cond_true (hs.ev rfl) ?_
    refine wp_skip ?_
    refine then_n (hK37 _ _ ?_)
    refine wp_block ?_
    refine wp_seq_k fun K40 hK41 => ?_
    refine wp_seq_k fun K42 hK43 => ?_
    by_cases ck : k = bl.length
    ·
     replace hs := hs.sub (F' := [(2, .pointer (some ⟨g3, 0, none⟩)), (3, .pointer (some ⟨g4, 0, none⟩)), (4, .pointer (some ⟨g5, 0, none⟩)), (5, .int .i64 (0)), (7, .pointer (some ⟨g29, 0, none⟩)), (8, .int .i64 ((i : Int))), (9, .int .i64 ((k : Int))), (48, .bool (true))]) (.c rfl (.c rfl (.c rfl (.c rfl (.c rfl (.c rfl (.c rfl (.c rfl .n))))))))
     refine wp_drawG (M0 := [row q 45 9 out.length (out.flatMap recV), blk g29 [.int .i64 (bt), .int .i64 (btm), .int .i64 (at_), q] 27, blk g5 [.int .i64 (0), .int .i64 (0), .int .i64 (0), .slice none 0 0] 27, blk g4 [.int .i64 (bt), .int .i64 (btm), ub] 24, blk g3 [.int .i64 (at_), .int .i64 (atm), ua] 24]) (Ds := [Pv 0 (.int .i64 ((k : Int))), Pv 1 (.pointer (some ⟨g4, 2, none⟩)), Pv 2 ub, Pv 3 (.int .i64 (((bl.length : Nat) : Int))), Pv 4 (.bool (true)), Pv 5 (.bool (true)), Pv 6 undef, Pv 7 undef, Pv 8 undef, Pv 9 undef, Pv 10 undef, Pv 11 undef, Pv 12 undef, Pv 13 undef, Pv 14 undef, Pv 15 undef, Pv 16 undef, Pv 17 undef, Pv 18 undef, Pv 19 undef, Pv 20 undef, Pv 21 undef, Pv 22 undef, Pv 23 undef, Pv 24 undef, Pv 25 undef, Pv 26 (.bool (true))]) (by kernel_rfl) hs rfl .n (by kernel_rfl) (by kernel_rfl) (by kernel_rfl) ?_ ?_
     ·
      refine (.c ?_ (.c ?_ (.c ?_ (.c ?_ (.c ?_ (.c ?_ (.c ?_ (.c ?_ (.c ?_ (.c ?_ (.c ?_ (.c ?_ (.c ?_ (.c ?_ (.c ?_ (.c ?_ (.c ?_ (.c ?_ (.c ?_ (.c ?_ (.c ?_ (.c ?_ (.c ?_ (.c ?_ (.c ?_ (.c ?_ (.c ?_ .n)))))))))))))))))))))))))))
      · exact trip_pv (m := 27) .n (fun hm0 hm hx => .n) (by kernel_rfl) (by kernel_rfl) rfl
      · exact trip_pv (m := 27) .n (fun hm0 hm hx => .n) (by kernel_rfl) (by kernel_rfl) rfl
      · exact trip_pv (m := 27) (.c (k := 1) (by kernel_rfl) rfl rfl .n) (fun hm0 hm hx => (.c (hm0.del (.s (.s (.s .z)))))) (by kernel_rfl) (by kernel_rfl) rfl
      ·
       intro a_ w_ R_ rest_ vs44 hm hs ht hx
       have hm0 := hm.mid
       replace hs := hs.lrn (ht 2 (twB_spec 27 _ (by kernel_rfl))) rfl rfl
       have hs0 := hs.bare
       refine st_len hs rfl (hm.rd0 hcb).isSl Try.underlying22 rfl ?_; clear hs; intro a w hs
       exact wpList_nil ⟨rfl, _, _, hs0, (.c .r), hs, rfl⟩
      ·
       intro a_ w_ R_ rest_ vs44 hm hs ht hx
       have hm0 := hm.mid
       replace hs := hs.lrn (ht 0 (twB_spec 27 _ (by kernel_rfl))) rfl rfl
       replace hs := hs.lrn (ht 3 (twB_spec 27 _ (by kernel_rfl))) rfl rfl
       have hs0 := hs.bare
       refine st_eql hs rfl rfl rfl ?_; clear hs; intro a w hs
       have hb_ : (((k : Int) : Int) == (((bl.length : Nat) : Int))) = true := by rw [beq_iff_eq]; omega
       rw [hb_] at hs; clear hb_
       exact wpList_nil ⟨rfl, _, _, hs0, (.c (.c .r)), hs, rfl⟩
      · exact trip_pv (m := 27) (.c (k := 4) (by kernel_rfl) rfl rfl .n) (fun hm0 hm hx => .n) (by kernel_rfl) (by kernel_rfl) rfl
      · exact trip_pf (m := 27) rfl (.c (k := 5) (by kernel_rfl) rfl rfl .n) rfl rfl rfl
      · exact trip_pf (m := 27) rfl (.c (k := 5) (by kernel_rfl) rfl rfl .n) rfl rfl rfl
      · exact trip_pf (m := 27) rfl (.c (k := 5) (by kernel_rfl) rfl rfl (.c (k := 7) (by kernel_rfl) rfl rfl .n)) rfl rfl rfl
      · exact trip_pf (m := 27) rfl (.c (k := 5) (by kernel_rfl) rfl rfl (.c (k := 8) (by kernel_rfl) rfl rfl .n)) rfl rfl rfl
      ·
       intro a_ w_ R_ rest_ vs44 hm hs ht hx
       have hm0 := hm.mid
       replace hs := hs.lrn (ht 5 (twB_spec 27 _ (by kernel_rfl))) rfl rfl
       replace hs := hs.lrn (ht 6 (twB_spec 27 _ (by kernel_rfl))) rfl rfl
       replace hs := hs.lrn (ht 9 (twB_spec 27 _ (by kernel_rfl))) rfl rfl
       have hs0 := hs.bare
       refine st_guardF hs rfl rfl rfl rfl rfl ?_; clear hs; intro a w hs
       exact wpList_nil ⟨rfl, _, _, hs0, (.c (.c (.c .r))), hs, rfl⟩
      · exact trip_pf (m := 27) rfl (.c (k := 5) (by kernel_rfl) rfl rfl (.c (k := 10) (by kernel_rfl) rfl rfl .n)) rfl rfl rfl
      · exact trip_pu (m := 27) rfl (.c (k := 11) (by kernel_rfl) rfl rfl .n) rfl rfl
      · exact trip_pu (m := 27) rfl (.c (k := 11) (by kernel_rfl) rfl rfl (.c (k := 12) (by kernel_rfl) rfl rfl .n)) rfl rfl
      · exact trip_pu (m := 27) rfl (.c (k := 11) (by kernel_rfl) rfl rfl .n) rfl rfl
      · exact trip_pu (m := 27) rfl (.c (k := 11) (by kernel_rfl) rfl rfl (.c (k := 13) (by kernel_rfl) rfl rfl (.c (k := 14) (by kernel_rfl) rfl rfl .n))) rfl rfl
      · exact trip_pu (m := 27) rfl (.c (k := 11) (by kernel_rfl) rfl rfl (.c (k := 15) (by kernel_rfl) rfl rfl .n)) rfl rfl
      · exact trip_pu (m := 27) rfl (.c (k := 11) (by kernel_rfl) rfl rfl (.c (k := 16) (by kernel_rfl) rfl rfl .n)) rfl rfl
      · exact trip_pu (m := 27) rfl (.c (k := 11) (by kernel_rfl) rfl rfl .n) rfl rfl
      · exact trip_pu (m := 27) rfl (.c (k := 11) (by kernel_rfl) rfl rfl (.c (k := 18) (by kernel_rfl) rfl rfl .n)) rfl rfl
      · exact trip_pu (m := 27) rfl (.c (k := 11) (by kernel_rfl) rfl rfl .n) rfl rfl
      · exact trip_pu (m := 27) rfl (.c (k := 11) (by kernel_rfl) rfl rfl (.c (k := 19) (by kernel_rfl) rfl rfl (.c (k := 20) (by kernel_rfl) rfl rfl .n))) rfl rfl
      · exact trip_pu (m := 27) rfl (.c (k := 11) (by kernel_rfl) rfl rfl (.c (k := 21) (by kernel_rfl) rfl rfl .n)) rfl rfl
      · exact trip_pu (m := 27) rfl (.c (k := 11) (by kernel_rfl) rfl rfl (.c (k := 22) (by kernel_rfl) rfl rfl .n)) rfl rfl
      · exact trip_pu (m := 27) rfl (.c (k := 11) (by kernel_rfl) rfl rfl (.c (k := 17) (by kernel_rfl) rfl rfl (.c (k := 23) (by kernel_rfl) rfl rfl .n))) rfl rfl
      · exact trip_pf (m := 27) rfl (.c (k := 5) (by kernel_rfl) rfl rfl (.c (k := 11) (by kernel_rfl) rfl rfl (.c (k := 24) (by kernel_rfl) rfl rfl .n))) rfl rfl rfl
      exact trip_pv (m := 27) (.c (k := 5) (by kernel_rfl) rfl rfl (.c (k := 25) (by kernel_rfl) rfl rfl .n)) (fun hm0 hm hx => .n) (by kernel_rfl) (by kernel_rfl) rfl
     clear hs w a; intro a w vs44 hs hf
     replace hs : St _ _ _ _ [row q 45 9 out.length (out.flatMap recV), blk g29 [.int .i64 (bt), .int .i64 (btm), .int .i64 (at_), q] 27, blk g5 [.int .i64 (0), .int .i64 (0), .int .i64 (0), .slice none 0 0] 27, blk g4 [.int .i64 (bt), .int .i64 (btm), ub] 24, blk g3 [.int .i64 (at_), .int .i64 (atm), ua] 24] _ _ := hs
     obtain ⟨e26, q26⟩ := hf 26 (by decide)
     replace e26 : _ = some (vs44 26) := e26.val rfl
     rw [show vs44 26 = .bool (true) from q26] at e26
     replace hs := hs.learn e26; clear e26 q26
     clear hf
     refine then_n (hK43 _ _ ?_)
     refine wp_cond_true (hs.ev rfl) ?_
     refine wp_seq_k fun K45 hK46 => ?_
     replace hs := hs.sub (F' := [(75, .bool (true)), (2, .pointer (some ⟨g3, 0, none⟩)), (3, .pointer (some ⟨g4, 0, none⟩)), (4, .pointer (some ⟨g5, 0, none⟩)), (5, .int .i64 (0)), (7, .pointer (some ⟨g29, 0, none⟩)), (8, .int .i64 ((i : Int))), (9, .int .i64 ((k : Int))), (48, .bool (true))]) (.c rfl (.c rfl (.c rfl (.c rfl (.c rfl (.c rfl (.c rfl (.c rfl (.c rfl .n)))))))))
     refine wp_drawG (M0 := [blk g5 [.int .i64 (0), .int .i64 (0), .int .i64 (0), .slice none 0 0] 27, blk g4 [.int .i64 (bt), .int .i64 (btm), ub] 24, blk g3 [.int .i64 (at_), .int .i64 (atm), ua] 24]) (Ds := [Pv 0 (.pointer (some ⟨g29, 3, none⟩)), Pv 1 q, Pv 2 (.pointer (some ⟨g3, 2, none⟩)), Pv 3 ua, Pv 4 (.int .i64 ((i : Int))), Pv 5 (.pointer (some (adr ua (i * 9)))), Pv 6 (.pointer (some (adr ua (i * 9 + 0)))), Pv 7 (.int .i64 ((al.getD i default).id)), Pv 8 (.agg #[.int .i64 (2), .int .i64 ((al.getD i default).id), .int .i64 (0), .int .i64 (0), .int .i64 (0), .int .i64 (0), .int .i64 (0), .int .i64 (0), .int .u16 (0)]), ⟨[], [], [], fun vs47 => vs47 9 = .slice (some ⟨(ptrG (vs47 9)), 0, none⟩) 1 1, fun vs47 => [blk (ptrG (vs47 9)) [.int .i64 (2), .int .i64 ((al.getD i default).id), .int .i64 (0), .int .i64 (0), .int .i64 (0), .int .i64 (0), .int .i64 (0), .int .i64 (0), .int .u16 (0)] 45], none⟩, ⟨[row q 45 9 out.length (out.flatMap recV)], [], [], fun vs47 => True, fun vs47 => [row (vs47 10) 45 9 (out.length + 1) ((out.flatMap recV) ++ ([.int .i64 (2), .int .i64 ((al.getD i default).id), .int .i64 (0), .int .i64 (0), .int .i64 (0), .int .i64 (0), .int .i64 (0), .int .i64 (0), .int .u16 (0)]))], none⟩, Pv 11 (.pointer (some ⟨g29, 3, none⟩)), ⟨[blk g29 [.int .i64 (bt), .int .i64 (btm), .int .i64 (at_), q] 27], [], [10], fun vs47 => True, fun vs47 => [blk g29 [.int .i64 (bt), .int .i64 (btm), .int .i64 (at_), (vs47 10)] 27], none⟩]) (by kernel_rfl) hs rfl (.c .z (.c .z .n)) (by kernel_rfl) (by kernel_rfl) (by kernel_rfl) ?_ ?_
     ·
      refine (.c ?_ (.c ?_ (.c ?_ (.c ?_ (.c ?_ (.c ?_ (.c ?_ (.c ?_ (.c ?_ (.c ?_ (.c ?_ (.c ?_ (.c ?_ .n)))))))))))))
      · exact trip_pv (m := 13) .n (fun hm0 hm hx => .n) (by kernel_rfl) (by kernel_rfl) rfl
      · exact trip_pv (m := 13) (.c (k := 0) (by kernel_rfl) rfl rfl .n) (fun hm0 hm hx => (.c (hm.own (List.mem_append.2 (.inr ((hx 12 (twB_spec 13 _ (by kernel_rfl))).1 _ (List.Mem.head _))))))) (by kernel_rfl) (by kernel_rfl) rfl
      · exact trip_pv (m := 13) .n (fun hm0 hm hx => .n) (by kernel_rfl) (by kernel_rfl) rfl
      · exact trip_pv (m := 13) (.c (k := 2) (by kernel_rfl) rfl rfl .n) (fun hm0 hm hx => (.c (hm0.del (.s (.s .z))))) (by kernel_rfl) (by kernel_rfl) rfl
      · exact trip_pv (m := 13) .n (fun hm0 hm hx => .n) (by kernel_rfl) (by kernel_rfl) rfl
      ·
       intro a_ w_ R_ rest_ vs47 hm hs ht hx
       have hm0 := hm.mid
       replace hs := hs.lrn (ht 3 (twB_spec 13 _ (by kernel_rfl))) rfl rfl
       replace hs := hs.lrn (ht 4 (twB_spec 13 _ (by kernel_rfl))) rfl rfl
       have hs0 := hs.bare
       refine st_ia (j := i) hs rfl rfl (hm.rd0 hca) rfl (by omega) Try.underlying22 Try.sizeOf47 rfl ?_; clear hs; intro a w hs
       exact wpList_nil ⟨rfl, _, _, hs0, (.c (.c .r)), hs, rfl⟩
      ·
       intro a_ w_ R_ rest_ vs47 hm hs ht hx
       have hm0 := hm.mid
       replace hs := hs.lrn (ht 5 (twB_spec 13 _ (by kernel_rfl))) rfl rfl
       have hs0 := hs.bare
       refine st_faV hs rfl (hm.rd0 hca) (by omega) Try.underlying47 rfl Try.sizeOf3 (by decide) (o := i * 9 + 0) rfl rfl ?_; clear hs; intro a w hs
       exact wpList_nil ⟨rfl, _, _, hs0, (.c .r), hs, rfl⟩
      ·
       intro a_ w_ R_ rest_ vs47 hm hs ht hx
       have hm0 := hm.mid
       replace hs := hs.lrn (ht 6 (twB_spec 13 _ (by kernel_rfl))) rfl rfl
       have hs0 := hs.bare
       refine st_ld (u := .int .i64 ((al.getD i default).id)) hs rfl (hm.rd0 hca) ((flat_get1 entV_len al i 0 (by omega) (by decide)).trans rfl) Try.isAgg3 rfl ?_; clear hs; intro a w hs
       exact wpList_nil ⟨rfl, _, _, hs0, (.c .r), hs, rfl⟩
      ·
       intro a_ w_ R_ rest_ vs47 hm hs ht hx
       have hm0 := hm.mid
       replace hs := hs.lrn (ht 7 (twB_spec 13 _ (by kernel_rfl))) rfl rfl
       have hs0 := hs.bare
       refine st_build (it := Try.t45) (zs := [.int .i64 (0), .int .i64 (0), .int .i64 (0), .int .i64 (0), .int .i64 (0), .int .i64 (0), .int .i64 (0), .int .i64 (0), .int .u16 (0)]) (places := [(0, 1), (1, 1), (2, 3), (5, 3), (8, 1)]) hs (.c rfl (.c rfl .n)) Try.underlying45 rfl rfl rfl rfl (.c rfl rfl (.z (.c .n)) (.c rfl rfl (.s (.z (.c .n))) .n)) rfl ?_; clear hs; intro a w hs
       exact wpList_nil ⟨rfl, _, _, hs0, (.c .r), hs, rfl⟩
      ·
       intro a_ w_ R_ rest_ vs47 hm hs ht hx
       have hm0 := hm.mid
       replace hs := hs.lrn (ht 8 (twB_spec 13 _ (by kernel_rfl))) rfl rfl
       have hs0 := hs.bare
       refine st_bs (cs := [.int .i64 (2), .int .i64 ((al.getD i default).id), .int .i64 (0), .int .i64 (0), .int .i64 (0), .int .i64 (0), .int .i64 (0), .int .i64 (0), .int .u16 (0)]) hs (.c .n) (.c rfl .n) Try.underlying25 (ie := Try.t45) rfl rfl rfl rfl (by decide) (by decide) rfl (by decide) rfl rfl rfl ?_; clear hs; intro g48 a w hs
       exact wpList_nil ⟨rfl, _, _, hs0, (.c .r), hs, rfl⟩
      ·
       intro a_ w_ R_ rest_ vs47 hm hs ht hx
       replace hs : St _ _ _ (feet [row q 45 9 out.length (out.flatMap recV)]) [row q 45 9 out.length (out.flatMap recV)] _ _ := hs
       have hm0 := hm.mid
       replace hs := hs.lrn (ht 1 (twB_spec 13 _ (by kernel_rfl))) rfl rfl
       have t9 := ht 9 (twB_spec 13 _ (by kernel_rfl))
       have e9 : _ = some (vs47 9) := t9.val rfl
       rw [show vs47 9 = .slice (some ⟨(ptrG (vs47 9)), 0, none⟩) 1 1 from t9.2.1] at e9
       replace hs := hs.learn e9
       have hs0 := hs.bare
       refine st_app (size := 9) (bytes := 72) hs rfl rfl .z (rd_blk (m := 1) (size := 9) (hm.own (List.mem_append.2 (.inr ((ht 9 (twB_spec 13 _ (by kernel_rfl))).2.2 (later (n := 13) (by kernel_rfl)) _ (List.Mem.head _))))) rfl (by decide)) (by simp [Value.oneCell']) Try.underlying25 (i := Try.t45) rfl rfl rfl rfl rfl (by decide) (by omega) (by simp only [maxLen]; omega) rfl ?_; clear hs; intro v49 a w hs
       exact wpList_nil ⟨rfl, _, _, hs0, (.c (.c .r)), hs, trivial⟩
      · exact trip_pv (m := 13) .n (fun hm0 hm hx => .n) (by kernel_rfl) (by kernel_rfl) rfl
      intro a_ w_ R_ rest_ vs47 hm hs ht hx
      replace hs : St _ _ _ (feet [blk g29 [.int .i64 (bt), .int .i64 (btm), .int .i64 (at_), q] 27]) [blk g29 [.int .i64 (bt), .int .i64 (btm), .int .i64 (at_), q] 27] _ _ := hs
      have hm0 := hm.mid
      have t10 := ht 10 (twB_spec 13 _ (by kernel_rfl))
      have e10 : _ = some (vs47 10) := t10.val rfl
      replace hs := hs.learn e10
      replace hs := hs.lrn (ht 11 (twB_spec 13 _ (by kernel_rfl))) rfl rfl
      have hs0 := hs.bare
      refine st_stB hs rfl rfl .z (.s (.s (.s .z))) (rd_row (hm.own (List.mem_append.2 (.inr ((ht 10 (twB_spec 13 _ (by kernel_rfl))).2.2 (later (n := 13) (by kernel_rfl)) _ (List.Mem.head _)))))).isSl.one Try.sizeOf25 ?_; clear hs; intro a w hs
      exact wpList_nil ⟨rfl, .tuple #[], _, hs0, (.c (.c .r)), hs, trivial⟩
     clear hs w a; intro a w vs47 hs hf
     replace hs : St _ _ _ _ [blk g5 [.int .i64 (0), .int .i64 (0), .int .i64 (0), .slice none 0 0] 27, blk g4 [.int .i64 (bt), .int .i64 (btm), ub] 24, blk g3 [.int .i64 (at_), .int .i64 (atm), ua] 24, blk (ptrG (vs47 9)) [.int .i64 (2), .int .i64 ((al.getD i default).id), .int .i64 (0), .int .i64 (0), .int .i64 (0), .int .i64 (0), .int .i64 (0), .int .i64 (0), .int .u16 (0)] 45, row (vs47 10) 45 9 (out.length + 1) ((out.flatMap recV) ++ ([.int .i64 (2), .int .i64 ((al.getD i default).id), .int .i64 (0), .int .i64 (0), .int .i64 (0), .int .i64 (0), .int .i64 (0), .int .i64 (0), .int .u16 (0)])), blk g29 [.int .i64 (bt), .int .i64 (btm), .int .i64 (at_), (vs47 10)] 27] _ _ := hs
     generalize ptrG (vs47 9) = g50 at hs
     generalize vs47 10 = v51 at hs
     clear hf
     refine then_n (hK46 _ _ ?_)
     refine wp_seq_k fun K52 hK53 => ?_
     refine wp_region_lit ?_
     refine st_mv hs rfl rfl ?_; clear hs w a; intro a w hs
     refine st_addR hs rfl rfl (by omega) rfl ?_; clear hs w a; intro a w hs
     refine st_as hs rfl rfl ?_; clear hs w a; intro a w hs
     have hv_ : ((i : Int) + 1 : Int) = (((i + 1 : Nat) : Int) : Int) := by omega
     rw [hv_] at hs; clear hv_
     refine wpList_nil ?_
     refine then_n (hK53 _ _ ?_)
     refine wp_exit ?_
     refine th_e ?_
     refine in_hit ?_
     refine then_n ?_
     have hF := dInv_rem (by omega) hI1_2 (by omega)
     have hol : (out ++ [remOf (al.getD i default)]).length ≤ i + 1 + k := by have := hI1_3; rw [List.length_append]; show _ + 1 ≤ _; omega
     replace hs := hs.rerow (.s (.s (.s (.s .z)))) (m' := (out ++ [remOf (al.getD i default)]).length) (xs' := ((out ++ [remOf (al.getD i default)]).flatMap recV)) (by rw [List.length_append]; rfl) (by rw [List.flatMap_append]; rfl)
     replace hs := hs.drop (.c (.s (.s (.s (.s .z)))) .n)
     replace hs := hs.reorder (.c .z (.c (.s (.s (.s .z))) (.c .z (.c .z (.c .z .n)))))
     refine ⟨_, ?_, i + 1, k, v51, out ++ [remOf (al.getD i default)], rfl, hs.sub (.c rfl (.c rfl (.c rfl (.c rfl (.c rfl (.c rfl (.c rfl .n))))))), by omega, by omega, hF, hol⟩
     omega
    by_cases ci : i < al.length
    ·
     replace hs := hs.sub (F' := [(2, .pointer (some ⟨g3, 0, none⟩)), (3, .pointer (some ⟨g4, 0, none⟩)), (4, .pointer (some ⟨g5, 0, none⟩)), (5, .int .i64 (0)), (7, .pointer (some ⟨g29, 0, none⟩)), (8, .int .i64 ((i : Int))), (9, .int .i64 ((k : Int))), (48, .bool (true))]) (.c rfl (.c rfl (.c rfl (.c rfl (.c rfl (.c rfl (.c rfl (.c rfl .n))))))))
     refine wp_drawG (M0 := [row q 45 9 out.length (out.flatMap recV), blk g29 [.int .i64 (bt), .int .i64 (btm), .int .i64 (at_), q] 27, blk g5 [.int .i64 (0), .int .i64 (0), .int .i64 (0), .slice none 0 0] 27, blk g4 [.int .i64 (bt), .int .i64 (btm), ub] 24, blk g3 [.int .i64 (at_), .int .i64 (atm), ua] 24]) (Ds := [Pv 0 (.int .i64 ((k : Int))), Pv 1 (.pointer (some ⟨g4, 2, none⟩)), Pv 2 ub, Pv 3 (.int .i64 (((bl.length : Nat) : Int))), Pv 4 (.bool (false)), Pv 5 (.bool (false)), Pv 6 (.int .i64 ((i : Int))), Pv 7 (.pointer (some ⟨g3, 2, none⟩)), Pv 8 ua, Pv 9 (.int .i64 (((al.length : Nat) : Int))), Pv 10 (.bool (true)), Pv 11 (.bool (true)), Pv 12 (.pointer (some ⟨g3, 2, none⟩)), Pv 13 ua, Pv 14 (.int .i64 ((i : Int))), Pv 15 (.pointer (some (adr ua (i * 9)))), Pv 16 (.pointer (some (adr ua (i * 9 + 0)))), Pv 17 (.int .i64 ((al.getD i default).id)), Pv 18 (.pointer (some ⟨g4, 2, none⟩)), Pv 19 ub, Pv 20 (.int .i64 ((k : Int))), Pv 21 (.pointer (some (adr ub (k * 9)))), Pv 22 (.pointer (some (adr ub (k * 9 + 0)))), Pv 23 (.int .i64 ((bl.getD k default).id)), Pv 24 (.bool (decide (((al.getD i default).id) < ((bl.getD k default).id)))), Pv 25 (.bool (decide (((al.getD i default).id) < ((bl.getD k default).id)))), Pv 26 (.bool (decide (((al.getD i default).id) < ((bl.getD k default).id))))]) (by kernel_rfl) hs rfl .n (by kernel_rfl) (by kernel_rfl) (by kernel_rfl) ?_ ?_
     ·
      refine (.c ?_ (.c ?_ (.c ?_ (.c ?_ (.c ?_ (.c ?_ (.c ?_ (.c ?_ (.c ?_ (.c ?_ (.c ?_ (.c ?_ (.c ?_ (.c ?_ (.c ?_ (.c ?_ (.c ?_ (.c ?_ (.c ?_ (.c ?_ (.c ?_ (.c ?_ (.c ?_ (.c ?_ (.c ?_ (.c ?_ (.c ?_ .n)))))))))))))))))))))))))))
      · exact trip_pv (m := 27) .n (fun hm0 hm hx => .n) (by kernel_rfl) (by kernel_rfl) rfl
      · exact trip_pv (m := 27) .n (fun hm0 hm hx => .n) (by kernel_rfl) (by kernel_rfl) rfl
      · exact trip_pv (m := 27) (.c (k := 1) (by kernel_rfl) rfl rfl .n) (fun hm0 hm hx => (.c (hm0.del (.s (.s (.s .z)))))) (by kernel_rfl) (by kernel_rfl) rfl
      ·
       intro a_ w_ R_ rest_ vs54 hm hs ht hx
       have hm0 := hm.mid
       replace hs := hs.lrn (ht 2 (twB_spec 27 _ (by kernel_rfl))) rfl rfl
       have hs0 := hs.bare
       refine st_len hs rfl (hm.rd0 hcb).isSl Try.underlying22 rfl ?_; clear hs; intro a w hs
       exact wpList_nil ⟨rfl, _, _, hs0, (.c .r), hs, rfl⟩
      ·
       intro a_ w_ R_ rest_ vs54 hm hs ht hx
       have hm0 := hm.mid
       replace hs := hs.lrn (ht 0 (twB_spec 27 _ (by kernel_rfl))) rfl rfl
       replace hs := hs.lrn (ht 3 (twB_spec 27 _ (by kernel_rfl))) rfl rfl
       have hs0 := hs.bare
       refine st_eql hs rfl rfl rfl ?_; clear hs; intro a w hs
       have hb_ : (((k : Int) : Int) == (((bl.length : Nat) : Int))) = false := beq_eq_false_iff_ne.2 (by omega)
       rw [hb_] at hs; clear hb_
       exact wpList_nil ⟨rfl, _, _, hs0, (.c (.c .r)), hs, rfl⟩
      · exact trip_pv (m := 27) (.c (k := 4) (by kernel_rfl) rfl rfl .n) (fun hm0 hm hx => .n) (by kernel_rfl) (by kernel_rfl) rfl
      · exact trip_pg (m := 27) rfl (.c (k := 5) (by kernel_rfl) rfl rfl .n) rfl (fun hm0 hm hx => .n) (by kernel_rfl) (by kernel_rfl) rfl
      · exact trip_pg (m := 27) rfl (.c (k := 5) (by kernel_rfl) rfl rfl .n) rfl (fun hm0 hm hx => .n) (by kernel_rfl) (by kernel_rfl) rfl
      · exact trip_pg (m := 27) rfl (.c (k := 5) (by kernel_rfl) rfl rfl (.c (k := 7) (by kernel_rfl) rfl rfl .n)) rfl (fun hm0 hm hx => (.c (hm0.del (.s (.s (.s (.s .z))))))) (by kernel_rfl) (by kernel_rfl) rfl
      ·
       intro a_ w_ R_ rest_ vs54 hm hs ht hx
       have hm0 := hm.mid
       replace hs := hs.lrn (ht 5 (twB_spec 27 _ (by kernel_rfl))) rfl rfl
       replace hs := hs.lrn (ht 8 (twB_spec 27 _ (by kernel_rfl))) rfl rfl
       have hs0 := hs.bare
       refine st_guardT hs rfl rfl rfl ?_
       refine st_len hs rfl (hm.rd0 hca).isSl Try.underlying22 rfl ?_; clear hs; intro a w hs
       exact wpList_nil ⟨rfl, _, _, hs0, (.c (.c .r)), hs, rfl⟩
      ·
       intro a_ w_ R_ rest_ vs54 hm hs ht hx
       have hm0 := hm.mid
       replace hs := hs.lrn (ht 5 (twB_spec 27 _ (by kernel_rfl))) rfl rfl
       replace hs := hs.lrn (ht 6 (twB_spec 27 _ (by kernel_rfl))) rfl rfl
       replace hs := hs.lrn (ht 9 (twB_spec 27 _ (by kernel_rfl))) rfl rfl
       have hs0 := hs.bare
       refine st_guardT hs rfl rfl rfl ?_
       refine st_lss hs rfl rfl rfl ?_; clear hs; intro a w hs
       have hb_ : (decide ((i : Int) < (((al.length : Nat) : Int)))) = true := decide_eq_true (by omega)
       rw [hb_] at hs; clear hb_
       exact wpList_nil ⟨rfl, _, _, hs0, (.c (.c (.c .r))), hs, rfl⟩
      · exact trip_pg (m := 27) rfl (.c (k := 5) (by kernel_rfl) rfl rfl (.c (k := 10) (by kernel_rfl) rfl rfl .n)) rfl (fun hm0 hm hx => .n) (by kernel_rfl) (by kernel_rfl) rfl
      · exact trip_pg (m := 27) rfl (.c (k := 11) (by kernel_rfl) rfl rfl .n) rfl (fun hm0 hm hx => .n) (by kernel_rfl) (by kernel_rfl) rfl
      · exact trip_pg (m := 27) rfl (.c (k := 11) (by kernel_rfl) rfl rfl (.c (k := 12) (by kernel_rfl) rfl rfl .n)) rfl (fun hm0 hm hx => (.c (hm0.del (.s (.s (.s (.s .z))))))) (by kernel_rfl) (by kernel_rfl) rfl
      · exact trip_pg (m := 27) rfl (.c (k := 11) (by kernel_rfl) rfl rfl .n) rfl (fun hm0 hm hx => .n) (by kernel_rfl) (by kernel_rfl) rfl
      ·
       intro a_ w_ R_ rest_ vs54 hm hs ht hx
       have hm0 := hm.mid
       replace hs := hs.lrn (ht 11 (twB_spec 27 _ (by kernel_rfl))) rfl rfl
       replace hs := hs.lrn (ht 13 (twB_spec 27 _ (by kernel_rfl))) rfl rfl
       replace hs := hs.lrn (ht 14 (twB_spec 27 _ (by kernel_rfl))) rfl rfl
       have hs0 := hs.bare
       refine st_guardT hs rfl rfl rfl ?_
       refine st_ia (j := i) hs rfl rfl (hm.rd0 hca) rfl (by omega) Try.underlying22 Try.sizeOf47 rfl ?_; clear hs; intro a w hs
       exact wpList_nil ⟨rfl, _, _, hs0, (.c (.c (.c .r))), hs, rfl⟩
      ·
       intro a_ w_ R_ rest_ vs54 hm hs ht hx
       have hm0 := hm.mid
       replace hs := hs.lrn (ht 11 (twB_spec 27 _ (by kernel_rfl))) rfl rfl
       replace hs := hs.lrn (ht 15 (twB_spec 27 _ (by kernel_rfl))) rfl rfl
       have hs0 := hs.bare
       refine st_guardT hs rfl rfl rfl ?_
       refine st_faV hs rfl (hm.rd0 hca) (by omega) Try.underlying47 rfl Try.sizeOf3 (by decide) (o := i * 9 + 0) rfl rfl ?_; clear hs; intro a w hs
       exact wpList_nil ⟨rfl, _, _, hs0, (.c (.c .r)), hs, rfl⟩
      ·
       intro a_ w_ R_ rest_ vs54 hm hs ht hx
       have hm0 := hm.mid
       replace hs := hs.lrn (ht 11 (twB_spec 27 _ (by kernel_rfl))) rfl rfl
       replace hs := hs.lrn (ht 16 (twB_spec 27 _ (by kernel_rfl))) rfl rfl
       have hs0 := hs.bare
       refine st_guardT hs rfl rfl rfl ?_
       refine st_ld (u := .int .i64 ((al.getD i default).id)) hs rfl (hm.rd0 hca) ((flat_get1 entV_len al i 0 (by omega) (by decide)).trans rfl) Try.isAgg3 rfl ?_; clear hs; intro a w hs
       exact wpList_nil ⟨rfl, _, _, hs0, (.c (.c .r)), hs, rfl⟩
      · exact trip_pg (m := 27) rfl (.c (k := 11) (by kernel_rfl) rfl rfl .n) rfl (fun hm0 hm hx => .n) (by kernel_rfl) (by kernel_rfl) rfl
      · exact trip_pg (m := 27) rfl (.c (k := 11) (by kernel_rfl) rfl rfl (.c (k := 18) (by kernel_rfl) rfl rfl .n)) rfl (fun hm0 hm hx => (.c (hm0.del (.s (.s (.s .z)))))) (by kernel_rfl) (by kernel_rfl) rfl
      · exact trip_pg (m := 27) rfl (.c (k := 11) (by kernel_rfl) rfl rfl .n) rfl (fun hm0 hm hx => .n) (by kernel_rfl) (by kernel_rfl) rfl
      ·
       intro a_ w_ R_ rest_ vs54 hm hs ht hx
       have hm0 := hm.mid
       replace hs := hs.lrn (ht 11 (twB_spec 27 _ (by kernel_rfl))) rfl rfl
       replace hs := hs.lrn (ht 19 (twB_spec 27 _ (by kernel_rfl))) rfl rfl
       replace hs := hs.lrn (ht 20 (twB_spec 27 _ (by kernel_rfl))) rfl rfl
       have hs0 := hs.bare
       refine st_guardT hs rfl rfl rfl ?_
       refine st_ia (j := k) hs rfl rfl (hm.rd0 hcb) rfl (by omega) Try.underlying22 Try.sizeOf47 rfl ?_; clear hs; intro a w hs
       exact wpList_nil ⟨rfl, _, _, hs0, (.c (.c (.c .r))), hs, rfl⟩
      ·
       intro a_ w_ R_ rest_ vs54 hm hs ht hx
       have hm0 := hm.mid
       replace hs := hs.lrn (ht 11 (twB_spec 27 _ (by kernel_rfl))) rfl rfl
       replace hs := hs.lrn (ht 21 (twB_spec 27 _ (by kernel_rfl))) rfl rfl
       have hs0 := hs.bare
       refine st_guardT hs rfl rfl rfl ?_
       refine st_faV hs rfl (hm.rd0 hcb) (by omega) Try.underlying47 rfl Try.sizeOf3 (by decide) (o := k * 9 + 0) rfl rfl ?_; clear hs; intro a w hs
       exact wpList_nil ⟨rfl, _, _, hs0, (.c (.c .r)), hs, rfl⟩
      ·
       intro a_ w_ R_ rest_ vs54 hm hs ht hx
       have hm0 := hm.mid
       replace hs := hs.lrn (ht 11 (twB_spec 27 _ (by kernel_rfl))) rfl rfl
       replace hs := hs.lrn (ht 22 (twB_spec 27 _ (by kernel_rfl))) rfl rfl
       have hs0 := hs.bare
       refine st_guardT hs rfl rfl rfl ?_
       refine st_ld (u := .int .i64 ((bl.getD k default).id)) hs rfl (hm.rd0 hcb) ((flat_get1 entV_len bl k 0 (by omega) (by decide)).trans rfl) Try.isAgg3 rfl ?_; clear hs; intro a w hs
       exact wpList_nil ⟨rfl, _, _, hs0, (.c (.c .r)), hs, rfl⟩
      · exact trip_pg (m := 27) rfl (.c (k := 11) (by kernel_rfl) rfl rfl (.c (k := 17) (by kernel_rfl) rfl rfl (.c (k := 23) (by kernel_rfl) rfl rfl .n))) rfl (fun hm0 hm hx => .n) (by kernel_rfl) (by kernel_rfl) rfl
      · exact trip_pg (m := 27) rfl (.c (k := 5) (by kernel_rfl) rfl rfl (.c (k := 11) (by kernel_rfl) rfl rfl (.c (k := 24) (by kernel_rfl) rfl rfl .n))) rfl (fun hm0 hm hx => .n) (by kernel_rfl) (by kernel_rfl) rfl
      exact trip_pv (m := 27) (.c (k := 5) (by kernel_rfl) rfl rfl (.c (k := 25) (by kernel_rfl) rfl rfl .n)) (fun hm0 hm hx => .n) (by kernel_rfl) (by kernel_rfl) rfl
     clear hs w a; intro a w vs54 hs hf
     replace hs : St _ _ _ _ [row q 45 9 out.length (out.flatMap recV), blk g29 [.int .i64 (bt), .int .i64 (btm), .int .i64 (at_), q] 27, blk g5 [.int .i64 (0), .int .i64 (0), .int .i64 (0), .slice none 0 0] 27, blk g4 [.int .i64 (bt), .int .i64 (btm), ub] 24, blk g3 [.int .i64 (at_), .int .i64 (atm), ua] 24] _ _ := hs
     obtain ⟨e26, q26⟩ := hf 26 (by decide)
     replace e26 : _ = some (vs54 26) := e26.val rfl
     rw [show vs54 26 = .bool (decide (((al.getD i default).id) < ((bl.getD k default).id))) from q26] at e26
     replace hs := hs.learn e26; clear e26 q26
     clear hf
     refine then_n (hK43 _ _ ?_)
     refine wp_if hs rfl (fun hc55 => ?_) (fun hc55 => ?_)
     ·
      replace hc55 := of_decide_eq_true hc55
      refine wp_seq_k fun K56 hK57 => ?_
      replace hs := hs.sub (F' := [(75, .bool (decide (((al.getD i default).id) < ((bl.getD k default).id)))), (2, .pointer (some ⟨g3, 0, none⟩)), (3, .pointer (some ⟨g4, 0, none⟩)), (4, .pointer (some ⟨g5, 0, none⟩)), (5, .int .i64 (0)), (7, .pointer (some ⟨g29, 0, none⟩)), (8, .int .i64 ((i : Int))), (9, .int .i64 ((k : Int))), (48, .bool (true))]) (.c rfl (.c rfl (.c rfl (.c rfl (.c rfl (.c rfl (.c rfl (.c rfl (.c rfl .n)))))))))
      refine wp_drawG (M0 := [blk g5 [.int .i64 (0), .int .i64 (0), .int .i64 (0), .slice none 0 0] 27, blk g4 [.int .i64 (bt), .int .i64 (btm), ub] 24, blk g3 [.int .i64 (at_), .int .i64 (atm), ua] 24]) (Ds := [Pv 0 (.pointer (some ⟨g29, 3, none⟩)), Pv 1 q, Pv 2 (.pointer (some ⟨g3, 2, none⟩)), Pv 3 ua, Pv 4 (.int .i64 ((i : Int))), Pv 5 (.pointer (some (adr ua (i * 9)))), Pv 6 (.pointer (some (adr ua (i * 9 + 0)))), Pv 7 (.int .i64 ((al.getD i default).id)), Pv 8 (.agg #[.int .i64 (2), .int .i64 ((al.getD i default).id), .int .i64 (0), .int .i64 (0), .int .i64 (0), .int .i64 (0), .int .i64 (0), .int .i64 (0), .int .u16 (0)]), ⟨[], [], [], fun vs58 => vs58 9 = .slice (some ⟨(ptrG (vs58 9)), 0, none⟩) 1 1, fun vs58 => [blk (ptrG (vs58 9)) [.int .i64 (2), .int .i64 ((al.getD i default).id), .int .i64 (0), .int .i64 (0), .int .i64 (0), .int .i64 (0), .int .i64 (0), .int .i64 (0), .int .u16 (0)] 45], none⟩, ⟨[row q 45 9 out.length (out.flatMap recV)], [], [], fun vs58 => True, fun vs58 => [row (vs58 10) 45 9 (out.length + 1) ((out.flatMap recV) ++ ([.int .i64 (2), .int .i64 ((al.getD i default).id), .int .i64 (0), .int .i64 (0), .int .i64 (0), .int .i64 (0), .int .i64 (0), .int .i64 (0), .int .u16 (0)]))], none⟩, Pv 11 (.pointer (some ⟨g29, 3, none⟩)), ⟨[blk g29 [.int .i64 (bt), .int .i64 (btm), .int .i64 (at_), q] 27], [], [10], fun vs58 => True, fun vs58 => [blk g29 [.int .i64 (bt), .int .i64 (btm), .int .i64 (at_), (vs58 10)] 27], none⟩]) (by kernel_rfl) hs rfl (.c .z (.c .z .n)) (by kernel_rfl) (by kernel_rfl) (by kernel_rfl) ?_ ?_
      ·
       refine (.c ?_ (.c ?_ (.c ?_ (.c ?_ (.c ?_ (.c ?_ (.c ?_ (.c ?_ (.c ?_ (.c ?_ (.c ?_ (.c ?_ (.c ?_ .n)))))))))))))
       · exact trip_pv (m := 13) .n (fun hm0 hm hx => .n) (by kernel_rfl) (by kernel_rfl) rfl
       · exact trip_pv (m := 13) (.c (k := 0) (by kernel_rfl) rfl rfl .n) (fun hm0 hm hx => (.c (hm.own (List.mem_append.2 (.inr ((hx 12 (twB_spec 13 _ (by kernel_rfl))).1 _ (List.Mem.head _))))))) (by kernel_rfl) (by kernel_rfl) rfl
       · exact trip_pv (m := 13) .n (fun hm0 hm hx => .n) (by kernel_rfl) (by kernel_rfl) rfl
       · exact trip_pv (m := 13) (.c (k := 2) (by kernel_rfl) rfl rfl .n) (fun hm0 hm hx => (.c (hm0.del (.s (.s .z))))) (by kernel_rfl) (by kernel_rfl) rfl
       · exact trip_pv (m := 13) .n (fun hm0 hm hx => .n) (by kernel_rfl) (by kernel_rfl) rfl
       ·
        intro a_ w_ R_ rest_ vs58 hm hs ht hx
        have hm0 := hm.mid
        replace hs := hs.lrn (ht 3 (twB_spec 13 _ (by kernel_rfl))) rfl rfl
        replace hs := hs.lrn (ht 4 (twB_spec 13 _ (by kernel_rfl))) rfl rfl
        have hs0 := hs.bare
        refine st_ia (j := i) hs rfl rfl (hm.rd0 hca) rfl (by omega) Try.underlying22 Try.sizeOf47 rfl ?_; clear hs; intro a w hs
        exact wpList_nil ⟨rfl, _, _, hs0, (.c (.c .r)), hs, rfl⟩
       ·
        intro a_ w_ R_ rest_ vs58 hm hs ht hx
        have hm0 := hm.mid
        replace hs := hs.lrn (ht 5 (twB_spec 13 _ (by kernel_rfl))) rfl rfl
        have hs0 := hs.bare
        refine st_faV hs rfl (hm.rd0 hca) (by omega) Try.underlying47 rfl Try.sizeOf3 (by decide) (o := i * 9 + 0) rfl rfl ?_; clear hs; intro a w hs
        exact wpList_nil ⟨rfl, _, _, hs0, (.c .r), hs, rfl⟩
       ·
        intro a_ w_ R_ rest_ vs58 hm hs ht hx
        have hm0 := hm.mid
        replace hs := hs.lrn (ht 6 (twB_spec 13 _ (by kernel_rfl))) rfl rfl
        have hs0 := hs.bare
        refine st_ld (u := .int .i64 ((al.getD i default).id)) hs rfl (hm.rd0 hca) ((flat_get1 entV_len al i 0 (by omega) (by decide)).trans rfl) Try.isAgg3 rfl ?_; clear hs; intro a w hs
        exact wpList_nil ⟨rfl, _, _, hs0, (.c .r), hs, rfl⟩
       ·
        intro a_ w_ R_ rest_ vs58 hm hs ht hx
        have hm0 := hm.mid
        replace hs := hs.lrn (ht 7 (twB_spec 13 _ (by kernel_rfl))) rfl rfl
        have hs0 := hs.bare
        refine st_build (it := Try.t45) (zs := [.int .i64 (0), .int .i64 (0), .int .i64 (0), .int .i64 (0), .int .i64 (0), .int .i64 (0), .int .i64 (0), .int .i64 (0), .int .u16 (0)]) (places := [(0, 1), (1, 1), (2, 3), (5, 3), (8, 1)]) hs (.c rfl (.c rfl .n)) Try.underlying45 rfl rfl rfl rfl (.c rfl rfl (.z (.c .n)) (.c rfl rfl (.s (.z (.c .n))) .n)) rfl ?_; clear hs; intro a w hs
        exact wpList_nil ⟨rfl, _, _, hs0, (.c .r), hs, rfl⟩
       ·
        intro a_ w_ R_ rest_ vs58 hm hs ht hx
        have hm0 := hm.mid
        replace hs := hs.lrn (ht 8 (twB_spec 13 _ (by kernel_rfl))) rfl rfl
        have hs0 := hs.bare
        refine st_bs (cs := [.int .i64 (2), .int .i64 ((al.getD i default).id), .int .i64 (0), .int .i64 (0), .int .i64 (0), .int .i64 (0), .int .i64 (0), .int .i64 (0), .int .u16 (0)]) hs (.c .n) (.c rfl .n) Try.underlying25 (ie := Try.t45) rfl rfl rfl rfl (by decide) (by decide) rfl (by decide) rfl rfl rfl ?_; clear hs; intro g59 a w hs
        exact wpList_nil ⟨rfl, _, _, hs0, (.c .r), hs, rfl⟩
       ·
        intro a_ w_ R_ rest_ vs58 hm hs ht hx
        replace hs : St _ _ _ (feet [row q 45 9 out.length (out.flatMap recV)]) [row q 45 9 out.length (out.flatMap recV)] _ _ := hs
        have hm0 := hm.mid
        replace hs := hs.lrn (ht 1 (twB_spec 13 _ (by kernel_rfl))) rfl rfl
        have t9 := ht 9 (twB_spec 13 _ (by kernel_rfl))
        have e9 : _ = some (vs58 9) := t9.val rfl
        rw [show vs58 9 = .slice (some ⟨(ptrG (vs58 9)), 0, none⟩) 1 1 from t9.2.1] at e9
        replace hs := hs.learn e9
        have hs0 := hs.bare
        refine st_app (size := 9) (bytes := 72) hs rfl rfl .z (rd_blk (m := 1) (size := 9) (hm.own (List.mem_append.2 (.inr ((ht 9 (twB_spec 13 _ (by kernel_rfl))).2.2 (later (n := 13) (by kernel_rfl)) _ (List.Mem.head _))))) rfl (by decide)) (by simp [Value.oneCell']) Try.underlying25 (i := Try.t45) rfl rfl rfl rfl rfl (by decide) (by omega) (by simp only [maxLen]; omega) rfl ?_; clear hs; intro v60 a w hs
        exact wpList_nil ⟨rfl, _, _, hs0, (.c (.c .r)), hs, trivial⟩
       · exact trip_pv (m := 13) .n (fun hm0 hm hx => .n) (by kernel_rfl) (by kernel_rfl) rfl
       intro a_ w_ R_ rest_ vs58 hm hs ht hx
       replace hs : St _ _ _ (feet [blk g29 [.int .i64 (bt), .int .i64 (btm), .int .i64 (at_), q] 27]) [blk g29 [.int .i64 (bt), .int .i64 (btm), .int .i64 (at_), q] 27] _ _ := hs
       have hm0 := hm.mid
       have t10 := ht 10 (twB_spec 13 _ (by kernel_rfl))
       have e10 : _ = some (vs58 10) := t10.val rfl
       replace hs := hs.learn e10
       replace hs := hs.lrn (ht 11 (twB_spec 13 _ (by kernel_rfl))) rfl rfl
       have hs0 := hs.bare
       refine st_stB hs rfl rfl .z (.s (.s (.s .z))) (rd_row (hm.own (List.mem_append.2 (.inr ((ht 10 (twB_spec 13 _ (by kernel_rfl))).2.2 (later (n := 13) (by kernel_rfl)) _ (List.Mem.head _)))))).isSl.one Try.sizeOf25 ?_; clear hs; intro a w hs
       exact wpList_nil ⟨rfl, .tuple #[], _, hs0, (.c (.c .r)), hs, trivial⟩
      clear hs w a; intro a w vs58 hs hf
      replace hs : St _ _ _ _ [blk g5 [.int .i64 (0), .int .i64 (0), .int .i64 (0), .slice none 0 0] 27, blk g4 [.int .i64 (bt), .int .i64 (btm), ub] 24, blk g3 [.int .i64 (at_), .int .i64 (atm), ua] 24, blk (ptrG (vs58 9)) [.int .i64 (2), .int .i64 ((al.getD i default).id), .int .i64 (0), .int .i64 (0), .int .i64 (0), .int .i64 (0), .int .i64 (0), .int .i64 (0), .int .u16 (0)] 45, row (vs58 10) 45 9 (out.length + 1) ((out.flatMap recV) ++ ([.int .i64 (2), .int .i64 ((al.getD i default).id), .int .i64 (0), .int .i64 (0), .int .i64 (0), .int .i64 (0), .int .i64 (0), .int .i64 (0), .int .u16 (0)])), blk g29 [.int .i64 (bt), .int .i64 (btm), .int .i64 (at_), (vs58 10)] 27] _ _ := hs
      generalize ptrG (vs58 9) = g61 at hs
      generalize vs58 10 = v62 at hs
      clear hf
      refine then_n (hK57 _ _ ?_)
      refine wp_seq_k fun K63 hK64 => ?_
      refine wp_region_lit ?_
      refine st_mv hs rfl rfl ?_; clear hs w a; intro a w hs
      refine st_addR hs rfl rfl (by omega) rfl ?_; clear hs w a; intro a w hs
      refine st_as hs rfl rfl ?_; clear hs w a; intro a w hs
      have hv_ : ((i : Int) + 1 : Int) = (((i + 1 : Nat) : Int) : Int) := by omega
      rw [hv_] at hs; clear hv_
      refine wpList_nil ?_
      refine then_n (hK64 _ _ ?_)
      refine wp_exit ?_
      refine th_e ?_
      refine in_hit ?_
      refine then_n ?_
      have hF := dInv_rem (by omega) hI1_2 (by omega)
      have hol : (out ++ [remOf (al.getD i default)]).length ≤ i + 1 + k := by have := hI1_3; rw [List.length_append]; show _ + 1 ≤ _; omega
      replace hs := hs.rerow (.s (.s (.s (.s .z)))) (m' := (out ++ [remOf (al.getD i default)]).length) (xs' := ((out ++ [remOf (al.getD i default)]).flatMap recV)) (by rw [List.length_append]; rfl) (by rw [List.flatMap_append]; rfl)
      replace hs := hs.drop (.c (.s (.s (.s (.s .z)))) .n)
      replace hs := hs.reorder (.c .z (.c (.s (.s (.s .z))) (.c .z (.c .z (.c .z .n)))))
      refine ⟨_, ?_, i + 1, k, v62, out ++ [remOf (al.getD i default)], rfl, hs.sub (.c rfl (.c rfl (.c rfl (.c rfl (.c rfl (.c rfl (.c rfl .n))))))), by omega, by omega, hF, hol⟩
      omega
     replace hc55 := of_decide_eq_false hc55
     refine wp_skip ?_
     refine then_n (hK41 _ _ ?_)
     refine wp_seq_k fun K65 hK66 => ?_
     refine wp_region_lit ?_
     refine st_run 3 [(92, .int .i64 ((k : Int))), (91, ub), (90, .pointer (some ⟨g4, 2, none⟩))] hs (.c (hs.mem.del (.s (.s (.s .z)))) .n) (by kernel_rfl) (by kernel_rfl) (by kernel_rfl) ?_; clear hs a; intro a hs
     refine st_ia (j := k) hs rfl rfl (hs.rd0 hcb) rfl (by omega) Try.underlying22 Try.sizeOf47 rfl ?_; clear hs w a; intro a w hs
     refine st_ldA (cs := entV (bl.getD k default)) hs rfl (hs.rd0 hcb) (flat_get entV_len bl k (by omega)) (by rw [flat_len entV_len]; omega) (by omega) Try.isAgg47 Try.sizeOf47 rfl ?_; clear hs w a; intro a w hs
     refine st_alloc (cs := [.int .i64 (0), .int .i64 (0), .int .i64 (0), .int .i64 (0), .int .i64 (0), .int .i64 (0), .int .i64 (0), .int .u16 (0), .int .u8 (0)]) hs Try.zeroValue47 rfl rfl ?_; clear hs w a; intro g67 a w hs
     refine st_stBA hs rfl rfl .z (.z (.c (.c (.c (.c (.c (.c (.c (.c (.c .n)))))))))) (ones_c rfl (ones_c rfl (ones_c rfl (ones_c rfl (ones_c rfl (ones_c rfl (ones_c rfl (ones_c rfl (ones_c rfl ones_n))))))))) Try.sizeOf47 rfl ?_; clear hs w a; intro a w hs
     refine wpList_nil ?_
     refine then_n (hK66 _ _ ?_)
     refine wp_seq_k fun K68 hK69 => ?_
     refine wp_region_lit ?_
     refine st_mv hs rfl rfl ?_; clear hs w a; intro a w hs
     refine st_addR hs rfl rfl (by omega) rfl ?_; clear hs w a; intro a w hs
     refine st_as hs rfl rfl ?_; clear hs w a; intro a w hs
     have hv_ : ((k : Int) + 1 : Int) = (((k + 1 : Nat) : Int) : Int) := by omega
     rw [hv_] at hs; clear hv_
     refine wpList_nil ?_
     refine then_n (hK69 _ _ ?_)
     refine wp_seq_k fun K70 hK71 => ?_
     refine wp_seq_k fun K72 hK73 => ?_
     replace hs := hs.sub (F' := [(9, .int .i64 (((k + 1 : Nat) : Int))), (96, .int .i64 (((k + 1 : Nat) : Int))), (95, .int .i64 ((k : Int))), (10, .pointer (some ⟨g67, 0, none⟩)), (94, .agg #[.int .i64 ((bl.getD k default).id), .int .i64 ((bl.getD k default).p0), .int .i64 ((bl.getD k default).p1), .int .i64 ((bl.getD k default).p2), .int .i64 ((bl.getD k default).v0), .int .i64 ((bl.getD k default).v1), .int .i64 ((bl.getD k default).v2), .int .u16 (((((bl.getD k default).a).toNat : Nat) : Int)), .int .u8 (((((bl.getD k default).g).toNat : Nat) : Int))]), (93, .pointer (some (adr ub (k * 9)))), (92, .int .i64 ((k : Int))), (91, ub), (90, .pointer (some ⟨g4, 2, none⟩)), (75, .bool (decide (((al.getD i default).id) < ((bl.getD k default).id)))), (2, .pointer (some ⟨g3, 0, none⟩)), (3, .pointer (some ⟨g4, 0, none⟩)), (4, .pointer (some ⟨g5, 0, none⟩)), (5, .int .i64 (0)), (7, .pointer (some ⟨g29, 0, none⟩)), (8, .int .i64 ((i : Int))), (48, .bool (true))]) (.c rfl (.c rfl (.c rfl (.c rfl (.c rfl (.c rfl (.c rfl (.c rfl (.c rfl (.c rfl (.c rfl (.c rfl (.c rfl (.c rfl (.c rfl (.c rfl (.c rfl .n)))))))))))))))))
     refine wp_drawG (M0 := [blk g67 [.int .i64 ((bl.getD k default).id), .int .i64 ((bl.getD k default).p0), .int .i64 ((bl.getD k default).p1), .int .i64 ((bl.getD k default).p2), .int .i64 ((bl.getD k default).v0), .int .i64 ((bl.getD k default).v1), .int .i64 ((bl.getD k default).v2), .int .u16 (((((bl.getD k default).a).toNat : Nat) : Int)), .int .u8 (((((bl.getD k default).g).toNat : Nat) : Int))] 47, row q 45 9 out.length (out.flatMap recV), blk g29 [.int .i64 (bt), .int .i64 (btm), .int .i64 (at_), q] 27, blk g5 [.int .i64 (0), .int .i64 (0), .int .i64 (0), .slice none 0 0] 27, blk g4 [.int .i64 (bt), .int .i64 (btm), ub] 24, blk g3 [.int .i64 (at_), .int .i64 (atm), ua] 24]) (Ds := [Pv 0 (.int .i64 ((i : Int))), Pv 1 (.pointer (some ⟨g3, 2, none⟩)), Pv 2 ua, Pv 3 (.int .i64 (((al.length : Nat) : Int))), Pv 4 (.bool (false)), Pv 5 (.bool (false)), Pv 6 (.pointer (some ⟨g67, 0, none⟩)), Pv 7 (.int .i64 ((bl.getD k default).id)), Pv 8 (.pointer (some ⟨g3, 2, none⟩)), Pv 9 ua, Pv 10 (.int .i64 ((i : Int))), Pv 11 (.pointer (some (adr ua (i * 9)))), Pv 12 (.pointer (some (adr ua (i * 9 + 0)))), Pv 13 (.int .i64 ((al.getD i default).id)), Pv 14 (.bool (decide (((bl.getD k default).id) < ((al.getD i default).id)))), Pv 15 (.bool (decide (((bl.getD k default).id) < ((al.getD i default).id))))]) (by kernel_rfl) hs rfl .n (by kernel_rfl) (by kernel_rfl) (by kernel_rfl) ?_ ?_
     ·
      refine (.c ?_ (.c ?_ (.c ?_ (.c ?_ (.c ?_ (.c ?_ (.c ?_ (.c ?_ (.c ?_ (.c ?_ (.c ?_ (.c ?_ (.c ?_ (.c ?_ (.c ?_ (.c ?_ .n))))))))))))))))
      · exact trip_pv (m := 16) .n (fun hm0 hm hx => .n) (by kernel_rfl) (by kernel_rfl) rfl
      · exact trip_pv (m := 16) .n (fun hm0 hm hx => .n) (by kernel_rfl) (by kernel_rfl) rfl
      · exact trip_pv (m := 16) (.c (k := 1) (by kernel_rfl) rfl rfl .n) (fun hm0 hm hx => (.c (hm0.del (.s (.s (.s (.s (.s .z)))))))) (by kernel_rfl) (by kernel_rfl) rfl
      ·
       intro a_ w_ R_ rest_ vs74 hm hs ht hx
       have hm0 := hm.mid
       replace hs := hs.lrn (ht 2 (twB_spec 16 _ (by kernel_rfl))) rfl rfl
       have hs0 := hs.bare
       refine st_len hs rfl (hm.rd0 hca).isSl Try.underlying22 rfl ?_; clear hs; intro a w hs
       exact wpList_nil ⟨rfl, _, _, hs0, (.c .r), hs, rfl⟩
      ·
       intro a_ w_ R_ rest_ vs74 hm hs ht hx
       have hm0 := hm.mid
       replace hs := hs.lrn (ht 0 (twB_spec 16 _ (by kernel_rfl))) rfl rfl
       replace hs := hs.lrn (ht 3 (twB_spec 16 _ (by kernel_rfl))) rfl rfl
       have hs0 := hs.bare
       refine st_eql hs rfl rfl rfl ?_; clear hs; intro a w hs
       have hb_ : (((i : Int) : Int) == (((al.length : Nat) : Int))) = false := beq_eq_false_iff_ne.2 (by omega)
       rw [hb_] at hs; clear hb_
       exact wpList_nil ⟨rfl, _, _, hs0, (.c (.c .r)), hs, rfl⟩
      · exact trip_pv (m := 16) (.c (k := 4) (by kernel_rfl) rfl rfl .n) (fun hm0 hm hx => .n) (by kernel_rfl) (by kernel_rfl) rfl
      · exact trip_pg (m := 16) rfl (.c (k := 5) (by kernel_rfl) rfl rfl .n) rfl (fun hm0 hm hx => .n) (by kernel_rfl) (by kernel_rfl) rfl
      · exact trip_pg (m := 16) rfl (.c (k := 5) (by kernel_rfl) rfl rfl (.c (k := 6) (by kernel_rfl) rfl rfl .n)) rfl (fun hm0 hm hx => (.c (hm0.del .z))) (by kernel_rfl) (by kernel_rfl) rfl
      · exact trip_pg (m := 16) rfl (.c (k := 5) (by kernel_rfl) rfl rfl .n) rfl (fun hm0 hm hx => .n) (by kernel_rfl) (by kernel_rfl) rfl
      · exact trip_pg (m := 16) rfl (.c (k := 5) (by kernel_rfl) rfl rfl (.c (k := 8) (by kernel_rfl) rfl rfl .n)) rfl (fun hm0 hm hx => (.c (hm0.del (.s (.s (.s (.s (.s .z)))))))) (by kernel_rfl) (by kernel_rfl) rfl
      · exact trip_pg (m := 16) rfl (.c (k := 5) (by kernel_rfl) rfl rfl .n) rfl (fun hm0 hm hx => .n) (by kernel_rfl) (by kernel_rfl) rfl
      ·
       intro a_ w_ R_ rest_ vs74 hm hs ht hx
       have hm0 := hm.mid
       replace hs := hs.lrn (ht 5 (twB_spec 16 _ (by kernel_rfl))) rfl rfl
       replace hs := hs.lrn (ht 9 (twB_spec 16 _ (by kernel_rfl))) rfl rfl
       replace hs := hs.lrn (ht 10 (twB_spec 16 _ (by kernel_rfl))) rfl rfl
       have hs0 := hs.bare
       refine st_guardT hs rfl rfl rfl ?_
       refine st_ia (j := i) hs rfl rfl (hm.rd0 hca) rfl (by omega) Try.underlying22 Try.sizeOf47 rfl ?_; clear hs; intro a w hs
       exact wpList_nil ⟨rfl, _, _, hs0, (.c (.c (.c .r))), hs, rfl⟩
      ·
       intro a_ w_ R_ rest_ vs74 hm hs ht hx
       have hm0 := hm.mid
       replace hs := hs.lrn (ht 5 (twB_spec 16 _ (by kernel_rfl))) rfl rfl
       replace hs := hs.lrn (ht 11 (twB_spec 16 _ (by kernel_rfl))) rfl rfl
       have hs0 := hs.bare
       refine st_guardT hs rfl rfl rfl ?_
       refine st_faV hs rfl (hm.rd0 hca) (by omega) Try.underlying47 rfl Try.sizeOf3 (by decide) (o := i * 9 + 0) rfl rfl ?_; clear hs; intro a w hs
       exact wpList_nil ⟨rfl, _, _, hs0, (.c (.c .r)), hs, rfl⟩
      ·
       intro a_ w_ R_ rest_ vs74 hm hs ht hx
       have hm0 := hm.mid
       replace hs := hs.lrn (ht 5 (twB_spec 16 _ (by kernel_rfl))) rfl rfl
       replace hs := hs.lrn (ht 12 (twB_spec 16 _ (by kernel_rfl))) rfl rfl
       have hs0 := hs.bare
       refine st_guardT hs rfl rfl rfl ?_
       refine st_ld (u := .int .i64 ((al.getD i default).id)) hs rfl (hm.rd0 hca) ((flat_get1 entV_len al i 0 (by omega) (by decide)).trans rfl) Try.isAgg3 rfl ?_; clear hs; intro a w hs
       exact wpList_nil ⟨rfl, _, _, hs0, (.c (.c .r)), hs, rfl⟩
      · exact trip_pg (m := 16) rfl (.c (k := 5) (by kernel_rfl) rfl rfl (.c (k := 7) (by kernel_rfl) rfl rfl (.c (k := 13) (by kernel_rfl) rfl rfl .n))) rfl (fun hm0 hm hx => .n) (by kernel_rfl) (by kernel_rfl) rfl
      exact trip_pv (m := 16) (.c (k := 5) (by kernel_rfl) rfl rfl (.c (k := 14) (by kernel_rfl) rfl rfl .n)) (fun hm0 hm hx => .n) (by kernel_rfl) (by kernel_rfl) rfl
     clear hs w a; intro a w vs74 hs hf
     replace hs : St _ _ _ _ [blk g67 [.int .i64 ((bl.getD k default).id), .int .i64 ((bl.getD k default).p0), .int .i64 ((bl.getD k default).p1), .int .i64 ((bl.getD k default).p2), .int .i64 ((bl.getD k default).v0), .int .i64 ((bl.getD k default).v1), .int .i64 ((bl.getD k default).v2), .int .u16 (((((bl.getD k default).a).toNat : Nat) : Int)), .int .u8 (((((bl.getD k default).g).toNat : Nat) : Int))] 47, row q 45 9 out.length (out.flatMap recV), blk g29 [.int .i64 (bt), .int .i64 (btm), .int .i64 (at_), q] 27, blk g5 [.int .i64 (0), .int .i64 (0), .int .i64 (0), .slice none 0 0] 27, blk g4 [.int .i64 (bt), .int .i64 (btm), ub] 24, blk g3 [.int .i64 (at_), .int .i64 (atm), ua] 24] _ _ := hs
     obtain ⟨e15, q15⟩ := hf 15 (by decide)
     replace e15 : _ = some (vs74 15) := e15.val rfl
     rw [show vs74 15 = .bool (decide (((bl.getD k default).id) < ((al.getD i default).id))) from q15] at e15
     replace hs := hs.learn e15; clear e15 q15
     clear hf
     refine then_n (hK73 _ _ ?_)
     refine wp_if hs rfl (fun hc75 => ?_) (fun hc75 => ?_)
     ·
      replace hc75 := of_decide_eq_true hc75
      refine wp_seq_k fun K76 hK77 => ?_
      refine wp_seq_k fun K78 hK79 => ?_
      refine wp_region_lit ?_
      refine st_run 3 [(115, .bool (!((((((bl.getD k default).g).toNat : Nat) : Int) : Int) == 0))), (114, .int .u8 (((((bl.getD k default).g).toNat : Nat) : Int))), (113, .pointer (some ⟨g67, 8, none⟩))] hs (.c (hs.mem.del .z) .n) (by kernel_rfl) (by kernel_rfl) (by kernel_rfl) ?_; clear hs a; intro a hs
      refine wpList_nil ?_
      refine then_n (hK79 _ _ ?_)
      refine wp_if hs rfl (fun hc80 => ?_) (fun hc80 => ?_)
      ·
       replace hc80 := not_t hc80
       replace hc80 := ne_of_beq_f hc80
       refine wp_seq_k fun K81 hK82 => ?_
       refine wp_region_lit ?_
       refine st_build (it := Try.t27) (zs := [.int .i64 (0), .int .i64 (0), .int .i64 (0), .slice none 0 0]) (places := [(0, 1), (1, 1), (2, 1), (3, 1)]) hs .n Try.underlying27 rfl rfl rfl rfl .n rfl ?_; clear hs w a; intro a w hs
       refine st_stBA hs rfl rfl (.s (.s (.s .z))) (.z (.c (.c (.c (.c .n))))) (ones_c rfl (ones_c rfl (ones_c rfl (ones_c rfl ones_n)))) Try.sizeOf27 rfl ?_; clear hs w a; intro a w hs
       refine st_as hs rfl rfl ?_; clear hs w a; intro a w hs
       refine wpList_nil ?_
       refine then_n (hK82 _ _ ?_)
       refine wp_ret ?_
       refine th_r ?_
       refine th_r ?_
       refine in_r ?_
       refine th_r ?_
       refine in_r ?_
       refine th_r ?_
       have hE : dErr at_ atm al bt btm bl = 15 := by first | exact dErr_1 (by omega) | exact dErr_2 (by omega) (by omega) | exact dErr_3 (by omega) (by omega) (by omega) | (rw [dErr_4 (by omega) (by omega) (by omega)]; first | exact mE_none (dInv_perr (by omega) hI1_2 (by omega) (g_n0 (by omega))) | exact mE_none (dInv_eerr (by omega) (by omega) hI1_2 (by omega) (by omega) (not_or.2 ⟨g_ne (by omega), g_ne (by omega)⟩)))
       have hS : dG at_ atm al bt btm bl = ⟨0, 0, 0, []⟩ := dG_e (by omega)
       replace hs := hs.addNil 45 9
       replace hs := hs.rerow .z (m' := (dG at_ atm al bt btm bl).l.length) (xs' := ((dG at_ atm al bt btm bl).l.flatMap recV)) (by rw [hS]; rfl) (by rw [hS]; rfl)
       exact finC2 hs rfl rfl rfl (.s .z) (.z (.c (.c (.c (.c .n))))) Try.isAgg27 Try.sizeOf27 (.c (.s (.s (.s (.s (.s (.s .z)))))) (.c (.s (.s (.s (.s (.s .z))))) (.c (.s (.s (.s (.s .z)))) (.c (.s (.s (.s .z))) (.c (.s (.s .z)) (.c (.s .z) .n)))))) ⟨_, by rw [hE, hS] <;> rfl, rfl⟩
      replace hc80 := not_f hc80
      replace hc80 := eq_of_beq hc80
      refine wp_skip ?_
      refine then_n (hK77 _ _ ?_)
      refine wp_seq_k fun K83 hK84 => ?_
      replace hs := hs.sub (F' := [(115, .bool (!((((((bl.getD k default).g).toNat : Nat) : Int) : Int) == 0))), (114, .int .u8 (((((bl.getD k default).g).toNat : Nat) : Int))), (113, .pointer (some ⟨g67, 8, none⟩)), (112, .bool (decide (((bl.getD k default).id) < ((al.getD i default).id)))), (9, .int .i64 (((k + 1 : Nat) : Int))), (96, .int .i64 (((k + 1 : Nat) : Int))), (95, .int .i64 ((k : Int))), (10, .pointer (some ⟨g67, 0, none⟩)), (94, .agg #[.int .i64 ((bl.getD k default).id), .int .i64 ((bl.getD k default).p0), .int .i64 ((bl.getD k default).p1), .int .i64 ((bl.getD k default).p2), .int .i64 ((bl.getD k default).v0), .int .i64 ((bl.getD k default).v1), .int .i64 ((bl.getD k default).v2), .int .u16 (((((bl.getD k default).a).toNat : Nat) : Int)), .int .u8 (((((bl.getD k default).g).toNat : Nat) : Int))]), (93, .pointer (some (adr ub (k * 9)))), (92, .int .i64 ((k : Int))), (91, ub), (90, .pointer (some ⟨g4, 2, none⟩)), (75, .bool (decide (((al.getD i default).id) < ((bl.getD k default).id)))), (2, .pointer (some ⟨g3, 0, none⟩)), (3, .pointer (some ⟨g4, 0, none⟩)), (4, .pointer (some ⟨g5, 0, none⟩)), (5, .int .i64 (0)), (7, .pointer (some ⟨g29, 0, none⟩)), (8, .int .i64 ((i : Int))), (48, .bool (true))]) (.c rfl (.c rfl (.c rfl (.c rfl (.c rfl (.c rfl (.c rfl (.c rfl (.c rfl (.c rfl (.c rfl (.c rfl (.c rfl (.c rfl (.c rfl (.c rfl (.c rfl (.c rfl (.c rfl (.c rfl (.c rfl .n)))))))))))))))))))))
      refine wp_drawG (M0 := [blk g67 [.int .i64 ((bl.getD k default).id), .int .i64 ((bl.getD k default).p0), .int .i64 ((bl.getD k default).p1), .int .i64 ((bl.getD k default).p2), .int .i64 ((bl.getD k default).v0), .int .i64 ((bl.getD k default).v1), .int .i64 ((bl.getD k default).v2), .int .u16 (((((bl.getD k default).a).toNat : Nat) : Int)), .int .u8 (((((bl.getD k default).g).toNat : Nat) : Int))] 47, blk g5 [.int .i64 (0), .int .i64 (0), .int .i64 (0), .slice none 0 0] 27, blk g4 [.int .i64 (bt), .int .i64 (btm), ub] 24, blk g3 [.int .i64 (at_), .int .i64 (atm), ua] 24]) (Ds := [Pv 0 (.pointer (some ⟨g29, 3, none⟩)), Pv 1 q, Pv 2 (.agg #[.int .i64 ((bl.getD k default).id), .int .i64 ((bl.getD k default).p0), .int .i64 ((bl.getD k default).p1), .int .i64 ((bl.getD k default).p2), .int .i64 ((bl.getD k default).v0), .int .i64 ((bl.getD k default).v1), .int .i64 ((bl.getD k default).v2), .int .u16 (((((bl.getD k default).a).toNat : Nat) : Int)), .int .u8 (((((bl.getD k default).g).toNat : Nat) : Int))]), Pv 3 (.agg #[.int .i64 (((putOf (bl.getD k default))).k), .int .i64 (((putOf (bl.getD k default))).id), .int .i64 (((putOf (bl.getD k default))).p0), .int .i64 (((putOf (bl.getD k default))).p1), .int .i64 (((putOf (bl.getD k default))).p2), .int .i64 (((putOf (bl.getD k default))).v0), .int .i64 (((putOf (bl.getD k default))).v1), .int .i64 (((putOf (bl.getD k default))).v2), .int .u16 ((((((putOf (bl.getD k default))).a).toNat : Nat) : Int))]), ⟨[], [], [], fun vs85 => vs85 4 = .slice (some ⟨(ptrG (vs85 4)), 0, none⟩) 1 1, fun vs85 => [blk (ptrG (vs85 4)) [.int .i64 (((putOf (bl.getD k default))).k), .int .i64 (((putOf (bl.getD k default))).id), .int .i64 (((putOf (bl.getD k default))).p0), .int .i64 (((putOf (bl.getD k default))).p1), .int .i64 (((putOf (bl.getD k default))).p2), .int .i64 (((putOf (bl.getD k default))).v0), .int .i64 (((putOf (bl.getD k default))).v1), .int .i64 (((putOf (bl.getD k default))).v2), .int .u16 ((((((putOf (bl.getD k default))).a).toNat : Nat) : Int))] 45], none⟩, ⟨[row q 45 9 out.length (out.flatMap recV)], [], [], fun vs85 => True, fun vs85 => [row (vs85 5) 45 9 (out.length + 1) ((out.flatMap recV) ++ ([.int .i64 (((putOf (bl.getD k default))).k), .int .i64 (((putOf (bl.getD k default))).id), .int .i64 (((putOf (bl.getD k default))).p0), .int .i64 (((putOf (bl.getD k default))).p1), .int .i64 (((putOf (bl.getD k default))).p2), .int .i64 (((putOf (bl.getD k default))).v0), .int .i64 (((putOf (bl.getD k default))).v1), .int .i64 (((putOf (bl.getD k default))).v2), .int .u16 ((((((putOf (bl.getD k default))).a).toNat : Nat) : Int))]))], none⟩, Pv 6 (.pointer (some ⟨g29, 3, none⟩)), ⟨[blk g29 [.int .i64 (bt), .int .i64 (btm), .int .i64 (at_), q] 27], [], [5], fun vs85 => True, fun vs85 => [blk g29 [.int .i64 (bt), .int .i64 (btm), .int .i64 (at_), (vs85 5)] 27], none⟩]) (by kernel_rfl) hs rfl (.c (.s .z) (.c (.s .z) .n)) (by kernel_rfl) (by kernel_rfl) (by kernel_rfl) ?_ ?_
      ·
       refine (.c ?_ (.c ?_ (.c ?_ (.c ?_ (.c ?_ (.c ?_ (.c ?_ (.c ?_ .n))))))))
       · exact trip_pv (m := 8) .n (fun hm0 hm hx => .n) (by kernel_rfl) (by kernel_rfl) rfl
       · exact trip_pv (m := 8) (.c (k := 0) (by kernel_rfl) rfl rfl .n) (fun hm0 hm hx => (.c (hm.own (List.mem_append.2 (.inr ((hx 7 (twB_spec 8 _ (by kernel_rfl))).1 _ (List.Mem.head _))))))) (by kernel_rfl) (by kernel_rfl) rfl
       · exact trip_pv (m := 8) .n (fun hm0 hm hx => (.c (hm0.del .z))) (by kernel_rfl) (by kernel_rfl) rfl
       ·
        intro a_ w_ R_ rest_ vs85 hm hs ht hx
        have hm0 := hm.mid
        replace hs := hs.lrn (ht 2 (twB_spec 8 _ (by kernel_rfl))) rfl rfl
        have hs0 := hs.bare
        refine st_callP (v := .agg #[.int .i64 (((putOf (bl.getD k default))).k), .int .i64 (((putOf (bl.getD k default))).id), .int .i64 (((putOf (bl.getD k default))).p0), .int .i64 (((putOf (bl.getD k default))).p1), .int .i64 (((putOf (bl.getD k default))).p2), .int .i64 (((putOf (bl.getD k default))).v0), .int .i64 (((putOf (bl.getD k default))).v1), .int .i64 (((putOf (bl.getD k default))).v2), .int .u16 ((((((putOf (bl.getD k default))).a).toNat : Nat) : Int))]) hs (.c rfl .n) Try.call36 (mput_ok (bl.getD k default) _) rfl ?_; clear hs; intro a w hs
        exact wpList_nil ⟨rfl, _, _, hs0, (.c .r), hs, rfl⟩
       ·
        intro a_ w_ R_ rest_ vs85 hm hs ht hx
        have hm0 := hm.mid
        replace hs := hs.lrn (ht 3 (twB_spec 8 _ (by kernel_rfl))) rfl rfl
        have hs0 := hs.bare
        refine st_bs (cs := [.int .i64 (((putOf (bl.getD k default))).k), .int .i64 (((putOf (bl.getD k default))).id), .int .i64 (((putOf (bl.getD k default))).p0), .int .i64 (((putOf (bl.getD k default))).p1), .int .i64 (((putOf (bl.getD k default))).p2), .int .i64 (((putOf (bl.getD k default))).v0), .int .i64 (((putOf (bl.getD k default))).v1), .int .i64 (((putOf (bl.getD k default))).v2), .int .u16 ((((((putOf (bl.getD k default))).a).toNat : Nat) : Int))]) hs (.c .n) (.c rfl .n) Try.underlying25 (ie := Try.t45) rfl rfl rfl rfl (by decide) (by decide) rfl (by decide) rfl rfl rfl ?_; clear hs; intro g86 a w hs
        exact wpList_nil ⟨rfl, _, _, hs0, (.c .r), hs, rfl⟩
       ·
        intro a_ w_ R_ rest_ vs85 hm hs ht hx
        replace hs : St _ _ _ (feet [row q 45 9 out.length (out.flatMap recV)]) [row q 45 9 out.length (out.flatMap recV)] _ _ := hs
        have hm0 := hm.mid
        replace hs := hs.lrn (ht 1 (twB_spec 8 _ (by kernel_rfl))) rfl rfl
        have t4 := ht 4 (twB_spec 8 _ (by kernel_rfl))
        have e4 : _ = some (vs85 4) := t4.val rfl
        rw [show vs85 4 = .slice (some ⟨(ptrG (vs85 4)), 0, none⟩) 1 1 from t4.2.1] at e4
        replace hs := hs.learn e4
        have hs0 := hs.bare
        refine st_app (size := 9) (bytes := 72) hs rfl rfl .z (rd_blk (m := 1) (size := 9) (hm.own (List.mem_append.2 (.inr ((ht 4 (twB_spec 8 _ (by kernel_rfl))).2.2 (later (n := 8) (by kernel_rfl)) _ (List.Mem.head _))))) rfl (by decide)) (by simp [Value.oneCell']) Try.underlying25 (i := Try.t45) rfl rfl rfl rfl rfl (by decide) (by omega) (by simp only [maxLen]; omega) rfl ?_; clear hs; intro v87 a w hs
        exact wpList_nil ⟨rfl, _, _, hs0, (.c (.c .r)), hs, trivial⟩
       · exact trip_pv (m := 8) .n (fun hm0 hm hx => .n) (by kernel_rfl) (by kernel_rfl) rfl
       intro a_ w_ R_ rest_ vs85 hm hs ht hx
       replace hs : St _ _ _ (feet [blk g29 [.int .i64 (bt), .int .i64 (btm), .int .i64 (at_), q] 27]) [blk g29 [.int .i64 (bt), .int .i64 (btm), .int .i64 (at_), q] 27] _ _ := hs
       have hm0 := hm.mid
       have t5 := ht 5 (twB_spec 8 _ (by kernel_rfl))
       have e5 : _ = some (vs85 5) := t5.val rfl
       replace hs := hs.learn e5
       replace hs := hs.lrn (ht 6 (twB_spec 8 _ (by kernel_rfl))) rfl rfl
       have hs0 := hs.bare
       refine st_stB hs rfl rfl .z (.s (.s (.s .z))) (rd_row (hm.own (List.mem_append.2 (.inr ((ht 5 (twB_spec 8 _ (by kernel_rfl))).2.2 (later (n := 8) (by kernel_rfl)) _ (List.Mem.head _)))))).isSl.one Try.sizeOf25 ?_; clear hs; intro a w hs
       exact wpList_nil ⟨rfl, .tuple #[], _, hs0, (.c (.c .r)), hs, trivial⟩
      clear hs w a; intro a w vs85 hs hf
      replace hs : St _ _ _ _ [blk g67 [.int .i64 ((bl.getD k default).id), .int .i64 ((bl.getD k default).p0), .int .i64 ((bl.getD k default).p1), .int .i64 ((bl.getD k default).p2), .int .i64 ((bl.getD k default).v0), .int .i64 ((bl.getD k default).v1), .int .i64 ((bl.getD k default).v2), .int .u16 (((((bl.getD k default).a).toNat : Nat) : Int)), .int .u8 (((((bl.getD k default).g).toNat : Nat) : Int))] 47, blk g5 [.int .i64 (0), .int .i64 (0), .int .i64 (0), .slice none 0 0] 27, blk g4 [.int .i64 (bt), .int .i64 (btm), ub] 24, blk g3 [.int .i64 (at_), .int .i64 (atm), ua] 24, blk (ptrG (vs85 4)) [.int .i64 (((putOf (bl.getD k default))).k), .int .i64 (((putOf (bl.getD k default))).id), .int .i64 (((putOf (bl.getD k default))).p0), .int .i64 (((putOf (bl.getD k default))).p1), .int .i64 (((putOf (bl.getD k default))).p2), .int .i64 (((putOf (bl.getD k default))).v0), .int .i64 (((putOf (bl.getD k default))).v1), .int .i64 (((putOf (bl.getD k default))).v2), .int .u16 ((((((putOf (bl.getD k default))).a).toNat : Nat) : Int))] 45, row (vs85 5) 45 9 (out.length + 1) ((out.flatMap recV) ++ ([.int .i64 (((putOf (bl.getD k default))).k), .int .i64 (((putOf (bl.getD k default))).id), .int .i64 (((putOf (bl.getD k default))).p0), .int .i64 (((putOf (bl.getD k default))).p1), .int .i64 (((putOf (bl.getD k default))).p2), .int .i64 (((putOf (bl.getD k default))).v0), .int .i64 (((putOf (bl.getD k default))).v1), .int .i64 (((putOf (bl.getD k default))).v2), .int .u16 ((((((putOf (bl.getD k default))).a).toNat : Nat) : Int))])), blk g29 [.int .i64 (bt), .int .i64 (btm), .int .i64 (at_), (vs85 5)] 27] _ _ := hs
      generalize ptrG (vs85 4) = g88 at hs
      generalize vs85 5 = v89 at hs
      clear hf
      refine then_n (hK84 _ _ ?_)
      refine wp_exit ?_
      refine th_e ?_
      refine in_hit ?_
      refine then_n ?_
      have hF := dInv_put (by omega) hI1_2 (by omega) (g_0 (by omega))
      have hol : (out ++ [putOf (bl.getD k default)]).length ≤ i + k + 1 := by have := hI1_3; rw [List.length_append]; show _ + 1 ≤ _; omega
      replace hs := hs.rerow (.s (.s (.s (.s (.s .z))))) (m' := (out ++ [putOf (bl.getD k default)]).length) (xs' := ((out ++ [putOf (bl.getD k default)]).flatMap recV)) (by rw [List.length_append]; rfl) (by rw [List.flatMap_append]; rfl)
      replace hs := hs.drop (.c (.s (.s (.s (.s (.s .z))))) (.c (.s .z) .n))
      replace hs := hs.reorder (.c .z (.c (.s (.s (.s .z))) (.c .z (.c .z (.c .z .n)))))
      refine ⟨_, ?_, i, k + 1, v89, out ++ [putOf (bl.getD k default)], rfl, hs.sub (.c rfl (.c rfl (.c rfl (.c rfl (.c rfl (.c rfl (.c rfl .n))))))), by omega, by omega, hF, hol⟩
      omega
     replace hc75 := of_decide_eq_false hc75
     refine wp_skip ?_
     refine then_n (hK71 _ _ ?_)
     refine wp_seq_k fun K90 hK91 => ?_
     refine wp_region_lit ?_
     refine st_run 3 [(126, .int .i64 ((i : Int))), (125, ua), (124, .pointer (some ⟨g3, 2, none⟩))] hs (.c (hs.mem.del (.s (.s (.s (.s (.s .z)))))) .n) (by kernel_rfl) (by kernel_rfl) (by kernel_rfl) ?_; clear hs a; intro a hs
     refine st_ia (j := i) hs rfl rfl (hs.rd0 hca) rfl (by omega) Try.underlying22 Try.sizeOf47 rfl ?_; clear hs w a; intro a w hs
     refine st_ldA (cs := entV (al.getD i default)) hs rfl (hs.rd0 hca) (flat_get entV_len al i (by omega)) (by rw [flat_len entV_len]; omega) (by omega) Try.isAgg47 Try.sizeOf47 rfl ?_; clear hs w a; intro a w hs
     refine st_alloc (cs := [.int .i64 (0), .int .i64 (0), .int .i64 (0), .int .i64 (0), .int .i64 (0), .int .i64 (0), .int .i64 (0), .int .u16 (0), .int .u8 (0)]) hs Try.zeroValue47 rfl rfl ?_; clear hs w a; intro g92 a w hs
     refine st_stBA hs rfl rfl .z (.z (.c (.c (.c (.c (.c (.c (.c (.c (.c .n)))))))))) (ones_c rfl (ones_c rfl (ones_c rfl (ones_c rfl (ones_c rfl (ones_c rfl (ones_c rfl (ones_c rfl (ones_c rfl ones_n))))))))) Try.sizeOf47 rfl ?_; clear hs w a; intro a w hs
     refine wpList_nil ?_
     refine then_n (hK91 _ _ ?_)
     refine wp_seq_k fun K93 hK94 => ?_
     refine wp_region_lit ?_
     refine st_mv hs rfl rfl ?_; clear hs w a; intro a w hs
     refine st_addR hs rfl rfl (by omega) rfl ?_; clear hs w a; intro a w hs
     refine st_as hs rfl rfl ?_; clear hs w a; intro a w hs
     have hv_ : ((i : Int) + 1 : Int) = (((i + 1 : Nat) : Int) : Int) := by omega
     rw [hv_] at hs; clear hv_
     refine wpList_nil ?_
     refine then_n (hK94 _ _ ?_)
     refine wp_seq_k fun K95 hK96 => ?_
     refine wp_seq_k fun K97 hK98 => ?_
     refine wp_region_lit ?_
     refine st_run 6 [(136, .bool (!((((((bl.getD k default).g).toNat : Nat) : Int) : Int) == (((((al.getD i default).g).toNat : Nat) : Int))))), (135, .bool (!((((((bl.getD k default).g).toNat : Nat) : Int) : Int) == (((((al.getD i default).g).toNat : Nat) : Int))))), (134, .int .u8 (((((al.getD i default).g).toNat : Nat) : Int))), (133, .pointer (some ⟨g92, 8, none⟩)), (132, .int .u8 (((((bl.getD k default).g).toNat : Nat) : Int))), (131, .pointer (some ⟨g67, 8, none⟩))] hs (.c (hs.mem.del (.s .z)) (.c (hs.mem.del .z) .n)) (by kernel_rfl) (by kernel_rfl) (by kernel_rfl) ?_; clear hs a; intro a hs
     refine st_part (b := !((((((bl.getD k default).g).toNat : Nat) : Int) : Int) == (((((al.getD i default).g).toNat : Nat) : Int)))) (fun hc99 => ?_) (fun hc99 => ?_)
     ·
      rw [hc99] at hs
      replace hc99 := not_t hc99
      replace hc99 := ne_of_beq_f hc99
      refine st_run 4 [(140, .int .u8 (((((al.getD i default).g).toNat : Nat) : Int))), (139, .pointer (some ⟨g92, 8, none⟩)), (138, .int .u8 (((((bl.getD k default).g).toNat : Nat) : Int))), (137, .pointer (some ⟨g67, 8, none⟩))] hs (.c (hs.mem.del (.s .z)) (.c (hs.mem.del .z) .n)) (by kernel_rfl) (by kernel_rfl) (by kernel_rfl) ?_; clear hs a; intro a hs
      refine st_guardT hs rfl rfl rfl ?_
      refine st_add_u8 (X := (al.getD i default).g) (Y := 1#8) hs rfl rfl rfl (by decide) rfl ?_; clear hs w a; intro a w hs
      refine st_run 2 [(143, .bool (!((((((bl.getD k default).g).toNat : Nat) : Int) : Int) == ((((((al.getD i default).g) + (1#8)).toNat : Nat) : Int))))), (142, .bool (!((((((bl.getD k default).g).toNat : Nat) : Int) : Int) == ((((((al.getD i default).g) + (1#8)).toNat : Nat) : Int)))))] hs .n (by kernel_rfl) (by kernel_rfl) (by kernel_rfl) ?_; clear hs a; intro a hs
      refine wpList_nil ?_
      refine then_n (hK98 _ _ ?_)
      refine wp_if hs rfl (fun hc100 => ?_) (fun hc100 => ?_)
      ·
       replace hc100 := not_t hc100
       replace hc100 := ne_of_beq_f hc100
       refine wp_seq_k fun K101 hK102 => ?_
       refine wp_region_lit ?_
       refine st_build (it := Try.t27) (zs := [.int .i64 (0), .int .i64 (0), .int .i64 (0), .slice none 0 0]) (places := [(0, 1), (1, 1), (2, 1), (3, 1)]) hs .n Try.underlying27 rfl rfl rfl rfl .n rfl ?_; clear hs w a; intro a w hs
       refine st_stBA hs rfl rfl (.s (.s (.s (.s .z)))) (.z (.c (.c (.c (.c .n))))) (ones_c rfl (ones_c rfl (ones_c rfl (ones_c rfl ones_n)))) Try.sizeOf27 rfl ?_; clear hs w a; intro a w hs
       refine st_as hs rfl rfl ?_; clear hs w a; intro a w hs
       refine wpList_nil ?_
       refine then_n (hK102 _ _ ?_)
       refine wp_ret ?_
       refine th_r ?_
       refine in_r ?_
       refine th_r ?_
       refine in_r ?_
       refine th_r ?_
       have hE : dErr at_ atm al bt btm bl = 15 := by first | exact dErr_1 (by omega) | exact dErr_2 (by omega) (by omega) | exact dErr_3 (by omega) (by omega) (by omega) | (rw [dErr_4 (by omega) (by omega) (by omega)]; first | exact mE_none (dInv_perr (by omega) hI1_2 (by omega) (g_n0 (by omega))) | exact mE_none (dInv_eerr (by omega) (by omega) hI1_2 (by omega) (by omega) (not_or.2 ⟨g_ne (by omega), g_ne (by omega)⟩)))
       have hS : dG at_ atm al bt btm bl = ⟨0, 0, 0, []⟩ := dG_e (by omega)
       replace hs := hs.addNil 45 9
       replace hs := hs.rerow .z (m' := (dG at_ atm al bt btm bl).l.length) (xs' := ((dG at_ atm al bt btm bl).l.flatMap recV)) (by rw [hS]; rfl) (by rw [hS]; rfl)
       exact finC2 hs rfl rfl rfl (.s .z) (.z (.c (.c (.c (.c .n))))) Try.isAgg27 Try.sizeOf27 (.c (.s (.s (.s (.s (.s (.s (.s .z))))))) (.c (.s (.s (.s (.s (.s (.s .z)))))) (.c (.s (.s (.s (.s (.s .z))))) (.c (.s (.s (.s (.s .z)))) (.c (.s (.s (.s .z))) (.c (.s (.s .z)) (.c (.s .z) .n))))))) ⟨_, by rw [hE, hS] <;> rfl, rfl⟩
      replace hc100 := not_f hc100
      replace hc100 := eq_of_beq hc100
      refine wp_skip ?_
      refine then_n (hK96 _ _ ?_)
      refine wp_seq_k fun K103 hK104 => ?_
      refine wp_region_lit ?_
      refine st_run 2 [(147, .agg #[.int .i64 ((bl.getD k default).id), .int .i64 ((bl.getD k default).p0), .int .i64 ((bl.getD k default).p1), .int .i64 ((bl.getD k default).p2), .int .i64 ((bl.getD k default).v0), .int .i64 ((bl.getD k default).v1), .int .i64 ((bl.getD k default).v2), .int .u16 (((((bl.getD k default).a).toNat : Nat) : Int)), .int .u8 (((((bl.getD k default).g).toNat : Nat) : Int))]), (146, .agg #[.int .i64 ((al.getD i default).id), .int .i64 ((al.getD i default).p0), .int .i64 ((al.getD i default).p1), .int .i64 ((al.getD i default).p2), .int .i64 ((al.getD i default).v0), .int .i64 ((al.getD i default).v1), .int .i64 ((al.getD i default).v2), .int .u16 (((((al.getD i default).a).toNat : Nat) : Int)), .int .u8 (((((al.getD i default).g).toNat : Nat) : Int))])] hs (.c (hs.mem.del .z) (.c (hs.mem.del (.s .z)) .n)) (by kernel_rfl) (by kernel_rfl) (by kernel_rfl) ?_; clear hs a; intro a hs
      refine st_callP (v := .tuple #[.agg #[.int .i64 (((recDiff (al.getD i default) (bl.getD k default)).1).k), .int .i64 (((recDiff (al.getD i default) (bl.getD k default)).1).id), .int .i64 (((recDiff (al.getD i default) (bl.getD k default)).1).p0), .int .i64 (((recDiff (al.getD i default) (bl.getD k default)).1).p1), .int .i64 (((recDiff (al.getD i default) (bl.getD k default)).1).p2), .int .i64 (((recDiff (al.getD i default) (bl.getD k default)).1).v0), .int .i64 (((recDiff (al.getD i default) (bl.getD k default)).1).v1), .int .i64 (((recDiff (al.getD i default) (bl.getD k default)).1).v2), .int .u16 ((((((recDiff (al.getD i default) (bl.getD k default)).1).a).toNat : Nat) : Int))], .bool ((recDiff (al.getD i default) (bl.getD k default)).2)]) hs (.c rfl (.c rfl .n)) Try.call37 (rdiff_ok (al.getD i default) (bl.getD k default) _) rfl ?_; clear hs w a; intro a w hs
      refine st_run 3 [(150, .bool ((recDiff (al.getD i default) (bl.getD k default)).2)), (149, .agg #[.int .i64 (((recDiff (al.getD i default) (bl.getD k default)).1).k), .int .i64 (((recDiff (al.getD i default) (bl.getD k default)).1).id), .int .i64 (((recDiff (al.getD i default) (bl.getD k default)).1).p0), .int .i64 (((recDiff (al.getD i default) (bl.getD k default)).1).p1), .int .i64 (((recDiff (al.getD i default) (bl.getD k default)).1).p2), .int .i64 (((recDiff (al.getD i default) (bl.getD k default)).1).v0), .int .i64 (((recDiff (al.getD i default) (bl.getD k default)).1).v1), .int .i64 (((recDiff (al.getD i default) (bl.getD k default)).1).v2), .int .u16 ((((((recDiff (al.getD i default) (bl.getD k default)).1).a).toNat : Nat) : Int))]), (145, .tuple #[.agg #[.int .i64 (((recDiff (al.getD i default) (bl.getD k default)).1).k), .int .i64 (((recDiff (al.getD i default) (bl.getD k default)).1).id), .int .i64 (((recDiff (al.getD i default) (bl.getD k default)).1).p0), .int .i64 (((recDiff (al.getD i default) (bl.getD k default)).1).p1), .int .i64 (((recDiff (al.getD i default) (bl.getD k default)).1).p2), .int .i64 (((recDiff (al.getD i default) (bl.getD k default)).1).v0), .int .i64 (((recDiff (al.getD i default) (bl.getD k default)).1).v1), .int .i64 (((recDiff (al.getD i default) (bl.getD k default)).1).v2), .int .u16 ((((((recDiff (al.getD i default) (bl.getD k default)).1).a).toNat : Nat) : Int))], .bool ((recDiff (al.getD i default) (bl.getD k default)).2)])] hs .n (by kernel_rfl) (by kernel_rfl) (by kernel_rfl) ?_; clear hs a; intro a hs
      refine st_alloc (cs := [.int .i64 (0), .int .i64 (0), .int .i64 (0), .int .i64 (0), .int .i64 (0), .int .i64 (0), .int .i64 (0), .int .i64 (0), .int .u16 (0)]) hs Try.zeroValue45 rfl rfl ?_; clear hs w a; intro g105 a w hs
      refine st_stBA hs rfl rfl .z (.z (.c (.c (.c (.c (.c (.c (.c (.c (.c .n)))))))))) (ones_c rfl (ones_c rfl (ones_c rfl (ones_c rfl (ones_c rfl (ones_c rfl (ones_c rfl (ones_c rfl (ones_c rfl ones_n))))))))) Try.sizeOf45 rfl ?_; clear hs w a; intro a w hs
      refine st_as hs rfl rfl ?_; clear hs w a; intro a w hs
      refine wpList_nil ?_
      refine then_n (hK104 _ _ ?_)
      refine wp_seq_k fun K106 hK107 => ?_
      refine wp_region_lit ?_
      refine st_mv hs rfl rfl ?_; clear hs w a; intro a w hs
      refine wpList_nil ?_
      refine then_n (hK107 _ _ ?_)
      refine wp_if hs rfl (fun hc108 => ?_) (fun hc108 => ?_)
      ·
       refine wp_region_lit ?_
       refine st_run 3 [(154, .agg #[.int .i64 (((recDiff (al.getD i default) (bl.getD k default)).1).k), .int .i64 (((recDiff (al.getD i default) (bl.getD k default)).1).id), .int .i64 (((recDiff (al.getD i default) (bl.getD k default)).1).p0), .int .i64 (((recDiff (al.getD i default) (bl.getD k default)).1).p1), .int .i64 (((recDiff (al.getD i default) (bl.getD k default)).1).p2), .int .i64 (((recDiff (al.getD i default) (bl.getD k default)).1).v0), .int .i64 (((recDiff (al.getD i default) (bl.getD k default)).1).v1), .int .i64 (((recDiff (al.getD i default) (bl.getD k default)).1).v2), .int .u16 ((((((recDiff (al.getD i default) (bl.getD k default)).1).a).toNat : Nat) : Int))]), (153, q), (152, .pointer (some ⟨g29, 3, none⟩))] hs (.c (hs.mem.del (.s (.s (.s (.s .z))))) (.c (hs.mem.del .z) .n)) (by kernel_rfl) (by kernel_rfl) (by kernel_rfl) ?_; clear hs a; intro a hs
       refine st_bs (cs := [.int .i64 (((recDiff (al.getD i default) (bl.getD k default)).1).k), .int .i64 (((recDiff (al.getD i default) (bl.getD k default)).1).id), .int .i64 (((recDiff (al.getD i default) (bl.getD k default)).1).p0), .int .i64 (((recDiff (al.getD i default) (bl.getD k default)).1).p1), .int .i64 (((recDiff (al.getD i default) (bl.getD k default)).1).p2), .int .i64 (((recDiff (al.getD i default) (bl.getD k default)).1).v0), .int .i64 (((recDiff (al.getD i default) (bl.getD k default)).1).v1), .int .i64 (((recDiff (al.getD i default) (bl.getD k default)).1).v2), .int .u16 ((((((recDiff (al.getD i default) (bl.getD k default)).1).a).toNat : Nat) : Int))]) hs (.c .n) (.c rfl .n) Try.underlying25 (ie := Try.t45) rfl rfl rfl rfl (by decide) (by decide) rfl (by decide) rfl rfl rfl ?_; clear hs w a; intro g109 a w hs
       refine st_app (size := 9) (bytes := 72) hs rfl rfl (.s (.s (.s (.s .z)))) (rd_blk (m := 1) (size := 9) (hs.mem.del .z) rfl (by decide)) (by simp [Value.oneCell']) Try.underlying25 (i := Try.t45) rfl rfl rfl rfl rfl (by decide) (by omega) (by simp only [maxLen]; omega) rfl ?_; clear hs w a; intro v110 a w hs
       replace hs := hs.drop (.c (.s .z) .n)
       refine st_fa hs rfl Try.underlying27 rfl Try.sizeOf25 (by decide) (o := 3) rfl rfl ?_; clear hs w a; intro a w hs
       refine st_stB hs rfl rfl (.s (.s (.s (.s .z)))) (.s (.s (.s .z))) (rd_row (hs.mem.del .z)).isSl.one Try.sizeOf25 ?_; clear hs w a; intro a w hs
       refine wpList_nil ?_
       refine in_n ?_
       refine then_n ?_
       have hF := dInv_eq (by omega) (by omega) hI1_2 (by omega) (by omega) (by first | exact .inl (g_eq (by omega)) | exact .inr (g_eq (by omega)))
       have hol : (out ++ stepR (al.getD i default) (bl.getD k default)).length ≤ i + 1 + k + 1 := by have := hI1_3; rw [List.length_append]; have := stepR_len (al.getD i default) (bl.getD k default); omega
       replace hs := hs.rerow (.s .z) (m' := (out ++ stepR (al.getD i default) (bl.getD k default)).length) (xs' := ((out ++ stepR (al.getD i default) (bl.getD k default)).flatMap recV)) (by rw [stepR_t (by assumption), List.length_append]; rfl) (by rw [stepR_t (by assumption), List.flatMap_append]; rfl)
       replace hs := hs.drop (.c (.s (.s (.s (.s .z)))) (.c (.s (.s (.s .z))) (.c (.s (.s .z)) .n)))
       refine ⟨_, ?_, i + 1, k + 1, v110, out ++ stepR (al.getD i default) (bl.getD k default), rfl, hs.sub (.c rfl (.c rfl (.c rfl (.c rfl (.c rfl (.c rfl (.c rfl .n))))))), by omega, by omega, hF, hol⟩
       omega
      refine wp_skip ?_
      refine in_n ?_
      refine then_n ?_
      have hF := dInv_eq (by omega) (by omega) hI1_2 (by omega) (by omega) (by first | exact .inl (g_eq (by omega)) | exact .inr (g_eq (by omega)))
      have hol : (out ++ stepR (al.getD i default) (bl.getD k default)).length ≤ i + 1 + k + 1 := by have := hI1_3; rw [List.length_append]; have := stepR_len (al.getD i default) (bl.getD k default); omega
      replace hs := hs.rerow (.s (.s (.s .z))) (m' := (out ++ stepR (al.getD i default) (bl.getD k default)).length) (xs' := ((out ++ stepR (al.getD i default) (bl.getD k default)).flatMap recV)) (by rw [stepR_f (by assumption), List.append_nil]) (by rw [stepR_f (by assumption), List.append_nil])
      replace hs := hs.drop (.c (.s (.s (.s .z))) (.c (.s (.s .z)) (.c (.s .z) .n)))
      refine ⟨_, ?_, i + 1, k + 1, q, out ++ stepR (al.getD i default) (bl.getD k default), rfl, hs.sub (.c rfl (.c rfl (.c rfl (.c rfl (.c rfl (.c rfl (.c rfl .n))))))), by omega, by omega, hF, hol⟩
      omega
     rw [hc99] at hs
     replace hc99 := not_f hc99
     replace hc99 := eq_of_beq hc99
     refine st_run 7 [(143, .bool (false)), (142, undef), (141, undef), (140, undef), (139, undef), (138, undef), (137, undef)] hs .n (by kernel_rfl) (by kernel_rfl) (by kernel_rfl) ?_; clear hs a; intro a hs
     refine wpList_nil ?_
     refine then_n (hK98 _ _ ?_)
     refine wp_cond_false (hs.ev rfl) ?_
     refine wp_skip ?_
     refine then_n (hK96 _ _ ?_)
     refine wp_seq_k fun K111 hK112 => ?_
     refine wp_region_lit ?_
     refine st_run 2 [(147, .agg #[.int .i64 ((bl.getD k default).id), .int .i64 ((bl.getD k default).p0), .int .i64 ((bl.getD k default).p1), .int .i64 ((bl.getD k default).p2), .int .i64 ((bl.getD k default).v0), .int .i64 ((bl.getD k default).v1), .int .i64 ((bl.getD k default).v2), .int .u16 (((((bl.getD k default).a).toNat : Nat) : Int)), .int .u8 (((((bl.getD k default).g).toNat : Nat) : Int))]), (146, .agg #[.int .i64 ((al.getD i default).id), .int .i64 ((al.getD i default).p0), .int .i64 ((al.getD i default).p1), .int .i64 ((al.getD i default).p2), .int .i64 ((al.getD i default).v0), .int .i64 ((al.getD i default).v1), .int .i64 ((al.getD i default).v2), .int .u16 (((((al.getD i default).a).toNat : Nat) : Int)), .int .u8 (((((al.getD i default).g).toNat : Nat) : Int))])] hs (.c (hs.mem.del .z) (.c (hs.mem.del (.s .z)) .n)) (by kernel_rfl) (by kernel_rfl) (by kernel_rfl) ?_; clear hs a; intro a hs
     refine st_callP (v := .tuple #[.agg #[.int .i64 (((recDiff (al.getD i default) (bl.getD k default)).1).k), .int .i64 (((recDiff (al.getD i default) (bl.getD k default)).1).id), .int .i64 (((recDiff (al.getD i default) (bl.getD k default)).1).p0), .int .i64 (((recDiff (al.getD i default) (bl.getD k default)).1).p1), .int .i64 (((recDiff (al.getD i default) (bl.getD k default)).1).p2), .int .i64 (((recDiff (al.getD i default) (bl.getD k default)).1).v0), .int .i64 (((recDiff (al.getD i default) (bl.getD k default)).1).v1), .int .i64 (((recDiff (al.getD i default) (bl.getD k default)).1).v2), .int .u16 ((((((recDiff (al.getD i default) (bl.getD k default)).1).a).toNat : Nat) : Int))], .bool ((recDiff (al.getD i default) (bl.getD k default)).2)]) hs (.c rfl (.c rfl .n)) Try.call37 (rdiff_ok (al.getD i default) (bl.getD k default) _) rfl ?_; clear hs w a; intro a w hs
     refine st_run 3 [(150, .bool ((recDiff (al.getD i default) (bl.getD k default)).2)), (149, .agg #[.int .i64 (((recDiff (al.getD i default) (bl.getD k default)).1).k), .int .i64 (((recDiff (al.getD i default) (bl.getD k default)).1).id), .int .i64 (((recDiff (al.getD i default) (bl.getD k default)).1).p0), .int .i64 (((recDiff (al.getD i default) (bl.getD k default)).1).p1), .int .i64 (((recDiff (al.getD i default) (bl.getD k default)).1).p2), .int .i64 (((recDiff (al.getD i default) (bl.getD k default)).1).v0), .int .i64 (((recDiff (al.getD i default) (bl.getD k default)).1).v1), .int .i64 (((recDiff (al.getD i default) (bl.getD k default)).1).v2), .int .u16 ((((((recDiff (al.getD i default) (bl.getD k default)).1).a).toNat : Nat) : Int))]), (145, .tuple #[.agg #[.int .i64 (((recDiff (al.getD i default) (bl.getD k default)).1).k), .int .i64 (((recDiff (al.getD i default) (bl.getD k default)).1).id), .int .i64 (((recDiff (al.getD i default) (bl.getD k default)).1).p0), .int .i64 (((recDiff (al.getD i default) (bl.getD k default)).1).p1), .int .i64 (((recDiff (al.getD i default) (bl.getD k default)).1).p2), .int .i64 (((recDiff (al.getD i default) (bl.getD k default)).1).v0), .int .i64 (((recDiff (al.getD i default) (bl.getD k default)).1).v1), .int .i64 (((recDiff (al.getD i default) (bl.getD k default)).1).v2), .int .u16 ((((((recDiff (al.getD i default) (bl.getD k default)).1).a).toNat : Nat) : Int))], .bool ((recDiff (al.getD i default) (bl.getD k default)).2)])] hs .n (by kernel_rfl) (by kernel_rfl) (by kernel_rfl) ?_; clear hs a; intro a hs
     refine st_alloc (cs := [.int .i64 (0), .int .i64 (0), .int .i64 (0), .int .i64 (0), .int .i64 (0), .int .i64 (0), .int .i64 (0), .int .i64 (0), .int .u16 (0)]) hs Try.zeroValue45 rfl rfl ?_; clear hs w a; intro g113 a w hs
     refine st_stBA hs rfl rfl .z (.z (.c (.c (.c (.c (.c (.c (.c (.c (.c .n)))))))))) (ones_c rfl (ones_c rfl (ones_c rfl (ones_c rfl (ones_c rfl (ones_c rfl (ones_c rfl (ones_c rfl (ones_c rfl ones_n))))))))) Try.sizeOf45 rfl ?_; clear hs w a; intro a w hs
     refine st_as hs rfl rfl ?_; clear hs w a; intro a w hs
     refine wpList_nil ?_
     refine then_n (hK112 _ _ ?_)
     refine wp_seq_k fun K114 hK115 => ?_
     refine wp_region_lit ?_
     refine st_mv hs rfl rfl ?_; clear hs w a; intro a w hs
     refine wpList_nil ?_
     refine then_n (hK115 _ _ ?_)
     refine wp_if hs rfl (fun hc116 => ?_) (fun hc116 => ?_)
     ·
      refine wp_region_lit ?_
      refine st_run 3 [(154, .agg #[.int .i64 (((recDiff (al.getD i default) (bl.getD k default)).1).k), .int .i64 (((recDiff (al.getD i default) (bl.getD k default)).1).id), .int .i64 (((recDiff (al.getD i default) (bl.getD k default)).1).p0), .int .i64 (((recDiff (al.getD i default) (bl.getD k default)).1).p1), .int .i64 (((recDiff (al.getD i default) (bl.getD k default)).1).p2), .int .i64 (((recDiff (al.getD i default) (bl.getD k default)).1).v0), .int .i64 (((recDiff (al.getD i default) (bl.getD k default)).1).v1), .int .i64 (((recDiff (al.getD i default) (bl.getD k default)).1).v2), .int .u16 ((((((recDiff (al.getD i default) (bl.getD k default)).1).a).toNat : Nat) : Int))]), (153, q), (152, .pointer (some ⟨g29, 3, none⟩))] hs (.c (hs.mem.del (.s (.s (.s (.s .z))))) (.c (hs.mem.del .z) .n)) (by kernel_rfl) (by kernel_rfl) (by kernel_rfl) ?_; clear hs a; intro a hs
      refine st_bs (cs := [.int .i64 (((recDiff (al.getD i default) (bl.getD k default)).1).k), .int .i64 (((recDiff (al.getD i default) (bl.getD k default)).1).id), .int .i64 (((recDiff (al.getD i default) (bl.getD k default)).1).p0), .int .i64 (((recDiff (al.getD i default) (bl.getD k default)).1).p1), .int .i64 (((recDiff (al.getD i default) (bl.getD k default)).1).p2), .int .i64 (((recDiff (al.getD i default) (bl.getD k default)).1).v0), .int .i64 (((recDiff (al.getD i default) (bl.getD k default)).1).v1), .int .i64 (((recDiff (al.getD i default) (bl.getD k default)).1).v2), .int .u16 ((((((recDiff (al.getD i default) (bl.getD k default)).1).a).toNat : Nat) : Int))]) hs (.c .n) (.c rfl .n) Try.underlying25 (ie := Try.t45) rfl rfl rfl rfl (by decide) (by decide) rfl (by decide) rfl rfl rfl ?_; clear hs w a; intro g117 a w hs
      refine st_app (size := 9) (bytes := 72) hs rfl rfl (.s (.s (.s (.s .z)))) (rd_blk (m := 1) (size := 9) (hs.mem.del .z) rfl (by decide)) (by simp [Value.oneCell']) Try.underlying25 (i := Try.t45) rfl rfl rfl rfl rfl (by decide) (by omega) (by simp only [maxLen]; omega) rfl ?_; clear hs w a; intro v118 a w hs
      replace hs := hs.drop (.c (.s .z) .n)
      refine st_fa hs rfl Try.underlying27 rfl Try.sizeOf25 (by decide) (o := 3) rfl rfl ?_; clear hs w a; intro a w hs
      refine st_stB hs rfl rfl (.s (.s (.s (.s .z)))) (.s (.s (.s .z))) (rd_row (hs.mem.del .z)).isSl.one Try.sizeOf25 ?_; clear hs w a; intro a w hs
      refine wpList_nil ?_
      refine in_n ?_
      refine then_n ?_
      have hF := dInv_eq (by omega) (by omega) hI1_2 (by omega) (by omega) (by first | exact .inl (g_eq (by omega)) | exact .inr (g_eq (by omega)))
      have hol : (out ++ stepR (al.getD i default) (bl.getD k default)).length ≤ i + 1 + k + 1 := by have := hI1_3; rw [List.length_append]; have := stepR_len (al.getD i default) (bl.getD k default); omega
      replace hs := hs.rerow (.s .z) (m' := (out ++ stepR (al.getD i default) (bl.getD k default)).length) (xs' := ((out ++ stepR (al.getD i default) (bl.getD k default)).flatMap recV)) (by rw [stepR_t (by assumption), List.length_append]; rfl) (by rw [stepR_t (by assumption), List.flatMap_append]; rfl)
      replace hs := hs.drop (.c (.s (.s (.s (.s .z)))) (.c (.s (.s (.s .z))) (.c (.s (.s .z)) .n)))
      refine ⟨_, ?_, i + 1, k + 1, v118, out ++ stepR (al.getD i default) (bl.getD k default), rfl, hs.sub (.c rfl (.c rfl (.c rfl (.c rfl (.c rfl (.c rfl (.c rfl .n))))))), by omega, by omega, hF, hol⟩
      omega
     refine wp_skip ?_
     refine in_n ?_
     refine then_n ?_
     have hF := dInv_eq (by omega) (by omega) hI1_2 (by omega) (by omega) (by first | exact .inl (g_eq (by omega)) | exact .inr (g_eq (by omega)))
     have hol : (out ++ stepR (al.getD i default) (bl.getD k default)).length ≤ i + 1 + k + 1 := by have := hI1_3; rw [List.length_append]; have := stepR_len (al.getD i default) (bl.getD k default); omega
     replace hs := hs.rerow (.s (.s (.s .z))) (m' := (out ++ stepR (al.getD i default) (bl.getD k default)).length) (xs' := ((out ++ stepR (al.getD i default) (bl.getD k default)).flatMap recV)) (by rw [stepR_f (by assumption), List.append_nil]) (by rw [stepR_f (by assumption), List.append_nil])
     replace hs := hs.drop (.c (.s (.s (.s .z))) (.c (.s (.s .z)) (.c (.s .z) .n)))
     refine ⟨_, ?_, i + 1, k + 1, q, out ++ stepR (al.getD i default) (bl.getD k default), rfl, hs.sub (.c rfl (.c rfl (.c rfl (.c rfl (.c rfl (.c rfl (.c rfl .n))))))), by omega, by omega, hF, hol⟩
     omega
    replace hs := hs.sub (F' := [(2, .pointer (some ⟨g3, 0, none⟩)), (3, .pointer (some ⟨g4, 0, none⟩)), (4, .pointer (some ⟨g5, 0, none⟩)), (5, .int .i64 (0)), (7, .pointer (some ⟨g29, 0, none⟩)), (8, .int .i64 ((i : Int))), (9, .int .i64 ((k : Int))), (48, .bool (true))]) (.c rfl (.c rfl (.c rfl (.c rfl (.c rfl (.c rfl (.c rfl (.c rfl .n))))))))
    refine wp_drawG (M0 := [row q 45 9 out.length (out.flatMap recV), blk g29 [.int .i64 (bt), .int .i64 (btm), .int .i64 (at_), q] 27, blk g5 [.int .i64 (0), .int .i64 (0), .int .i64 (0), .slice none 0 0] 27, blk g4 [.int .i64 (bt), .int .i64 (btm), ub] 24, blk g3 [.int .i64 (at_), .int .i64 (atm), ua] 24]) (Ds := [Pv 0 (.int .i64 ((k : Int))), Pv 1 (.pointer (some ⟨g4, 2, none⟩)), Pv 2 ub, Pv 3 (.int .i64 (((bl.length : Nat) : Int))), Pv 4 (.bool (false)), Pv 5 (.bool (false)), Pv 6 (.int .i64 ((i : Int))), Pv 7 (.pointer (some ⟨g3, 2, none⟩)), Pv 8 ua, Pv 9 (.int .i64 (((al.length : Nat) : Int))), Pv 10 (.bool (false)), Pv 11 (.bool (false)), Pv 12 undef, Pv 13 undef, Pv 14 undef, Pv 15 undef, Pv 16 undef, Pv 17 undef, Pv 18 undef, Pv 19 undef, Pv 20 undef, Pv 21 undef, Pv 22 undef, Pv 23 undef, Pv 24 undef, Pv 25 (.bool (false)), Pv 26 (.bool (false))]) (by kernel_rfl) hs rfl .n (by kernel_rfl) (by kernel_rfl) (by kernel_rfl) ?_ ?_
    ·
     refine (.c ?_ (.c ?_ (.c ?_ (.c ?_ (.c ?_ (.c ?_ (.c ?_ (.c ?_ (.c ?_ (.c ?_ (.c ?_ (.c ?_ (.c ?_ (.c ?_ (.c ?_ (.c ?_ (.c ?_ (.c ?_ (.c ?_ (.c ?_ (.c ?_ (.c ?_ (.c ?_ (.c ?_ (.c ?_ (.c ?_ (.c ?_ .n)))))))))))))))))))))))))))
     · exact trip_pv (m := 27) .n (fun hm0 hm hx => .n) (by kernel_rfl) (by kernel_rfl) rfl
     · exact trip_pv (m := 27) .n (fun hm0 hm hx => .n) (by kernel_rfl) (by kernel_rfl) rfl
     · exact trip_pv (m := 27) (.c (k := 1) (by kernel_rfl) rfl rfl .n) (fun hm0 hm hx => (.c (hm0.del (.s (.s (.s .z)))))) (by kernel_rfl) (by kernel_rfl) rfl
     ·
      intro a_ w_ R_ rest_ vs119 hm hs ht hx
      have hm0 := hm.mid
      replace hs := hs.lrn (ht 2 (twB_spec 27 _ (by kernel_rfl))) rfl rfl
      have hs0 := hs.bare
      refine st_len hs rfl (hm.rd0 hcb).isSl Try.underlying22 rfl ?_; clear hs; intro a w hs
      exact wpList_nil ⟨rfl, _, _, hs0, (.c .r), hs, rfl⟩
     ·
      intro a_ w_ R_ rest_ vs119 hm hs ht hx
      have hm0 := hm.mid
      replace hs := hs.lrn (ht 0 (twB_spec 27 _ (by kernel_rfl))) rfl rfl
      replace hs := hs.lrn (ht 3 (twB_spec 27 _ (by kernel_rfl))) rfl rfl
      have hs0 := hs.bare
      refine st_eql hs rfl rfl rfl ?_; clear hs; intro a w hs
      have hb_ : (((k : Int) : Int) == (((bl.length : Nat) : Int))) = false := beq_eq_false_iff_ne.2 (by omega)
      rw [hb_] at hs; clear hb_
      exact wpList_nil ⟨rfl, _, _, hs0, (.c (.c .r)), hs, rfl⟩
     · exact trip_pv (m := 27) (.c (k := 4) (by kernel_rfl) rfl rfl .n) (fun hm0 hm hx => .n) (by kernel_rfl) (by kernel_rfl) rfl
     · exact trip_pg (m := 27) rfl (.c (k := 5) (by kernel_rfl) rfl rfl .n) rfl (fun hm0 hm hx => .n) (by kernel_rfl) (by kernel_rfl) rfl
     · exact trip_pg (m := 27) rfl (.c (k := 5) (by kernel_rfl) rfl rfl .n) rfl (fun hm0 hm hx => .n) (by kernel_rfl) (by kernel_rfl) rfl
     · exact trip_pg (m := 27) rfl (.c (k := 5) (by kernel_rfl) rfl rfl (.c (k := 7) (by kernel_rfl) rfl rfl .n)) rfl (fun hm0 hm hx => (.c (hm0.del (.s (.s (.s (.s .z))))))) (by kernel_rfl) (by kernel_rfl) rfl
     ·
      intro a_ w_ R_ rest_ vs119 hm hs ht hx
      have hm0 := hm.mid
      replace hs := hs.lrn (ht 5 (twB_spec 27 _ (by kernel_rfl))) rfl rfl
      replace hs := hs.lrn (ht 8 (twB_spec 27 _ (by kernel_rfl))) rfl rfl
      have hs0 := hs.bare
      refine st_guardT hs rfl rfl rfl ?_
      refine st_len hs rfl (hm.rd0 hca).isSl Try.underlying22 rfl ?_; clear hs; intro a w hs
      exact wpList_nil ⟨rfl, _, _, hs0, (.c (.c .r)), hs, rfl⟩
     ·
      intro a_ w_ R_ rest_ vs119 hm hs ht hx
      have hm0 := hm.mid
      replace hs := hs.lrn (ht 5 (twB_spec 27 _ (by kernel_rfl))) rfl rfl
      replace hs := hs.lrn (ht 6 (twB_spec 27 _ (by kernel_rfl))) rfl rfl
      replace hs := hs.lrn (ht 9 (twB_spec 27 _ (by kernel_rfl))) rfl rfl
      have hs0 := hs.bare
      refine st_guardT hs rfl rfl rfl ?_
      refine st_lss hs rfl rfl rfl ?_; clear hs; intro a w hs
      have hb_ : (decide ((i : Int) < (((al.length : Nat) : Int)))) = false := decide_eq_false (by omega)
      rw [hb_] at hs; clear hb_
      exact wpList_nil ⟨rfl, _, _, hs0, (.c (.c (.c .r))), hs, rfl⟩
     · exact trip_pg (m := 27) rfl (.c (k := 5) (by kernel_rfl) rfl rfl (.c (k := 10) (by kernel_rfl) rfl rfl .n)) rfl (fun hm0 hm hx => .n) (by kernel_rfl) (by kernel_rfl) rfl
     · exact trip_pf (m := 27) rfl (.c (k := 11) (by kernel_rfl) rfl rfl .n) rfl rfl rfl
     · exact trip_pf (m := 27) rfl (.c (k := 11) (by kernel_rfl) rfl rfl (.c (k := 12) (by kernel_rfl) rfl rfl .n)) rfl rfl rfl
     · exact trip_pf (m := 27) rfl (.c (k := 11) (by kernel_rfl) rfl rfl .n) rfl rfl rfl
     · exact trip_pf (m := 27) rfl (.c (k := 11) (by kernel_rfl) rfl rfl (.c (k := 13) (by kernel_rfl) rfl rfl (.c (k := 14) (by kernel_rfl) rfl rfl .n))) rfl rfl rfl
     · exact trip_pf (m := 27) rfl (.c (k := 11) (by kernel_rfl) rfl rfl (.c (k := 15) (by kernel_rfl) rfl rfl .n)) rfl rfl rfl
     · exact trip_pf (m := 27) rfl (.c (k := 11) (by kernel_rfl) rfl rfl (.c (k := 16) (by kernel_rfl) rfl rfl .n)) rfl rfl rfl
     · exact trip_pf (m := 27) rfl (.c (k := 11) (by kernel_rfl) rfl rfl .n) rfl rfl rfl
     · exact trip_pf (m := 27) rfl (.c (k := 11) (by kernel_rfl) rfl rfl (.c (k := 18) (by kernel_rfl) rfl rfl .n)) rfl rfl rfl
     · exact trip_pf (m := 27) rfl (.c (k := 11) (by kernel_rfl) rfl rfl .n) rfl rfl rfl
     · exact trip_pf (m := 27) rfl (.c (k := 11) (by kernel_rfl) rfl rfl (.c (k := 19) (by kernel_rfl) rfl rfl (.c (k := 20) (by kernel_rfl) rfl rfl .n))) rfl rfl rfl
     · exact trip_pf (m := 27) rfl (.c (k := 11) (by kernel_rfl) rfl rfl (.c (k := 21) (by kernel_rfl) rfl rfl .n)) rfl rfl rfl
     · exact trip_pf (m := 27) rfl (.c (k := 11) (by kernel_rfl) rfl rfl (.c (k := 22) (by kernel_rfl) rfl rfl .n)) rfl rfl rfl
     · exact trip_pf (m := 27) rfl (.c (k := 11) (by kernel_rfl) rfl rfl (.c (k := 17) (by kernel_rfl) rfl rfl (.c (k := 23) (by kernel_rfl) rfl rfl .n))) rfl rfl rfl
     · exact trip_pg (m := 27) rfl (.c (k := 5) (by kernel_rfl) rfl rfl (.c (k := 11) (by kernel_rfl) rfl rfl (.c (k := 24) (by kernel_rfl) rfl rfl .n))) rfl (fun hm0 hm hx => .n) (by kernel_rfl) (by kernel_rfl) rfl
     exact trip_pv (m := 27) (.c (k := 5) (by kernel_rfl) rfl rfl (.c (k := 25) (by kernel_rfl) rfl rfl .n)) (fun hm0 hm hx => .n) (by kernel_rfl) (by kernel_rfl) rfl
    clear hs w a; intro a w vs119 hs hf
    replace hs : St _ _ _ _ [row q 45 9 out.length (out.flatMap recV), blk g29 [.int .i64 (bt), .int .i64 (btm), .int .i64 (at_), q] 27, blk g5 [.int .i64 (0), .int .i64 (0), .int .i64 (0), .slice none 0 0] 27, blk g4 [.int .i64 (bt), .int .i64 (btm), ub] 24, blk g3 [.int .i64 (at_), .int .i64 (atm), ua] 24] _ _ := hs
    obtain ⟨e26, q26⟩ := hf 26 (by decide)
    replace e26 : _ = some (vs119 26) := e26.val rfl
    rw [show vs119 26 = .bool (false) from q26] at e26
    replace hs := hs.learn e26; clear e26 q26
    clear hf
    refine then_n (hK43 _ _ ?_)
    refine wp_cond_false (hs.ev rfl) ?_
    refine wp_skip ?_
    refine then_n (hK41 _ _ ?_)
    refine wp_seq_k fun K120 hK121 => ?_
    refine wp_region_lit ?_
    refine st_run 3 [(92, .int .i64 ((k : Int))), (91, ub), (90, .pointer (some ⟨g4, 2, none⟩))] hs (.c (hs.mem.del (.s (.s (.s .z)))) .n) (by kernel_rfl) (by kernel_rfl) (by kernel_rfl) ?_; clear hs a; intro a hs
    refine st_ia (j := k) hs rfl rfl (hs.rd0 hcb) rfl (by omega) Try.underlying22 Try.sizeOf47 rfl ?_; clear hs w a; intro a w hs
    refine st_ldA (cs := entV (bl.getD k default)) hs rfl (hs.rd0 hcb) (flat_get entV_len bl k (by omega)) (by rw [flat_len entV_len]; omega) (by omega) Try.isAgg47 Try.sizeOf47 rfl ?_; clear hs w a; intro a w hs
    refine st_alloc (cs := [.int .i64 (0), .int .i64 (0), .int .i64 (0), .int .i64 (0), .int .i64 (0), .int .i64 (0), .int .i64 (0), .int .u16 (0), .int .u8 (0)]) hs Try.zeroValue47 rfl rfl ?_; clear hs w a; intro g122 a w hs
    refine st_stBA hs rfl rfl .z (.z (.c (.c (.c (.c (.c (.c (.c (.c (.c .n)))))))))) (ones_c rfl (ones_c rfl (ones_c rfl (ones_c rfl (ones_c rfl (ones_c rfl (ones_c rfl (ones_c rfl (ones_c rfl ones_n))))))))) Try.sizeOf47 rfl ?_; clear hs w a; intro a w hs
    refine wpList_nil ?_
    refine then_n (hK121 _ _ ?_)
    refine wp_seq_k fun K123 hK124 => ?_
    refine wp_region_lit ?_
    refine st_mv hs rfl rfl ?_; clear hs w a; intro a w hs
    refine st_addR hs rfl rfl (by omega) rfl ?_; clear hs w a; intro a w hs
    refine st_as hs rfl rfl ?_; clear hs w a; intro a w hs
    have hv_ : ((k : Int) + 1 : Int) = (((k + 1 : Nat) : Int) : Int) := by omega
    rw [hv_] at hs; clear hv_
    refine wpList_nil ?_
    refine then_n (hK124 _ _ ?_)
    refine wp_seq_k fun K125 hK126 => ?_
    refine wp_seq_k fun K127 hK128 => ?_
    replace hs := hs.sub (F' := [(9, .int .i64 (((k + 1 : Nat) : Int))), (96, .int .i64 (((k + 1 : Nat) : Int))), (95, .int .i64 ((k : Int))), (10, .pointer (some ⟨g122, 0, none⟩)), (94, .agg #[.int .i64 ((bl.getD k default).id), .int .i64 ((bl.getD k default).p0), .int .i64 ((bl.getD k default).p1), .int .i64 ((bl.getD k default).p2), .int .i64 ((bl.getD k default).v0), .int .i64 ((bl.getD k default).v1), .int .i64 ((bl.getD k default).v2), .int .u16 (((((bl.getD k default).a).toNat : Nat) : Int)), .int .u8 (((((bl.getD k default).g).toNat : Nat) : Int))]), (93, .pointer (some (adr ub (k * 9)))), (92, .int .i64 ((k : Int))), (91, ub), (90, .pointer (some ⟨g4, 2, none⟩)), (75, .bool (false)), (2, .pointer (some ⟨g3, 0, none⟩)), (3, .pointer (some ⟨g4, 0, none⟩)), (4, .pointer (some ⟨g5, 0, none⟩)), (5, .int .i64 (0)), (7, .pointer (some ⟨g29, 0, none⟩)), (8, .int .i64 ((i : Int))), (48, .bool (true))]) (.c rfl (.c rfl (.c rfl (.c rfl (.c rfl (.c rfl (.c rfl (.c rfl (.c rfl (.c rfl (.c rfl (.c rfl (.c rfl (.c rfl (.c rfl (.c rfl (.c rfl .n)))))))))))))))))
    refine wp_drawG (M0 := [blk g122 [.int .i64 ((bl.getD k default).id), .int .i64 ((bl.getD k default).p0), .int .i64 ((bl.getD k default).p1), .int .i64 ((bl.getD k default).p2), .int .i64 ((bl.getD k default).v0), .int .i64 ((bl.getD k default).v1), .int .i64 ((bl.getD k default).v2), .int .u16 (((((bl.getD k default).a).toNat : Nat) : Int)), .int .u8 (((((bl.getD k default).g).toNat : Nat) : Int))] 47, row q 45 9 out.length (out.flatMap recV), blk g29 [.int .i64 (bt), .int .i64 (btm), .int .i64 (at_), q] 27, blk g5 [.int .i64 (0), .int .i64 (0), .int .i64 (0), .slice none 0 0] 27, blk g4 [.int .i64 (bt), .int .i64 (btm), ub] 24, blk g3 [.int .i64 (at_), .int .i64 (atm), ua] 24]) (Ds := [Pv 0 (.int .i64 ((i : Int))), Pv 1 (.pointer (some ⟨g3, 2, none⟩)), Pv 2 ua, Pv 3 (.int .i64 (((al.length : Nat) : Int))), Pv 4 (.bool (true)), Pv 5 (.bool (true)), Pv 6 undef, Pv 7 undef, Pv 8 undef, Pv 9 undef, Pv 10 undef, Pv 11 undef, Pv 12 undef, Pv 13 undef, Pv 14 undef, Pv 15 (.bool (true))]) (by kernel_rfl) hs rfl .n (by kernel_rfl) (by kernel_rfl) (by kernel_rfl) ?_ ?_
    ·
     refine (.c ?_ (.c ?_ (.c ?_ (.c ?_ (.c ?_ (.c ?_ (.c ?_ (.c ?_ (.c ?_ (.c ?_ (.c ?_ (.c ?_ (.c ?_ (.c ?_ (.c ?_ (.c ?_ .n))))))))))))))))
     · exact trip_pv (m := 16) .n (fun hm0 hm hx => .n) (by kernel_rfl) (by kernel_rfl) rfl
     · exact trip_pv (m := 16) .n (fun hm0 hm hx => .n) (by kernel_rfl) (by kernel_rfl) rfl
     · exact trip_pv (m := 16) (.c (k := 1) (by kernel_rfl) rfl rfl .n) (fun hm0 hm hx => (.c (hm0.del (.s (.s (.s (.s (.s .z)))))))) (by kernel_rfl) (by kernel_rfl) rfl
     ·
      intro a_ w_ R_ rest_ vs129 hm hs ht hx
      have hm0 := hm.mid
      replace hs := hs.lrn (ht 2 (twB_spec 16 _ (by kernel_rfl))) rfl rfl
      have hs0 := hs.bare
      refine st_len hs rfl (hm.rd0 hca).isSl Try.underlying22 rfl ?_; clear hs; intro a w hs
      exact wpList_nil ⟨rfl, _, _, hs0, (.c .r), hs, rfl⟩
     ·
      intro a_ w_ R_ rest_ vs129 hm hs ht hx
      have hm0 := hm.mid
      replace hs := hs.lrn (ht 0 (twB_spec 16 _ (by kernel_rfl))) rfl rfl
      replace hs := hs.lrn (ht 3 (twB_spec 16 _ (by kernel_rfl))) rfl rfl
      have hs0 := hs.bare
      refine st_eql hs rfl rfl rfl ?_; clear hs; intro a w hs
      have hb_ : (((i : Int) : Int) == (((al.length : Nat) : Int))) = true := by rw [beq_iff_eq]; omega
      rw [hb_] at hs; clear hb_
      exact wpList_nil ⟨rfl, _, _, hs0, (.c (.c .r)), hs, rfl⟩
     · exact trip_pv (m := 16) (.c (k := 4) (by kernel_rfl) rfl rfl .n) (fun hm0 hm hx => .n) (by kernel_rfl) (by kernel_rfl) rfl
     · exact trip_pf (m := 16) rfl (.c (k := 5) (by kernel_rfl) rfl rfl .n) rfl rfl rfl
     · exact trip_pf (m := 16) rfl (.c (k := 5) (by kernel_rfl) rfl rfl (.c (k := 6) (by kernel_rfl) rfl rfl .n)) rfl rfl rfl
     · exact trip_pf (m := 16) rfl (.c (k := 5) (by kernel_rfl) rfl rfl .n) rfl rfl rfl
     · exact trip_pf (m := 16) rfl (.c (k := 5) (by kernel_rfl) rfl rfl (.c (k := 8) (by kernel_rfl) rfl rfl .n)) rfl rfl rfl
     · exact trip_pf (m := 16) rfl (.c (k := 5) (by kernel_rfl) rfl rfl .n) rfl rfl rfl
     · exact trip_pf (m := 16) rfl (.c (k := 5) (by kernel_rfl) rfl rfl (.c (k := 9) (by kernel_rfl) rfl rfl (.c (k := 10) (by kernel_rfl) rfl rfl .n))) rfl rfl rfl
     · exact trip_pf (m := 16) rfl (.c (k := 5) (by kernel_rfl) rfl rfl (.c (k := 11) (by kernel_rfl) rfl rfl .n)) rfl rfl rfl
     · exact trip_pf (m := 16) rfl (.c (k := 5) (by kernel_rfl) rfl rfl (.c (k := 12) (by kernel_rfl) rfl rfl .n)) rfl rfl rfl
     · exact trip_pf (m := 16) rfl (.c (k := 5) (by kernel_rfl) rfl rfl (.c (k := 7) (by kernel_rfl) rfl rfl (.c (k := 13) (by kernel_rfl) rfl rfl .n))) rfl rfl rfl
     exact trip_pv (m := 16) (.c (k := 5) (by kernel_rfl) rfl rfl (.c (k := 14) (by kernel_rfl) rfl rfl .n)) (fun hm0 hm hx => .n) (by kernel_rfl) (by kernel_rfl) rfl
    clear hs w a; intro a w vs129 hs hf
    replace hs : St _ _ _ _ [blk g122 [.int .i64 ((bl.getD k default).id), .int .i64 ((bl.getD k default).p0), .int .i64 ((bl.getD k default).p1), .int .i64 ((bl.getD k default).p2), .int .i64 ((bl.getD k default).v0), .int .i64 ((bl.getD k default).v1), .int .i64 ((bl.getD k default).v2), .int .u16 (((((bl.getD k default).a).toNat : Nat) : Int)), .int .u8 (((((bl.getD k default).g).toNat : Nat) : Int))] 47, row q 45 9 out.length (out.flatMap recV), blk g29 [.int .i64 (bt), .int .i64 (btm), .int .i64 (at_), q] 27, blk g5 [.int .i64 (0), .int .i64 (0), .int .i64 (0), .slice none 0 0] 27, blk g4 [.int .i64 (bt), .int .i64 (btm), ub] 24, blk g3 [.int .i64 (at_), .int .i64 (atm), ua] 24] _ _ := hs
    obtain ⟨e15, q15⟩ := hf 15 (by decide)
    replace e15 : _ = some (vs129 15) := e15.val rfl
    rw [show vs129 15 = .bool (true) from q15] at e15
    replace hs := hs.learn e15; clear e15 q15
    clear hf
    refine then_n (hK128 _ _ ?_)
    refine wp_cond_true (hs.ev rfl) ?_
    refine wp_seq_k fun K130 hK131 => ?_
    refine wp_seq_k fun K132 hK133 => ?_
    refine wp_region_lit ?_
    refine st_run 3 [(115, .bool (!((((((bl.getD k default).g).toNat : Nat) : Int) : Int) == 0))), (114, .int .u8 (((((bl.getD k default).g).toNat : Nat) : Int))), (113, .pointer (some ⟨g122, 8, none⟩))] hs (.c (hs.mem.del .z) .n) (by kernel_rfl) (by kernel_rfl) (by kernel_rfl) ?_; clear hs a; intro a hs
    refine wpList_nil ?_
    refine then_n (hK133 _ _ ?_)
    refine wp_if hs rfl (fun hc134 => ?_) (fun hc134 => ?_)
    ·
     replace hc134 := not_t hc134
     replace hc134 := ne_of_beq_f hc134
     refine wp_seq_k fun K135 hK136 => ?_
     refine wp_region_lit ?_
     refine st_build (it := Try.t27) (zs := [.int .i64 (0), .int .i64 (0), .int .i64 (0), .slice none 0 0]) (places := [(0, 1), (1, 1), (2, 1), (3, 1)]) hs .n Try.underlying27 rfl rfl rfl rfl .n rfl ?_; clear hs w a; intro a w hs
     refine st_stBA hs rfl rfl (.s (.s (.s .z))) (.z (.c (.c (.c (.c .n))))) (ones_c rfl (ones_c rfl (ones_c rfl (ones_c rfl ones_n)))) Try.sizeOf27 rfl ?_; clear hs w a; intro a w hs
     refine st_as hs rfl rfl ?_; clear hs w a; intro a w hs
     refine wpList_nil ?_
     refine then_n (hK136 _ _ ?_)
     refine wp_ret ?_
     refine th_r ?_
     refine th_r ?_
     refine in_r ?_
     refine th_r ?_
     refine in_r ?_
     refine th_r ?_
     have hE : dErr at_ atm al bt btm bl = 15 := by first | exact dErr_1 (by omega) | exact dErr_2 (by omega) (by omega) | exact dErr_3 (by omega) (by omega) (by omega) | (rw [dErr_4 (by omega) (by omega) (by omega)]; first | exact mE_none (dInv_perr (by omega) hI1_2 (by omega) (g_n0 (by omega))) | exact mE_none (dInv_eerr (by omega) (by omega) hI1_2 (by omega) (by omega) (not_or.2 ⟨g_ne (by omega), g_ne (by omega)⟩)))
     have hS : dG at_ atm al bt btm bl = ⟨0, 0, 0, []⟩ := dG_e (by omega)
     replace hs := hs.addNil 45 9
     replace hs := hs.rerow .z (m' := (dG at_ atm al bt btm bl).l.length) (xs' := ((dG at_ atm al bt btm bl).l.flatMap recV)) (by rw [hS]; rfl) (by rw [hS]; rfl)
     exact finC2 hs rfl rfl rfl (.s .z) (.z (.c (.c (.c (.c .n))))) Try.isAgg27 Try.sizeOf27 (.c (.s (.s (.s (.s (.s (.s .z)))))) (.c (.s (.s (.s (.s (.s .z))))) (.c (.s (.s (.s (.s .z)))) (.c (.s (.s (.s .z))) (.c (.s (.s .z)) (.c (.s .z) .n)))))) ⟨_, by rw [hE, hS] <;> rfl, rfl⟩
    replace hc134 := not_f hc134
    replace hc134 := eq_of_beq hc134
    refine wp_skip ?_
    refine then_n (hK131 _ _ ?_)
    refine wp_seq_k fun K137 hK138 => ?_
    replace hs := hs.sub (F' := [(115, .bool (!((((((bl.getD k default).g).toNat : Nat) : Int) : Int) == 0))), (114, .int .u8 (((((bl.getD k default).g).toNat : Nat) : Int))), (113, .pointer (some ⟨g122, 8, none⟩)), (112, .bool (true)), (9, .int .i64 (((k + 1 : Nat) : Int))), (96, .int .i64 (((k + 1 : Nat) : Int))), (95, .int .i64 ((k : Int))), (10, .pointer (some ⟨g122, 0, none⟩)), (94, .agg #[.int .i64 ((bl.getD k default).id), .int .i64 ((bl.getD k default).p0), .int .i64 ((bl.getD k default).p1), .int .i64 ((bl.getD k default).p2), .int .i64 ((bl.getD k default).v0), .int .i64 ((bl.getD k default).v1), .int .i64 ((bl.getD k default).v2), .int .u16 (((((bl.getD k default).a).toNat : Nat) : Int)), .int .u8 (((((bl.getD k default).g).toNat : Nat) : Int))]), (93, .pointer (some (adr ub (k * 9)))), (92, .int .i64 ((k : Int))), (91, ub), (90, .pointer (some ⟨g4, 2, none⟩)), (75, .bool (false)), (2, .pointer (some ⟨g3, 0, none⟩)), (3, .pointer (some ⟨g4, 0, none⟩)), (4, .pointer (some ⟨g5, 0, none⟩)), (5, .int .i64 (0)), (7, .pointer (some ⟨g29, 0, none⟩)), (8, .int .i64 ((i : Int))), (48, .bool (true))]) (.c rfl (.c rfl (.c rfl (.c rfl (.c rfl (.c rfl (.c rfl (.c rfl (.c rfl (.c rfl (.c rfl (.c rfl (.c rfl (.c rfl (.c rfl (.c rfl (.c rfl (.c rfl (.c rfl (.c rfl (.c rfl .n)))))))))))))))))))))
    refine wp_drawG (M0 := [blk g122 [.int .i64 ((bl.getD k default).id), .int .i64 ((bl.getD k default).p0), .int .i64 ((bl.getD k default).p1), .int .i64 ((bl.getD k default).p2), .int .i64 ((bl.getD k default).v0), .int .i64 ((bl.getD k default).v1), .int .i64 ((bl.getD k default).v2), .int .u16 (((((bl.getD k default).a).toNat : Nat) : Int)), .int .u8 (((((bl.getD k default).g).toNat : Nat) : Int))] 47, blk g5 [.int .i64 (0), .int .i64 (0), .int .i64 (0), .slice none 0 0] 27, blk g4 [.int .i64 (bt), .int .i64 (btm), ub] 24, blk g3 [.int .i64 (at_), .int .i64 (atm), ua] 24]) (Ds := [Pv 0 (.pointer (some ⟨g29, 3, none⟩)), Pv 1 q, Pv 2 (.agg #[.int .i64 ((bl.getD k default).id), .int .i64 ((bl.getD k default).p0), .int .i64 ((bl.getD k default).p1), .int .i64 ((bl.getD k default).p2), .int .i64 ((bl.getD k default).v0), .int .i64 ((bl.getD k default).v1), .int .i64 ((bl.getD k default).v2), .int .u16 (((((bl.getD k default).a).toNat : Nat) : Int)), .int .u8 (((((bl.getD k default).g).toNat : Nat) : Int))]), Pv 3 (.agg #[.int .i64 (((putOf (bl.getD k default))).k), .int .i64 (((putOf (bl.getD k default))).id), .int .i64 (((putOf (bl.getD k default))).p0), .int .i64 (((putOf (bl.getD k default))).p1), .int .i64 (((putOf (bl.getD k default))).p2), .int .i64 (((putOf (bl.getD k default))).v0), .int .i64 (((putOf (bl.getD k default))).v1), .int .i64 (((putOf (bl.getD k default))).v2), .int .u16 ((((((putOf (bl.getD k default))).a).toNat : Nat) : Int))]), ⟨[], [], [], fun vs139 => vs139 4 = .slice (some ⟨(ptrG (vs139 4)), 0, none⟩) 1 1, fun vs139 => [blk (ptrG (vs139 4)) [.int .i64 (((putOf (bl.getD k default))).k), .int .i64 (((putOf (bl.getD k default))).id), .int .i64 (((putOf (bl.getD k default))).p0), .int .i64 (((putOf (bl.getD k default))).p1), .int .i64 (((putOf (bl.getD k default))).p2), .int .i64 (((putOf (bl.getD k default))).v0), .int .i64 (((putOf (bl.getD k default))).v1), .int .i64 (((putOf (bl.getD k default))).v2), .int .u16 ((((((putOf (bl.getD k default))).a).toNat : Nat) : Int))] 45], none⟩, ⟨[row q 45 9 out.length (out.flatMap recV)], [], [], fun vs139 => True, fun vs139 => [row (vs139 5) 45 9 (out.length + 1) ((out.flatMap recV) ++ ([.int .i64 (((putOf (bl.getD k default))).k), .int .i64 (((putOf (bl.getD k default))).id), .int .i64 (((putOf (bl.getD k default))).p0), .int .i64 (((putOf (bl.getD k default))).p1), .int .i64 (((putOf (bl.getD k default))).p2), .int .i64 (((putOf (bl.getD k default))).v0), .int .i64 (((putOf (bl.getD k default))).v1), .int .i64 (((putOf (bl.getD k default))).v2), .int .u16 ((((((putOf (bl.getD k default))).a).toNat : Nat) : Int))]))], none⟩, Pv 6 (.pointer (some ⟨g29, 3, none⟩)), ⟨[blk g29 [.int .i64 (bt), .int .i64 (btm), .int .i64 (at_), q] 27], [], [5], fun vs139 => True, fun vs139 => [blk g29 [.int .i64 (bt), .int .i64 (btm), .int .i64 (at_), (vs139 5)] 27], none⟩]) (by kernel_rfl) hs rfl (.c (.s .z) (.c (.s .z) .n)) (by kernel_rfl) (by kernel_rfl) (by kernel_rfl) ?_ ?_
    ·
     refine (.c ?_ (.c ?_ (.c ?_ (.c ?_ (.c ?_ (.c ?_ (.c ?_ (.c ?_ .n))))))))
     · exact trip_pv (m := 8) .n (fun hm0 hm hx => .n) (by kernel_rfl) (by kernel_rfl) rfl
     · exact trip_pv (m := 8) (.c (k := 0) (by kernel_rfl) rfl rfl .n) (fun hm0 hm hx => (.c (hm.own (List.mem_append.2 (.inr ((hx 7 (twB_spec 8 _ (by kernel_rfl))).1 _ (List.Mem.head _))))))) (by kernel_rfl) (by kernel_rfl) rfl
     · exact trip_pv (m := 8) .n (fun hm0 hm hx => (.c (hm0.del .z))) (by kernel_rfl) (by kernel_rfl) rfl
     ·
      intro a_ w_ R_ rest_ vs139 hm hs ht hx
      have hm0 := hm.mid
      replace hs := hs.lrn (ht 2 (twB_spec 8 _ (by kernel_rfl))) rfl rfl
      have hs0 := hs.bare
      refine st_callP (v := .agg #[.int .i64 (((putOf (bl.getD k default))).k), .int .i64 (((putOf (bl.getD k default))).id), .int .i64 (((putOf (bl.getD k default))).p0), .int .i64 (((putOf (bl.getD k default))).p1), .int .i64 (((putOf (bl.getD k default))).p2), .int .i64 (((putOf (bl.getD k default))).v0), .int .i64 (((putOf (bl.getD k default))).v1), .int .i64 (((putOf (bl.getD k default))).v2), .int .u16 ((((((putOf (bl.getD k default))).a).toNat : Nat) : Int))]) hs (.c rfl .n) Try.call36 (mput_ok (bl.getD k default) _) rfl ?_; clear hs; intro a w hs
      exact wpList_nil ⟨rfl, _, _, hs0, (.c .r), hs, rfl⟩
     ·
      intro a_ w_ R_ rest_ vs139 hm hs ht hx
      have hm0 := hm.mid
      replace hs := hs.lrn (ht 3 (twB_spec 8 _ (by kernel_rfl))) rfl rfl
      have hs0 := hs.bare
      refine st_bs (cs := [.int .i64 (((putOf (bl.getD k default))).k), .int .i64 (((putOf (bl.getD k default))).id), .int .i64 (((putOf (bl.getD k default))).p0), .int .i64 (((putOf (bl.getD k default))).p1), .int .i64 (((putOf (bl.getD k default))).p2), .int .i64 (((putOf (bl.getD k default))).v0), .int .i64 (((putOf (bl.getD k default))).v1), .int .i64 (((putOf (bl.getD k default))).v2), .int .u16 ((((((putOf (bl.getD k default))).a).toNat : Nat) : Int))]) hs (.c .n) (.c rfl .n) Try.underlying25 (ie := Try.t45) rfl rfl rfl rfl (by decide) (by decide) rfl (by decide) rfl rfl rfl ?_; clear hs; intro g140 a w hs
      exact wpList_nil ⟨rfl, _, _, hs0, (.c .r), hs, rfl⟩
     ·
      intro a_ w_ R_ rest_ vs139 hm hs ht hx
      replace hs : St _ _ _ (feet [row q 45 9 out.length (out.flatMap recV)]) [row q 45 9 out.length (out.flatMap recV)] _ _ := hs
      have hm0 := hm.mid
      replace hs := hs.lrn (ht 1 (twB_spec 8 _ (by kernel_rfl))) rfl rfl
      have t4 := ht 4 (twB_spec 8 _ (by kernel_rfl))
      have e4 : _ = some (vs139 4) := t4.val rfl
      rw [show vs139 4 = .slice (some ⟨(ptrG (vs139 4)), 0, none⟩) 1 1 from t4.2.1] at e4
      replace hs := hs.learn e4
      have hs0 := hs.bare
      refine st_app (size := 9) (bytes := 72) hs rfl rfl .z (rd_blk (m := 1) (size := 9) (hm.own (List.mem_append.2 (.inr ((ht 4 (twB_spec 8 _ (by kernel_rfl))).2.2 (later (n := 8) (by kernel_rfl)) _ (List.Mem.head _))))) rfl (by decide)) (by simp [Value.oneCell']) Try.underlying25 (i := Try.t45) rfl rfl rfl rfl rfl (by decide) (by omega) (by simp only [maxLen]; omega) rfl ?_; clear hs; intro v141 a w hs
      exact wpList_nil ⟨rfl, _, _, hs0, (.c (.c .r)), hs, trivial⟩
     · exact trip_pv (m := 8) .n (fun hm0 hm hx => .n) (by kernel_rfl) (by kernel_rfl) rfl
     intro a_ w_ R_ rest_ vs139 hm hs ht hx
     replace hs : St _ _ _ (feet [blk g29 [.int .i64 (bt), .int .i64 (btm), .int .i64 (at_), q] 27]) [blk g29 [.int .i64 (bt), .int .i64 (btm), .int .i64 (at_), q] 27] _ _ := hs
     have hm0 := hm.mid
     have t5 := ht 5 (twB_spec 8 _ (by kernel_rfl))
     have e5 : _ = some (vs139 5) := t5.val rfl
     replace hs := hs.learn e5
     replace hs := hs.lrn (ht 6 (twB_spec 8 _ (by kernel_rfl))) rfl rfl
     have hs0 := hs.bare
     refine st_stB hs rfl rfl .z (.s (.s (.s .z))) (rd_row (hm.own (List.mem_append.2 (.inr ((ht 5 (twB_spec 8 _ (by kernel_rfl))).2.2 (later (n := 8) (by kernel_rfl)) _ (List.Mem.head _)))))).isSl.one Try.sizeOf25 ?_; clear hs; intro a w hs
     exact wpList_nil ⟨rfl, .tuple #[], _, hs0, (.c (.c .r)), hs, trivial⟩
    clear hs w a; intro a w vs139 hs hf
    replace hs : St _ _ _ _ [blk g122 [.int .i64 ((bl.getD k default).id), .int .i64 ((bl.getD k default).p0), .int .i64 ((bl.getD k default).p1), .int .i64 ((bl.getD k default).p2), .int .i64 ((bl.getD k default).v0), .int .i64 ((bl.getD k default).v1), .int .i64 ((bl.getD k default).v2), .int .u16 (((((bl.getD k default).a).toNat : Nat) : Int)), .int .u8 (((((bl.getD k default).g).toNat : Nat) : Int))] 47, blk g5 [.int .i64 (0), .int .i64 (0), .int .i64 (0), .slice none 0 0] 27, blk g4 [.int .i64 (bt), .int .i64 (btm), ub] 24, blk g3 [.int .i64 (at_), .int .i64 (atm), ua] 24, blk (ptrG (vs139 4)) [.int .i64 (((putOf (bl.getD k default))).k), .int .i64 (((putOf (bl.getD k default))).id), .int .i64 (((putOf (bl.getD k default))).p0), .int .i64 (((putOf (bl.getD k default))).p1), .int .i64 (((putOf (bl.getD k default))).p2), .int .i64 (((putOf (bl.getD k default))).v0), .int .i64 (((putOf (bl.getD k default))).v1), .int .i64 (((putOf (bl.getD k default))).v2), .int .u16 ((((((putOf (bl.getD k default))).a).toNat : Nat) : Int))] 45, row (vs139 5) 45 9 (out.length + 1) ((out.flatMap recV) ++ ([.int .i64 (((putOf (bl.getD k default))).k), .int .i64 (((putOf (bl.getD k default))).id), .int .i64 (((putOf (bl.getD k default))).p0), .int .i64 (((putOf (bl.getD k default))).p1), .int .i64 (((putOf (bl.getD k default))).p2), .int .i64 (((putOf (bl.getD k default))).v0), .int .i64 (((putOf (bl.getD k default))).v1), .int .i64 (((putOf (bl.getD k default))).v2), .int .u16 ((((((putOf (bl.getD k default))).a).toNat : Nat) : Int))])), blk g29 [.int .i64 (bt), .int .i64 (btm), .int .i64 (at_), (vs139 5)] 27] _ _ := hs
    generalize ptrG (vs139 4) = g142 at hs
    generalize vs139 5 = v143 at hs
    clear hf
    refine then_n (hK138 _ _ ?_)
    refine wp_exit ?_
    refine th_e ?_
    refine in_hit ?_
    refine then_n ?_
    have hF := dInv_put (by omega) hI1_2 (by omega) (g_0 (by omega))
    have hol : (out ++ [putOf (bl.getD k default)]).length ≤ i + k + 1 := by have := hI1_3; rw [List.length_append]; show _ + 1 ≤ _; omega
    replace hs := hs.rerow (.s (.s (.s (.s (.s .z))))) (m' := (out ++ [putOf (bl.getD k default)]).length) (xs' := ((out ++ [putOf (bl.getD k default)]).flatMap recV)) (by rw [List.length_append]; rfl) (by rw [List.flatMap_append]; rfl)
    replace hs := hs.drop (.c (.s (.s (.s (.s (.s .z))))) (.c (.s .z) .n))
    replace hs := hs.reorder (.c .z (.c (.s (.s (.s .z))) (.c .z (.c .z (.c .z .n)))))
    refine ⟨_, ?_, i, k + 1, v143, out ++ [putOf (bl.getD k default)], rfl, hs.sub (.c rfl (.c rfl (.c rfl (.c rfl (.c rfl (.c rfl (.c rfl .n))))))), by omega, by omega, hF, hol⟩
    omega
   refine wp_region_lit ?_
   refine st_run 3 [(39, ua), (38, .pointer (some ⟨g3, 2, none⟩)), (37, .int .i64 ((i : Int)))] hs (.c (hs.mem.del (.s (.s (.s (.s .z))))) .n) (by kernel_rfl) (by kernel_rfl) (by kernel_rfl) ?_; clear hs a; intro a hs
   refine st_len hs rfl (hs.rd0 hca).isSl Try.underlying22 rfl ?_; clear hs w a; intro a w hs
   refine st_run 2 [(42, .bool (decide ((i : Int) < (((al.length : Nat) : Int))))), (41, .bool (decide ((i : Int) < (((al.length : Nat) : Int)))))] hs .n (by kernel_rfl) (by kernel_rfl) (by kernel_rfl) ?_; clear hs a; intro a hs
   refine st_part (b := decide ((i : Int) < (((al.length : Nat) : Int)))) (fun hc144 => ?_) (fun hc144 => ?_)
   ·
    rw [hc144] at hs
    replace hc144 := of_decide_eq_true hc144
    refine st_run 6 [(48, .bool (true)), (47, undef), (46, undef), (45, undef), (44, undef), (43, undef)] hs .n (by kernel_rfl) (by kernel_rfl) (by kernel_rfl) ?_; clear hs a; intro a hs
    refine wpList_nil ?_
    exact then_n (hR_ _ _ (hs.sub (.c rfl (.c rfl (.c rfl (.c rfl (.c rfl (.c rfl (.c rfl (.c rfl .n))))))))) (by omega))
   rw [hc144] at hs
   replace hc144 := of_decide_eq_false hc144
   refine st_run 3 [(45, ub), (44, .pointer (some ⟨g4, 2, none⟩)), (43, .int .i64 ((k : Int)))] hs (.c (hs.mem.del (.s (.s (.s .z)))) .n) (by kernel_rfl) (by kernel_rfl) (by kernel_rfl) ?_; clear hs a; intro a hs
   refine st_guardT hs rfl rfl rfl ?_
   refine st_len hs rfl (hs.rd0 hcb).isSl Try.underlying22 rfl ?_; clear hs w a; intro a w hs
   refine st_run 2 [(48, .bool (decide ((k : Int) < (((bl.length : Nat) : Int))))), (47, .bool (decide ((k : Int) < (((bl.length : Nat) : Int)))))] hs .n (by kernel_rfl) (by kernel_rfl) (by kernel_rfl) ?_; clear hs a; intro a hs
   refine wpList_nil ?_
   refine st_part (b := decide ((k : Int) < (((bl.length : Nat) : Int)))) (fun hc145 => ?_) (fun hc145 => ?_)
   ·
    rw [hc145] at hs
    replace hc145 := of_decide_eq_true hc145
    exact then_n (hR_ _ _ (hs.sub (.c rfl (.c rfl (.c rfl (.c rfl (.c rfl (.c rfl (.c rfl (.c rfl .n))))))))) (by omega))
   rw [hc145] at hs
   replace hc145 := of_decide_eq_false hc145
   refine then_n (hK39 _ _ ?_)
   refine wp_cond_false (hs.ev rfl) ?_
   refine wp_exit ?_
   refine th_e ?_
   refine th_e ?_
   refine in_hit ?_
   refine then_n (hK35 _ _ ?_)
   refine wp_seq_k fun K146 hK147 => ?_
   refine wp_region_lit ?_
   refine st_ldBA hs rfl (.s .z) (.z (.c (.c (.c (.c .n))))) Try.isAgg27 Try.sizeOf27 rfl ?_; clear hs w a; intro a w hs
   refine st_stBA hs rfl rfl (.s (.s .z)) (.z (.c (.c (.c (.c .n))))) (ones_c rfl (ones_c rfl (ones_c rfl (ones_c (rd_row (hs.mem.del .z)).isSl.one ones_n)))) Try.sizeOf27 rfl ?_; clear hs w a; intro a w hs
   refine st_as hs rfl rfl ?_; clear hs w a; intro a w hs
   refine wpList_nil ?_
   refine then_n (hK147 _ _ ?_)
   refine wp_ret ?_
   have hm := mE_some (dInv_end (by omega) (by omega) hI1_2)
   have hE : dErr at_ atm al bt btm bl = 0 := by rw [dErr_4 (by omega) (by omega) (by omega)]; exact hm.1
   have hS : dG at_ atm al bt btm bl = ⟨bt, btm, at_, out⟩ := by rw [dG_0 hE, hm.2]
   replace hs := hs.rerow (.s .z) (m' := (dG at_ atm al bt btm bl).l.length) (xs' := ((dG at_ atm al bt btm bl).l.flatMap recV)) (by rw [hS]) (by rw [hS])
   exact finC2 hs rfl rfl rfl (.s .z) (.z (.c (.c (.c (.c .n))))) Try.isAgg27 Try.sizeOf27 (.c (.s (.s (.s (.s .z)))) (.c (.s (.s (.s .z))) (.c (.s (.s .z)) (.c (.s .z) .n)))) ⟨_, by rw [hE, hS] <;> rfl, rfl⟩
  replace hc12 := ne_of_beq_f hc12
  refine wp_skip ?_
  refine then_n (hK9 _ _ ?_)
  refine wp_seq_k fun K148 hK149 => ?_
  refine wp_seq_k fun K150 hK151 => ?_
  refine wp_region_lit ?_
  refine st_run 2 [(21, .bool (!((((snapErr at_ atm al : Nat) : Int) : Int) == 0)))] hs .n (by kernel_rfl) (by kernel_rfl) (by kernel_rfl) ?_; clear hs a; intro a hs
  have hb_ : (!((((snapErr at_ atm al : Nat) : Int) : Int) == 0)) = true := by rw [Bool.not_eq_true']; exact beq_eq_false_iff_ne.2 (by omega)
  rw [hb_] at hs; clear hb_
  refine wpList_nil ?_
  refine then_n (hK151 _ _ ?_)
  refine wp_cond_true (hs.ev rfl) ?_
  refine wp_seq_k fun K152 hK153 => ?_
  refine wp_region_lit ?_
  refine st_build (it := Try.t27) (zs := [.int .i64 (0), .int .i64 (0), .int .i64 (0), .slice none 0 0]) (places := [(0, 1), (1, 1), (2, 1), (3, 1)]) hs .n Try.underlying27 rfl rfl rfl rfl .n rfl ?_; clear hs w a; intro a w hs
  refine st_mv hs rfl rfl ?_; clear hs w a; intro a w hs
  refine st_stBA hs rfl rfl .z (.z (.c (.c (.c (.c .n))))) (ones_c rfl (ones_c rfl (ones_c rfl (ones_c rfl ones_n)))) Try.sizeOf27 rfl ?_; clear hs w a; intro a w hs
  refine st_as hs rfl rfl ?_; clear hs w a; intro a w hs
  refine wpList_nil ?_
  refine then_n (hK153 _ _ ?_)
  refine wp_ret ?_
  refine th_r ?_
  have hE : dErr at_ atm al bt btm bl = snapErr at_ atm al := by first | exact dErr_1 (by omega) | exact dErr_2 (by omega) (by omega) | exact dErr_3 (by omega) (by omega) (by omega) | (rw [dErr_4 (by omega) (by omega) (by omega)]; first | exact mE_none (dInv_perr (by omega) hI1_2 (by omega) (g_n0 (by omega))) | exact mE_none (dInv_eerr (by omega) (by omega) hI1_2 (by omega) (by omega) (not_or.2 ⟨g_ne (by omega), g_ne (by omega)⟩)))
  have hS : dG at_ atm al bt btm bl = ⟨0, 0, 0, []⟩ := dG_e (by omega)
  replace hs := hs.addNil 45 9
  replace hs := hs.rerow .z (m' := (dG at_ atm al bt btm bl).l.length) (xs' := ((dG at_ atm al bt btm bl).l.flatMap recV)) (by rw [hS]; rfl) (by rw [hS]; rfl)
  exact finC2 hs rfl rfl rfl (.s .z) (.z (.c (.c (.c (.c .n))))) Try.isAgg27 Try.sizeOf27 (.c (.s (.s (.s .z))) (.c (.s (.s .z)) (.c (.s .z) .n))) ⟨_, by rw [hE, hS] <;> rfl, rfl⟩
end Go.Proofs.Ytbioemaipghagaa
