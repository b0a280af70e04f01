/- Walks of the document's Wdelm3: what each function does, over the program of this seat. Printed by a program of this session. -/
import Derived.Test.YtbioemaipghagaaQWdelm
import Derived.Test.YtbioemaipghagaaQWrec4m
import Derived.Test.YtbioemaipghagaaQWgramm
namespace Go.Proofs.Ytbioemaipghagaa
open Go Go.Sx Go.RowKit
set_option linter.unusedVariables false
set_option linter.unusedSimpArgs false
set_option maxRecDepth 4000
set_option maxHeartbeats 1000000

theorem mapply10_ok (t tm : Int) (u : Value) (l : List EntR) (gt gtm gb : Int) (gu : Value) (rl : List RecR) (w0 : World) (ht_ : -9223372036854775808 ≤ t ∧ t ≤ 9223372036854775807) (htm_ : -9223372036854775808 ≤ tm ∧ tm ≤ 9223372036854775807) (hgt_ : -9223372036854775808 ≤ gt ∧ gt ≤ 9223372036854775807) (hgtm_ : -9223372036854775808 ≤ gtm ∧ gtm ≤ 9223372036854775807) (hgb_ : -9223372036854775808 ≤ gb ∧ gb ≤ 9223372036854775807) (hc : Rd w0 [] u 9 l.length (l.flatMap entV)) (hcg : Rd w0 [] gu 9 rl.length (rl.flatMap recV)) (hw : ∀ x ∈ rl, x.wf) : Calls Try.prog 12 #[.agg #[.int .i64 (t), .int .i64 (tm), u], .agg #[.int .i64 (gt), .int .i64 (gtm), .int .i64 (gb), gu]] w0 (Ret w0 [] fun x N => ∃ v, x = .tuple #[.agg #[.int .i64 ((aS t tm l gt gtm gb rl).t), .int .i64 ((aS t tm l gt gtm gb rl).tm), v], .int .i64 ((aE t tm l gt gtm gb rl : Nat) : Int)] ∧ N = [row v 47 9 (aS t tm l gt gtm gb rl).l.length ((aS t tm l gt gtm gb rl).l.flatMap entV)]) := by
  have hce := hc.le
  simp only [maxLen] at hce
  have hcge := hcg.le
  simp only [maxLen] at hcge
  refine enter (F0 := [(0, .agg #[.int .i64 (t), .int .i64 (tm), u]), (1, .agg #[.int .i64 (gt), .int .i64 (gtm), .int .i64 (gb), gu])]) Try.func12 rfl rfl rfl (.c (.c .n)) (Mem.nil _) fun a w hs => ?_
  refine wp_seq_k fun K1 hK2 => ?_
  refine wp_region_lit ?_
  refine st_box (cs := [.int .i64 (t), .int .i64 (tm), u]) hs rfl rfl rfl ?_; clear hs w a; intro g3 a w hs
  refine st_box (cs := [.int .i64 (gt), .int .i64 (gtm), .int .i64 (gb), gu]) hs rfl rfl rfl ?_; clear hs w a; intro g4 a w hs
  refine st_alloc (cs := [.int .i64 (0), .int .i64 (0), .slice none 0 0]) hs Try.zeroValue24 rfl rfl ?_; clear hs w a; intro g5 a w hs
  refine st_as hs rfl rfl ?_; clear hs w a; intro a w hs
  refine wpList_nil ?_
  refine then_n (hK2 _ _ ?_)
  refine wp_seq_k fun K6 hK7 => ?_
  refine wp_region_lit ?_
  refine st_ldBA hs rfl (.s .z) (.z (.c (.c (.c (.c .n))))) Try.isAgg27 Try.sizeOf27 rfl ?_; clear hs w a; intro a w hs
  refine st_callP (v := .int .i64 (((bodyErr gt gtm gb rl : Nat) : Int))) hs (.c rfl .n) Try.call30 (mcheck_ok gt gtm gb _ rl _ (by omega) (by omega) (by omega) (hs.rd0 hcg) hw) rfl ?_; clear hs w a; intro a w hs
  refine st_as hs rfl rfl ?_; clear hs w a; intro a w hs
  refine wpList_nil ?_
  refine then_n (hK7 _ _ ?_)
  refine wp_seq_k fun K8 hK9 => ?_
  refine wp_seq_k fun K10 hK11 => ?_
  refine wp_region_lit ?_
  refine st_run 2 [(18, .bool (!((((bodyErr gt gtm gb rl : Nat) : Int) : Int) == 0)))] hs .n (by kernel_rfl) (by kernel_rfl) (by kernel_rfl) ?_; clear hs a; intro a hs
  refine wpList_nil ?_
  refine then_n (hK11 _ _ ?_)
  refine wp_if hs rfl (fun hc12 => ?_) (fun hc12 => ?_)
  ·
   replace hc12 := not_t hc12
   replace hc12 := ne_of_beq_f hc12
   refine wp_seq_k fun K13 hK14 => ?_
   refine wp_region_lit ?_
   refine st_build (it := Try.t24) (zs := [.int .i64 (0), .int .i64 (0), .slice none 0 0]) (places := [(0, 1), (1, 1), (2, 1)]) hs .n Try.underlying24 rfl rfl rfl rfl .n rfl ?_; clear hs w a; intro a w hs
   refine st_mv hs rfl rfl ?_; clear hs w a; intro a w hs
   refine st_stBA hs rfl rfl .z (.z (.c (.c (.c .n)))) (ones_c rfl (ones_c rfl (ones_c rfl ones_n))) Try.sizeOf24 rfl ?_; clear hs w a; intro a w hs
   refine st_as hs rfl rfl ?_; clear hs w a; intro a w hs
   refine wpList_nil ?_
   refine then_n (hK14 _ _ ?_)
   refine wp_ret ?_
   refine th_r ?_
   have hE : aE t tm l gt gtm gb rl = bodyErr gt gtm gb rl := by first | exact aE_1 (by omega) | exact aE_2 (by omega) (by omega) (by omega) | exact aE_3 (by omega) (by omega) (by omega) (by omega) | (rw [aE_4 (by omega) hpre, ← hwas]; first | exact aM_none (aInv_err (by omega) hI2_2 (by omega)) | exact aM_full (aInv_end (by omega) hI1_2) (by rw [List.length_append, List.length_drop]; omega))
   have hS : aS t tm l gt gtm gb rl = ⟨0, 0, []⟩ := aS_e (by omega)
   replace hs := hs.addNil 47 9
   replace hs := hs.rerow .z (m' := (aS t tm l gt gtm gb rl).l.length) (xs' := ((aS t tm l gt gtm gb rl).l.flatMap entV)) (by rw [hS]; rfl) (by rw [hS]; rfl)
   exact finC2 hs rfl rfl rfl (.s .z) (.z (.c (.c (.c .n)))) Try.isAgg24 Try.sizeOf24 (.c (.s (.s (.s .z))) (.c (.s (.s .z)) (.c (.s .z) .n))) ⟨_, by rw [hE, hS] <;> rfl, rfl⟩
  replace hc12 := not_f hc12
  replace hc12 := eq_of_beq hc12
  refine wp_skip ?_
  refine then_n (hK9 _ _ ?_)
  refine wp_seq_k fun K15 hK16 => ?_
  refine wp_region_lit ?_
  refine st_run 4 [(24, .int .i64 (gtm)), (22, .int .i64 (gt))] hs (.c (hs.mem.del (.s .z)) (.c (hs.mem.del (.s .z)) .n)) (by kernel_rfl) (by kernel_rfl) (by kernel_rfl) ?_; clear hs a; intro a hs
  refine st_build (it := Try.t24) (zs := [.int .i64 (0), .int .i64 (0), .slice none 0 0]) (places := [(0, 1), (1, 1), (2, 1)]) hs (.c rfl (.c rfl .n)) Try.underlying24 rfl rfl rfl rfl (.c rfl rfl (.z (.c .n)) (.c rfl rfl (.s (.z (.c .n))) .n)) rfl ?_; clear hs w a; intro a w hs
  refine st_alloc (cs := [.int .i64 (0), .int .i64 (0), .slice none 0 0]) hs Try.zeroValue24 rfl rfl ?_; clear hs w a; intro g17 a w hs
  refine st_stBA hs rfl rfl .z (.z (.c (.c (.c .n)))) (ones_c rfl (ones_c rfl (ones_c rfl ones_n))) Try.sizeOf24 rfl ?_; clear hs w a; intro a w hs
  refine wpList_nil ?_
  refine then_n (hK16 _ _ ?_)
  refine wp_seq_k fun K18 hK19 => ?_
  refine wp_region_lit ?_
  refine st_as hs rfl rfl ?_; clear hs w a; intro a w hs
  refine wpList_nil ?_
  refine then_n (hK19 _ _ ?_)
  refine wp_seq_k fun K20 hK21 => ?_
  refine wp_seq_k fun K22 hK23 => ?_
  refine wp_region_lit ?_
  refine st_run 3 [(28, .bool (decide (0 ≤ gb)))] hs (.c (hs.mem.del (.s (.s .z))) .n) (by kernel_rfl) (by kernel_rfl) (by kernel_rfl) ?_; clear hs a; intro a hs
  refine wpList_nil ?_
  refine then_n (hK23 _ _ ?_)
  refine Go.Sx.wp_cut (fun a w => ∃ wu : Value, ∃ was : List EntR, St 150 [(3, .pointer (some ⟨g4, 0, none⟩)), (4, .pointer (some ⟨g5, 0, none⟩)), (5, .int .i64 (0)), (7, .pointer (some ⟨g17, 0, none⟩)), (8, wu)] w0 [] [blk g17 [.int .i64 (gt), .int .i64 (gtm), .slice none 0 0] 24, blk g5 [.int .i64 (0), .int .i64 (0), .slice none 0 0] 24, blk g4 [.int .i64 (gt), .int .i64 (gtm), .int .i64 (gb), gu] 27] a w ∧ Rd w0 [] wu 9 was.length (was.flatMap entV) ∧ was = wasOf gb l ∧ (0 ≤ gb → snapErr t tm l = 0 ∧ t = gb)) ?_ ?_
  ·
   refine wp_if hs rfl (fun hc24 => ?_) (fun hc24 => ?_)
   ·
    replace hc24 := of_decide_eq_true hc24
    refine wp_seq_k fun K25 hK26 => ?_
    refine wp_region_lit ?_
    refine st_ldBA hs rfl (.s (.s (.s .z))) (.z (.c (.c (.c .n)))) Try.isAgg24 Try.sizeOf24 rfl ?_; clear hs w a; intro a w hs
    refine st_callP (v := .int .i64 (((snapErr t tm l : Nat) : Int))) hs (.c rfl .n) Try.call23 (mscheck_ok t tm _ l _ (by omega) (by omega) (hs.rd0 hc)) rfl ?_; clear hs w a; intro a w hs
    refine st_as hs rfl rfl ?_; clear hs w a; intro a w hs
    refine wpList_nil ?_
    refine then_n (hK26 _ _ ?_)
    refine wp_seq_k fun K27 hK28 => ?_
    refine wp_seq_k fun K29 hK30 => ?_
    refine wp_region_lit ?_
    refine st_run 2 [(32, .bool (!((((snapErr t tm l : Nat) : Int) : Int) == 0)))] hs .n (by kernel_rfl) (by kernel_rfl) (by kernel_rfl) ?_; clear hs a; intro a hs
    refine wpList_nil ?_
    refine then_n (hK30 _ _ ?_)
    refine wp_if hs rfl (fun hc31 => ?_) (fun hc31 => ?_)
    ·
     replace hc31 := not_t hc31
     replace hc31 := ne_of_beq_f hc31
     refine wp_seq_k fun K32 hK33 => ?_
     refine wp_region_lit ?_
     refine st_build (it := Try.t24) (zs := [.int .i64 (0), .int .i64 (0), .slice none 0 0]) (places := [(0, 1), (1, 1), (2, 1)]) hs .n Try.underlying24 rfl rfl rfl rfl .n rfl ?_; clear hs w a; intro a w hs
     refine st_mv hs rfl rfl ?_; clear hs w a; intro a w hs
     refine st_stBA hs rfl rfl (.s .z) (.z (.c (.c (.c .n)))) (ones_c rfl (ones_c rfl (ones_c rfl ones_n))) Try.sizeOf24 rfl ?_; clear hs w a; intro a w hs
     refine st_as hs rfl rfl ?_; clear hs w a; intro a w hs
     refine wpList_nil ?_
     refine then_n (hK33 _ _ ?_)
     refine wp_ret ?_
     refine th_r ?_
     refine th_r ?_
     refine th_r ?_
     have hE : aE t tm l gt gtm gb rl = snapErr t tm l := by first | exact aE_1 (by omega) | exact aE_2 (by omega) (by omega) (by omega) | exact aE_3 (by omega) (by omega) (by omega) (by omega) | (rw [aE_4 (by omega) hpre, ← hwas]; first | exact aM_none (aInv_err (by omega) hI2_2 (by omega)) | exact aM_full (aInv_end (by omega) hI1_2) (by rw [List.length_append, List.length_drop]; omega))
     have hS : aS t tm l gt gtm gb rl = ⟨0, 0, []⟩ := aS_e (by omega)
     replace hs := hs.addNil 47 9
     replace hs := hs.rerow .z (m' := (aS t tm l gt gtm gb rl).l.length) (xs' := ((aS t tm l gt gtm gb rl).l.flatMap entV)) (by rw [hS]; rfl) (by rw [hS]; rfl)
     exact finC2 hs rfl rfl rfl (.s .z) (.z (.c (.c (.c .n)))) Try.isAgg24 Try.sizeOf24 (.c (.s (.s (.s (.s .z)))) (.c (.s (.s (.s .z))) (.c (.s (.s .z)) (.c (.s .z) .n)))) ⟨_, by rw [hE, hS] <;> rfl, rfl⟩
    replace hc31 := not_f hc31
    replace hc31 := eq_of_beq hc31
    refine wp_skip ?_
    refine then_n (hK28 _ _ ?_)
    refine wp_seq_k fun K34 hK35 => ?_
    refine wp_seq_k fun K36 hK37 => ?_
    refine wp_region_lit ?_
    refine st_run 5 [(39, .bool (!((t : Int) == gb)))] hs (.c (hs.mem.del (.s (.s (.s .z)))) (.c (hs.mem.del (.s (.s .z))) .n)) (by kernel_rfl) (by kernel_rfl) (by kernel_rfl) ?_; clear hs a; intro a hs
    refine wpList_nil ?_
    refine then_n (hK37 _ _ ?_)
    refine wp_if hs rfl (fun hc38 => ?_) (fun hc38 => ?_)
    ·
     replace hc38 := not_t hc38
     replace hc38 := ne_of_beq_f hc38
     refine wp_seq_k fun K39 hK40 => ?_
     refine wp_region_lit ?_
     refine st_build (it := Try.t24) (zs := [.int .i64 (0), .int .i64 (0), .slice none 0 0]) (places := [(0, 1), (1, 1), (2, 1)]) hs .n Try.underlying24 rfl rfl rfl rfl .n rfl ?_; clear hs w a; intro a w hs
     refine st_stBA hs rfl rfl (.s .z) (.z (.c (.c (.c .n)))) (ones_c rfl (ones_c rfl (ones_c rfl ones_n))) Try.sizeOf24 rfl ?_; clear hs w a; intro a w hs
     refine st_as hs rfl rfl ?_; clear hs w a; intro a w hs
     refine wpList_nil ?_
     refine then_n (hK40 _ _ ?_)
     refine wp_ret ?_
     refine th_r ?_
     refine th_r ?_
     refine th_r ?_
     have hE : aE t tm l gt gtm gb rl = 14 := by first | exact aE_1 (by omega) | exact aE_2 (by omega) (by omega) (by omega) | exact aE_3 (by omega) (by omega) (by omega) (by omega) | (rw [aE_4 (by omega) hpre, ← hwas]; first | exact aM_none (aInv_err (by omega) hI2_2 (by omega)) | exact aM_full (aInv_end (by omega) hI1_2) (by rw [List.length_append, List.length_drop]; omega))
     have hS : aS t tm l gt gtm gb rl = ⟨0, 0, []⟩ := aS_e (by omega)
     replace hs := hs.addNil 47 9
     replace hs := hs.rerow .z (m' := (aS t tm l gt gtm gb rl).l.length) (xs' := ((aS t tm l gt gtm gb rl).l.flatMap entV)) (by rw [hS]; rfl) (by rw [hS]; rfl)
     exact finC2 hs rfl rfl rfl (.s .z) (.z (.c (.c (.c .n)))) Try.isAgg24 Try.sizeOf24 (.c (.s (.s (.s (.s .z)))) (.c (.s (.s (.s .z))) (.c (.s (.s .z)) (.c (.s .z) .n)))) ⟨_, by rw [hE, hS] <;> rfl, rfl⟩
    replace hc38 := not_f hc38
    replace hc38 := eq_of_beq hc38
    refine wp_skip ?_
    refine then_n (hK35 _ _ ?_)
    refine wp_region_lit ?_
    refine st_run 3 [(8, u)] hs (.c (hs.mem.del (.s (.s (.s .z)))) .n) (by kernel_rfl) (by kernel_rfl) (by kernel_rfl) ?_; clear hs a; intro a hs
    refine wpList_nil ?_
    refine then_n ?_
    replace hs := hs.drop (.c (.s (.s (.s .z))) .n)
    exact ⟨u, l, hs.sub (.c rfl (.c rfl (.c rfl (.c rfl (.c rfl .n))))), hc, by unfold wasOf; first | rw [if_pos (by omega)] | rw [if_neg (by omega)], by omega⟩
   replace hc24 := of_decide_eq_false hc24
   refine wp_skip ?_
   refine then_n ?_
   replace hs := hs.drop (.c (.s (.s (.s .z))) .n)
   exact ⟨.slice none 0 0, [], hs.sub (.c rfl (.c rfl (.c rfl (.c rfl (.c rfl .n))))), rd_nil w0 [] 9, by unfold wasOf; first | rw [if_pos (by omega)] | rw [if_neg (by omega)], by omega⟩
  clear hs w a; rintro a w ⟨wu, was, hs, hJ41, hJ42, hJ43⟩
  have hwas := hJ42
  have hpre := hJ43
  have hbp := bodyErr_parts (by omega : bodyErr gt gtm gb rl = 0)
  have hce2 := hJ41.le
  simp only [maxLen] at hce2
  have hgp := gErr_parts hbp.1
  have hwl : was.length ≤ 64 := by rw [hwas]; unfold wasOf; split <;> first | exact (snapErr_parts (hpre (by assumption)).1).2.2.2.2.1 | simp
  refine then_n (hK21 _ _ ?_)
  refine wp_seq_k fun K44 hK45 => ?_
  refine wp_region_lit ?_
  refine st_as hs rfl rfl ?_; clear hs w a; intro a w hs
  refine wpList_nil ?_
  refine then_n (hK45 _ _ ?_)
  refine wp_seq_k fun K46 hK47 => ?_
  refine wp_seq_k fun K48 hK49 => ?_
  refine wp_region_lit ?_
  refine st_as hs rfl rfl ?_; clear hs w a; intro a w hs
  refine wpList_nil ?_
  refine then_n (hK49 _ _ ?_)
  refine wp_block ?_
  replace hs := hs.addNil 47 9
  replace hs := hs.rerow .z (m' := ([] : List EntR).length) (xs' := (([] : List EntR).flatMap entV)) (rfl) (rfl)
  refine wp_loopI (fun mm_ a w => ∃ k : Nat, ∃ i : Nat, ∃ q : Value, ∃ out : List EntR, mm_ = rl.length - k ∧ St 150 [(3, .pointer (some ⟨g4, 0, none⟩)), (4, .pointer (some ⟨g5, 0, none⟩)), (5, .int .i64 (0)), (7, .pointer (some ⟨g17, 0, none⟩)), (8, wu), (9, .int .i64 ((i : Int))), (10, .int .i64 ((k : Int)))] w0 [] [row q 47 9 out.length (out.flatMap entV), blk g17 [.int .i64 (gt), .int .i64 (gtm), q] 24, blk g5 [.int .i64 (0), .int .i64 (0), .slice none 0 0] 24, blk g4 [.int .i64 (gt), .int .i64 (gtm), .int .i64 (gb), gu] 27] a w ∧ k ≤ rl.length ∧ i ≤ was.length ∧ (apl was rl = (apl (was.drop i) (rl.drop k)).map (out ++ ·)) ∧ out.length ≤ i + k) ⟨0, 0, .slice none 0 0, [], rfl, hs.sub (.c rfl (.c rfl (.c rfl (.c rfl (.c rfl (.c rfl (.c rfl .n))))))), by omega, by omega, map_nil0 _, Nat.le_refl _⟩ ?_
  clear hs w a; rintro mm_ a w ⟨k, i, q, out, rfl, hs, hI1_0, hI1_1, hI1_2, hI1_3⟩
  refine wp_seq_k fun K50 hK51 => ?_
  refine wp_seq_k fun K52 hK53 => ?_
  refine wp_region_lit ?_
  refine st_run 3 [(45, gu), (44, .pointer (some ⟨g4, 3, none⟩)), (43, .int .i64 ((k : Int)))] hs (.c (hs.mem.del (.s (.s (.s .z)))) .n) (by kernel_rfl) (by kernel_rfl) (by kernel_rfl) ?_; clear hs a; intro a hs
  refine st_len hs rfl (hs.rd0 hcg).isSl Try.underlying25 rfl ?_; clear hs w a; intro a w hs
  refine st_lss hs rfl rfl rfl ?_; clear hs w a; intro a w hs
  refine wpList_nil ?_
  refine then_n (hK53 _ _ ?_)
  refine wp_if hs rfl (fun hc54 => ?_) (fun hc54 => ?_)
  ·
   replace hc54 := of_decide_eq_true hc54
   refine wp_skip ?_
   refine then_n (hK51 _ _ ?_)
   refine wp_seq_k fun K55 hK56 => ?_
   refine wp_block ?_
   refine wp_seq_k fun K57 hK58 => ?_
   refine wp_region_lit ?_
   refine st_run 3 [(52, .int .i64 ((k : Int))), (51, gu), (50, .pointer (some ⟨g4, 3, none⟩))] hs (.c (hs.mem.del (.s (.s (.s .z)))) .n) (by kernel_rfl) (by kernel_rfl) (by kernel_rfl) ?_; clear hs a; intro a hs
   refine st_ia (j := k) hs rfl rfl (hs.rd0 hcg) rfl (by omega) Try.underlying25 Try.sizeOf45 rfl ?_; clear hs w a; intro a w hs
   refine st_ldA (cs := recV (rl.getD k default)) hs rfl (hs.rd0 hcg) (flat_get recV_len rl k (by omega)) (by rw [flat_len recV_len]; omega) (by omega) Try.isAgg45 Try.sizeOf45 rfl ?_; clear hs w a; intro a w hs
   refine st_alloc (cs := [.int .i64 (0), .int .i64 (0), .int .i64 (0), .int .i64 (0), .int .i64 (0), .int .i64 (0), .int .i64 (0), .int .i64 (0), .int .u16 (0)]) hs Try.zeroValue45 rfl rfl ?_; clear hs w a; intro g59 a w hs
   refine st_stBA hs rfl rfl .z (.z (.c (.c (.c (.c (.c (.c (.c (.c (.c .n)))))))))) (ones_c rfl (ones_c rfl (ones_c rfl (ones_c rfl (ones_c rfl (ones_c rfl (ones_c rfl (ones_c rfl (ones_c rfl ones_n))))))))) Try.sizeOf45 rfl ?_; clear hs w a; intro a w hs
   refine wpList_nil ?_
   refine then_n (hK58 _ _ ?_)
   refine wp_seq_k fun K60 hK61 => ?_
   refine wp_block ?_
   refine wp_loopI (fun mm_ a w => ∃ i2 : Nat, ∃ q2 : Value, ∃ out2 : List EntR, mm_ = was.length - i2 ∧ St 150 [(3, .pointer (some ⟨g4, 0, none⟩)), (4, .pointer (some ⟨g5, 0, none⟩)), (5, .int .i64 (0)), (7, .pointer (some ⟨g17, 0, none⟩)), (8, wu), (9, .int .i64 ((i2 : Int))), (10, .int .i64 ((k : Int))), (11, .pointer (some ⟨g59, 0, none⟩))] w0 [] [blk g59 [.int .i64 ((rl.getD k default).k), .int .i64 ((rl.getD k default).id), .int .i64 ((rl.getD k default).p0), .int .i64 ((rl.getD k default).p1), .int .i64 ((rl.getD k default).p2), .int .i64 ((rl.getD k default).v0), .int .i64 ((rl.getD k default).v1), .int .i64 ((rl.getD k default).v2), .int .u16 (((((rl.getD k default).a).toNat : Nat) : Int))] 45, row q2 47 9 out2.length (out2.flatMap entV), blk g17 [.int .i64 (gt), .int .i64 (gtm), q2] 24, blk g5 [.int .i64 (0), .int .i64 (0), .slice none 0 0] 24, blk g4 [.int .i64 (gt), .int .i64 (gtm), .int .i64 (gb), gu] 27] a w ∧ i2 ≤ was.length ∧ True ∧ (apl was rl = (apl (was.drop i2) (rl.drop k)).map (out2 ++ ·)) ∧ out2.length ≤ i2 + k) ⟨i, q, out, rfl, hs.sub (.c rfl (.c rfl (.c rfl (.c rfl (.c rfl (.c rfl (.c rfl (.c rfl .n)))))))), by omega, trivial, hI1_2, hI1_3⟩ ?_
   clear hs w a; rintro mm_ a w ⟨i2, q2, out2, rfl, hs, hI2_0, hI2_1, hI2_2, hI2_3⟩
   refine wp_seq_k fun K62 hK63 => ?_
   refine wp_seq_k fun K64 hK65 => ?_
   by_cases ci : i2 < was.length
   ·
    replace hs := hs.sub (F' := [(3, .pointer (some ⟨g4, 0, none⟩)), (4, .pointer (some ⟨g5, 0, none⟩)), (5, .int .i64 (0)), (7, .pointer (some ⟨g17, 0, none⟩)), (8, wu), (9, .int .i64 ((i2 : Int))), (10, .int .i64 ((k : Int))), (11, .pointer (some ⟨g59, 0, none⟩))]) (.c rfl (.c rfl (.c rfl (.c rfl (.c rfl (.c rfl (.c rfl (.c rfl .n))))))))
    refine wp_drawG (M0 := [blk g59 [.int .i64 ((rl.getD k default).k), .int .i64 ((rl.getD k default).id), .int .i64 ((rl.getD k default).p0), .int .i64 ((rl.getD k default).p1), .int .i64 ((rl.getD k default).p2), .int .i64 ((rl.getD k default).v0), .int .i64 ((rl.getD k default).v1), .int .i64 ((rl.getD k default).v2), .int .u16 (((((rl.getD k default).a).toNat : Nat) : Int))] 45, row q2 47 9 out2.length (out2.flatMap entV), blk g17 [.int .i64 (gt), .int .i64 (gtm), q2] 24, blk g5 [.int .i64 (0), .int .i64 (0), .slice none 0 0] 24, blk g4 [.int .i64 (gt), .int .i64 (gtm), .int .i64 (gb), gu] 27]) (Ds := [Pv 0 (.int .i64 ((i2 : Int))), Pv 1 wu, Pv 2 (.int .i64 (((was.length : Nat) : Int))), Pv 3 (.bool (true)), Pv 4 (.bool (true)), Pv 5 wu, Pv 6 (.int .i64 ((i2 : Int))), Pv 7 (.pointer (some (adr wu (i2 * 9)))), Pv 8 (.pointer (some (adr wu (i2 * 9 + 0)))), Pv 9 (.int .i64 ((was.getD i2 default).id)), Pv 10 (.pointer (some ⟨g59, 1, none⟩)), Pv 11 (.int .i64 ((rl.getD k default).id)), Pv 12 (.bool (decide (((was.getD i2 default).id) < ((rl.getD k default).id)))), Pv 13 (.bool (decide (((was.getD i2 default).id) < ((rl.getD k default).id))))]) (by kernel_rfl) hs rfl .n (by kernel_rfl) (by kernel_rfl) (by kernel_rfl) ?_ ?_
    ·
     refine (.c ?_ (.c ?_ (.c ?_ (.c ?_ (.c ?_ (.c ?_ (.c ?_ (.c ?_ (.c ?_ (.c ?_ (.c ?_ (.c ?_ (.c ?_ (.c ?_ .n))))))))))))))
     · exact trip_pv (m := 14) .n (fun hm0 hm hx => .n) (by kernel_rfl) (by kernel_rfl) rfl
     · exact trip_pv (m := 14) .n (fun hm0 hm hx => .n) (by kernel_rfl) (by kernel_rfl) rfl
     ·
      intro a_ w_ R_ rest_ vs66 hm hs ht hx
      have hm0 := hm.mid
      replace hs := hs.lrn (ht 1 (twB_spec 14 _ (by kernel_rfl))) rfl rfl
      have hs0 := hs.bare
      refine st_len hs rfl (hm.rd0 hJ41).isSl Try.underlying22 rfl ?_; clear hs; intro a w hs
      exact wpList_nil ⟨rfl, _, _, hs0, (.c .r), hs, rfl⟩
     ·
      intro a_ w_ R_ rest_ vs66 hm hs ht hx
      have hm0 := hm.mid
      replace hs := hs.lrn (ht 0 (twB_spec 14 _ (by kernel_rfl))) rfl rfl
      replace hs := hs.lrn (ht 2 (twB_spec 14 _ (by kernel_rfl))) rfl rfl
      have hs0 := hs.bare
      refine st_lss hs rfl rfl rfl ?_; clear hs; intro a w hs
      have hb_ : (decide ((i2 : Int) < (((was.length : Nat) : Int)))) = true := decide_eq_true (by omega)
      rw [hb_] at hs; clear hb_
      exact wpList_nil ⟨rfl, _, _, hs0, (.c (.c .r)), hs, rfl⟩
     · exact trip_pv (m := 14) (.c (k := 3) (by kernel_rfl) rfl rfl .n) (fun hm0 hm hx => .n) (by kernel_rfl) (by kernel_rfl) rfl
     · exact trip_pg (m := 14) rfl (.c (k := 4) (by kernel_rfl) rfl rfl .n) rfl (fun hm0 hm hx => .n) (by kernel_rfl) (by kernel_rfl) rfl
     · exact trip_pg (m := 14) rfl (.c (k := 4) (by kernel_rfl) rfl rfl .n) rfl (fun hm0 hm hx => .n) (by kernel_rfl) (by kernel_rfl) rfl
     ·
      intro a_ w_ R_ rest_ vs66 hm hs ht hx
      have hm0 := hm.mid
      replace hs := hs.lrn (ht 4 (twB_spec 14 _ (by kernel_rfl))) rfl rfl
      replace hs := hs.lrn (ht 5 (twB_spec 14 _ (by kernel_rfl))) rfl rfl
      replace hs := hs.lrn (ht 6 (twB_spec 14 _ (by kernel_rfl))) rfl rfl
      have hs0 := hs.bare
      refine st_guardT hs rfl rfl rfl ?_
      refine st_ia (j := i2) hs rfl rfl (hm.rd0 hJ41) rfl (by omega) Try.underlying22 Try.sizeOf47 rfl ?_; clear hs; intro a w hs
      exact wpList_nil ⟨rfl, _, _, hs0, (.c (.c (.c .r))), hs, rfl⟩
     ·
      intro a_ w_ R_ rest_ vs66 hm hs ht hx
      have hm0 := hm.mid
      replace hs := hs.lrn (ht 4 (twB_spec 14 _ (by kernel_rfl))) rfl rfl
      replace hs := hs.lrn (ht 7 (twB_spec 14 _ (by kernel_rfl))) rfl rfl
      have hs0 := hs.bare
      refine st_guardT hs rfl rfl rfl ?_
      refine st_faV hs rfl (hm.rd0 hJ41) (by omega) Try.underlying47 rfl Try.sizeOf3 (by decide) (o := i2 * 9 + 0) rfl rfl ?_; clear hs; intro a w hs
      exact wpList_nil ⟨rfl, _, _, hs0, (.c (.c .r)), hs, rfl⟩
     ·
      intro a_ w_ R_ rest_ vs66 hm hs ht hx
      have hm0 := hm.mid
      replace hs := hs.lrn (ht 4 (twB_spec 14 _ (by kernel_rfl))) rfl rfl
      replace hs := hs.lrn (ht 8 (twB_spec 14 _ (by kernel_rfl))) rfl rfl
      have hs0 := hs.bare
      refine st_guardT hs rfl rfl rfl ?_
      refine st_ld (u := .int .i64 ((was.getD i2 default).id)) hs rfl (hm.rd0 hJ41) ((flat_get1 entV_len was i2 0 (by omega) (by decide)).trans rfl) Try.isAgg3 rfl ?_; clear hs; intro a w hs
      exact wpList_nil ⟨rfl, _, _, hs0, (.c (.c .r)), hs, rfl⟩
     · exact trip_pg (m := 14) rfl (.c (k := 4) (by kernel_rfl) rfl rfl .n) rfl (fun hm0 hm hx => .n) (by kernel_rfl) (by kernel_rfl) rfl
     · exact trip_pg (m := 14) rfl (.c (k := 4) (by kernel_rfl) rfl rfl (.c (k := 10) (by kernel_rfl) rfl rfl .n)) rfl (fun hm0 hm hx => (.c (hm0.del .z))) (by kernel_rfl) (by kernel_rfl) rfl
     · exact trip_pg (m := 14) rfl (.c (k := 4) (by kernel_rfl) rfl rfl (.c (k := 9) (by kernel_rfl) rfl rfl (.c (k := 11) (by kernel_rfl) rfl rfl .n))) rfl (fun hm0 hm hx => .n) (by kernel_rfl) (by kernel_rfl) rfl
     exact trip_pv (m := 14) (.c (k := 4) (by kernel_rfl) rfl rfl (.c (k := 12) (by kernel_rfl) rfl rfl .n)) (fun hm0 hm hx => .n) (by kernel_rfl) (by kernel_rfl) rfl
    clear hs w a; intro a w vs66 hs hf
    replace hs : St _ _ _ _ [blk g59 [.int .i64 ((rl.getD k default).k), .int .i64 ((rl.getD k default).id), .int .i64 ((rl.getD k default).p0), .int .i64 ((rl.getD k default).p1), .int .i64 ((rl.getD k default).p2), .int .i64 ((rl.getD k default).v0), .int .i64 ((rl.getD k default).v1), .int .i64 ((rl.getD k default).v2), .int .u16 (((((rl.getD k default).a).toNat : Nat) : Int))] 45, row q2 47 9 out2.length (out2.flatMap entV), blk g17 [.int .i64 (gt), .int .i64 (gtm), q2] 24, blk g5 [.int .i64 (0), .int .i64 (0), .slice none 0 0] 24, blk g4 [.int .i64 (gt), .int .i64 (gtm), .int .i64 (gb), gu] 27] _ _ := hs
    obtain ⟨e13, q13⟩ := hf 13 (by decide)
    replace e13 : _ = some (vs66 13) := e13.val rfl
    rw [show vs66 13 = .bool (decide (((was.getD i2 default).id) < ((rl.getD k default).id))) from q13] at e13
    replace hs := hs.learn e13; clear e13 q13
    clear hf
    refine then_n (hK65 _ _ ?_)
    refine wp_if hs rfl (fun hc67 => ?_) (fun hc67 => ?_)
    ·
     replace hc67 := of_decide_eq_true hc67
     refine wp_skip ?_
     refine then_n (hK63 _ _ ?_)
     refine wp_block ?_
     refine wp_seq_k fun K68 hK69 => ?_
     replace hs := hs.sub (F' := [(68, .bool (decide (((was.getD i2 default).id) < ((rl.getD k default).id)))), (3, .pointer (some ⟨g4, 0, none⟩)), (4, .pointer (some ⟨g5, 0, none⟩)), (5, .int .i64 (0)), (7, .pointer (some ⟨g17, 0, none⟩)), (8, wu), (9, .int .i64 ((i2 : Int))), (10, .int .i64 ((k : Int))), (11, .pointer (some ⟨g59, 0, none⟩))]) (.c rfl (.c rfl (.c rfl (.c rfl (.c rfl (.c rfl (.c rfl (.c rfl (.c rfl .n)))))))))
     refine wp_drawG (M0 := [blk g59 [.int .i64 ((rl.getD k default).k), .int .i64 ((rl.getD k default).id), .int .i64 ((rl.getD k default).p0), .int .i64 ((rl.getD k default).p1), .int .i64 ((rl.getD k default).p2), .int .i64 ((rl.getD k default).v0), .int .i64 ((rl.getD k default).v1), .int .i64 ((rl.getD k default).v2), .int .u16 (((((rl.getD k default).a).toNat : Nat) : Int))] 45, blk g5 [.int .i64 (0), .int .i64 (0), .slice none 0 0] 24, blk g4 [.int .i64 (gt), .int .i64 (gtm), .int .i64 (gb), gu] 27]) (Ds := [Pv 0 (.pointer (some ⟨g17, 2, none⟩)), Pv 1 q2, Pv 2 wu, Pv 3 (.int .i64 ((i2 : Int))), Pv 4 (.pointer (some (adr wu (i2 * 9)))), Pv 5 (.agg #[.int .i64 ((was.getD i2 default).id), .int .i64 ((was.getD i2 default).p0), .int .i64 ((was.getD i2 default).p1), .int .i64 ((was.getD i2 default).p2), .int .i64 ((was.getD i2 default).v0), .int .i64 ((was.getD i2 default).v1), .int .i64 ((was.getD i2 default).v2), .int .u16 (((((was.getD i2 default).a).toNat : Nat) : Int)), .int .u8 (((((was.getD i2 default).g).toNat : Nat) : Int))]), ⟨[], [], [], fun vs70 => vs70 6 = .slice (some ⟨(ptrG (vs70 6)), 0, none⟩) 1 1, fun vs70 => [blk (ptrG (vs70 6)) [.int .i64 ((was.getD i2 default).id), .int .i64 ((was.getD i2 default).p0), .int .i64 ((was.getD i2 default).p1), .int .i64 ((was.getD i2 default).p2), .int .i64 ((was.getD i2 default).v0), .int .i64 ((was.getD i2 default).v1), .int .i64 ((was.getD i2 default).v2), .int .u16 (((((was.getD i2 default).a).toNat : Nat) : Int)), .int .u8 (((((was.getD i2 default).g).toNat : Nat) : Int))] 47], none⟩, ⟨[row q2 47 9 out2.length (out2.flatMap entV)], [], [], fun vs70 => True, fun vs70 => [row (vs70 7) 47 9 (out2.length + 1) ((out2.flatMap entV) ++ ([.int .i64 ((was.getD i2 default).id), .int .i64 ((was.getD i2 default).p0), .int .i64 ((was.getD i2 default).p1), .int .i64 ((was.getD i2 default).p2), .int .i64 ((was.getD i2 default).v0), .int .i64 ((was.getD i2 default).v1), .int .i64 ((was.getD i2 default).v2), .int .u16 (((((was.getD i2 default).a).toNat : Nat) : Int)), .int .u8 (((((was.getD i2 default).g).toNat : Nat) : Int))]))], none⟩, Pv 8 (.pointer (some ⟨g17, 2, none⟩)), ⟨[blk g17 [.int .i64 (gt), .int .i64 (gtm), q2] 24], [], [7], fun vs70 => True, fun vs70 => [blk g17 [.int .i64 (gt), .int .i64 (gtm), (vs70 7)] 24], none⟩]) (by kernel_rfl) hs rfl (.c (.s .z) (.c (.s .z) .n)) (by kernel_rfl) (by kernel_rfl) (by kernel_rfl) ?_ ?_
     ·
      refine (.c ?_ (.c ?_ (.c ?_ (.c ?_ (.c ?_ (.c ?_ (.c ?_ (.c ?_ (.c ?_ (.c ?_ .n))))))))))
      · exact trip_pv (m := 10) .n (fun hm0 hm hx => .n) (by kernel_rfl) (by kernel_rfl) rfl
      · exact trip_pv (m := 10) (.c (k := 0) (by kernel_rfl) rfl rfl .n) (fun hm0 hm hx => (.c (hm.own (List.mem_append.2 (.inr ((hx 9 (twB_spec 10 _ (by kernel_rfl))).1 _ (List.Mem.head _))))))) (by kernel_rfl) (by kernel_rfl) rfl
      · exact trip_pv (m := 10) .n (fun hm0 hm hx => .n) (by kernel_rfl) (by kernel_rfl) rfl
      · exact trip_pv (m := 10) .n (fun hm0 hm hx => .n) (by kernel_rfl) (by kernel_rfl) rfl
      ·
       intro a_ w_ R_ rest_ vs70 hm hs ht hx
       have hm0 := hm.mid
       replace hs := hs.lrn (ht 2 (twB_spec 10 _ (by kernel_rfl))) rfl rfl
       replace hs := hs.lrn (ht 3 (twB_spec 10 _ (by kernel_rfl))) rfl rfl
       have hs0 := hs.bare
       refine st_ia (j := i2) hs rfl rfl (hm.rd0 hJ41) rfl (by omega) Try.underlying22 Try.sizeOf47 rfl ?_; clear hs; intro a w hs
       exact wpList_nil ⟨rfl, _, _, hs0, (.c (.c .r)), hs, rfl⟩
      ·
       intro a_ w_ R_ rest_ vs70 hm hs ht hx
       have hm0 := hm.mid
       replace hs := hs.lrn (ht 4 (twB_spec 10 _ (by kernel_rfl))) rfl rfl
       have hs0 := hs.bare
       refine st_ldA (cs := entV (was.getD i2 default)) hs rfl (hm.rd0 hJ41) (flat_get entV_len was i2 (by omega)) (by rw [flat_len entV_len]; omega) (by omega) Try.isAgg47 Try.sizeOf47 rfl ?_; clear hs; intro a w hs
       exact wpList_nil ⟨rfl, _, _, hs0, (.c .r), hs, rfl⟩
      ·
       intro a_ w_ R_ rest_ vs70 hm hs ht hx
       have hm0 := hm.mid
       replace hs := hs.lrn (ht 5 (twB_spec 10 _ (by kernel_rfl))) rfl rfl
       have hs0 := hs.bare
       refine st_bs (cs := [.int .i64 ((was.getD i2 default).id), .int .i64 ((was.getD i2 default).p0), .int .i64 ((was.getD i2 default).p1), .int .i64 ((was.getD i2 default).p2), .int .i64 ((was.getD i2 default).v0), .int .i64 ((was.getD i2 default).v1), .int .i64 ((was.getD i2 default).v2), .int .u16 (((((was.getD i2 default).a).toNat : Nat) : Int)), .int .u8 (((((was.getD i2 default).g).toNat : Nat) : Int))]) hs (.c .n) (.c rfl .n) Try.underlying22 (ie := Try.t47) rfl rfl rfl rfl (by decide) (by decide) rfl (by decide) rfl rfl rfl ?_; clear hs; intro g71 a w hs
       exact wpList_nil ⟨rfl, _, _, hs0, (.c .r), hs, rfl⟩
      ·
       intro a_ w_ R_ rest_ vs70 hm hs ht hx
       replace hs : St _ _ _ (feet [row q2 47 9 out2.length (out2.flatMap entV)]) [row q2 47 9 out2.length (out2.flatMap entV)] _ _ := hs
       have hm0 := hm.mid
       replace hs := hs.lrn (ht 1 (twB_spec 10 _ (by kernel_rfl))) rfl rfl
       have t6 := ht 6 (twB_spec 10 _ (by kernel_rfl))
       have e6 : _ = some (vs70 6) := t6.val rfl
       rw [show vs70 6 = .slice (some ⟨(ptrG (vs70 6)), 0, none⟩) 1 1 from t6.2.1] at e6
       replace hs := hs.learn e6
       have hs0 := hs.bare
       refine st_app (size := 9) (bytes := 64) hs rfl rfl .z (rd_blk (m := 1) (size := 9) (hm.own (List.mem_append.2 (.inr ((ht 6 (twB_spec 10 _ (by kernel_rfl))).2.2 (later (n := 10) (by kernel_rfl)) _ (List.Mem.head _))))) rfl (by decide)) (by simp [Value.oneCell']) Try.underlying22 (i := Try.t47) rfl rfl rfl rfl rfl (by decide) (by omega) (by simp only [maxLen]; omega) rfl ?_; clear hs; intro v72 a w hs
       exact wpList_nil ⟨rfl, _, _, hs0, (.c (.c .r)), hs, trivial⟩
      · exact trip_pv (m := 10) .n (fun hm0 hm hx => .n) (by kernel_rfl) (by kernel_rfl) rfl
      intro a_ w_ R_ rest_ vs70 hm hs ht hx
      replace hs : St _ _ _ (feet [blk g17 [.int .i64 (gt), .int .i64 (gtm), q2] 24]) [blk g17 [.int .i64 (gt), .int .i64 (gtm), q2] 24] _ _ := hs
      have hm0 := hm.mid
      have t7 := ht 7 (twB_spec 10 _ (by kernel_rfl))
      have e7 : _ = some (vs70 7) := t7.val rfl
      replace hs := hs.learn e7
      replace hs := hs.lrn (ht 8 (twB_spec 10 _ (by kernel_rfl))) rfl rfl
      have hs0 := hs.bare
      refine st_stB hs rfl rfl .z (.s (.s .z)) (rd_row (hm.own (List.mem_append.2 (.inr ((ht 7 (twB_spec 10 _ (by kernel_rfl))).2.2 (later (n := 10) (by kernel_rfl)) _ (List.Mem.head _)))))).isSl.one Try.sizeOf22 ?_; clear hs; intro a w hs
      exact wpList_nil ⟨rfl, .tuple #[], _, hs0, (.c (.c .r)), hs, trivial⟩
     clear hs w a; intro a w vs70 hs hf
     replace hs : St _ _ _ _ [blk g59 [.int .i64 ((rl.getD k default).k), .int .i64 ((rl.getD k default).id), .int .i64 ((rl.getD k default).p0), .int .i64 ((rl.getD k default).p1), .int .i64 ((rl.getD k default).p2), .int .i64 ((rl.getD k default).v0), .int .i64 ((rl.getD k default).v1), .int .i64 ((rl.getD k default).v2), .int .u16 (((((rl.getD k default).a).toNat : Nat) : Int))] 45, blk g5 [.int .i64 (0), .int .i64 (0), .slice none 0 0] 24, blk g4 [.int .i64 (gt), .int .i64 (gtm), .int .i64 (gb), gu] 27, blk (ptrG (vs70 6)) [.int .i64 ((was.getD i2 default).id), .int .i64 ((was.getD i2 default).p0), .int .i64 ((was.getD i2 default).p1), .int .i64 ((was.getD i2 default).p2), .int .i64 ((was.getD i2 default).v0), .int .i64 ((was.getD i2 default).v1), .int .i64 ((was.getD i2 default).v2), .int .u16 (((((was.getD i2 default).a).toNat : Nat) : Int)), .int .u8 (((((was.getD i2 default).g).toNat : Nat) : Int))] 47, row (vs70 7) 47 9 (out2.length + 1) ((out2.flatMap entV) ++ ([.int .i64 ((was.getD i2 default).id), .int .i64 ((was.getD i2 default).p0), .int .i64 ((was.getD i2 default).p1), .int .i64 ((was.getD i2 default).p2), .int .i64 ((was.getD i2 default).v0), .int .i64 ((was.getD i2 default).v1), .int .i64 ((was.getD i2 default).v2), .int .u16 (((((was.getD i2 default).a).toNat : Nat) : Int)), .int .u8 (((((was.getD i2 default).g).toNat : Nat) : Int))])), blk g17 [.int .i64 (gt), .int .i64 (gtm), (vs70 7)] 24] _ _ := hs
     generalize ptrG (vs70 6) = g73 at hs
     generalize vs70 7 = v74 at hs
     clear hf
     refine then_n (hK69 _ _ ?_)
     refine wp_region_lit ?_
     refine st_mv hs rfl rfl ?_; clear hs w a; intro a w hs
     refine st_addR hs rfl rfl (by omega) rfl ?_; clear hs w a; intro a w hs
     refine st_as hs rfl rfl ?_; clear hs w a; intro a w hs
     have hv_ : ((i2 : Int) + 1 : Int) = (((i2 + 1 : Nat) : Int) : Int) := by omega
     rw [hv_] at hs; clear hv_
     refine wpList_nil ?_
     refine in_n ?_
     refine then_n ?_
     have hF := aInv_skip (by omega) (by omega) hI2_2 (by omega)
     have hol : (out2 ++ [was.getD i2 default]).length ≤ (i2 + 1) + k := by rw [List.length_append]; show _ + 1 ≤ _; omega
     replace hs := hs.rerow (.s (.s (.s (.s .z)))) (m' := (out2 ++ [was.getD i2 default]).length) (xs' := ((out2 ++ [was.getD i2 default]).flatMap entV)) (by rw [List.length_append]; rfl) (by rw [List.flatMap_append]; rfl)
     replace hs := hs.drop (.c (.s (.s (.s (.s .z)))) .n)
     replace hs := hs.reorder (.c (.s .z) (.c .z (.c (.s (.s .z)) (.c .z (.c .z .n)))))
     refine ⟨_, ?_, i2 + 1, v74, out2 ++ [was.getD i2 default], rfl, hs.sub (.c rfl (.c rfl (.c rfl (.c rfl (.c rfl (.c rfl (.c rfl (.c rfl .n)))))))), by omega, trivial, hF, hol⟩
     omega
    replace hc67 := of_decide_eq_false hc67
    refine wp_exit ?_
    refine th_e ?_
    refine th_e ?_
    refine in_hit ?_
    refine then_n (hK61 _ _ ?_)
    refine wp_seq_k fun K75 hK76 => ?_
    replace hs := hs.sub (F' := [(68, .bool (decide (((was.getD i2 default).id) < ((rl.getD k default).id)))), (3, .pointer (some ⟨g4, 0, none⟩)), (4, .pointer (some ⟨g5, 0, none⟩)), (5, .int .i64 (0)), (7, .pointer (some ⟨g17, 0, none⟩)), (8, wu), (9, .int .i64 ((i2 : Int))), (10, .int .i64 ((k : Int))), (11, .pointer (some ⟨g59, 0, none⟩))]) (.c rfl (.c rfl (.c rfl (.c rfl (.c rfl (.c rfl (.c rfl (.c rfl (.c rfl .n)))))))))
    refine wp_drawG (M0 := [blk g59 [.int .i64 ((rl.getD k default).k), .int .i64 ((rl.getD k default).id), .int .i64 ((rl.getD k default).p0), .int .i64 ((rl.getD k default).p1), .int .i64 ((rl.getD k default).p2), .int .i64 ((rl.getD k default).v0), .int .i64 ((rl.getD k default).v1), .int .i64 ((rl.getD k default).v2), .int .u16 (((((rl.getD k default).a).toNat : Nat) : Int))] 45, row q2 47 9 out2.length (out2.flatMap entV), blk g17 [.int .i64 (gt), .int .i64 (gtm), q2] 24, blk g5 [.int .i64 (0), .int .i64 (0), .slice none 0 0] 24, blk g4 [.int .i64 (gt), .int .i64 (gtm), .int .i64 (gb), gu] 27]) (Ds := [Pv 0 (.int .i64 ((i2 : Int))), Pv 1 wu, Pv 2 (.int .i64 (((was.length : Nat) : Int))), Pv 3 (.bool (true)), Pv 4 (.bool (true)), Pv 5 wu, Pv 6 (.int .i64 ((i2 : Int))), Pv 7 (.pointer (some (adr wu (i2 * 9)))), Pv 8 (.pointer (some (adr wu (i2 * 9 + 0)))), Pv 9 (.int .i64 ((was.getD i2 default).id)), Pv 10 (.pointer (some ⟨g59, 1, none⟩)), Pv 11 (.int .i64 ((rl.getD k default).id)), Pv 12 (.bool (((was.getD i2 default).id : Int) == ((rl.getD k default).id))), Pv 13 (.bool (((was.getD i2 default).id : Int) == ((rl.getD k default).id))), Pv 14 (.bool (((was.getD i2 default).id : Int) == ((rl.getD k default).id)))]) (by kernel_rfl) hs rfl .n (by kernel_rfl) (by kernel_rfl) (by kernel_rfl) ?_ ?_
    ·
     refine (.c ?_ (.c ?_ (.c ?_ (.c ?_ (.c ?_ (.c ?_ (.c ?_ (.c ?_ (.c ?_ (.c ?_ (.c ?_ (.c ?_ (.c ?_ (.c ?_ (.c ?_ .n)))))))))))))))
     · exact trip_pv (m := 15) .n (fun hm0 hm hx => .n) (by kernel_rfl) (by kernel_rfl) rfl
     · exact trip_pv (m := 15) .n (fun hm0 hm hx => .n) (by kernel_rfl) (by kernel_rfl) rfl
     ·
      intro a_ w_ R_ rest_ vs77 hm hs ht hx
      have hm0 := hm.mid
      replace hs := hs.lrn (ht 1 (twB_spec 15 _ (by kernel_rfl))) rfl rfl
      have hs0 := hs.bare
      refine st_len hs rfl (hm.rd0 hJ41).isSl Try.underlying22 rfl ?_; clear hs; intro a w hs
      exact wpList_nil ⟨rfl, _, _, hs0, (.c .r), hs, rfl⟩
     ·
      intro a_ w_ R_ rest_ vs77 hm hs ht hx
      have hm0 := hm.mid
      replace hs := hs.lrn (ht 0 (twB_spec 15 _ (by kernel_rfl))) rfl rfl
      replace hs := hs.lrn (ht 2 (twB_spec 15 _ (by kernel_rfl))) rfl rfl
      have hs0 := hs.bare
      refine st_lss hs rfl rfl rfl ?_; clear hs; intro a w hs
      have hb_ : (decide ((i2 : Int) < (((was.length : Nat) : Int)))) = true := decide_eq_true (by omega)
      rw [hb_] at hs; clear hb_
      exact wpList_nil ⟨rfl, _, _, hs0, (.c (.c .r)), hs, rfl⟩
     · exact trip_pv (m := 15) (.c (k := 3) (by kernel_rfl) rfl rfl .n) (fun hm0 hm hx => .n) (by kernel_rfl) (by kernel_rfl) rfl
     · exact trip_pg (m := 15) rfl (.c (k := 4) (by kernel_rfl) rfl rfl .n) rfl (fun hm0 hm hx => .n) (by kernel_rfl) (by kernel_rfl) rfl
     · exact trip_pg (m := 15) rfl (.c (k := 4) (by kernel_rfl) rfl rfl .n) rfl (fun hm0 hm hx => .n) (by kernel_rfl) (by kernel_rfl) rfl
     ·
      intro a_ w_ R_ rest_ vs77 hm hs ht hx
      have hm0 := hm.mid
      replace hs := hs.lrn (ht 4 (twB_spec 15 _ (by kernel_rfl))) rfl rfl
      replace hs := hs.lrn (ht 5 (twB_spec 15 _ (by kernel_rfl))) rfl rfl
      replace hs := hs.lrn (ht 6 (twB_spec 15 _ (by kernel_rfl))) rfl rfl
      have hs0 := hs.bare
      refine st_guardT hs rfl rfl rfl ?_
      refine st_ia (j := i2) hs rfl rfl (hm.rd0 hJ41) rfl (by omega) Try.underlying22 Try.sizeOf47 rfl ?_; clear hs; intro a w hs
      exact wpList_nil ⟨rfl, _, _, hs0, (.c (.c (.c .r))), hs, rfl⟩
     ·
      intro a_ w_ R_ rest_ vs77 hm hs ht hx
      have hm0 := hm.mid
      replace hs := hs.lrn (ht 4 (twB_spec 15 _ (by kernel_rfl))) rfl rfl
      replace hs := hs.lrn (ht 7 (twB_spec 15 _ (by kernel_rfl))) rfl rfl
      have hs0 := hs.bare
      refine st_guardT hs rfl rfl rfl ?_
      refine st_faV hs rfl (hm.rd0 hJ41) (by omega) Try.underlying47 rfl Try.sizeOf3 (by decide) (o := i2 * 9 + 0) rfl rfl ?_; clear hs; intro a w hs
      exact wpList_nil ⟨rfl, _, _, hs0, (.c (.c .r)), hs, rfl⟩
     ·
      intro a_ w_ R_ rest_ vs77 hm hs ht hx
      have hm0 := hm.mid
      replace hs := hs.lrn (ht 4 (twB_spec 15 _ (by kernel_rfl))) rfl rfl
      replace hs := hs.lrn (ht 8 (twB_spec 15 _ (by kernel_rfl))) rfl rfl
      have hs0 := hs.bare
      refine st_guardT hs rfl rfl rfl ?_
      refine st_ld (u := .int .i64 ((was.getD i2 default).id)) hs rfl (hm.rd0 hJ41) ((flat_get1 entV_len was i2 0 (by omega) (by decide)).trans rfl) Try.isAgg3 rfl ?_; clear hs; intro a w hs
      exact wpList_nil ⟨rfl, _, _, hs0, (.c (.c .r)), hs, rfl⟩
     · exact trip_pg (m := 15) rfl (.c (k := 4) (by kernel_rfl) rfl rfl .n) rfl (fun hm0 hm hx => .n) (by kernel_rfl) (by kernel_rfl) rfl
     · exact trip_pg (m := 15) rfl (.c (k := 4) (by kernel_rfl) rfl rfl (.c (k := 10) (by kernel_rfl) rfl rfl .n)) rfl (fun hm0 hm hx => (.c (hm0.del .z))) (by kernel_rfl) (by kernel_rfl) rfl
     · exact trip_pg (m := 15) rfl (.c (k := 4) (by kernel_rfl) rfl rfl (.c (k := 9) (by kernel_rfl) rfl rfl (.c (k := 11) (by kernel_rfl) rfl rfl .n))) rfl (fun hm0 hm hx => .n) (by kernel_rfl) (by kernel_rfl) rfl
     · exact trip_pv (m := 15) (.c (k := 4) (by kernel_rfl) rfl rfl (.c (k := 12) (by kernel_rfl) rfl rfl .n)) (fun hm0 hm hx => .n) (by kernel_rfl) (by kernel_rfl) rfl
     exact trip_pv (m := 15) (.c (k := 13) (by kernel_rfl) rfl rfl .n) (fun hm0 hm hx => .n) (by kernel_rfl) (by kernel_rfl) rfl
    clear hs w a; intro a w vs77 hs hf
    replace hs : St _ _ _ _ [blk g59 [.int .i64 ((rl.getD k default).k), .int .i64 ((rl.getD k default).id), .int .i64 ((rl.getD k default).p0), .int .i64 ((rl.getD k default).p1), .int .i64 ((rl.getD k default).p2), .int .i64 ((rl.getD k default).v0), .int .i64 ((rl.getD k default).v1), .int .i64 ((rl.getD k default).v2), .int .u16 (((((rl.getD k default).a).toNat : Nat) : Int))] 45, row q2 47 9 out2.length (out2.flatMap entV), blk g17 [.int .i64 (gt), .int .i64 (gtm), q2] 24, blk g5 [.int .i64 (0), .int .i64 (0), .slice none 0 0] 24, blk g4 [.int .i64 (gt), .int .i64 (gtm), .int .i64 (gb), gu] 27] _ _ := hs
    obtain ⟨e14, q14⟩ := hf 14 (by decide)
    replace e14 : _ = some (vs77 14) := e14.val rfl
    rw [show vs77 14 = .bool (((was.getD i2 default).id : Int) == ((rl.getD k default).id)) from q14] at e14
    replace hs := hs.learn e14; clear e14 q14
    clear hf
    refine then_n (hK76 _ _ ?_)
    refine wp_seq_k fun K78 hK79 => ?_
    refine wp_seq_k fun K80 hK81 => ?_
    refine wp_region_lit ?_
    refine st_run 4 [(97, .bool (((rl.getD k default).k : Int) == 0)), (96, .int .i64 ((rl.getD k default).k)), (95, .pointer (some ⟨g59, 0, none⟩)), (94, .bool (((was.getD i2 default).id : Int) == ((rl.getD k default).id)))] hs (.c (hs.mem.del .z) .n) (by kernel_rfl) (by kernel_rfl) (by kernel_rfl) ?_; clear hs a; intro a hs
    refine st_eqb hs rfl rfl Try.underlying4 rfl ?_; clear hs w a; intro a w hs
    refine wpList_nil ?_
    refine then_n (hK81 _ _ ?_)
    refine wp_if hs rfl (fun hc82 => ?_) (fun hc82 => ?_)
    ·
     have hbb := bbT (by assumption)
     refine wp_seq_k fun K83 hK84 => ?_
     refine wp_region_lit ?_
     refine st_build (it := Try.t24) (zs := [.int .i64 (0), .int .i64 (0), .slice none 0 0]) (places := [(0, 1), (1, 1), (2, 1)]) hs .n Try.underlying24 rfl rfl rfl rfl .n rfl ?_; clear hs w a; intro a w hs
     refine st_stBA hs rfl rfl (.s (.s (.s .z))) (.z (.c (.c (.c .n)))) (ones_c rfl (ones_c rfl (ones_c rfl ones_n))) Try.sizeOf24 rfl ?_; clear hs w a; intro a w hs
     refine st_as hs rfl rfl ?_; clear hs w a; intro a w hs
     refine wpList_nil ?_
     refine then_n (hK84 _ _ ?_)
     refine wp_ret ?_
     refine th_r ?_
     refine in_r ?_
     refine th_r ?_
     refine th_r ?_
     refine in_r ?_
     refine th_r ?_
     have hE : aE t tm l gt gtm gb rl = 15 := by first | exact aE_1 (by omega) | exact aE_2 (by omega) (by omega) (by omega) | exact aE_3 (by omega) (by omega) (by omega) (by omega) | (rw [aE_4 (by omega) hpre, ← hwas]; first | exact aM_none (aInv_err (by omega) hI2_2 (by omega)) | exact aM_full (aInv_end (by omega) hI1_2) (by rw [List.length_append, List.length_drop]; omega))
     have hS : aS t tm l gt gtm gb rl = ⟨0, 0, []⟩ := aS_e (by omega)
     replace hs := hs.addNil 47 9
     replace hs := hs.rerow .z (m' := (aS t tm l gt gtm gb rl).l.length) (xs' := ((aS t tm l gt gtm gb rl).l.flatMap entV)) (by rw [hS]; rfl) (by rw [hS]; rfl)
     exact finC2 hs rfl rfl rfl (.s .z) (.z (.c (.c (.c .n)))) Try.isAgg24 Try.sizeOf24 (.c (.s (.s (.s (.s (.s .z))))) (.c (.s (.s (.s (.s .z)))) (.c (.s (.s (.s .z))) (.c (.s (.s .z)) (.c (.s .z) .n))))) ⟨_, by rw [hE, hS] <;> rfl, rfl⟩
    have hbb := bbF (by assumption)
    refine wp_skip ?_
    refine then_n (hK79 _ _ ?_)
    refine wp_seq_k fun K85 hK86 => ?_
    refine wp_seq_k fun K87 hK88 => ?_
    refine wp_region_lit ?_
    refine st_run 3 [(102, .bool (((rl.getD k default).k : Int) == 0)), (101, .int .i64 ((rl.getD k default).k)), (100, .pointer (some ⟨g59, 0, none⟩))] hs (.c (hs.mem.del .z) .n) (by kernel_rfl) (by kernel_rfl) (by kernel_rfl) ?_; clear hs a; intro a hs
    refine wpList_nil ?_
    refine then_n (hK88 _ _ ?_)
    refine wp_if hs rfl (fun hc89 => ?_) (fun hc89 => ?_)
    ·
     replace hc89 := eq_of_beq hc89
     refine wp_seq_k fun K90 hK91 => ?_
     refine wp_region_lit ?_
     refine st_run 10 [(112, .int .u16 (((((rl.getD k default).a).toNat : Nat) : Int))), (111, .pointer (some ⟨g59, 8, none⟩)), (110, .agg #[.int .i64 ((rl.getD k default).v0), .int .i64 ((rl.getD k default).v1), .int .i64 ((rl.getD k default).v2)]), (109, .pointer (some ⟨g59, 5, none⟩)), (108, .agg #[.int .i64 ((rl.getD k default).p0), .int .i64 ((rl.getD k default).p1), .int .i64 ((rl.getD k default).p2)]), (107, .pointer (some ⟨g59, 2, none⟩)), (106, .int .i64 ((rl.getD k default).id)), (105, .pointer (some ⟨g59, 1, none⟩)), (104, q2), (103, .pointer (some ⟨g17, 2, none⟩))] hs (.c (hs.mem.del (.s (.s .z))) (.c (hs.mem.del .z) (.c (hs.mem.del .z) (.c (hs.mem.del .z) (.c (hs.mem.del .z) .n))))) (by kernel_rfl) (by kernel_rfl) (by kernel_rfl) ?_; clear hs a; intro a hs
     refine st_build (it := Try.t47) (zs := [.int .i64 (0), .int .i64 (0), .int .i64 (0), .int .i64 (0), .int .i64 (0), .int .i64 (0), .int .i64 (0), .int .u16 (0), .int .u8 (0)]) (places := [(0, 1), (1, 3), (4, 3), (7, 1), (8, 1)]) hs (.c rfl (.c rfl (.c rfl (.c rfl .n)))) Try.underlying47 rfl rfl rfl rfl (.c rfl rfl (.z (.c .n)) (.c rfl rfl (.s (.z (.c (.c (.c .n))))) (.c rfl rfl (.s (.s (.s (.s (.z (.c (.c (.c .n)))))))) (.c rfl rfl (.s (.s (.s (.s (.s (.s (.s (.z (.c .n))))))))) .n)))) rfl ?_; clear hs w a; intro a w hs
     refine st_bs (cs := [.int .i64 ((rl.getD k default).id), .int .i64 ((rl.getD k default).p0), .int .i64 ((rl.getD k default).p1), .int .i64 ((rl.getD k default).p2), .int .i64 ((rl.getD k default).v0), .int .i64 ((rl.getD k default).v1), .int .i64 ((rl.getD k default).v2), .int .u16 (((((rl.getD k default).a).toNat : Nat) : Int)), .int .u8 (0)]) hs (.c .n) (.c rfl .n) Try.underlying22 (ie := Try.t47) rfl rfl rfl rfl (by decide) (by decide) rfl (by decide) rfl rfl rfl ?_; clear hs w a; intro g92 a w hs
     refine st_app (size := 9) (bytes := 64) hs rfl rfl (.s (.s .z)) (rd_blk (m := 1) (size := 9) (hs.mem.del .z) rfl (by decide)) (by simp [Value.oneCell']) Try.underlying22 (i := Try.t47) rfl rfl rfl rfl rfl (by decide) (by omega) (by simp only [maxLen]; omega) rfl ?_; clear hs w a; intro v93 a w hs
     replace hs := hs.drop (.c (.s .z) .n)
     refine st_fa hs rfl Try.underlying24 rfl Try.sizeOf22 (by decide) (o := 2) rfl rfl ?_; clear hs w a; intro a w hs
     refine st_stB hs rfl rfl (.s (.s .z)) (.s (.s .z)) (rd_row (hs.mem.del .z)).isSl.one Try.sizeOf22 ?_; clear hs w a; intro a w hs
     refine wpList_nil ?_
     refine then_n (hK91 _ _ ?_)
     refine wp_exit ?_
     refine th_e ?_
     refine in_hit ?_
     refine then_n (hK56 _ _ ?_)
     refine wp_region_lit ?_
     refine st_mv hs rfl rfl ?_; clear hs w a; intro a w hs
     refine st_addR hs rfl rfl (by omega) rfl ?_; clear hs w a; intro a w hs
     refine st_as hs rfl rfl ?_; clear hs w a; intro a w hs
     refine wpList_nil ?_
     refine then_n ?_
     have hF := aInv_new (by omega) hI2_2 (by omega) (by omega)
     have hol : (out2 ++ [entOf (rl.getD k default)]).length ≤ (i2) + (k + 1) := by rw [List.length_append]; show _ + 1 ≤ _; omega
     replace hs := hs.rerow (.s .z) (m' := (out2 ++ [entOf (rl.getD k default)]).length) (xs' := ((out2 ++ [entOf (rl.getD k default)]).flatMap entV)) (by rw [List.length_append]; rfl) (by rw [List.flatMap_append]; rfl)
     replace hs := hs.drop (.c (.s (.s .z)) .n)
     refine ⟨_, ?_, k + 1, i2, v93, out2 ++ [entOf (rl.getD k default)], rfl, hs.sub (.c rfl (.c rfl (.c rfl (.c rfl (.c rfl (.c rfl (.c rfl .n))))))), by omega, by omega, hF, hol⟩
     omega
    replace hc89 := ne_of_beq_f hc89
    refine wp_skip ?_
    refine then_n (hK86 _ _ ?_)
    refine wp_seq_k fun K94 hK95 => ?_
    refine wp_seq_k fun K96 hK97 => ?_
    refine wp_region_lit ?_
    refine st_run 3 [(119, .bool (!(((rl.getD k default).k : Int) == 2))), (118, .int .i64 ((rl.getD k default).k)), (117, .pointer (some ⟨g59, 0, none⟩))] hs (.c (hs.mem.del .z) .n) (by kernel_rfl) (by kernel_rfl) (by kernel_rfl) ?_; clear hs a; intro a hs
    refine wpList_nil ?_
    refine then_n (hK97 _ _ ?_)
    refine wp_if hs rfl (fun hc98 => ?_) (fun hc98 => ?_)
    ·
     replace hc98 := not_t hc98
     replace hc98 := ne_of_beq_f hc98
     refine wp_seq_k fun K99 hK100 => ?_
     replace hs := hs.sub (F' := [(119, .bool (!(((rl.getD k default).k : Int) == 2))), (118, .int .i64 ((rl.getD k default).k)), (117, .pointer (some ⟨g59, 0, none⟩)), (102, .bool (((rl.getD k default).k : Int) == 0)), (101, .int .i64 ((rl.getD k default).k)), (100, .pointer (some ⟨g59, 0, none⟩)), (98, .bool ((((was.getD i2 default).id : Int) == ((rl.getD k default).id) : Bool) == (((rl.getD k default).k : Int) == 0))), (97, .bool (((rl.getD k default).k : Int) == 0)), (96, .int .i64 ((rl.getD k default).k)), (95, .pointer (some ⟨g59, 0, none⟩)), (94, .bool (((was.getD i2 default).id : Int) == ((rl.getD k default).id))), (12, .bool (((was.getD i2 default).id : Int) == ((rl.getD k default).id))), (68, .bool (decide (((was.getD i2 default).id) < ((rl.getD k default).id)))), (3, .pointer (some ⟨g4, 0, none⟩)), (4, .pointer (some ⟨g5, 0, none⟩)), (5, .int .i64 (0)), (7, .pointer (some ⟨g17, 0, none⟩)), (8, wu), (9, .int .i64 ((i2 : Int))), (10, .int .i64 ((k : Int))), (11, .pointer (some ⟨g59, 0, none⟩))]) (.c rfl (.c rfl (.c rfl (.c rfl (.c rfl (.c rfl (.c rfl (.c rfl (.c rfl (.c rfl (.c rfl (.c rfl (.c rfl (.c rfl (.c rfl (.c rfl (.c rfl (.c rfl (.c rfl (.c rfl (.c rfl .n)))))))))))))))))))))
     refine wp_drawG (M0 := [blk g59 [.int .i64 ((rl.getD k default).k), .int .i64 ((rl.getD k default).id), .int .i64 ((rl.getD k default).p0), .int .i64 ((rl.getD k default).p1), .int .i64 ((rl.getD k default).p2), .int .i64 ((rl.getD k default).v0), .int .i64 ((rl.getD k default).v1), .int .i64 ((rl.getD k default).v2), .int .u16 (((((rl.getD k default).a).toNat : Nat) : Int))] 45, row q2 47 9 out2.length (out2.flatMap entV), blk g17 [.int .i64 (gt), .int .i64 (gtm), q2] 24, blk g5 [.int .i64 (0), .int .i64 (0), .slice none 0 0] 24, blk g4 [.int .i64 (gt), .int .i64 (gtm), .int .i64 (gb), gu] 27]) (Ds := [Pv 0 wu, Pv 1 (.int .i64 ((i2 : Int))), Pv 2 (.pointer (some (adr wu (i2 * 9)))), Pv 3 (.agg #[.int .i64 ((was.getD i2 default).id), .int .i64 ((was.getD i2 default).p0), .int .i64 ((was.getD i2 default).p1), .int .i64 ((was.getD i2 default).p2), .int .i64 ((was.getD i2 default).v0), .int .i64 ((was.getD i2 default).v1), .int .i64 ((was.getD i2 default).v2), .int .u16 (((((was.getD i2 default).a).toNat : Nat) : Int)), .int .u8 (((((was.getD i2 default).g).toNat : Nat) : Int))]), Pv 4 (.agg #[.int .i64 ((rl.getD k default).k), .int .i64 ((rl.getD k default).id), .int .i64 ((rl.getD k default).p0), .int .i64 ((rl.getD k default).p1), .int .i64 ((rl.getD k default).p2), .int .i64 ((rl.getD k default).v0), .int .i64 ((rl.getD k default).v1), .int .i64 ((rl.getD k default).v2), .int .u16 (((((rl.getD k default).a).toNat : Nat) : Int))]), Pv 5 (.tuple #[.agg #[.int .i64 (((entApply (was.getD i2 default) (rl.getD k default)).1).id), .int .i64 (((entApply (was.getD i2 default) (rl.getD k default)).1).p0), .int .i64 (((entApply (was.getD i2 default) (rl.getD k default)).1).p1), .int .i64 (((entApply (was.getD i2 default) (rl.getD k default)).1).p2), .int .i64 (((entApply (was.getD i2 default) (rl.getD k default)).1).v0), .int .i64 (((entApply (was.getD i2 default) (rl.getD k default)).1).v1), .int .i64 (((entApply (was.getD i2 default) (rl.getD k default)).1).v2), .int .u16 ((((((entApply (was.getD i2 default) (rl.getD k default)).1).a).toNat : Nat) : Int)), .int .u8 ((((((entApply (was.getD i2 default) (rl.getD k default)).1).g).toNat : Nat) : Int))], .int .i64 ((((entApply (was.getD i2 default) (rl.getD k default)).2 : Nat) : Int))]), Pv 6 (.tuple #[.agg #[.int .i64 (((entApply (was.getD i2 default) (rl.getD k default)).1).id), .int .i64 (((entApply (was.getD i2 default) (rl.getD k default)).1).p0), .int .i64 (((entApply (was.getD i2 default) (rl.getD k default)).1).p1), .int .i64 (((entApply (was.getD i2 default) (rl.getD k default)).1).p2), .int .i64 (((entApply (was.getD i2 default) (rl.getD k default)).1).v0), .int .i64 (((entApply (was.getD i2 default) (rl.getD k default)).1).v1), .int .i64 (((entApply (was.getD i2 default) (rl.getD k default)).1).v2), .int .u16 ((((((entApply (was.getD i2 default) (rl.getD k default)).1).a).toNat : Nat) : Int)), .int .u8 ((((((entApply (was.getD i2 default) (rl.getD k default)).1).g).toNat : Nat) : Int))], .int .i64 ((((entApply (was.getD i2 default) (rl.getD k default)).2 : Nat) : Int))]), Pv 7 (.agg #[.int .i64 (((entApply (was.getD i2 default) (rl.getD k default)).1).id), .int .i64 (((entApply (was.getD i2 default) (rl.getD k default)).1).p0), .int .i64 (((entApply (was.getD i2 default) (rl.getD k default)).1).p1), .int .i64 (((entApply (was.getD i2 default) (rl.getD k default)).1).p2), .int .i64 (((entApply (was.getD i2 default) (rl.getD k default)).1).v0), .int .i64 (((entApply (was.getD i2 default) (rl.getD k default)).1).v1), .int .i64 (((entApply (was.getD i2 default) (rl.getD k default)).1).v2), .int .u16 ((((((entApply (was.getD i2 default) (rl.getD k default)).1).a).toNat : Nat) : Int)), .int .u8 ((((((entApply (was.getD i2 default) (rl.getD k default)).1).g).toNat : Nat) : Int))]), Pv 8 (.int .i64 ((((entApply (was.getD i2 default) (rl.getD k default)).2 : Nat) : Int))), ⟨[], [], [], fun vs101 => vs101 9 = .pointer (some ⟨(ptrG (vs101 9)), 0, none⟩), fun vs101 => [blk (ptrG (vs101 9)) [.int .i64 (0), .int .i64 (0), .int .i64 (0), .int .i64 (0), .int .i64 (0), .int .i64 (0), .int .i64 (0), .int .u16 (0), .int .u8 (0)] 47], none⟩, ⟨[], [9], [9], fun vs101 => True, fun vs101 => [blk (ptrG (vs101 9)) [.int .i64 (((entApply (was.getD i2 default) (rl.getD k default)).1).id), .int .i64 (((entApply (was.getD i2 default) (rl.getD k default)).1).p0), .int .i64 (((entApply (was.getD i2 default) (rl.getD k default)).1).p1), .int .i64 (((entApply (was.getD i2 default) (rl.getD k default)).1).p2), .int .i64 (((entApply (was.getD i2 default) (rl.getD k default)).1).v0), .int .i64 (((entApply (was.getD i2 default) (rl.getD k default)).1).v1), .int .i64 (((entApply (was.getD i2 default) (rl.getD k default)).1).v2), .int .u16 ((((((entApply (was.getD i2 default) (rl.getD k default)).1).a).toNat : Nat) : Int)), .int .u8 ((((((entApply (was.getD i2 default) (rl.getD k default)).1).g).toNat : Nat) : Int))] 47], none⟩, Pv 11 (.int .i64 ((((entApply (was.getD i2 default) (rl.getD k default)).2 : Nat) : Int)))]) (by kernel_rfl) hs rfl .n (by kernel_rfl) (by kernel_rfl) (by kernel_rfl) ?_ ?_
     ·
      refine (.c ?_ (.c ?_ (.c ?_ (.c ?_ (.c ?_ (.c ?_ (.c ?_ (.c ?_ (.c ?_ (.c ?_ (.c ?_ (.c ?_ .n))))))))))))
      · exact trip_pv (m := 12) .n (fun hm0 hm hx => .n) (by kernel_rfl) (by kernel_rfl) rfl
      · exact trip_pv (m := 12) .n (fun hm0 hm hx => .n) (by kernel_rfl) (by kernel_rfl) rfl
      ·
       intro a_ w_ R_ rest_ vs101 hm hs ht hx
       have hm0 := hm.mid
       replace hs := hs.lrn (ht 0 (twB_spec 12 _ (by kernel_rfl))) rfl rfl
       replace hs := hs.lrn (ht 1 (twB_spec 12 _ (by kernel_rfl))) rfl rfl
       have hs0 := hs.bare
       refine st_ia (j := i2) hs rfl rfl (hm.rd0 hJ41) rfl (by omega) Try.underlying22 Try.sizeOf47 rfl ?_; clear hs; intro a w hs
       exact wpList_nil ⟨rfl, _, _, hs0, (.c (.c .r)), hs, rfl⟩
      ·
       intro a_ w_ R_ rest_ vs101 hm hs ht hx
       have hm0 := hm.mid
       replace hs := hs.lrn (ht 2 (twB_spec 12 _ (by kernel_rfl))) rfl rfl
       have hs0 := hs.bare
       refine st_ldA (cs := entV (was.getD i2 default)) hs rfl (hm.rd0 hJ41) (flat_get entV_len was i2 (by omega)) (by rw [flat_len entV_len]; omega) (by omega) Try.isAgg47 Try.sizeOf47 rfl ?_; clear hs; intro a w hs
       exact wpList_nil ⟨rfl, _, _, hs0, (.c .r), hs, rfl⟩
      · exact trip_pv (m := 12) .n (fun hm0 hm hx => (.c (hm0.del .z))) (by kernel_rfl) (by kernel_rfl) rfl
      ·
       intro a_ w_ R_ rest_ vs101 hm hs ht hx
       have hm0 := hm.mid
       replace hs := hs.lrn (ht 3 (twB_spec 12 _ (by kernel_rfl))) rfl rfl
       replace hs := hs.lrn (ht 4 (twB_spec 12 _ (by kernel_rfl))) rfl rfl
       have hs0 := hs.bare
       refine st_callP (v := .tuple #[.agg #[.int .i64 (((entApply (was.getD i2 default) (rl.getD k default)).1).id), .int .i64 (((entApply (was.getD i2 default) (rl.getD k default)).1).p0), .int .i64 (((entApply (was.getD i2 default) (rl.getD k default)).1).p1), .int .i64 (((entApply (was.getD i2 default) (rl.getD k default)).1).p2), .int .i64 (((entApply (was.getD i2 default) (rl.getD k default)).1).v0), .int .i64 (((entApply (was.getD i2 default) (rl.getD k default)).1).v1), .int .i64 (((entApply (was.getD i2 default) (rl.getD k default)).1).v2), .int .u16 ((((((entApply (was.getD i2 default) (rl.getD k default)).1).a).toNat : Nat) : Int)), .int .u8 ((((((entApply (was.getD i2 default) (rl.getD k default)).1).g).toNat : Nat) : Int))], .int .i64 ((((entApply (was.getD i2 default) (rl.getD k default)).2 : Nat) : Int))]) hs (.c rfl (.c rfl .n)) Try.call31 (rapply_ok (was.getD i2 default) (rl.getD k default) _) rfl ?_; clear hs; intro a w hs
       exact wpList_nil ⟨rfl, _, _, hs0, (.c (.c .r)), hs, rfl⟩
      · exact trip_pv (m := 12) (.c (k := 5) (by kernel_rfl) rfl rfl .n) (fun hm0 hm hx => .n) (by kernel_rfl) (by kernel_rfl) rfl
      · exact trip_pv (m := 12) (.c (k := 6) (by kernel_rfl) rfl rfl .n) (fun hm0 hm hx => .n) (by kernel_rfl) (by kernel_rfl) rfl
      · exact trip_pv (m := 12) (.c (k := 6) (by kernel_rfl) rfl rfl .n) (fun hm0 hm hx => .n) (by kernel_rfl) (by kernel_rfl) rfl
      ·
       intro a_ w_ R_ rest_ vs101 hm hs ht hx
       have hm0 := hm.mid
       have hs0 := hs.bare
       refine st_alloc (cs := [.int .i64 (0), .int .i64 (0), .int .i64 (0), .int .i64 (0), .int .i64 (0), .int .i64 (0), .int .i64 (0), .int .u16 (0), .int .u8 (0)]) hs Try.zeroValue47 rfl rfl ?_; clear hs; intro g102 a w hs
       exact wpList_nil ⟨rfl, _, _, hs0, .r, hs, rfl⟩
      ·
       intro a_ w_ R_ rest_ vs101 hm hs ht hx
       replace hs : St _ _ _ (feet [blk (ptrG (vs101 9)) [.int .i64 (0), .int .i64 (0), .int .i64 (0), .int .i64 (0), .int .i64 (0), .int .i64 (0), .int .i64 (0), .int .u16 (0), .int .u8 (0)] 47]) [blk (ptrG (vs101 9)) [.int .i64 (0), .int .i64 (0), .int .i64 (0), .int .i64 (0), .int .i64 (0), .int .i64 (0), .int .i64 (0), .int .u16 (0), .int .u8 (0)] 47] _ _ := hs
       have hm0 := hm.mid
       have t9 := ht 9 (twB_spec 12 _ (by kernel_rfl))
       have e9 : _ = some (vs101 9) := t9.val rfl
       rw [show vs101 9 = .pointer (some ⟨(ptrG (vs101 9)), 0, none⟩) from t9.2.1] at e9
       replace hs := hs.learn e9
       replace hs := hs.lrn (ht 7 (twB_spec 12 _ (by kernel_rfl))) rfl rfl
       have hs0 := hs.bare
       refine st_stBA hs rfl rfl .z (.z (.c (.c (.c (.c (.c (.c (.c (.c (.c .n)))))))))) (ones_c rfl (ones_c rfl (ones_c rfl (ones_c rfl (ones_c rfl (ones_c rfl (ones_c rfl (ones_c rfl (ones_c rfl ones_n))))))))) Try.sizeOf47 rfl ?_; clear hs; intro a w hs
       exact wpList_nil ⟨rfl, .tuple #[], _, hs0, (.c (.c .r)), hs, trivial⟩
      exact trip_pv (m := 12) (.c (k := 8) (by kernel_rfl) rfl rfl .n) (fun hm0 hm hx => .n) (by kernel_rfl) (by kernel_rfl) rfl
     clear hs w a; intro a w vs101 hs hf
     replace hs : St _ _ _ _ [blk g59 [.int .i64 ((rl.getD k default).k), .int .i64 ((rl.getD k default).id), .int .i64 ((rl.getD k default).p0), .int .i64 ((rl.getD k default).p1), .int .i64 ((rl.getD k default).p2), .int .i64 ((rl.getD k default).v0), .int .i64 ((rl.getD k default).v1), .int .i64 ((rl.getD k default).v2), .int .u16 (((((rl.getD k default).a).toNat : Nat) : Int))] 45, row q2 47 9 out2.length (out2.flatMap entV), blk g17 [.int .i64 (gt), .int .i64 (gtm), q2] 24, blk g5 [.int .i64 (0), .int .i64 (0), .slice none 0 0] 24, blk g4 [.int .i64 (gt), .int .i64 (gtm), .int .i64 (gb), gu] 27, blk (ptrG (vs101 9)) [.int .i64 (((entApply (was.getD i2 default) (rl.getD k default)).1).id), .int .i64 (((entApply (was.getD i2 default) (rl.getD k default)).1).p0), .int .i64 (((entApply (was.getD i2 default) (rl.getD k default)).1).p1), .int .i64 (((entApply (was.getD i2 default) (rl.getD k default)).1).p2), .int .i64 (((entApply (was.getD i2 default) (rl.getD k default)).1).v0), .int .i64 (((entApply (was.getD i2 default) (rl.getD k default)).1).v1), .int .i64 (((entApply (was.getD i2 default) (rl.getD k default)).1).v2), .int .u16 ((((((entApply (was.getD i2 default) (rl.getD k default)).1).a).toNat : Nat) : Int)), .int .u8 ((((((entApply (was.getD i2 default) (rl.getD k default)).1).g).toNat : Nat) : Int))] 47] _ _ := hs
     obtain ⟨e9, q9⟩ := hf 9 (by decide)
     replace e9 : _ = some (vs101 9) := e9.val rfl
     rw [show vs101 9 = .pointer (some ⟨(ptrG (vs101 9)), 0, none⟩) from q9] at e9
     replace hs := hs.learn e9; clear e9 q9
     generalize ptrG (vs101 9) = g103 at hs
     clear hf
     refine then_n (hK100 _ _ ?_)
     refine wp_region_lit ?_
     refine st_run 3 [(131, .agg #[.int .i64 (((entApply (was.getD i2 default) (rl.getD k default)).1).id), .int .i64 (((entApply (was.getD i2 default) (rl.getD k default)).1).p0), .int .i64 (((entApply (was.getD i2 default) (rl.getD k default)).1).p1), .int .i64 (((entApply (was.getD i2 default) (rl.getD k default)).1).p2), .int .i64 (((entApply (was.getD i2 default) (rl.getD k default)).1).v0), .int .i64 (((entApply (was.getD i2 default) (rl.getD k default)).1).v1), .int .i64 (((entApply (was.getD i2 default) (rl.getD k default)).1).v2), .int .u16 ((((((entApply (was.getD i2 default) (rl.getD k default)).1).a).toNat : Nat) : Int)), .int .u8 ((((((entApply (was.getD i2 default) (rl.getD k default)).1).g).toNat : Nat) : Int))]), (130, q2), (129, .pointer (some ⟨g17, 2, none⟩))] hs (.c (hs.mem.del (.s (.s .z))) (.c (hs.mem.del (.s (.s (.s (.s (.s .z)))))) .n)) (by kernel_rfl) (by kernel_rfl) (by kernel_rfl) ?_; clear hs a; intro a hs
     refine st_bs (cs := [.int .i64 (((entApply (was.getD i2 default) (rl.getD k default)).1).id), .int .i64 (((entApply (was.getD i2 default) (rl.getD k default)).1).p0), .int .i64 (((entApply (was.getD i2 default) (rl.getD k default)).1).p1), .int .i64 (((entApply (was.getD i2 default) (rl.getD k default)).1).p2), .int .i64 (((entApply (was.getD i2 default) (rl.getD k default)).1).v0), .int .i64 (((entApply (was.getD i2 default) (rl.getD k default)).1).v1), .int .i64 (((entApply (was.getD i2 default) (rl.getD k default)).1).v2), .int .u16 ((((((entApply (was.getD i2 default) (rl.getD k default)).1).a).toNat : Nat) : Int)), .int .u8 ((((((entApply (was.getD i2 default) (rl.getD k default)).1).g).toNat : Nat) : Int))]) hs (.c .n) (.c rfl .n) Try.underlying22 (ie := Try.t47) rfl rfl rfl rfl (by decide) (by decide) rfl (by decide) rfl rfl rfl ?_; clear hs w a; intro g104 a w hs
     refine st_app (size := 9) (bytes := 64) hs rfl rfl (.s (.s .z)) (rd_blk (m := 1) (size := 9) (hs.mem.del .z) rfl (by decide)) (by simp [Value.oneCell']) Try.underlying22 (i := Try.t47) rfl rfl rfl rfl rfl (by decide) (by omega) (by simp only [maxLen]; omega) rfl ?_; clear hs w a; intro v105 a w hs
     replace hs := hs.drop (.c (.s .z) .n)
     refine st_fa hs rfl Try.underlying24 rfl Try.sizeOf22 (by decide) (o := 2) rfl rfl ?_; clear hs w a; intro a w hs
     refine st_stB hs rfl rfl (.s (.s .z)) (.s (.s .z)) (rd_row (hs.mem.del .z)).isSl.one Try.sizeOf22 ?_; clear hs w a; intro a w hs
     refine wpList_nil ?_
     refine then_n (hK95 _ _ ?_)
     refine wp_region_lit ?_
     refine st_mv hs rfl rfl ?_; clear hs w a; intro a w hs
     refine st_addR hs rfl rfl (by omega) rfl ?_; clear hs w a; intro a w hs
     refine st_as hs rfl rfl ?_; clear hs w a; intro a w hs
     have hv_ : ((i2 : Int) + 1 : Int) = (((i2 + 1 : Nat) : Int) : Int) := by omega
     rw [hv_] at hs; clear hv_
     refine wpList_nil ?_
     refine in_n ?_
     refine then_n (hK56 _ _ ?_)
     refine wp_region_lit ?_
     refine st_mv hs rfl rfl ?_; clear hs w a; intro a w hs
     refine st_addR hs rfl rfl (by omega) rfl ?_; clear hs w a; intro a w hs
     refine st_as hs rfl rfl ?_; clear hs w a; intro a w hs
     refine wpList_nil ?_
     refine then_n ?_
     have hF := aInv_upd (by omega) (by omega) hI2_2 (by omega) (by omega) (by omega)
     have hol : (out2 ++ [(entApply (was.getD i2 default) (rl.getD k default)).1]).length ≤ (i2 + 1) + (k + 1) := by rw [List.length_append]; show _ + 1 ≤ _; omega
     replace hs := hs.rerow (.s .z) (m' := (out2 ++ [(entApply (was.getD i2 default) (rl.getD k default)).1]).length) (xs' := ((out2 ++ [(entApply (was.getD i2 default) (rl.getD k default)).1]).flatMap entV)) (by rw [List.length_append]; rfl) (by rw [List.flatMap_append]; rfl)
     replace hs := hs.drop (.c (.s (.s (.s (.s (.s .z))))) (.c (.s (.s .z)) .n))
     refine ⟨_, ?_, k + 1, i2 + 1, v105, out2 ++ [(entApply (was.getD i2 default) (rl.getD k default)).1], rfl, hs.sub (.c rfl (.c rfl (.c rfl (.c rfl (.c rfl (.c rfl (.c rfl .n))))))), by omega, by omega, hF, hol⟩
     omega
    replace hc98 := not_f hc98
    replace hc98 := eq_of_beq hc98
    refine wp_skip ?_
    refine then_n (hK95 _ _ ?_)
    refine wp_region_lit ?_
    refine st_mv hs rfl rfl ?_; clear hs w a; intro a w hs
    refine st_addR hs rfl rfl (by omega) rfl ?_; clear hs w a; intro a w hs
    refine st_as hs rfl rfl ?_; clear hs w a; intro a w hs
    have hv_ : ((i2 : Int) + 1 : Int) = (((i2 + 1 : Nat) : Int) : Int) := by omega
    rw [hv_] at hs; clear hv_
    refine wpList_nil ?_
    refine in_n ?_
    refine then_n (hK56 _ _ ?_)
    refine wp_region_lit ?_
    refine st_mv hs rfl rfl ?_; clear hs w a; intro a w hs
    refine st_addR hs rfl rfl (by omega) rfl ?_; clear hs w a; intro a w hs
    refine st_as hs rfl rfl ?_; clear hs w a; intro a w hs
    refine wpList_nil ?_
    refine then_n ?_
    have hF := aInv_del (by omega) (by omega) hI2_2 (by omega) (by omega) (by omega)
    have hol : out2.length ≤ (i2 + 1) + (k + 1) := by omega
    replace hs := hs.drop (.c .z .n)
    refine ⟨_, ?_, k + 1, i2 + 1, q2, out2, rfl, hs.sub (.c rfl (.c rfl (.c rfl (.c rfl (.c rfl (.c rfl (.c rfl .n))))))), by omega, by omega, hF, hol⟩
    omega
   replace hs := hs.sub (F' := [(3, .pointer (some ⟨g4, 0, none⟩)), (4, .pointer (some ⟨g5, 0, none⟩)), (5, .int .i64 (0)), (7, .pointer (some ⟨g17, 0, none⟩)), (8, wu), (9, .int .i64 ((i2 : Int))), (10, .int .i64 ((k : Int))), (11, .pointer (some ⟨g59, 0, none⟩))]) (.c rfl (.c rfl (.c rfl (.c rfl (.c rfl (.c rfl (.c rfl (.c rfl .n))))))))
   refine wp_drawG (M0 := [blk g59 [.int .i64 ((rl.getD k default).k), .int .i64 ((rl.getD k default).id), .int .i64 ((rl.getD k default).p0), .int .i64 ((rl.getD k default).p1), .int .i64 ((rl.getD k default).p2), .int .i64 ((rl.getD k default).v0), .int .i64 ((rl.getD k default).v1), .int .i64 ((rl.getD k default).v2), .int .u16 (((((rl.getD k default).a).toNat : Nat) : Int))] 45, row q2 47 9 out2.length (out2.flatMap entV), blk g17 [.int .i64 (gt), .int .i64 (gtm), q2] 24, blk g5 [.int .i64 (0), .int .i64 (0), .slice none 0 0] 24, blk g4 [.int .i64 (gt), .int .i64 (gtm), .int .i64 (gb), gu] 27]) (Ds := [Pv 0 (.int .i64 ((i2 : Int))), Pv 1 wu, Pv 2 (.int .i64 (((was.length : Nat) : Int))), Pv 3 (.bool (false)), Pv 4 (.bool (false)), Pv 5 undef, Pv 6 undef, Pv 7 undef, Pv 8 undef, Pv 9 undef, Pv 10 undef, Pv 11 undef, Pv 12 undef, Pv 13 (.bool (false))]) (by kernel_rfl) hs rfl .n (by kernel_rfl) (by kernel_rfl) (by kernel_rfl) ?_ ?_
   ·
    refine (.c ?_ (.c ?_ (.c ?_ (.c ?_ (.c ?_ (.c ?_ (.c ?_ (.c ?_ (.c ?_ (.c ?_ (.c ?_ (.c ?_ (.c ?_ (.c ?_ .n))))))))))))))
    · exact trip_pv (m := 14) .n (fun hm0 hm hx => .n) (by kernel_rfl) (by kernel_rfl) rfl
    · exact trip_pv (m := 14) .n (fun hm0 hm hx => .n) (by kernel_rfl) (by kernel_rfl) rfl
    ·
     intro a_ w_ R_ rest_ vs106 hm hs ht hx
     have hm0 := hm.mid
     replace hs := hs.lrn (ht 1 (twB_spec 14 _ (by kernel_rfl))) rfl rfl
     have hs0 := hs.bare
     refine st_len hs rfl (hm.rd0 hJ41).isSl Try.underlying22 rfl ?_; clear hs; intro a w hs
     exact wpList_nil ⟨rfl, _, _, hs0, (.c .r), hs, rfl⟩
    ·
     intro a_ w_ R_ rest_ vs106 hm hs ht hx
     have hm0 := hm.mid
     replace hs := hs.lrn (ht 0 (twB_spec 14 _ (by kernel_rfl))) rfl rfl
     replace hs := hs.lrn (ht 2 (twB_spec 14 _ (by kernel_rfl))) rfl rfl
     have hs0 := hs.bare
     refine st_lss hs rfl rfl rfl ?_; clear hs; intro a w hs
     have hb_ : (decide ((i2 : Int) < (((was.length : Nat) : Int)))) = false := decide_eq_false (by omega)
     rw [hb_] at hs; clear hb_
     exact wpList_nil ⟨rfl, _, _, hs0, (.c (.c .r)), hs, rfl⟩
    · exact trip_pv (m := 14) (.c (k := 3) (by kernel_rfl) rfl rfl .n) (fun hm0 hm hx => .n) (by kernel_rfl) (by kernel_rfl) rfl
    · exact trip_pf (m := 14) rfl (.c (k := 4) (by kernel_rfl) rfl rfl .n) rfl rfl rfl
    · exact trip_pf (m := 14) rfl (.c (k := 4) (by kernel_rfl) rfl rfl .n) rfl rfl rfl
    · exact trip_pf (m := 14) rfl (.c (k := 4) (by kernel_rfl) rfl rfl (.c (k := 5) (by kernel_rfl) rfl rfl (.c (k := 6) (by kernel_rfl) rfl rfl .n))) rfl rfl rfl
    · exact trip_pf (m := 14) rfl (.c (k := 4) (by kernel_rfl) rfl rfl (.c (k := 7) (by kernel_rfl) rfl rfl .n)) rfl rfl rfl
    · exact trip_pf (m := 14) rfl (.c (k := 4) (by kernel_rfl) rfl rfl (.c (k := 8) (by kernel_rfl) rfl rfl .n)) rfl rfl rfl
    · exact trip_pf (m := 14) rfl (.c (k := 4) (by kernel_rfl) rfl rfl .n) rfl rfl rfl
    · exact trip_pf (m := 14) rfl (.c (k := 4) (by kernel_rfl) rfl rfl (.c (k := 10) (by kernel_rfl) rfl rfl .n)) rfl rfl rfl
    · exact trip_pf (m := 14) rfl (.c (k := 4) (by kernel_rfl) rfl rfl (.c (k := 9) (by kernel_rfl) rfl rfl (.c (k := 11) (by kernel_rfl) rfl rfl .n))) rfl rfl rfl
    exact trip_pv (m := 14) (.c (k := 4) (by kernel_rfl) rfl rfl (.c (k := 12) (by kernel_rfl) rfl rfl .n)) (fun hm0 hm hx => .n) (by kernel_rfl) (by kernel_rfl) rfl
   clear hs w a; intro a w vs106 hs hf
   replace hs : St _ _ _ _ [blk g59 [.int .i64 ((rl.getD k default).k), .int .i64 ((rl.getD k default).id), .int .i64 ((rl.getD k default).p0), .int .i64 ((rl.getD k default).p1), .int .i64 ((rl.getD k default).p2), .int .i64 ((rl.getD k default).v0), .int .i64 ((rl.getD k default).v1), .int .i64 ((rl.getD k default).v2), .int .u16 (((((rl.getD k default).a).toNat : Nat) : Int))] 45, row q2 47 9 out2.length (out2.flatMap entV), blk g17 [.int .i64 (gt), .int .i64 (gtm), q2] 24, blk g5 [.int .i64 (0), .int .i64 (0), .slice none 0 0] 24, blk g4 [.int .i64 (gt), .int .i64 (gtm), .int .i64 (gb), gu] 27] _ _ := hs
   obtain ⟨e13, q13⟩ := hf 13 (by decide)
   replace e13 : _ = some (vs106 13) := e13.val rfl
   rw [show vs106 13 = .bool (false) from q13] at e13
   replace hs := hs.learn e13; clear e13 q13
   clear hf
   refine then_n (hK65 _ _ ?_)
   refine wp_cond_false (hs.ev rfl) ?_
   refine wp_exit ?_
   refine th_e ?_
   refine th_e ?_
   refine in_hit ?_
   refine then_n (hK61 _ _ ?_)
   refine wp_seq_k fun K107 hK108 => ?_
   replace hs := hs.sub (F' := [(68, .bool (false)), (3, .pointer (some ⟨g4, 0, none⟩)), (4, .pointer (some ⟨g5, 0, none⟩)), (5, .int .i64 (0)), (7, .pointer (some ⟨g17, 0, none⟩)), (8, wu), (9, .int .i64 ((i2 : Int))), (10, .int .i64 ((k : Int))), (11, .pointer (some ⟨g59, 0, none⟩))]) (.c rfl (.c rfl (.c rfl (.c rfl (.c rfl (.c rfl (.c rfl (.c rfl (.c rfl .n)))))))))
   refine wp_drawG (M0 := [blk g59 [.int .i64 ((rl.getD k default).k), .int .i64 ((rl.getD k default).id), .int .i64 ((rl.getD k default).p0), .int .i64 ((rl.getD k default).p1), .int .i64 ((rl.getD k default).p2), .int .i64 ((rl.getD k default).v0), .int .i64 ((rl.getD k default).v1), .int .i64 ((rl.getD k default).v2), .int .u16 (((((rl.getD k default).a).toNat : Nat) : Int))] 45, row q2 47 9 out2.length (out2.flatMap entV), blk g17 [.int .i64 (gt), .int .i64 (gtm), q2] 24, blk g5 [.int .i64 (0), .int .i64 (0), .slice none 0 0] 24, blk g4 [.int .i64 (gt), .int .i64 (gtm), .int .i64 (gb), gu] 27]) (Ds := [Pv 0 (.int .i64 ((i2 : Int))), Pv 1 wu, Pv 2 (.int .i64 (((was.length : Nat) : Int))), Pv 3 (.bool (false)), Pv 4 (.bool (false)), Pv 5 undef, Pv 6 undef, Pv 7 undef, Pv 8 undef, Pv 9 undef, Pv 10 undef, Pv 11 undef, Pv 12 undef, Pv 13 (.bool (false)), Pv 14 (.bool (false))]) (by kernel_rfl) hs rfl .n (by kernel_rfl) (by kernel_rfl) (by kernel_rfl) ?_ ?_
   ·
    refine (.c ?_ (.c ?_ (.c ?_ (.c ?_ (.c ?_ (.c ?_ (.c ?_ (.c ?_ (.c ?_ (.c ?_ (.c ?_ (.c ?_ (.c ?_ (.c ?_ (.c ?_ .n)))))))))))))))
    · exact trip_pv (m := 15) .n (fun hm0 hm hx => .n) (by kernel_rfl) (by kernel_rfl) rfl
    · exact trip_pv (m := 15) .n (fun hm0 hm hx => .n) (by kernel_rfl) (by kernel_rfl) rfl
    ·
     intro a_ w_ R_ rest_ vs109 hm hs ht hx
     have hm0 := hm.mid
     replace hs := hs.lrn (ht 1 (twB_spec 15 _ (by kernel_rfl))) rfl rfl
     have hs0 := hs.bare
     refine st_len hs rfl (hm.rd0 hJ41).isSl Try.underlying22 rfl ?_; clear hs; intro a w hs
     exact wpList_nil ⟨rfl, _, _, hs0, (.c .r), hs, rfl⟩
    ·
     intro a_ w_ R_ rest_ vs109 hm hs ht hx
     have hm0 := hm.mid
     replace hs := hs.lrn (ht 0 (twB_spec 15 _ (by kernel_rfl))) rfl rfl
     replace hs := hs.lrn (ht 2 (twB_spec 15 _ (by kernel_rfl))) rfl rfl
     have hs0 := hs.bare
     refine st_lss hs rfl rfl rfl ?_; clear hs; intro a w hs
     have hb_ : (decide ((i2 : Int) < (((was.length : Nat) : Int)))) = false := decide_eq_false (by omega)
     rw [hb_] at hs; clear hb_
     exact wpList_nil ⟨rfl, _, _, hs0, (.c (.c .r)), hs, rfl⟩
    · exact trip_pv (m := 15) (.c (k := 3) (by kernel_rfl) rfl rfl .n) (fun hm0 hm hx => .n) (by kernel_rfl) (by kernel_rfl) rfl
    · exact trip_pf (m := 15) rfl (.c (k := 4) (by kernel_rfl) rfl rfl .n) rfl rfl rfl
    · exact trip_pf (m := 15) rfl (.c (k := 4) (by kernel_rfl) rfl rfl .n) rfl rfl rfl
    · exact trip_pf (m := 15) rfl (.c (k := 4) (by kernel_rfl) rfl rfl (.c (k := 5) (by kernel_rfl) rfl rfl (.c (k := 6) (by kernel_rfl) rfl rfl .n))) rfl rfl rfl
    · exact trip_pf (m := 15) rfl (.c (k := 4) (by kernel_rfl) rfl rfl (.c (k := 7) (by kernel_rfl) rfl rfl .n)) rfl rfl rfl
    · exact trip_pf (m := 15) rfl (.c (k := 4) (by kernel_rfl) rfl rfl (.c (k := 8) (by kernel_rfl) rfl rfl .n)) rfl rfl rfl
    · exact trip_pf (m := 15) rfl (.c (k := 4) (by kernel_rfl) rfl rfl .n) rfl rfl rfl
    · exact trip_pf (m := 15) rfl (.c (k := 4) (by kernel_rfl) rfl rfl (.c (k := 10) (by kernel_rfl) rfl rfl .n)) rfl rfl rfl
    · exact trip_pf (m := 15) rfl (.c (k := 4) (by kernel_rfl) rfl rfl (.c (k := 9) (by kernel_rfl) rfl rfl (.c (k := 11) (by kernel_rfl) rfl rfl .n))) rfl rfl rfl
    · exact trip_pv (m := 15) (.c (k := 4) (by kernel_rfl) rfl rfl (.c (k := 12) (by kernel_rfl) rfl rfl .n)) (fun hm0 hm hx => .n) (by kernel_rfl) (by kernel_rfl) rfl
    exact trip_pv (m := 15) (.c (k := 13) (by kernel_rfl) rfl rfl .n) (fun hm0 hm hx => .n) (by kernel_rfl) (by kernel_rfl) rfl
   clear hs w a; intro a w vs109 hs hf
   replace hs : St _ _ _ _ [blk g59 [.int .i64 ((rl.getD k default).k), .int .i64 ((rl.getD k default).id), .int .i64 ((rl.getD k default).p0), .int .i64 ((rl.getD k default).p1), .int .i64 ((rl.getD k default).p2), .int .i64 ((rl.getD k default).v0), .int .i64 ((rl.getD k default).v1), .int .i64 ((rl.getD k default).v2), .int .u16 (((((rl.getD k default).a).toNat : Nat) : Int))] 45, row q2 47 9 out2.length (out2.flatMap entV), blk g17 [.int .i64 (gt), .int .i64 (gtm), q2] 24, blk g5 [.int .i64 (0), .int .i64 (0), .slice none 0 0] 24, blk g4 [.int .i64 (gt), .int .i64 (gtm), .int .i64 (gb), gu] 27] _ _ := hs
   obtain ⟨e14, q14⟩ := hf 14 (by decide)
   replace e14 : _ = some (vs109 14) := e14.val rfl
   rw [show vs109 14 = .bool (false) from q14] at e14
   replace hs := hs.learn e14; clear e14 q14
   clear hf
   refine then_n (hK108 _ _ ?_)
   refine wp_seq_k fun K110 hK111 => ?_
   refine wp_seq_k fun K112 hK113 => ?_
   refine wp_region_lit ?_
   refine st_run 4 [(97, .bool (((rl.getD k default).k : Int) == 0)), (96, .int .i64 ((rl.getD k default).k)), (95, .pointer (some ⟨g59, 0, none⟩)), (94, .bool (false))] hs (.c (hs.mem.del .z) .n) (by kernel_rfl) (by kernel_rfl) (by kernel_rfl) ?_; clear hs a; intro a hs
   refine st_eqb hs rfl rfl Try.underlying4 rfl ?_; clear hs w a; intro a w hs
   refine wpList_nil ?_
   refine then_n (hK113 _ _ ?_)
   refine wp_if hs rfl (fun hc114 => ?_) (fun hc114 => ?_)
   ·
    have hbb := bb0T (by assumption)
    refine wp_seq_k fun K115 hK116 => ?_
    refine wp_region_lit ?_
    refine st_build (it := Try.t24) (zs := [.int .i64 (0), .int .i64 (0), .slice none 0 0]) (places := [(0, 1), (1, 1), (2, 1)]) hs .n Try.underlying24 rfl rfl rfl rfl .n rfl ?_; clear hs w a; intro a w hs
    refine st_stBA hs rfl rfl (.s (.s (.s .z))) (.z (.c (.c (.c .n)))) (ones_c rfl (ones_c rfl (ones_c rfl ones_n))) Try.sizeOf24 rfl ?_; clear hs w a; intro a w hs
    refine st_as hs rfl rfl ?_; clear hs w a; intro a w hs
    refine wpList_nil ?_
    refine then_n (hK116 _ _ ?_)
    refine wp_ret ?_
    refine th_r ?_
    refine in_r ?_
    refine th_r ?_
    refine th_r ?_
    refine in_r ?_
    refine th_r ?_
    have hE : aE t tm l gt gtm gb rl = 15 := by first | exact aE_1 (by omega) | exact aE_2 (by omega) (by omega) (by omega) | exact aE_3 (by omega) (by omega) (by omega) (by omega) | (rw [aE_4 (by omega) hpre, ← hwas]; first | exact aM_none (aInv_err (by omega) hI2_2 (by omega)) | exact aM_full (aInv_end (by omega) hI1_2) (by rw [List.length_append, List.length_drop]; omega))
    have hS : aS t tm l gt gtm gb rl = ⟨0, 0, []⟩ := aS_e (by omega)
    replace hs := hs.addNil 47 9
    replace hs := hs.rerow .z (m' := (aS t tm l gt gtm gb rl).l.length) (xs' := ((aS t tm l gt gtm gb rl).l.flatMap entV)) (by rw [hS]; rfl) (by rw [hS]; rfl)
    exact finC2 hs rfl rfl rfl (.s .z) (.z (.c (.c (.c .n)))) Try.isAgg24 Try.sizeOf24 (.c (.s (.s (.s (.s (.s .z))))) (.c (.s (.s (.s (.s .z)))) (.c (.s (.s (.s .z))) (.c (.s (.s .z)) (.c (.s .z) .n))))) ⟨_, by rw [hE, hS] <;> rfl, rfl⟩
   have hbb := bb0F (by assumption)
   refine wp_skip ?_
   refine then_n (hK111 _ _ ?_)
   refine wp_seq_k fun K117 hK118 => ?_
   refine wp_seq_k fun K119 hK120 => ?_
   refine wp_region_lit ?_
   refine st_run 3 [(102, .bool (((rl.getD k default).k : Int) == 0)), (101, .int .i64 ((rl.getD k default).k)), (100, .pointer (some ⟨g59, 0, none⟩))] hs (.c (hs.mem.del .z) .n) (by kernel_rfl) (by kernel_rfl) (by kernel_rfl) ?_; clear hs a; intro a hs
   refine wpList_nil ?_
   refine then_n (hK120 _ _ ?_)
   refine wp_if hs rfl (fun hc121 => ?_) (fun hc121 => ?_)
   ·
    replace hc121 := eq_of_beq hc121
    refine wp_seq_k fun K122 hK123 => ?_
    refine wp_region_lit ?_
    refine st_run 10 [(112, .int .u16 (((((rl.getD k default).a).toNat : Nat) : Int))), (111, .pointer (some ⟨g59, 8, none⟩)), (110, .agg #[.int .i64 ((rl.getD k default).v0), .int .i64 ((rl.getD k default).v1), .int .i64 ((rl.getD k default).v2)]), (109, .pointer (some ⟨g59, 5, none⟩)), (108, .agg #[.int .i64 ((rl.getD k default).p0), .int .i64 ((rl.getD k default).p1), .int .i64 ((rl.getD k default).p2)]), (107, .pointer (some ⟨g59, 2, none⟩)), (106, .int .i64 ((rl.getD k default).id)), (105, .pointer (some ⟨g59, 1, none⟩)), (104, q2), (103, .pointer (some ⟨g17, 2, none⟩))] hs (.c (hs.mem.del (.s (.s .z))) (.c (hs.mem.del .z) (.c (hs.mem.del .z) (.c (hs.mem.del .z) (.c (hs.mem.del .z) .n))))) (by kernel_rfl) (by kernel_rfl) (by kernel_rfl) ?_; clear hs a; intro a hs
    refine st_build (it := Try.t47) (zs := [.int .i64 (0), .int .i64 (0), .int .i64 (0), .int .i64 (0), .int .i64 (0), .int .i64 (0), .int .i64 (0), .int .u16 (0), .int .u8 (0)]) (places := [(0, 1), (1, 3), (4, 3), (7, 1), (8, 1)]) hs (.c rfl (.c rfl (.c rfl (.c rfl .n)))) Try.underlying47 rfl rfl rfl rfl (.c rfl rfl (.z (.c .n)) (.c rfl rfl (.s (.z (.c (.c (.c .n))))) (.c rfl rfl (.s (.s (.s (.s (.z (.c (.c (.c .n)))))))) (.c rfl rfl (.s (.s (.s (.s (.s (.s (.s (.z (.c .n))))))))) .n)))) rfl ?_; clear hs w a; intro a w hs
    refine st_bs (cs := [.int .i64 ((rl.getD k default).id), .int .i64 ((rl.getD k default).p0), .int .i64 ((rl.getD k default).p1), .int .i64 ((rl.getD k default).p2), .int .i64 ((rl.getD k default).v0), .int .i64 ((rl.getD k default).v1), .int .i64 ((rl.getD k default).v2), .int .u16 (((((rl.getD k default).a).toNat : Nat) : Int)), .int .u8 (0)]) hs (.c .n) (.c rfl .n) Try.underlying22 (ie := Try.t47) rfl rfl rfl rfl (by decide) (by decide) rfl (by decide) rfl rfl rfl ?_; clear hs w a; intro g124 a w hs
    refine st_app (size := 9) (bytes := 64) hs rfl rfl (.s (.s .z)) (rd_blk (m := 1) (size := 9) (hs.mem.del .z) rfl (by decide)) (by simp [Value.oneCell']) Try.underlying22 (i := Try.t47) rfl rfl rfl rfl rfl (by decide) (by omega) (by simp only [maxLen]; omega) rfl ?_; clear hs w a; intro v125 a w hs
    replace hs := hs.drop (.c (.s .z) .n)
    refine st_fa hs rfl Try.underlying24 rfl Try.sizeOf22 (by decide) (o := 2) rfl rfl ?_; clear hs w a; intro a w hs
    refine st_stB hs rfl rfl (.s (.s .z)) (.s (.s .z)) (rd_row (hs.mem.del .z)).isSl.one Try.sizeOf22 ?_; clear hs w a; intro a w hs
    refine wpList_nil ?_
    refine then_n (hK123 _ _ ?_)
    refine wp_exit ?_
    refine th_e ?_
    refine in_hit ?_
    refine then_n (hK56 _ _ ?_)
    refine wp_region_lit ?_
    refine st_mv hs rfl rfl ?_; clear hs w a; intro a w hs
    refine st_addR hs rfl rfl (by omega) rfl ?_; clear hs w a; intro a w hs
    refine st_as hs rfl rfl ?_; clear hs w a; intro a w hs
    refine wpList_nil ?_
    refine then_n ?_
    have hF := aInv_new (by omega) hI2_2 (by omega) (by omega)
    have hol : (out2 ++ [entOf (rl.getD k default)]).length ≤ (i2) + (k + 1) := by rw [List.length_append]; show _ + 1 ≤ _; omega
    replace hs := hs.rerow (.s .z) (m' := (out2 ++ [entOf (rl.getD k default)]).length) (xs' := ((out2 ++ [entOf (rl.getD k default)]).flatMap entV)) (by rw [List.length_append]; rfl) (by rw [List.flatMap_append]; rfl)
    replace hs := hs.drop (.c (.s (.s .z)) .n)
    refine ⟨_, ?_, k + 1, i2, v125, out2 ++ [entOf (rl.getD k default)], rfl, hs.sub (.c rfl (.c rfl (.c rfl (.c rfl (.c rfl (.c rfl (.c rfl .n))))))), by omega, by omega, hF, hol⟩
    omega
   replace hc121 := ne_of_beq_f hc121
   refine wp_skip ?_
   refine then_n (hK118 _ _ ?_)
   refine wp_seq_k fun K126 hK127 => ?_
   refine wp_seq_k fun K128 hK129 => ?_
   refine wp_region_lit ?_
   refine st_run 3 [(119, .bool (!(((rl.getD k default).k : Int) == 2))), (118, .int .i64 ((rl.getD k default).k)), (117, .pointer (some ⟨g59, 0, none⟩))] hs (.c (hs.mem.del .z) .n) (by kernel_rfl) (by kernel_rfl) (by kernel_rfl) ?_; clear hs a; intro a hs
   refine wpList_nil ?_
   refine then_n (hK129 _ _ ?_)
   refine wp_if hs rfl (fun hc130 => ?_) (fun hc130 => ?_)
   ·
    replace hc130 := not_t hc130
    replace hc130 := ne_of_beq_f hc130
    refine wp_seq_k fun K131 hK132 => ?_
    replace hs := hs.sub (F' := [(119, .bool (!(((rl.getD k default).k : Int) == 2))), (118, .int .i64 ((rl.getD k default).k)), (117, .pointer (some ⟨g59, 0, none⟩)), (102, .bool (((rl.getD k default).k : Int) == 0)), (101, .int .i64 ((rl.getD k default).k)), (100, .pointer (some ⟨g59, 0, none⟩)), (98, .bool ((false : Bool) == (((rl.getD k default).k : Int) == 0))), (97, .bool (((rl.getD k default).k : Int) == 0)), (96, .int .i64 ((rl.getD k default).k)), (95, .pointer (some ⟨g59, 0, none⟩)), (94, .bool (false)), (12, .bool (false)), (68, .bool (false)), (3, .pointer (some ⟨g4, 0, none⟩)), (4, .pointer (some ⟨g5, 0, none⟩)), (5, .int .i64 (0)), (7, .pointer (some ⟨g17, 0, none⟩)), (8, wu), (9, .int .i64 ((i2 : Int))), (10, .int .i64 ((k : Int))), (11, .pointer (some ⟨g59, 0, none⟩))]) (.c rfl (.c rfl (.c rfl (.c rfl (.c rfl (.c rfl (.c rfl (.c rfl (.c rfl (.c rfl (.c rfl (.c rfl (.c rfl (.c rfl (.c rfl (.c rfl (.c rfl (.c rfl (.c rfl (.c rfl (.c rfl .n)))))))))))))))))))))
    refine wp_drawG (M0 := [blk g59 [.int .i64 ((rl.getD k default).k), .int .i64 ((rl.getD k default).id), .int .i64 ((rl.getD k default).p0), .int .i64 ((rl.getD k default).p1), .int .i64 ((rl.getD k default).p2), .int .i64 ((rl.getD k default).v0), .int .i64 ((rl.getD k default).v1), .int .i64 ((rl.getD k default).v2), .int .u16 (((((rl.getD k default).a).toNat : Nat) : Int))] 45, row q2 47 9 out2.length (out2.flatMap entV), blk g17 [.int .i64 (gt), .int .i64 (gtm), q2] 24, blk g5 [.int .i64 (0), .int .i64 (0), .slice none 0 0] 24, blk g4 [.int .i64 (gt), .int .i64 (gtm), .int .i64 (gb), gu] 27]) (Ds := [Pv 0 wu, Pv 1 (.int .i64 ((i2 : Int))), Pv 2 (.pointer (some (adr wu (i2 * 9)))), Pv 3 (.agg #[.int .i64 ((was.getD i2 default).id), .int .i64 ((was.getD i2 default).p0), .int .i64 ((was.getD i2 default).p1), .int .i64 ((was.getD i2 default).p2), .int .i64 ((was.getD i2 default).v0), .int .i64 ((was.getD i2 default).v1), .int .i64 ((was.getD i2 default).v2), .int .u16 (((((was.getD i2 default).a).toNat : Nat) : Int)), .int .u8 (((((was.getD i2 default).g).toNat : Nat) : Int))]), Pv 4 (.agg #[.int .i64 ((rl.getD k default).k), .int .i64 ((rl.getD k default).id), .int .i64 ((rl.getD k default).p0), .int .i64 ((rl.getD k default).p1), .int .i64 ((rl.getD k default).p2), .int .i64 ((rl.getD k default).v0), .int .i64 ((rl.getD k default).v1), .int .i64 ((rl.getD k default).v2), .int .u16 (((((rl.getD k default).a).toNat : Nat) : Int))]), Pv 5 (.tuple #[.agg #[.int .i64 (((entApply (was.getD i2 default) (rl.getD k default)).1).id), .int .i64 (((entApply (was.getD i2 default) (rl.getD k default)).1).p0), .int .i64 (((entApply (was.getD i2 default) (rl.getD k default)).1).p1), .int .i64 (((entApply (was.getD i2 default) (rl.getD k default)).1).p2), .int .i64 (((entApply (was.getD i2 default) (rl.getD k default)).1).v0), .int .i64 (((entApply (was.getD i2 default) (rl.getD k default)).1).v1), .int .i64 (((entApply (was.getD i2 default) (rl.getD k default)).1).v2), .int .u16 ((((((entApply (was.getD i2 default) (rl.getD k default)).1).a).toNat : Nat) : Int)), .int .u8 ((((((entApply (was.getD i2 default) (rl.getD k default)).1).g).toNat : Nat) : Int))], .int .i64 ((((entApply (was.getD i2 default) (rl.getD k default)).2 : Nat) : Int))]), Pv 6 (.tuple #[.agg #[.int .i64 (((entApply (was.getD i2 default) (rl.getD k default)).1).id), .int .i64 (((entApply (was.getD i2 default) (rl.getD k default)).1).p0), .int .i64 (((entApply (was.getD i2 default) (rl.getD k default)).1).p1), .int .i64 (((entApply (was.getD i2 default) (rl.getD k default)).1).p2), .int .i64 (((entApply (was.getD i2 default) (rl.getD k default)).1).v0), .int .i64 (((entApply (was.getD i2 default) (rl.getD k default)).1).v1), .int .i64 (((entApply (was.getD i2 default) (rl.getD k default)).1).v2), .int .u16 ((((((entApply (was.getD i2 default) (rl.getD k default)).1).a).toNat : Nat) : Int)), .int .u8 ((((((entApply (was.getD i2 default) (rl.getD k default)).1).g).toNat : Nat) : Int))], .int .i64 ((((entApply (was.getD i2 default) (rl.getD k default)).2 : Nat) : Int))]), Pv 7 (.agg #[.int .i64 (((entApply (was.getD i2 default) (rl.getD k default)).1).id), .int .i64 (((entApply (was.getD i2 default) (rl.getD k default)).1).p0), .int .i64 (((entApply (was.getD i2 default) (rl.getD k default)).1).p1), .int .i64 (((entApply (was.getD i2 default) (rl.getD k default)).1).p2), .int .i64 (((entApply (was.getD i2 default) (rl.getD k default)).1).v0), .int .i64 (((entApply (was.getD i2 default) (rl.getD k default)).1).v1), .int .i64 (((entApply (was.getD i2 default) (rl.getD k default)).1).v2), .int .u16 ((((((entApply (was.getD i2 default) (rl.getD k default)).1).a).toNat : Nat) : Int)), .int .u8 ((((((entApply (was.getD i2 default) (rl.getD k default)).1).g).toNat : Nat) : Int))]), Pv 8 (.int .i64 ((((entApply (was.getD i2 default) (rl.getD k default)).2 : Nat) : Int))), ⟨[], [], [], fun vs133 => vs133 9 = .pointer (some ⟨(ptrG (vs133 9)), 0, none⟩), fun vs133 => [blk (ptrG (vs133 9)) [.int .i64 (0), .int .i64 (0), .int .i64 (0), .int .i64 (0), .int .i64 (0), .int .i64 (0), .int .i64 (0), .int .u16 (0), .int .u8 (0)] 47], none⟩, ⟨[], [9], [9], fun vs133 => True, fun vs133 => [blk (ptrG (vs133 9)) [.int .i64 (((entApply (was.getD i2 default) (rl.getD k default)).1).id), .int .i64 (((entApply (was.getD i2 default) (rl.getD k default)).1).p0), .int .i64 (((entApply (was.getD i2 default) (rl.getD k default)).1).p1), .int .i64 (((entApply (was.getD i2 default) (rl.getD k default)).1).p2), .int .i64 (((entApply (was.getD i2 default) (rl.getD k default)).1).v0), .int .i64 (((entApply (was.getD i2 default) (rl.getD k default)).1).v1), .int .i64 (((entApply (was.getD i2 default) (rl.getD k default)).1).v2), .int .u16 ((((((entApply (was.getD i2 default) (rl.getD k default)).1).a).toNat : Nat) : Int)), .int .u8 ((((((entApply (was.getD i2 default) (rl.getD k default)).1).g).toNat : Nat) : Int))] 47], none⟩, Pv 11 (.int .i64 ((((entApply (was.getD i2 default) (rl.getD k default)).2 : Nat) : Int)))]) (by kernel_rfl) hs rfl .n (by kernel_rfl) (by kernel_rfl) (by kernel_rfl) ?_ ?_
    ·
     refine (.c ?_ (.c ?_ (.c ?_ (.c ?_ (.c ?_ (.c ?_ (.c ?_ (.c ?_ (.c ?_ (.c ?_ (.c ?_ (.c ?_ .n))))))))))))
     · exact trip_pv (m := 12) .n (fun hm0 hm hx => .n) (by kernel_rfl) (by kernel_rfl) rfl
     · exact trip_pv (m := 12) .n (fun hm0 hm hx => .n) (by kernel_rfl) (by kernel_rfl) rfl
     ·
      intro a_ w_ R_ rest_ vs133 hm hs ht hx
      have hm0 := hm.mid
      replace hs := hs.lrn (ht 0 (twB_spec 12 _ (by kernel_rfl))) rfl rfl
      replace hs := hs.lrn (ht 1 (twB_spec 12 _ (by kernel_rfl))) rfl rfl
      have hs0 := hs.bare
      refine st_ia (j := i2) hs rfl rfl (hm.rd0 hJ41) rfl (by omega) Try.underlying22 Try.sizeOf47 rfl ?_; clear hs; intro a w hs
      exact wpList_nil ⟨rfl, _, _, hs0, (.c (.c .r)), hs, rfl⟩
     ·
      intro a_ w_ R_ rest_ vs133 hm hs ht hx
      have hm0 := hm.mid
      replace hs := hs.lrn (ht 2 (twB_spec 12 _ (by kernel_rfl))) rfl rfl
      have hs0 := hs.bare
      refine st_ldA (cs := entV (was.getD i2 default)) hs rfl (hm.rd0 hJ41) (flat_get entV_len was i2 (by omega)) (by rw [flat_len entV_len]; omega) (by omega) Try.isAgg47 Try.sizeOf47 rfl ?_; clear hs; intro a w hs
      exact wpList_nil ⟨rfl, _, _, hs0, (.c .r), hs, rfl⟩
     · exact trip_pv (m := 12) .n (fun hm0 hm hx => (.c (hm0.del .z))) (by kernel_rfl) (by kernel_rfl) rfl
     ·
      intro a_ w_ R_ rest_ vs133 hm hs ht hx
      have hm0 := hm.mid
      replace hs := hs.lrn (ht 3 (twB_spec 12 _ (by kernel_rfl))) rfl rfl
      replace hs := hs.lrn (ht 4 (twB_spec 12 _ (by kernel_rfl))) rfl rfl
      have hs0 := hs.bare
      refine st_callP (v := .tuple #[.agg #[.int .i64 (((entApply (was.getD i2 default) (rl.getD k default)).1).id), .int .i64 (((entApply (was.getD i2 default) (rl.getD k default)).1).p0), .int .i64 (((entApply (was.getD i2 default) (rl.getD k default)).1).p1), .int .i64 (((entApply (was.getD i2 default) (rl.getD k default)).1).p2), .int .i64 (((entApply (was.getD i2 default) (rl.getD k default)).1).v0), .int .i64 (((entApply (was.getD i2 default) (rl.getD k default)).1).v1), .int .i64 (((entApply (was.getD i2 default) (rl.getD k default)).1).v2), .int .u16 ((((((entApply (was.getD i2 default) (rl.getD k default)).1).a).toNat : Nat) : Int)), .int .u8 ((((((entApply (was.getD i2 default) (rl.getD k default)).1).g).toNat : Nat) : Int))], .int .i64 ((((entApply (was.getD i2 default) (rl.getD k default)).2 : Nat) : Int))]) hs (.c rfl (.c rfl .n)) Try.call31 (rapply_ok (was.getD i2 default) (rl.getD k default) _) rfl ?_; clear hs; intro a w hs
      exact wpList_nil ⟨rfl, _, _, hs0, (.c (.c .r)), hs, rfl⟩
     · exact trip_pv (m := 12) (.c (k := 5) (by kernel_rfl) rfl rfl .n) (fun hm0 hm hx => .n) (by kernel_rfl) (by kernel_rfl) rfl
     · exact trip_pv (m := 12) (.c (k := 6) (by kernel_rfl) rfl rfl .n) (fun hm0 hm hx => .n) (by kernel_rfl) (by kernel_rfl) rfl
     · exact trip_pv (m := 12) (.c (k := 6) (by kernel_rfl) rfl rfl .n) (fun hm0 hm hx => .n) (by kernel_rfl) (by kernel_rfl) rfl
     ·
      intro a_ w_ R_ rest_ vs133 hm hs ht hx
      have hm0 := hm.mid
      have hs0 := hs.bare
      refine st_alloc (cs := [.int .i64 (0), .int .i64 (0), .int .i64 (0), .int .i64 (0), .int .i64 (0), .int .i64 (0), .int .i64 (0), .int .u16 (0), .int .u8 (0)]) hs Try.zeroValue47 rfl rfl ?_; clear hs; intro g134 a w hs
      exact wpList_nil ⟨rfl, _, _, hs0, .r, hs, rfl⟩
     ·
      intro a_ w_ R_ rest_ vs133 hm hs ht hx
      replace hs : St _ _ _ (feet [blk (ptrG (vs133 9)) [.int .i64 (0), .int .i64 (0), .int .i64 (0), .int .i64 (0), .int .i64 (0), .int .i64 (0), .int .i64 (0), .int .u16 (0), .int .u8 (0)] 47]) [blk (ptrG (vs133 9)) [.int .i64 (0), .int .i64 (0), .int .i64 (0), .int .i64 (0), .int .i64 (0), .int .i64 (0), .int .i64 (0), .int .u16 (0), .int .u8 (0)] 47] _ _ := hs
      have hm0 := hm.mid
      have t9 := ht 9 (twB_spec 12 _ (by kernel_rfl))
      have e9 : _ = some (vs133 9) := t9.val rfl
      rw [show vs133 9 = .pointer (some ⟨(ptrG (vs133 9)), 0, none⟩) from t9.2.1] at e9
      replace hs := hs.learn e9
      replace hs := hs.lrn (ht 7 (twB_spec 12 _ (by kernel_rfl))) rfl rfl
      have hs0 := hs.bare
      refine st_stBA hs rfl rfl .z (.z (.c (.c (.c (.c (.c (.c (.c (.c (.c .n)))))))))) (ones_c rfl (ones_c rfl (ones_c rfl (ones_c rfl (ones_c rfl (ones_c rfl (ones_c rfl (ones_c rfl (ones_c rfl ones_n))))))))) Try.sizeOf47 rfl ?_; clear hs; intro a w hs
      exact wpList_nil ⟨rfl, .tuple #[], _, hs0, (.c (.c .r)), hs, trivial⟩
     exact trip_pv (m := 12) (.c (k := 8) (by kernel_rfl) rfl rfl .n) (fun hm0 hm hx => .n) (by kernel_rfl) (by kernel_rfl) rfl
    clear hs w a; intro a w vs133 hs hf
    replace hs : St _ _ _ _ [blk g59 [.int .i64 ((rl.getD k default).k), .int .i64 ((rl.getD k default).id), .int .i64 ((rl.getD k default).p0), .int .i64 ((rl.getD k default).p1), .int .i64 ((rl.getD k default).p2), .int .i64 ((rl.getD k default).v0), .int .i64 ((rl.getD k default).v1), .int .i64 ((rl.getD k default).v2), .int .u16 (((((rl.getD k default).a).toNat : Nat) : Int))] 45, row q2 47 9 out2.length (out2.flatMap entV), blk g17 [.int .i64 (gt), .int .i64 (gtm), q2] 24, blk g5 [.int .i64 (0), .int .i64 (0), .slice none 0 0] 24, blk g4 [.int .i64 (gt), .int .i64 (gtm), .int .i64 (gb), gu] 27, blk (ptrG (vs133 9)) [.int .i64 (((entApply (was.getD i2 default) (rl.getD k default)).1).id), .int .i64 (((entApply (was.getD i2 default) (rl.getD k default)).1).p0), .int .i64 (((entApply (was.getD i2 default) (rl.getD k default)).1).p1), .int .i64 (((entApply (was.getD i2 default) (rl.getD k default)).1).p2), .int .i64 (((entApply (was.getD i2 default) (rl.getD k default)).1).v0), .int .i64 (((entApply (was.getD i2 default) (rl.getD k default)).1).v1), .int .i64 (((entApply (was.getD i2 default) (rl.getD k default)).1).v2), .int .u16 ((((((entApply (was.getD i2 default) (rl.getD k default)).1).a).toNat : Nat) : Int)), .int .u8 ((((((entApply (was.getD i2 default) (rl.getD k default)).1).g).toNat : Nat) : Int))] 47] _ _ := hs
    obtain ⟨e9, q9⟩ := hf 9 (by decide)
    replace e9 : _ = some (vs133 9) := e9.val rfl
    rw [show vs133 9 = .pointer (some ⟨(ptrG (vs133 9)), 0, none⟩) from q9] at e9
    replace hs := hs.learn e9; clear e9 q9
    generalize ptrG (vs133 9) = g135 at hs
    clear hf
    refine then_n (hK132 _ _ ?_)
    refine wp_region_lit ?_
    refine st_run 3 [(131, .agg #[.int .i64 (((entApply (was.getD i2 default) (rl.getD k default)).1).id), .int .i64 (((entApply (was.getD i2 default) (rl.getD k default)).1).p0), .int .i64 (((entApply (was.getD i2 default) (rl.getD k default)).1).p1), .int .i64 (((entApply (was.getD i2 default) (rl.getD k default)).1).p2), .int .i64 (((entApply (was.getD i2 default) (rl.getD k default)).1).v0), .int .i64 (((entApply (was.getD i2 default) (rl.getD k default)).1).v1), .int .i64 (((entApply (was.getD i2 default) (rl.getD k default)).1).v2), .int .u16 ((((((entApply (was.getD i2 default) (rl.getD k default)).1).a).toNat : Nat) : Int)), .int .u8 ((((((entApply (was.getD i2 default) (rl.getD k default)).1).g).toNat : Nat) : Int))]), (130, q2), (129, .pointer (some ⟨g17, 2, none⟩))] hs (.c (hs.mem.del (.s (.s .z))) (.c (hs.mem.del (.s (.s (.s (.s (.s .z)))))) .n)) (by kernel_rfl) (by kernel_rfl) (by kernel_rfl) ?_; clear hs a; intro a hs
    refine st_bs (cs := [.int .i64 (((entApply (was.getD i2 default) (rl.getD k default)).1).id), .int .i64 (((entApply (was.getD i2 default) (rl.getD k default)).1).p0), .int .i64 (((entApply (was.getD i2 default) (rl.getD k default)).1).p1), .int .i64 (((entApply (was.getD i2 default) (rl.getD k default)).1).p2), .int .i64 (((entApply (was.getD i2 default) (rl.getD k default)).1).v0), .int .i64 (((entApply (was.getD i2 default) (rl.getD k default)).1).v1), .int .i64 (((entApply (was.getD i2 default) (rl.getD k default)).1).v2), .int .u16 ((((((entApply (was.getD i2 default) (rl.getD k default)).1).a).toNat : Nat) : Int)), .int .u8 ((((((entApply (was.getD i2 default) (rl.getD k default)).1).g).toNat : Nat) : Int))]) hs (.c .n) (.c rfl .n) Try.underlying22 (ie := Try.t47) rfl rfl rfl rfl (by decide) (by decide) rfl (by decide) rfl rfl rfl ?_; clear hs w a; intro g136 a w hs
    refine st_app (size := 9) (bytes := 64) hs rfl rfl (.s (.s .z)) (rd_blk (m := 1) (size := 9) (hs.mem.del .z) rfl (by decide)) (by simp [Value.oneCell']) Try.underlying22 (i := Try.t47) rfl rfl rfl rfl rfl (by decide) (by omega) (by simp only [maxLen]; omega) rfl ?_; clear hs w a; intro v137 a w hs
    replace hs := hs.drop (.c (.s .z) .n)
    refine st_fa hs rfl Try.underlying24 rfl Try.sizeOf22 (by decide) (o := 2) rfl rfl ?_; clear hs w a; intro a w hs
    refine st_stB hs rfl rfl (.s (.s .z)) (.s (.s .z)) (rd_row (hs.mem.del .z)).isSl.one Try.sizeOf22 ?_; clear hs w a; intro a w hs
    refine wpList_nil ?_
    refine then_n (hK127 _ _ ?_)
    refine wp_region_lit ?_
    refine st_mv hs rfl rfl ?_; clear hs w a; intro a w hs
    refine st_addR hs rfl rfl (by omega) rfl ?_; clear hs w a; intro a w hs
    refine st_as hs rfl rfl ?_; clear hs w a; intro a w hs
    have hv_ : ((i2 : Int) + 1 : Int) = (((i2 + 1 : Nat) : Int) : Int) := by omega
    rw [hv_] at hs; clear hv_
    refine wpList_nil ?_
    refine in_n ?_
    refine then_n (hK56 _ _ ?_)
    refine wp_region_lit ?_
    refine st_mv hs rfl rfl ?_; clear hs w a; intro a w hs
    refine st_addR hs rfl rfl (by omega) rfl ?_; clear hs w a; intro a w hs
    refine st_as hs rfl rfl ?_; clear hs w a; intro a w hs
    refine wpList_nil ?_
    refine then_n ?_
    have hF := aInv_upd (by omega) (by omega) hI2_2 (by omega) (by omega) (by omega)
    have hol : (out2 ++ [(entApply (was.getD i2 default) (rl.getD k default)).1]).length ≤ (i2 + 1) + (k + 1) := by rw [List.length_append]; show _ + 1 ≤ _; omega
    replace hs := hs.rerow (.s .z) (m' := (out2 ++ [(entApply (was.getD i2 default) (rl.getD k default)).1]).length) (xs' := ((out2 ++ [(entApply (was.getD i2 default) (rl.getD k default)).1]).flatMap entV)) (by rw [List.length_append]; rfl) (by rw [List.flatMap_append]; rfl)
    replace hs := hs.drop (.c (.s (.s (.s (.s (.s .z))))) (.c (.s (.s .z)) .n))
    refine ⟨_, ?_, k + 1, i2 + 1, v137, out2 ++ [(entApply (was.getD i2 default) (rl.getD k default)).1], rfl, hs.sub (.c rfl (.c rfl (.c rfl (.c rfl (.c rfl (.c rfl (.c rfl .n))))))), by omega, by omega, hF, hol⟩
    omega
   replace hc130 := not_f hc130
   replace hc130 := eq_of_beq hc130
   refine wp_skip ?_
   refine then_n (hK127 _ _ ?_)
   refine wp_region_lit ?_
   refine st_mv hs rfl rfl ?_; clear hs w a; intro a w hs
   refine st_addR hs rfl rfl (by omega) rfl ?_; clear hs w a; intro a w hs
   refine st_as hs rfl rfl ?_; clear hs w a; intro a w hs
   have hv_ : ((i2 : Int) + 1 : Int) = (((i2 + 1 : Nat) : Int) : Int) := by omega
   rw [hv_] at hs; clear hv_
   refine wpList_nil ?_
   refine in_n ?_
   refine then_n (hK56 _ _ ?_)
   refine wp_region_lit ?_
   refine st_mv hs rfl rfl ?_; clear hs w a; intro a w hs
   refine st_addR hs rfl rfl (by omega) rfl ?_; clear hs w a; intro a w hs
   refine st_as hs rfl rfl ?_; clear hs w a; intro a w hs
   refine wpList_nil ?_
   refine then_n ?_
   have hF := aInv_del (by omega) (by omega) hI2_2 (by omega) (by omega) (by omega)
   have hol : out2.length ≤ (i2 + 1) + (k + 1) := by omega
   replace hs := hs.drop (.c .z .n)
   refine ⟨_, ?_, k + 1, i2 + 1, q2, out2, rfl, hs.sub (.c rfl (.c rfl (.c rfl (.c rfl (.c rfl (.c rfl (.c rfl .n))))))), by omega, by omega, hF, hol⟩
   omega
  replace hc54 := of_decide_eq_false hc54
  refine wp_exit ?_
  refine th_e ?_
  refine th_e ?_
  refine in_hit ?_
  refine then_n (hK47 _ _ ?_)
  refine wp_seq_k fun K138 hK139 => ?_
  replace hs := hs.sub (F' := [(47, .bool (decide ((k : Int) < (((rl.length : Nat) : Int))))), (46, .int .i64 (((rl.length : Nat) : Int))), (45, gu), (44, .pointer (some ⟨g4, 3, none⟩)), (43, .int .i64 ((k : Int))), (3, .pointer (some ⟨g4, 0, none⟩)), (4, .pointer (some ⟨g5, 0, none⟩)), (5, .int .i64 (0)), (7, .pointer (some ⟨g17, 0, none⟩)), (8, wu), (9, .int .i64 ((i : Int))), (10, .int .i64 ((k : Int)))]) (.c rfl (.c rfl (.c rfl (.c rfl (.c rfl (.c rfl (.c rfl (.c rfl (.c rfl (.c rfl (.c rfl (.c rfl .n))))))))))))
  refine wp_drawG (M0 := [blk g5 [.int .i64 (0), .int .i64 (0), .slice none 0 0] 24, blk g4 [.int .i64 (gt), .int .i64 (gtm), .int .i64 (gb), gu] 27]) (Ds := [Pv 0 (.pointer (some ⟨g17, 2, none⟩)), Pv 1 q, Pv 2 wu, Pv 3 (.int .i64 ((i : Int))), Pv 4 (slcV wu 9 i was.length), ⟨[row q 47 9 out.length (out.flatMap entV)], [], [], fun vs140 => True, fun vs140 => [row (vs140 5) 47 9 (out.length + (was.length - i)) ((out.flatMap entV) ++ ((((was.flatMap entV).drop (i * 9)).take ((was.length - i) * 9))))], none⟩, Pv 6 (.pointer (some ⟨g17, 2, none⟩)), ⟨[blk g17 [.int .i64 (gt), .int .i64 (gtm), q] 24], [], [5], fun vs140 => True, fun vs140 => [blk g17 [.int .i64 (gt), .int .i64 (gtm), (vs140 5)] 24], none⟩]) (by kernel_rfl) hs rfl (.c .z (.c .z .n)) (by kernel_rfl) (by kernel_rfl) (by kernel_rfl) ?_ ?_
  ·
   refine (.c ?_ (.c ?_ (.c ?_ (.c ?_ (.c ?_ (.c ?_ (.c ?_ (.c ?_ .n))))))))
   · exact trip_pv (m := 8) .n (fun hm0 hm hx => .n) (by kernel_rfl) (by kernel_rfl) rfl
   · exact trip_pv (m := 8) (.c (k := 0) (by kernel_rfl) rfl rfl .n) (fun hm0 hm hx => (.c (hm.own (List.mem_append.2 (.inr ((hx 7 (twB_spec 8 _ (by kernel_rfl))).1 _ (List.Mem.head _))))))) (by kernel_rfl) (by kernel_rfl) rfl
   · exact trip_pv (m := 8) .n (fun hm0 hm hx => .n) (by kernel_rfl) (by kernel_rfl) rfl
   · exact trip_pv (m := 8) .n (fun hm0 hm hx => .n) (by kernel_rfl) (by kernel_rfl) rfl
   ·
    intro a_ w_ R_ rest_ vs140 hm hs ht hx
    have hm0 := hm.mid
    replace hs := hs.lrn (ht 2 (twB_spec 8 _ (by kernel_rfl))) rfl rfl
    replace hs := hs.lrn (ht 3 (twB_spec 8 _ (by kernel_rfl))) rfl rfl
    have hs0 := hs.bare
    refine st_slcL (j := i) hs rfl rfl rfl (hm.rd0 hJ41).isSl (by omega) Try.underlying22 Try.sizeOf47 rfl ?_; clear hs; intro a w hs
    exact wpList_nil ⟨rfl, _, _, hs0, (.c (.c .r)), hs, rfl⟩
   ·
    intro a_ w_ R_ rest_ vs140 hm hs ht hx
    replace hs : St _ _ _ (feet [row q 47 9 out.length (out.flatMap entV)]) [row q 47 9 out.length (out.flatMap entV)] _ _ := hs
    have hm0 := hm.mid
    replace hs := hs.lrn (ht 1 (twB_spec 8 _ (by kernel_rfl))) rfl rfl
    replace hs := hs.lrn (ht 4 (twB_spec 8 _ (by kernel_rfl))) rfl rfl
    have hs0 := hs.bare
    refine st_app (size := 9) (bytes := 64) hs rfl rfl .z ((hm.rd0 hJ41).slc (l := i) (h := was.length) (by omega) (by omega)) (one_ents _ _ _) Try.underlying22 (i := Try.t47) rfl rfl rfl rfl rfl (by decide) (by omega) (by simp only [maxLen]; omega) rfl ?_; clear hs; intro v141 a w hs
    exact wpList_nil ⟨rfl, _, _, hs0, (.c (.c .r)), hs, trivial⟩
   · exact trip_pv (m := 8) .n (fun hm0 hm hx => .n) (by kernel_rfl) (by kernel_rfl) rfl
   intro a_ w_ R_ rest_ vs140 hm hs ht hx
   replace hs : St _ _ _ (feet [blk g17 [.int .i64 (gt), .int .i64 (gtm), q] 24]) [blk g17 [.int .i64 (gt), .int .i64 (gtm), q] 24] _ _ := hs
   have hm0 := hm.mid
   have t5 := ht 5 (twB_spec 8 _ (by kernel_rfl))
   have e5 : _ = some (vs140 5) := t5.val rfl
   replace hs := hs.learn e5
   replace hs := hs.lrn (ht 6 (twB_spec 8 _ (by kernel_rfl))) rfl rfl
   have hs0 := hs.bare
   refine st_stB hs rfl rfl .z (.s (.s .z)) (rd_row (hm.own (List.mem_append.2 (.inr ((ht 5 (twB_spec 8 _ (by kernel_rfl))).2.2 (later (n := 8) (by kernel_rfl)) _ (List.Mem.head _)))))).isSl.one Try.sizeOf22 ?_; clear hs; intro a w hs
   exact wpList_nil ⟨rfl, .tuple #[], _, hs0, (.c (.c .r)), hs, trivial⟩
  clear hs w a; intro a w vs140 hs hf
  replace hs : St _ _ _ _ [blk g5 [.int .i64 (0), .int .i64 (0), .slice none 0 0] 24, blk g4 [.int .i64 (gt), .int .i64 (gtm), .int .i64 (gb), gu] 27, row (vs140 5) 47 9 (out.length + (was.length - i)) ((out.flatMap entV) ++ ((((was.flatMap entV).drop (i * 9)).take ((was.length - i) * 9)))), blk g17 [.int .i64 (gt), .int .i64 (gtm), (vs140 5)] 24] _ _ := hs
  generalize vs140 5 = v142 at hs
  clear hf
  refine then_n (hK139 _ _ ?_)
  refine wp_seq_k fun K143 hK144 => ?_
  refine wp_seq_k fun K145 hK146 => ?_
  refine wp_region_lit ?_
  refine st_run 2 [(145, v142)] hs (.c (hs.mem.del (.s (.s (.s .z)))) .n) (by kernel_rfl) (by kernel_rfl) (by kernel_rfl) ?_; clear hs a; intro a hs
  refine st_len hs rfl (rd_row (hs.mem.del (.s (.s .z)))).isSl Try.underlying22 rfl ?_; clear hs w a; intro a w hs
  refine st_gtr hs rfl rfl rfl ?_; clear hs w a; intro a w hs
  refine wpList_nil ?_
  refine then_n (hK146 _ _ ?_)
  refine wp_if hs rfl (fun hc147 => ?_) (fun hc147 => ?_)
  ·
   replace hc147 := of_decide_eq_true hc147
   refine wp_seq_k fun K148 hK149 => ?_
   refine wp_region_lit ?_
   refine st_build (it := Try.t24) (zs := [.int .i64 (0), .int .i64 (0), .slice none 0 0]) (places := [(0, 1), (1, 1), (2, 1)]) hs .n Try.underlying24 rfl rfl rfl rfl .n rfl ?_; clear hs w a; intro a w hs
   refine st_stBA hs rfl rfl .z (.z (.c (.c (.c .n)))) (ones_c rfl (ones_c rfl (ones_c rfl ones_n))) Try.sizeOf24 rfl ?_; clear hs w a; intro a w hs
   refine st_as hs rfl rfl ?_; clear hs w a; intro a w hs
   refine wpList_nil ?_
   refine then_n (hK149 _ _ ?_)
   refine wp_ret ?_
   refine th_r ?_
   have hE : aE t tm l gt gtm gb rl = 4 := by first | exact aE_1 (by omega) | exact aE_2 (by omega) (by omega) (by omega) | exact aE_3 (by omega) (by omega) (by omega) (by omega) | (rw [aE_4 (by omega) hpre, ← hwas]; first | exact aM_none (aInv_err (by omega) hI2_2 (by omega)) | exact aM_full (aInv_end (by omega) hI1_2) (by rw [List.length_append, List.length_drop]; omega))
   have hS : aS t tm l gt gtm gb rl = ⟨0, 0, []⟩ := aS_e (by omega)
   replace hs := hs.addNil 47 9
   replace hs := hs.rerow .z (m' := (aS t tm l gt gtm gb rl).l.length) (xs' := ((aS t tm l gt gtm gb rl).l.flatMap entV)) (by rw [hS]; rfl) (by rw [hS]; rfl)
   exact finC2 hs rfl rfl rfl (.s .z) (.z (.c (.c (.c .n)))) Try.isAgg24 Try.sizeOf24 (.c (.s (.s (.s (.s .z)))) (.c (.s (.s (.s .z))) (.c (.s (.s .z)) (.c (.s .z) .n)))) ⟨_, by rw [hE, hS] <;> rfl, rfl⟩
  replace hc147 := of_decide_eq_false hc147
  refine wp_skip ?_
  refine then_n (hK144 _ _ ?_)
  refine wp_seq_k fun K150 hK151 => ?_
  refine wp_region_lit ?_
  refine st_ldBA hs rfl (.s (.s (.s .z))) (.z (.c (.c (.c .n)))) Try.isAgg24 Try.sizeOf24 rfl ?_; clear hs w a; intro a w hs
  refine st_stBA hs rfl rfl .z (.z (.c (.c (.c .n)))) (ones_c rfl (ones_c rfl (ones_c (rd_row (hs.mem.del (.s (.s .z)))).isSl.one ones_n))) Try.sizeOf24 rfl ?_; clear hs w a; intro a w hs
  refine st_as hs rfl rfl ?_; clear hs w a; intro a w hs
  refine wpList_nil ?_
  refine then_n (hK151 _ _ ?_)
  refine wp_ret ?_
  have q1 := aInv_end (by omega) hI1_2
  have hE : aE t tm l gt gtm gb rl = 0 := by rw [aE_4 (by omega) hpre, ← hwas]; exact aM_ok q1 (by rw [List.length_append, List.length_drop]; omega)
  have hS : aS t tm l gt gtm gb rl = ⟨gt, gtm, out ++ was.drop i⟩ := by rw [aS_0 hE, ← hwas, q1]; rfl
  replace hs := hs.rerow (.s (.s .z)) (m' := (aS t tm l gt gtm gb rl).l.length) (xs' := ((aS t tm l gt gtm gb rl).l.flatMap entV)) (by rw [hS, List.length_append, List.length_drop]) (by rw [hS, List.flatMap_append, ← flat_drop entV_len was i (by omega)])
  exact finC2 hs rfl rfl rfl (.s .z) (.z (.c (.c (.c .n)))) Try.isAgg24 Try.sizeOf24 (.c (.s (.s (.s .z))) (.c (.s (.s .z)) (.c (.s .z) .n))) ⟨_, by rw [hE, hS] <;> rfl, rfl⟩
end Go.Proofs.Ytbioemaipghagaa
