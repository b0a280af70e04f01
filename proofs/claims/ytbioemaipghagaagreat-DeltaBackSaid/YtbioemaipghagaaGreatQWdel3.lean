/- Walks of applying: what each function does, over the program of this seat. Printed by a program of this session. -/
import Derived.Test.YtbioemaipghagaaGreatQWdel
namespace Go.Proofs.YtbioemaipghagaaGreat
open Go Go.Sx Go.RowKit
set_option linter.unusedVariables false
set_option linter.unusedSimpArgs false
set_option maxRecDepth 4000
set_option maxHeartbeats 1000000

theorem dapply_ok (t tm : Int) (u : Value) (l : List EntR) (gt gtm gb : Int) (gu : Value) (rl : List RecR) (w0 : World) (ht_ : -9223372036854775808 ≤ t ∧ t ≤ 9223372036854775807) (htm_ : -9223372036854775808 ≤ tm ∧ tm ≤ 9223372036854775807) (hgt_ : -9223372036854775808 ≤ gt ∧ gt ≤ 9223372036854775807) (hgtm_ : -9223372036854775808 ≤ gtm ∧ gtm ≤ 9223372036854775807) (hgb_ : -9223372036854775808 ≤ gb ∧ gb ≤ 9223372036854775807) (hc : Rd w0 [] u 9 l.length (l.flatMap entV)) (hcg : Rd w0 [] gu 9 rl.length (rl.flatMap recV)) (hw : ∀ x ∈ rl, x.wf) : Calls Tryz.prog 14 #[.agg #[.int .i64 (t), .int .i64 (tm), u], .agg #[.int .i64 (gt), .int .i64 (gtm), .int .i64 (gb), gu]] w0 (Ret w0 [] fun x N => ∃ v, x = .tuple #[.agg #[.int .i64 ((aS t tm l gt gtm gb rl).t), .int .i64 ((aS t tm l gt gtm gb rl).tm), v], .int .i64 ((aE t tm l gt gtm gb rl : Nat) : Int)] ∧ N = [row v 73 9 (aS t tm l gt gtm gb rl).l.length ((aS t tm l gt gtm gb rl).l.flatMap entV)]) := by
  have hce := hc.le
  simp only [maxLen] at hce
  have hcge := hcg.le
  simp only [maxLen] at hcge
  refine enter (F0 := [(0, .agg #[.int .i64 (t), .int .i64 (tm), u]), (1, .agg #[.int .i64 (gt), .int .i64 (gtm), .int .i64 (gb), gu])]) Tryz.func14 rfl rfl rfl (.c (.c .n)) (Mem.nil _) fun a w hs => ?_
  refine wp_seq_k fun K1 hK2 => ?_
  refine wp_region_lit ?_
  refine st_box (cs := [.int .i64 (t), .int .i64 (tm), u]) hs rfl rfl rfl ?_; clear hs w a; intro g3 a w hs
  refine st_box (cs := [.int .i64 (gt), .int .i64 (gtm), .int .i64 (gb), gu]) hs rfl rfl rfl ?_; clear hs w a; intro g4 a w hs
  refine st_alloc (cs := [.int .i64 (0), .int .i64 (0), .slice none 0 0]) hs Tryz.zeroValue24 rfl rfl ?_; clear hs w a; intro g5 a w hs
  refine st_as hs rfl rfl ?_; clear hs w a; intro a w hs
  refine wpList_nil ?_
  refine then_n (hK2 _ _ ?_)
  refine wp_seq_k fun K6 hK7 => ?_
  refine wp_seq_k fun K8 hK9 => ?_
  refine wp_region_lit ?_
  refine st_ldBA hs rfl (.s .z) (.z (.c (.c (.c (.c .n))))) Tryz.isAgg29 Tryz.sizeOf29 rfl ?_; clear hs w a; intro a w hs
  refine st_callP (v := .int .i64 (((bodyErr gt gtm gb rl : Nat) : Int))) hs (.c rfl .n) Tryz.call36 (gcheck_ok gt gtm gb _ rl _ (by omega) (by omega) (by omega) (hs.rd0 hcg) hw) rfl ?_; clear hs w a; intro a w hs
  refine st_as hs rfl rfl ?_; clear hs w a; intro a w hs
  refine wpList_nil ?_
  refine then_n (hK9 _ _ ?_)
  refine wp_seq_k fun K10 hK11 => ?_
  refine wp_region_lit ?_
  refine st_run 2 [(17, .bool (!((((bodyErr gt gtm gb rl : Nat) : Int) : Int) == 0)))] hs .n (by kernel_rfl) (by kernel_rfl) (by kernel_rfl) ?_; clear hs a; intro a hs
  refine wpList_nil ?_
  refine then_n (hK11 _ _ ?_)
  refine wp_if hs rfl (fun hc12 => ?_) (fun hc12 => ?_)
  ·
   replace hc12 := not_t hc12
   replace hc12 := ne_of_beq_f hc12
   refine wp_seq_k fun K13 hK14 => ?_
   refine wp_region_lit ?_
   refine st_build (it := Tryz.t24) (zs := [.int .i64 (0), .int .i64 (0), .slice none 0 0]) (places := [(0, 1), (1, 1), (2, 1)]) hs .n Tryz.underlying24 rfl rfl rfl rfl .n rfl ?_; clear hs w a; intro a w hs
   refine st_mv hs rfl rfl ?_; clear hs w a; intro a w hs
   refine st_stBA hs rfl rfl .z (.z (.c (.c (.c .n)))) (ones_c rfl (ones_c rfl (ones_c rfl ones_n))) Tryz.sizeOf24 rfl ?_; clear hs w a; intro a w hs
   refine st_as hs rfl rfl ?_; clear hs w a; intro a w hs
   refine wpList_nil ?_
   refine then_n (hK14 _ _ ?_)
   refine wp_ret ?_
   refine th_r ?_
   have hE : aE t tm l gt gtm gb rl = bodyErr gt gtm gb rl := by first | exact aE_1 (by omega) | exact aE_2 (by omega) (by omega) (by omega) | exact aE_3 (by omega) (by omega) (by omega) (by omega) | (rw [aE_4 (by omega) hpre, ← hwas]; exact aM_none (apply_none hsw hbp.2 (pInv_err (by omega) hI1_1 (pStep_err (by assumption))))) | (rw [aE_4 (by omega) hpre, ← hwas]; obtain ⟨l3, q1, q2, q3⟩ := apply_some hsw hbp.2 (pInv_end (by omega) hI1_1); exact aM_full q1 (by rw [← q2.length_eq]; omega))
   have hS : aS t tm l gt gtm gb rl = ⟨0, 0, []⟩ := aS_e (by omega)
   replace hs := hs.addNil 73 9
   replace hs := hs.rerow .z (m' := (aS t tm l gt gtm gb rl).l.length) (xs' := ((aS t tm l gt gtm gb rl).l.flatMap entV)) (by rw [hS]; rfl) (by rw [hS]; rfl)
   exact finC2 hs rfl rfl rfl (.s .z) (.z (.c (.c (.c .n)))) Tryz.isAgg24 Tryz.sizeOf24 (.c (.s (.s (.s .z))) (.c (.s (.s .z)) (.c (.s .z) .n))) ⟨_, by rw [hE, hS] <;> rfl, rfl⟩
  replace hc12 := not_f hc12
  replace hc12 := eq_of_beq hc12
  refine wp_skip ?_
  refine then_n (hK7 _ _ ?_)
  refine wp_seq_k fun K15 hK16 => ?_
  refine wp_region_lit ?_
  refine st_mkE hs rfl ?_; clear hs w a; intro g17 a w hs
  refine st_as hs rfl rfl ?_; clear hs w a; intro a w hs
  refine wpList_nil ?_
  refine then_n (hK16 _ _ ?_)
  refine wp_seq_k fun K18 hK19 => ?_
  refine wp_seq_k fun K20 hK21 => ?_
  refine wp_region_lit ?_
  refine st_run 3 [(23, .bool (decide (0 ≤ gb)))] hs (.c (hs.mem.del (.s (.s .z))) .n) (by kernel_rfl) (by kernel_rfl) (by kernel_rfl) ?_; clear hs a; intro a hs
  refine wpList_nil ?_
  refine then_n (hK21 _ _ ?_)
  refine Go.Sx.wp_cut (fun a w => ∃ g9 : Nat, ∃ was : List EntR, St 105 [(3, .pointer (some ⟨g4, 0, none⟩)), (4, .pointer (some ⟨g5, 0, none⟩)), (5, .int .i64 (0)), (7, .map (some g9))] w0 [] [mpr g9 (ekv was), blk g5 [.int .i64 (0), .int .i64 (0), .slice none 0 0] 24, blk g4 [.int .i64 (gt), .int .i64 (gtm), .int .i64 (gb), gu] 29] a w ∧ was = wasOf gb l ∧ (0 ≤ gb → snapErr t tm l = 0 ∧ t = gb)) ?_ ?_
  ·
   refine wp_if hs rfl (fun hc22 => ?_) (fun hc22 => ?_)
   ·
    replace hc22 := of_decide_eq_true hc22
    refine wp_seq_k fun K23 hK24 => ?_
    refine wp_seq_k fun K25 hK26 => ?_
    refine wp_region_lit ?_
    refine st_ldBA hs rfl (.s (.s (.s .z))) (.z (.c (.c (.c .n)))) Tryz.isAgg24 Tryz.sizeOf24 rfl ?_; clear hs w a; intro a w hs
    refine st_callP (v := .int .i64 (((snapErr t tm l : Nat) : Int))) hs (.c rfl .n) Tryz.call16 (scheck_ok t tm _ l _ (by omega) (by omega) (hs.rd0 hc)) rfl ?_; clear hs w a; intro a w hs
    refine st_as hs rfl rfl ?_; clear hs w a; intro a w hs
    refine wpList_nil ?_
    refine then_n (hK26 _ _ ?_)
    refine wp_seq_k fun K27 hK28 => ?_
    refine wp_region_lit ?_
    refine st_run 2 [(27, .bool (!((((snapErr t tm l : Nat) : Int) : Int) == 0)))] hs .n (by kernel_rfl) (by kernel_rfl) (by kernel_rfl) ?_; clear hs a; intro a hs
    refine wpList_nil ?_
    refine then_n (hK28 _ _ ?_)
    refine wp_if hs rfl (fun hc29 => ?_) (fun hc29 => ?_)
    ·
     replace hc29 := not_t hc29
     replace hc29 := ne_of_beq_f hc29
     refine wp_seq_k fun K30 hK31 => ?_
     refine wp_region_lit ?_
     refine st_build (it := Tryz.t24) (zs := [.int .i64 (0), .int .i64 (0), .slice none 0 0]) (places := [(0, 1), (1, 1), (2, 1)]) hs .n Tryz.underlying24 rfl rfl rfl rfl .n rfl ?_; clear hs w a; intro a w hs
     refine st_mv hs rfl rfl ?_; clear hs w a; intro a w hs
     refine st_stBA hs rfl rfl (.s .z) (.z (.c (.c (.c .n)))) (ones_c rfl (ones_c rfl (ones_c rfl ones_n))) Tryz.sizeOf24 rfl ?_; clear hs w a; intro a w hs
     refine st_as hs rfl rfl ?_; clear hs w a; intro a w hs
     refine wpList_nil ?_
     refine then_n (hK31 _ _ ?_)
     refine wp_ret ?_
     refine th_r ?_
     refine th_r ?_
     refine th_r ?_
     have hE : aE t tm l gt gtm gb rl = snapErr t tm l := by first | exact aE_1 (by omega) | exact aE_2 (by omega) (by omega) (by omega) | exact aE_3 (by omega) (by omega) (by omega) (by omega) | (rw [aE_4 (by omega) hpre, ← hwas]; exact aM_none (apply_none hsw hbp.2 (pInv_err (by omega) hI1_1 (pStep_err (by assumption))))) | (rw [aE_4 (by omega) hpre, ← hwas]; obtain ⟨l3, q1, q2, q3⟩ := apply_some hsw hbp.2 (pInv_end (by omega) hI1_1); exact aM_full q1 (by rw [← q2.length_eq]; omega))
     have hS : aS t tm l gt gtm gb rl = ⟨0, 0, []⟩ := aS_e (by omega)
     replace hs := hs.addNil 73 9
     replace hs := hs.rerow .z (m' := (aS t tm l gt gtm gb rl).l.length) (xs' := ((aS t tm l gt gtm gb rl).l.flatMap entV)) (by rw [hS]; rfl) (by rw [hS]; rfl)
     exact finC2 hs rfl rfl rfl (.s .z) (.z (.c (.c (.c .n)))) Tryz.isAgg24 Tryz.sizeOf24 (.c (.s (.s (.s (.s .z)))) (.c (.s (.s (.s .z))) (.c (.s (.s .z)) (.c (.s .z) .n)))) ⟨_, by rw [hE, hS] <;> rfl, rfl⟩
    replace hc29 := not_f hc29
    replace hc29 := eq_of_beq hc29
    refine wp_skip ?_
    refine then_n (hK24 _ _ ?_)
    refine wp_seq_k fun K32 hK33 => ?_
    refine wp_seq_k fun K34 hK35 => ?_
    refine wp_region_lit ?_
    refine st_run 5 [(34, .bool (!((t : Int) == gb)))] hs (.c (hs.mem.del (.s (.s (.s .z)))) (.c (hs.mem.del (.s (.s .z))) .n)) (by kernel_rfl) (by kernel_rfl) (by kernel_rfl) ?_; clear hs a; intro a hs
    refine wpList_nil ?_
    refine then_n (hK35 _ _ ?_)
    refine wp_if hs rfl (fun hc36 => ?_) (fun hc36 => ?_)
    ·
     replace hc36 := not_t hc36
     replace hc36 := ne_of_beq_f hc36
     refine wp_seq_k fun K37 hK38 => ?_
     refine wp_region_lit ?_
     refine st_build (it := Tryz.t24) (zs := [.int .i64 (0), .int .i64 (0), .slice none 0 0]) (places := [(0, 1), (1, 1), (2, 1)]) hs .n Tryz.underlying24 rfl rfl rfl rfl .n rfl ?_; clear hs w a; intro a w hs
     refine st_stBA hs rfl rfl (.s .z) (.z (.c (.c (.c .n)))) (ones_c rfl (ones_c rfl (ones_c rfl ones_n))) Tryz.sizeOf24 rfl ?_; clear hs w a; intro a w hs
     refine st_as hs rfl rfl ?_; clear hs w a; intro a w hs
     refine wpList_nil ?_
     refine then_n (hK38 _ _ ?_)
     refine wp_ret ?_
     refine th_r ?_
     refine th_r ?_
     refine th_r ?_
     have hE : aE t tm l gt gtm gb rl = 14 := by first | exact aE_1 (by omega) | exact aE_2 (by omega) (by omega) (by omega) | exact aE_3 (by omega) (by omega) (by omega) (by omega) | (rw [aE_4 (by omega) hpre, ← hwas]; exact aM_none (apply_none hsw hbp.2 (pInv_err (by omega) hI1_1 (pStep_err (by assumption))))) | (rw [aE_4 (by omega) hpre, ← hwas]; obtain ⟨l3, q1, q2, q3⟩ := apply_some hsw hbp.2 (pInv_end (by omega) hI1_1); exact aM_full q1 (by rw [← q2.length_eq]; omega))
     have hS : aS t tm l gt gtm gb rl = ⟨0, 0, []⟩ := aS_e (by omega)
     replace hs := hs.addNil 73 9
     replace hs := hs.rerow .z (m' := (aS t tm l gt gtm gb rl).l.length) (xs' := ((aS t tm l gt gtm gb rl).l.flatMap entV)) (by rw [hS]; rfl) (by rw [hS]; rfl)
     exact finC2 hs rfl rfl rfl (.s .z) (.z (.c (.c (.c .n)))) Tryz.isAgg24 Tryz.sizeOf24 (.c (.s (.s (.s (.s .z)))) (.c (.s (.s (.s .z))) (.c (.s (.s .z)) (.c (.s .z) .n)))) ⟨_, by rw [hE, hS] <;> rfl, rfl⟩
    replace hc36 := not_f hc36
    replace hc36 := eq_of_beq hc36
    have hsrt := ents_srt (snapErr_parts (by omega : snapErr t tm l = 0)).2.2.2.2.2
    refine wp_skip ?_
    refine then_n (hK33 _ _ ?_)
    refine wp_region_lit ?_
    refine st_run 2 [(37, u)] hs (.c (hs.mem.del (.s (.s (.s .z)))) .n) (by kernel_rfl) (by kernel_rfl) (by kernel_rfl) ?_; clear hs a; intro a hs
    refine st_call hs (.c rfl .n) Tryz.call35 .n (byId_ok _ l _ (hs.rd0 hc) (by assumption)) rfl ?_; clear hs w a; rintro _ _ a w ⟨g39, rfl, rfl⟩ hs; simp only [List.cons_append, List.nil_append] at hs
    refine st_as hs rfl rfl ?_; clear hs w a; intro a w hs
    refine wpList_nil ?_
    refine then_n ?_
    replace hs := hs.drop (.c (.s (.s (.s (.s .z)))) (.c (.s .z) .n))
    exact ⟨g39, l, hs.sub (.c rfl (.c rfl (.c rfl (.c rfl .n)))), by unfold wasOf; first | rw [if_pos (by omega)] | rw [if_neg (by omega)], by omega⟩
   replace hc22 := of_decide_eq_false hc22
   refine wp_skip ?_
   refine then_n ?_
   replace hs := hs.drop (.c (.s (.s (.s .z))) .n)
   exact ⟨g17, [], hs.sub (.c rfl (.c rfl (.c rfl (.c rfl .n)))), by unfold wasOf; first | rw [if_pos (by omega)] | rw [if_neg (by omega)], by omega⟩
  clear hs w a; rintro a w ⟨g9, was, hs, hJ40, hJ41⟩
  have hwas := hJ40
  have hpre := hJ41
  have hsw : Srt was := hwas ▸ wasOf_srt hpre
  have hbp := bodyErr_parts (by omega : bodyErr gt gtm gb rl = 0)
  refine then_n (hK19 _ _ ?_)
  refine wp_seq_k fun K42 hK43 => ?_
  refine wp_seq_k fun K44 hK45 => ?_
  refine wp_region_lit ?_
  refine st_run 2 [(40, gu)] hs (.c (hs.mem.del (.s (.s .z))) .n) (by kernel_rfl) (by kernel_rfl) (by kernel_rfl) ?_; clear hs a; intro a hs
  refine st_len hs rfl (hs.rd0 hcg).isSl Tryz.underlying27 rfl ?_; clear hs w a; intro a w hs
  refine st_mv hs rfl rfl ?_; clear hs w a; intro a w hs
  refine wpList_nil ?_
  refine then_n (hK45 _ _ ?_)
  refine wp_block ?_
  refine wp_loopI (fun mm_ a w => ∃ k : Nat, ∃ mm : List EntR, mm_ = rl.length - k ∧ St 105 [(3, .pointer (some ⟨g4, 0, none⟩)), (4, .pointer (some ⟨g5, 0, none⟩)), (5, .int .i64 (0)), (7, .map (some g9)), (40, gu), (41, .int .i64 (((rl.length : Nat) : Int))), (42, .int .i64 ((k : Int)))] w0 [] [mpr g9 (ekv mm), blk g5 [.int .i64 (0), .int .i64 (0), .slice none 0 0] 24, blk g4 [.int .i64 (gt), .int .i64 (gtm), .int .i64 (gb), gu] 29] a w ∧ k ≤ rl.length ∧ (pFold was rl = pFold mm (rl.drop k))) ⟨0, was, rfl, hs.sub (.c rfl (.c rfl (.c rfl (.c rfl (.c rfl (.c rfl (.c rfl .n))))))), by omega, rfl⟩ ?_
  clear hs w a; rintro mm_ a w ⟨k, mm, rfl, hs, hI1_0, hI1_1⟩
  refine wp_seq_k fun K46 hK47 => ?_
  refine wp_region_lit ?_
  refine st_lss hs rfl rfl rfl ?_; clear hs w a; intro a w hs
  refine wpList_nil ?_
  refine then_n (hK47 _ _ ?_)
  refine wp_seq_k fun K48 hK49 => ?_
  refine wp_if hs rfl (fun hc50 => ?_) (fun hc50 => ?_)
  ·
   replace hc50 := of_decide_eq_true hc50
   refine wp_skip ?_
   refine then_n (hK49 _ _ ?_)
   refine wp_seq_k fun K51 hK52 => ?_
   refine wp_block ?_
   refine wp_seq_k fun K53 hK54 => ?_
   refine wp_region_lit ?_
   refine st_ia (j := k) hs rfl rfl (hs.rd0 hcg) rfl (by omega) Tryz.underlying27 Tryz.sizeOf78 rfl ?_; clear hs w a; intro a w hs
   refine st_ldA (cs := recV (rl.getD k default)) hs rfl (hs.rd0 hcg) (flat_get recV_len rl k (by omega)) (by rw [flat_len recV_len]; omega) (by omega) Tryz.isAgg78 Tryz.sizeOf78 rfl ?_; clear hs w a; intro a w hs
   refine st_alloc (cs := [.int .i64 (0), .int .i64 (0), .int .i64 (0), .int .i64 (0), .int .i64 (0), .int .i64 (0), .int .i64 (0), .int .i64 (0), .int .u16 (0)]) hs Tryz.zeroValue78 rfl rfl ?_; clear hs w a; intro g55 a w hs
   refine st_stBA hs rfl rfl .z (.z (.c (.c (.c (.c (.c (.c (.c (.c (.c .n)))))))))) (ones_c rfl (ones_c rfl (ones_c rfl (ones_c rfl (ones_c rfl (ones_c rfl (ones_c rfl (ones_c rfl (ones_c rfl ones_n))))))))) Tryz.sizeOf78 rfl ?_; clear hs w a; intro a w hs
   refine wpList_nil ?_
   refine then_n (hK54 _ _ ?_)
   refine wp_seq_k fun K56 hK57 => ?_
   refine wp_region_lit ?_
   refine st_run 3 [(49, .int .i64 ((rl.getD k default).id)), (48, .pointer (some ⟨g55, 1, none⟩)), (47, .map (some g9))] hs (.c (hs.mem.del .z) .n) (by kernel_rfl) (by kernel_rfl) (by kernel_rfl) ?_; clear hs a; intro a hs
   refine st_lookE hs rfl rfl (.s .z) Tryz.underlying81 Tryz.underlying3 Tryz.zeroValue73 rfl ?_; clear hs w a; intro a w hs
   refine st_run 3 [(52, .bool ((eget ((rl.getD k default).id) mm).isSome)), (51, .agg #[.int .i64 ((((eget ((rl.getD k default).id) mm).getD entZ)).id), .int .i64 ((((eget ((rl.getD k default).id) mm).getD entZ)).p0), .int .i64 ((((eget ((rl.getD k default).id) mm).getD entZ)).p1), .int .i64 ((((eget ((rl.getD k default).id) mm).getD entZ)).p2), .int .i64 ((((eget ((rl.getD k default).id) mm).getD entZ)).v0), .int .i64 ((((eget ((rl.getD k default).id) mm).getD entZ)).v1), .int .i64 ((((eget ((rl.getD k default).id) mm).getD entZ)).v2), .int .u16 (((((((eget ((rl.getD k default).id) mm).getD entZ)).a).toNat : Nat) : Int)), .int .u8 (((((((eget ((rl.getD k default).id) mm).getD entZ)).g).toNat : Nat) : Int))]), (46, .tuple #[.agg #[.int .i64 ((((eget ((rl.getD k default).id) mm).getD entZ)).id), .int .i64 ((((eget ((rl.getD k default).id) mm).getD entZ)).p0), .int .i64 ((((eget ((rl.getD k default).id) mm).getD entZ)).p1), .int .i64 ((((eget ((rl.getD k default).id) mm).getD entZ)).p2), .int .i64 ((((eget ((rl.getD k default).id) mm).getD entZ)).v0), .int .i64 ((((eget ((rl.getD k default).id) mm).getD entZ)).v1), .int .i64 ((((eget ((rl.getD k default).id) mm).getD entZ)).v2), .int .u16 (((((((eget ((rl.getD k default).id) mm).getD entZ)).a).toNat : Nat) : Int)), .int .u8 (((((((eget ((rl.getD k default).id) mm).getD entZ)).g).toNat : Nat) : Int))], .bool ((eget ((rl.getD k default).id) mm).isSome)])] hs .n (by kernel_rfl) (by kernel_rfl) (by kernel_rfl) ?_; clear hs a; intro a hs
   refine st_alloc (cs := [.int .i64 (0), .int .i64 (0), .int .i64 (0), .int .i64 (0), .int .i64 (0), .int .i64 (0), .int .i64 (0), .int .u16 (0), .int .u8 (0)]) hs Tryz.zeroValue73 rfl rfl ?_; clear hs w a; intro g58 a w hs
   refine st_stBA hs rfl rfl .z (.z (.c (.c (.c (.c (.c (.c (.c (.c (.c .n)))))))))) (ones_c rfl (ones_c rfl (ones_c rfl (ones_c rfl (ones_c rfl (ones_c rfl (ones_c rfl (ones_c rfl (ones_c rfl ones_n))))))))) Tryz.sizeOf73 rfl ?_; clear hs w a; intro a w hs
   refine st_as hs rfl rfl ?_; clear hs w a; intro a w hs
   refine wpList_nil ?_
   refine then_n (hK57 _ _ ?_)
   refine wp_block ?_
   refine wp_seq_k fun K59 hK60 => ?_
   refine wp_region_lit ?_
   refine st_run 4 [(66, .bool (((rl.getD k default).k : Int) == 0)), (65, .int .i64 ((rl.getD k default).k)), (64, .pointer (some ⟨g55, 0, none⟩)), (63, .bool ((eget ((rl.getD k default).id) mm).isSome))] hs (.c (hs.mem.del (.s .z)) .n) (by kernel_rfl) (by kernel_rfl) (by kernel_rfl) ?_; clear hs a; intro a hs
   refine st_eqb hs rfl rfl Tryz.underlying4 rfl ?_; clear hs w a; intro a w hs
   refine st_as hs rfl rfl ?_; clear hs w a; intro a w hs
   refine wpList_nil ?_
   refine then_n (hK60 _ _ ?_)
   refine wp_if hs rfl (fun hc61 => ?_) (fun hc61 => ?_)
   ·
    refine wp_seq_k fun K62 hK63 => ?_
    refine wp_region_lit ?_
    refine st_build (it := Tryz.t24) (zs := [.int .i64 (0), .int .i64 (0), .slice none 0 0]) (places := [(0, 1), (1, 1), (2, 1)]) hs .n Tryz.underlying24 rfl rfl rfl rfl .n rfl ?_; clear hs w a; intro a w hs
    refine st_stBA hs rfl rfl (.s (.s (.s .z))) (.z (.c (.c (.c .n)))) (ones_c rfl (ones_c rfl (ones_c rfl ones_n))) Tryz.sizeOf24 rfl ?_; clear hs w a; intro a w hs
    refine st_as hs rfl rfl ?_; clear hs w a; intro a w hs
    refine wpList_nil ?_
    refine then_n (hK63 _ _ ?_)
    refine wp_ret ?_
    refine in_r ?_
    refine in_r ?_
    refine th_r ?_
    refine th_r ?_
    refine in_r ?_
    refine th_r ?_
    have hE : aE t tm l gt gtm gb rl = 15 := by first | exact aE_1 (by omega) | exact aE_2 (by omega) (by omega) (by omega) | exact aE_3 (by omega) (by omega) (by omega) (by omega) | (rw [aE_4 (by omega) hpre, ← hwas]; exact aM_none (apply_none hsw hbp.2 (pInv_err (by omega) hI1_1 (pStep_err (by assumption))))) | (rw [aE_4 (by omega) hpre, ← hwas]; obtain ⟨l3, q1, q2, q3⟩ := apply_some hsw hbp.2 (pInv_end (by omega) hI1_1); exact aM_full q1 (by rw [← q2.length_eq]; omega))
    have hS : aS t tm l gt gtm gb rl = ⟨0, 0, []⟩ := aS_e (by omega)
    replace hs := hs.addNil 73 9
    replace hs := hs.rerow .z (m' := (aS t tm l gt gtm gb rl).l.length) (xs' := ((aS t tm l gt gtm gb rl).l.flatMap entV)) (by rw [hS]; rfl) (by rw [hS]; rfl)
    exact finC2 hs rfl rfl rfl (.s .z) (.z (.c (.c (.c .n)))) Tryz.isAgg24 Tryz.sizeOf24 (.c (.s (.s (.s (.s (.s .z))))) (.c (.s (.s (.s (.s .z)))) (.c (.s (.s (.s .z))) (.c (.s (.s .z)) (.c (.s .z) .n))))) ⟨_, by rw [hE, hS] <;> rfl, rfl⟩
   refine wp_seq_k fun K64 hK65 => ?_
   refine wp_region_lit ?_
   refine st_run 3 [(69, .bool (!((eget ((rl.getD k default).id) mm).isSome))), (71, .bool (!((eget ((rl.getD k default).id) mm).isSome))), (70, .bool ((eget ((rl.getD k default).id) mm).isSome))] hs .n (by kernel_rfl) (by kernel_rfl) (by kernel_rfl) ?_; clear hs a; intro a hs
   refine wpList_nil ?_
   refine then_n (hK65 _ _ ?_)
   refine wp_if hs rfl (fun hc66 => ?_) (fun hc66 => ?_)
   ·
    replace hc66 := not_t hc66
    refine wp_region_lit ?_
    refine st_run 11 [(82, .int .u16 (((((rl.getD k default).a).toNat : Nat) : Int))), (81, .pointer (some ⟨g55, 8, none⟩)), (80, .agg #[.int .i64 ((rl.getD k default).v0), .int .i64 ((rl.getD k default).v1), .int .i64 ((rl.getD k default).v2)]), (79, .pointer (some ⟨g55, 5, none⟩)), (78, .agg #[.int .i64 ((rl.getD k default).p0), .int .i64 ((rl.getD k default).p1), .int .i64 ((rl.getD k default).p2)]), (77, .pointer (some ⟨g55, 2, none⟩)), (76, .int .i64 ((rl.getD k default).id)), (75, .pointer (some ⟨g55, 1, none⟩)), (74, .int .i64 ((rl.getD k default).id)), (73, .pointer (some ⟨g55, 1, none⟩)), (72, .map (some g9))] hs (.c (hs.mem.del (.s .z)) (.c (hs.mem.del (.s .z)) (.c (hs.mem.del (.s .z)) (.c (hs.mem.del (.s .z)) (.c (hs.mem.del (.s .z)) .n))))) (by kernel_rfl) (by kernel_rfl) (by kernel_rfl) ?_; clear hs a; intro a hs
    refine st_build (it := Tryz.t73) (zs := [.int .i64 (0), .int .i64 (0), .int .i64 (0), .int .i64 (0), .int .i64 (0), .int .i64 (0), .int .i64 (0), .int .u16 (0), .int .u8 (0)]) (places := [(0, 1), (1, 3), (4, 3), (7, 1), (8, 1)]) hs (.c rfl (.c rfl (.c rfl (.c rfl .n)))) Tryz.underlying73 rfl rfl rfl rfl (.c rfl rfl (.z (.c .n)) (.c rfl rfl (.s (.z (.c (.c (.c .n))))) (.c rfl rfl (.s (.s (.s (.s (.z (.c (.c (.c .n)))))))) (.c rfl rfl (.s (.s (.s (.s (.s (.s (.s (.z (.c .n))))))))) .n)))) rfl ?_; clear hs w a; intro a w hs
    refine st_updE (u := (⟨(rl.getD k default).id, (rl.getD k default).p0, (rl.getD k default).p1, (rl.getD k default).p2, (rl.getD k default).v0, (rl.getD k default).v1, (rl.getD k default).v2, (rl.getD k default).a, 0#8⟩ : EntR)) hs rfl rfl rfl (.s (.s .z)) (by first | rfl | exact hku) Tryz.underlying81 Tryz.underlying3 ?_; clear hs w a; intro a w hs
    refine wpList_nil ?_
    refine in_n ?_
    refine in_n ?_
    refine then_n (hK52 _ _ ?_)
    refine wp_region_lit ?_
    refine st_addR hs rfl rfl (by omega) rfl ?_; clear hs w a; intro a w hs
    refine st_mv hs rfl rfl ?_; clear hs w a; intro a w hs
    refine wpList_nil ?_
    refine then_n ?_
    replace hs := hs.drop (.c (.s (.s .z)) (.c (.s .z) .n))
    refine ⟨_, ?_, k + 1, eput ((⟨(rl.getD k default).id, (rl.getD k default).p0, (rl.getD k default).p1, (rl.getD k default).p2, (rl.getD k default).v0, (rl.getD k default).v1, (rl.getD k default).v2, (rl.getD k default).a, 0#8⟩ : EntR)) mm, rfl, hs.sub (.c rfl (.c rfl (.c rfl (.c rfl (.c rfl (.c rfl (.c rfl .n))))))), by omega, pInv_next (by omega) hI1_1 (pStep_new (by assumption : ((eget ((rl.getD k default).id) mm).isSome == (((rl.getD k default).k : Int) == 0)) = false) (by assumption))⟩
    omega
   replace hc66 := not_f hc66
   obtain ⟨o, ho⟩ := isSome_t (by assumption : (eget ((rl.getD k default).id) mm).isSome = true)
   have hk0 := pStep_k (by assumption : ((eget ((rl.getD k default).id) mm).isSome == (((rl.getD k default).k : Int) == 0)) = false) ho
   rw [ho] at hs
   refine wp_seq_k fun K67 hK68 => ?_
   refine wp_region_lit ?_
   refine st_run 4 [(84, .bool (((rl.getD k default).k : Int) == 2)), (87, .bool (((rl.getD k default).k : Int) == 2)), (86, .int .i64 ((rl.getD k default).k)), (85, .pointer (some ⟨g55, 0, none⟩))] hs (.c (hs.mem.del (.s .z)) .n) (by kernel_rfl) (by kernel_rfl) (by kernel_rfl) ?_; clear hs a; intro a hs
   refine wpList_nil ?_
   refine then_n (hK68 _ _ ?_)
   refine wp_if hs rfl (fun hc69 => ?_) (fun hc69 => ?_)
   ·
    replace hc69 := eq_of_beq hc69
    refine wp_region_lit ?_
    refine st_run 3 [(90, .int .i64 ((rl.getD k default).id)), (89, .pointer (some ⟨g55, 1, none⟩)), (88, .map (some g9))] hs (.c (hs.mem.del (.s .z)) .n) (by kernel_rfl) (by kernel_rfl) (by kernel_rfl) ?_; clear hs a; intro a hs
    refine st_delE hs rfl rfl (.s (.s .z)) Tryz.underlying81 Tryz.underlying3 rfl ?_; clear hs w a; intro a w hs
    refine wpList_nil ?_
    refine in_n ?_
    refine in_n ?_
    refine then_n (hK52 _ _ ?_)
    refine wp_region_lit ?_
    refine st_addR hs rfl rfl (by omega) rfl ?_; clear hs w a; intro a w hs
    refine st_mv hs rfl rfl ?_; clear hs w a; intro a w hs
    refine wpList_nil ?_
    refine then_n ?_
    replace hs := hs.drop (.c (.s (.s .z)) (.c (.s .z) .n))
    refine ⟨_, ?_, k + 1, edel ((rl.getD k default).id) mm, rfl, hs.sub (.c rfl (.c rfl (.c rfl (.c rfl (.c rfl (.c rfl (.c rfl .n))))))), by omega, pInv_next (by omega) hI1_1 (pStep_del ho (by assumption))⟩
    omega
   replace hc69 := ne_of_beq_f hc69
   have hku := upd_id hbp.2 (by omega) ho hk0 (by assumption)
   replace hs := hs.sub (F' := [(84, .bool (((rl.getD k default).k : Int) == 2)), (87, .bool (((rl.getD k default).k : Int) == 2)), (86, .int .i64 ((rl.getD k default).k)), (85, .pointer (some ⟨g55, 0, none⟩)), (69, .bool (!(((some o).isSome)))), (71, .bool (!(((some o).isSome)))), (70, .bool (true)), (62, .bool ((((some o).isSome) : Bool) == (((rl.getD k default).k : Int) == 0))), (67, .bool ((((some o).isSome) : Bool) == (((rl.getD k default).k : Int) == 0))), (66, .bool (((rl.getD k default).k : Int) == 0)), (65, .int .i64 ((rl.getD k default).k)), (64, .pointer (some ⟨g55, 0, none⟩)), (63, .bool (true)), (12, .bool (true)), (11, .pointer (some ⟨g58, 0, none⟩)), (52, .bool (true)), (51, .agg #[.int .i64 (o.id), .int .i64 (o.p0), .int .i64 (o.p1), .int .i64 (o.p2), .int .i64 (o.v0), .int .i64 (o.v1), .int .i64 (o.v2), .int .u16 ((((o.a).toNat : Nat) : Int)), .int .u8 ((((o.g).toNat : Nat) : Int))]), (46, .tuple #[.agg #[.int .i64 (o.id), .int .i64 (o.p0), .int .i64 (o.p1), .int .i64 (o.p2), .int .i64 (o.v0), .int .i64 (o.v1), .int .i64 (o.v2), .int .u16 ((((o.a).toNat : Nat) : Int)), .int .u8 ((((o.g).toNat : Nat) : Int))], .bool (((some o).isSome))]), (50, .tuple #[.agg #[.int .i64 (o.id), .int .i64 (o.p0), .int .i64 (o.p1), .int .i64 (o.p2), .int .i64 (o.v0), .int .i64 (o.v1), .int .i64 (o.v2), .int .u16 ((((o.a).toNat : Nat) : Int)), .int .u8 ((((o.g).toNat : Nat) : Int))], .bool (((some o).isSome))]), (49, .int .i64 ((rl.getD k default).id)), (48, .pointer (some ⟨g55, 1, none⟩)), (47, .map (some g9)), (10, .pointer (some ⟨g55, 0, none⟩)), (45, .agg #[.int .i64 ((rl.getD k default).k), .int .i64 ((rl.getD k default).id), .int .i64 ((rl.getD k default).p0), .int .i64 ((rl.getD k default).p1), .int .i64 ((rl.getD k default).p2), .int .i64 ((rl.getD k default).v0), .int .i64 ((rl.getD k default).v1), .int .i64 ((rl.getD k default).v2), .int .u16 (((((rl.getD k default).a).toNat : Nat) : Int))]), (44, .pointer (some (adr gu (k * 9)))), (43, .bool (decide ((k : Int) < (((rl.length : Nat) : Int))))), (3, .pointer (some ⟨g4, 0, none⟩)), (4, .pointer (some ⟨g5, 0, none⟩)), (5, .int .i64 (0)), (7, .map (some g9)), (40, gu), (41, .int .i64 (((rl.length : Nat) : Int))), (42, .int .i64 ((k : Int)))]) (.c rfl (.c rfl (.c rfl (.c rfl (.c rfl (.c rfl (.c rfl (.c rfl (.c rfl (.c rfl (.c rfl (.c rfl (.c rfl (.c rfl (.c rfl (.c rfl (.c rfl (.c rfl (.c rfl (.c rfl (.c rfl (.c rfl (.c rfl (.c rfl (.c rfl (.c rfl (.c rfl (.c rfl (.c rfl (.c rfl (.c rfl (.c rfl (.c rfl .n)))))))))))))))))))))))))))))))))
   refine wp_drawG (M0 := [blk g58 [.int .i64 (o.id), .int .i64 (o.p0), .int .i64 (o.p1), .int .i64 (o.p2), .int .i64 (o.v0), .int .i64 (o.v1), .int .i64 (o.v2), .int .u16 ((((o.a).toNat : Nat) : Int)), .int .u8 ((((o.g).toNat : Nat) : Int))] 73, blk g55 [.int .i64 ((rl.getD k default).k), .int .i64 ((rl.getD k default).id), .int .i64 ((rl.getD k default).p0), .int .i64 ((rl.getD k default).p1), .int .i64 ((rl.getD k default).p2), .int .i64 ((rl.getD k default).v0), .int .i64 ((rl.getD k default).v1), .int .i64 ((rl.getD k default).v2), .int .u16 (((((rl.getD k default).a).toNat : Nat) : Int))] 78, blk g5 [.int .i64 (0), .int .i64 (0), .slice none 0 0] 24, blk g4 [.int .i64 (gt), .int .i64 (gtm), .int .i64 (gb), gu] 29]) (Ds := [Pv 0 (.map (some g9)), Pv 1 (.pointer (some ⟨g55, 1, none⟩)), Pv 2 (.int .i64 ((rl.getD k default).id)), Pv 3 (.agg #[.int .i64 (o.id), .int .i64 (o.p0), .int .i64 (o.p1), .int .i64 (o.p2), .int .i64 (o.v0), .int .i64 (o.v1), .int .i64 (o.v2), .int .u16 ((((o.a).toNat : Nat) : Int)), .int .u8 ((((o.g).toNat : Nat) : Int))]), Pv 4 (.agg #[.int .i64 ((rl.getD k default).k), .int .i64 ((rl.getD k default).id), .int .i64 ((rl.getD k default).p0), .int .i64 ((rl.getD k default).p1), .int .i64 ((rl.getD k default).p2), .int .i64 ((rl.getD k default).v0), .int .i64 ((rl.getD k default).v1), .int .i64 ((rl.getD k default).v2), .int .u16 (((((rl.getD k default).a).toNat : Nat) : Int))]), Pv 5 (.tuple #[.agg #[.int .i64 (((entApply o (rl.getD k default)).1).id), .int .i64 (((entApply o (rl.getD k default)).1).p0), .int .i64 (((entApply o (rl.getD k default)).1).p1), .int .i64 (((entApply o (rl.getD k default)).1).p2), .int .i64 (((entApply o (rl.getD k default)).1).v0), .int .i64 (((entApply o (rl.getD k default)).1).v1), .int .i64 (((entApply o (rl.getD k default)).1).v2), .int .u16 ((((((entApply o (rl.getD k default)).1).a).toNat : Nat) : Int)), .int .u8 ((((((entApply o (rl.getD k default)).1).g).toNat : Nat) : Int))], .int .i64 ((((entApply o (rl.getD k default)).2 : Nat) : Int))]), Pv 6 (.tuple #[.agg #[.int .i64 (((entApply o (rl.getD k default)).1).id), .int .i64 (((entApply o (rl.getD k default)).1).p0), .int .i64 (((entApply o (rl.getD k default)).1).p1), .int .i64 (((entApply o (rl.getD k default)).1).p2), .int .i64 (((entApply o (rl.getD k default)).1).v0), .int .i64 (((entApply o (rl.getD k default)).1).v1), .int .i64 (((entApply o (rl.getD k default)).1).v2), .int .u16 ((((((entApply o (rl.getD k default)).1).a).toNat : Nat) : Int)), .int .u8 ((((((entApply o (rl.getD k default)).1).g).toNat : Nat) : Int))], .int .i64 ((((entApply o (rl.getD k default)).2 : Nat) : Int))]), Pv 7 (.agg #[.int .i64 (((entApply o (rl.getD k default)).1).id), .int .i64 (((entApply o (rl.getD k default)).1).p0), .int .i64 (((entApply o (rl.getD k default)).1).p1), .int .i64 (((entApply o (rl.getD k default)).1).p2), .int .i64 (((entApply o (rl.getD k default)).1).v0), .int .i64 (((entApply o (rl.getD k default)).1).v1), .int .i64 (((entApply o (rl.getD k default)).1).v2), .int .u16 ((((((entApply o (rl.getD k default)).1).a).toNat : Nat) : Int)), .int .u8 ((((((entApply o (rl.getD k default)).1).g).toNat : Nat) : Int))]), Pv 8 (.int .i64 ((((entApply o (rl.getD k default)).2 : Nat) : Int))), ⟨[mpr g9 (ekv mm)], [], [], fun vs70 => True, fun vs70 => [mpr g9 (ekv (eput (((entApply o (rl.getD k default)).1)) mm))], none⟩]) (by kernel_rfl) hs rfl (.c (.s (.s .z)) .n) (by kernel_rfl) (by kernel_rfl) (by kernel_rfl) ?_ ?_
   ·
    refine (.c ?_ (.c ?_ (.c ?_ (.c ?_ (.c ?_ (.c ?_ (.c ?_ (.c ?_ (.c ?_ (.c ?_ .n))))))))))
    · exact trip_pv (m := 10) .n (fun hm0 hm hx => .n) (by kernel_rfl) (by kernel_rfl) rfl
    · exact trip_pv (m := 10) .n (fun hm0 hm hx => .n) (by kernel_rfl) (by kernel_rfl) rfl
    · exact trip_pv (m := 10) (.c (k := 1) (by kernel_rfl) rfl rfl .n) (fun hm0 hm hx => (.c (hm0.del (.s .z)))) (by kernel_rfl) (by kernel_rfl) rfl
    · exact trip_pv (m := 10) .n (fun hm0 hm hx => (.c (hm0.del .z))) (by kernel_rfl) (by kernel_rfl) rfl
    · exact trip_pv (m := 10) .n (fun hm0 hm hx => (.c (hm0.del (.s .z)))) (by kernel_rfl) (by kernel_rfl) rfl
    ·
     intro a_ w_ R_ rest_ vs70 hm hs ht hx
     have hm0 := hm.mid
     replace hs := hs.lrn (ht 3 (twB_spec 10 _ (by kernel_rfl))) rfl rfl
     replace hs := hs.lrn (ht 4 (twB_spec 10 _ (by kernel_rfl))) rfl rfl
     have hs0 := hs.bare
     refine st_callP (v := .tuple #[.agg #[.int .i64 (((entApply o (rl.getD k default)).1).id), .int .i64 (((entApply o (rl.getD k default)).1).p0), .int .i64 (((entApply o (rl.getD k default)).1).p1), .int .i64 (((entApply o (rl.getD k default)).1).p2), .int .i64 (((entApply o (rl.getD k default)).1).v0), .int .i64 (((entApply o (rl.getD k default)).1).v1), .int .i64 (((entApply o (rl.getD k default)).1).v2), .int .u16 ((((((entApply o (rl.getD k default)).1).a).toNat : Nat) : Int)), .int .u8 ((((((entApply o (rl.getD k default)).1).g).toNat : Nat) : Int))], .int .i64 ((((entApply o (rl.getD k default)).2 : Nat) : Int))]) hs (.c rfl (.c rfl .n)) Tryz.call37 (apply_ok o (rl.getD k default) _) rfl ?_; clear hs; intro a w hs
     exact wpList_nil ⟨rfl, _, _, hs0, (.c (.c .r)), hs, rfl⟩
    · exact trip_pv (m := 10) (.c (k := 5) (by kernel_rfl) rfl rfl .n) (fun hm0 hm hx => .n) (by kernel_rfl) (by kernel_rfl) rfl
    · exact trip_pv (m := 10) (.c (k := 6) (by kernel_rfl) rfl rfl .n) (fun hm0 hm hx => .n) (by kernel_rfl) (by kernel_rfl) rfl
    · exact trip_pv (m := 10) (.c (k := 6) (by kernel_rfl) rfl rfl .n) (fun hm0 hm hx => .n) (by kernel_rfl) (by kernel_rfl) rfl
    intro a_ w_ R_ rest_ vs70 hm hs ht hx
    replace hs : St _ _ _ (feet [mpr g9 (ekv mm)]) [mpr g9 (ekv mm)] _ _ := hs
    have hm0 := hm.mid
    replace hs := hs.lrn (ht 0 (twB_spec 10 _ (by kernel_rfl))) rfl rfl
    replace hs := hs.lrn (ht 2 (twB_spec 10 _ (by kernel_rfl))) rfl rfl
    replace hs := hs.lrn (ht 7 (twB_spec 10 _ (by kernel_rfl))) rfl rfl
    have hs0 := hs.bare
    refine st_updE (u := ((entApply o (rl.getD k default)).1)) hs rfl rfl rfl .z (by first | rfl | exact hku) Tryz.underlying81 Tryz.underlying3 ?_; clear hs; intro a w hs
    exact wpList_nil ⟨rfl, .tuple #[], _, hs0, (.c (.c (.c .r))), hs, trivial⟩
   clear hs w a; intro a w vs70 hs hf
   replace hs : St _ _ _ _ [blk g58 [.int .i64 (o.id), .int .i64 (o.p0), .int .i64 (o.p1), .int .i64 (o.p2), .int .i64 (o.v0), .int .i64 (o.v1), .int .i64 (o.v2), .int .u16 ((((o.a).toNat : Nat) : Int)), .int .u8 ((((o.g).toNat : Nat) : Int))] 73, blk g55 [.int .i64 ((rl.getD k default).k), .int .i64 ((rl.getD k default).id), .int .i64 ((rl.getD k default).p0), .int .i64 ((rl.getD k default).p1), .int .i64 ((rl.getD k default).p2), .int .i64 ((rl.getD k default).v0), .int .i64 ((rl.getD k default).v1), .int .i64 ((rl.getD k default).v2), .int .u16 (((((rl.getD k default).a).toNat : Nat) : Int))] 78, blk g5 [.int .i64 (0), .int .i64 (0), .slice none 0 0] 24, blk g4 [.int .i64 (gt), .int .i64 (gtm), .int .i64 (gb), gu] 29, mpr g9 (ekv (eput (((entApply o (rl.getD k default)).1)) mm))] _ _ := hs
   clear hf
   refine in_n ?_
   refine in_n ?_
   refine then_n (hK52 _ _ ?_)
   refine wp_region_lit ?_
   refine st_addR hs rfl rfl (by omega) rfl ?_; clear hs w a; intro a w hs
   refine st_mv hs rfl rfl ?_; clear hs w a; intro a w hs
   refine wpList_nil ?_
   refine then_n ?_
   replace hs := hs.drop (.c (.s .z) (.c .z .n))
   replace hs := hs.reorder (.c (.s (.s .z)) (.c .z (.c .z .n)))
   refine ⟨_, ?_, k + 1, eput (((entApply o (rl.getD k default)).1)) mm, rfl, hs.sub (.c rfl (.c rfl (.c rfl (.c rfl (.c rfl (.c rfl (.c rfl .n))))))), by omega, pInv_next (by omega) hI1_1 (pStep_upd ho hk0 (by assumption))⟩
   omega
  replace hc50 := of_decide_eq_false hc50
  refine wp_exit ?_
  refine th_e ?_
  refine th_e ?_
  refine in_hit ?_
  refine then_n (hK43 _ _ ?_)
  refine wp_seq_k fun K71 hK72 => ?_
  refine wp_seq_k fun K73 hK74 => ?_
  refine wp_region_lit ?_
  refine st_mv hs rfl rfl ?_; clear hs w a; intro a w hs
  refine st_lenE hs rfl .z Tryz.underlying81 rfl ?_; clear hs w a; intro a w hs
  refine st_gtr hs rfl rfl rfl ?_; clear hs w a; intro a w hs
  refine wpList_nil ?_
  refine then_n (hK74 _ _ ?_)
  refine wp_if hs rfl (fun hc75 => ?_) (fun hc75 => ?_)
  ·
   replace hc75 := of_decide_eq_true hc75
   refine wp_seq_k fun K76 hK77 => ?_
   refine wp_region_lit ?_
   refine st_build (it := Tryz.t24) (zs := [.int .i64 (0), .int .i64 (0), .slice none 0 0]) (places := [(0, 1), (1, 1), (2, 1)]) hs .n Tryz.underlying24 rfl rfl rfl rfl .n rfl ?_; clear hs w a; intro a w hs
   refine st_stBA hs rfl rfl (.s .z) (.z (.c (.c (.c .n)))) (ones_c rfl (ones_c rfl (ones_c rfl ones_n))) Tryz.sizeOf24 rfl ?_; clear hs w a; intro a w hs
   refine st_as hs rfl rfl ?_; clear hs w a; intro a w hs
   refine wpList_nil ?_
   refine then_n (hK77 _ _ ?_)
   refine wp_ret ?_
   refine th_r ?_
   have hE : aE t tm l gt gtm gb rl = 4 := by first | exact aE_1 (by omega) | exact aE_2 (by omega) (by omega) (by omega) | exact aE_3 (by omega) (by omega) (by omega) (by omega) | (rw [aE_4 (by omega) hpre, ← hwas]; exact aM_none (apply_none hsw hbp.2 (pInv_err (by omega) hI1_1 (pStep_err (by assumption))))) | (rw [aE_4 (by omega) hpre, ← hwas]; obtain ⟨l3, q1, q2, q3⟩ := apply_some hsw hbp.2 (pInv_end (by omega) hI1_1); exact aM_full q1 (by rw [← q2.length_eq]; omega))
   have hS : aS t tm l gt gtm gb rl = ⟨0, 0, []⟩ := aS_e (by omega)
   replace hs := hs.addNil 73 9
   replace hs := hs.rerow .z (m' := (aS t tm l gt gtm gb rl).l.length) (xs' := ((aS t tm l gt gtm gb rl).l.flatMap entV)) (by rw [hS]; rfl) (by rw [hS]; rfl)
   exact finC2 hs rfl rfl rfl (.s .z) (.z (.c (.c (.c .n)))) Tryz.isAgg24 Tryz.sizeOf24 (.c (.s (.s (.s .z))) (.c (.s (.s .z)) (.c (.s .z) .n))) ⟨_, by rw [hE, hS] <;> rfl, rfl⟩
  replace hc75 := of_decide_eq_false hc75
  refine wp_skip ?_
  refine then_n (hK72 _ _ ?_)
  refine wp_seq_k fun K78 hK79 => ?_
  refine wp_region_lit ?_
  refine st_mv hs rfl rfl ?_; clear hs w a; intro a w hs
  refine st_call hs (.c rfl .n) Tryz.call39 .n (values_ok g9 _) rfl ?_; clear hs w a; rintro _ _ a w ⟨g80, rfl, rfl⟩ hs; simp only [List.cons_append, List.nil_append] at hs
  refine st_call hs (.c rfl (.c rfl .n)) Tryz.call38 (.c (.s .z) (.c .z .n)) (sortedf_ok g9 g80 mm _ (hs.mem.del (.s .z)) (hs.mem.del .z) (hs.mem.ndX (.c (.s .z) (.c .z .n))) (by omega)) rfl ?_; clear hs w a; rintro v81 _ a w ⟨l82, hp83, rfl⟩ hs; simp only [List.cons_append, List.nil_append] at hs
  have hk84 := hp83.1.length_eq
  refine st_as hs rfl rfl ?_; clear hs w a; intro a w hs
  refine wpList_nil ?_
  refine then_n (hK79 _ _ ?_)
  refine wp_seq_k fun K85 hK86 => ?_
  refine wp_region_lit ?_
  refine st_run 5 [(103, v81), (102, .int .i64 (gtm)), (100, .int .i64 (gt))] hs (.c (hs.mem.del (.s (.s (.s (.s .z))))) (.c (hs.mem.del (.s (.s (.s (.s .z))))) .n)) (by kernel_rfl) (by kernel_rfl) (by kernel_rfl) ?_; clear hs a; intro a hs
  refine st_build (it := Tryz.t24) (zs := [.int .i64 (0), .int .i64 (0), .slice none 0 0]) (places := [(0, 1), (1, 1), (2, 1)]) hs (.c rfl (.c rfl (.c rfl .n))) Tryz.underlying24 rfl rfl rfl rfl (.c rfl rfl (.z (.c .n)) (.c rfl rfl (.s (.z (.c .n))) (.c rfl (rd_row (hs.mem.del .z)).isSl.lcells (.s (.s (.z (.c .n)))) .n))) rfl ?_; clear hs w a; intro a w hs
  refine st_stBA hs rfl rfl (.s (.s (.s .z))) (.z (.c (.c (.c .n)))) (ones_c rfl (ones_c rfl (ones_c (rd_row (hs.mem.del .z)).isSl.one ones_n))) Tryz.sizeOf24 rfl ?_; clear hs w a; intro a w hs
  refine st_as hs rfl rfl ?_; clear hs w a; intro a w hs
  refine wpList_nil ?_
  refine then_n (hK86 _ _ ?_)
  refine wp_ret ?_
  obtain ⟨l3, q1, q2, q3⟩ := apply_some hsw hbp.2 (pInv_end (by omega) hI1_1)
  have q4 : l82 = l3 := srt_same (hp83.1.trans q2) hp83.2 q3
  have q5 := q2.length_eq
  have hE : aE t tm l gt gtm gb rl = 0 := by rw [aE_4 (by omega) hpre, ← hwas]; exact aM_ok q1 (by omega)
  have hS : aS t tm l gt gtm gb rl = ⟨gt, gtm, l82⟩ := by rw [aS_0 hE, ← hwas, q1, q4]; rfl
  replace hs := hs.rerow (.s .z) (m' := (aS t tm l gt gtm gb rl).l.length) (xs' := ((aS t tm l gt gtm gb rl).l.flatMap entV)) (by rw [hS]) (by rw [hS])
  exact finC2 hs rfl rfl rfl (.s .z) (.z (.c (.c (.c .n)))) Tryz.isAgg24 Tryz.sizeOf24 (.c (.s (.s (.s (.s .z)))) (.c (.s (.s (.s .z))) (.c (.s (.s .z)) (.c (.s .z) .n)))) ⟨_, by rw [hE, hS] <;> rfl, rfl⟩
end Go.Proofs.YtbioemaipghagaaGreat
