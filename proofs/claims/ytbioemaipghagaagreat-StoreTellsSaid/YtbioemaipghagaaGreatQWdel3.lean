/- Walks of applying: what each function does, over the program of this seat. Printed by a program of this session. -/
import Derived.Test.YtbioemaipghagaaGreatQWdel
import Derived.Test.YtbioemaipghagaaGreatQSxBasB
namespace Go.Proofs.YtbioemaipghagaaGreat
open Go Go.Sx Go.RowKit
set_option linter.unusedVariables false
set_option linter.unusedSimpArgs false
set_option maxRecDepth 4000
set_option maxHeartbeats 1000000

theorem dapply_ok (t tm : Int) (u : Value) (l : List EntR) (gt gtm gb : Int) (gu : Value) (rl : List RecR) (w0 : World) (ht_ : -9223372036854775808 ≤ t ∧ t ≤ 9223372036854775807) (htm_ : -9223372036854775808 ≤ tm ∧ tm ≤ 9223372036854775807) (hgt_ : -9223372036854775808 ≤ gt ∧ gt ≤ 9223372036854775807) (hgtm_ : -9223372036854775808 ≤ gtm ∧ gtm ≤ 9223372036854775807) (hgb_ : -9223372036854775808 ≤ gb ∧ gb ≤ 9223372036854775807) (hc : Rd w0 [] u 9 l.length (l.flatMap entV)) (hcg : Rd w0 [] gu 9 rl.length (rl.flatMap recV)) (hw : ∀ x ∈ rl, x.wf) : Calls Tryz.prog 14 #[.agg #[.int .i64 (t), .int .i64 (tm), u], .agg #[.int .i64 (gt), .int .i64 (gtm), .int .i64 (gb), gu]] w0 (Ret w0 [] fun x N => ∃ v, x = .tuple #[.agg #[.int .i64 ((aS t tm l gt gtm gb rl).t), .int .i64 ((aS t tm l gt gtm gb rl).tm), v], .int .i64 ((aE t tm l gt gtm gb rl : Nat) : Int)] ∧ N = [row v 73 9 (aS t tm l gt gtm gb rl).l.length ((aS t tm l gt gtm gb rl).l.flatMap entV)]) := by
 have hce := hc.le
 simp only [maxLen] at hce
 have hcge := hcg.le
 simp only [maxLen] at hcge
 refine enterG (F0 := [(0, .agg #[.int .i64 (t), .int .i64 (tm), u]), (1, .agg #[.int .i64 (gt), .int .i64 (gtm), .int .i64 (gb), gu])]) Tryz.func14 rfl rfl rfl (.c (.c .n)) (Mem.nil _) fun a w hs => ?_
 refine go 5 [0, 0, 1] [14, 4, 3, 2] hs .n (fun g1 => fun g2 => fun g3 => ⟨rfl, ?_⟩); clear hs w a; intro a w hs
 refine st_callP (v := .int .i64 (((bodyErr gt gtm gb rl : Nat) : Int))) hs (.c rfl .n) Tryz.call36 (gcheck_ok gt gtm gb _ rl _ (by omega) (by omega) (by omega) (hs.rd0 hcg) hw) rfl ?_; clear hs w a; intro a w hs
 refine goL 3 [] [17, 6, 4, 3, 2] hs .n ?_; clear hs w a; intro a w hs
 refine ifG hs rfl (fun c_4 => ?_) (fun c_4 => ?_)
 ·
  replace c_4 := not_t c_4
  replace c_4 := ne_of_beq_f c_4
  refine go 4 [0] [5, 4] hs (.c .z .n) ⟨rfl, ?_⟩; clear hs w a; intro a w hs
  have hE : aE t tm l gt gtm gb rl = bodyErr gt gtm gb rl := by first | exact aE_1 (by omega) | exact aE_2 (by omega) (by omega) (by omega) | exact aE_3 (by omega) (by omega) (by omega) (by omega) | (rw [aE_4 (by omega) hpre, ← hwas]; exact aM_none (apply_none hsw hbp.2 (pInv_err (by omega) hI1_1 (pStep_err (by assumption))))) | (rw [aE_4 (by omega) hpre, ← hwas]; obtain ⟨l3, q1, q2, q3⟩ := apply_some hsw hbp.2 (pInv_end (by omega) hI1_1); exact aM_full q1 (by rw [← q2.length_eq]; omega))
  have hS : aS t tm l gt gtm gb rl = ⟨0, 0, []⟩ := aS_e (by omega)
  replace hs := hs.addNil 73 9
  replace hs := hs.rerow .z (m' := (aS t tm l gt gtm gb rl).l.length) (xs' := ((aS t tm l gt gtm gb rl).l.flatMap entV)) (by rw [hS]; rfl) (by rw [hS]; rfl)
  exact finC2 hs rfl rfl rfl (.s .z) (.z (.c (.c (.c .n)))) Tryz.isAgg24 Tryz.sizeOf24 (.c (.s (.s (.s .z))) (.c (.s (.s .z)) (.c (.s .z) .n))) ⟨_, by rw [hE, hS] <;> rfl, rfl⟩
 replace c_4 := not_f c_4
 replace c_4 := eq_of_beq c_4
 refine go 0 [] [4, 3, 2] hs .n ?_; clear hs w a; intro a w hs
 refine st_mkE hs rfl ?_; clear hs w a; intro g5 a w hs
 refine goFL 11 4 [0] [23, 7, 4, 3, 2] hs (.c (.s (.s .z)) .n) ⟨rfl, ?_⟩; clear hs w a; intro a w hs
 refine cutG (fun a w => ∃ g9 : Nat, ∃ was : List EntR, St 105 [(3, .pointer (some ⟨g2, 0, none⟩)), (4, .pointer (some ⟨g3, 0, none⟩)), (7, .map (some g9))] w0 [] [mpr g9 (ekv was), blk g2 [.int .i64 (gt), .int .i64 (gtm), .int .i64 (gb), gu] 29, blk g3 [.int .i64 (0), .int .i64 (0), .slice none 0 0] 24] a w ∧ was = wasOf gb l ∧ (0 ≤ gb → snapErr t tm l = 0 ∧ t = gb)) ?_ ?_
 ·
  refine ifG hs rfl (fun c_6 => ?_) (fun c_6 => ?_)
  ·
   replace c_6 := of_decide_eq_true c_6
   refine go 1 [0] [24, 4, 3, 2] hs (.c (.s (.s (.s .z))) .n) ⟨rfl, ?_⟩; clear hs w a; intro a w hs
   refine st_callP (v := .int .i64 (((snapErr t tm l : Nat) : Int))) hs (.c rfl .n) Tryz.call16 (scheck_ok t tm _ l _ (by omega) (by omega) (hs.rd0 hc)) rfl ?_; clear hs w a; intro a w hs
   refine goL 3 [] [27, 8, 4, 3, 2] hs .n ?_; clear hs w a; intro a w hs
   refine ifG hs rfl (fun c_7 => ?_) (fun c_7 => ?_)
   ·
    replace c_7 := not_t c_7
    replace c_7 := ne_of_beq_f c_7
    refine go 4 [0] [5, 4] hs (.c (.s (.s (.s .z))) .n) ⟨rfl, ?_⟩; clear hs w a; intro a w hs
    have hE : aE t tm l gt gtm gb rl = snapErr t tm l := by first | exact aE_1 (by omega) | exact aE_2 (by omega) (by omega) (by omega) | exact aE_3 (by omega) (by omega) (by omega) (by omega) | (rw [aE_4 (by omega) hpre, ← hwas]; exact aM_none (apply_none hsw hbp.2 (pInv_err (by omega) hI1_1 (pStep_err (by assumption))))) | (rw [aE_4 (by omega) hpre, ← hwas]; obtain ⟨l3, q1, q2, q3⟩ := apply_some hsw hbp.2 (pInv_end (by omega) hI1_1); exact aM_full q1 (by rw [← q2.length_eq]; omega))
    have hS : aS t tm l gt gtm gb rl = ⟨0, 0, []⟩ := aS_e (by omega)
    replace hs := hs.addNil 73 9
    replace hs := hs.rerow .z (m' := (aS t tm l gt gtm gb rl).l.length) (xs' := ((aS t tm l gt gtm gb rl).l.flatMap entV)) (by rw [hS]; rfl) (by rw [hS]; rfl)
    exact finC2 hs rfl rfl rfl (.s .z) (.z (.c (.c (.c .n)))) Tryz.isAgg24 Tryz.sizeOf24 (.c (.s (.s (.s (.s .z)))) (.c (.s (.s (.s .z))) (.c (.s (.s .z)) (.c (.s .z) .n)))) ⟨_, by rw [hE, hS] <;> rfl, rfl⟩
   replace c_7 := not_f c_7
   replace c_7 := eq_of_beq c_7
   refine go 5 [0, 1] [34, 4, 3, 2] hs (.c .z (.c .z .n)) ⟨rfl, rfl, ?_⟩; clear hs w a; intro a w hs
   refine ifG hs rfl (fun c_8 => ?_) (fun c_8 => ?_)
   ·
    replace c_8 := not_t c_8
    replace c_8 := ne_of_beq_f c_8
    refine go 3 [0] [5, 4] hs (.c (.s (.s (.s .z))) .n) ⟨rfl, ?_⟩; clear hs w a; intro a w hs
    have hE : aE t tm l gt gtm gb rl = 14 := by first | exact aE_1 (by omega) | exact aE_2 (by omega) (by omega) (by omega) | exact aE_3 (by omega) (by omega) (by omega) (by omega) | (rw [aE_4 (by omega) hpre, ← hwas]; exact aM_none (apply_none hsw hbp.2 (pInv_err (by omega) hI1_1 (pStep_err (by assumption))))) | (rw [aE_4 (by omega) hpre, ← hwas]; obtain ⟨l3, q1, q2, q3⟩ := apply_some hsw hbp.2 (pInv_end (by omega) hI1_1); exact aM_full q1 (by rw [← q2.length_eq]; omega))
    have hS : aS t tm l gt gtm gb rl = ⟨0, 0, []⟩ := aS_e (by omega)
    replace hs := hs.addNil 73 9
    replace hs := hs.rerow .z (m' := (aS t tm l gt gtm gb rl).l.length) (xs' := ((aS t tm l gt gtm gb rl).l.flatMap entV)) (by rw [hS]; rfl) (by rw [hS]; rfl)
    exact finC2 hs rfl rfl rfl (.s .z) (.z (.c (.c (.c .n)))) Tryz.isAgg24 Tryz.sizeOf24 (.c (.s (.s (.s (.s .z)))) (.c (.s (.s (.s .z))) (.c (.s (.s .z)) (.c (.s .z) .n)))) ⟨_, by rw [hE, hS] <;> rfl, rfl⟩
   replace c_8 := not_f c_8
   replace c_8 := eq_of_beq c_8
   have hsrt := ents_srt (snapErr_parts (by omega : snapErr t tm l = 0)).2.2.2.2.2
   refine go 2 [0] [37, 4, 3] hs (.c .z .n) ⟨rfl, ?_⟩; clear hs w a; intro a w hs
   refine st_call hs (.c rfl .n) Tryz.call35 .n (byId_ok _ l _ (hs.rd0 hc) (by assumption)) rfl ?_; clear hs w a; rintro _ _ a w ⟨g9, rfl, rfl⟩ hs; simp only [List.cons_append, List.nil_append] at hs
   refine goL 1 [] [7, 4, 3] hs .n ?_; clear hs w a; intro a w hs
   replace hs := hs.drop (.c (.s (.s (.s .z))) (.c (.s .z) .n))
   exact ⟨g9, l, hs.sub (.c rfl (.c rfl (.c rfl .n))), by unfold wasOf; first | rw [if_pos (by omega)] | rw [if_neg (by omega)], by omega⟩
  replace c_6 := of_decide_eq_false c_6
  refine go 0 [] [7, 4, 3] hs .n ?_; clear hs w a; intro a w hs
  replace hs := hs.drop (.c (.s (.s (.s .z))) .n)
  replace hs := hs.reorder (.c (.s .z) (.c .z (.c .z .n)))
  exact ⟨g5, [], hs.sub (.c rfl (.c rfl (.c rfl .n))), by unfold wasOf; first | rw [if_pos (by omega)] | rw [if_neg (by omega)], by omega⟩
 clear hs w a; rintro a w ⟨g9, was, hs, hJ10, hJ11⟩
 have hwas := hJ10
 have hpre := hJ11
 have hsw : Srt was := hwas ▸ wasOf_srt hpre
 have hbp := bodyErr_parts (by omega : bodyErr gt gtm gb rl = 0)
 refine go 2 [0] [40, 3, 4, 7] hs (.c (.s .z) .n) ⟨rfl, ?_⟩; clear hs w a; intro a w hs
 refine st_len hs rfl (hs.rd0 hcg).isSl Tryz.underlying27 rfl ?_; clear hs w a; intro a w hs
 refine goL 1 [] [42, 41, 40, 3, 4, 7] hs .n ?_; clear hs w a; intro a w hs
 replace hs := hs.reorder (.c (.s .z) (.c .z (.c .z .n)))
 refine loopG (fun mm_ a w => ∃ k : Nat, ∃ mm : List EntR, mm_ = rl.length - k ∧ St 105 [(3, .pointer (some ⟨g2, 0, none⟩)), (4, .pointer (some ⟨g3, 0, none⟩)), (7, .map (some g9)), (40, gu), (41, .int .i64 (((rl.length : Nat) : Int))), (42, .int .i64 ((k : Int)))] w0 [] [mpr g9 (ekv mm), blk g2 [.int .i64 (gt), .int .i64 (gtm), .int .i64 (gb), gu] 29, blk g3 [.int .i64 (0), .int .i64 (0), .slice none 0 0] 24] a w ∧ k ≤ rl.length ∧ (pFold was rl = pFold mm (rl.drop k))) ⟨0, was, rfl, hs.sub (.c rfl (.c rfl (.c rfl (.c rfl (.c rfl (.c rfl .n)))))), by omega, rfl⟩ ?_
 clear hs w a; rintro mm_ a w ⟨k, mm, rfl, hs, hI1_0, hI1_1⟩
 refine go 1 [] [43, 3, 4, 7, 40, 41, 42] hs .n ?_; clear hs w a; intro a w hs
 refine ifG hs rfl (fun c_12 => ?_) (fun c_12 => ?_)
 ·
  replace c_12 := of_decide_eq_true c_12
  refine go 0 [] [3, 4, 7, 40, 41, 42] hs .n ?_; clear hs w a; intro a w hs
  refine st_ia (j := k) hs rfl rfl (hs.rd0 hcg) rfl (by omega) Tryz.underlying27 Tryz.sizeOf78 rfl ?_; clear hs w a; intro a w hs
  refine st_ldA (cs := recV (rl.getD k default)) hs rfl (hs.rd0 hcg) (flat_get recV_len rl k (by omega)) (by rw [flat_len recV_len]; omega) (by omega) Tryz.isAgg78 Tryz.sizeOf78 rfl ?_; clear hs w a; intro a w hs
  refine goL 5 [0, 0] [49, 47, 10, 3, 4, 7, 40, 41, 42] hs .n (fun g13 => ⟨rfl, rfl, ?_⟩); clear hs w a; intro a w hs
  refine st_lookE hs rfl rfl (.s .z) Tryz.underlying81 Tryz.underlying3 Tryz.zeroValue73 rfl ?_; clear hs w a; intro a w hs
  refine goL 12 [0, 1] [62, 12, 11, 10, 3, 4, 7, 40, 41, 42] hs (.c .z .n) (fun g14 => ⟨rfl, rfl, ?_⟩); clear hs w a; intro a w hs
  refine ifG hs rfl (fun c_15 => ?_) (fun c_15 => ?_)
  ·
   refine go 3 [0] [5, 4] hs (.c (.s (.s (.s (.s .z)))) .n) ⟨rfl, ?_⟩; clear hs w a; intro a w hs
   have hE : aE t tm l gt gtm gb rl = 15 := by first | exact aE_1 (by omega) | exact aE_2 (by omega) (by omega) (by omega) | exact aE_3 (by omega) (by omega) (by omega) (by omega) | (rw [aE_4 (by omega) hpre, ← hwas]; exact aM_none (apply_none hsw hbp.2 (pInv_err (by omega) hI1_1 (pStep_err (by assumption))))) | (rw [aE_4 (by omega) hpre, ← hwas]; obtain ⟨l3, q1, q2, q3⟩ := apply_some hsw hbp.2 (pInv_end (by omega) hI1_1); exact aM_full q1 (by rw [← q2.length_eq]; omega))
   have hS : aS t tm l gt gtm gb rl = ⟨0, 0, []⟩ := aS_e (by omega)
   replace hs := hs.addNil 73 9
   replace hs := hs.rerow .z (m' := (aS t tm l gt gtm gb rl).l.length) (xs' := ((aS t tm l gt gtm gb rl).l.flatMap entV)) (by rw [hS]; rfl) (by rw [hS]; rfl)
   exact finC2 hs rfl rfl rfl (.s .z) (.z (.c (.c (.c .n)))) Tryz.isAgg24 Tryz.sizeOf24 (.c (.s (.s (.s (.s (.s .z))))) (.c (.s (.s (.s (.s .z)))) (.c (.s (.s (.s .z))) (.c (.s (.s .z)) (.c (.s .z) .n))))) ⟨_, by rw [hE, hS] <;> rfl, rfl⟩
  refine go 3 [] [69, 11, 10, 3, 4, 7, 40, 41, 42] hs .n ?_; clear hs w a; intro a w hs
  refine ifG hs rfl (fun c_16 => ?_) (fun c_16 => ?_)
  ·
   replace c_16 := not_t c_16
   refine go 12 [0, 0, 0, 0, 0] [83, 74, 72, 3, 4, 7, 40, 41, 42] hs (.c (.s .z) .n) ⟨rfl, rfl, rfl, rfl, rfl, ?_⟩; clear hs w a; intro a w hs
   refine st_updE (u := (⟨(rl.getD k default).id, (rl.getD k default).p0, (rl.getD k default).p1, (rl.getD k default).p2, (rl.getD k default).v0, (rl.getD k default).v1, (rl.getD k default).v2, (rl.getD k default).a, 0#8⟩ : EntR)) hs rfl rfl rfl (.s (.s .z)) (by first | rfl | exact hku) Tryz.underlying81 Tryz.underlying3 ?_; clear hs w a; intro a w hs
   refine goL 2 [] [42, 3, 4, 7, 40, 41] hs .n ⟨(by omega), ?_⟩; clear hs w a; intro a w hs
   replace hs := hs.drop (.c (.s (.s .z)) (.c (.s .z) .n))
   refine ⟨_, ?_, k + 1, eput ((⟨(rl.getD k default).id, (rl.getD k default).p0, (rl.getD k default).p1, (rl.getD k default).p2, (rl.getD k default).v0, (rl.getD k default).v1, (rl.getD k default).v2, (rl.getD k default).a, 0#8⟩ : EntR)) mm, rfl, hs.sub (.c rfl (.c rfl (.c rfl (.c rfl (.c rfl (.c rfl .n)))))), by omega, pInv_next (by omega) hI1_1 (pStep_new (by assumption : ((eget ((rl.getD k default).id) mm).isSome == (((rl.getD k default).k : Int) == 0)) = false) (by assumption))⟩
   omega
  replace c_16 := not_f c_16
  obtain ⟨o, ho⟩ := isSome_t (by assumption : (eget ((rl.getD k default).id) mm).isSome = true)
  have hk0 := pStep_k (by assumption : ((eget ((rl.getD k default).id) mm).isSome == (((rl.getD k default).k : Int) == 0)) = false) ho
  rw [ho] at hs
  refine go 4 [0] [84, 11, 10, 3, 4, 7, 40, 41, 42] hs (.c (.s .z) .n) ⟨rfl, ?_⟩; clear hs w a; intro a w hs
  refine ifG hs rfl (fun c_17 => ?_) (fun c_17 => ?_)
  ·
   replace c_17 := eq_of_beq c_17
   refine go 3 [0] [90, 88, 3, 4, 7, 40, 41, 42] hs (.c .z .n) ⟨rfl, ?_⟩; clear hs w a; intro a w hs
   refine st_delE hs rfl rfl (.s (.s .z)) Tryz.underlying81 Tryz.underlying3 rfl ?_; clear hs w a; intro a w hs
   refine goL 2 [] [42, 3, 4, 7, 40, 41] hs .n ⟨(by omega), ?_⟩; clear hs w a; intro a w hs
   replace hs := hs.drop (.c (.s (.s .z)) (.c (.s .z) .n))
   refine ⟨_, ?_, k + 1, edel ((rl.getD k default).id) mm, rfl, hs.sub (.c rfl (.c rfl (.c rfl (.c rfl (.c rfl (.c rfl .n)))))), by omega, pInv_next (by omega) hI1_1 (pStep_del ho (by assumption))⟩
   omega
  replace c_17 := ne_of_beq_f c_17
  have hku := upd_id hbp.2 (by omega) ho hk0 (by assumption)
  refine wp_drawS [.p [] [], .p [] [], .p [1] [0], .p [] [1], .p [] [0], .v [4, 3] (.tuple #[.agg #[.int .i64 (((entApply o (rl.getD k default)).1).id), .int .i64 (((entApply o (rl.getD k default)).1).p0), .int .i64 (((entApply o (rl.getD k default)).1).p1), .int .i64 (((entApply o (rl.getD k default)).1).p2), .int .i64 (((entApply o (rl.getD k default)).1).v0), .int .i64 (((entApply o (rl.getD k default)).1).v1), .int .i64 (((entApply o (rl.getD k default)).1).v2), .int .u16 ((((((entApply o (rl.getD k default)).1).a).toNat : Nat) : Int)), .int .u8 ((((((entApply o (rl.getD k default)).1).g).toNat : Nat) : Int))], .int .i64 ((((entApply o (rl.getD k default)).2 : Nat) : Int))]), .p [5] [], .p [6] [], .p [6] [], .x [7, 2, 0] ⟨[mpr g9 (ekv mm)], [], [], fun vs18 => True, fun vs18 => [mpr g9 (ekv (eput (((entApply o (rl.getD k default)).1)) mm))], none⟩] [] hs (.c (.s (.s .z)) .n) (.c .z (.c .z .n)) (by kernel_rfl) ⟨rfl, rfl, rfl, ?_, ⟨rfl, by kernel_rfl, fun _ => rfl⟩, ⟨?_, trivial⟩, ?_⟩
  ·
   intro a_ w_ R_ Q_ hm hs K_
   refine st_callP (v := .tuple #[.agg #[.int .i64 (((entApply o (rl.getD k default)).1).id), .int .i64 (((entApply o (rl.getD k default)).1).p0), .int .i64 (((entApply o (rl.getD k default)).1).p1), .int .i64 (((entApply o (rl.getD k default)).1).p2), .int .i64 (((entApply o (rl.getD k default)).1).v0), .int .i64 (((entApply o (rl.getD k default)).1).v1), .int .i64 (((entApply o (rl.getD k default)).1).v2), .int .u16 ((((((entApply o (rl.getD k default)).1).a).toNat : Nat) : Int)), .int .u8 ((((((entApply o (rl.getD k default)).1).g).toNat : Nat) : Int))], .int .i64 ((((entApply o (rl.getD k default)).2 : Nat) : Int))]) hs (.c rfl (.c rfl .n)) Tryz.call37 (apply_ok o (rl.getD k default) _) rfl ?_; clear hs; intro a w hs
   exact wpList_nil (K_ _ _ hs)
  ·
   intro a_ w_ R_ rest_ vs18 hm hs ht hx
   have hs0 := hs.bare
   refine st_updE (u := ((entApply o (rl.getD k default)).1)) hs rfl rfl rfl .z (by first | rfl | exact hku) Tryz.underlying81 Tryz.underlying3 ?_; clear hs; intro a w hs
   exact wpList_nil ⟨rfl, .tuple #[], _, hs0, (.c (.c (.c .r))), hs, trivial⟩
  clear hs w a; intro vs18 a w hs hf
  clear hf
  refine goE 2 [] [42, 3, 4, 7, 40, 41] hs .n ⟨(by omega), ?_⟩; clear hs w a; intro a w hs
  replace hs := hs.drop (.c (.s .z) (.c .z .n))
  replace hs := hs.reorder (.c (.s (.s .z)) (.c .z (.c .z .n)))
  refine ⟨_, ?_, k + 1, eput (((entApply o (rl.getD k default)).1)) mm, rfl, hs.sub (.c rfl (.c rfl (.c rfl (.c rfl (.c rfl (.c rfl .n)))))), by omega, pInv_next (by omega) hI1_1 (pStep_upd ho hk0 (by assumption))⟩
  omega
 replace c_12 := of_decide_eq_false c_12
 refine go 1 [] [92, 3, 4, 7] hs .n ?_; clear hs w a; intro a w hs
 refine st_lenE hs rfl .z Tryz.underlying81 rfl ?_; clear hs w a; intro a w hs
 refine goL 1 [] [94, 3, 4, 7] hs .n ?_; clear hs w a; intro a w hs
 refine ifG hs rfl (fun c_19 => ?_) (fun c_19 => ?_)
 ·
  replace c_19 := of_decide_eq_true c_19
  refine go 3 [0] [5, 4] hs (.c (.s (.s .z)) .n) ⟨rfl, ?_⟩; clear hs w a; intro a w hs
  have hE : aE t tm l gt gtm gb rl = 4 := by first | exact aE_1 (by omega) | exact aE_2 (by omega) (by omega) (by omega) | exact aE_3 (by omega) (by omega) (by omega) (by omega) | (rw [aE_4 (by omega) hpre, ← hwas]; exact aM_none (apply_none hsw hbp.2 (pInv_err (by omega) hI1_1 (pStep_err (by assumption))))) | (rw [aE_4 (by omega) hpre, ← hwas]; obtain ⟨l3, q1, q2, q3⟩ := apply_some hsw hbp.2 (pInv_end (by omega) hI1_1); exact aM_full q1 (by rw [← q2.length_eq]; omega))
  have hS : aS t tm l gt gtm gb rl = ⟨0, 0, []⟩ := aS_e (by omega)
  replace hs := hs.addNil 73 9
  replace hs := hs.rerow .z (m' := (aS t tm l gt gtm gb rl).l.length) (xs' := ((aS t tm l gt gtm gb rl).l.flatMap entV)) (by rw [hS]; rfl) (by rw [hS]; rfl)
  exact finC2 hs rfl rfl rfl (.s .z) (.z (.c (.c (.c .n)))) Tryz.isAgg24 Tryz.sizeOf24 (.c (.s (.s (.s .z))) (.c (.s (.s .z)) (.c (.s .z) .n))) ⟨_, by rw [hE, hS] <;> rfl, rfl⟩
 replace c_19 := of_decide_eq_false c_19
 refine go 1 [] [96, 3, 4] hs .n ?_; clear hs w a; intro a w hs
 refine st_call hs (.c rfl .n) Tryz.call39 .n (values_ok g9 _) rfl ?_; clear hs w a; rintro _ _ a w ⟨g20, rfl, rfl⟩ hs; simp only [List.cons_append, List.nil_append] at hs
 refine st_call hs (.c rfl (.c rfl .n)) Tryz.call38 (.c (.s .z) (.c .z .n)) (sortedf_ok g9 g20 mm _ (hs.mem.del (.s .z)) (hs.mem.del .z) (hs.mem.ndX (.c (.s .z) (.c .z .n))) (by omega)) rfl ?_; clear hs w a; rintro v21 _ a w ⟨l22, hp23, rfl⟩ hs; simp only [List.cons_append, List.nil_append] at hs
 have hk24 := hp23.1.length_eq
 refine goL 6 [0, 0] [103, 102, 100, 4] hs (.c (.s (.s (.s .z))) .n) ⟨rfl, rfl, ?_⟩; clear hs w a; intro a w hs
 refine st_build (it := Tryz.t24) (zs := [.int .i64 (0), .int .i64 (0), .slice none 0 0]) (places := [(0, 1), (1, 1), (2, 1)]) hs (.c rfl (.c rfl (.c rfl .n))) Tryz.underlying24 rfl rfl rfl rfl (.c rfl rfl (.z (.c .n)) (.c rfl rfl (.s (.z (.c .n))) (.c rfl (rd_row (hs.mem.del (.s .z))).isSl.lcells (.s (.s (.z (.c .n)))) .n))) rfl ?_; clear hs w a; intro a w hs
 refine st_stBA hs rfl rfl (.s (.s (.s (.s .z)))) (.z (.c (.c (.c .n)))) (ones_c rfl (ones_c rfl (ones_c (rd_row (hs.mem.del (.s .z))).isSl.one ones_n))) Tryz.sizeOf24 rfl ?_; clear hs w a; intro a w hs
 refine goL 1 [] [5, 4] hs .n ?_; clear hs w a; intro a w hs
 obtain ⟨l3, q1, q2, q3⟩ := apply_some hsw hbp.2 (pInv_end (by omega) hI1_1)
 have q4 : l22 = l3 := srt_same (hp23.1.trans q2) hp23.2 q3
 have q5 := q2.length_eq
 have hE : aE t tm l gt gtm gb rl = 0 := by rw [aE_4 (by omega) hpre, ← hwas]; exact aM_ok q1 (by omega)
 have hS : aS t tm l gt gtm gb rl = ⟨gt, gtm, l22⟩ := by rw [aS_0 hE, ← hwas, q1, q4]; rfl
 replace hs := hs.rerow (.s (.s .z)) (m' := (aS t tm l gt gtm gb rl).l.length) (xs' := ((aS t tm l gt gtm gb rl).l.flatMap entV)) (by rw [hS]) (by rw [hS])
 exact finC2 hs rfl rfl rfl (.s .z) (.z (.c (.c (.c .n)))) Tryz.isAgg24 Tryz.sizeOf24 (.c (.s (.s (.s (.s .z)))) (.c (.s (.s (.s .z))) (.c (.s (.s .z)) (.c (.s .z) .n)))) ⟨_, by rw [hE, hS] <;> rfl, rfl⟩
end Go.Proofs.YtbioemaipghagaaGreat
