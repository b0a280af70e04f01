/- Walks of the document's Wdelm3: what each function does, over the program of this seat. Printed by a program of this session. -/
import Derived.Test.YtbacobmcfelmkaaGreatQWdelm
import Derived.Test.YtbacobmcfelmkaaGreatQWrec4m
import Derived.Test.YtbacobmcfelmkaaGreatQWgramm
import Derived.Test.YtbacobmcfelmkaaGreatQSxBasB
namespace Go.Proofs.YtbacobmcfelmkaaGreat
open Tryz
open Go Go.Sx Go.RowKit
set_option linter.unusedVariables false
set_option linter.unusedSimpArgs false
set_option maxRecDepth 4000
set_option maxHeartbeats 1000000

theorem zLu (t tm : Int) (u : Value) (l : List zAU) (gt gtm gb : Int) (gu : Value) (rl : List zAd) (w0 : World) (ht_ : -9223372036854775808 ≤ t ∧ t ≤ 9223372036854775807) (htm_ : -9223372036854775808 ≤ tm ∧ tm ≤ 9223372036854775807) (hgt_ : -9223372036854775808 ≤ gt ∧ gt ≤ 9223372036854775807) (hgtm_ : -9223372036854775808 ≤ gtm ∧ gtm ≤ 9223372036854775807) (hgb_ : -9223372036854775808 ≤ gb ∧ gb ≤ 9223372036854775807) (hc : Rd w0 [] u 9 l.length (l.flatMap zBQ)) (hcg : Rd w0 [] gu 9 rl.length (rl.flatMap zDG)) (hw : ∀ x ∈ rl, x.wf) : Calls Tryz.prog 36 #[.agg #[zI t, zI tm, u], .agg #[zI gt, zI gtm, zI gb, gu]] w0 (Ret w0 [] fun x N => ∃ v, x = .tuple #[.agg #[zI ((aS t tm l gt gtm gb rl).t), zI ((aS t tm l gt gtm gb rl).tm), v], nI (aE t tm l gt gtm gb rl)] ∧ N = [row v 72 9 (aS t tm l gt gtm gb rl).l.length ((aS t tm l gt gtm gb rl).l.flatMap zBQ)]) := by
 have hce := hc.le
 simp only [maxLen] at hce
 have hcge := hcg.le
 simp only [maxLen] at hcge
 refine zT (F0 := [(0, .agg #[zI t, zI tm, u]), (1, .agg #[zI gt, zI gtm, zI gb, gu])]) func36 rfl rfl rfl (.c (.c .n)) (Mem.nil _) ?_
 refine go 5 [0, 0, 1] [15, 4, 3, 2] .n (fun g1 => fun g2 => fun g3 => ⟨rfl, ?_⟩)
 intro a w hs; refine zH (v := nI (zAV gt gtm gb rl)) hs (.c rfl .n) call67 (zOX gt gtm gb _ rl _ (by omega) (by omega) (by omega) (hs.rd0 hcg) hw) rfl ?_
 refine goL 3 [] [18, 6, 4, 3, 2] .n ?_
 refine ifG rfl (fun c_4 => ?_) (fun c_4 => ?_)
 ·
  refine go 4 [0] [5, 4] (.c .z .n) ⟨rfl, ?_⟩
  have hE : aE t tm l gt gtm gb rl = zAV gt gtm gb rl := by first | exact zN8 (by omega) | exact zN7 (by omega) (by omega) (by omega) | exact zN4 (by omega) (by omega) (by omega) (by omega) | (rw [zJJ (by omega) hpre, ← hwas]; first | exact zDc (zFJ (by omega) hI2_2 (by omega)) | exact zDW (zED (by omega) hI1_2) (by rw [List.length_append, List.length_drop]; omega))
  have hS : aS t tm l gt gtm gb rl = ⟨0, 0, []⟩ := zN3 (by omega)
  refine cl (·.addNil 72 9) ?_
  intro a w hs; replace hs := hs.rerow .z (m' := (aS t tm l gt gtm gb rl).l.length) (xs' := ((aS t tm l gt gtm gb rl).l.flatMap zBQ)) (by rw [hS]; rfl) (by rw [hS]; rfl)
  exact zBV hs rfl rfl rfl (.s .z) (.z (.c (.c (.c .n)))) isAgg45 sizeOf45 (.c (.s (.s (.s .z))) (.c (.s (.s .z)) (.c (.s .z) .n))) ⟨_, by rw [hE, hS] <;> rfl, rfl⟩
 refine goF 26 11 [0, 0, 0, 1] [28, 8, 7, 4, 3, 2] (.c (.s .z) .n) ⟨rfl, rfl, fun g5 => ⟨rfl, rfl, ?_⟩⟩
 intro a w hs; refine zNK (fun a w => ∃ wu : Value, ∃ was : List zAU, St 150 [(3, pt g2 0), (4, pt g3 0), (7, pt g5 0), (8, wu)] w0 [] [blk g5 [zI gt, zI gtm, .slice none 0 0] 45, blk g2 [zI gt, zI gtm, zI gb, gu] 61, blk g3 [zI 0, zI 0, .slice none 0 0] 45] a w ∧ Rd w0 [] wu 9 was.length (was.flatMap zBQ) ∧ was = zEF gb l ∧ (0 ≤ gb → zAP t tm l = 0 ∧ t = gb)) ?_ ?_
 ·
  revert a w hs; refine ifG rfl (fun c_6 => ?_) (fun c_6 => ?_)
  ·
   refine go 1 [0] [29, 7, 4, 3, 2] (.c (.s (.s (.s .z))) .n) ⟨rfl, ?_⟩
   intro a w hs; refine zH (v := nI (zAP t tm l)) hs (.c rfl .n) call68 (zNF t tm _ l _ (by omega) (by omega) (hs.rd0 hc)) rfl ?_
   refine goL 3 [] [32, 6, 7, 4, 3, 2] .n ?_
   refine ifG rfl (fun c_7 => ?_) (fun c_7 => ?_)
   ·
    refine go 4 [0] [5, 4] (.c (.s (.s (.s .z))) .n) ⟨rfl, ?_⟩
    have hE : aE t tm l gt gtm gb rl = zAP t tm l := by first | exact zN8 (by omega) | exact zN7 (by omega) (by omega) (by omega) | exact zN4 (by omega) (by omega) (by omega) (by omega) | (rw [zJJ (by omega) hpre, ← hwas]; first | exact zDc (zFJ (by omega) hI2_2 (by omega)) | exact zDW (zED (by omega) hI1_2) (by rw [List.length_append, List.length_drop]; omega))
    have hS : aS t tm l gt gtm gb rl = ⟨0, 0, []⟩ := zN3 (by omega)
    refine cl (·.addNil 72 9) ?_
    intro a w hs; replace hs := hs.rerow .z (m' := (aS t tm l gt gtm gb rl).l.length) (xs' := ((aS t tm l gt gtm gb rl).l.flatMap zBQ)) (by rw [hS]; rfl) (by rw [hS]; rfl)
    exact zBV hs rfl rfl rfl (.s .z) (.z (.c (.c (.c .n)))) isAgg45 sizeOf45 (.c (.s (.s (.s (.s .z)))) (.c (.s (.s (.s .z))) (.c (.s (.s .z)) (.c (.s .z) .n)))) ⟨_, by rw [hE, hS] <;> rfl, rfl⟩
   refine go 5 [0, 1] [39, 7, 4, 3, 2] (.c .z (.c (.s .z) .n)) ⟨rfl, rfl, ?_⟩
   refine ifG rfl (fun c_8 => ?_) (fun c_8 => ?_)
   ·
    refine go 3 [0] [5, 4] (.c (.s (.s (.s .z))) .n) ⟨rfl, ?_⟩
    have hE : aE t tm l gt gtm gb rl = 14 := by first | exact zN8 (by omega) | exact zN7 (by omega) (by omega) (by omega) | exact zN4 (by omega) (by omega) (by omega) (by omega) | (rw [zJJ (by omega) hpre, ← hwas]; first | exact zDc (zFJ (by omega) hI2_2 (by omega)) | exact zDW (zED (by omega) hI1_2) (by rw [List.length_append, List.length_drop]; omega))
    have hS : aS t tm l gt gtm gb rl = ⟨0, 0, []⟩ := zN3 (by omega)
    refine cl (·.addNil 72 9) ?_
    intro a w hs; replace hs := hs.rerow .z (m' := (aS t tm l gt gtm gb rl).l.length) (xs' := ((aS t tm l gt gtm gb rl).l.flatMap zBQ)) (by rw [hS]; rfl) (by rw [hS]; rfl)
    exact zBV hs rfl rfl rfl (.s .z) (.z (.c (.c (.c .n)))) isAgg45 sizeOf45 (.c (.s (.s (.s (.s .z)))) (.c (.s (.s (.s .z))) (.c (.s (.s .z)) (.c (.s .z) .n)))) ⟨_, by rw [hE, hS] <;> rfl, rfl⟩
   refine go 3 [0] [8, 7, 4, 3] (.c .z .n) ⟨rfl, ?_⟩
   refine cl (·.drop (.c .z .n)) ?_
   refine cl (·.reorder (.c (.s .z) (.c .z (.c .z .n)))) ?_
   intro a w hs; exact ⟨u, l, hs.sub (.c rfl (.c rfl (.c rfl (.c rfl .n)))), hc, by unfold zEF; first | rw [if_pos (by omega)] | rw [if_neg (by omega)], by omega⟩
  refine go 0 [] [8, 7, 4, 3] .n ?_
  refine cl (·.drop (.c (.s (.s (.s .z))) .n)) ?_
  intro a w hs; exact ⟨.slice none 0 0, [], hs.sub (.c rfl (.c rfl (.c rfl (.c rfl .n)))), zIL w0 [] 9, by unfold zEF; first | rw [if_pos (by omega)] | rw [if_neg (by omega)], by omega⟩
 clear hs w a; rintro a w ⟨wu, was, hs, hJ9, hJ10, hJ11⟩
 have hwas := hJ10
 have hpre := hJ11
 have hbp := zDD (by omega : zAV gt gtm gb rl = 0)
 have hce2 := hJ9.le
 simp only [maxLen] at hce2
 have hgp := zE3 hbp.1
 have hwl : was.length ≤ 64 := by rw [hwas]; unfold zEF; split <;> first | exact (zC9 (hpre (by assumption)).1).2.2.2.2.1 | simp
 revert a w hs
 refine goF 4 1 [] [9, 3, 4, 7, 8] .n ?_
 refine go 1 [] [10, 9, 3, 4, 7, 8] .n ?_
 refine cl (·.addNil 72 9) ?_
 refine cl (·.rerow .z (m' := ([] : List zAU).length) (xs' := (([] : List zAU).flatMap zBQ)) (rfl) (rfl)) ?_
 intro a w hs; refine zCA (fun mm_ a w => ∃ k : Nat, ∃ i : Nat, ∃ q : Value, ∃ out : List zAU, mm_ = rl.length - k ∧ St 150 [(3, pt g2 0), (4, pt g3 0), (7, pt g5 0), (8, wu), (9, zI (i : Int)), (10, zI (k : Int))] w0 [] [row q 72 9 out.length (out.flatMap zBQ), blk g5 [zI gt, zI gtm, q] 45, blk g2 [zI gt, zI gtm, zI gb, gu] 61, blk g3 [zI 0, zI 0, .slice none 0 0] 45] a w ∧ k ≤ rl.length ∧ i ≤ was.length ∧ (apl was rl = (apl (was.drop i) (rl.drop k)).map (out ++ ·)) ∧ out.length ≤ i + k) ⟨0, 0, .slice none 0 0, [], rfl, hs.sub (.c rfl (.c rfl (.c rfl (.c rfl (.c rfl (.c rfl .n)))))), by omega, by omega, zQd _, Nat.le_refl _⟩ ?_
 clear hs w a; rintro mm_ a w ⟨k, i, q, out, rfl, hs, hI1_0, hI1_1, hI1_2, hI1_3⟩
 revert a w hs
 refine go 3 [0] [45, 43, 3, 4, 7, 8, 9, 10] (.c (.s (.s .z)) .n) ⟨rfl, ?_⟩
 intro a w hs; refine zAG hs rfl (hs.rd0 hcg).isSl underlying59 rfl ?_
 refine goL 1 [] [47, 3, 4, 7, 8, 9, 10] .n ?_
 refine ifG rfl (fun c_12 => ?_) (fun c_12 => ?_)
 ·
  refine go 3 [0] [52, 51, 3, 4, 7, 8, 9, 10] (.c .z .n) ⟨rfl, ?_⟩
  intro a w hs; refine zBj (j := k) hs rfl rfl (hs.rd0 hcg) rfl (by omega) underlying59 sizeOf112 rfl ?_
  intro a w hs; refine zCm (cs := zDG (rl.getD k default)) hs rfl (hs.rd0 hcg) (zBe zCX rl k (by omega)) (by rw [zBH zCX]; omega) (by omega) isAgg112 sizeOf112 rfl ?_
  refine goL 2 [0] [11, 3, 4, 7, 8, 9, 10] .n (fun g13 => ⟨rfl, ?_⟩)
  refine cl (·.reorder (.c .z (.c (.s .z) (.c (.s .z) (.c .z (.c .z .n)))))) ?_
  intro a w hs; refine zCA (fun mm_ a w => ∃ i2 : Nat, ∃ q2 : Value, ∃ out2 : List zAU, mm_ = was.length - i2 ∧ St 150 [(3, pt g2 0), (4, pt g3 0), (7, pt g5 0), (8, wu), (9, zI (i2 : Int)), (10, zI (k : Int)), (11, pt g13 0)] w0 [] [blk g13 [zI ((rl.getD k default).k), zI ((rl.getD k default).id), zI ((rl.getD k default).p0), zI ((rl.getD k default).p1), zI ((rl.getD k default).p2), zI ((rl.getD k default).v0), zI ((rl.getD k default).v1), zI ((rl.getD k default).v2), .int .u16 ((((rl.getD k default).a).toNat : Nat) : Int)] 112, row q2 72 9 out2.length (out2.flatMap zBQ), blk g5 [zI gt, zI gtm, q2] 45, blk g2 [zI gt, zI gtm, zI gb, gu] 61, blk g3 [zI 0, zI 0, .slice none 0 0] 45] a w ∧ i2 ≤ was.length ∧ True ∧ (apl was rl = (apl (was.drop i2) (rl.drop k)).map (out2 ++ ·)) ∧ out2.length ≤ i2 + k) ⟨i, q, out, rfl, hs.sub (.c rfl (.c rfl (.c rfl (.c rfl (.c rfl (.c rfl (.c rfl .n))))))), by omega, trivial, hI1_2, hI1_3⟩ ?_
  clear hs w a; rintro mm_ a w ⟨i2, q2, out2, rfl, hs, hI2_0, hI2_1, hI2_2, hI2_3⟩
  revert a w hs
  refine go 0 [] [3, 4, 7, 8, 9, 10, 11] .n ?_
  by_cases ci : i2 < was.length
  ·
   intro a w hs
   refine zS [.p [] [], .p [] [], .v [1] (nI was.length), .v [2, 0] (.bool (true)), .p [3] [], .p [4] [], .p [4] [], .v [6, 5, 4] (.pointer (some (adr wu (i2 * 9)))), .v [7, 4] (.pointer (some (adr wu (i2 * 9 + 0)))), .v [8, 4] (zI ((was.getD i2 default).id)), .p [4] [], .p [10, 4] [0], .p [11, 9, 4] [], .p [12, 4] []] [13] hs .n (.c .z .n) (by kernel_rfl) ⟨fun _ _ _ _ hm hs K => zAG hs rfl (hm.rd0 hJ9).isSl underlying43 rfl (vk K), fun _ _ _ _ hm hs K => zCT hs rfl rfl rfl (fun a w hs => wpList_nil (K _ _ (by rw [show (decide ((i2 : Int) < ((was.length : Nat) : Int))) = true from decide_eq_true (by omega)] at hs; exact hs))), fun _ _ _ _ hm hs K => zC hs rfl rfl rfl (zBj (j := i2) hs rfl rfl (hm.rd0 hJ9) rfl (by omega) underlying43 sizeOf72 rfl (vk K)), fun _ _ _ _ hm hs K => zC hs rfl rfl rfl (zBn hs rfl (hm.rd0 hJ9) (by omega) underlying72 rfl sizeOf3 (by decide) (o := i2 * 9 + 0) rfl rfl (vk K)), fun _ _ _ _ hm hs K => zC hs rfl rfl rfl (zA7 (u := zI ((was.getD i2 default).id)) hs rfl (hm.rd0 hJ9) ((zAf zBN was i2 0 (by omega) (by decide)).trans rfl) isAgg3 rfl (vk K)), rfl, ⟨rfl, by kernel_rfl, fun _ => rfl, rfl, rfl, trivial⟩, fun _ => rfl, ?_⟩
   refine goE 0 [] [68, 3, 4, 7, 8, 9, 10, 11] .n ?_
   refine ifG rfl (fun c_15 => ?_) (fun c_15 => ?_)
   ·
    refine go 0 [] [3, 4, 7, 8, 9, 10, 11] .n ?_
    intro a w hs
    refine zAx [.p [] [], .y [0] q2 [] [] [] fun vs16 => [], .p [] [], .p [] [], .v [3, 2] (.pointer (some (adr wu (i2 * 9)))), .v [4] (.agg #[zI ((was.getD i2 default).id), zI ((was.getD i2 default).p0), zI ((was.getD i2 default).p1), zI ((was.getD i2 default).p2), zI ((was.getD i2 default).v0), zI ((was.getD i2 default).v1), zI ((was.getD i2 default).v2), .int .u16 ((((was.getD i2 default).a).toNat : Nat) : Int), bI ((was.getD i2 default).g)]), .x [5] ⟨[], [], [], fun vs16 => vs16 6 = .slice (some ⟨(zCQ (vs16 6)), 0, none⟩) 1 1, fun vs16 => [blk (zCQ (vs16 6)) [zI ((was.getD i2 default).id), zI ((was.getD i2 default).p0), zI ((was.getD i2 default).p1), zI ((was.getD i2 default).p2), zI ((was.getD i2 default).v0), zI ((was.getD i2 default).v1), zI ((was.getD i2 default).v2), .int .u16 ((((was.getD i2 default).a).toNat : Nat) : Int), bI ((was.getD i2 default).g)] 72], none⟩, .x [1] ⟨[row q2 72 9 out2.length (out2.flatMap zBQ)], [], [], fun vs16 => True, fun vs16 => [row (vs16 7) 72 9 (out2.length + 1) ((out2.flatMap zBQ) ++ ([zI ((was.getD i2 default).id), zI ((was.getD i2 default).p0), zI ((was.getD i2 default).p1), zI ((was.getD i2 default).p2), zI ((was.getD i2 default).v0), zI ((was.getD i2 default).v1), zI ((was.getD i2 default).v2), .int .u16 ((((was.getD i2 default).a).toNat : Nat) : Int), bI ((was.getD i2 default).g)]))], none⟩, .p [] [], .x [8] ⟨[blk g5 [zI gt, zI gtm, q2] 45], [], [7], fun vs16 => True, fun vs16 => [blk g5 [zI gt, zI gtm, (vs16 7)] 45], none⟩] [] hs .n (.c (.s .z) (.c (.s .z) .n)) .n (by kernel_rfl) ⟨fun _ _ _ _ hm hs K => zBj (j := i2) hs rfl rfl (hm.rd0 hJ9) rfl (by omega) underlying43 sizeOf72 rfl (vk K), fun _ _ _ _ hm hs K => zCm (cs := zBQ (was.getD i2 default)) hs rfl (hm.rd0 hJ9) (zBe zBN was i2 (by omega)) (by rw [zBH zBN]; omega) (by omega) isAgg72 sizeOf72 rfl (vk K), ⟨(.c .z (.c .z .n)), by kernel_rfl, fun _ => rfl, rfl, rfl⟩, ⟨?_, ?_, ?_, ?_, trivial⟩, ?_⟩
    ·
     intro a_ w_ R_ rest_ vs16 hm hs ht hx
     have hs0 := hs.bare
     refine zAI hs rfl (hm.own (List.mem_append.2 (.inr ((hx 9 (zL 10 _ (by kernel_rfl))).1 _ (List.Mem.head _))))) (.s (.s .z)) isAgg43 rfl ?_; clear hs; intro a w hs
     exact wpList_nil ⟨rfl, _, _, hs0, (.c .r), hs, rfl⟩
    ·
     intro a_ w_ R_ rest_ vs16 hm hs ht hx
     have hs0 := hs.bare
     refine zFv (cs := [zI ((was.getD i2 default).id), zI ((was.getD i2 default).p0), zI ((was.getD i2 default).p1), zI ((was.getD i2 default).p2), zI ((was.getD i2 default).v0), zI ((was.getD i2 default).v1), zI ((was.getD i2 default).v2), .int .u16 ((((was.getD i2 default).a).toNat : Nat) : Int), bI ((was.getD i2 default).g)]) hs (.c .n) (.c rfl .n) underlying43 (ie := Tryz.t72) rfl rfl rfl rfl (by decide) (by decide) rfl (by decide) rfl rfl rfl ?_; clear hs; intro g17 a w hs
     exact wpList_nil ⟨rfl, _, _, hs0, (.c .r), hs, rfl⟩
    ·
     intro a_ w_ R_ rest_ vs16 hm hs ht hx
     have t6 := ht 6 (zL 10 _ (by kernel_rfl))
     have e6 : _ = some (vs16 6) := t6.val rfl
     rw [show vs16 6 = .slice (some ⟨(zCQ (vs16 6)), 0, none⟩) 1 1 from t6.2.1] at e6
     replace hs := hs.learn e6
     have hs0 := hs.bare
     refine zAj (size := 9) (bytes := 64) hs rfl rfl .z (zAa (m := 1) (size := 9) (hm.own (List.mem_append.2 (.inr ((ht 6 (zL 10 _ (by kernel_rfl))).2.2 (zFR (n := 10) (by kernel_rfl)) _ (List.Mem.head _))))) rfl (by decide)) (by simp [Value.oneCell']) underlying43 (i := Tryz.t72) rfl rfl rfl rfl rfl (by decide) (by omega) (by simp only [maxLen]; omega) rfl ?_; clear hs; intro v18 a w hs
     exact wpList_nil ⟨rfl, _, _, hs0, (.c (.c .r)), hs, trivial⟩
    ·
     intro a_ w_ R_ rest_ vs16 hm hs ht hx
     have t7 := ht 7 (zL 10 _ (by kernel_rfl))
     have e7 : _ = some (vs16 7) := t7.val rfl
     replace hs := hs.learn e7
     have hs0 := hs.bare
     refine zB4 hs rfl rfl .z (.s (.s .z)) (zM (hm.own (List.mem_append.2 (.inr ((ht 7 (zL 10 _ (by kernel_rfl))).2.2 (zFR (n := 10) (by kernel_rfl)) _ (List.Mem.head _)))))).isSl.one sizeOf43 ?_; clear hs; intro a w hs
     exact wpList_nil ⟨rfl, .tuple #[], _, hs0, (.c (.c .r)), hs, trivial⟩
    clear hs w a; intro vs16 a w hs hf
    generalize zCQ (vs16 6) = g19 at hs
    generalize vs16 7 = v20 at hs
    clear hf
    revert a w hs
    refine zVc 5 3 [] [9, 3, 4, 7, 8, 10, 11] .n ⟨(by omega), ?_⟩
    have hv_ : ((i2 : Int) + 1 : Int) = (((i2 + 1 : Nat) : Int) : Int) := by omega
    intro a w hs; rw [hv_] at hs; clear hv_
    revert a w hs
    refine go 0 [] [9, 3, 4, 7, 8, 10, 11] .n ?_
    have hF := zQQ (by omega) (by omega) hI2_2 (by omega)
    have hol : (out2 ++ [was.getD i2 default]).length ≤ (i2 + 1) + k := by rw [List.length_append]; show _ + 1 ≤ _; omega
    intro a w hs; replace hs := hs.rerow (.s (.s (.s (.s .z)))) (m' := (out2 ++ [was.getD i2 default]).length) (xs' := ((out2 ++ [was.getD i2 default]).flatMap zBQ)) (by rw [List.length_append]; rfl) (by rw [List.flatMap_append]; rfl)
    replace hs := hs.drop (.c (.s (.s (.s (.s .z)))) .n)
    replace hs := hs.reorder (.c (.s .z) (.c .z (.c (.s (.s .z)) (.c .z (.c .z .n)))))
    refine ⟨_, ?_, i2 + 1, v20, out2 ++ [was.getD i2 default], rfl, hs.sub (.c rfl (.c rfl (.c rfl (.c rfl (.c rfl (.c rfl (.c rfl .n))))))), by omega, trivial, hF, hol⟩
    omega
   refine go 0 [] [3, 4, 7, 8, 9, 10, 11] .n ?_
   intro a w hs
   refine zS [.p [] [], .p [] [], .v [1] (nI was.length), .v [2, 0] (.bool (true)), .p [3] [], .p [4] [], .p [4] [], .v [6, 5, 4] (.pointer (some (adr wu (i2 * 9)))), .v [7, 4] (.pointer (some (adr wu (i2 * 9 + 0)))), .v [8, 4] (zI ((was.getD i2 default).id)), .p [4] [], .p [10, 4] [0], .p [11, 9, 4] [], .p [12, 4] [], .p [13] []] [14] hs .n (.c .z .n) (by kernel_rfl) ⟨fun _ _ _ _ hm hs K => zAG hs rfl (hm.rd0 hJ9).isSl underlying43 rfl (vk K), fun _ _ _ _ hm hs K => zCT hs rfl rfl rfl (fun a w hs => wpList_nil (K _ _ (by rw [show (decide ((i2 : Int) < ((was.length : Nat) : Int))) = true from decide_eq_true (by omega)] at hs; exact hs))), fun _ _ _ _ hm hs K => zC hs rfl rfl rfl (zBj (j := i2) hs rfl rfl (hm.rd0 hJ9) rfl (by omega) underlying43 sizeOf72 rfl (vk K)), fun _ _ _ _ hm hs K => zC hs rfl rfl rfl (zBn hs rfl (hm.rd0 hJ9) (by omega) underlying72 rfl sizeOf3 (by decide) (o := i2 * 9 + 0) rfl rfl (vk K)), fun _ _ _ _ hm hs K => zC hs rfl rfl rfl (zA7 (u := zI ((was.getD i2 default).id)) hs rfl (hm.rd0 hJ9) ((zAf zBN was i2 0 (by omega) (by decide)).trans rfl) isAgg3 rfl (vk K)), rfl, ⟨rfl, by kernel_rfl, fun _ => rfl, rfl, rfl, trivial⟩, fun _ => rfl, ?_⟩
   refine goE 5 [0] [98, 3, 4, 7, 8, 9, 10, 11] (.c .z .n) ⟨rfl, ?_⟩
   refine zS3 rfl (fun c_22 => ?_) (fun c_22 => ?_)
   ·
    have hbb := bbT (by assumption)
    refine go 3 [0] [5, 4] (.c (.s (.s (.s (.s .z)))) .n) ⟨rfl, ?_⟩
    have hE : aE t tm l gt gtm gb rl = 15 := by first | exact zN8 (by omega) | exact zN7 (by omega) (by omega) (by omega) | exact zN4 (by omega) (by omega) (by omega) (by omega) | (rw [zJJ (by omega) hpre, ← hwas]; first | exact zDc (zFJ (by omega) hI2_2 (by omega)) | exact zDW (zED (by omega) hI1_2) (by rw [List.length_append, List.length_drop]; omega))
    have hS : aS t tm l gt gtm gb rl = ⟨0, 0, []⟩ := zN3 (by omega)
    refine cl (·.addNil 72 9) ?_
    intro a w hs; replace hs := hs.rerow .z (m' := (aS t tm l gt gtm gb rl).l.length) (xs' := ((aS t tm l gt gtm gb rl).l.flatMap zBQ)) (by rw [hS]; rfl) (by rw [hS]; rfl)
    exact zBV hs rfl rfl rfl (.s .z) (.z (.c (.c (.c .n)))) isAgg45 sizeOf45 (.c (.s (.s (.s (.s (.s .z))))) (.c (.s (.s (.s (.s .z)))) (.c (.s (.s (.s .z))) (.c (.s (.s .z)) (.c (.s .z) .n))))) ⟨_, by rw [hE, hS] <;> rfl, rfl⟩
   have hbb := bbF (by assumption)
   refine go 3 [0] [102, 3, 4, 7, 8, 9, 10, 11] (.c .z .n) ⟨rfl, ?_⟩
   refine ifG rfl (fun c_23 => ?_) (fun c_23 => ?_)
   ·
    refine go 12 [0, 1, 1, 1, 1] [114, 104, 3, 4, 7, 8, 9, 10] (.c (.s (.s .z)) (.c .z .n)) ⟨rfl, rfl, rfl, rfl, rfl, fun g24 => ?_⟩
    intro a w hs; refine zAj (size := 9) (bytes := 64) hs rfl rfl (.s (.s (.s .z))) (zAa (m := 1) (size := 9) (hs.mem.del .z) rfl (by decide)) (by simp [Value.oneCell']) underlying43 (i := Tryz.t72) rfl rfl rfl rfl rfl (by decide) (by omega) (by simp only [maxLen]; omega) rfl ?_; intro v25
    refine cl (·.drop (.c (.s .z) .n)) ?_
    refine goL 1 [] [116, 115, 3, 4, 7, 8, 9, 10] .n ?_
    intro a w hs; refine zB4 hs rfl rfl (.s .z) (.s (.s .z)) (zM (hs.mem.del .z)).isSl.one sizeOf43 ?_
    refine goL 3 [] [10, 3, 4, 7, 8, 9] .n ⟨(by omega), ?_⟩
    have hF := zMv (by omega) hI2_2 (by omega) (by omega)
    have hol : (out2 ++ [zDZ (rl.getD k default)]).length ≤ (i2) + (k + 1) := by rw [List.length_append]; show _ + 1 ≤ _; omega
    intro a w hs; replace hs := hs.rerow (.s .z) (m' := (out2 ++ [zDZ (rl.getD k default)]).length) (xs' := ((out2 ++ [zDZ (rl.getD k default)]).flatMap zBQ)) (by rw [List.length_append]; rfl) (by rw [List.flatMap_append]; rfl)
    replace hs := hs.drop (.c (.s (.s .z)) .n)
    refine ⟨_, ?_, k + 1, i2, v25, out2 ++ [zDZ (rl.getD k default)], rfl, hs.sub (.c rfl (.c rfl (.c rfl (.c rfl (.c rfl (.c rfl .n)))))), by omega, by omega, hF, hol⟩
    omega
   refine go 3 [0] [119, 3, 4, 7, 8, 9, 10, 11] (.c .z .n) ⟨rfl, ?_⟩
   refine ifG rfl (fun c_26 => ?_) (fun c_26 => ?_)
   ·
    refine go 0 [] [3, 4, 7, 8, 9, 10, 11] .n ?_
    intro a w hs
    refine zAx [.p [] [], .p [] [], .v [1, 0] (.pointer (some (adr wu (i2 * 9)))), .v [2] (.agg #[zI ((was.getD i2 default).id), zI ((was.getD i2 default).p0), zI ((was.getD i2 default).p1), zI ((was.getD i2 default).p2), zI ((was.getD i2 default).v0), zI ((was.getD i2 default).v1), zI ((was.getD i2 default).v2), .int .u16 ((((was.getD i2 default).a).toNat : Nat) : Int), bI ((was.getD i2 default).g)]), .p [] [0], .v [4, 3] (.tuple #[.agg #[zI (((zG (was.getD i2 default) (rl.getD k default)).1).id), zI (((zG (was.getD i2 default) (rl.getD k default)).1).p0), zI (((zG (was.getD i2 default) (rl.getD k default)).1).p1), zI (((zG (was.getD i2 default) (rl.getD k default)).1).p2), zI (((zG (was.getD i2 default) (rl.getD k default)).1).v0), zI (((zG (was.getD i2 default) (rl.getD k default)).1).v1), zI (((zG (was.getD i2 default) (rl.getD k default)).1).v2), .int .u16 (((((zG (was.getD i2 default) (rl.getD k default)).1).a).toNat : Nat) : Int), bI (((zG (was.getD i2 default) (rl.getD k default)).1).g)], nI ((zG (was.getD i2 default) (rl.getD k default)).2)]), .p [5] [], .p [6] [], .p [6] [], .x [] ⟨[], [], [], fun vs27 => vs27 9 = pt (zCQ (vs27 9)) 0, fun vs27 => [blk (zCQ (vs27 9)) [zI 0, zI 0, zI 0, zI 0, zI 0, zI 0, zI 0, .int .u16 (0), .int .u8 (0)] 72], none⟩, .x [7] ⟨[], [9], [9], fun vs27 => True, fun vs27 => [blk (zCQ (vs27 9)) [zI (((zG (was.getD i2 default) (rl.getD k default)).1).id), zI (((zG (was.getD i2 default) (rl.getD k default)).1).p0), zI (((zG (was.getD i2 default) (rl.getD k default)).1).p1), zI (((zG (was.getD i2 default) (rl.getD k default)).1).p2), zI (((zG (was.getD i2 default) (rl.getD k default)).1).v0), zI (((zG (was.getD i2 default) (rl.getD k default)).1).v1), zI (((zG (was.getD i2 default) (rl.getD k default)).1).v2), .int .u16 (((((zG (was.getD i2 default) (rl.getD k default)).1).a).toNat : Nat) : Int), bI (((zG (was.getD i2 default) (rl.getD k default)).1).g)] 72], none⟩, .p [8] []] [] hs .n .n (.c .z .n) (by kernel_rfl) ⟨fun _ _ _ _ hm hs K => zBj (j := i2) hs rfl rfl (hm.rd0 hJ9) rfl (by omega) underlying43 sizeOf72 rfl (vk K), fun _ _ _ _ hm hs K => zCm (cs := zBQ (was.getD i2 default)) hs rfl (hm.rd0 hJ9) (zBe zBN was i2 (by omega)) (by rw [zBH zBN]; omega) (by omega) isAgg72 sizeOf72 rfl (vk K), rfl, fun _ _ _ _ hm hs K => zH (v := .tuple #[.agg #[zI (((zG (was.getD i2 default) (rl.getD k default)).1).id), zI (((zG (was.getD i2 default) (rl.getD k default)).1).p0), zI (((zG (was.getD i2 default) (rl.getD k default)).1).p1), zI (((zG (was.getD i2 default) (rl.getD k default)).1).p2), zI (((zG (was.getD i2 default) (rl.getD k default)).1).v0), zI (((zG (was.getD i2 default) (rl.getD k default)).1).v1), zI (((zG (was.getD i2 default) (rl.getD k default)).1).v2), .int .u16 (((((zG (was.getD i2 default) (rl.getD k default)).1).a).toNat : Nat) : Int), bI (((zG (was.getD i2 default) (rl.getD k default)).1).g)], nI ((zG (was.getD i2 default) (rl.getD k default)).2)]) hs (.c rfl (.c rfl .n)) call69 (zKm (was.getD i2 default) (rl.getD k default) _) rfl (vk K), ⟨.n, by kernel_rfl, fun _ => rfl, rfl, rfl⟩, ⟨?_, ?_, trivial⟩, ?_⟩
    ·
     intro a_ w_ R_ rest_ vs27 hm hs ht hx
     have hs0 := hs.bare
     refine zEG (cs := [zI 0, zI 0, zI 0, zI 0, zI 0, zI 0, zI 0, .int .u16 (0), .int .u8 (0)]) hs zeroValue72 rfl rfl ?_; clear hs; intro g28 a w hs
     exact wpList_nil ⟨rfl, _, _, hs0, .r, hs, rfl⟩
    ·
     intro a_ w_ R_ rest_ vs27 hm hs ht hx
     have t9 := ht 9 (zL 12 _ (by kernel_rfl))
     have e9 : _ = some (vs27 9) := t9.val rfl
     rw [show vs27 9 = pt (zCQ (vs27 9)) 0 from t9.2.1] at e9
     replace hs := hs.learn e9
     have hs0 := hs.bare
     refine zA4 hs rfl rfl .z (.z (.c (.c (.c (.c (.c (.c (.c (.c (.c .n)))))))))) (zN rfl (zN rfl (zN rfl (zN rfl (zN rfl (zN rfl (zN rfl (zN rfl (zN rfl zBS))))))))) sizeOf72 rfl ?_; clear hs; intro a w hs
     exact wpList_nil ⟨rfl, .tuple #[], _, hs0, (.c (.c .r)), hs, trivial⟩
    clear hs w a; intro vs27 a w hs hf
    obtain ⟨e9, q9⟩ := hf 9 (by decide)
    replace e9 : _ = some (vs27 9) := e9.val rfl
    rw [show vs27 9 = pt (zCQ (vs27 9)) 0 from q9] at e9
    replace hs := hs.learn e9; clear e9 q9
    generalize zCQ (vs27 9) = g29 at hs
    clear hf
    revert a w hs
    refine goE 4 [0, 1] [132, 130, 3, 4, 7, 8, 9, 10] (.c (.s (.s .z)) (.c (.s (.s (.s (.s .z)))) .n)) ⟨rfl, rfl, fun g30 => ?_⟩
    intro a w hs; refine zAj (size := 9) (bytes := 64) hs rfl rfl (.s (.s (.s (.s .z)))) (zAa (m := 1) (size := 9) (hs.mem.del .z) rfl (by decide)) (by simp [Value.oneCell']) underlying43 (i := Tryz.t72) rfl rfl rfl rfl rfl (by decide) (by omega) (by simp only [maxLen]; omega) rfl ?_; intro v31
    refine cl (·.drop (.c (.s .z) .n)) ?_
    refine goL 1 [] [134, 133, 3, 4, 7, 8, 9, 10] .n ?_
    intro a w hs; refine zB4 hs rfl rfl (.s .z) (.s (.s .z)) (zM (hs.mem.del .z)).isSl.one sizeOf43 ?_
    refine zHA 6 3 [] [9, 3, 4, 7, 8, 10] .n ⟨(by omega), ?_⟩
    have hv_ : ((i2 : Int) + 1 : Int) = (((i2 + 1 : Nat) : Int) : Int) := by omega
    intro a w hs; rw [hv_] at hs; clear hv_
    revert a w hs
    refine go 3 [] [10, 9, 3, 4, 7, 8] .n ⟨(by omega), ?_⟩
    have hF := zMQ (by omega) (by omega) hI2_2 (by omega) (by omega) (by omega)
    have hol : (out2 ++ [(zG (was.getD i2 default) (rl.getD k default)).1]).length ≤ (i2 + 1) + (k + 1) := by rw [List.length_append]; show _ + 1 ≤ _; omega
    intro a w hs; replace hs := hs.rerow (.s .z) (m' := (out2 ++ [(zG (was.getD i2 default) (rl.getD k default)).1]).length) (xs' := ((out2 ++ [(zG (was.getD i2 default) (rl.getD k default)).1]).flatMap zBQ)) (by rw [List.length_append]; rfl) (by rw [List.flatMap_append]; rfl)
    replace hs := hs.drop (.c (.s (.s (.s .z))) (.c (.s (.s .z)) .n))
    refine ⟨_, ?_, k + 1, i2 + 1, v31, out2 ++ [(zG (was.getD i2 default) (rl.getD k default)).1], rfl, hs.sub (.c rfl (.c rfl (.c rfl (.c rfl (.c rfl (.c rfl .n)))))), by omega, by omega, hF, hol⟩
    omega
   refine goF 6 3 [] [9, 3, 4, 7, 8, 10] .n ⟨(by omega), ?_⟩
   have hv_ : ((i2 : Int) + 1 : Int) = (((i2 + 1 : Nat) : Int) : Int) := by omega
   intro a w hs; rw [hv_] at hs; clear hv_
   revert a w hs
   refine go 3 [] [10, 9, 3, 4, 7, 8] .n ⟨(by omega), ?_⟩
   have hF := zMW (by omega) (by omega) hI2_2 (by omega) (by omega) (by omega)
   have hol : out2.length ≤ (i2 + 1) + (k + 1) := by omega
   refine cl (·.drop (.c .z .n)) ?_
   intro a w hs; refine ⟨_, ?_, k + 1, i2 + 1, q2, out2, rfl, hs.sub (.c rfl (.c rfl (.c rfl (.c rfl (.c rfl (.c rfl .n)))))), by omega, by omega, hF, hol⟩
   omega
  intro a w hs
  refine zS [.p [] [], .p [] [], .v [1] (nI was.length), .v [2, 0] (.bool (false)), .p [3] [], .p [4] [], .p [4] [], .p [6, 5, 4] [], .p [7, 4] [], .p [8, 4] [], .p [4] [], .p [10, 4] [], .p [11, 9, 4] [], .p [12, 4] []] [13] hs .n .n (by kernel_rfl) ⟨fun _ _ _ _ hm hs K => zAG hs rfl (hm.rd0 hJ9).isSl underlying43 rfl (vk K), fun _ _ _ _ hm hs K => zCT hs rfl rfl rfl (fun a w hs => wpList_nil (K _ _ (by rw [show (decide ((i2 : Int) < ((was.length : Nat) : Int))) = false from decide_eq_false (by omega)] at hs; exact hs))), ⟨rfl, by kernel_rfl, fun _ => rfl, rfl, rfl, trivial⟩, fun _ => rfl, ?_⟩
  refine goE 1 [] [3, 4, 7, 8, 9, 10, 11] .n ?_
  intro a w hs
  refine zS [.p [] [], .p [] [], .v [1] (nI was.length), .v [2, 0] (.bool (false)), .p [3] [], .p [4] [], .p [4] [], .p [6, 5, 4] [], .p [7, 4] [], .p [8, 4] [], .p [4] [], .p [10, 4] [], .p [11, 9, 4] [], .p [12, 4] [], .p [13] []] [14] hs .n .n (by kernel_rfl) ⟨fun _ _ _ _ hm hs K => zAG hs rfl (hm.rd0 hJ9).isSl underlying43 rfl (vk K), fun _ _ _ _ hm hs K => zCT hs rfl rfl rfl (fun a w hs => wpList_nil (K _ _ (by rw [show (decide ((i2 : Int) < ((was.length : Nat) : Int))) = false from decide_eq_false (by omega)] at hs; exact hs))), ⟨rfl, by kernel_rfl, fun _ => rfl, rfl, rfl, trivial⟩, fun _ => rfl, ?_⟩
  refine goE 5 [0] [98, 3, 4, 7, 8, 9, 10, 11] (.c .z .n) ⟨rfl, ?_⟩
  refine zS3 rfl (fun c_34 => ?_) (fun c_34 => ?_)
  ·
   have hbb := zV9 (by assumption)
   refine go 3 [0] [5, 4] (.c (.s (.s (.s (.s .z)))) .n) ⟨rfl, ?_⟩
   have hE : aE t tm l gt gtm gb rl = 15 := by first | exact zN8 (by omega) | exact zN7 (by omega) (by omega) (by omega) | exact zN4 (by omega) (by omega) (by omega) (by omega) | (rw [zJJ (by omega) hpre, ← hwas]; first | exact zDc (zFJ (by omega) hI2_2 (by omega)) | exact zDW (zED (by omega) hI1_2) (by rw [List.length_append, List.length_drop]; omega))
   have hS : aS t tm l gt gtm gb rl = ⟨0, 0, []⟩ := zN3 (by omega)
   refine cl (·.addNil 72 9) ?_
   intro a w hs; replace hs := hs.rerow .z (m' := (aS t tm l gt gtm gb rl).l.length) (xs' := ((aS t tm l gt gtm gb rl).l.flatMap zBQ)) (by rw [hS]; rfl) (by rw [hS]; rfl)
   exact zBV hs rfl rfl rfl (.s .z) (.z (.c (.c (.c .n)))) isAgg45 sizeOf45 (.c (.s (.s (.s (.s (.s .z))))) (.c (.s (.s (.s (.s .z)))) (.c (.s (.s (.s .z))) (.c (.s (.s .z)) (.c (.s .z) .n))))) ⟨_, by rw [hE, hS] <;> rfl, rfl⟩
  have hbb := zV8 (by assumption)
  refine go 3 [0] [102, 3, 4, 7, 8, 9, 10, 11] (.c .z .n) ⟨rfl, ?_⟩
  refine ifG rfl (fun c_35 => ?_) (fun c_35 => ?_)
  ·
   refine go 12 [0, 1, 1, 1, 1] [114, 104, 3, 4, 7, 8, 9, 10] (.c (.s (.s .z)) (.c .z .n)) ⟨rfl, rfl, rfl, rfl, rfl, fun g36 => ?_⟩
   intro a w hs; refine zAj (size := 9) (bytes := 64) hs rfl rfl (.s (.s (.s .z))) (zAa (m := 1) (size := 9) (hs.mem.del .z) rfl (by decide)) (by simp [Value.oneCell']) underlying43 (i := Tryz.t72) rfl rfl rfl rfl rfl (by decide) (by omega) (by simp only [maxLen]; omega) rfl ?_; intro v37
   refine cl (·.drop (.c (.s .z) .n)) ?_
   refine goL 1 [] [116, 115, 3, 4, 7, 8, 9, 10] .n ?_
   intro a w hs; refine zB4 hs rfl rfl (.s .z) (.s (.s .z)) (zM (hs.mem.del .z)).isSl.one sizeOf43 ?_
   refine goL 3 [] [10, 3, 4, 7, 8, 9] .n ⟨(by omega), ?_⟩
   have hF := zMv (by omega) hI2_2 (by omega) (by omega)
   have hol : (out2 ++ [zDZ (rl.getD k default)]).length ≤ (i2) + (k + 1) := by rw [List.length_append]; show _ + 1 ≤ _; omega
   intro a w hs; replace hs := hs.rerow (.s .z) (m' := (out2 ++ [zDZ (rl.getD k default)]).length) (xs' := ((out2 ++ [zDZ (rl.getD k default)]).flatMap zBQ)) (by rw [List.length_append]; rfl) (by rw [List.flatMap_append]; rfl)
   replace hs := hs.drop (.c (.s (.s .z)) .n)
   refine ⟨_, ?_, k + 1, i2, v37, out2 ++ [zDZ (rl.getD k default)], rfl, hs.sub (.c rfl (.c rfl (.c rfl (.c rfl (.c rfl (.c rfl .n)))))), by omega, by omega, hF, hol⟩
   omega
  refine go 3 [0] [119, 3, 4, 7, 8, 9, 10, 11] (.c .z .n) ⟨rfl, ?_⟩
  refine ifG rfl (fun c_38 => ?_) (fun c_38 => ?_)
  ·
   refine go 0 [] [3, 4, 7, 8, 9, 10, 11] .n ?_
   intro a w hs
   refine zAx [.p [] [], .p [] [], .v [1, 0] (.pointer (some (adr wu (i2 * 9)))), .v [2] (.agg #[zI ((was.getD i2 default).id), zI ((was.getD i2 default).p0), zI ((was.getD i2 default).p1), zI ((was.getD i2 default).p2), zI ((was.getD i2 default).v0), zI ((was.getD i2 default).v1), zI ((was.getD i2 default).v2), .int .u16 ((((was.getD i2 default).a).toNat : Nat) : Int), bI ((was.getD i2 default).g)]), .p [] [0], .v [4, 3] (.tuple #[.agg #[zI (((zG (was.getD i2 default) (rl.getD k default)).1).id), zI (((zG (was.getD i2 default) (rl.getD k default)).1).p0), zI (((zG (was.getD i2 default) (rl.getD k default)).1).p1), zI (((zG (was.getD i2 default) (rl.getD k default)).1).p2), zI (((zG (was.getD i2 default) (rl.getD k default)).1).v0), zI (((zG (was.getD i2 default) (rl.getD k default)).1).v1), zI (((zG (was.getD i2 default) (rl.getD k default)).1).v2), .int .u16 (((((zG (was.getD i2 default) (rl.getD k default)).1).a).toNat : Nat) : Int), bI (((zG (was.getD i2 default) (rl.getD k default)).1).g)], nI ((zG (was.getD i2 default) (rl.getD k default)).2)]), .p [5] [], .p [6] [], .p [6] [], .x [] ⟨[], [], [], fun vs39 => vs39 9 = pt (zCQ (vs39 9)) 0, fun vs39 => [blk (zCQ (vs39 9)) [zI 0, zI 0, zI 0, zI 0, zI 0, zI 0, zI 0, .int .u16 (0), .int .u8 (0)] 72], none⟩, .x [7] ⟨[], [9], [9], fun vs39 => True, fun vs39 => [blk (zCQ (vs39 9)) [zI (((zG (was.getD i2 default) (rl.getD k default)).1).id), zI (((zG (was.getD i2 default) (rl.getD k default)).1).p0), zI (((zG (was.getD i2 default) (rl.getD k default)).1).p1), zI (((zG (was.getD i2 default) (rl.getD k default)).1).p2), zI (((zG (was.getD i2 default) (rl.getD k default)).1).v0), zI (((zG (was.getD i2 default) (rl.getD k default)).1).v1), zI (((zG (was.getD i2 default) (rl.getD k default)).1).v2), .int .u16 (((((zG (was.getD i2 default) (rl.getD k default)).1).a).toNat : Nat) : Int), bI (((zG (was.getD i2 default) (rl.getD k default)).1).g)] 72], none⟩, .p [8] []] [] hs .n .n (.c .z .n) (by kernel_rfl) ⟨fun _ _ _ _ hm hs K => zBj (j := i2) hs rfl rfl (hm.rd0 hJ9) rfl (by omega) underlying43 sizeOf72 rfl (vk K), fun _ _ _ _ hm hs K => zCm (cs := zBQ (was.getD i2 default)) hs rfl (hm.rd0 hJ9) (zBe zBN was i2 (by omega)) (by rw [zBH zBN]; omega) (by omega) isAgg72 sizeOf72 rfl (vk K), rfl, fun _ _ _ _ hm hs K => zH (v := .tuple #[.agg #[zI (((zG (was.getD i2 default) (rl.getD k default)).1).id), zI (((zG (was.getD i2 default) (rl.getD k default)).1).p0), zI (((zG (was.getD i2 default) (rl.getD k default)).1).p1), zI (((zG (was.getD i2 default) (rl.getD k default)).1).p2), zI (((zG (was.getD i2 default) (rl.getD k default)).1).v0), zI (((zG (was.getD i2 default) (rl.getD k default)).1).v1), zI (((zG (was.getD i2 default) (rl.getD k default)).1).v2), .int .u16 (((((zG (was.getD i2 default) (rl.getD k default)).1).a).toNat : Nat) : Int), bI (((zG (was.getD i2 default) (rl.getD k default)).1).g)], nI ((zG (was.getD i2 default) (rl.getD k default)).2)]) hs (.c rfl (.c rfl .n)) call69 (zKm (was.getD i2 default) (rl.getD k default) _) rfl (vk K), ⟨.n, by kernel_rfl, fun _ => rfl, rfl, rfl⟩, ⟨?_, ?_, trivial⟩, ?_⟩
   ·
    intro a_ w_ R_ rest_ vs39 hm hs ht hx
    have hs0 := hs.bare
    refine zEG (cs := [zI 0, zI 0, zI 0, zI 0, zI 0, zI 0, zI 0, .int .u16 (0), .int .u8 (0)]) hs zeroValue72 rfl rfl ?_; clear hs; intro g40 a w hs
    exact wpList_nil ⟨rfl, _, _, hs0, .r, hs, rfl⟩
   ·
    intro a_ w_ R_ rest_ vs39 hm hs ht hx
    have t9 := ht 9 (zL 12 _ (by kernel_rfl))
    have e9 : _ = some (vs39 9) := t9.val rfl
    rw [show vs39 9 = pt (zCQ (vs39 9)) 0 from t9.2.1] at e9
    replace hs := hs.learn e9
    have hs0 := hs.bare
    refine zA4 hs rfl rfl .z (.z (.c (.c (.c (.c (.c (.c (.c (.c (.c .n)))))))))) (zN rfl (zN rfl (zN rfl (zN rfl (zN rfl (zN rfl (zN rfl (zN rfl (zN rfl zBS))))))))) sizeOf72 rfl ?_; clear hs; intro a w hs
    exact wpList_nil ⟨rfl, .tuple #[], _, hs0, (.c (.c .r)), hs, trivial⟩
   clear hs w a; intro vs39 a w hs hf
   obtain ⟨e9, q9⟩ := hf 9 (by decide)
   replace e9 : _ = some (vs39 9) := e9.val rfl
   rw [show vs39 9 = pt (zCQ (vs39 9)) 0 from q9] at e9
   replace hs := hs.learn e9; clear e9 q9
   generalize zCQ (vs39 9) = g41 at hs
   clear hf
   revert a w hs
   refine goE 4 [0, 1] [132, 130, 3, 4, 7, 8, 9, 10] (.c (.s (.s .z)) (.c (.s (.s (.s (.s .z)))) .n)) ⟨rfl, rfl, fun g42 => ?_⟩
   intro a w hs; refine zAj (size := 9) (bytes := 64) hs rfl rfl (.s (.s (.s (.s .z)))) (zAa (m := 1) (size := 9) (hs.mem.del .z) rfl (by decide)) (by simp [Value.oneCell']) underlying43 (i := Tryz.t72) rfl rfl rfl rfl rfl (by decide) (by omega) (by simp only [maxLen]; omega) rfl ?_; intro v43
   refine cl (·.drop (.c (.s .z) .n)) ?_
   refine goL 1 [] [134, 133, 3, 4, 7, 8, 9, 10] .n ?_
   intro a w hs; refine zB4 hs rfl rfl (.s .z) (.s (.s .z)) (zM (hs.mem.del .z)).isSl.one sizeOf43 ?_
   refine zHA 6 3 [] [9, 3, 4, 7, 8, 10] .n ⟨(by omega), ?_⟩
   have hv_ : ((i2 : Int) + 1 : Int) = (((i2 + 1 : Nat) : Int) : Int) := by omega
   intro a w hs; rw [hv_] at hs; clear hv_
   revert a w hs
   refine go 3 [] [10, 9, 3, 4, 7, 8] .n ⟨(by omega), ?_⟩
   have hF := zMQ (by omega) (by omega) hI2_2 (by omega) (by omega) (by omega)
   have hol : (out2 ++ [(zG (was.getD i2 default) (rl.getD k default)).1]).length ≤ (i2 + 1) + (k + 1) := by rw [List.length_append]; show _ + 1 ≤ _; omega
   intro a w hs; replace hs := hs.rerow (.s .z) (m' := (out2 ++ [(zG (was.getD i2 default) (rl.getD k default)).1]).length) (xs' := ((out2 ++ [(zG (was.getD i2 default) (rl.getD k default)).1]).flatMap zBQ)) (by rw [List.length_append]; rfl) (by rw [List.flatMap_append]; rfl)
   replace hs := hs.drop (.c (.s (.s (.s .z))) (.c (.s (.s .z)) .n))
   refine ⟨_, ?_, k + 1, i2 + 1, v43, out2 ++ [(zG (was.getD i2 default) (rl.getD k default)).1], rfl, hs.sub (.c rfl (.c rfl (.c rfl (.c rfl (.c rfl (.c rfl .n)))))), by omega, by omega, hF, hol⟩
   omega
  refine goF 6 3 [] [9, 3, 4, 7, 8, 10] .n ⟨(by omega), ?_⟩
  have hv_ : ((i2 : Int) + 1 : Int) = (((i2 + 1 : Nat) : Int) : Int) := by omega
  intro a w hs; rw [hv_] at hs; clear hv_
  revert a w hs
  refine go 3 [] [10, 9, 3, 4, 7, 8] .n ⟨(by omega), ?_⟩
  have hF := zMW (by omega) (by omega) hI2_2 (by omega) (by omega) (by omega)
  have hol : out2.length ≤ (i2 + 1) + (k + 1) := by omega
  refine cl (·.drop (.c .z .n)) ?_
  intro a w hs; refine ⟨_, ?_, k + 1, i2 + 1, q2, out2, rfl, hs.sub (.c rfl (.c rfl (.c rfl (.c rfl (.c rfl (.c rfl .n)))))), by omega, by omega, hF, hol⟩
  omega
 refine go 0 [] [4, 7, 8, 9] .n ?_
 intro a w hs
 refine zAx [.p [] [], .y [0] q [] [] [] fun vs44 => [], .p [] [], .p [] [], .v [3, 2] (zHv wu 9 i was.length), .x [4, 1] ⟨[row q 72 9 out.length (out.flatMap zBQ)], [], [], fun vs44 => True, fun vs44 => [row (vs44 5) 72 9 (out.length + (was.length - i)) ((out.flatMap zBQ) ++ (((was.flatMap zBQ).drop (i * 9)).take ((was.length - i) * 9)))], none⟩, .p [] [], .x [6] ⟨[blk g5 [zI gt, zI gtm, q] 45], [], [5], fun vs44 => True, fun vs44 => [blk g5 [zI gt, zI gtm, (vs44 5)] 45], none⟩] [] hs .n (.c (.s .z) (.c (.s .z) .n)) .n (by kernel_rfl) ⟨fun _ _ _ _ hm hs K => zEL (j := i) hs rfl rfl rfl (hm.rd0 hJ9).isSl (by omega) underlying43 sizeOf72 rfl (vk K), ⟨(.c .z (.c .z .n)), by kernel_rfl, fun _ => rfl, rfl, rfl⟩, ⟨?_, ?_, ?_, trivial⟩, ?_⟩
 ·
  intro a_ w_ R_ rest_ vs44 hm hs ht hx
  have hs0 := hs.bare
  refine zAI hs rfl (hm.own (List.mem_append.2 (.inr ((hx 7 (zL 8 _ (by kernel_rfl))).1 _ (List.Mem.head _))))) (.s (.s .z)) isAgg43 rfl ?_; clear hs; intro a w hs
  exact wpList_nil ⟨rfl, _, _, hs0, (.c .r), hs, rfl⟩
 ·
  intro a_ w_ R_ rest_ vs44 hm hs ht hx
  have hs0 := hs.bare
  refine zAj (size := 9) (bytes := 64) hs rfl rfl .z ((hm.rd0 hJ9).slc (l := i) (h := was.length) (by omega) (by omega)) (zSE _ _ _) underlying43 (i := Tryz.t72) rfl rfl rfl rfl rfl (by decide) (by omega) (by simp only [maxLen]; omega) rfl ?_; clear hs; intro v45 a w hs
  exact wpList_nil ⟨rfl, _, _, hs0, (.c (.c .r)), hs, trivial⟩
 ·
  intro a_ w_ R_ rest_ vs44 hm hs ht hx
  have t5 := ht 5 (zL 8 _ (by kernel_rfl))
  have e5 : _ = some (vs44 5) := t5.val rfl
  replace hs := hs.learn e5
  have hs0 := hs.bare
  refine zB4 hs rfl rfl .z (.s (.s .z)) (zM (hm.own (List.mem_append.2 (.inr ((ht 5 (zL 8 _ (by kernel_rfl))).2.2 (zFR (n := 8) (by kernel_rfl)) _ (List.Mem.head _)))))).isSl.one sizeOf43 ?_; clear hs; intro a w hs
  exact wpList_nil ⟨rfl, .tuple #[], _, hs0, (.c (.c .r)), hs, trivial⟩
 clear hs w a; intro vs44 a w hs hf
 generalize vs44 5 = v46 at hs
 clear hf
 revert a w hs
 refine goE 2 [0] [145, 4, 7] (.c (.s (.s (.s .z))) .n) ⟨rfl, ?_⟩
 intro a w hs; refine zAG hs rfl (zM (hs.mem.del (.s (.s (.s .z))))).isSl underlying43 rfl ?_
 refine goL 1 [] [147, 4, 7] .n ?_
 refine ifG rfl (fun c_47 => ?_) (fun c_47 => ?_)
 ·
  refine go 3 [0] [5, 4] (.c (.s (.s .z)) .n) ⟨rfl, ?_⟩
  have hE : aE t tm l gt gtm gb rl = 4 := by first | exact zN8 (by omega) | exact zN7 (by omega) (by omega) (by omega) | exact zN4 (by omega) (by omega) (by omega) (by omega) | (rw [zJJ (by omega) hpre, ← hwas]; first | exact zDc (zFJ (by omega) hI2_2 (by omega)) | exact zDW (zED (by omega) hI1_2) (by rw [List.length_append, List.length_drop]; omega))
  have hS : aS t tm l gt gtm gb rl = ⟨0, 0, []⟩ := zN3 (by omega)
  refine cl (·.addNil 72 9) ?_
  intro a w hs; replace hs := hs.rerow .z (m' := (aS t tm l gt gtm gb rl).l.length) (xs' := ((aS t tm l gt gtm gb rl).l.flatMap zBQ)) (by rw [hS]; rfl) (by rw [hS]; rfl)
  exact zBV hs rfl rfl rfl (.s .z) (.z (.c (.c (.c .n)))) isAgg45 sizeOf45 (.c (.s (.s (.s (.s .z)))) (.c (.s (.s (.s .z))) (.c (.s (.s .z)) (.c (.s .z) .n)))) ⟨_, by rw [hE, hS] <;> rfl, rfl⟩
 refine go 1 [0] [149, 4] (.c .z .n) ⟨rfl, ?_⟩
 intro a w hs; refine zA4 hs rfl rfl (.s (.s .z)) (.z (.c (.c (.c .n)))) (zN rfl (zN rfl (zN (zM (hs.mem.del (.s (.s (.s .z))))).isSl.one zBS))) sizeOf45 rfl ?_
 refine goL 1 [] [5, 4] .n ?_
 have q1 := zED (by omega) hI1_2
 have hE : aE t tm l gt gtm gb rl = 0 := by rw [zJJ (by omega) hpre, ← hwas]; exact zVS q1 (by rw [List.length_append, List.length_drop]; omega)
 have hS : aS t tm l gt gtm gb rl = ⟨gt, gtm, out ++ was.drop i⟩ := by rw [zUp hE, ← hwas, q1]; rfl
 refine cl (·.rerow (.s (.s (.s .z))) (m' := (aS t tm l gt gtm gb rl).l.length) (xs' := ((aS t tm l gt gtm gb rl).l.flatMap zBQ)) (by rw [hS, List.length_append, List.length_drop]) (by rw [hS, List.flatMap_append, ← zOP zBN was i (by omega)])) ?_
 intro a w hs; exact zBV hs rfl rfl rfl (.s .z) (.z (.c (.c (.c .n)))) isAgg45 sizeOf45 (.c (.s (.s (.s .z))) (.c (.s (.s .z)) (.c (.s .z) .n))) ⟨_, by rw [hE, hS] <;> rfl, rfl⟩
end Go.Proofs.YtbacobmcfelmkaaGreat
