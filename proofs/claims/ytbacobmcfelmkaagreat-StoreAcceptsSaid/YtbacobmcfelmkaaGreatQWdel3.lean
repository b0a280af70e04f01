/- Walks of applying: what each function does, over the program of this seat. Printed by a program of this session. -/
import Derived.Test.YtbacobmcfelmkaaGreatQWdel
import Derived.Test.YtbacobmcfelmkaaGreatQSxBasB
namespace Go.Proofs.YtbacobmcfelmkaaGreat
open Tryz
open Go Go.Sx Go.RowKit
set_option linter.unusedVariables false
set_option linter.unusedSimpArgs false
set_option maxRecDepth 4000
set_option maxHeartbeats 1000000

theorem zJ7 (t tm : Int) (u : Value) (l : List zAU) (gt gtm gb : Int) (gu : Value) (rl : List zAd) (w0 : World) (ht_ : -9223372036854775808 ≤ t ∧ t ≤ 9223372036854775807) (htm_ : -9223372036854775808 ≤ tm ∧ tm ≤ 9223372036854775807) (hgt_ : -9223372036854775808 ≤ gt ∧ gt ≤ 9223372036854775807) (hgtm_ : -9223372036854775808 ≤ gtm ∧ gtm ≤ 9223372036854775807) (hgb_ : -9223372036854775808 ≤ gb ∧ gb ≤ 9223372036854775807) (hc : Rd w0 [] u 9 l.length (l.flatMap zBQ)) (hcg : Rd w0 [] gu 9 rl.length (rl.flatMap zDG)) (hw : ∀ x ∈ rl, x.wf) : Calls Tryz.prog 30 #[.agg #[zI t, zI tm, u], .agg #[zI gt, zI gtm, zI gb, gu]] w0 (Ret w0 [] fun x N => ∃ v, x = .tuple #[.agg #[zI ((aS t tm l gt gtm gb rl).t), zI ((aS t tm l gt gtm gb rl).tm), v], nI (aE t tm l gt gtm gb rl)] ∧ N = [row v 72 9 (aS t tm l gt gtm gb rl).l.length ((aS t tm l gt gtm gb rl).l.flatMap zBQ)]) := by
 have hce := hc.le
 simp only [maxLen] at hce
 have hcge := hcg.le
 simp only [maxLen] at hcge
 refine zT (F0 := [(0, .agg #[zI t, zI tm, u]), (1, .agg #[zI gt, zI gtm, zI gb, gu])]) func30 rfl rfl rfl (.c (.c .n)) (Mem.nil _) ?_
 refine go 5 [0, 0, 1] [14, 4, 3, 2] .n (fun g1 => fun g2 => fun g3 => ⟨rfl, ?_⟩)
 intro a w hs; refine zH (v := nI (zAV gt gtm gb rl)) hs (.c rfl .n) call48 (zOQ gt gtm gb _ rl _ (by omega) (by omega) (by omega) (hs.rd0 hcg) hw) rfl ?_
 refine goL 3 [] [17, 6, 4, 3, 2] .n ?_
 refine ifG rfl (fun c_4 => ?_) (fun c_4 => ?_)
 ·
  refine go 4 [0] [5, 4] (.c .z .n) ⟨rfl, ?_⟩
  have hE : aE t tm l gt gtm gb rl = zAV gt gtm gb rl := by first | exact zN8 (by omega) | exact zN7 (by omega) (by omega) (by omega) | exact zN4 (by omega) (by omega) (by omega) (by omega) | (rw [zJJ (by omega) hpre, ← hwas]; exact zDc (zD4 hsw hbp.2 (zGQ (by omega) hI1_1 (zEu (by assumption))))) | (rw [zJJ (by omega) hpre, ← hwas]; obtain ⟨l3, q1, q2, q3⟩ := zDK hsw hbp.2 (zE5 (by omega) hI1_1); exact zDW q1 (by rw [← q2.length_eq]; omega))
  have hS : aS t tm l gt gtm gb rl = ⟨0, 0, []⟩ := zN3 (by omega)
  refine cl (·.addNil 72 9) ?_
  intro a w hs; replace hs := hs.rerow .z (m' := (aS t tm l gt gtm gb rl).l.length) (xs' := ((aS t tm l gt gtm gb rl).l.flatMap zBQ)) (by rw [hS]; rfl) (by rw [hS]; rfl)
  exact zBV hs rfl rfl rfl (.s .z) (.z (.c (.c (.c .n)))) isAgg45 sizeOf45 (.c (.s (.s (.s .z))) (.c (.s (.s .z)) (.c (.s .z) .n))) ⟨_, by rw [hE, hS] <;> rfl, rfl⟩
 refine go 0 [] [4, 3, 2] .n ?_
 intro a w hs; refine zSq hs rfl ?_; intro g5
 refine zHA 11 4 [0] [23, 7, 4, 3, 2] (.c (.s (.s .z)) .n) ⟨rfl, ?_⟩
 intro a w hs; refine zNK (fun a w => ∃ g9 : Nat, ∃ was : List zAU, St 105 [(3, pt g2 0), (4, pt g3 0), (7, .map (some g9))] w0 [] [mpr g9 (ekv was), blk g2 [zI gt, zI gtm, zI gb, gu] 61, blk g3 [zI 0, zI 0, .slice none 0 0] 45] a w ∧ was = zEF gb l ∧ (0 ≤ gb → zAP t tm l = 0 ∧ t = gb)) ?_ ?_
 ·
  revert a w hs; refine ifG rfl (fun c_6 => ?_) (fun c_6 => ?_)
  ·
   refine go 1 [0] [24, 4, 3, 2] (.c (.s (.s (.s .z))) .n) ⟨rfl, ?_⟩
   intro a w hs; refine zH (v := nI (zAP t tm l)) hs (.c rfl .n) call49 (zPc t tm _ l _ (by omega) (by omega) (hs.rd0 hc)) rfl ?_
   refine goL 3 [] [27, 8, 4, 3, 2] .n ?_
   refine ifG rfl (fun c_7 => ?_) (fun c_7 => ?_)
   ·
    refine go 4 [0] [5, 4] (.c (.s (.s (.s .z))) .n) ⟨rfl, ?_⟩
    have hE : aE t tm l gt gtm gb rl = zAP t tm l := by first | exact zN8 (by omega) | exact zN7 (by omega) (by omega) (by omega) | exact zN4 (by omega) (by omega) (by omega) (by omega) | (rw [zJJ (by omega) hpre, ← hwas]; exact zDc (zD4 hsw hbp.2 (zGQ (by omega) hI1_1 (zEu (by assumption))))) | (rw [zJJ (by omega) hpre, ← hwas]; obtain ⟨l3, q1, q2, q3⟩ := zDK hsw hbp.2 (zE5 (by omega) hI1_1); exact zDW q1 (by rw [← q2.length_eq]; omega))
    have hS : aS t tm l gt gtm gb rl = ⟨0, 0, []⟩ := zN3 (by omega)
    refine cl (·.addNil 72 9) ?_
    intro a w hs; replace hs := hs.rerow .z (m' := (aS t tm l gt gtm gb rl).l.length) (xs' := ((aS t tm l gt gtm gb rl).l.flatMap zBQ)) (by rw [hS]; rfl) (by rw [hS]; rfl)
    exact zBV hs rfl rfl rfl (.s .z) (.z (.c (.c (.c .n)))) isAgg45 sizeOf45 (.c (.s (.s (.s (.s .z)))) (.c (.s (.s (.s .z))) (.c (.s (.s .z)) (.c (.s .z) .n)))) ⟨_, by rw [hE, hS] <;> rfl, rfl⟩
   refine go 5 [0, 1] [34, 4, 3, 2] (.c .z (.c .z .n)) ⟨rfl, rfl, ?_⟩
   refine ifG rfl (fun c_8 => ?_) (fun c_8 => ?_)
   ·
    refine go 3 [0] [5, 4] (.c (.s (.s (.s .z))) .n) ⟨rfl, ?_⟩
    have hE : aE t tm l gt gtm gb rl = 14 := by first | exact zN8 (by omega) | exact zN7 (by omega) (by omega) (by omega) | exact zN4 (by omega) (by omega) (by omega) (by omega) | (rw [zJJ (by omega) hpre, ← hwas]; exact zDc (zD4 hsw hbp.2 (zGQ (by omega) hI1_1 (zEu (by assumption))))) | (rw [zJJ (by omega) hpre, ← hwas]; obtain ⟨l3, q1, q2, q3⟩ := zDK hsw hbp.2 (zE5 (by omega) hI1_1); exact zDW q1 (by rw [← q2.length_eq]; omega))
    have hS : aS t tm l gt gtm gb rl = ⟨0, 0, []⟩ := zN3 (by omega)
    refine cl (·.addNil 72 9) ?_
    intro a w hs; replace hs := hs.rerow .z (m' := (aS t tm l gt gtm gb rl).l.length) (xs' := ((aS t tm l gt gtm gb rl).l.flatMap zBQ)) (by rw [hS]; rfl) (by rw [hS]; rfl)
    exact zBV hs rfl rfl rfl (.s .z) (.z (.c (.c (.c .n)))) isAgg45 sizeOf45 (.c (.s (.s (.s (.s .z)))) (.c (.s (.s (.s .z))) (.c (.s (.s .z)) (.c (.s .z) .n)))) ⟨_, by rw [hE, hS] <;> rfl, rfl⟩
   have hsrt := zML (zC9 (by omega : zAP t tm l = 0)).2.2.2.2.2
   refine go 2 [0] [37, 4, 3] (.c .z .n) ⟨rfl, ?_⟩
   intro a w hs; refine zO hs (.c rfl .n) call50 .n (zUF _ l _ (hs.rd0 hc) (by assumption)) rfl ?_; clear hs w a; rintro _ _ a w ⟨g9, rfl, rfl⟩ hs
   revert a w hs
   refine goL 1 [] [7, 4, 3] .n ?_
   refine cl (·.drop (.c (.s (.s (.s .z))) (.c (.s .z) .n))) ?_
   intro a w hs; exact ⟨g9, l, hs.sub (.c rfl (.c rfl (.c rfl .n))), by unfold zEF; first | rw [if_pos (by omega)] | rw [if_neg (by omega)], by omega⟩
  refine go 0 [] [7, 4, 3] .n ?_
  refine cl (·.drop (.c (.s (.s (.s .z))) .n)) ?_
  refine cl (·.reorder (.c (.s .z) (.c .z (.c .z .n)))) ?_
  intro a w hs; exact ⟨g5, [], hs.sub (.c rfl (.c rfl (.c rfl .n))), by unfold zEF; first | rw [if_pos (by omega)] | rw [if_neg (by omega)], by omega⟩
 clear hs w a; rintro a w ⟨g9, was, hs, hJ10, hJ11⟩
 have hwas := hJ10
 have hpre := hJ11
 have hsw : Srt was := hwas ▸ zJ8 hpre
 have hbp := zDD (by omega : zAV gt gtm gb rl = 0)
 revert a w hs
 refine go 2 [0] [40, 3, 4, 7] (.c (.s .z) .n) ⟨rfl, ?_⟩
 intro a w hs; refine zAG hs rfl (hs.rd0 hcg).isSl underlying59 rfl ?_
 refine goL 1 [] [42, 41, 40, 3, 4, 7] .n ?_
 refine cl (·.reorder (.c (.s .z) (.c .z (.c .z .n)))) ?_
 intro a w hs; refine zCA (fun mm_ a w => ∃ k : Nat, ∃ mm : List zAU, mm_ = rl.length - k ∧ St 105 [(3, pt g2 0), (4, pt g3 0), (7, .map (some g9)), (40, gu), (41, nI rl.length), (42, zI (k : Int))] w0 [] [mpr g9 (ekv mm), blk g2 [zI gt, zI gtm, zI gb, gu] 61, blk g3 [zI 0, zI 0, .slice none 0 0] 45] a w ∧ k ≤ rl.length ∧ (zCt was rl = zCt mm (rl.drop k))) ⟨0, was, rfl, hs.sub (.c rfl (.c rfl (.c rfl (.c rfl (.c rfl (.c rfl .n)))))), by omega, rfl⟩ ?_
 clear hs w a; rintro mm_ a w ⟨k, mm, rfl, hs, hI1_0, hI1_1⟩
 revert a w hs
 refine go 1 [] [43, 3, 4, 7, 40, 41, 42] .n ?_
 refine ifG rfl (fun c_12 => ?_) (fun c_12 => ?_)
 ·
  refine go 0 [] [3, 4, 7, 40, 41, 42] .n ?_
  intro a w hs; refine zBj (j := k) hs rfl rfl (hs.rd0 hcg) rfl (by omega) underlying59 sizeOf112 rfl ?_
  intro a w hs; refine zCm (cs := zDG (rl.getD k default)) hs rfl (hs.rd0 hcg) (zBe zCX rl k (by omega)) (by rw [zBH zCX]; omega) (by omega) isAgg112 sizeOf112 rfl ?_
  refine goL 5 [0, 0] [49, 47, 10, 3, 4, 7, 40, 41, 42] .n (fun g13 => ⟨rfl, rfl, ?_⟩)
  intro a w hs; refine zQ6 hs rfl rfl (.s .z) underlying108 underlying3 zeroValue72 rfl ?_
  refine goL 12 [0, 1] [62, 12, 11, 10, 3, 4, 7, 40, 41, 42] (.c .z .n) (fun g14 => ⟨rfl, rfl, ?_⟩)
  refine zS3 rfl (fun c_15 => ?_) (fun c_15 => ?_)
  ·
   refine go 3 [0] [5, 4] (.c (.s (.s (.s (.s .z)))) .n) ⟨rfl, ?_⟩
   have hE : aE t tm l gt gtm gb rl = 15 := by first | exact zN8 (by omega) | exact zN7 (by omega) (by omega) (by omega) | exact zN4 (by omega) (by omega) (by omega) (by omega) | (rw [zJJ (by omega) hpre, ← hwas]; exact zDc (zD4 hsw hbp.2 (zGQ (by omega) hI1_1 (zEu (by assumption))))) | (rw [zJJ (by omega) hpre, ← hwas]; obtain ⟨l3, q1, q2, q3⟩ := zDK hsw hbp.2 (zE5 (by omega) hI1_1); exact zDW q1 (by rw [← q2.length_eq]; omega))
   have hS : aS t tm l gt gtm gb rl = ⟨0, 0, []⟩ := zN3 (by omega)
   refine cl (·.addNil 72 9) ?_
   intro a w hs; replace hs := hs.rerow .z (m' := (aS t tm l gt gtm gb rl).l.length) (xs' := ((aS t tm l gt gtm gb rl).l.flatMap zBQ)) (by rw [hS]; rfl) (by rw [hS]; rfl)
   exact zBV hs rfl rfl rfl (.s .z) (.z (.c (.c (.c .n)))) isAgg45 sizeOf45 (.c (.s (.s (.s (.s (.s .z))))) (.c (.s (.s (.s (.s .z)))) (.c (.s (.s (.s .z))) (.c (.s (.s .z)) (.c (.s .z) .n))))) ⟨_, by rw [hE, hS] <;> rfl, rfl⟩
  refine go 3 [] [69, 11, 10, 3, 4, 7, 40, 41, 42] .n ?_
  refine ifG rfl (fun c_16 => ?_) (fun c_16 => ?_)
  ·
   refine go 12 [0, 0, 0, 0, 0] [83, 74, 72, 3, 4, 7, 40, 41, 42] (.c (.s .z) .n) ⟨rfl, rfl, rfl, rfl, rfl, ?_⟩
   intro a w hs; refine zLg (u := (⟨(rl.getD k default).id, (rl.getD k default).p0, (rl.getD k default).p1, (rl.getD k default).p2, (rl.getD k default).v0, (rl.getD k default).v1, (rl.getD k default).v2, (rl.getD k default).a, 0#8⟩ : zAU)) hs rfl rfl rfl (.s (.s .z)) (by first | rfl | exact hku) underlying108 underlying3 ?_
   refine goL 2 [] [42, 3, 4, 7, 40, 41] .n ⟨(by omega), ?_⟩
   refine cl (·.drop (.c (.s (.s .z)) (.c (.s .z) .n))) ?_
   intro a w hs; refine ⟨_, ?_, k + 1, zIN (⟨(rl.getD k default).id, (rl.getD k default).p0, (rl.getD k default).p1, (rl.getD k default).p2, (rl.getD k default).v0, (rl.getD k default).v1, (rl.getD k default).v2, (rl.getD k default).a, 0#8⟩ : zAU) mm, rfl, hs.sub (.c rfl (.c rfl (.c rfl (.c rfl (.c rfl (.c rfl .n)))))), by omega, zIR (by omega) hI1_1 (zPe (by assumption : ((zET ((rl.getD k default).id) mm).isSome == (((rl.getD k default).k : Int) == 0)) = false) (by assumption))⟩
   omega
  obtain ⟨o, ho⟩ := zRq (by assumption : (zET ((rl.getD k default).id) mm).isSome = true)
  have hk0 := zTL (by assumption : ((zET ((rl.getD k default).id) mm).isSome == (((rl.getD k default).k : Int) == 0)) = false) ho
  intro a w hs; rw [ho] at hs
  revert a w hs
  refine go 4 [0] [84, 11, 10, 3, 4, 7, 40, 41, 42] (.c (.s .z) .n) ⟨rfl, ?_⟩
  refine ifG rfl (fun c_17 => ?_) (fun c_17 => ?_)
  ·
   refine go 3 [0] [90, 88, 3, 4, 7, 40, 41, 42] (.c .z .n) ⟨rfl, ?_⟩
   intro a w hs; refine zT6 hs rfl rfl (.s (.s .z)) underlying108 underlying3 rfl ?_
   refine goL 2 [] [42, 3, 4, 7, 40, 41] .n ⟨(by omega), ?_⟩
   refine cl (·.drop (.c (.s (.s .z)) (.c (.s .z) .n))) ?_
   intro a w hs; refine ⟨_, ?_, k + 1, zL7 ((rl.getD k default).id) mm, rfl, hs.sub (.c rfl (.c rfl (.c rfl (.c rfl (.c rfl (.c rfl .n)))))), by omega, zIR (by omega) hI1_1 (zOL ho (by assumption))⟩
   omega
  have hku := zUk hbp.2 (by omega) ho hk0 (by assumption)
  intro a w hs
  refine zAx [.p [] [], .p [] [], .p [1] [0], .p [] [1], .p [] [0], .v [4, 3] (.tuple #[.agg #[zI (((zG o (rl.getD k default)).1).id), zI (((zG o (rl.getD k default)).1).p0), zI (((zG o (rl.getD k default)).1).p1), zI (((zG o (rl.getD k default)).1).p2), zI (((zG o (rl.getD k default)).1).v0), zI (((zG o (rl.getD k default)).1).v1), zI (((zG o (rl.getD k default)).1).v2), .int .u16 (((((zG o (rl.getD k default)).1).a).toNat : Nat) : Int), bI (((zG o (rl.getD k default)).1).g)], nI ((zG o (rl.getD k default)).2)]), .p [5] [], .p [6] [], .p [6] [], .x [7, 2, 0] ⟨[mpr g9 (ekv mm)], [], [], fun vs18 => True, fun vs18 => [mpr g9 (ekv (zIN ((zG o (rl.getD k default)).1) mm))], none⟩] [] hs .n (.c (.s (.s .z)) .n) (.c .z (.c .z .n)) (by kernel_rfl) ⟨rfl, rfl, rfl, fun _ _ _ _ hm hs K => zH (v := .tuple #[.agg #[zI (((zG o (rl.getD k default)).1).id), zI (((zG o (rl.getD k default)).1).p0), zI (((zG o (rl.getD k default)).1).p1), zI (((zG o (rl.getD k default)).1).p2), zI (((zG o (rl.getD k default)).1).v0), zI (((zG o (rl.getD k default)).1).v1), zI (((zG o (rl.getD k default)).1).v2), .int .u16 (((((zG o (rl.getD k default)).1).a).toNat : Nat) : Int), bI (((zG o (rl.getD k default)).1).g)], nI ((zG o (rl.getD k default)).2)]) hs (.c rfl (.c rfl .n)) call51 (zRD o (rl.getD k default) _) rfl (vk K), ⟨(.c .z .n), by kernel_rfl, fun _ => rfl, rfl, rfl⟩, ⟨?_, trivial⟩, ?_⟩
  ·
   intro a_ w_ R_ rest_ vs18 hm hs ht hx
   have hs0 := hs.bare
   refine zLg (u := ((zG o (rl.getD k default)).1)) hs rfl rfl rfl .z (by first | rfl | exact hku) underlying108 underlying3 ?_; clear hs; intro a w hs
   exact wpList_nil ⟨rfl, .tuple #[], _, hs0, (.c (.c (.c .r))), hs, trivial⟩
  clear hs w a; intro vs18 a w hs hf
  clear hf
  revert a w hs
  refine goE 2 [] [42, 3, 4, 7, 40, 41] .n ⟨(by omega), ?_⟩
  refine cl (·.drop (.c (.s .z) (.c .z .n))) ?_
  refine cl (·.reorder (.c (.s (.s .z)) (.c .z (.c .z .n)))) ?_
  intro a w hs; refine ⟨_, ?_, k + 1, zIN ((zG o (rl.getD k default)).1) mm, rfl, hs.sub (.c rfl (.c rfl (.c rfl (.c rfl (.c rfl (.c rfl .n)))))), by omega, zIR (by omega) hI1_1 (zOZ ho hk0 (by assumption))⟩
  omega
 refine go 1 [] [92, 3, 4, 7] .n ?_
 intro a w hs; refine zTs hs rfl .z underlying108 rfl ?_
 refine goL 1 [] [94, 3, 4, 7] .n ?_
 refine ifG rfl (fun c_19 => ?_) (fun c_19 => ?_)
 ·
  refine go 3 [0] [5, 4] (.c (.s (.s .z)) .n) ⟨rfl, ?_⟩
  have hE : aE t tm l gt gtm gb rl = 4 := by first | exact zN8 (by omega) | exact zN7 (by omega) (by omega) (by omega) | exact zN4 (by omega) (by omega) (by omega) (by omega) | (rw [zJJ (by omega) hpre, ← hwas]; exact zDc (zD4 hsw hbp.2 (zGQ (by omega) hI1_1 (zEu (by assumption))))) | (rw [zJJ (by omega) hpre, ← hwas]; obtain ⟨l3, q1, q2, q3⟩ := zDK hsw hbp.2 (zE5 (by omega) hI1_1); exact zDW q1 (by rw [← q2.length_eq]; omega))
  have hS : aS t tm l gt gtm gb rl = ⟨0, 0, []⟩ := zN3 (by omega)
  refine cl (·.addNil 72 9) ?_
  intro a w hs; replace hs := hs.rerow .z (m' := (aS t tm l gt gtm gb rl).l.length) (xs' := ((aS t tm l gt gtm gb rl).l.flatMap zBQ)) (by rw [hS]; rfl) (by rw [hS]; rfl)
  exact zBV hs rfl rfl rfl (.s .z) (.z (.c (.c (.c .n)))) isAgg45 sizeOf45 (.c (.s (.s (.s .z))) (.c (.s (.s .z)) (.c (.s .z) .n))) ⟨_, by rw [hE, hS] <;> rfl, rfl⟩
 refine go 1 [] [96, 3, 4] .n ?_
 intro a w hs; refine zO hs (.c rfl .n) call53 .n (zPJ g9 _) rfl ?_; clear hs w a; rintro _ _ a w ⟨g20, rfl, rfl⟩ hs
 refine zO hs (.c rfl (.c rfl .n)) call52 (.c (.s .z) (.c .z .n)) (zNl g9 g20 mm _ (hs.mem.del (.s .z)) (hs.mem.del .z) (hs.mem.ndX (.c (.s .z) (.c .z .n))) (by omega)) rfl ?_; clear hs w a; rintro v21 _ a w ⟨l22, hp23, rfl⟩ hs
 have hk24 := hp23.1.length_eq
 revert a w hs
 refine goL 6 [0, 0] [103, 102, 100, 4] (.c (.s (.s (.s .z))) .n) ⟨rfl, rfl, ?_⟩
 intro a w hs; refine zHR (it := Tryz.t45) (zs := [zI 0, zI 0, .slice none 0 0]) (places := [(0, 1), (1, 1), (2, 1)]) hs (.c rfl (.c rfl (.c rfl .n))) underlying45 rfl rfl rfl rfl (.c rfl rfl (.z (.c .n)) (.c rfl rfl (.s (.z (.c .n))) (.c rfl (zM (hs.mem.del (.s .z))).isSl.lcells (.s (.s (.z (.c .n)))) .n))) rfl ?_
 intro a w hs; refine zA4 hs rfl rfl (.s (.s (.s (.s .z)))) (.z (.c (.c (.c .n)))) (zN rfl (zN rfl (zN (zM (hs.mem.del (.s .z))).isSl.one zBS))) sizeOf45 rfl ?_
 refine goL 1 [] [5, 4] .n ?_
 obtain ⟨l3, q1, q2, q3⟩ := zDK hsw hbp.2 (zE5 (by omega) hI1_1)
 have q4 : l22 = l3 := zQc (hp23.1.trans q2) hp23.2 q3
 have q5 := q2.length_eq
 have hE : aE t tm l gt gtm gb rl = 0 := by rw [zJJ (by omega) hpre, ← hwas]; exact zVS q1 (by omega)
 have hS : aS t tm l gt gtm gb rl = ⟨gt, gtm, l22⟩ := by rw [zUp hE, ← hwas, q1, q4]; rfl
 refine cl (·.rerow (.s (.s .z)) (m' := (aS t tm l gt gtm gb rl).l.length) (xs' := ((aS t tm l gt gtm gb rl).l.flatMap zBQ)) (by rw [hS]) (by rw [hS])) ?_
 intro a w hs; exact zBV hs rfl rfl rfl (.s .z) (.z (.c (.c (.c .n)))) isAgg45 sizeOf45 (.c (.s (.s (.s (.s .z)))) (.c (.s (.s (.s .z))) (.c (.s (.s .z)) (.c (.s .z) .n)))) ⟨_, by rw [hE, hS] <;> rfl, rfl⟩
end Go.Proofs.YtbacobmcfelmkaaGreat
