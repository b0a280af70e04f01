/- Walks of the document's snapshots: what each function does, over the program of this seat. Printed by a program of this session. -/
import Derived.Test.YtbacobmcfelmkaaGreatQSxStos
import Derived.Test.YtbacobmcfelmkaaGreatQSxRecs
import Derived.Test.YtbacobmcfelmkaaGreatQSxBasB
import Derived.Test.YtbacobmcfelmkaaGreatProg
namespace Go.Proofs.YtbacobmcfelmkaaGreat
open Tryz
open Go Go.Sx Go.RowKit
set_option linter.unusedVariables false
set_option linter.unusedSimpArgs false
set_option maxRecDepth 4000
set_option maxHeartbeats 1000000

theorem zNF (t tm : Int) (u : Value) (l : List zAU) (w0 : World) (ht_ : -9223372036854775808 ≤ t ∧ t ≤ 9223372036854775807) (htm_ : -9223372036854775808 ≤ tm ∧ tm ≤ 9223372036854775807) (hc : Rd w0 [] u 9 l.length (l.flatMap zBQ)) : Calls Tryz.prog 68 #[.agg #[zI t, zI tm, u]] w0 (zCn w0 (nI (zAP t tm l))) := by
 have hce := hc.le
 simp only [maxLen] at hce
 refine zT (F0 := [(0, .agg #[zI t, zI tm, u])]) func68 rfl rfl rfl (.c .n) (Mem.nil _) ?_
 refine go 6 [0, 0] [7, 1] .n (fun g1 => ⟨rfl, ?_⟩)
 intro a w hs; refine zAB (b := decide (t < 0)) (fun c_2 => ?_) (fun c_2 => ?_)
 ·
  rw [c_2] at hs
  replace c_2 := of_decide_eq_true c_2
  revert a w hs
  refine go 16 [] [2] .n ?_
  refine cl (·.drop (.c .z .n)) ?_
  intro a w hs; exact fin hs rfl rfl ⟨congrArg (fun z : Nat => Value.int .i64 (z : Int)) (show 3 = zAP t tm l from by first | exact (zBO (by omega)).symm | exact (zBP (by omega) (by omega)).symm | (rw [zBK (by omega) (by omega)]; first | exact ((zAF (j := j) (by omega) hI1_1 (by rw [zAt (by omega)]; decide)).trans (zAt (by omega))).symm | exact ((zAF (j := j) (by omega) hI1_1 (by rw [zAY (by omega) (by omega)]; decide)).trans (zAY (by omega) (by omega))).symm | (unfold zBW; rw [← show j = l.length by omega]; exact hI1_1.symm))), rfl⟩
 rw [c_2] at hs
 replace c_2 := of_decide_eq_false c_2
 revert a w hs
 refine go 5 [0] [12, 1] (.c .z .n) ⟨rfl, ?_⟩
 intro a w hs; refine zAB (b := decide (4294967295 < t)) (fun c_3 => ?_) (fun c_3 => ?_)
 ·
  rw [c_3] at hs
  replace c_3 := of_decide_eq_true c_3
  revert a w hs
  refine go 11 [] [2] .n ?_
  refine cl (·.drop (.c .z .n)) ?_
  intro a w hs; exact fin hs rfl rfl ⟨congrArg (fun z : Nat => Value.int .i64 (z : Int)) (show 3 = zAP t tm l from by first | exact (zBO (by omega)).symm | exact (zBP (by omega) (by omega)).symm | (rw [zBK (by omega) (by omega)]; first | exact ((zAF (j := j) (by omega) hI1_1 (by rw [zAt (by omega)]; decide)).trans (zAt (by omega))).symm | exact ((zAF (j := j) (by omega) hI1_1 (by rw [zAY (by omega) (by omega)]; decide)).trans (zAY (by omega) (by omega))).symm | (unfold zBW; rw [← show j = l.length by omega]; exact hI1_1.symm))), rfl⟩
 rw [c_3] at hs
 replace c_3 := of_decide_eq_false c_3
 revert a w hs
 refine go 5 [0] [17, 1] (.c .z .n) ⟨rfl, ?_⟩
 intro a w hs; refine zAB (b := decide (tm < (-2305843009213693952))) (fun c_4 => ?_) (fun c_4 => ?_)
 ·
  rw [c_4] at hs
  replace c_4 := of_decide_eq_true c_4
  revert a w hs
  refine go 6 [] [2] .n ?_
  refine cl (·.drop (.c .z .n)) ?_
  intro a w hs; exact fin hs rfl rfl ⟨congrArg (fun z : Nat => Value.int .i64 (z : Int)) (show 3 = zAP t tm l from by first | exact (zBO (by omega)).symm | exact (zBP (by omega) (by omega)).symm | (rw [zBK (by omega) (by omega)]; first | exact ((zAF (j := j) (by omega) hI1_1 (by rw [zAt (by omega)]; decide)).trans (zAt (by omega))).symm | exact ((zAF (j := j) (by omega) hI1_1 (by rw [zAY (by omega) (by omega)]; decide)).trans (zAY (by omega) (by omega))).symm | (unfold zBW; rw [← show j = l.length by omega]; exact hI1_1.symm))), rfl⟩
 rw [c_4] at hs
 replace c_4 := of_decide_eq_false c_4
 revert a w hs
 refine go 4 [0] [21, 1] (.c .z .n) ⟨rfl, ?_⟩
 refine ifG rfl (fun c_5 => ?_) (fun c_5 => ?_)
 ·
  refine go 1 [] [2] .n ?_
  refine cl (·.drop (.c .z .n)) ?_
  intro a w hs; exact fin hs rfl rfl ⟨congrArg (fun z : Nat => Value.int .i64 (z : Int)) (show 3 = zAP t tm l from by first | exact (zBO (by omega)).symm | exact (zBP (by omega) (by omega)).symm | (rw [zBK (by omega) (by omega)]; first | exact ((zAF (j := j) (by omega) hI1_1 (by rw [zAt (by omega)]; decide)).trans (zAt (by omega))).symm | exact ((zAF (j := j) (by omega) hI1_1 (by rw [zAY (by omega) (by omega)]; decide)).trans (zAY (by omega) (by omega))).symm | (unfold zBW; rw [← show j = l.length by omega]; exact hI1_1.symm))), rfl⟩
 refine go 2 [0] [23, 1] (.c .z .n) ⟨rfl, ?_⟩
 intro a w hs; refine zAG hs rfl (hs.rd0 hc).isSl underlying43 rfl ?_
 refine goL 1 [] [25, 1] .n ?_
 refine ifG rfl (fun c_6 => ?_) (fun c_6 => ?_)
 ·
  refine go 1 [] [2] .n ?_
  refine cl (·.drop (.c .z .n)) ?_
  intro a w hs; exact fin hs rfl rfl ⟨congrArg (fun z : Nat => Value.int .i64 (z : Int)) (show 4 = zAP t tm l from by first | exact (zBO (by omega)).symm | exact (zBP (by omega) (by omega)).symm | (rw [zBK (by omega) (by omega)]; first | exact ((zAF (j := j) (by omega) hI1_1 (by rw [zAt (by omega)]; decide)).trans (zAt (by omega))).symm | exact ((zAF (j := j) (by omega) hI1_1 (by rw [zAY (by omega) (by omega)]; decide)).trans (zAY (by omega) (by omega))).symm | (unfold zBW; rw [← show j = l.length by omega]; exact hI1_1.symm))), rfl⟩
 refine go 1 [] [3, 1] .n ?_
 intro a w hs; refine zCA (fun mm_ a w => ∃ j : Nat, mm_ = l.length - j ∧ St 67 [(1, pt g1 0), (3, zI (j : Int))] w0 [] [blk g1 [zI t, zI tm, u] 45] a w ∧ j ≤ l.length ∧ zDm l j = 0) ⟨0, rfl, hs.sub (.c rfl (.c rfl .n)), by omega, rfl⟩ ?_
 clear hs w a; rintro mm_ a w ⟨j, rfl, hs, hI1_0, hI1_1⟩
 have hel := zM8 l j
 revert a w hs
 refine go 3 [0] [28, 26, 1, 3] (.c .z .n) ⟨rfl, ?_⟩
 intro a w hs; refine zAG hs rfl (hs.rd0 hc).isSl underlying43 rfl ?_
 refine goL 1 [] [30, 1, 3] .n ?_
 refine ifG rfl (fun c_7 => ?_) (fun c_7 => ?_)
 ·
  refine go 3 [0] [35, 34, 1, 3] (.c .z .n) ⟨rfl, ?_⟩
  intro a w hs; refine zBj (j := j) hs rfl rfl (hs.rd0 hc) rfl (by omega) underlying43 sizeOf72 rfl ?_
  intro a w hs; refine zBn hs rfl (hs.rd0 hc) (by omega) underlying72 rfl sizeOf3 (by decide) (o := j * 9 + 0) rfl rfl ?_
  intro a w hs; refine zA7 (u := zI ((l.getD j default).id)) hs rfl (hs.rd0 hc) ((zAf zBN l j 0 (by omega) (by decide)).trans rfl) isAgg3 rfl ?_
  refine goL 2 [] [40, 1, 3] .n ?_
  intro a w hs; refine zAB (b := decide (((l.getD j default).id) < 0)) (fun c_8 => ?_) (fun c_8 => ?_)
  ·
   rw [c_8] at hs
   replace c_8 := of_decide_eq_true c_8
   revert a w hs
   refine go 10 [] [2] .n ?_
   refine cl (·.drop (.c .z .n)) ?_
   intro a w hs; exact fin hs rfl rfl ⟨congrArg (fun z : Nat => Value.int .i64 (z : Int)) (show 3 = zAP t tm l from by first | exact (zBO (by omega)).symm | exact (zBP (by omega) (by omega)).symm | (rw [zBK (by omega) (by omega)]; first | exact ((zAF (j := j) (by omega) hI1_1 (by rw [zAt (by omega)]; decide)).trans (zAt (by omega))).symm | exact ((zAF (j := j) (by omega) hI1_1 (by rw [zAY (by omega) (by omega)]; decide)).trans (zAY (by omega) (by omega))).symm | (unfold zBW; rw [← show j = l.length by omega]; exact hI1_1.symm))), rfl⟩
  rw [c_8] at hs
  replace c_8 := of_decide_eq_false c_8
  revert a w hs
  refine go 3 [0] [43, 42, 40, 1, 3] (.c .z .n) ⟨rfl, ?_⟩
  intro a w hs; refine zC hs rfl rfl rfl ?_
  refine zBj (j := j) hs rfl rfl (hs.rd0 hc) rfl (by omega) underlying43 sizeOf72 rfl ?_
  intro a w hs; refine zC hs rfl rfl rfl ?_
  refine zBn hs rfl (hs.rd0 hc) (by omega) underlying72 rfl sizeOf3 (by decide) (o := j * 9 + 0) rfl rfl ?_
  intro a w hs; refine zC hs rfl rfl rfl ?_
  refine zA7 (u := zI ((l.getD j default).id)) hs rfl (hs.rd0 hc) ((zAf zBN l j 0 (by omega) (by decide)).trans rfl) isAgg3 rfl ?_
  refine goL 2 [] [48, 1, 3] .n ?_
  refine ifG rfl (fun c_9 => ?_) (fun c_9 => ?_)
  ·
   refine go 1 [] [2] .n ?_
   refine cl (·.drop (.c .z .n)) ?_
   intro a w hs; exact fin hs rfl rfl ⟨congrArg (fun z : Nat => Value.int .i64 (z : Int)) (show 3 = zAP t tm l from by first | exact (zBO (by omega)).symm | exact (zBP (by omega) (by omega)).symm | (rw [zBK (by omega) (by omega)]; first | exact ((zAF (j := j) (by omega) hI1_1 (by rw [zAt (by omega)]; decide)).trans (zAt (by omega))).symm | exact ((zAF (j := j) (by omega) hI1_1 (by rw [zAY (by omega) (by omega)]; decide)).trans (zAY (by omega) (by omega))).symm | (unfold zBW; rw [← show j = l.length by omega]; exact hI1_1.symm))), rfl⟩
  refine go 0 [] [1, 3] .n ?_
  by_cases cz : 0 < j
  ·
   intro a w hs
   refine zS [.p [] [], .v [0] (.bool (true)), .p [1] [], .p [2] [], .p [3, 2] [0], .p [2] [], .v [5, 4, 2] (.pointer (some (adr u (j * 9)))), .v [6, 2] (.pointer (some (adr u (j * 9 + 0)))), .v [7, 2] (zI ((l.getD j default).id)), .p [2] [], .p [9, 2] [0], .p [2] [], .v [11, 2] (nI (j - 1)), .v [12, 10, 2] (.pointer (some (adr u ((j - 1) * 9)))), .v [13, 2] (.pointer (some (adr u ((j - 1) * 9 + 0)))), .v [14, 2] (zI ((l.getD (j - 1) default).id)), .p [15, 8, 2] [], .p [16, 2] []] [17] hs .n (.c .z .n) (by kernel_rfl) ⟨fun _ _ _ _ hm hs K => zFZ hs rfl rfl rfl (fun a w hs => wpList_nil (K _ _ (by rw [show (decide (0 < (j : Int))) = true from decide_eq_true (by omega)] at hs; exact hs))), rfl, fun _ _ _ _ hm hs K => zC hs rfl rfl rfl (zBj (j := j) hs rfl rfl (hm.rd0 hc) rfl (by omega) underlying43 sizeOf72 rfl (vk K)), fun _ _ _ _ hm hs K => zC hs rfl rfl rfl (zBn hs rfl (hm.rd0 hc) (by omega) underlying72 rfl sizeOf3 (by decide) (o := j * 9 + 0) rfl rfl (vk K)), fun _ _ _ _ hm hs K => zC hs rfl rfl rfl (zA7 (u := zI ((l.getD j default).id)) hs rfl (hm.rd0 hc) ((zAf zBN l j 0 (by omega) (by decide)).trans rfl) isAgg3 rfl (vk K)), rfl, ?_, fun _ _ _ _ hm hs K => zC hs rfl rfl rfl (zBj (j := (j - 1)) hs rfl rfl (hm.rd0 hc) rfl (by omega) underlying43 sizeOf72 rfl (vk K)), fun _ _ _ _ hm hs K => zC hs rfl rfl rfl (zBn hs rfl (hm.rd0 hc) (by omega) underlying72 rfl sizeOf3 (by decide) (o := (j - 1) * 9 + 0) rfl rfl (vk K)), fun _ _ _ _ hm hs K => zC hs rfl rfl rfl (zA7 (u := zI ((l.getD (j - 1) default).id)) hs rfl (hm.rd0 hc) ((zAf zBN l (j - 1) 0 (by omega) (by decide)).trans rfl) isAgg3 rfl (vk K)), ⟨rfl, by kernel_rfl, fun _ => rfl, rfl, rfl, trivial⟩, fun _ => rfl, ?_⟩
   ·
    intro a_ w_ R_ Q_ hm hs K_
    refine zC hs rfl rfl rfl ?_
    refine zFo hs rfl rfl (by omega) rfl ?_; clear hs; intro a w hs
    have hv_ : ((j : Int) - 1 : Int) = (((j - 1 : Nat) : Int) : Int) := by omega
    rw [hv_] at hs; clear hv_
    exact wpList_nil (K_ _ _ hs)
   refine goE 0 [] [66, 1, 3] .n ?_
   refine ifG rfl (fun c_11 => ?_) (fun c_11 => ?_)
   ·
    refine go 1 [] [2] .n ?_
    refine cl (·.drop (.c .z .n)) ?_
    intro a w hs; exact fin hs rfl rfl ⟨congrArg (fun z : Nat => Value.int .i64 (z : Int)) (show 10 = zAP t tm l from by first | exact (zBO (by omega)).symm | exact (zBP (by omega) (by omega)).symm | (rw [zBK (by omega) (by omega)]; first | exact ((zAF (j := j) (by omega) hI1_1 (by rw [zAt (by omega)]; decide)).trans (zAt (by omega))).symm | exact ((zAF (j := j) (by omega) hI1_1 (by rw [zAY (by omega) (by omega)]; decide)).trans (zAY (by omega) (by omega))).symm | (unfold zBW; rw [← show j = l.length by omega]; exact hI1_1.symm))), rfl⟩
   refine go 3 [] [3, 1] .n ⟨(by omega), ?_⟩
   intro a w hs; refine ⟨_, ?_, j + 1, rfl, hs.sub (.c rfl (.c rfl .n)), by omega, zHQ hI1_1 (zJe (by omega) (by omega))⟩
   omega
  intro a w hs
  refine zS [.p [] [], .v [0] (.bool (false)), .p [1] [], .p [2] [], .p [3, 2] [], .p [2] [], .p [5, 4, 2] [], .p [6, 2] [], .p [7, 2] [], .p [2] [], .p [9, 2] [], .p [2] [], .v [11, 2] undef, .p [12, 10, 2] [], .p [13, 2] [], .p [14, 2] [], .p [15, 8, 2] [], .p [16, 2] []] [17] hs .n .n (by kernel_rfl) ⟨fun _ _ _ _ hm hs K => zFZ hs rfl rfl rfl (fun a w hs => wpList_nil (K _ _ (by rw [show (decide (0 < (j : Int))) = false from decide_eq_false (by omega)] at hs; exact hs))), fun _ _ _ _ hm hs K => zAz hs rfl rfl rfl rfl rfl (vk K), ⟨rfl, by kernel_rfl, fun _ => rfl, rfl, rfl, trivial⟩, fun _ => rfl, ?_⟩
  refine goE 4 [] [3, 1] .n ⟨(by omega), ?_⟩
  intro a w hs; refine ⟨_, ?_, j + 1, rfl, hs.sub (.c rfl (.c rfl .n)), by omega, zHQ hI1_1 (zJe (by omega) (by omega))⟩
  omega
 refine go 1 [] [2] .n ?_
 refine cl (·.drop (.c .z .n)) ?_
 intro a w hs; exact fin hs rfl rfl ⟨congrArg (fun z : Nat => Value.int .i64 (z : Int)) (show 0 = zAP t tm l from by first | exact (zBO (by omega)).symm | exact (zBP (by omega) (by omega)).symm | (rw [zBK (by omega) (by omega)]; first | exact ((zAF (j := j) (by omega) hI1_1 (by rw [zAt (by omega)]; decide)).trans (zAt (by omega))).symm | exact ((zAF (j := j) (by omega) hI1_1 (by rw [zAY (by omega) (by omega)]; decide)).trans (zAY (by omega) (by omega))).symm | (unfold zBW; rw [← show j = l.length by omega]; exact hI1_1.symm))), rfl⟩
theorem zL2 (t tm : Int) (u : Value) (l : List zAU) (t2 tm2 : Int) (u2 : Value) (l2 : List zAU) (w0 : World) (hc : Rd w0 [] u 9 l.length (l.flatMap zBQ)) (hc2 : Rd w0 [] u2 9 l2.length (l2.flatMap zBQ)) : Calls Tryz.prog 16 #[.agg #[zI t, zI tm, u], .agg #[zI t2, zI tm2, u2]] w0 (zCn w0 (.bool (zFl t tm l t2 tm2 l2))) := by
 have hce := hc.le
 simp only [maxLen] at hce
 have hce2 := hc2.le
 simp only [maxLen] at hce2
 refine zT (F0 := [(0, .agg #[zI t, zI tm, u]), (1, .agg #[zI t2, zI tm2, u2])]) func16 rfl rfl rfl (.c (.c .n)) (Mem.nil _) ?_
 refine go 9 [0, 0, 1, 0] [11, 3, 2] .n (fun g1 => fun g2 => ⟨rfl, rfl, ?_⟩)
 intro a w hs; refine zAB (b := !((t : Int) == t2)) (fun c_3 => ?_) (fun c_3 => ?_)
 ·
  rw [c_3] at hs
  replace c_3 := zHB c_3
  replace c_3 := zAK c_3
  revert a w hs
  refine go 17 [] [4] .n ?_
  refine cl (·.drop (.c (.s .z) (.c .z .n))) ?_
  intro a w hs; exact fin hs rfl rfl ⟨congrArg Value.bool (show false = zFl t tm l t2 tm2 l2 from (by first | exact (zGg (by omega) (by omega) (zHq (by omega) fun i hi => hI1_1 i (by omega))).symm | exact (zHe fun ⟨_, _, e⟩ => by first | omega | (exact zH8 (by assumption) e) | (have := congrArg List.length e; omega)).symm)), rfl⟩
 rw [c_3] at hs
 replace c_3 := zHC c_3
 replace c_3 := eq_of_beq c_3
 revert a w hs
 refine go 7 [0, 1] [18, 3, 2] (.c (.s .z) (.c .z .n)) ⟨rfl, rfl, ?_⟩
 intro a w hs; refine zAB (b := !((tm : Int) == tm2)) (fun c_4 => ?_) (fun c_4 => ?_)
 ·
  rw [c_4] at hs
  replace c_4 := zHB c_4
  replace c_4 := zAK c_4
  revert a w hs
  refine go 10 [] [4] .n ?_
  refine cl (·.drop (.c (.s .z) (.c .z .n))) ?_
  intro a w hs; exact fin hs rfl rfl ⟨congrArg Value.bool (show false = zFl t tm l t2 tm2 l2 from (by first | exact (zGg (by omega) (by omega) (zHq (by omega) fun i hi => hI1_1 i (by omega))).symm | exact (zHe fun ⟨_, _, e⟩ => by first | omega | (exact zH8 (by assumption) e) | (have := congrArg List.length e; omega)).symm)), rfl⟩
 rw [c_4] at hs
 replace c_4 := zHC c_4
 replace c_4 := eq_of_beq c_4
 revert a w hs
 refine go 2 [0] [20, 18, 3, 2] (.c .z .n) ⟨rfl, ?_⟩
 intro a w hs; refine zC hs rfl rfl rfl ?_
 refine zAG hs rfl (hs.rd0 hc).isSl underlying43 rfl ?_
 refine goL 2 [0] [23, 21, 18, 3, 2] (.c (.s .z) .n) ⟨rfl, ?_⟩
 intro a w hs; refine zC hs rfl rfl rfl ?_
 refine zAG hs rfl (hs.rd0 hc2).isSl underlying43 rfl ?_
 refine goL 2 [] [26, 3, 2] .n ?_
 refine ifG rfl (fun c_5 => ?_) (fun c_5 => ?_)
 ·
  refine go 1 [] [4] .n ?_
  refine cl (·.drop (.c (.s .z) (.c .z .n))) ?_
  intro a w hs; exact fin hs rfl rfl ⟨congrArg Value.bool (show false = zFl t tm l t2 tm2 l2 from (by first | exact (zGg (by omega) (by omega) (zHq (by omega) fun i hi => hI1_1 i (by omega))).symm | exact (zHe fun ⟨_, _, e⟩ => by first | omega | (exact zH8 (by assumption) e) | (have := congrArg List.length e; omega)).symm)), rfl⟩
 refine go 1 [] [5, 3, 2] .n ?_
 intro a w hs; refine zCA (fun mm_ a w => ∃ j : Nat, mm_ = l.length - j ∧ St 45 [(2, pt g1 0), (3, pt g2 0), (5, zI (j : Int))] w0 [] [blk g2 [zI t2, zI tm2, u2] 45, blk g1 [zI t, zI tm, u] 45] a w ∧ j ≤ l.length ∧ ∀ i, i < j → l.getD i default = l2.getD i default) ⟨0, rfl, hs.sub (.c rfl (.c rfl (.c rfl .n))), by omega, fun i hi => absurd hi (Nat.not_lt_zero i)⟩ ?_
 clear hs w a; rintro mm_ a w ⟨j, rfl, hs, hI1_0, hI1_1⟩
 revert a w hs
 refine go 3 [0] [29, 27, 2, 3, 5] (.c (.s .z) .n) ⟨rfl, ?_⟩
 intro a w hs; refine zAG hs rfl (hs.rd0 hc).isSl underlying43 rfl ?_
 refine goL 1 [] [31, 2, 3, 5] .n ?_
 refine ifG rfl (fun c_6 => ?_) (fun c_6 => ?_)
 ·
  refine go 0 [] [2, 3, 5] .n ?_
  intro a w hs
  refine zS [.p [] [], .p [0] [0], .p [] [], .v [2, 1] (.pointer (some (adr u (j * 9)))), .v [3] (.agg #[zI ((l.getD j default).id), zI ((l.getD j default).p0), zI ((l.getD j default).p1), zI ((l.getD j default).p2), zI ((l.getD j default).v0), zI ((l.getD j default).v1), zI ((l.getD j default).v2), .int .u16 ((((l.getD j default).a).toNat : Nat) : Int), bI ((l.getD j default).g)]), .p [] [], .p [5] [1], .p [] [], .v [7, 6] (.pointer (some (adr u2 (j * 9)))), .v [8] (.agg #[zI ((l2.getD j default).id), zI ((l2.getD j default).p0), zI ((l2.getD j default).p1), zI ((l2.getD j default).p2), zI ((l2.getD j default).v0), zI ((l2.getD j default).v1), zI ((l2.getD j default).v2), .int .u16 ((((l2.getD j default).a).toNat : Nat) : Int), bI ((l2.getD j default).g)]), .p [9, 4] []] [10] hs .n (.c .z (.c .z .n)) (by kernel_rfl) ⟨rfl, fun _ _ _ _ hm hs K => zBj (j := j) hs rfl rfl (hm.rd0 hc) rfl (by omega) underlying43 sizeOf72 rfl (vk K), fun _ _ _ _ hm hs K => zCm (cs := zBQ (l.getD j default)) hs rfl (hm.rd0 hc) (zBe zBN l j (by omega)) (by rw [zBH zBN]; omega) (by omega) isAgg72 sizeOf72 rfl (vk K), rfl, fun _ _ _ _ hm hs K => zBj (j := j) hs rfl rfl (hm.rd0 hc2) rfl (by omega) underlying43 sizeOf72 rfl (vk K), fun _ _ _ _ hm hs K => zCm (cs := zBQ (l2.getD j default)) hs rfl (hm.rd0 hc2) (zBe zBN l2 j (by omega)) (by rw [zBH zBN]; omega) (by omega) isAgg72 sizeOf72 rfl (vk K), by kernel_rfl, ⟨rfl, by kernel_rfl, fun _ => rfl, rfl, rfl, trivial⟩, fun _ => rfl, ?_⟩
  refine goE 0 [] [44, 2, 3, 5] .n ?_
  refine zS3 rfl (fun c_8 => ?_) (fun c_8 => ?_)
  ·
   replace c_8 := zHB c_8
   have hne_ : l.getD j default ≠ l2.getD j default := fun e => by have h1 := zQJ.2 e; rw [show zAg (zBQ (l.getD j default)) (zBQ (l2.getD j default)) = false by assumption] at h1; cases h1
   refine go 1 [] [4] .n ?_
   refine cl (·.drop (.c (.s .z) (.c .z .n))) ?_
   intro a w hs; exact fin hs rfl rfl ⟨congrArg Value.bool (show false = zFl t tm l t2 tm2 l2 from (by first | exact (zGg (by omega) (by omega) (zHq (by omega) fun i hi => hI1_1 i (by omega))).symm | exact (zHe fun ⟨_, _, e⟩ => by first | omega | (exact zH8 (by assumption) e) | (have := congrArg List.length e; omega)).symm)), rfl⟩
  replace c_8 := zHC c_8
  have heq_ : l.getD j default = l2.getD j default := zQJ.1 (by assumption)
  refine go 3 [] [5, 2, 3] .n ⟨(by omega), ?_⟩
  refine cl (·.reorder (.c (.s .z) (.c .z .n))) ?_
  intro a w hs; refine ⟨_, ?_, j + 1, rfl, hs.sub (.c rfl (.c rfl (.c rfl .n))), by omega, zRf hI1_1 heq_⟩
  omega
 refine go 1 [] [4] .n ?_
 refine cl (·.drop (.c (.s .z) (.c .z .n))) ?_
 intro a w hs; exact fin hs rfl rfl ⟨congrArg Value.bool (show true = zFl t tm l t2 tm2 l2 from (by first | exact (zGg (by omega) (by omega) (zHq (by omega) fun i hi => hI1_1 i (by omega))).symm | exact (zHe fun ⟨_, _, e⟩ => by first | omega | (exact zH8 (by assumption) e) | (have := congrArg List.length e; omega)).symm)), rfl⟩
end Go.Proofs.YtbacobmcfelmkaaGreat
