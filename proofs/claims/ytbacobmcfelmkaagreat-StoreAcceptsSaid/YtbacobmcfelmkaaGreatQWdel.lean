/- Walks of delta: what each function does, over the program of this seat. Printed by a program of this session. -/
import Derived.Test.YtbacobmcfelmkaaGreatQWdelI
import Derived.Test.YtbacobmcfelmkaaGreatQWgram
import Derived.Test.YtbacobmcfelmkaaGreatQWrec4
import Derived.Test.YtbacobmcfelmkaaGreatQSxDel
import Derived.Test.YtbacobmcfelmkaaGreatQSxBasB
namespace Go.Proofs.YtbacobmcfelmkaaGreat
open Tryz
open Go Go.Sx Go.RowKit
set_option linter.unusedVariables false
set_option linter.unusedSimpArgs false
set_option maxRecDepth 4000
set_option maxHeartbeats 1000000

theorem zNe (g bx : Nat) (l : List zAU) (w0 : World) (hg : (mpr g (ekv l)).p w0) (hb : (blk bx [.map (some g)] 108).p w0) (hnd : (zX [mpr g (ekv l), blk bx [.map (some g)] 108]).Nodup) (hl : l.length ≤ 100000) : Calls Tryz.prog 82 #[.func (.func 84) #[] #[pt bx 0]] w0 (Ret w0 (zX [mpr g (ekv l), blk bx [.map (some g)] 108]) fun u N => ∃ l' : List zAU, l'.Perm l ∧ N = [row u 72 9 l'.length (l'.flatMap zBQ), mpr g (ekv l), blk bx [.map (some g)] 108]) := by
 refine zT (F0 := [(0, .func (.func 84) #[] #[pt bx 0])]) func82 rfl rfl rfl (.c .n) (zDo hg hb hnd) ?_
 refine go 2 [] [3] .n ?_
 intro a w hs; refine zO hs (.c rfl (.c rfl .n)) call104 (.c .z (.c .z .n)) (zOm g bx l _ (hs.mem.del .z) (hs.mem.del (.s .z)) (hs.mem.ndX (.c .z (.c .z .n))) (by omega)) rfl ?_; clear hs w a; rintro v1 _ a w ⟨l2, hp3, rfl⟩ hs
 have hk4 := hp3.length_eq
 revert a w hs
 refine goL 1 [] [2] .n ?_
 intro a w hs; exact fin hs rfl rfl ⟨_, hp3, rfl⟩
theorem zNl (g bx : Nat) (l : List zAU) (w0 : World) (hg : (mpr g (ekv l)).p w0) (hb : (blk bx [.map (some g)] 108).p w0) (hnd : (zX [mpr g (ekv l), blk bx [.map (some g)] 108]).Nodup) (hl : l.length ≤ 100000) : Calls Tryz.prog 52 #[.func (.func 84) #[] #[pt bx 0], .func (.func 54) #[] #[]] w0 (Ret w0 (zX [mpr g (ekv l), blk bx [.map (some g)] 108]) fun u N => ∃ l' : List zAU, (l'.Perm l ∧ l'.Pairwise (fun x y => x.id ≤ y.id)) ∧ N = [row u 72 9 l'.length (l'.flatMap zBQ), mpr g (ekv l), blk bx [.map (some g)] 108]) := by
 refine zT (F0 := [(0, .func (.func 84) #[] #[pt bx 0]), (1, .func (.func 54) #[] #[])]) func52 rfl rfl rfl (.c (.c .n)) (zDo hg hb hnd) ?_
 refine go 2 [] [6, 1] .n ?_
 intro a w hs; refine zO hs (.c rfl .n) call82 (.c .z (.c .z .n)) (zNe g bx l _ (hs.mem.del .z) (hs.mem.del (.s .z)) (hs.mem.ndX (.c .z (.c .z .n))) (by omega)) rfl ?_; clear hs w a; rintro v1 _ a w ⟨l2, hp3, rfl⟩ hs
 have hk4 := hp3.length_eq
 revert a w hs
 refine goL 3 [] [9, 8, 5] .n ?_
 intro a w hs; refine zO hs (.c rfl (.c rfl .n)) call83 (.c .z .n) (zRB (hs.mem.del .z) (by first | omega | (simp; done) | (simp; omega)) (by first | omega | (simp; omega))) rfl ?_; clear hs w a; rintro _ _ a w ⟨rfl, l5, ⟨hp6, hs7⟩, rfl⟩ hs
 revert a w hs
 refine goL 2 [] [4] .n ?_
 refine cl (·.rerow .z (m' := l5.length) (xs' := (l5.flatMap zBQ)) (hp6.length_eq.symm) (rfl)) ?_
 intro a w hs; exact fin hs rfl rfl ⟨_, ⟨hp6.trans hp3, hs7⟩, rfl⟩
theorem zPJ (g : Nat) (w0 : World) : Calls Tryz.prog 53 #[.map (some g)] w0 (Ret w0 [] fun u N => ∃ bx, u = .func (.func 84) #[] #[pt bx 0] ∧ N = [blk bx [.map (some g)] 108]) := by
 refine zT (F0 := [(0, .map (some g))]) func53 rfl rfl rfl (.c .n) (Mem.nil _) ?_
 refine go 4 [0] [2] .n (fun g1 => ?_)
 intro a w hs; exact fin hs rfl rfl ⟨_, rfl, rfl⟩
theorem zPc (t tm : Int) (u : Value) (l : List zAU) (w0 : World) (ht_ : -9223372036854775808 ≤ t ∧ t ≤ 9223372036854775807) (htm_ : -9223372036854775808 ≤ tm ∧ tm ≤ 9223372036854775807) (hc : Rd w0 [] u 9 l.length (l.flatMap zBQ)) : Calls Tryz.prog 49 #[.agg #[zI t, zI tm, u]] w0 (zCn w0 (nI (zAP t tm l))) := by
 have hce := hc.le
 simp only [maxLen] at hce
 refine zT (F0 := [(0, .agg #[zI t, zI tm, u])]) func49 rfl rfl rfl (.c .n) (Mem.nil _) ?_
 refine go 6 [0, 0] [10, 1] .n (fun g1 => ⟨rfl, ?_⟩)
 intro a w hs; refine zAB (b := decide (t < 0)) (fun c_2 => ?_) (fun c_2 => ?_)
 ·
  rw [c_2] at hs
  replace c_2 := of_decide_eq_true c_2
  revert a w hs
  refine go 17 [] [2] .n ?_
  refine cl (·.drop (.c .z .n)) ?_
  intro a w hs; exact fin hs rfl rfl ⟨congrArg (fun z : Nat => Value.int .i64 (z : Int)) (show 3 = zAP t tm l from by first | exact (zBO (by omega)).symm | exact (zBP (by omega) (by omega)).symm | (rw [zBK (by omega) (by omega)]; first | exact ((zAF (j := j) (by omega) hI1_1 (by rw [zAt (by omega)]; decide)).trans (zAt (by omega))).symm | exact ((zAF (j := j) (by omega) hI1_1 (by rw [zAY (by omega) (by omega)]; decide)).trans (zAY (by omega) (by omega))).symm | (unfold zBW; rw [← show j = l.length by omega]; exact hI1_1.symm))), rfl⟩
 rw [c_2] at hs
 replace c_2 := of_decide_eq_false c_2
 revert a w hs
 refine go 5 [0] [15, 1] (.c .z .n) ⟨rfl, ?_⟩
 intro a w hs; refine zAB (b := decide (4294967295 < t)) (fun c_3 => ?_) (fun c_3 => ?_)
 ·
  rw [c_3] at hs
  replace c_3 := of_decide_eq_true c_3
  revert a w hs
  refine go 12 [] [2] .n ?_
  refine cl (·.drop (.c .z .n)) ?_
  intro a w hs; exact fin hs rfl rfl ⟨congrArg (fun z : Nat => Value.int .i64 (z : Int)) (show 3 = zAP t tm l from by first | exact (zBO (by omega)).symm | exact (zBP (by omega) (by omega)).symm | (rw [zBK (by omega) (by omega)]; first | exact ((zAF (j := j) (by omega) hI1_1 (by rw [zAt (by omega)]; decide)).trans (zAt (by omega))).symm | exact ((zAF (j := j) (by omega) hI1_1 (by rw [zAY (by omega) (by omega)]; decide)).trans (zAY (by omega) (by omega))).symm | (unfold zBW; rw [← show j = l.length by omega]; exact hI1_1.symm))), rfl⟩
 rw [c_3] at hs
 replace c_3 := of_decide_eq_false c_3
 revert a w hs
 refine go 5 [0] [20, 1] (.c .z .n) ⟨rfl, ?_⟩
 intro a w hs; refine zAB (b := decide (tm < (-2305843009213693952))) (fun c_4 => ?_) (fun c_4 => ?_)
 ·
  rw [c_4] at hs
  replace c_4 := of_decide_eq_true c_4
  revert a w hs
  refine go 7 [] [2] .n ?_
  refine cl (·.drop (.c .z .n)) ?_
  intro a w hs; exact fin hs rfl rfl ⟨congrArg (fun z : Nat => Value.int .i64 (z : Int)) (show 3 = zAP t tm l from by first | exact (zBO (by omega)).symm | exact (zBP (by omega) (by omega)).symm | (rw [zBK (by omega) (by omega)]; first | exact ((zAF (j := j) (by omega) hI1_1 (by rw [zAt (by omega)]; decide)).trans (zAt (by omega))).symm | exact ((zAF (j := j) (by omega) hI1_1 (by rw [zAY (by omega) (by omega)]; decide)).trans (zAY (by omega) (by omega))).symm | (unfold zBW; rw [← show j = l.length by omega]; exact hI1_1.symm))), rfl⟩
 rw [c_4] at hs
 replace c_4 := of_decide_eq_false c_4
 revert a w hs
 refine go 5 [0] [6, 1] (.c .z .n) ⟨rfl, ?_⟩
 refine ifG rfl (fun c_5 => ?_) (fun c_5 => ?_)
 ·
  refine go 1 [] [2] .n ?_
  refine cl (·.drop (.c .z .n)) ?_
  intro a w hs; exact fin hs rfl rfl ⟨congrArg (fun z : Nat => Value.int .i64 (z : Int)) (show 3 = zAP t tm l from by first | exact (zBO (by omega)).symm | exact (zBP (by omega) (by omega)).symm | (rw [zBK (by omega) (by omega)]; first | exact ((zAF (j := j) (by omega) hI1_1 (by rw [zAt (by omega)]; decide)).trans (zAt (by omega))).symm | exact ((zAF (j := j) (by omega) hI1_1 (by rw [zAY (by omega) (by omega)]; decide)).trans (zAY (by omega) (by omega))).symm | (unfold zBW; rw [← show j = l.length by omega]; exact hI1_1.symm))), rfl⟩
 refine go 2 [0] [27, 1] (.c .z .n) ⟨rfl, ?_⟩
 intro a w hs; refine zAG hs rfl (hs.rd0 hc).isSl underlying43 rfl ?_
 refine goL 2 [] [25, 1] .n ?_
 refine ifG rfl (fun c_6 => ?_) (fun c_6 => ?_)
 ·
  refine go 1 [] [2] .n ?_
  refine cl (·.drop (.c .z .n)) ?_
  intro a w hs; exact fin hs rfl rfl ⟨congrArg (fun z : Nat => Value.int .i64 (z : Int)) (show 4 = zAP t tm l from by first | exact (zBO (by omega)).symm | exact (zBP (by omega) (by omega)).symm | (rw [zBK (by omega) (by omega)]; first | exact ((zAF (j := j) (by omega) hI1_1 (by rw [zAt (by omega)]; decide)).trans (zAt (by omega))).symm | exact ((zAF (j := j) (by omega) hI1_1 (by rw [zAY (by omega) (by omega)]; decide)).trans (zAY (by omega) (by omega))).symm | (unfold zBW; rw [← show j = l.length by omega]; exact hI1_1.symm))), rfl⟩
 refine go 3 [0] [31, 3] (.c .z .n) ⟨rfl, ?_⟩
 intro a w hs; refine zAG hs rfl (hs.rd0 hc).isSl underlying43 rfl ?_
 refine goL 1 [] [33, 32, 31, 3] .n ?_
 refine cl (·.reslot (d := 3) (v := zI (-1)) (v' := zI (zDd l 0)) rfl (Option.some.inj rfl)) ?_
 refine cl (·.drop (.c .z .n)) ?_
 intro a w hs; refine zCA (fun mm_ a w => ∃ j : Nat, mm_ = l.length - j ∧ St 54 [(3, zI (zDd l j)), (31, u), (32, nI l.length), (33, zI (j : Int))] w0 [] [] a w ∧ j ≤ l.length ∧ zDm l j = 0) ⟨0, rfl, hs.sub (.c rfl (.c rfl (.c rfl (.c rfl .n)))), by omega, rfl⟩ ?_
 clear hs w a; rintro mm_ a w ⟨j, rfl, hs, hI1_0, hI1_1⟩
 revert a w hs
 refine go 1 [] [34, 3, 31, 32, 33] .n ?_
 refine ifG rfl (fun c_7 => ?_) (fun c_7 => ?_)
 ·
  refine go 0 [] [3, 31, 32, 33] .n ?_
  intro a w hs; refine zBj (j := j) hs rfl rfl (hs.rd0 hc) rfl (by omega) underlying43 sizeOf72 rfl ?_
  intro a w hs; refine zCm (cs := zBQ (l.getD j default)) hs rfl (hs.rd0 hc) (zBe zBN l j (by omega)) (by rw [zBH zBN]; omega) (by omega) isAgg72 sizeOf72 rfl ?_
  refine goL 6 [0, 0] [41, 5, 3, 31, 32, 33] .n (fun g8 => ⟨rfl, rfl, ?_⟩)
  intro a w hs; refine zAB (b := decide (((l.getD j default).id) < 0)) (fun c_9 => ?_) (fun c_9 => ?_)
  ·
   rw [c_9] at hs
   replace c_9 := of_decide_eq_true c_9
   revert a w hs
   refine go 7 [] [2] .n ?_
   refine cl (·.drop (.c .z .n)) ?_
   intro a w hs; exact fin hs rfl rfl ⟨congrArg (fun z : Nat => Value.int .i64 (z : Int)) (show 3 = zAP t tm l from by first | exact (zBO (by omega)).symm | exact (zBP (by omega) (by omega)).symm | (rw [zBK (by omega) (by omega)]; first | exact ((zAF (j := j) (by omega) hI1_1 (by rw [zAt (by omega)]; decide)).trans (zAt (by omega))).symm | exact ((zAF (j := j) (by omega) hI1_1 (by rw [zAY (by omega) (by omega)]; decide)).trans (zAY (by omega) (by omega))).symm | (unfold zBW; rw [← show j = l.length by omega]; exact hI1_1.symm))), rfl⟩
  rw [c_9] at hs
  replace c_9 := of_decide_eq_false c_9
  revert a w hs
  refine go 5 [0] [37, 5, 3, 31, 32, 33] (.c .z .n) ⟨rfl, ?_⟩
  refine ifG rfl (fun c_10 => ?_) (fun c_10 => ?_)
  ·
   refine go 1 [] [2] .n ?_
   refine cl (·.drop (.c .z .n)) ?_
   intro a w hs; exact fin hs rfl rfl ⟨congrArg (fun z : Nat => Value.int .i64 (z : Int)) (show 3 = zAP t tm l from by first | exact (zBO (by omega)).symm | exact (zBP (by omega) (by omega)).symm | (rw [zBK (by omega) (by omega)]; first | exact ((zAF (j := j) (by omega) hI1_1 (by rw [zAt (by omega)]; decide)).trans (zAt (by omega))).symm | exact ((zAF (j := j) (by omega) hI1_1 (by rw [zAY (by omega) (by omega)]; decide)).trans (zAY (by omega) (by omega))).symm | (unfold zBW; rw [← show j = l.length by omega]; exact hI1_1.symm))), rfl⟩
  refine go 5 [0] [46, 5, 31, 32, 33] (.c .z .n) ⟨rfl, ?_⟩
  refine ifG rfl (fun c_11 => ?_) (fun c_11 => ?_)
  ·
   refine go 1 [] [2] .n ?_
   refine cl (·.drop (.c .z .n)) ?_
   intro a w hs; exact fin hs rfl rfl ⟨congrArg (fun z : Nat => Value.int .i64 (z : Int)) (show 10 = zAP t tm l from by first | exact (zBO (by omega)).symm | exact (zBP (by omega) (by omega)).symm | (rw [zBK (by omega) (by omega)]; first | exact ((zAF (j := j) (by omega) hI1_1 (by rw [zAt (by omega)]; decide)).trans (zAt (by omega))).symm | exact ((zAF (j := j) (by omega) hI1_1 (by rw [zAY (by omega) (by omega)]; decide)).trans (zAY (by omega) (by omega))).symm | (unfold zBW; rw [← show j = l.length by omega]; exact hI1_1.symm))), rfl⟩
  refine go 5 [0] [33, 3, 31, 32] (.c .z .n) ⟨rfl, (by omega), ?_⟩
  refine cl (·.reslot (d := 3) (v := zI ((l.getD j default).id)) (v' := zI (zDd l (j + 1))) rfl (Option.some.inj rfl)) ?_
  refine cl (·.drop (.c .z .n)) ?_
  intro a w hs; refine ⟨_, ?_, j + 1, rfl, hs.sub (.c rfl (.c rfl (.c rfl (.c rfl .n)))), by omega, zHQ hI1_1 (zJe (by omega) (by omega))⟩
  omega
 refine go 1 [] [2] .n ?_
 intro a w hs; exact fin hs rfl rfl ⟨congrArg (fun z : Nat => Value.int .i64 (z : Int)) (show 0 = zAP t tm l from by first | exact (zBO (by omega)).symm | exact (zBP (by omega) (by omega)).symm | (rw [zBK (by omega) (by omega)]; first | exact ((zAF (j := j) (by omega) hI1_1 (by rw [zAt (by omega)]; decide)).trans (zAt (by omega))).symm | exact ((zAF (j := j) (by omega) hI1_1 (by rw [zAY (by omega) (by omega)]; decide)).trans (zAY (by omega) (by omega))).symm | (unfold zBW; rw [← show j = l.length by omega]; exact hI1_1.symm))), rfl⟩
theorem zUF (u : Value) (l : List zAU) (w0 : World) (hc : Rd w0 [] u 9 l.length (l.flatMap zBQ)) (hsrt : Srt l) : Calls Tryz.prog 50 #[u] w0 (Ret w0 [] fun x N => ∃ g, x = .map (some g) ∧ N = [mpr g (ekv l)]) := by
 have hce := hc.le
 simp only [maxLen] at hce
 refine zT (F0 := [(0, u)]) func50 rfl rfl rfl (.c .n) (Mem.nil _) ?_
 refine go 1 [] [0] .n ?_
 intro a w hs; refine zSq hs rfl ?_; intro g1
 refine goL 2 [] [7, 3] .n ?_
 intro a w hs; refine zAG hs rfl (hs.rd0 hc).isSl underlying43 rfl ?_
 refine goL 1 [] [9, 8, 7, 3] .n ?_
 refine cl (·.remap (l' := (l.take 0)) .z (by simp)) ?_
 intro a w hs; refine zCA (fun mm_ a w => ∃ j : Nat, mm_ = l.length - j ∧ St 19 [(3, .map (some g1)), (7, u), (8, nI l.length), (9, zI (j : Int))] w0 [] [mpr g1 (ekv (l.take j))] a w ∧ j ≤ l.length) ⟨0, rfl, hs.sub (.c rfl (.c rfl (.c rfl (.c rfl .n)))), by omega⟩ ?_
 clear hs w a; rintro mm_ a w ⟨j, rfl, hs, hI1_0⟩
 revert a w hs
 refine go 1 [] [10, 3, 7, 8, 9] .n ?_
 refine ifG rfl (fun c_2 => ?_) (fun c_2 => ?_)
 ·
  refine go 0 [] [3, 7, 8, 9] .n ?_
  intro a w hs; refine zBj (j := j) hs rfl rfl (hs.rd0 hc) rfl (by omega) underlying43 sizeOf72 rfl ?_
  intro a w hs; refine zCm (cs := zBQ (l.getD j default)) hs rfl (hs.rd0 hc) (zBe zBN l j (by omega)) (by rw [zBH zBN]; omega) (by omega) isAgg72 sizeOf72 rfl ?_
  refine goL 6 [0, 0, 0] [16, 15, 13, 3, 7, 8, 9] .n (fun g3 => ⟨rfl, rfl, rfl, ?_⟩)
  intro a w hs; refine zLg (u := (l.getD j default)) hs rfl rfl rfl (.s .z) (by first | rfl | assumption | omega) underlying108 underlying3 ?_
  refine goL 2 [] [9, 3, 7, 8] .n ⟨(by omega), ?_⟩
  refine cl (·.remap (l' := (l.take (j + 1))) .z (zRX hsrt (by omega))) ?_
  refine cl (·.drop (.c (.s .z) .n)) ?_
  intro a w hs; refine ⟨_, ?_, j + 1, rfl, hs.sub (.c rfl (.c rfl (.c rfl (.c rfl .n)))), by omega⟩
  omega
 refine go 2 [] [2] .n ?_
 refine cl (·.remap (l' := l) .z (List.take_of_length_le (by omega))) ?_
 intro a w hs; exact fin hs rfl rfl ⟨_, rfl, rfl⟩
end Go.Proofs.YtbacobmcfelmkaaGreat
