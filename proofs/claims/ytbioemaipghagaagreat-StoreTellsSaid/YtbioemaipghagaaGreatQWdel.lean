/- Walks of delta: what each function does, over the program of this seat. Printed by a program of this session. -/
import Derived.Test.YtbioemaipghagaaGreatQWdelI
import Derived.Test.YtbioemaipghagaaGreatQWgram
import Derived.Test.YtbioemaipghagaaGreatQWrec4
import Derived.Test.YtbioemaipghagaaGreatQSxDel
import Derived.Test.YtbioemaipghagaaGreatQSxBasB
namespace Go.Proofs.YtbioemaipghagaaGreat
open Go Go.Sx Go.RowKit
set_option linter.unusedVariables false
set_option linter.unusedSimpArgs false
set_option maxRecDepth 4000
set_option maxHeartbeats 1000000

theorem collect_ok (g bx : Nat) (l : List EntR) (w0 : World) (hg : (mpr g (ekv l)).p w0) (hb : (blk bx [.map (some g)] 81).p w0) (hnd : (feet [mpr g (ekv l), blk bx [.map (some g)] 81]).Nodup) (hl : l.length ≤ 100000) : Calls Tryz.prog 64 #[.func (.func 66) #[] #[.pointer (some ⟨bx, 0, none⟩)]] w0 (Ret w0 (feet [mpr g (ekv l), blk bx [.map (some g)] 81]) fun u N => ∃ l' : List EntR, l'.Perm l ∧ N = [row u 73 9 l'.length (l'.flatMap entV), mpr g (ekv l), blk bx [.map (some g)] 81]) := by
 refine enterG (F0 := [(0, .func (.func 66) #[] #[.pointer (some ⟨bx, 0, none⟩)])]) Tryz.func64 rfl rfl rfl (.c .n) (mem_two hg hb hnd) fun a w hs => ?_
 refine go 2 [] [3] hs .n ?_; clear hs w a; intro a w hs
 refine st_call hs (.c rfl (.c rfl .n)) Tryz.call90 (.c .z (.c .z .n)) (appseq_ok g bx l _ (hs.mem.del .z) (hs.mem.del (.s .z)) (hs.mem.ndX (.c .z (.c .z .n))) (by omega)) rfl ?_; clear hs w a; rintro v1 _ a w ⟨l2, hp3, rfl⟩ hs; simp only [List.cons_append, List.nil_append] at hs
 have hk4 := hp3.length_eq
 refine goL 1 [] [2] hs .n ?_; clear hs w a; intro a w hs
 exact fin hs rfl rfl ⟨_, hp3, rfl⟩
theorem sortedf_ok (g bx : Nat) (l : List EntR) (w0 : World) (hg : (mpr g (ekv l)).p w0) (hb : (blk bx [.map (some g)] 81).p w0) (hnd : (feet [mpr g (ekv l), blk bx [.map (some g)] 81]).Nodup) (hl : l.length ≤ 100000) : Calls Tryz.prog 38 #[.func (.func 66) #[] #[.pointer (some ⟨bx, 0, none⟩)], .func (.func 40) #[] #[]] w0 (Ret w0 (feet [mpr g (ekv l), blk bx [.map (some g)] 81]) fun u N => ∃ l' : List EntR, (l'.Perm l ∧ l'.Pairwise (fun x y => x.id ≤ y.id)) ∧ N = [row u 73 9 l'.length (l'.flatMap entV), mpr g (ekv l), blk bx [.map (some g)] 81]) := by
 refine enterG (F0 := [(0, .func (.func 66) #[] #[.pointer (some ⟨bx, 0, none⟩)]), (1, .func (.func 40) #[] #[])]) Tryz.func38 rfl rfl rfl (.c (.c .n)) (mem_two hg hb hnd) fun a w hs => ?_
 refine go 2 [] [6, 1] hs .n ?_; clear hs w a; intro a w hs
 refine st_call hs (.c rfl .n) Tryz.call64 (.c .z (.c .z .n)) (collect_ok g bx l _ (hs.mem.del .z) (hs.mem.del (.s .z)) (hs.mem.ndX (.c .z (.c .z .n))) (by omega)) rfl ?_; clear hs w a; rintro v1 _ a w ⟨l2, hp3, rfl⟩ hs; simp only [List.cons_append, List.nil_append] at hs
 have hk4 := hp3.length_eq
 refine goL 3 [] [9, 8, 5] hs .n ?_; clear hs w a; intro a w hs
 refine st_call hs (.c rfl (.c rfl .n)) Tryz.call65 (.c .z .n) (sortE_ok (hs.mem.del .z) (by first | omega | (simp; done) | (simp; omega)) (by first | omega | (simp; omega))) rfl ?_; clear hs w a; rintro _ _ a w ⟨rfl, l5, ⟨hp6, hs7⟩, rfl⟩ hs; simp only [List.cons_append, List.nil_append] at hs
 refine goL 2 [] [4] hs .n ?_; clear hs w a; intro a w hs
 replace hs := hs.rerow .z (m' := l5.length) (xs' := (l5.flatMap entV)) (hp6.length_eq.symm) (rfl)
 exact fin hs rfl rfl ⟨_, ⟨hp6.trans hp3, hs7⟩, rfl⟩
theorem values_ok (g : Nat) (w0 : World) : Calls Tryz.prog 39 #[.map (some g)] w0 (Ret w0 [] fun u N => ∃ bx, u = .func (.func 66) #[] #[.pointer (some ⟨bx, 0, none⟩)] ∧ N = [blk bx [.map (some g)] 81]) := by
 refine enterG (F0 := [(0, .map (some g))]) Tryz.func39 rfl rfl rfl (.c .n) (Mem.nil _) fun a w hs => ?_
 refine go 4 [0] [2] hs .n (fun g1 => ?_); clear hs w a; intro a w hs
 exact fin hs rfl rfl ⟨_, rfl, rfl⟩
theorem scheck_ok (t tm : Int) (u : Value) (l : List EntR) (w0 : World) (ht_ : -9223372036854775808 ≤ t ∧ t ≤ 9223372036854775807) (htm_ : -9223372036854775808 ≤ tm ∧ tm ≤ 9223372036854775807) (hc : Rd w0 [] u 9 l.length (l.flatMap entV)) : Calls Tryz.prog 16 #[.agg #[.int .i64 (t), .int .i64 (tm), u]] w0 (RetV w0 (.int .i64 ((snapErr t tm l : Nat) : Int))) := by
 have hce := hc.le
 simp only [maxLen] at hce
 refine enterG (F0 := [(0, .agg #[.int .i64 (t), .int .i64 (tm), u])]) Tryz.func16 rfl rfl rfl (.c .n) (Mem.nil _) fun a w hs => ?_
 refine go 6 [0, 0] [10, 1] hs .n (fun g1 => ⟨rfl, ?_⟩); clear hs w a; intro a w hs
 refine st_part (b := decide (t < 0)) (fun c_2 => ?_) (fun c_2 => ?_)
 ·
  rw [c_2] at hs
  replace c_2 := of_decide_eq_true c_2
  refine go 17 [] [2] hs .n ?_; clear hs w a; intro a w hs
  replace hs := hs.drop (.c .z .n)
  exact fin hs rfl rfl ⟨congrArg (fun z : Nat => Value.int .i64 (z : Int)) (show 3 = snapErr t tm l from by first | exact (snapErr_3 (by omega)).symm | exact (snapErr_4 (by omega) (by omega)).symm | (rw [snapErr_e (by omega) (by omega)]; first | exact ((entsErr_at (j := j) (by omega) hI1_1 (by rw [entAt_3 (by omega)]; decide)).trans (entAt_3 (by omega))).symm | exact ((entsErr_at (j := j) (by omega) hI1_1 (by rw [entAt_10 (by omega) (by omega)]; decide)).trans (entAt_10 (by omega) (by omega))).symm | (unfold entsErr; rw [← show j = l.length by omega]; exact hI1_1.symm))), rfl⟩
 rw [c_2] at hs
 replace c_2 := of_decide_eq_false c_2
 refine go 5 [0] [15, 1] hs (.c .z .n) ⟨rfl, ?_⟩; clear hs w a; intro a w hs
 refine st_part (b := decide (4294967295 < t)) (fun c_3 => ?_) (fun c_3 => ?_)
 ·
  rw [c_3] at hs
  replace c_3 := of_decide_eq_true c_3
  refine go 12 [] [2] hs .n ?_; clear hs w a; intro a w hs
  replace hs := hs.drop (.c .z .n)
  exact fin hs rfl rfl ⟨congrArg (fun z : Nat => Value.int .i64 (z : Int)) (show 3 = snapErr t tm l from by first | exact (snapErr_3 (by omega)).symm | exact (snapErr_4 (by omega) (by omega)).symm | (rw [snapErr_e (by omega) (by omega)]; first | exact ((entsErr_at (j := j) (by omega) hI1_1 (by rw [entAt_3 (by omega)]; decide)).trans (entAt_3 (by omega))).symm | exact ((entsErr_at (j := j) (by omega) hI1_1 (by rw [entAt_10 (by omega) (by omega)]; decide)).trans (entAt_10 (by omega) (by omega))).symm | (unfold entsErr; rw [← show j = l.length by omega]; exact hI1_1.symm))), rfl⟩
 rw [c_3] at hs
 replace c_3 := of_decide_eq_false c_3
 refine go 5 [0] [20, 1] hs (.c .z .n) ⟨rfl, ?_⟩; clear hs w a; intro a w hs
 refine st_part (b := decide (tm < (-2305843009213693952))) (fun c_4 => ?_) (fun c_4 => ?_)
 ·
  rw [c_4] at hs
  replace c_4 := of_decide_eq_true c_4
  refine go 7 [] [2] hs .n ?_; clear hs w a; intro a w hs
  replace hs := hs.drop (.c .z .n)
  exact fin hs rfl rfl ⟨congrArg (fun z : Nat => Value.int .i64 (z : Int)) (show 3 = snapErr t tm l from by first | exact (snapErr_3 (by omega)).symm | exact (snapErr_4 (by omega) (by omega)).symm | (rw [snapErr_e (by omega) (by omega)]; first | exact ((entsErr_at (j := j) (by omega) hI1_1 (by rw [entAt_3 (by omega)]; decide)).trans (entAt_3 (by omega))).symm | exact ((entsErr_at (j := j) (by omega) hI1_1 (by rw [entAt_10 (by omega) (by omega)]; decide)).trans (entAt_10 (by omega) (by omega))).symm | (unfold entsErr; rw [← show j = l.length by omega]; exact hI1_1.symm))), rfl⟩
 rw [c_4] at hs
 replace c_4 := of_decide_eq_false c_4
 refine go 5 [0] [6, 1] hs (.c .z .n) ⟨rfl, ?_⟩; clear hs w a; intro a w hs
 refine ifG hs rfl (fun c_5 => ?_) (fun c_5 => ?_)
 ·
  replace c_5 := of_decide_eq_true c_5
  refine go 1 [] [2] hs .n ?_; clear hs w a; intro a w hs
  replace hs := hs.drop (.c .z .n)
  exact fin hs rfl rfl ⟨congrArg (fun z : Nat => Value.int .i64 (z : Int)) (show 3 = snapErr t tm l from by first | exact (snapErr_3 (by omega)).symm | exact (snapErr_4 (by omega) (by omega)).symm | (rw [snapErr_e (by omega) (by omega)]; first | exact ((entsErr_at (j := j) (by omega) hI1_1 (by rw [entAt_3 (by omega)]; decide)).trans (entAt_3 (by omega))).symm | exact ((entsErr_at (j := j) (by omega) hI1_1 (by rw [entAt_10 (by omega) (by omega)]; decide)).trans (entAt_10 (by omega) (by omega))).symm | (unfold entsErr; rw [← show j = l.length by omega]; exact hI1_1.symm))), rfl⟩
 replace c_5 := of_decide_eq_false c_5
 refine go 2 [0] [27, 1] hs (.c .z .n) ⟨rfl, ?_⟩; clear hs w a; intro a w hs
 refine st_len hs rfl (hs.rd0 hc).isSl Tryz.underlying22 rfl ?_; clear hs w a; intro a w hs
 refine goL 2 [] [25, 1] hs .n ?_; clear hs w a; intro a w hs
 refine ifG hs rfl (fun c_6 => ?_) (fun c_6 => ?_)
 ·
  replace c_6 := of_decide_eq_true c_6
  refine go 1 [] [2] hs .n ?_; clear hs w a; intro a w hs
  replace hs := hs.drop (.c .z .n)
  exact fin hs rfl rfl ⟨congrArg (fun z : Nat => Value.int .i64 (z : Int)) (show 4 = snapErr t tm l from by first | exact (snapErr_3 (by omega)).symm | exact (snapErr_4 (by omega) (by omega)).symm | (rw [snapErr_e (by omega) (by omega)]; first | exact ((entsErr_at (j := j) (by omega) hI1_1 (by rw [entAt_3 (by omega)]; decide)).trans (entAt_3 (by omega))).symm | exact ((entsErr_at (j := j) (by omega) hI1_1 (by rw [entAt_10 (by omega) (by omega)]; decide)).trans (entAt_10 (by omega) (by omega))).symm | (unfold entsErr; rw [← show j = l.length by omega]; exact hI1_1.symm))), rfl⟩
 replace c_6 := of_decide_eq_false c_6
 refine go 3 [0] [31, 3] hs (.c .z .n) ⟨rfl, ?_⟩; clear hs w a; intro a w hs
 refine st_len hs rfl (hs.rd0 hc).isSl Tryz.underlying22 rfl ?_; clear hs w a; intro a w hs
 refine goL 1 [] [33, 32, 31, 3] hs .n ?_; clear hs w a; intro a w hs
 replace hs := hs.reslot (d := 3) (v := .int .i64 (-1)) (v' := .int .i64 (entLast l 0)) rfl (Option.some.inj rfl)
 replace hs := hs.drop (.c .z .n)
 refine loopG (fun mm_ a w => ∃ j : Nat, mm_ = l.length - j ∧ St 54 [(3, .int .i64 (entLast l j)), (31, u), (32, .int .i64 (((l.length : Nat) : Int))), (33, .int .i64 ((j : Int)))] w0 [] [] a w ∧ j ≤ l.length ∧ entTo l j = 0) ⟨0, rfl, hs.sub (.c rfl (.c rfl (.c rfl (.c rfl .n)))), by omega, rfl⟩ ?_
 clear hs w a; rintro mm_ a w ⟨j, rfl, hs, hI1_0, hI1_1⟩
 refine go 1 [] [34, 3, 31, 32, 33] hs .n ?_; clear hs w a; intro a w hs
 refine ifG hs rfl (fun c_7 => ?_) (fun c_7 => ?_)
 ·
  replace c_7 := of_decide_eq_true c_7
  refine go 0 [] [3, 31, 32, 33] hs .n ?_; clear hs w a; intro a w hs
  refine st_ia (j := j) hs rfl rfl (hs.rd0 hc) rfl (by omega) Tryz.underlying22 Tryz.sizeOf73 rfl ?_; clear hs w a; intro a w hs
  refine st_ldA (cs := entV (l.getD j default)) hs rfl (hs.rd0 hc) (flat_get entV_len l j (by omega)) (by rw [flat_len entV_len]; omega) (by omega) Tryz.isAgg73 Tryz.sizeOf73 rfl ?_; clear hs w a; intro a w hs
  refine goL 6 [0, 0] [41, 5, 3, 31, 32, 33] hs .n (fun g8 => ⟨rfl, rfl, ?_⟩); clear hs w a; intro a w hs
  refine st_part (b := decide (((l.getD j default).id) < 0)) (fun c_9 => ?_) (fun c_9 => ?_)
  ·
   rw [c_9] at hs
   replace c_9 := of_decide_eq_true c_9
   refine go 7 [] [2] hs .n ?_; clear hs w a; intro a w hs
   replace hs := hs.drop (.c .z .n)
   exact fin hs rfl rfl ⟨congrArg (fun z : Nat => Value.int .i64 (z : Int)) (show 3 = snapErr t tm l from by first | exact (snapErr_3 (by omega)).symm | exact (snapErr_4 (by omega) (by omega)).symm | (rw [snapErr_e (by omega) (by omega)]; first | exact ((entsErr_at (j := j) (by omega) hI1_1 (by rw [entAt_3 (by omega)]; decide)).trans (entAt_3 (by omega))).symm | exact ((entsErr_at (j := j) (by omega) hI1_1 (by rw [entAt_10 (by omega) (by omega)]; decide)).trans (entAt_10 (by omega) (by omega))).symm | (unfold entsErr; rw [← show j = l.length by omega]; exact hI1_1.symm))), rfl⟩
  rw [c_9] at hs
  replace c_9 := of_decide_eq_false c_9
  refine go 5 [0] [37, 5, 3, 31, 32, 33] hs (.c .z .n) ⟨rfl, ?_⟩; clear hs w a; intro a w hs
  refine ifG hs rfl (fun c_10 => ?_) (fun c_10 => ?_)
  ·
   replace c_10 := of_decide_eq_true c_10
   refine go 1 [] [2] hs .n ?_; clear hs w a; intro a w hs
   replace hs := hs.drop (.c .z .n)
   exact fin hs rfl rfl ⟨congrArg (fun z : Nat => Value.int .i64 (z : Int)) (show 3 = snapErr t tm l from by first | exact (snapErr_3 (by omega)).symm | exact (snapErr_4 (by omega) (by omega)).symm | (rw [snapErr_e (by omega) (by omega)]; first | exact ((entsErr_at (j := j) (by omega) hI1_1 (by rw [entAt_3 (by omega)]; decide)).trans (entAt_3 (by omega))).symm | exact ((entsErr_at (j := j) (by omega) hI1_1 (by rw [entAt_10 (by omega) (by omega)]; decide)).trans (entAt_10 (by omega) (by omega))).symm | (unfold entsErr; rw [← show j = l.length by omega]; exact hI1_1.symm))), rfl⟩
  replace c_10 := of_decide_eq_false c_10
  refine go 5 [0] [46, 5, 31, 32, 33] hs (.c .z .n) ⟨rfl, ?_⟩; clear hs w a; intro a w hs
  refine ifG hs rfl (fun c_11 => ?_) (fun c_11 => ?_)
  ·
   replace c_11 := of_decide_eq_true c_11
   refine go 1 [] [2] hs .n ?_; clear hs w a; intro a w hs
   replace hs := hs.drop (.c .z .n)
   exact fin hs rfl rfl ⟨congrArg (fun z : Nat => Value.int .i64 (z : Int)) (show 10 = snapErr t tm l from by first | exact (snapErr_3 (by omega)).symm | exact (snapErr_4 (by omega) (by omega)).symm | (rw [snapErr_e (by omega) (by omega)]; first | exact ((entsErr_at (j := j) (by omega) hI1_1 (by rw [entAt_3 (by omega)]; decide)).trans (entAt_3 (by omega))).symm | exact ((entsErr_at (j := j) (by omega) hI1_1 (by rw [entAt_10 (by omega) (by omega)]; decide)).trans (entAt_10 (by omega) (by omega))).symm | (unfold entsErr; rw [← show j = l.length by omega]; exact hI1_1.symm))), rfl⟩
  replace c_11 := of_decide_eq_false c_11
  refine go 5 [0] [33, 3, 31, 32] hs (.c .z .n) ⟨rfl, (by omega), ?_⟩; clear hs w a; intro a w hs
  replace hs := hs.reslot (d := 3) (v := .int .i64 ((l.getD j default).id)) (v' := .int .i64 (entLast l (j + 1))) rfl (Option.some.inj rfl)
  replace hs := hs.drop (.c .z .n)
  refine ⟨_, ?_, j + 1, rfl, hs.sub (.c rfl (.c rfl (.c rfl (.c rfl .n)))), by omega, entTo_ok hI1_1 (entAt_0 (by omega) (by omega))⟩
  omega
 replace c_7 := of_decide_eq_false c_7
 refine go 1 [] [2] hs .n ?_; clear hs w a; intro a w hs
 exact fin hs rfl rfl ⟨congrArg (fun z : Nat => Value.int .i64 (z : Int)) (show 0 = snapErr t tm l from by first | exact (snapErr_3 (by omega)).symm | exact (snapErr_4 (by omega) (by omega)).symm | (rw [snapErr_e (by omega) (by omega)]; first | exact ((entsErr_at (j := j) (by omega) hI1_1 (by rw [entAt_3 (by omega)]; decide)).trans (entAt_3 (by omega))).symm | exact ((entsErr_at (j := j) (by omega) hI1_1 (by rw [entAt_10 (by omega) (by omega)]; decide)).trans (entAt_10 (by omega) (by omega))).symm | (unfold entsErr; rw [← show j = l.length by omega]; exact hI1_1.symm))), rfl⟩
theorem byId_ok (u : Value) (l : List EntR) (w0 : World) (hc : Rd w0 [] u 9 l.length (l.flatMap entV)) (hsrt : Srt l) : Calls Tryz.prog 35 #[u] w0 (Ret w0 [] fun x N => ∃ g, x = .map (some g) ∧ N = [mpr g (ekv l)]) := by
 have hce := hc.le
 simp only [maxLen] at hce
 refine enterG (F0 := [(0, u)]) Tryz.func35 rfl rfl rfl (.c .n) (Mem.nil _) fun a w hs => ?_
 refine go 1 [] [0] hs .n ?_; clear hs w a; intro a w hs
 refine st_mkE hs rfl ?_; clear hs w a; intro g1 a w hs
 refine goL 2 [] [7, 3] hs .n ?_; clear hs w a; intro a w hs
 refine st_len hs rfl (hs.rd0 hc).isSl Tryz.underlying22 rfl ?_; clear hs w a; intro a w hs
 refine goL 1 [] [9, 8, 7, 3] hs .n ?_; clear hs w a; intro a w hs
 replace hs := hs.remap (l' := (l.take 0)) .z (by simp)
 refine loopG (fun mm_ a w => ∃ j : Nat, mm_ = l.length - j ∧ St 19 [(3, .map (some g1)), (7, u), (8, .int .i64 (((l.length : Nat) : Int))), (9, .int .i64 ((j : Int)))] w0 [] [mpr g1 (ekv (l.take j))] a w ∧ j ≤ l.length) ⟨0, rfl, hs.sub (.c rfl (.c rfl (.c rfl (.c rfl .n)))), by omega⟩ ?_
 clear hs w a; rintro mm_ a w ⟨j, rfl, hs, hI1_0⟩
 refine go 1 [] [10, 3, 7, 8, 9] hs .n ?_; clear hs w a; intro a w hs
 refine ifG hs rfl (fun c_2 => ?_) (fun c_2 => ?_)
 ·
  replace c_2 := of_decide_eq_true c_2
  refine go 0 [] [3, 7, 8, 9] hs .n ?_; clear hs w a; intro a w hs
  refine st_ia (j := j) hs rfl rfl (hs.rd0 hc) rfl (by omega) Tryz.underlying22 Tryz.sizeOf73 rfl ?_; clear hs w a; intro a w hs
  refine st_ldA (cs := entV (l.getD j default)) hs rfl (hs.rd0 hc) (flat_get entV_len l j (by omega)) (by rw [flat_len entV_len]; omega) (by omega) Tryz.isAgg73 Tryz.sizeOf73 rfl ?_; clear hs w a; intro a w hs
  refine goL 6 [0, 0, 0] [16, 15, 13, 3, 7, 8, 9] hs .n (fun g3 => ⟨rfl, rfl, rfl, ?_⟩); clear hs w a; intro a w hs
  refine st_updE (u := (l.getD j default)) hs rfl rfl rfl (.s .z) (by first | rfl | assumption | omega) Tryz.underlying81 Tryz.underlying3 ?_; clear hs w a; intro a w hs
  refine goL 2 [] [9, 3, 7, 8] hs .n ⟨(by omega), ?_⟩; clear hs w a; intro a w hs
  replace hs := hs.remap (l' := (l.take (j + 1))) .z (take_put hsrt (by omega))
  replace hs := hs.drop (.c (.s .z) .n)
  refine ⟨_, ?_, j + 1, rfl, hs.sub (.c rfl (.c rfl (.c rfl (.c rfl .n)))), by omega⟩
  omega
 replace c_2 := of_decide_eq_false c_2
 refine go 2 [] [2] hs .n ?_; clear hs w a; intro a w hs
 replace hs := hs.remap (l' := l) .z (List.take_of_length_le (by omega))
 exact fin hs rfl rfl ⟨_, rfl, rfl⟩
end Go.Proofs.YtbioemaipghagaaGreat
