/- Walks of DeltaCuts: what each function does, over the program of this seat. Printed by a program of this session. -/
import Derived.Test.YtbioemaipghagaaQWdelA
import Derived.Test.YtbioemaipghagaaQSxPdeltaN
import Derived.Test.YtbioemaipghagaaQSxPdeltaM
import Derived.Test.YtbioemaipghagaaQSxRrec
namespace Go.Proofs.Ytbioemaipghagaa
open Go Go.Sx Go.RowKit
set_option linter.unusedVariables false
set_option linter.unusedSimpArgs false
set_option maxRecDepth 4000
set_option maxHeartbeats 1000000

theorem deltaCuts_ok (t tm : Int) (u : Value) (l : List EntR) (at_ : Int) (w0 : World) (ht_ : -9223372036854775808 ≤ t ∧ t ≤ 9223372036854775807) (htm_ : -9223372036854775808 ≤ tm ∧ tm ≤ 9223372036854775807) (hc : Rd w0 [] u 9 l.length (l.flatMap entV)) (hw : ∀ x ∈ l, x.wf) (hi : -9223372036854775808 ≤ at_ ∧ at_ ≤ 9223372036854775807) : Calls Try.prog 5 #[.agg #[.int .i64 (t), .int .i64 (tm), u], .int .i64 at_] w0 (RetV w0 (.bool true)) := by
  have hce := hc.le
  simp only [maxLen] at hce
  refine enter (F0 := [(0, .agg #[.int .i64 (t), .int .i64 (tm), u]), (1, .int .i64 (at_))]) Try.func5 rfl rfl rfl (.c (.c .n)) (Mem.nil _) fun a w hs => ?_
  refine wp_seq_k fun K1 hK2 => ?_
  refine wp_region_lit ?_
  refine st_box (cs := [.int .i64 (t), .int .i64 (tm), u]) hs rfl rfl rfl ?_; clear hs w a; intro g3 a w hs
  refine st_as hs rfl rfl ?_; clear hs w a; intro a w hs
  refine wpList_nil ?_
  refine then_n (hK2 _ _ ?_)
  refine wp_seq_k fun K4 hK5 => ?_
  refine wp_seq_k fun K6 hK7 => ?_
  refine wp_region_lit ?_
  refine st_ldBA hs rfl .z (.z (.c (.c (.c .n)))) Try.isAgg24 Try.sizeOf24 rfl ?_; clear hs w a; intro a w hs
  refine st_bs (cs := [.int .i64 (t), .int .i64 (tm), u]) hs (.c .n) (.c rfl .n) Try.underlying61 (ie := Try.t24) rfl rfl rfl rfl (by decide) (by decide) rfl (by decide) rfl rfl rfl ?_; clear hs w a; intro g8 a w hs
  refine st_callP (v := .bool (decide (100 < l.length))) hs (.c rfl .n) Try.call9 (great1_ok g8 _ _ _ l _ (hs.mem.del .z) (hs.rd0 hc)) rfl ?_; clear hs w a; intro a w hs
  refine st_mv hs rfl rfl ?_; clear hs w a; intro a w hs
  refine st_part (b := decide (100 < l.length)) (fun hc9 => ?_) (fun hc9 => ?_)
  ·
   rw [hc9] at hs
   replace hc9 := of_decide_eq_true hc9
   refine st_run 15 [(30, .bool (true))] hs .n (by kernel_rfl) (by kernel_rfl) (by kernel_rfl) ?_; clear hs a; intro a hs
   refine wpList_nil ?_
   refine then_n (hK7 _ _ ?_)
   refine wp_cond_true (hs.ev rfl) ?_
   refine wp_seq_k fun K10 hK11 => ?_
   refine wp_region_lit ?_
   refine st_callP (v := .bool (true)) hs .n Try.call10 (alive10_ok _) rfl ?_; clear hs w a; intro a w hs
   refine st_as hs rfl rfl ?_; clear hs w a; intro a w hs
   refine wpList_nil ?_
   refine then_n (hK11 _ _ ?_)
   refine wp_ret ?_
   refine th_r ?_
   replace hs := hs.drop (.c (.s .z) (.c .z .n))
   exact fin hs rfl rfl ⟨rfl, rfl⟩
  rw [hc9] at hs
  replace hc9 := of_decide_eq_false hc9
  refine st_guardT hs rfl rfl rfl ?_
  refine st_ldBA hs rfl (.s .z) (.z (.c (.c (.c .n)))) Try.isAgg24 Try.sizeOf24 rfl ?_; clear hs w a; intro a w hs
  refine st_guardT hs rfl rfl rfl ?_
  refine st_callP (v := .int .i64 (((snapErr t tm l : Nat) : Int))) hs (.c rfl .n) Try.call15 (scheck_ok t tm _ l _ (by omega) (by omega) (hs.rd0 hc)) rfl ?_; clear hs w a; intro a w hs
  refine st_run 3 [(20, .bool (!((((snapErr t tm l : Nat) : Int) : Int) == 0)))] hs .n (by kernel_rfl) (by kernel_rfl) (by kernel_rfl) ?_; clear hs a; intro a hs
  refine st_part (b := !((((snapErr t tm l : Nat) : Int) : Int) == 0)) (fun hc12 => ?_) (fun hc12 => ?_)
  ·
   rw [hc12] at hs
   replace hc12 := not_t hc12
   replace hc12 := ne_of_beq_f hc12
   refine st_run 10 [(30, .bool (true))] hs .n (by kernel_rfl) (by kernel_rfl) (by kernel_rfl) ?_; clear hs a; intro a hs
   refine wpList_nil ?_
   refine then_n (hK7 _ _ ?_)
   refine wp_cond_true (hs.ev rfl) ?_
   refine wp_seq_k fun K13 hK14 => ?_
   refine wp_region_lit ?_
   refine st_callP (v := .bool (true)) hs .n Try.call10 (alive10_ok _) rfl ?_; clear hs w a; intro a w hs
   refine st_as hs rfl rfl ?_; clear hs w a; intro a w hs
   refine wpList_nil ?_
   refine then_n (hK14 _ _ ?_)
   refine wp_ret ?_
   refine th_r ?_
   replace hs := hs.drop (.c (.s .z) (.c .z .n))
   exact fin hs rfl rfl ⟨rfl, rfl⟩
  rw [hc12] at hs
  replace hc12 := not_f hc12
  replace hc12 := eq_of_beq hc12
  refine st_run 2 [(22, u)] hs (.c (hs.mem.del (.s .z)) .n) (by kernel_rfl) (by kernel_rfl) (by kernel_rfl) ?_; clear hs a; intro a hs
  refine st_guardT hs rfl rfl rfl ?_
  refine st_len hs rfl (hs.rd0 hc).isSl Try.underlying22 rfl ?_; clear hs w a; intro a w hs
  refine st_run 3 [(26, .bool ((((l.length : Nat) : Int) : Int) == 0))] hs .n (by kernel_rfl) (by kernel_rfl) (by kernel_rfl) ?_; clear hs a; intro a hs
  refine st_part (b := (((l.length : Nat) : Int) : Int) == 0) (fun hc15 => ?_) (fun hc15 => ?_)
  ·
   rw [hc15] at hs
   replace hc15 := eq_of_beq hc15
   refine st_run 4 [(30, .bool (true))] hs .n (by kernel_rfl) (by kernel_rfl) (by kernel_rfl) ?_; clear hs a; intro a hs
   refine wpList_nil ?_
   refine then_n (hK7 _ _ ?_)
   refine wp_cond_true (hs.ev rfl) ?_
   refine wp_seq_k fun K16 hK17 => ?_
   refine wp_region_lit ?_
   refine st_callP (v := .bool (true)) hs .n Try.call10 (alive10_ok _) rfl ?_; clear hs w a; intro a w hs
   refine st_as hs rfl rfl ?_; clear hs w a; intro a w hs
   refine wpList_nil ?_
   refine then_n (hK17 _ _ ?_)
   refine wp_ret ?_
   refine th_r ?_
   replace hs := hs.drop (.c (.s .z) (.c .z .n))
   exact fin hs rfl rfl ⟨rfl, rfl⟩
  rw [hc15] at hs
  replace hc15 := ne_of_beq_f hc15
  refine st_run 4 [(30, .bool (decide (4294967293 < t)))] hs (.c (hs.mem.del (.s .z)) .n) (by kernel_rfl) (by kernel_rfl) (by kernel_rfl) ?_; clear hs a; intro a hs
  refine wpList_nil ?_
  refine then_n (hK7 _ _ ?_)
  refine wp_if hs rfl (fun hc18 => ?_) (fun hc18 => ?_)
  ·
   replace hc18 := of_decide_eq_true hc18
   refine wp_seq_k fun K19 hK20 => ?_
   refine wp_region_lit ?_
   refine st_callP (v := .bool (true)) hs .n Try.call10 (alive10_ok _) rfl ?_; clear hs w a; intro a w hs
   refine st_as hs rfl rfl ?_; clear hs w a; intro a w hs
   refine wpList_nil ?_
   refine then_n (hK20 _ _ ?_)
   refine wp_ret ?_
   refine th_r ?_
   replace hs := hs.drop (.c (.s .z) (.c .z .n))
   exact fin hs rfl rfl ⟨rfl, rfl⟩
  replace hc18 := of_decide_eq_false hc18
  have hs0_ : snapErr t tm l = 0 := by omega
  have hs1_ : t ≤ 4294967293 := by omega
  have hsp := snapErr_parts hs0_
  have hl0 : 0 < l.length := by omega
  have hix := idxm_lt at_ hl0 (by omega)
  have hnz : BitVec.ofInt 64 ((l.length : Nat) : Int) ≠ 0 := fun e => by have h1 := congrArg BitVec.toNat e; rw [BitVec.toNat_ofInt] at h1; change _ = 0 at h1; omega
  obtain ⟨c1, c2⟩ := cuts_1 hs0_ hs1_ hix.1
  have c3 : (dG t tm l (t + 1) tm (cutE l (idxm at_ l.length))).l.length = 1 := by rw [c2]; rfl
  refine wp_skip ?_
  refine then_n (hK5 _ _ ?_)
  refine wp_seq_k fun K21 hK22 => ?_
  refine wp_region_lit ?_
  refine st_mv hs rfl rfl ?_; clear hs w a; intro a w hs
  refine st_cv_u64 hs rfl Try.underlying3 Try.underlying41 rfl ?_; clear hs w a; intro a w hs
  refine st_run 2 [(35, u)] hs (.c (hs.mem.del (.s .z)) .n) (by kernel_rfl) (by kernel_rfl) (by kernel_rfl) ?_; clear hs a; intro a hs
  refine st_len hs rfl (hs.rd0 hc).isSl Try.underlying22 rfl ?_; clear hs w a; intro a w hs
  refine st_cv_u64 hs rfl Try.underlying3 Try.underlying41 rfl ?_; clear hs w a; intro a w hs
  refine st_rem_u64 (X := BitVec.ofInt 64 at_) (Y := BitVec.ofInt 64 (((l.length : Nat) : Int))) hs rfl rfl rfl rfl hnz rfl ?_; clear hs w a; intro a w hs
  refine st_cv_u64_i64 (X := (BitVec.ofInt 64 at_) % (BitVec.ofInt 64 (((l.length : Nat) : Int)))) hs rfl rfl Try.underlying41 Try.underlying3 rfl ?_; clear hs w a; intro a w hs
  replace hs := hs.recell (v' := .int .i64 (((idxm at_ l.length : Nat) : Int))) (Option.some.inj (congrArg (fun z => some (Value.int .i64 z)) hix.2))
  refine st_as hs rfl rfl ?_; clear hs w a; intro a w hs
  refine wpList_nil ?_
  refine then_n (hK22 _ _ ?_)
  refine wp_seq_k fun K23 hK24 => ?_
  replace hs := hs.sub (F' := [(5, .int .i64 (((idxm at_ l.length : Nat) : Int))), (4, .bool (false)), (2, .pointer (some ⟨g3, 0, none⟩))]) (.c rfl (.c rfl (.c rfl .n)))
  refine wp_drawG (M0 := [blk g8 [.int .i64 (t), .int .i64 (tm), u] 24, blk g3 [.int .i64 (t), .int .i64 (tm), u] 24]) (Ds := [Pv 0 (.pointer (some ⟨g3, 0, none⟩)), Pv 1 (.int .i64 (t)), Pv 2 (.int .i64 (t + 1)), Pv 3 (.pointer (some ⟨g3, 1, none⟩)), Pv 4 (.int .i64 (tm)), ⟨[], [], [], fun vs25 => vs25 5 = .slice (some ⟨(ptrG (vs25 5)), 0, none⟩) 0 0, fun vs25 => [blk (ptrG (vs25 5)) [] 47], none⟩, Pv 6 (.pointer (some ⟨g3, 2, none⟩)), Pv 7 u, Pv 8 (.int .i64 (((idxm at_ l.length : Nat) : Int))), Pv 9 (slcV u 9 0 (idxm at_ l.length)), ⟨[], [5], [], fun vs25 => True, fun vs25 => [row (vs25 10) 47 9 (0 + (((idxm at_ l.length) - 0))) (([]) ++ ((((l.flatMap entV).drop (0 * 9)).take (((idxm at_ l.length) - 0) * 9))))], none⟩, Pv 11 (.pointer (some ⟨g3, 2, none⟩)), Pv 12 u, Pv 13 (.int .i64 (((idxm at_ l.length : Nat) : Int))), Pv 14 (.int .i64 ((((idxm at_ l.length : Nat) : Int)) + 1)), Pv 15 (slcV u 9 (((((idxm at_ l.length : Nat) : Int)) + 1).toNat) l.length), ⟨[], [10], [], fun vs25 => True, fun vs25 => [row (vs25 16) 47 9 ((0 + (((idxm at_ l.length) - 0))) + ((l.length - (((((idxm at_ l.length : Nat) : Int)) + 1).toNat)))) ((([]) ++ ((((l.flatMap entV).drop (0 * 9)).take (((idxm at_ l.length) - 0) * 9)))) ++ ((((l.flatMap entV).drop ((((((idxm at_ l.length : Nat) : Int)) + 1).toNat) * 9)).take ((l.length - (((((idxm at_ l.length : Nat) : Int)) + 1).toNat)) * 9))))], none⟩, ⟨[], [], [16], fun vs25 => vs25 17 = .agg #[.int .i64 (t + 1), .int .i64 (tm), (vs25 16)], fun vs25 => [], none⟩, ⟨[], [], [], fun vs25 => vs25 18 = .pointer (some ⟨(ptrG (vs25 18)), 0, none⟩), fun vs25 => [blk (ptrG (vs25 18)) [.int .i64 (0), .int .i64 (0), .slice none 0 0] 24], none⟩, ⟨[], [18], [16, 18], fun vs25 => True, fun vs25 => [blk (ptrG (vs25 18)) [.int .i64 (t + 1), .int .i64 (tm), (vs25 16)] 24], none⟩]) (by kernel_rfl) hs rfl .n (by kernel_rfl) (by kernel_rfl) (by kernel_rfl) ?_ ?_
  ·
   refine (.c ?_ (.c ?_ (.c ?_ (.c ?_ (.c ?_ (.c ?_ (.c ?_ (.c ?_ (.c ?_ (.c ?_ (.c ?_ (.c ?_ (.c ?_ (.c ?_ (.c ?_ (.c ?_ (.c ?_ (.c ?_ (.c ?_ (.c ?_ .n))))))))))))))))))))
   · exact trip_pv (m := 20) .n (fun hm0 hm hx => .n) (by kernel_rfl) (by kernel_rfl) rfl
   · exact trip_pv (m := 20) (.c (k := 0) (by kernel_rfl) rfl rfl .n) (fun hm0 hm hx => (.c (hm0.del (.s .z)))) (by kernel_rfl) (by kernel_rfl) rfl
   ·
    intro a_ w_ R_ rest_ vs25 hm hs ht hx
    have hm0 := hm.mid
    replace hs := hs.lrn (ht 1 (twB_spec 20 _ (by kernel_rfl))) rfl rfl
    have hs0 := hs.bare
    refine st_addR hs rfl rfl (by omega) rfl ?_; clear hs; intro a w hs
    exact wpList_nil ⟨rfl, _, _, hs0, (.c .r), hs, rfl⟩
   · exact trip_pv (m := 20) .n (fun hm0 hm hx => .n) (by kernel_rfl) (by kernel_rfl) rfl
   · exact trip_pv (m := 20) (.c (k := 3) (by kernel_rfl) rfl rfl .n) (fun hm0 hm hx => (.c (hm0.del (.s .z)))) (by kernel_rfl) (by kernel_rfl) rfl
   ·
    intro a_ w_ R_ rest_ vs25 hm hs ht hx
    have hm0 := hm.mid
    have hs0 := hs.bare
    refine st_bs0 hs Try.underlying22 rfl ?_ ⟨_, Try.sizeOf47⟩; clear hs; intro g26 a w hs
    exact wpList_nil ⟨rfl, _, _, hs0, .r, hs, rfl⟩
   · exact trip_pv (m := 20) .n (fun hm0 hm hx => .n) (by kernel_rfl) (by kernel_rfl) rfl
   · exact trip_pv (m := 20) (.c (k := 6) (by kernel_rfl) rfl rfl .n) (fun hm0 hm hx => (.c (hm0.del (.s .z)))) (by kernel_rfl) (by kernel_rfl) rfl
   · exact trip_pv (m := 20) .n (fun hm0 hm hx => .n) (by kernel_rfl) (by kernel_rfl) rfl
   ·
    intro a_ w_ R_ rest_ vs25 hm hs ht hx
    have hm0 := hm.mid
    replace hs := hs.lrn (ht 7 (twB_spec 20 _ (by kernel_rfl))) rfl rfl
    replace hs := hs.lrn (ht 8 (twB_spec 20 _ (by kernel_rfl))) rfl rfl
    have hs0 := hs.bare
    refine st_slcH (j := (idxm at_ l.length)) hs rfl rfl rfl (hm.rd0 hc) (by omega) Try.underlying22 Try.sizeOf47 rfl ?_; clear hs; intro a w hs
    exact wpList_nil ⟨rfl, _, _, hs0, (.c (.c .r)), hs, rfl⟩
   ·
    intro a_ w_ R_ rest_ vs25 hm hs ht hx
    replace hs : St _ _ _ (feet [blk (ptrG (vs25 5)) [] 47]) [blk (ptrG (vs25 5)) [] 47] _ _ := hs
    have hm0 := hm.mid
    have t5 := ht 5 (twB_spec 20 _ (by kernel_rfl))
    have e5 : _ = some (vs25 5) := t5.val rfl
    rw [show vs25 5 = .slice (some ⟨(ptrG (vs25 5)), 0, none⟩) 0 0 from t5.2.1] at e5
    replace hs := hs.learn e5
    replace hs := hs.lrn (ht 9 (twB_spec 20 _ (by kernel_rfl))) rfl rfl
    have hs0 := hs.bare
    replace hs := hs.toRow (size := 9) (m := 0) .z rfl (by decide)
    refine st_app (size := 9) (bytes := 64) hs rfl rfl .z ((hm.rd0 hc).slc (l := 0) (h := (idxm at_ l.length)) (by omega) (by omega)) (one_ents _ _ _) Try.underlying22 (i := Try.t47) rfl rfl rfl rfl rfl (by decide) (by omega) (by simp only [maxLen]; omega) rfl ?_; clear hs; intro v27 a w hs
    exact wpList_nil ⟨rfl, _, _, hs0, (.c (.c .r)), hs, trivial⟩
   · exact trip_pv (m := 20) .n (fun hm0 hm hx => .n) (by kernel_rfl) (by kernel_rfl) rfl
   · exact trip_pv (m := 20) (.c (k := 11) (by kernel_rfl) rfl rfl .n) (fun hm0 hm hx => (.c (hm0.del (.s .z)))) (by kernel_rfl) (by kernel_rfl) rfl
   · exact trip_pv (m := 20) .n (fun hm0 hm hx => .n) (by kernel_rfl) (by kernel_rfl) rfl
   ·
    intro a_ w_ R_ rest_ vs25 hm hs ht hx
    have hm0 := hm.mid
    replace hs := hs.lrn (ht 13 (twB_spec 20 _ (by kernel_rfl))) rfl rfl
    have hs0 := hs.bare
    refine st_addR hs rfl rfl (by omega) rfl ?_; clear hs; intro a w hs
    exact wpList_nil ⟨rfl, _, _, hs0, (.c .r), hs, rfl⟩
   ·
    intro a_ w_ R_ rest_ vs25 hm hs ht hx
    have hm0 := hm.mid
    replace hs := hs.lrn (ht 12 (twB_spec 20 _ (by kernel_rfl))) rfl rfl
    replace hs := hs.lrn (ht 14 (twB_spec 20 _ (by kernel_rfl))) rfl rfl
    have hs0 := hs.bare
    refine st_slcL (j := ((((idxm at_ l.length : Nat) : Int)) + 1).toNat) hs rfl rfl (by omega) (hm.rd0 hc).isSl (by omega) Try.underlying22 Try.sizeOf47 rfl ?_; clear hs; intro a w hs
    exact wpList_nil ⟨rfl, _, _, hs0, (.c (.c .r)), hs, rfl⟩
   ·
    intro a_ w_ R_ rest_ vs25 hm hs ht hx
    replace hs : St _ _ _ (feet [row (vs25 10) 47 9 (0 + (((idxm at_ l.length) - 0))) (([]) ++ ((((l.flatMap entV).drop (0 * 9)).take (((idxm at_ l.length) - 0) * 9))))]) [row (vs25 10) 47 9 (0 + (((idxm at_ l.length) - 0))) (([]) ++ ((((l.flatMap entV).drop (0 * 9)).take (((idxm at_ l.length) - 0) * 9))))] _ _ := hs
    have hm0 := hm.mid
    have t10 := ht 10 (twB_spec 20 _ (by kernel_rfl))
    have e10 : _ = some (vs25 10) := t10.val rfl
    replace hs := hs.learn e10
    replace hs := hs.lrn (ht 15 (twB_spec 20 _ (by kernel_rfl))) rfl rfl
    have hs0 := hs.bare
    refine st_app (size := 9) (bytes := 64) hs rfl rfl .z ((hm.rd0 hc).slc (l := (((((idxm at_ l.length : Nat) : Int)) + 1).toNat)) (h := l.length) (by omega) (by omega)) (one_ents _ _ _) Try.underlying22 (i := Try.t47) rfl rfl rfl rfl rfl (by decide) (by omega) (by simp only [maxLen]; omega) rfl ?_; clear hs; intro v28 a w hs
    exact wpList_nil ⟨rfl, _, _, hs0, (.c (.c .r)), hs, trivial⟩
   ·
    intro a_ w_ R_ rest_ vs25 hm hs ht hx
    have hm0 := hm.mid
    replace hs := hs.lrn (ht 2 (twB_spec 20 _ (by kernel_rfl))) rfl rfl
    replace hs := hs.lrn (ht 4 (twB_spec 20 _ (by kernel_rfl))) rfl rfl
    have t16 := ht 16 (twB_spec 20 _ (by kernel_rfl))
    have e16 : _ = some (vs25 16) := t16.val rfl
    replace hs := hs.learn e16
    have hs0 := hs.bare
    refine st_build (it := Try.t24) (zs := [.int .i64 (0), .int .i64 (0), .slice none 0 0]) (places := [(0, 1), (1, 1), (2, 1)]) hs (.c rfl (.c rfl (.c rfl .n))) Try.underlying24 rfl rfl rfl rfl (.c rfl rfl (.z (.c .n)) (.c rfl rfl (.s (.z (.c .n))) (.c rfl (rd_row (hm.own (List.mem_append.2 (.inr ((ht 16 (twB_spec 20 _ (by kernel_rfl))).2.2 (later (n := 20) (by kernel_rfl)) _ (List.Mem.head _)))))).isSl.lcells (.s (.s (.z (.c .n)))) .n))) rfl ?_; clear hs; intro a w hs
    exact wpList_nil ⟨rfl, _, _, hs0, (.c (.c (.c .r))), hs, rfl⟩
   ·
    intro a_ w_ R_ rest_ vs25 hm hs ht hx
    have hm0 := hm.mid
    have hs0 := hs.bare
    refine st_alloc (cs := [.int .i64 (0), .int .i64 (0), .slice none 0 0]) hs Try.zeroValue24 rfl rfl ?_; clear hs; intro g29 a w hs
    exact wpList_nil ⟨rfl, _, _, hs0, .r, hs, rfl⟩
   intro a_ w_ R_ rest_ vs25 hm hs ht hx
   replace hs : St _ _ _ (feet [blk (ptrG (vs25 18)) [.int .i64 (0), .int .i64 (0), .slice none 0 0] 24]) [blk (ptrG (vs25 18)) [.int .i64 (0), .int .i64 (0), .slice none 0 0] 24] _ _ := hs
   have hm0 := hm.mid
   have t18 := ht 18 (twB_spec 20 _ (by kernel_rfl))
   have e18 : _ = some (vs25 18) := t18.val rfl
   rw [show vs25 18 = .pointer (some ⟨(ptrG (vs25 18)), 0, none⟩) from t18.2.1] at e18
   replace hs := hs.learn e18
   have t17 := ht 17 (twB_spec 20 _ (by kernel_rfl))
   have e17 : _ = some (vs25 17) := t17.val rfl
   rw [show vs25 17 = .agg #[.int .i64 (t + 1), .int .i64 (tm), (vs25 16)] from t17.2.1] at e17
   replace hs := hs.learn e17
   have hs0 := hs.bare
   refine st_stBA hs rfl rfl .z (.z (.c (.c (.c .n)))) (ones_c rfl (ones_c rfl (ones_c (rd_row (hm.own (List.mem_append.2 (.inr ((ht 16 (twB_spec 20 _ (by kernel_rfl))).2.2 (later (n := 20) (by kernel_rfl)) _ (List.Mem.head _)))))).isSl.one ones_n))) Try.sizeOf24 rfl ?_; clear hs; intro a w hs
   exact wpList_nil ⟨rfl, .tuple #[], _, hs0, (.c (.c .r)), hs, trivial⟩
  clear hs w a; intro a w vs25 hs hf
  replace hs : St _ _ _ _ [blk g8 [.int .i64 (t), .int .i64 (tm), u] 24, blk g3 [.int .i64 (t), .int .i64 (tm), u] 24, row (vs25 16) 47 9 ((0 + (((idxm at_ l.length) - 0))) + ((l.length - (((((idxm at_ l.length : Nat) : Int)) + 1).toNat)))) ((([]) ++ ((((l.flatMap entV).drop (0 * 9)).take (((idxm at_ l.length) - 0) * 9)))) ++ ((((l.flatMap entV).drop ((((((idxm at_ l.length : Nat) : Int)) + 1).toNat) * 9)).take ((l.length - (((((idxm at_ l.length : Nat) : Int)) + 1).toNat)) * 9)))), blk (ptrG (vs25 18)) [.int .i64 (t + 1), .int .i64 (tm), (vs25 16)] 24] _ _ := hs
  obtain ⟨e18, q18⟩ := hf 18 (by decide)
  replace e18 : _ = some (vs25 18) := e18.val rfl
  rw [show vs25 18 = .pointer (some ⟨(ptrG (vs25 18)), 0, none⟩) from q18] at e18
  replace hs := hs.learn e18; clear e18 q18
  generalize vs25 16 = v30 at hs
  generalize ptrG (vs25 18) = g31 at hs
  clear hf
  refine then_n (hK24 _ _ ?_)
  refine wp_seq_k fun K32 hK33 => ?_
  refine wp_region_lit ?_
  refine st_ldBA hs rfl (.s .z) (.z (.c (.c (.c .n)))) Try.isAgg24 Try.sizeOf24 rfl ?_; clear hs w a; intro a w hs
  replace hs := hs.rerow (.s (.s .z)) (m' := (cutE l (idxm at_ l.length)).length) (xs' := ((cutE l (idxm at_ l.length)).flatMap entV)) (by rw [cutE_len hix.1]; omega) (by simpa using cut_flat l hix.1)
  refine st_ldBA hs rfl (.s (.s (.s .z))) (.z (.c (.c (.c .n)))) Try.isAgg24 Try.sizeOf24 rfl ?_; clear hs w a; intro a w hs
  refine st_call hs (.c rfl (.c rfl .n)) Try.call14 .n (ddiff_ok t tm _ l (t + 1) tm _ ((cutE l (idxm at_ l.length))) _ (by omega) (by omega) (by omega) (by omega) (hs.rd0 hc) (rd_row (hs.mem.del .z)) hw (cutE_wf hw)) rfl ?_; clear hs w a; rintro _ _ a w ⟨v34, rfl, rfl⟩ hs; simp only [List.cons_append, List.nil_append] at hs
  have hk35 := dG_rng (at_ := t) (atm := tm) (a := l) (bt := (t + 1)) (btm := tm) (b := (cutE l (idxm at_ l.length)))
  refine st_run 3 [(63, .int .i64 (((dErr t tm l (t + 1) tm ((cutE l (idxm at_ l.length))) : Nat) : Int))), (62, .agg #[.int .i64 ((dG t tm l (t + 1) tm ((cutE l (idxm at_ l.length)))).t), .int .i64 ((dG t tm l (t + 1) tm ((cutE l (idxm at_ l.length)))).tm), .int .i64 ((dG t tm l (t + 1) tm ((cutE l (idxm at_ l.length)))).b), v34])] hs .n (by kernel_rfl) (by kernel_rfl) (by kernel_rfl) ?_; clear hs a; intro a hs
  refine st_alloc (cs := [.int .i64 (0), .int .i64 (0), .int .i64 (0), .slice none 0 0]) hs Try.zeroValue27 rfl rfl ?_; clear hs w a; intro g36 a w hs
  refine st_stBA hs rfl rfl .z (.z (.c (.c (.c (.c .n))))) (ones_c rfl (ones_c rfl (ones_c rfl (ones_c (rd_row (hs.mem.del (.s .z))).isSl.one ones_n)))) Try.sizeOf27 rfl ?_; clear hs w a; intro a w hs
  refine st_as hs rfl rfl ?_; clear hs w a; intro a w hs
  refine wpList_nil ?_
  refine then_n (hK33 _ _ ?_)
  refine wp_seq_k fun K37 hK38 => ?_
  refine wp_seq_k fun K39 hK40 => ?_
  replace hs := hs.sub (F' := [(8, .int .i64 (((dErr t tm l (t + 1) tm ((cutE l (idxm at_ l.length))) : Nat) : Int))), (7, .pointer (some ⟨g36, 0, none⟩)), (6, .pointer (some ⟨g31, 0, none⟩)), (5, .int .i64 (((idxm at_ l.length : Nat) : Int))), (4, .bool (false)), (2, .pointer (some ⟨g3, 0, none⟩))]) (.c rfl (.c rfl (.c rfl (.c rfl (.c rfl (.c rfl .n))))))
  refine wp_drawG (M0 := [blk g36 [.int .i64 ((dG t tm l (t + 1) tm ((cutE l (idxm at_ l.length)))).t), .int .i64 ((dG t tm l (t + 1) tm ((cutE l (idxm at_ l.length)))).tm), .int .i64 ((dG t tm l (t + 1) tm ((cutE l (idxm at_ l.length)))).b), v34] 27, row v34 45 9 ((dG t tm l (t + 1) tm ((cutE l (idxm at_ l.length)))).l.length) (((dG t tm l (t + 1) tm ((cutE l (idxm at_ l.length)))).l.flatMap recV)), row v30 47 9 ((cutE l (idxm at_ l.length)).length) (((cutE l (idxm at_ l.length)).flatMap entV)), blk g8 [.int .i64 (t), .int .i64 (tm), u] 24, blk g3 [.int .i64 (t), .int .i64 (tm), u] 24, blk g31 [.int .i64 (t + 1), .int .i64 (tm), v30] 24]) (Ds := [Pv 0 (.int .i64 (((dErr t tm l (t + 1) tm ((cutE l (idxm at_ l.length))) : Nat) : Int))), Pv 1 (.bool (false)), Pv 2 (.bool (false)), Pv 3 (.pointer (some ⟨g36, 3, none⟩)), Pv 4 v34, Pv 5 (.int .i64 ((((dG t tm l (t + 1) tm ((cutE l (idxm at_ l.length)))).l.length : Nat) : Int))), Pv 6 (.bool (false)), Pv 7 (.bool (false)), Pv 8 (.bool (false)), Pv 9 (.pointer (some ⟨g36, 3, none⟩)), Pv 10 v34, Pv 11 (.pointer (some (adr v34 (0 * 9)))), Pv 12 (.agg #[.int .i64 ((((dG t tm l (t + 1) tm ((cutE l (idxm at_ l.length)))).l.getD 0 default)).k), .int .i64 ((((dG t tm l (t + 1) tm ((cutE l (idxm at_ l.length)))).l.getD 0 default)).id), .int .i64 ((((dG t tm l (t + 1) tm ((cutE l (idxm at_ l.length)))).l.getD 0 default)).p0), .int .i64 ((((dG t tm l (t + 1) tm ((cutE l (idxm at_ l.length)))).l.getD 0 default)).p1), .int .i64 ((((dG t tm l (t + 1) tm ((cutE l (idxm at_ l.length)))).l.getD 0 default)).p2), .int .i64 ((((dG t tm l (t + 1) tm ((cutE l (idxm at_ l.length)))).l.getD 0 default)).v0), .int .i64 ((((dG t tm l (t + 1) tm ((cutE l (idxm at_ l.length)))).l.getD 0 default)).v1), .int .i64 ((((dG t tm l (t + 1) tm ((cutE l (idxm at_ l.length)))).l.getD 0 default)).v2), .int .u16 (((((((dG t tm l (t + 1) tm ((cutE l (idxm at_ l.length)))).l.getD 0 default)).a).toNat : Nat) : Int))]), Pv 13 (.pointer (some ⟨g3, 2, none⟩)), Pv 14 u, Pv 15 (.int .i64 (((idxm at_ l.length : Nat) : Int))), Pv 16 (.pointer (some (adr u ((idxm at_ l.length) * 9)))), Pv 17 (.pointer (some (adr u ((idxm at_ l.length) * 9 + 0)))), Pv 18 (.int .i64 (((l.getD (idxm at_ l.length) default)).id)), Pv 19 (.agg #[.int .i64 (2), .int .i64 (((l.getD (idxm at_ l.length) default)).id), .int .i64 (0), .int .i64 (0), .int .i64 (0), .int .i64 (0), .int .i64 (0), .int .i64 (0), .int .u16 (0)]), Pv 20 (.bool (false)), Pv 21 (.bool (false))]) (by kernel_rfl) hs rfl .n (by kernel_rfl) (by kernel_rfl) (by kernel_rfl) ?_ ?_
  ·
   refine (.c ?_ (.c ?_ (.c ?_ (.c ?_ (.c ?_ (.c ?_ (.c ?_ (.c ?_ (.c ?_ (.c ?_ (.c ?_ (.c ?_ (.c ?_ (.c ?_ (.c ?_ (.c ?_ (.c ?_ (.c ?_ (.c ?_ (.c ?_ (.c ?_ (.c ?_ .n))))))))))))))))))))))
   · exact trip_pv (m := 22) .n (fun hm0 hm hx => .n) (by kernel_rfl) (by kernel_rfl) rfl
   ·
    intro a_ w_ R_ rest_ vs41 hm hs ht hx
    have hm0 := hm.mid
    replace hs := hs.lrn (ht 0 (twB_spec 22 _ (by kernel_rfl))) rfl rfl
    have hs0 := hs.bare
    refine st_neq hs rfl rfl rfl ?_; clear hs; intro a w hs
    have hb_ : (!((((dErr t tm l (t + 1) tm ((cutE l (idxm at_ l.length))) : Nat) : Int) : Int) == 0)) = false := by rw [c1]; rfl
    rw [hb_] at hs; clear hb_
    exact wpList_nil ⟨rfl, _, _, hs0, (.c .r), hs, rfl⟩
   · exact trip_pv (m := 22) (.c (k := 1) (by kernel_rfl) rfl rfl .n) (fun hm0 hm hx => .n) (by kernel_rfl) (by kernel_rfl) rfl
   · exact trip_pg (m := 22) rfl (.c (k := 2) (by kernel_rfl) rfl rfl .n) rfl (fun hm0 hm hx => .n) (by kernel_rfl) (by kernel_rfl) rfl
   · exact trip_pg (m := 22) rfl (.c (k := 2) (by kernel_rfl) rfl rfl (.c (k := 3) (by kernel_rfl) rfl rfl .n)) rfl (fun hm0 hm hx => (.c (hm0.del .z))) (by kernel_rfl) (by kernel_rfl) rfl
   ·
    intro a_ w_ R_ rest_ vs41 hm hs ht hx
    have hm0 := hm.mid
    replace hs := hs.lrn (ht 2 (twB_spec 22 _ (by kernel_rfl))) rfl rfl
    replace hs := hs.lrn (ht 4 (twB_spec 22 _ (by kernel_rfl))) rfl rfl
    have hs0 := hs.bare
    refine st_guardT hs rfl rfl rfl ?_
    refine st_len hs rfl (rd_row (hm0.del (.s .z))).isSl Try.underlying25 rfl ?_; clear hs; intro a w hs
    exact wpList_nil ⟨rfl, _, _, hs0, (.c (.c .r)), hs, rfl⟩
   ·
    intro a_ w_ R_ rest_ vs41 hm hs ht hx
    have hm0 := hm.mid
    replace hs := hs.lrn (ht 2 (twB_spec 22 _ (by kernel_rfl))) rfl rfl
    replace hs := hs.lrn (ht 5 (twB_spec 22 _ (by kernel_rfl))) rfl rfl
    have hs0 := hs.bare
    refine st_guardT hs rfl rfl rfl ?_
    refine st_neq hs rfl rfl rfl ?_; clear hs; intro a w hs
    have hb_ : (!(((((dG t tm l (t + 1) tm ((cutE l (idxm at_ l.length)))).l.length : Nat) : Int) : Int) == 1)) = false := by rw [c3]; rfl
    rw [hb_] at hs; clear hb_
    exact wpList_nil ⟨rfl, _, _, hs0, (.c (.c .r)), hs, rfl⟩
   · exact trip_pv (m := 22) (.c (k := 2) (by kernel_rfl) rfl rfl (.c (k := 6) (by kernel_rfl) rfl rfl .n)) (fun hm0 hm hx => .n) (by kernel_rfl) (by kernel_rfl) rfl
   · exact trip_pv (m := 22) (.c (k := 7) (by kernel_rfl) rfl rfl .n) (fun hm0 hm hx => .n) (by kernel_rfl) (by kernel_rfl) rfl
   · exact trip_pg (m := 22) rfl (.c (k := 8) (by kernel_rfl) rfl rfl .n) rfl (fun hm0 hm hx => .n) (by kernel_rfl) (by kernel_rfl) rfl
   · exact trip_pg (m := 22) rfl (.c (k := 8) (by kernel_rfl) rfl rfl (.c (k := 9) (by kernel_rfl) rfl rfl .n)) rfl (fun hm0 hm hx => (.c (hm0.del .z))) (by kernel_rfl) (by kernel_rfl) rfl
   ·
    intro a_ w_ R_ rest_ vs41 hm hs ht hx
    have hm0 := hm.mid
    replace hs := hs.lrn (ht 8 (twB_spec 22 _ (by kernel_rfl))) rfl rfl
    replace hs := hs.lrn (ht 10 (twB_spec 22 _ (by kernel_rfl))) rfl rfl
    have hs0 := hs.bare
    refine st_guardT hs rfl rfl rfl ?_
    refine st_ia (j := 0) hs rfl rfl (rd_row (hm0.del (.s .z))) (by decide) (by omega) Try.underlying25 Try.sizeOf45 rfl ?_; clear hs; intro a w hs
    exact wpList_nil ⟨rfl, _, _, hs0, (.c (.c .r)), hs, rfl⟩
   ·
    intro a_ w_ R_ rest_ vs41 hm hs ht hx
    have hm0 := hm.mid
    replace hs := hs.lrn (ht 8 (twB_spec 22 _ (by kernel_rfl))) rfl rfl
    replace hs := hs.lrn (ht 11 (twB_spec 22 _ (by kernel_rfl))) rfl rfl
    have hs0 := hs.bare
    refine st_guardT hs rfl rfl rfl ?_
    refine st_ldA (cs := recV ((dG t tm l (t + 1) tm ((cutE l (idxm at_ l.length)))).l.getD 0 default)) hs rfl (rd_row (hm0.del (.s .z))) (flat_get recV_len (dG t tm l (t + 1) tm ((cutE l (idxm at_ l.length)))).l 0 (by omega)) (by rw [flat_len recV_len]; omega) (by omega) Try.isAgg45 Try.sizeOf45 rfl ?_; clear hs; intro a w hs
    exact wpList_nil ⟨rfl, _, _, hs0, (.c (.c .r)), hs, rfl⟩
   · exact trip_pg (m := 22) rfl (.c (k := 8) (by kernel_rfl) rfl rfl .n) rfl (fun hm0 hm hx => .n) (by kernel_rfl) (by kernel_rfl) rfl
   · exact trip_pg (m := 22) rfl (.c (k := 8) (by kernel_rfl) rfl rfl (.c (k := 13) (by kernel_rfl) rfl rfl .n)) rfl (fun hm0 hm hx => (.c (hm0.del (.s (.s (.s (.s .z))))))) (by kernel_rfl) (by kernel_rfl) rfl
   · exact trip_pg (m := 22) rfl (.c (k := 8) (by kernel_rfl) rfl rfl .n) rfl (fun hm0 hm hx => .n) (by kernel_rfl) (by kernel_rfl) rfl
   ·
    intro a_ w_ R_ rest_ vs41 hm hs ht hx
    have hm0 := hm.mid
    replace hs := hs.lrn (ht 8 (twB_spec 22 _ (by kernel_rfl))) rfl rfl
    replace hs := hs.lrn (ht 14 (twB_spec 22 _ (by kernel_rfl))) rfl rfl
    replace hs := hs.lrn (ht 15 (twB_spec 22 _ (by kernel_rfl))) rfl rfl
    have hs0 := hs.bare
    refine st_guardT hs rfl rfl rfl ?_
    refine st_ia (j := (idxm at_ l.length)) hs rfl rfl (hm.rd0 hc) rfl (by omega) Try.underlying22 Try.sizeOf47 rfl ?_; clear hs; intro a w hs
    exact wpList_nil ⟨rfl, _, _, hs0, (.c (.c (.c .r))), hs, rfl⟩
   ·
    intro a_ w_ R_ rest_ vs41 hm hs ht hx
    have hm0 := hm.mid
    replace hs := hs.lrn (ht 8 (twB_spec 22 _ (by kernel_rfl))) rfl rfl
    replace hs := hs.lrn (ht 16 (twB_spec 22 _ (by kernel_rfl))) rfl rfl
    have hs0 := hs.bare
    refine st_guardT hs rfl rfl rfl ?_
    refine st_faV hs rfl (hm.rd0 hc) (by omega) Try.underlying47 rfl Try.sizeOf3 (by decide) (o := (idxm at_ l.length) * 9 + 0) rfl rfl ?_; clear hs; intro a w hs
    exact wpList_nil ⟨rfl, _, _, hs0, (.c (.c .r)), hs, rfl⟩
   ·
    intro a_ w_ R_ rest_ vs41 hm hs ht hx
    have hm0 := hm.mid
    replace hs := hs.lrn (ht 8 (twB_spec 22 _ (by kernel_rfl))) rfl rfl
    replace hs := hs.lrn (ht 17 (twB_spec 22 _ (by kernel_rfl))) rfl rfl
    have hs0 := hs.bare
    refine st_guardT hs rfl rfl rfl ?_
    refine st_ld (u := .int .i64 (((l.getD (idxm at_ l.length) default)).id)) hs rfl (hm.rd0 hc) ((flat_get1 entV_len l (idxm at_ l.length) 0 (by omega) (by decide)).trans rfl) Try.isAgg3 rfl ?_; clear hs; intro a w hs
    exact wpList_nil ⟨rfl, _, _, hs0, (.c (.c .r)), hs, rfl⟩
   ·
    intro a_ w_ R_ rest_ vs41 hm hs ht hx
    have hm0 := hm.mid
    replace hs := hs.lrn (ht 8 (twB_spec 22 _ (by kernel_rfl))) rfl rfl
    replace hs := hs.lrn (ht 18 (twB_spec 22 _ (by kernel_rfl))) rfl rfl
    have hs0 := hs.bare
    refine st_guardT hs rfl rfl rfl ?_
    refine st_build (it := Try.t45) (zs := [.int .i64 (0), .int .i64 (0), .int .i64 (0), .int .i64 (0), .int .i64 (0), .int .i64 (0), .int .i64 (0), .int .i64 (0), .int .u16 (0)]) (places := [(0, 1), (1, 1), (2, 3), (5, 3), (8, 1)]) hs (.c rfl (.c rfl .n)) Try.underlying45 rfl rfl rfl rfl (.c rfl rfl (.z (.c .n)) (.c rfl rfl (.s (.z (.c .n))) .n)) rfl ?_; clear hs; intro a w hs
    exact wpList_nil ⟨rfl, _, _, hs0, (.c (.c .r)), hs, rfl⟩
   ·
    intro a_ w_ R_ rest_ vs41 hm hs ht hx
    have hm0 := hm.mid
    replace hs := hs.lrn (ht 8 (twB_spec 22 _ (by kernel_rfl))) rfl rfl
    replace hs := hs.lrn (ht 12 (twB_spec 22 _ (by kernel_rfl))) rfl rfl
    replace hs := hs.lrn (ht 19 (twB_spec 22 _ (by kernel_rfl))) rfl rfl
    have hs0 := hs.bare
    refine st_guardT hs rfl rfl rfl ?_
    refine st_neqF (xs := [.int .i64 ((((dG t tm l (t + 1) tm ((cutE l (idxm at_ l.length)))).l.getD 0 default)).k), .int .i64 ((((dG t tm l (t + 1) tm ((cutE l (idxm at_ l.length)))).l.getD 0 default)).id), .int .i64 ((((dG t tm l (t + 1) tm ((cutE l (idxm at_ l.length)))).l.getD 0 default)).p0), .int .i64 ((((dG t tm l (t + 1) tm ((cutE l (idxm at_ l.length)))).l.getD 0 default)).p1), .int .i64 ((((dG t tm l (t + 1) tm ((cutE l (idxm at_ l.length)))).l.getD 0 default)).p2), .int .i64 ((((dG t tm l (t + 1) tm ((cutE l (idxm at_ l.length)))).l.getD 0 default)).v0), .int .i64 ((((dG t tm l (t + 1) tm ((cutE l (idxm at_ l.length)))).l.getD 0 default)).v1), .int .i64 ((((dG t tm l (t + 1) tm ((cutE l (idxm at_ l.length)))).l.getD 0 default)).v2), .int .u16 (((((((dG t tm l (t + 1) tm ((cutE l (idxm at_ l.length)))).l.getD 0 default)).a).toNat : Nat) : Int))]) (ys := [.int .i64 (2), .int .i64 (((l.getD (idxm at_ l.length) default)).id), .int .i64 (0), .int .i64 (0), .int .i64 (0), .int .i64 (0), .int .i64 (0), .int .i64 (0), .int .u16 (0)]) (ks := [.i .i64, .i .i64, .i .i64, .i .i64, .i .i64, .i .i64, .i .i64, .i .i64, .i .u16]) 6 hs rfl rfl (by kernel_rfl) (by kernel_rfl) (by kernel_rfl) (by decide) (.i (.i (.i (.i (.i (.i (.i (.i (.i .n))))))))) (.i (.i (.i (.i (.i (.i (.i (.i (.i .n))))))))) rfl ?_; clear hs; intro a w hs
    have hb_ : (!(eqCells [.int .i64 ((((dG t tm l (t + 1) tm ((cutE l (idxm at_ l.length)))).l.getD 0 default)).k), .int .i64 ((((dG t tm l (t + 1) tm ((cutE l (idxm at_ l.length)))).l.getD 0 default)).id), .int .i64 ((((dG t tm l (t + 1) tm ((cutE l (idxm at_ l.length)))).l.getD 0 default)).p0), .int .i64 ((((dG t tm l (t + 1) tm ((cutE l (idxm at_ l.length)))).l.getD 0 default)).p1), .int .i64 ((((dG t tm l (t + 1) tm ((cutE l (idxm at_ l.length)))).l.getD 0 default)).p2), .int .i64 ((((dG t tm l (t + 1) tm ((cutE l (idxm at_ l.length)))).l.getD 0 default)).v0), .int .i64 ((((dG t tm l (t + 1) tm ((cutE l (idxm at_ l.length)))).l.getD 0 default)).v1), .int .i64 ((((dG t tm l (t + 1) tm ((cutE l (idxm at_ l.length)))).l.getD 0 default)).v2), .int .u16 (((((((dG t tm l (t + 1) tm ((cutE l (idxm at_ l.length)))).l.getD 0 default)).a).toNat : Nat) : Int))] [.int .i64 (2), .int .i64 (((l.getD (idxm at_ l.length) default)).id), .int .i64 (0), .int .i64 (0), .int .i64 (0), .int .i64 (0), .int .i64 (0), .int .i64 (0), .int .u16 (0)])) = false := by rw [c2]; exact congrArg (!·) (recV_eq.2 rfl)
    rw [hb_] at hs; clear hb_
    exact wpList_nil ⟨rfl, _, _, hs0, (.c (.c (.c .r))), hs, rfl⟩
   exact trip_pv (m := 22) (.c (k := 8) (by kernel_rfl) rfl rfl (.c (k := 20) (by kernel_rfl) rfl rfl .n)) (fun hm0 hm hx => .n) (by kernel_rfl) (by kernel_rfl) rfl
  clear hs w a; intro a w vs41 hs hf
  replace hs : St _ _ _ _ [blk g36 [.int .i64 ((dG t tm l (t + 1) tm ((cutE l (idxm at_ l.length)))).t), .int .i64 ((dG t tm l (t + 1) tm ((cutE l (idxm at_ l.length)))).tm), .int .i64 ((dG t tm l (t + 1) tm ((cutE l (idxm at_ l.length)))).b), v34] 27, row v34 45 9 ((dG t tm l (t + 1) tm ((cutE l (idxm at_ l.length)))).l.length) (((dG t tm l (t + 1) tm ((cutE l (idxm at_ l.length)))).l.flatMap recV)), row v30 47 9 ((cutE l (idxm at_ l.length)).length) (((cutE l (idxm at_ l.length)).flatMap entV)), blk g8 [.int .i64 (t), .int .i64 (tm), u] 24, blk g3 [.int .i64 (t), .int .i64 (tm), u] 24, blk g31 [.int .i64 (t + 1), .int .i64 (tm), v30] 24] _ _ := hs
  obtain ⟨e21, q21⟩ := hf 21 (by decide)
  replace e21 : _ = some (vs41 21) := e21.val rfl
  rw [show vs41 21 = .bool (false) from q21] at e21
  replace hs := hs.learn e21; clear e21 q21
  clear hf
  refine then_n (hK40 _ _ ?_)
  refine wp_cond_false (hs.ev rfl) ?_
  refine wp_skip ?_
  refine then_n (hK38 _ _ ?_)
  refine wp_seq_k fun K42 hK43 => ?_
  refine wp_region_lit ?_
  refine st_ldBA hs rfl (.s (.s (.s (.s .z)))) (.z (.c (.c (.c .n)))) Try.isAgg24 Try.sizeOf24 rfl ?_; clear hs w a; intro a w hs
  refine st_alloc (cs := [.int .i64 (0), .int .i64 (0), .slice none 0 0]) hs Try.zeroValue24 rfl rfl ?_; clear hs w a; intro g44 a w hs
  refine st_stBA hs rfl rfl .z (.z (.c (.c (.c .n)))) (ones_c rfl (ones_c rfl (ones_c (hs.rd0 hc).isSl.one ones_n))) Try.sizeOf24 rfl ?_; clear hs w a; intro a w hs
  refine wpList_nil ?_
  refine then_n (hK43 _ _ ?_)
  refine wp_seq_k fun K45 hK46 => ?_
  refine wp_region_lit ?_
  refine st_run 2 [(88, .int .i64 (t))] hs (.c (hs.mem.del .z) .n) (by kernel_rfl) (by kernel_rfl) (by kernel_rfl) ?_; clear hs a; intro a hs
  refine st_addR hs rfl rfl (by omega) rfl ?_; clear hs w a; intro a w hs
  refine st_fa hs rfl Try.underlying24 rfl Try.sizeOf2 (by decide) (o := 0) rfl rfl ?_; clear hs w a; intro a w hs
  refine st_stB hs rfl rfl .z .z rfl Try.sizeOf2 ?_; clear hs w a; intro a w hs
  refine wpList_nil ?_
  refine then_n (hK46 _ _ ?_)
  refine wp_seq_k fun K47 hK48 => ?_
  refine wp_region_lit ?_
  refine st_run 2 [(93, .agg #[.int .i64 (t + 2), .int .i64 (tm), u]), (92, .agg #[.int .i64 (t + 1), .int .i64 (tm), v30])] hs (.c (hs.mem.del (.s (.s (.s (.s (.s (.s .z))))))) (.c (hs.mem.del .z) .n)) (by kernel_rfl) (by kernel_rfl) (by kernel_rfl) ?_; clear hs a; intro a hs
  refine st_call hs (.c rfl (.c rfl .n)) Try.call14 .n (ddiff_ok (t + 1) tm _ ((cutE l (idxm at_ l.length))) (t + 2) tm _ l _ (by omega) (by omega) (by omega) (by omega) (rd_row (hs.mem.del (.s (.s (.s .z))))) (hs.rd0 hc) (cutE_wf hw) hw) rfl ?_; clear hs w a; rintro _ _ a w ⟨v49, rfl, rfl⟩ hs; simp only [List.cons_append, List.nil_append] at hs
  have hk50 := dG_rng (at_ := (t + 1)) (atm := tm) (a := (cutE l (idxm at_ l.length))) (bt := (t + 2)) (btm := tm) (b := l)
  refine st_run 3 [(96, .int .i64 (((dErr (t + 1) tm ((cutE l (idxm at_ l.length))) (t + 2) tm l : Nat) : Int))), (95, .agg #[.int .i64 ((dG (t + 1) tm ((cutE l (idxm at_ l.length))) (t + 2) tm l).t), .int .i64 ((dG (t + 1) tm ((cutE l (idxm at_ l.length))) (t + 2) tm l).tm), .int .i64 ((dG (t + 1) tm ((cutE l (idxm at_ l.length))) (t + 2) tm l).b), v49])] hs .n (by kernel_rfl) (by kernel_rfl) (by kernel_rfl) ?_; clear hs a; intro a hs
  refine st_alloc (cs := [.int .i64 (0), .int .i64 (0), .int .i64 (0), .slice none 0 0]) hs Try.zeroValue27 rfl rfl ?_; clear hs w a; intro g51 a w hs
  refine st_stBA hs rfl rfl .z (.z (.c (.c (.c (.c .n))))) (ones_c rfl (ones_c rfl (ones_c rfl (ones_c (rd_row (hs.mem.del (.s .z))).isSl.one ones_n)))) Try.sizeOf27 rfl ?_; clear hs w a; intro a w hs
  refine st_as hs rfl rfl ?_; clear hs w a; intro a w hs
  refine wpList_nil ?_
  refine then_n (hK48 _ _ ?_)
  refine wp_seq_k fun K52 hK53 => ?_
  refine wp_seq_k fun K54 hK55 => ?_
  refine wp_region_lit ?_
  refine st_run 3 [(99, .int .i64 (((idxm at_ l.length : Nat) : Int))), (98, u)] hs (.c (hs.mem.del (.s (.s (.s (.s (.s (.s (.s .z)))))))) .n) (by kernel_rfl) (by kernel_rfl) (by kernel_rfl) ?_; clear hs a; intro a hs
  refine st_ia (j := (idxm at_ l.length)) hs rfl rfl (hs.rd0 hc) rfl (by omega) Try.underlying22 Try.sizeOf47 rfl ?_; clear hs w a; intro a w hs
  refine st_faV hs rfl (hs.rd0 hc) (by omega) Try.underlying47 rfl Try.sizeOf5 (by decide) (o := (idxm at_ l.length) * 9 + 8) rfl rfl ?_; clear hs w a; intro a w hs
  refine st_ld (u := .int .u8 ((((((l.getD (idxm at_ l.length) default)).g).toNat : Nat) : Int))) hs rfl (hs.rd0 hc) ((flat_get1 entV_len l (idxm at_ l.length) 8 (by omega) (by decide)).trans rfl) Try.isAgg5 rfl ?_; clear hs w a; intro a w hs
  refine st_neq hs rfl rfl rfl ?_; clear hs w a; intro a w hs
  refine wpList_nil ?_
  refine then_n (hK55 _ _ ?_)
  refine wp_if hs rfl (fun hc56 => ?_) (fun hc56 => ?_)
  ·
   replace hc56 := not_t hc56
   replace hc56 := ne_of_beq_f hc56
   have c4 := cuts_2 hs0_ hs1_ hix.1 (g_n0 (by omega))
   refine wp_seq_k fun K57 hK58 => ?_
   refine wp_region_lit ?_
   refine st_callP (v := .bool (true)) hs .n Try.call10 (alive10_ok _) rfl ?_; clear hs w a; intro a w hs
   refine st_run 3 [(107, .bool ((((dErr (t + 1) tm ((cutE l (idxm at_ l.length))) (t + 2) tm l : Nat) : Int) : Int) == 15)), (105, .bool (true))] hs .n (by kernel_rfl) (by kernel_rfl) (by kernel_rfl) ?_; clear hs a; intro a hs
   have hb_ : ((((dErr (t + 1) tm ((cutE l (idxm at_ l.length))) (t + 2) tm l : Nat) : Int) : Int) == 15) = true := by rw [c4]; rfl
   rw [hb_] at hs; clear hb_
   refine st_run 2 [(4, .bool (true))] hs .n (by kernel_rfl) (by kernel_rfl) (by kernel_rfl) ?_; clear hs a; intro a hs
   refine wpList_nil ?_
   refine then_n (hK58 _ _ ?_)
   refine wp_ret ?_
   refine th_r ?_
   replace hs := hs.drop (.c (.s (.s (.s (.s (.s (.s (.s (.s .z)))))))) (.c (.s (.s (.s (.s (.s (.s (.s .z))))))) (.c (.s (.s (.s (.s (.s (.s .z)))))) (.c (.s (.s (.s (.s (.s .z))))) (.c (.s (.s (.s (.s .z)))) (.c (.s (.s (.s .z))) (.c (.s (.s .z)) (.c (.s .z) (.c .z .n)))))))))
   exact fin hs rfl rfl ⟨rfl, rfl⟩
  replace hc56 := not_f hc56
  replace hc56 := eq_of_beq hc56
  obtain ⟨c5, c6⟩ := cuts_3 hs0_ hs1_ hix.1 (g_0 (by omega))
  have c7 : (dG (t + 1) tm (cutE l (idxm at_ l.length)) (t + 2) tm l).l.length = 1 := by rw [c6]; rfl
  refine wp_skip ?_
  refine then_n (hK53 _ _ ?_)
  refine wp_seq_k fun K59 hK60 => ?_
  replace hs := hs.sub (F' := [(11, .int .i64 (((dErr (t + 1) tm ((cutE l (idxm at_ l.length))) (t + 2) tm l : Nat) : Int))), (10, .pointer (some ⟨g51, 0, none⟩)), (5, .int .i64 (((idxm at_ l.length : Nat) : Int))), (2, .pointer (some ⟨g3, 0, none⟩))]) (.c rfl (.c rfl (.c rfl (.c rfl .n))))
  refine wp_drawG (M0 := [blk g51 [.int .i64 ((dG (t + 1) tm ((cutE l (idxm at_ l.length))) (t + 2) tm l).t), .int .i64 ((dG (t + 1) tm ((cutE l (idxm at_ l.length))) (t + 2) tm l).tm), .int .i64 ((dG (t + 1) tm ((cutE l (idxm at_ l.length))) (t + 2) tm l).b), v49] 27, row v49 45 9 ((dG (t + 1) tm ((cutE l (idxm at_ l.length))) (t + 2) tm l).l.length) (((dG (t + 1) tm ((cutE l (idxm at_ l.length))) (t + 2) tm l).l.flatMap recV)), blk g44 [.int .i64 (t + 2), .int .i64 (tm), u] 24, blk g36 [.int .i64 ((dG t tm l (t + 1) tm ((cutE l (idxm at_ l.length)))).t), .int .i64 ((dG t tm l (t + 1) tm ((cutE l (idxm at_ l.length)))).tm), .int .i64 ((dG t tm l (t + 1) tm ((cutE l (idxm at_ l.length)))).b), v34] 27, row v34 45 9 ((dG t tm l (t + 1) tm ((cutE l (idxm at_ l.length)))).l.length) (((dG t tm l (t + 1) tm ((cutE l (idxm at_ l.length)))).l.flatMap recV)), row v30 47 9 ((cutE l (idxm at_ l.length)).length) (((cutE l (idxm at_ l.length)).flatMap entV)), blk g8 [.int .i64 (t), .int .i64 (tm), u] 24, blk g3 [.int .i64 (t), .int .i64 (tm), u] 24, blk g31 [.int .i64 (t + 1), .int .i64 (tm), v30] 24]) (Ds := [Pv 0 (.bool (true)), Pv 1 (.bool (true)), Pv 2 (.int .i64 (((dErr (t + 1) tm ((cutE l (idxm at_ l.length))) (t + 2) tm l : Nat) : Int))), Pv 3 (.bool (true)), Pv 4 (.bool (true)), Pv 5 (.bool (true)), Pv 6 (.pointer (some ⟨g51, 3, none⟩)), Pv 7 v49, Pv 8 (.int .i64 ((((dG (t + 1) tm ((cutE l (idxm at_ l.length))) (t + 2) tm l).l.length : Nat) : Int))), Pv 9 (.bool (true)), Pv 10 (.bool (true)), Pv 11 (.bool (true)), Pv 12 (.pointer (some ⟨g51, 3, none⟩)), Pv 13 v49, Pv 14 (.pointer (some (adr v49 (0 * 9)))), Pv 15 (.pointer (some (adr v49 (0 * 9 + 0)))), Pv 16 (.int .i64 ((((dG (t + 1) tm ((cutE l (idxm at_ l.length))) (t + 2) tm l).l.getD 0 default)).k)), Pv 17 (.bool (true)), Pv 18 (.bool (true)), Pv 19 (.bool (true)), Pv 20 (.pointer (some ⟨g51, 3, none⟩)), Pv 21 v49, Pv 22 (.pointer (some (adr v49 (0 * 9)))), Pv 23 (.pointer (some (adr v49 (0 * 9 + 2)))), Pv 24 (.agg #[.int .i64 ((((dG (t + 1) tm ((cutE l (idxm at_ l.length))) (t + 2) tm l).l.getD 0 default)).p0), .int .i64 ((((dG (t + 1) tm ((cutE l (idxm at_ l.length))) (t + 2) tm l).l.getD 0 default)).p1), .int .i64 ((((dG (t + 1) tm ((cutE l (idxm at_ l.length))) (t + 2) tm l).l.getD 0 default)).p2)]), Pv 25 (.pointer (some ⟨g3, 2, none⟩)), Pv 26 u, Pv 27 (.int .i64 (((idxm at_ l.length : Nat) : Int))), Pv 28 (.pointer (some (adr u ((idxm at_ l.length) * 9)))), Pv 29 (.pointer (some (adr u ((idxm at_ l.length) * 9 + 1)))), Pv 30 (.agg #[.int .i64 (((l.getD (idxm at_ l.length) default)).p0), .int .i64 (((l.getD (idxm at_ l.length) default)).p1), .int .i64 (((l.getD (idxm at_ l.length) default)).p2)]), Pv 31 (.bool (true)), Pv 32 (.bool (true)), Pv 33 (.bool (true))]) (by kernel_rfl) hs rfl .n (by kernel_rfl) (by kernel_rfl) (by kernel_rfl) ?_ ?_
  ·
   refine (.c ?_ (.c ?_ (.c ?_ (.c ?_ (.c ?_ (.c ?_ (.c ?_ (.c ?_ (.c ?_ (.c ?_ (.c ?_ (.c ?_ (.c ?_ (.c ?_ (.c ?_ (.c ?_ (.c ?_ (.c ?_ (.c ?_ (.c ?_ (.c ?_ (.c ?_ (.c ?_ (.c ?_ (.c ?_ (.c ?_ (.c ?_ (.c ?_ (.c ?_ (.c ?_ (.c ?_ (.c ?_ (.c ?_ (.c ?_ .n))))))))))))))))))))))))))))))))))
   ·
    intro a_ w_ R_ rest_ vs61 hm hs ht hx
    have hm0 := hm.mid
    have hs0 := hs.bare
    refine st_callP (v := .bool (true)) hs .n Try.call10 (alive10_ok _) rfl ?_; clear hs; intro a w hs
    exact wpList_nil ⟨rfl, _, _, hs0, .r, hs, rfl⟩
   · exact trip_pv (m := 34) (.c (k := 0) (by kernel_rfl) rfl rfl .n) (fun hm0 hm hx => .n) (by kernel_rfl) (by kernel_rfl) rfl
   · exact trip_pg (m := 34) rfl (.c (k := 1) (by kernel_rfl) rfl rfl .n) rfl (fun hm0 hm hx => .n) (by kernel_rfl) (by kernel_rfl) rfl
   ·
    intro a_ w_ R_ rest_ vs61 hm hs ht hx
    have hm0 := hm.mid
    replace hs := hs.lrn (ht 1 (twB_spec 34 _ (by kernel_rfl))) rfl rfl
    replace hs := hs.lrn (ht 2 (twB_spec 34 _ (by kernel_rfl))) rfl rfl
    have hs0 := hs.bare
    refine st_guardT hs rfl rfl rfl ?_
    refine st_eql hs rfl rfl rfl ?_; clear hs; intro a w hs
    have hb_ : ((((dErr (t + 1) tm ((cutE l (idxm at_ l.length))) (t + 2) tm l : Nat) : Int) : Int) == 0) = true := by rw [c5]; rfl
    rw [hb_] at hs; clear hb_
    exact wpList_nil ⟨rfl, _, _, hs0, (.c (.c .r)), hs, rfl⟩
   · exact trip_pv (m := 34) (.c (k := 1) (by kernel_rfl) rfl rfl (.c (k := 3) (by kernel_rfl) rfl rfl .n)) (fun hm0 hm hx => .n) (by kernel_rfl) (by kernel_rfl) rfl
   · exact trip_pv (m := 34) (.c (k := 4) (by kernel_rfl) rfl rfl .n) (fun hm0 hm hx => .n) (by kernel_rfl) (by kernel_rfl) rfl
   · exact trip_pg (m := 34) rfl (.c (k := 5) (by kernel_rfl) rfl rfl .n) rfl (fun hm0 hm hx => .n) (by kernel_rfl) (by kernel_rfl) rfl
   · exact trip_pg (m := 34) rfl (.c (k := 5) (by kernel_rfl) rfl rfl (.c (k := 6) (by kernel_rfl) rfl rfl .n)) rfl (fun hm0 hm hx => (.c (hm0.del .z))) (by kernel_rfl) (by kernel_rfl) rfl
   ·
    intro a_ w_ R_ rest_ vs61 hm hs ht hx
    have hm0 := hm.mid
    replace hs := hs.lrn (ht 5 (twB_spec 34 _ (by kernel_rfl))) rfl rfl
    replace hs := hs.lrn (ht 7 (twB_spec 34 _ (by kernel_rfl))) rfl rfl
    have hs0 := hs.bare
    refine st_guardT hs rfl rfl rfl ?_
    refine st_len hs rfl (rd_row (hm0.del (.s .z))).isSl Try.underlying25 rfl ?_; clear hs; intro a w hs
    exact wpList_nil ⟨rfl, _, _, hs0, (.c (.c .r)), hs, rfl⟩
   ·
    intro a_ w_ R_ rest_ vs61 hm hs ht hx
    have hm0 := hm.mid
    replace hs := hs.lrn (ht 5 (twB_spec 34 _ (by kernel_rfl))) rfl rfl
    replace hs := hs.lrn (ht 8 (twB_spec 34 _ (by kernel_rfl))) rfl rfl
    have hs0 := hs.bare
    refine st_guardT hs rfl rfl rfl ?_
    refine st_eql hs rfl rfl rfl ?_; clear hs; intro a w hs
    have hb_ : (((((dG (t + 1) tm ((cutE l (idxm at_ l.length))) (t + 2) tm l).l.length : Nat) : Int) : Int) == 1) = true := by rw [c7]; rfl
    rw [hb_] at hs; clear hb_
    exact wpList_nil ⟨rfl, _, _, hs0, (.c (.c .r)), hs, rfl⟩
   · exact trip_pv (m := 34) (.c (k := 5) (by kernel_rfl) rfl rfl (.c (k := 9) (by kernel_rfl) rfl rfl .n)) (fun hm0 hm hx => .n) (by kernel_rfl) (by kernel_rfl) rfl
   · exact trip_pv (m := 34) (.c (k := 10) (by kernel_rfl) rfl rfl .n) (fun hm0 hm hx => .n) (by kernel_rfl) (by kernel_rfl) rfl
   · exact trip_pg (m := 34) rfl (.c (k := 11) (by kernel_rfl) rfl rfl .n) rfl (fun hm0 hm hx => .n) (by kernel_rfl) (by kernel_rfl) rfl
   · exact trip_pg (m := 34) rfl (.c (k := 11) (by kernel_rfl) rfl rfl (.c (k := 12) (by kernel_rfl) rfl rfl .n)) rfl (fun hm0 hm hx => (.c (hm0.del .z))) (by kernel_rfl) (by kernel_rfl) rfl
   ·
    intro a_ w_ R_ rest_ vs61 hm hs ht hx
    have hm0 := hm.mid
    replace hs := hs.lrn (ht 11 (twB_spec 34 _ (by kernel_rfl))) rfl rfl
    replace hs := hs.lrn (ht 13 (twB_spec 34 _ (by kernel_rfl))) rfl rfl
    have hs0 := hs.bare
    refine st_guardT hs rfl rfl rfl ?_
    refine st_ia (j := 0) hs rfl rfl (rd_row (hm0.del (.s .z))) (by decide) (by omega) Try.underlying25 Try.sizeOf45 rfl ?_; clear hs; intro a w hs
    exact wpList_nil ⟨rfl, _, _, hs0, (.c (.c .r)), hs, rfl⟩
   ·
    intro a_ w_ R_ rest_ vs61 hm hs ht hx
    have hm0 := hm.mid
    replace hs := hs.lrn (ht 11 (twB_spec 34 _ (by kernel_rfl))) rfl rfl
    replace hs := hs.lrn (ht 14 (twB_spec 34 _ (by kernel_rfl))) rfl rfl
    have hs0 := hs.bare
    refine st_guardT hs rfl rfl rfl ?_
    refine st_faV hs rfl (rd_row (hm0.del (.s .z))) (by omega) Try.underlying45 rfl Try.sizeOf3 (by decide) (o := 0 * 9 + 0) rfl rfl ?_; clear hs; intro a w hs
    exact wpList_nil ⟨rfl, _, _, hs0, (.c (.c .r)), hs, rfl⟩
   ·
    intro a_ w_ R_ rest_ vs61 hm hs ht hx
    have hm0 := hm.mid
    replace hs := hs.lrn (ht 11 (twB_spec 34 _ (by kernel_rfl))) rfl rfl
    replace hs := hs.lrn (ht 15 (twB_spec 34 _ (by kernel_rfl))) rfl rfl
    have hs0 := hs.bare
    refine st_guardT hs rfl rfl rfl ?_
    refine st_ld (u := .int .i64 ((((dG (t + 1) tm ((cutE l (idxm at_ l.length))) (t + 2) tm l).l.getD 0 default)).k)) hs rfl (rd_row (hm0.del (.s .z))) ((flat_get1 recV_len (dG (t + 1) tm ((cutE l (idxm at_ l.length))) (t + 2) tm l).l 0 0 (by omega) (by decide)).trans rfl) Try.isAgg3 rfl ?_; clear hs; intro a w hs
    exact wpList_nil ⟨rfl, _, _, hs0, (.c (.c .r)), hs, rfl⟩
   ·
    intro a_ w_ R_ rest_ vs61 hm hs ht hx
    have hm0 := hm.mid
    replace hs := hs.lrn (ht 11 (twB_spec 34 _ (by kernel_rfl))) rfl rfl
    replace hs := hs.lrn (ht 16 (twB_spec 34 _ (by kernel_rfl))) rfl rfl
    have hs0 := hs.bare
    refine st_guardT hs rfl rfl rfl ?_
    refine st_eql hs rfl rfl rfl ?_; clear hs; intro a w hs
    have hb_ : (((((dG (t + 1) tm ((cutE l (idxm at_ l.length))) (t + 2) tm l).l.getD 0 default)).k : Int) == 0) = true := by rw [c6]; rfl
    rw [hb_] at hs; clear hb_
    exact wpList_nil ⟨rfl, _, _, hs0, (.c (.c .r)), hs, rfl⟩
   · exact trip_pv (m := 34) (.c (k := 11) (by kernel_rfl) rfl rfl (.c (k := 17) (by kernel_rfl) rfl rfl .n)) (fun hm0 hm hx => .n) (by kernel_rfl) (by kernel_rfl) rfl
   · exact trip_pv (m := 34) (.c (k := 18) (by kernel_rfl) rfl rfl .n) (fun hm0 hm hx => .n) (by kernel_rfl) (by kernel_rfl) rfl
   · exact trip_pg (m := 34) rfl (.c (k := 19) (by kernel_rfl) rfl rfl .n) rfl (fun hm0 hm hx => .n) (by kernel_rfl) (by kernel_rfl) rfl
   · exact trip_pg (m := 34) rfl (.c (k := 19) (by kernel_rfl) rfl rfl (.c (k := 20) (by kernel_rfl) rfl rfl .n)) rfl (fun hm0 hm hx => (.c (hm0.del .z))) (by kernel_rfl) (by kernel_rfl) rfl
   ·
    intro a_ w_ R_ rest_ vs61 hm hs ht hx
    have hm0 := hm.mid
    replace hs := hs.lrn (ht 19 (twB_spec 34 _ (by kernel_rfl))) rfl rfl
    replace hs := hs.lrn (ht 21 (twB_spec 34 _ (by kernel_rfl))) rfl rfl
    have hs0 := hs.bare
    refine st_guardT hs rfl rfl rfl ?_
    refine st_ia (j := 0) hs rfl rfl (rd_row (hm0.del (.s .z))) (by decide) (by omega) Try.underlying25 Try.sizeOf45 rfl ?_; clear hs; intro a w hs
    exact wpList_nil ⟨rfl, _, _, hs0, (.c (.c .r)), hs, rfl⟩
   ·
    intro a_ w_ R_ rest_ vs61 hm hs ht hx
    have hm0 := hm.mid
    replace hs := hs.lrn (ht 19 (twB_spec 34 _ (by kernel_rfl))) rfl rfl
    replace hs := hs.lrn (ht 22 (twB_spec 34 _ (by kernel_rfl))) rfl rfl
    have hs0 := hs.bare
    refine st_guardT hs rfl rfl rfl ?_
    refine st_faV hs rfl (rd_row (hm0.del (.s .z))) (by omega) Try.underlying45 rfl Try.sizeOf42 (by decide) (o := 0 * 9 + 2) rfl rfl ?_; clear hs; intro a w hs
    exact wpList_nil ⟨rfl, _, _, hs0, (.c (.c .r)), hs, rfl⟩
   ·
    intro a_ w_ R_ rest_ vs61 hm hs ht hx
    have hm0 := hm.mid
    replace hs := hs.lrn (ht 19 (twB_spec 34 _ (by kernel_rfl))) rfl rfl
    replace hs := hs.lrn (ht 23 (twB_spec 34 _ (by kernel_rfl))) rfl rfl
    have hs0 := hs.bare
    refine st_guardT hs rfl rfl rfl ?_
    refine st_ldA (cs := [.int .i64 ((((dG (t + 1) tm ((cutE l (idxm at_ l.length))) (t + 2) tm l).l.getD 0 default)).p0), .int .i64 ((((dG (t + 1) tm ((cutE l (idxm at_ l.length))) (t + 2) tm l).l.getD 0 default)).p1), .int .i64 ((((dG (t + 1) tm ((cutE l (idxm at_ l.length))) (t + 2) tm l).l.getD 0 default)).p2)]) hs rfl (rd_row (hm0.del (.s .z))) ((flat_getS recV_len (dG (t + 1) tm ((cutE l (idxm at_ l.length))) (t + 2) tm l).l 0 2 3 (by omega)).trans rfl) (by rw [flat_len recV_len]; omega) (by omega) Try.isAgg42 Try.sizeOf42 rfl ?_; clear hs; intro a w hs
    exact wpList_nil ⟨rfl, _, _, hs0, (.c (.c .r)), hs, rfl⟩
   · exact trip_pg (m := 34) rfl (.c (k := 19) (by kernel_rfl) rfl rfl .n) rfl (fun hm0 hm hx => .n) (by kernel_rfl) (by kernel_rfl) rfl
   · exact trip_pg (m := 34) rfl (.c (k := 19) (by kernel_rfl) rfl rfl (.c (k := 25) (by kernel_rfl) rfl rfl .n)) rfl (fun hm0 hm hx => (.c (hm0.del (.s (.s (.s (.s (.s (.s (.s .z)))))))))) (by kernel_rfl) (by kernel_rfl) rfl
   · exact trip_pg (m := 34) rfl (.c (k := 19) (by kernel_rfl) rfl rfl .n) rfl (fun hm0 hm hx => .n) (by kernel_rfl) (by kernel_rfl) rfl
   ·
    intro a_ w_ R_ rest_ vs61 hm hs ht hx
    have hm0 := hm.mid
    replace hs := hs.lrn (ht 19 (twB_spec 34 _ (by kernel_rfl))) rfl rfl
    replace hs := hs.lrn (ht 26 (twB_spec 34 _ (by kernel_rfl))) rfl rfl
    replace hs := hs.lrn (ht 27 (twB_spec 34 _ (by kernel_rfl))) rfl rfl
    have hs0 := hs.bare
    refine st_guardT hs rfl rfl rfl ?_
    refine st_ia (j := (idxm at_ l.length)) hs rfl rfl (hm.rd0 hc) rfl (by omega) Try.underlying22 Try.sizeOf47 rfl ?_; clear hs; intro a w hs
    exact wpList_nil ⟨rfl, _, _, hs0, (.c (.c (.c .r))), hs, rfl⟩
   ·
    intro a_ w_ R_ rest_ vs61 hm hs ht hx
    have hm0 := hm.mid
    replace hs := hs.lrn (ht 19 (twB_spec 34 _ (by kernel_rfl))) rfl rfl
    replace hs := hs.lrn (ht 28 (twB_spec 34 _ (by kernel_rfl))) rfl rfl
    have hs0 := hs.bare
    refine st_guardT hs rfl rfl rfl ?_
    refine st_faV hs rfl (hm.rd0 hc) (by omega) Try.underlying47 rfl Try.sizeOf42 (by decide) (o := (idxm at_ l.length) * 9 + 1) rfl rfl ?_; clear hs; intro a w hs
    exact wpList_nil ⟨rfl, _, _, hs0, (.c (.c .r)), hs, rfl⟩
   ·
    intro a_ w_ R_ rest_ vs61 hm hs ht hx
    have hm0 := hm.mid
    replace hs := hs.lrn (ht 19 (twB_spec 34 _ (by kernel_rfl))) rfl rfl
    replace hs := hs.lrn (ht 29 (twB_spec 34 _ (by kernel_rfl))) rfl rfl
    have hs0 := hs.bare
    refine st_guardT hs rfl rfl rfl ?_
    refine st_ldA (cs := [.int .i64 (((l.getD (idxm at_ l.length) default)).p0), .int .i64 (((l.getD (idxm at_ l.length) default)).p1), .int .i64 (((l.getD (idxm at_ l.length) default)).p2)]) hs rfl (hm.rd0 hc) ((flat_getS entV_len l (idxm at_ l.length) 1 3 (by omega)).trans rfl) (by rw [flat_len entV_len]; omega) (by omega) Try.isAgg42 Try.sizeOf42 rfl ?_; clear hs; intro a w hs
    exact wpList_nil ⟨rfl, _, _, hs0, (.c (.c .r)), hs, rfl⟩
   ·
    intro a_ w_ R_ rest_ vs61 hm hs ht hx
    have hm0 := hm.mid
    replace hs := hs.lrn (ht 19 (twB_spec 34 _ (by kernel_rfl))) rfl rfl
    replace hs := hs.lrn (ht 24 (twB_spec 34 _ (by kernel_rfl))) rfl rfl
    replace hs := hs.lrn (ht 30 (twB_spec 34 _ (by kernel_rfl))) rfl rfl
    have hs0 := hs.bare
    refine st_guardT hs rfl rfl rfl ?_
    refine st_eq3 hs rfl rfl (by kernel_rfl) Try.underlying42 Try.underlying2 Try.sizeOf2 Try.isAgg2 rfl ?_; clear hs; intro a w hs
    have hb_ : (((((dG (t + 1) tm ((cutE l (idxm at_ l.length))) (t + 2) tm l).l.getD 0 default)).p0 : Int) == (((l.getD (idxm at_ l.length) default)).p0) && ((((dG (t + 1) tm ((cutE l (idxm at_ l.length))) (t + 2) tm l).l.getD 0 default)).p1 : Int) == (((l.getD (idxm at_ l.length) default)).p1) && ((((dG (t + 1) tm ((cutE l (idxm at_ l.length))) (t + 2) tm l).l.getD 0 default)).p2 : Int) == (((l.getD (idxm at_ l.length) default)).p2)) = true := by rw [c6]; simp [putOf]
    rw [hb_] at hs; clear hb_
    exact wpList_nil ⟨rfl, _, _, hs0, (.c (.c (.c .r))), hs, rfl⟩
   · exact trip_pv (m := 34) (.c (k := 19) (by kernel_rfl) rfl rfl (.c (k := 31) (by kernel_rfl) rfl rfl .n)) (fun hm0 hm hx => .n) (by kernel_rfl) (by kernel_rfl) rfl
   exact trip_pv (m := 34) (.c (k := 32) (by kernel_rfl) rfl rfl .n) (fun hm0 hm hx => .n) (by kernel_rfl) (by kernel_rfl) rfl
  clear hs w a; intro a w vs61 hs hf
  replace hs : St _ _ _ _ [blk g51 [.int .i64 ((dG (t + 1) tm ((cutE l (idxm at_ l.length))) (t + 2) tm l).t), .int .i64 ((dG (t + 1) tm ((cutE l (idxm at_ l.length))) (t + 2) tm l).tm), .int .i64 ((dG (t + 1) tm ((cutE l (idxm at_ l.length))) (t + 2) tm l).b), v49] 27, row v49 45 9 ((dG (t + 1) tm ((cutE l (idxm at_ l.length))) (t + 2) tm l).l.length) (((dG (t + 1) tm ((cutE l (idxm at_ l.length))) (t + 2) tm l).l.flatMap recV)), blk g44 [.int .i64 (t + 2), .int .i64 (tm), u] 24, blk g36 [.int .i64 ((dG t tm l (t + 1) tm ((cutE l (idxm at_ l.length)))).t), .int .i64 ((dG t tm l (t + 1) tm ((cutE l (idxm at_ l.length)))).tm), .int .i64 ((dG t tm l (t + 1) tm ((cutE l (idxm at_ l.length)))).b), v34] 27, row v34 45 9 ((dG t tm l (t + 1) tm ((cutE l (idxm at_ l.length)))).l.length) (((dG t tm l (t + 1) tm ((cutE l (idxm at_ l.length)))).l.flatMap recV)), row v30 47 9 ((cutE l (idxm at_ l.length)).length) (((cutE l (idxm at_ l.length)).flatMap entV)), blk g8 [.int .i64 (t), .int .i64 (tm), u] 24, blk g3 [.int .i64 (t), .int .i64 (tm), u] 24, blk g31 [.int .i64 (t + 1), .int .i64 (tm), v30] 24] _ _ := hs
  obtain ⟨e33, q33⟩ := hf 33 (by decide)
  replace e33 : _ = some (vs61 33) := e33.val rfl
  rw [show vs61 33 = .bool (true) from q33] at e33
  replace hs := hs.learn e33; clear e33 q33
  clear hf
  refine then_n (hK60 _ _ ?_)
  refine wp_ret ?_
  replace hs := hs.drop (.c (.s (.s (.s (.s (.s (.s (.s (.s .z)))))))) (.c (.s (.s (.s (.s (.s (.s (.s .z))))))) (.c (.s (.s (.s (.s (.s (.s .z)))))) (.c (.s (.s (.s (.s (.s .z))))) (.c (.s (.s (.s (.s .z)))) (.c (.s (.s (.s .z))) (.c (.s (.s .z)) (.c (.s .z) (.c .z .n)))))))))
  exact fin hs rfl rfl ⟨rfl, rfl⟩
end Go.Proofs.Ytbioemaipghagaa
