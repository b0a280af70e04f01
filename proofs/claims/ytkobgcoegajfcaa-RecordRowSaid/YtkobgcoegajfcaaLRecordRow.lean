/- Walks of RecordRow: what each function does, over the program of this seat. Printed by a program of this session. -/
import Derived.Test.YtkobgcoegajfcaaWrec2
import Derived.Test.YtkobgcoegajfcaaWrec5
import Derived.Test.YtkobgcoegajfcaaSxRrec
namespace Go.Proofs.Ytkobgcoegajfcaa
open Go Go.Sx Go.RowKit
set_option linter.unusedVariables false
set_option linter.unusedSimpArgs false
set_option maxRecDepth 4000
set_option maxHeartbeats 1000000

theorem recordRow_ok (u : Value) (m : Nat) (l : List RecR) (w0 : World) (hl : ∀ x ∈ l, x.wf) (hc : Rd w0 [] u 9 m (l.flatMap recV)) : Calls Try.prog 11 #[u] w0 (RetV w0 (.bool true)) := by
  have hcl : l.length = m := by have := hc.len; rw [flat_len recV_len] at this; omega
  have hce : m ≤ maxLen := hc.le
  simp only [maxLen] at hce
  refine enter (F0 := [(0, u)]) Try.func11 rfl rfl rfl (.c .n) (Mem.nil _) fun a w hs => ?_
  refine wp_seq_k fun K1 hK2 => ?_
  refine wp_region_lit ?_
  refine st_as hs rfl rfl ?_; clear hs w a; intro a w hs
  refine wpList_nil ?_
  refine then_n (hK2 _ _ ?_)
  refine wp_seq_k fun K3 hK4 => ?_
  refine wp_seq_k fun K5 hK6 => ?_
  refine wp_region_lit ?_
  refine st_callP (v := .bool (true)) hs .n Try.call20 (alive08_ok _) rfl ?_; clear hs w a; intro a w hs
  refine st_not hs rfl rfl ?_; clear hs w a; intro a w hs
  refine st_mv hs rfl rfl ?_; clear hs w a; intro a w hs
  refine st_part (b := !(true)) (fun hc7 => ?_) (fun hc7 => ?_)
  ·
   rw [hc7] at hs
   replace hc7 := not_t hc7
   refine st_guardF hs rfl rfl rfl rfl rfl ?_; clear hs w a; intro a w hs
   refine st_guardF hs rfl rfl rfl rfl rfl ?_; clear hs w a; intro a w hs
   refine st_guardF hs rfl rfl rfl rfl rfl ?_; clear hs w a; intro a w hs
   refine st_pickT hs rfl rfl rfl ?_; clear hs w a; intro a w hs
   refine wpList_nil ?_
   refine then_n (hK6 _ _ ?_)
   refine wp_cond_true (hs.ev rfl) ?_
   refine wp_seq_k fun K8 hK9 => ?_
   refine wp_region_lit ?_
   refine st_callP (v := .bool (true)) hs .n Try.call20 (alive08_ok _) rfl ?_; clear hs w a; intro a w hs
   refine st_as hs rfl rfl ?_; clear hs w a; intro a w hs
   refine wpList_nil ?_
   refine then_n (hK9 _ _ ?_)
   refine wp_ret ?_
   refine th_r ?_
   exact fin hs rfl rfl ⟨rfl, rfl⟩
  rw [hc7] at hs
  replace hc7 := not_f hc7
  refine st_guardT hs rfl rfl rfl ?_
  refine st_mv hs rfl rfl ?_; clear hs w a; intro a w hs
  refine st_guardT hs rfl rfl rfl ?_
  refine st_len hs rfl (hs.rd0 hc).isSl Try.underlying66 rfl ?_; clear hs w a; intro a w hs
  refine st_guardT hs rfl rfl rfl ?_
  refine st_gtr hs rfl rfl rfl ?_; clear hs w a; intro a w hs
  refine st_pickF hs rfl rfl rfl ?_; clear hs w a; intro a w hs
  refine wpList_nil ?_
  refine then_n (hK6 _ _ ?_)
  refine wp_if hs rfl (fun hc10 => ?_) (fun hc10 => ?_)
  ·
   replace hc10 := of_decide_eq_true hc10
   refine wp_seq_k fun K11 hK12 => ?_
   refine wp_region_lit ?_
   refine st_callP (v := .bool (true)) hs .n Try.call20 (alive08_ok _) rfl ?_; clear hs w a; intro a w hs
   refine st_as hs rfl rfl ?_; clear hs w a; intro a w hs
   refine wpList_nil ?_
   refine then_n (hK12 _ _ ?_)
   refine wp_ret ?_
   refine th_r ?_
   exact fin hs rfl rfl ⟨rfl, rfl⟩
  replace hc10 := of_decide_eq_false hc10
  refine wp_skip ?_
  refine then_n (hK4 _ _ ?_)
  refine wp_seq_k fun K13 hK14 => ?_
  refine wp_region_lit ?_
  refine st_as hs rfl rfl ?_; clear hs w a; intro a w hs
  refine wpList_nil ?_
  refine then_n (hK14 _ _ ?_)
  refine wp_seq_k fun K15 hK16 => ?_
  refine wp_region_lit ?_
  refine st_as hs rfl rfl ?_; clear hs w a; intro a w hs
  refine wpList_nil ?_
  refine then_n (hK16 _ _ ?_)
  refine wp_seq_k fun K17 hK18 => ?_
  refine wp_region_lit ?_
  refine st_as hs rfl rfl ?_; clear hs w a; intro a w hs
  refine wpList_nil ?_
  refine then_n (hK18 _ _ ?_)
  refine wp_seq_k fun K19 hK20 => ?_
  refine wp_seq_k fun K21 hK22 => ?_
  refine wp_region_lit ?_
  refine st_mv hs rfl rfl ?_; clear hs w a; intro a w hs
  refine st_len hs rfl (hs.rd0 hc).isSl Try.underlying66 rfl ?_; clear hs w a; intro a w hs
  refine st_mv hs rfl rfl ?_; clear hs w a; intro a w hs
  refine wpList_nil ?_
  refine then_n (hK22 _ _ ?_)
  refine wp_block ?_
  replace hs := hs.addNil 25 9
  replace hs := hs.rerow .z (m' := (rowJ l 0).2.1.length) (xs' := ((rowJ l 0).2.1.flatMap recV)) (rfl) (rfl)
  replace hs := hs.addNil 5 1
  replace hs := hs.rerow .z (m' := (rowJ l 0).1.length) (xs' := bytesV (rowJ l 0).1) (rfl) (rfl)
  refine wp_loopI (fun mm_ a w => ∃ j : Nat, ∃ p : Value, ∃ q : Value, mm_ = m - j ∧ St 81 [(0, u), (3, p), (4, q), (5, .int .i64 ((rowJ l j).2.2)), (23, u), (24, .int .i64 ((m : Int))), (25, .int .i64 ((j : Int)))] w0 [] [row p 5 1 ((rowJ l j).1.length) (bytesV (rowJ l j).1), row q 25 9 ((rowJ l j).2.1.length) (((rowJ l j).2.1.flatMap recV))] a w ∧ j ≤ m ∧ RowInv j (rowJ l j)) ⟨0, .slice none 0 0, .slice none 0 0, rfl, hs.sub (.c rfl (.c rfl (.c rfl (.c rfl (.c rfl (.c rfl (.c rfl .n))))))), by omega, rowJ_inv hl 0 (Nat.zero_le _)⟩ ?_
  clear hs w a; rintro mm_ a w ⟨j, p, q, rfl, hs, hI1_0, hI1_1⟩
  have hsz := hI1_1.size
  have hlen := hI1_1.len
  have hlo := hI1_1.lo
  have hhi := hI1_1.hi
  refine wp_seq_k fun K23 hK24 => ?_
  refine wp_region_lit ?_
  refine st_lss hs rfl rfl rfl ?_; clear hs w a; intro a w hs
  refine wpList_nil ?_
  refine then_n (hK24 _ _ ?_)
  refine wp_seq_k fun K25 hK26 => ?_
  refine wp_if hs rfl (fun hc27 => ?_) (fun hc27 => ?_)
  ·
   replace hc27 := of_decide_eq_true hc27
   refine wp_skip ?_
   refine then_n (hK26 _ _ ?_)
   refine wp_seq_k fun K28 hK29 => ?_
   refine wp_block ?_
   refine wp_seq_k fun K30 hK31 => ?_
   refine wp_region_lit ?_
   refine st_ia (j := j) hs rfl rfl (hs.rd0 hc) rfl (by omega) Try.underlying66 Try.sizeOf25 rfl ?_; clear hs w a; intro a w hs
   refine st_ldA (cs := recV (l.getD j default)) hs rfl (hs.rd0 hc) (flat_get recV_len l j (by omega)) (by rw [flat_len recV_len]; omega) (by omega) Try.isAgg25 Try.sizeOf25 rfl ?_; clear hs w a; intro a w hs
   refine st_alloc (cs := [.int .i64 (0), .int .i64 (0), .int .i64 (0), .int .i64 (0), .int .i64 (0), .int .i64 (0), .int .i64 (0), .int .i64 (0), .int .u16 (0)]) hs Try.zeroValue25 rfl rfl ?_; clear hs w a; intro g32 a w hs
   refine st_stBA hs rfl rfl .z (.z (.c (.c (.c (.c (.c (.c (.c (.c (.c .n)))))))))) (ones_c rfl (ones_c rfl (ones_c rfl (ones_c rfl (ones_c rfl (ones_c rfl (ones_c rfl (ones_c rfl (ones_c rfl ones_n))))))))) Try.sizeOf25 rfl ?_; clear hs w a; intro a w hs
   refine wpList_nil ?_
   refine then_n (hK31 _ _ ?_)
   refine wp_seq_k fun K33 hK34 => ?_
   refine wp_region_lit ?_
   refine st_ldBA hs rfl .z (.z (.c (.c (.c (.c (.c (.c (.c (.c (.c .n)))))))))) Try.isAgg25 Try.sizeOf25 rfl ?_; clear hs w a; intro a w hs
   refine st_mv hs rfl rfl ?_; clear hs w a; intro a w hs
   refine st_call hs (.c rfl (.c rfl .n)) Try.call18 .n (write_ok (l.getD j default) ((rowJ l j).2.2) _ (recs_getD hl (by omega)) (by omega)) rfl ?_; clear hs w a; rintro _ _ a w ⟨v35, rfl, rfl⟩ hs; simp only [List.cons_append, List.nil_append] at hs
   have hk36 := length_recB (l.getD j default) ((rowJ l j).2.2)
   refine st_mv hs rfl rfl ?_; clear hs w a; intro a w hs
   refine st_ex hs rfl .z rfl ?_; clear hs w a; intro a w hs
   refine st_ex hs rfl (.s .z) rfl ?_; clear hs w a; intro a w hs
   refine st_as hs rfl rfl ?_; clear hs w a; intro a w hs
   refine st_as hs rfl rfl ?_; clear hs w a; intro a w hs
   refine wpList_nil ?_
   refine then_n (hK34 _ _ ?_)
   refine wp_seq_k fun K37 hK38 => ?_
   refine wp_region_lit ?_
   refine st_mv hs rfl rfl ?_; clear hs w a; intro a w hs
   refine st_eql hs rfl rfl rfl ?_; clear hs w a; intro a w hs
   refine wpList_nil ?_
   refine then_n (hK38 _ _ ?_)
   refine wp_if hs rfl (fun hc39 => ?_) (fun hc39 => ?_)
   ·
    replace hc39 := eq_of_beq hc39
    replace hs := hs.sub (F' := [(36, .bool ((((recErr (l.getD j default) ((rowJ l j).2.2) : Nat) : Int) : Int) == 0)), (35, .int .i64 (((recErr (l.getD j default) ((rowJ l j).2.2) : Nat) : Int))), (9, .int .i64 (((recErr (l.getD j default) ((rowJ l j).2.2) : Nat) : Int))), (8, v35), (34, .int .i64 (((recErr (l.getD j default) ((rowJ l j).2.2) : Nat) : Int))), (33, v35), (29, .tuple #[v35, .int .i64 (((recErr (l.getD j default) ((rowJ l j).2.2) : Nat) : Int))]), (32, .tuple #[v35, .int .i64 (((recErr (l.getD j default) ((rowJ l j).2.2) : Nat) : Int))]), (31, .int .i64 ((rowJ l j).2.2)), (30, .agg #[.int .i64 ((l.getD j default).k), .int .i64 ((l.getD j default).id), .int .i64 ((l.getD j default).p0), .int .i64 ((l.getD j default).p1), .int .i64 ((l.getD j default).p2), .int .i64 ((l.getD j default).v0), .int .i64 ((l.getD j default).v1), .int .i64 ((l.getD j default).v2), .int .u16 (((((l.getD j default).a).toNat : Nat) : Int))]), (7, .pointer (some ⟨g32, 0, none⟩)), (28, .agg #[.int .i64 ((l.getD j default).k), .int .i64 ((l.getD j default).id), .int .i64 ((l.getD j default).p0), .int .i64 ((l.getD j default).p1), .int .i64 ((l.getD j default).p2), .int .i64 ((l.getD j default).v0), .int .i64 ((l.getD j default).v1), .int .i64 ((l.getD j default).v2), .int .u16 (((((l.getD j default).a).toNat : Nat) : Int))]), (27, .pointer (some (adr u (j * 9)))), (26, .bool (decide ((j : Int) < (m : Int)))), (0, u), (3, p), (4, q), (23, u), (24, .int .i64 ((m : Int))), (25, .int .i64 ((j : Int)))]) (.c rfl (.c rfl (.c rfl (.c rfl (.c rfl (.c rfl (.c rfl (.c rfl (.c rfl (.c rfl (.c rfl (.c rfl (.c rfl (.c rfl (.c rfl (.c rfl (.c rfl (.c rfl (.c rfl (.c rfl .n))))))))))))))))))))
    have hs1 := hs
    replace hs := hs.sub (F' := [(36, .bool ((((recErr (l.getD j default) ((rowJ l j).2.2) : Nat) : Int) : Int) == 0)), (35, .int .i64 (((recErr (l.getD j default) ((rowJ l j).2.2) : Nat) : Int))), (9, .int .i64 (((recErr (l.getD j default) ((rowJ l j).2.2) : Nat) : Int))), (8, v35), (34, .int .i64 (((recErr (l.getD j default) ((rowJ l j).2.2) : Nat) : Int))), (33, v35), (29, .tuple #[v35, .int .i64 (((recErr (l.getD j default) ((rowJ l j).2.2) : Nat) : Int))]), (32, .tuple #[v35, .int .i64 (((recErr (l.getD j default) ((rowJ l j).2.2) : Nat) : Int))]), (31, .int .i64 ((rowJ l j).2.2)), (30, .agg #[.int .i64 ((l.getD j default).k), .int .i64 ((l.getD j default).id), .int .i64 ((l.getD j default).p0), .int .i64 ((l.getD j default).p1), .int .i64 ((l.getD j default).p2), .int .i64 ((l.getD j default).v0), .int .i64 ((l.getD j default).v1), .int .i64 ((l.getD j default).v2), .int .u16 (((((l.getD j default).a).toNat : Nat) : Int))]), (7, .pointer (some ⟨g32, 0, none⟩)), (28, .agg #[.int .i64 ((l.getD j default).k), .int .i64 ((l.getD j default).id), .int .i64 ((l.getD j default).p0), .int .i64 ((l.getD j default).p1), .int .i64 ((l.getD j default).p2), .int .i64 ((l.getD j default).v0), .int .i64 ((l.getD j default).v1), .int .i64 ((l.getD j default).v2), .int .u16 (((((l.getD j default).a).toNat : Nat) : Int))]), (27, .pointer (some (adr u (j * 9)))), (26, .bool (decide ((j : Int) < (m : Int)))), (0, u), (23, u), (24, .int .i64 ((m : Int))), (25, .int .i64 ((j : Int)))]) (.c rfl (.c rfl (.c rfl (.c rfl (.c rfl (.c rfl (.c rfl (.c rfl (.c rfl (.c rfl (.c rfl (.c rfl (.c rfl (.c rfl (.c rfl (.c rfl (.c rfl (.c rfl .n))))))))))))))))))
    refine wp_drawGw (M0 := [row v35 5 1 ((recB (l.getD j default) ((rowJ l j).2.2)).length) (bytesV (recB (l.getD j default) ((rowJ l j).2.2))), blk g32 [.int .i64 ((l.getD j default).k), .int .i64 ((l.getD j default).id), .int .i64 ((l.getD j default).p0), .int .i64 ((l.getD j default).p1), .int .i64 ((l.getD j default).p2), .int .i64 ((l.getD j default).v0), .int .i64 ((l.getD j default).v1), .int .i64 ((l.getD j default).v2), .int .u16 (((((l.getD j default).a).toNat : Nat) : Int))] 25]) (Ds := [Pv 0 p, Pv 1 v35, ⟨[row p 5 1 ((rowJ l j).1.length) (bytesV (rowJ l j).1)], [], [], fun vs40 => True, fun vs40 => [row (vs40 2) 5 1 (((rowJ l j).1.length) + ((recB (l.getD j default) ((rowJ l j).2.2)).length)) ((bytesV (rowJ l j).1) ++ (bytesV (recB (l.getD j default) ((rowJ l j).2.2))))], none⟩, Pv 3 q, Pv 4 (.agg #[.int .i64 ((l.getD j default).k), .int .i64 ((l.getD j default).id), .int .i64 ((l.getD j default).p0), .int .i64 ((l.getD j default).p1), .int .i64 ((l.getD j default).p2), .int .i64 ((l.getD j default).v0), .int .i64 ((l.getD j default).v1), .int .i64 ((l.getD j default).v2), .int .u16 (((((l.getD j default).a).toNat : Nat) : Int))]), ⟨[], [], [], fun vs40 => vs40 5 = .slice (some ⟨(ptrG (vs40 5)), 0, none⟩) 1 1, fun vs40 => [blk (ptrG (vs40 5)) [.int .i64 ((l.getD j default).k), .int .i64 ((l.getD j default).id), .int .i64 ((l.getD j default).p0), .int .i64 ((l.getD j default).p1), .int .i64 ((l.getD j default).p2), .int .i64 ((l.getD j default).v0), .int .i64 ((l.getD j default).v1), .int .i64 ((l.getD j default).v2), .int .u16 (((((l.getD j default).a).toNat : Nat) : Int))] 25], none⟩, ⟨[row q 25 9 ((rowJ l j).2.1.length) (((rowJ l j).2.1.flatMap recV))], [], [], fun vs40 => True, fun vs40 => [row (vs40 6) 25 9 (((rowJ l j).2.1.length) + 1) ((((rowJ l j).2.1.flatMap recV)) ++ ([.int .i64 ((l.getD j default).k), .int .i64 ((l.getD j default).id), .int .i64 ((l.getD j default).p0), .int .i64 ((l.getD j default).p1), .int .i64 ((l.getD j default).p2), .int .i64 ((l.getD j default).v0), .int .i64 ((l.getD j default).v1), .int .i64 ((l.getD j default).v2), .int .u16 (((((l.getD j default).a).toNat : Nat) : Int))]))], none⟩, Pv 7 (.pointer (some ⟨g32, 1, none⟩)), Pv 8 (.int .i64 ((l.getD j default).id)), ⟨[], [], [2], fun vs40 => vs40 9 = (vs40 2), fun vs40 => [], some (p)⟩, ⟨[], [], [6], fun vs40 => vs40 10 = (vs40 6), fun vs40 => [], some (q)⟩, Pv 11 (.int .i64 ((l.getD j default).id))]) (by kernel_rfl) hs rfl (.c (.s (.s .z)) (.c (.s (.s .z)) .n)) (by kernel_rfl) (by kernel_rfl) ?_ (WasL.get (.z rfl (.z rfl (.z rfl (.z rfl (.z rfl (.z rfl (.z rfl (.z rfl (.z rfl (.s rfl rfl rfl (.s rfl rfl rfl (.z rfl .n)))))))))))) hs1) ?_
    all_goals clear hs1
    ·
     refine (.c ?_ (.c ?_ (.c ?_ (.c ?_ (.c ?_ (.c ?_ (.c ?_ (.c ?_ (.c ?_ (.c ?_ (.c ?_ (.c ?_ .n))))))))))))
     ·
      intro a_ w_ R_ rest_ vs40 hm hs ht hx
      have hm0 := hm.mid
      have e9 : _ = some (p) := ((hx 9 (twB_spec 12 _ (by kernel_rfl))).2 _ rfl).val rfl
      replace hs := hs.learn e9
      have hs0 := hs.bare
      refine st_mv hs rfl rfl ?_; clear hs; intro a w hs
      exact wpList_nil ⟨rfl, _, _, hs0, (.c .r), hs, rfl⟩
     ·
      intro a_ w_ R_ rest_ vs40 hm hs ht hx
      have hm0 := hm.mid
      have hs0 := hs.bare
      refine st_mv hs rfl rfl ?_; clear hs; intro a w hs
      exact wpList_nil ⟨rfl, _, _, hs0, .r, hs, rfl⟩
     ·
      intro a_ w_ R_ rest_ vs40 hm hs ht hx
      replace hs : St _ _ _ (feet [row p 5 1 ((rowJ l j).1.length) (bytesV (rowJ l j).1)]) [row p 5 1 ((rowJ l j).1.length) (bytesV (rowJ l j).1)] _ _ := hs
      have hm0 := hm.mid
      have t0 := ht 0 (twB_spec 12 _ (by kernel_rfl))
      have e0 : _ = some (vs40 0) := t0.val rfl
      rw [show vs40 0 = p from t0.2.1] at e0
      replace hs := hs.learn e0
      have t1 := ht 1 (twB_spec 12 _ (by kernel_rfl))
      have e1 : _ = some (vs40 1) := t1.val rfl
      rw [show vs40 1 = v35 from t1.2.1] at e1
      replace hs := hs.learn e1
      have hs0 := hs.bare
      refine st_app (size := 1) (bytes := 1) hs rfl rfl .z (rd_row (hm0.del .z)) (oneCell_bytesV _) Try.underlying26 (i := Try.t5) rfl rfl rfl rfl rfl (by decide) (by omega) (by simp only [maxLen]; omega) rfl ?_; clear hs; intro v41 a w hs
      exact wpList_nil ⟨rfl, _, _, hs0, (.c (.c .r)), hs, trivial⟩
     ·
      intro a_ w_ R_ rest_ vs40 hm hs ht hx
      have hm0 := hm.mid
      have e10 : _ = some (q) := ((hx 10 (twB_spec 12 _ (by kernel_rfl))).2 _ rfl).val rfl
      replace hs := hs.learn e10
      have hs0 := hs.bare
      refine st_mv hs rfl rfl ?_; clear hs; intro a w hs
      exact wpList_nil ⟨rfl, _, _, hs0, (.c .r), hs, rfl⟩
     ·
      intro a_ w_ R_ rest_ vs40 hm hs ht hx
      have hm0 := hm.mid
      have hs0 := hs.bare
      refine st_ldEA hs rfl (hm0.del (.s .z)) (.z (.c (.c (.c (.c (.c (.c (.c (.c (.c .n)))))))))) Try.isAgg25 Try.sizeOf25 rfl ?_; clear hs; intro a w hs
      exact wpList_nil ⟨rfl, _, _, hs0, .r, hs, rfl⟩
     ·
      intro a_ w_ R_ rest_ vs40 hm hs ht hx
      have hm0 := hm.mid
      have t4 := ht 4 (twB_spec 12 _ (by kernel_rfl))
      have e4 : _ = some (vs40 4) := t4.val rfl
      rw [show vs40 4 = .agg #[.int .i64 ((l.getD j default).k), .int .i64 ((l.getD j default).id), .int .i64 ((l.getD j default).p0), .int .i64 ((l.getD j default).p1), .int .i64 ((l.getD j default).p2), .int .i64 ((l.getD j default).v0), .int .i64 ((l.getD j default).v1), .int .i64 ((l.getD j default).v2), .int .u16 (((((l.getD j default).a).toNat : Nat) : Int))] from t4.2.1] at e4
      replace hs := hs.learn e4
      have hs0 := hs.bare
      refine st_bs (cs := [.int .i64 ((l.getD j default).k), .int .i64 ((l.getD j default).id), .int .i64 ((l.getD j default).p0), .int .i64 ((l.getD j default).p1), .int .i64 ((l.getD j default).p2), .int .i64 ((l.getD j default).v0), .int .i64 ((l.getD j default).v1), .int .i64 ((l.getD j default).v2), .int .u16 (((((l.getD j default).a).toNat : Nat) : Int))]) hs (.c .n) (.c rfl .n) Try.underlying66 (ie := Try.t25) rfl rfl rfl rfl (by decide) (by decide) rfl (by decide) rfl rfl rfl ?_; clear hs; intro g42 a w hs
      exact wpList_nil ⟨rfl, _, _, hs0, (.c .r), hs, rfl⟩
     ·
      intro a_ w_ R_ rest_ vs40 hm hs ht hx
      replace hs : St _ _ _ (feet [row q 25 9 ((rowJ l j).2.1.length) (((rowJ l j).2.1.flatMap recV))]) [row q 25 9 ((rowJ l j).2.1.length) (((rowJ l j).2.1.flatMap recV))] _ _ := hs
      have hm0 := hm.mid
      have t3 := ht 3 (twB_spec 12 _ (by kernel_rfl))
      have e3 : _ = some (vs40 3) := t3.val rfl
      rw [show vs40 3 = q from t3.2.1] at e3
      replace hs := hs.learn e3
      have t5 := ht 5 (twB_spec 12 _ (by kernel_rfl))
      have e5 : _ = some (vs40 5) := t5.val rfl
      rw [show vs40 5 = .slice (some ⟨(ptrG (vs40 5)), 0, none⟩) 1 1 from t5.2.1] at e5
      replace hs := hs.learn e5
      have hs0 := hs.bare
      refine st_app (size := 9) (bytes := 72) hs rfl rfl .z (rd_blk (m := 1) (hm.own (List.mem_append.2 (.inr ((ht 5 (twB_spec 12 _ (by kernel_rfl))).2.2 (later (n := 12) (by kernel_rfl)) _ (List.Mem.head _))))) rfl (by decide)) (by simp [Value.oneCell']) Try.underlying66 (i := Try.t25) rfl rfl rfl rfl rfl (by decide) (by omega) (by simp only [maxLen]; omega) rfl ?_; clear hs; intro v43 a w hs
      exact wpList_nil ⟨rfl, _, _, hs0, (.c (.c .r)), hs, trivial⟩
     ·
      intro a_ w_ R_ rest_ vs40 hm hs ht hx
      have hm0 := hm.mid
      have hs0 := hs.bare
      refine st_fa hs rfl Try.underlying25 rfl Try.sizeOf3 (by decide) (o := 1) rfl rfl ?_; clear hs; intro a w hs
      exact wpList_nil ⟨rfl, _, _, hs0, .r, hs, rfl⟩
     ·
      intro a_ w_ R_ rest_ vs40 hm hs ht hx
      have hm0 := hm.mid
      have t7 := ht 7 (twB_spec 12 _ (by kernel_rfl))
      have e7 : _ = some (vs40 7) := t7.val rfl
      rw [show vs40 7 = .pointer (some ⟨g32, 1, none⟩) from t7.2.1] at e7
      replace hs := hs.learn e7
      have hs0 := hs.bare
      refine st_ldE hs rfl (hm0.del (.s .z)) (.s .z) Try.isAgg3 rfl ?_; clear hs; intro a w hs
      exact wpList_nil ⟨rfl, _, _, hs0, (.c .r), hs, rfl⟩
     ·
      intro a_ w_ R_ rest_ vs40 hm hs ht hx
      have hm0 := hm.mid
      have t2 := ht 2 (twB_spec 12 _ (by kernel_rfl))
      have e2 : _ = some (vs40 2) := t2.val rfl
      replace hs := hs.learn e2
      have hs0 := hs.bare
      refine st_as hs rfl rfl ?_; clear hs; intro a w hs
      exact wpList_nil ⟨rfl, _, _, hs0, (.c .r), hs, rfl⟩
     ·
      intro a_ w_ R_ rest_ vs40 hm hs ht hx
      have hm0 := hm.mid
      have t6 := ht 6 (twB_spec 12 _ (by kernel_rfl))
      have e6 : _ = some (vs40 6) := t6.val rfl
      replace hs := hs.learn e6
      have hs0 := hs.bare
      refine st_as hs rfl rfl ?_; clear hs; intro a w hs
      exact wpList_nil ⟨rfl, _, _, hs0, (.c .r), hs, rfl⟩
     intro a_ w_ R_ rest_ vs40 hm hs ht hx
     have hm0 := hm.mid
     have t8 := ht 8 (twB_spec 12 _ (by kernel_rfl))
     have e8 : _ = some (vs40 8) := t8.val rfl
     rw [show vs40 8 = .int .i64 ((l.getD j default).id) from t8.2.1] at e8
     replace hs := hs.learn e8
     have hs0 := hs.bare
     refine st_as hs rfl rfl ?_; clear hs; intro a w hs
     exact wpList_nil ⟨rfl, _, _, hs0, (.c .r), hs, rfl⟩
    clear hs w a; intro a w vs40 hs hf
    replace hs : St _ _ _ _ [row v35 5 1 ((recB (l.getD j default) ((rowJ l j).2.2)).length) (bytesV (recB (l.getD j default) ((rowJ l j).2.2))), blk g32 [.int .i64 ((l.getD j default).k), .int .i64 ((l.getD j default).id), .int .i64 ((l.getD j default).p0), .int .i64 ((l.getD j default).p1), .int .i64 ((l.getD j default).p2), .int .i64 ((l.getD j default).v0), .int .i64 ((l.getD j default).v1), .int .i64 ((l.getD j default).v2), .int .u16 (((((l.getD j default).a).toNat : Nat) : Int))] 25, row (vs40 2) 5 1 (((rowJ l j).1.length) + ((recB (l.getD j default) ((rowJ l j).2.2)).length)) ((bytesV (rowJ l j).1) ++ (bytesV (recB (l.getD j default) ((rowJ l j).2.2)))), blk (ptrG (vs40 5)) [.int .i64 ((l.getD j default).k), .int .i64 ((l.getD j default).id), .int .i64 ((l.getD j default).p0), .int .i64 ((l.getD j default).p1), .int .i64 ((l.getD j default).p2), .int .i64 ((l.getD j default).v0), .int .i64 ((l.getD j default).v1), .int .i64 ((l.getD j default).v2), .int .u16 (((((l.getD j default).a).toNat : Nat) : Int))] 25, row (vs40 6) 25 9 (((rowJ l j).2.1.length) + 1) ((((rowJ l j).2.1.flatMap recV)) ++ ([.int .i64 ((l.getD j default).k), .int .i64 ((l.getD j default).id), .int .i64 ((l.getD j default).p0), .int .i64 ((l.getD j default).p1), .int .i64 ((l.getD j default).p2), .int .i64 ((l.getD j default).v0), .int .i64 ((l.getD j default).v1), .int .i64 ((l.getD j default).v2), .int .u16 (((((l.getD j default).a).toNat : Nat) : Int))]))] _ _ := hs
    obtain ⟨e9, q9⟩ := hf 9 (by decide)
    replace e9 : _ = some (vs40 9) := e9.val rfl
    rw [show vs40 9 = (vs40 2) from q9] at e9
    replace hs := hs.learn e9; clear e9 q9
    obtain ⟨e10, q10⟩ := hf 10 (by decide)
    replace e10 : _ = some (vs40 10) := e10.val rfl
    rw [show vs40 10 = (vs40 6) from q10] at e10
    replace hs := hs.learn e10; clear e10 q10
    obtain ⟨e11, q11⟩ := hf 11 (by decide)
    replace e11 : _ = some (vs40 11) := e11.val rfl
    rw [show vs40 11 = .int .i64 ((l.getD j default).id) from q11] at e11
    replace hs := hs.learn e11; clear e11 q11
    generalize vs40 2 = v44 at hs
    generalize ptrG (vs40 5) = g45 at hs
    generalize vs40 6 = v46 at hs
    clear hf
    refine in_n ?_
    refine then_n (hK29 _ _ ?_)
    refine wp_region_lit ?_
    refine st_addR hs rfl rfl (by omega) rfl ?_; clear hs w a; intro a w hs
    refine st_mv hs rfl rfl ?_; clear hs w a; intro a w hs
    refine wpList_nil ?_
    refine then_n ?_
    have hY := rowJ_y (l := l) (j := j) (by omega) (by omega)
    replace hs := hs.rerow (.s (.s (.s (.s .z)))) (m' := (rowJ l (j + 1)).2.1.length) (xs' := ((rowJ l (j + 1)).2.1.flatMap recV)) (by rw [hY]; simp only [List.length_append, List.length_singleton]) (by rw [hY]; dsimp only; rw [List.flatMap_append]; rfl)
    replace hs := hs.rerow (.s (.s (.s .z))) (m' := (rowJ l (j + 1)).1.length) (xs' := bytesV (rowJ l (j + 1)).1) (by rw [hY]; simp only [List.length_append]) (by rw [hY]; dsimp only; rw [bytesV_append])
    replace hs := hs.reslot (d := 5) (v := .int .i64 ((l.getD j default).id)) (v' := .int .i64 ((rowJ l (j + 1)).2.2)) rfl (Option.some.inj (by rw [hY]))
    replace hs := hs.drop (.c (.s (.s (.s (.s .z)))) (.c (.s (.s (.s .z))) (.c (.s (.s .z)) .n)))
    refine ⟨_, ?_, j + 1, v44, v46, rfl, hs.sub (.c rfl (.c rfl (.c rfl (.c rfl (.c rfl (.c rfl (.c rfl .n))))))), by omega, rowJ_inv hl (j + 1) (by omega)⟩
    omega
   replace hc39 := ne_of_beq_f hc39
   refine wp_skip ?_
   refine in_n ?_
   refine then_n (hK29 _ _ ?_)
   refine wp_region_lit ?_
   refine st_addR hs rfl rfl (by omega) rfl ?_; clear hs w a; intro a w hs
   refine st_mv hs rfl rfl ?_; clear hs w a; intro a w hs
   refine wpList_nil ?_
   refine then_n ?_
   have hY := rowJ_n (l := l) (j := j) (by omega) (by omega)
   replace hs := hs.rerow (.s (.s (.s .z))) (m' := (rowJ l (j + 1)).2.1.length) (xs' := ((rowJ l (j + 1)).2.1.flatMap recV)) (by rw [hY]) (by rw [hY])
   replace hs := hs.rerow (.s (.s (.s .z))) (m' := (rowJ l (j + 1)).1.length) (xs' := bytesV (rowJ l (j + 1)).1) (by rw [hY]) (by rw [hY])
   replace hs := hs.reslot (d := 5) (v := .int .i64 ((rowJ l j).2.2)) (v' := .int .i64 ((rowJ l (j + 1)).2.2)) rfl (Option.some.inj (by rw [hY]))
   replace hs := hs.drop (.c (.s (.s (.s .z))) (.c (.s (.s .z)) .n))
   refine ⟨_, ?_, j + 1, p, q, rfl, hs.sub (.c rfl (.c rfl (.c rfl (.c rfl (.c rfl (.c rfl (.c rfl .n))))))), by omega, rowJ_inv hl (j + 1) (by omega)⟩
   omega
  replace hc27 := of_decide_eq_false hc27
  refine wp_exit ?_
  refine th_e ?_
  refine th_e ?_
  refine in_hit ?_
  refine then_n (hK20 _ _ ?_)
  refine wp_seq_k fun K47 hK48 => ?_
  refine wp_region_lit ?_
  refine st_mv hs rfl rfl ?_; clear hs w a; intro a w hs
  refine st_call hs (.c rfl .n) Try.call25 .n (new_ok _ _ ((rowJ l j).1) _ (rd_row (hs.mem.del .z))) rfl ?_; clear hs w a; rintro _ _ a w ⟨g49, rfl, rfl⟩ hs; simp only [List.cons_append, List.nil_append] at hs
  have hleg49 : (⟨0, 0⟩ : Rs).p ≤ ((rowJ l j).1).length := Nat.zero_le _
  refine st_as hs rfl rfl ?_; clear hs w a; intro a w hs
  refine wpList_nil ?_
  refine then_n (hK48 _ _ ?_)
  refine wp_seq_k fun K50 hK51 => ?_
  refine wp_region_lit ?_
  refine st_as hs rfl rfl ?_; clear hs w a; intro a w hs
  refine wpList_nil ?_
  refine then_n (hK51 _ _ ?_)
  refine wp_seq_k fun K52 hK53 => ?_
  refine wp_seq_k fun K54 hK55 => ?_
  refine wp_region_lit ?_
  refine st_mv hs rfl rfl ?_; clear hs w a; intro a w hs
  refine st_len hs rfl (rd_row (hs.mem.del (.s (.s .z)))).isSl Try.underlying66 rfl ?_; clear hs w a; intro a w hs
  refine st_mv hs rfl rfl ?_; clear hs w a; intro a w hs
  refine wpList_nil ?_
  refine then_n (hK55 _ _ ?_)
  refine wp_block ?_
  replace hs := hs.reblk .z (cs' := [p, .int .i64 ((((⟨(rowE ((rowJ l j).2.1.take 0)).1.length, 0⟩ : Rs).p : Nat) : Int)), .int .i64 ((((⟨(rowE ((rowJ l j).2.1.take 0)).1.length, 0⟩ : Rs).e : Nat) : Int))]) rfl
  replace hs := hs.reorder (.c (.s .z) (.c (.s .z) (.c .z .n)))
  refine wp_loopI (fun mm_ a w => ∃ k : Nat, mm_ = (rowJ l j).2.1.length - k ∧ St 81 [(3, p), (5, .int .i64 ((rowE ((rowJ l j).2.1.take k)).2)), (10, .pointer (some ⟨g49, 0, none⟩)), (49, q), (50, .int .i64 ((((rowJ l j).2.1.length : Nat) : Int))), (51, .int .i64 ((k : Int)))] w0 [] [row p 5 1 ((rowJ l j).1.length) (bytesV (rowJ l j).1), row q 25 9 ((rowJ l j).2.1.length) (((rowJ l j).2.1.flatMap recV)), blk g49 [p, .int .i64 (((((⟨(rowE ((rowJ l j).2.1.take k)).1.length, 0⟩ : Rs)).p : Nat) : Int)), .int .i64 (((((⟨(rowE ((rowJ l j).2.1.take k)).1.length, 0⟩ : Rs)).e : Nat) : Int))] 100] a w ∧ k ≤ (rowJ l j).2.1.length) ⟨0, rfl, hs.sub (.c rfl (.c rfl (.c rfl (.c rfl (.c rfl (.c rfl .n)))))), by omega⟩ ?_
  clear hs w a; rintro mm_ a w ⟨k, rfl, hs, hI2_0⟩
  have hll := row_last hI1_1 hI2_0
  have hpk : (⟨(rowE ((rowJ l j).2.1.take k)).1.length, 0⟩ : Rs).p = (rowE ((rowJ l j).2.1.take k)).1.length := rfl
  refine wp_seq_k fun K56 hK57 => ?_
  refine wp_region_lit ?_
  refine st_lss hs rfl rfl rfl ?_; clear hs w a; intro a w hs
  refine wpList_nil ?_
  refine then_n (hK57 _ _ ?_)
  refine wp_seq_k fun K58 hK59 => ?_
  refine wp_if hs rfl (fun hc60 => ?_) (fun hc60 => ?_)
  ·
   replace hc60 := of_decide_eq_true hc60
   have hRD := row_reads hI1_1 (k := k) (by omega)
   refine wp_skip ?_
   refine then_n (hK59 _ _ ?_)
   refine wp_seq_k fun K61 hK62 => ?_
   refine wp_block ?_
   refine wp_seq_k fun K63 hK64 => ?_
   refine wp_region_lit ?_
   refine st_ia (j := k) hs rfl rfl (rd_row (hs.mem.del (.s .z))) rfl (by omega) Try.underlying66 Try.sizeOf25 rfl ?_; clear hs w a; intro a w hs
   refine st_ldA (cs := recV ((rowJ l j).2.1.getD k default)) hs rfl (rd_row (hs.mem.del (.s .z))) (flat_get recV_len (rowJ l j).2.1 k (by omega)) (by rw [flat_len recV_len]; omega) (by omega) Try.isAgg25 Try.sizeOf25 rfl ?_; clear hs w a; intro a w hs
   refine st_alloc (cs := [.int .i64 (0), .int .i64 (0), .int .i64 (0), .int .i64 (0), .int .i64 (0), .int .i64 (0), .int .i64 (0), .int .i64 (0), .int .u16 (0)]) hs Try.zeroValue25 rfl rfl ?_; clear hs w a; intro g65 a w hs
   refine st_stBA hs rfl rfl .z (.z (.c (.c (.c (.c (.c (.c (.c (.c (.c .n)))))))))) (ones_c rfl (ones_c rfl (ones_c rfl (ones_c rfl (ones_c rfl (ones_c rfl (ones_c rfl (ones_c rfl (ones_c rfl ones_n))))))))) Try.sizeOf25 rfl ?_; clear hs w a; intro a w hs
   refine wpList_nil ?_
   refine then_n (hK64 _ _ ?_)
   refine wp_seq_k fun K66 hK67 => ?_
   refine wp_region_lit ?_
   refine st_mv hs rfl rfl ?_; clear hs w a; intro a w hs
   refine st_mv hs rfl rfl ?_; clear hs w a; intro a w hs
   refine st_call hs (.c rfl (.c rfl .n)) Try.call26 (.c (.s (.s (.s .z))) .n) (read_ok g49 _ _ ((rowJ l j).1) (((⟨(rowE ((rowJ l j).2.1.take k)).1.length, 0⟩ : Rs))) ((rowE ((rowJ l j).2.1.take k)).2) _ (hs.mem.rdrow (.s .z) (.c (.s (.s .z)) .n)) (hs.mem.del (.s (.s (.s .z)))) (by omega) (by omega)) rfl ?_; clear hs w a; rintro _ _ a w ⟨rfl, rfl⟩ hs; simp only [List.cons_append, List.nil_append] at hs
   have hk68 := rdRec_le (bs := ((rowJ l j).1)) (last := ((rowE ((rowJ l j).2.1.take k)).2)) (R := ((⟨(rowE ((rowJ l j).2.1.take k)).1.length, 0⟩ : Rs))) (by omega)
   refine st_mv hs rfl rfl ?_; clear hs w a; intro a w hs
   refine st_ex hs rfl .z rfl ?_; clear hs w a; intro a w hs
   refine st_ex hs rfl (.s .z) rfl ?_; clear hs w a; intro a w hs
   refine st_alloc (cs := [.int .i64 (0), .int .i64 (0), .int .i64 (0), .int .i64 (0), .int .i64 (0), .int .i64 (0), .int .i64 (0), .int .i64 (0), .int .u16 (0)]) hs Try.zeroValue25 rfl rfl ?_; clear hs w a; intro g69 a w hs
   refine st_stBA hs rfl rfl .z (.z (.c (.c (.c (.c (.c (.c (.c (.c (.c .n)))))))))) (ones_c rfl (ones_c rfl (ones_c rfl (ones_c rfl (ones_c rfl (ones_c rfl (ones_c rfl (ones_c rfl (ones_c rfl ones_n))))))))) Try.sizeOf25 rfl ?_; clear hs w a; intro a w hs
   refine st_as hs rfl rfl ?_; clear hs w a; intro a w hs
   refine wpList_nil ?_
   refine then_n (hK67 _ _ ?_)
   refine wp_seq_k fun K70 hK71 => ?_
   refine wp_seq_k fun K72 hK73 => ?_
   refine wp_region_lit ?_
   refine st_mv hs rfl rfl ?_; clear hs w a; intro a w hs
   refine st_neq hs rfl rfl rfl ?_; clear hs w a; intro a w hs
   have hb_ : (!(((((rdRec ((rowJ l j).1) ((rowE ((rowJ l j).2.1.take k)).2) (((⟨(rowE ((rowJ l j).2.1.take k)).1.length, 0⟩ : Rs)))).2.1 : Nat) : Int) : Int) == 0)) = false := by rw [hRD]; rfl
   rw [hb_] at hs; clear hb_
   refine st_mv hs rfl rfl ?_; clear hs w a; intro a w hs
   refine st_guardT hs rfl rfl rfl ?_
   refine st_ldBA hs rfl .z (.z (.c (.c (.c (.c (.c (.c (.c (.c (.c .n)))))))))) Try.isAgg25 Try.sizeOf25 rfl ?_; clear hs w a; intro a w hs
   refine st_guardT hs rfl rfl rfl ?_
   refine st_ldBA hs rfl (.s (.s .z)) (.z (.c (.c (.c (.c (.c (.c (.c (.c (.c .n)))))))))) Try.isAgg25 Try.sizeOf25 rfl ?_; clear hs w a; intro a w hs
   refine st_guardT hs rfl rfl rfl ?_
   refine st_neqF (xs := [.int .i64 (((rdRec ((rowJ l j).1) ((rowE ((rowJ l j).2.1.take k)).2) (((⟨(rowE ((rowJ l j).2.1.take k)).1.length, 0⟩ : Rs)))).1).k), .int .i64 (((rdRec ((rowJ l j).1) ((rowE ((rowJ l j).2.1.take k)).2) (((⟨(rowE ((rowJ l j).2.1.take k)).1.length, 0⟩ : Rs)))).1).id), .int .i64 (((rdRec ((rowJ l j).1) ((rowE ((rowJ l j).2.1.take k)).2) (((⟨(rowE ((rowJ l j).2.1.take k)).1.length, 0⟩ : Rs)))).1).p0), .int .i64 (((rdRec ((rowJ l j).1) ((rowE ((rowJ l j).2.1.take k)).2) (((⟨(rowE ((rowJ l j).2.1.take k)).1.length, 0⟩ : Rs)))).1).p1), .int .i64 (((rdRec ((rowJ l j).1) ((rowE ((rowJ l j).2.1.take k)).2) (((⟨(rowE ((rowJ l j).2.1.take k)).1.length, 0⟩ : Rs)))).1).p2), .int .i64 (((rdRec ((rowJ l j).1) ((rowE ((rowJ l j).2.1.take k)).2) (((⟨(rowE ((rowJ l j).2.1.take k)).1.length, 0⟩ : Rs)))).1).v0), .int .i64 (((rdRec ((rowJ l j).1) ((rowE ((rowJ l j).2.1.take k)).2) (((⟨(rowE ((rowJ l j).2.1.take k)).1.length, 0⟩ : Rs)))).1).v1), .int .i64 (((rdRec ((rowJ l j).1) ((rowE ((rowJ l j).2.1.take k)).2) (((⟨(rowE ((rowJ l j).2.1.take k)).1.length, 0⟩ : Rs)))).1).v2), .int .u16 ((((((rdRec ((rowJ l j).1) ((rowE ((rowJ l j).2.1.take k)).2) (((⟨(rowE ((rowJ l j).2.1.take k)).1.length, 0⟩ : Rs)))).1).a).toNat : Nat) : Int))]) (ys := [.int .i64 ((((rowJ l j).2.1.getD k default)).k), .int .i64 ((((rowJ l j).2.1.getD k default)).id), .int .i64 ((((rowJ l j).2.1.getD k default)).p0), .int .i64 ((((rowJ l j).2.1.getD k default)).p1), .int .i64 ((((rowJ l j).2.1.getD k default)).p2), .int .i64 ((((rowJ l j).2.1.getD k default)).v0), .int .i64 ((((rowJ l j).2.1.getD k default)).v1), .int .i64 ((((rowJ l j).2.1.getD k default)).v2), .int .u16 (((((((rowJ l j).2.1.getD k default)).a).toNat : Nat) : Int))]) (ks := [.i .i64, .i .i64, .i .i64, .i .i64, .i .i64, .i .i64, .i .i64, .i .i64, .i .u16]) 6 hs rfl rfl (by kernel_rfl) (by kernel_rfl) (by kernel_rfl) (by decide) (.i (.i (.i (.i (.i (.i (.i (.i (.i .n))))))))) (.i (.i (.i (.i (.i (.i (.i (.i (.i .n))))))))) rfl ?_; clear hs w a; intro a w hs
   have hb_ : (!(eqCells [.int .i64 (((rdRec ((rowJ l j).1) ((rowE ((rowJ l j).2.1.take k)).2) (((⟨(rowE ((rowJ l j).2.1.take k)).1.length, 0⟩ : Rs)))).1).k), .int .i64 (((rdRec ((rowJ l j).1) ((rowE ((rowJ l j).2.1.take k)).2) (((⟨(rowE ((rowJ l j).2.1.take k)).1.length, 0⟩ : Rs)))).1).id), .int .i64 (((rdRec ((rowJ l j).1) ((rowE ((rowJ l j).2.1.take k)).2) (((⟨(rowE ((rowJ l j).2.1.take k)).1.length, 0⟩ : Rs)))).1).p0), .int .i64 (((rdRec ((rowJ l j).1) ((rowE ((rowJ l j).2.1.take k)).2) (((⟨(rowE ((rowJ l j).2.1.take k)).1.length, 0⟩ : Rs)))).1).p1), .int .i64 (((rdRec ((rowJ l j).1) ((rowE ((rowJ l j).2.1.take k)).2) (((⟨(rowE ((rowJ l j).2.1.take k)).1.length, 0⟩ : Rs)))).1).p2), .int .i64 (((rdRec ((rowJ l j).1) ((rowE ((rowJ l j).2.1.take k)).2) (((⟨(rowE ((rowJ l j).2.1.take k)).1.length, 0⟩ : Rs)))).1).v0), .int .i64 (((rdRec ((rowJ l j).1) ((rowE ((rowJ l j).2.1.take k)).2) (((⟨(rowE ((rowJ l j).2.1.take k)).1.length, 0⟩ : Rs)))).1).v1), .int .i64 (((rdRec ((rowJ l j).1) ((rowE ((rowJ l j).2.1.take k)).2) (((⟨(rowE ((rowJ l j).2.1.take k)).1.length, 0⟩ : Rs)))).1).v2), .int .u16 ((((((rdRec ((rowJ l j).1) ((rowE ((rowJ l j).2.1.take k)).2) (((⟨(rowE ((rowJ l j).2.1.take k)).1.length, 0⟩ : Rs)))).1).a).toNat : Nat) : Int))] [.int .i64 ((((rowJ l j).2.1.getD k default)).k), .int .i64 ((((rowJ l j).2.1.getD k default)).id), .int .i64 ((((rowJ l j).2.1.getD k default)).p0), .int .i64 ((((rowJ l j).2.1.getD k default)).p1), .int .i64 ((((rowJ l j).2.1.getD k default)).p2), .int .i64 ((((rowJ l j).2.1.getD k default)).v0), .int .i64 ((((rowJ l j).2.1.getD k default)).v1), .int .i64 ((((rowJ l j).2.1.getD k default)).v2), .int .u16 (((((((rowJ l j).2.1.getD k default)).a).toNat : Nat) : Int))])) = false := by rw [hRD]; exact congrArg (!·) (recV_refl _)
   rw [hb_] at hs; clear hb_
   refine st_pickF hs rfl rfl rfl ?_; clear hs w a; intro a w hs
   refine wpList_nil ?_
   refine then_n (hK73 _ _ ?_)
   refine wp_cond_false (hs.ev rfl) ?_
   refine wp_skip ?_
   refine then_n (hK71 _ _ ?_)
   refine wp_region_lit ?_
   refine st_fa hs rfl Try.underlying25 rfl Try.sizeOf3 (by decide) (o := 1) rfl rfl ?_; clear hs w a; intro a w hs
   refine st_ldB hs rfl (.s (.s .z)) (.s .z) Try.isAgg3 rfl ?_; clear hs w a; intro a w hs
   refine st_as hs rfl rfl ?_; clear hs w a; intro a w hs
   refine wpList_nil ?_
   refine in_n ?_
   refine then_n (hK62 _ _ ?_)
   refine wp_region_lit ?_
   refine st_addR hs rfl rfl (by omega) rfl ?_; clear hs w a; intro a w hs
   refine st_mv hs rfl rfl ?_; clear hs w a; intro a w hs
   refine wpList_nil ?_
   refine then_n ?_
   replace hs := hs.reblk (.s .z) (cs' := [p, .int .i64 ((((⟨(rowE ((rowJ l j).2.1.take (k + 1))).1.length, 0⟩ : Rs).p : Nat) : Int)), .int .i64 ((((⟨(rowE ((rowJ l j).2.1.take (k + 1))).1.length, 0⟩ : Rs).e : Nat) : Int))]) (by rw [hRD])
   replace hs := hs.reslot (d := 5) (v := .int .i64 ((((rowJ l j).2.1.getD k default)).id)) (v' := .int .i64 ((rowE ((rowJ l j).2.1.take (k + 1))).2)) rfl (Option.some.inj (by rw [rowE_next (by omega)]))
   replace hs := hs.drop (.c (.s (.s .z)) (.c (.s .z) .n))
   replace hs := hs.reorder (.c (.s .z) (.c (.s .z) (.c .z .n)))
   refine ⟨_, ?_, k + 1, rfl, hs.sub (.c rfl (.c rfl (.c rfl (.c rfl (.c rfl (.c rfl .n)))))), by omega⟩
   omega
  replace hc60 := of_decide_eq_false hc60
  refine wp_exit ?_
  refine th_e ?_
  refine th_e ?_
  refine in_hit ?_
  refine then_n (hK53 _ _ ?_)
  refine wp_seq_k fun K74 hK75 => ?_
  refine wp_region_lit ?_
  refine st_mv hs rfl rfl ?_; clear hs w a; intro a w hs
  refine st_callP (v := .int .i64 ((((rDone ((rowJ l j).1) (((⟨(rowE ((rowJ l j).2.1.take k)).1.length, 0⟩ : Rs)))) : Nat) : Int))) hs (.c rfl .n) Try.call34 (rdone_ok g49 _ _ ((rowJ l j).1) (((⟨(rowE ((rowJ l j).2.1.take k)).1.length, 0⟩ : Rs))) _ (rd_row (hs.mem.del .z)) (hs.mem.del (.s (.s .z))) (by omega)) rfl ?_; clear hs w a; intro a w hs
  refine st_eql hs rfl rfl rfl ?_; clear hs w a; intro a w hs
  have hb_ : (((((rDone ((rowJ l j).1) (((⟨(rowE ((rowJ l j).2.1.take k)).1.length, 0⟩ : Rs)))) : Nat) : Int) : Int) == 0) = true := by rw [row_done hI1_1 (by omega)]; rfl
  rw [hb_] at hs; clear hb_
  refine st_mv hs rfl rfl ?_; clear hs w a; intro a w hs
  refine st_guardT hs rfl rfl rfl ?_
  refine st_mv hs rfl rfl ?_; clear hs w a; intro a w hs
  refine st_guardT hs rfl rfl rfl ?_
  refine st_callP (v := .int .i64 ((((((⟨(rowE ((rowJ l j).2.1.take k)).1.length, 0⟩ : Rs))).p : Nat) : Int))) hs (.c rfl .n) Try.call29 (rat_ok g49 _ _ ((rowJ l j).1) (((⟨(rowE ((rowJ l j).2.1.take k)).1.length, 0⟩ : Rs))) _ (rd_row (hs.mem.del .z)) (hs.mem.del (.s (.s .z))) (by omega)) rfl ?_; clear hs w a; intro a w hs
  refine st_guardT hs rfl rfl rfl ?_
  refine st_mv hs rfl rfl ?_; clear hs w a; intro a w hs
  refine st_guardT hs rfl rfl rfl ?_
  refine st_len hs rfl (rd_row (hs.mem.del .z)).isSl Try.underlying26 rfl ?_; clear hs w a; intro a w hs
  refine st_guardT hs rfl rfl rfl ?_
  refine st_eql hs rfl rfl rfl ?_; clear hs w a; intro a w hs
  have hb_ : (((((((⟨(rowE ((rowJ l j).2.1.take k)).1.length, 0⟩ : Rs))).p : Nat) : Int) : Int) == ((((rowJ l j).1.length : Nat) : Int))) = true := by rw [beq_iff_eq]; exact congrArg Int.ofNat (row_end hI1_1 (by omega))
  rw [hb_] at hs; clear hb_
  refine st_pickT hs rfl rfl rfl ?_; clear hs w a; intro a w hs
  refine st_as hs rfl rfl ?_; clear hs w a; intro a w hs
  refine wpList_nil ?_
  refine then_n (hK75 _ _ ?_)
  refine wp_ret ?_
  replace hs := hs.drop (.c (.s (.s .z)) (.c (.s .z) (.c .z .n)))
  exact fin hs rfl rfl ⟨rfl, rfl⟩
end Go.Proofs.Ytkobgcoegajfcaa
