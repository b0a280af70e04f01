/- Walks of RecordWrites: what each function does, over the program of this seat. Printed by a program of this session. -/
import Derived.Test.YtkobgcoegajfcaaWrecm
import Derived.Test.YtkobgcoegajfcaaWrec5
import Derived.Test.YtkobgcoegajfcaaSxRrec
namespace Go.Proofs.Ytkobgcoegajfcaa
open Go Go.Sx Go.RowKit
set_option linter.unusedVariables false
set_option linter.unusedSimpArgs false
set_option maxRecDepth 4000
set_option maxHeartbeats 1000000

theorem recordWrites_ok (r : RecR) (last : Int) (w0 : World) (hw : r.wf) (hl : -9223372036854775808 ≤ last ∧ last ≤ 9223372036854775807) : Calls Try.prog 3 #[.agg #[.int .i64 (r.k), .int .i64 (r.id), .int .i64 (r.p0), .int .i64 (r.p1), .int .i64 (r.p2), .int .i64 (r.v0), .int .i64 (r.v1), .int .i64 (r.v2), .int .u16 ((((r.a).toNat : Nat) : Int))], .int .i64 last] w0 (RetV w0 (.bool true)) := by
  have hwf := hw.facts
  refine enter (F0 := [(0, .agg #[.int .i64 (r.k), .int .i64 (r.id), .int .i64 (r.p0), .int .i64 (r.p1), .int .i64 (r.p2), .int .i64 (r.v0), .int .i64 (r.v1), .int .i64 (r.v2), .int .u16 ((((r.a).toNat : Nat) : Int))]), (1, .int .i64 (last))]) Try.func3 rfl rfl rfl (.c (.c .n)) (Mem.nil _) fun a w hs => ?_
  refine wp_seq_k fun K1 hK2 => ?_
  refine wp_region_lit ?_
  refine st_box (cs := [.int .i64 (r.k), .int .i64 (r.id), .int .i64 (r.p0), .int .i64 (r.p1), .int .i64 (r.p2), .int .i64 (r.v0), .int .i64 (r.v1), .int .i64 (r.v2), .int .u16 ((((r.a).toNat : Nat) : Int))]) hs rfl rfl rfl ?_; clear hs w a; intro g3 a w hs
  refine st_as hs rfl rfl ?_; clear hs w a; intro a w hs
  refine wpList_nil ?_
  refine then_n (hK2 _ _ ?_)
  refine wp_seq_k fun K4 hK5 => ?_
  refine wp_region_lit ?_
  refine st_ldBA hs rfl .z (.z (.c (.c (.c (.c (.c (.c (.c (.c (.c .n)))))))))) Try.isAgg25 Try.sizeOf25 rfl ?_; clear hs w a; intro a w hs
  refine st_mv hs rfl rfl ?_; clear hs w a; intro a w hs
  refine st_call hs (.c rfl (.c rfl .n)) Try.call18 .n (write_ok r last _ hw (by omega)) rfl ?_; clear hs w a; rintro _ _ a w ⟨v6, rfl, rfl⟩ hs; simp only [List.cons_append, List.nil_append] at hs
  have hk7 := length_recB r last
  refine st_mv hs rfl rfl ?_; clear hs w a; intro a w hs
  refine st_ex hs rfl .z rfl ?_; clear hs w a; intro a w hs
  refine st_ex hs rfl (.s .z) rfl ?_; clear hs w a; intro a w hs
  refine st_as hs rfl rfl ?_; clear hs w a; intro a w hs
  refine st_as hs rfl rfl ?_; clear hs w a; intro a w hs
  refine wpList_nil ?_
  refine then_n (hK5 _ _ ?_)
  refine wp_seq_k fun K8 hK9 => ?_
  refine wp_region_lit ?_
  refine st_ldBA hs rfl (.s .z) (.z (.c (.c (.c (.c (.c (.c (.c (.c (.c .n)))))))))) Try.isAgg25 Try.sizeOf25 rfl ?_; clear hs w a; intro a w hs
  refine st_mv hs rfl rfl ?_; clear hs w a; intro a w hs
  refine st_call hs (.c rfl (.c rfl .n)) Try.call19 .n (rwrite_ok r last _ hw (by omega)) rfl ?_; clear hs w a; rintro _ _ a w ⟨v10, rfl, rfl⟩ hs; simp only [List.cons_append, List.nil_append] at hs
  have hk11 := length_recB r last
  refine st_mv hs rfl rfl ?_; clear hs w a; intro a w hs
  refine st_ex hs rfl .z rfl ?_; clear hs w a; intro a w hs
  refine st_ex hs rfl (.s .z) rfl ?_; clear hs w a; intro a w hs
  refine st_as hs rfl rfl ?_; clear hs w a; intro a w hs
  refine st_as hs rfl rfl ?_; clear hs w a; intro a w hs
  refine wpList_nil ?_
  refine then_n (hK9 _ _ ?_)
  refine wp_seq_k fun K12 hK13 => ?_
  replace hs := hs.sub (F' := [(8, .int .i64 (((recErr r last : Nat) : Int))), (7, v10), (6, .int .i64 (((recErr r last : Nat) : Int))), (5, v6), (2, .pointer (some ⟨g3, 0, none⟩))]) (.c rfl (.c rfl (.c rfl (.c rfl (.c rfl .n)))))
  refine wp_drawG (M0 := [row v10 5 1 ((recB r last).length) (bytesV (recB r last)), row v6 5 1 ((recB r last).length) (bytesV (recB r last)), blk g3 [.int .i64 (r.k), .int .i64 (r.id), .int .i64 (r.p0), .int .i64 (r.p1), .int .i64 (r.p2), .int .i64 (r.v0), .int .i64 (r.v1), .int .i64 (r.v2), .int .u16 ((((r.a).toNat : Nat) : Int))] 25]) (Ds := [⟨[], [], [], fun vs14 => vs14 0 = .bool (true), fun vs14 => []⟩, ⟨[], [], [], fun vs14 => vs14 1 = .bool (true), fun vs14 => []⟩, ⟨[], [], [], fun vs14 => vs14 2 = v6, fun vs14 => []⟩, ⟨[], [], [], fun vs14 => vs14 3 = .string (strB (recB r last)), fun vs14 => []⟩, ⟨[], [], [], fun vs14 => vs14 4 = v10, fun vs14 => []⟩, ⟨[], [], [], fun vs14 => vs14 5 = .string (strB (recB r last)), fun vs14 => []⟩, ⟨[], [], [], fun vs14 => vs14 6 = .bool (true), fun vs14 => []⟩, ⟨[], [], [], fun vs14 => vs14 7 = .bool (true), fun vs14 => []⟩, ⟨[], [], [], fun vs14 => vs14 8 = .bool (true), fun vs14 => []⟩, ⟨[], [], [], fun vs14 => vs14 9 = .int .i64 (((recErr r last : Nat) : Int)), fun vs14 => []⟩, ⟨[], [], [], fun vs14 => vs14 10 = .int .i64 (((recErr r last : Nat) : Int)), fun vs14 => []⟩, ⟨[], [], [], fun vs14 => vs14 11 = .bool (true), fun vs14 => []⟩, ⟨[], [], [], fun vs14 => vs14 12 = .bool (true), fun vs14 => []⟩, ⟨[], [], [], fun vs14 => vs14 13 = .bool (true), fun vs14 => []⟩, ⟨[], [], [], fun vs14 => vs14 14 = .agg #[.int .i64 (r.k), .int .i64 (r.id), .int .i64 (r.p0), .int .i64 (r.p1), .int .i64 (r.p2), .int .i64 (r.v0), .int .i64 (r.v1), .int .i64 (r.v2), .int .u16 ((((r.a).toNat : Nat) : Int))], fun vs14 => []⟩, ⟨[], [], [], fun vs14 => vs14 15 = .int .i64 (((recChk r : Nat) : Int)), fun vs14 => []⟩, ⟨[], [], [], fun vs14 => vs14 16 = .agg #[.int .i64 (r.k), .int .i64 (r.id), .int .i64 (r.p0), .int .i64 (r.p1), .int .i64 (r.p2), .int .i64 (r.v0), .int .i64 (r.v1), .int .i64 (r.v2), .int .u16 ((((r.a).toNat : Nat) : Int))], fun vs14 => []⟩, ⟨[], [], [], fun vs14 => vs14 17 = .int .i64 (((recChk r : Nat) : Int)), fun vs14 => []⟩, ⟨[], [], [], fun vs14 => vs14 18 = .bool (true), fun vs14 => []⟩, ⟨[], [], [], fun vs14 => vs14 19 = .bool (true), fun vs14 => []⟩, ⟨[], [], [], fun vs14 => vs14 20 = .bool (true), fun vs14 => []⟩]) (by kernel_rfl) hs rfl .n (by kernel_rfl) (by kernel_rfl) ?_ ?_
  ·
   refine (.c ?_ (.c ?_ (.c ?_ (.c ?_ (.c ?_ (.c ?_ (.c ?_ (.c ?_ (.c ?_ (.c ?_ (.c ?_ (.c ?_ (.c ?_ (.c ?_ (.c ?_ (.c ?_ (.c ?_ (.c ?_ (.c ?_ (.c ?_ (.c ?_ .n)))))))))))))))))))))
   ·
    intro a_ w_ R_ rest_ vs14 hm hs ht hx
    replace hs : St _ _ _ (feet []) [] _ _ := hs
    have hm0 := hm.mid
    have hs0 := hs.bare
    refine st_callP (v := .bool (true)) hs .n Try.call20 (alive08_ok _) rfl ?_; clear hs; intro a w hs
    exact wpList_nil ⟨rfl, _, _, hs0, .r, hs, rfl⟩
   ·
    intro a_ w_ R_ rest_ vs14 hm hs ht hx
    replace hs : St _ _ _ (feet []) [] _ _ := hs
    have hm0 := hm.mid
    have t0 := ht 0 (twB_spec 21 _ (by kernel_rfl))
    have e0 : _ = some (vs14 0) := t0.val rfl
    rw [show vs14 0 = .bool (true) from t0.2.1] at e0
    replace hs := hs.learn e0
    have hs0 := hs.bare
    refine st_mv hs rfl rfl ?_; clear hs; intro a w hs
    exact wpList_nil ⟨rfl, _, _, hs0, (.c .r), hs, rfl⟩
   ·
    intro a_ w_ R_ rest_ vs14 hm hs ht hx
    replace hs : St _ _ _ (feet []) [] _ _ := hs
    have hm0 := hm.mid
    have t1 := ht 1 (twB_spec 21 _ (by kernel_rfl))
    have e1 : _ = some (vs14 1) := t1.val rfl
    rw [show vs14 1 = .bool (true) from t1.2.1] at e1
    replace hs := hs.learn e1
    have hs0 := hs.bare
    refine st_guardT hs rfl rfl rfl ?_
    refine st_mv hs rfl rfl ?_; clear hs; intro a w hs
    exact wpList_nil ⟨rfl, _, _, hs0, (.c .r), hs, rfl⟩
   ·
    intro a_ w_ R_ rest_ vs14 hm hs ht hx
    replace hs : St _ _ _ (feet []) [] _ _ := hs
    have hm0 := hm.mid
    have t1 := ht 1 (twB_spec 21 _ (by kernel_rfl))
    have e1 : _ = some (vs14 1) := t1.val rfl
    rw [show vs14 1 = .bool (true) from t1.2.1] at e1
    replace hs := hs.learn e1
    have t2 := ht 2 (twB_spec 21 _ (by kernel_rfl))
    have e2 : _ = some (vs14 2) := t2.val rfl
    rw [show vs14 2 = v6 from t2.2.1] at e2
    replace hs := hs.learn e2
    have hs0 := hs.bare
    refine st_guardT hs rfl rfl rfl ?_
    refine st_str (bs := (recB r last)) hs rfl (rd_row (hm0.del (.s .z))) Try.underlying26 Try.underlying5 Try.underlying9 rfl ?_; clear hs; intro a w hs
    exact wpList_nil ⟨rfl, _, _, hs0, (.c (.c .r)), hs, rfl⟩
   ·
    intro a_ w_ R_ rest_ vs14 hm hs ht hx
    replace hs : St _ _ _ (feet []) [] _ _ := hs
    have hm0 := hm.mid
    have t1 := ht 1 (twB_spec 21 _ (by kernel_rfl))
    have e1 : _ = some (vs14 1) := t1.val rfl
    rw [show vs14 1 = .bool (true) from t1.2.1] at e1
    replace hs := hs.learn e1
    have hs0 := hs.bare
    refine st_guardT hs rfl rfl rfl ?_
    refine st_mv hs rfl rfl ?_; clear hs; intro a w hs
    exact wpList_nil ⟨rfl, _, _, hs0, (.c .r), hs, rfl⟩
   ·
    intro a_ w_ R_ rest_ vs14 hm hs ht hx
    replace hs : St _ _ _ (feet []) [] _ _ := hs
    have hm0 := hm.mid
    have t1 := ht 1 (twB_spec 21 _ (by kernel_rfl))
    have e1 : _ = some (vs14 1) := t1.val rfl
    rw [show vs14 1 = .bool (true) from t1.2.1] at e1
    replace hs := hs.learn e1
    have t4 := ht 4 (twB_spec 21 _ (by kernel_rfl))
    have e4 : _ = some (vs14 4) := t4.val rfl
    rw [show vs14 4 = v10 from t4.2.1] at e4
    replace hs := hs.learn e4
    have hs0 := hs.bare
    refine st_guardT hs rfl rfl rfl ?_
    refine st_str (bs := (recB r last)) hs rfl (rd_row (hm0.del .z)) Try.underlying26 Try.underlying5 Try.underlying9 rfl ?_; clear hs; intro a w hs
    exact wpList_nil ⟨rfl, _, _, hs0, (.c (.c .r)), hs, rfl⟩
   ·
    intro a_ w_ R_ rest_ vs14 hm hs ht hx
    replace hs : St _ _ _ (feet []) [] _ _ := hs
    have hm0 := hm.mid
    have t1 := ht 1 (twB_spec 21 _ (by kernel_rfl))
    have e1 : _ = some (vs14 1) := t1.val rfl
    rw [show vs14 1 = .bool (true) from t1.2.1] at e1
    replace hs := hs.learn e1
    have t3 := ht 3 (twB_spec 21 _ (by kernel_rfl))
    have e3 : _ = some (vs14 3) := t3.val rfl
    rw [show vs14 3 = .string (strB (recB r last)) from t3.2.1] at e3
    replace hs := hs.learn e3
    have t5 := ht 5 (twB_spec 21 _ (by kernel_rfl))
    have e5 : _ = some (vs14 5) := t5.val rfl
    rw [show vs14 5 = .string (strB (recB r last)) from t5.2.1] at e5
    replace hs := hs.learn e5
    have hs0 := hs.bare
    refine st_guardT hs rfl rfl rfl ?_
    refine st_eqs (p := strB (recB r last)) (q := strB (recB r last)) hs rfl rfl rfl ?_; clear hs; intro a w hs
    have hb_ : ((strB (recB r last)).toList == (strB (recB r last)).toList) = true := beq_self_eq_true _
    rw [hb_] at hs; clear hb_
    exact wpList_nil ⟨rfl, _, _, hs0, (.c (.c (.c .r))), hs, rfl⟩
   ·
    intro a_ w_ R_ rest_ vs14 hm hs ht hx
    replace hs : St _ _ _ (feet []) [] _ _ := hs
    have hm0 := hm.mid
    have t1 := ht 1 (twB_spec 21 _ (by kernel_rfl))
    have e1 : _ = some (vs14 1) := t1.val rfl
    rw [show vs14 1 = .bool (true) from t1.2.1] at e1
    replace hs := hs.learn e1
    have t6 := ht 6 (twB_spec 21 _ (by kernel_rfl))
    have e6 : _ = some (vs14 6) := t6.val rfl
    rw [show vs14 6 = .bool (true) from t6.2.1] at e6
    replace hs := hs.learn e6
    have hs0 := hs.bare
    refine st_pickT hs rfl rfl rfl ?_; clear hs; intro a w hs
    exact wpList_nil ⟨rfl, _, _, hs0, (.c (.c .r)), hs, rfl⟩
   ·
    intro a_ w_ R_ rest_ vs14 hm hs ht hx
    replace hs : St _ _ _ (feet []) [] _ _ := hs
    have hm0 := hm.mid
    have t7 := ht 7 (twB_spec 21 _ (by kernel_rfl))
    have e7 : _ = some (vs14 7) := t7.val rfl
    rw [show vs14 7 = .bool (true) from t7.2.1] at e7
    replace hs := hs.learn e7
    have hs0 := hs.bare
    refine st_mv hs rfl rfl ?_; clear hs; intro a w hs
    exact wpList_nil ⟨rfl, _, _, hs0, (.c .r), hs, rfl⟩
   ·
    intro a_ w_ R_ rest_ vs14 hm hs ht hx
    replace hs : St _ _ _ (feet []) [] _ _ := hs
    have hm0 := hm.mid
    have t8 := ht 8 (twB_spec 21 _ (by kernel_rfl))
    have e8 : _ = some (vs14 8) := t8.val rfl
    rw [show vs14 8 = .bool (true) from t8.2.1] at e8
    replace hs := hs.learn e8
    have hs0 := hs.bare
    refine st_guardT hs rfl rfl rfl ?_
    refine st_mv hs rfl rfl ?_; clear hs; intro a w hs
    exact wpList_nil ⟨rfl, _, _, hs0, (.c .r), hs, rfl⟩
   ·
    intro a_ w_ R_ rest_ vs14 hm hs ht hx
    replace hs : St _ _ _ (feet []) [] _ _ := hs
    have hm0 := hm.mid
    have t8 := ht 8 (twB_spec 21 _ (by kernel_rfl))
    have e8 : _ = some (vs14 8) := t8.val rfl
    rw [show vs14 8 = .bool (true) from t8.2.1] at e8
    replace hs := hs.learn e8
    have hs0 := hs.bare
    refine st_guardT hs rfl rfl rfl ?_
    refine st_mv hs rfl rfl ?_; clear hs; intro a w hs
    exact wpList_nil ⟨rfl, _, _, hs0, (.c .r), hs, rfl⟩
   ·
    intro a_ w_ R_ rest_ vs14 hm hs ht hx
    replace hs : St _ _ _ (feet []) [] _ _ := hs
    have hm0 := hm.mid
    have t8 := ht 8 (twB_spec 21 _ (by kernel_rfl))
    have e8 : _ = some (vs14 8) := t8.val rfl
    rw [show vs14 8 = .bool (true) from t8.2.1] at e8
    replace hs := hs.learn e8
    have t9 := ht 9 (twB_spec 21 _ (by kernel_rfl))
    have e9 : _ = some (vs14 9) := t9.val rfl
    rw [show vs14 9 = .int .i64 (((recErr r last : Nat) : Int)) from t9.2.1] at e9
    replace hs := hs.learn e9
    have t10 := ht 10 (twB_spec 21 _ (by kernel_rfl))
    have e10 : _ = some (vs14 10) := t10.val rfl
    rw [show vs14 10 = .int .i64 (((recErr r last : Nat) : Int)) from t10.2.1] at e10
    replace hs := hs.learn e10
    have hs0 := hs.bare
    refine st_guardT hs rfl rfl rfl ?_
    refine st_eql hs rfl rfl rfl ?_; clear hs; intro a w hs
    have hb_ : ((((recErr r last : Nat) : Int) : Int) == (((recErr r last : Nat) : Int))) = true := beq_self_eq_true _
    rw [hb_] at hs; clear hb_
    exact wpList_nil ⟨rfl, _, _, hs0, (.c (.c (.c .r))), hs, rfl⟩
   ·
    intro a_ w_ R_ rest_ vs14 hm hs ht hx
    replace hs : St _ _ _ (feet []) [] _ _ := hs
    have hm0 := hm.mid
    have t8 := ht 8 (twB_spec 21 _ (by kernel_rfl))
    have e8 : _ = some (vs14 8) := t8.val rfl
    rw [show vs14 8 = .bool (true) from t8.2.1] at e8
    replace hs := hs.learn e8
    have t11 := ht 11 (twB_spec 21 _ (by kernel_rfl))
    have e11 : _ = some (vs14 11) := t11.val rfl
    rw [show vs14 11 = .bool (true) from t11.2.1] at e11
    replace hs := hs.learn e11
    have hs0 := hs.bare
    refine st_pickT hs rfl rfl rfl ?_; clear hs; intro a w hs
    exact wpList_nil ⟨rfl, _, _, hs0, (.c (.c .r)), hs, rfl⟩
   ·
    intro a_ w_ R_ rest_ vs14 hm hs ht hx
    replace hs : St _ _ _ (feet []) [] _ _ := hs
    have hm0 := hm.mid
    have t12 := ht 12 (twB_spec 21 _ (by kernel_rfl))
    have e12 : _ = some (vs14 12) := t12.val rfl
    rw [show vs14 12 = .bool (true) from t12.2.1] at e12
    replace hs := hs.learn e12
    have hs0 := hs.bare
    refine st_mv hs rfl rfl ?_; clear hs; intro a w hs
    exact wpList_nil ⟨rfl, _, _, hs0, (.c .r), hs, rfl⟩
   ·
    intro a_ w_ R_ rest_ vs14 hm hs ht hx
    replace hs : St _ _ _ (feet []) [] _ _ := hs
    have hm0 := hm.mid
    have t13 := ht 13 (twB_spec 21 _ (by kernel_rfl))
    have e13 : _ = some (vs14 13) := t13.val rfl
    rw [show vs14 13 = .bool (true) from t13.2.1] at e13
    replace hs := hs.learn e13
    have hs0 := hs.bare
    refine st_guardT hs rfl rfl rfl ?_
    refine st_ldEA hs rfl (hm0.del (.s (.s .z))) (.z (.c (.c (.c (.c (.c (.c (.c (.c (.c .n)))))))))) Try.isAgg25 Try.sizeOf25 rfl ?_; clear hs; intro a w hs
    exact wpList_nil ⟨rfl, _, _, hs0, (.c .r), hs, rfl⟩
   ·
    intro a_ w_ R_ rest_ vs14 hm hs ht hx
    replace hs : St _ _ _ (feet []) [] _ _ := hs
    have hm0 := hm.mid
    have t13 := ht 13 (twB_spec 21 _ (by kernel_rfl))
    have e13 : _ = some (vs14 13) := t13.val rfl
    rw [show vs14 13 = .bool (true) from t13.2.1] at e13
    replace hs := hs.learn e13
    have t14 := ht 14 (twB_spec 21 _ (by kernel_rfl))
    have e14 : _ = some (vs14 14) := t14.val rfl
    rw [show vs14 14 = .agg #[.int .i64 (r.k), .int .i64 (r.id), .int .i64 (r.p0), .int .i64 (r.p1), .int .i64 (r.p2), .int .i64 (r.v0), .int .i64 (r.v1), .int .i64 (r.v2), .int .u16 ((((r.a).toNat : Nat) : Int))] from t14.2.1] at e14
    replace hs := hs.learn e14
    have hs0 := hs.bare
    refine st_guardT hs rfl rfl rfl ?_
    refine st_callP (v := .int .i64 (((recChk r : Nat) : Int))) hs (.c rfl .n) Try.call21 (chk_ok r _) rfl ?_; clear hs; intro a w hs
    exact wpList_nil ⟨rfl, _, _, hs0, (.c (.c .r)), hs, rfl⟩
   ·
    intro a_ w_ R_ rest_ vs14 hm hs ht hx
    replace hs : St _ _ _ (feet []) [] _ _ := hs
    have hm0 := hm.mid
    have t13 := ht 13 (twB_spec 21 _ (by kernel_rfl))
    have e13 : _ = some (vs14 13) := t13.val rfl
    rw [show vs14 13 = .bool (true) from t13.2.1] at e13
    replace hs := hs.learn e13
    have hs0 := hs.bare
    refine st_guardT hs rfl rfl rfl ?_
    refine st_ldEA hs rfl (hm0.del (.s (.s .z))) (.z (.c (.c (.c (.c (.c (.c (.c (.c (.c .n)))))))))) Try.isAgg25 Try.sizeOf25 rfl ?_; clear hs; intro a w hs
    exact wpList_nil ⟨rfl, _, _, hs0, (.c .r), hs, rfl⟩
   ·
    intro a_ w_ R_ rest_ vs14 hm hs ht hx
    replace hs : St _ _ _ (feet []) [] _ _ := hs
    have hm0 := hm.mid
    have t13 := ht 13 (twB_spec 21 _ (by kernel_rfl))
    have e13 : _ = some (vs14 13) := t13.val rfl
    rw [show vs14 13 = .bool (true) from t13.2.1] at e13
    replace hs := hs.learn e13
    have t16 := ht 16 (twB_spec 21 _ (by kernel_rfl))
    have e16 : _ = some (vs14 16) := t16.val rfl
    rw [show vs14 16 = .agg #[.int .i64 (r.k), .int .i64 (r.id), .int .i64 (r.p0), .int .i64 (r.p1), .int .i64 (r.p2), .int .i64 (r.v0), .int .i64 (r.v1), .int .i64 (r.v2), .int .u16 ((((r.a).toNat : Nat) : Int))] from t16.2.1] at e16
    replace hs := hs.learn e16
    have hs0 := hs.bare
    refine st_guardT hs rfl rfl rfl ?_
    refine st_callP (v := .int .i64 (((recChk r : Nat) : Int))) hs (.c rfl .n) Try.call22 (rchk_ok r _) rfl ?_; clear hs; intro a w hs
    exact wpList_nil ⟨rfl, _, _, hs0, (.c (.c .r)), hs, rfl⟩
   ·
    intro a_ w_ R_ rest_ vs14 hm hs ht hx
    replace hs : St _ _ _ (feet []) [] _ _ := hs
    have hm0 := hm.mid
    have t13 := ht 13 (twB_spec 21 _ (by kernel_rfl))
    have e13 : _ = some (vs14 13) := t13.val rfl
    rw [show vs14 13 = .bool (true) from t13.2.1] at e13
    replace hs := hs.learn e13
    have t15 := ht 15 (twB_spec 21 _ (by kernel_rfl))
    have e15 : _ = some (vs14 15) := t15.val rfl
    rw [show vs14 15 = .int .i64 (((recChk r : Nat) : Int)) from t15.2.1] at e15
    replace hs := hs.learn e15
    have t17 := ht 17 (twB_spec 21 _ (by kernel_rfl))
    have e17 : _ = some (vs14 17) := t17.val rfl
    rw [show vs14 17 = .int .i64 (((recChk r : Nat) : Int)) from t17.2.1] at e17
    replace hs := hs.learn e17
    have hs0 := hs.bare
    refine st_guardT hs rfl rfl rfl ?_
    refine st_eql hs rfl rfl rfl ?_; clear hs; intro a w hs
    have hb_ : ((((recChk r : Nat) : Int) : Int) == (((recChk r : Nat) : Int))) = true := beq_self_eq_true _
    rw [hb_] at hs; clear hb_
    exact wpList_nil ⟨rfl, _, _, hs0, (.c (.c (.c .r))), hs, rfl⟩
   ·
    intro a_ w_ R_ rest_ vs14 hm hs ht hx
    replace hs : St _ _ _ (feet []) [] _ _ := hs
    have hm0 := hm.mid
    have t13 := ht 13 (twB_spec 21 _ (by kernel_rfl))
    have e13 : _ = some (vs14 13) := t13.val rfl
    rw [show vs14 13 = .bool (true) from t13.2.1] at e13
    replace hs := hs.learn e13
    have t18 := ht 18 (twB_spec 21 _ (by kernel_rfl))
    have e18 : _ = some (vs14 18) := t18.val rfl
    rw [show vs14 18 = .bool (true) from t18.2.1] at e18
    replace hs := hs.learn e18
    have hs0 := hs.bare
    refine st_pickT hs rfl rfl rfl ?_; clear hs; intro a w hs
    exact wpList_nil ⟨rfl, _, _, hs0, (.c (.c .r)), hs, rfl⟩
   intro a_ w_ R_ rest_ vs14 hm hs ht hx
   replace hs : St _ _ _ (feet []) [] _ _ := hs
   have hm0 := hm.mid
   have t19 := ht 19 (twB_spec 21 _ (by kernel_rfl))
   have e19 : _ = some (vs14 19) := t19.val rfl
   rw [show vs14 19 = .bool (true) from t19.2.1] at e19
   replace hs := hs.learn e19
   have hs0 := hs.bare
   refine st_as hs rfl rfl ?_; clear hs; intro a w hs
   exact wpList_nil ⟨rfl, _, _, hs0, (.c .r), hs, rfl⟩
  clear hs w a; intro a w vs14 hs hf
  replace hs : St _ _ _ _ [row v10 5 1 ((recB r last).length) (bytesV (recB r last)), row v6 5 1 ((recB r last).length) (bytesV (recB r last)), blk g3 [.int .i64 (r.k), .int .i64 (r.id), .int .i64 (r.p0), .int .i64 (r.p1), .int .i64 (r.p2), .int .i64 (r.v0), .int .i64 (r.v1), .int .i64 (r.v2), .int .u16 ((((r.a).toNat : Nat) : Int))] 25] _ _ := hs
  obtain ⟨e20, q20⟩ := hf 20 (by decide)
  replace e20 : _ = some (vs14 20) := e20.val rfl
  rw [show vs14 20 = .bool (true) from q20] at e20
  replace hs := hs.learn e20; clear e20 q20
  clear hf
  refine then_n (hK13 _ _ ?_)
  refine wp_ret ?_
  replace hs := hs.drop (.c (.s (.s .z)) (.c (.s .z) (.c .z .n)))
  exact fin hs rfl rfl ⟨rfl, rfl⟩
end Go.Proofs.Ytkobgcoegajfcaa
