/- Walks of RecordSteps: what each function does, over the program of this seat. Printed by a program of this session. -/
import Derived.Test.YtkobgcoegajfcaaWrec4
import Derived.Test.YtkobgcoegajfcaaWrec5
import Derived.Test.YtkobgcoegajfcaaSxRrec
namespace Go.Proofs.Ytkobgcoegajfcaa
open Go Go.Sx Go.RowKit
set_option linter.unusedVariables false
set_option linter.unusedSimpArgs false
set_option maxRecDepth 4000
set_option maxHeartbeats 1000000

theorem recordSteps_ok (ea eb ec : EntR) (w0 : World) (ha : ea.wf) (hb : eb.wf) (hc : ec.wf) : Calls Try.prog 10 #[.agg #[.int .i64 (ea.id), .int .i64 (ea.p0), .int .i64 (ea.p1), .int .i64 (ea.p2), .int .i64 (ea.v0), .int .i64 (ea.v1), .int .i64 (ea.v2), .int .u16 ((((ea.a).toNat : Nat) : Int)), .int .u8 ((((ea.g).toNat : Nat) : Int))], .agg #[.int .i64 (eb.id), .int .i64 (eb.p0), .int .i64 (eb.p1), .int .i64 (eb.p2), .int .i64 (eb.v0), .int .i64 (eb.v1), .int .i64 (eb.v2), .int .u16 ((((eb.a).toNat : Nat) : Int)), .int .u8 ((((eb.g).toNat : Nat) : Int))], .agg #[.int .i64 (ec.id), .int .i64 (ec.p0), .int .i64 (ec.p1), .int .i64 (ec.p2), .int .i64 (ec.v0), .int .i64 (ec.v1), .int .i64 (ec.v2), .int .u16 ((((ec.a).toNat : Nat) : Int)), .int .u8 ((((ec.g).toNat : Nat) : Int))]] w0 (RetV w0 (.bool true)) := by
  refine enter (F0 := [(0, .agg #[.int .i64 (ea.id), .int .i64 (ea.p0), .int .i64 (ea.p1), .int .i64 (ea.p2), .int .i64 (ea.v0), .int .i64 (ea.v1), .int .i64 (ea.v2), .int .u16 ((((ea.a).toNat : Nat) : Int)), .int .u8 ((((ea.g).toNat : Nat) : Int))]), (1, .agg #[.int .i64 (eb.id), .int .i64 (eb.p0), .int .i64 (eb.p1), .int .i64 (eb.p2), .int .i64 (eb.v0), .int .i64 (eb.v1), .int .i64 (eb.v2), .int .u16 ((((eb.a).toNat : Nat) : Int)), .int .u8 ((((eb.g).toNat : Nat) : Int))]), (2, .agg #[.int .i64 (ec.id), .int .i64 (ec.p0), .int .i64 (ec.p1), .int .i64 (ec.p2), .int .i64 (ec.v0), .int .i64 (ec.v1), .int .i64 (ec.v2), .int .u16 ((((ec.a).toNat : Nat) : Int)), .int .u8 ((((ec.g).toNat : Nat) : Int))])]) Try.func10 rfl rfl rfl (.c (.c (.c .n))) (Mem.nil _) fun a w hs => ?_
  refine wp_seq_k fun K1 hK2 => ?_
  refine wp_region_lit ?_
  refine st_box (cs := [.int .i64 (ea.id), .int .i64 (ea.p0), .int .i64 (ea.p1), .int .i64 (ea.p2), .int .i64 (ea.v0), .int .i64 (ea.v1), .int .i64 (ea.v2), .int .u16 ((((ea.a).toNat : Nat) : Int)), .int .u8 ((((ea.g).toNat : Nat) : Int))]) hs rfl rfl rfl ?_; clear hs w a; intro g3 a w hs
  refine st_box (cs := [.int .i64 (eb.id), .int .i64 (eb.p0), .int .i64 (eb.p1), .int .i64 (eb.p2), .int .i64 (eb.v0), .int .i64 (eb.v1), .int .i64 (eb.v2), .int .u16 ((((eb.a).toNat : Nat) : Int)), .int .u8 ((((eb.g).toNat : Nat) : Int))]) hs rfl rfl rfl ?_; clear hs w a; intro g4 a w hs
  refine st_box (cs := [.int .i64 (ec.id), .int .i64 (ec.p0), .int .i64 (ec.p1), .int .i64 (ec.p2), .int .i64 (ec.v0), .int .i64 (ec.v1), .int .i64 (ec.v2), .int .u16 ((((ec.a).toNat : Nat) : Int)), .int .u8 ((((ec.g).toNat : Nat) : Int))]) hs rfl rfl rfl ?_; clear hs w a; intro g5 a w hs
  refine st_as hs rfl rfl ?_; clear hs w a; intro a w hs
  refine wpList_nil ?_
  refine then_n (hK2 _ _ ?_)
  refine wp_seq_k fun K6 hK7 => ?_
  refine wp_region_lit ?_
  refine st_fa hs rfl Try.underlying54 rfl Try.sizeOf3 (by decide) (o := 0) rfl rfl ?_; clear hs w a; intro a w hs
  refine st_ldB hs rfl (.s (.s .z)) .z Try.isAgg3 rfl ?_; clear hs w a; intro a w hs
  refine st_cv_u64 hs rfl Try.underlying3 Try.underlying62 rfl ?_; clear hs w a; intro a w hs
  refine st_rem_u64 (X := BitVec.ofInt 64 ea.id) (Y := 65536#64) hs rfl rfl rfl (by decide) (by decide) rfl ?_; clear hs w a; intro a w hs
  refine st_cv_u64_i64 (X := (BitVec.ofInt 64 ea.id) % (65536#64)) hs rfl rfl Try.underlying62 Try.underlying3 rfl ?_; clear hs w a; intro a w hs
  refine st_fa hs rfl Try.underlying54 rfl Try.sizeOf3 (by decide) (o := 0) rfl rfl ?_; clear hs w a; intro a w hs
  refine st_stB hs rfl rfl (.s (.s .z)) .z rfl Try.sizeOf3 ?_; clear hs w a; intro a w hs
  refine wpList_nil ?_
  refine then_n (hK7 _ _ ?_)
  refine wp_seq_k fun K8 hK9 => ?_
  replace hs := hs.sub (F' := [(6, .bool (false)), (5, .pointer (some ⟨g5, 0, none⟩)), (4, .pointer (some ⟨g4, 0, none⟩)), (3, .pointer (some ⟨g3, 0, none⟩))]) (.c rfl (.c rfl (.c rfl (.c rfl .n))))
  refine wp_drawG (M0 := [blk g3 [.int .i64 (((BitVec.ofInt 64 ea.id) % (65536#64)).toInt), .int .i64 (ea.p0), .int .i64 (ea.p1), .int .i64 (ea.p2), .int .i64 (ea.v0), .int .i64 (ea.v1), .int .i64 (ea.v2), .int .u16 ((((ea.a).toNat : Nat) : Int)), .int .u8 ((((ea.g).toNat : Nat) : Int))] 54]) (Ds := [⟨[], [], [], fun vs10 => vs10 0 = .pointer (some ⟨g3, 0, none⟩), fun vs10 => []⟩, ⟨[], [], [], fun vs10 => vs10 1 = .int .i64 (((BitVec.ofInt 64 ea.id) % (65536#64)).toInt), fun vs10 => []⟩, ⟨[], [], [], fun vs10 => vs10 2 = .pointer (some ⟨g3, 0, none⟩), fun vs10 => []⟩, ⟨[], [], [], fun vs10 => vs10 3 = .int .i64 (((BitVec.ofInt 64 ea.id) % (65536#64)).toInt), fun vs10 => []⟩, ⟨[], [], [], fun vs10 => vs10 4 = .pointer (some ⟨g3, 8, none⟩), fun vs10 => []⟩, ⟨[], [], [], fun vs10 => vs10 5 = .int .u8 ((((ea.g).toNat : Nat) : Int)), fun vs10 => []⟩, ⟨[], [], [], fun vs10 => vs10 6 = .pointer (some ⟨g3, 8, none⟩), fun vs10 => []⟩, ⟨[], [], [], fun vs10 => vs10 7 = .int .u8 ((((ea.g).toNat : Nat) : Int)), fun vs10 => []⟩, ⟨[], [], [], fun vs10 => vs10 8 = .pointer (some ⟨g4, 0, none⟩), fun vs10 => []⟩, ⟨[blk g4 [.int .i64 (eb.id), .int .i64 (eb.p0), .int .i64 (eb.p1), .int .i64 (eb.p2), .int .i64 (eb.v0), .int .i64 (eb.v1), .int .i64 (eb.v2), .int .u16 ((((eb.a).toNat : Nat) : Int)), .int .u8 ((((eb.g).toNat : Nat) : Int))] 54], [], [], fun vs10 => True, fun vs10 => [blk g4 [.int .i64 (((BitVec.ofInt 64 ea.id) % (65536#64)).toInt), .int .i64 (eb.p0), .int .i64 (eb.p1), .int .i64 (eb.p2), .int .i64 (eb.v0), .int .i64 (eb.v1), .int .i64 (eb.v2), .int .u16 ((((eb.a).toNat : Nat) : Int)), .int .u8 ((((eb.g).toNat : Nat) : Int))] 54]⟩, ⟨[], [], [], fun vs10 => vs10 10 = .pointer (some ⟨g5, 0, none⟩), fun vs10 => []⟩, ⟨[blk g5 [.int .i64 (ec.id), .int .i64 (ec.p0), .int .i64 (ec.p1), .int .i64 (ec.p2), .int .i64 (ec.v0), .int .i64 (ec.v1), .int .i64 (ec.v2), .int .u16 ((((ec.a).toNat : Nat) : Int)), .int .u8 ((((ec.g).toNat : Nat) : Int))] 54], [], [], fun vs10 => True, fun vs10 => [blk g5 [.int .i64 (((BitVec.ofInt 64 ea.id) % (65536#64)).toInt), .int .i64 (ec.p0), .int .i64 (ec.p1), .int .i64 (ec.p2), .int .i64 (ec.v0), .int .i64 (ec.v1), .int .i64 (ec.v2), .int .u16 ((((ec.a).toNat : Nat) : Int)), .int .u8 ((((ec.g).toNat : Nat) : Int))] 54]⟩, ⟨[], [], [], fun vs10 => vs10 12 = .pointer (some ⟨g4, 8, none⟩), fun vs10 => []⟩, ⟨[], [9], [], fun vs10 => True, fun vs10 => [blk g4 [.int .i64 (((BitVec.ofInt 64 ea.id) % (65536#64)).toInt), .int .i64 (eb.p0), .int .i64 (eb.p1), .int .i64 (eb.p2), .int .i64 (eb.v0), .int .i64 (eb.v1), .int .i64 (eb.v2), .int .u16 ((((eb.a).toNat : Nat) : Int)), .int .u8 ((((ea.g).toNat : Nat) : Int))] 54]⟩, ⟨[], [], [], fun vs10 => vs10 14 = .pointer (some ⟨g5, 8, none⟩), fun vs10 => []⟩, ⟨[], [11], [], fun vs10 => True, fun vs10 => [blk g5 [.int .i64 (((BitVec.ofInt 64 ea.id) % (65536#64)).toInt), .int .i64 (ec.p0), .int .i64 (ec.p1), .int .i64 (ec.p2), .int .i64 (ec.v0), .int .i64 (ec.v1), .int .i64 (ec.v2), .int .u16 ((((ec.a).toNat : Nat) : Int)), .int .u8 ((((ea.g).toNat : Nat) : Int))] 54]⟩]) (by kernel_rfl) hs rfl (.c (.s (.s .z)) (.c (.s .z) .n)) (by kernel_rfl) (by kernel_rfl) ?_ ?_
  ·
   refine (.c ?_ (.c ?_ (.c ?_ (.c ?_ (.c ?_ (.c ?_ (.c ?_ (.c ?_ (.c ?_ (.c ?_ (.c ?_ (.c ?_ (.c ?_ (.c ?_ (.c ?_ (.c ?_ .n))))))))))))))))
   ·
    intro a_ w_ R_ rest_ vs10 hm hs ht hx
    replace hs : St _ _ _ (feet []) [] _ _ := hs
    have hm0 := hm.mid
    have hs0 := hs.bare
    refine st_fa hs rfl Try.underlying54 rfl Try.sizeOf3 (by decide) (o := 0) rfl rfl ?_; clear hs; intro a w hs
    exact wpList_nil ⟨rfl, _, _, hs0, .r, hs, rfl⟩
   ·
    intro a_ w_ R_ rest_ vs10 hm hs ht hx
    replace hs : St _ _ _ (feet []) [] _ _ := hs
    have hm0 := hm.mid
    have t0 := ht 0 (twB_spec 16 _ (by kernel_rfl))
    have e0 : _ = some (vs10 0) := t0.val rfl
    rw [show vs10 0 = .pointer (some ⟨g3, 0, none⟩) from t0.2.1] at e0
    replace hs := hs.learn e0
    have hs0 := hs.bare
    refine st_ldE hs rfl (hm0.del .z) .z Try.isAgg3 rfl ?_; clear hs; intro a w hs
    exact wpList_nil ⟨rfl, _, _, hs0, (.c .r), hs, rfl⟩
   ·
    intro a_ w_ R_ rest_ vs10 hm hs ht hx
    replace hs : St _ _ _ (feet []) [] _ _ := hs
    have hm0 := hm.mid
    have hs0 := hs.bare
    refine st_fa hs rfl Try.underlying54 rfl Try.sizeOf3 (by decide) (o := 0) rfl rfl ?_; clear hs; intro a w hs
    exact wpList_nil ⟨rfl, _, _, hs0, .r, hs, rfl⟩
   ·
    intro a_ w_ R_ rest_ vs10 hm hs ht hx
    replace hs : St _ _ _ (feet []) [] _ _ := hs
    have hm0 := hm.mid
    have t2 := ht 2 (twB_spec 16 _ (by kernel_rfl))
    have e2 : _ = some (vs10 2) := t2.val rfl
    rw [show vs10 2 = .pointer (some ⟨g3, 0, none⟩) from t2.2.1] at e2
    replace hs := hs.learn e2
    have hs0 := hs.bare
    refine st_ldE hs rfl (hm0.del .z) .z Try.isAgg3 rfl ?_; clear hs; intro a w hs
    exact wpList_nil ⟨rfl, _, _, hs0, (.c .r), hs, rfl⟩
   ·
    intro a_ w_ R_ rest_ vs10 hm hs ht hx
    replace hs : St _ _ _ (feet []) [] _ _ := hs
    have hm0 := hm.mid
    have hs0 := hs.bare
    refine st_fa hs rfl Try.underlying54 rfl Try.sizeOf5 (by decide) (o := 8) rfl rfl ?_; clear hs; intro a w hs
    exact wpList_nil ⟨rfl, _, _, hs0, .r, hs, rfl⟩
   ·
    intro a_ w_ R_ rest_ vs10 hm hs ht hx
    replace hs : St _ _ _ (feet []) [] _ _ := hs
    have hm0 := hm.mid
    have t4 := ht 4 (twB_spec 16 _ (by kernel_rfl))
    have e4 : _ = some (vs10 4) := t4.val rfl
    rw [show vs10 4 = .pointer (some ⟨g3, 8, none⟩) from t4.2.1] at e4
    replace hs := hs.learn e4
    have hs0 := hs.bare
    refine st_ldE hs rfl (hm0.del .z) (.s (.s (.s (.s (.s (.s (.s (.s .z)))))))) Try.isAgg5 rfl ?_; clear hs; intro a w hs
    exact wpList_nil ⟨rfl, _, _, hs0, (.c .r), hs, rfl⟩
   ·
    intro a_ w_ R_ rest_ vs10 hm hs ht hx
    replace hs : St _ _ _ (feet []) [] _ _ := hs
    have hm0 := hm.mid
    have hs0 := hs.bare
    refine st_fa hs rfl Try.underlying54 rfl Try.sizeOf5 (by decide) (o := 8) rfl rfl ?_; clear hs; intro a w hs
    exact wpList_nil ⟨rfl, _, _, hs0, .r, hs, rfl⟩
   ·
    intro a_ w_ R_ rest_ vs10 hm hs ht hx
    replace hs : St _ _ _ (feet []) [] _ _ := hs
    have hm0 := hm.mid
    have t6 := ht 6 (twB_spec 16 _ (by kernel_rfl))
    have e6 : _ = some (vs10 6) := t6.val rfl
    rw [show vs10 6 = .pointer (some ⟨g3, 8, none⟩) from t6.2.1] at e6
    replace hs := hs.learn e6
    have hs0 := hs.bare
    refine st_ldE hs rfl (hm0.del .z) (.s (.s (.s (.s (.s (.s (.s (.s .z)))))))) Try.isAgg5 rfl ?_; clear hs; intro a w hs
    exact wpList_nil ⟨rfl, _, _, hs0, (.c .r), hs, rfl⟩
   ·
    intro a_ w_ R_ rest_ vs10 hm hs ht hx
    replace hs : St _ _ _ (feet []) [] _ _ := hs
    have hm0 := hm.mid
    have hs0 := hs.bare
    refine st_fa hs rfl Try.underlying54 rfl Try.sizeOf3 (by decide) (o := 0) rfl rfl ?_; clear hs; intro a w hs
    exact wpList_nil ⟨rfl, _, _, hs0, .r, hs, rfl⟩
   ·
    intro a_ w_ R_ rest_ vs10 hm hs ht hx
    replace hs : St _ _ _ (feet [blk g4 [.int .i64 (eb.id), .int .i64 (eb.p0), .int .i64 (eb.p1), .int .i64 (eb.p2), .int .i64 (eb.v0), .int .i64 (eb.v1), .int .i64 (eb.v2), .int .u16 ((((eb.a).toNat : Nat) : Int)), .int .u8 ((((eb.g).toNat : Nat) : Int))] 54]) [blk g4 [.int .i64 (eb.id), .int .i64 (eb.p0), .int .i64 (eb.p1), .int .i64 (eb.p2), .int .i64 (eb.v0), .int .i64 (eb.v1), .int .i64 (eb.v2), .int .u16 ((((eb.a).toNat : Nat) : Int)), .int .u8 ((((eb.g).toNat : Nat) : Int))] 54] _ _ := hs
    have hm0 := hm.mid
    have t1 := ht 1 (twB_spec 16 _ (by kernel_rfl))
    have e1 : _ = some (vs10 1) := t1.val rfl
    rw [show vs10 1 = .int .i64 (((BitVec.ofInt 64 ea.id) % (65536#64)).toInt) from t1.2.1] at e1
    replace hs := hs.learn e1
    have t8 := ht 8 (twB_spec 16 _ (by kernel_rfl))
    have e8 : _ = some (vs10 8) := t8.val rfl
    rw [show vs10 8 = .pointer (some ⟨g4, 0, none⟩) from t8.2.1] at e8
    replace hs := hs.learn e8
    have hs0 := hs.bare
    refine st_stB hs rfl rfl .z .z rfl Try.sizeOf3 ?_; clear hs; intro a w hs
    exact wpList_nil ⟨rfl, .tuple #[], _, hs0, (.c (.c .r)), hs, trivial⟩
   ·
    intro a_ w_ R_ rest_ vs10 hm hs ht hx
    replace hs : St _ _ _ (feet []) [] _ _ := hs
    have hm0 := hm.mid
    have hs0 := hs.bare
    refine st_fa hs rfl Try.underlying54 rfl Try.sizeOf3 (by decide) (o := 0) rfl rfl ?_; clear hs; intro a w hs
    exact wpList_nil ⟨rfl, _, _, hs0, .r, hs, rfl⟩
   ·
    intro a_ w_ R_ rest_ vs10 hm hs ht hx
    replace hs : St _ _ _ (feet [blk g5 [.int .i64 (ec.id), .int .i64 (ec.p0), .int .i64 (ec.p1), .int .i64 (ec.p2), .int .i64 (ec.v0), .int .i64 (ec.v1), .int .i64 (ec.v2), .int .u16 ((((ec.a).toNat : Nat) : Int)), .int .u8 ((((ec.g).toNat : Nat) : Int))] 54]) [blk g5 [.int .i64 (ec.id), .int .i64 (ec.p0), .int .i64 (ec.p1), .int .i64 (ec.p2), .int .i64 (ec.v0), .int .i64 (ec.v1), .int .i64 (ec.v2), .int .u16 ((((ec.a).toNat : Nat) : Int)), .int .u8 ((((ec.g).toNat : Nat) : Int))] 54] _ _ := hs
    have hm0 := hm.mid
    have t3 := ht 3 (twB_spec 16 _ (by kernel_rfl))
    have e3 : _ = some (vs10 3) := t3.val rfl
    rw [show vs10 3 = .int .i64 (((BitVec.ofInt 64 ea.id) % (65536#64)).toInt) from t3.2.1] at e3
    replace hs := hs.learn e3
    have t10 := ht 10 (twB_spec 16 _ (by kernel_rfl))
    have e10 : _ = some (vs10 10) := t10.val rfl
    rw [show vs10 10 = .pointer (some ⟨g5, 0, none⟩) from t10.2.1] at e10
    replace hs := hs.learn e10
    have hs0 := hs.bare
    refine st_stB hs rfl rfl .z .z rfl Try.sizeOf3 ?_; clear hs; intro a w hs
    exact wpList_nil ⟨rfl, .tuple #[], _, hs0, (.c (.c .r)), hs, trivial⟩
   ·
    intro a_ w_ R_ rest_ vs10 hm hs ht hx
    replace hs : St _ _ _ (feet []) [] _ _ := hs
    have hm0 := hm.mid
    have hs0 := hs.bare
    refine st_fa hs rfl Try.underlying54 rfl Try.sizeOf5 (by decide) (o := 8) rfl rfl ?_; clear hs; intro a w hs
    exact wpList_nil ⟨rfl, _, _, hs0, .r, hs, rfl⟩
   ·
    intro a_ w_ R_ rest_ vs10 hm hs ht hx
    replace hs : St _ _ _ (feet [blk g4 [.int .i64 (((BitVec.ofInt 64 ea.id) % (65536#64)).toInt), .int .i64 (eb.p0), .int .i64 (eb.p1), .int .i64 (eb.p2), .int .i64 (eb.v0), .int .i64 (eb.v1), .int .i64 (eb.v2), .int .u16 ((((eb.a).toNat : Nat) : Int)), .int .u8 ((((eb.g).toNat : Nat) : Int))] 54]) [blk g4 [.int .i64 (((BitVec.ofInt 64 ea.id) % (65536#64)).toInt), .int .i64 (eb.p0), .int .i64 (eb.p1), .int .i64 (eb.p2), .int .i64 (eb.v0), .int .i64 (eb.v1), .int .i64 (eb.v2), .int .u16 ((((eb.a).toNat : Nat) : Int)), .int .u8 ((((eb.g).toNat : Nat) : Int))] 54] _ _ := hs
    have hm0 := hm.mid
    have t5 := ht 5 (twB_spec 16 _ (by kernel_rfl))
    have e5 : _ = some (vs10 5) := t5.val rfl
    rw [show vs10 5 = .int .u8 ((((ea.g).toNat : Nat) : Int)) from t5.2.1] at e5
    replace hs := hs.learn e5
    have t12 := ht 12 (twB_spec 16 _ (by kernel_rfl))
    have e12 : _ = some (vs10 12) := t12.val rfl
    rw [show vs10 12 = .pointer (some ⟨g4, 8, none⟩) from t12.2.1] at e12
    replace hs := hs.learn e12
    have t9 := ht 9 (twB_spec 16 _ (by kernel_rfl))
    have hs0 := hs.bare
    refine st_stB hs rfl rfl .z (.s (.s (.s (.s (.s (.s (.s (.s .z)))))))) rfl Try.sizeOf5 ?_; clear hs; intro a w hs
    exact wpList_nil ⟨rfl, .tuple #[], _, hs0, (.c (.c .r)), hs, trivial⟩
   ·
    intro a_ w_ R_ rest_ vs10 hm hs ht hx
    replace hs : St _ _ _ (feet []) [] _ _ := hs
    have hm0 := hm.mid
    have hs0 := hs.bare
    refine st_fa hs rfl Try.underlying54 rfl Try.sizeOf5 (by decide) (o := 8) rfl rfl ?_; clear hs; intro a w hs
    exact wpList_nil ⟨rfl, _, _, hs0, .r, hs, rfl⟩
   intro a_ w_ R_ rest_ vs10 hm hs ht hx
   replace hs : St _ _ _ (feet [blk g5 [.int .i64 (((BitVec.ofInt 64 ea.id) % (65536#64)).toInt), .int .i64 (ec.p0), .int .i64 (ec.p1), .int .i64 (ec.p2), .int .i64 (ec.v0), .int .i64 (ec.v1), .int .i64 (ec.v2), .int .u16 ((((ec.a).toNat : Nat) : Int)), .int .u8 ((((ec.g).toNat : Nat) : Int))] 54]) [blk g5 [.int .i64 (((BitVec.ofInt 64 ea.id) % (65536#64)).toInt), .int .i64 (ec.p0), .int .i64 (ec.p1), .int .i64 (ec.p2), .int .i64 (ec.v0), .int .i64 (ec.v1), .int .i64 (ec.v2), .int .u16 ((((ec.a).toNat : Nat) : Int)), .int .u8 ((((ec.g).toNat : Nat) : Int))] 54] _ _ := hs
   have hm0 := hm.mid
   have t7 := ht 7 (twB_spec 16 _ (by kernel_rfl))
   have e7 : _ = some (vs10 7) := t7.val rfl
   rw [show vs10 7 = .int .u8 ((((ea.g).toNat : Nat) : Int)) from t7.2.1] at e7
   replace hs := hs.learn e7
   have t14 := ht 14 (twB_spec 16 _ (by kernel_rfl))
   have e14 : _ = some (vs10 14) := t14.val rfl
   rw [show vs10 14 = .pointer (some ⟨g5, 8, none⟩) from t14.2.1] at e14
   replace hs := hs.learn e14
   have t11 := ht 11 (twB_spec 16 _ (by kernel_rfl))
   have hs0 := hs.bare
   refine st_stB hs rfl rfl .z (.s (.s (.s (.s (.s (.s (.s (.s .z)))))))) rfl Try.sizeOf5 ?_; clear hs; intro a w hs
   exact wpList_nil ⟨rfl, .tuple #[], _, hs0, (.c (.c .r)), hs, trivial⟩
  clear hs w a; intro a w vs10 hs hf
  replace hs : St _ _ _ _ [blk g3 [.int .i64 (((BitVec.ofInt 64 ea.id) % (65536#64)).toInt), .int .i64 (ea.p0), .int .i64 (ea.p1), .int .i64 (ea.p2), .int .i64 (ea.v0), .int .i64 (ea.v1), .int .i64 (ea.v2), .int .u16 ((((ea.a).toNat : Nat) : Int)), .int .u8 ((((ea.g).toNat : Nat) : Int))] 54, blk g4 [.int .i64 (((BitVec.ofInt 64 ea.id) % (65536#64)).toInt), .int .i64 (eb.p0), .int .i64 (eb.p1), .int .i64 (eb.p2), .int .i64 (eb.v0), .int .i64 (eb.v1), .int .i64 (eb.v2), .int .u16 ((((eb.a).toNat : Nat) : Int)), .int .u8 ((((ea.g).toNat : Nat) : Int))] 54, blk g5 [.int .i64 (((BitVec.ofInt 64 ea.id) % (65536#64)).toInt), .int .i64 (ec.p0), .int .i64 (ec.p1), .int .i64 (ec.p2), .int .i64 (ec.v0), .int .i64 (ec.v1), .int .i64 (ec.v2), .int .u16 ((((ec.a).toNat : Nat) : Int)), .int .u8 ((((ea.g).toNat : Nat) : Int))] 54] _ _ := hs
  clear hf
  refine then_n (hK9 _ _ ?_)
  refine wp_seq_k fun K11 hK12 => ?_
  refine wp_region_lit ?_
  refine st_ldBA hs rfl .z (.z (.c (.c (.c (.c (.c (.c (.c (.c (.c .n)))))))))) Try.isAgg54 Try.sizeOf54 rfl ?_; clear hs w a; intro a w hs
  obtain ⟨A, hA⟩ : ∃ A : EntR, A = (⟨((BitVec.ofInt 64 ea.id) % (65536#64)).toInt, ea.p0, ea.p1, ea.p2, ea.v0, ea.v1, ea.v2, ea.a, ea.g⟩ : EntR) := ⟨_, rfl⟩
  replace hs := hs.reblk .z (cs' := [.int .i64 (A.id), .int .i64 (A.p0), .int .i64 (A.p1), .int .i64 (A.p2), .int .i64 (A.v0), .int .i64 (A.v1), .int .i64 (A.v2), .int .u16 ((((A.a).toNat : Nat) : Int)), .int .u8 ((((A.g).toNat : Nat) : Int))]) (by rw [hA])
  replace hs := hs.recell (v' := .agg #[.int .i64 (A.id), .int .i64 (A.p0), .int .i64 (A.p1), .int .i64 (A.p2), .int .i64 (A.v0), .int .i64 (A.v1), .int .i64 (A.v2), .int .u16 ((((A.a).toNat : Nat) : Int)), .int .u8 ((((A.g).toNat : Nat) : Int))]) (Option.some.inj (congrArg some (by rw [hA])))
  have hAw : A.wf := by rw [hA]; exact ⟨(by have := idm_rng ea.id; unfold idm at this; dsimp only; omega), ha.p0, ha.p1, ha.p2, ha.v0, ha.v1, ha.v2⟩
  have hAi : 0 ≤ A.id ∧ A.id ≤ 65535 := by rw [hA]; exact idm_rng ea.id
  refine st_alloc (cs := [.int .i64 (0), .int .i64 (0), .int .i64 (0), .int .i64 (0), .int .i64 (0), .int .i64 (0), .int .i64 (0), .int .u16 (0), .int .u8 (0)]) hs Try.zeroValue54 rfl rfl ?_; clear hs w a; intro g13 a w hs
  refine st_stBA hs rfl rfl .z (.z (.c (.c (.c (.c (.c (.c (.c (.c (.c .n)))))))))) (ones_c rfl (ones_c rfl (ones_c rfl (ones_c rfl (ones_c rfl (ones_c rfl (ones_c rfl (ones_c rfl (ones_c rfl ones_n))))))))) Try.sizeOf54 rfl ?_; clear hs w a; intro a w hs
  refine wpList_nil ?_
  refine then_n (hK12 _ _ ?_)
  refine wp_seq_k fun K14 hK15 => ?_
  refine wp_seq_k fun K16 hK17 => ?_
  refine wp_region_lit ?_
  refine st_ldBA hs rfl (.s (.s .z)) (.z (.c (.c (.c (.c (.c (.c (.c (.c (.c .n)))))))))) Try.isAgg54 Try.sizeOf54 rfl ?_; clear hs w a; intro a w hs
  obtain ⟨B, hB⟩ : ∃ B : EntR, B = (⟨((BitVec.ofInt 64 ea.id) % (65536#64)).toInt, eb.p0, eb.p1, eb.p2, eb.v0, eb.v1, eb.v2, eb.a, ea.g⟩ : EntR) := ⟨_, rfl⟩
  replace hs := hs.reblk (.s (.s .z)) (cs' := [.int .i64 (B.id), .int .i64 (B.p0), .int .i64 (B.p1), .int .i64 (B.p2), .int .i64 (B.v0), .int .i64 (B.v1), .int .i64 (B.v2), .int .u16 ((((B.a).toNat : Nat) : Int)), .int .u8 ((((B.g).toNat : Nat) : Int))]) (by rw [hB])
  replace hs := hs.recell (v' := .agg #[.int .i64 (B.id), .int .i64 (B.p0), .int .i64 (B.p1), .int .i64 (B.p2), .int .i64 (B.v0), .int .i64 (B.v1), .int .i64 (B.v2), .int .u16 ((((B.a).toNat : Nat) : Int)), .int .u8 ((((B.g).toNat : Nat) : Int))]) (Option.some.inj (congrArg some (by rw [hB])))
  have hBw : B.wf := by rw [hB]; exact ⟨(by have := idm_rng ea.id; unfold idm at this; dsimp only; omega), hb.p0, hb.p1, hb.p2, hb.v0, hb.v1, hb.v2⟩
  have hBi : B.id = A.id := by rw [hB, hA]
  have hBg : B.g = A.g := by rw [hB, hA]
  refine st_ldBA hs rfl (.s (.s (.s .z))) (.z (.c (.c (.c (.c (.c (.c (.c (.c (.c .n)))))))))) Try.isAgg54 Try.sizeOf54 rfl ?_; clear hs w a; intro a w hs
  obtain ⟨C, hC⟩ : ∃ C : EntR, C = (⟨((BitVec.ofInt 64 ea.id) % (65536#64)).toInt, ec.p0, ec.p1, ec.p2, ec.v0, ec.v1, ec.v2, ec.a, ea.g⟩ : EntR) := ⟨_, rfl⟩
  replace hs := hs.reblk (.s (.s (.s .z))) (cs' := [.int .i64 (C.id), .int .i64 (C.p0), .int .i64 (C.p1), .int .i64 (C.p2), .int .i64 (C.v0), .int .i64 (C.v1), .int .i64 (C.v2), .int .u16 ((((C.a).toNat : Nat) : Int)), .int .u8 ((((C.g).toNat : Nat) : Int))]) (by rw [hC])
  replace hs := hs.recell (v' := .agg #[.int .i64 (C.id), .int .i64 (C.p0), .int .i64 (C.p1), .int .i64 (C.p2), .int .i64 (C.v0), .int .i64 (C.v1), .int .i64 (C.v2), .int .u16 ((((C.a).toNat : Nat) : Int)), .int .u8 ((((C.g).toNat : Nat) : Int))]) (Option.some.inj (congrArg some (by rw [hC])))
  have hCw : C.wf := by rw [hC]; exact ⟨(by have := idm_rng ea.id; unfold idm at this; dsimp only; omega), hc.p0, hc.p1, hc.p2, hc.v0, hc.v1, hc.v2⟩
  have hCi : C.id = A.id := by rw [hC, hA]
  have hCg : C.g = A.g := by rw [hC, hA]
  refine st_bs (cs := [.int .i64 (B.id), .int .i64 (B.p0), .int .i64 (B.p1), .int .i64 (B.p2), .int .i64 (B.v0), .int .i64 (B.v1), .int .i64 (B.v2), .int .u16 ((((B.a).toNat : Nat) : Int)), .int .u8 ((((B.g).toNat : Nat) : Int)), .int .i64 (C.id), .int .i64 (C.p0), .int .i64 (C.p1), .int .i64 (C.p2), .int .i64 (C.v0), .int .i64 (C.v1), .int .i64 (C.v2), .int .u16 ((((C.a).toNat : Nat) : Int)), .int .u8 ((((C.g).toNat : Nat) : Int))]) hs (.c (.c .n)) (.c rfl (.c rfl .n)) Try.underlying64 (ie := Try.t54) rfl rfl rfl rfl (by decide) (by decide) rfl (by decide) rfl rfl rfl ?_; clear hs w a; intro g18 a w hs
  refine st_len hs rfl (rd_blk (m := 2) (size := 9) (hs.mem.del .z) rfl (by decide)).isSl Try.underlying64 rfl ?_; clear hs w a; intro a w hs
  replace hs := hs.recell (v' := .int .i64 (2)) (Option.some.inj rfl)
  refine st_mv hs rfl rfl ?_; clear hs w a; intro a w hs
  refine wpList_nil ?_
  refine then_n (hK17 _ _ ?_)
  refine wp_block ?_
  refine wp_loop_rounds 3 ?_
  refine rounds_in ?_
  refine wp_cut (fun a w => St 102 [(3, .pointer (some ⟨g3, 0, none⟩)), (4, .pointer (some ⟨g4, 0, none⟩)), (5, .pointer (some ⟨g5, 0, none⟩)), (7, .pointer (some ⟨g13, 0, none⟩)), (39, .slice (some ⟨g18, 0, none⟩) 2 2), (40, .int .i64 (2)), (41, .int .i64 (1))] w0 [] [blk g13 [.int .i64 (B.id), .int .i64 (B.p0), .int .i64 (B.p1), .int .i64 (B.p2), .int .i64 (B.v0), .int .i64 (B.v1), .int .i64 (B.v2), .int .u16 ((((B.a).toNat : Nat) : Int)), .int .u8 ((((B.g).toNat : Nat) : Int))] 54, blk g18 [.int .i64 (B.id), .int .i64 (B.p0), .int .i64 (B.p1), .int .i64 (B.p2), .int .i64 (B.v0), .int .i64 (B.v1), .int .i64 (B.v2), .int .u16 ((((B.a).toNat : Nat) : Int)), .int .u8 ((((B.g).toNat : Nat) : Int)), .int .i64 (C.id), .int .i64 (C.p0), .int .i64 (C.p1), .int .i64 (C.p2), .int .i64 (C.v0), .int .i64 (C.v1), .int .i64 (C.v2), .int .u16 ((((C.a).toNat : Nat) : Int)), .int .u8 ((((C.g).toNat : Nat) : Int))] 54, blk g5 [.int .i64 (C.id), .int .i64 (C.p0), .int .i64 (C.p1), .int .i64 (C.p2), .int .i64 (C.v0), .int .i64 (C.v1), .int .i64 (C.v2), .int .u16 ((((C.a).toNat : Nat) : Int)), .int .u8 ((((C.g).toNat : Nat) : Int))] 54, blk g4 [.int .i64 (B.id), .int .i64 (B.p0), .int .i64 (B.p1), .int .i64 (B.p2), .int .i64 (B.v0), .int .i64 (B.v1), .int .i64 (B.v2), .int .u16 ((((B.a).toNat : Nat) : Int)), .int .u8 ((((B.g).toNat : Nat) : Int))] 54, blk g3 [.int .i64 (A.id), .int .i64 (A.p0), .int .i64 (A.p1), .int .i64 (A.p2), .int .i64 (A.v0), .int .i64 (A.v1), .int .i64 (A.v2), .int .u16 ((((A.a).toNat : Nat) : Int)), .int .u8 ((((A.g).toNat : Nat) : Int))] 54] a w) ?_ ?_
  ·
   refine wp_seq_k fun K19 hK20 => ?_
   refine wp_region_lit ?_
   refine st_lss hs rfl rfl rfl ?_; clear hs w a; intro a w hs
   rw [show (decide ((0 : Int) < 2)) = true from by decide] at hs
   refine wpList_nil ?_
   refine then_n (hK20 _ _ ?_)
   refine wp_seq_k fun K21 hK22 => ?_
   refine wp_cond_true (hs.ev rfl) ?_
   refine wp_skip ?_
   refine then_n (hK22 _ _ ?_)
   refine wp_seq_k fun K23 hK24 => ?_
   refine wp_block ?_
   refine wp_seq_k fun K25 hK26 => ?_
   refine wp_region_lit ?_
   refine st_ia (j := 0) hs rfl rfl (rd_blk (m := 2) (size := 9) (hs.mem.del .z) rfl (by decide)) (by decide) (by omega) Try.underlying64 Try.sizeOf54 rfl ?_; clear hs w a; intro a w hs
   refine st_ldA (cs := [.int .i64 (B.id), .int .i64 (B.p0), .int .i64 (B.p1), .int .i64 (B.p2), .int .i64 (B.v0), .int .i64 (B.v1), .int .i64 (B.v2), .int .u16 ((((B.a).toNat : Nat) : Int)), .int .u8 ((((B.g).toNat : Nat) : Int))]) hs rfl (rd_blk (m := 2) (size := 9) (hs.mem.del .z) rfl (by decide)) (by rfl) (by simp) (by decide) Try.isAgg54 Try.sizeOf54 rfl ?_; clear hs w a; intro a w hs
   refine st_alloc (cs := [.int .i64 (0), .int .i64 (0), .int .i64 (0), .int .i64 (0), .int .i64 (0), .int .i64 (0), .int .i64 (0), .int .u16 (0), .int .u8 (0)]) hs Try.zeroValue54 rfl rfl ?_; clear hs w a; intro g27 a w hs
   refine st_stBA hs rfl rfl .z (.z (.c (.c (.c (.c (.c (.c (.c (.c (.c .n)))))))))) (ones_c rfl (ones_c rfl (ones_c rfl (ones_c rfl (ones_c rfl (ones_c rfl (ones_c rfl (ones_c rfl (ones_c rfl ones_n))))))))) Try.sizeOf54 rfl ?_; clear hs w a; intro a w hs
   refine wpList_nil ?_
   refine then_n (hK26 _ _ ?_)
   refine wp_seq_k fun K28 hK29 => ?_
   refine wp_region_lit ?_
   refine st_ldBA hs rfl (.s (.s (.s (.s .z)))) (.z (.c (.c (.c (.c (.c (.c (.c (.c (.c .n)))))))))) Try.isAgg54 Try.sizeOf54 rfl ?_; clear hs w a; intro a w hs
   refine st_ldBA hs rfl .z (.z (.c (.c (.c (.c (.c (.c (.c (.c (.c .n)))))))))) Try.isAgg54 Try.sizeOf54 rfl ?_; clear hs w a; intro a w hs
   refine st_callP (v := .tuple #[.agg #[.int .i64 (((recDiff A B).1).k), .int .i64 (((recDiff A B).1).id), .int .i64 (((recDiff A B).1).p0), .int .i64 (((recDiff A B).1).p1), .int .i64 (((recDiff A B).1).p2), .int .i64 (((recDiff A B).1).v0), .int .i64 (((recDiff A B).1).v1), .int .i64 (((recDiff A B).1).v2), .int .u16 ((((((recDiff A B).1).a).toNat : Nat) : Int))], .bool ((recDiff A B).2)]) hs (.c rfl (.c rfl .n)) Try.call30 (diff_ok A B _) rfl ?_; clear hs w a; intro a w hs
   refine st_mv hs rfl rfl ?_; clear hs w a; intro a w hs
   refine st_ex hs rfl .z rfl ?_; clear hs w a; intro a w hs
   refine st_ex hs rfl (.s .z) rfl ?_; clear hs w a; intro a w hs
   refine st_alloc (cs := [.int .i64 (0), .int .i64 (0), .int .i64 (0), .int .i64 (0), .int .i64 (0), .int .i64 (0), .int .i64 (0), .int .i64 (0), .int .u16 (0)]) hs Try.zeroValue25 rfl rfl ?_; clear hs w a; intro g30 a w hs
   refine st_stBA hs rfl rfl .z (.z (.c (.c (.c (.c (.c (.c (.c (.c (.c .n)))))))))) (ones_c rfl (ones_c rfl (ones_c rfl (ones_c rfl (ones_c rfl (ones_c rfl (ones_c rfl (ones_c rfl (ones_c rfl ones_n))))))))) Try.sizeOf25 rfl ?_; clear hs w a; intro a w hs
   refine st_as hs rfl rfl ?_; clear hs w a; intro a w hs
   refine wpList_nil ?_
   refine then_n (hK29 _ _ ?_)
   refine wp_seq_k fun K31 hK32 => ?_
   refine wp_region_lit ?_
   refine st_mv hs rfl rfl ?_; clear hs w a; intro a w hs
   refine wpList_nil ?_
   refine then_n (hK32 _ _ ?_)
   refine wp_if hs rfl (fun hc33 => ?_) (fun hc33 => ?_)
   ·
    have hdm := diff_makes hAw hBw hAi hBi (.inl hBg) (by assumption)
    refine wp_seq_k fun K34 hK35 => ?_
    refine wp_region_lit ?_
    refine st_ldBA hs rfl (.s (.s (.s (.s (.s .z))))) (.z (.c (.c (.c (.c (.c (.c (.c (.c (.c .n)))))))))) Try.isAgg54 Try.sizeOf54 rfl ?_; clear hs w a; intro a w hs
    refine st_ldBA hs rfl .z (.z (.c (.c (.c (.c (.c (.c (.c (.c (.c .n)))))))))) Try.isAgg25 Try.sizeOf25 rfl ?_; clear hs w a; intro a w hs
    refine st_callP (v := .tuple #[.agg #[.int .i64 (((entApply A (((recDiff A B).1))).1).id), .int .i64 (((entApply A (((recDiff A B).1))).1).p0), .int .i64 (((entApply A (((recDiff A B).1))).1).p1), .int .i64 (((entApply A (((recDiff A B).1))).1).p2), .int .i64 (((entApply A (((recDiff A B).1))).1).v0), .int .i64 (((entApply A (((recDiff A B).1))).1).v1), .int .i64 (((entApply A (((recDiff A B).1))).1).v2), .int .u16 ((((((entApply A (((recDiff A B).1))).1).a).toNat : Nat) : Int)), .int .u8 ((((((entApply A (((recDiff A B).1))).1).g).toNat : Nat) : Int))], .int .i64 ((((entApply A (((recDiff A B).1))).2 : Nat) : Int))]) hs (.c rfl (.c rfl .n)) Try.call32 (apply_ok A (((recDiff A B).1)) _) rfl ?_; clear hs w a; intro a w hs
    refine st_mv hs rfl rfl ?_; clear hs w a; intro a w hs
    refine st_ex hs rfl .z rfl ?_; clear hs w a; intro a w hs
    refine st_ex hs rfl (.s .z) rfl ?_; clear hs w a; intro a w hs
    refine st_alloc (cs := [.int .i64 (0), .int .i64 (0), .int .i64 (0), .int .i64 (0), .int .i64 (0), .int .i64 (0), .int .i64 (0), .int .u16 (0), .int .u8 (0)]) hs Try.zeroValue54 rfl rfl ?_; clear hs w a; intro g36 a w hs
    refine st_stBA hs rfl rfl .z (.z (.c (.c (.c (.c (.c (.c (.c (.c (.c .n)))))))))) (ones_c rfl (ones_c rfl (ones_c rfl (ones_c rfl (ones_c rfl (ones_c rfl (ones_c rfl (ones_c rfl (ones_c rfl ones_n))))))))) Try.sizeOf54 rfl ?_; clear hs w a; intro a w hs
    refine st_as hs rfl rfl ?_; clear hs w a; intro a w hs
    refine wpList_nil ?_
    refine then_n (hK35 _ _ ?_)
    refine wp_seq_k fun K37 hK38 => ?_
    refine wp_seq_k fun K39 hK40 => ?_
    refine wp_region_lit ?_
    refine st_mv hs rfl rfl ?_; clear hs w a; intro a w hs
    refine st_neq hs rfl rfl rfl ?_; clear hs w a; intro a w hs
    have hb_ : (!(((((entApply A (((recDiff A B).1))).2 : Nat) : Int) : Int) == 0)) = false := by rw [hdm.1]; rfl
    rw [hb_] at hs; clear hb_
    refine wpList_nil ?_
    refine then_n (hK40 _ _ ?_)
    refine wp_cond_false (hs.ev rfl) ?_
    refine wp_skip ?_
    refine then_n (hK38 _ _ ?_)
    refine wp_region_lit ?_
    refine st_ldBA hs rfl .z (.z (.c (.c (.c (.c (.c (.c (.c (.c (.c .n)))))))))) Try.isAgg54 Try.sizeOf54 rfl ?_; clear hs w a; intro a w hs
    refine st_stBA hs rfl rfl (.s (.s (.s (.s (.s (.s .z)))))) (.z (.c (.c (.c (.c (.c (.c (.c (.c (.c .n)))))))))) (ones_c rfl (ones_c rfl (ones_c rfl (ones_c rfl (ones_c rfl (ones_c rfl (ones_c rfl (ones_c rfl (ones_c rfl ones_n))))))))) Try.sizeOf54 rfl ?_; clear hs w a; intro a w hs
    refine wpList_nil ?_
    refine in_n ?_
    refine then_n (hK24 _ _ ?_)
    refine wp_region_lit ?_
    refine st_addR hs rfl rfl (by omega) rfl ?_; clear hs w a; intro a w hs
    rw [show (0 + 1 : Int) = 1 by rfl] at hs
    refine st_mv hs rfl rfl ?_; clear hs w a; intro a w hs
    refine wpList_nil ?_
    refine then_n ?_
    replace hs := hs.reblk .z (cs' := [.int .i64 (B.id), .int .i64 (B.p0), .int .i64 (B.p1), .int .i64 (B.p2), .int .i64 (B.v0), .int .i64 (B.v1), .int .i64 (B.v2), .int .u16 ((((B.a).toNat : Nat) : Int)), .int .u8 ((((B.g).toNat : Nat) : Int))]) (by rw [hdm.1])
    replace hs := hs.drop (.c (.s (.s (.s .z))) (.c (.s (.s .z)) (.c (.s .z) .n)))
    exact hs.sub (.c rfl (.c rfl (.c rfl (.c rfl (.c rfl (.c rfl (.c rfl .n)))))))
   have hsm := diff_same (by assumption : (recDiff A B).2 = false)
   refine wp_skip ?_
   refine in_n ?_
   refine then_n (hK24 _ _ ?_)
   refine wp_region_lit ?_
   refine st_addR hs rfl rfl (by omega) rfl ?_; clear hs w a; intro a w hs
   rw [show (0 + 1 : Int) = 1 by rfl] at hs
   refine st_mv hs rfl rfl ?_; clear hs w a; intro a w hs
   refine wpList_nil ?_
   refine then_n ?_
   replace hs := hs.reblk (.s (.s (.s (.s (.s .z))))) (cs' := [.int .i64 (B.id), .int .i64 (B.p0), .int .i64 (B.p1), .int .i64 (B.p2), .int .i64 (B.v0), .int .i64 (B.v1), .int .i64 (B.v2), .int .u16 ((((B.a).toNat : Nat) : Int)), .int .u8 ((((B.g).toNat : Nat) : Int))]) (by rw [hsm])
   replace hs := hs.drop (.c (.s (.s .z)) (.c (.s .z) .n))
   exact hs.sub (.c rfl (.c rfl (.c rfl (.c rfl (.c rfl (.c rfl (.c rfl .n)))))))
  clear hs w a; rintro a w hs
  refine then_n ?_
  refine rounds_in ?_
  refine wp_cut (fun a w => St 102 [(3, .pointer (some ⟨g3, 0, none⟩)), (4, .pointer (some ⟨g4, 0, none⟩)), (5, .pointer (some ⟨g5, 0, none⟩)), (7, .pointer (some ⟨g13, 0, none⟩)), (39, .slice (some ⟨g18, 0, none⟩) 2 2), (40, .int .i64 (2)), (41, .int .i64 (2))] w0 [] [blk g13 [.int .i64 (C.id), .int .i64 (C.p0), .int .i64 (C.p1), .int .i64 (C.p2), .int .i64 (C.v0), .int .i64 (C.v1), .int .i64 (C.v2), .int .u16 ((((C.a).toNat : Nat) : Int)), .int .u8 ((((C.g).toNat : Nat) : Int))] 54, blk g18 [.int .i64 (B.id), .int .i64 (B.p0), .int .i64 (B.p1), .int .i64 (B.p2), .int .i64 (B.v0), .int .i64 (B.v1), .int .i64 (B.v2), .int .u16 ((((B.a).toNat : Nat) : Int)), .int .u8 ((((B.g).toNat : Nat) : Int)), .int .i64 (C.id), .int .i64 (C.p0), .int .i64 (C.p1), .int .i64 (C.p2), .int .i64 (C.v0), .int .i64 (C.v1), .int .i64 (C.v2), .int .u16 ((((C.a).toNat : Nat) : Int)), .int .u8 ((((C.g).toNat : Nat) : Int))] 54, blk g5 [.int .i64 (C.id), .int .i64 (C.p0), .int .i64 (C.p1), .int .i64 (C.p2), .int .i64 (C.v0), .int .i64 (C.v1), .int .i64 (C.v2), .int .u16 ((((C.a).toNat : Nat) : Int)), .int .u8 ((((C.g).toNat : Nat) : Int))] 54, blk g4 [.int .i64 (B.id), .int .i64 (B.p0), .int .i64 (B.p1), .int .i64 (B.p2), .int .i64 (B.v0), .int .i64 (B.v1), .int .i64 (B.v2), .int .u16 ((((B.a).toNat : Nat) : Int)), .int .u8 ((((B.g).toNat : Nat) : Int))] 54, blk g3 [.int .i64 (A.id), .int .i64 (A.p0), .int .i64 (A.p1), .int .i64 (A.p2), .int .i64 (A.v0), .int .i64 (A.v1), .int .i64 (A.v2), .int .u16 ((((A.a).toNat : Nat) : Int)), .int .u8 ((((A.g).toNat : Nat) : Int))] 54] a w) ?_ ?_
  ·
   refine wp_seq_k fun K41 hK42 => ?_
   refine wp_region_lit ?_
   refine st_lss hs rfl rfl rfl ?_; clear hs w a; intro a w hs
   rw [show (decide ((1 : Int) < 2)) = true from by decide] at hs
   refine wpList_nil ?_
   refine then_n (hK42 _ _ ?_)
   refine wp_seq_k fun K43 hK44 => ?_
   refine wp_cond_true (hs.ev rfl) ?_
   refine wp_skip ?_
   refine then_n (hK44 _ _ ?_)
   refine wp_seq_k fun K45 hK46 => ?_
   refine wp_block ?_
   refine wp_seq_k fun K47 hK48 => ?_
   refine wp_region_lit ?_
   refine st_ia (j := 1) hs rfl rfl (rd_blk (m := 2) (size := 9) (hs.mem.del (.s .z)) rfl (by decide)) (by decide) (by omega) Try.underlying64 Try.sizeOf54 rfl ?_; clear hs w a; intro a w hs
   refine st_ldA (cs := [.int .i64 (C.id), .int .i64 (C.p0), .int .i64 (C.p1), .int .i64 (C.p2), .int .i64 (C.v0), .int .i64 (C.v1), .int .i64 (C.v2), .int .u16 ((((C.a).toNat : Nat) : Int)), .int .u8 ((((C.g).toNat : Nat) : Int))]) hs rfl (rd_blk (m := 2) (size := 9) (hs.mem.del (.s .z)) rfl (by decide)) (by rfl) (by simp) (by decide) Try.isAgg54 Try.sizeOf54 rfl ?_; clear hs w a; intro a w hs
   refine st_alloc (cs := [.int .i64 (0), .int .i64 (0), .int .i64 (0), .int .i64 (0), .int .i64 (0), .int .i64 (0), .int .i64 (0), .int .u16 (0), .int .u8 (0)]) hs Try.zeroValue54 rfl rfl ?_; clear hs w a; intro g49 a w hs
   refine st_stBA hs rfl rfl .z (.z (.c (.c (.c (.c (.c (.c (.c (.c (.c .n)))))))))) (ones_c rfl (ones_c rfl (ones_c rfl (ones_c rfl (ones_c rfl (ones_c rfl (ones_c rfl (ones_c rfl (ones_c rfl ones_n))))))))) Try.sizeOf54 rfl ?_; clear hs w a; intro a w hs
   refine wpList_nil ?_
   refine then_n (hK48 _ _ ?_)
   refine wp_seq_k fun K50 hK51 => ?_
   refine wp_region_lit ?_
   refine st_ldBA hs rfl (.s .z) (.z (.c (.c (.c (.c (.c (.c (.c (.c (.c .n)))))))))) Try.isAgg54 Try.sizeOf54 rfl ?_; clear hs w a; intro a w hs
   refine st_ldBA hs rfl .z (.z (.c (.c (.c (.c (.c (.c (.c (.c (.c .n)))))))))) Try.isAgg54 Try.sizeOf54 rfl ?_; clear hs w a; intro a w hs
   refine st_callP (v := .tuple #[.agg #[.int .i64 (((recDiff B C).1).k), .int .i64 (((recDiff B C).1).id), .int .i64 (((recDiff B C).1).p0), .int .i64 (((recDiff B C).1).p1), .int .i64 (((recDiff B C).1).p2), .int .i64 (((recDiff B C).1).v0), .int .i64 (((recDiff B C).1).v1), .int .i64 (((recDiff B C).1).v2), .int .u16 ((((((recDiff B C).1).a).toNat : Nat) : Int))], .bool ((recDiff B C).2)]) hs (.c rfl (.c rfl .n)) Try.call30 (diff_ok B C _) rfl ?_; clear hs w a; intro a w hs
   refine st_mv hs rfl rfl ?_; clear hs w a; intro a w hs
   refine st_ex hs rfl .z rfl ?_; clear hs w a; intro a w hs
   refine st_ex hs rfl (.s .z) rfl ?_; clear hs w a; intro a w hs
   refine st_alloc (cs := [.int .i64 (0), .int .i64 (0), .int .i64 (0), .int .i64 (0), .int .i64 (0), .int .i64 (0), .int .i64 (0), .int .i64 (0), .int .u16 (0)]) hs Try.zeroValue25 rfl rfl ?_; clear hs w a; intro g52 a w hs
   refine st_stBA hs rfl rfl .z (.z (.c (.c (.c (.c (.c (.c (.c (.c (.c .n)))))))))) (ones_c rfl (ones_c rfl (ones_c rfl (ones_c rfl (ones_c rfl (ones_c rfl (ones_c rfl (ones_c rfl (ones_c rfl ones_n))))))))) Try.sizeOf25 rfl ?_; clear hs w a; intro a w hs
   refine st_as hs rfl rfl ?_; clear hs w a; intro a w hs
   refine wpList_nil ?_
   refine then_n (hK51 _ _ ?_)
   refine wp_seq_k fun K53 hK54 => ?_
   refine wp_region_lit ?_
   refine st_mv hs rfl rfl ?_; clear hs w a; intro a w hs
   refine wpList_nil ?_
   refine then_n (hK54 _ _ ?_)
   refine wp_if hs rfl (fun hc55 => ?_) (fun hc55 => ?_)
   ·
    have hdm := diff_makes hBw hCw (by rw [hBi]; exact hAi) (by rw [hBi, hCi]) (.inl (by rw [hBg, hCg])) (by assumption)
    refine wp_seq_k fun K56 hK57 => ?_
    refine wp_region_lit ?_
    refine st_ldBA hs rfl (.s (.s .z)) (.z (.c (.c (.c (.c (.c (.c (.c (.c (.c .n)))))))))) Try.isAgg54 Try.sizeOf54 rfl ?_; clear hs w a; intro a w hs
    refine st_ldBA hs rfl .z (.z (.c (.c (.c (.c (.c (.c (.c (.c (.c .n)))))))))) Try.isAgg25 Try.sizeOf25 rfl ?_; clear hs w a; intro a w hs
    refine st_callP (v := .tuple #[.agg #[.int .i64 (((entApply B (((recDiff B C).1))).1).id), .int .i64 (((entApply B (((recDiff B C).1))).1).p0), .int .i64 (((entApply B (((recDiff B C).1))).1).p1), .int .i64 (((entApply B (((recDiff B C).1))).1).p2), .int .i64 (((entApply B (((recDiff B C).1))).1).v0), .int .i64 (((entApply B (((recDiff B C).1))).1).v1), .int .i64 (((entApply B (((recDiff B C).1))).1).v2), .int .u16 ((((((entApply B (((recDiff B C).1))).1).a).toNat : Nat) : Int)), .int .u8 ((((((entApply B (((recDiff B C).1))).1).g).toNat : Nat) : Int))], .int .i64 ((((entApply B (((recDiff B C).1))).2 : Nat) : Int))]) hs (.c rfl (.c rfl .n)) Try.call32 (apply_ok B (((recDiff B C).1)) _) rfl ?_; clear hs w a; intro a w hs
    refine st_mv hs rfl rfl ?_; clear hs w a; intro a w hs
    refine st_ex hs rfl .z rfl ?_; clear hs w a; intro a w hs
    refine st_ex hs rfl (.s .z) rfl ?_; clear hs w a; intro a w hs
    refine st_alloc (cs := [.int .i64 (0), .int .i64 (0), .int .i64 (0), .int .i64 (0), .int .i64 (0), .int .i64 (0), .int .i64 (0), .int .u16 (0), .int .u8 (0)]) hs Try.zeroValue54 rfl rfl ?_; clear hs w a; intro g58 a w hs
    refine st_stBA hs rfl rfl .z (.z (.c (.c (.c (.c (.c (.c (.c (.c (.c .n)))))))))) (ones_c rfl (ones_c rfl (ones_c rfl (ones_c rfl (ones_c rfl (ones_c rfl (ones_c rfl (ones_c rfl (ones_c rfl ones_n))))))))) Try.sizeOf54 rfl ?_; clear hs w a; intro a w hs
    refine st_as hs rfl rfl ?_; clear hs w a; intro a w hs
    refine wpList_nil ?_
    refine then_n (hK57 _ _ ?_)
    refine wp_seq_k fun K59 hK60 => ?_
    refine wp_seq_k fun K61 hK62 => ?_
    refine wp_region_lit ?_
    refine st_mv hs rfl rfl ?_; clear hs w a; intro a w hs
    refine st_neq hs rfl rfl rfl ?_; clear hs w a; intro a w hs
    have hb_ : (!(((((entApply B (((recDiff B C).1))).2 : Nat) : Int) : Int) == 0)) = false := by rw [hdm.1]; rfl
    rw [hb_] at hs; clear hb_
    refine wpList_nil ?_
    refine then_n (hK62 _ _ ?_)
    refine wp_cond_false (hs.ev rfl) ?_
    refine wp_skip ?_
    refine then_n (hK60 _ _ ?_)
    refine wp_region_lit ?_
    refine st_ldBA hs rfl .z (.z (.c (.c (.c (.c (.c (.c (.c (.c (.c .n)))))))))) Try.isAgg54 Try.sizeOf54 rfl ?_; clear hs w a; intro a w hs
    refine st_stBA hs rfl rfl (.s (.s (.s .z))) (.z (.c (.c (.c (.c (.c (.c (.c (.c (.c .n)))))))))) (ones_c rfl (ones_c rfl (ones_c rfl (ones_c rfl (ones_c rfl (ones_c rfl (ones_c rfl (ones_c rfl (ones_c rfl ones_n))))))))) Try.sizeOf54 rfl ?_; clear hs w a; intro a w hs
    refine wpList_nil ?_
    refine in_n ?_
    refine then_n (hK46 _ _ ?_)
    refine wp_region_lit ?_
    refine st_addR hs rfl rfl (by omega) rfl ?_; clear hs w a; intro a w hs
    rw [show (1 + 1 : Int) = 2 by rfl] at hs
    refine st_mv hs rfl rfl ?_; clear hs w a; intro a w hs
    refine wpList_nil ?_
    refine then_n ?_
    replace hs := hs.reblk .z (cs' := [.int .i64 (C.id), .int .i64 (C.p0), .int .i64 (C.p1), .int .i64 (C.p2), .int .i64 (C.v0), .int .i64 (C.v1), .int .i64 (C.v2), .int .u16 ((((C.a).toNat : Nat) : Int)), .int .u8 ((((C.g).toNat : Nat) : Int))]) (by rw [hdm.1])
    replace hs := hs.drop (.c (.s (.s (.s .z))) (.c (.s (.s .z)) (.c (.s .z) .n)))
    exact hs.sub (.c rfl (.c rfl (.c rfl (.c rfl (.c rfl (.c rfl (.c rfl .n)))))))
   have hsm := diff_same (by assumption : (recDiff B C).2 = false)
   refine wp_skip ?_
   refine in_n ?_
   refine then_n (hK46 _ _ ?_)
   refine wp_region_lit ?_
   refine st_addR hs rfl rfl (by omega) rfl ?_; clear hs w a; intro a w hs
   rw [show (1 + 1 : Int) = 2 by rfl] at hs
   refine st_mv hs rfl rfl ?_; clear hs w a; intro a w hs
   refine wpList_nil ?_
   refine then_n ?_
   replace hs := hs.reblk (.s (.s .z)) (cs' := [.int .i64 (C.id), .int .i64 (C.p0), .int .i64 (C.p1), .int .i64 (C.p2), .int .i64 (C.v0), .int .i64 (C.v1), .int .i64 (C.v2), .int .u16 ((((C.a).toNat : Nat) : Int)), .int .u8 ((((C.g).toNat : Nat) : Int))]) (by rw [hsm])
   replace hs := hs.drop (.c (.s (.s .z)) (.c (.s .z) .n))
   exact hs.sub (.c rfl (.c rfl (.c rfl (.c rfl (.c rfl (.c rfl (.c rfl .n)))))))
  clear hs w a; rintro a w hs
  refine then_n ?_
  refine rounds_in ?_
  refine wp_seq_k fun K63 hK64 => ?_
  refine wp_region_lit ?_
  refine st_lss hs rfl rfl rfl ?_; clear hs w a; intro a w hs
  rw [show (decide ((2 : Int) < 2)) = false from by decide] at hs
  refine wpList_nil ?_
  refine then_n (hK64 _ _ ?_)
  refine wp_seq_k fun K65 hK66 => ?_
  refine wp_cond_false (hs.ev rfl) ?_
  refine wp_exit ?_
  refine th_e ?_
  refine th_e ?_
  refine in_hit ?_
  refine then_n (hK15 _ _ ?_)
  refine wp_seq_k fun K67 hK68 => ?_
  refine wp_region_lit ?_
  refine st_ldBA hs rfl (.s (.s (.s (.s .z)))) (.z (.c (.c (.c (.c (.c (.c (.c (.c (.c .n)))))))))) Try.isAgg54 Try.sizeOf54 rfl ?_; clear hs w a; intro a w hs
  refine st_ldBA hs rfl (.s (.s .z)) (.z (.c (.c (.c (.c (.c (.c (.c (.c (.c .n)))))))))) Try.isAgg54 Try.sizeOf54 rfl ?_; clear hs w a; intro a w hs
  refine st_callP (v := .tuple #[.agg #[.int .i64 (((recDiff A C).1).k), .int .i64 (((recDiff A C).1).id), .int .i64 (((recDiff A C).1).p0), .int .i64 (((recDiff A C).1).p1), .int .i64 (((recDiff A C).1).p2), .int .i64 (((recDiff A C).1).v0), .int .i64 (((recDiff A C).1).v1), .int .i64 (((recDiff A C).1).v2), .int .u16 ((((((recDiff A C).1).a).toNat : Nat) : Int))], .bool ((recDiff A C).2)]) hs (.c rfl (.c rfl .n)) Try.call30 (diff_ok A C _) rfl ?_; clear hs w a; intro a w hs
  refine st_mv hs rfl rfl ?_; clear hs w a; intro a w hs
  refine st_ex hs rfl .z rfl ?_; clear hs w a; intro a w hs
  refine st_ex hs rfl (.s .z) rfl ?_; clear hs w a; intro a w hs
  refine st_alloc (cs := [.int .i64 (0), .int .i64 (0), .int .i64 (0), .int .i64 (0), .int .i64 (0), .int .i64 (0), .int .i64 (0), .int .i64 (0), .int .u16 (0)]) hs Try.zeroValue25 rfl rfl ?_; clear hs w a; intro g69 a w hs
  refine st_stBA hs rfl rfl .z (.z (.c (.c (.c (.c (.c (.c (.c (.c (.c .n)))))))))) (ones_c rfl (ones_c rfl (ones_c rfl (ones_c rfl (ones_c rfl (ones_c rfl (ones_c rfl (ones_c rfl (ones_c rfl ones_n))))))))) Try.sizeOf25 rfl ?_; clear hs w a; intro a w hs
  refine st_as hs rfl rfl ?_; clear hs w a; intro a w hs
  refine wpList_nil ?_
  refine then_n (hK68 _ _ ?_)
  refine wp_seq_k fun K70 hK71 => ?_
  refine wp_seq_k fun K72 hK73 => ?_
  refine wp_region_lit ?_
  refine st_mv hs rfl rfl ?_; clear hs w a; intro a w hs
  refine st_not hs rfl rfl ?_; clear hs w a; intro a w hs
  refine wpList_nil ?_
  refine then_n (hK73 _ _ ?_)
  refine wp_if hs rfl (fun hc74 => ?_) (fun hc74 => ?_)
  ·
   replace hc74 := not_t hc74
   refine wp_seq_k fun K75 hK76 => ?_
   refine wp_region_lit ?_
   refine st_callP (v := .bool (true)) hs .n Try.call20 (alive08_ok _) rfl ?_; clear hs w a; intro a w hs
   refine st_mv hs rfl rfl ?_; clear hs w a; intro a w hs
   refine st_guardT hs rfl rfl rfl ?_
   refine st_ldBA hs rfl (.s .z) (.z (.c (.c (.c (.c (.c (.c (.c (.c (.c .n)))))))))) Try.isAgg54 Try.sizeOf54 rfl ?_; clear hs w a; intro a w hs
   refine st_guardT hs rfl rfl rfl ?_
   refine st_ldBA hs rfl (.s (.s (.s (.s (.s .z))))) (.z (.c (.c (.c (.c (.c (.c (.c (.c (.c .n)))))))))) Try.isAgg54 Try.sizeOf54 rfl ?_; clear hs w a; intro a w hs
   refine st_guardT hs rfl rfl rfl ?_
   refine st_eqF (xs := [.int .i64 (C.id), .int .i64 (C.p0), .int .i64 (C.p1), .int .i64 (C.p2), .int .i64 (C.v0), .int .i64 (C.v1), .int .i64 (C.v2), .int .u16 ((((C.a).toNat : Nat) : Int)), .int .u8 ((((C.g).toNat : Nat) : Int))]) (ys := [.int .i64 (A.id), .int .i64 (A.p0), .int .i64 (A.p1), .int .i64 (A.p2), .int .i64 (A.v0), .int .i64 (A.v1), .int .i64 (A.v2), .int .u16 ((((A.a).toNat : Nat) : Int)), .int .u8 ((((A.g).toNat : Nat) : Int))]) (ks := [.i .i64, .i .i64, .i .i64, .i .i64, .i .i64, .i .i64, .i .i64, .i .u16, .i .u8]) 6 hs rfl rfl (by kernel_rfl) (by kernel_rfl) (by kernel_rfl) (by decide) (.i (.i (.i (.i (.i (.i (.i (.i (.i .n))))))))) (.i (.i (.i (.i (.i (.i (.i (.i (.i .n))))))))) rfl ?_; clear hs w a; intro a w hs
   have hb_ : (eqCells [.int .i64 (C.id), .int .i64 (C.p0), .int .i64 (C.p1), .int .i64 (C.p2), .int .i64 (C.v0), .int .i64 (C.v1), .int .i64 (C.v2), .int .u16 ((((C.a).toNat : Nat) : Int)), .int .u8 ((((C.g).toNat : Nat) : Int))] [.int .i64 (A.id), .int .i64 (A.p0), .int .i64 (A.p1), .int .i64 (A.p2), .int .i64 (A.v0), .int .i64 (A.v1), .int .i64 (A.v2), .int .u16 ((((A.a).toNat : Nat) : Int)), .int .u8 ((((A.g).toNat : Nat) : Int))]) = true := entV_eq.2 (diff_same (by assumption)).symm
   rw [hb_] at hs; clear hb_
   refine st_pickT hs rfl rfl rfl ?_; clear hs w a; intro a w hs
   refine st_mv hs rfl rfl ?_; clear hs w a; intro a w hs
   refine st_guardT hs rfl rfl rfl ?_
   refine st_ldBA hs rfl (.s (.s (.s (.s (.s .z))))) (.z (.c (.c (.c (.c (.c (.c (.c (.c (.c .n)))))))))) Try.isAgg54 Try.sizeOf54 rfl ?_; clear hs w a; intro a w hs
   refine st_guardT hs rfl rfl rfl ?_
   refine st_ldBA hs rfl (.s (.s (.s .z))) (.z (.c (.c (.c (.c (.c (.c (.c (.c (.c .n)))))))))) Try.isAgg54 Try.sizeOf54 rfl ?_; clear hs w a; intro a w hs
   refine st_guardT hs rfl rfl rfl ?_
   refine st_eqF (xs := [.int .i64 (A.id), .int .i64 (A.p0), .int .i64 (A.p1), .int .i64 (A.p2), .int .i64 (A.v0), .int .i64 (A.v1), .int .i64 (A.v2), .int .u16 ((((A.a).toNat : Nat) : Int)), .int .u8 ((((A.g).toNat : Nat) : Int))]) (ys := [.int .i64 (C.id), .int .i64 (C.p0), .int .i64 (C.p1), .int .i64 (C.p2), .int .i64 (C.v0), .int .i64 (C.v1), .int .i64 (C.v2), .int .u16 ((((C.a).toNat : Nat) : Int)), .int .u8 ((((C.g).toNat : Nat) : Int))]) (ks := [.i .i64, .i .i64, .i .i64, .i .i64, .i .i64, .i .i64, .i .i64, .i .u16, .i .u8]) 6 hs rfl rfl (by kernel_rfl) (by kernel_rfl) (by kernel_rfl) (by decide) (.i (.i (.i (.i (.i (.i (.i (.i (.i .n))))))))) (.i (.i (.i (.i (.i (.i (.i (.i (.i .n))))))))) rfl ?_; clear hs w a; intro a w hs
   have hb_ : (eqCells [.int .i64 (A.id), .int .i64 (A.p0), .int .i64 (A.p1), .int .i64 (A.p2), .int .i64 (A.v0), .int .i64 (A.v1), .int .i64 (A.v2), .int .u16 ((((A.a).toNat : Nat) : Int)), .int .u8 ((((A.g).toNat : Nat) : Int))] [.int .i64 (C.id), .int .i64 (C.p0), .int .i64 (C.p1), .int .i64 (C.p2), .int .i64 (C.v0), .int .i64 (C.v1), .int .i64 (C.v2), .int .u16 ((((C.a).toNat : Nat) : Int)), .int .u8 ((((C.g).toNat : Nat) : Int))]) = true := entV_eq.2 (diff_same (by assumption))
   rw [hb_] at hs; clear hb_
   refine st_pickT hs rfl rfl rfl ?_; clear hs w a; intro a w hs
   refine st_as hs rfl rfl ?_; clear hs w a; intro a w hs
   refine wpList_nil ?_
   refine then_n (hK76 _ _ ?_)
   refine wp_ret ?_
   refine th_r ?_
   replace hs := hs.drop (.c (.s (.s (.s (.s (.s .z))))) (.c (.s (.s (.s (.s .z)))) (.c (.s (.s (.s .z))) (.c (.s (.s .z)) (.c (.s .z) (.c .z .n))))))
   exact fin hs rfl rfl ⟨rfl, rfl⟩
  replace hc74 := not_f hc74
  have hdm := diff_makes hAw hCw hAi hCi (.inl hCg) (by assumption)
  refine wp_skip ?_
  refine then_n (hK71 _ _ ?_)
  refine wp_seq_k fun K77 hK78 => ?_
  refine wp_region_lit ?_
  refine st_ldBA hs rfl (.s (.s (.s (.s (.s .z))))) (.z (.c (.c (.c (.c (.c (.c (.c (.c (.c .n)))))))))) Try.isAgg54 Try.sizeOf54 rfl ?_; clear hs w a; intro a w hs
  refine st_ldBA hs rfl .z (.z (.c (.c (.c (.c (.c (.c (.c (.c (.c .n)))))))))) Try.isAgg25 Try.sizeOf25 rfl ?_; clear hs w a; intro a w hs
  refine st_callP (v := .tuple #[.agg #[.int .i64 (((entApply A (((recDiff A C).1))).1).id), .int .i64 (((entApply A (((recDiff A C).1))).1).p0), .int .i64 (((entApply A (((recDiff A C).1))).1).p1), .int .i64 (((entApply A (((recDiff A C).1))).1).p2), .int .i64 (((entApply A (((recDiff A C).1))).1).v0), .int .i64 (((entApply A (((recDiff A C).1))).1).v1), .int .i64 (((entApply A (((recDiff A C).1))).1).v2), .int .u16 ((((((entApply A (((recDiff A C).1))).1).a).toNat : Nat) : Int)), .int .u8 ((((((entApply A (((recDiff A C).1))).1).g).toNat : Nat) : Int))], .int .i64 ((((entApply A (((recDiff A C).1))).2 : Nat) : Int))]) hs (.c rfl (.c rfl .n)) Try.call32 (apply_ok A (((recDiff A C).1)) _) rfl ?_; clear hs w a; intro a w hs
  refine st_mv hs rfl rfl ?_; clear hs w a; intro a w hs
  refine st_ex hs rfl .z rfl ?_; clear hs w a; intro a w hs
  refine st_ex hs rfl (.s .z) rfl ?_; clear hs w a; intro a w hs
  refine st_alloc (cs := [.int .i64 (0), .int .i64 (0), .int .i64 (0), .int .i64 (0), .int .i64 (0), .int .i64 (0), .int .i64 (0), .int .u16 (0), .int .u8 (0)]) hs Try.zeroValue54 rfl rfl ?_; clear hs w a; intro g79 a w hs
  refine st_stBA hs rfl rfl .z (.z (.c (.c (.c (.c (.c (.c (.c (.c (.c .n)))))))))) (ones_c rfl (ones_c rfl (ones_c rfl (ones_c rfl (ones_c rfl (ones_c rfl (ones_c rfl (ones_c rfl (ones_c rfl ones_n))))))))) Try.sizeOf54 rfl ?_; clear hs w a; intro a w hs
  refine st_as hs rfl rfl ?_; clear hs w a; intro a w hs
  refine wpList_nil ?_
  refine then_n (hK78 _ _ ?_)
  refine wp_seq_k fun K80 hK81 => ?_
  refine wp_region_lit ?_
  refine st_callP (v := .bool (true)) hs .n Try.call20 (alive08_ok _) rfl ?_; clear hs w a; intro a w hs
  refine st_mv hs rfl rfl ?_; clear hs w a; intro a w hs
  refine st_guardT hs rfl rfl rfl ?_
  refine st_mv hs rfl rfl ?_; clear hs w a; intro a w hs
  refine st_guardT hs rfl rfl rfl ?_
  refine st_eql hs rfl rfl rfl ?_; clear hs w a; intro a w hs
  have hb_ : (((((entApply A (((recDiff A C).1))).2 : Nat) : Int) : Int) == 0) = true := by rw [hdm.1]; rfl
  rw [hb_] at hs; clear hb_
  refine st_pickT hs rfl rfl rfl ?_; clear hs w a; intro a w hs
  refine st_mv hs rfl rfl ?_; clear hs w a; intro a w hs
  refine st_guardT hs rfl rfl rfl ?_
  refine st_ldBA hs rfl (.s (.s .z)) (.z (.c (.c (.c (.c (.c (.c (.c (.c (.c .n)))))))))) Try.isAgg54 Try.sizeOf54 rfl ?_; clear hs w a; intro a w hs
  refine st_guardT hs rfl rfl rfl ?_
  refine st_ldBA hs rfl .z (.z (.c (.c (.c (.c (.c (.c (.c (.c (.c .n)))))))))) Try.isAgg54 Try.sizeOf54 rfl ?_; clear hs w a; intro a w hs
  refine st_guardT hs rfl rfl rfl ?_
  refine st_eqF (xs := [.int .i64 (C.id), .int .i64 (C.p0), .int .i64 (C.p1), .int .i64 (C.p2), .int .i64 (C.v0), .int .i64 (C.v1), .int .i64 (C.v2), .int .u16 ((((C.a).toNat : Nat) : Int)), .int .u8 ((((C.g).toNat : Nat) : Int))]) (ys := [.int .i64 (((entApply A (((recDiff A C).1))).1).id), .int .i64 (((entApply A (((recDiff A C).1))).1).p0), .int .i64 (((entApply A (((recDiff A C).1))).1).p1), .int .i64 (((entApply A (((recDiff A C).1))).1).p2), .int .i64 (((entApply A (((recDiff A C).1))).1).v0), .int .i64 (((entApply A (((recDiff A C).1))).1).v1), .int .i64 (((entApply A (((recDiff A C).1))).1).v2), .int .u16 ((((((entApply A (((recDiff A C).1))).1).a).toNat : Nat) : Int)), .int .u8 ((((((entApply A (((recDiff A C).1))).1).g).toNat : Nat) : Int))]) (ks := [.i .i64, .i .i64, .i .i64, .i .i64, .i .i64, .i .i64, .i .i64, .i .u16, .i .u8]) 6 hs rfl rfl (by kernel_rfl) (by kernel_rfl) (by kernel_rfl) (by decide) (.i (.i (.i (.i (.i (.i (.i (.i (.i .n))))))))) (.i (.i (.i (.i (.i (.i (.i (.i (.i .n))))))))) rfl ?_; clear hs w a; intro a w hs
  have hb_ : (eqCells [.int .i64 (C.id), .int .i64 (C.p0), .int .i64 (C.p1), .int .i64 (C.p2), .int .i64 (C.v0), .int .i64 (C.v1), .int .i64 (C.v2), .int .u16 ((((C.a).toNat : Nat) : Int)), .int .u8 ((((C.g).toNat : Nat) : Int))] [.int .i64 (((entApply A (((recDiff A C).1))).1).id), .int .i64 (((entApply A (((recDiff A C).1))).1).p0), .int .i64 (((entApply A (((recDiff A C).1))).1).p1), .int .i64 (((entApply A (((recDiff A C).1))).1).p2), .int .i64 (((entApply A (((recDiff A C).1))).1).v0), .int .i64 (((entApply A (((recDiff A C).1))).1).v1), .int .i64 (((entApply A (((recDiff A C).1))).1).v2), .int .u16 ((((((entApply A (((recDiff A C).1))).1).a).toNat : Nat) : Int)), .int .u8 ((((((entApply A (((recDiff A C).1))).1).g).toNat : Nat) : Int))]) = true := by rw [hdm.1]; exact entV_refl C
  rw [hb_] at hs; clear hb_
  refine st_pickT hs rfl rfl rfl ?_; clear hs w a; intro a w hs
  refine st_mv hs rfl rfl ?_; clear hs w a; intro a w hs
  refine st_guardT hs rfl rfl rfl ?_
  refine st_ldBA hs rfl (.s (.s .z)) (.z (.c (.c (.c (.c (.c (.c (.c (.c (.c .n)))))))))) Try.isAgg54 Try.sizeOf54 rfl ?_; clear hs w a; intro a w hs
  refine st_guardT hs rfl rfl rfl ?_
  refine st_ldBA hs rfl (.s (.s (.s (.s .z)))) (.z (.c (.c (.c (.c (.c (.c (.c (.c (.c .n)))))))))) Try.isAgg54 Try.sizeOf54 rfl ?_; clear hs w a; intro a w hs
  refine st_guardT hs rfl rfl rfl ?_
  refine st_eqF (xs := [.int .i64 (C.id), .int .i64 (C.p0), .int .i64 (C.p1), .int .i64 (C.p2), .int .i64 (C.v0), .int .i64 (C.v1), .int .i64 (C.v2), .int .u16 ((((C.a).toNat : Nat) : Int)), .int .u8 ((((C.g).toNat : Nat) : Int))]) (ys := [.int .i64 (C.id), .int .i64 (C.p0), .int .i64 (C.p1), .int .i64 (C.p2), .int .i64 (C.v0), .int .i64 (C.v1), .int .i64 (C.v2), .int .u16 ((((C.a).toNat : Nat) : Int)), .int .u8 ((((C.g).toNat : Nat) : Int))]) (ks := [.i .i64, .i .i64, .i .i64, .i .i64, .i .i64, .i .i64, .i .i64, .i .u16, .i .u8]) 6 hs rfl rfl (by kernel_rfl) (by kernel_rfl) (by kernel_rfl) (by decide) (.i (.i (.i (.i (.i (.i (.i (.i (.i .n))))))))) (.i (.i (.i (.i (.i (.i (.i (.i (.i .n))))))))) rfl ?_; clear hs w a; intro a w hs
  have hb_ : (eqCells [.int .i64 (C.id), .int .i64 (C.p0), .int .i64 (C.p1), .int .i64 (C.p2), .int .i64 (C.v0), .int .i64 (C.v1), .int .i64 (C.v2), .int .u16 ((((C.a).toNat : Nat) : Int)), .int .u8 ((((C.g).toNat : Nat) : Int))] [.int .i64 (C.id), .int .i64 (C.p0), .int .i64 (C.p1), .int .i64 (C.p2), .int .i64 (C.v0), .int .i64 (C.v1), .int .i64 (C.v2), .int .u16 ((((C.a).toNat : Nat) : Int)), .int .u8 ((((C.g).toNat : Nat) : Int))]) = true := entV_refl C
  rw [hb_] at hs; clear hb_
  refine st_pickT hs rfl rfl rfl ?_; clear hs w a; intro a w hs
  refine st_as hs rfl rfl ?_; clear hs w a; intro a w hs
  refine wpList_nil ?_
  refine then_n (hK81 _ _ ?_)
  refine wp_ret ?_
  replace hs := hs.drop (.c (.s (.s (.s (.s (.s (.s .z)))))) (.c (.s (.s (.s (.s (.s .z))))) (.c (.s (.s (.s (.s .z)))) (.c (.s (.s (.s .z))) (.c (.s (.s .z)) (.c (.s .z) (.c .z .n)))))))
  exact fin hs rfl rfl ⟨rfl, rfl⟩
end Go.Proofs.Ytkobgcoegajfcaa
