/- Walks of RecordMakes: what each function does, over the program of this seat. Printed by a program of this session. -/
import Derived.Test.YtkobgcoegajfcaaWrec4
import Derived.Test.YtkobgcoegajfcaaWrec5
import Derived.Test.YtkobgcoegajfcaaSxRrec
namespace Go.Proofs.Ytkobgcoegajfcaa
open Go Go.Sx Go.RowKit
set_option linter.unusedVariables false
set_option linter.unusedSimpArgs false
set_option maxRecDepth 4000
set_option maxHeartbeats 1000000

theorem recordMakes_ok (ea eb : EntR) (j : Bool) (w0 : World) (ha : ea.wf) (hb : eb.wf) : Calls Try.prog 9 #[.agg #[.int .i64 (ea.id), .int .i64 (ea.p0), .int .i64 (ea.p1), .int .i64 (ea.p2), .int .i64 (ea.v0), .int .i64 (ea.v1), .int .i64 (ea.v2), .int .u16 ((((ea.a).toNat : Nat) : Int)), .int .u8 ((((ea.g).toNat : Nat) : Int))], .agg #[.int .i64 (eb.id), .int .i64 (eb.p0), .int .i64 (eb.p1), .int .i64 (eb.p2), .int .i64 (eb.v0), .int .i64 (eb.v1), .int .i64 (eb.v2), .int .u16 ((((eb.a).toNat : Nat) : Int)), .int .u8 ((((eb.g).toNat : Nat) : Int))], .bool j] w0 (RetV w0 (.bool true)) := by
  refine enter (F0 := [(0, .agg #[.int .i64 (ea.id), .int .i64 (ea.p0), .int .i64 (ea.p1), .int .i64 (ea.p2), .int .i64 (ea.v0), .int .i64 (ea.v1), .int .i64 (ea.v2), .int .u16 ((((ea.a).toNat : Nat) : Int)), .int .u8 ((((ea.g).toNat : Nat) : Int))]), (1, .agg #[.int .i64 (eb.id), .int .i64 (eb.p0), .int .i64 (eb.p1), .int .i64 (eb.p2), .int .i64 (eb.v0), .int .i64 (eb.v1), .int .i64 (eb.v2), .int .u16 ((((eb.a).toNat : Nat) : Int)), .int .u8 ((((eb.g).toNat : Nat) : Int))]), (2, .bool (j))]) Try.func9 rfl rfl rfl (.c (.c (.c .n))) (Mem.nil _) fun a w hs => ?_
  refine wp_seq_k fun K1 hK2 => ?_
  refine wp_region_lit ?_
  refine st_box (cs := [.int .i64 (ea.id), .int .i64 (ea.p0), .int .i64 (ea.p1), .int .i64 (ea.p2), .int .i64 (ea.v0), .int .i64 (ea.v1), .int .i64 (ea.v2), .int .u16 ((((ea.a).toNat : Nat) : Int)), .int .u8 ((((ea.g).toNat : Nat) : Int))]) hs rfl rfl rfl ?_; clear hs w a; intro g3 a w hs
  refine st_box (cs := [.int .i64 (eb.id), .int .i64 (eb.p0), .int .i64 (eb.p1), .int .i64 (eb.p2), .int .i64 (eb.v0), .int .i64 (eb.v1), .int .i64 (eb.v2), .int .u16 ((((eb.a).toNat : Nat) : Int)), .int .u8 ((((eb.g).toNat : Nat) : Int))]) hs rfl rfl rfl ?_; clear hs w a; intro g4 a w hs
  refine st_as hs rfl rfl ?_; clear hs w a; intro a w hs
  refine wpList_nil ?_
  refine then_n (hK2 _ _ ?_)
  refine wp_seq_k fun K5 hK6 => ?_
  refine wp_region_lit ?_
  refine st_fa hs rfl Try.underlying54 rfl Try.sizeOf3 (by decide) (o := 0) rfl rfl ?_; clear hs w a; intro a w hs
  refine st_ldB hs rfl (.s .z) .z Try.isAgg3 rfl ?_; clear hs w a; intro a w hs
  refine st_cv_u64 hs rfl Try.underlying3 Try.underlying62 rfl ?_; clear hs w a; intro a w hs
  refine st_rem_u64 (X := BitVec.ofInt 64 ea.id) (Y := 65536#64) hs rfl rfl rfl (by decide) (by decide) rfl ?_; clear hs w a; intro a w hs
  refine st_cv_u64_i64 (X := (BitVec.ofInt 64 ea.id) % (65536#64)) hs rfl rfl Try.underlying62 Try.underlying3 rfl ?_; clear hs w a; intro a w hs
  refine st_fa hs rfl Try.underlying54 rfl Try.sizeOf3 (by decide) (o := 0) rfl rfl ?_; clear hs w a; intro a w hs
  refine st_stB hs rfl rfl (.s .z) .z rfl Try.sizeOf3 ?_; clear hs w a; intro a w hs
  refine wpList_nil ?_
  refine then_n (hK6 _ _ ?_)
  refine wp_seq_k fun K7 hK8 => ?_
  replace hs := hs.sub (F' := [(6, .bool (false)), (4, .pointer (some ⟨g4, 0, none⟩)), (3, .pointer (some ⟨g3, 0, none⟩)), (2, .bool (j))]) (.c rfl (.c rfl (.c rfl (.c rfl .n))))
  refine wp_drawG (M0 := [blk g3 [.int .i64 (((BitVec.ofInt 64 ea.id) % (65536#64)).toInt), .int .i64 (ea.p0), .int .i64 (ea.p1), .int .i64 (ea.p2), .int .i64 (ea.v0), .int .i64 (ea.v1), .int .i64 (ea.v2), .int .u16 ((((ea.a).toNat : Nat) : Int)), .int .u8 ((((ea.g).toNat : Nat) : Int))] 54]) (Ds := [⟨[], [], [], fun vs9 => vs9 0 = .pointer (some ⟨g3, 0, none⟩), fun vs9 => []⟩, ⟨[], [], [], fun vs9 => vs9 1 = .int .i64 (((BitVec.ofInt 64 ea.id) % (65536#64)).toInt), fun vs9 => []⟩, ⟨[], [], [], fun vs9 => vs9 2 = .pointer (some ⟨g3, 8, none⟩), fun vs9 => []⟩, ⟨[], [], [], fun vs9 => vs9 3 = .int .u8 ((((ea.g).toNat : Nat) : Int)), fun vs9 => []⟩, ⟨[], [], [], fun vs9 => vs9 4 = .pointer (some ⟨g4, 0, none⟩), fun vs9 => []⟩, ⟨[blk g4 [.int .i64 (eb.id), .int .i64 (eb.p0), .int .i64 (eb.p1), .int .i64 (eb.p2), .int .i64 (eb.v0), .int .i64 (eb.v1), .int .i64 (eb.v2), .int .u16 ((((eb.a).toNat : Nat) : Int)), .int .u8 ((((eb.g).toNat : Nat) : Int))] 54], [], [], fun vs9 => True, fun vs9 => [blk g4 [.int .i64 (((BitVec.ofInt 64 ea.id) % (65536#64)).toInt), .int .i64 (eb.p0), .int .i64 (eb.p1), .int .i64 (eb.p2), .int .i64 (eb.v0), .int .i64 (eb.v1), .int .i64 (eb.v2), .int .u16 ((((eb.a).toNat : Nat) : Int)), .int .u8 ((((eb.g).toNat : Nat) : Int))] 54]⟩, ⟨[], [], [], fun vs9 => vs9 6 = .pointer (some ⟨g4, 8, none⟩), fun vs9 => []⟩, ⟨[], [5], [], fun vs9 => True, fun vs9 => [blk g4 [.int .i64 (((BitVec.ofInt 64 ea.id) % (65536#64)).toInt), .int .i64 (eb.p0), .int .i64 (eb.p1), .int .i64 (eb.p2), .int .i64 (eb.v0), .int .i64 (eb.v1), .int .i64 (eb.v2), .int .u16 ((((eb.a).toNat : Nat) : Int)), .int .u8 ((((ea.g).toNat : Nat) : Int))] 54]⟩]) (by kernel_rfl) hs rfl (.c (.s .z) .n) (by kernel_rfl) (by kernel_rfl) ?_ ?_
  ·
   refine (.c ?_ (.c ?_ (.c ?_ (.c ?_ (.c ?_ (.c ?_ (.c ?_ (.c ?_ .n))))))))
   ·
    intro a_ w_ R_ rest_ vs9 hm hs ht hx
    replace hs : St _ _ _ (feet []) [] _ _ := hs
    have hm0 := hm.mid
    have hs0 := hs.bare
    refine st_fa hs rfl Try.underlying54 rfl Try.sizeOf3 (by decide) (o := 0) rfl rfl ?_; clear hs; intro a w hs
    exact wpList_nil ⟨rfl, _, _, hs0, .r, hs, rfl⟩
   ·
    intro a_ w_ R_ rest_ vs9 hm hs ht hx
    replace hs : St _ _ _ (feet []) [] _ _ := hs
    have hm0 := hm.mid
    have t0 := ht 0 (twB_spec 8 _ (by kernel_rfl))
    have e0 : _ = some (vs9 0) := t0.val rfl
    rw [show vs9 0 = .pointer (some ⟨g3, 0, none⟩) from t0.2.1] at e0
    replace hs := hs.learn e0
    have hs0 := hs.bare
    refine st_ldE hs rfl (hm0.del .z) .z Try.isAgg3 rfl ?_; clear hs; intro a w hs
    exact wpList_nil ⟨rfl, _, _, hs0, (.c .r), hs, rfl⟩
   ·
    intro a_ w_ R_ rest_ vs9 hm hs ht hx
    replace hs : St _ _ _ (feet []) [] _ _ := hs
    have hm0 := hm.mid
    have hs0 := hs.bare
    refine st_fa hs rfl Try.underlying54 rfl Try.sizeOf5 (by decide) (o := 8) rfl rfl ?_; clear hs; intro a w hs
    exact wpList_nil ⟨rfl, _, _, hs0, .r, hs, rfl⟩
   ·
    intro a_ w_ R_ rest_ vs9 hm hs ht hx
    replace hs : St _ _ _ (feet []) [] _ _ := hs
    have hm0 := hm.mid
    have t2 := ht 2 (twB_spec 8 _ (by kernel_rfl))
    have e2 : _ = some (vs9 2) := t2.val rfl
    rw [show vs9 2 = .pointer (some ⟨g3, 8, none⟩) from t2.2.1] at e2
    replace hs := hs.learn e2
    have hs0 := hs.bare
    refine st_ldE hs rfl (hm0.del .z) (.s (.s (.s (.s (.s (.s (.s (.s .z)))))))) Try.isAgg5 rfl ?_; clear hs; intro a w hs
    exact wpList_nil ⟨rfl, _, _, hs0, (.c .r), hs, rfl⟩
   ·
    intro a_ w_ R_ rest_ vs9 hm hs ht hx
    replace hs : St _ _ _ (feet []) [] _ _ := hs
    have hm0 := hm.mid
    have hs0 := hs.bare
    refine st_fa hs rfl Try.underlying54 rfl Try.sizeOf3 (by decide) (o := 0) rfl rfl ?_; clear hs; intro a w hs
    exact wpList_nil ⟨rfl, _, _, hs0, .r, hs, rfl⟩
   ·
    intro a_ w_ R_ rest_ vs9 hm hs ht hx
    replace hs : St _ _ _ (feet [blk g4 [.int .i64 (eb.id), .int .i64 (eb.p0), .int .i64 (eb.p1), .int .i64 (eb.p2), .int .i64 (eb.v0), .int .i64 (eb.v1), .int .i64 (eb.v2), .int .u16 ((((eb.a).toNat : Nat) : Int)), .int .u8 ((((eb.g).toNat : Nat) : Int))] 54]) [blk g4 [.int .i64 (eb.id), .int .i64 (eb.p0), .int .i64 (eb.p1), .int .i64 (eb.p2), .int .i64 (eb.v0), .int .i64 (eb.v1), .int .i64 (eb.v2), .int .u16 ((((eb.a).toNat : Nat) : Int)), .int .u8 ((((eb.g).toNat : Nat) : Int))] 54] _ _ := hs
    have hm0 := hm.mid
    have t1 := ht 1 (twB_spec 8 _ (by kernel_rfl))
    have e1 : _ = some (vs9 1) := t1.val rfl
    rw [show vs9 1 = .int .i64 (((BitVec.ofInt 64 ea.id) % (65536#64)).toInt) from t1.2.1] at e1
    replace hs := hs.learn e1
    have t4 := ht 4 (twB_spec 8 _ (by kernel_rfl))
    have e4 : _ = some (vs9 4) := t4.val rfl
    rw [show vs9 4 = .pointer (some ⟨g4, 0, none⟩) from t4.2.1] at e4
    replace hs := hs.learn e4
    have hs0 := hs.bare
    refine st_stB hs rfl rfl .z .z rfl Try.sizeOf3 ?_; clear hs; intro a w hs
    exact wpList_nil ⟨rfl, .tuple #[], _, hs0, (.c (.c .r)), hs, trivial⟩
   ·
    intro a_ w_ R_ rest_ vs9 hm hs ht hx
    replace hs : St _ _ _ (feet []) [] _ _ := hs
    have hm0 := hm.mid
    have hs0 := hs.bare
    refine st_fa hs rfl Try.underlying54 rfl Try.sizeOf5 (by decide) (o := 8) rfl rfl ?_; clear hs; intro a w hs
    exact wpList_nil ⟨rfl, _, _, hs0, .r, hs, rfl⟩
   intro a_ w_ R_ rest_ vs9 hm hs ht hx
   replace hs : St _ _ _ (feet [blk g4 [.int .i64 (((BitVec.ofInt 64 ea.id) % (65536#64)).toInt), .int .i64 (eb.p0), .int .i64 (eb.p1), .int .i64 (eb.p2), .int .i64 (eb.v0), .int .i64 (eb.v1), .int .i64 (eb.v2), .int .u16 ((((eb.a).toNat : Nat) : Int)), .int .u8 ((((eb.g).toNat : Nat) : Int))] 54]) [blk g4 [.int .i64 (((BitVec.ofInt 64 ea.id) % (65536#64)).toInt), .int .i64 (eb.p0), .int .i64 (eb.p1), .int .i64 (eb.p2), .int .i64 (eb.v0), .int .i64 (eb.v1), .int .i64 (eb.v2), .int .u16 ((((eb.a).toNat : Nat) : Int)), .int .u8 ((((eb.g).toNat : Nat) : Int))] 54] _ _ := hs
   have hm0 := hm.mid
   have t3 := ht 3 (twB_spec 8 _ (by kernel_rfl))
   have e3 : _ = some (vs9 3) := t3.val rfl
   rw [show vs9 3 = .int .u8 ((((ea.g).toNat : Nat) : Int)) from t3.2.1] at e3
   replace hs := hs.learn e3
   have t6 := ht 6 (twB_spec 8 _ (by kernel_rfl))
   have e6 : _ = some (vs9 6) := t6.val rfl
   rw [show vs9 6 = .pointer (some ⟨g4, 8, none⟩) from t6.2.1] at e6
   replace hs := hs.learn e6
   have t5 := ht 5 (twB_spec 8 _ (by kernel_rfl))
   have hs0 := hs.bare
   refine st_stB hs rfl rfl .z (.s (.s (.s (.s (.s (.s (.s (.s .z)))))))) rfl Try.sizeOf5 ?_; clear hs; intro a w hs
   exact wpList_nil ⟨rfl, .tuple #[], _, hs0, (.c (.c .r)), hs, trivial⟩
  clear hs w a; intro a w vs9 hs hf
  replace hs : St _ _ _ _ [blk g3 [.int .i64 (((BitVec.ofInt 64 ea.id) % (65536#64)).toInt), .int .i64 (ea.p0), .int .i64 (ea.p1), .int .i64 (ea.p2), .int .i64 (ea.v0), .int .i64 (ea.v1), .int .i64 (ea.v2), .int .u16 ((((ea.a).toNat : Nat) : Int)), .int .u8 ((((ea.g).toNat : Nat) : Int))] 54, blk g4 [.int .i64 (((BitVec.ofInt 64 ea.id) % (65536#64)).toInt), .int .i64 (eb.p0), .int .i64 (eb.p1), .int .i64 (eb.p2), .int .i64 (eb.v0), .int .i64 (eb.v1), .int .i64 (eb.v2), .int .u16 ((((eb.a).toNat : Nat) : Int)), .int .u8 ((((ea.g).toNat : Nat) : Int))] 54] _ _ := hs
  clear hf
  refine then_n (hK8 _ _ ?_)
  refine wp_seq_k fun K10 hK11 => ?_
  refine wp_seq_k fun K12 hK13 => ?_
  refine wp_region_lit ?_
  refine st_mv hs rfl rfl ?_; clear hs w a; intro a w hs
  refine wpList_nil ?_
  refine then_n (hK13 _ _ ?_)
  refine wp_if hs rfl (fun hc14 => ?_) (fun hc14 => ?_)
  ·
   rw [hc14] at hs
   refine wp_region_lit ?_
   refine st_fa hs rfl Try.underlying54 rfl Try.sizeOf5 (by decide) (o := 8) rfl rfl ?_; clear hs w a; intro a w hs
   refine st_ldB hs rfl (.s .z) (.s (.s (.s (.s (.s (.s (.s (.s .z)))))))) Try.isAgg5 rfl ?_; clear hs w a; intro a w hs
   refine st_add_u8 (X := ea.g) (Y := 1#8) hs rfl rfl rfl (by decide) rfl ?_; clear hs w a; intro a w hs
   refine st_fa hs rfl Try.underlying54 rfl Try.sizeOf5 (by decide) (o := 8) rfl rfl ?_; clear hs w a; intro a w hs
   refine st_stB hs rfl rfl (.s .z) (.s (.s (.s (.s (.s (.s (.s (.s .z)))))))) rfl Try.sizeOf5 ?_; clear hs w a; intro a w hs
   refine wpList_nil ?_
   refine then_n (hK11 _ _ ?_)
   refine wp_seq_k fun K15 hK16 => ?_
   refine wp_region_lit ?_
   refine st_ldBA hs rfl (.s .z) (.z (.c (.c (.c (.c (.c (.c (.c (.c (.c .n)))))))))) Try.isAgg54 Try.sizeOf54 rfl ?_; clear hs w a; intro a w hs
   obtain ⟨A, hA⟩ : ∃ A : EntR, A = (⟨((BitVec.ofInt 64 ea.id) % (65536#64)).toInt, ea.p0, ea.p1, ea.p2, ea.v0, ea.v1, ea.v2, ea.a, ea.g⟩ : EntR) := ⟨_, rfl⟩
   replace hs := hs.reblk (.s .z) (cs' := [.int .i64 (A.id), .int .i64 (A.p0), .int .i64 (A.p1), .int .i64 (A.p2), .int .i64 (A.v0), .int .i64 (A.v1), .int .i64 (A.v2), .int .u16 ((((A.a).toNat : Nat) : Int)), .int .u8 ((((A.g).toNat : Nat) : Int))]) (by rw [hA])
   replace hs := hs.recell (v' := .agg #[.int .i64 (A.id), .int .i64 (A.p0), .int .i64 (A.p1), .int .i64 (A.p2), .int .i64 (A.v0), .int .i64 (A.v1), .int .i64 (A.v2), .int .u16 ((((A.a).toNat : Nat) : Int)), .int .u8 ((((A.g).toNat : Nat) : Int))]) (Option.some.inj (congrArg some (by rw [hA])))
   have hAw : A.wf := by rw [hA]; exact ⟨(by have := idm_rng ea.id; unfold idm at this; dsimp only; omega), ha.p0, ha.p1, ha.p2, ha.v0, ha.v1, ha.v2⟩
   have hAi : 0 ≤ A.id ∧ A.id ≤ 65535 := by rw [hA]; exact idm_rng ea.id
   refine st_ldBA hs rfl (.s .z) (.z (.c (.c (.c (.c (.c (.c (.c (.c (.c .n)))))))))) Try.isAgg54 Try.sizeOf54 rfl ?_; clear hs w a; intro a w hs
   obtain ⟨B, hB⟩ : ∃ B : EntR, B = (⟨((BitVec.ofInt 64 ea.id) % (65536#64)).toInt, eb.p0, eb.p1, eb.p2, eb.v0, eb.v1, eb.v2, eb.a, ea.g + (1#8)⟩ : EntR) := ⟨_, rfl⟩
   replace hs := hs.reblk (.s .z) (cs' := [.int .i64 (B.id), .int .i64 (B.p0), .int .i64 (B.p1), .int .i64 (B.p2), .int .i64 (B.v0), .int .i64 (B.v1), .int .i64 (B.v2), .int .u16 ((((B.a).toNat : Nat) : Int)), .int .u8 ((((B.g).toNat : Nat) : Int))]) (by rw [hB])
   replace hs := hs.recell (v' := .agg #[.int .i64 (B.id), .int .i64 (B.p0), .int .i64 (B.p1), .int .i64 (B.p2), .int .i64 (B.v0), .int .i64 (B.v1), .int .i64 (B.v2), .int .u16 ((((B.a).toNat : Nat) : Int)), .int .u8 ((((B.g).toNat : Nat) : Int))]) (Option.some.inj (congrArg some (by rw [hB])))
   have hBw : B.wf := by rw [hB]; exact ⟨(by have := idm_rng ea.id; unfold idm at this; dsimp only; omega), hb.p0, hb.p1, hb.p2, hb.v0, hb.v1, hb.v2⟩
   have hBi : B.id = A.id := by rw [hB, hA]
   have hBg : B.g = A.g ∨ B.g = A.g + 1#8 := by rw [hB, hA]; first | exact .inl rfl | exact .inr rfl
   refine st_callP (v := .tuple #[.agg #[.int .i64 (((recDiff A B).1).k), .int .i64 (((recDiff A B).1).id), .int .i64 (((recDiff A B).1).p0), .int .i64 (((recDiff A B).1).p1), .int .i64 (((recDiff A B).1).p2), .int .i64 (((recDiff A B).1).v0), .int .i64 (((recDiff A B).1).v1), .int .i64 (((recDiff A B).1).v2), .int .u16 ((((((recDiff A B).1).a).toNat : Nat) : Int))], .bool ((recDiff A B).2)]) hs (.c rfl (.c rfl .n)) Try.call30 (diff_ok A B _) rfl ?_; clear hs w a; intro a w hs
   refine st_mv hs rfl rfl ?_; clear hs w a; intro a w hs
   refine st_ex hs rfl .z rfl ?_; clear hs w a; intro a w hs
   refine st_ex hs rfl (.s .z) rfl ?_; clear hs w a; intro a w hs
   refine st_alloc (cs := [.int .i64 (0), .int .i64 (0), .int .i64 (0), .int .i64 (0), .int .i64 (0), .int .i64 (0), .int .i64 (0), .int .i64 (0), .int .u16 (0)]) hs Try.zeroValue25 rfl rfl ?_; clear hs w a; intro g17 a w hs
   refine st_stBA hs rfl rfl .z (.z (.c (.c (.c (.c (.c (.c (.c (.c (.c .n)))))))))) (ones_c rfl (ones_c rfl (ones_c rfl (ones_c rfl (ones_c rfl (ones_c rfl (ones_c rfl (ones_c rfl (ones_c rfl ones_n))))))))) Try.sizeOf25 rfl ?_; clear hs w a; intro a w hs
   refine st_as hs rfl rfl ?_; clear hs w a; intro a w hs
   refine wpList_nil ?_
   refine then_n (hK16 _ _ ?_)
   refine wp_seq_k fun K18 hK19 => ?_
   refine wp_seq_k fun K20 hK21 => ?_
   refine wp_region_lit ?_
   refine st_mv hs rfl rfl ?_; clear hs w a; intro a w hs
   refine st_not hs rfl rfl ?_; clear hs w a; intro a w hs
   refine wpList_nil ?_
   refine then_n (hK21 _ _ ?_)
   refine wp_if hs rfl (fun hc22 => ?_) (fun hc22 => ?_)
   ·
    replace hc22 := not_t hc22
    refine wp_seq_k fun K23 hK24 => ?_
    refine wp_region_lit ?_
    refine st_callP (v := .bool (true)) hs .n Try.call20 (alive08_ok _) rfl ?_; clear hs w a; intro a w hs
    refine st_mv hs rfl rfl ?_; clear hs w a; intro a w hs
    refine st_guardT hs rfl rfl rfl ?_
    refine st_ldBA hs rfl (.s (.s .z)) (.z (.c (.c (.c (.c (.c (.c (.c (.c (.c .n)))))))))) Try.isAgg54 Try.sizeOf54 rfl ?_; clear hs w a; intro a w hs
    refine st_guardT hs rfl rfl rfl ?_
    refine st_ldBA hs rfl (.s .z) (.z (.c (.c (.c (.c (.c (.c (.c (.c (.c .n)))))))))) Try.isAgg54 Try.sizeOf54 rfl ?_; clear hs w a; intro a w hs
    refine st_guardT hs rfl rfl rfl ?_
    refine st_eqF (xs := [.int .i64 (A.id), .int .i64 (A.p0), .int .i64 (A.p1), .int .i64 (A.p2), .int .i64 (A.v0), .int .i64 (A.v1), .int .i64 (A.v2), .int .u16 ((((A.a).toNat : Nat) : Int)), .int .u8 ((((A.g).toNat : Nat) : Int))]) (ys := [.int .i64 (B.id), .int .i64 (B.p0), .int .i64 (B.p1), .int .i64 (B.p2), .int .i64 (B.v0), .int .i64 (B.v1), .int .i64 (B.v2), .int .u16 ((((B.a).toNat : Nat) : Int)), .int .u8 ((((B.g).toNat : Nat) : Int))]) (ks := [.i .i64, .i .i64, .i .i64, .i .i64, .i .i64, .i .i64, .i .i64, .i .u16, .i .u8]) 6 hs rfl rfl (by kernel_rfl) (by kernel_rfl) (by kernel_rfl) (by decide) (.i (.i (.i (.i (.i (.i (.i (.i (.i .n))))))))) (.i (.i (.i (.i (.i (.i (.i (.i (.i .n))))))))) rfl ?_; clear hs w a; intro a w hs
    have hb_ : (eqCells [.int .i64 (A.id), .int .i64 (A.p0), .int .i64 (A.p1), .int .i64 (A.p2), .int .i64 (A.v0), .int .i64 (A.v1), .int .i64 (A.v2), .int .u16 ((((A.a).toNat : Nat) : Int)), .int .u8 ((((A.g).toNat : Nat) : Int))] [.int .i64 (B.id), .int .i64 (B.p0), .int .i64 (B.p1), .int .i64 (B.p2), .int .i64 (B.v0), .int .i64 (B.v1), .int .i64 (B.v2), .int .u16 ((((B.a).toNat : Nat) : Int)), .int .u8 ((((B.g).toNat : Nat) : Int))]) = true := entV_eq.2 (diff_same (by assumption))
    rw [hb_] at hs; clear hb_
    refine st_pickT hs rfl rfl rfl ?_; clear hs w a; intro a w hs
    refine st_as hs rfl rfl ?_; clear hs w a; intro a w hs
    refine wpList_nil ?_
    refine then_n (hK24 _ _ ?_)
    refine wp_ret ?_
    refine th_r ?_
    replace hs := hs.drop (.c (.s (.s .z)) (.c (.s .z) (.c .z .n)))
    exact fin hs rfl rfl ⟨rfl, rfl⟩
   replace hc22 := not_f hc22
   have hdm := diff_makes hAw hBw hAi hBi hBg (by assumption)
   have hk3 : (recDiff A B).1.k = 3 := hdm.2.2.2.1.2 (by rw [hB, hA]; exact gen_next _)
   refine wp_skip ?_
   refine then_n (hK19 _ _ ?_)
   refine wp_seq_k fun K25 hK26 => ?_
   refine wp_region_lit ?_
   refine st_ldBA hs rfl (.s (.s .z)) (.z (.c (.c (.c (.c (.c (.c (.c (.c (.c .n)))))))))) Try.isAgg54 Try.sizeOf54 rfl ?_; clear hs w a; intro a w hs
   refine st_ldBA hs rfl .z (.z (.c (.c (.c (.c (.c (.c (.c (.c (.c .n)))))))))) Try.isAgg25 Try.sizeOf25 rfl ?_; clear hs w a; intro a w hs
   refine st_callP (v := .tuple #[.agg #[.int .i64 (((entApply A (((recDiff A B).1))).1).id), .int .i64 (((entApply A (((recDiff A B).1))).1).p0), .int .i64 (((entApply A (((recDiff A B).1))).1).p1), .int .i64 (((entApply A (((recDiff A B).1))).1).p2), .int .i64 (((entApply A (((recDiff A B).1))).1).v0), .int .i64 (((entApply A (((recDiff A B).1))).1).v1), .int .i64 (((entApply A (((recDiff A B).1))).1).v2), .int .u16 ((((((entApply A (((recDiff A B).1))).1).a).toNat : Nat) : Int)), .int .u8 ((((((entApply A (((recDiff A B).1))).1).g).toNat : Nat) : Int))], .int .i64 ((((entApply A (((recDiff A B).1))).2 : Nat) : Int))]) hs (.c rfl (.c rfl .n)) Try.call32 (apply_ok A (((recDiff A B).1)) _) rfl ?_; clear hs w a; intro a w hs
   refine st_mv hs rfl rfl ?_; clear hs w a; intro a w hs
   refine st_ex hs rfl .z rfl ?_; clear hs w a; intro a w hs
   refine st_ex hs rfl (.s .z) rfl ?_; clear hs w a; intro a w hs
   refine st_alloc (cs := [.int .i64 (0), .int .i64 (0), .int .i64 (0), .int .i64 (0), .int .i64 (0), .int .i64 (0), .int .i64 (0), .int .u16 (0), .int .u8 (0)]) hs Try.zeroValue54 rfl rfl ?_; clear hs w a; intro g27 a w hs
   refine st_stBA hs rfl rfl .z (.z (.c (.c (.c (.c (.c (.c (.c (.c (.c .n)))))))))) (ones_c rfl (ones_c rfl (ones_c rfl (ones_c rfl (ones_c rfl (ones_c rfl (ones_c rfl (ones_c rfl (ones_c rfl ones_n))))))))) Try.sizeOf54 rfl ?_; clear hs w a; intro a w hs
   refine st_as hs rfl rfl ?_; clear hs w a; intro a w hs
   refine wpList_nil ?_
   refine then_n (hK26 _ _ ?_)
   refine wp_seq_k fun K28 hK29 => ?_
   refine wp_region_lit ?_
   refine st_callP (v := .bool (true)) hs .n Try.call20 (alive08_ok _) rfl ?_; clear hs w a; intro a w hs
   refine st_mv hs rfl rfl ?_; clear hs w a; intro a w hs
   refine st_guardT hs rfl rfl rfl ?_
   refine st_ldBA hs rfl (.s (.s (.s .z))) (.z (.c (.c (.c (.c (.c (.c (.c (.c (.c .n)))))))))) Try.isAgg54 Try.sizeOf54 rfl ?_; clear hs w a; intro a w hs
   refine st_guardT hs rfl rfl rfl ?_
   refine st_ldBA hs rfl (.s (.s .z)) (.z (.c (.c (.c (.c (.c (.c (.c (.c (.c .n)))))))))) Try.isAgg54 Try.sizeOf54 rfl ?_; clear hs w a; intro a w hs
   refine st_guardT hs rfl rfl rfl ?_
   refine st_neqF (xs := [.int .i64 (A.id), .int .i64 (A.p0), .int .i64 (A.p1), .int .i64 (A.p2), .int .i64 (A.v0), .int .i64 (A.v1), .int .i64 (A.v2), .int .u16 ((((A.a).toNat : Nat) : Int)), .int .u8 ((((A.g).toNat : Nat) : Int))]) (ys := [.int .i64 (B.id), .int .i64 (B.p0), .int .i64 (B.p1), .int .i64 (B.p2), .int .i64 (B.v0), .int .i64 (B.v1), .int .i64 (B.v2), .int .u16 ((((B.a).toNat : Nat) : Int)), .int .u8 ((((B.g).toNat : Nat) : Int))]) (ks := [.i .i64, .i .i64, .i .i64, .i .i64, .i .i64, .i .i64, .i .i64, .i .u16, .i .u8]) 6 hs rfl rfl (by kernel_rfl) (by kernel_rfl) (by kernel_rfl) (by decide) (.i (.i (.i (.i (.i (.i (.i (.i (.i .n))))))))) (.i (.i (.i (.i (.i (.i (.i (.i (.i .n))))))))) rfl ?_; clear hs w a; intro a w hs
   have hb_ : (!(eqCells [.int .i64 (A.id), .int .i64 (A.p0), .int .i64 (A.p1), .int .i64 (A.p2), .int .i64 (A.v0), .int .i64 (A.v1), .int .i64 (A.v2), .int .u16 ((((A.a).toNat : Nat) : Int)), .int .u8 ((((A.g).toNat : Nat) : Int))] [.int .i64 (B.id), .int .i64 (B.p0), .int .i64 (B.p1), .int .i64 (B.p2), .int .i64 (B.v0), .int .i64 (B.v1), .int .i64 (B.v2), .int .u16 ((((B.a).toNat : Nat) : Int)), .int .u8 ((((B.g).toNat : Nat) : Int))])) = true := by rw [Bool.not_eq_true']; exact hdm.2.2.1
   rw [hb_] at hs; clear hb_
   refine st_pickT hs rfl rfl rfl ?_; clear hs w a; intro a w hs
   refine st_mv hs rfl rfl ?_; clear hs w a; intro a w hs
   refine st_guardT hs rfl rfl rfl ?_
   refine st_mv hs rfl rfl ?_; clear hs w a; intro a w hs
   refine st_guardT hs rfl rfl rfl ?_
   refine st_eql hs rfl rfl rfl ?_; clear hs w a; intro a w hs
   have hb_ : (((((entApply A (((recDiff A B).1))).2 : Nat) : Int) : Int) == 0) = true := by rw [hdm.1]; rfl
   rw [hb_] at hs; clear hb_
   refine st_pickT hs rfl rfl rfl ?_; clear hs w a; intro a w hs
   refine st_mv hs rfl rfl ?_; clear hs w a; intro a w hs
   refine st_guardT hs rfl rfl rfl ?_
   refine st_ldBA hs rfl .z (.z (.c (.c (.c (.c (.c (.c (.c (.c (.c .n)))))))))) Try.isAgg54 Try.sizeOf54 rfl ?_; clear hs w a; intro a w hs
   refine st_guardT hs rfl rfl rfl ?_
   refine st_ldBA hs rfl (.s (.s .z)) (.z (.c (.c (.c (.c (.c (.c (.c (.c (.c .n)))))))))) Try.isAgg54 Try.sizeOf54 rfl ?_; clear hs w a; intro a w hs
   refine st_guardT hs rfl rfl rfl ?_
   refine st_eqF (xs := [.int .i64 (((entApply A (((recDiff A B).1))).1).id), .int .i64 (((entApply A (((recDiff A B).1))).1).p0), .int .i64 (((entApply A (((recDiff A B).1))).1).p1), .int .i64 (((entApply A (((recDiff A B).1))).1).p2), .int .i64 (((entApply A (((recDiff A B).1))).1).v0), .int .i64 (((entApply A (((recDiff A B).1))).1).v1), .int .i64 (((entApply A (((recDiff A B).1))).1).v2), .int .u16 ((((((entApply A (((recDiff A B).1))).1).a).toNat : Nat) : Int)), .int .u8 ((((((entApply A (((recDiff A B).1))).1).g).toNat : Nat) : Int))]) (ys := [.int .i64 (B.id), .int .i64 (B.p0), .int .i64 (B.p1), .int .i64 (B.p2), .int .i64 (B.v0), .int .i64 (B.v1), .int .i64 (B.v2), .int .u16 ((((B.a).toNat : Nat) : Int)), .int .u8 ((((B.g).toNat : Nat) : Int))]) (ks := [.i .i64, .i .i64, .i .i64, .i .i64, .i .i64, .i .i64, .i .i64, .i .u16, .i .u8]) 6 hs rfl rfl (by kernel_rfl) (by kernel_rfl) (by kernel_rfl) (by decide) (.i (.i (.i (.i (.i (.i (.i (.i (.i .n))))))))) (.i (.i (.i (.i (.i (.i (.i (.i (.i .n))))))))) rfl ?_; clear hs w a; intro a w hs
   have hb_ : (eqCells [.int .i64 (((entApply A (((recDiff A B).1))).1).id), .int .i64 (((entApply A (((recDiff A B).1))).1).p0), .int .i64 (((entApply A (((recDiff A B).1))).1).p1), .int .i64 (((entApply A (((recDiff A B).1))).1).p2), .int .i64 (((entApply A (((recDiff A B).1))).1).v0), .int .i64 (((entApply A (((recDiff A B).1))).1).v1), .int .i64 (((entApply A (((recDiff A B).1))).1).v2), .int .u16 ((((((entApply A (((recDiff A B).1))).1).a).toNat : Nat) : Int)), .int .u8 ((((((entApply A (((recDiff A B).1))).1).g).toNat : Nat) : Int))] [.int .i64 (B.id), .int .i64 (B.p0), .int .i64 (B.p1), .int .i64 (B.p2), .int .i64 (B.v0), .int .i64 (B.v1), .int .i64 (B.v2), .int .u16 ((((B.a).toNat : Nat) : Int)), .int .u8 ((((B.g).toNat : Nat) : Int))]) = true := by rw [hdm.1]; exact entV_refl B
   rw [hb_] at hs; clear hb_
   refine st_pickT hs rfl rfl rfl ?_; clear hs w a; intro a w hs
   refine st_mv hs rfl rfl ?_; clear hs w a; intro a w hs
   refine st_guardT hs rfl rfl rfl ?_
   refine st_ldBA hs rfl (.s .z) (.z (.c (.c (.c (.c (.c (.c (.c (.c (.c .n)))))))))) Try.isAgg25 Try.sizeOf25 rfl ?_; clear hs w a; intro a w hs
   refine st_guardT hs rfl rfl rfl ?_
   refine st_callP (v := .int .i64 (((recChk (((recDiff A B).1)) : Nat) : Int))) hs (.c rfl .n) Try.call21 (chk_ok (((recDiff A B).1)) _) rfl ?_; clear hs w a; intro a w hs
   refine st_guardT hs rfl rfl rfl ?_
   refine st_eql hs rfl rfl rfl ?_; clear hs w a; intro a w hs
   have hb_ : ((((recChk (((recDiff A B).1)) : Nat) : Int) : Int) == 0) = true := by rw [hdm.2.1]; rfl
   rw [hb_] at hs; clear hb_
   refine st_pickT hs rfl rfl rfl ?_; clear hs w a; intro a w hs
   refine st_mv hs rfl rfl ?_; clear hs w a; intro a w hs
   refine st_guardT hs rfl rfl rfl ?_
   refine st_fa hs rfl Try.underlying25 rfl Try.sizeOf3 (by decide) (o := 0) rfl rfl ?_; clear hs w a; intro a w hs
   refine st_guardT hs rfl rfl rfl ?_
   refine st_ldB hs rfl (.s .z) .z Try.isAgg3 rfl ?_; clear hs w a; intro a w hs
   refine st_guardT hs rfl rfl rfl ?_
   refine st_eql hs rfl rfl rfl ?_; clear hs w a; intro a w hs
   refine st_guardT hs rfl rfl rfl ?_
   refine st_mv hs rfl rfl ?_; clear hs w a; intro a w hs
   refine st_guardT hs rfl rfl rfl ?_
   refine st_eqb hs rfl rfl Try.underlying4 rfl ?_; clear hs w a; intro a w hs
   have hb_ : (((((recDiff A B).1).k : Int) == 3 : Bool) == true) = true := by first | (rw [beq_eq_false_iff_ne.2 hk3]; rfl) | (rw [hk3]; rfl)
   rw [hb_] at hs; clear hb_
   refine st_pickT hs rfl rfl rfl ?_; clear hs w a; intro a w hs
   refine st_as hs rfl rfl ?_; clear hs w a; intro a w hs
   refine wpList_nil ?_
   refine then_n (hK29 _ _ ?_)
   refine wp_ret ?_
   replace hs := hs.drop (.c (.s (.s (.s .z))) (.c (.s (.s .z)) (.c (.s .z) (.c .z .n))))
   exact fin hs rfl rfl ⟨rfl, rfl⟩
  rw [hc14] at hs
  refine wp_skip ?_
  refine then_n (hK11 _ _ ?_)
  refine wp_seq_k fun K30 hK31 => ?_
  refine wp_region_lit ?_
  refine st_ldBA hs rfl .z (.z (.c (.c (.c (.c (.c (.c (.c (.c (.c .n)))))))))) Try.isAgg54 Try.sizeOf54 rfl ?_; clear hs w a; intro a w hs
  obtain ⟨A, hA⟩ : ∃ A : EntR, A = (⟨((BitVec.ofInt 64 ea.id) % (65536#64)).toInt, ea.p0, ea.p1, ea.p2, ea.v0, ea.v1, ea.v2, ea.a, ea.g⟩ : EntR) := ⟨_, rfl⟩
  replace hs := hs.reblk .z (cs' := [.int .i64 (A.id), .int .i64 (A.p0), .int .i64 (A.p1), .int .i64 (A.p2), .int .i64 (A.v0), .int .i64 (A.v1), .int .i64 (A.v2), .int .u16 ((((A.a).toNat : Nat) : Int)), .int .u8 ((((A.g).toNat : Nat) : Int))]) (by rw [hA])
  replace hs := hs.recell (v' := .agg #[.int .i64 (A.id), .int .i64 (A.p0), .int .i64 (A.p1), .int .i64 (A.p2), .int .i64 (A.v0), .int .i64 (A.v1), .int .i64 (A.v2), .int .u16 ((((A.a).toNat : Nat) : Int)), .int .u8 ((((A.g).toNat : Nat) : Int))]) (Option.some.inj (congrArg some (by rw [hA])))
  have hAw : A.wf := by rw [hA]; exact ⟨(by have := idm_rng ea.id; unfold idm at this; dsimp only; omega), ha.p0, ha.p1, ha.p2, ha.v0, ha.v1, ha.v2⟩
  have hAi : 0 ≤ A.id ∧ A.id ≤ 65535 := by rw [hA]; exact idm_rng ea.id
  refine st_ldBA hs rfl (.s .z) (.z (.c (.c (.c (.c (.c (.c (.c (.c (.c .n)))))))))) Try.isAgg54 Try.sizeOf54 rfl ?_; clear hs w a; intro a w hs
  obtain ⟨B, hB⟩ : ∃ B : EntR, B = (⟨((BitVec.ofInt 64 ea.id) % (65536#64)).toInt, eb.p0, eb.p1, eb.p2, eb.v0, eb.v1, eb.v2, eb.a, ea.g⟩ : EntR) := ⟨_, rfl⟩
  replace hs := hs.reblk (.s .z) (cs' := [.int .i64 (B.id), .int .i64 (B.p0), .int .i64 (B.p1), .int .i64 (B.p2), .int .i64 (B.v0), .int .i64 (B.v1), .int .i64 (B.v2), .int .u16 ((((B.a).toNat : Nat) : Int)), .int .u8 ((((B.g).toNat : Nat) : Int))]) (by rw [hB])
  replace hs := hs.recell (v' := .agg #[.int .i64 (B.id), .int .i64 (B.p0), .int .i64 (B.p1), .int .i64 (B.p2), .int .i64 (B.v0), .int .i64 (B.v1), .int .i64 (B.v2), .int .u16 ((((B.a).toNat : Nat) : Int)), .int .u8 ((((B.g).toNat : Nat) : Int))]) (Option.some.inj (congrArg some (by rw [hB])))
  have hBw : B.wf := by rw [hB]; exact ⟨(by have := idm_rng ea.id; unfold idm at this; dsimp only; omega), hb.p0, hb.p1, hb.p2, hb.v0, hb.v1, hb.v2⟩
  have hBi : B.id = A.id := by rw [hB, hA]
  have hBg : B.g = A.g ∨ B.g = A.g + 1#8 := by rw [hB, hA]; first | exact .inl rfl | exact .inr rfl
  refine st_callP (v := .tuple #[.agg #[.int .i64 (((recDiff A B).1).k), .int .i64 (((recDiff A B).1).id), .int .i64 (((recDiff A B).1).p0), .int .i64 (((recDiff A B).1).p1), .int .i64 (((recDiff A B).1).p2), .int .i64 (((recDiff A B).1).v0), .int .i64 (((recDiff A B).1).v1), .int .i64 (((recDiff A B).1).v2), .int .u16 ((((((recDiff A B).1).a).toNat : Nat) : Int))], .bool ((recDiff A B).2)]) hs (.c rfl (.c rfl .n)) Try.call30 (diff_ok A B _) rfl ?_; clear hs w a; intro a w hs
  refine st_mv hs rfl rfl ?_; clear hs w a; intro a w hs
  refine st_ex hs rfl .z rfl ?_; clear hs w a; intro a w hs
  refine st_ex hs rfl (.s .z) rfl ?_; clear hs w a; intro a w hs
  refine st_alloc (cs := [.int .i64 (0), .int .i64 (0), .int .i64 (0), .int .i64 (0), .int .i64 (0), .int .i64 (0), .int .i64 (0), .int .i64 (0), .int .u16 (0)]) hs Try.zeroValue25 rfl rfl ?_; clear hs w a; intro g32 a w hs
  refine st_stBA hs rfl rfl .z (.z (.c (.c (.c (.c (.c (.c (.c (.c (.c .n)))))))))) (ones_c rfl (ones_c rfl (ones_c rfl (ones_c rfl (ones_c rfl (ones_c rfl (ones_c rfl (ones_c rfl (ones_c rfl ones_n))))))))) Try.sizeOf25 rfl ?_; clear hs w a; intro a w hs
  refine st_as hs rfl rfl ?_; clear hs w a; intro a w hs
  refine wpList_nil ?_
  refine then_n (hK31 _ _ ?_)
  refine wp_seq_k fun K33 hK34 => ?_
  refine wp_seq_k fun K35 hK36 => ?_
  refine wp_region_lit ?_
  refine st_mv hs rfl rfl ?_; clear hs w a; intro a w hs
  refine st_not hs rfl rfl ?_; clear hs w a; intro a w hs
  refine wpList_nil ?_
  refine then_n (hK36 _ _ ?_)
  refine wp_if hs rfl (fun hc37 => ?_) (fun hc37 => ?_)
  ·
   replace hc37 := not_t hc37
   refine wp_seq_k fun K38 hK39 => ?_
   refine wp_region_lit ?_
   refine st_callP (v := .bool (true)) hs .n Try.call20 (alive08_ok _) rfl ?_; clear hs w a; intro a w hs
   refine st_mv hs rfl rfl ?_; clear hs w a; intro a w hs
   refine st_guardT hs rfl rfl rfl ?_
   refine st_ldBA hs rfl (.s (.s .z)) (.z (.c (.c (.c (.c (.c (.c (.c (.c (.c .n)))))))))) Try.isAgg54 Try.sizeOf54 rfl ?_; clear hs w a; intro a w hs
   refine st_guardT hs rfl rfl rfl ?_
   refine st_ldBA hs rfl (.s .z) (.z (.c (.c (.c (.c (.c (.c (.c (.c (.c .n)))))))))) Try.isAgg54 Try.sizeOf54 rfl ?_; clear hs w a; intro a w hs
   refine st_guardT hs rfl rfl rfl ?_
   refine st_eqF (xs := [.int .i64 (A.id), .int .i64 (A.p0), .int .i64 (A.p1), .int .i64 (A.p2), .int .i64 (A.v0), .int .i64 (A.v1), .int .i64 (A.v2), .int .u16 ((((A.a).toNat : Nat) : Int)), .int .u8 ((((A.g).toNat : Nat) : Int))]) (ys := [.int .i64 (B.id), .int .i64 (B.p0), .int .i64 (B.p1), .int .i64 (B.p2), .int .i64 (B.v0), .int .i64 (B.v1), .int .i64 (B.v2), .int .u16 ((((B.a).toNat : Nat) : Int)), .int .u8 ((((B.g).toNat : Nat) : Int))]) (ks := [.i .i64, .i .i64, .i .i64, .i .i64, .i .i64, .i .i64, .i .i64, .i .u16, .i .u8]) 6 hs rfl rfl (by kernel_rfl) (by kernel_rfl) (by kernel_rfl) (by decide) (.i (.i (.i (.i (.i (.i (.i (.i (.i .n))))))))) (.i (.i (.i (.i (.i (.i (.i (.i (.i .n))))))))) rfl ?_; clear hs w a; intro a w hs
   have hb_ : (eqCells [.int .i64 (A.id), .int .i64 (A.p0), .int .i64 (A.p1), .int .i64 (A.p2), .int .i64 (A.v0), .int .i64 (A.v1), .int .i64 (A.v2), .int .u16 ((((A.a).toNat : Nat) : Int)), .int .u8 ((((A.g).toNat : Nat) : Int))] [.int .i64 (B.id), .int .i64 (B.p0), .int .i64 (B.p1), .int .i64 (B.p2), .int .i64 (B.v0), .int .i64 (B.v1), .int .i64 (B.v2), .int .u16 ((((B.a).toNat : Nat) : Int)), .int .u8 ((((B.g).toNat : Nat) : Int))]) = true := entV_eq.2 (diff_same (by assumption))
   rw [hb_] at hs; clear hb_
   refine st_pickT hs rfl rfl rfl ?_; clear hs w a; intro a w hs
   refine st_as hs rfl rfl ?_; clear hs w a; intro a w hs
   refine wpList_nil ?_
   refine then_n (hK39 _ _ ?_)
   refine wp_ret ?_
   refine th_r ?_
   replace hs := hs.drop (.c (.s (.s .z)) (.c (.s .z) (.c .z .n)))
   exact fin hs rfl rfl ⟨rfl, rfl⟩
  replace hc37 := not_f hc37
  have hdm := diff_makes hAw hBw hAi hBi hBg (by assumption)
  have hk3 : (recDiff A B).1.k ≠ 3 := fun h => (hdm.2.2.2.1.1 h) (by rw [hB, hA])
  refine wp_skip ?_
  refine then_n (hK34 _ _ ?_)
  refine wp_seq_k fun K40 hK41 => ?_
  refine wp_region_lit ?_
  refine st_ldBA hs rfl (.s (.s .z)) (.z (.c (.c (.c (.c (.c (.c (.c (.c (.c .n)))))))))) Try.isAgg54 Try.sizeOf54 rfl ?_; clear hs w a; intro a w hs
  refine st_ldBA hs rfl .z (.z (.c (.c (.c (.c (.c (.c (.c (.c (.c .n)))))))))) Try.isAgg25 Try.sizeOf25 rfl ?_; clear hs w a; intro a w hs
  refine st_callP (v := .tuple #[.agg #[.int .i64 (((entApply A (((recDiff A B).1))).1).id), .int .i64 (((entApply A (((recDiff A B).1))).1).p0), .int .i64 (((entApply A (((recDiff A B).1))).1).p1), .int .i64 (((entApply A (((recDiff A B).1))).1).p2), .int .i64 (((entApply A (((recDiff A B).1))).1).v0), .int .i64 (((entApply A (((recDiff A B).1))).1).v1), .int .i64 (((entApply A (((recDiff A B).1))).1).v2), .int .u16 ((((((entApply A (((recDiff A B).1))).1).a).toNat : Nat) : Int)), .int .u8 ((((((entApply A (((recDiff A B).1))).1).g).toNat : Nat) : Int))], .int .i64 ((((entApply A (((recDiff A B).1))).2 : Nat) : Int))]) hs (.c rfl (.c rfl .n)) Try.call32 (apply_ok A (((recDiff A B).1)) _) rfl ?_; clear hs w a; intro a w hs
  refine st_mv hs rfl rfl ?_; clear hs w a; intro a w hs
  refine st_ex hs rfl .z rfl ?_; clear hs w a; intro a w hs
  refine st_ex hs rfl (.s .z) rfl ?_; clear hs w a; intro a w hs
  refine st_alloc (cs := [.int .i64 (0), .int .i64 (0), .int .i64 (0), .int .i64 (0), .int .i64 (0), .int .i64 (0), .int .i64 (0), .int .u16 (0), .int .u8 (0)]) hs Try.zeroValue54 rfl rfl ?_; clear hs w a; intro g42 a w hs
  refine st_stBA hs rfl rfl .z (.z (.c (.c (.c (.c (.c (.c (.c (.c (.c .n)))))))))) (ones_c rfl (ones_c rfl (ones_c rfl (ones_c rfl (ones_c rfl (ones_c rfl (ones_c rfl (ones_c rfl (ones_c rfl ones_n))))))))) Try.sizeOf54 rfl ?_; clear hs w a; intro a w hs
  refine st_as hs rfl rfl ?_; clear hs w a; intro a w hs
  refine wpList_nil ?_
  refine then_n (hK41 _ _ ?_)
  refine wp_seq_k fun K43 hK44 => ?_
  refine wp_region_lit ?_
  refine st_callP (v := .bool (true)) hs .n Try.call20 (alive08_ok _) rfl ?_; clear hs w a; intro a w hs
  refine st_mv hs rfl rfl ?_; clear hs w a; intro a w hs
  refine st_guardT hs rfl rfl rfl ?_
  refine st_ldBA hs rfl (.s (.s (.s .z))) (.z (.c (.c (.c (.c (.c (.c (.c (.c (.c .n)))))))))) Try.isAgg54 Try.sizeOf54 rfl ?_; clear hs w a; intro a w hs
  refine st_guardT hs rfl rfl rfl ?_
  refine st_ldBA hs rfl (.s (.s .z)) (.z (.c (.c (.c (.c (.c (.c (.c (.c (.c .n)))))))))) Try.isAgg54 Try.sizeOf54 rfl ?_; clear hs w a; intro a w hs
  refine st_guardT hs rfl rfl rfl ?_
  refine st_neqF (xs := [.int .i64 (A.id), .int .i64 (A.p0), .int .i64 (A.p1), .int .i64 (A.p2), .int .i64 (A.v0), .int .i64 (A.v1), .int .i64 (A.v2), .int .u16 ((((A.a).toNat : Nat) : Int)), .int .u8 ((((A.g).toNat : Nat) : Int))]) (ys := [.int .i64 (B.id), .int .i64 (B.p0), .int .i64 (B.p1), .int .i64 (B.p2), .int .i64 (B.v0), .int .i64 (B.v1), .int .i64 (B.v2), .int .u16 ((((B.a).toNat : Nat) : Int)), .int .u8 ((((B.g).toNat : Nat) : Int))]) (ks := [.i .i64, .i .i64, .i .i64, .i .i64, .i .i64, .i .i64, .i .i64, .i .u16, .i .u8]) 6 hs rfl rfl (by kernel_rfl) (by kernel_rfl) (by kernel_rfl) (by decide) (.i (.i (.i (.i (.i (.i (.i (.i (.i .n))))))))) (.i (.i (.i (.i (.i (.i (.i (.i (.i .n))))))))) rfl ?_; clear hs w a; intro a w hs
  have hb_ : (!(eqCells [.int .i64 (A.id), .int .i64 (A.p0), .int .i64 (A.p1), .int .i64 (A.p2), .int .i64 (A.v0), .int .i64 (A.v1), .int .i64 (A.v2), .int .u16 ((((A.a).toNat : Nat) : Int)), .int .u8 ((((A.g).toNat : Nat) : Int))] [.int .i64 (B.id), .int .i64 (B.p0), .int .i64 (B.p1), .int .i64 (B.p2), .int .i64 (B.v0), .int .i64 (B.v1), .int .i64 (B.v2), .int .u16 ((((B.a).toNat : Nat) : Int)), .int .u8 ((((B.g).toNat : Nat) : Int))])) = true := by rw [Bool.not_eq_true']; exact hdm.2.2.1
  rw [hb_] at hs; clear hb_
  refine st_pickT hs rfl rfl rfl ?_; clear hs w a; intro a w hs
  refine st_mv hs rfl rfl ?_; clear hs w a; intro a w hs
  refine st_guardT hs rfl rfl rfl ?_
  refine st_mv hs rfl rfl ?_; clear hs w a; intro a w hs
  refine st_guardT hs rfl rfl rfl ?_
  refine st_eql hs rfl rfl rfl ?_; clear hs w a; intro a w hs
  have hb_ : (((((entApply A (((recDiff A B).1))).2 : Nat) : Int) : Int) == 0) = true := by rw [hdm.1]; rfl
  rw [hb_] at hs; clear hb_
  refine st_pickT hs rfl rfl rfl ?_; clear hs w a; intro a w hs
  refine st_mv hs rfl rfl ?_; clear hs w a; intro a w hs
  refine st_guardT hs rfl rfl rfl ?_
  refine st_ldBA hs rfl .z (.z (.c (.c (.c (.c (.c (.c (.c (.c (.c .n)))))))))) Try.isAgg54 Try.sizeOf54 rfl ?_; clear hs w a; intro a w hs
  refine st_guardT hs rfl rfl rfl ?_
  refine st_ldBA hs rfl (.s (.s .z)) (.z (.c (.c (.c (.c (.c (.c (.c (.c (.c .n)))))))))) Try.isAgg54 Try.sizeOf54 rfl ?_; clear hs w a; intro a w hs
  refine st_guardT hs rfl rfl rfl ?_
  refine st_eqF (xs := [.int .i64 (((entApply A (((recDiff A B).1))).1).id), .int .i64 (((entApply A (((recDiff A B).1))).1).p0), .int .i64 (((entApply A (((recDiff A B).1))).1).p1), .int .i64 (((entApply A (((recDiff A B).1))).1).p2), .int .i64 (((entApply A (((recDiff A B).1))).1).v0), .int .i64 (((entApply A (((recDiff A B).1))).1).v1), .int .i64 (((entApply A (((recDiff A B).1))).1).v2), .int .u16 ((((((entApply A (((recDiff A B).1))).1).a).toNat : Nat) : Int)), .int .u8 ((((((entApply A (((recDiff A B).1))).1).g).toNat : Nat) : Int))]) (ys := [.int .i64 (B.id), .int .i64 (B.p0), .int .i64 (B.p1), .int .i64 (B.p2), .int .i64 (B.v0), .int .i64 (B.v1), .int .i64 (B.v2), .int .u16 ((((B.a).toNat : Nat) : Int)), .int .u8 ((((B.g).toNat : Nat) : Int))]) (ks := [.i .i64, .i .i64, .i .i64, .i .i64, .i .i64, .i .i64, .i .i64, .i .u16, .i .u8]) 6 hs rfl rfl (by kernel_rfl) (by kernel_rfl) (by kernel_rfl) (by decide) (.i (.i (.i (.i (.i (.i (.i (.i (.i .n))))))))) (.i (.i (.i (.i (.i (.i (.i (.i (.i .n))))))))) rfl ?_; clear hs w a; intro a w hs
  have hb_ : (eqCells [.int .i64 (((entApply A (((recDiff A B).1))).1).id), .int .i64 (((entApply A (((recDiff A B).1))).1).p0), .int .i64 (((entApply A (((recDiff A B).1))).1).p1), .int .i64 (((entApply A (((recDiff A B).1))).1).p2), .int .i64 (((entApply A (((recDiff A B).1))).1).v0), .int .i64 (((entApply A (((recDiff A B).1))).1).v1), .int .i64 (((entApply A (((recDiff A B).1))).1).v2), .int .u16 ((((((entApply A (((recDiff A B).1))).1).a).toNat : Nat) : Int)), .int .u8 ((((((entApply A (((recDiff A B).1))).1).g).toNat : Nat) : Int))] [.int .i64 (B.id), .int .i64 (B.p0), .int .i64 (B.p1), .int .i64 (B.p2), .int .i64 (B.v0), .int .i64 (B.v1), .int .i64 (B.v2), .int .u16 ((((B.a).toNat : Nat) : Int)), .int .u8 ((((B.g).toNat : Nat) : Int))]) = true := by rw [hdm.1]; exact entV_refl B
  rw [hb_] at hs; clear hb_
  refine st_pickT hs rfl rfl rfl ?_; clear hs w a; intro a w hs
  refine st_mv hs rfl rfl ?_; clear hs w a; intro a w hs
  refine st_guardT hs rfl rfl rfl ?_
  refine st_ldBA hs rfl (.s .z) (.z (.c (.c (.c (.c (.c (.c (.c (.c (.c .n)))))))))) Try.isAgg25 Try.sizeOf25 rfl ?_; clear hs w a; intro a w hs
  refine st_guardT hs rfl rfl rfl ?_
  refine st_callP (v := .int .i64 (((recChk (((recDiff A B).1)) : Nat) : Int))) hs (.c rfl .n) Try.call21 (chk_ok (((recDiff A B).1)) _) rfl ?_; clear hs w a; intro a w hs
  refine st_guardT hs rfl rfl rfl ?_
  refine st_eql hs rfl rfl rfl ?_; clear hs w a; intro a w hs
  have hb_ : ((((recChk (((recDiff A B).1)) : Nat) : Int) : Int) == 0) = true := by rw [hdm.2.1]; rfl
  rw [hb_] at hs; clear hb_
  refine st_pickT hs rfl rfl rfl ?_; clear hs w a; intro a w hs
  refine st_mv hs rfl rfl ?_; clear hs w a; intro a w hs
  refine st_guardT hs rfl rfl rfl ?_
  refine st_fa hs rfl Try.underlying25 rfl Try.sizeOf3 (by decide) (o := 0) rfl rfl ?_; clear hs w a; intro a w hs
  refine st_guardT hs rfl rfl rfl ?_
  refine st_ldB hs rfl (.s .z) .z Try.isAgg3 rfl ?_; clear hs w a; intro a w hs
  refine st_guardT hs rfl rfl rfl ?_
  refine st_eql hs rfl rfl rfl ?_; clear hs w a; intro a w hs
  refine st_guardT hs rfl rfl rfl ?_
  refine st_mv hs rfl rfl ?_; clear hs w a; intro a w hs
  refine st_guardT hs rfl rfl rfl ?_
  refine st_eqb hs rfl rfl Try.underlying4 rfl ?_; clear hs w a; intro a w hs
  have hb_ : (((((recDiff A B).1).k : Int) == 3 : Bool) == false) = true := by first | (rw [beq_eq_false_iff_ne.2 hk3]; rfl) | (rw [hk3]; rfl)
  rw [hb_] at hs; clear hb_
  refine st_pickT hs rfl rfl rfl ?_; clear hs w a; intro a w hs
  refine st_as hs rfl rfl ?_; clear hs w a; intro a w hs
  refine wpList_nil ?_
  refine then_n (hK44 _ _ ?_)
  refine wp_ret ?_
  replace hs := hs.drop (.c (.s (.s (.s .z))) (.c (.s (.s .z)) (.c (.s .z) (.c .z .n))))
  exact fin hs rfl rfl ⟨rfl, rfl⟩
end Go.Proofs.Ytkobgcoegajfcaa
