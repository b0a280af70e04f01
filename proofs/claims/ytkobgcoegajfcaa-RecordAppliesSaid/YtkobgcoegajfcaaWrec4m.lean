/- Walks of the document's: what is others with an entity: what each function does, over the program of this seat. Printed by a program of this session. -/
import Derived.Test.YtkobgcoegajfcaaWrecm
import Derived.Test.YtkobgcoegajfcaaSxPent
namespace Go.Proofs.Ytkobgcoegajfcaa
open Go Go.Sx Go.RowKit
set_option linter.unusedVariables false
set_option linter.unusedSimpArgs false
set_option maxRecDepth 4000
set_option maxHeartbeats 1000000

theorem rdiff_ok (ea eb : EntR) (w0 : World) : Calls Try.prog 31 #[.agg #[.int .i64 (ea.id), .int .i64 (ea.p0), .int .i64 (ea.p1), .int .i64 (ea.p2), .int .i64 (ea.v0), .int .i64 (ea.v1), .int .i64 (ea.v2), .int .u16 ((((ea.a).toNat : Nat) : Int)), .int .u8 ((((ea.g).toNat : Nat) : Int))], .agg #[.int .i64 (eb.id), .int .i64 (eb.p0), .int .i64 (eb.p1), .int .i64 (eb.p2), .int .i64 (eb.v0), .int .i64 (eb.v1), .int .i64 (eb.v2), .int .u16 ((((eb.a).toNat : Nat) : Int)), .int .u8 ((((eb.g).toNat : Nat) : Int))]] w0 (RetV w0 (.tuple #[.agg #[.int .i64 (((recDiff ea eb).1).k), .int .i64 (((recDiff ea eb).1).id), .int .i64 (((recDiff ea eb).1).p0), .int .i64 (((recDiff ea eb).1).p1), .int .i64 (((recDiff ea eb).1).p2), .int .i64 (((recDiff ea eb).1).v0), .int .i64 (((recDiff ea eb).1).v1), .int .i64 (((recDiff ea eb).1).v2), .int .u16 ((((((recDiff ea eb).1).a).toNat : Nat) : Int))], .bool (recDiff ea eb).2])) := by
  refine enter (F0 := [(0, .agg #[.int .i64 (ea.id), .int .i64 (ea.p0), .int .i64 (ea.p1), .int .i64 (ea.p2), .int .i64 (ea.v0), .int .i64 (ea.v1), .int .i64 (ea.v2), .int .u16 ((((ea.a).toNat : Nat) : Int)), .int .u8 ((((ea.g).toNat : Nat) : Int))]), (1, .agg #[.int .i64 (eb.id), .int .i64 (eb.p0), .int .i64 (eb.p1), .int .i64 (eb.p2), .int .i64 (eb.v0), .int .i64 (eb.v1), .int .i64 (eb.v2), .int .u16 ((((eb.a).toNat : Nat) : Int)), .int .u8 ((((eb.g).toNat : Nat) : Int))])]) Try.func31 rfl rfl rfl (.c (.c .n)) (Mem.nil _) fun a w hs => ?_
  refine wp_seq_k fun K1 hK2 => ?_
  refine wp_region_lit ?_
  refine st_box (cs := [.int .i64 (ea.id), .int .i64 (ea.p0), .int .i64 (ea.p1), .int .i64 (ea.p2), .int .i64 (ea.v0), .int .i64 (ea.v1), .int .i64 (ea.v2), .int .u16 ((((ea.a).toNat : Nat) : Int)), .int .u8 ((((ea.g).toNat : Nat) : Int))]) hs rfl rfl rfl ?_; clear hs w a; intro g3 a w hs
  refine st_box (cs := [.int .i64 (eb.id), .int .i64 (eb.p0), .int .i64 (eb.p1), .int .i64 (eb.p2), .int .i64 (eb.v0), .int .i64 (eb.v1), .int .i64 (eb.v2), .int .u16 ((((eb.a).toNat : Nat) : Int)), .int .u8 ((((eb.g).toNat : Nat) : Int))]) hs rfl rfl rfl ?_; clear hs w a; intro g4 a w hs
  refine st_alloc (cs := [.int .i64 (0), .int .i64 (0), .int .i64 (0), .int .i64 (0), .int .i64 (0), .int .i64 (0), .int .i64 (0), .int .i64 (0), .int .u16 (0)]) hs Try.zeroValue25 rfl rfl ?_; clear hs w a; intro g5 a w hs
  refine st_as hs rfl rfl ?_; clear hs w a; intro a w hs
  refine wpList_nil ?_
  refine then_n (hK2 _ _ ?_)
  refine wp_seq_k fun K6 hK7 => ?_
  refine wp_seq_k fun K8 hK9 => ?_
  refine wp_region_lit ?_
  refine st_ldBA hs rfl (.s (.s .z)) (.z (.c (.c (.c (.c (.c (.c (.c (.c (.c .n)))))))))) Try.isAgg54 Try.sizeOf54 rfl ?_; clear hs w a; intro a w hs
  refine st_ldBA hs rfl (.s .z) (.z (.c (.c (.c (.c (.c (.c (.c (.c (.c .n)))))))))) Try.isAgg54 Try.sizeOf54 rfl ?_; clear hs w a; intro a w hs
  refine st_eqF (xs := [.int .i64 (ea.id), .int .i64 (ea.p0), .int .i64 (ea.p1), .int .i64 (ea.p2), .int .i64 (ea.v0), .int .i64 (ea.v1), .int .i64 (ea.v2), .int .u16 ((((ea.a).toNat : Nat) : Int)), .int .u8 ((((ea.g).toNat : Nat) : Int))]) (ys := [.int .i64 (eb.id), .int .i64 (eb.p0), .int .i64 (eb.p1), .int .i64 (eb.p2), .int .i64 (eb.v0), .int .i64 (eb.v1), .int .i64 (eb.v2), .int .u16 ((((eb.a).toNat : Nat) : Int)), .int .u8 ((((eb.g).toNat : Nat) : Int))]) (ks := [.i .i64, .i .i64, .i .i64, .i .i64, .i .i64, .i .i64, .i .i64, .i .u16, .i .u8]) 6 hs rfl rfl (by kernel_rfl) (by kernel_rfl) (by kernel_rfl) (by decide) (.i (.i (.i (.i (.i (.i (.i (.i (.i .n))))))))) (.i (.i (.i (.i (.i (.i (.i (.i (.i .n))))))))) rfl ?_; clear hs w a; intro a w hs
  replace hs := hs.recell (v' := .bool (entEq ea eb)) (Option.some.inj rfl)
  refine wpList_nil ?_
  refine then_n (hK9 _ _ ?_)
  refine wp_if hs rfl (fun hc10 => ?_) (fun hc10 => ?_)
  ·
   refine wp_seq_k fun K11 hK12 => ?_
   refine wp_region_lit ?_
   refine st_build (it := Try.t25) (zs := [.int .i64 (0), .int .i64 (0), .int .i64 (0), .int .i64 (0), .int .i64 (0), .int .i64 (0), .int .i64 (0), .int .i64 (0), .int .u16 (0)]) (places := [(0, 1), (1, 1), (2, 3), (5, 3), (8, 1)]) hs .n Try.underlying25 rfl rfl rfl rfl .n rfl ?_; clear hs w a; intro a w hs
   refine st_stBA hs rfl rfl .z (.z (.c (.c (.c (.c (.c (.c (.c (.c (.c .n)))))))))) (ones_c rfl (ones_c rfl (ones_c rfl (ones_c rfl (ones_c rfl (ones_c rfl (ones_c rfl (ones_c rfl (ones_c rfl ones_n))))))))) Try.sizeOf25 rfl ?_; clear hs w a; intro a w hs
   refine st_as hs rfl rfl ?_; clear hs w a; intro a w hs
   refine wpList_nil ?_
   refine then_n (hK12 _ _ ?_)
   refine wp_ret ?_
   refine th_r ?_
   exact finC2 hs rfl rfl rfl .z (.z (.c (.c (.c (.c (.c (.c (.c (.c (.c .n)))))))))) Try.isAgg25 Try.sizeOf25 (.c .z (.c .z (.c .z .n))) (by first | (rw [recDiff_eq (by assumption)]; exact ⟨rfl, rfl⟩) | (rw [recDiff_upd (by assumption) (by omega)]; exact ⟨rfl, rfl⟩) | (rw [recDiff_tel (by assumption) (by omega)]; exact ⟨rfl, rfl⟩))
  refine wp_skip ?_
  refine then_n (hK7 _ _ ?_)
  refine wp_seq_k fun K13 hK14 => ?_
  refine wp_seq_k fun K15 hK16 => ?_
  refine wp_region_lit ?_
  refine st_fa hs rfl Try.underlying54 rfl Try.sizeOf5 (by decide) (o := 8) rfl rfl ?_; clear hs w a; intro a w hs
  refine st_ldB hs rfl (.s (.s .z)) (.s (.s (.s (.s (.s (.s (.s (.s .z)))))))) Try.isAgg5 rfl ?_; clear hs w a; intro a w hs
  refine st_fa hs rfl Try.underlying54 rfl Try.sizeOf5 (by decide) (o := 8) rfl rfl ?_; clear hs w a; intro a w hs
  refine st_ldB hs rfl (.s .z) (.s (.s (.s (.s (.s (.s (.s (.s .z)))))))) Try.isAgg5 rfl ?_; clear hs w a; intro a w hs
  refine st_neq hs rfl rfl rfl ?_; clear hs w a; intro a w hs
  refine wpList_nil ?_
  refine then_n (hK16 _ _ ?_)
  refine wp_if hs rfl (fun hc17 => ?_) (fun hc17 => ?_)
  ·
   replace hc17 := not_t hc17
   replace hc17 := ne_of_beq_f hc17
   refine wp_seq_k fun K18 hK19 => ?_
   refine wp_region_lit ?_
   refine st_fa hs rfl Try.underlying54 rfl Try.sizeOf3 (by decide) (o := 0) rfl rfl ?_; clear hs w a; intro a w hs
   refine st_ldB hs rfl (.s .z) .z Try.isAgg3 rfl ?_; clear hs w a; intro a w hs
   refine st_fa hs rfl Try.underlying54 rfl Try.sizeOf22 (by decide) (o := 1) rfl rfl ?_; clear hs w a; intro a w hs
   refine st_ldBA hs rfl (.s .z) (.s (.z (.c (.c (.c .n))))) Try.isAgg22 Try.sizeOf22 rfl ?_; clear hs w a; intro a w hs
   refine st_fa hs rfl Try.underlying54 rfl Try.sizeOf22 (by decide) (o := 4) rfl rfl ?_; clear hs w a; intro a w hs
   refine st_ldBA hs rfl (.s .z) (.s (.s (.s (.s (.z (.c (.c (.c .n)))))))) Try.isAgg22 Try.sizeOf22 rfl ?_; clear hs w a; intro a w hs
   refine st_fa hs rfl Try.underlying54 rfl Try.sizeOf23 (by decide) (o := 7) rfl rfl ?_; clear hs w a; intro a w hs
   refine st_ldB hs rfl (.s .z) (.s (.s (.s (.s (.s (.s (.s .z))))))) Try.isAgg23 rfl ?_; clear hs w a; intro a w hs
   refine st_build (it := Try.t25) (zs := [.int .i64 (0), .int .i64 (0), .int .i64 (0), .int .i64 (0), .int .i64 (0), .int .i64 (0), .int .i64 (0), .int .i64 (0), .int .u16 (0)]) (places := [(0, 1), (1, 1), (2, 3), (5, 3), (8, 1)]) hs (.c rfl (.c rfl (.c rfl (.c rfl (.c rfl .n))))) Try.underlying25 rfl rfl rfl rfl (.c rfl rfl (.z (.c .n)) (.c rfl rfl (.s (.z (.c .n))) (.c rfl rfl (.s (.s (.z (.c (.c (.c .n)))))) (.c rfl rfl (.s (.s (.s (.s (.s (.z (.c (.c (.c .n))))))))) (.c rfl rfl (.s (.s (.s (.s (.s (.s (.s (.s (.z (.c .n)))))))))) .n))))) rfl ?_; clear hs w a; intro a w hs
   refine st_stBA hs rfl rfl .z (.z (.c (.c (.c (.c (.c (.c (.c (.c (.c .n)))))))))) (ones_c rfl (ones_c rfl (ones_c rfl (ones_c rfl (ones_c rfl (ones_c rfl (ones_c rfl (ones_c rfl (ones_c rfl ones_n))))))))) Try.sizeOf25 rfl ?_; clear hs w a; intro a w hs
   refine st_as hs rfl rfl ?_; clear hs w a; intro a w hs
   refine wpList_nil ?_
   refine then_n (hK19 _ _ ?_)
   refine wp_ret ?_
   refine th_r ?_
   exact finC2 hs rfl rfl rfl .z (.z (.c (.c (.c (.c (.c (.c (.c (.c (.c .n)))))))))) Try.isAgg25 Try.sizeOf25 (.c .z (.c .z (.c .z .n))) (by first | (rw [recDiff_eq (by assumption)]; exact ⟨rfl, rfl⟩) | (rw [recDiff_upd (by assumption) (by omega)]; exact ⟨rfl, rfl⟩) | (rw [recDiff_tel (by assumption) (by omega)]; exact ⟨rfl, rfl⟩))
  replace hc17 := not_f hc17
  replace hc17 := eq_of_beq hc17
  refine wp_skip ?_
  refine then_n (hK14 _ _ ?_)
  refine wp_seq_k fun K20 hK21 => ?_
  refine wp_region_lit ?_
  refine st_fa hs rfl Try.underlying54 rfl Try.sizeOf3 (by decide) (o := 0) rfl rfl ?_; clear hs w a; intro a w hs
  refine st_ldB hs rfl (.s .z) .z Try.isAgg3 rfl ?_; clear hs w a; intro a w hs
  refine st_fa hs rfl Try.underlying54 rfl Try.sizeOf23 (by decide) (o := 7) rfl rfl ?_; clear hs w a; intro a w hs
  refine st_ldB hs rfl (.s .z) (.s (.s (.s (.s (.s (.s (.s .z))))))) Try.isAgg23 rfl ?_; clear hs w a; intro a w hs
  refine st_fa hs rfl Try.underlying54 rfl Try.sizeOf23 (by decide) (o := 7) rfl rfl ?_; clear hs w a; intro a w hs
  refine st_ldB hs rfl (.s (.s .z)) (.s (.s (.s (.s (.s (.s (.s .z))))))) Try.isAgg23 rfl ?_; clear hs w a; intro a w hs
  refine st_sub_u16 (X := eb.a) (Y := ea.a) hs rfl rfl rfl rfl rfl ?_; clear hs w a; intro a w hs
  refine st_build (it := Try.t25) (zs := [.int .i64 (0), .int .i64 (0), .int .i64 (0), .int .i64 (0), .int .i64 (0), .int .i64 (0), .int .i64 (0), .int .i64 (0), .int .u16 (0)]) (places := [(0, 1), (1, 1), (2, 3), (5, 3), (8, 1)]) hs (.c rfl (.c rfl (.c rfl .n))) Try.underlying25 rfl rfl rfl rfl (.c rfl rfl (.z (.c .n)) (.c rfl rfl (.s (.z (.c .n))) (.c rfl rfl (.s (.s (.s (.s (.s (.s (.s (.s (.z (.c .n)))))))))) .n))) rfl ?_; clear hs w a; intro a w hs
  refine st_alloc (cs := [.int .i64 (0), .int .i64 (0), .int .i64 (0), .int .i64 (0), .int .i64 (0), .int .i64 (0), .int .i64 (0), .int .i64 (0), .int .u16 (0)]) hs Try.zeroValue25 rfl rfl ?_; clear hs w a; intro g22 a w hs
  refine st_stBA hs rfl rfl .z (.z (.c (.c (.c (.c (.c (.c (.c (.c (.c .n)))))))))) (ones_c rfl (ones_c rfl (ones_c rfl (ones_c rfl (ones_c rfl (ones_c rfl (ones_c rfl (ones_c rfl (ones_c rfl ones_n))))))))) Try.sizeOf25 rfl ?_; clear hs w a; intro a w hs
  refine wpList_nil ?_
  refine then_n (hK21 _ _ ?_)
  refine wp_seq_k fun K23 hK24 => ?_
  refine wp_seq_k fun K25 hK26 => ?_
  refine wp_region_lit ?_
  refine st_as hs rfl rfl ?_; clear hs w a; intro a w hs
  refine wpList_nil ?_
  refine then_n (hK26 _ _ ?_)
  refine wp_block ?_
  refine wp_loop_rounds 4 ?_
  refine rounds_in ?_
  refine wp_seq_k fun K27 hK28 => ?_
  refine wp_seq_k fun K29 hK30 => ?_
  refine wp_region_lit ?_
  refine st_mv hs rfl rfl ?_; clear hs w a; intro a w hs
  refine st_lss hs rfl rfl rfl ?_; clear hs w a; intro a w hs
  rw [show (decide ((0 : Int) < 3)) = true from by decide] at hs
  refine wpList_nil ?_
  refine then_n (hK30 _ _ ?_)
  refine wp_cond_true (hs.ev rfl) ?_
  refine wp_skip ?_
  refine then_n (hK28 _ _ ?_)
  refine wp_seq_k fun K31 hK32 => ?_
  refine wp_block ?_
  refine wp_seq_k fun K33 hK34 => ?_
  replace hs := hs.sub (F' := [(35, .bool (true)), (34, .int .i64 (0)), (7, .int .i64 (0)), (6, .pointer (some ⟨g22, 0, none⟩)), (5, .bool (false)), (4, .pointer (some ⟨g5, 0, none⟩)), (3, .pointer (some ⟨g4, 0, none⟩)), (2, .pointer (some ⟨g3, 0, none⟩))]) (.c rfl (.c rfl (.c rfl (.c rfl (.c rfl (.c rfl (.c rfl (.c rfl .n))))))))
  refine wp_drawG (M0 := [blk g5 [.int .i64 (0), .int .i64 (0), .int .i64 (0), .int .i64 (0), .int .i64 (0), .int .i64 (0), .int .i64 (0), .int .i64 (0), .int .u16 (0)] 25, blk g4 [.int .i64 (eb.id), .int .i64 (eb.p0), .int .i64 (eb.p1), .int .i64 (eb.p2), .int .i64 (eb.v0), .int .i64 (eb.v1), .int .i64 (eb.v2), .int .u16 ((((eb.a).toNat : Nat) : Int)), .int .u8 ((((eb.g).toNat : Nat) : Int))] 54, blk g3 [.int .i64 (ea.id), .int .i64 (ea.p0), .int .i64 (ea.p1), .int .i64 (ea.p2), .int .i64 (ea.v0), .int .i64 (ea.v1), .int .i64 (ea.v2), .int .u16 ((((ea.a).toNat : Nat) : Int)), .int .u8 ((((ea.g).toNat : Nat) : Int))] 54]) (Ds := [⟨[], [], [], fun vs35 => vs35 0 = .int .i64 (0), fun vs35 => []⟩, ⟨[], [], [], fun vs35 => vs35 1 = .int .i64 (0), fun vs35 => []⟩, ⟨[], [], [], fun vs35 => vs35 2 = .pointer (some ⟨g4, 1, none⟩), fun vs35 => []⟩, ⟨[], [], [], fun vs35 => vs35 3 = .pointer (some ⟨g4, 1, none⟩), fun vs35 => []⟩, ⟨[], [], [], fun vs35 => vs35 4 = .int .i64 (eb.p0), fun vs35 => []⟩, ⟨[], [], [], fun vs35 => vs35 5 = .int .i64 (0), fun vs35 => []⟩, ⟨[], [], [], fun vs35 => vs35 6 = .pointer (some ⟨g3, 1, none⟩), fun vs35 => []⟩, ⟨[], [], [], fun vs35 => vs35 7 = .pointer (some ⟨g3, 1, none⟩), fun vs35 => []⟩, ⟨[], [], [], fun vs35 => vs35 8 = .int .i64 (ea.p0), fun vs35 => []⟩, ⟨[], [], [], fun vs35 => vs35 9 = .int .i64 (IntKind.i64.wrap (eb.p0 - ea.p0)), fun vs35 => []⟩, ⟨[], [], [], fun vs35 => vs35 10 = .pointer (some ⟨g22, 2, none⟩), fun vs35 => []⟩, ⟨[], [], [], fun vs35 => vs35 11 = .pointer (some ⟨g22, 2, none⟩), fun vs35 => []⟩, ⟨[blk g22 [.int .i64 (1), .int .i64 (eb.id), .int .i64 (0), .int .i64 (0), .int .i64 (0), .int .i64 (0), .int .i64 (0), .int .i64 (0), .int .u16 ((((eb.a - ea.a).toNat : Nat) : Int))] 25], [], [], fun vs35 => True, fun vs35 => [blk g22 [.int .i64 (1), .int .i64 (eb.id), .int .i64 (IntKind.i64.wrap (eb.p0 - ea.p0)), .int .i64 (0), .int .i64 (0), .int .i64 (0), .int .i64 (0), .int .i64 (0), .int .u16 ((((eb.a - ea.a).toNat : Nat) : Int))] 25]⟩]) (by kernel_rfl) hs rfl (.c .z .n) (by kernel_rfl) (by kernel_rfl) ?_ ?_
  ·
   refine (.c ?_ (.c ?_ (.c ?_ (.c ?_ (.c ?_ (.c ?_ (.c ?_ (.c ?_ (.c ?_ (.c ?_ (.c ?_ (.c ?_ (.c ?_ .n)))))))))))))
   ·
    intro a_ w_ R_ rest_ vs35 hm hs ht hx
    replace hs : St _ _ _ (feet []) [] _ _ := hs
    have hm0 := hm.mid
    have hs0 := hs.bare
    refine st_mv hs rfl rfl ?_; clear hs; intro a w hs
    exact wpList_nil ⟨rfl, _, _, hs0, .r, hs, rfl⟩
   ·
    intro a_ w_ R_ rest_ vs35 hm hs ht hx
    replace hs : St _ _ _ (feet []) [] _ _ := hs
    have hm0 := hm.mid
    have hs0 := hs.bare
    refine st_mv hs rfl rfl ?_; clear hs; intro a w hs
    exact wpList_nil ⟨rfl, _, _, hs0, .r, hs, rfl⟩
   ·
    intro a_ w_ R_ rest_ vs35 hm hs ht hx
    replace hs : St _ _ _ (feet []) [] _ _ := hs
    have hm0 := hm.mid
    have hs0 := hs.bare
    refine st_fa hs rfl Try.underlying54 rfl Try.sizeOf22 (by decide) (o := 1) rfl rfl ?_; clear hs; intro a w hs
    exact wpList_nil ⟨rfl, _, _, hs0, .r, hs, rfl⟩
   ·
    intro a_ w_ R_ rest_ vs35 hm hs ht hx
    replace hs : St _ _ _ (feet []) [] _ _ := hs
    have hm0 := hm.mid
    have t1 := ht 1 (twB_spec 13 _ (by kernel_rfl))
    have e1 : _ = some (vs35 1) := t1.val rfl
    rw [show vs35 1 = .int .i64 (0) from t1.2.1] at e1
    replace hs := hs.learn e1
    have t2 := ht 2 (twB_spec 13 _ (by kernel_rfl))
    have e2 : _ = some (vs35 2) := t2.val rfl
    rw [show vs35 2 = .pointer (some ⟨g4, 1, none⟩) from t2.2.1] at e2
    replace hs := hs.learn e2
    have hs0 := hs.bare
    refine st_iaB hs rfl rfl Try.underlying22 (by decide) (by decide) Try.sizeOf2 (o' := 1) rfl rfl ?_; clear hs; intro a w hs
    exact wpList_nil ⟨rfl, _, _, hs0, (.c (.c .r)), hs, rfl⟩
   ·
    intro a_ w_ R_ rest_ vs35 hm hs ht hx
    replace hs : St _ _ _ (feet []) [] _ _ := hs
    have hm0 := hm.mid
    have t3 := ht 3 (twB_spec 13 _ (by kernel_rfl))
    have e3 : _ = some (vs35 3) := t3.val rfl
    rw [show vs35 3 = .pointer (some ⟨g4, 1, none⟩) from t3.2.1] at e3
    replace hs := hs.learn e3
    have hs0 := hs.bare
    refine st_ldE hs rfl (hm0.del (.s .z)) (.s .z) Try.isAgg2 rfl ?_; clear hs; intro a w hs
    exact wpList_nil ⟨rfl, _, _, hs0, (.c .r), hs, rfl⟩
   ·
    intro a_ w_ R_ rest_ vs35 hm hs ht hx
    replace hs : St _ _ _ (feet []) [] _ _ := hs
    have hm0 := hm.mid
    have hs0 := hs.bare
    refine st_mv hs rfl rfl ?_; clear hs; intro a w hs
    exact wpList_nil ⟨rfl, _, _, hs0, .r, hs, rfl⟩
   ·
    intro a_ w_ R_ rest_ vs35 hm hs ht hx
    replace hs : St _ _ _ (feet []) [] _ _ := hs
    have hm0 := hm.mid
    have hs0 := hs.bare
    refine st_fa hs rfl Try.underlying54 rfl Try.sizeOf22 (by decide) (o := 1) rfl rfl ?_; clear hs; intro a w hs
    exact wpList_nil ⟨rfl, _, _, hs0, .r, hs, rfl⟩
   ·
    intro a_ w_ R_ rest_ vs35 hm hs ht hx
    replace hs : St _ _ _ (feet []) [] _ _ := hs
    have hm0 := hm.mid
    have t5 := ht 5 (twB_spec 13 _ (by kernel_rfl))
    have e5 : _ = some (vs35 5) := t5.val rfl
    rw [show vs35 5 = .int .i64 (0) from t5.2.1] at e5
    replace hs := hs.learn e5
    have t6 := ht 6 (twB_spec 13 _ (by kernel_rfl))
    have e6 : _ = some (vs35 6) := t6.val rfl
    rw [show vs35 6 = .pointer (some ⟨g3, 1, none⟩) from t6.2.1] at e6
    replace hs := hs.learn e6
    have hs0 := hs.bare
    refine st_iaB hs rfl rfl Try.underlying22 (by decide) (by decide) Try.sizeOf2 (o' := 1) rfl rfl ?_; clear hs; intro a w hs
    exact wpList_nil ⟨rfl, _, _, hs0, (.c (.c .r)), hs, rfl⟩
   ·
    intro a_ w_ R_ rest_ vs35 hm hs ht hx
    replace hs : St _ _ _ (feet []) [] _ _ := hs
    have hm0 := hm.mid
    have t7 := ht 7 (twB_spec 13 _ (by kernel_rfl))
    have e7 : _ = some (vs35 7) := t7.val rfl
    rw [show vs35 7 = .pointer (some ⟨g3, 1, none⟩) from t7.2.1] at e7
    replace hs := hs.learn e7
    have hs0 := hs.bare
    refine st_ldE hs rfl (hm0.del (.s (.s .z))) (.s .z) Try.isAgg2 rfl ?_; clear hs; intro a w hs
    exact wpList_nil ⟨rfl, _, _, hs0, (.c .r), hs, rfl⟩
   ·
    intro a_ w_ R_ rest_ vs35 hm hs ht hx
    replace hs : St _ _ _ (feet []) [] _ _ := hs
    have hm0 := hm.mid
    have t4 := ht 4 (twB_spec 13 _ (by kernel_rfl))
    have e4 : _ = some (vs35 4) := t4.val rfl
    rw [show vs35 4 = .int .i64 (eb.p0) from t4.2.1] at e4
    replace hs := hs.learn e4
    have t8 := ht 8 (twB_spec 13 _ (by kernel_rfl))
    have e8 : _ = some (vs35 8) := t8.val rfl
    rw [show vs35 8 = .int .i64 (ea.p0) from t8.2.1] at e8
    replace hs := hs.learn e8
    have hs0 := hs.bare
    refine st_sub hs rfl rfl rfl ?_; clear hs; intro a w hs
    exact wpList_nil ⟨rfl, _, _, hs0, (.c (.c .r)), hs, rfl⟩
   ·
    intro a_ w_ R_ rest_ vs35 hm hs ht hx
    replace hs : St _ _ _ (feet []) [] _ _ := hs
    have hm0 := hm.mid
    have hs0 := hs.bare
    refine st_fa hs rfl Try.underlying25 rfl Try.sizeOf22 (by decide) (o := 2) rfl rfl ?_; clear hs; intro a w hs
    exact wpList_nil ⟨rfl, _, _, hs0, .r, hs, rfl⟩
   ·
    intro a_ w_ R_ rest_ vs35 hm hs ht hx
    replace hs : St _ _ _ (feet []) [] _ _ := hs
    have hm0 := hm.mid
    have t0 := ht 0 (twB_spec 13 _ (by kernel_rfl))
    have e0 : _ = some (vs35 0) := t0.val rfl
    rw [show vs35 0 = .int .i64 (0) from t0.2.1] at e0
    replace hs := hs.learn e0
    have t10 := ht 10 (twB_spec 13 _ (by kernel_rfl))
    have e10 : _ = some (vs35 10) := t10.val rfl
    rw [show vs35 10 = .pointer (some ⟨g22, 2, none⟩) from t10.2.1] at e10
    replace hs := hs.learn e10
    have hs0 := hs.bare
    refine st_iaB hs rfl rfl Try.underlying22 (by decide) (by decide) Try.sizeOf2 (o' := 2) rfl rfl ?_; clear hs; intro a w hs
    exact wpList_nil ⟨rfl, _, _, hs0, (.c (.c .r)), hs, rfl⟩
   intro a_ w_ R_ rest_ vs35 hm hs ht hx
   replace hs : St _ _ _ (feet [blk g22 [.int .i64 (1), .int .i64 (eb.id), .int .i64 (0), .int .i64 (0), .int .i64 (0), .int .i64 (0), .int .i64 (0), .int .i64 (0), .int .u16 ((((eb.a - ea.a).toNat : Nat) : Int))] 25]) [blk g22 [.int .i64 (1), .int .i64 (eb.id), .int .i64 (0), .int .i64 (0), .int .i64 (0), .int .i64 (0), .int .i64 (0), .int .i64 (0), .int .u16 ((((eb.a - ea.a).toNat : Nat) : Int))] 25] _ _ := hs
   have hm0 := hm.mid
   have t9 := ht 9 (twB_spec 13 _ (by kernel_rfl))
   have e9 : _ = some (vs35 9) := t9.val rfl
   rw [show vs35 9 = .int .i64 (IntKind.i64.wrap (eb.p0 - ea.p0)) from t9.2.1] at e9
   replace hs := hs.learn e9
   have t11 := ht 11 (twB_spec 13 _ (by kernel_rfl))
   have e11 : _ = some (vs35 11) := t11.val rfl
   rw [show vs35 11 = .pointer (some ⟨g22, 2, none⟩) from t11.2.1] at e11
   replace hs := hs.learn e11
   have hs0 := hs.bare
   refine st_stB hs rfl rfl .z (.s (.s .z)) rfl Try.sizeOf2 ?_; clear hs; intro a w hs
   exact wpList_nil ⟨rfl, .tuple #[], _, hs0, (.c (.c .r)), hs, trivial⟩
  clear hs w a; intro a w vs35 hs hf
  replace hs : St _ _ _ _ [blk g5 [.int .i64 (0), .int .i64 (0), .int .i64 (0), .int .i64 (0), .int .i64 (0), .int .i64 (0), .int .i64 (0), .int .i64 (0), .int .u16 (0)] 25, blk g4 [.int .i64 (eb.id), .int .i64 (eb.p0), .int .i64 (eb.p1), .int .i64 (eb.p2), .int .i64 (eb.v0), .int .i64 (eb.v1), .int .i64 (eb.v2), .int .u16 ((((eb.a).toNat : Nat) : Int)), .int .u8 ((((eb.g).toNat : Nat) : Int))] 54, blk g3 [.int .i64 (ea.id), .int .i64 (ea.p0), .int .i64 (ea.p1), .int .i64 (ea.p2), .int .i64 (ea.v0), .int .i64 (ea.v1), .int .i64 (ea.v2), .int .u16 ((((ea.a).toNat : Nat) : Int)), .int .u8 ((((ea.g).toNat : Nat) : Int))] 54, blk g22 [.int .i64 (1), .int .i64 (eb.id), .int .i64 (IntKind.i64.wrap (eb.p0 - ea.p0)), .int .i64 (0), .int .i64 (0), .int .i64 (0), .int .i64 (0), .int .i64 (0), .int .u16 ((((eb.a - ea.a).toNat : Nat) : Int))] 25] _ _ := hs
  clear hf
  refine then_n (hK34 _ _ ?_)
  replace hs := hs.sub (F' := [(35, .bool (true)), (34, .int .i64 (0)), (7, .int .i64 (0)), (6, .pointer (some ⟨g22, 0, none⟩)), (5, .bool (false)), (4, .pointer (some ⟨g5, 0, none⟩)), (3, .pointer (some ⟨g4, 0, none⟩)), (2, .pointer (some ⟨g3, 0, none⟩))]) (.c rfl (.c rfl (.c rfl (.c rfl (.c rfl (.c rfl (.c rfl (.c rfl .n))))))))
  refine wp_drawG (M0 := [blk g5 [.int .i64 (0), .int .i64 (0), .int .i64 (0), .int .i64 (0), .int .i64 (0), .int .i64 (0), .int .i64 (0), .int .i64 (0), .int .u16 (0)] 25, blk g4 [.int .i64 (eb.id), .int .i64 (eb.p0), .int .i64 (eb.p1), .int .i64 (eb.p2), .int .i64 (eb.v0), .int .i64 (eb.v1), .int .i64 (eb.v2), .int .u16 ((((eb.a).toNat : Nat) : Int)), .int .u8 ((((eb.g).toNat : Nat) : Int))] 54, blk g3 [.int .i64 (ea.id), .int .i64 (ea.p0), .int .i64 (ea.p1), .int .i64 (ea.p2), .int .i64 (ea.v0), .int .i64 (ea.v1), .int .i64 (ea.v2), .int .u16 ((((ea.a).toNat : Nat) : Int)), .int .u8 ((((ea.g).toNat : Nat) : Int))] 54]) (Ds := [⟨[], [], [], fun vs36 => vs36 0 = .int .i64 (0), fun vs36 => []⟩, ⟨[], [], [], fun vs36 => vs36 1 = .int .i64 (0), fun vs36 => []⟩, ⟨[], [], [], fun vs36 => vs36 2 = .pointer (some ⟨g4, 4, none⟩), fun vs36 => []⟩, ⟨[], [], [], fun vs36 => vs36 3 = .pointer (some ⟨g4, 4, none⟩), fun vs36 => []⟩, ⟨[], [], [], fun vs36 => vs36 4 = .int .i64 (eb.v0), fun vs36 => []⟩, ⟨[], [], [], fun vs36 => vs36 5 = .int .i64 (0), fun vs36 => []⟩, ⟨[], [], [], fun vs36 => vs36 6 = .pointer (some ⟨g3, 4, none⟩), fun vs36 => []⟩, ⟨[], [], [], fun vs36 => vs36 7 = .pointer (some ⟨g3, 4, none⟩), fun vs36 => []⟩, ⟨[], [], [], fun vs36 => vs36 8 = .int .i64 (ea.v0), fun vs36 => []⟩, ⟨[], [], [], fun vs36 => vs36 9 = .int .i64 (IntKind.i64.wrap (eb.v0 - ea.v0)), fun vs36 => []⟩, ⟨[], [], [], fun vs36 => vs36 10 = .pointer (some ⟨g22, 5, none⟩), fun vs36 => []⟩, ⟨[], [], [], fun vs36 => vs36 11 = .pointer (some ⟨g22, 5, none⟩), fun vs36 => []⟩, ⟨[blk g22 [.int .i64 (1), .int .i64 (eb.id), .int .i64 (IntKind.i64.wrap (eb.p0 - ea.p0)), .int .i64 (0), .int .i64 (0), .int .i64 (0), .int .i64 (0), .int .i64 (0), .int .u16 ((((eb.a - ea.a).toNat : Nat) : Int))] 25], [], [], fun vs36 => True, fun vs36 => [blk g22 [.int .i64 (1), .int .i64 (eb.id), .int .i64 (IntKind.i64.wrap (eb.p0 - ea.p0)), .int .i64 (0), .int .i64 (0), .int .i64 (IntKind.i64.wrap (eb.v0 - ea.v0)), .int .i64 (0), .int .i64 (0), .int .u16 ((((eb.a - ea.a).toNat : Nat) : Int))] 25]⟩]) (by kernel_rfl) hs rfl (.c (.s (.s (.s .z))) .n) (by kernel_rfl) (by kernel_rfl) ?_ ?_
  ·
   refine (.c ?_ (.c ?_ (.c ?_ (.c ?_ (.c ?_ (.c ?_ (.c ?_ (.c ?_ (.c ?_ (.c ?_ (.c ?_ (.c ?_ (.c ?_ .n)))))))))))))
   ·
    intro a_ w_ R_ rest_ vs36 hm hs ht hx
    replace hs : St _ _ _ (feet []) [] _ _ := hs
    have hm0 := hm.mid
    have hs0 := hs.bare
    refine st_mv hs rfl rfl ?_; clear hs; intro a w hs
    exact wpList_nil ⟨rfl, _, _, hs0, .r, hs, rfl⟩
   ·
    intro a_ w_ R_ rest_ vs36 hm hs ht hx
    replace hs : St _ _ _ (feet []) [] _ _ := hs
    have hm0 := hm.mid
    have hs0 := hs.bare
    refine st_mv hs rfl rfl ?_; clear hs; intro a w hs
    exact wpList_nil ⟨rfl, _, _, hs0, .r, hs, rfl⟩
   ·
    intro a_ w_ R_ rest_ vs36 hm hs ht hx
    replace hs : St _ _ _ (feet []) [] _ _ := hs
    have hm0 := hm.mid
    have hs0 := hs.bare
    refine st_fa hs rfl Try.underlying54 rfl Try.sizeOf22 (by decide) (o := 4) rfl rfl ?_; clear hs; intro a w hs
    exact wpList_nil ⟨rfl, _, _, hs0, .r, hs, rfl⟩
   ·
    intro a_ w_ R_ rest_ vs36 hm hs ht hx
    replace hs : St _ _ _ (feet []) [] _ _ := hs
    have hm0 := hm.mid
    have t1 := ht 1 (twB_spec 13 _ (by kernel_rfl))
    have e1 : _ = some (vs36 1) := t1.val rfl
    rw [show vs36 1 = .int .i64 (0) from t1.2.1] at e1
    replace hs := hs.learn e1
    have t2 := ht 2 (twB_spec 13 _ (by kernel_rfl))
    have e2 : _ = some (vs36 2) := t2.val rfl
    rw [show vs36 2 = .pointer (some ⟨g4, 4, none⟩) from t2.2.1] at e2
    replace hs := hs.learn e2
    have hs0 := hs.bare
    refine st_iaB hs rfl rfl Try.underlying22 (by decide) (by decide) Try.sizeOf2 (o' := 4) rfl rfl ?_; clear hs; intro a w hs
    exact wpList_nil ⟨rfl, _, _, hs0, (.c (.c .r)), hs, rfl⟩
   ·
    intro a_ w_ R_ rest_ vs36 hm hs ht hx
    replace hs : St _ _ _ (feet []) [] _ _ := hs
    have hm0 := hm.mid
    have t3 := ht 3 (twB_spec 13 _ (by kernel_rfl))
    have e3 : _ = some (vs36 3) := t3.val rfl
    rw [show vs36 3 = .pointer (some ⟨g4, 4, none⟩) from t3.2.1] at e3
    replace hs := hs.learn e3
    have hs0 := hs.bare
    refine st_ldE hs rfl (hm0.del (.s .z)) (.s (.s (.s (.s .z)))) Try.isAgg2 rfl ?_; clear hs; intro a w hs
    exact wpList_nil ⟨rfl, _, _, hs0, (.c .r), hs, rfl⟩
   ·
    intro a_ w_ R_ rest_ vs36 hm hs ht hx
    replace hs : St _ _ _ (feet []) [] _ _ := hs
    have hm0 := hm.mid
    have hs0 := hs.bare
    refine st_mv hs rfl rfl ?_; clear hs; intro a w hs
    exact wpList_nil ⟨rfl, _, _, hs0, .r, hs, rfl⟩
   ·
    intro a_ w_ R_ rest_ vs36 hm hs ht hx
    replace hs : St _ _ _ (feet []) [] _ _ := hs
    have hm0 := hm.mid
    have hs0 := hs.bare
    refine st_fa hs rfl Try.underlying54 rfl Try.sizeOf22 (by decide) (o := 4) rfl rfl ?_; clear hs; intro a w hs
    exact wpList_nil ⟨rfl, _, _, hs0, .r, hs, rfl⟩
   ·
    intro a_ w_ R_ rest_ vs36 hm hs ht hx
    replace hs : St _ _ _ (feet []) [] _ _ := hs
    have hm0 := hm.mid
    have t5 := ht 5 (twB_spec 13 _ (by kernel_rfl))
    have e5 : _ = some (vs36 5) := t5.val rfl
    rw [show vs36 5 = .int .i64 (0) from t5.2.1] at e5
    replace hs := hs.learn e5
    have t6 := ht 6 (twB_spec 13 _ (by kernel_rfl))
    have e6 : _ = some (vs36 6) := t6.val rfl
    rw [show vs36 6 = .pointer (some ⟨g3, 4, none⟩) from t6.2.1] at e6
    replace hs := hs.learn e6
    have hs0 := hs.bare
    refine st_iaB hs rfl rfl Try.underlying22 (by decide) (by decide) Try.sizeOf2 (o' := 4) rfl rfl ?_; clear hs; intro a w hs
    exact wpList_nil ⟨rfl, _, _, hs0, (.c (.c .r)), hs, rfl⟩
   ·
    intro a_ w_ R_ rest_ vs36 hm hs ht hx
    replace hs : St _ _ _ (feet []) [] _ _ := hs
    have hm0 := hm.mid
    have t7 := ht 7 (twB_spec 13 _ (by kernel_rfl))
    have e7 : _ = some (vs36 7) := t7.val rfl
    rw [show vs36 7 = .pointer (some ⟨g3, 4, none⟩) from t7.2.1] at e7
    replace hs := hs.learn e7
    have hs0 := hs.bare
    refine st_ldE hs rfl (hm0.del (.s (.s .z))) (.s (.s (.s (.s .z)))) Try.isAgg2 rfl ?_; clear hs; intro a w hs
    exact wpList_nil ⟨rfl, _, _, hs0, (.c .r), hs, rfl⟩
   ·
    intro a_ w_ R_ rest_ vs36 hm hs ht hx
    replace hs : St _ _ _ (feet []) [] _ _ := hs
    have hm0 := hm.mid
    have t4 := ht 4 (twB_spec 13 _ (by kernel_rfl))
    have e4 : _ = some (vs36 4) := t4.val rfl
    rw [show vs36 4 = .int .i64 (eb.v0) from t4.2.1] at e4
    replace hs := hs.learn e4
    have t8 := ht 8 (twB_spec 13 _ (by kernel_rfl))
    have e8 : _ = some (vs36 8) := t8.val rfl
    rw [show vs36 8 = .int .i64 (ea.v0) from t8.2.1] at e8
    replace hs := hs.learn e8
    have hs0 := hs.bare
    refine st_sub hs rfl rfl rfl ?_; clear hs; intro a w hs
    exact wpList_nil ⟨rfl, _, _, hs0, (.c (.c .r)), hs, rfl⟩
   ·
    intro a_ w_ R_ rest_ vs36 hm hs ht hx
    replace hs : St _ _ _ (feet []) [] _ _ := hs
    have hm0 := hm.mid
    have hs0 := hs.bare
    refine st_fa hs rfl Try.underlying25 rfl Try.sizeOf22 (by decide) (o := 5) rfl rfl ?_; clear hs; intro a w hs
    exact wpList_nil ⟨rfl, _, _, hs0, .r, hs, rfl⟩
   ·
    intro a_ w_ R_ rest_ vs36 hm hs ht hx
    replace hs : St _ _ _ (feet []) [] _ _ := hs
    have hm0 := hm.mid
    have t0 := ht 0 (twB_spec 13 _ (by kernel_rfl))
    have e0 : _ = some (vs36 0) := t0.val rfl
    rw [show vs36 0 = .int .i64 (0) from t0.2.1] at e0
    replace hs := hs.learn e0
    have t10 := ht 10 (twB_spec 13 _ (by kernel_rfl))
    have e10 : _ = some (vs36 10) := t10.val rfl
    rw [show vs36 10 = .pointer (some ⟨g22, 5, none⟩) from t10.2.1] at e10
    replace hs := hs.learn e10
    have hs0 := hs.bare
    refine st_iaB hs rfl rfl Try.underlying22 (by decide) (by decide) Try.sizeOf2 (o' := 5) rfl rfl ?_; clear hs; intro a w hs
    exact wpList_nil ⟨rfl, _, _, hs0, (.c (.c .r)), hs, rfl⟩
   intro a_ w_ R_ rest_ vs36 hm hs ht hx
   replace hs : St _ _ _ (feet [blk g22 [.int .i64 (1), .int .i64 (eb.id), .int .i64 (IntKind.i64.wrap (eb.p0 - ea.p0)), .int .i64 (0), .int .i64 (0), .int .i64 (0), .int .i64 (0), .int .i64 (0), .int .u16 ((((eb.a - ea.a).toNat : Nat) : Int))] 25]) [blk g22 [.int .i64 (1), .int .i64 (eb.id), .int .i64 (IntKind.i64.wrap (eb.p0 - ea.p0)), .int .i64 (0), .int .i64 (0), .int .i64 (0), .int .i64 (0), .int .i64 (0), .int .u16 ((((eb.a - ea.a).toNat : Nat) : Int))] 25] _ _ := hs
   have hm0 := hm.mid
   have t9 := ht 9 (twB_spec 13 _ (by kernel_rfl))
   have e9 : _ = some (vs36 9) := t9.val rfl
   rw [show vs36 9 = .int .i64 (IntKind.i64.wrap (eb.v0 - ea.v0)) from t9.2.1] at e9
   replace hs := hs.learn e9
   have t11 := ht 11 (twB_spec 13 _ (by kernel_rfl))
   have e11 : _ = some (vs36 11) := t11.val rfl
   rw [show vs36 11 = .pointer (some ⟨g22, 5, none⟩) from t11.2.1] at e11
   replace hs := hs.learn e11
   have hs0 := hs.bare
   refine st_stB hs rfl rfl .z (.s (.s (.s (.s (.s .z))))) rfl Try.sizeOf2 ?_; clear hs; intro a w hs
   exact wpList_nil ⟨rfl, .tuple #[], _, hs0, (.c (.c .r)), hs, trivial⟩
  clear hs w a; intro a w vs36 hs hf
  replace hs : St _ _ _ _ [blk g5 [.int .i64 (0), .int .i64 (0), .int .i64 (0), .int .i64 (0), .int .i64 (0), .int .i64 (0), .int .i64 (0), .int .i64 (0), .int .u16 (0)] 25, blk g4 [.int .i64 (eb.id), .int .i64 (eb.p0), .int .i64 (eb.p1), .int .i64 (eb.p2), .int .i64 (eb.v0), .int .i64 (eb.v1), .int .i64 (eb.v2), .int .u16 ((((eb.a).toNat : Nat) : Int)), .int .u8 ((((eb.g).toNat : Nat) : Int))] 54, blk g3 [.int .i64 (ea.id), .int .i64 (ea.p0), .int .i64 (ea.p1), .int .i64 (ea.p2), .int .i64 (ea.v0), .int .i64 (ea.v1), .int .i64 (ea.v2), .int .u16 ((((ea.a).toNat : Nat) : Int)), .int .u8 ((((ea.g).toNat : Nat) : Int))] 54, blk g22 [.int .i64 (1), .int .i64 (eb.id), .int .i64 (IntKind.i64.wrap (eb.p0 - ea.p0)), .int .i64 (0), .int .i64 (0), .int .i64 (IntKind.i64.wrap (eb.v0 - ea.v0)), .int .i64 (0), .int .i64 (0), .int .u16 ((((eb.a - ea.a).toNat : Nat) : Int))] 25] _ _ := hs
  clear hf
  refine in_n ?_
  refine then_n (hK32 _ _ ?_)
  refine wp_region_lit ?_
  refine st_mv hs rfl rfl ?_; clear hs w a; intro a w hs
  refine st_addR hs rfl rfl (by omega) rfl ?_; clear hs w a; intro a w hs
  rw [show (0 + 1 : Int) = 1 by rfl] at hs
  refine st_as hs rfl rfl ?_; clear hs w a; intro a w hs
  refine wpList_nil ?_
  refine then_n ?_
  refine rounds_in ?_
  refine wp_seq_k fun K37 hK38 => ?_
  refine wp_seq_k fun K39 hK40 => ?_
  refine wp_region_lit ?_
  refine st_mv hs rfl rfl ?_; clear hs w a; intro a w hs
  refine st_lss hs rfl rfl rfl ?_; clear hs w a; intro a w hs
  rw [show (decide ((1 : Int) < 3)) = true from by decide] at hs
  refine wpList_nil ?_
  refine then_n (hK40 _ _ ?_)
  refine wp_cond_true (hs.ev rfl) ?_
  refine wp_skip ?_
  refine then_n (hK38 _ _ ?_)
  refine wp_seq_k fun K41 hK42 => ?_
  refine wp_block ?_
  refine wp_seq_k fun K43 hK44 => ?_
  replace hs := hs.sub (F' := [(35, .bool (true)), (34, .int .i64 (1)), (7, .int .i64 (1)), (37, .int .i64 (1)), (36, .int .i64 (0)), (6, .pointer (some ⟨g22, 0, none⟩)), (5, .bool (false)), (4, .pointer (some ⟨g5, 0, none⟩)), (3, .pointer (some ⟨g4, 0, none⟩)), (2, .pointer (some ⟨g3, 0, none⟩))]) (.c rfl (.c rfl (.c rfl (.c rfl (.c rfl (.c rfl (.c rfl (.c rfl (.c rfl (.c rfl .n))))))))))
  refine wp_drawG (M0 := [blk g5 [.int .i64 (0), .int .i64 (0), .int .i64 (0), .int .i64 (0), .int .i64 (0), .int .i64 (0), .int .i64 (0), .int .i64 (0), .int .u16 (0)] 25, blk g4 [.int .i64 (eb.id), .int .i64 (eb.p0), .int .i64 (eb.p1), .int .i64 (eb.p2), .int .i64 (eb.v0), .int .i64 (eb.v1), .int .i64 (eb.v2), .int .u16 ((((eb.a).toNat : Nat) : Int)), .int .u8 ((((eb.g).toNat : Nat) : Int))] 54, blk g3 [.int .i64 (ea.id), .int .i64 (ea.p0), .int .i64 (ea.p1), .int .i64 (ea.p2), .int .i64 (ea.v0), .int .i64 (ea.v1), .int .i64 (ea.v2), .int .u16 ((((ea.a).toNat : Nat) : Int)), .int .u8 ((((ea.g).toNat : Nat) : Int))] 54]) (Ds := [⟨[], [], [], fun vs45 => vs45 0 = .int .i64 (1), fun vs45 => []⟩, ⟨[], [], [], fun vs45 => vs45 1 = .int .i64 (1), fun vs45 => []⟩, ⟨[], [], [], fun vs45 => vs45 2 = .pointer (some ⟨g4, 1, none⟩), fun vs45 => []⟩, ⟨[], [], [], fun vs45 => vs45 3 = .pointer (some ⟨g4, 2, none⟩), fun vs45 => []⟩, ⟨[], [], [], fun vs45 => vs45 4 = .int .i64 (eb.p1), fun vs45 => []⟩, ⟨[], [], [], fun vs45 => vs45 5 = .int .i64 (1), fun vs45 => []⟩, ⟨[], [], [], fun vs45 => vs45 6 = .pointer (some ⟨g3, 1, none⟩), fun vs45 => []⟩, ⟨[], [], [], fun vs45 => vs45 7 = .pointer (some ⟨g3, 2, none⟩), fun vs45 => []⟩, ⟨[], [], [], fun vs45 => vs45 8 = .int .i64 (ea.p1), fun vs45 => []⟩, ⟨[], [], [], fun vs45 => vs45 9 = .int .i64 (IntKind.i64.wrap (eb.p1 - ea.p1)), fun vs45 => []⟩, ⟨[], [], [], fun vs45 => vs45 10 = .pointer (some ⟨g22, 2, none⟩), fun vs45 => []⟩, ⟨[], [], [], fun vs45 => vs45 11 = .pointer (some ⟨g22, 3, none⟩), fun vs45 => []⟩, ⟨[blk g22 [.int .i64 (1), .int .i64 (eb.id), .int .i64 (IntKind.i64.wrap (eb.p0 - ea.p0)), .int .i64 (0), .int .i64 (0), .int .i64 (IntKind.i64.wrap (eb.v0 - ea.v0)), .int .i64 (0), .int .i64 (0), .int .u16 ((((eb.a - ea.a).toNat : Nat) : Int))] 25], [], [], fun vs45 => True, fun vs45 => [blk g22 [.int .i64 (1), .int .i64 (eb.id), .int .i64 (IntKind.i64.wrap (eb.p0 - ea.p0)), .int .i64 (IntKind.i64.wrap (eb.p1 - ea.p1)), .int .i64 (0), .int .i64 (IntKind.i64.wrap (eb.v0 - ea.v0)), .int .i64 (0), .int .i64 (0), .int .u16 ((((eb.a - ea.a).toNat : Nat) : Int))] 25]⟩]) (by kernel_rfl) hs rfl (.c (.s (.s (.s .z))) .n) (by kernel_rfl) (by kernel_rfl) ?_ ?_
  ·
   refine (.c ?_ (.c ?_ (.c ?_ (.c ?_ (.c ?_ (.c ?_ (.c ?_ (.c ?_ (.c ?_ (.c ?_ (.c ?_ (.c ?_ (.c ?_ .n)))))))))))))
   ·
    intro a_ w_ R_ rest_ vs45 hm hs ht hx
    replace hs : St _ _ _ (feet []) [] _ _ := hs
    have hm0 := hm.mid
    have hs0 := hs.bare
    refine st_mv hs rfl rfl ?_; clear hs; intro a w hs
    exact wpList_nil ⟨rfl, _, _, hs0, .r, hs, rfl⟩
   ·
    intro a_ w_ R_ rest_ vs45 hm hs ht hx
    replace hs : St _ _ _ (feet []) [] _ _ := hs
    have hm0 := hm.mid
    have hs0 := hs.bare
    refine st_mv hs rfl rfl ?_; clear hs; intro a w hs
    exact wpList_nil ⟨rfl, _, _, hs0, .r, hs, rfl⟩
   ·
    intro a_ w_ R_ rest_ vs45 hm hs ht hx
    replace hs : St _ _ _ (feet []) [] _ _ := hs
    have hm0 := hm.mid
    have hs0 := hs.bare
    refine st_fa hs rfl Try.underlying54 rfl Try.sizeOf22 (by decide) (o := 1) rfl rfl ?_; clear hs; intro a w hs
    exact wpList_nil ⟨rfl, _, _, hs0, .r, hs, rfl⟩
   ·
    intro a_ w_ R_ rest_ vs45 hm hs ht hx
    replace hs : St _ _ _ (feet []) [] _ _ := hs
    have hm0 := hm.mid
    have t1 := ht 1 (twB_spec 13 _ (by kernel_rfl))
    have e1 : _ = some (vs45 1) := t1.val rfl
    rw [show vs45 1 = .int .i64 (1) from t1.2.1] at e1
    replace hs := hs.learn e1
    have t2 := ht 2 (twB_spec 13 _ (by kernel_rfl))
    have e2 : _ = some (vs45 2) := t2.val rfl
    rw [show vs45 2 = .pointer (some ⟨g4, 1, none⟩) from t2.2.1] at e2
    replace hs := hs.learn e2
    have hs0 := hs.bare
    refine st_iaB hs rfl rfl Try.underlying22 (by decide) (by decide) Try.sizeOf2 (o' := 2) rfl rfl ?_; clear hs; intro a w hs
    exact wpList_nil ⟨rfl, _, _, hs0, (.c (.c .r)), hs, rfl⟩
   ·
    intro a_ w_ R_ rest_ vs45 hm hs ht hx
    replace hs : St _ _ _ (feet []) [] _ _ := hs
    have hm0 := hm.mid
    have t3 := ht 3 (twB_spec 13 _ (by kernel_rfl))
    have e3 : _ = some (vs45 3) := t3.val rfl
    rw [show vs45 3 = .pointer (some ⟨g4, 2, none⟩) from t3.2.1] at e3
    replace hs := hs.learn e3
    have hs0 := hs.bare
    refine st_ldE hs rfl (hm0.del (.s .z)) (.s (.s .z)) Try.isAgg2 rfl ?_; clear hs; intro a w hs
    exact wpList_nil ⟨rfl, _, _, hs0, (.c .r), hs, rfl⟩
   ·
    intro a_ w_ R_ rest_ vs45 hm hs ht hx
    replace hs : St _ _ _ (feet []) [] _ _ := hs
    have hm0 := hm.mid
    have hs0 := hs.bare
    refine st_mv hs rfl rfl ?_; clear hs; intro a w hs
    exact wpList_nil ⟨rfl, _, _, hs0, .r, hs, rfl⟩
   ·
    intro a_ w_ R_ rest_ vs45 hm hs ht hx
    replace hs : St _ _ _ (feet []) [] _ _ := hs
    have hm0 := hm.mid
    have hs0 := hs.bare
    refine st_fa hs rfl Try.underlying54 rfl Try.sizeOf22 (by decide) (o := 1) rfl rfl ?_; clear hs; intro a w hs
    exact wpList_nil ⟨rfl, _, _, hs0, .r, hs, rfl⟩
   ·
    intro a_ w_ R_ rest_ vs45 hm hs ht hx
    replace hs : St _ _ _ (feet []) [] _ _ := hs
    have hm0 := hm.mid
    have t5 := ht 5 (twB_spec 13 _ (by kernel_rfl))
    have e5 : _ = some (vs45 5) := t5.val rfl
    rw [show vs45 5 = .int .i64 (1) from t5.2.1] at e5
    replace hs := hs.learn e5
    have t6 := ht 6 (twB_spec 13 _ (by kernel_rfl))
    have e6 : _ = some (vs45 6) := t6.val rfl
    rw [show vs45 6 = .pointer (some ⟨g3, 1, none⟩) from t6.2.1] at e6
    replace hs := hs.learn e6
    have hs0 := hs.bare
    refine st_iaB hs rfl rfl Try.underlying22 (by decide) (by decide) Try.sizeOf2 (o' := 2) rfl rfl ?_; clear hs; intro a w hs
    exact wpList_nil ⟨rfl, _, _, hs0, (.c (.c .r)), hs, rfl⟩
   ·
    intro a_ w_ R_ rest_ vs45 hm hs ht hx
    replace hs : St _ _ _ (feet []) [] _ _ := hs
    have hm0 := hm.mid
    have t7 := ht 7 (twB_spec 13 _ (by kernel_rfl))
    have e7 : _ = some (vs45 7) := t7.val rfl
    rw [show vs45 7 = .pointer (some ⟨g3, 2, none⟩) from t7.2.1] at e7
    replace hs := hs.learn e7
    have hs0 := hs.bare
    refine st_ldE hs rfl (hm0.del (.s (.s .z))) (.s (.s .z)) Try.isAgg2 rfl ?_; clear hs; intro a w hs
    exact wpList_nil ⟨rfl, _, _, hs0, (.c .r), hs, rfl⟩
   ·
    intro a_ w_ R_ rest_ vs45 hm hs ht hx
    replace hs : St _ _ _ (feet []) [] _ _ := hs
    have hm0 := hm.mid
    have t4 := ht 4 (twB_spec 13 _ (by kernel_rfl))
    have e4 : _ = some (vs45 4) := t4.val rfl
    rw [show vs45 4 = .int .i64 (eb.p1) from t4.2.1] at e4
    replace hs := hs.learn e4
    have t8 := ht 8 (twB_spec 13 _ (by kernel_rfl))
    have e8 : _ = some (vs45 8) := t8.val rfl
    rw [show vs45 8 = .int .i64 (ea.p1) from t8.2.1] at e8
    replace hs := hs.learn e8
    have hs0 := hs.bare
    refine st_sub hs rfl rfl rfl ?_; clear hs; intro a w hs
    exact wpList_nil ⟨rfl, _, _, hs0, (.c (.c .r)), hs, rfl⟩
   ·
    intro a_ w_ R_ rest_ vs45 hm hs ht hx
    replace hs : St _ _ _ (feet []) [] _ _ := hs
    have hm0 := hm.mid
    have hs0 := hs.bare
    refine st_fa hs rfl Try.underlying25 rfl Try.sizeOf22 (by decide) (o := 2) rfl rfl ?_; clear hs; intro a w hs
    exact wpList_nil ⟨rfl, _, _, hs0, .r, hs, rfl⟩
   ·
    intro a_ w_ R_ rest_ vs45 hm hs ht hx
    replace hs : St _ _ _ (feet []) [] _ _ := hs
    have hm0 := hm.mid
    have t0 := ht 0 (twB_spec 13 _ (by kernel_rfl))
    have e0 : _ = some (vs45 0) := t0.val rfl
    rw [show vs45 0 = .int .i64 (1) from t0.2.1] at e0
    replace hs := hs.learn e0
    have t10 := ht 10 (twB_spec 13 _ (by kernel_rfl))
    have e10 : _ = some (vs45 10) := t10.val rfl
    rw [show vs45 10 = .pointer (some ⟨g22, 2, none⟩) from t10.2.1] at e10
    replace hs := hs.learn e10
    have hs0 := hs.bare
    refine st_iaB hs rfl rfl Try.underlying22 (by decide) (by decide) Try.sizeOf2 (o' := 3) rfl rfl ?_; clear hs; intro a w hs
    exact wpList_nil ⟨rfl, _, _, hs0, (.c (.c .r)), hs, rfl⟩
   intro a_ w_ R_ rest_ vs45 hm hs ht hx
   replace hs : St _ _ _ (feet [blk g22 [.int .i64 (1), .int .i64 (eb.id), .int .i64 (IntKind.i64.wrap (eb.p0 - ea.p0)), .int .i64 (0), .int .i64 (0), .int .i64 (IntKind.i64.wrap (eb.v0 - ea.v0)), .int .i64 (0), .int .i64 (0), .int .u16 ((((eb.a - ea.a).toNat : Nat) : Int))] 25]) [blk g22 [.int .i64 (1), .int .i64 (eb.id), .int .i64 (IntKind.i64.wrap (eb.p0 - ea.p0)), .int .i64 (0), .int .i64 (0), .int .i64 (IntKind.i64.wrap (eb.v0 - ea.v0)), .int .i64 (0), .int .i64 (0), .int .u16 ((((eb.a - ea.a).toNat : Nat) : Int))] 25] _ _ := hs
   have hm0 := hm.mid
   have t9 := ht 9 (twB_spec 13 _ (by kernel_rfl))
   have e9 : _ = some (vs45 9) := t9.val rfl
   rw [show vs45 9 = .int .i64 (IntKind.i64.wrap (eb.p1 - ea.p1)) from t9.2.1] at e9
   replace hs := hs.learn e9
   have t11 := ht 11 (twB_spec 13 _ (by kernel_rfl))
   have e11 : _ = some (vs45 11) := t11.val rfl
   rw [show vs45 11 = .pointer (some ⟨g22, 3, none⟩) from t11.2.1] at e11
   replace hs := hs.learn e11
   have hs0 := hs.bare
   refine st_stB hs rfl rfl .z (.s (.s (.s .z))) rfl Try.sizeOf2 ?_; clear hs; intro a w hs
   exact wpList_nil ⟨rfl, .tuple #[], _, hs0, (.c (.c .r)), hs, trivial⟩
  clear hs w a; intro a w vs45 hs hf
  replace hs : St _ _ _ _ [blk g5 [.int .i64 (0), .int .i64 (0), .int .i64 (0), .int .i64 (0), .int .i64 (0), .int .i64 (0), .int .i64 (0), .int .i64 (0), .int .u16 (0)] 25, blk g4 [.int .i64 (eb.id), .int .i64 (eb.p0), .int .i64 (eb.p1), .int .i64 (eb.p2), .int .i64 (eb.v0), .int .i64 (eb.v1), .int .i64 (eb.v2), .int .u16 ((((eb.a).toNat : Nat) : Int)), .int .u8 ((((eb.g).toNat : Nat) : Int))] 54, blk g3 [.int .i64 (ea.id), .int .i64 (ea.p0), .int .i64 (ea.p1), .int .i64 (ea.p2), .int .i64 (ea.v0), .int .i64 (ea.v1), .int .i64 (ea.v2), .int .u16 ((((ea.a).toNat : Nat) : Int)), .int .u8 ((((ea.g).toNat : Nat) : Int))] 54, blk g22 [.int .i64 (1), .int .i64 (eb.id), .int .i64 (IntKind.i64.wrap (eb.p0 - ea.p0)), .int .i64 (IntKind.i64.wrap (eb.p1 - ea.p1)), .int .i64 (0), .int .i64 (IntKind.i64.wrap (eb.v0 - ea.v0)), .int .i64 (0), .int .i64 (0), .int .u16 ((((eb.a - ea.a).toNat : Nat) : Int))] 25] _ _ := hs
  clear hf
  refine then_n (hK44 _ _ ?_)
  replace hs := hs.sub (F' := [(35, .bool (true)), (34, .int .i64 (1)), (7, .int .i64 (1)), (37, .int .i64 (1)), (36, .int .i64 (0)), (6, .pointer (some ⟨g22, 0, none⟩)), (5, .bool (false)), (4, .pointer (some ⟨g5, 0, none⟩)), (3, .pointer (some ⟨g4, 0, none⟩)), (2, .pointer (some ⟨g3, 0, none⟩))]) (.c rfl (.c rfl (.c rfl (.c rfl (.c rfl (.c rfl (.c rfl (.c rfl (.c rfl (.c rfl .n))))))))))
  refine wp_drawG (M0 := [blk g5 [.int .i64 (0), .int .i64 (0), .int .i64 (0), .int .i64 (0), .int .i64 (0), .int .i64 (0), .int .i64 (0), .int .i64 (0), .int .u16 (0)] 25, blk g4 [.int .i64 (eb.id), .int .i64 (eb.p0), .int .i64 (eb.p1), .int .i64 (eb.p2), .int .i64 (eb.v0), .int .i64 (eb.v1), .int .i64 (eb.v2), .int .u16 ((((eb.a).toNat : Nat) : Int)), .int .u8 ((((eb.g).toNat : Nat) : Int))] 54, blk g3 [.int .i64 (ea.id), .int .i64 (ea.p0), .int .i64 (ea.p1), .int .i64 (ea.p2), .int .i64 (ea.v0), .int .i64 (ea.v1), .int .i64 (ea.v2), .int .u16 ((((ea.a).toNat : Nat) : Int)), .int .u8 ((((ea.g).toNat : Nat) : Int))] 54]) (Ds := [⟨[], [], [], fun vs46 => vs46 0 = .int .i64 (1), fun vs46 => []⟩, ⟨[], [], [], fun vs46 => vs46 1 = .int .i64 (1), fun vs46 => []⟩, ⟨[], [], [], fun vs46 => vs46 2 = .pointer (some ⟨g4, 4, none⟩), fun vs46 => []⟩, ⟨[], [], [], fun vs46 => vs46 3 = .pointer (some ⟨g4, 5, none⟩), fun vs46 => []⟩, ⟨[], [], [], fun vs46 => vs46 4 = .int .i64 (eb.v1), fun vs46 => []⟩, ⟨[], [], [], fun vs46 => vs46 5 = .int .i64 (1), fun vs46 => []⟩, ⟨[], [], [], fun vs46 => vs46 6 = .pointer (some ⟨g3, 4, none⟩), fun vs46 => []⟩, ⟨[], [], [], fun vs46 => vs46 7 = .pointer (some ⟨g3, 5, none⟩), fun vs46 => []⟩, ⟨[], [], [], fun vs46 => vs46 8 = .int .i64 (ea.v1), fun vs46 => []⟩, ⟨[], [], [], fun vs46 => vs46 9 = .int .i64 (IntKind.i64.wrap (eb.v1 - ea.v1)), fun vs46 => []⟩, ⟨[], [], [], fun vs46 => vs46 10 = .pointer (some ⟨g22, 5, none⟩), fun vs46 => []⟩, ⟨[], [], [], fun vs46 => vs46 11 = .pointer (some ⟨g22, 6, none⟩), fun vs46 => []⟩, ⟨[blk g22 [.int .i64 (1), .int .i64 (eb.id), .int .i64 (IntKind.i64.wrap (eb.p0 - ea.p0)), .int .i64 (IntKind.i64.wrap (eb.p1 - ea.p1)), .int .i64 (0), .int .i64 (IntKind.i64.wrap (eb.v0 - ea.v0)), .int .i64 (0), .int .i64 (0), .int .u16 ((((eb.a - ea.a).toNat : Nat) : Int))] 25], [], [], fun vs46 => True, fun vs46 => [blk g22 [.int .i64 (1), .int .i64 (eb.id), .int .i64 (IntKind.i64.wrap (eb.p0 - ea.p0)), .int .i64 (IntKind.i64.wrap (eb.p1 - ea.p1)), .int .i64 (0), .int .i64 (IntKind.i64.wrap (eb.v0 - ea.v0)), .int .i64 (IntKind.i64.wrap (eb.v1 - ea.v1)), .int .i64 (0), .int .u16 ((((eb.a - ea.a).toNat : Nat) : Int))] 25]⟩]) (by kernel_rfl) hs rfl (.c (.s (.s (.s .z))) .n) (by kernel_rfl) (by kernel_rfl) ?_ ?_
  ·
   refine (.c ?_ (.c ?_ (.c ?_ (.c ?_ (.c ?_ (.c ?_ (.c ?_ (.c ?_ (.c ?_ (.c ?_ (.c ?_ (.c ?_ (.c ?_ .n)))))))))))))
   ·
    intro a_ w_ R_ rest_ vs46 hm hs ht hx
    replace hs : St _ _ _ (feet []) [] _ _ := hs
    have hm0 := hm.mid
    have hs0 := hs.bare
    refine st_mv hs rfl rfl ?_; clear hs; intro a w hs
    exact wpList_nil ⟨rfl, _, _, hs0, .r, hs, rfl⟩
   ·
    intro a_ w_ R_ rest_ vs46 hm hs ht hx
    replace hs : St _ _ _ (feet []) [] _ _ := hs
    have hm0 := hm.mid
    have hs0 := hs.bare
    refine st_mv hs rfl rfl ?_; clear hs; intro a w hs
    exact wpList_nil ⟨rfl, _, _, hs0, .r, hs, rfl⟩
   ·
    intro a_ w_ R_ rest_ vs46 hm hs ht hx
    replace hs : St _ _ _ (feet []) [] _ _ := hs
    have hm0 := hm.mid
    have hs0 := hs.bare
    refine st_fa hs rfl Try.underlying54 rfl Try.sizeOf22 (by decide) (o := 4) rfl rfl ?_; clear hs; intro a w hs
    exact wpList_nil ⟨rfl, _, _, hs0, .r, hs, rfl⟩
   ·
    intro a_ w_ R_ rest_ vs46 hm hs ht hx
    replace hs : St _ _ _ (feet []) [] _ _ := hs
    have hm0 := hm.mid
    have t1 := ht 1 (twB_spec 13 _ (by kernel_rfl))
    have e1 : _ = some (vs46 1) := t1.val rfl
    rw [show vs46 1 = .int .i64 (1) from t1.2.1] at e1
    replace hs := hs.learn e1
    have t2 := ht 2 (twB_spec 13 _ (by kernel_rfl))
    have e2 : _ = some (vs46 2) := t2.val rfl
    rw [show vs46 2 = .pointer (some ⟨g4, 4, none⟩) from t2.2.1] at e2
    replace hs := hs.learn e2
    have hs0 := hs.bare
    refine st_iaB hs rfl rfl Try.underlying22 (by decide) (by decide) Try.sizeOf2 (o' := 5) rfl rfl ?_; clear hs; intro a w hs
    exact wpList_nil ⟨rfl, _, _, hs0, (.c (.c .r)), hs, rfl⟩
   ·
    intro a_ w_ R_ rest_ vs46 hm hs ht hx
    replace hs : St _ _ _ (feet []) [] _ _ := hs
    have hm0 := hm.mid
    have t3 := ht 3 (twB_spec 13 _ (by kernel_rfl))
    have e3 : _ = some (vs46 3) := t3.val rfl
    rw [show vs46 3 = .pointer (some ⟨g4, 5, none⟩) from t3.2.1] at e3
    replace hs := hs.learn e3
    have hs0 := hs.bare
    refine st_ldE hs rfl (hm0.del (.s .z)) (.s (.s (.s (.s (.s .z))))) Try.isAgg2 rfl ?_; clear hs; intro a w hs
    exact wpList_nil ⟨rfl, _, _, hs0, (.c .r), hs, rfl⟩
   ·
    intro a_ w_ R_ rest_ vs46 hm hs ht hx
    replace hs : St _ _ _ (feet []) [] _ _ := hs
    have hm0 := hm.mid
    have hs0 := hs.bare
    refine st_mv hs rfl rfl ?_; clear hs; intro a w hs
    exact wpList_nil ⟨rfl, _, _, hs0, .r, hs, rfl⟩
   ·
    intro a_ w_ R_ rest_ vs46 hm hs ht hx
    replace hs : St _ _ _ (feet []) [] _ _ := hs
    have hm0 := hm.mid
    have hs0 := hs.bare
    refine st_fa hs rfl Try.underlying54 rfl Try.sizeOf22 (by decide) (o := 4) rfl rfl ?_; clear hs; intro a w hs
    exact wpList_nil ⟨rfl, _, _, hs0, .r, hs, rfl⟩
   ·
    intro a_ w_ R_ rest_ vs46 hm hs ht hx
    replace hs : St _ _ _ (feet []) [] _ _ := hs
    have hm0 := hm.mid
    have t5 := ht 5 (twB_spec 13 _ (by kernel_rfl))
    have e5 : _ = some (vs46 5) := t5.val rfl
    rw [show vs46 5 = .int .i64 (1) from t5.2.1] at e5
    replace hs := hs.learn e5
    have t6 := ht 6 (twB_spec 13 _ (by kernel_rfl))
    have e6 : _ = some (vs46 6) := t6.val rfl
    rw [show vs46 6 = .pointer (some ⟨g3, 4, none⟩) from t6.2.1] at e6
    replace hs := hs.learn e6
    have hs0 := hs.bare
    refine st_iaB hs rfl rfl Try.underlying22 (by decide) (by decide) Try.sizeOf2 (o' := 5) rfl rfl ?_; clear hs; intro a w hs
    exact wpList_nil ⟨rfl, _, _, hs0, (.c (.c .r)), hs, rfl⟩
   ·
    intro a_ w_ R_ rest_ vs46 hm hs ht hx
    replace hs : St _ _ _ (feet []) [] _ _ := hs
    have hm0 := hm.mid
    have t7 := ht 7 (twB_spec 13 _ (by kernel_rfl))
    have e7 : _ = some (vs46 7) := t7.val rfl
    rw [show vs46 7 = .pointer (some ⟨g3, 5, none⟩) from t7.2.1] at e7
    replace hs := hs.learn e7
    have hs0 := hs.bare
    refine st_ldE hs rfl (hm0.del (.s (.s .z))) (.s (.s (.s (.s (.s .z))))) Try.isAgg2 rfl ?_; clear hs; intro a w hs
    exact wpList_nil ⟨rfl, _, _, hs0, (.c .r), hs, rfl⟩
   ·
    intro a_ w_ R_ rest_ vs46 hm hs ht hx
    replace hs : St _ _ _ (feet []) [] _ _ := hs
    have hm0 := hm.mid
    have t4 := ht 4 (twB_spec 13 _ (by kernel_rfl))
    have e4 : _ = some (vs46 4) := t4.val rfl
    rw [show vs46 4 = .int .i64 (eb.v1) from t4.2.1] at e4
    replace hs := hs.learn e4
    have t8 := ht 8 (twB_spec 13 _ (by kernel_rfl))
    have e8 : _ = some (vs46 8) := t8.val rfl
    rw [show vs46 8 = .int .i64 (ea.v1) from t8.2.1] at e8
    replace hs := hs.learn e8
    have hs0 := hs.bare
    refine st_sub hs rfl rfl rfl ?_; clear hs; intro a w hs
    exact wpList_nil ⟨rfl, _, _, hs0, (.c (.c .r)), hs, rfl⟩
   ·
    intro a_ w_ R_ rest_ vs46 hm hs ht hx
    replace hs : St _ _ _ (feet []) [] _ _ := hs
    have hm0 := hm.mid
    have hs0 := hs.bare
    refine st_fa hs rfl Try.underlying25 rfl Try.sizeOf22 (by decide) (o := 5) rfl rfl ?_; clear hs; intro a w hs
    exact wpList_nil ⟨rfl, _, _, hs0, .r, hs, rfl⟩
   ·
    intro a_ w_ R_ rest_ vs46 hm hs ht hx
    replace hs : St _ _ _ (feet []) [] _ _ := hs
    have hm0 := hm.mid
    have t0 := ht 0 (twB_spec 13 _ (by kernel_rfl))
    have e0 : _ = some (vs46 0) := t0.val rfl
    rw [show vs46 0 = .int .i64 (1) from t0.2.1] at e0
    replace hs := hs.learn e0
    have t10 := ht 10 (twB_spec 13 _ (by kernel_rfl))
    have e10 : _ = some (vs46 10) := t10.val rfl
    rw [show vs46 10 = .pointer (some ⟨g22, 5, none⟩) from t10.2.1] at e10
    replace hs := hs.learn e10
    have hs0 := hs.bare
    refine st_iaB hs rfl rfl Try.underlying22 (by decide) (by decide) Try.sizeOf2 (o' := 6) rfl rfl ?_; clear hs; intro a w hs
    exact wpList_nil ⟨rfl, _, _, hs0, (.c (.c .r)), hs, rfl⟩
   intro a_ w_ R_ rest_ vs46 hm hs ht hx
   replace hs : St _ _ _ (feet [blk g22 [.int .i64 (1), .int .i64 (eb.id), .int .i64 (IntKind.i64.wrap (eb.p0 - ea.p0)), .int .i64 (IntKind.i64.wrap (eb.p1 - ea.p1)), .int .i64 (0), .int .i64 (IntKind.i64.wrap (eb.v0 - ea.v0)), .int .i64 (0), .int .i64 (0), .int .u16 ((((eb.a - ea.a).toNat : Nat) : Int))] 25]) [blk g22 [.int .i64 (1), .int .i64 (eb.id), .int .i64 (IntKind.i64.wrap (eb.p0 - ea.p0)), .int .i64 (IntKind.i64.wrap (eb.p1 - ea.p1)), .int .i64 (0), .int .i64 (IntKind.i64.wrap (eb.v0 - ea.v0)), .int .i64 (0), .int .i64 (0), .int .u16 ((((eb.a - ea.a).toNat : Nat) : Int))] 25] _ _ := hs
   have hm0 := hm.mid
   have t9 := ht 9 (twB_spec 13 _ (by kernel_rfl))
   have e9 : _ = some (vs46 9) := t9.val rfl
   rw [show vs46 9 = .int .i64 (IntKind.i64.wrap (eb.v1 - ea.v1)) from t9.2.1] at e9
   replace hs := hs.learn e9
   have t11 := ht 11 (twB_spec 13 _ (by kernel_rfl))
   have e11 : _ = some (vs46 11) := t11.val rfl
   rw [show vs46 11 = .pointer (some ⟨g22, 6, none⟩) from t11.2.1] at e11
   replace hs := hs.learn e11
   have hs0 := hs.bare
   refine st_stB hs rfl rfl .z (.s (.s (.s (.s (.s (.s .z)))))) rfl Try.sizeOf2 ?_; clear hs; intro a w hs
   exact wpList_nil ⟨rfl, .tuple #[], _, hs0, (.c (.c .r)), hs, trivial⟩
  clear hs w a; intro a w vs46 hs hf
  replace hs : St _ _ _ _ [blk g5 [.int .i64 (0), .int .i64 (0), .int .i64 (0), .int .i64 (0), .int .i64 (0), .int .i64 (0), .int .i64 (0), .int .i64 (0), .int .u16 (0)] 25, blk g4 [.int .i64 (eb.id), .int .i64 (eb.p0), .int .i64 (eb.p1), .int .i64 (eb.p2), .int .i64 (eb.v0), .int .i64 (eb.v1), .int .i64 (eb.v2), .int .u16 ((((eb.a).toNat : Nat) : Int)), .int .u8 ((((eb.g).toNat : Nat) : Int))] 54, blk g3 [.int .i64 (ea.id), .int .i64 (ea.p0), .int .i64 (ea.p1), .int .i64 (ea.p2), .int .i64 (ea.v0), .int .i64 (ea.v1), .int .i64 (ea.v2), .int .u16 ((((ea.a).toNat : Nat) : Int)), .int .u8 ((((ea.g).toNat : Nat) : Int))] 54, blk g22 [.int .i64 (1), .int .i64 (eb.id), .int .i64 (IntKind.i64.wrap (eb.p0 - ea.p0)), .int .i64 (IntKind.i64.wrap (eb.p1 - ea.p1)), .int .i64 (0), .int .i64 (IntKind.i64.wrap (eb.v0 - ea.v0)), .int .i64 (IntKind.i64.wrap (eb.v1 - ea.v1)), .int .i64 (0), .int .u16 ((((eb.a - ea.a).toNat : Nat) : Int))] 25] _ _ := hs
  clear hf
  refine in_n ?_
  refine then_n (hK42 _ _ ?_)
  refine wp_region_lit ?_
  refine st_mv hs rfl rfl ?_; clear hs w a; intro a w hs
  refine st_addR hs rfl rfl (by omega) rfl ?_; clear hs w a; intro a w hs
  rw [show (1 + 1 : Int) = 2 by rfl] at hs
  refine st_as hs rfl rfl ?_; clear hs w a; intro a w hs
  refine wpList_nil ?_
  refine then_n ?_
  refine rounds_in ?_
  refine wp_seq_k fun K47 hK48 => ?_
  refine wp_seq_k fun K49 hK50 => ?_
  refine wp_region_lit ?_
  refine st_mv hs rfl rfl ?_; clear hs w a; intro a w hs
  refine st_lss hs rfl rfl rfl ?_; clear hs w a; intro a w hs
  rw [show (decide ((2 : Int) < 3)) = true from by decide] at hs
  refine wpList_nil ?_
  refine then_n (hK50 _ _ ?_)
  refine wp_cond_true (hs.ev rfl) ?_
  refine wp_skip ?_
  refine then_n (hK48 _ _ ?_)
  refine wp_seq_k fun K51 hK52 => ?_
  refine wp_block ?_
  refine wp_seq_k fun K53 hK54 => ?_
  replace hs := hs.sub (F' := [(35, .bool (true)), (34, .int .i64 (2)), (7, .int .i64 (2)), (37, .int .i64 (2)), (36, .int .i64 (1)), (6, .pointer (some ⟨g22, 0, none⟩)), (5, .bool (false)), (4, .pointer (some ⟨g5, 0, none⟩)), (3, .pointer (some ⟨g4, 0, none⟩)), (2, .pointer (some ⟨g3, 0, none⟩))]) (.c rfl (.c rfl (.c rfl (.c rfl (.c rfl (.c rfl (.c rfl (.c rfl (.c rfl (.c rfl .n))))))))))
  refine wp_drawG (M0 := [blk g5 [.int .i64 (0), .int .i64 (0), .int .i64 (0), .int .i64 (0), .int .i64 (0), .int .i64 (0), .int .i64 (0), .int .i64 (0), .int .u16 (0)] 25, blk g4 [.int .i64 (eb.id), .int .i64 (eb.p0), .int .i64 (eb.p1), .int .i64 (eb.p2), .int .i64 (eb.v0), .int .i64 (eb.v1), .int .i64 (eb.v2), .int .u16 ((((eb.a).toNat : Nat) : Int)), .int .u8 ((((eb.g).toNat : Nat) : Int))] 54, blk g3 [.int .i64 (ea.id), .int .i64 (ea.p0), .int .i64 (ea.p1), .int .i64 (ea.p2), .int .i64 (ea.v0), .int .i64 (ea.v1), .int .i64 (ea.v2), .int .u16 ((((ea.a).toNat : Nat) : Int)), .int .u8 ((((ea.g).toNat : Nat) : Int))] 54]) (Ds := [⟨[], [], [], fun vs55 => vs55 0 = .int .i64 (2), fun vs55 => []⟩, ⟨[], [], [], fun vs55 => vs55 1 = .int .i64 (2), fun vs55 => []⟩, ⟨[], [], [], fun vs55 => vs55 2 = .pointer (some ⟨g4, 1, none⟩), fun vs55 => []⟩, ⟨[], [], [], fun vs55 => vs55 3 = .pointer (some ⟨g4, 3, none⟩), fun vs55 => []⟩, ⟨[], [], [], fun vs55 => vs55 4 = .int .i64 (eb.p2), fun vs55 => []⟩, ⟨[], [], [], fun vs55 => vs55 5 = .int .i64 (2), fun vs55 => []⟩, ⟨[], [], [], fun vs55 => vs55 6 = .pointer (some ⟨g3, 1, none⟩), fun vs55 => []⟩, ⟨[], [], [], fun vs55 => vs55 7 = .pointer (some ⟨g3, 3, none⟩), fun vs55 => []⟩, ⟨[], [], [], fun vs55 => vs55 8 = .int .i64 (ea.p2), fun vs55 => []⟩, ⟨[], [], [], fun vs55 => vs55 9 = .int .i64 (IntKind.i64.wrap (eb.p2 - ea.p2)), fun vs55 => []⟩, ⟨[], [], [], fun vs55 => vs55 10 = .pointer (some ⟨g22, 2, none⟩), fun vs55 => []⟩, ⟨[], [], [], fun vs55 => vs55 11 = .pointer (some ⟨g22, 4, none⟩), fun vs55 => []⟩, ⟨[blk g22 [.int .i64 (1), .int .i64 (eb.id), .int .i64 (IntKind.i64.wrap (eb.p0 - ea.p0)), .int .i64 (IntKind.i64.wrap (eb.p1 - ea.p1)), .int .i64 (0), .int .i64 (IntKind.i64.wrap (eb.v0 - ea.v0)), .int .i64 (IntKind.i64.wrap (eb.v1 - ea.v1)), .int .i64 (0), .int .u16 ((((eb.a - ea.a).toNat : Nat) : Int))] 25], [], [], fun vs55 => True, fun vs55 => [blk g22 [.int .i64 (1), .int .i64 (eb.id), .int .i64 (IntKind.i64.wrap (eb.p0 - ea.p0)), .int .i64 (IntKind.i64.wrap (eb.p1 - ea.p1)), .int .i64 (IntKind.i64.wrap (eb.p2 - ea.p2)), .int .i64 (IntKind.i64.wrap (eb.v0 - ea.v0)), .int .i64 (IntKind.i64.wrap (eb.v1 - ea.v1)), .int .i64 (0), .int .u16 ((((eb.a - ea.a).toNat : Nat) : Int))] 25]⟩]) (by kernel_rfl) hs rfl (.c (.s (.s (.s .z))) .n) (by kernel_rfl) (by kernel_rfl) ?_ ?_
  ·
   refine (.c ?_ (.c ?_ (.c ?_ (.c ?_ (.c ?_ (.c ?_ (.c ?_ (.c ?_ (.c ?_ (.c ?_ (.c ?_ (.c ?_ (.c ?_ .n)))))))))))))
   ·
    intro a_ w_ R_ rest_ vs55 hm hs ht hx
    replace hs : St _ _ _ (feet []) [] _ _ := hs
    have hm0 := hm.mid
    have hs0 := hs.bare
    refine st_mv hs rfl rfl ?_; clear hs; intro a w hs
    exact wpList_nil ⟨rfl, _, _, hs0, .r, hs, rfl⟩
   ·
    intro a_ w_ R_ rest_ vs55 hm hs ht hx
    replace hs : St _ _ _ (feet []) [] _ _ := hs
    have hm0 := hm.mid
    have hs0 := hs.bare
    refine st_mv hs rfl rfl ?_; clear hs; intro a w hs
    exact wpList_nil ⟨rfl, _, _, hs0, .r, hs, rfl⟩
   ·
    intro a_ w_ R_ rest_ vs55 hm hs ht hx
    replace hs : St _ _ _ (feet []) [] _ _ := hs
    have hm0 := hm.mid
    have hs0 := hs.bare
    refine st_fa hs rfl Try.underlying54 rfl Try.sizeOf22 (by decide) (o := 1) rfl rfl ?_; clear hs; intro a w hs
    exact wpList_nil ⟨rfl, _, _, hs0, .r, hs, rfl⟩
   ·
    intro a_ w_ R_ rest_ vs55 hm hs ht hx
    replace hs : St _ _ _ (feet []) [] _ _ := hs
    have hm0 := hm.mid
    have t1 := ht 1 (twB_spec 13 _ (by kernel_rfl))
    have e1 : _ = some (vs55 1) := t1.val rfl
    rw [show vs55 1 = .int .i64 (2) from t1.2.1] at e1
    replace hs := hs.learn e1
    have t2 := ht 2 (twB_spec 13 _ (by kernel_rfl))
    have e2 : _ = some (vs55 2) := t2.val rfl
    rw [show vs55 2 = .pointer (some ⟨g4, 1, none⟩) from t2.2.1] at e2
    replace hs := hs.learn e2
    have hs0 := hs.bare
    refine st_iaB hs rfl rfl Try.underlying22 (by decide) (by decide) Try.sizeOf2 (o' := 3) rfl rfl ?_; clear hs; intro a w hs
    exact wpList_nil ⟨rfl, _, _, hs0, (.c (.c .r)), hs, rfl⟩
   ·
    intro a_ w_ R_ rest_ vs55 hm hs ht hx
    replace hs : St _ _ _ (feet []) [] _ _ := hs
    have hm0 := hm.mid
    have t3 := ht 3 (twB_spec 13 _ (by kernel_rfl))
    have e3 : _ = some (vs55 3) := t3.val rfl
    rw [show vs55 3 = .pointer (some ⟨g4, 3, none⟩) from t3.2.1] at e3
    replace hs := hs.learn e3
    have hs0 := hs.bare
    refine st_ldE hs rfl (hm0.del (.s .z)) (.s (.s (.s .z))) Try.isAgg2 rfl ?_; clear hs; intro a w hs
    exact wpList_nil ⟨rfl, _, _, hs0, (.c .r), hs, rfl⟩
   ·
    intro a_ w_ R_ rest_ vs55 hm hs ht hx
    replace hs : St _ _ _ (feet []) [] _ _ := hs
    have hm0 := hm.mid
    have hs0 := hs.bare
    refine st_mv hs rfl rfl ?_; clear hs; intro a w hs
    exact wpList_nil ⟨rfl, _, _, hs0, .r, hs, rfl⟩
   ·
    intro a_ w_ R_ rest_ vs55 hm hs ht hx
    replace hs : St _ _ _ (feet []) [] _ _ := hs
    have hm0 := hm.mid
    have hs0 := hs.bare
    refine st_fa hs rfl Try.underlying54 rfl Try.sizeOf22 (by decide) (o := 1) rfl rfl ?_; clear hs; intro a w hs
    exact wpList_nil ⟨rfl, _, _, hs0, .r, hs, rfl⟩
   ·
    intro a_ w_ R_ rest_ vs55 hm hs ht hx
    replace hs : St _ _ _ (feet []) [] _ _ := hs
    have hm0 := hm.mid
    have t5 := ht 5 (twB_spec 13 _ (by kernel_rfl))
    have e5 : _ = some (vs55 5) := t5.val rfl
    rw [show vs55 5 = .int .i64 (2) from t5.2.1] at e5
    replace hs := hs.learn e5
    have t6 := ht 6 (twB_spec 13 _ (by kernel_rfl))
    have e6 : _ = some (vs55 6) := t6.val rfl
    rw [show vs55 6 = .pointer (some ⟨g3, 1, none⟩) from t6.2.1] at e6
    replace hs := hs.learn e6
    have hs0 := hs.bare
    refine st_iaB hs rfl rfl Try.underlying22 (by decide) (by decide) Try.sizeOf2 (o' := 3) rfl rfl ?_; clear hs; intro a w hs
    exact wpList_nil ⟨rfl, _, _, hs0, (.c (.c .r)), hs, rfl⟩
   ·
    intro a_ w_ R_ rest_ vs55 hm hs ht hx
    replace hs : St _ _ _ (feet []) [] _ _ := hs
    have hm0 := hm.mid
    have t7 := ht 7 (twB_spec 13 _ (by kernel_rfl))
    have e7 : _ = some (vs55 7) := t7.val rfl
    rw [show vs55 7 = .pointer (some ⟨g3, 3, none⟩) from t7.2.1] at e7
    replace hs := hs.learn e7
    have hs0 := hs.bare
    refine st_ldE hs rfl (hm0.del (.s (.s .z))) (.s (.s (.s .z))) Try.isAgg2 rfl ?_; clear hs; intro a w hs
    exact wpList_nil ⟨rfl, _, _, hs0, (.c .r), hs, rfl⟩
   ·
    intro a_ w_ R_ rest_ vs55 hm hs ht hx
    replace hs : St _ _ _ (feet []) [] _ _ := hs
    have hm0 := hm.mid
    have t4 := ht 4 (twB_spec 13 _ (by kernel_rfl))
    have e4 : _ = some (vs55 4) := t4.val rfl
    rw [show vs55 4 = .int .i64 (eb.p2) from t4.2.1] at e4
    replace hs := hs.learn e4
    have t8 := ht 8 (twB_spec 13 _ (by kernel_rfl))
    have e8 : _ = some (vs55 8) := t8.val rfl
    rw [show vs55 8 = .int .i64 (ea.p2) from t8.2.1] at e8
    replace hs := hs.learn e8
    have hs0 := hs.bare
    refine st_sub hs rfl rfl rfl ?_; clear hs; intro a w hs
    exact wpList_nil ⟨rfl, _, _, hs0, (.c (.c .r)), hs, rfl⟩
   ·
    intro a_ w_ R_ rest_ vs55 hm hs ht hx
    replace hs : St _ _ _ (feet []) [] _ _ := hs
    have hm0 := hm.mid
    have hs0 := hs.bare
    refine st_fa hs rfl Try.underlying25 rfl Try.sizeOf22 (by decide) (o := 2) rfl rfl ?_; clear hs; intro a w hs
    exact wpList_nil ⟨rfl, _, _, hs0, .r, hs, rfl⟩
   ·
    intro a_ w_ R_ rest_ vs55 hm hs ht hx
    replace hs : St _ _ _ (feet []) [] _ _ := hs
    have hm0 := hm.mid
    have t0 := ht 0 (twB_spec 13 _ (by kernel_rfl))
    have e0 : _ = some (vs55 0) := t0.val rfl
    rw [show vs55 0 = .int .i64 (2) from t0.2.1] at e0
    replace hs := hs.learn e0
    have t10 := ht 10 (twB_spec 13 _ (by kernel_rfl))
    have e10 : _ = some (vs55 10) := t10.val rfl
    rw [show vs55 10 = .pointer (some ⟨g22, 2, none⟩) from t10.2.1] at e10
    replace hs := hs.learn e10
    have hs0 := hs.bare
    refine st_iaB hs rfl rfl Try.underlying22 (by decide) (by decide) Try.sizeOf2 (o' := 4) rfl rfl ?_; clear hs; intro a w hs
    exact wpList_nil ⟨rfl, _, _, hs0, (.c (.c .r)), hs, rfl⟩
   intro a_ w_ R_ rest_ vs55 hm hs ht hx
   replace hs : St _ _ _ (feet [blk g22 [.int .i64 (1), .int .i64 (eb.id), .int .i64 (IntKind.i64.wrap (eb.p0 - ea.p0)), .int .i64 (IntKind.i64.wrap (eb.p1 - ea.p1)), .int .i64 (0), .int .i64 (IntKind.i64.wrap (eb.v0 - ea.v0)), .int .i64 (IntKind.i64.wrap (eb.v1 - ea.v1)), .int .i64 (0), .int .u16 ((((eb.a - ea.a).toNat : Nat) : Int))] 25]) [blk g22 [.int .i64 (1), .int .i64 (eb.id), .int .i64 (IntKind.i64.wrap (eb.p0 - ea.p0)), .int .i64 (IntKind.i64.wrap (eb.p1 - ea.p1)), .int .i64 (0), .int .i64 (IntKind.i64.wrap (eb.v0 - ea.v0)), .int .i64 (IntKind.i64.wrap (eb.v1 - ea.v1)), .int .i64 (0), .int .u16 ((((eb.a - ea.a).toNat : Nat) : Int))] 25] _ _ := hs
   have hm0 := hm.mid
   have t9 := ht 9 (twB_spec 13 _ (by kernel_rfl))
   have e9 : _ = some (vs55 9) := t9.val rfl
   rw [show vs55 9 = .int .i64 (IntKind.i64.wrap (eb.p2 - ea.p2)) from t9.2.1] at e9
   replace hs := hs.learn e9
   have t11 := ht 11 (twB_spec 13 _ (by kernel_rfl))
   have e11 : _ = some (vs55 11) := t11.val rfl
   rw [show vs55 11 = .pointer (some ⟨g22, 4, none⟩) from t11.2.1] at e11
   replace hs := hs.learn e11
   have hs0 := hs.bare
   refine st_stB hs rfl rfl .z (.s (.s (.s (.s .z)))) rfl Try.sizeOf2 ?_; clear hs; intro a w hs
   exact wpList_nil ⟨rfl, .tuple #[], _, hs0, (.c (.c .r)), hs, trivial⟩
  clear hs w a; intro a w vs55 hs hf
  replace hs : St _ _ _ _ [blk g5 [.int .i64 (0), .int .i64 (0), .int .i64 (0), .int .i64 (0), .int .i64 (0), .int .i64 (0), .int .i64 (0), .int .i64 (0), .int .u16 (0)] 25, blk g4 [.int .i64 (eb.id), .int .i64 (eb.p0), .int .i64 (eb.p1), .int .i64 (eb.p2), .int .i64 (eb.v0), .int .i64 (eb.v1), .int .i64 (eb.v2), .int .u16 ((((eb.a).toNat : Nat) : Int)), .int .u8 ((((eb.g).toNat : Nat) : Int))] 54, blk g3 [.int .i64 (ea.id), .int .i64 (ea.p0), .int .i64 (ea.p1), .int .i64 (ea.p2), .int .i64 (ea.v0), .int .i64 (ea.v1), .int .i64 (ea.v2), .int .u16 ((((ea.a).toNat : Nat) : Int)), .int .u8 ((((ea.g).toNat : Nat) : Int))] 54, blk g22 [.int .i64 (1), .int .i64 (eb.id), .int .i64 (IntKind.i64.wrap (eb.p0 - ea.p0)), .int .i64 (IntKind.i64.wrap (eb.p1 - ea.p1)), .int .i64 (IntKind.i64.wrap (eb.p2 - ea.p2)), .int .i64 (IntKind.i64.wrap (eb.v0 - ea.v0)), .int .i64 (IntKind.i64.wrap (eb.v1 - ea.v1)), .int .i64 (0), .int .u16 ((((eb.a - ea.a).toNat : Nat) : Int))] 25] _ _ := hs
  clear hf
  refine then_n (hK54 _ _ ?_)
  replace hs := hs.sub (F' := [(35, .bool (true)), (34, .int .i64 (2)), (7, .int .i64 (2)), (37, .int .i64 (2)), (36, .int .i64 (1)), (6, .pointer (some ⟨g22, 0, none⟩)), (5, .bool (false)), (4, .pointer (some ⟨g5, 0, none⟩)), (3, .pointer (some ⟨g4, 0, none⟩)), (2, .pointer (some ⟨g3, 0, none⟩))]) (.c rfl (.c rfl (.c rfl (.c rfl (.c rfl (.c rfl (.c rfl (.c rfl (.c rfl (.c rfl .n))))))))))
  refine wp_drawG (M0 := [blk g5 [.int .i64 (0), .int .i64 (0), .int .i64 (0), .int .i64 (0), .int .i64 (0), .int .i64 (0), .int .i64 (0), .int .i64 (0), .int .u16 (0)] 25, blk g4 [.int .i64 (eb.id), .int .i64 (eb.p0), .int .i64 (eb.p1), .int .i64 (eb.p2), .int .i64 (eb.v0), .int .i64 (eb.v1), .int .i64 (eb.v2), .int .u16 ((((eb.a).toNat : Nat) : Int)), .int .u8 ((((eb.g).toNat : Nat) : Int))] 54, blk g3 [.int .i64 (ea.id), .int .i64 (ea.p0), .int .i64 (ea.p1), .int .i64 (ea.p2), .int .i64 (ea.v0), .int .i64 (ea.v1), .int .i64 (ea.v2), .int .u16 ((((ea.a).toNat : Nat) : Int)), .int .u8 ((((ea.g).toNat : Nat) : Int))] 54]) (Ds := [⟨[], [], [], fun vs56 => vs56 0 = .int .i64 (2), fun vs56 => []⟩, ⟨[], [], [], fun vs56 => vs56 1 = .int .i64 (2), fun vs56 => []⟩, ⟨[], [], [], fun vs56 => vs56 2 = .pointer (some ⟨g4, 4, none⟩), fun vs56 => []⟩, ⟨[], [], [], fun vs56 => vs56 3 = .pointer (some ⟨g4, 6, none⟩), fun vs56 => []⟩, ⟨[], [], [], fun vs56 => vs56 4 = .int .i64 (eb.v2), fun vs56 => []⟩, ⟨[], [], [], fun vs56 => vs56 5 = .int .i64 (2), fun vs56 => []⟩, ⟨[], [], [], fun vs56 => vs56 6 = .pointer (some ⟨g3, 4, none⟩), fun vs56 => []⟩, ⟨[], [], [], fun vs56 => vs56 7 = .pointer (some ⟨g3, 6, none⟩), fun vs56 => []⟩, ⟨[], [], [], fun vs56 => vs56 8 = .int .i64 (ea.v2), fun vs56 => []⟩, ⟨[], [], [], fun vs56 => vs56 9 = .int .i64 (IntKind.i64.wrap (eb.v2 - ea.v2)), fun vs56 => []⟩, ⟨[], [], [], fun vs56 => vs56 10 = .pointer (some ⟨g22, 5, none⟩), fun vs56 => []⟩, ⟨[], [], [], fun vs56 => vs56 11 = .pointer (some ⟨g22, 7, none⟩), fun vs56 => []⟩, ⟨[blk g22 [.int .i64 (1), .int .i64 (eb.id), .int .i64 (IntKind.i64.wrap (eb.p0 - ea.p0)), .int .i64 (IntKind.i64.wrap (eb.p1 - ea.p1)), .int .i64 (IntKind.i64.wrap (eb.p2 - ea.p2)), .int .i64 (IntKind.i64.wrap (eb.v0 - ea.v0)), .int .i64 (IntKind.i64.wrap (eb.v1 - ea.v1)), .int .i64 (0), .int .u16 ((((eb.a - ea.a).toNat : Nat) : Int))] 25], [], [], fun vs56 => True, fun vs56 => [blk g22 [.int .i64 (1), .int .i64 (eb.id), .int .i64 (IntKind.i64.wrap (eb.p0 - ea.p0)), .int .i64 (IntKind.i64.wrap (eb.p1 - ea.p1)), .int .i64 (IntKind.i64.wrap (eb.p2 - ea.p2)), .int .i64 (IntKind.i64.wrap (eb.v0 - ea.v0)), .int .i64 (IntKind.i64.wrap (eb.v1 - ea.v1)), .int .i64 (IntKind.i64.wrap (eb.v2 - ea.v2)), .int .u16 ((((eb.a - ea.a).toNat : Nat) : Int))] 25]⟩]) (by kernel_rfl) hs rfl (.c (.s (.s (.s .z))) .n) (by kernel_rfl) (by kernel_rfl) ?_ ?_
  ·
   refine (.c ?_ (.c ?_ (.c ?_ (.c ?_ (.c ?_ (.c ?_ (.c ?_ (.c ?_ (.c ?_ (.c ?_ (.c ?_ (.c ?_ (.c ?_ .n)))))))))))))
   ·
    intro a_ w_ R_ rest_ vs56 hm hs ht hx
    replace hs : St _ _ _ (feet []) [] _ _ := hs
    have hm0 := hm.mid
    have hs0 := hs.bare
    refine st_mv hs rfl rfl ?_; clear hs; intro a w hs
    exact wpList_nil ⟨rfl, _, _, hs0, .r, hs, rfl⟩
   ·
    intro a_ w_ R_ rest_ vs56 hm hs ht hx
    replace hs : St _ _ _ (feet []) [] _ _ := hs
    have hm0 := hm.mid
    have hs0 := hs.bare
    refine st_mv hs rfl rfl ?_; clear hs; intro a w hs
    exact wpList_nil ⟨rfl, _, _, hs0, .r, hs, rfl⟩
   ·
    intro a_ w_ R_ rest_ vs56 hm hs ht hx
    replace hs : St _ _ _ (feet []) [] _ _ := hs
    have hm0 := hm.mid
    have hs0 := hs.bare
    refine st_fa hs rfl Try.underlying54 rfl Try.sizeOf22 (by decide) (o := 4) rfl rfl ?_; clear hs; intro a w hs
    exact wpList_nil ⟨rfl, _, _, hs0, .r, hs, rfl⟩
   ·
    intro a_ w_ R_ rest_ vs56 hm hs ht hx
    replace hs : St _ _ _ (feet []) [] _ _ := hs
    have hm0 := hm.mid
    have t1 := ht 1 (twB_spec 13 _ (by kernel_rfl))
    have e1 : _ = some (vs56 1) := t1.val rfl
    rw [show vs56 1 = .int .i64 (2) from t1.2.1] at e1
    replace hs := hs.learn e1
    have t2 := ht 2 (twB_spec 13 _ (by kernel_rfl))
    have e2 : _ = some (vs56 2) := t2.val rfl
    rw [show vs56 2 = .pointer (some ⟨g4, 4, none⟩) from t2.2.1] at e2
    replace hs := hs.learn e2
    have hs0 := hs.bare
    refine st_iaB hs rfl rfl Try.underlying22 (by decide) (by decide) Try.sizeOf2 (o' := 6) rfl rfl ?_; clear hs; intro a w hs
    exact wpList_nil ⟨rfl, _, _, hs0, (.c (.c .r)), hs, rfl⟩
   ·
    intro a_ w_ R_ rest_ vs56 hm hs ht hx
    replace hs : St _ _ _ (feet []) [] _ _ := hs
    have hm0 := hm.mid
    have t3 := ht 3 (twB_spec 13 _ (by kernel_rfl))
    have e3 : _ = some (vs56 3) := t3.val rfl
    rw [show vs56 3 = .pointer (some ⟨g4, 6, none⟩) from t3.2.1] at e3
    replace hs := hs.learn e3
    have hs0 := hs.bare
    refine st_ldE hs rfl (hm0.del (.s .z)) (.s (.s (.s (.s (.s (.s .z)))))) Try.isAgg2 rfl ?_; clear hs; intro a w hs
    exact wpList_nil ⟨rfl, _, _, hs0, (.c .r), hs, rfl⟩
   ·
    intro a_ w_ R_ rest_ vs56 hm hs ht hx
    replace hs : St _ _ _ (feet []) [] _ _ := hs
    have hm0 := hm.mid
    have hs0 := hs.bare
    refine st_mv hs rfl rfl ?_; clear hs; intro a w hs
    exact wpList_nil ⟨rfl, _, _, hs0, .r, hs, rfl⟩
   ·
    intro a_ w_ R_ rest_ vs56 hm hs ht hx
    replace hs : St _ _ _ (feet []) [] _ _ := hs
    have hm0 := hm.mid
    have hs0 := hs.bare
    refine st_fa hs rfl Try.underlying54 rfl Try.sizeOf22 (by decide) (o := 4) rfl rfl ?_; clear hs; intro a w hs
    exact wpList_nil ⟨rfl, _, _, hs0, .r, hs, rfl⟩
   ·
    intro a_ w_ R_ rest_ vs56 hm hs ht hx
    replace hs : St _ _ _ (feet []) [] _ _ := hs
    have hm0 := hm.mid
    have t5 := ht 5 (twB_spec 13 _ (by kernel_rfl))
    have e5 : _ = some (vs56 5) := t5.val rfl
    rw [show vs56 5 = .int .i64 (2) from t5.2.1] at e5
    replace hs := hs.learn e5
    have t6 := ht 6 (twB_spec 13 _ (by kernel_rfl))
    have e6 : _ = some (vs56 6) := t6.val rfl
    rw [show vs56 6 = .pointer (some ⟨g3, 4, none⟩) from t6.2.1] at e6
    replace hs := hs.learn e6
    have hs0 := hs.bare
    refine st_iaB hs rfl rfl Try.underlying22 (by decide) (by decide) Try.sizeOf2 (o' := 6) rfl rfl ?_; clear hs; intro a w hs
    exact wpList_nil ⟨rfl, _, _, hs0, (.c (.c .r)), hs, rfl⟩
   ·
    intro a_ w_ R_ rest_ vs56 hm hs ht hx
    replace hs : St _ _ _ (feet []) [] _ _ := hs
    have hm0 := hm.mid
    have t7 := ht 7 (twB_spec 13 _ (by kernel_rfl))
    have e7 : _ = some (vs56 7) := t7.val rfl
    rw [show vs56 7 = .pointer (some ⟨g3, 6, none⟩) from t7.2.1] at e7
    replace hs := hs.learn e7
    have hs0 := hs.bare
    refine st_ldE hs rfl (hm0.del (.s (.s .z))) (.s (.s (.s (.s (.s (.s .z)))))) Try.isAgg2 rfl ?_; clear hs; intro a w hs
    exact wpList_nil ⟨rfl, _, _, hs0, (.c .r), hs, rfl⟩
   ·
    intro a_ w_ R_ rest_ vs56 hm hs ht hx
    replace hs : St _ _ _ (feet []) [] _ _ := hs
    have hm0 := hm.mid
    have t4 := ht 4 (twB_spec 13 _ (by kernel_rfl))
    have e4 : _ = some (vs56 4) := t4.val rfl
    rw [show vs56 4 = .int .i64 (eb.v2) from t4.2.1] at e4
    replace hs := hs.learn e4
    have t8 := ht 8 (twB_spec 13 _ (by kernel_rfl))
    have e8 : _ = some (vs56 8) := t8.val rfl
    rw [show vs56 8 = .int .i64 (ea.v2) from t8.2.1] at e8
    replace hs := hs.learn e8
    have hs0 := hs.bare
    refine st_sub hs rfl rfl rfl ?_; clear hs; intro a w hs
    exact wpList_nil ⟨rfl, _, _, hs0, (.c (.c .r)), hs, rfl⟩
   ·
    intro a_ w_ R_ rest_ vs56 hm hs ht hx
    replace hs : St _ _ _ (feet []) [] _ _ := hs
    have hm0 := hm.mid
    have hs0 := hs.bare
    refine st_fa hs rfl Try.underlying25 rfl Try.sizeOf22 (by decide) (o := 5) rfl rfl ?_; clear hs; intro a w hs
    exact wpList_nil ⟨rfl, _, _, hs0, .r, hs, rfl⟩
   ·
    intro a_ w_ R_ rest_ vs56 hm hs ht hx
    replace hs : St _ _ _ (feet []) [] _ _ := hs
    have hm0 := hm.mid
    have t0 := ht 0 (twB_spec 13 _ (by kernel_rfl))
    have e0 : _ = some (vs56 0) := t0.val rfl
    rw [show vs56 0 = .int .i64 (2) from t0.2.1] at e0
    replace hs := hs.learn e0
    have t10 := ht 10 (twB_spec 13 _ (by kernel_rfl))
    have e10 : _ = some (vs56 10) := t10.val rfl
    rw [show vs56 10 = .pointer (some ⟨g22, 5, none⟩) from t10.2.1] at e10
    replace hs := hs.learn e10
    have hs0 := hs.bare
    refine st_iaB hs rfl rfl Try.underlying22 (by decide) (by decide) Try.sizeOf2 (o' := 7) rfl rfl ?_; clear hs; intro a w hs
    exact wpList_nil ⟨rfl, _, _, hs0, (.c (.c .r)), hs, rfl⟩
   intro a_ w_ R_ rest_ vs56 hm hs ht hx
   replace hs : St _ _ _ (feet [blk g22 [.int .i64 (1), .int .i64 (eb.id), .int .i64 (IntKind.i64.wrap (eb.p0 - ea.p0)), .int .i64 (IntKind.i64.wrap (eb.p1 - ea.p1)), .int .i64 (IntKind.i64.wrap (eb.p2 - ea.p2)), .int .i64 (IntKind.i64.wrap (eb.v0 - ea.v0)), .int .i64 (IntKind.i64.wrap (eb.v1 - ea.v1)), .int .i64 (0), .int .u16 ((((eb.a - ea.a).toNat : Nat) : Int))] 25]) [blk g22 [.int .i64 (1), .int .i64 (eb.id), .int .i64 (IntKind.i64.wrap (eb.p0 - ea.p0)), .int .i64 (IntKind.i64.wrap (eb.p1 - ea.p1)), .int .i64 (IntKind.i64.wrap (eb.p2 - ea.p2)), .int .i64 (IntKind.i64.wrap (eb.v0 - ea.v0)), .int .i64 (IntKind.i64.wrap (eb.v1 - ea.v1)), .int .i64 (0), .int .u16 ((((eb.a - ea.a).toNat : Nat) : Int))] 25] _ _ := hs
   have hm0 := hm.mid
   have t9 := ht 9 (twB_spec 13 _ (by kernel_rfl))
   have e9 : _ = some (vs56 9) := t9.val rfl
   rw [show vs56 9 = .int .i64 (IntKind.i64.wrap (eb.v2 - ea.v2)) from t9.2.1] at e9
   replace hs := hs.learn e9
   have t11 := ht 11 (twB_spec 13 _ (by kernel_rfl))
   have e11 : _ = some (vs56 11) := t11.val rfl
   rw [show vs56 11 = .pointer (some ⟨g22, 7, none⟩) from t11.2.1] at e11
   replace hs := hs.learn e11
   have hs0 := hs.bare
   refine st_stB hs rfl rfl .z (.s (.s (.s (.s (.s (.s (.s .z))))))) rfl Try.sizeOf2 ?_; clear hs; intro a w hs
   exact wpList_nil ⟨rfl, .tuple #[], _, hs0, (.c (.c .r)), hs, trivial⟩
  clear hs w a; intro a w vs56 hs hf
  replace hs : St _ _ _ _ [blk g5 [.int .i64 (0), .int .i64 (0), .int .i64 (0), .int .i64 (0), .int .i64 (0), .int .i64 (0), .int .i64 (0), .int .i64 (0), .int .u16 (0)] 25, blk g4 [.int .i64 (eb.id), .int .i64 (eb.p0), .int .i64 (eb.p1), .int .i64 (eb.p2), .int .i64 (eb.v0), .int .i64 (eb.v1), .int .i64 (eb.v2), .int .u16 ((((eb.a).toNat : Nat) : Int)), .int .u8 ((((eb.g).toNat : Nat) : Int))] 54, blk g3 [.int .i64 (ea.id), .int .i64 (ea.p0), .int .i64 (ea.p1), .int .i64 (ea.p2), .int .i64 (ea.v0), .int .i64 (ea.v1), .int .i64 (ea.v2), .int .u16 ((((ea.a).toNat : Nat) : Int)), .int .u8 ((((ea.g).toNat : Nat) : Int))] 54, blk g22 [.int .i64 (1), .int .i64 (eb.id), .int .i64 (IntKind.i64.wrap (eb.p0 - ea.p0)), .int .i64 (IntKind.i64.wrap (eb.p1 - ea.p1)), .int .i64 (IntKind.i64.wrap (eb.p2 - ea.p2)), .int .i64 (IntKind.i64.wrap (eb.v0 - ea.v0)), .int .i64 (IntKind.i64.wrap (eb.v1 - ea.v1)), .int .i64 (IntKind.i64.wrap (eb.v2 - ea.v2)), .int .u16 ((((eb.a - ea.a).toNat : Nat) : Int))] 25] _ _ := hs
  clear hf
  refine in_n ?_
  refine then_n (hK52 _ _ ?_)
  refine wp_region_lit ?_
  refine st_mv hs rfl rfl ?_; clear hs w a; intro a w hs
  refine st_addR hs rfl rfl (by omega) rfl ?_; clear hs w a; intro a w hs
  rw [show (2 + 1 : Int) = 3 by rfl] at hs
  refine st_as hs rfl rfl ?_; clear hs w a; intro a w hs
  refine wpList_nil ?_
  refine then_n ?_
  refine rounds_in ?_
  refine wp_seq_k fun K57 hK58 => ?_
  refine wp_seq_k fun K59 hK60 => ?_
  refine wp_region_lit ?_
  refine st_mv hs rfl rfl ?_; clear hs w a; intro a w hs
  refine st_lss hs rfl rfl rfl ?_; clear hs w a; intro a w hs
  rw [show (decide ((3 : Int) < 3)) = false from by decide] at hs
  refine wpList_nil ?_
  refine then_n (hK60 _ _ ?_)
  refine wp_cond_false (hs.ev rfl) ?_
  refine wp_exit ?_
  refine th_e ?_
  refine th_e ?_
  refine in_hit ?_
  refine then_n (hK24 _ _ ?_)
  refine wp_seq_k fun K61 hK62 => ?_
  refine wp_region_lit ?_
  refine st_ldBA hs rfl (.s (.s (.s .z))) (.z (.c (.c (.c (.c (.c (.c (.c (.c (.c .n)))))))))) Try.isAgg25 Try.sizeOf25 rfl ?_; clear hs w a; intro a w hs
  refine st_stBA hs rfl rfl .z (.z (.c (.c (.c (.c (.c (.c (.c (.c (.c .n)))))))))) (ones_c rfl (ones_c rfl (ones_c rfl (ones_c rfl (ones_c rfl (ones_c rfl (ones_c rfl (ones_c rfl (ones_c rfl ones_n))))))))) Try.sizeOf25 rfl ?_; clear hs w a; intro a w hs
  refine st_as hs rfl rfl ?_; clear hs w a; intro a w hs
  refine wpList_nil ?_
  refine then_n (hK62 _ _ ?_)
  refine wp_ret ?_
  exact finC2 hs rfl rfl rfl .z (.z (.c (.c (.c (.c (.c (.c (.c (.c (.c .n)))))))))) Try.isAgg25 Try.sizeOf25 (.c .z (.c .z (.c .z (.c .z .n)))) (by first | (rw [recDiff_eq (by assumption)]; exact ⟨rfl, rfl⟩) | (rw [recDiff_upd (by assumption) (by omega)]; exact ⟨rfl, rfl⟩) | (rw [recDiff_tel (by assumption) (by omega)]; exact ⟨rfl, rfl⟩))
theorem rapply_ok (ea : EntR) (r : RecR) (w0 : World) : Calls Try.prog 33 #[.agg #[.int .i64 (ea.id), .int .i64 (ea.p0), .int .i64 (ea.p1), .int .i64 (ea.p2), .int .i64 (ea.v0), .int .i64 (ea.v1), .int .i64 (ea.v2), .int .u16 ((((ea.a).toNat : Nat) : Int)), .int .u8 ((((ea.g).toNat : Nat) : Int))], .agg #[.int .i64 (r.k), .int .i64 (r.id), .int .i64 (r.p0), .int .i64 (r.p1), .int .i64 (r.p2), .int .i64 (r.v0), .int .i64 (r.v1), .int .i64 (r.v2), .int .u16 ((((r.a).toNat : Nat) : Int))]] w0 (RetV w0 (.tuple #[.agg #[.int .i64 (((entApply ea r).1).id), .int .i64 (((entApply ea r).1).p0), .int .i64 (((entApply ea r).1).p1), .int .i64 (((entApply ea r).1).p2), .int .i64 (((entApply ea r).1).v0), .int .i64 (((entApply ea r).1).v1), .int .i64 (((entApply ea r).1).v2), .int .u16 ((((((entApply ea r).1).a).toNat : Nat) : Int)), .int .u8 ((((((entApply ea r).1).g).toNat : Nat) : Int))], .int .i64 (((entApply ea r).2 : Nat) : Int)])) := by
  refine enter (F0 := [(0, .agg #[.int .i64 (ea.id), .int .i64 (ea.p0), .int .i64 (ea.p1), .int .i64 (ea.p2), .int .i64 (ea.v0), .int .i64 (ea.v1), .int .i64 (ea.v2), .int .u16 ((((ea.a).toNat : Nat) : Int)), .int .u8 ((((ea.g).toNat : Nat) : Int))]), (1, .agg #[.int .i64 (r.k), .int .i64 (r.id), .int .i64 (r.p0), .int .i64 (r.p1), .int .i64 (r.p2), .int .i64 (r.v0), .int .i64 (r.v1), .int .i64 (r.v2), .int .u16 ((((r.a).toNat : Nat) : Int))])]) Try.func33 rfl rfl rfl (.c (.c .n)) (Mem.nil _) fun a w hs => ?_
  refine wp_seq_k fun K1 hK2 => ?_
  refine wp_region_lit ?_
  refine st_box (cs := [.int .i64 (ea.id), .int .i64 (ea.p0), .int .i64 (ea.p1), .int .i64 (ea.p2), .int .i64 (ea.v0), .int .i64 (ea.v1), .int .i64 (ea.v2), .int .u16 ((((ea.a).toNat : Nat) : Int)), .int .u8 ((((ea.g).toNat : Nat) : Int))]) hs rfl rfl rfl ?_; clear hs w a; intro g3 a w hs
  refine st_box (cs := [.int .i64 (r.k), .int .i64 (r.id), .int .i64 (r.p0), .int .i64 (r.p1), .int .i64 (r.p2), .int .i64 (r.v0), .int .i64 (r.v1), .int .i64 (r.v2), .int .u16 ((((r.a).toNat : Nat) : Int))]) hs rfl rfl rfl ?_; clear hs w a; intro g4 a w hs
  refine st_alloc (cs := [.int .i64 (0), .int .i64 (0), .int .i64 (0), .int .i64 (0), .int .i64 (0), .int .i64 (0), .int .i64 (0), .int .u16 (0), .int .u8 (0)]) hs Try.zeroValue54 rfl rfl ?_; clear hs w a; intro g5 a w hs
  refine st_as hs rfl rfl ?_; clear hs w a; intro a w hs
  refine wpList_nil ?_
  refine then_n (hK2 _ _ ?_)
  refine wp_seq_k fun K6 hK7 => ?_
  refine wp_region_lit ?_
  refine st_ldBA hs rfl (.s .z) (.z (.c (.c (.c (.c (.c (.c (.c (.c (.c .n)))))))))) Try.isAgg25 Try.sizeOf25 rfl ?_; clear hs w a; intro a w hs
  refine st_callP (v := .int .i64 (((recChk r : Nat) : Int))) hs (.c rfl .n) Try.call22 (rchk_ok r _) rfl ?_; clear hs w a; intro a w hs
  refine st_as hs rfl rfl ?_; clear hs w a; intro a w hs
  refine wpList_nil ?_
  refine then_n (hK7 _ _ ?_)
  refine wp_seq_k fun K8 hK9 => ?_
  refine wp_seq_k fun K10 hK11 => ?_
  refine wp_region_lit ?_
  refine st_mv hs rfl rfl ?_; clear hs w a; intro a w hs
  refine st_neq hs rfl rfl rfl ?_; clear hs w a; intro a w hs
  refine wpList_nil ?_
  refine then_n (hK11 _ _ ?_)
  refine wp_if hs rfl (fun hc12 => ?_) (fun hc12 => ?_)
  ·
   replace hc12 := not_t hc12
   replace hc12 := ne_of_beq_f hc12
   refine wp_seq_k fun K13 hK14 => ?_
   refine wp_region_lit ?_
   refine st_build (it := Try.t54) (zs := [.int .i64 (0), .int .i64 (0), .int .i64 (0), .int .i64 (0), .int .i64 (0), .int .i64 (0), .int .i64 (0), .int .u16 (0), .int .u8 (0)]) (places := [(0, 1), (1, 3), (4, 3), (7, 1), (8, 1)]) hs .n Try.underlying54 rfl rfl rfl rfl .n rfl ?_; clear hs w a; intro a w hs
   refine st_mv hs rfl rfl ?_; clear hs w a; intro a w hs
   refine st_stBA hs rfl rfl .z (.z (.c (.c (.c (.c (.c (.c (.c (.c (.c .n)))))))))) (ones_c rfl (ones_c rfl (ones_c rfl (ones_c rfl (ones_c rfl (ones_c rfl (ones_c rfl (ones_c rfl (ones_c rfl ones_n))))))))) Try.sizeOf54 rfl ?_; clear hs w a; intro a w hs
   refine st_as hs rfl rfl ?_; clear hs w a; intro a w hs
   refine wpList_nil ?_
   refine then_n (hK14 _ _ ?_)
   refine wp_ret ?_
   refine th_r ?_
   exact finC2 hs rfl rfl rfl .z (.z (.c (.c (.c (.c (.c (.c (.c (.c (.c .n)))))))))) Try.isAgg54 Try.sizeOf54 (.c .z (.c .z (.c .z .n))) (by first | (rw [entApply_chk (by omega)]; exact ⟨rfl, rfl⟩) | (rw [entApply_no (by omega) (by omega)]; exact ⟨rfl, rfl⟩) | (rw [entApply_tel (by omega) (by omega) (by omega)]; exact ⟨rfl, rfl⟩) | (rw [entApply_upd (by omega) (by omega) (by omega)]; exact ⟨rfl, rfl⟩))
  replace hc12 := not_f hc12
  replace hc12 := eq_of_beq hc12
  refine wp_skip ?_
  refine then_n (hK9 _ _ ?_)
  refine wp_seq_k fun K15 hK16 => ?_
  refine wp_seq_k fun K17 hK18 => ?_
  refine wp_region_lit ?_
  refine st_fa hs rfl Try.underlying25 rfl Try.sizeOf3 (by decide) (o := 0) rfl rfl ?_; clear hs w a; intro a w hs
  refine st_ldB hs rfl (.s .z) .z Try.isAgg3 rfl ?_; clear hs w a; intro a w hs
  refine st_eql hs rfl rfl rfl ?_; clear hs w a; intro a w hs
  refine st_mv hs rfl rfl ?_; clear hs w a; intro a w hs
  refine st_part (b := (r.k : Int) == 0) (fun hc19 => ?_) (fun hc19 => ?_)
  ·
   rw [hc19] at hs
   replace hc19 := eq_of_beq hc19
   refine st_guardF hs rfl rfl rfl rfl rfl ?_; clear hs w a; intro a w hs
   refine st_guardF hs rfl rfl rfl rfl rfl ?_; clear hs w a; intro a w hs
   refine st_guardF hs rfl rfl rfl rfl rfl ?_; clear hs w a; intro a w hs
   refine st_pickT hs rfl rfl rfl ?_; clear hs w a; intro a w hs
   refine st_mv hs rfl rfl ?_; clear hs w a; intro a w hs
   refine st_guardF hs rfl rfl rfl rfl rfl ?_; clear hs w a; intro a w hs
   refine st_guardF hs rfl rfl rfl rfl rfl ?_; clear hs w a; intro a w hs
   refine st_guardF hs rfl rfl rfl rfl rfl ?_; clear hs w a; intro a w hs
   refine st_guardF hs rfl rfl rfl rfl rfl ?_; clear hs w a; intro a w hs
   refine st_guardF hs rfl rfl rfl rfl rfl ?_; clear hs w a; intro a w hs
   refine st_pickT hs rfl rfl rfl ?_; clear hs w a; intro a w hs
   refine wpList_nil ?_
   refine then_n (hK18 _ _ ?_)
   refine wp_cond_true (hs.ev rfl) ?_
   refine wp_seq_k fun K20 hK21 => ?_
   refine wp_region_lit ?_
   refine st_build (it := Try.t54) (zs := [.int .i64 (0), .int .i64 (0), .int .i64 (0), .int .i64 (0), .int .i64 (0), .int .i64 (0), .int .i64 (0), .int .u16 (0), .int .u8 (0)]) (places := [(0, 1), (1, 3), (4, 3), (7, 1), (8, 1)]) hs .n Try.underlying54 rfl rfl rfl rfl .n rfl ?_; clear hs w a; intro a w hs
   refine st_stBA hs rfl rfl .z (.z (.c (.c (.c (.c (.c (.c (.c (.c (.c .n)))))))))) (ones_c rfl (ones_c rfl (ones_c rfl (ones_c rfl (ones_c rfl (ones_c rfl (ones_c rfl (ones_c rfl (ones_c rfl ones_n))))))))) Try.sizeOf54 rfl ?_; clear hs w a; intro a w hs
   refine st_as hs rfl rfl ?_; clear hs w a; intro a w hs
   refine wpList_nil ?_
   refine then_n (hK21 _ _ ?_)
   refine wp_ret ?_
   refine th_r ?_
   exact finC2 hs rfl rfl rfl .z (.z (.c (.c (.c (.c (.c (.c (.c (.c (.c .n)))))))))) Try.isAgg54 Try.sizeOf54 (.c .z (.c .z (.c .z .n))) (by first | (rw [entApply_chk (by omega)]; exact ⟨rfl, rfl⟩) | (rw [entApply_no (by omega) (by omega)]; exact ⟨rfl, rfl⟩) | (rw [entApply_tel (by omega) (by omega) (by omega)]; exact ⟨rfl, rfl⟩) | (rw [entApply_upd (by omega) (by omega) (by omega)]; exact ⟨rfl, rfl⟩))
  rw [hc19] at hs
  replace hc19 := ne_of_beq_f hc19
  refine st_guardT hs rfl rfl rfl ?_
  refine st_fa hs rfl Try.underlying25 rfl Try.sizeOf3 (by decide) (o := 0) rfl rfl ?_; clear hs w a; intro a w hs
  refine st_guardT hs rfl rfl rfl ?_
  refine st_ldB hs rfl (.s .z) .z Try.isAgg3 rfl ?_; clear hs w a; intro a w hs
  refine st_guardT hs rfl rfl rfl ?_
  refine st_eql hs rfl rfl rfl ?_; clear hs w a; intro a w hs
  refine st_pickF hs rfl rfl rfl ?_; clear hs w a; intro a w hs
  refine st_mv hs rfl rfl ?_; clear hs w a; intro a w hs
  refine st_part (b := (r.k : Int) == 2) (fun hc22 => ?_) (fun hc22 => ?_)
  ·
   rw [hc22] at hs
   replace hc22 := eq_of_beq hc22
   refine st_guardF hs rfl rfl rfl rfl rfl ?_; clear hs w a; intro a w hs
   refine st_guardF hs rfl rfl rfl rfl rfl ?_; clear hs w a; intro a w hs
   refine st_guardF hs rfl rfl rfl rfl rfl ?_; clear hs w a; intro a w hs
   refine st_guardF hs rfl rfl rfl rfl rfl ?_; clear hs w a; intro a w hs
   refine st_guardF hs rfl rfl rfl rfl rfl ?_; clear hs w a; intro a w hs
   refine st_pickT hs rfl rfl rfl ?_; clear hs w a; intro a w hs
   refine wpList_nil ?_
   refine then_n (hK18 _ _ ?_)
   refine wp_cond_true (hs.ev rfl) ?_
   refine wp_seq_k fun K23 hK24 => ?_
   refine wp_region_lit ?_
   refine st_build (it := Try.t54) (zs := [.int .i64 (0), .int .i64 (0), .int .i64 (0), .int .i64 (0), .int .i64 (0), .int .i64 (0), .int .i64 (0), .int .u16 (0), .int .u8 (0)]) (places := [(0, 1), (1, 3), (4, 3), (7, 1), (8, 1)]) hs .n Try.underlying54 rfl rfl rfl rfl .n rfl ?_; clear hs w a; intro a w hs
   refine st_stBA hs rfl rfl .z (.z (.c (.c (.c (.c (.c (.c (.c (.c (.c .n)))))))))) (ones_c rfl (ones_c rfl (ones_c rfl (ones_c rfl (ones_c rfl (ones_c rfl (ones_c rfl (ones_c rfl (ones_c rfl ones_n))))))))) Try.sizeOf54 rfl ?_; clear hs w a; intro a w hs
   refine st_as hs rfl rfl ?_; clear hs w a; intro a w hs
   refine wpList_nil ?_
   refine then_n (hK24 _ _ ?_)
   refine wp_ret ?_
   refine th_r ?_
   exact finC2 hs rfl rfl rfl .z (.z (.c (.c (.c (.c (.c (.c (.c (.c (.c .n)))))))))) Try.isAgg54 Try.sizeOf54 (.c .z (.c .z (.c .z .n))) (by first | (rw [entApply_chk (by omega)]; exact ⟨rfl, rfl⟩) | (rw [entApply_no (by omega) (by omega)]; exact ⟨rfl, rfl⟩) | (rw [entApply_tel (by omega) (by omega) (by omega)]; exact ⟨rfl, rfl⟩) | (rw [entApply_upd (by omega) (by omega) (by omega)]; exact ⟨rfl, rfl⟩))
  rw [hc22] at hs
  replace hc22 := ne_of_beq_f hc22
  refine st_guardT hs rfl rfl rfl ?_
  refine st_fa hs rfl Try.underlying25 rfl Try.sizeOf3 (by decide) (o := 1) rfl rfl ?_; clear hs w a; intro a w hs
  refine st_guardT hs rfl rfl rfl ?_
  refine st_ldB hs rfl (.s .z) (.s .z) Try.isAgg3 rfl ?_; clear hs w a; intro a w hs
  refine st_guardT hs rfl rfl rfl ?_
  refine st_fa hs rfl Try.underlying54 rfl Try.sizeOf3 (by decide) (o := 0) rfl rfl ?_; clear hs w a; intro a w hs
  refine st_guardT hs rfl rfl rfl ?_
  refine st_ldB hs rfl (.s (.s .z)) .z Try.isAgg3 rfl ?_; clear hs w a; intro a w hs
  refine st_guardT hs rfl rfl rfl ?_
  refine st_neq hs rfl rfl rfl ?_; clear hs w a; intro a w hs
  refine st_pickF hs rfl rfl rfl ?_; clear hs w a; intro a w hs
  refine wpList_nil ?_
  refine then_n (hK18 _ _ ?_)
  refine wp_if hs rfl (fun hc25 => ?_) (fun hc25 => ?_)
  ·
   replace hc25 := not_t hc25
   replace hc25 := ne_of_beq_f hc25
   refine wp_seq_k fun K26 hK27 => ?_
   refine wp_region_lit ?_
   refine st_build (it := Try.t54) (zs := [.int .i64 (0), .int .i64 (0), .int .i64 (0), .int .i64 (0), .int .i64 (0), .int .i64 (0), .int .i64 (0), .int .u16 (0), .int .u8 (0)]) (places := [(0, 1), (1, 3), (4, 3), (7, 1), (8, 1)]) hs .n Try.underlying54 rfl rfl rfl rfl .n rfl ?_; clear hs w a; intro a w hs
   refine st_stBA hs rfl rfl .z (.z (.c (.c (.c (.c (.c (.c (.c (.c (.c .n)))))))))) (ones_c rfl (ones_c rfl (ones_c rfl (ones_c rfl (ones_c rfl (ones_c rfl (ones_c rfl (ones_c rfl (ones_c rfl ones_n))))))))) Try.sizeOf54 rfl ?_; clear hs w a; intro a w hs
   refine st_as hs rfl rfl ?_; clear hs w a; intro a w hs
   refine wpList_nil ?_
   refine then_n (hK27 _ _ ?_)
   refine wp_ret ?_
   refine th_r ?_
   exact finC2 hs rfl rfl rfl .z (.z (.c (.c (.c (.c (.c (.c (.c (.c (.c .n)))))))))) Try.isAgg54 Try.sizeOf54 (.c .z (.c .z (.c .z .n))) (by first | (rw [entApply_chk (by omega)]; exact ⟨rfl, rfl⟩) | (rw [entApply_no (by omega) (by omega)]; exact ⟨rfl, rfl⟩) | (rw [entApply_tel (by omega) (by omega) (by omega)]; exact ⟨rfl, rfl⟩) | (rw [entApply_upd (by omega) (by omega) (by omega)]; exact ⟨rfl, rfl⟩))
  replace hc25 := not_f hc25
  replace hc25 := eq_of_beq hc25
  refine wp_skip ?_
  refine then_n (hK16 _ _ ?_)
  refine wp_seq_k fun K28 hK29 => ?_
  refine wp_seq_k fun K30 hK31 => ?_
  refine wp_region_lit ?_
  refine st_fa hs rfl Try.underlying25 rfl Try.sizeOf3 (by decide) (o := 0) rfl rfl ?_; clear hs w a; intro a w hs
  refine st_ldB hs rfl (.s .z) .z Try.isAgg3 rfl ?_; clear hs w a; intro a w hs
  refine st_eql hs rfl rfl rfl ?_; clear hs w a; intro a w hs
  refine wpList_nil ?_
  refine then_n (hK31 _ _ ?_)
  refine wp_if hs rfl (fun hc32 => ?_) (fun hc32 => ?_)
  ·
   replace hc32 := eq_of_beq hc32
   refine wp_seq_k fun K33 hK34 => ?_
   refine wp_region_lit ?_
   refine st_fa hs rfl Try.underlying54 rfl Try.sizeOf3 (by decide) (o := 0) rfl rfl ?_; clear hs w a; intro a w hs
   refine st_ldB hs rfl (.s (.s .z)) .z Try.isAgg3 rfl ?_; clear hs w a; intro a w hs
   refine st_fa hs rfl Try.underlying25 rfl Try.sizeOf22 (by decide) (o := 2) rfl rfl ?_; clear hs w a; intro a w hs
   refine st_ldBA hs rfl (.s .z) (.s (.s (.z (.c (.c (.c .n)))))) Try.isAgg22 Try.sizeOf22 rfl ?_; clear hs w a; intro a w hs
   refine st_fa hs rfl Try.underlying25 rfl Try.sizeOf22 (by decide) (o := 5) rfl rfl ?_; clear hs w a; intro a w hs
   refine st_ldBA hs rfl (.s .z) (.s (.s (.s (.s (.s (.z (.c (.c (.c .n))))))))) Try.isAgg22 Try.sizeOf22 rfl ?_; clear hs w a; intro a w hs
   refine st_fa hs rfl Try.underlying25 rfl Try.sizeOf23 (by decide) (o := 8) rfl rfl ?_; clear hs w a; intro a w hs
   refine st_ldB hs rfl (.s .z) (.s (.s (.s (.s (.s (.s (.s (.s .z)))))))) Try.isAgg23 rfl ?_; clear hs w a; intro a w hs
   refine st_fa hs rfl Try.underlying54 rfl Try.sizeOf5 (by decide) (o := 8) rfl rfl ?_; clear hs w a; intro a w hs
   refine st_ldB hs rfl (.s (.s .z)) (.s (.s (.s (.s (.s (.s (.s (.s .z)))))))) Try.isAgg5 rfl ?_; clear hs w a; intro a w hs
   refine st_add_u8 (X := ea.g) (Y := 1#8) hs rfl rfl rfl (by decide) rfl ?_; clear hs w a; intro a w hs
   refine st_build (it := Try.t54) (zs := [.int .i64 (0), .int .i64 (0), .int .i64 (0), .int .i64 (0), .int .i64 (0), .int .i64 (0), .int .i64 (0), .int .u16 (0), .int .u8 (0)]) (places := [(0, 1), (1, 3), (4, 3), (7, 1), (8, 1)]) hs (.c rfl (.c rfl (.c rfl (.c rfl (.c rfl .n))))) Try.underlying54 rfl rfl rfl rfl (.c rfl rfl (.z (.c .n)) (.c rfl rfl (.s (.z (.c (.c (.c .n))))) (.c rfl rfl (.s (.s (.s (.s (.z (.c (.c (.c .n)))))))) (.c rfl rfl (.s (.s (.s (.s (.s (.s (.s (.z (.c .n))))))))) (.c rfl rfl (.s (.s (.s (.s (.s (.s (.s (.s (.z (.c .n)))))))))) .n))))) rfl ?_; clear hs w a; intro a w hs
   refine st_stBA hs rfl rfl .z (.z (.c (.c (.c (.c (.c (.c (.c (.c (.c .n)))))))))) (ones_c rfl (ones_c rfl (ones_c rfl (ones_c rfl (ones_c rfl (ones_c rfl (ones_c rfl (ones_c rfl (ones_c rfl ones_n))))))))) Try.sizeOf54 rfl ?_; clear hs w a; intro a w hs
   refine st_as hs rfl rfl ?_; clear hs w a; intro a w hs
   refine wpList_nil ?_
   refine then_n (hK34 _ _ ?_)
   refine wp_ret ?_
   refine th_r ?_
   exact finC2 hs rfl rfl rfl .z (.z (.c (.c (.c (.c (.c (.c (.c (.c (.c .n)))))))))) Try.isAgg54 Try.sizeOf54 (.c .z (.c .z (.c .z .n))) (by first | (rw [entApply_chk (by omega)]; exact ⟨rfl, rfl⟩) | (rw [entApply_no (by omega) (by omega)]; exact ⟨rfl, rfl⟩) | (rw [entApply_tel (by omega) (by omega) (by omega)]; exact ⟨rfl, rfl⟩) | (rw [entApply_upd (by omega) (by omega) (by omega)]; exact ⟨rfl, rfl⟩))
  replace hc32 := ne_of_beq_f hc32
  refine wp_skip ?_
  refine then_n (hK29 _ _ ?_)
  refine wp_seq_k fun K35 hK36 => ?_
  refine wp_seq_k fun K37 hK38 => ?_
  refine wp_region_lit ?_
  refine st_as hs rfl rfl ?_; clear hs w a; intro a w hs
  refine wpList_nil ?_
  refine then_n (hK38 _ _ ?_)
  refine wp_block ?_
  refine wp_loop_rounds 4 ?_
  refine rounds_in ?_
  refine wp_seq_k fun K39 hK40 => ?_
  refine wp_seq_k fun K41 hK42 => ?_
  refine wp_region_lit ?_
  refine st_mv hs rfl rfl ?_; clear hs w a; intro a w hs
  refine st_lss hs rfl rfl rfl ?_; clear hs w a; intro a w hs
  rw [show (decide ((0 : Int) < 3)) = true from by decide] at hs
  refine wpList_nil ?_
  refine then_n (hK42 _ _ ?_)
  refine wp_cond_true (hs.ev rfl) ?_
  refine wp_skip ?_
  refine then_n (hK40 _ _ ?_)
  refine wp_seq_k fun K43 hK44 => ?_
  refine wp_block ?_
  refine wp_seq_k fun K45 hK46 => ?_
  replace hs := hs.sub (F' := [(46, .bool (true)), (45, .int .i64 (0)), (7, .int .i64 (0)), (5, .int .i64 (0)), (4, .pointer (some ⟨g5, 0, none⟩)), (3, .pointer (some ⟨g4, 0, none⟩)), (2, .pointer (some ⟨g3, 0, none⟩))]) (.c rfl (.c rfl (.c rfl (.c rfl (.c rfl (.c rfl (.c rfl .n)))))))
  refine wp_drawG (M0 := [blk g5 [.int .i64 (0), .int .i64 (0), .int .i64 (0), .int .i64 (0), .int .i64 (0), .int .i64 (0), .int .i64 (0), .int .u16 (0), .int .u8 (0)] 54, blk g4 [.int .i64 (r.k), .int .i64 (r.id), .int .i64 (r.p0), .int .i64 (r.p1), .int .i64 (r.p2), .int .i64 (r.v0), .int .i64 (r.v1), .int .i64 (r.v2), .int .u16 ((((r.a).toNat : Nat) : Int))] 25]) (Ds := [⟨[], [], [], fun vs47 => vs47 0 = .int .i64 (0), fun vs47 => []⟩, ⟨[], [], [], fun vs47 => vs47 1 = .pointer (some ⟨g3, 1, none⟩), fun vs47 => []⟩, ⟨[], [], [], fun vs47 => vs47 2 = .pointer (some ⟨g3, 1, none⟩), fun vs47 => []⟩, ⟨[], [], [], fun vs47 => vs47 3 = .int .i64 (ea.p0), fun vs47 => []⟩, ⟨[], [], [], fun vs47 => vs47 4 = .int .i64 (0), fun vs47 => []⟩, ⟨[], [], [], fun vs47 => vs47 5 = .pointer (some ⟨g4, 2, none⟩), fun vs47 => []⟩, ⟨[], [], [], fun vs47 => vs47 6 = .pointer (some ⟨g4, 2, none⟩), fun vs47 => []⟩, ⟨[], [], [], fun vs47 => vs47 7 = .int .i64 (r.p0), fun vs47 => []⟩, ⟨[], [], [], fun vs47 => vs47 8 = .int .i64 (IntKind.i64.wrap (ea.p0 + r.p0)), fun vs47 => []⟩, ⟨[], [], [], fun vs47 => vs47 9 = .pointer (some ⟨g3, 1, none⟩), fun vs47 => []⟩, ⟨[], [], [], fun vs47 => vs47 10 = .pointer (some ⟨g3, 1, none⟩), fun vs47 => []⟩, ⟨[blk g3 [.int .i64 (ea.id), .int .i64 (ea.p0), .int .i64 (ea.p1), .int .i64 (ea.p2), .int .i64 (ea.v0), .int .i64 (ea.v1), .int .i64 (ea.v2), .int .u16 ((((ea.a).toNat : Nat) : Int)), .int .u8 ((((ea.g).toNat : Nat) : Int))] 54], [], [], fun vs47 => True, fun vs47 => [blk g3 [.int .i64 (ea.id), .int .i64 (IntKind.i64.wrap (ea.p0 + r.p0)), .int .i64 (ea.p1), .int .i64 (ea.p2), .int .i64 (ea.v0), .int .i64 (ea.v1), .int .i64 (ea.v2), .int .u16 ((((ea.a).toNat : Nat) : Int)), .int .u8 ((((ea.g).toNat : Nat) : Int))] 54]⟩]) (by kernel_rfl) hs rfl (.c (.s (.s .z)) .n) (by kernel_rfl) (by kernel_rfl) ?_ ?_
  ·
   refine (.c ?_ (.c ?_ (.c ?_ (.c ?_ (.c ?_ (.c ?_ (.c ?_ (.c ?_ (.c ?_ (.c ?_ (.c ?_ (.c ?_ .n))))))))))))
   ·
    intro a_ w_ R_ rest_ vs47 hm hs ht hx
    replace hs : St _ _ _ (feet []) [] _ _ := hs
    have hm0 := hm.mid
    have hs0 := hs.bare
    refine st_mv hs rfl rfl ?_; clear hs; intro a w hs
    exact wpList_nil ⟨rfl, _, _, hs0, .r, hs, rfl⟩
   ·
    intro a_ w_ R_ rest_ vs47 hm hs ht hx
    replace hs : St _ _ _ (feet []) [] _ _ := hs
    have hm0 := hm.mid
    have hs0 := hs.bare
    refine st_fa hs rfl Try.underlying54 rfl Try.sizeOf22 (by decide) (o := 1) rfl rfl ?_; clear hs; intro a w hs
    exact wpList_nil ⟨rfl, _, _, hs0, .r, hs, rfl⟩
   ·
    intro a_ w_ R_ rest_ vs47 hm hs ht hx
    replace hs : St _ _ _ (feet []) [] _ _ := hs
    have hm0 := hm.mid
    have t0 := ht 0 (twB_spec 12 _ (by kernel_rfl))
    have e0 : _ = some (vs47 0) := t0.val rfl
    rw [show vs47 0 = .int .i64 (0) from t0.2.1] at e0
    replace hs := hs.learn e0
    have t1 := ht 1 (twB_spec 12 _ (by kernel_rfl))
    have e1 : _ = some (vs47 1) := t1.val rfl
    rw [show vs47 1 = .pointer (some ⟨g3, 1, none⟩) from t1.2.1] at e1
    replace hs := hs.learn e1
    have hs0 := hs.bare
    refine st_iaB hs rfl rfl Try.underlying22 (by decide) (by decide) Try.sizeOf2 (o' := 1) rfl rfl ?_; clear hs; intro a w hs
    exact wpList_nil ⟨rfl, _, _, hs0, (.c (.c .r)), hs, rfl⟩
   ·
    intro a_ w_ R_ rest_ vs47 hm hs ht hx
    replace hs : St _ _ _ (feet []) [] _ _ := hs
    have hm0 := hm.mid
    have t2 := ht 2 (twB_spec 12 _ (by kernel_rfl))
    have e2 : _ = some (vs47 2) := t2.val rfl
    rw [show vs47 2 = .pointer (some ⟨g3, 1, none⟩) from t2.2.1] at e2
    replace hs := hs.learn e2
    have hs0 := hs.bare
    refine st_ldE hs rfl (hm.own (List.mem_append.2 (.inr (hx 11 (twB_spec 12 _ (by kernel_rfl)) _ (List.Mem.head _))))) (.s .z) Try.isAgg2 rfl ?_; clear hs; intro a w hs
    exact wpList_nil ⟨rfl, _, _, hs0, (.c .r), hs, rfl⟩
   ·
    intro a_ w_ R_ rest_ vs47 hm hs ht hx
    replace hs : St _ _ _ (feet []) [] _ _ := hs
    have hm0 := hm.mid
    have hs0 := hs.bare
    refine st_mv hs rfl rfl ?_; clear hs; intro a w hs
    exact wpList_nil ⟨rfl, _, _, hs0, .r, hs, rfl⟩
   ·
    intro a_ w_ R_ rest_ vs47 hm hs ht hx
    replace hs : St _ _ _ (feet []) [] _ _ := hs
    have hm0 := hm.mid
    have hs0 := hs.bare
    refine st_fa hs rfl Try.underlying25 rfl Try.sizeOf22 (by decide) (o := 2) rfl rfl ?_; clear hs; intro a w hs
    exact wpList_nil ⟨rfl, _, _, hs0, .r, hs, rfl⟩
   ·
    intro a_ w_ R_ rest_ vs47 hm hs ht hx
    replace hs : St _ _ _ (feet []) [] _ _ := hs
    have hm0 := hm.mid
    have t4 := ht 4 (twB_spec 12 _ (by kernel_rfl))
    have e4 : _ = some (vs47 4) := t4.val rfl
    rw [show vs47 4 = .int .i64 (0) from t4.2.1] at e4
    replace hs := hs.learn e4
    have t5 := ht 5 (twB_spec 12 _ (by kernel_rfl))
    have e5 : _ = some (vs47 5) := t5.val rfl
    rw [show vs47 5 = .pointer (some ⟨g4, 2, none⟩) from t5.2.1] at e5
    replace hs := hs.learn e5
    have hs0 := hs.bare
    refine st_iaB hs rfl rfl Try.underlying22 (by decide) (by decide) Try.sizeOf2 (o' := 2) rfl rfl ?_; clear hs; intro a w hs
    exact wpList_nil ⟨rfl, _, _, hs0, (.c (.c .r)), hs, rfl⟩
   ·
    intro a_ w_ R_ rest_ vs47 hm hs ht hx
    replace hs : St _ _ _ (feet []) [] _ _ := hs
    have hm0 := hm.mid
    have t6 := ht 6 (twB_spec 12 _ (by kernel_rfl))
    have e6 : _ = some (vs47 6) := t6.val rfl
    rw [show vs47 6 = .pointer (some ⟨g4, 2, none⟩) from t6.2.1] at e6
    replace hs := hs.learn e6
    have hs0 := hs.bare
    refine st_ldE hs rfl (hm0.del (.s .z)) (.s (.s .z)) Try.isAgg2 rfl ?_; clear hs; intro a w hs
    exact wpList_nil ⟨rfl, _, _, hs0, (.c .r), hs, rfl⟩
   ·
    intro a_ w_ R_ rest_ vs47 hm hs ht hx
    replace hs : St _ _ _ (feet []) [] _ _ := hs
    have hm0 := hm.mid
    have t3 := ht 3 (twB_spec 12 _ (by kernel_rfl))
    have e3 : _ = some (vs47 3) := t3.val rfl
    rw [show vs47 3 = .int .i64 (ea.p0) from t3.2.1] at e3
    replace hs := hs.learn e3
    have t7 := ht 7 (twB_spec 12 _ (by kernel_rfl))
    have e7 : _ = some (vs47 7) := t7.val rfl
    rw [show vs47 7 = .int .i64 (r.p0) from t7.2.1] at e7
    replace hs := hs.learn e7
    have hs0 := hs.bare
    refine st_add hs rfl rfl rfl ?_; clear hs; intro a w hs
    exact wpList_nil ⟨rfl, _, _, hs0, (.c (.c .r)), hs, rfl⟩
   ·
    intro a_ w_ R_ rest_ vs47 hm hs ht hx
    replace hs : St _ _ _ (feet []) [] _ _ := hs
    have hm0 := hm.mid
    have hs0 := hs.bare
    refine st_fa hs rfl Try.underlying54 rfl Try.sizeOf22 (by decide) (o := 1) rfl rfl ?_; clear hs; intro a w hs
    exact wpList_nil ⟨rfl, _, _, hs0, .r, hs, rfl⟩
   ·
    intro a_ w_ R_ rest_ vs47 hm hs ht hx
    replace hs : St _ _ _ (feet []) [] _ _ := hs
    have hm0 := hm.mid
    have t0 := ht 0 (twB_spec 12 _ (by kernel_rfl))
    have e0 : _ = some (vs47 0) := t0.val rfl
    rw [show vs47 0 = .int .i64 (0) from t0.2.1] at e0
    replace hs := hs.learn e0
    have t9 := ht 9 (twB_spec 12 _ (by kernel_rfl))
    have e9 : _ = some (vs47 9) := t9.val rfl
    rw [show vs47 9 = .pointer (some ⟨g3, 1, none⟩) from t9.2.1] at e9
    replace hs := hs.learn e9
    have hs0 := hs.bare
    refine st_iaB hs rfl rfl Try.underlying22 (by decide) (by decide) Try.sizeOf2 (o' := 1) rfl rfl ?_; clear hs; intro a w hs
    exact wpList_nil ⟨rfl, _, _, hs0, (.c (.c .r)), hs, rfl⟩
   intro a_ w_ R_ rest_ vs47 hm hs ht hx
   replace hs : St _ _ _ (feet [blk g3 [.int .i64 (ea.id), .int .i64 (ea.p0), .int .i64 (ea.p1), .int .i64 (ea.p2), .int .i64 (ea.v0), .int .i64 (ea.v1), .int .i64 (ea.v2), .int .u16 ((((ea.a).toNat : Nat) : Int)), .int .u8 ((((ea.g).toNat : Nat) : Int))] 54]) [blk g3 [.int .i64 (ea.id), .int .i64 (ea.p0), .int .i64 (ea.p1), .int .i64 (ea.p2), .int .i64 (ea.v0), .int .i64 (ea.v1), .int .i64 (ea.v2), .int .u16 ((((ea.a).toNat : Nat) : Int)), .int .u8 ((((ea.g).toNat : Nat) : Int))] 54] _ _ := hs
   have hm0 := hm.mid
   have t8 := ht 8 (twB_spec 12 _ (by kernel_rfl))
   have e8 : _ = some (vs47 8) := t8.val rfl
   rw [show vs47 8 = .int .i64 (IntKind.i64.wrap (ea.p0 + r.p0)) from t8.2.1] at e8
   replace hs := hs.learn e8
   have t10 := ht 10 (twB_spec 12 _ (by kernel_rfl))
   have e10 : _ = some (vs47 10) := t10.val rfl
   rw [show vs47 10 = .pointer (some ⟨g3, 1, none⟩) from t10.2.1] at e10
   replace hs := hs.learn e10
   have hs0 := hs.bare
   refine st_stB hs rfl rfl .z (.s .z) rfl Try.sizeOf2 ?_; clear hs; intro a w hs
   exact wpList_nil ⟨rfl, .tuple #[], _, hs0, (.c (.c .r)), hs, trivial⟩
  clear hs w a; intro a w vs47 hs hf
  replace hs : St _ _ _ _ [blk g5 [.int .i64 (0), .int .i64 (0), .int .i64 (0), .int .i64 (0), .int .i64 (0), .int .i64 (0), .int .i64 (0), .int .u16 (0), .int .u8 (0)] 54, blk g4 [.int .i64 (r.k), .int .i64 (r.id), .int .i64 (r.p0), .int .i64 (r.p1), .int .i64 (r.p2), .int .i64 (r.v0), .int .i64 (r.v1), .int .i64 (r.v2), .int .u16 ((((r.a).toNat : Nat) : Int))] 25, blk g3 [.int .i64 (ea.id), .int .i64 (IntKind.i64.wrap (ea.p0 + r.p0)), .int .i64 (ea.p1), .int .i64 (ea.p2), .int .i64 (ea.v0), .int .i64 (ea.v1), .int .i64 (ea.v2), .int .u16 ((((ea.a).toNat : Nat) : Int)), .int .u8 ((((ea.g).toNat : Nat) : Int))] 54] _ _ := hs
  clear hf
  refine then_n (hK46 _ _ ?_)
  replace hs := hs.sub (F' := [(46, .bool (true)), (45, .int .i64 (0)), (7, .int .i64 (0)), (5, .int .i64 (0)), (4, .pointer (some ⟨g5, 0, none⟩)), (3, .pointer (some ⟨g4, 0, none⟩)), (2, .pointer (some ⟨g3, 0, none⟩))]) (.c rfl (.c rfl (.c rfl (.c rfl (.c rfl (.c rfl (.c rfl .n)))))))
  refine wp_drawG (M0 := [blk g5 [.int .i64 (0), .int .i64 (0), .int .i64 (0), .int .i64 (0), .int .i64 (0), .int .i64 (0), .int .i64 (0), .int .u16 (0), .int .u8 (0)] 54, blk g4 [.int .i64 (r.k), .int .i64 (r.id), .int .i64 (r.p0), .int .i64 (r.p1), .int .i64 (r.p2), .int .i64 (r.v0), .int .i64 (r.v1), .int .i64 (r.v2), .int .u16 ((((r.a).toNat : Nat) : Int))] 25]) (Ds := [⟨[], [], [], fun vs48 => vs48 0 = .int .i64 (0), fun vs48 => []⟩, ⟨[], [], [], fun vs48 => vs48 1 = .pointer (some ⟨g3, 4, none⟩), fun vs48 => []⟩, ⟨[], [], [], fun vs48 => vs48 2 = .pointer (some ⟨g3, 4, none⟩), fun vs48 => []⟩, ⟨[], [], [], fun vs48 => vs48 3 = .int .i64 (ea.v0), fun vs48 => []⟩, ⟨[], [], [], fun vs48 => vs48 4 = .int .i64 (0), fun vs48 => []⟩, ⟨[], [], [], fun vs48 => vs48 5 = .pointer (some ⟨g4, 5, none⟩), fun vs48 => []⟩, ⟨[], [], [], fun vs48 => vs48 6 = .pointer (some ⟨g4, 5, none⟩), fun vs48 => []⟩, ⟨[], [], [], fun vs48 => vs48 7 = .int .i64 (r.v0), fun vs48 => []⟩, ⟨[], [], [], fun vs48 => vs48 8 = .int .i64 (IntKind.i64.wrap (ea.v0 + r.v0)), fun vs48 => []⟩, ⟨[], [], [], fun vs48 => vs48 9 = .pointer (some ⟨g3, 4, none⟩), fun vs48 => []⟩, ⟨[], [], [], fun vs48 => vs48 10 = .pointer (some ⟨g3, 4, none⟩), fun vs48 => []⟩, ⟨[blk g3 [.int .i64 (ea.id), .int .i64 (IntKind.i64.wrap (ea.p0 + r.p0)), .int .i64 (ea.p1), .int .i64 (ea.p2), .int .i64 (ea.v0), .int .i64 (ea.v1), .int .i64 (ea.v2), .int .u16 ((((ea.a).toNat : Nat) : Int)), .int .u8 ((((ea.g).toNat : Nat) : Int))] 54], [], [], fun vs48 => True, fun vs48 => [blk g3 [.int .i64 (ea.id), .int .i64 (IntKind.i64.wrap (ea.p0 + r.p0)), .int .i64 (ea.p1), .int .i64 (ea.p2), .int .i64 (IntKind.i64.wrap (ea.v0 + r.v0)), .int .i64 (ea.v1), .int .i64 (ea.v2), .int .u16 ((((ea.a).toNat : Nat) : Int)), .int .u8 ((((ea.g).toNat : Nat) : Int))] 54]⟩]) (by kernel_rfl) hs rfl (.c (.s (.s .z)) .n) (by kernel_rfl) (by kernel_rfl) ?_ ?_
  ·
   refine (.c ?_ (.c ?_ (.c ?_ (.c ?_ (.c ?_ (.c ?_ (.c ?_ (.c ?_ (.c ?_ (.c ?_ (.c ?_ (.c ?_ .n))))))))))))
   ·
    intro a_ w_ R_ rest_ vs48 hm hs ht hx
    replace hs : St _ _ _ (feet []) [] _ _ := hs
    have hm0 := hm.mid
    have hs0 := hs.bare
    refine st_mv hs rfl rfl ?_; clear hs; intro a w hs
    exact wpList_nil ⟨rfl, _, _, hs0, .r, hs, rfl⟩
   ·
    intro a_ w_ R_ rest_ vs48 hm hs ht hx
    replace hs : St _ _ _ (feet []) [] _ _ := hs
    have hm0 := hm.mid
    have hs0 := hs.bare
    refine st_fa hs rfl Try.underlying54 rfl Try.sizeOf22 (by decide) (o := 4) rfl rfl ?_; clear hs; intro a w hs
    exact wpList_nil ⟨rfl, _, _, hs0, .r, hs, rfl⟩
   ·
    intro a_ w_ R_ rest_ vs48 hm hs ht hx
    replace hs : St _ _ _ (feet []) [] _ _ := hs
    have hm0 := hm.mid
    have t0 := ht 0 (twB_spec 12 _ (by kernel_rfl))
    have e0 : _ = some (vs48 0) := t0.val rfl
    rw [show vs48 0 = .int .i64 (0) from t0.2.1] at e0
    replace hs := hs.learn e0
    have t1 := ht 1 (twB_spec 12 _ (by kernel_rfl))
    have e1 : _ = some (vs48 1) := t1.val rfl
    rw [show vs48 1 = .pointer (some ⟨g3, 4, none⟩) from t1.2.1] at e1
    replace hs := hs.learn e1
    have hs0 := hs.bare
    refine st_iaB hs rfl rfl Try.underlying22 (by decide) (by decide) Try.sizeOf2 (o' := 4) rfl rfl ?_; clear hs; intro a w hs
    exact wpList_nil ⟨rfl, _, _, hs0, (.c (.c .r)), hs, rfl⟩
   ·
    intro a_ w_ R_ rest_ vs48 hm hs ht hx
    replace hs : St _ _ _ (feet []) [] _ _ := hs
    have hm0 := hm.mid
    have t2 := ht 2 (twB_spec 12 _ (by kernel_rfl))
    have e2 : _ = some (vs48 2) := t2.val rfl
    rw [show vs48 2 = .pointer (some ⟨g3, 4, none⟩) from t2.2.1] at e2
    replace hs := hs.learn e2
    have hs0 := hs.bare
    refine st_ldE hs rfl (hm.own (List.mem_append.2 (.inr (hx 11 (twB_spec 12 _ (by kernel_rfl)) _ (List.Mem.head _))))) (.s (.s (.s (.s .z)))) Try.isAgg2 rfl ?_; clear hs; intro a w hs
    exact wpList_nil ⟨rfl, _, _, hs0, (.c .r), hs, rfl⟩
   ·
    intro a_ w_ R_ rest_ vs48 hm hs ht hx
    replace hs : St _ _ _ (feet []) [] _ _ := hs
    have hm0 := hm.mid
    have hs0 := hs.bare
    refine st_mv hs rfl rfl ?_; clear hs; intro a w hs
    exact wpList_nil ⟨rfl, _, _, hs0, .r, hs, rfl⟩
   ·
    intro a_ w_ R_ rest_ vs48 hm hs ht hx
    replace hs : St _ _ _ (feet []) [] _ _ := hs
    have hm0 := hm.mid
    have hs0 := hs.bare
    refine st_fa hs rfl Try.underlying25 rfl Try.sizeOf22 (by decide) (o := 5) rfl rfl ?_; clear hs; intro a w hs
    exact wpList_nil ⟨rfl, _, _, hs0, .r, hs, rfl⟩
   ·
    intro a_ w_ R_ rest_ vs48 hm hs ht hx
    replace hs : St _ _ _ (feet []) [] _ _ := hs
    have hm0 := hm.mid
    have t4 := ht 4 (twB_spec 12 _ (by kernel_rfl))
    have e4 : _ = some (vs48 4) := t4.val rfl
    rw [show vs48 4 = .int .i64 (0) from t4.2.1] at e4
    replace hs := hs.learn e4
    have t5 := ht 5 (twB_spec 12 _ (by kernel_rfl))
    have e5 : _ = some (vs48 5) := t5.val rfl
    rw [show vs48 5 = .pointer (some ⟨g4, 5, none⟩) from t5.2.1] at e5
    replace hs := hs.learn e5
    have hs0 := hs.bare
    refine st_iaB hs rfl rfl Try.underlying22 (by decide) (by decide) Try.sizeOf2 (o' := 5) rfl rfl ?_; clear hs; intro a w hs
    exact wpList_nil ⟨rfl, _, _, hs0, (.c (.c .r)), hs, rfl⟩
   ·
    intro a_ w_ R_ rest_ vs48 hm hs ht hx
    replace hs : St _ _ _ (feet []) [] _ _ := hs
    have hm0 := hm.mid
    have t6 := ht 6 (twB_spec 12 _ (by kernel_rfl))
    have e6 : _ = some (vs48 6) := t6.val rfl
    rw [show vs48 6 = .pointer (some ⟨g4, 5, none⟩) from t6.2.1] at e6
    replace hs := hs.learn e6
    have hs0 := hs.bare
    refine st_ldE hs rfl (hm0.del (.s .z)) (.s (.s (.s (.s (.s .z))))) Try.isAgg2 rfl ?_; clear hs; intro a w hs
    exact wpList_nil ⟨rfl, _, _, hs0, (.c .r), hs, rfl⟩
   ·
    intro a_ w_ R_ rest_ vs48 hm hs ht hx
    replace hs : St _ _ _ (feet []) [] _ _ := hs
    have hm0 := hm.mid
    have t3 := ht 3 (twB_spec 12 _ (by kernel_rfl))
    have e3 : _ = some (vs48 3) := t3.val rfl
    rw [show vs48 3 = .int .i64 (ea.v0) from t3.2.1] at e3
    replace hs := hs.learn e3
    have t7 := ht 7 (twB_spec 12 _ (by kernel_rfl))
    have e7 : _ = some (vs48 7) := t7.val rfl
    rw [show vs48 7 = .int .i64 (r.v0) from t7.2.1] at e7
    replace hs := hs.learn e7
    have hs0 := hs.bare
    refine st_add hs rfl rfl rfl ?_; clear hs; intro a w hs
    exact wpList_nil ⟨rfl, _, _, hs0, (.c (.c .r)), hs, rfl⟩
   ·
    intro a_ w_ R_ rest_ vs48 hm hs ht hx
    replace hs : St _ _ _ (feet []) [] _ _ := hs
    have hm0 := hm.mid
    have hs0 := hs.bare
    refine st_fa hs rfl Try.underlying54 rfl Try.sizeOf22 (by decide) (o := 4) rfl rfl ?_; clear hs; intro a w hs
    exact wpList_nil ⟨rfl, _, _, hs0, .r, hs, rfl⟩
   ·
    intro a_ w_ R_ rest_ vs48 hm hs ht hx
    replace hs : St _ _ _ (feet []) [] _ _ := hs
    have hm0 := hm.mid
    have t0 := ht 0 (twB_spec 12 _ (by kernel_rfl))
    have e0 : _ = some (vs48 0) := t0.val rfl
    rw [show vs48 0 = .int .i64 (0) from t0.2.1] at e0
    replace hs := hs.learn e0
    have t9 := ht 9 (twB_spec 12 _ (by kernel_rfl))
    have e9 : _ = some (vs48 9) := t9.val rfl
    rw [show vs48 9 = .pointer (some ⟨g3, 4, none⟩) from t9.2.1] at e9
    replace hs := hs.learn e9
    have hs0 := hs.bare
    refine st_iaB hs rfl rfl Try.underlying22 (by decide) (by decide) Try.sizeOf2 (o' := 4) rfl rfl ?_; clear hs; intro a w hs
    exact wpList_nil ⟨rfl, _, _, hs0, (.c (.c .r)), hs, rfl⟩
   intro a_ w_ R_ rest_ vs48 hm hs ht hx
   replace hs : St _ _ _ (feet [blk g3 [.int .i64 (ea.id), .int .i64 (IntKind.i64.wrap (ea.p0 + r.p0)), .int .i64 (ea.p1), .int .i64 (ea.p2), .int .i64 (ea.v0), .int .i64 (ea.v1), .int .i64 (ea.v2), .int .u16 ((((ea.a).toNat : Nat) : Int)), .int .u8 ((((ea.g).toNat : Nat) : Int))] 54]) [blk g3 [.int .i64 (ea.id), .int .i64 (IntKind.i64.wrap (ea.p0 + r.p0)), .int .i64 (ea.p1), .int .i64 (ea.p2), .int .i64 (ea.v0), .int .i64 (ea.v1), .int .i64 (ea.v2), .int .u16 ((((ea.a).toNat : Nat) : Int)), .int .u8 ((((ea.g).toNat : Nat) : Int))] 54] _ _ := hs
   have hm0 := hm.mid
   have t8 := ht 8 (twB_spec 12 _ (by kernel_rfl))
   have e8 : _ = some (vs48 8) := t8.val rfl
   rw [show vs48 8 = .int .i64 (IntKind.i64.wrap (ea.v0 + r.v0)) from t8.2.1] at e8
   replace hs := hs.learn e8
   have t10 := ht 10 (twB_spec 12 _ (by kernel_rfl))
   have e10 : _ = some (vs48 10) := t10.val rfl
   rw [show vs48 10 = .pointer (some ⟨g3, 4, none⟩) from t10.2.1] at e10
   replace hs := hs.learn e10
   have hs0 := hs.bare
   refine st_stB hs rfl rfl .z (.s (.s (.s (.s .z)))) rfl Try.sizeOf2 ?_; clear hs; intro a w hs
   exact wpList_nil ⟨rfl, .tuple #[], _, hs0, (.c (.c .r)), hs, trivial⟩
  clear hs w a; intro a w vs48 hs hf
  replace hs : St _ _ _ _ [blk g5 [.int .i64 (0), .int .i64 (0), .int .i64 (0), .int .i64 (0), .int .i64 (0), .int .i64 (0), .int .i64 (0), .int .u16 (0), .int .u8 (0)] 54, blk g4 [.int .i64 (r.k), .int .i64 (r.id), .int .i64 (r.p0), .int .i64 (r.p1), .int .i64 (r.p2), .int .i64 (r.v0), .int .i64 (r.v1), .int .i64 (r.v2), .int .u16 ((((r.a).toNat : Nat) : Int))] 25, blk g3 [.int .i64 (ea.id), .int .i64 (IntKind.i64.wrap (ea.p0 + r.p0)), .int .i64 (ea.p1), .int .i64 (ea.p2), .int .i64 (IntKind.i64.wrap (ea.v0 + r.v0)), .int .i64 (ea.v1), .int .i64 (ea.v2), .int .u16 ((((ea.a).toNat : Nat) : Int)), .int .u8 ((((ea.g).toNat : Nat) : Int))] 54] _ _ := hs
  clear hf
  refine in_n ?_
  refine then_n (hK44 _ _ ?_)
  refine wp_region_lit ?_
  refine st_mv hs rfl rfl ?_; clear hs w a; intro a w hs
  refine st_addR hs rfl rfl (by omega) rfl ?_; clear hs w a; intro a w hs
  rw [show (0 + 1 : Int) = 1 by rfl] at hs
  refine st_as hs rfl rfl ?_; clear hs w a; intro a w hs
  refine wpList_nil ?_
  refine then_n ?_
  refine rounds_in ?_
  refine wp_seq_k fun K49 hK50 => ?_
  refine wp_seq_k fun K51 hK52 => ?_
  refine wp_region_lit ?_
  refine st_mv hs rfl rfl ?_; clear hs w a; intro a w hs
  refine st_lss hs rfl rfl rfl ?_; clear hs w a; intro a w hs
  rw [show (decide ((1 : Int) < 3)) = true from by decide] at hs
  refine wpList_nil ?_
  refine then_n (hK52 _ _ ?_)
  refine wp_cond_true (hs.ev rfl) ?_
  refine wp_skip ?_
  refine then_n (hK50 _ _ ?_)
  refine wp_seq_k fun K53 hK54 => ?_
  refine wp_block ?_
  refine wp_seq_k fun K55 hK56 => ?_
  replace hs := hs.sub (F' := [(46, .bool (true)), (45, .int .i64 (1)), (7, .int .i64 (1)), (48, .int .i64 (1)), (47, .int .i64 (0)), (5, .int .i64 (0)), (4, .pointer (some ⟨g5, 0, none⟩)), (3, .pointer (some ⟨g4, 0, none⟩)), (2, .pointer (some ⟨g3, 0, none⟩))]) (.c rfl (.c rfl (.c rfl (.c rfl (.c rfl (.c rfl (.c rfl (.c rfl (.c rfl .n)))))))))
  refine wp_drawG (M0 := [blk g5 [.int .i64 (0), .int .i64 (0), .int .i64 (0), .int .i64 (0), .int .i64 (0), .int .i64 (0), .int .i64 (0), .int .u16 (0), .int .u8 (0)] 54, blk g4 [.int .i64 (r.k), .int .i64 (r.id), .int .i64 (r.p0), .int .i64 (r.p1), .int .i64 (r.p2), .int .i64 (r.v0), .int .i64 (r.v1), .int .i64 (r.v2), .int .u16 ((((r.a).toNat : Nat) : Int))] 25]) (Ds := [⟨[], [], [], fun vs57 => vs57 0 = .int .i64 (1), fun vs57 => []⟩, ⟨[], [], [], fun vs57 => vs57 1 = .pointer (some ⟨g3, 1, none⟩), fun vs57 => []⟩, ⟨[], [], [], fun vs57 => vs57 2 = .pointer (some ⟨g3, 2, none⟩), fun vs57 => []⟩, ⟨[], [], [], fun vs57 => vs57 3 = .int .i64 (ea.p1), fun vs57 => []⟩, ⟨[], [], [], fun vs57 => vs57 4 = .int .i64 (1), fun vs57 => []⟩, ⟨[], [], [], fun vs57 => vs57 5 = .pointer (some ⟨g4, 2, none⟩), fun vs57 => []⟩, ⟨[], [], [], fun vs57 => vs57 6 = .pointer (some ⟨g4, 3, none⟩), fun vs57 => []⟩, ⟨[], [], [], fun vs57 => vs57 7 = .int .i64 (r.p1), fun vs57 => []⟩, ⟨[], [], [], fun vs57 => vs57 8 = .int .i64 (IntKind.i64.wrap (ea.p1 + r.p1)), fun vs57 => []⟩, ⟨[], [], [], fun vs57 => vs57 9 = .pointer (some ⟨g3, 1, none⟩), fun vs57 => []⟩, ⟨[], [], [], fun vs57 => vs57 10 = .pointer (some ⟨g3, 2, none⟩), fun vs57 => []⟩, ⟨[blk g3 [.int .i64 (ea.id), .int .i64 (IntKind.i64.wrap (ea.p0 + r.p0)), .int .i64 (ea.p1), .int .i64 (ea.p2), .int .i64 (IntKind.i64.wrap (ea.v0 + r.v0)), .int .i64 (ea.v1), .int .i64 (ea.v2), .int .u16 ((((ea.a).toNat : Nat) : Int)), .int .u8 ((((ea.g).toNat : Nat) : Int))] 54], [], [], fun vs57 => True, fun vs57 => [blk g3 [.int .i64 (ea.id), .int .i64 (IntKind.i64.wrap (ea.p0 + r.p0)), .int .i64 (IntKind.i64.wrap (ea.p1 + r.p1)), .int .i64 (ea.p2), .int .i64 (IntKind.i64.wrap (ea.v0 + r.v0)), .int .i64 (ea.v1), .int .i64 (ea.v2), .int .u16 ((((ea.a).toNat : Nat) : Int)), .int .u8 ((((ea.g).toNat : Nat) : Int))] 54]⟩]) (by kernel_rfl) hs rfl (.c (.s (.s .z)) .n) (by kernel_rfl) (by kernel_rfl) ?_ ?_
  ·
   refine (.c ?_ (.c ?_ (.c ?_ (.c ?_ (.c ?_ (.c ?_ (.c ?_ (.c ?_ (.c ?_ (.c ?_ (.c ?_ (.c ?_ .n))))))))))))
   ·
    intro a_ w_ R_ rest_ vs57 hm hs ht hx
    replace hs : St _ _ _ (feet []) [] _ _ := hs
    have hm0 := hm.mid
    have hs0 := hs.bare
    refine st_mv hs rfl rfl ?_; clear hs; intro a w hs
    exact wpList_nil ⟨rfl, _, _, hs0, .r, hs, rfl⟩
   ·
    intro a_ w_ R_ rest_ vs57 hm hs ht hx
    replace hs : St _ _ _ (feet []) [] _ _ := hs
    have hm0 := hm.mid
    have hs0 := hs.bare
    refine st_fa hs rfl Try.underlying54 rfl Try.sizeOf22 (by decide) (o := 1) rfl rfl ?_; clear hs; intro a w hs
    exact wpList_nil ⟨rfl, _, _, hs0, .r, hs, rfl⟩
   ·
    intro a_ w_ R_ rest_ vs57 hm hs ht hx
    replace hs : St _ _ _ (feet []) [] _ _ := hs
    have hm0 := hm.mid
    have t0 := ht 0 (twB_spec 12 _ (by kernel_rfl))
    have e0 : _ = some (vs57 0) := t0.val rfl
    rw [show vs57 0 = .int .i64 (1) from t0.2.1] at e0
    replace hs := hs.learn e0
    have t1 := ht 1 (twB_spec 12 _ (by kernel_rfl))
    have e1 : _ = some (vs57 1) := t1.val rfl
    rw [show vs57 1 = .pointer (some ⟨g3, 1, none⟩) from t1.2.1] at e1
    replace hs := hs.learn e1
    have hs0 := hs.bare
    refine st_iaB hs rfl rfl Try.underlying22 (by decide) (by decide) Try.sizeOf2 (o' := 2) rfl rfl ?_; clear hs; intro a w hs
    exact wpList_nil ⟨rfl, _, _, hs0, (.c (.c .r)), hs, rfl⟩
   ·
    intro a_ w_ R_ rest_ vs57 hm hs ht hx
    replace hs : St _ _ _ (feet []) [] _ _ := hs
    have hm0 := hm.mid
    have t2 := ht 2 (twB_spec 12 _ (by kernel_rfl))
    have e2 : _ = some (vs57 2) := t2.val rfl
    rw [show vs57 2 = .pointer (some ⟨g3, 2, none⟩) from t2.2.1] at e2
    replace hs := hs.learn e2
    have hs0 := hs.bare
    refine st_ldE hs rfl (hm.own (List.mem_append.2 (.inr (hx 11 (twB_spec 12 _ (by kernel_rfl)) _ (List.Mem.head _))))) (.s (.s .z)) Try.isAgg2 rfl ?_; clear hs; intro a w hs
    exact wpList_nil ⟨rfl, _, _, hs0, (.c .r), hs, rfl⟩
   ·
    intro a_ w_ R_ rest_ vs57 hm hs ht hx
    replace hs : St _ _ _ (feet []) [] _ _ := hs
    have hm0 := hm.mid
    have hs0 := hs.bare
    refine st_mv hs rfl rfl ?_; clear hs; intro a w hs
    exact wpList_nil ⟨rfl, _, _, hs0, .r, hs, rfl⟩
   ·
    intro a_ w_ R_ rest_ vs57 hm hs ht hx
    replace hs : St _ _ _ (feet []) [] _ _ := hs
    have hm0 := hm.mid
    have hs0 := hs.bare
    refine st_fa hs rfl Try.underlying25 rfl Try.sizeOf22 (by decide) (o := 2) rfl rfl ?_; clear hs; intro a w hs
    exact wpList_nil ⟨rfl, _, _, hs0, .r, hs, rfl⟩
   ·
    intro a_ w_ R_ rest_ vs57 hm hs ht hx
    replace hs : St _ _ _ (feet []) [] _ _ := hs
    have hm0 := hm.mid
    have t4 := ht 4 (twB_spec 12 _ (by kernel_rfl))
    have e4 : _ = some (vs57 4) := t4.val rfl
    rw [show vs57 4 = .int .i64 (1) from t4.2.1] at e4
    replace hs := hs.learn e4
    have t5 := ht 5 (twB_spec 12 _ (by kernel_rfl))
    have e5 : _ = some (vs57 5) := t5.val rfl
    rw [show vs57 5 = .pointer (some ⟨g4, 2, none⟩) from t5.2.1] at e5
    replace hs := hs.learn e5
    have hs0 := hs.bare
    refine st_iaB hs rfl rfl Try.underlying22 (by decide) (by decide) Try.sizeOf2 (o' := 3) rfl rfl ?_; clear hs; intro a w hs
    exact wpList_nil ⟨rfl, _, _, hs0, (.c (.c .r)), hs, rfl⟩
   ·
    intro a_ w_ R_ rest_ vs57 hm hs ht hx
    replace hs : St _ _ _ (feet []) [] _ _ := hs
    have hm0 := hm.mid
    have t6 := ht 6 (twB_spec 12 _ (by kernel_rfl))
    have e6 : _ = some (vs57 6) := t6.val rfl
    rw [show vs57 6 = .pointer (some ⟨g4, 3, none⟩) from t6.2.1] at e6
    replace hs := hs.learn e6
    have hs0 := hs.bare
    refine st_ldE hs rfl (hm0.del (.s .z)) (.s (.s (.s .z))) Try.isAgg2 rfl ?_; clear hs; intro a w hs
    exact wpList_nil ⟨rfl, _, _, hs0, (.c .r), hs, rfl⟩
   ·
    intro a_ w_ R_ rest_ vs57 hm hs ht hx
    replace hs : St _ _ _ (feet []) [] _ _ := hs
    have hm0 := hm.mid
    have t3 := ht 3 (twB_spec 12 _ (by kernel_rfl))
    have e3 : _ = some (vs57 3) := t3.val rfl
    rw [show vs57 3 = .int .i64 (ea.p1) from t3.2.1] at e3
    replace hs := hs.learn e3
    have t7 := ht 7 (twB_spec 12 _ (by kernel_rfl))
    have e7 : _ = some (vs57 7) := t7.val rfl
    rw [show vs57 7 = .int .i64 (r.p1) from t7.2.1] at e7
    replace hs := hs.learn e7
    have hs0 := hs.bare
    refine st_add hs rfl rfl rfl ?_; clear hs; intro a w hs
    exact wpList_nil ⟨rfl, _, _, hs0, (.c (.c .r)), hs, rfl⟩
   ·
    intro a_ w_ R_ rest_ vs57 hm hs ht hx
    replace hs : St _ _ _ (feet []) [] _ _ := hs
    have hm0 := hm.mid
    have hs0 := hs.bare
    refine st_fa hs rfl Try.underlying54 rfl Try.sizeOf22 (by decide) (o := 1) rfl rfl ?_; clear hs; intro a w hs
    exact wpList_nil ⟨rfl, _, _, hs0, .r, hs, rfl⟩
   ·
    intro a_ w_ R_ rest_ vs57 hm hs ht hx
    replace hs : St _ _ _ (feet []) [] _ _ := hs
    have hm0 := hm.mid
    have t0 := ht 0 (twB_spec 12 _ (by kernel_rfl))
    have e0 : _ = some (vs57 0) := t0.val rfl
    rw [show vs57 0 = .int .i64 (1) from t0.2.1] at e0
    replace hs := hs.learn e0
    have t9 := ht 9 (twB_spec 12 _ (by kernel_rfl))
    have e9 : _ = some (vs57 9) := t9.val rfl
    rw [show vs57 9 = .pointer (some ⟨g3, 1, none⟩) from t9.2.1] at e9
    replace hs := hs.learn e9
    have hs0 := hs.bare
    refine st_iaB hs rfl rfl Try.underlying22 (by decide) (by decide) Try.sizeOf2 (o' := 2) rfl rfl ?_; clear hs; intro a w hs
    exact wpList_nil ⟨rfl, _, _, hs0, (.c (.c .r)), hs, rfl⟩
   intro a_ w_ R_ rest_ vs57 hm hs ht hx
   replace hs : St _ _ _ (feet [blk g3 [.int .i64 (ea.id), .int .i64 (IntKind.i64.wrap (ea.p0 + r.p0)), .int .i64 (ea.p1), .int .i64 (ea.p2), .int .i64 (IntKind.i64.wrap (ea.v0 + r.v0)), .int .i64 (ea.v1), .int .i64 (ea.v2), .int .u16 ((((ea.a).toNat : Nat) : Int)), .int .u8 ((((ea.g).toNat : Nat) : Int))] 54]) [blk g3 [.int .i64 (ea.id), .int .i64 (IntKind.i64.wrap (ea.p0 + r.p0)), .int .i64 (ea.p1), .int .i64 (ea.p2), .int .i64 (IntKind.i64.wrap (ea.v0 + r.v0)), .int .i64 (ea.v1), .int .i64 (ea.v2), .int .u16 ((((ea.a).toNat : Nat) : Int)), .int .u8 ((((ea.g).toNat : Nat) : Int))] 54] _ _ := hs
   have hm0 := hm.mid
   have t8 := ht 8 (twB_spec 12 _ (by kernel_rfl))
   have e8 : _ = some (vs57 8) := t8.val rfl
   rw [show vs57 8 = .int .i64 (IntKind.i64.wrap (ea.p1 + r.p1)) from t8.2.1] at e8
   replace hs := hs.learn e8
   have t10 := ht 10 (twB_spec 12 _ (by kernel_rfl))
   have e10 : _ = some (vs57 10) := t10.val rfl
   rw [show vs57 10 = .pointer (some ⟨g3, 2, none⟩) from t10.2.1] at e10
   replace hs := hs.learn e10
   have hs0 := hs.bare
   refine st_stB hs rfl rfl .z (.s (.s .z)) rfl Try.sizeOf2 ?_; clear hs; intro a w hs
   exact wpList_nil ⟨rfl, .tuple #[], _, hs0, (.c (.c .r)), hs, trivial⟩
  clear hs w a; intro a w vs57 hs hf
  replace hs : St _ _ _ _ [blk g5 [.int .i64 (0), .int .i64 (0), .int .i64 (0), .int .i64 (0), .int .i64 (0), .int .i64 (0), .int .i64 (0), .int .u16 (0), .int .u8 (0)] 54, blk g4 [.int .i64 (r.k), .int .i64 (r.id), .int .i64 (r.p0), .int .i64 (r.p1), .int .i64 (r.p2), .int .i64 (r.v0), .int .i64 (r.v1), .int .i64 (r.v2), .int .u16 ((((r.a).toNat : Nat) : Int))] 25, blk g3 [.int .i64 (ea.id), .int .i64 (IntKind.i64.wrap (ea.p0 + r.p0)), .int .i64 (IntKind.i64.wrap (ea.p1 + r.p1)), .int .i64 (ea.p2), .int .i64 (IntKind.i64.wrap (ea.v0 + r.v0)), .int .i64 (ea.v1), .int .i64 (ea.v2), .int .u16 ((((ea.a).toNat : Nat) : Int)), .int .u8 ((((ea.g).toNat : Nat) : Int))] 54] _ _ := hs
  clear hf
  refine then_n (hK56 _ _ ?_)
  replace hs := hs.sub (F' := [(46, .bool (true)), (45, .int .i64 (1)), (7, .int .i64 (1)), (48, .int .i64 (1)), (47, .int .i64 (0)), (5, .int .i64 (0)), (4, .pointer (some ⟨g5, 0, none⟩)), (3, .pointer (some ⟨g4, 0, none⟩)), (2, .pointer (some ⟨g3, 0, none⟩))]) (.c rfl (.c rfl (.c rfl (.c rfl (.c rfl (.c rfl (.c rfl (.c rfl (.c rfl .n)))))))))
  refine wp_drawG (M0 := [blk g5 [.int .i64 (0), .int .i64 (0), .int .i64 (0), .int .i64 (0), .int .i64 (0), .int .i64 (0), .int .i64 (0), .int .u16 (0), .int .u8 (0)] 54, blk g4 [.int .i64 (r.k), .int .i64 (r.id), .int .i64 (r.p0), .int .i64 (r.p1), .int .i64 (r.p2), .int .i64 (r.v0), .int .i64 (r.v1), .int .i64 (r.v2), .int .u16 ((((r.a).toNat : Nat) : Int))] 25]) (Ds := [⟨[], [], [], fun vs58 => vs58 0 = .int .i64 (1), fun vs58 => []⟩, ⟨[], [], [], fun vs58 => vs58 1 = .pointer (some ⟨g3, 4, none⟩), fun vs58 => []⟩, ⟨[], [], [], fun vs58 => vs58 2 = .pointer (some ⟨g3, 5, none⟩), fun vs58 => []⟩, ⟨[], [], [], fun vs58 => vs58 3 = .int .i64 (ea.v1), fun vs58 => []⟩, ⟨[], [], [], fun vs58 => vs58 4 = .int .i64 (1), fun vs58 => []⟩, ⟨[], [], [], fun vs58 => vs58 5 = .pointer (some ⟨g4, 5, none⟩), fun vs58 => []⟩, ⟨[], [], [], fun vs58 => vs58 6 = .pointer (some ⟨g4, 6, none⟩), fun vs58 => []⟩, ⟨[], [], [], fun vs58 => vs58 7 = .int .i64 (r.v1), fun vs58 => []⟩, ⟨[], [], [], fun vs58 => vs58 8 = .int .i64 (IntKind.i64.wrap (ea.v1 + r.v1)), fun vs58 => []⟩, ⟨[], [], [], fun vs58 => vs58 9 = .pointer (some ⟨g3, 4, none⟩), fun vs58 => []⟩, ⟨[], [], [], fun vs58 => vs58 10 = .pointer (some ⟨g3, 5, none⟩), fun vs58 => []⟩, ⟨[blk g3 [.int .i64 (ea.id), .int .i64 (IntKind.i64.wrap (ea.p0 + r.p0)), .int .i64 (IntKind.i64.wrap (ea.p1 + r.p1)), .int .i64 (ea.p2), .int .i64 (IntKind.i64.wrap (ea.v0 + r.v0)), .int .i64 (ea.v1), .int .i64 (ea.v2), .int .u16 ((((ea.a).toNat : Nat) : Int)), .int .u8 ((((ea.g).toNat : Nat) : Int))] 54], [], [], fun vs58 => True, fun vs58 => [blk g3 [.int .i64 (ea.id), .int .i64 (IntKind.i64.wrap (ea.p0 + r.p0)), .int .i64 (IntKind.i64.wrap (ea.p1 + r.p1)), .int .i64 (ea.p2), .int .i64 (IntKind.i64.wrap (ea.v0 + r.v0)), .int .i64 (IntKind.i64.wrap (ea.v1 + r.v1)), .int .i64 (ea.v2), .int .u16 ((((ea.a).toNat : Nat) : Int)), .int .u8 ((((ea.g).toNat : Nat) : Int))] 54]⟩]) (by kernel_rfl) hs rfl (.c (.s (.s .z)) .n) (by kernel_rfl) (by kernel_rfl) ?_ ?_
  ·
   refine (.c ?_ (.c ?_ (.c ?_ (.c ?_ (.c ?_ (.c ?_ (.c ?_ (.c ?_ (.c ?_ (.c ?_ (.c ?_ (.c ?_ .n))))))))))))
   ·
    intro a_ w_ R_ rest_ vs58 hm hs ht hx
    replace hs : St _ _ _ (feet []) [] _ _ := hs
    have hm0 := hm.mid
    have hs0 := hs.bare
    refine st_mv hs rfl rfl ?_; clear hs; intro a w hs
    exact wpList_nil ⟨rfl, _, _, hs0, .r, hs, rfl⟩
   ·
    intro a_ w_ R_ rest_ vs58 hm hs ht hx
    replace hs : St _ _ _ (feet []) [] _ _ := hs
    have hm0 := hm.mid
    have hs0 := hs.bare
    refine st_fa hs rfl Try.underlying54 rfl Try.sizeOf22 (by decide) (o := 4) rfl rfl ?_; clear hs; intro a w hs
    exact wpList_nil ⟨rfl, _, _, hs0, .r, hs, rfl⟩
   ·
    intro a_ w_ R_ rest_ vs58 hm hs ht hx
    replace hs : St _ _ _ (feet []) [] _ _ := hs
    have hm0 := hm.mid
    have t0 := ht 0 (twB_spec 12 _ (by kernel_rfl))
    have e0 : _ = some (vs58 0) := t0.val rfl
    rw [show vs58 0 = .int .i64 (1) from t0.2.1] at e0
    replace hs := hs.learn e0
    have t1 := ht 1 (twB_spec 12 _ (by kernel_rfl))
    have e1 : _ = some (vs58 1) := t1.val rfl
    rw [show vs58 1 = .pointer (some ⟨g3, 4, none⟩) from t1.2.1] at e1
    replace hs := hs.learn e1
    have hs0 := hs.bare
    refine st_iaB hs rfl rfl Try.underlying22 (by decide) (by decide) Try.sizeOf2 (o' := 5) rfl rfl ?_; clear hs; intro a w hs
    exact wpList_nil ⟨rfl, _, _, hs0, (.c (.c .r)), hs, rfl⟩
   ·
    intro a_ w_ R_ rest_ vs58 hm hs ht hx
    replace hs : St _ _ _ (feet []) [] _ _ := hs
    have hm0 := hm.mid
    have t2 := ht 2 (twB_spec 12 _ (by kernel_rfl))
    have e2 : _ = some (vs58 2) := t2.val rfl
    rw [show vs58 2 = .pointer (some ⟨g3, 5, none⟩) from t2.2.1] at e2
    replace hs := hs.learn e2
    have hs0 := hs.bare
    refine st_ldE hs rfl (hm.own (List.mem_append.2 (.inr (hx 11 (twB_spec 12 _ (by kernel_rfl)) _ (List.Mem.head _))))) (.s (.s (.s (.s (.s .z))))) Try.isAgg2 rfl ?_; clear hs; intro a w hs
    exact wpList_nil ⟨rfl, _, _, hs0, (.c .r), hs, rfl⟩
   ·
    intro a_ w_ R_ rest_ vs58 hm hs ht hx
    replace hs : St _ _ _ (feet []) [] _ _ := hs
    have hm0 := hm.mid
    have hs0 := hs.bare
    refine st_mv hs rfl rfl ?_; clear hs; intro a w hs
    exact wpList_nil ⟨rfl, _, _, hs0, .r, hs, rfl⟩
   ·
    intro a_ w_ R_ rest_ vs58 hm hs ht hx
    replace hs : St _ _ _ (feet []) [] _ _ := hs
    have hm0 := hm.mid
    have hs0 := hs.bare
    refine st_fa hs rfl Try.underlying25 rfl Try.sizeOf22 (by decide) (o := 5) rfl rfl ?_; clear hs; intro a w hs
    exact wpList_nil ⟨rfl, _, _, hs0, .r, hs, rfl⟩
   ·
    intro a_ w_ R_ rest_ vs58 hm hs ht hx
    replace hs : St _ _ _ (feet []) [] _ _ := hs
    have hm0 := hm.mid
    have t4 := ht 4 (twB_spec 12 _ (by kernel_rfl))
    have e4 : _ = some (vs58 4) := t4.val rfl
    rw [show vs58 4 = .int .i64 (1) from t4.2.1] at e4
    replace hs := hs.learn e4
    have t5 := ht 5 (twB_spec 12 _ (by kernel_rfl))
    have e5 : _ = some (vs58 5) := t5.val rfl
    rw [show vs58 5 = .pointer (some ⟨g4, 5, none⟩) from t5.2.1] at e5
    replace hs := hs.learn e5
    have hs0 := hs.bare
    refine st_iaB hs rfl rfl Try.underlying22 (by decide) (by decide) Try.sizeOf2 (o' := 6) rfl rfl ?_; clear hs; intro a w hs
    exact wpList_nil ⟨rfl, _, _, hs0, (.c (.c .r)), hs, rfl⟩
   ·
    intro a_ w_ R_ rest_ vs58 hm hs ht hx
    replace hs : St _ _ _ (feet []) [] _ _ := hs
    have hm0 := hm.mid
    have t6 := ht 6 (twB_spec 12 _ (by kernel_rfl))
    have e6 : _ = some (vs58 6) := t6.val rfl
    rw [show vs58 6 = .pointer (some ⟨g4, 6, none⟩) from t6.2.1] at e6
    replace hs := hs.learn e6
    have hs0 := hs.bare
    refine st_ldE hs rfl (hm0.del (.s .z)) (.s (.s (.s (.s (.s (.s .z)))))) Try.isAgg2 rfl ?_; clear hs; intro a w hs
    exact wpList_nil ⟨rfl, _, _, hs0, (.c .r), hs, rfl⟩
   ·
    intro a_ w_ R_ rest_ vs58 hm hs ht hx
    replace hs : St _ _ _ (feet []) [] _ _ := hs
    have hm0 := hm.mid
    have t3 := ht 3 (twB_spec 12 _ (by kernel_rfl))
    have e3 : _ = some (vs58 3) := t3.val rfl
    rw [show vs58 3 = .int .i64 (ea.v1) from t3.2.1] at e3
    replace hs := hs.learn e3
    have t7 := ht 7 (twB_spec 12 _ (by kernel_rfl))
    have e7 : _ = some (vs58 7) := t7.val rfl
    rw [show vs58 7 = .int .i64 (r.v1) from t7.2.1] at e7
    replace hs := hs.learn e7
    have hs0 := hs.bare
    refine st_add hs rfl rfl rfl ?_; clear hs; intro a w hs
    exact wpList_nil ⟨rfl, _, _, hs0, (.c (.c .r)), hs, rfl⟩
   ·
    intro a_ w_ R_ rest_ vs58 hm hs ht hx
    replace hs : St _ _ _ (feet []) [] _ _ := hs
    have hm0 := hm.mid
    have hs0 := hs.bare
    refine st_fa hs rfl Try.underlying54 rfl Try.sizeOf22 (by decide) (o := 4) rfl rfl ?_; clear hs; intro a w hs
    exact wpList_nil ⟨rfl, _, _, hs0, .r, hs, rfl⟩
   ·
    intro a_ w_ R_ rest_ vs58 hm hs ht hx
    replace hs : St _ _ _ (feet []) [] _ _ := hs
    have hm0 := hm.mid
    have t0 := ht 0 (twB_spec 12 _ (by kernel_rfl))
    have e0 : _ = some (vs58 0) := t0.val rfl
    rw [show vs58 0 = .int .i64 (1) from t0.2.1] at e0
    replace hs := hs.learn e0
    have t9 := ht 9 (twB_spec 12 _ (by kernel_rfl))
    have e9 : _ = some (vs58 9) := t9.val rfl
    rw [show vs58 9 = .pointer (some ⟨g3, 4, none⟩) from t9.2.1] at e9
    replace hs := hs.learn e9
    have hs0 := hs.bare
    refine st_iaB hs rfl rfl Try.underlying22 (by decide) (by decide) Try.sizeOf2 (o' := 5) rfl rfl ?_; clear hs; intro a w hs
    exact wpList_nil ⟨rfl, _, _, hs0, (.c (.c .r)), hs, rfl⟩
   intro a_ w_ R_ rest_ vs58 hm hs ht hx
   replace hs : St _ _ _ (feet [blk g3 [.int .i64 (ea.id), .int .i64 (IntKind.i64.wrap (ea.p0 + r.p0)), .int .i64 (IntKind.i64.wrap (ea.p1 + r.p1)), .int .i64 (ea.p2), .int .i64 (IntKind.i64.wrap (ea.v0 + r.v0)), .int .i64 (ea.v1), .int .i64 (ea.v2), .int .u16 ((((ea.a).toNat : Nat) : Int)), .int .u8 ((((ea.g).toNat : Nat) : Int))] 54]) [blk g3 [.int .i64 (ea.id), .int .i64 (IntKind.i64.wrap (ea.p0 + r.p0)), .int .i64 (IntKind.i64.wrap (ea.p1 + r.p1)), .int .i64 (ea.p2), .int .i64 (IntKind.i64.wrap (ea.v0 + r.v0)), .int .i64 (ea.v1), .int .i64 (ea.v2), .int .u16 ((((ea.a).toNat : Nat) : Int)), .int .u8 ((((ea.g).toNat : Nat) : Int))] 54] _ _ := hs
   have hm0 := hm.mid
   have t8 := ht 8 (twB_spec 12 _ (by kernel_rfl))
   have e8 : _ = some (vs58 8) := t8.val rfl
   rw [show vs58 8 = .int .i64 (IntKind.i64.wrap (ea.v1 + r.v1)) from t8.2.1] at e8
   replace hs := hs.learn e8
   have t10 := ht 10 (twB_spec 12 _ (by kernel_rfl))
   have e10 : _ = some (vs58 10) := t10.val rfl
   rw [show vs58 10 = .pointer (some ⟨g3, 5, none⟩) from t10.2.1] at e10
   replace hs := hs.learn e10
   have hs0 := hs.bare
   refine st_stB hs rfl rfl .z (.s (.s (.s (.s (.s .z))))) rfl Try.sizeOf2 ?_; clear hs; intro a w hs
   exact wpList_nil ⟨rfl, .tuple #[], _, hs0, (.c (.c .r)), hs, trivial⟩
  clear hs w a; intro a w vs58 hs hf
  replace hs : St _ _ _ _ [blk g5 [.int .i64 (0), .int .i64 (0), .int .i64 (0), .int .i64 (0), .int .i64 (0), .int .i64 (0), .int .i64 (0), .int .u16 (0), .int .u8 (0)] 54, blk g4 [.int .i64 (r.k), .int .i64 (r.id), .int .i64 (r.p0), .int .i64 (r.p1), .int .i64 (r.p2), .int .i64 (r.v0), .int .i64 (r.v1), .int .i64 (r.v2), .int .u16 ((((r.a).toNat : Nat) : Int))] 25, blk g3 [.int .i64 (ea.id), .int .i64 (IntKind.i64.wrap (ea.p0 + r.p0)), .int .i64 (IntKind.i64.wrap (ea.p1 + r.p1)), .int .i64 (ea.p2), .int .i64 (IntKind.i64.wrap (ea.v0 + r.v0)), .int .i64 (IntKind.i64.wrap (ea.v1 + r.v1)), .int .i64 (ea.v2), .int .u16 ((((ea.a).toNat : Nat) : Int)), .int .u8 ((((ea.g).toNat : Nat) : Int))] 54] _ _ := hs
  clear hf
  refine in_n ?_
  refine then_n (hK54 _ _ ?_)
  refine wp_region_lit ?_
  refine st_mv hs rfl rfl ?_; clear hs w a; intro a w hs
  refine st_addR hs rfl rfl (by omega) rfl ?_; clear hs w a; intro a w hs
  rw [show (1 + 1 : Int) = 2 by rfl] at hs
  refine st_as hs rfl rfl ?_; clear hs w a; intro a w hs
  refine wpList_nil ?_
  refine then_n ?_
  refine rounds_in ?_
  refine wp_seq_k fun K59 hK60 => ?_
  refine wp_seq_k fun K61 hK62 => ?_
  refine wp_region_lit ?_
  refine st_mv hs rfl rfl ?_; clear hs w a; intro a w hs
  refine st_lss hs rfl rfl rfl ?_; clear hs w a; intro a w hs
  rw [show (decide ((2 : Int) < 3)) = true from by decide] at hs
  refine wpList_nil ?_
  refine then_n (hK62 _ _ ?_)
  refine wp_cond_true (hs.ev rfl) ?_
  refine wp_skip ?_
  refine then_n (hK60 _ _ ?_)
  refine wp_seq_k fun K63 hK64 => ?_
  refine wp_block ?_
  refine wp_seq_k fun K65 hK66 => ?_
  replace hs := hs.sub (F' := [(46, .bool (true)), (45, .int .i64 (2)), (7, .int .i64 (2)), (48, .int .i64 (2)), (47, .int .i64 (1)), (5, .int .i64 (0)), (4, .pointer (some ⟨g5, 0, none⟩)), (3, .pointer (some ⟨g4, 0, none⟩)), (2, .pointer (some ⟨g3, 0, none⟩))]) (.c rfl (.c rfl (.c rfl (.c rfl (.c rfl (.c rfl (.c rfl (.c rfl (.c rfl .n)))))))))
  refine wp_drawG (M0 := [blk g5 [.int .i64 (0), .int .i64 (0), .int .i64 (0), .int .i64 (0), .int .i64 (0), .int .i64 (0), .int .i64 (0), .int .u16 (0), .int .u8 (0)] 54, blk g4 [.int .i64 (r.k), .int .i64 (r.id), .int .i64 (r.p0), .int .i64 (r.p1), .int .i64 (r.p2), .int .i64 (r.v0), .int .i64 (r.v1), .int .i64 (r.v2), .int .u16 ((((r.a).toNat : Nat) : Int))] 25]) (Ds := [⟨[], [], [], fun vs67 => vs67 0 = .int .i64 (2), fun vs67 => []⟩, ⟨[], [], [], fun vs67 => vs67 1 = .pointer (some ⟨g3, 1, none⟩), fun vs67 => []⟩, ⟨[], [], [], fun vs67 => vs67 2 = .pointer (some ⟨g3, 3, none⟩), fun vs67 => []⟩, ⟨[], [], [], fun vs67 => vs67 3 = .int .i64 (ea.p2), fun vs67 => []⟩, ⟨[], [], [], fun vs67 => vs67 4 = .int .i64 (2), fun vs67 => []⟩, ⟨[], [], [], fun vs67 => vs67 5 = .pointer (some ⟨g4, 2, none⟩), fun vs67 => []⟩, ⟨[], [], [], fun vs67 => vs67 6 = .pointer (some ⟨g4, 4, none⟩), fun vs67 => []⟩, ⟨[], [], [], fun vs67 => vs67 7 = .int .i64 (r.p2), fun vs67 => []⟩, ⟨[], [], [], fun vs67 => vs67 8 = .int .i64 (IntKind.i64.wrap (ea.p2 + r.p2)), fun vs67 => []⟩, ⟨[], [], [], fun vs67 => vs67 9 = .pointer (some ⟨g3, 1, none⟩), fun vs67 => []⟩, ⟨[], [], [], fun vs67 => vs67 10 = .pointer (some ⟨g3, 3, none⟩), fun vs67 => []⟩, ⟨[blk g3 [.int .i64 (ea.id), .int .i64 (IntKind.i64.wrap (ea.p0 + r.p0)), .int .i64 (IntKind.i64.wrap (ea.p1 + r.p1)), .int .i64 (ea.p2), .int .i64 (IntKind.i64.wrap (ea.v0 + r.v0)), .int .i64 (IntKind.i64.wrap (ea.v1 + r.v1)), .int .i64 (ea.v2), .int .u16 ((((ea.a).toNat : Nat) : Int)), .int .u8 ((((ea.g).toNat : Nat) : Int))] 54], [], [], fun vs67 => True, fun vs67 => [blk g3 [.int .i64 (ea.id), .int .i64 (IntKind.i64.wrap (ea.p0 + r.p0)), .int .i64 (IntKind.i64.wrap (ea.p1 + r.p1)), .int .i64 (IntKind.i64.wrap (ea.p2 + r.p2)), .int .i64 (IntKind.i64.wrap (ea.v0 + r.v0)), .int .i64 (IntKind.i64.wrap (ea.v1 + r.v1)), .int .i64 (ea.v2), .int .u16 ((((ea.a).toNat : Nat) : Int)), .int .u8 ((((ea.g).toNat : Nat) : Int))] 54]⟩]) (by kernel_rfl) hs rfl (.c (.s (.s .z)) .n) (by kernel_rfl) (by kernel_rfl) ?_ ?_
  ·
   refine (.c ?_ (.c ?_ (.c ?_ (.c ?_ (.c ?_ (.c ?_ (.c ?_ (.c ?_ (.c ?_ (.c ?_ (.c ?_ (.c ?_ .n))))))))))))
   ·
    intro a_ w_ R_ rest_ vs67 hm hs ht hx
    replace hs : St _ _ _ (feet []) [] _ _ := hs
    have hm0 := hm.mid
    have hs0 := hs.bare
    refine st_mv hs rfl rfl ?_; clear hs; intro a w hs
    exact wpList_nil ⟨rfl, _, _, hs0, .r, hs, rfl⟩
   ·
    intro a_ w_ R_ rest_ vs67 hm hs ht hx
    replace hs : St _ _ _ (feet []) [] _ _ := hs
    have hm0 := hm.mid
    have hs0 := hs.bare
    refine st_fa hs rfl Try.underlying54 rfl Try.sizeOf22 (by decide) (o := 1) rfl rfl ?_; clear hs; intro a w hs
    exact wpList_nil ⟨rfl, _, _, hs0, .r, hs, rfl⟩
   ·
    intro a_ w_ R_ rest_ vs67 hm hs ht hx
    replace hs : St _ _ _ (feet []) [] _ _ := hs
    have hm0 := hm.mid
    have t0 := ht 0 (twB_spec 12 _ (by kernel_rfl))
    have e0 : _ = some (vs67 0) := t0.val rfl
    rw [show vs67 0 = .int .i64 (2) from t0.2.1] at e0
    replace hs := hs.learn e0
    have t1 := ht 1 (twB_spec 12 _ (by kernel_rfl))
    have e1 : _ = some (vs67 1) := t1.val rfl
    rw [show vs67 1 = .pointer (some ⟨g3, 1, none⟩) from t1.2.1] at e1
    replace hs := hs.learn e1
    have hs0 := hs.bare
    refine st_iaB hs rfl rfl Try.underlying22 (by decide) (by decide) Try.sizeOf2 (o' := 3) rfl rfl ?_; clear hs; intro a w hs
    exact wpList_nil ⟨rfl, _, _, hs0, (.c (.c .r)), hs, rfl⟩
   ·
    intro a_ w_ R_ rest_ vs67 hm hs ht hx
    replace hs : St _ _ _ (feet []) [] _ _ := hs
    have hm0 := hm.mid
    have t2 := ht 2 (twB_spec 12 _ (by kernel_rfl))
    have e2 : _ = some (vs67 2) := t2.val rfl
    rw [show vs67 2 = .pointer (some ⟨g3, 3, none⟩) from t2.2.1] at e2
    replace hs := hs.learn e2
    have hs0 := hs.bare
    refine st_ldE hs rfl (hm.own (List.mem_append.2 (.inr (hx 11 (twB_spec 12 _ (by kernel_rfl)) _ (List.Mem.head _))))) (.s (.s (.s .z))) Try.isAgg2 rfl ?_; clear hs; intro a w hs
    exact wpList_nil ⟨rfl, _, _, hs0, (.c .r), hs, rfl⟩
   ·
    intro a_ w_ R_ rest_ vs67 hm hs ht hx
    replace hs : St _ _ _ (feet []) [] _ _ := hs
    have hm0 := hm.mid
    have hs0 := hs.bare
    refine st_mv hs rfl rfl ?_; clear hs; intro a w hs
    exact wpList_nil ⟨rfl, _, _, hs0, .r, hs, rfl⟩
   ·
    intro a_ w_ R_ rest_ vs67 hm hs ht hx
    replace hs : St _ _ _ (feet []) [] _ _ := hs
    have hm0 := hm.mid
    have hs0 := hs.bare
    refine st_fa hs rfl Try.underlying25 rfl Try.sizeOf22 (by decide) (o := 2) rfl rfl ?_; clear hs; intro a w hs
    exact wpList_nil ⟨rfl, _, _, hs0, .r, hs, rfl⟩
   ·
    intro a_ w_ R_ rest_ vs67 hm hs ht hx
    replace hs : St _ _ _ (feet []) [] _ _ := hs
    have hm0 := hm.mid
    have t4 := ht 4 (twB_spec 12 _ (by kernel_rfl))
    have e4 : _ = some (vs67 4) := t4.val rfl
    rw [show vs67 4 = .int .i64 (2) from t4.2.1] at e4
    replace hs := hs.learn e4
    have t5 := ht 5 (twB_spec 12 _ (by kernel_rfl))
    have e5 : _ = some (vs67 5) := t5.val rfl
    rw [show vs67 5 = .pointer (some ⟨g4, 2, none⟩) from t5.2.1] at e5
    replace hs := hs.learn e5
    have hs0 := hs.bare
    refine st_iaB hs rfl rfl Try.underlying22 (by decide) (by decide) Try.sizeOf2 (o' := 4) rfl rfl ?_; clear hs; intro a w hs
    exact wpList_nil ⟨rfl, _, _, hs0, (.c (.c .r)), hs, rfl⟩
   ·
    intro a_ w_ R_ rest_ vs67 hm hs ht hx
    replace hs : St _ _ _ (feet []) [] _ _ := hs
    have hm0 := hm.mid
    have t6 := ht 6 (twB_spec 12 _ (by kernel_rfl))
    have e6 : _ = some (vs67 6) := t6.val rfl
    rw [show vs67 6 = .pointer (some ⟨g4, 4, none⟩) from t6.2.1] at e6
    replace hs := hs.learn e6
    have hs0 := hs.bare
    refine st_ldE hs rfl (hm0.del (.s .z)) (.s (.s (.s (.s .z)))) Try.isAgg2 rfl ?_; clear hs; intro a w hs
    exact wpList_nil ⟨rfl, _, _, hs0, (.c .r), hs, rfl⟩
   ·
    intro a_ w_ R_ rest_ vs67 hm hs ht hx
    replace hs : St _ _ _ (feet []) [] _ _ := hs
    have hm0 := hm.mid
    have t3 := ht 3 (twB_spec 12 _ (by kernel_rfl))
    have e3 : _ = some (vs67 3) := t3.val rfl
    rw [show vs67 3 = .int .i64 (ea.p2) from t3.2.1] at e3
    replace hs := hs.learn e3
    have t7 := ht 7 (twB_spec 12 _ (by kernel_rfl))
    have e7 : _ = some (vs67 7) := t7.val rfl
    rw [show vs67 7 = .int .i64 (r.p2) from t7.2.1] at e7
    replace hs := hs.learn e7
    have hs0 := hs.bare
    refine st_add hs rfl rfl rfl ?_; clear hs; intro a w hs
    exact wpList_nil ⟨rfl, _, _, hs0, (.c (.c .r)), hs, rfl⟩
   ·
    intro a_ w_ R_ rest_ vs67 hm hs ht hx
    replace hs : St _ _ _ (feet []) [] _ _ := hs
    have hm0 := hm.mid
    have hs0 := hs.bare
    refine st_fa hs rfl Try.underlying54 rfl Try.sizeOf22 (by decide) (o := 1) rfl rfl ?_; clear hs; intro a w hs
    exact wpList_nil ⟨rfl, _, _, hs0, .r, hs, rfl⟩
   ·
    intro a_ w_ R_ rest_ vs67 hm hs ht hx
    replace hs : St _ _ _ (feet []) [] _ _ := hs
    have hm0 := hm.mid
    have t0 := ht 0 (twB_spec 12 _ (by kernel_rfl))
    have e0 : _ = some (vs67 0) := t0.val rfl
    rw [show vs67 0 = .int .i64 (2) from t0.2.1] at e0
    replace hs := hs.learn e0
    have t9 := ht 9 (twB_spec 12 _ (by kernel_rfl))
    have e9 : _ = some (vs67 9) := t9.val rfl
    rw [show vs67 9 = .pointer (some ⟨g3, 1, none⟩) from t9.2.1] at e9
    replace hs := hs.learn e9
    have hs0 := hs.bare
    refine st_iaB hs rfl rfl Try.underlying22 (by decide) (by decide) Try.sizeOf2 (o' := 3) rfl rfl ?_; clear hs; intro a w hs
    exact wpList_nil ⟨rfl, _, _, hs0, (.c (.c .r)), hs, rfl⟩
   intro a_ w_ R_ rest_ vs67 hm hs ht hx
   replace hs : St _ _ _ (feet [blk g3 [.int .i64 (ea.id), .int .i64 (IntKind.i64.wrap (ea.p0 + r.p0)), .int .i64 (IntKind.i64.wrap (ea.p1 + r.p1)), .int .i64 (ea.p2), .int .i64 (IntKind.i64.wrap (ea.v0 + r.v0)), .int .i64 (IntKind.i64.wrap (ea.v1 + r.v1)), .int .i64 (ea.v2), .int .u16 ((((ea.a).toNat : Nat) : Int)), .int .u8 ((((ea.g).toNat : Nat) : Int))] 54]) [blk g3 [.int .i64 (ea.id), .int .i64 (IntKind.i64.wrap (ea.p0 + r.p0)), .int .i64 (IntKind.i64.wrap (ea.p1 + r.p1)), .int .i64 (ea.p2), .int .i64 (IntKind.i64.wrap (ea.v0 + r.v0)), .int .i64 (IntKind.i64.wrap (ea.v1 + r.v1)), .int .i64 (ea.v2), .int .u16 ((((ea.a).toNat : Nat) : Int)), .int .u8 ((((ea.g).toNat : Nat) : Int))] 54] _ _ := hs
   have hm0 := hm.mid
   have t8 := ht 8 (twB_spec 12 _ (by kernel_rfl))
   have e8 : _ = some (vs67 8) := t8.val rfl
   rw [show vs67 8 = .int .i64 (IntKind.i64.wrap (ea.p2 + r.p2)) from t8.2.1] at e8
   replace hs := hs.learn e8
   have t10 := ht 10 (twB_spec 12 _ (by kernel_rfl))
   have e10 : _ = some (vs67 10) := t10.val rfl
   rw [show vs67 10 = .pointer (some ⟨g3, 3, none⟩) from t10.2.1] at e10
   replace hs := hs.learn e10
   have hs0 := hs.bare
   refine st_stB hs rfl rfl .z (.s (.s (.s .z))) rfl Try.sizeOf2 ?_; clear hs; intro a w hs
   exact wpList_nil ⟨rfl, .tuple #[], _, hs0, (.c (.c .r)), hs, trivial⟩
  clear hs w a; intro a w vs67 hs hf
  replace hs : St _ _ _ _ [blk g5 [.int .i64 (0), .int .i64 (0), .int .i64 (0), .int .i64 (0), .int .i64 (0), .int .i64 (0), .int .i64 (0), .int .u16 (0), .int .u8 (0)] 54, blk g4 [.int .i64 (r.k), .int .i64 (r.id), .int .i64 (r.p0), .int .i64 (r.p1), .int .i64 (r.p2), .int .i64 (r.v0), .int .i64 (r.v1), .int .i64 (r.v2), .int .u16 ((((r.a).toNat : Nat) : Int))] 25, blk g3 [.int .i64 (ea.id), .int .i64 (IntKind.i64.wrap (ea.p0 + r.p0)), .int .i64 (IntKind.i64.wrap (ea.p1 + r.p1)), .int .i64 (IntKind.i64.wrap (ea.p2 + r.p2)), .int .i64 (IntKind.i64.wrap (ea.v0 + r.v0)), .int .i64 (IntKind.i64.wrap (ea.v1 + r.v1)), .int .i64 (ea.v2), .int .u16 ((((ea.a).toNat : Nat) : Int)), .int .u8 ((((ea.g).toNat : Nat) : Int))] 54] _ _ := hs
  clear hf
  refine then_n (hK66 _ _ ?_)
  replace hs := hs.sub (F' := [(46, .bool (true)), (45, .int .i64 (2)), (7, .int .i64 (2)), (48, .int .i64 (2)), (47, .int .i64 (1)), (5, .int .i64 (0)), (4, .pointer (some ⟨g5, 0, none⟩)), (3, .pointer (some ⟨g4, 0, none⟩)), (2, .pointer (some ⟨g3, 0, none⟩))]) (.c rfl (.c rfl (.c rfl (.c rfl (.c rfl (.c rfl (.c rfl (.c rfl (.c rfl .n)))))))))
  refine wp_drawG (M0 := [blk g5 [.int .i64 (0), .int .i64 (0), .int .i64 (0), .int .i64 (0), .int .i64 (0), .int .i64 (0), .int .i64 (0), .int .u16 (0), .int .u8 (0)] 54, blk g4 [.int .i64 (r.k), .int .i64 (r.id), .int .i64 (r.p0), .int .i64 (r.p1), .int .i64 (r.p2), .int .i64 (r.v0), .int .i64 (r.v1), .int .i64 (r.v2), .int .u16 ((((r.a).toNat : Nat) : Int))] 25]) (Ds := [⟨[], [], [], fun vs68 => vs68 0 = .int .i64 (2), fun vs68 => []⟩, ⟨[], [], [], fun vs68 => vs68 1 = .pointer (some ⟨g3, 4, none⟩), fun vs68 => []⟩, ⟨[], [], [], fun vs68 => vs68 2 = .pointer (some ⟨g3, 6, none⟩), fun vs68 => []⟩, ⟨[], [], [], fun vs68 => vs68 3 = .int .i64 (ea.v2), fun vs68 => []⟩, ⟨[], [], [], fun vs68 => vs68 4 = .int .i64 (2), fun vs68 => []⟩, ⟨[], [], [], fun vs68 => vs68 5 = .pointer (some ⟨g4, 5, none⟩), fun vs68 => []⟩, ⟨[], [], [], fun vs68 => vs68 6 = .pointer (some ⟨g4, 7, none⟩), fun vs68 => []⟩, ⟨[], [], [], fun vs68 => vs68 7 = .int .i64 (r.v2), fun vs68 => []⟩, ⟨[], [], [], fun vs68 => vs68 8 = .int .i64 (IntKind.i64.wrap (ea.v2 + r.v2)), fun vs68 => []⟩, ⟨[], [], [], fun vs68 => vs68 9 = .pointer (some ⟨g3, 4, none⟩), fun vs68 => []⟩, ⟨[], [], [], fun vs68 => vs68 10 = .pointer (some ⟨g3, 6, none⟩), fun vs68 => []⟩, ⟨[blk g3 [.int .i64 (ea.id), .int .i64 (IntKind.i64.wrap (ea.p0 + r.p0)), .int .i64 (IntKind.i64.wrap (ea.p1 + r.p1)), .int .i64 (IntKind.i64.wrap (ea.p2 + r.p2)), .int .i64 (IntKind.i64.wrap (ea.v0 + r.v0)), .int .i64 (IntKind.i64.wrap (ea.v1 + r.v1)), .int .i64 (ea.v2), .int .u16 ((((ea.a).toNat : Nat) : Int)), .int .u8 ((((ea.g).toNat : Nat) : Int))] 54], [], [], fun vs68 => True, fun vs68 => [blk g3 [.int .i64 (ea.id), .int .i64 (IntKind.i64.wrap (ea.p0 + r.p0)), .int .i64 (IntKind.i64.wrap (ea.p1 + r.p1)), .int .i64 (IntKind.i64.wrap (ea.p2 + r.p2)), .int .i64 (IntKind.i64.wrap (ea.v0 + r.v0)), .int .i64 (IntKind.i64.wrap (ea.v1 + r.v1)), .int .i64 (IntKind.i64.wrap (ea.v2 + r.v2)), .int .u16 ((((ea.a).toNat : Nat) : Int)), .int .u8 ((((ea.g).toNat : Nat) : Int))] 54]⟩]) (by kernel_rfl) hs rfl (.c (.s (.s .z)) .n) (by kernel_rfl) (by kernel_rfl) ?_ ?_
  ·
   refine (.c ?_ (.c ?_ (.c ?_ (.c ?_ (.c ?_ (.c ?_ (.c ?_ (.c ?_ (.c ?_ (.c ?_ (.c ?_ (.c ?_ .n))))))))))))
   ·
    intro a_ w_ R_ rest_ vs68 hm hs ht hx
    replace hs : St _ _ _ (feet []) [] _ _ := hs
    have hm0 := hm.mid
    have hs0 := hs.bare
    refine st_mv hs rfl rfl ?_; clear hs; intro a w hs
    exact wpList_nil ⟨rfl, _, _, hs0, .r, hs, rfl⟩
   ·
    intro a_ w_ R_ rest_ vs68 hm hs ht hx
    replace hs : St _ _ _ (feet []) [] _ _ := hs
    have hm0 := hm.mid
    have hs0 := hs.bare
    refine st_fa hs rfl Try.underlying54 rfl Try.sizeOf22 (by decide) (o := 4) rfl rfl ?_; clear hs; intro a w hs
    exact wpList_nil ⟨rfl, _, _, hs0, .r, hs, rfl⟩
   ·
    intro a_ w_ R_ rest_ vs68 hm hs ht hx
    replace hs : St _ _ _ (feet []) [] _ _ := hs
    have hm0 := hm.mid
    have t0 := ht 0 (twB_spec 12 _ (by kernel_rfl))
    have e0 : _ = some (vs68 0) := t0.val rfl
    rw [show vs68 0 = .int .i64 (2) from t0.2.1] at e0
    replace hs := hs.learn e0
    have t1 := ht 1 (twB_spec 12 _ (by kernel_rfl))
    have e1 : _ = some (vs68 1) := t1.val rfl
    rw [show vs68 1 = .pointer (some ⟨g3, 4, none⟩) from t1.2.1] at e1
    replace hs := hs.learn e1
    have hs0 := hs.bare
    refine st_iaB hs rfl rfl Try.underlying22 (by decide) (by decide) Try.sizeOf2 (o' := 6) rfl rfl ?_; clear hs; intro a w hs
    exact wpList_nil ⟨rfl, _, _, hs0, (.c (.c .r)), hs, rfl⟩
   ·
    intro a_ w_ R_ rest_ vs68 hm hs ht hx
    replace hs : St _ _ _ (feet []) [] _ _ := hs
    have hm0 := hm.mid
    have t2 := ht 2 (twB_spec 12 _ (by kernel_rfl))
    have e2 : _ = some (vs68 2) := t2.val rfl
    rw [show vs68 2 = .pointer (some ⟨g3, 6, none⟩) from t2.2.1] at e2
    replace hs := hs.learn e2
    have hs0 := hs.bare
    refine st_ldE hs rfl (hm.own (List.mem_append.2 (.inr (hx 11 (twB_spec 12 _ (by kernel_rfl)) _ (List.Mem.head _))))) (.s (.s (.s (.s (.s (.s .z)))))) Try.isAgg2 rfl ?_; clear hs; intro a w hs
    exact wpList_nil ⟨rfl, _, _, hs0, (.c .r), hs, rfl⟩
   ·
    intro a_ w_ R_ rest_ vs68 hm hs ht hx
    replace hs : St _ _ _ (feet []) [] _ _ := hs
    have hm0 := hm.mid
    have hs0 := hs.bare
    refine st_mv hs rfl rfl ?_; clear hs; intro a w hs
    exact wpList_nil ⟨rfl, _, _, hs0, .r, hs, rfl⟩
   ·
    intro a_ w_ R_ rest_ vs68 hm hs ht hx
    replace hs : St _ _ _ (feet []) [] _ _ := hs
    have hm0 := hm.mid
    have hs0 := hs.bare
    refine st_fa hs rfl Try.underlying25 rfl Try.sizeOf22 (by decide) (o := 5) rfl rfl ?_; clear hs; intro a w hs
    exact wpList_nil ⟨rfl, _, _, hs0, .r, hs, rfl⟩
   ·
    intro a_ w_ R_ rest_ vs68 hm hs ht hx
    replace hs : St _ _ _ (feet []) [] _ _ := hs
    have hm0 := hm.mid
    have t4 := ht 4 (twB_spec 12 _ (by kernel_rfl))
    have e4 : _ = some (vs68 4) := t4.val rfl
    rw [show vs68 4 = .int .i64 (2) from t4.2.1] at e4
    replace hs := hs.learn e4
    have t5 := ht 5 (twB_spec 12 _ (by kernel_rfl))
    have e5 : _ = some (vs68 5) := t5.val rfl
    rw [show vs68 5 = .pointer (some ⟨g4, 5, none⟩) from t5.2.1] at e5
    replace hs := hs.learn e5
    have hs0 := hs.bare
    refine st_iaB hs rfl rfl Try.underlying22 (by decide) (by decide) Try.sizeOf2 (o' := 7) rfl rfl ?_; clear hs; intro a w hs
    exact wpList_nil ⟨rfl, _, _, hs0, (.c (.c .r)), hs, rfl⟩
   ·
    intro a_ w_ R_ rest_ vs68 hm hs ht hx
    replace hs : St _ _ _ (feet []) [] _ _ := hs
    have hm0 := hm.mid
    have t6 := ht 6 (twB_spec 12 _ (by kernel_rfl))
    have e6 : _ = some (vs68 6) := t6.val rfl
    rw [show vs68 6 = .pointer (some ⟨g4, 7, none⟩) from t6.2.1] at e6
    replace hs := hs.learn e6
    have hs0 := hs.bare
    refine st_ldE hs rfl (hm0.del (.s .z)) (.s (.s (.s (.s (.s (.s (.s .z))))))) Try.isAgg2 rfl ?_; clear hs; intro a w hs
    exact wpList_nil ⟨rfl, _, _, hs0, (.c .r), hs, rfl⟩
   ·
    intro a_ w_ R_ rest_ vs68 hm hs ht hx
    replace hs : St _ _ _ (feet []) [] _ _ := hs
    have hm0 := hm.mid
    have t3 := ht 3 (twB_spec 12 _ (by kernel_rfl))
    have e3 : _ = some (vs68 3) := t3.val rfl
    rw [show vs68 3 = .int .i64 (ea.v2) from t3.2.1] at e3
    replace hs := hs.learn e3
    have t7 := ht 7 (twB_spec 12 _ (by kernel_rfl))
    have e7 : _ = some (vs68 7) := t7.val rfl
    rw [show vs68 7 = .int .i64 (r.v2) from t7.2.1] at e7
    replace hs := hs.learn e7
    have hs0 := hs.bare
    refine st_add hs rfl rfl rfl ?_; clear hs; intro a w hs
    exact wpList_nil ⟨rfl, _, _, hs0, (.c (.c .r)), hs, rfl⟩
   ·
    intro a_ w_ R_ rest_ vs68 hm hs ht hx
    replace hs : St _ _ _ (feet []) [] _ _ := hs
    have hm0 := hm.mid
    have hs0 := hs.bare
    refine st_fa hs rfl Try.underlying54 rfl Try.sizeOf22 (by decide) (o := 4) rfl rfl ?_; clear hs; intro a w hs
    exact wpList_nil ⟨rfl, _, _, hs0, .r, hs, rfl⟩
   ·
    intro a_ w_ R_ rest_ vs68 hm hs ht hx
    replace hs : St _ _ _ (feet []) [] _ _ := hs
    have hm0 := hm.mid
    have t0 := ht 0 (twB_spec 12 _ (by kernel_rfl))
    have e0 : _ = some (vs68 0) := t0.val rfl
    rw [show vs68 0 = .int .i64 (2) from t0.2.1] at e0
    replace hs := hs.learn e0
    have t9 := ht 9 (twB_spec 12 _ (by kernel_rfl))
    have e9 : _ = some (vs68 9) := t9.val rfl
    rw [show vs68 9 = .pointer (some ⟨g3, 4, none⟩) from t9.2.1] at e9
    replace hs := hs.learn e9
    have hs0 := hs.bare
    refine st_iaB hs rfl rfl Try.underlying22 (by decide) (by decide) Try.sizeOf2 (o' := 6) rfl rfl ?_; clear hs; intro a w hs
    exact wpList_nil ⟨rfl, _, _, hs0, (.c (.c .r)), hs, rfl⟩
   intro a_ w_ R_ rest_ vs68 hm hs ht hx
   replace hs : St _ _ _ (feet [blk g3 [.int .i64 (ea.id), .int .i64 (IntKind.i64.wrap (ea.p0 + r.p0)), .int .i64 (IntKind.i64.wrap (ea.p1 + r.p1)), .int .i64 (IntKind.i64.wrap (ea.p2 + r.p2)), .int .i64 (IntKind.i64.wrap (ea.v0 + r.v0)), .int .i64 (IntKind.i64.wrap (ea.v1 + r.v1)), .int .i64 (ea.v2), .int .u16 ((((ea.a).toNat : Nat) : Int)), .int .u8 ((((ea.g).toNat : Nat) : Int))] 54]) [blk g3 [.int .i64 (ea.id), .int .i64 (IntKind.i64.wrap (ea.p0 + r.p0)), .int .i64 (IntKind.i64.wrap (ea.p1 + r.p1)), .int .i64 (IntKind.i64.wrap (ea.p2 + r.p2)), .int .i64 (IntKind.i64.wrap (ea.v0 + r.v0)), .int .i64 (IntKind.i64.wrap (ea.v1 + r.v1)), .int .i64 (ea.v2), .int .u16 ((((ea.a).toNat : Nat) : Int)), .int .u8 ((((ea.g).toNat : Nat) : Int))] 54] _ _ := hs
   have hm0 := hm.mid
   have t8 := ht 8 (twB_spec 12 _ (by kernel_rfl))
   have e8 : _ = some (vs68 8) := t8.val rfl
   rw [show vs68 8 = .int .i64 (IntKind.i64.wrap (ea.v2 + r.v2)) from t8.2.1] at e8
   replace hs := hs.learn e8
   have t10 := ht 10 (twB_spec 12 _ (by kernel_rfl))
   have e10 : _ = some (vs68 10) := t10.val rfl
   rw [show vs68 10 = .pointer (some ⟨g3, 6, none⟩) from t10.2.1] at e10
   replace hs := hs.learn e10
   have hs0 := hs.bare
   refine st_stB hs rfl rfl .z (.s (.s (.s (.s (.s (.s .z)))))) rfl Try.sizeOf2 ?_; clear hs; intro a w hs
   exact wpList_nil ⟨rfl, .tuple #[], _, hs0, (.c (.c .r)), hs, trivial⟩
  clear hs w a; intro a w vs68 hs hf
  replace hs : St _ _ _ _ [blk g5 [.int .i64 (0), .int .i64 (0), .int .i64 (0), .int .i64 (0), .int .i64 (0), .int .i64 (0), .int .i64 (0), .int .u16 (0), .int .u8 (0)] 54, blk g4 [.int .i64 (r.k), .int .i64 (r.id), .int .i64 (r.p0), .int .i64 (r.p1), .int .i64 (r.p2), .int .i64 (r.v0), .int .i64 (r.v1), .int .i64 (r.v2), .int .u16 ((((r.a).toNat : Nat) : Int))] 25, blk g3 [.int .i64 (ea.id), .int .i64 (IntKind.i64.wrap (ea.p0 + r.p0)), .int .i64 (IntKind.i64.wrap (ea.p1 + r.p1)), .int .i64 (IntKind.i64.wrap (ea.p2 + r.p2)), .int .i64 (IntKind.i64.wrap (ea.v0 + r.v0)), .int .i64 (IntKind.i64.wrap (ea.v1 + r.v1)), .int .i64 (IntKind.i64.wrap (ea.v2 + r.v2)), .int .u16 ((((ea.a).toNat : Nat) : Int)), .int .u8 ((((ea.g).toNat : Nat) : Int))] 54] _ _ := hs
  clear hf
  refine in_n ?_
  refine then_n (hK64 _ _ ?_)
  refine wp_region_lit ?_
  refine st_mv hs rfl rfl ?_; clear hs w a; intro a w hs
  refine st_addR hs rfl rfl (by omega) rfl ?_; clear hs w a; intro a w hs
  rw [show (2 + 1 : Int) = 3 by rfl] at hs
  refine st_as hs rfl rfl ?_; clear hs w a; intro a w hs
  refine wpList_nil ?_
  refine then_n ?_
  refine rounds_in ?_
  refine wp_seq_k fun K69 hK70 => ?_
  refine wp_seq_k fun K71 hK72 => ?_
  refine wp_region_lit ?_
  refine st_mv hs rfl rfl ?_; clear hs w a; intro a w hs
  refine st_lss hs rfl rfl rfl ?_; clear hs w a; intro a w hs
  rw [show (decide ((3 : Int) < 3)) = false from by decide] at hs
  refine wpList_nil ?_
  refine then_n (hK72 _ _ ?_)
  refine wp_cond_false (hs.ev rfl) ?_
  refine wp_exit ?_
  refine th_e ?_
  refine th_e ?_
  refine in_hit ?_
  refine then_n (hK36 _ _ ?_)
  refine wp_seq_k fun K73 hK74 => ?_
  refine wp_region_lit ?_
  refine st_fa hs rfl Try.underlying54 rfl Try.sizeOf23 (by decide) (o := 7) rfl rfl ?_; clear hs w a; intro a w hs
  refine st_ldB hs rfl (.s (.s .z)) (.s (.s (.s (.s (.s (.s (.s .z))))))) Try.isAgg23 rfl ?_; clear hs w a; intro a w hs
  refine st_fa hs rfl Try.underlying25 rfl Try.sizeOf23 (by decide) (o := 8) rfl rfl ?_; clear hs w a; intro a w hs
  refine st_ldB hs rfl (.s .z) (.s (.s (.s (.s (.s (.s (.s (.s .z)))))))) Try.isAgg23 rfl ?_; clear hs w a; intro a w hs
  refine st_add_u16 (X := ea.a) (Y := r.a) hs rfl rfl rfl rfl rfl ?_; clear hs w a; intro a w hs
  refine st_fa hs rfl Try.underlying54 rfl Try.sizeOf23 (by decide) (o := 7) rfl rfl ?_; clear hs w a; intro a w hs
  refine st_stB hs rfl rfl (.s (.s .z)) (.s (.s (.s (.s (.s (.s (.s .z))))))) rfl Try.sizeOf23 ?_; clear hs w a; intro a w hs
  refine wpList_nil ?_
  refine then_n (hK74 _ _ ?_)
  refine wp_seq_k fun K75 hK76 => ?_
  refine wp_region_lit ?_
  refine st_ldBA hs rfl .z (.z (.c (.c (.c (.c (.c (.c (.c (.c (.c .n)))))))))) Try.isAgg54 Try.sizeOf54 rfl ?_; clear hs w a; intro a w hs
  refine st_stBA hs rfl rfl (.s .z) (.z (.c (.c (.c (.c (.c (.c (.c (.c (.c .n)))))))))) (ones_c rfl (ones_c rfl (ones_c rfl (ones_c rfl (ones_c rfl (ones_c rfl (ones_c rfl (ones_c rfl (ones_c rfl ones_n))))))))) Try.sizeOf54 rfl ?_; clear hs w a; intro a w hs
  refine st_as hs rfl rfl ?_; clear hs w a; intro a w hs
  refine wpList_nil ?_
  refine then_n (hK76 _ _ ?_)
  refine wp_ret ?_
  exact finC2 hs rfl rfl rfl .z (.z (.c (.c (.c (.c (.c (.c (.c (.c (.c .n)))))))))) Try.isAgg54 Try.sizeOf54 (.c .z (.c .z (.c .z .n))) (by first | (rw [entApply_chk (by omega)]; exact ⟨rfl, rfl⟩) | (rw [entApply_no (by omega) (by omega)]; exact ⟨rfl, rfl⟩) | (rw [entApply_tel (by omega) (by omega) (by omega)]; exact ⟨rfl, rfl⟩) | (rw [entApply_upd (by omega) (by omega) (by omega)]; exact ⟨rfl, rfl⟩))
end Go.Proofs.Ytkobgcoegajfcaa
