/- Walks of what is others with an entity: what each function does, over the program of this seat. Printed by a program of this session. -/
import Derived.Test.YtkobgcoegajfcaaWrec
import Derived.Test.YtkobgcoegajfcaaSxPent
namespace Go.Proofs.Ytkobgcoegajfcaa
open Go Go.Sx Go.RowKit
set_option linter.unusedVariables false
set_option linter.unusedSimpArgs false
set_option maxRecDepth 4000
set_option maxHeartbeats 1000000

theorem diff_ok (ea eb : EntR) (w0 : World) : Calls Try.prog 30 #[.agg #[.int .i64 (ea.id), .int .i64 (ea.p0), .int .i64 (ea.p1), .int .i64 (ea.p2), .int .i64 (ea.v0), .int .i64 (ea.v1), .int .i64 (ea.v2), .int .u16 ((((ea.a).toNat : Nat) : Int)), .int .u8 ((((ea.g).toNat : Nat) : Int))], .agg #[.int .i64 (eb.id), .int .i64 (eb.p0), .int .i64 (eb.p1), .int .i64 (eb.p2), .int .i64 (eb.v0), .int .i64 (eb.v1), .int .i64 (eb.v2), .int .u16 ((((eb.a).toNat : Nat) : Int)), .int .u8 ((((eb.g).toNat : Nat) : Int))]] w0 (RetV w0 (.tuple #[.agg #[.int .i64 (((recDiff ea eb).1).k), .int .i64 (((recDiff ea eb).1).id), .int .i64 (((recDiff ea eb).1).p0), .int .i64 (((recDiff ea eb).1).p1), .int .i64 (((recDiff ea eb).1).p2), .int .i64 (((recDiff ea eb).1).v0), .int .i64 (((recDiff ea eb).1).v1), .int .i64 (((recDiff ea eb).1).v2), .int .u16 ((((((recDiff ea eb).1).a).toNat : Nat) : Int))], .bool (recDiff ea eb).2])) := by
  refine enter (F0 := [(0, .agg #[.int .i64 (ea.id), .int .i64 (ea.p0), .int .i64 (ea.p1), .int .i64 (ea.p2), .int .i64 (ea.v0), .int .i64 (ea.v1), .int .i64 (ea.v2), .int .u16 ((((ea.a).toNat : Nat) : Int)), .int .u8 ((((ea.g).toNat : Nat) : Int))]), (1, .agg #[.int .i64 (eb.id), .int .i64 (eb.p0), .int .i64 (eb.p1), .int .i64 (eb.p2), .int .i64 (eb.v0), .int .i64 (eb.v1), .int .i64 (eb.v2), .int .u16 ((((eb.a).toNat : Nat) : Int)), .int .u8 ((((eb.g).toNat : Nat) : Int))])]) Try.func30 rfl rfl rfl (.c (.c .n)) (Mem.nil _) fun a w hs => ?_
  refine wp_seq_k fun K1 hK2 => ?_
  refine wp_region_lit ?_
  refine st_box (cs := [.int .i64 (ea.id), .int .i64 (ea.p0), .int .i64 (ea.p1), .int .i64 (ea.p2), .int .i64 (ea.v0), .int .i64 (ea.v1), .int .i64 (ea.v2), .int .u16 ((((ea.a).toNat : Nat) : Int)), .int .u8 ((((ea.g).toNat : Nat) : Int))]) hs rfl rfl rfl ?_; clear hs w a; intro g3 a w hs
  refine st_box (cs := [.int .i64 (eb.id), .int .i64 (eb.p0), .int .i64 (eb.p1), .int .i64 (eb.p2), .int .i64 (eb.v0), .int .i64 (eb.v1), .int .i64 (eb.v2), .int .u16 ((((eb.a).toNat : Nat) : Int)), .int .u8 ((((eb.g).toNat : Nat) : Int))]) hs rfl rfl rfl ?_; clear hs w a; intro g4 a w hs
  refine st_alloc (cs := [.int .i64 (0), .int .i64 (0), .int .i64 (0), .int .i64 (0), .int .i64 (0), .int .i64 (0), .int .i64 (0), .int .i64 (0), .int .u16 (0)]) hs Try.zeroValue25 rfl rfl ?_; clear hs w a; intro g5 a w hs
  refine st_as hs rfl rfl ?_; clear hs w a; intro a w hs
  refine wpList_nil ?_
  refine then_n (hK2 _ _ ?_)
  refine wp_seq_k fun K6 hK7 => ?_
  refine wp_seq_k fun K8 hK9 => ?_
  refine wp_region_lit ?_
  refine st_ldBA hs rfl (.s (.s .z)) (.z (.c (.c (.c (.c (.c (.c (.c (.c (.c .n)))))))))) Try.isAgg54 Try.sizeOf54 rfl ?_; clear hs w a; intro a w hs
  refine st_ldBA hs rfl (.s .z) (.z (.c (.c (.c (.c (.c (.c (.c (.c (.c .n)))))))))) Try.isAgg54 Try.sizeOf54 rfl ?_; clear hs w a; intro a w hs
  refine st_eqF (xs := [.int .i64 (ea.id), .int .i64 (ea.p0), .int .i64 (ea.p1), .int .i64 (ea.p2), .int .i64 (ea.v0), .int .i64 (ea.v1), .int .i64 (ea.v2), .int .u16 ((((ea.a).toNat : Nat) : Int)), .int .u8 ((((ea.g).toNat : Nat) : Int))]) (ys := [.int .i64 (eb.id), .int .i64 (eb.p0), .int .i64 (eb.p1), .int .i64 (eb.p2), .int .i64 (eb.v0), .int .i64 (eb.v1), .int .i64 (eb.v2), .int .u16 ((((eb.a).toNat : Nat) : Int)), .int .u8 ((((eb.g).toNat : Nat) : Int))]) (ks := [.i .i64, .i .i64, .i .i64, .i .i64, .i .i64, .i .i64, .i .i64, .i .u16, .i .u8]) 6 hs rfl rfl (by kernel_rfl) (by kernel_rfl) (by kernel_rfl) (by decide) (.i (.i (.i (.i (.i (.i (.i (.i (.i .n))))))))) (.i (.i (.i (.i (.i (.i (.i (.i (.i .n))))))))) rfl ?_; clear hs w a; intro a w hs
  replace hs := hs.recell (v' := .bool (entEq ea eb)) (Option.some.inj rfl)
  refine wpList_nil ?_
  refine then_n (hK9 _ _ ?_)
  refine wp_if hs rfl (fun hc10 => ?_) (fun hc10 => ?_)
  ·
   refine wp_seq_k fun K11 hK12 => ?_
   refine wp_region_lit ?_
   refine st_build (it := Try.t25) (zs := [.int .i64 (0), .int .i64 (0), .int .i64 (0), .int .i64 (0), .int .i64 (0), .int .i64 (0), .int .i64 (0), .int .i64 (0), .int .u16 (0)]) (places := [(0, 1), (1, 1), (2, 3), (5, 3), (8, 1)]) hs .n Try.underlying25 rfl rfl rfl rfl .n rfl ?_; clear hs w a; intro a w hs
   refine st_stBA hs rfl rfl .z (.z (.c (.c (.c (.c (.c (.c (.c (.c (.c .n)))))))))) (ones_c rfl (ones_c rfl (ones_c rfl (ones_c rfl (ones_c rfl (ones_c rfl (ones_c rfl (ones_c rfl (ones_c rfl ones_n))))))))) Try.sizeOf25 rfl ?_; clear hs w a; intro a w hs
   refine st_as hs rfl rfl ?_; clear hs w a; intro a w hs
   refine wpList_nil ?_
   refine then_n (hK12 _ _ ?_)
   refine wp_ret ?_
   refine th_r ?_
   exact finC2 hs rfl rfl rfl .z (.z (.c (.c (.c (.c (.c (.c (.c (.c (.c .n)))))))))) Try.isAgg25 Try.sizeOf25 (.c .z (.c .z (.c .z .n))) (by first | (rw [recDiff_eq (by assumption)]; exact ⟨rfl, rfl⟩) | (rw [recDiff_upd (by assumption) (by omega)]; exact ⟨rfl, rfl⟩) | (rw [recDiff_tel (by assumption) (by omega)]; exact ⟨rfl, rfl⟩))
  refine wp_skip ?_
  refine then_n (hK7 _ _ ?_)
  refine wp_seq_k fun K13 hK14 => ?_
  refine wp_region_lit ?_
  refine st_fa hs rfl Try.underlying54 rfl Try.sizeOf3 (by decide) (o := 0) rfl rfl ?_; clear hs w a; intro a w hs
  refine st_ldB hs rfl (.s .z) .z Try.isAgg3 rfl ?_; clear hs w a; intro a w hs
  refine st_fa hs rfl Try.underlying54 rfl Try.sizeOf22 (by decide) (o := 1) rfl rfl ?_; clear hs w a; intro a w hs
  refine st_ldBA hs rfl (.s .z) (.s (.z (.c (.c (.c .n))))) Try.isAgg22 Try.sizeOf22 rfl ?_; clear hs w a; intro a w hs
  refine st_fa hs rfl Try.underlying54 rfl Try.sizeOf22 (by decide) (o := 4) rfl rfl ?_; clear hs w a; intro a w hs
  refine st_ldBA hs rfl (.s .z) (.s (.s (.s (.s (.z (.c (.c (.c .n)))))))) Try.isAgg22 Try.sizeOf22 rfl ?_; clear hs w a; intro a w hs
  refine st_fa hs rfl Try.underlying54 rfl Try.sizeOf23 (by decide) (o := 7) rfl rfl ?_; clear hs w a; intro a w hs
  refine st_ldB hs rfl (.s .z) (.s (.s (.s (.s (.s (.s (.s .z))))))) Try.isAgg23 rfl ?_; clear hs w a; intro a w hs
  refine st_build (it := Try.t25) (zs := [.int .i64 (0), .int .i64 (0), .int .i64 (0), .int .i64 (0), .int .i64 (0), .int .i64 (0), .int .i64 (0), .int .i64 (0), .int .u16 (0)]) (places := [(0, 1), (1, 1), (2, 3), (5, 3), (8, 1)]) hs (.c rfl (.c rfl (.c rfl (.c rfl (.c rfl .n))))) Try.underlying25 rfl rfl rfl rfl (.c rfl rfl (.z (.c .n)) (.c rfl rfl (.s (.z (.c .n))) (.c rfl rfl (.s (.s (.z (.c (.c (.c .n)))))) (.c rfl rfl (.s (.s (.s (.s (.s (.z (.c (.c (.c .n))))))))) (.c rfl rfl (.s (.s (.s (.s (.s (.s (.s (.s (.z (.c .n)))))))))) .n))))) rfl ?_; clear hs w a; intro a w hs
  refine st_alloc (cs := [.int .i64 (0), .int .i64 (0), .int .i64 (0), .int .i64 (0), .int .i64 (0), .int .i64 (0), .int .i64 (0), .int .i64 (0), .int .u16 (0)]) hs Try.zeroValue25 rfl rfl ?_; clear hs w a; intro g15 a w hs
  refine st_stBA hs rfl rfl .z (.z (.c (.c (.c (.c (.c (.c (.c (.c (.c .n)))))))))) (ones_c rfl (ones_c rfl (ones_c rfl (ones_c rfl (ones_c rfl (ones_c rfl (ones_c rfl (ones_c rfl (ones_c rfl ones_n))))))))) Try.sizeOf25 rfl ?_; clear hs w a; intro a w hs
  refine wpList_nil ?_
  refine then_n (hK14 _ _ ?_)
  refine wp_seq_k fun K16 hK17 => ?_
  refine wp_seq_k fun K18 hK19 => ?_
  refine wp_region_lit ?_
  refine st_fa hs rfl Try.underlying54 rfl Try.sizeOf5 (by decide) (o := 8) rfl rfl ?_; clear hs w a; intro a w hs
  refine st_ldB hs rfl (.s (.s (.s .z))) (.s (.s (.s (.s (.s (.s (.s (.s .z)))))))) Try.isAgg5 rfl ?_; clear hs w a; intro a w hs
  refine st_fa hs rfl Try.underlying54 rfl Try.sizeOf5 (by decide) (o := 8) rfl rfl ?_; clear hs w a; intro a w hs
  refine st_ldB hs rfl (.s (.s .z)) (.s (.s (.s (.s (.s (.s (.s (.s .z)))))))) Try.isAgg5 rfl ?_; clear hs w a; intro a w hs
  refine st_eql hs rfl rfl rfl ?_; clear hs w a; intro a w hs
  refine wpList_nil ?_
  refine then_n (hK19 _ _ ?_)
  refine wp_if hs rfl (fun hc20 => ?_) (fun hc20 => ?_)
  ·
   replace hc20 := eq_of_beq hc20
   refine wp_seq_k fun K21 hK22 => ?_
   refine wp_region_lit ?_
   refine st_fa hs rfl Try.underlying25 rfl Try.sizeOf3 (by decide) (o := 0) rfl rfl ?_; clear hs w a; intro a w hs
   refine st_stB hs rfl rfl .z .z rfl Try.sizeOf3 ?_; clear hs w a; intro a w hs
   refine wpList_nil ?_
   refine then_n (hK22 _ _ ?_)
   refine wp_seq_k fun K23 hK24 => ?_
   refine wp_region_lit ?_
   refine st_fa hs rfl Try.underlying54 rfl Try.sizeOf22 (by decide) (o := 1) rfl rfl ?_; clear hs w a; intro a w hs
   refine st_ldBA hs rfl (.s (.s (.s .z))) (.s (.z (.c (.c (.c .n))))) Try.isAgg22 Try.sizeOf22 rfl ?_; clear hs w a; intro a w hs
   refine st_fa hs rfl Try.underlying54 rfl Try.sizeOf22 (by decide) (o := 4) rfl rfl ?_; clear hs w a; intro a w hs
   refine st_ldBA hs rfl (.s (.s (.s .z))) (.s (.s (.s (.s (.z (.c (.c (.c .n)))))))) Try.isAgg22 Try.sizeOf22 rfl ?_; clear hs w a; intro a w hs
   refine st_build (it := Try.t25) (zs := [.int .i64 (0), .int .i64 (0), .int .i64 (0), .int .i64 (0), .int .i64 (0), .int .i64 (0), .int .i64 (0), .int .i64 (0), .int .u16 (0)]) (places := [(0, 1), (1, 1), (2, 3), (5, 3), (8, 1)]) hs (.c rfl (.c rfl .n)) Try.underlying25 rfl rfl rfl rfl (.c rfl rfl (.s (.s (.z (.c (.c (.c .n)))))) (.c rfl rfl (.s (.s (.s (.s (.s (.z (.c (.c (.c .n))))))))) .n)) rfl ?_; clear hs w a; intro a w hs
   refine st_alloc (cs := [.int .i64 (0), .int .i64 (0), .int .i64 (0), .int .i64 (0), .int .i64 (0), .int .i64 (0), .int .i64 (0), .int .i64 (0), .int .u16 (0)]) hs Try.zeroValue25 rfl rfl ?_; clear hs w a; intro g25 a w hs
   refine st_stBA hs rfl rfl .z (.z (.c (.c (.c (.c (.c (.c (.c (.c (.c .n)))))))))) (ones_c rfl (ones_c rfl (ones_c rfl (ones_c rfl (ones_c rfl (ones_c rfl (ones_c rfl (ones_c rfl (ones_c rfl ones_n))))))))) Try.sizeOf25 rfl ?_; clear hs w a; intro a w hs
   refine wpList_nil ?_
   refine then_n (hK24 _ _ ?_)
   refine wp_seq_k fun K26 hK27 => ?_
   refine wp_region_lit ?_
   refine st_callP (v := .agg #[.pointer (some ⟨g25, 2, none⟩), .pointer (some ⟨g25, 3, none⟩), .pointer (some ⟨g25, 4, none⟩), .pointer (some ⟨g25, 5, none⟩), .pointer (some ⟨g25, 6, none⟩), .pointer (some ⟨g25, 7, none⟩)]) hs (.c rfl .n) Try.call61 (nums_ok g25 _) rfl ?_; clear hs w a; intro a w hs
   refine st_alloc (cs := [.pointer (none), .pointer (none), .pointer (none), .pointer (none), .pointer (none), .pointer (none)]) hs Try.zeroValue108 rfl rfl ?_; clear hs w a; intro g28 a w hs
   refine st_stBA hs rfl rfl .z (.z (.c (.c (.c (.c (.c (.c .n))))))) (ones_c rfl (ones_c rfl (ones_c rfl (ones_c rfl (ones_c rfl (ones_c rfl ones_n)))))) Try.sizeOf108 rfl ?_; clear hs w a; intro a w hs
   refine wpList_nil ?_
   refine then_n (hK27 _ _ ?_)
   refine wp_seq_k fun K29 hK30 => ?_
   refine wp_seq_k fun K31 hK32 => ?_
   refine wp_region_lit ?_
   refine st_callP (v := .agg #[.pointer (some ⟨g15, 2, none⟩), .pointer (some ⟨g15, 3, none⟩), .pointer (some ⟨g15, 4, none⟩), .pointer (some ⟨g15, 5, none⟩), .pointer (some ⟨g15, 6, none⟩), .pointer (some ⟨g15, 7, none⟩)]) hs (.c rfl .n) Try.call61 (nums_ok g15 _) rfl ?_; clear hs w a; intro a w hs
   refine st_mv hs rfl rfl ?_; clear hs w a; intro a w hs
   refine wpList_nil ?_
   refine then_n (hK32 _ _ ?_)
   refine wp_block ?_
   refine wp_loop_rounds 7 ?_
   refine rounds_in ?_
   refine wp_seq_k fun K33 hK34 => ?_
   refine wp_region_lit ?_
   refine st_lss hs rfl rfl rfl ?_; clear hs w a; intro a w hs
   rw [show (decide ((0 : Int) < 6)) = true from by decide] at hs
   refine wpList_nil ?_
   refine then_n (hK34 _ _ ?_)
   refine wp_seq_k fun K35 hK36 => ?_
   refine wp_cond_true (hs.ev rfl) ?_
   refine wp_skip ?_
   refine then_n (hK36 _ _ ?_)
   refine wp_seq_k fun K37 hK38 => ?_
   refine wp_block ?_
   refine wp_seq_k fun K39 hK40 => ?_
   refine wp_region_lit ?_
   refine st_mv hs rfl rfl ?_; clear hs w a; intro a w hs
   refine st_ix hs rfl rfl Try.underlying108 (by decide) (by decide) rfl Try.isAgg107 Try.sizeOf107 rfl ?_; clear hs w a; intro a w hs
   refine st_as hs rfl rfl ?_; clear hs w a; intro a w hs
   refine st_as hs rfl rfl ?_; clear hs w a; intro a w hs
   refine wpList_nil ?_
   refine then_n (hK40 _ _ ?_)
   replace hs := hs.sub (F' := [(10, .pointer (some ⟨g15, 2, none⟩)), (9, .int .i64 (0)), (40, .pointer (some ⟨g15, 2, none⟩)), (39, .int .i64 (0)), (38, .bool (true)), (37, .int .i64 (0)), (36, .agg #[.pointer (some ⟨g15, 2, none⟩), .pointer (some ⟨g15, 3, none⟩), .pointer (some ⟨g15, 4, none⟩), .pointer (some ⟨g15, 5, none⟩), .pointer (some ⟨g15, 6, none⟩), .pointer (some ⟨g15, 7, none⟩)]), (8, .pointer (some ⟨g28, 0, none⟩)), (6, .pointer (some ⟨g15, 0, none⟩)), (5, .bool (false)), (4, .pointer (some ⟨g5, 0, none⟩)), (2, .pointer (some ⟨g3, 0, none⟩))]) (.c rfl (.c rfl (.c rfl (.c rfl (.c rfl (.c rfl (.c rfl (.c rfl (.c rfl (.c rfl (.c rfl (.c rfl .n))))))))))))
   refine wp_drawG (M0 := [blk g28 [.pointer (some ⟨g25, 2, none⟩), .pointer (some ⟨g25, 3, none⟩), .pointer (some ⟨g25, 4, none⟩), .pointer (some ⟨g25, 5, none⟩), .pointer (some ⟨g25, 6, none⟩), .pointer (some ⟨g25, 7, none⟩)] 108, blk g25 [.int .i64 (0), .int .i64 (0), .int .i64 (ea.p0), .int .i64 (ea.p1), .int .i64 (ea.p2), .int .i64 (ea.v0), .int .i64 (ea.v1), .int .i64 (ea.v2), .int .u16 (0)] 25, blk g5 [.int .i64 (0), .int .i64 (0), .int .i64 (0), .int .i64 (0), .int .i64 (0), .int .i64 (0), .int .i64 (0), .int .i64 (0), .int .u16 (0)] 25, blk g4 [.int .i64 (eb.id), .int .i64 (eb.p0), .int .i64 (eb.p1), .int .i64 (eb.p2), .int .i64 (eb.v0), .int .i64 (eb.v1), .int .i64 (eb.v2), .int .u16 ((((eb.a).toNat : Nat) : Int)), .int .u8 ((((eb.g).toNat : Nat) : Int))] 54, blk g3 [.int .i64 (ea.id), .int .i64 (ea.p0), .int .i64 (ea.p1), .int .i64 (ea.p2), .int .i64 (ea.v0), .int .i64 (ea.v1), .int .i64 (ea.v2), .int .u16 ((((ea.a).toNat : Nat) : Int)), .int .u8 ((((ea.g).toNat : Nat) : Int))] 54]) (Ds := [⟨[], [], [], fun vs41 => vs41 0 = .pointer (some ⟨g15, 2, none⟩), fun vs41 => []⟩, ⟨[], [], [], fun vs41 => vs41 1 = .pointer (some ⟨g15, 2, none⟩), fun vs41 => []⟩, ⟨[], [], [], fun vs41 => vs41 2 = .int .i64 (eb.p0), fun vs41 => []⟩, ⟨[], [], [], fun vs41 => vs41 3 = .int .i64 (0), fun vs41 => []⟩, ⟨[], [], [], fun vs41 => vs41 4 = .pointer (some ⟨g28, 0, none⟩), fun vs41 => []⟩, ⟨[], [], [], fun vs41 => vs41 5 = .pointer (some ⟨g25, 2, none⟩), fun vs41 => []⟩, ⟨[], [], [], fun vs41 => vs41 6 = .pointer (some ⟨g25, 2, none⟩), fun vs41 => []⟩, ⟨[], [], [], fun vs41 => vs41 7 = .int .i64 (ea.p0), fun vs41 => []⟩, ⟨[], [], [], fun vs41 => vs41 8 = .int .i64 (IntKind.i64.wrap (eb.p0 - ea.p0)), fun vs41 => []⟩, ⟨[], [], [], fun vs41 => vs41 9 = .pointer (some ⟨g15, 2, none⟩), fun vs41 => []⟩, ⟨[blk g15 [.int .i64 (1), .int .i64 (eb.id), .int .i64 (eb.p0), .int .i64 (eb.p1), .int .i64 (eb.p2), .int .i64 (eb.v0), .int .i64 (eb.v1), .int .i64 (eb.v2), .int .u16 ((((eb.a).toNat : Nat) : Int))] 25], [], [], fun vs41 => True, fun vs41 => [blk g15 [.int .i64 (1), .int .i64 (eb.id), .int .i64 (IntKind.i64.wrap (eb.p0 - ea.p0)), .int .i64 (eb.p1), .int .i64 (eb.p2), .int .i64 (eb.v0), .int .i64 (eb.v1), .int .i64 (eb.v2), .int .u16 ((((eb.a).toNat : Nat) : Int))] 25]⟩]) (by kernel_rfl) hs rfl (.c (.s (.s .z)) .n) (by kernel_rfl) (by kernel_rfl) ?_ ?_
   ·
    refine (.c ?_ (.c ?_ (.c ?_ (.c ?_ (.c ?_ (.c ?_ (.c ?_ (.c ?_ (.c ?_ (.c ?_ (.c ?_ .n)))))))))))
    ·
     intro a_ w_ R_ rest_ vs41 hm hs ht hx
     replace hs : St _ _ _ (feet []) [] _ _ := hs
     have hm0 := hm.mid
     have hs0 := hs.bare
     refine st_mv hs rfl rfl ?_; clear hs; intro a w hs
     exact wpList_nil ⟨rfl, _, _, hs0, .r, hs, rfl⟩
    ·
     intro a_ w_ R_ rest_ vs41 hm hs ht hx
     replace hs : St _ _ _ (feet []) [] _ _ := hs
     have hm0 := hm.mid
     have t0 := ht 0 (twB_spec 11 _ (by kernel_rfl))
     have e0 : _ = some (vs41 0) := t0.val rfl
     rw [show vs41 0 = .pointer (some ⟨g15, 2, none⟩) from t0.2.1] at e0
     replace hs := hs.learn e0
     have hs0 := hs.bare
     refine st_nc hs rfl rfl ?_; clear hs; intro a w hs
     exact wpList_nil ⟨rfl, _, _, hs0, (.c .r), hs, rfl⟩
    ·
     intro a_ w_ R_ rest_ vs41 hm hs ht hx
     replace hs : St _ _ _ (feet []) [] _ _ := hs
     have hm0 := hm.mid
     have t1 := ht 1 (twB_spec 11 _ (by kernel_rfl))
     have e1 : _ = some (vs41 1) := t1.val rfl
     rw [show vs41 1 = .pointer (some ⟨g15, 2, none⟩) from t1.2.1] at e1
     replace hs := hs.learn e1
     have hs0 := hs.bare
     refine st_ldE hs rfl (hm.own (List.mem_append.2 (.inr (hx 10 (twB_spec 11 _ (by kernel_rfl)) _ (List.Mem.head _))))) (.s (.s .z)) Try.isAgg2 rfl ?_; clear hs; intro a w hs
     exact wpList_nil ⟨rfl, _, _, hs0, (.c .r), hs, rfl⟩
    ·
     intro a_ w_ R_ rest_ vs41 hm hs ht hx
     replace hs : St _ _ _ (feet []) [] _ _ := hs
     have hm0 := hm.mid
     have hs0 := hs.bare
     refine st_mv hs rfl rfl ?_; clear hs; intro a w hs
     exact wpList_nil ⟨rfl, _, _, hs0, .r, hs, rfl⟩
    ·
     intro a_ w_ R_ rest_ vs41 hm hs ht hx
     replace hs : St _ _ _ (feet []) [] _ _ := hs
     have hm0 := hm.mid
     have t3 := ht 3 (twB_spec 11 _ (by kernel_rfl))
     have e3 : _ = some (vs41 3) := t3.val rfl
     rw [show vs41 3 = .int .i64 (0) from t3.2.1] at e3
     replace hs := hs.learn e3
     have hs0 := hs.bare
     refine st_iaB hs rfl rfl Try.underlying108 (by decide) (by decide) Try.sizeOf107 (o' := 0) rfl rfl ?_; clear hs; intro a w hs
     exact wpList_nil ⟨rfl, _, _, hs0, (.c .r), hs, rfl⟩
    ·
     intro a_ w_ R_ rest_ vs41 hm hs ht hx
     replace hs : St _ _ _ (feet []) [] _ _ := hs
     have hm0 := hm.mid
     have t4 := ht 4 (twB_spec 11 _ (by kernel_rfl))
     have e4 : _ = some (vs41 4) := t4.val rfl
     rw [show vs41 4 = .pointer (some ⟨g28, 0, none⟩) from t4.2.1] at e4
     replace hs := hs.learn e4
     have hs0 := hs.bare
     refine st_ldE hs rfl (hm0.del .z) .z Try.isAgg107 rfl ?_; clear hs; intro a w hs
     exact wpList_nil ⟨rfl, _, _, hs0, (.c .r), hs, rfl⟩
    ·
     intro a_ w_ R_ rest_ vs41 hm hs ht hx
     replace hs : St _ _ _ (feet []) [] _ _ := hs
     have hm0 := hm.mid
     have t5 := ht 5 (twB_spec 11 _ (by kernel_rfl))
     have e5 : _ = some (vs41 5) := t5.val rfl
     rw [show vs41 5 = .pointer (some ⟨g25, 2, none⟩) from t5.2.1] at e5
     replace hs := hs.learn e5
     have hs0 := hs.bare
     refine st_nc hs rfl rfl ?_; clear hs; intro a w hs
     exact wpList_nil ⟨rfl, _, _, hs0, (.c .r), hs, rfl⟩
    ·
     intro a_ w_ R_ rest_ vs41 hm hs ht hx
     replace hs : St _ _ _ (feet []) [] _ _ := hs
     have hm0 := hm.mid
     have t6 := ht 6 (twB_spec 11 _ (by kernel_rfl))
     have e6 : _ = some (vs41 6) := t6.val rfl
     rw [show vs41 6 = .pointer (some ⟨g25, 2, none⟩) from t6.2.1] at e6
     replace hs := hs.learn e6
     have hs0 := hs.bare
     refine st_ldE hs rfl (hm0.del (.s .z)) (.s (.s .z)) Try.isAgg2 rfl ?_; clear hs; intro a w hs
     exact wpList_nil ⟨rfl, _, _, hs0, (.c .r), hs, rfl⟩
    ·
     intro a_ w_ R_ rest_ vs41 hm hs ht hx
     replace hs : St _ _ _ (feet []) [] _ _ := hs
     have hm0 := hm.mid
     have t2 := ht 2 (twB_spec 11 _ (by kernel_rfl))
     have e2 : _ = some (vs41 2) := t2.val rfl
     rw [show vs41 2 = .int .i64 (eb.p0) from t2.2.1] at e2
     replace hs := hs.learn e2
     have t7 := ht 7 (twB_spec 11 _ (by kernel_rfl))
     have e7 : _ = some (vs41 7) := t7.val rfl
     rw [show vs41 7 = .int .i64 (ea.p0) from t7.2.1] at e7
     replace hs := hs.learn e7
     have hs0 := hs.bare
     refine st_sub hs rfl rfl rfl ?_; clear hs; intro a w hs
     exact wpList_nil ⟨rfl, _, _, hs0, (.c (.c .r)), hs, rfl⟩
    ·
     intro a_ w_ R_ rest_ vs41 hm hs ht hx
     replace hs : St _ _ _ (feet []) [] _ _ := hs
     have hm0 := hm.mid
     have t0 := ht 0 (twB_spec 11 _ (by kernel_rfl))
     have e0 : _ = some (vs41 0) := t0.val rfl
     rw [show vs41 0 = .pointer (some ⟨g15, 2, none⟩) from t0.2.1] at e0
     replace hs := hs.learn e0
     have hs0 := hs.bare
     refine st_nc hs rfl rfl ?_; clear hs; intro a w hs
     exact wpList_nil ⟨rfl, _, _, hs0, (.c .r), hs, rfl⟩
    intro a_ w_ R_ rest_ vs41 hm hs ht hx
    replace hs : St _ _ _ (feet [blk g15 [.int .i64 (1), .int .i64 (eb.id), .int .i64 (eb.p0), .int .i64 (eb.p1), .int .i64 (eb.p2), .int .i64 (eb.v0), .int .i64 (eb.v1), .int .i64 (eb.v2), .int .u16 ((((eb.a).toNat : Nat) : Int))] 25]) [blk g15 [.int .i64 (1), .int .i64 (eb.id), .int .i64 (eb.p0), .int .i64 (eb.p1), .int .i64 (eb.p2), .int .i64 (eb.v0), .int .i64 (eb.v1), .int .i64 (eb.v2), .int .u16 ((((eb.a).toNat : Nat) : Int))] 25] _ _ := hs
    have hm0 := hm.mid
    have t8 := ht 8 (twB_spec 11 _ (by kernel_rfl))
    have e8 : _ = some (vs41 8) := t8.val rfl
    rw [show vs41 8 = .int .i64 (IntKind.i64.wrap (eb.p0 - ea.p0)) from t8.2.1] at e8
    replace hs := hs.learn e8
    have t9 := ht 9 (twB_spec 11 _ (by kernel_rfl))
    have e9 : _ = some (vs41 9) := t9.val rfl
    rw [show vs41 9 = .pointer (some ⟨g15, 2, none⟩) from t9.2.1] at e9
    replace hs := hs.learn e9
    have hs0 := hs.bare
    refine st_stB hs rfl rfl .z (.s (.s .z)) rfl Try.sizeOf2 ?_; clear hs; intro a w hs
    exact wpList_nil ⟨rfl, .tuple #[], _, hs0, (.c (.c .r)), hs, trivial⟩
   clear hs w a; intro a w vs41 hs hf
   replace hs : St _ _ _ _ [blk g28 [.pointer (some ⟨g25, 2, none⟩), .pointer (some ⟨g25, 3, none⟩), .pointer (some ⟨g25, 4, none⟩), .pointer (some ⟨g25, 5, none⟩), .pointer (some ⟨g25, 6, none⟩), .pointer (some ⟨g25, 7, none⟩)] 108, blk g25 [.int .i64 (0), .int .i64 (0), .int .i64 (ea.p0), .int .i64 (ea.p1), .int .i64 (ea.p2), .int .i64 (ea.v0), .int .i64 (ea.v1), .int .i64 (ea.v2), .int .u16 (0)] 25, blk g5 [.int .i64 (0), .int .i64 (0), .int .i64 (0), .int .i64 (0), .int .i64 (0), .int .i64 (0), .int .i64 (0), .int .i64 (0), .int .u16 (0)] 25, blk g4 [.int .i64 (eb.id), .int .i64 (eb.p0), .int .i64 (eb.p1), .int .i64 (eb.p2), .int .i64 (eb.v0), .int .i64 (eb.v1), .int .i64 (eb.v2), .int .u16 ((((eb.a).toNat : Nat) : Int)), .int .u8 ((((eb.g).toNat : Nat) : Int))] 54, blk g3 [.int .i64 (ea.id), .int .i64 (ea.p0), .int .i64 (ea.p1), .int .i64 (ea.p2), .int .i64 (ea.v0), .int .i64 (ea.v1), .int .i64 (ea.v2), .int .u16 ((((ea.a).toNat : Nat) : Int)), .int .u8 ((((ea.g).toNat : Nat) : Int))] 54, blk g15 [.int .i64 (1), .int .i64 (eb.id), .int .i64 (IntKind.i64.wrap (eb.p0 - ea.p0)), .int .i64 (eb.p1), .int .i64 (eb.p2), .int .i64 (eb.v0), .int .i64 (eb.v1), .int .i64 (eb.v2), .int .u16 ((((eb.a).toNat : Nat) : Int))] 25] _ _ := hs
   clear hf
   refine in_n ?_
   refine then_n (hK38 _ _ ?_)
   refine wp_region_lit ?_
   refine st_addR hs rfl rfl (by omega) rfl ?_; clear hs w a; intro a w hs
   rw [show (0 + 1 : Int) = 1 by rfl] at hs
   refine st_mv hs rfl rfl ?_; clear hs w a; intro a w hs
   refine wpList_nil ?_
   refine then_n ?_
   refine rounds_in ?_
   refine wp_seq_k fun K42 hK43 => ?_
   refine wp_region_lit ?_
   refine st_lss hs rfl rfl rfl ?_; clear hs w a; intro a w hs
   rw [show (decide ((1 : Int) < 6)) = true from by decide] at hs
   refine wpList_nil ?_
   refine then_n (hK43 _ _ ?_)
   refine wp_seq_k fun K44 hK45 => ?_
   refine wp_cond_true (hs.ev rfl) ?_
   refine wp_skip ?_
   refine then_n (hK45 _ _ ?_)
   refine wp_seq_k fun K46 hK47 => ?_
   refine wp_block ?_
   refine wp_seq_k fun K48 hK49 => ?_
   refine wp_region_lit ?_
   refine st_mv hs rfl rfl ?_; clear hs w a; intro a w hs
   refine st_ix hs rfl rfl Try.underlying108 (by decide) (by decide) rfl Try.isAgg107 Try.sizeOf107 rfl ?_; clear hs w a; intro a w hs
   refine st_as hs rfl rfl ?_; clear hs w a; intro a w hs
   refine st_as hs rfl rfl ?_; clear hs w a; intro a w hs
   refine wpList_nil ?_
   refine then_n (hK49 _ _ ?_)
   replace hs := hs.sub (F' := [(10, .pointer (some ⟨g15, 3, none⟩)), (9, .int .i64 (1)), (40, .pointer (some ⟨g15, 3, none⟩)), (39, .int .i64 (1)), (38, .bool (true)), (37, .int .i64 (1)), (51, .int .i64 (1)), (36, .agg #[.pointer (some ⟨g15, 2, none⟩), .pointer (some ⟨g15, 3, none⟩), .pointer (some ⟨g15, 4, none⟩), .pointer (some ⟨g15, 5, none⟩), .pointer (some ⟨g15, 6, none⟩), .pointer (some ⟨g15, 7, none⟩)]), (8, .pointer (some ⟨g28, 0, none⟩)), (6, .pointer (some ⟨g15, 0, none⟩)), (5, .bool (false)), (4, .pointer (some ⟨g5, 0, none⟩)), (2, .pointer (some ⟨g3, 0, none⟩))]) (.c rfl (.c rfl (.c rfl (.c rfl (.c rfl (.c rfl (.c rfl (.c rfl (.c rfl (.c rfl (.c rfl (.c rfl (.c rfl .n)))))))))))))
   refine wp_drawG (M0 := [blk g28 [.pointer (some ⟨g25, 2, none⟩), .pointer (some ⟨g25, 3, none⟩), .pointer (some ⟨g25, 4, none⟩), .pointer (some ⟨g25, 5, none⟩), .pointer (some ⟨g25, 6, none⟩), .pointer (some ⟨g25, 7, none⟩)] 108, blk g25 [.int .i64 (0), .int .i64 (0), .int .i64 (ea.p0), .int .i64 (ea.p1), .int .i64 (ea.p2), .int .i64 (ea.v0), .int .i64 (ea.v1), .int .i64 (ea.v2), .int .u16 (0)] 25, blk g5 [.int .i64 (0), .int .i64 (0), .int .i64 (0), .int .i64 (0), .int .i64 (0), .int .i64 (0), .int .i64 (0), .int .i64 (0), .int .u16 (0)] 25, blk g4 [.int .i64 (eb.id), .int .i64 (eb.p0), .int .i64 (eb.p1), .int .i64 (eb.p2), .int .i64 (eb.v0), .int .i64 (eb.v1), .int .i64 (eb.v2), .int .u16 ((((eb.a).toNat : Nat) : Int)), .int .u8 ((((eb.g).toNat : Nat) : Int))] 54, blk g3 [.int .i64 (ea.id), .int .i64 (ea.p0), .int .i64 (ea.p1), .int .i64 (ea.p2), .int .i64 (ea.v0), .int .i64 (ea.v1), .int .i64 (ea.v2), .int .u16 ((((ea.a).toNat : Nat) : Int)), .int .u8 ((((ea.g).toNat : Nat) : Int))] 54]) (Ds := [⟨[], [], [], fun vs50 => vs50 0 = .pointer (some ⟨g15, 3, none⟩), fun vs50 => []⟩, ⟨[], [], [], fun vs50 => vs50 1 = .pointer (some ⟨g15, 3, none⟩), fun vs50 => []⟩, ⟨[], [], [], fun vs50 => vs50 2 = .int .i64 (eb.p1), fun vs50 => []⟩, ⟨[], [], [], fun vs50 => vs50 3 = .int .i64 (1), fun vs50 => []⟩, ⟨[], [], [], fun vs50 => vs50 4 = .pointer (some ⟨g28, 1, none⟩), fun vs50 => []⟩, ⟨[], [], [], fun vs50 => vs50 5 = .pointer (some ⟨g25, 3, none⟩), fun vs50 => []⟩, ⟨[], [], [], fun vs50 => vs50 6 = .pointer (some ⟨g25, 3, none⟩), fun vs50 => []⟩, ⟨[], [], [], fun vs50 => vs50 7 = .int .i64 (ea.p1), fun vs50 => []⟩, ⟨[], [], [], fun vs50 => vs50 8 = .int .i64 (IntKind.i64.wrap (eb.p1 - ea.p1)), fun vs50 => []⟩, ⟨[], [], [], fun vs50 => vs50 9 = .pointer (some ⟨g15, 3, none⟩), fun vs50 => []⟩, ⟨[blk g15 [.int .i64 (1), .int .i64 (eb.id), .int .i64 (IntKind.i64.wrap (eb.p0 - ea.p0)), .int .i64 (eb.p1), .int .i64 (eb.p2), .int .i64 (eb.v0), .int .i64 (eb.v1), .int .i64 (eb.v2), .int .u16 ((((eb.a).toNat : Nat) : Int))] 25], [], [], fun vs50 => True, fun vs50 => [blk g15 [.int .i64 (1), .int .i64 (eb.id), .int .i64 (IntKind.i64.wrap (eb.p0 - ea.p0)), .int .i64 (IntKind.i64.wrap (eb.p1 - ea.p1)), .int .i64 (eb.p2), .int .i64 (eb.v0), .int .i64 (eb.v1), .int .i64 (eb.v2), .int .u16 ((((eb.a).toNat : Nat) : Int))] 25]⟩]) (by kernel_rfl) hs rfl (.c (.s (.s (.s (.s (.s .z))))) .n) (by kernel_rfl) (by kernel_rfl) ?_ ?_
   ·
    refine (.c ?_ (.c ?_ (.c ?_ (.c ?_ (.c ?_ (.c ?_ (.c ?_ (.c ?_ (.c ?_ (.c ?_ (.c ?_ .n)))))))))))
    ·
     intro a_ w_ R_ rest_ vs50 hm hs ht hx
     replace hs : St _ _ _ (feet []) [] _ _ := hs
     have hm0 := hm.mid
     have hs0 := hs.bare
     refine st_mv hs rfl rfl ?_; clear hs; intro a w hs
     exact wpList_nil ⟨rfl, _, _, hs0, .r, hs, rfl⟩
    ·
     intro a_ w_ R_ rest_ vs50 hm hs ht hx
     replace hs : St _ _ _ (feet []) [] _ _ := hs
     have hm0 := hm.mid
     have t0 := ht 0 (twB_spec 11 _ (by kernel_rfl))
     have e0 : _ = some (vs50 0) := t0.val rfl
     rw [show vs50 0 = .pointer (some ⟨g15, 3, none⟩) from t0.2.1] at e0
     replace hs := hs.learn e0
     have hs0 := hs.bare
     refine st_nc hs rfl rfl ?_; clear hs; intro a w hs
     exact wpList_nil ⟨rfl, _, _, hs0, (.c .r), hs, rfl⟩
    ·
     intro a_ w_ R_ rest_ vs50 hm hs ht hx
     replace hs : St _ _ _ (feet []) [] _ _ := hs
     have hm0 := hm.mid
     have t1 := ht 1 (twB_spec 11 _ (by kernel_rfl))
     have e1 : _ = some (vs50 1) := t1.val rfl
     rw [show vs50 1 = .pointer (some ⟨g15, 3, none⟩) from t1.2.1] at e1
     replace hs := hs.learn e1
     have hs0 := hs.bare
     refine st_ldE hs rfl (hm.own (List.mem_append.2 (.inr (hx 10 (twB_spec 11 _ (by kernel_rfl)) _ (List.Mem.head _))))) (.s (.s (.s .z))) Try.isAgg2 rfl ?_; clear hs; intro a w hs
     exact wpList_nil ⟨rfl, _, _, hs0, (.c .r), hs, rfl⟩
    ·
     intro a_ w_ R_ rest_ vs50 hm hs ht hx
     replace hs : St _ _ _ (feet []) [] _ _ := hs
     have hm0 := hm.mid
     have hs0 := hs.bare
     refine st_mv hs rfl rfl ?_; clear hs; intro a w hs
     exact wpList_nil ⟨rfl, _, _, hs0, .r, hs, rfl⟩
    ·
     intro a_ w_ R_ rest_ vs50 hm hs ht hx
     replace hs : St _ _ _ (feet []) [] _ _ := hs
     have hm0 := hm.mid
     have t3 := ht 3 (twB_spec 11 _ (by kernel_rfl))
     have e3 : _ = some (vs50 3) := t3.val rfl
     rw [show vs50 3 = .int .i64 (1) from t3.2.1] at e3
     replace hs := hs.learn e3
     have hs0 := hs.bare
     refine st_iaB hs rfl rfl Try.underlying108 (by decide) (by decide) Try.sizeOf107 (o' := 1) rfl rfl ?_; clear hs; intro a w hs
     exact wpList_nil ⟨rfl, _, _, hs0, (.c .r), hs, rfl⟩
    ·
     intro a_ w_ R_ rest_ vs50 hm hs ht hx
     replace hs : St _ _ _ (feet []) [] _ _ := hs
     have hm0 := hm.mid
     have t4 := ht 4 (twB_spec 11 _ (by kernel_rfl))
     have e4 : _ = some (vs50 4) := t4.val rfl
     rw [show vs50 4 = .pointer (some ⟨g28, 1, none⟩) from t4.2.1] at e4
     replace hs := hs.learn e4
     have hs0 := hs.bare
     refine st_ldE hs rfl (hm0.del .z) (.s .z) Try.isAgg107 rfl ?_; clear hs; intro a w hs
     exact wpList_nil ⟨rfl, _, _, hs0, (.c .r), hs, rfl⟩
    ·
     intro a_ w_ R_ rest_ vs50 hm hs ht hx
     replace hs : St _ _ _ (feet []) [] _ _ := hs
     have hm0 := hm.mid
     have t5 := ht 5 (twB_spec 11 _ (by kernel_rfl))
     have e5 : _ = some (vs50 5) := t5.val rfl
     rw [show vs50 5 = .pointer (some ⟨g25, 3, none⟩) from t5.2.1] at e5
     replace hs := hs.learn e5
     have hs0 := hs.bare
     refine st_nc hs rfl rfl ?_; clear hs; intro a w hs
     exact wpList_nil ⟨rfl, _, _, hs0, (.c .r), hs, rfl⟩
    ·
     intro a_ w_ R_ rest_ vs50 hm hs ht hx
     replace hs : St _ _ _ (feet []) [] _ _ := hs
     have hm0 := hm.mid
     have t6 := ht 6 (twB_spec 11 _ (by kernel_rfl))
     have e6 : _ = some (vs50 6) := t6.val rfl
     rw [show vs50 6 = .pointer (some ⟨g25, 3, none⟩) from t6.2.1] at e6
     replace hs := hs.learn e6
     have hs0 := hs.bare
     refine st_ldE hs rfl (hm0.del (.s .z)) (.s (.s (.s .z))) Try.isAgg2 rfl ?_; clear hs; intro a w hs
     exact wpList_nil ⟨rfl, _, _, hs0, (.c .r), hs, rfl⟩
    ·
     intro a_ w_ R_ rest_ vs50 hm hs ht hx
     replace hs : St _ _ _ (feet []) [] _ _ := hs
     have hm0 := hm.mid
     have t2 := ht 2 (twB_spec 11 _ (by kernel_rfl))
     have e2 : _ = some (vs50 2) := t2.val rfl
     rw [show vs50 2 = .int .i64 (eb.p1) from t2.2.1] at e2
     replace hs := hs.learn e2
     have t7 := ht 7 (twB_spec 11 _ (by kernel_rfl))
     have e7 : _ = some (vs50 7) := t7.val rfl
     rw [show vs50 7 = .int .i64 (ea.p1) from t7.2.1] at e7
     replace hs := hs.learn e7
     have hs0 := hs.bare
     refine st_sub hs rfl rfl rfl ?_; clear hs; intro a w hs
     exact wpList_nil ⟨rfl, _, _, hs0, (.c (.c .r)), hs, rfl⟩
    ·
     intro a_ w_ R_ rest_ vs50 hm hs ht hx
     replace hs : St _ _ _ (feet []) [] _ _ := hs
     have hm0 := hm.mid
     have t0 := ht 0 (twB_spec 11 _ (by kernel_rfl))
     have e0 : _ = some (vs50 0) := t0.val rfl
     rw [show vs50 0 = .pointer (some ⟨g15, 3, none⟩) from t0.2.1] at e0
     replace hs := hs.learn e0
     have hs0 := hs.bare
     refine st_nc hs rfl rfl ?_; clear hs; intro a w hs
     exact wpList_nil ⟨rfl, _, _, hs0, (.c .r), hs, rfl⟩
    intro a_ w_ R_ rest_ vs50 hm hs ht hx
    replace hs : St _ _ _ (feet [blk g15 [.int .i64 (1), .int .i64 (eb.id), .int .i64 (IntKind.i64.wrap (eb.p0 - ea.p0)), .int .i64 (eb.p1), .int .i64 (eb.p2), .int .i64 (eb.v0), .int .i64 (eb.v1), .int .i64 (eb.v2), .int .u16 ((((eb.a).toNat : Nat) : Int))] 25]) [blk g15 [.int .i64 (1), .int .i64 (eb.id), .int .i64 (IntKind.i64.wrap (eb.p0 - ea.p0)), .int .i64 (eb.p1), .int .i64 (eb.p2), .int .i64 (eb.v0), .int .i64 (eb.v1), .int .i64 (eb.v2), .int .u16 ((((eb.a).toNat : Nat) : Int))] 25] _ _ := hs
    have hm0 := hm.mid
    have t8 := ht 8 (twB_spec 11 _ (by kernel_rfl))
    have e8 : _ = some (vs50 8) := t8.val rfl
    rw [show vs50 8 = .int .i64 (IntKind.i64.wrap (eb.p1 - ea.p1)) from t8.2.1] at e8
    replace hs := hs.learn e8
    have t9 := ht 9 (twB_spec 11 _ (by kernel_rfl))
    have e9 : _ = some (vs50 9) := t9.val rfl
    rw [show vs50 9 = .pointer (some ⟨g15, 3, none⟩) from t9.2.1] at e9
    replace hs := hs.learn e9
    have hs0 := hs.bare
    refine st_stB hs rfl rfl .z (.s (.s (.s .z))) rfl Try.sizeOf2 ?_; clear hs; intro a w hs
    exact wpList_nil ⟨rfl, .tuple #[], _, hs0, (.c (.c .r)), hs, trivial⟩
   clear hs w a; intro a w vs50 hs hf
   replace hs : St _ _ _ _ [blk g28 [.pointer (some ⟨g25, 2, none⟩), .pointer (some ⟨g25, 3, none⟩), .pointer (some ⟨g25, 4, none⟩), .pointer (some ⟨g25, 5, none⟩), .pointer (some ⟨g25, 6, none⟩), .pointer (some ⟨g25, 7, none⟩)] 108, blk g25 [.int .i64 (0), .int .i64 (0), .int .i64 (ea.p0), .int .i64 (ea.p1), .int .i64 (ea.p2), .int .i64 (ea.v0), .int .i64 (ea.v1), .int .i64 (ea.v2), .int .u16 (0)] 25, blk g5 [.int .i64 (0), .int .i64 (0), .int .i64 (0), .int .i64 (0), .int .i64 (0), .int .i64 (0), .int .i64 (0), .int .i64 (0), .int .u16 (0)] 25, blk g4 [.int .i64 (eb.id), .int .i64 (eb.p0), .int .i64 (eb.p1), .int .i64 (eb.p2), .int .i64 (eb.v0), .int .i64 (eb.v1), .int .i64 (eb.v2), .int .u16 ((((eb.a).toNat : Nat) : Int)), .int .u8 ((((eb.g).toNat : Nat) : Int))] 54, blk g3 [.int .i64 (ea.id), .int .i64 (ea.p0), .int .i64 (ea.p1), .int .i64 (ea.p2), .int .i64 (ea.v0), .int .i64 (ea.v1), .int .i64 (ea.v2), .int .u16 ((((ea.a).toNat : Nat) : Int)), .int .u8 ((((ea.g).toNat : Nat) : Int))] 54, blk g15 [.int .i64 (1), .int .i64 (eb.id), .int .i64 (IntKind.i64.wrap (eb.p0 - ea.p0)), .int .i64 (IntKind.i64.wrap (eb.p1 - ea.p1)), .int .i64 (eb.p2), .int .i64 (eb.v0), .int .i64 (eb.v1), .int .i64 (eb.v2), .int .u16 ((((eb.a).toNat : Nat) : Int))] 25] _ _ := hs
   clear hf
   refine in_n ?_
   refine then_n (hK47 _ _ ?_)
   refine wp_region_lit ?_
   refine st_addR hs rfl rfl (by omega) rfl ?_; clear hs w a; intro a w hs
   rw [show (1 + 1 : Int) = 2 by rfl] at hs
   refine st_mv hs rfl rfl ?_; clear hs w a; intro a w hs
   refine wpList_nil ?_
   refine then_n ?_
   refine rounds_in ?_
   refine wp_seq_k fun K51 hK52 => ?_
   refine wp_region_lit ?_
   refine st_lss hs rfl rfl rfl ?_; clear hs w a; intro a w hs
   rw [show (decide ((2 : Int) < 6)) = true from by decide] at hs
   refine wpList_nil ?_
   refine then_n (hK52 _ _ ?_)
   refine wp_seq_k fun K53 hK54 => ?_
   refine wp_cond_true (hs.ev rfl) ?_
   refine wp_skip ?_
   refine then_n (hK54 _ _ ?_)
   refine wp_seq_k fun K55 hK56 => ?_
   refine wp_block ?_
   refine wp_seq_k fun K57 hK58 => ?_
   refine wp_region_lit ?_
   refine st_mv hs rfl rfl ?_; clear hs w a; intro a w hs
   refine st_ix hs rfl rfl Try.underlying108 (by decide) (by decide) rfl Try.isAgg107 Try.sizeOf107 rfl ?_; clear hs w a; intro a w hs
   refine st_as hs rfl rfl ?_; clear hs w a; intro a w hs
   refine st_as hs rfl rfl ?_; clear hs w a; intro a w hs
   refine wpList_nil ?_
   refine then_n (hK58 _ _ ?_)
   replace hs := hs.sub (F' := [(10, .pointer (some ⟨g15, 4, none⟩)), (9, .int .i64 (2)), (40, .pointer (some ⟨g15, 4, none⟩)), (39, .int .i64 (2)), (38, .bool (true)), (37, .int .i64 (2)), (51, .int .i64 (2)), (36, .agg #[.pointer (some ⟨g15, 2, none⟩), .pointer (some ⟨g15, 3, none⟩), .pointer (some ⟨g15, 4, none⟩), .pointer (some ⟨g15, 5, none⟩), .pointer (some ⟨g15, 6, none⟩), .pointer (some ⟨g15, 7, none⟩)]), (8, .pointer (some ⟨g28, 0, none⟩)), (6, .pointer (some ⟨g15, 0, none⟩)), (5, .bool (false)), (4, .pointer (some ⟨g5, 0, none⟩)), (2, .pointer (some ⟨g3, 0, none⟩))]) (.c rfl (.c rfl (.c rfl (.c rfl (.c rfl (.c rfl (.c rfl (.c rfl (.c rfl (.c rfl (.c rfl (.c rfl (.c rfl .n)))))))))))))
   refine wp_drawG (M0 := [blk g28 [.pointer (some ⟨g25, 2, none⟩), .pointer (some ⟨g25, 3, none⟩), .pointer (some ⟨g25, 4, none⟩), .pointer (some ⟨g25, 5, none⟩), .pointer (some ⟨g25, 6, none⟩), .pointer (some ⟨g25, 7, none⟩)] 108, blk g25 [.int .i64 (0), .int .i64 (0), .int .i64 (ea.p0), .int .i64 (ea.p1), .int .i64 (ea.p2), .int .i64 (ea.v0), .int .i64 (ea.v1), .int .i64 (ea.v2), .int .u16 (0)] 25, blk g5 [.int .i64 (0), .int .i64 (0), .int .i64 (0), .int .i64 (0), .int .i64 (0), .int .i64 (0), .int .i64 (0), .int .i64 (0), .int .u16 (0)] 25, blk g4 [.int .i64 (eb.id), .int .i64 (eb.p0), .int .i64 (eb.p1), .int .i64 (eb.p2), .int .i64 (eb.v0), .int .i64 (eb.v1), .int .i64 (eb.v2), .int .u16 ((((eb.a).toNat : Nat) : Int)), .int .u8 ((((eb.g).toNat : Nat) : Int))] 54, blk g3 [.int .i64 (ea.id), .int .i64 (ea.p0), .int .i64 (ea.p1), .int .i64 (ea.p2), .int .i64 (ea.v0), .int .i64 (ea.v1), .int .i64 (ea.v2), .int .u16 ((((ea.a).toNat : Nat) : Int)), .int .u8 ((((ea.g).toNat : Nat) : Int))] 54]) (Ds := [⟨[], [], [], fun vs59 => vs59 0 = .pointer (some ⟨g15, 4, none⟩), fun vs59 => []⟩, ⟨[], [], [], fun vs59 => vs59 1 = .pointer (some ⟨g15, 4, none⟩), fun vs59 => []⟩, ⟨[], [], [], fun vs59 => vs59 2 = .int .i64 (eb.p2), fun vs59 => []⟩, ⟨[], [], [], fun vs59 => vs59 3 = .int .i64 (2), fun vs59 => []⟩, ⟨[], [], [], fun vs59 => vs59 4 = .pointer (some ⟨g28, 2, none⟩), fun vs59 => []⟩, ⟨[], [], [], fun vs59 => vs59 5 = .pointer (some ⟨g25, 4, none⟩), fun vs59 => []⟩, ⟨[], [], [], fun vs59 => vs59 6 = .pointer (some ⟨g25, 4, none⟩), fun vs59 => []⟩, ⟨[], [], [], fun vs59 => vs59 7 = .int .i64 (ea.p2), fun vs59 => []⟩, ⟨[], [], [], fun vs59 => vs59 8 = .int .i64 (IntKind.i64.wrap (eb.p2 - ea.p2)), fun vs59 => []⟩, ⟨[], [], [], fun vs59 => vs59 9 = .pointer (some ⟨g15, 4, none⟩), fun vs59 => []⟩, ⟨[blk g15 [.int .i64 (1), .int .i64 (eb.id), .int .i64 (IntKind.i64.wrap (eb.p0 - ea.p0)), .int .i64 (IntKind.i64.wrap (eb.p1 - ea.p1)), .int .i64 (eb.p2), .int .i64 (eb.v0), .int .i64 (eb.v1), .int .i64 (eb.v2), .int .u16 ((((eb.a).toNat : Nat) : Int))] 25], [], [], fun vs59 => True, fun vs59 => [blk g15 [.int .i64 (1), .int .i64 (eb.id), .int .i64 (IntKind.i64.wrap (eb.p0 - ea.p0)), .int .i64 (IntKind.i64.wrap (eb.p1 - ea.p1)), .int .i64 (IntKind.i64.wrap (eb.p2 - ea.p2)), .int .i64 (eb.v0), .int .i64 (eb.v1), .int .i64 (eb.v2), .int .u16 ((((eb.a).toNat : Nat) : Int))] 25]⟩]) (by kernel_rfl) hs rfl (.c (.s (.s (.s (.s (.s .z))))) .n) (by kernel_rfl) (by kernel_rfl) ?_ ?_
   ·
    refine (.c ?_ (.c ?_ (.c ?_ (.c ?_ (.c ?_ (.c ?_ (.c ?_ (.c ?_ (.c ?_ (.c ?_ (.c ?_ .n)))))))))))
    ·
     intro a_ w_ R_ rest_ vs59 hm hs ht hx
     replace hs : St _ _ _ (feet []) [] _ _ := hs
     have hm0 := hm.mid
     have hs0 := hs.bare
     refine st_mv hs rfl rfl ?_; clear hs; intro a w hs
     exact wpList_nil ⟨rfl, _, _, hs0, .r, hs, rfl⟩
    ·
     intro a_ w_ R_ rest_ vs59 hm hs ht hx
     replace hs : St _ _ _ (feet []) [] _ _ := hs
     have hm0 := hm.mid
     have t0 := ht 0 (twB_spec 11 _ (by kernel_rfl))
     have e0 : _ = some (vs59 0) := t0.val rfl
     rw [show vs59 0 = .pointer (some ⟨g15, 4, none⟩) from t0.2.1] at e0
     replace hs := hs.learn e0
     have hs0 := hs.bare
     refine st_nc hs rfl rfl ?_; clear hs; intro a w hs
     exact wpList_nil ⟨rfl, _, _, hs0, (.c .r), hs, rfl⟩
    ·
     intro a_ w_ R_ rest_ vs59 hm hs ht hx
     replace hs : St _ _ _ (feet []) [] _ _ := hs
     have hm0 := hm.mid
     have t1 := ht 1 (twB_spec 11 _ (by kernel_rfl))
     have e1 : _ = some (vs59 1) := t1.val rfl
     rw [show vs59 1 = .pointer (some ⟨g15, 4, none⟩) from t1.2.1] at e1
     replace hs := hs.learn e1
     have hs0 := hs.bare
     refine st_ldE hs rfl (hm.own (List.mem_append.2 (.inr (hx 10 (twB_spec 11 _ (by kernel_rfl)) _ (List.Mem.head _))))) (.s (.s (.s (.s .z)))) Try.isAgg2 rfl ?_; clear hs; intro a w hs
     exact wpList_nil ⟨rfl, _, _, hs0, (.c .r), hs, rfl⟩
    ·
     intro a_ w_ R_ rest_ vs59 hm hs ht hx
     replace hs : St _ _ _ (feet []) [] _ _ := hs
     have hm0 := hm.mid
     have hs0 := hs.bare
     refine st_mv hs rfl rfl ?_; clear hs; intro a w hs
     exact wpList_nil ⟨rfl, _, _, hs0, .r, hs, rfl⟩
    ·
     intro a_ w_ R_ rest_ vs59 hm hs ht hx
     replace hs : St _ _ _ (feet []) [] _ _ := hs
     have hm0 := hm.mid
     have t3 := ht 3 (twB_spec 11 _ (by kernel_rfl))
     have e3 : _ = some (vs59 3) := t3.val rfl
     rw [show vs59 3 = .int .i64 (2) from t3.2.1] at e3
     replace hs := hs.learn e3
     have hs0 := hs.bare
     refine st_iaB hs rfl rfl Try.underlying108 (by decide) (by decide) Try.sizeOf107 (o' := 2) rfl rfl ?_; clear hs; intro a w hs
     exact wpList_nil ⟨rfl, _, _, hs0, (.c .r), hs, rfl⟩
    ·
     intro a_ w_ R_ rest_ vs59 hm hs ht hx
     replace hs : St _ _ _ (feet []) [] _ _ := hs
     have hm0 := hm.mid
     have t4 := ht 4 (twB_spec 11 _ (by kernel_rfl))
     have e4 : _ = some (vs59 4) := t4.val rfl
     rw [show vs59 4 = .pointer (some ⟨g28, 2, none⟩) from t4.2.1] at e4
     replace hs := hs.learn e4
     have hs0 := hs.bare
     refine st_ldE hs rfl (hm0.del .z) (.s (.s .z)) Try.isAgg107 rfl ?_; clear hs; intro a w hs
     exact wpList_nil ⟨rfl, _, _, hs0, (.c .r), hs, rfl⟩
    ·
     intro a_ w_ R_ rest_ vs59 hm hs ht hx
     replace hs : St _ _ _ (feet []) [] _ _ := hs
     have hm0 := hm.mid
     have t5 := ht 5 (twB_spec 11 _ (by kernel_rfl))
     have e5 : _ = some (vs59 5) := t5.val rfl
     rw [show vs59 5 = .pointer (some ⟨g25, 4, none⟩) from t5.2.1] at e5
     replace hs := hs.learn e5
     have hs0 := hs.bare
     refine st_nc hs rfl rfl ?_; clear hs; intro a w hs
     exact wpList_nil ⟨rfl, _, _, hs0, (.c .r), hs, rfl⟩
    ·
     intro a_ w_ R_ rest_ vs59 hm hs ht hx
     replace hs : St _ _ _ (feet []) [] _ _ := hs
     have hm0 := hm.mid
     have t6 := ht 6 (twB_spec 11 _ (by kernel_rfl))
     have e6 : _ = some (vs59 6) := t6.val rfl
     rw [show vs59 6 = .pointer (some ⟨g25, 4, none⟩) from t6.2.1] at e6
     replace hs := hs.learn e6
     have hs0 := hs.bare
     refine st_ldE hs rfl (hm0.del (.s .z)) (.s (.s (.s (.s .z)))) Try.isAgg2 rfl ?_; clear hs; intro a w hs
     exact wpList_nil ⟨rfl, _, _, hs0, (.c .r), hs, rfl⟩
    ·
     intro a_ w_ R_ rest_ vs59 hm hs ht hx
     replace hs : St _ _ _ (feet []) [] _ _ := hs
     have hm0 := hm.mid
     have t2 := ht 2 (twB_spec 11 _ (by kernel_rfl))
     have e2 : _ = some (vs59 2) := t2.val rfl
     rw [show vs59 2 = .int .i64 (eb.p2) from t2.2.1] at e2
     replace hs := hs.learn e2
     have t7 := ht 7 (twB_spec 11 _ (by kernel_rfl))
     have e7 : _ = some (vs59 7) := t7.val rfl
     rw [show vs59 7 = .int .i64 (ea.p2) from t7.2.1] at e7
     replace hs := hs.learn e7
     have hs0 := hs.bare
     refine st_sub hs rfl rfl rfl ?_; clear hs; intro a w hs
     exact wpList_nil ⟨rfl, _, _, hs0, (.c (.c .r)), hs, rfl⟩
    ·
     intro a_ w_ R_ rest_ vs59 hm hs ht hx
     replace hs : St _ _ _ (feet []) [] _ _ := hs
     have hm0 := hm.mid
     have t0 := ht 0 (twB_spec 11 _ (by kernel_rfl))
     have e0 : _ = some (vs59 0) := t0.val rfl
     rw [show vs59 0 = .pointer (some ⟨g15, 4, none⟩) from t0.2.1] at e0
     replace hs := hs.learn e0
     have hs0 := hs.bare
     refine st_nc hs rfl rfl ?_; clear hs; intro a w hs
     exact wpList_nil ⟨rfl, _, _, hs0, (.c .r), hs, rfl⟩
    intro a_ w_ R_ rest_ vs59 hm hs ht hx
    replace hs : St _ _ _ (feet [blk g15 [.int .i64 (1), .int .i64 (eb.id), .int .i64 (IntKind.i64.wrap (eb.p0 - ea.p0)), .int .i64 (IntKind.i64.wrap (eb.p1 - ea.p1)), .int .i64 (eb.p2), .int .i64 (eb.v0), .int .i64 (eb.v1), .int .i64 (eb.v2), .int .u16 ((((eb.a).toNat : Nat) : Int))] 25]) [blk g15 [.int .i64 (1), .int .i64 (eb.id), .int .i64 (IntKind.i64.wrap (eb.p0 - ea.p0)), .int .i64 (IntKind.i64.wrap (eb.p1 - ea.p1)), .int .i64 (eb.p2), .int .i64 (eb.v0), .int .i64 (eb.v1), .int .i64 (eb.v2), .int .u16 ((((eb.a).toNat : Nat) : Int))] 25] _ _ := hs
    have hm0 := hm.mid
    have t8 := ht 8 (twB_spec 11 _ (by kernel_rfl))
    have e8 : _ = some (vs59 8) := t8.val rfl
    rw [show vs59 8 = .int .i64 (IntKind.i64.wrap (eb.p2 - ea.p2)) from t8.2.1] at e8
    replace hs := hs.learn e8
    have t9 := ht 9 (twB_spec 11 _ (by kernel_rfl))
    have e9 : _ = some (vs59 9) := t9.val rfl
    rw [show vs59 9 = .pointer (some ⟨g15, 4, none⟩) from t9.2.1] at e9
    replace hs := hs.learn e9
    have hs0 := hs.bare
    refine st_stB hs rfl rfl .z (.s (.s (.s (.s .z)))) rfl Try.sizeOf2 ?_; clear hs; intro a w hs
    exact wpList_nil ⟨rfl, .tuple #[], _, hs0, (.c (.c .r)), hs, trivial⟩
   clear hs w a; intro a w vs59 hs hf
   replace hs : St _ _ _ _ [blk g28 [.pointer (some ⟨g25, 2, none⟩), .pointer (some ⟨g25, 3, none⟩), .pointer (some ⟨g25, 4, none⟩), .pointer (some ⟨g25, 5, none⟩), .pointer (some ⟨g25, 6, none⟩), .pointer (some ⟨g25, 7, none⟩)] 108, blk g25 [.int .i64 (0), .int .i64 (0), .int .i64 (ea.p0), .int .i64 (ea.p1), .int .i64 (ea.p2), .int .i64 (ea.v0), .int .i64 (ea.v1), .int .i64 (ea.v2), .int .u16 (0)] 25, blk g5 [.int .i64 (0), .int .i64 (0), .int .i64 (0), .int .i64 (0), .int .i64 (0), .int .i64 (0), .int .i64 (0), .int .i64 (0), .int .u16 (0)] 25, blk g4 [.int .i64 (eb.id), .int .i64 (eb.p0), .int .i64 (eb.p1), .int .i64 (eb.p2), .int .i64 (eb.v0), .int .i64 (eb.v1), .int .i64 (eb.v2), .int .u16 ((((eb.a).toNat : Nat) : Int)), .int .u8 ((((eb.g).toNat : Nat) : Int))] 54, blk g3 [.int .i64 (ea.id), .int .i64 (ea.p0), .int .i64 (ea.p1), .int .i64 (ea.p2), .int .i64 (ea.v0), .int .i64 (ea.v1), .int .i64 (ea.v2), .int .u16 ((((ea.a).toNat : Nat) : Int)), .int .u8 ((((ea.g).toNat : Nat) : Int))] 54, blk g15 [.int .i64 (1), .int .i64 (eb.id), .int .i64 (IntKind.i64.wrap (eb.p0 - ea.p0)), .int .i64 (IntKind.i64.wrap (eb.p1 - ea.p1)), .int .i64 (IntKind.i64.wrap (eb.p2 - ea.p2)), .int .i64 (eb.v0), .int .i64 (eb.v1), .int .i64 (eb.v2), .int .u16 ((((eb.a).toNat : Nat) : Int))] 25] _ _ := hs
   clear hf
   refine in_n ?_
   refine then_n (hK56 _ _ ?_)
   refine wp_region_lit ?_
   refine st_addR hs rfl rfl (by omega) rfl ?_; clear hs w a; intro a w hs
   rw [show (2 + 1 : Int) = 3 by rfl] at hs
   refine st_mv hs rfl rfl ?_; clear hs w a; intro a w hs
   refine wpList_nil ?_
   refine then_n ?_
   refine rounds_in ?_
   refine wp_seq_k fun K60 hK61 => ?_
   refine wp_region_lit ?_
   refine st_lss hs rfl rfl rfl ?_; clear hs w a; intro a w hs
   rw [show (decide ((3 : Int) < 6)) = true from by decide] at hs
   refine wpList_nil ?_
   refine then_n (hK61 _ _ ?_)
   refine wp_seq_k fun K62 hK63 => ?_
   refine wp_cond_true (hs.ev rfl) ?_
   refine wp_skip ?_
   refine then_n (hK63 _ _ ?_)
   refine wp_seq_k fun K64 hK65 => ?_
   refine wp_block ?_
   refine wp_seq_k fun K66 hK67 => ?_
   refine wp_region_lit ?_
   refine st_mv hs rfl rfl ?_; clear hs w a; intro a w hs
   refine st_ix hs rfl rfl Try.underlying108 (by decide) (by decide) rfl Try.isAgg107 Try.sizeOf107 rfl ?_; clear hs w a; intro a w hs
   refine st_as hs rfl rfl ?_; clear hs w a; intro a w hs
   refine st_as hs rfl rfl ?_; clear hs w a; intro a w hs
   refine wpList_nil ?_
   refine then_n (hK67 _ _ ?_)
   replace hs := hs.sub (F' := [(10, .pointer (some ⟨g15, 5, none⟩)), (9, .int .i64 (3)), (40, .pointer (some ⟨g15, 5, none⟩)), (39, .int .i64 (3)), (38, .bool (true)), (37, .int .i64 (3)), (51, .int .i64 (3)), (36, .agg #[.pointer (some ⟨g15, 2, none⟩), .pointer (some ⟨g15, 3, none⟩), .pointer (some ⟨g15, 4, none⟩), .pointer (some ⟨g15, 5, none⟩), .pointer (some ⟨g15, 6, none⟩), .pointer (some ⟨g15, 7, none⟩)]), (8, .pointer (some ⟨g28, 0, none⟩)), (6, .pointer (some ⟨g15, 0, none⟩)), (5, .bool (false)), (4, .pointer (some ⟨g5, 0, none⟩)), (2, .pointer (some ⟨g3, 0, none⟩))]) (.c rfl (.c rfl (.c rfl (.c rfl (.c rfl (.c rfl (.c rfl (.c rfl (.c rfl (.c rfl (.c rfl (.c rfl (.c rfl .n)))))))))))))
   refine wp_drawG (M0 := [blk g28 [.pointer (some ⟨g25, 2, none⟩), .pointer (some ⟨g25, 3, none⟩), .pointer (some ⟨g25, 4, none⟩), .pointer (some ⟨g25, 5, none⟩), .pointer (some ⟨g25, 6, none⟩), .pointer (some ⟨g25, 7, none⟩)] 108, blk g25 [.int .i64 (0), .int .i64 (0), .int .i64 (ea.p0), .int .i64 (ea.p1), .int .i64 (ea.p2), .int .i64 (ea.v0), .int .i64 (ea.v1), .int .i64 (ea.v2), .int .u16 (0)] 25, blk g5 [.int .i64 (0), .int .i64 (0), .int .i64 (0), .int .i64 (0), .int .i64 (0), .int .i64 (0), .int .i64 (0), .int .i64 (0), .int .u16 (0)] 25, blk g4 [.int .i64 (eb.id), .int .i64 (eb.p0), .int .i64 (eb.p1), .int .i64 (eb.p2), .int .i64 (eb.v0), .int .i64 (eb.v1), .int .i64 (eb.v2), .int .u16 ((((eb.a).toNat : Nat) : Int)), .int .u8 ((((eb.g).toNat : Nat) : Int))] 54, blk g3 [.int .i64 (ea.id), .int .i64 (ea.p0), .int .i64 (ea.p1), .int .i64 (ea.p2), .int .i64 (ea.v0), .int .i64 (ea.v1), .int .i64 (ea.v2), .int .u16 ((((ea.a).toNat : Nat) : Int)), .int .u8 ((((ea.g).toNat : Nat) : Int))] 54]) (Ds := [⟨[], [], [], fun vs68 => vs68 0 = .pointer (some ⟨g15, 5, none⟩), fun vs68 => []⟩, ⟨[], [], [], fun vs68 => vs68 1 = .pointer (some ⟨g15, 5, none⟩), fun vs68 => []⟩, ⟨[], [], [], fun vs68 => vs68 2 = .int .i64 (eb.v0), fun vs68 => []⟩, ⟨[], [], [], fun vs68 => vs68 3 = .int .i64 (3), fun vs68 => []⟩, ⟨[], [], [], fun vs68 => vs68 4 = .pointer (some ⟨g28, 3, none⟩), fun vs68 => []⟩, ⟨[], [], [], fun vs68 => vs68 5 = .pointer (some ⟨g25, 5, none⟩), fun vs68 => []⟩, ⟨[], [], [], fun vs68 => vs68 6 = .pointer (some ⟨g25, 5, none⟩), fun vs68 => []⟩, ⟨[], [], [], fun vs68 => vs68 7 = .int .i64 (ea.v0), fun vs68 => []⟩, ⟨[], [], [], fun vs68 => vs68 8 = .int .i64 (IntKind.i64.wrap (eb.v0 - ea.v0)), fun vs68 => []⟩, ⟨[], [], [], fun vs68 => vs68 9 = .pointer (some ⟨g15, 5, none⟩), fun vs68 => []⟩, ⟨[blk g15 [.int .i64 (1), .int .i64 (eb.id), .int .i64 (IntKind.i64.wrap (eb.p0 - ea.p0)), .int .i64 (IntKind.i64.wrap (eb.p1 - ea.p1)), .int .i64 (IntKind.i64.wrap (eb.p2 - ea.p2)), .int .i64 (eb.v0), .int .i64 (eb.v1), .int .i64 (eb.v2), .int .u16 ((((eb.a).toNat : Nat) : Int))] 25], [], [], fun vs68 => True, fun vs68 => [blk g15 [.int .i64 (1), .int .i64 (eb.id), .int .i64 (IntKind.i64.wrap (eb.p0 - ea.p0)), .int .i64 (IntKind.i64.wrap (eb.p1 - ea.p1)), .int .i64 (IntKind.i64.wrap (eb.p2 - ea.p2)), .int .i64 (IntKind.i64.wrap (eb.v0 - ea.v0)), .int .i64 (eb.v1), .int .i64 (eb.v2), .int .u16 ((((eb.a).toNat : Nat) : Int))] 25]⟩]) (by kernel_rfl) hs rfl (.c (.s (.s (.s (.s (.s .z))))) .n) (by kernel_rfl) (by kernel_rfl) ?_ ?_
   ·
    refine (.c ?_ (.c ?_ (.c ?_ (.c ?_ (.c ?_ (.c ?_ (.c ?_ (.c ?_ (.c ?_ (.c ?_ (.c ?_ .n)))))))))))
    ·
     intro a_ w_ R_ rest_ vs68 hm hs ht hx
     replace hs : St _ _ _ (feet []) [] _ _ := hs
     have hm0 := hm.mid
     have hs0 := hs.bare
     refine st_mv hs rfl rfl ?_; clear hs; intro a w hs
     exact wpList_nil ⟨rfl, _, _, hs0, .r, hs, rfl⟩
    ·
     intro a_ w_ R_ rest_ vs68 hm hs ht hx
     replace hs : St _ _ _ (feet []) [] _ _ := hs
     have hm0 := hm.mid
     have t0 := ht 0 (twB_spec 11 _ (by kernel_rfl))
     have e0 : _ = some (vs68 0) := t0.val rfl
     rw [show vs68 0 = .pointer (some ⟨g15, 5, none⟩) from t0.2.1] at e0
     replace hs := hs.learn e0
     have hs0 := hs.bare
     refine st_nc hs rfl rfl ?_; clear hs; intro a w hs
     exact wpList_nil ⟨rfl, _, _, hs0, (.c .r), hs, rfl⟩
    ·
     intro a_ w_ R_ rest_ vs68 hm hs ht hx
     replace hs : St _ _ _ (feet []) [] _ _ := hs
     have hm0 := hm.mid
     have t1 := ht 1 (twB_spec 11 _ (by kernel_rfl))
     have e1 : _ = some (vs68 1) := t1.val rfl
     rw [show vs68 1 = .pointer (some ⟨g15, 5, none⟩) from t1.2.1] at e1
     replace hs := hs.learn e1
     have hs0 := hs.bare
     refine st_ldE hs rfl (hm.own (List.mem_append.2 (.inr (hx 10 (twB_spec 11 _ (by kernel_rfl)) _ (List.Mem.head _))))) (.s (.s (.s (.s (.s .z))))) Try.isAgg2 rfl ?_; clear hs; intro a w hs
     exact wpList_nil ⟨rfl, _, _, hs0, (.c .r), hs, rfl⟩
    ·
     intro a_ w_ R_ rest_ vs68 hm hs ht hx
     replace hs : St _ _ _ (feet []) [] _ _ := hs
     have hm0 := hm.mid
     have hs0 := hs.bare
     refine st_mv hs rfl rfl ?_; clear hs; intro a w hs
     exact wpList_nil ⟨rfl, _, _, hs0, .r, hs, rfl⟩
    ·
     intro a_ w_ R_ rest_ vs68 hm hs ht hx
     replace hs : St _ _ _ (feet []) [] _ _ := hs
     have hm0 := hm.mid
     have t3 := ht 3 (twB_spec 11 _ (by kernel_rfl))
     have e3 : _ = some (vs68 3) := t3.val rfl
     rw [show vs68 3 = .int .i64 (3) from t3.2.1] at e3
     replace hs := hs.learn e3
     have hs0 := hs.bare
     refine st_iaB hs rfl rfl Try.underlying108 (by decide) (by decide) Try.sizeOf107 (o' := 3) rfl rfl ?_; clear hs; intro a w hs
     exact wpList_nil ⟨rfl, _, _, hs0, (.c .r), hs, rfl⟩
    ·
     intro a_ w_ R_ rest_ vs68 hm hs ht hx
     replace hs : St _ _ _ (feet []) [] _ _ := hs
     have hm0 := hm.mid
     have t4 := ht 4 (twB_spec 11 _ (by kernel_rfl))
     have e4 : _ = some (vs68 4) := t4.val rfl
     rw [show vs68 4 = .pointer (some ⟨g28, 3, none⟩) from t4.2.1] at e4
     replace hs := hs.learn e4
     have hs0 := hs.bare
     refine st_ldE hs rfl (hm0.del .z) (.s (.s (.s .z))) Try.isAgg107 rfl ?_; clear hs; intro a w hs
     exact wpList_nil ⟨rfl, _, _, hs0, (.c .r), hs, rfl⟩
    ·
     intro a_ w_ R_ rest_ vs68 hm hs ht hx
     replace hs : St _ _ _ (feet []) [] _ _ := hs
     have hm0 := hm.mid
     have t5 := ht 5 (twB_spec 11 _ (by kernel_rfl))
     have e5 : _ = some (vs68 5) := t5.val rfl
     rw [show vs68 5 = .pointer (some ⟨g25, 5, none⟩) from t5.2.1] at e5
     replace hs := hs.learn e5
     have hs0 := hs.bare
     refine st_nc hs rfl rfl ?_; clear hs; intro a w hs
     exact wpList_nil ⟨rfl, _, _, hs0, (.c .r), hs, rfl⟩
    ·
     intro a_ w_ R_ rest_ vs68 hm hs ht hx
     replace hs : St _ _ _ (feet []) [] _ _ := hs
     have hm0 := hm.mid
     have t6 := ht 6 (twB_spec 11 _ (by kernel_rfl))
     have e6 : _ = some (vs68 6) := t6.val rfl
     rw [show vs68 6 = .pointer (some ⟨g25, 5, none⟩) from t6.2.1] at e6
     replace hs := hs.learn e6
     have hs0 := hs.bare
     refine st_ldE hs rfl (hm0.del (.s .z)) (.s (.s (.s (.s (.s .z))))) Try.isAgg2 rfl ?_; clear hs; intro a w hs
     exact wpList_nil ⟨rfl, _, _, hs0, (.c .r), hs, rfl⟩
    ·
     intro a_ w_ R_ rest_ vs68 hm hs ht hx
     replace hs : St _ _ _ (feet []) [] _ _ := hs
     have hm0 := hm.mid
     have t2 := ht 2 (twB_spec 11 _ (by kernel_rfl))
     have e2 : _ = some (vs68 2) := t2.val rfl
     rw [show vs68 2 = .int .i64 (eb.v0) from t2.2.1] at e2
     replace hs := hs.learn e2
     have t7 := ht 7 (twB_spec 11 _ (by kernel_rfl))
     have e7 : _ = some (vs68 7) := t7.val rfl
     rw [show vs68 7 = .int .i64 (ea.v0) from t7.2.1] at e7
     replace hs := hs.learn e7
     have hs0 := hs.bare
     refine st_sub hs rfl rfl rfl ?_; clear hs; intro a w hs
     exact wpList_nil ⟨rfl, _, _, hs0, (.c (.c .r)), hs, rfl⟩
    ·
     intro a_ w_ R_ rest_ vs68 hm hs ht hx
     replace hs : St _ _ _ (feet []) [] _ _ := hs
     have hm0 := hm.mid
     have t0 := ht 0 (twB_spec 11 _ (by kernel_rfl))
     have e0 : _ = some (vs68 0) := t0.val rfl
     rw [show vs68 0 = .pointer (some ⟨g15, 5, none⟩) from t0.2.1] at e0
     replace hs := hs.learn e0
     have hs0 := hs.bare
     refine st_nc hs rfl rfl ?_; clear hs; intro a w hs
     exact wpList_nil ⟨rfl, _, _, hs0, (.c .r), hs, rfl⟩
    intro a_ w_ R_ rest_ vs68 hm hs ht hx
    replace hs : St _ _ _ (feet [blk g15 [.int .i64 (1), .int .i64 (eb.id), .int .i64 (IntKind.i64.wrap (eb.p0 - ea.p0)), .int .i64 (IntKind.i64.wrap (eb.p1 - ea.p1)), .int .i64 (IntKind.i64.wrap (eb.p2 - ea.p2)), .int .i64 (eb.v0), .int .i64 (eb.v1), .int .i64 (eb.v2), .int .u16 ((((eb.a).toNat : Nat) : Int))] 25]) [blk g15 [.int .i64 (1), .int .i64 (eb.id), .int .i64 (IntKind.i64.wrap (eb.p0 - ea.p0)), .int .i64 (IntKind.i64.wrap (eb.p1 - ea.p1)), .int .i64 (IntKind.i64.wrap (eb.p2 - ea.p2)), .int .i64 (eb.v0), .int .i64 (eb.v1), .int .i64 (eb.v2), .int .u16 ((((eb.a).toNat : Nat) : Int))] 25] _ _ := hs
    have hm0 := hm.mid
    have t8 := ht 8 (twB_spec 11 _ (by kernel_rfl))
    have e8 : _ = some (vs68 8) := t8.val rfl
    rw [show vs68 8 = .int .i64 (IntKind.i64.wrap (eb.v0 - ea.v0)) from t8.2.1] at e8
    replace hs := hs.learn e8
    have t9 := ht 9 (twB_spec 11 _ (by kernel_rfl))
    have e9 : _ = some (vs68 9) := t9.val rfl
    rw [show vs68 9 = .pointer (some ⟨g15, 5, none⟩) from t9.2.1] at e9
    replace hs := hs.learn e9
    have hs0 := hs.bare
    refine st_stB hs rfl rfl .z (.s (.s (.s (.s (.s .z))))) rfl Try.sizeOf2 ?_; clear hs; intro a w hs
    exact wpList_nil ⟨rfl, .tuple #[], _, hs0, (.c (.c .r)), hs, trivial⟩
   clear hs w a; intro a w vs68 hs hf
   replace hs : St _ _ _ _ [blk g28 [.pointer (some ⟨g25, 2, none⟩), .pointer (some ⟨g25, 3, none⟩), .pointer (some ⟨g25, 4, none⟩), .pointer (some ⟨g25, 5, none⟩), .pointer (some ⟨g25, 6, none⟩), .pointer (some ⟨g25, 7, none⟩)] 108, blk g25 [.int .i64 (0), .int .i64 (0), .int .i64 (ea.p0), .int .i64 (ea.p1), .int .i64 (ea.p2), .int .i64 (ea.v0), .int .i64 (ea.v1), .int .i64 (ea.v2), .int .u16 (0)] 25, blk g5 [.int .i64 (0), .int .i64 (0), .int .i64 (0), .int .i64 (0), .int .i64 (0), .int .i64 (0), .int .i64 (0), .int .i64 (0), .int .u16 (0)] 25, blk g4 [.int .i64 (eb.id), .int .i64 (eb.p0), .int .i64 (eb.p1), .int .i64 (eb.p2), .int .i64 (eb.v0), .int .i64 (eb.v1), .int .i64 (eb.v2), .int .u16 ((((eb.a).toNat : Nat) : Int)), .int .u8 ((((eb.g).toNat : Nat) : Int))] 54, blk g3 [.int .i64 (ea.id), .int .i64 (ea.p0), .int .i64 (ea.p1), .int .i64 (ea.p2), .int .i64 (ea.v0), .int .i64 (ea.v1), .int .i64 (ea.v2), .int .u16 ((((ea.a).toNat : Nat) : Int)), .int .u8 ((((ea.g).toNat : Nat) : Int))] 54, blk g15 [.int .i64 (1), .int .i64 (eb.id), .int .i64 (IntKind.i64.wrap (eb.p0 - ea.p0)), .int .i64 (IntKind.i64.wrap (eb.p1 - ea.p1)), .int .i64 (IntKind.i64.wrap (eb.p2 - ea.p2)), .int .i64 (IntKind.i64.wrap (eb.v0 - ea.v0)), .int .i64 (eb.v1), .int .i64 (eb.v2), .int .u16 ((((eb.a).toNat : Nat) : Int))] 25] _ _ := hs
   clear hf
   refine in_n ?_
   refine then_n (hK65 _ _ ?_)
   refine wp_region_lit ?_
   refine st_addR hs rfl rfl (by omega) rfl ?_; clear hs w a; intro a w hs
   rw [show (3 + 1 : Int) = 4 by rfl] at hs
   refine st_mv hs rfl rfl ?_; clear hs w a; intro a w hs
   refine wpList_nil ?_
   refine then_n ?_
   refine rounds_in ?_
   refine wp_seq_k fun K69 hK70 => ?_
   refine wp_region_lit ?_
   refine st_lss hs rfl rfl rfl ?_; clear hs w a; intro a w hs
   rw [show (decide ((4 : Int) < 6)) = true from by decide] at hs
   refine wpList_nil ?_
   refine then_n (hK70 _ _ ?_)
   refine wp_seq_k fun K71 hK72 => ?_
   refine wp_cond_true (hs.ev rfl) ?_
   refine wp_skip ?_
   refine then_n (hK72 _ _ ?_)
   refine wp_seq_k fun K73 hK74 => ?_
   refine wp_block ?_
   refine wp_seq_k fun K75 hK76 => ?_
   refine wp_region_lit ?_
   refine st_mv hs rfl rfl ?_; clear hs w a; intro a w hs
   refine st_ix hs rfl rfl Try.underlying108 (by decide) (by decide) rfl Try.isAgg107 Try.sizeOf107 rfl ?_; clear hs w a; intro a w hs
   refine st_as hs rfl rfl ?_; clear hs w a; intro a w hs
   refine st_as hs rfl rfl ?_; clear hs w a; intro a w hs
   refine wpList_nil ?_
   refine then_n (hK76 _ _ ?_)
   replace hs := hs.sub (F' := [(10, .pointer (some ⟨g15, 6, none⟩)), (9, .int .i64 (4)), (40, .pointer (some ⟨g15, 6, none⟩)), (39, .int .i64 (4)), (38, .bool (true)), (37, .int .i64 (4)), (51, .int .i64 (4)), (36, .agg #[.pointer (some ⟨g15, 2, none⟩), .pointer (some ⟨g15, 3, none⟩), .pointer (some ⟨g15, 4, none⟩), .pointer (some ⟨g15, 5, none⟩), .pointer (some ⟨g15, 6, none⟩), .pointer (some ⟨g15, 7, none⟩)]), (8, .pointer (some ⟨g28, 0, none⟩)), (6, .pointer (some ⟨g15, 0, none⟩)), (5, .bool (false)), (4, .pointer (some ⟨g5, 0, none⟩)), (2, .pointer (some ⟨g3, 0, none⟩))]) (.c rfl (.c rfl (.c rfl (.c rfl (.c rfl (.c rfl (.c rfl (.c rfl (.c rfl (.c rfl (.c rfl (.c rfl (.c rfl .n)))))))))))))
   refine wp_drawG (M0 := [blk g28 [.pointer (some ⟨g25, 2, none⟩), .pointer (some ⟨g25, 3, none⟩), .pointer (some ⟨g25, 4, none⟩), .pointer (some ⟨g25, 5, none⟩), .pointer (some ⟨g25, 6, none⟩), .pointer (some ⟨g25, 7, none⟩)] 108, blk g25 [.int .i64 (0), .int .i64 (0), .int .i64 (ea.p0), .int .i64 (ea.p1), .int .i64 (ea.p2), .int .i64 (ea.v0), .int .i64 (ea.v1), .int .i64 (ea.v2), .int .u16 (0)] 25, blk g5 [.int .i64 (0), .int .i64 (0), .int .i64 (0), .int .i64 (0), .int .i64 (0), .int .i64 (0), .int .i64 (0), .int .i64 (0), .int .u16 (0)] 25, blk g4 [.int .i64 (eb.id), .int .i64 (eb.p0), .int .i64 (eb.p1), .int .i64 (eb.p2), .int .i64 (eb.v0), .int .i64 (eb.v1), .int .i64 (eb.v2), .int .u16 ((((eb.a).toNat : Nat) : Int)), .int .u8 ((((eb.g).toNat : Nat) : Int))] 54, blk g3 [.int .i64 (ea.id), .int .i64 (ea.p0), .int .i64 (ea.p1), .int .i64 (ea.p2), .int .i64 (ea.v0), .int .i64 (ea.v1), .int .i64 (ea.v2), .int .u16 ((((ea.a).toNat : Nat) : Int)), .int .u8 ((((ea.g).toNat : Nat) : Int))] 54]) (Ds := [⟨[], [], [], fun vs77 => vs77 0 = .pointer (some ⟨g15, 6, none⟩), fun vs77 => []⟩, ⟨[], [], [], fun vs77 => vs77 1 = .pointer (some ⟨g15, 6, none⟩), fun vs77 => []⟩, ⟨[], [], [], fun vs77 => vs77 2 = .int .i64 (eb.v1), fun vs77 => []⟩, ⟨[], [], [], fun vs77 => vs77 3 = .int .i64 (4), fun vs77 => []⟩, ⟨[], [], [], fun vs77 => vs77 4 = .pointer (some ⟨g28, 4, none⟩), fun vs77 => []⟩, ⟨[], [], [], fun vs77 => vs77 5 = .pointer (some ⟨g25, 6, none⟩), fun vs77 => []⟩, ⟨[], [], [], fun vs77 => vs77 6 = .pointer (some ⟨g25, 6, none⟩), fun vs77 => []⟩, ⟨[], [], [], fun vs77 => vs77 7 = .int .i64 (ea.v1), fun vs77 => []⟩, ⟨[], [], [], fun vs77 => vs77 8 = .int .i64 (IntKind.i64.wrap (eb.v1 - ea.v1)), fun vs77 => []⟩, ⟨[], [], [], fun vs77 => vs77 9 = .pointer (some ⟨g15, 6, none⟩), fun vs77 => []⟩, ⟨[blk g15 [.int .i64 (1), .int .i64 (eb.id), .int .i64 (IntKind.i64.wrap (eb.p0 - ea.p0)), .int .i64 (IntKind.i64.wrap (eb.p1 - ea.p1)), .int .i64 (IntKind.i64.wrap (eb.p2 - ea.p2)), .int .i64 (IntKind.i64.wrap (eb.v0 - ea.v0)), .int .i64 (eb.v1), .int .i64 (eb.v2), .int .u16 ((((eb.a).toNat : Nat) : Int))] 25], [], [], fun vs77 => True, fun vs77 => [blk g15 [.int .i64 (1), .int .i64 (eb.id), .int .i64 (IntKind.i64.wrap (eb.p0 - ea.p0)), .int .i64 (IntKind.i64.wrap (eb.p1 - ea.p1)), .int .i64 (IntKind.i64.wrap (eb.p2 - ea.p2)), .int .i64 (IntKind.i64.wrap (eb.v0 - ea.v0)), .int .i64 (IntKind.i64.wrap (eb.v1 - ea.v1)), .int .i64 (eb.v2), .int .u16 ((((eb.a).toNat : Nat) : Int))] 25]⟩]) (by kernel_rfl) hs rfl (.c (.s (.s (.s (.s (.s .z))))) .n) (by kernel_rfl) (by kernel_rfl) ?_ ?_
   ·
    refine (.c ?_ (.c ?_ (.c ?_ (.c ?_ (.c ?_ (.c ?_ (.c ?_ (.c ?_ (.c ?_ (.c ?_ (.c ?_ .n)))))))))))
    ·
     intro a_ w_ R_ rest_ vs77 hm hs ht hx
     replace hs : St _ _ _ (feet []) [] _ _ := hs
     have hm0 := hm.mid
     have hs0 := hs.bare
     refine st_mv hs rfl rfl ?_; clear hs; intro a w hs
     exact wpList_nil ⟨rfl, _, _, hs0, .r, hs, rfl⟩
    ·
     intro a_ w_ R_ rest_ vs77 hm hs ht hx
     replace hs : St _ _ _ (feet []) [] _ _ := hs
     have hm0 := hm.mid
     have t0 := ht 0 (twB_spec 11 _ (by kernel_rfl))
     have e0 : _ = some (vs77 0) := t0.val rfl
     rw [show vs77 0 = .pointer (some ⟨g15, 6, none⟩) from t0.2.1] at e0
     replace hs := hs.learn e0
     have hs0 := hs.bare
     refine st_nc hs rfl rfl ?_; clear hs; intro a w hs
     exact wpList_nil ⟨rfl, _, _, hs0, (.c .r), hs, rfl⟩
    ·
     intro a_ w_ R_ rest_ vs77 hm hs ht hx
     replace hs : St _ _ _ (feet []) [] _ _ := hs
     have hm0 := hm.mid
     have t1 := ht 1 (twB_spec 11 _ (by kernel_rfl))
     have e1 : _ = some (vs77 1) := t1.val rfl
     rw [show vs77 1 = .pointer (some ⟨g15, 6, none⟩) from t1.2.1] at e1
     replace hs := hs.learn e1
     have hs0 := hs.bare
     refine st_ldE hs rfl (hm.own (List.mem_append.2 (.inr (hx 10 (twB_spec 11 _ (by kernel_rfl)) _ (List.Mem.head _))))) (.s (.s (.s (.s (.s (.s .z)))))) Try.isAgg2 rfl ?_; clear hs; intro a w hs
     exact wpList_nil ⟨rfl, _, _, hs0, (.c .r), hs, rfl⟩
    ·
     intro a_ w_ R_ rest_ vs77 hm hs ht hx
     replace hs : St _ _ _ (feet []) [] _ _ := hs
     have hm0 := hm.mid
     have hs0 := hs.bare
     refine st_mv hs rfl rfl ?_; clear hs; intro a w hs
     exact wpList_nil ⟨rfl, _, _, hs0, .r, hs, rfl⟩
    ·
     intro a_ w_ R_ rest_ vs77 hm hs ht hx
     replace hs : St _ _ _ (feet []) [] _ _ := hs
     have hm0 := hm.mid
     have t3 := ht 3 (twB_spec 11 _ (by kernel_rfl))
     have e3 : _ = some (vs77 3) := t3.val rfl
     rw [show vs77 3 = .int .i64 (4) from t3.2.1] at e3
     replace hs := hs.learn e3
     have hs0 := hs.bare
     refine st_iaB hs rfl rfl Try.underlying108 (by decide) (by decide) Try.sizeOf107 (o' := 4) rfl rfl ?_; clear hs; intro a w hs
     exact wpList_nil ⟨rfl, _, _, hs0, (.c .r), hs, rfl⟩
    ·
     intro a_ w_ R_ rest_ vs77 hm hs ht hx
     replace hs : St _ _ _ (feet []) [] _ _ := hs
     have hm0 := hm.mid
     have t4 := ht 4 (twB_spec 11 _ (by kernel_rfl))
     have e4 : _ = some (vs77 4) := t4.val rfl
     rw [show vs77 4 = .pointer (some ⟨g28, 4, none⟩) from t4.2.1] at e4
     replace hs := hs.learn e4
     have hs0 := hs.bare
     refine st_ldE hs rfl (hm0.del .z) (.s (.s (.s (.s .z)))) Try.isAgg107 rfl ?_; clear hs; intro a w hs
     exact wpList_nil ⟨rfl, _, _, hs0, (.c .r), hs, rfl⟩
    ·
     intro a_ w_ R_ rest_ vs77 hm hs ht hx
     replace hs : St _ _ _ (feet []) [] _ _ := hs
     have hm0 := hm.mid
     have t5 := ht 5 (twB_spec 11 _ (by kernel_rfl))
     have e5 : _ = some (vs77 5) := t5.val rfl
     rw [show vs77 5 = .pointer (some ⟨g25, 6, none⟩) from t5.2.1] at e5
     replace hs := hs.learn e5
     have hs0 := hs.bare
     refine st_nc hs rfl rfl ?_; clear hs; intro a w hs
     exact wpList_nil ⟨rfl, _, _, hs0, (.c .r), hs, rfl⟩
    ·
     intro a_ w_ R_ rest_ vs77 hm hs ht hx
     replace hs : St _ _ _ (feet []) [] _ _ := hs
     have hm0 := hm.mid
     have t6 := ht 6 (twB_spec 11 _ (by kernel_rfl))
     have e6 : _ = some (vs77 6) := t6.val rfl
     rw [show vs77 6 = .pointer (some ⟨g25, 6, none⟩) from t6.2.1] at e6
     replace hs := hs.learn e6
     have hs0 := hs.bare
     refine st_ldE hs rfl (hm0.del (.s .z)) (.s (.s (.s (.s (.s (.s .z)))))) Try.isAgg2 rfl ?_; clear hs; intro a w hs
     exact wpList_nil ⟨rfl, _, _, hs0, (.c .r), hs, rfl⟩
    ·
     intro a_ w_ R_ rest_ vs77 hm hs ht hx
     replace hs : St _ _ _ (feet []) [] _ _ := hs
     have hm0 := hm.mid
     have t2 := ht 2 (twB_spec 11 _ (by kernel_rfl))
     have e2 : _ = some (vs77 2) := t2.val rfl
     rw [show vs77 2 = .int .i64 (eb.v1) from t2.2.1] at e2
     replace hs := hs.learn e2
     have t7 := ht 7 (twB_spec 11 _ (by kernel_rfl))
     have e7 : _ = some (vs77 7) := t7.val rfl
     rw [show vs77 7 = .int .i64 (ea.v1) from t7.2.1] at e7
     replace hs := hs.learn e7
     have hs0 := hs.bare
     refine st_sub hs rfl rfl rfl ?_; clear hs; intro a w hs
     exact wpList_nil ⟨rfl, _, _, hs0, (.c (.c .r)), hs, rfl⟩
    ·
     intro a_ w_ R_ rest_ vs77 hm hs ht hx
     replace hs : St _ _ _ (feet []) [] _ _ := hs
     have hm0 := hm.mid
     have t0 := ht 0 (twB_spec 11 _ (by kernel_rfl))
     have e0 : _ = some (vs77 0) := t0.val rfl
     rw [show vs77 0 = .pointer (some ⟨g15, 6, none⟩) from t0.2.1] at e0
     replace hs := hs.learn e0
     have hs0 := hs.bare
     refine st_nc hs rfl rfl ?_; clear hs; intro a w hs
     exact wpList_nil ⟨rfl, _, _, hs0, (.c .r), hs, rfl⟩
    intro a_ w_ R_ rest_ vs77 hm hs ht hx
    replace hs : St _ _ _ (feet [blk g15 [.int .i64 (1), .int .i64 (eb.id), .int .i64 (IntKind.i64.wrap (eb.p0 - ea.p0)), .int .i64 (IntKind.i64.wrap (eb.p1 - ea.p1)), .int .i64 (IntKind.i64.wrap (eb.p2 - ea.p2)), .int .i64 (IntKind.i64.wrap (eb.v0 - ea.v0)), .int .i64 (eb.v1), .int .i64 (eb.v2), .int .u16 ((((eb.a).toNat : Nat) : Int))] 25]) [blk g15 [.int .i64 (1), .int .i64 (eb.id), .int .i64 (IntKind.i64.wrap (eb.p0 - ea.p0)), .int .i64 (IntKind.i64.wrap (eb.p1 - ea.p1)), .int .i64 (IntKind.i64.wrap (eb.p2 - ea.p2)), .int .i64 (IntKind.i64.wrap (eb.v0 - ea.v0)), .int .i64 (eb.v1), .int .i64 (eb.v2), .int .u16 ((((eb.a).toNat : Nat) : Int))] 25] _ _ := hs
    have hm0 := hm.mid
    have t8 := ht 8 (twB_spec 11 _ (by kernel_rfl))
    have e8 : _ = some (vs77 8) := t8.val rfl
    rw [show vs77 8 = .int .i64 (IntKind.i64.wrap (eb.v1 - ea.v1)) from t8.2.1] at e8
    replace hs := hs.learn e8
    have t9 := ht 9 (twB_spec 11 _ (by kernel_rfl))
    have e9 : _ = some (vs77 9) := t9.val rfl
    rw [show vs77 9 = .pointer (some ⟨g15, 6, none⟩) from t9.2.1] at e9
    replace hs := hs.learn e9
    have hs0 := hs.bare
    refine st_stB hs rfl rfl .z (.s (.s (.s (.s (.s (.s .z)))))) rfl Try.sizeOf2 ?_; clear hs; intro a w hs
    exact wpList_nil ⟨rfl, .tuple #[], _, hs0, (.c (.c .r)), hs, trivial⟩
   clear hs w a; intro a w vs77 hs hf
   replace hs : St _ _ _ _ [blk g28 [.pointer (some ⟨g25, 2, none⟩), .pointer (some ⟨g25, 3, none⟩), .pointer (some ⟨g25, 4, none⟩), .pointer (some ⟨g25, 5, none⟩), .pointer (some ⟨g25, 6, none⟩), .pointer (some ⟨g25, 7, none⟩)] 108, blk g25 [.int .i64 (0), .int .i64 (0), .int .i64 (ea.p0), .int .i64 (ea.p1), .int .i64 (ea.p2), .int .i64 (ea.v0), .int .i64 (ea.v1), .int .i64 (ea.v2), .int .u16 (0)] 25, blk g5 [.int .i64 (0), .int .i64 (0), .int .i64 (0), .int .i64 (0), .int .i64 (0), .int .i64 (0), .int .i64 (0), .int .i64 (0), .int .u16 (0)] 25, blk g4 [.int .i64 (eb.id), .int .i64 (eb.p0), .int .i64 (eb.p1), .int .i64 (eb.p2), .int .i64 (eb.v0), .int .i64 (eb.v1), .int .i64 (eb.v2), .int .u16 ((((eb.a).toNat : Nat) : Int)), .int .u8 ((((eb.g).toNat : Nat) : Int))] 54, blk g3 [.int .i64 (ea.id), .int .i64 (ea.p0), .int .i64 (ea.p1), .int .i64 (ea.p2), .int .i64 (ea.v0), .int .i64 (ea.v1), .int .i64 (ea.v2), .int .u16 ((((ea.a).toNat : Nat) : Int)), .int .u8 ((((ea.g).toNat : Nat) : Int))] 54, blk g15 [.int .i64 (1), .int .i64 (eb.id), .int .i64 (IntKind.i64.wrap (eb.p0 - ea.p0)), .int .i64 (IntKind.i64.wrap (eb.p1 - ea.p1)), .int .i64 (IntKind.i64.wrap (eb.p2 - ea.p2)), .int .i64 (IntKind.i64.wrap (eb.v0 - ea.v0)), .int .i64 (IntKind.i64.wrap (eb.v1 - ea.v1)), .int .i64 (eb.v2), .int .u16 ((((eb.a).toNat : Nat) : Int))] 25] _ _ := hs
   clear hf
   refine in_n ?_
   refine then_n (hK74 _ _ ?_)
   refine wp_region_lit ?_
   refine st_addR hs rfl rfl (by omega) rfl ?_; clear hs w a; intro a w hs
   rw [show (4 + 1 : Int) = 5 by rfl] at hs
   refine st_mv hs rfl rfl ?_; clear hs w a; intro a w hs
   refine wpList_nil ?_
   refine then_n ?_
   refine rounds_in ?_
   refine wp_seq_k fun K78 hK79 => ?_
   refine wp_region_lit ?_
   refine st_lss hs rfl rfl rfl ?_; clear hs w a; intro a w hs
   rw [show (decide ((5 : Int) < 6)) = true from by decide] at hs
   refine wpList_nil ?_
   refine then_n (hK79 _ _ ?_)
   refine wp_seq_k fun K80 hK81 => ?_
   refine wp_cond_true (hs.ev rfl) ?_
   refine wp_skip ?_
   refine then_n (hK81 _ _ ?_)
   refine wp_seq_k fun K82 hK83 => ?_
   refine wp_block ?_
   refine wp_seq_k fun K84 hK85 => ?_
   refine wp_region_lit ?_
   refine st_mv hs rfl rfl ?_; clear hs w a; intro a w hs
   refine st_ix hs rfl rfl Try.underlying108 (by decide) (by decide) rfl Try.isAgg107 Try.sizeOf107 rfl ?_; clear hs w a; intro a w hs
   refine st_as hs rfl rfl ?_; clear hs w a; intro a w hs
   refine st_as hs rfl rfl ?_; clear hs w a; intro a w hs
   refine wpList_nil ?_
   refine then_n (hK85 _ _ ?_)
   replace hs := hs.sub (F' := [(10, .pointer (some ⟨g15, 7, none⟩)), (9, .int .i64 (5)), (40, .pointer (some ⟨g15, 7, none⟩)), (39, .int .i64 (5)), (38, .bool (true)), (37, .int .i64 (5)), (51, .int .i64 (5)), (36, .agg #[.pointer (some ⟨g15, 2, none⟩), .pointer (some ⟨g15, 3, none⟩), .pointer (some ⟨g15, 4, none⟩), .pointer (some ⟨g15, 5, none⟩), .pointer (some ⟨g15, 6, none⟩), .pointer (some ⟨g15, 7, none⟩)]), (8, .pointer (some ⟨g28, 0, none⟩)), (6, .pointer (some ⟨g15, 0, none⟩)), (5, .bool (false)), (4, .pointer (some ⟨g5, 0, none⟩)), (2, .pointer (some ⟨g3, 0, none⟩))]) (.c rfl (.c rfl (.c rfl (.c rfl (.c rfl (.c rfl (.c rfl (.c rfl (.c rfl (.c rfl (.c rfl (.c rfl (.c rfl .n)))))))))))))
   refine wp_drawG (M0 := [blk g28 [.pointer (some ⟨g25, 2, none⟩), .pointer (some ⟨g25, 3, none⟩), .pointer (some ⟨g25, 4, none⟩), .pointer (some ⟨g25, 5, none⟩), .pointer (some ⟨g25, 6, none⟩), .pointer (some ⟨g25, 7, none⟩)] 108, blk g25 [.int .i64 (0), .int .i64 (0), .int .i64 (ea.p0), .int .i64 (ea.p1), .int .i64 (ea.p2), .int .i64 (ea.v0), .int .i64 (ea.v1), .int .i64 (ea.v2), .int .u16 (0)] 25, blk g5 [.int .i64 (0), .int .i64 (0), .int .i64 (0), .int .i64 (0), .int .i64 (0), .int .i64 (0), .int .i64 (0), .int .i64 (0), .int .u16 (0)] 25, blk g4 [.int .i64 (eb.id), .int .i64 (eb.p0), .int .i64 (eb.p1), .int .i64 (eb.p2), .int .i64 (eb.v0), .int .i64 (eb.v1), .int .i64 (eb.v2), .int .u16 ((((eb.a).toNat : Nat) : Int)), .int .u8 ((((eb.g).toNat : Nat) : Int))] 54, blk g3 [.int .i64 (ea.id), .int .i64 (ea.p0), .int .i64 (ea.p1), .int .i64 (ea.p2), .int .i64 (ea.v0), .int .i64 (ea.v1), .int .i64 (ea.v2), .int .u16 ((((ea.a).toNat : Nat) : Int)), .int .u8 ((((ea.g).toNat : Nat) : Int))] 54]) (Ds := [⟨[], [], [], fun vs86 => vs86 0 = .pointer (some ⟨g15, 7, none⟩), fun vs86 => []⟩, ⟨[], [], [], fun vs86 => vs86 1 = .pointer (some ⟨g15, 7, none⟩), fun vs86 => []⟩, ⟨[], [], [], fun vs86 => vs86 2 = .int .i64 (eb.v2), fun vs86 => []⟩, ⟨[], [], [], fun vs86 => vs86 3 = .int .i64 (5), fun vs86 => []⟩, ⟨[], [], [], fun vs86 => vs86 4 = .pointer (some ⟨g28, 5, none⟩), fun vs86 => []⟩, ⟨[], [], [], fun vs86 => vs86 5 = .pointer (some ⟨g25, 7, none⟩), fun vs86 => []⟩, ⟨[], [], [], fun vs86 => vs86 6 = .pointer (some ⟨g25, 7, none⟩), fun vs86 => []⟩, ⟨[], [], [], fun vs86 => vs86 7 = .int .i64 (ea.v2), fun vs86 => []⟩, ⟨[], [], [], fun vs86 => vs86 8 = .int .i64 (IntKind.i64.wrap (eb.v2 - ea.v2)), fun vs86 => []⟩, ⟨[], [], [], fun vs86 => vs86 9 = .pointer (some ⟨g15, 7, none⟩), fun vs86 => []⟩, ⟨[blk g15 [.int .i64 (1), .int .i64 (eb.id), .int .i64 (IntKind.i64.wrap (eb.p0 - ea.p0)), .int .i64 (IntKind.i64.wrap (eb.p1 - ea.p1)), .int .i64 (IntKind.i64.wrap (eb.p2 - ea.p2)), .int .i64 (IntKind.i64.wrap (eb.v0 - ea.v0)), .int .i64 (IntKind.i64.wrap (eb.v1 - ea.v1)), .int .i64 (eb.v2), .int .u16 ((((eb.a).toNat : Nat) : Int))] 25], [], [], fun vs86 => True, fun vs86 => [blk g15 [.int .i64 (1), .int .i64 (eb.id), .int .i64 (IntKind.i64.wrap (eb.p0 - ea.p0)), .int .i64 (IntKind.i64.wrap (eb.p1 - ea.p1)), .int .i64 (IntKind.i64.wrap (eb.p2 - ea.p2)), .int .i64 (IntKind.i64.wrap (eb.v0 - ea.v0)), .int .i64 (IntKind.i64.wrap (eb.v1 - ea.v1)), .int .i64 (IntKind.i64.wrap (eb.v2 - ea.v2)), .int .u16 ((((eb.a).toNat : Nat) : Int))] 25]⟩]) (by kernel_rfl) hs rfl (.c (.s (.s (.s (.s (.s .z))))) .n) (by kernel_rfl) (by kernel_rfl) ?_ ?_
   ·
    refine (.c ?_ (.c ?_ (.c ?_ (.c ?_ (.c ?_ (.c ?_ (.c ?_ (.c ?_ (.c ?_ (.c ?_ (.c ?_ .n)))))))))))
    ·
     intro a_ w_ R_ rest_ vs86 hm hs ht hx
     replace hs : St _ _ _ (feet []) [] _ _ := hs
     have hm0 := hm.mid
     have hs0 := hs.bare
     refine st_mv hs rfl rfl ?_; clear hs; intro a w hs
     exact wpList_nil ⟨rfl, _, _, hs0, .r, hs, rfl⟩
    ·
     intro a_ w_ R_ rest_ vs86 hm hs ht hx
     replace hs : St _ _ _ (feet []) [] _ _ := hs
     have hm0 := hm.mid
     have t0 := ht 0 (twB_spec 11 _ (by kernel_rfl))
     have e0 : _ = some (vs86 0) := t0.val rfl
     rw [show vs86 0 = .pointer (some ⟨g15, 7, none⟩) from t0.2.1] at e0
     replace hs := hs.learn e0
     have hs0 := hs.bare
     refine st_nc hs rfl rfl ?_; clear hs; intro a w hs
     exact wpList_nil ⟨rfl, _, _, hs0, (.c .r), hs, rfl⟩
    ·
     intro a_ w_ R_ rest_ vs86 hm hs ht hx
     replace hs : St _ _ _ (feet []) [] _ _ := hs
     have hm0 := hm.mid
     have t1 := ht 1 (twB_spec 11 _ (by kernel_rfl))
     have e1 : _ = some (vs86 1) := t1.val rfl
     rw [show vs86 1 = .pointer (some ⟨g15, 7, none⟩) from t1.2.1] at e1
     replace hs := hs.learn e1
     have hs0 := hs.bare
     refine st_ldE hs rfl (hm.own (List.mem_append.2 (.inr (hx 10 (twB_spec 11 _ (by kernel_rfl)) _ (List.Mem.head _))))) (.s (.s (.s (.s (.s (.s (.s .z))))))) Try.isAgg2 rfl ?_; clear hs; intro a w hs
     exact wpList_nil ⟨rfl, _, _, hs0, (.c .r), hs, rfl⟩
    ·
     intro a_ w_ R_ rest_ vs86 hm hs ht hx
     replace hs : St _ _ _ (feet []) [] _ _ := hs
     have hm0 := hm.mid
     have hs0 := hs.bare
     refine st_mv hs rfl rfl ?_; clear hs; intro a w hs
     exact wpList_nil ⟨rfl, _, _, hs0, .r, hs, rfl⟩
    ·
     intro a_ w_ R_ rest_ vs86 hm hs ht hx
     replace hs : St _ _ _ (feet []) [] _ _ := hs
     have hm0 := hm.mid
     have t3 := ht 3 (twB_spec 11 _ (by kernel_rfl))
     have e3 : _ = some (vs86 3) := t3.val rfl
     rw [show vs86 3 = .int .i64 (5) from t3.2.1] at e3
     replace hs := hs.learn e3
     have hs0 := hs.bare
     refine st_iaB hs rfl rfl Try.underlying108 (by decide) (by decide) Try.sizeOf107 (o' := 5) rfl rfl ?_; clear hs; intro a w hs
     exact wpList_nil ⟨rfl, _, _, hs0, (.c .r), hs, rfl⟩
    ·
     intro a_ w_ R_ rest_ vs86 hm hs ht hx
     replace hs : St _ _ _ (feet []) [] _ _ := hs
     have hm0 := hm.mid
     have t4 := ht 4 (twB_spec 11 _ (by kernel_rfl))
     have e4 : _ = some (vs86 4) := t4.val rfl
     rw [show vs86 4 = .pointer (some ⟨g28, 5, none⟩) from t4.2.1] at e4
     replace hs := hs.learn e4
     have hs0 := hs.bare
     refine st_ldE hs rfl (hm0.del .z) (.s (.s (.s (.s (.s .z))))) Try.isAgg107 rfl ?_; clear hs; intro a w hs
     exact wpList_nil ⟨rfl, _, _, hs0, (.c .r), hs, rfl⟩
    ·
     intro a_ w_ R_ rest_ vs86 hm hs ht hx
     replace hs : St _ _ _ (feet []) [] _ _ := hs
     have hm0 := hm.mid
     have t5 := ht 5 (twB_spec 11 _ (by kernel_rfl))
     have e5 : _ = some (vs86 5) := t5.val rfl
     rw [show vs86 5 = .pointer (some ⟨g25, 7, none⟩) from t5.2.1] at e5
     replace hs := hs.learn e5
     have hs0 := hs.bare
     refine st_nc hs rfl rfl ?_; clear hs; intro a w hs
     exact wpList_nil ⟨rfl, _, _, hs0, (.c .r), hs, rfl⟩
    ·
     intro a_ w_ R_ rest_ vs86 hm hs ht hx
     replace hs : St _ _ _ (feet []) [] _ _ := hs
     have hm0 := hm.mid
     have t6 := ht 6 (twB_spec 11 _ (by kernel_rfl))
     have e6 : _ = some (vs86 6) := t6.val rfl
     rw [show vs86 6 = .pointer (some ⟨g25, 7, none⟩) from t6.2.1] at e6
     replace hs := hs.learn e6
     have hs0 := hs.bare
     refine st_ldE hs rfl (hm0.del (.s .z)) (.s (.s (.s (.s (.s (.s (.s .z))))))) Try.isAgg2 rfl ?_; clear hs; intro a w hs
     exact wpList_nil ⟨rfl, _, _, hs0, (.c .r), hs, rfl⟩
    ·
     intro a_ w_ R_ rest_ vs86 hm hs ht hx
     replace hs : St _ _ _ (feet []) [] _ _ := hs
     have hm0 := hm.mid
     have t2 := ht 2 (twB_spec 11 _ (by kernel_rfl))
     have e2 : _ = some (vs86 2) := t2.val rfl
     rw [show vs86 2 = .int .i64 (eb.v2) from t2.2.1] at e2
     replace hs := hs.learn e2
     have t7 := ht 7 (twB_spec 11 _ (by kernel_rfl))
     have e7 : _ = some (vs86 7) := t7.val rfl
     rw [show vs86 7 = .int .i64 (ea.v2) from t7.2.1] at e7
     replace hs := hs.learn e7
     have hs0 := hs.bare
     refine st_sub hs rfl rfl rfl ?_; clear hs; intro a w hs
     exact wpList_nil ⟨rfl, _, _, hs0, (.c (.c .r)), hs, rfl⟩
    ·
     intro a_ w_ R_ rest_ vs86 hm hs ht hx
     replace hs : St _ _ _ (feet []) [] _ _ := hs
     have hm0 := hm.mid
     have t0 := ht 0 (twB_spec 11 _ (by kernel_rfl))
     have e0 : _ = some (vs86 0) := t0.val rfl
     rw [show vs86 0 = .pointer (some ⟨g15, 7, none⟩) from t0.2.1] at e0
     replace hs := hs.learn e0
     have hs0 := hs.bare
     refine st_nc hs rfl rfl ?_; clear hs; intro a w hs
     exact wpList_nil ⟨rfl, _, _, hs0, (.c .r), hs, rfl⟩
    intro a_ w_ R_ rest_ vs86 hm hs ht hx
    replace hs : St _ _ _ (feet [blk g15 [.int .i64 (1), .int .i64 (eb.id), .int .i64 (IntKind.i64.wrap (eb.p0 - ea.p0)), .int .i64 (IntKind.i64.wrap (eb.p1 - ea.p1)), .int .i64 (IntKind.i64.wrap (eb.p2 - ea.p2)), .int .i64 (IntKind.i64.wrap (eb.v0 - ea.v0)), .int .i64 (IntKind.i64.wrap (eb.v1 - ea.v1)), .int .i64 (eb.v2), .int .u16 ((((eb.a).toNat : Nat) : Int))] 25]) [blk g15 [.int .i64 (1), .int .i64 (eb.id), .int .i64 (IntKind.i64.wrap (eb.p0 - ea.p0)), .int .i64 (IntKind.i64.wrap (eb.p1 - ea.p1)), .int .i64 (IntKind.i64.wrap (eb.p2 - ea.p2)), .int .i64 (IntKind.i64.wrap (eb.v0 - ea.v0)), .int .i64 (IntKind.i64.wrap (eb.v1 - ea.v1)), .int .i64 (eb.v2), .int .u16 ((((eb.a).toNat : Nat) : Int))] 25] _ _ := hs
    have hm0 := hm.mid
    have t8 := ht 8 (twB_spec 11 _ (by kernel_rfl))
    have e8 : _ = some (vs86 8) := t8.val rfl
    rw [show vs86 8 = .int .i64 (IntKind.i64.wrap (eb.v2 - ea.v2)) from t8.2.1] at e8
    replace hs := hs.learn e8
    have t9 := ht 9 (twB_spec 11 _ (by kernel_rfl))
    have e9 : _ = some (vs86 9) := t9.val rfl
    rw [show vs86 9 = .pointer (some ⟨g15, 7, none⟩) from t9.2.1] at e9
    replace hs := hs.learn e9
    have hs0 := hs.bare
    refine st_stB hs rfl rfl .z (.s (.s (.s (.s (.s (.s (.s .z))))))) rfl Try.sizeOf2 ?_; clear hs; intro a w hs
    exact wpList_nil ⟨rfl, .tuple #[], _, hs0, (.c (.c .r)), hs, trivial⟩
   clear hs w a; intro a w vs86 hs hf
   replace hs : St _ _ _ _ [blk g28 [.pointer (some ⟨g25, 2, none⟩), .pointer (some ⟨g25, 3, none⟩), .pointer (some ⟨g25, 4, none⟩), .pointer (some ⟨g25, 5, none⟩), .pointer (some ⟨g25, 6, none⟩), .pointer (some ⟨g25, 7, none⟩)] 108, blk g25 [.int .i64 (0), .int .i64 (0), .int .i64 (ea.p0), .int .i64 (ea.p1), .int .i64 (ea.p2), .int .i64 (ea.v0), .int .i64 (ea.v1), .int .i64 (ea.v2), .int .u16 (0)] 25, blk g5 [.int .i64 (0), .int .i64 (0), .int .i64 (0), .int .i64 (0), .int .i64 (0), .int .i64 (0), .int .i64 (0), .int .i64 (0), .int .u16 (0)] 25, blk g4 [.int .i64 (eb.id), .int .i64 (eb.p0), .int .i64 (eb.p1), .int .i64 (eb.p2), .int .i64 (eb.v0), .int .i64 (eb.v1), .int .i64 (eb.v2), .int .u16 ((((eb.a).toNat : Nat) : Int)), .int .u8 ((((eb.g).toNat : Nat) : Int))] 54, blk g3 [.int .i64 (ea.id), .int .i64 (ea.p0), .int .i64 (ea.p1), .int .i64 (ea.p2), .int .i64 (ea.v0), .int .i64 (ea.v1), .int .i64 (ea.v2), .int .u16 ((((ea.a).toNat : Nat) : Int)), .int .u8 ((((ea.g).toNat : Nat) : Int))] 54, blk g15 [.int .i64 (1), .int .i64 (eb.id), .int .i64 (IntKind.i64.wrap (eb.p0 - ea.p0)), .int .i64 (IntKind.i64.wrap (eb.p1 - ea.p1)), .int .i64 (IntKind.i64.wrap (eb.p2 - ea.p2)), .int .i64 (IntKind.i64.wrap (eb.v0 - ea.v0)), .int .i64 (IntKind.i64.wrap (eb.v1 - ea.v1)), .int .i64 (IntKind.i64.wrap (eb.v2 - ea.v2)), .int .u16 ((((eb.a).toNat : Nat) : Int))] 25] _ _ := hs
   clear hf
   refine in_n ?_
   refine then_n (hK83 _ _ ?_)
   refine wp_region_lit ?_
   refine st_addR hs rfl rfl (by omega) rfl ?_; clear hs w a; intro a w hs
   rw [show (5 + 1 : Int) = 6 by rfl] at hs
   refine st_mv hs rfl rfl ?_; clear hs w a; intro a w hs
   refine wpList_nil ?_
   refine then_n ?_
   refine rounds_in ?_
   refine wp_seq_k fun K87 hK88 => ?_
   refine wp_region_lit ?_
   refine st_lss hs rfl rfl rfl ?_; clear hs w a; intro a w hs
   rw [show (decide ((6 : Int) < 6)) = false from by decide] at hs
   refine wpList_nil ?_
   refine then_n (hK88 _ _ ?_)
   refine wp_seq_k fun K89 hK90 => ?_
   refine wp_cond_false (hs.ev rfl) ?_
   refine wp_exit ?_
   refine th_e ?_
   refine th_e ?_
   refine in_hit ?_
   refine then_n (hK30 _ _ ?_)
   refine wp_region_lit ?_
   refine st_fa hs rfl Try.underlying25 rfl Try.sizeOf23 (by decide) (o := 8) rfl rfl ?_; clear hs w a; intro a w hs
   refine st_ldB hs rfl (.s (.s (.s (.s (.s .z))))) (.s (.s (.s (.s (.s (.s (.s (.s .z)))))))) Try.isAgg23 rfl ?_; clear hs w a; intro a w hs
   refine st_fa hs rfl Try.underlying54 rfl Try.sizeOf23 (by decide) (o := 7) rfl rfl ?_; clear hs w a; intro a w hs
   refine st_ldB hs rfl (.s (.s (.s (.s .z)))) (.s (.s (.s (.s (.s (.s (.s .z))))))) Try.isAgg23 rfl ?_; clear hs w a; intro a w hs
   refine st_sub_u16 (X := eb.a) (Y := ea.a) hs rfl rfl rfl rfl rfl ?_; clear hs w a; intro a w hs
   refine st_fa hs rfl Try.underlying25 rfl Try.sizeOf23 (by decide) (o := 8) rfl rfl ?_; clear hs w a; intro a w hs
   refine st_stB hs rfl rfl (.s (.s (.s (.s (.s .z))))) (.s (.s (.s (.s (.s (.s (.s (.s .z)))))))) rfl Try.sizeOf23 ?_; clear hs w a; intro a w hs
   refine wpList_nil ?_
   refine then_n (hK17 _ _ ?_)
   refine wp_seq_k fun K91 hK92 => ?_
   refine wp_region_lit ?_
   refine st_ldBA hs rfl .z (.z (.c (.c (.c (.c (.c (.c (.c (.c (.c .n)))))))))) Try.isAgg25 Try.sizeOf25 rfl ?_; clear hs w a; intro a w hs
   refine st_stBA hs rfl rfl (.s (.s (.s .z))) (.z (.c (.c (.c (.c (.c (.c (.c (.c (.c .n)))))))))) (ones_c rfl (ones_c rfl (ones_c rfl (ones_c rfl (ones_c rfl (ones_c rfl (ones_c rfl (ones_c rfl (ones_c rfl ones_n))))))))) Try.sizeOf25 rfl ?_; clear hs w a; intro a w hs
   refine st_as hs rfl rfl ?_; clear hs w a; intro a w hs
   refine wpList_nil ?_
   refine then_n (hK92 _ _ ?_)
   refine wp_ret ?_
   exact finC2 hs rfl rfl rfl .z (.z (.c (.c (.c (.c (.c (.c (.c (.c (.c .n)))))))))) Try.isAgg25 Try.sizeOf25 (.c .z (.c .z (.c .z (.c .z (.c .z (.c .z .n)))))) (by first | (rw [recDiff_eq (by assumption)]; exact ⟨rfl, rfl⟩) | (rw [recDiff_upd (by assumption) (by omega)]; exact ⟨rfl, rfl⟩) | (rw [recDiff_tel (by assumption) (by omega)]; exact ⟨rfl, rfl⟩))
  replace hc20 := ne_of_beq_f hc20
  refine wp_skip ?_
  refine then_n (hK17 _ _ ?_)
  refine wp_seq_k fun K93 hK94 => ?_
  refine wp_region_lit ?_
  refine st_ldBA hs rfl .z (.z (.c (.c (.c (.c (.c (.c (.c (.c (.c .n)))))))))) Try.isAgg25 Try.sizeOf25 rfl ?_; clear hs w a; intro a w hs
  refine st_stBA hs rfl rfl (.s .z) (.z (.c (.c (.c (.c (.c (.c (.c (.c (.c .n)))))))))) (ones_c rfl (ones_c rfl (ones_c rfl (ones_c rfl (ones_c rfl (ones_c rfl (ones_c rfl (ones_c rfl (ones_c rfl ones_n))))))))) Try.sizeOf25 rfl ?_; clear hs w a; intro a w hs
  refine st_as hs rfl rfl ?_; clear hs w a; intro a w hs
  refine wpList_nil ?_
  refine then_n (hK94 _ _ ?_)
  refine wp_ret ?_
  exact finC2 hs rfl rfl rfl .z (.z (.c (.c (.c (.c (.c (.c (.c (.c (.c .n)))))))))) Try.isAgg25 Try.sizeOf25 (.c .z (.c .z (.c .z (.c .z .n)))) (by first | (rw [recDiff_eq (by assumption)]; exact ⟨rfl, rfl⟩) | (rw [recDiff_upd (by assumption) (by omega)]; exact ⟨rfl, rfl⟩) | (rw [recDiff_tel (by assumption) (by omega)]; exact ⟨rfl, rfl⟩))
theorem apply_ok (ea : EntR) (r : RecR) (w0 : World) : Calls Try.prog 32 #[.agg #[.int .i64 (ea.id), .int .i64 (ea.p0), .int .i64 (ea.p1), .int .i64 (ea.p2), .int .i64 (ea.v0), .int .i64 (ea.v1), .int .i64 (ea.v2), .int .u16 ((((ea.a).toNat : Nat) : Int)), .int .u8 ((((ea.g).toNat : Nat) : Int))], .agg #[.int .i64 (r.k), .int .i64 (r.id), .int .i64 (r.p0), .int .i64 (r.p1), .int .i64 (r.p2), .int .i64 (r.v0), .int .i64 (r.v1), .int .i64 (r.v2), .int .u16 ((((r.a).toNat : Nat) : Int))]] w0 (RetV w0 (.tuple #[.agg #[.int .i64 (((entApply ea r).1).id), .int .i64 (((entApply ea r).1).p0), .int .i64 (((entApply ea r).1).p1), .int .i64 (((entApply ea r).1).p2), .int .i64 (((entApply ea r).1).v0), .int .i64 (((entApply ea r).1).v1), .int .i64 (((entApply ea r).1).v2), .int .u16 ((((((entApply ea r).1).a).toNat : Nat) : Int)), .int .u8 ((((((entApply ea r).1).g).toNat : Nat) : Int))], .int .i64 (((entApply ea r).2 : Nat) : Int)])) := by
  refine enter (F0 := [(0, .agg #[.int .i64 (ea.id), .int .i64 (ea.p0), .int .i64 (ea.p1), .int .i64 (ea.p2), .int .i64 (ea.v0), .int .i64 (ea.v1), .int .i64 (ea.v2), .int .u16 ((((ea.a).toNat : Nat) : Int)), .int .u8 ((((ea.g).toNat : Nat) : Int))]), (1, .agg #[.int .i64 (r.k), .int .i64 (r.id), .int .i64 (r.p0), .int .i64 (r.p1), .int .i64 (r.p2), .int .i64 (r.v0), .int .i64 (r.v1), .int .i64 (r.v2), .int .u16 ((((r.a).toNat : Nat) : Int))])]) Try.func32 rfl rfl rfl (.c (.c .n)) (Mem.nil _) fun a w hs => ?_
  refine wp_seq_k fun K1 hK2 => ?_
  refine wp_region_lit ?_
  refine st_box (cs := [.int .i64 (ea.id), .int .i64 (ea.p0), .int .i64 (ea.p1), .int .i64 (ea.p2), .int .i64 (ea.v0), .int .i64 (ea.v1), .int .i64 (ea.v2), .int .u16 ((((ea.a).toNat : Nat) : Int)), .int .u8 ((((ea.g).toNat : Nat) : Int))]) hs rfl rfl rfl ?_; clear hs w a; intro g3 a w hs
  refine st_box (cs := [.int .i64 (r.k), .int .i64 (r.id), .int .i64 (r.p0), .int .i64 (r.p1), .int .i64 (r.p2), .int .i64 (r.v0), .int .i64 (r.v1), .int .i64 (r.v2), .int .u16 ((((r.a).toNat : Nat) : Int))]) hs rfl rfl rfl ?_; clear hs w a; intro g4 a w hs
  refine st_alloc (cs := [.int .i64 (0), .int .i64 (0), .int .i64 (0), .int .i64 (0), .int .i64 (0), .int .i64 (0), .int .i64 (0), .int .u16 (0), .int .u8 (0)]) hs Try.zeroValue54 rfl rfl ?_; clear hs w a; intro g5 a w hs
  refine st_as hs rfl rfl ?_; clear hs w a; intro a w hs
  refine wpList_nil ?_
  refine then_n (hK2 _ _ ?_)
  refine wp_seq_k fun K6 hK7 => ?_
  refine wp_seq_k fun K8 hK9 => ?_
  refine wp_region_lit ?_
  refine st_ldBA hs rfl (.s .z) (.z (.c (.c (.c (.c (.c (.c (.c (.c (.c .n)))))))))) Try.isAgg25 Try.sizeOf25 rfl ?_; clear hs w a; intro a w hs
  refine st_callP (v := .int .i64 (((recChk r : Nat) : Int))) hs (.c rfl .n) Try.call21 (chk_ok r _) rfl ?_; clear hs w a; intro a w hs
  refine st_as hs rfl rfl ?_; clear hs w a; intro a w hs
  refine wpList_nil ?_
  refine then_n (hK9 _ _ ?_)
  refine wp_seq_k fun K10 hK11 => ?_
  refine wp_region_lit ?_
  refine st_mv hs rfl rfl ?_; clear hs w a; intro a w hs
  refine st_neq hs rfl rfl rfl ?_; clear hs w a; intro a w hs
  refine wpList_nil ?_
  refine then_n (hK11 _ _ ?_)
  refine wp_if hs rfl (fun hc12 => ?_) (fun hc12 => ?_)
  ·
   replace hc12 := not_t hc12
   replace hc12 := ne_of_beq_f hc12
   refine wp_seq_k fun K13 hK14 => ?_
   refine wp_region_lit ?_
   refine st_build (it := Try.t54) (zs := [.int .i64 (0), .int .i64 (0), .int .i64 (0), .int .i64 (0), .int .i64 (0), .int .i64 (0), .int .i64 (0), .int .u16 (0), .int .u8 (0)]) (places := [(0, 1), (1, 3), (4, 3), (7, 1), (8, 1)]) hs .n Try.underlying54 rfl rfl rfl rfl .n rfl ?_; clear hs w a; intro a w hs
   refine st_mv hs rfl rfl ?_; clear hs w a; intro a w hs
   refine st_stBA hs rfl rfl .z (.z (.c (.c (.c (.c (.c (.c (.c (.c (.c .n)))))))))) (ones_c rfl (ones_c rfl (ones_c rfl (ones_c rfl (ones_c rfl (ones_c rfl (ones_c rfl (ones_c rfl (ones_c rfl ones_n))))))))) Try.sizeOf54 rfl ?_; clear hs w a; intro a w hs
   refine st_as hs rfl rfl ?_; clear hs w a; intro a w hs
   refine wpList_nil ?_
   refine then_n (hK14 _ _ ?_)
   refine wp_ret ?_
   refine th_r ?_
   exact finC2 hs rfl rfl rfl .z (.z (.c (.c (.c (.c (.c (.c (.c (.c (.c .n)))))))))) Try.isAgg54 Try.sizeOf54 (.c .z (.c .z (.c .z .n))) (by first | (rw [entApply_chk (by omega)]; exact ⟨rfl, rfl⟩) | (rw [entApply_no (by omega) (by omega)]; exact ⟨rfl, rfl⟩) | (rw [entApply_tel (by omega) (by omega) (by omega)]; exact ⟨rfl, rfl⟩) | (rw [entApply_upd (by omega) (by omega) (by omega)]; exact ⟨rfl, rfl⟩))
  replace hc12 := not_f hc12
  replace hc12 := eq_of_beq hc12
  refine wp_skip ?_
  refine then_n (hK7 _ _ ?_)
  refine wp_seq_k fun K15 hK16 => ?_
  refine wp_block ?_
  refine wp_seq_k fun K17 hK18 => ?_
  refine wp_region_lit ?_
  refine st_fa hs rfl Try.underlying25 rfl Try.sizeOf3 (by decide) (o := 1) rfl rfl ?_; clear hs w a; intro a w hs
  refine st_ldB hs rfl (.s .z) (.s .z) Try.isAgg3 rfl ?_; clear hs w a; intro a w hs
  refine st_fa hs rfl Try.underlying54 rfl Try.sizeOf3 (by decide) (o := 0) rfl rfl ?_; clear hs w a; intro a w hs
  refine st_ldB hs rfl (.s (.s .z)) .z Try.isAgg3 rfl ?_; clear hs w a; intro a w hs
  refine st_neq hs rfl rfl rfl ?_; clear hs w a; intro a w hs
  refine st_mv hs rfl rfl ?_; clear hs w a; intro a w hs
  refine st_part (b := !((r.id : Int) == ea.id)) (fun hc19 => ?_) (fun hc19 => ?_)
  ·
   rw [hc19] at hs
   replace hc19 := not_t hc19
   replace hc19 := ne_of_beq_f hc19
   refine st_guardF hs rfl rfl rfl rfl rfl ?_; clear hs w a; intro a w hs
   refine st_guardF hs rfl rfl rfl rfl rfl ?_; clear hs w a; intro a w hs
   refine st_guardF hs rfl rfl rfl rfl rfl ?_; clear hs w a; intro a w hs
   refine st_pickT hs rfl rfl rfl ?_; clear hs w a; intro a w hs
   refine st_mv hs rfl rfl ?_; clear hs w a; intro a w hs
   refine st_guardF hs rfl rfl rfl rfl rfl ?_; clear hs w a; intro a w hs
   refine st_guardF hs rfl rfl rfl rfl rfl ?_; clear hs w a; intro a w hs
   refine st_guardF hs rfl rfl rfl rfl rfl ?_; clear hs w a; intro a w hs
   refine st_pickT hs rfl rfl rfl ?_; clear hs w a; intro a w hs
   refine st_as hs rfl rfl ?_; clear hs w a; intro a w hs
   refine wpList_nil ?_
   refine then_n (hK18 _ _ ?_)
   refine wp_cond_true (hs.ev rfl) ?_
   refine wp_seq_k fun K20 hK21 => ?_
   refine wp_region_lit ?_
   refine st_build (it := Try.t54) (zs := [.int .i64 (0), .int .i64 (0), .int .i64 (0), .int .i64 (0), .int .i64 (0), .int .i64 (0), .int .i64 (0), .int .u16 (0), .int .u8 (0)]) (places := [(0, 1), (1, 3), (4, 3), (7, 1), (8, 1)]) hs .n Try.underlying54 rfl rfl rfl rfl .n rfl ?_; clear hs w a; intro a w hs
   refine st_stBA hs rfl rfl .z (.z (.c (.c (.c (.c (.c (.c (.c (.c (.c .n)))))))))) (ones_c rfl (ones_c rfl (ones_c rfl (ones_c rfl (ones_c rfl (ones_c rfl (ones_c rfl (ones_c rfl (ones_c rfl ones_n))))))))) Try.sizeOf54 rfl ?_; clear hs w a; intro a w hs
   refine st_as hs rfl rfl ?_; clear hs w a; intro a w hs
   refine wpList_nil ?_
   refine then_n (hK21 _ _ ?_)
   refine wp_ret ?_
   refine in_r ?_
   refine th_r ?_
   exact finC2 hs rfl rfl rfl .z (.z (.c (.c (.c (.c (.c (.c (.c (.c (.c .n)))))))))) Try.isAgg54 Try.sizeOf54 (.c .z (.c .z (.c .z .n))) (by first | (rw [entApply_chk (by omega)]; exact ⟨rfl, rfl⟩) | (rw [entApply_no (by omega) (by omega)]; exact ⟨rfl, rfl⟩) | (rw [entApply_tel (by omega) (by omega) (by omega)]; exact ⟨rfl, rfl⟩) | (rw [entApply_upd (by omega) (by omega) (by omega)]; exact ⟨rfl, rfl⟩))
  rw [hc19] at hs
  replace hc19 := not_f hc19
  replace hc19 := eq_of_beq hc19
  refine st_guardT hs rfl rfl rfl ?_
  refine st_fa hs rfl Try.underlying25 rfl Try.sizeOf3 (by decide) (o := 0) rfl rfl ?_; clear hs w a; intro a w hs
  refine st_guardT hs rfl rfl rfl ?_
  refine st_ldB hs rfl (.s .z) .z Try.isAgg3 rfl ?_; clear hs w a; intro a w hs
  refine st_guardT hs rfl rfl rfl ?_
  refine st_eql hs rfl rfl rfl ?_; clear hs w a; intro a w hs
  refine st_pickF hs rfl rfl rfl ?_; clear hs w a; intro a w hs
  refine st_mv hs rfl rfl ?_; clear hs w a; intro a w hs
  refine st_part (b := (r.k : Int) == 0) (fun hc22 => ?_) (fun hc22 => ?_)
  ·
   rw [hc22] at hs
   replace hc22 := eq_of_beq hc22
   refine st_guardF hs rfl rfl rfl rfl rfl ?_; clear hs w a; intro a w hs
   refine st_guardF hs rfl rfl rfl rfl rfl ?_; clear hs w a; intro a w hs
   refine st_guardF hs rfl rfl rfl rfl rfl ?_; clear hs w a; intro a w hs
   refine st_pickT hs rfl rfl rfl ?_; clear hs w a; intro a w hs
   refine st_as hs rfl rfl ?_; clear hs w a; intro a w hs
   refine wpList_nil ?_
   refine then_n (hK18 _ _ ?_)
   refine wp_cond_true (hs.ev rfl) ?_
   refine wp_seq_k fun K23 hK24 => ?_
   refine wp_region_lit ?_
   refine st_build (it := Try.t54) (zs := [.int .i64 (0), .int .i64 (0), .int .i64 (0), .int .i64 (0), .int .i64 (0), .int .i64 (0), .int .i64 (0), .int .u16 (0), .int .u8 (0)]) (places := [(0, 1), (1, 3), (4, 3), (7, 1), (8, 1)]) hs .n Try.underlying54 rfl rfl rfl rfl .n rfl ?_; clear hs w a; intro a w hs
   refine st_stBA hs rfl rfl .z (.z (.c (.c (.c (.c (.c (.c (.c (.c (.c .n)))))))))) (ones_c rfl (ones_c rfl (ones_c rfl (ones_c rfl (ones_c rfl (ones_c rfl (ones_c rfl (ones_c rfl (ones_c rfl ones_n))))))))) Try.sizeOf54 rfl ?_; clear hs w a; intro a w hs
   refine st_as hs rfl rfl ?_; clear hs w a; intro a w hs
   refine wpList_nil ?_
   refine then_n (hK24 _ _ ?_)
   refine wp_ret ?_
   refine in_r ?_
   refine th_r ?_
   exact finC2 hs rfl rfl rfl .z (.z (.c (.c (.c (.c (.c (.c (.c (.c (.c .n)))))))))) Try.isAgg54 Try.sizeOf54 (.c .z (.c .z (.c .z .n))) (by first | (rw [entApply_chk (by omega)]; exact ⟨rfl, rfl⟩) | (rw [entApply_no (by omega) (by omega)]; exact ⟨rfl, rfl⟩) | (rw [entApply_tel (by omega) (by omega) (by omega)]; exact ⟨rfl, rfl⟩) | (rw [entApply_upd (by omega) (by omega) (by omega)]; exact ⟨rfl, rfl⟩))
  rw [hc22] at hs
  replace hc22 := ne_of_beq_f hc22
  refine st_guardT hs rfl rfl rfl ?_
  refine st_fa hs rfl Try.underlying25 rfl Try.sizeOf3 (by decide) (o := 0) rfl rfl ?_; clear hs w a; intro a w hs
  refine st_guardT hs rfl rfl rfl ?_
  refine st_ldB hs rfl (.s .z) .z Try.isAgg3 rfl ?_; clear hs w a; intro a w hs
  refine st_guardT hs rfl rfl rfl ?_
  refine st_eql hs rfl rfl rfl ?_; clear hs w a; intro a w hs
  refine st_pickF hs rfl rfl rfl ?_; clear hs w a; intro a w hs
  refine st_as hs rfl rfl ?_; clear hs w a; intro a w hs
  refine wpList_nil ?_
  refine then_n (hK18 _ _ ?_)
  refine wp_if hs rfl (fun hc25 => ?_) (fun hc25 => ?_)
  ·
   replace hc25 := eq_of_beq hc25
   refine wp_seq_k fun K26 hK27 => ?_
   refine wp_region_lit ?_
   refine st_build (it := Try.t54) (zs := [.int .i64 (0), .int .i64 (0), .int .i64 (0), .int .i64 (0), .int .i64 (0), .int .i64 (0), .int .i64 (0), .int .u16 (0), .int .u8 (0)]) (places := [(0, 1), (1, 3), (4, 3), (7, 1), (8, 1)]) hs .n Try.underlying54 rfl rfl rfl rfl .n rfl ?_; clear hs w a; intro a w hs
   refine st_stBA hs rfl rfl .z (.z (.c (.c (.c (.c (.c (.c (.c (.c (.c .n)))))))))) (ones_c rfl (ones_c rfl (ones_c rfl (ones_c rfl (ones_c rfl (ones_c rfl (ones_c rfl (ones_c rfl (ones_c rfl ones_n))))))))) Try.sizeOf54 rfl ?_; clear hs w a; intro a w hs
   refine st_as hs rfl rfl ?_; clear hs w a; intro a w hs
   refine wpList_nil ?_
   refine then_n (hK27 _ _ ?_)
   refine wp_ret ?_
   refine in_r ?_
   refine th_r ?_
   exact finC2 hs rfl rfl rfl .z (.z (.c (.c (.c (.c (.c (.c (.c (.c (.c .n)))))))))) Try.isAgg54 Try.sizeOf54 (.c .z (.c .z (.c .z .n))) (by first | (rw [entApply_chk (by omega)]; exact ⟨rfl, rfl⟩) | (rw [entApply_no (by omega) (by omega)]; exact ⟨rfl, rfl⟩) | (rw [entApply_tel (by omega) (by omega) (by omega)]; exact ⟨rfl, rfl⟩) | (rw [entApply_upd (by omega) (by omega) (by omega)]; exact ⟨rfl, rfl⟩))
  replace hc25 := ne_of_beq_f hc25
  refine wp_seq_k fun K28 hK29 => ?_
  refine wp_region_lit ?_
  refine st_fa hs rfl Try.underlying25 rfl Try.sizeOf3 (by decide) (o := 0) rfl rfl ?_; clear hs w a; intro a w hs
  refine st_ldB hs rfl (.s .z) .z Try.isAgg3 rfl ?_; clear hs w a; intro a w hs
  refine st_eql hs rfl rfl rfl ?_; clear hs w a; intro a w hs
  refine st_as hs rfl rfl ?_; clear hs w a; intro a w hs
  refine wpList_nil ?_
  refine then_n (hK29 _ _ ?_)
  refine wp_if hs rfl (fun hc30 => ?_) (fun hc30 => ?_)
  ·
   replace hc30 := eq_of_beq hc30
   refine wp_seq_k fun K31 hK32 => ?_
   refine wp_region_lit ?_
   refine st_fa hs rfl Try.underlying54 rfl Try.sizeOf3 (by decide) (o := 0) rfl rfl ?_; clear hs w a; intro a w hs
   refine st_ldB hs rfl (.s (.s .z)) .z Try.isAgg3 rfl ?_; clear hs w a; intro a w hs
   refine st_fa hs rfl Try.underlying25 rfl Try.sizeOf22 (by decide) (o := 2) rfl rfl ?_; clear hs w a; intro a w hs
   refine st_ldBA hs rfl (.s .z) (.s (.s (.z (.c (.c (.c .n)))))) Try.isAgg22 Try.sizeOf22 rfl ?_; clear hs w a; intro a w hs
   refine st_fa hs rfl Try.underlying25 rfl Try.sizeOf22 (by decide) (o := 5) rfl rfl ?_; clear hs w a; intro a w hs
   refine st_ldBA hs rfl (.s .z) (.s (.s (.s (.s (.s (.z (.c (.c (.c .n))))))))) Try.isAgg22 Try.sizeOf22 rfl ?_; clear hs w a; intro a w hs
   refine st_fa hs rfl Try.underlying25 rfl Try.sizeOf23 (by decide) (o := 8) rfl rfl ?_; clear hs w a; intro a w hs
   refine st_ldB hs rfl (.s .z) (.s (.s (.s (.s (.s (.s (.s (.s .z)))))))) Try.isAgg23 rfl ?_; clear hs w a; intro a w hs
   refine st_fa hs rfl Try.underlying54 rfl Try.sizeOf5 (by decide) (o := 8) rfl rfl ?_; clear hs w a; intro a w hs
   refine st_ldB hs rfl (.s (.s .z)) (.s (.s (.s (.s (.s (.s (.s (.s .z)))))))) Try.isAgg5 rfl ?_; clear hs w a; intro a w hs
   refine st_add_u8 (X := ea.g) (Y := 1#8) hs rfl rfl rfl (by decide) rfl ?_; clear hs w a; intro a w hs
   refine st_build (it := Try.t54) (zs := [.int .i64 (0), .int .i64 (0), .int .i64 (0), .int .i64 (0), .int .i64 (0), .int .i64 (0), .int .i64 (0), .int .u16 (0), .int .u8 (0)]) (places := [(0, 1), (1, 3), (4, 3), (7, 1), (8, 1)]) hs (.c rfl (.c rfl (.c rfl (.c rfl (.c rfl .n))))) Try.underlying54 rfl rfl rfl rfl (.c rfl rfl (.z (.c .n)) (.c rfl rfl (.s (.z (.c (.c (.c .n))))) (.c rfl rfl (.s (.s (.s (.s (.z (.c (.c (.c .n)))))))) (.c rfl rfl (.s (.s (.s (.s (.s (.s (.s (.z (.c .n))))))))) (.c rfl rfl (.s (.s (.s (.s (.s (.s (.s (.s (.z (.c .n)))))))))) .n))))) rfl ?_; clear hs w a; intro a w hs
   refine st_stBA hs rfl rfl .z (.z (.c (.c (.c (.c (.c (.c (.c (.c (.c .n)))))))))) (ones_c rfl (ones_c rfl (ones_c rfl (ones_c rfl (ones_c rfl (ones_c rfl (ones_c rfl (ones_c rfl (ones_c rfl ones_n))))))))) Try.sizeOf54 rfl ?_; clear hs w a; intro a w hs
   refine st_as hs rfl rfl ?_; clear hs w a; intro a w hs
   refine wpList_nil ?_
   refine then_n (hK32 _ _ ?_)
   refine wp_ret ?_
   refine in_r ?_
   refine th_r ?_
   exact finC2 hs rfl rfl rfl .z (.z (.c (.c (.c (.c (.c (.c (.c (.c (.c .n)))))))))) Try.isAgg54 Try.sizeOf54 (.c .z (.c .z (.c .z .n))) (by first | (rw [entApply_chk (by omega)]; exact ⟨rfl, rfl⟩) | (rw [entApply_no (by omega) (by omega)]; exact ⟨rfl, rfl⟩) | (rw [entApply_tel (by omega) (by omega) (by omega)]; exact ⟨rfl, rfl⟩) | (rw [entApply_upd (by omega) (by omega) (by omega)]; exact ⟨rfl, rfl⟩))
  replace hc30 := ne_of_beq_f hc30
  refine wp_skip ?_
  refine in_n ?_
  refine then_n (hK16 _ _ ?_)
  refine wp_seq_k fun K33 hK34 => ?_
  refine wp_seq_k fun K35 hK36 => ?_
  refine wp_region_lit ?_
  refine st_mv hs rfl rfl ?_; clear hs w a; intro a w hs
  refine wpList_nil ?_
  refine then_n (hK36 _ _ ?_)
  refine wp_block ?_
  refine wp_loop_rounds 4 ?_
  refine rounds_in ?_
  refine wp_seq_k fun K37 hK38 => ?_
  refine wp_region_lit ?_
  refine st_lss hs rfl rfl rfl ?_; clear hs w a; intro a w hs
  rw [show (decide ((0 : Int) < 3)) = true from by decide] at hs
  refine wpList_nil ?_
  refine then_n (hK38 _ _ ?_)
  refine wp_seq_k fun K39 hK40 => ?_
  refine wp_cond_true (hs.ev rfl) ?_
  refine wp_skip ?_
  refine then_n (hK40 _ _ ?_)
  refine wp_seq_k fun K41 hK42 => ?_
  refine wp_block ?_
  refine wp_seq_k fun K43 hK44 => ?_
  refine wp_region_lit ?_
  refine st_mv hs rfl rfl ?_; clear hs w a; intro a w hs
  refine st_as hs rfl rfl ?_; clear hs w a; intro a w hs
  refine wpList_nil ?_
  refine then_n (hK44 _ _ ?_)
  refine wp_seq_k fun K45 hK46 => ?_
  replace hs := hs.sub (F' := [(7, .int .i64 (0)), (49, .int .i64 (0)), (48, .bool (true)), (47, .int .i64 (0)), (5, .int .i64 (0)), (4, .pointer (some ⟨g5, 0, none⟩)), (3, .pointer (some ⟨g4, 0, none⟩)), (2, .pointer (some ⟨g3, 0, none⟩))]) (.c rfl (.c rfl (.c rfl (.c rfl (.c rfl (.c rfl (.c rfl (.c rfl .n))))))))
  refine wp_drawG (M0 := [blk g5 [.int .i64 (0), .int .i64 (0), .int .i64 (0), .int .i64 (0), .int .i64 (0), .int .i64 (0), .int .i64 (0), .int .u16 (0), .int .u8 (0)] 54, blk g4 [.int .i64 (r.k), .int .i64 (r.id), .int .i64 (r.p0), .int .i64 (r.p1), .int .i64 (r.p2), .int .i64 (r.v0), .int .i64 (r.v1), .int .i64 (r.v2), .int .u16 ((((r.a).toNat : Nat) : Int))] 25]) (Ds := [⟨[], [], [], fun vs47 => vs47 0 = .int .i64 (0), fun vs47 => []⟩, ⟨[], [], [], fun vs47 => vs47 1 = .pointer (some ⟨g3, 1, none⟩), fun vs47 => []⟩, ⟨[], [], [], fun vs47 => vs47 2 = .pointer (some ⟨g3, 1, none⟩), fun vs47 => []⟩, ⟨[], [], [], fun vs47 => vs47 3 = .int .i64 (ea.p0), fun vs47 => []⟩, ⟨[], [], [], fun vs47 => vs47 4 = .int .i64 (0), fun vs47 => []⟩, ⟨[], [], [], fun vs47 => vs47 5 = .pointer (some ⟨g4, 2, none⟩), fun vs47 => []⟩, ⟨[], [], [], fun vs47 => vs47 6 = .pointer (some ⟨g4, 2, none⟩), fun vs47 => []⟩, ⟨[], [], [], fun vs47 => vs47 7 = .int .i64 (r.p0), fun vs47 => []⟩, ⟨[], [], [], fun vs47 => vs47 8 = .int .i64 (IntKind.i64.wrap (ea.p0 + r.p0)), fun vs47 => []⟩, ⟨[], [], [], fun vs47 => vs47 9 = .pointer (some ⟨g3, 1, none⟩), fun vs47 => []⟩, ⟨[], [], [], fun vs47 => vs47 10 = .pointer (some ⟨g3, 1, none⟩), fun vs47 => []⟩, ⟨[blk g3 [.int .i64 (ea.id), .int .i64 (ea.p0), .int .i64 (ea.p1), .int .i64 (ea.p2), .int .i64 (ea.v0), .int .i64 (ea.v1), .int .i64 (ea.v2), .int .u16 ((((ea.a).toNat : Nat) : Int)), .int .u8 ((((ea.g).toNat : Nat) : Int))] 54], [], [], fun vs47 => True, fun vs47 => [blk g3 [.int .i64 (ea.id), .int .i64 (IntKind.i64.wrap (ea.p0 + r.p0)), .int .i64 (ea.p1), .int .i64 (ea.p2), .int .i64 (ea.v0), .int .i64 (ea.v1), .int .i64 (ea.v2), .int .u16 ((((ea.a).toNat : Nat) : Int)), .int .u8 ((((ea.g).toNat : Nat) : Int))] 54]⟩]) (by kernel_rfl) hs rfl (.c (.s (.s .z)) .n) (by kernel_rfl) (by kernel_rfl) ?_ ?_
  ·
   refine (.c ?_ (.c ?_ (.c ?_ (.c ?_ (.c ?_ (.c ?_ (.c ?_ (.c ?_ (.c ?_ (.c ?_ (.c ?_ (.c ?_ .n))))))))))))
   ·
    intro a_ w_ R_ rest_ vs47 hm hs ht hx
    replace hs : St _ _ _ (feet []) [] _ _ := hs
    have hm0 := hm.mid
    have hs0 := hs.bare
    refine st_mv hs rfl rfl ?_; clear hs; intro a w hs
    exact wpList_nil ⟨rfl, _, _, hs0, .r, hs, rfl⟩
   ·
    intro a_ w_ R_ rest_ vs47 hm hs ht hx
    replace hs : St _ _ _ (feet []) [] _ _ := hs
    have hm0 := hm.mid
    have hs0 := hs.bare
    refine st_fa hs rfl Try.underlying54 rfl Try.sizeOf22 (by decide) (o := 1) rfl rfl ?_; clear hs; intro a w hs
    exact wpList_nil ⟨rfl, _, _, hs0, .r, hs, rfl⟩
   ·
    intro a_ w_ R_ rest_ vs47 hm hs ht hx
    replace hs : St _ _ _ (feet []) [] _ _ := hs
    have hm0 := hm.mid
    have t0 := ht 0 (twB_spec 12 _ (by kernel_rfl))
    have e0 : _ = some (vs47 0) := t0.val rfl
    rw [show vs47 0 = .int .i64 (0) from t0.2.1] at e0
    replace hs := hs.learn e0
    have t1 := ht 1 (twB_spec 12 _ (by kernel_rfl))
    have e1 : _ = some (vs47 1) := t1.val rfl
    rw [show vs47 1 = .pointer (some ⟨g3, 1, none⟩) from t1.2.1] at e1
    replace hs := hs.learn e1
    have hs0 := hs.bare
    refine st_iaB hs rfl rfl Try.underlying22 (by decide) (by decide) Try.sizeOf2 (o' := 1) rfl rfl ?_; clear hs; intro a w hs
    exact wpList_nil ⟨rfl, _, _, hs0, (.c (.c .r)), hs, rfl⟩
   ·
    intro a_ w_ R_ rest_ vs47 hm hs ht hx
    replace hs : St _ _ _ (feet []) [] _ _ := hs
    have hm0 := hm.mid
    have t2 := ht 2 (twB_spec 12 _ (by kernel_rfl))
    have e2 : _ = some (vs47 2) := t2.val rfl
    rw [show vs47 2 = .pointer (some ⟨g3, 1, none⟩) from t2.2.1] at e2
    replace hs := hs.learn e2
    have hs0 := hs.bare
    refine st_ldE hs rfl (hm.own (List.mem_append.2 (.inr (hx 11 (twB_spec 12 _ (by kernel_rfl)) _ (List.Mem.head _))))) (.s .z) Try.isAgg2 rfl ?_; clear hs; intro a w hs
    exact wpList_nil ⟨rfl, _, _, hs0, (.c .r), hs, rfl⟩
   ·
    intro a_ w_ R_ rest_ vs47 hm hs ht hx
    replace hs : St _ _ _ (feet []) [] _ _ := hs
    have hm0 := hm.mid
    have hs0 := hs.bare
    refine st_mv hs rfl rfl ?_; clear hs; intro a w hs
    exact wpList_nil ⟨rfl, _, _, hs0, .r, hs, rfl⟩
   ·
    intro a_ w_ R_ rest_ vs47 hm hs ht hx
    replace hs : St _ _ _ (feet []) [] _ _ := hs
    have hm0 := hm.mid
    have hs0 := hs.bare
    refine st_fa hs rfl Try.underlying25 rfl Try.sizeOf22 (by decide) (o := 2) rfl rfl ?_; clear hs; intro a w hs
    exact wpList_nil ⟨rfl, _, _, hs0, .r, hs, rfl⟩
   ·
    intro a_ w_ R_ rest_ vs47 hm hs ht hx
    replace hs : St _ _ _ (feet []) [] _ _ := hs
    have hm0 := hm.mid
    have t4 := ht 4 (twB_spec 12 _ (by kernel_rfl))
    have e4 : _ = some (vs47 4) := t4.val rfl
    rw [show vs47 4 = .int .i64 (0) from t4.2.1] at e4
    replace hs := hs.learn e4
    have t5 := ht 5 (twB_spec 12 _ (by kernel_rfl))
    have e5 : _ = some (vs47 5) := t5.val rfl
    rw [show vs47 5 = .pointer (some ⟨g4, 2, none⟩) from t5.2.1] at e5
    replace hs := hs.learn e5
    have hs0 := hs.bare
    refine st_iaB hs rfl rfl Try.underlying22 (by decide) (by decide) Try.sizeOf2 (o' := 2) rfl rfl ?_; clear hs; intro a w hs
    exact wpList_nil ⟨rfl, _, _, hs0, (.c (.c .r)), hs, rfl⟩
   ·
    intro a_ w_ R_ rest_ vs47 hm hs ht hx
    replace hs : St _ _ _ (feet []) [] _ _ := hs
    have hm0 := hm.mid
    have t6 := ht 6 (twB_spec 12 _ (by kernel_rfl))
    have e6 : _ = some (vs47 6) := t6.val rfl
    rw [show vs47 6 = .pointer (some ⟨g4, 2, none⟩) from t6.2.1] at e6
    replace hs := hs.learn e6
    have hs0 := hs.bare
    refine st_ldE hs rfl (hm0.del (.s .z)) (.s (.s .z)) Try.isAgg2 rfl ?_; clear hs; intro a w hs
    exact wpList_nil ⟨rfl, _, _, hs0, (.c .r), hs, rfl⟩
   ·
    intro a_ w_ R_ rest_ vs47 hm hs ht hx
    replace hs : St _ _ _ (feet []) [] _ _ := hs
    have hm0 := hm.mid
    have t3 := ht 3 (twB_spec 12 _ (by kernel_rfl))
    have e3 : _ = some (vs47 3) := t3.val rfl
    rw [show vs47 3 = .int .i64 (ea.p0) from t3.2.1] at e3
    replace hs := hs.learn e3
    have t7 := ht 7 (twB_spec 12 _ (by kernel_rfl))
    have e7 : _ = some (vs47 7) := t7.val rfl
    rw [show vs47 7 = .int .i64 (r.p0) from t7.2.1] at e7
    replace hs := hs.learn e7
    have hs0 := hs.bare
    refine st_add hs rfl rfl rfl ?_; clear hs; intro a w hs
    exact wpList_nil ⟨rfl, _, _, hs0, (.c (.c .r)), hs, rfl⟩
   ·
    intro a_ w_ R_ rest_ vs47 hm hs ht hx
    replace hs : St _ _ _ (feet []) [] _ _ := hs
    have hm0 := hm.mid
    have hs0 := hs.bare
    refine st_fa hs rfl Try.underlying54 rfl Try.sizeOf22 (by decide) (o := 1) rfl rfl ?_; clear hs; intro a w hs
    exact wpList_nil ⟨rfl, _, _, hs0, .r, hs, rfl⟩
   ·
    intro a_ w_ R_ rest_ vs47 hm hs ht hx
    replace hs : St _ _ _ (feet []) [] _ _ := hs
    have hm0 := hm.mid
    have t0 := ht 0 (twB_spec 12 _ (by kernel_rfl))
    have e0 : _ = some (vs47 0) := t0.val rfl
    rw [show vs47 0 = .int .i64 (0) from t0.2.1] at e0
    replace hs := hs.learn e0
    have t9 := ht 9 (twB_spec 12 _ (by kernel_rfl))
    have e9 : _ = some (vs47 9) := t9.val rfl
    rw [show vs47 9 = .pointer (some ⟨g3, 1, none⟩) from t9.2.1] at e9
    replace hs := hs.learn e9
    have hs0 := hs.bare
    refine st_iaB hs rfl rfl Try.underlying22 (by decide) (by decide) Try.sizeOf2 (o' := 1) rfl rfl ?_; clear hs; intro a w hs
    exact wpList_nil ⟨rfl, _, _, hs0, (.c (.c .r)), hs, rfl⟩
   intro a_ w_ R_ rest_ vs47 hm hs ht hx
   replace hs : St _ _ _ (feet [blk g3 [.int .i64 (ea.id), .int .i64 (ea.p0), .int .i64 (ea.p1), .int .i64 (ea.p2), .int .i64 (ea.v0), .int .i64 (ea.v1), .int .i64 (ea.v2), .int .u16 ((((ea.a).toNat : Nat) : Int)), .int .u8 ((((ea.g).toNat : Nat) : Int))] 54]) [blk g3 [.int .i64 (ea.id), .int .i64 (ea.p0), .int .i64 (ea.p1), .int .i64 (ea.p2), .int .i64 (ea.v0), .int .i64 (ea.v1), .int .i64 (ea.v2), .int .u16 ((((ea.a).toNat : Nat) : Int)), .int .u8 ((((ea.g).toNat : Nat) : Int))] 54] _ _ := hs
   have hm0 := hm.mid
   have t8 := ht 8 (twB_spec 12 _ (by kernel_rfl))
   have e8 : _ = some (vs47 8) := t8.val rfl
   rw [show vs47 8 = .int .i64 (IntKind.i64.wrap (ea.p0 + r.p0)) from t8.2.1] at e8
   replace hs := hs.learn e8
   have t10 := ht 10 (twB_spec 12 _ (by kernel_rfl))
   have e10 : _ = some (vs47 10) := t10.val rfl
   rw [show vs47 10 = .pointer (some ⟨g3, 1, none⟩) from t10.2.1] at e10
   replace hs := hs.learn e10
   have hs0 := hs.bare
   refine st_stB hs rfl rfl .z (.s .z) rfl Try.sizeOf2 ?_; clear hs; intro a w hs
   exact wpList_nil ⟨rfl, .tuple #[], _, hs0, (.c (.c .r)), hs, trivial⟩
  clear hs w a; intro a w vs47 hs hf
  replace hs : St _ _ _ _ [blk g5 [.int .i64 (0), .int .i64 (0), .int .i64 (0), .int .i64 (0), .int .i64 (0), .int .i64 (0), .int .i64 (0), .int .u16 (0), .int .u8 (0)] 54, blk g4 [.int .i64 (r.k), .int .i64 (r.id), .int .i64 (r.p0), .int .i64 (r.p1), .int .i64 (r.p2), .int .i64 (r.v0), .int .i64 (r.v1), .int .i64 (r.v2), .int .u16 ((((r.a).toNat : Nat) : Int))] 25, blk g3 [.int .i64 (ea.id), .int .i64 (IntKind.i64.wrap (ea.p0 + r.p0)), .int .i64 (ea.p1), .int .i64 (ea.p2), .int .i64 (ea.v0), .int .i64 (ea.v1), .int .i64 (ea.v2), .int .u16 ((((ea.a).toNat : Nat) : Int)), .int .u8 ((((ea.g).toNat : Nat) : Int))] 54] _ _ := hs
  clear hf
  refine then_n (hK46 _ _ ?_)
  replace hs := hs.sub (F' := [(7, .int .i64 (0)), (49, .int .i64 (0)), (48, .bool (true)), (47, .int .i64 (0)), (5, .int .i64 (0)), (4, .pointer (some ⟨g5, 0, none⟩)), (3, .pointer (some ⟨g4, 0, none⟩)), (2, .pointer (some ⟨g3, 0, none⟩))]) (.c rfl (.c rfl (.c rfl (.c rfl (.c rfl (.c rfl (.c rfl (.c rfl .n))))))))
  refine wp_drawG (M0 := [blk g5 [.int .i64 (0), .int .i64 (0), .int .i64 (0), .int .i64 (0), .int .i64 (0), .int .i64 (0), .int .i64 (0), .int .u16 (0), .int .u8 (0)] 54, blk g4 [.int .i64 (r.k), .int .i64 (r.id), .int .i64 (r.p0), .int .i64 (r.p1), .int .i64 (r.p2), .int .i64 (r.v0), .int .i64 (r.v1), .int .i64 (r.v2), .int .u16 ((((r.a).toNat : Nat) : Int))] 25]) (Ds := [⟨[], [], [], fun vs48 => vs48 0 = .int .i64 (0), fun vs48 => []⟩, ⟨[], [], [], fun vs48 => vs48 1 = .pointer (some ⟨g3, 4, none⟩), fun vs48 => []⟩, ⟨[], [], [], fun vs48 => vs48 2 = .pointer (some ⟨g3, 4, none⟩), fun vs48 => []⟩, ⟨[], [], [], fun vs48 => vs48 3 = .int .i64 (ea.v0), fun vs48 => []⟩, ⟨[], [], [], fun vs48 => vs48 4 = .int .i64 (0), fun vs48 => []⟩, ⟨[], [], [], fun vs48 => vs48 5 = .pointer (some ⟨g4, 5, none⟩), fun vs48 => []⟩, ⟨[], [], [], fun vs48 => vs48 6 = .pointer (some ⟨g4, 5, none⟩), fun vs48 => []⟩, ⟨[], [], [], fun vs48 => vs48 7 = .int .i64 (r.v0), fun vs48 => []⟩, ⟨[], [], [], fun vs48 => vs48 8 = .int .i64 (IntKind.i64.wrap (ea.v0 + r.v0)), fun vs48 => []⟩, ⟨[], [], [], fun vs48 => vs48 9 = .pointer (some ⟨g3, 4, none⟩), fun vs48 => []⟩, ⟨[], [], [], fun vs48 => vs48 10 = .pointer (some ⟨g3, 4, none⟩), fun vs48 => []⟩, ⟨[blk g3 [.int .i64 (ea.id), .int .i64 (IntKind.i64.wrap (ea.p0 + r.p0)), .int .i64 (ea.p1), .int .i64 (ea.p2), .int .i64 (ea.v0), .int .i64 (ea.v1), .int .i64 (ea.v2), .int .u16 ((((ea.a).toNat : Nat) : Int)), .int .u8 ((((ea.g).toNat : Nat) : Int))] 54], [], [], fun vs48 => True, fun vs48 => [blk g3 [.int .i64 (ea.id), .int .i64 (IntKind.i64.wrap (ea.p0 + r.p0)), .int .i64 (ea.p1), .int .i64 (ea.p2), .int .i64 (IntKind.i64.wrap (ea.v0 + r.v0)), .int .i64 (ea.v1), .int .i64 (ea.v2), .int .u16 ((((ea.a).toNat : Nat) : Int)), .int .u8 ((((ea.g).toNat : Nat) : Int))] 54]⟩]) (by kernel_rfl) hs rfl (.c (.s (.s .z)) .n) (by kernel_rfl) (by kernel_rfl) ?_ ?_
  ·
   refine (.c ?_ (.c ?_ (.c ?_ (.c ?_ (.c ?_ (.c ?_ (.c ?_ (.c ?_ (.c ?_ (.c ?_ (.c ?_ (.c ?_ .n))))))))))))
   ·
    intro a_ w_ R_ rest_ vs48 hm hs ht hx
    replace hs : St _ _ _ (feet []) [] _ _ := hs
    have hm0 := hm.mid
    have hs0 := hs.bare
    refine st_mv hs rfl rfl ?_; clear hs; intro a w hs
    exact wpList_nil ⟨rfl, _, _, hs0, .r, hs, rfl⟩
   ·
    intro a_ w_ R_ rest_ vs48 hm hs ht hx
    replace hs : St _ _ _ (feet []) [] _ _ := hs
    have hm0 := hm.mid
    have hs0 := hs.bare
    refine st_fa hs rfl Try.underlying54 rfl Try.sizeOf22 (by decide) (o := 4) rfl rfl ?_; clear hs; intro a w hs
    exact wpList_nil ⟨rfl, _, _, hs0, .r, hs, rfl⟩
   ·
    intro a_ w_ R_ rest_ vs48 hm hs ht hx
    replace hs : St _ _ _ (feet []) [] _ _ := hs
    have hm0 := hm.mid
    have t0 := ht 0 (twB_spec 12 _ (by kernel_rfl))
    have e0 : _ = some (vs48 0) := t0.val rfl
    rw [show vs48 0 = .int .i64 (0) from t0.2.1] at e0
    replace hs := hs.learn e0
    have t1 := ht 1 (twB_spec 12 _ (by kernel_rfl))
    have e1 : _ = some (vs48 1) := t1.val rfl
    rw [show vs48 1 = .pointer (some ⟨g3, 4, none⟩) from t1.2.1] at e1
    replace hs := hs.learn e1
    have hs0 := hs.bare
    refine st_iaB hs rfl rfl Try.underlying22 (by decide) (by decide) Try.sizeOf2 (o' := 4) rfl rfl ?_; clear hs; intro a w hs
    exact wpList_nil ⟨rfl, _, _, hs0, (.c (.c .r)), hs, rfl⟩
   ·
    intro a_ w_ R_ rest_ vs48 hm hs ht hx
    replace hs : St _ _ _ (feet []) [] _ _ := hs
    have hm0 := hm.mid
    have t2 := ht 2 (twB_spec 12 _ (by kernel_rfl))
    have e2 : _ = some (vs48 2) := t2.val rfl
    rw [show vs48 2 = .pointer (some ⟨g3, 4, none⟩) from t2.2.1] at e2
    replace hs := hs.learn e2
    have hs0 := hs.bare
    refine st_ldE hs rfl (hm.own (List.mem_append.2 (.inr (hx 11 (twB_spec 12 _ (by kernel_rfl)) _ (List.Mem.head _))))) (.s (.s (.s (.s .z)))) Try.isAgg2 rfl ?_; clear hs; intro a w hs
    exact wpList_nil ⟨rfl, _, _, hs0, (.c .r), hs, rfl⟩
   ·
    intro a_ w_ R_ rest_ vs48 hm hs ht hx
    replace hs : St _ _ _ (feet []) [] _ _ := hs
    have hm0 := hm.mid
    have hs0 := hs.bare
    refine st_mv hs rfl rfl ?_; clear hs; intro a w hs
    exact wpList_nil ⟨rfl, _, _, hs0, .r, hs, rfl⟩
   ·
    intro a_ w_ R_ rest_ vs48 hm hs ht hx
    replace hs : St _ _ _ (feet []) [] _ _ := hs
    have hm0 := hm.mid
    have hs0 := hs.bare
    refine st_fa hs rfl Try.underlying25 rfl Try.sizeOf22 (by decide) (o := 5) rfl rfl ?_; clear hs; intro a w hs
    exact wpList_nil ⟨rfl, _, _, hs0, .r, hs, rfl⟩
   ·
    intro a_ w_ R_ rest_ vs48 hm hs ht hx
    replace hs : St _ _ _ (feet []) [] _ _ := hs
    have hm0 := hm.mid
    have t4 := ht 4 (twB_spec 12 _ (by kernel_rfl))
    have e4 : _ = some (vs48 4) := t4.val rfl
    rw [show vs48 4 = .int .i64 (0) from t4.2.1] at e4
    replace hs := hs.learn e4
    have t5 := ht 5 (twB_spec 12 _ (by kernel_rfl))
    have e5 : _ = some (vs48 5) := t5.val rfl
    rw [show vs48 5 = .pointer (some ⟨g4, 5, none⟩) from t5.2.1] at e5
    replace hs := hs.learn e5
    have hs0 := hs.bare
    refine st_iaB hs rfl rfl Try.underlying22 (by decide) (by decide) Try.sizeOf2 (o' := 5) rfl rfl ?_; clear hs; intro a w hs
    exact wpList_nil ⟨rfl, _, _, hs0, (.c (.c .r)), hs, rfl⟩
   ·
    intro a_ w_ R_ rest_ vs48 hm hs ht hx
    replace hs : St _ _ _ (feet []) [] _ _ := hs
    have hm0 := hm.mid
    have t6 := ht 6 (twB_spec 12 _ (by kernel_rfl))
    have e6 : _ = some (vs48 6) := t6.val rfl
    rw [show vs48 6 = .pointer (some ⟨g4, 5, none⟩) from t6.2.1] at e6
    replace hs := hs.learn e6
    have hs0 := hs.bare
    refine st_ldE hs rfl (hm0.del (.s .z)) (.s (.s (.s (.s (.s .z))))) Try.isAgg2 rfl ?_; clear hs; intro a w hs
    exact wpList_nil ⟨rfl, _, _, hs0, (.c .r), hs, rfl⟩
   ·
    intro a_ w_ R_ rest_ vs48 hm hs ht hx
    replace hs : St _ _ _ (feet []) [] _ _ := hs
    have hm0 := hm.mid
    have t3 := ht 3 (twB_spec 12 _ (by kernel_rfl))
    have e3 : _ = some (vs48 3) := t3.val rfl
    rw [show vs48 3 = .int .i64 (ea.v0) from t3.2.1] at e3
    replace hs := hs.learn e3
    have t7 := ht 7 (twB_spec 12 _ (by kernel_rfl))
    have e7 : _ = some (vs48 7) := t7.val rfl
    rw [show vs48 7 = .int .i64 (r.v0) from t7.2.1] at e7
    replace hs := hs.learn e7
    have hs0 := hs.bare
    refine st_add hs rfl rfl rfl ?_; clear hs; intro a w hs
    exact wpList_nil ⟨rfl, _, _, hs0, (.c (.c .r)), hs, rfl⟩
   ·
    intro a_ w_ R_ rest_ vs48 hm hs ht hx
    replace hs : St _ _ _ (feet []) [] _ _ := hs
    have hm0 := hm.mid
    have hs0 := hs.bare
    refine st_fa hs rfl Try.underlying54 rfl Try.sizeOf22 (by decide) (o := 4) rfl rfl ?_; clear hs; intro a w hs
    exact wpList_nil ⟨rfl, _, _, hs0, .r, hs, rfl⟩
   ·
    intro a_ w_ R_ rest_ vs48 hm hs ht hx
    replace hs : St _ _ _ (feet []) [] _ _ := hs
    have hm0 := hm.mid
    have t0 := ht 0 (twB_spec 12 _ (by kernel_rfl))
    have e0 : _ = some (vs48 0) := t0.val rfl
    rw [show vs48 0 = .int .i64 (0) from t0.2.1] at e0
    replace hs := hs.learn e0
    have t9 := ht 9 (twB_spec 12 _ (by kernel_rfl))
    have e9 : _ = some (vs48 9) := t9.val rfl
    rw [show vs48 9 = .pointer (some ⟨g3, 4, none⟩) from t9.2.1] at e9
    replace hs := hs.learn e9
    have hs0 := hs.bare
    refine st_iaB hs rfl rfl Try.underlying22 (by decide) (by decide) Try.sizeOf2 (o' := 4) rfl rfl ?_; clear hs; intro a w hs
    exact wpList_nil ⟨rfl, _, _, hs0, (.c (.c .r)), hs, rfl⟩
   intro a_ w_ R_ rest_ vs48 hm hs ht hx
   replace hs : St _ _ _ (feet [blk g3 [.int .i64 (ea.id), .int .i64 (IntKind.i64.wrap (ea.p0 + r.p0)), .int .i64 (ea.p1), .int .i64 (ea.p2), .int .i64 (ea.v0), .int .i64 (ea.v1), .int .i64 (ea.v2), .int .u16 ((((ea.a).toNat : Nat) : Int)), .int .u8 ((((ea.g).toNat : Nat) : Int))] 54]) [blk g3 [.int .i64 (ea.id), .int .i64 (IntKind.i64.wrap (ea.p0 + r.p0)), .int .i64 (ea.p1), .int .i64 (ea.p2), .int .i64 (ea.v0), .int .i64 (ea.v1), .int .i64 (ea.v2), .int .u16 ((((ea.a).toNat : Nat) : Int)), .int .u8 ((((ea.g).toNat : Nat) : Int))] 54] _ _ := hs
   have hm0 := hm.mid
   have t8 := ht 8 (twB_spec 12 _ (by kernel_rfl))
   have e8 : _ = some (vs48 8) := t8.val rfl
   rw [show vs48 8 = .int .i64 (IntKind.i64.wrap (ea.v0 + r.v0)) from t8.2.1] at e8
   replace hs := hs.learn e8
   have t10 := ht 10 (twB_spec 12 _ (by kernel_rfl))
   have e10 : _ = some (vs48 10) := t10.val rfl
   rw [show vs48 10 = .pointer (some ⟨g3, 4, none⟩) from t10.2.1] at e10
   replace hs := hs.learn e10
   have hs0 := hs.bare
   refine st_stB hs rfl rfl .z (.s (.s (.s (.s .z)))) rfl Try.sizeOf2 ?_; clear hs; intro a w hs
   exact wpList_nil ⟨rfl, .tuple #[], _, hs0, (.c (.c .r)), hs, trivial⟩
  clear hs w a; intro a w vs48 hs hf
  replace hs : St _ _ _ _ [blk g5 [.int .i64 (0), .int .i64 (0), .int .i64 (0), .int .i64 (0), .int .i64 (0), .int .i64 (0), .int .i64 (0), .int .u16 (0), .int .u8 (0)] 54, blk g4 [.int .i64 (r.k), .int .i64 (r.id), .int .i64 (r.p0), .int .i64 (r.p1), .int .i64 (r.p2), .int .i64 (r.v0), .int .i64 (r.v1), .int .i64 (r.v2), .int .u16 ((((r.a).toNat : Nat) : Int))] 25, blk g3 [.int .i64 (ea.id), .int .i64 (IntKind.i64.wrap (ea.p0 + r.p0)), .int .i64 (ea.p1), .int .i64 (ea.p2), .int .i64 (IntKind.i64.wrap (ea.v0 + r.v0)), .int .i64 (ea.v1), .int .i64 (ea.v2), .int .u16 ((((ea.a).toNat : Nat) : Int)), .int .u8 ((((ea.g).toNat : Nat) : Int))] 54] _ _ := hs
  clear hf
  refine in_n ?_
  refine then_n (hK42 _ _ ?_)
  refine wp_region_lit ?_
  refine st_addR hs rfl rfl (by omega) rfl ?_; clear hs w a; intro a w hs
  rw [show (0 + 1 : Int) = 1 by rfl] at hs
  refine st_mv hs rfl rfl ?_; clear hs w a; intro a w hs
  refine wpList_nil ?_
  refine then_n ?_
  refine rounds_in ?_
  refine wp_seq_k fun K49 hK50 => ?_
  refine wp_region_lit ?_
  refine st_lss hs rfl rfl rfl ?_; clear hs w a; intro a w hs
  rw [show (decide ((1 : Int) < 3)) = true from by decide] at hs
  refine wpList_nil ?_
  refine then_n (hK50 _ _ ?_)
  refine wp_seq_k fun K51 hK52 => ?_
  refine wp_cond_true (hs.ev rfl) ?_
  refine wp_skip ?_
  refine then_n (hK52 _ _ ?_)
  refine wp_seq_k fun K53 hK54 => ?_
  refine wp_block ?_
  refine wp_seq_k fun K55 hK56 => ?_
  refine wp_region_lit ?_
  refine st_mv hs rfl rfl ?_; clear hs w a; intro a w hs
  refine st_as hs rfl rfl ?_; clear hs w a; intro a w hs
  refine wpList_nil ?_
  refine then_n (hK56 _ _ ?_)
  refine wp_seq_k fun K57 hK58 => ?_
  replace hs := hs.sub (F' := [(7, .int .i64 (1)), (49, .int .i64 (1)), (48, .bool (true)), (47, .int .i64 (1)), (72, .int .i64 (1)), (5, .int .i64 (0)), (4, .pointer (some ⟨g5, 0, none⟩)), (3, .pointer (some ⟨g4, 0, none⟩)), (2, .pointer (some ⟨g3, 0, none⟩))]) (.c rfl (.c rfl (.c rfl (.c rfl (.c rfl (.c rfl (.c rfl (.c rfl (.c rfl .n)))))))))
  refine wp_drawG (M0 := [blk g5 [.int .i64 (0), .int .i64 (0), .int .i64 (0), .int .i64 (0), .int .i64 (0), .int .i64 (0), .int .i64 (0), .int .u16 (0), .int .u8 (0)] 54, blk g4 [.int .i64 (r.k), .int .i64 (r.id), .int .i64 (r.p0), .int .i64 (r.p1), .int .i64 (r.p2), .int .i64 (r.v0), .int .i64 (r.v1), .int .i64 (r.v2), .int .u16 ((((r.a).toNat : Nat) : Int))] 25]) (Ds := [⟨[], [], [], fun vs59 => vs59 0 = .int .i64 (1), fun vs59 => []⟩, ⟨[], [], [], fun vs59 => vs59 1 = .pointer (some ⟨g3, 1, none⟩), fun vs59 => []⟩, ⟨[], [], [], fun vs59 => vs59 2 = .pointer (some ⟨g3, 2, none⟩), fun vs59 => []⟩, ⟨[], [], [], fun vs59 => vs59 3 = .int .i64 (ea.p1), fun vs59 => []⟩, ⟨[], [], [], fun vs59 => vs59 4 = .int .i64 (1), fun vs59 => []⟩, ⟨[], [], [], fun vs59 => vs59 5 = .pointer (some ⟨g4, 2, none⟩), fun vs59 => []⟩, ⟨[], [], [], fun vs59 => vs59 6 = .pointer (some ⟨g4, 3, none⟩), fun vs59 => []⟩, ⟨[], [], [], fun vs59 => vs59 7 = .int .i64 (r.p1), fun vs59 => []⟩, ⟨[], [], [], fun vs59 => vs59 8 = .int .i64 (IntKind.i64.wrap (ea.p1 + r.p1)), fun vs59 => []⟩, ⟨[], [], [], fun vs59 => vs59 9 = .pointer (some ⟨g3, 1, none⟩), fun vs59 => []⟩, ⟨[], [], [], fun vs59 => vs59 10 = .pointer (some ⟨g3, 2, none⟩), fun vs59 => []⟩, ⟨[blk g3 [.int .i64 (ea.id), .int .i64 (IntKind.i64.wrap (ea.p0 + r.p0)), .int .i64 (ea.p1), .int .i64 (ea.p2), .int .i64 (IntKind.i64.wrap (ea.v0 + r.v0)), .int .i64 (ea.v1), .int .i64 (ea.v2), .int .u16 ((((ea.a).toNat : Nat) : Int)), .int .u8 ((((ea.g).toNat : Nat) : Int))] 54], [], [], fun vs59 => True, fun vs59 => [blk g3 [.int .i64 (ea.id), .int .i64 (IntKind.i64.wrap (ea.p0 + r.p0)), .int .i64 (IntKind.i64.wrap (ea.p1 + r.p1)), .int .i64 (ea.p2), .int .i64 (IntKind.i64.wrap (ea.v0 + r.v0)), .int .i64 (ea.v1), .int .i64 (ea.v2), .int .u16 ((((ea.a).toNat : Nat) : Int)), .int .u8 ((((ea.g).toNat : Nat) : Int))] 54]⟩]) (by kernel_rfl) hs rfl (.c (.s (.s .z)) .n) (by kernel_rfl) (by kernel_rfl) ?_ ?_
  ·
   refine (.c ?_ (.c ?_ (.c ?_ (.c ?_ (.c ?_ (.c ?_ (.c ?_ (.c ?_ (.c ?_ (.c ?_ (.c ?_ (.c ?_ .n))))))))))))
   ·
    intro a_ w_ R_ rest_ vs59 hm hs ht hx
    replace hs : St _ _ _ (feet []) [] _ _ := hs
    have hm0 := hm.mid
    have hs0 := hs.bare
    refine st_mv hs rfl rfl ?_; clear hs; intro a w hs
    exact wpList_nil ⟨rfl, _, _, hs0, .r, hs, rfl⟩
   ·
    intro a_ w_ R_ rest_ vs59 hm hs ht hx
    replace hs : St _ _ _ (feet []) [] _ _ := hs
    have hm0 := hm.mid
    have hs0 := hs.bare
    refine st_fa hs rfl Try.underlying54 rfl Try.sizeOf22 (by decide) (o := 1) rfl rfl ?_; clear hs; intro a w hs
    exact wpList_nil ⟨rfl, _, _, hs0, .r, hs, rfl⟩
   ·
    intro a_ w_ R_ rest_ vs59 hm hs ht hx
    replace hs : St _ _ _ (feet []) [] _ _ := hs
    have hm0 := hm.mid
    have t0 := ht 0 (twB_spec 12 _ (by kernel_rfl))
    have e0 : _ = some (vs59 0) := t0.val rfl
    rw [show vs59 0 = .int .i64 (1) from t0.2.1] at e0
    replace hs := hs.learn e0
    have t1 := ht 1 (twB_spec 12 _ (by kernel_rfl))
    have e1 : _ = some (vs59 1) := t1.val rfl
    rw [show vs59 1 = .pointer (some ⟨g3, 1, none⟩) from t1.2.1] at e1
    replace hs := hs.learn e1
    have hs0 := hs.bare
    refine st_iaB hs rfl rfl Try.underlying22 (by decide) (by decide) Try.sizeOf2 (o' := 2) rfl rfl ?_; clear hs; intro a w hs
    exact wpList_nil ⟨rfl, _, _, hs0, (.c (.c .r)), hs, rfl⟩
   ·
    intro a_ w_ R_ rest_ vs59 hm hs ht hx
    replace hs : St _ _ _ (feet []) [] _ _ := hs
    have hm0 := hm.mid
    have t2 := ht 2 (twB_spec 12 _ (by kernel_rfl))
    have e2 : _ = some (vs59 2) := t2.val rfl
    rw [show vs59 2 = .pointer (some ⟨g3, 2, none⟩) from t2.2.1] at e2
    replace hs := hs.learn e2
    have hs0 := hs.bare
    refine st_ldE hs rfl (hm.own (List.mem_append.2 (.inr (hx 11 (twB_spec 12 _ (by kernel_rfl)) _ (List.Mem.head _))))) (.s (.s .z)) Try.isAgg2 rfl ?_; clear hs; intro a w hs
    exact wpList_nil ⟨rfl, _, _, hs0, (.c .r), hs, rfl⟩
   ·
    intro a_ w_ R_ rest_ vs59 hm hs ht hx
    replace hs : St _ _ _ (feet []) [] _ _ := hs
    have hm0 := hm.mid
    have hs0 := hs.bare
    refine st_mv hs rfl rfl ?_; clear hs; intro a w hs
    exact wpList_nil ⟨rfl, _, _, hs0, .r, hs, rfl⟩
   ·
    intro a_ w_ R_ rest_ vs59 hm hs ht hx
    replace hs : St _ _ _ (feet []) [] _ _ := hs
    have hm0 := hm.mid
    have hs0 := hs.bare
    refine st_fa hs rfl Try.underlying25 rfl Try.sizeOf22 (by decide) (o := 2) rfl rfl ?_; clear hs; intro a w hs
    exact wpList_nil ⟨rfl, _, _, hs0, .r, hs, rfl⟩
   ·
    intro a_ w_ R_ rest_ vs59 hm hs ht hx
    replace hs : St _ _ _ (feet []) [] _ _ := hs
    have hm0 := hm.mid
    have t4 := ht 4 (twB_spec 12 _ (by kernel_rfl))
    have e4 : _ = some (vs59 4) := t4.val rfl
    rw [show vs59 4 = .int .i64 (1) from t4.2.1] at e4
    replace hs := hs.learn e4
    have t5 := ht 5 (twB_spec 12 _ (by kernel_rfl))
    have e5 : _ = some (vs59 5) := t5.val rfl
    rw [show vs59 5 = .pointer (some ⟨g4, 2, none⟩) from t5.2.1] at e5
    replace hs := hs.learn e5
    have hs0 := hs.bare
    refine st_iaB hs rfl rfl Try.underlying22 (by decide) (by decide) Try.sizeOf2 (o' := 3) rfl rfl ?_; clear hs; intro a w hs
    exact wpList_nil ⟨rfl, _, _, hs0, (.c (.c .r)), hs, rfl⟩
   ·
    intro a_ w_ R_ rest_ vs59 hm hs ht hx
    replace hs : St _ _ _ (feet []) [] _ _ := hs
    have hm0 := hm.mid
    have t6 := ht 6 (twB_spec 12 _ (by kernel_rfl))
    have e6 : _ = some (vs59 6) := t6.val rfl
    rw [show vs59 6 = .pointer (some ⟨g4, 3, none⟩) from t6.2.1] at e6
    replace hs := hs.learn e6
    have hs0 := hs.bare
    refine st_ldE hs rfl (hm0.del (.s .z)) (.s (.s (.s .z))) Try.isAgg2 rfl ?_; clear hs; intro a w hs
    exact wpList_nil ⟨rfl, _, _, hs0, (.c .r), hs, rfl⟩
   ·
    intro a_ w_ R_ rest_ vs59 hm hs ht hx
    replace hs : St _ _ _ (feet []) [] _ _ := hs
    have hm0 := hm.mid
    have t3 := ht 3 (twB_spec 12 _ (by kernel_rfl))
    have e3 : _ = some (vs59 3) := t3.val rfl
    rw [show vs59 3 = .int .i64 (ea.p1) from t3.2.1] at e3
    replace hs := hs.learn e3
    have t7 := ht 7 (twB_spec 12 _ (by kernel_rfl))
    have e7 : _ = some (vs59 7) := t7.val rfl
    rw [show vs59 7 = .int .i64 (r.p1) from t7.2.1] at e7
    replace hs := hs.learn e7
    have hs0 := hs.bare
    refine st_add hs rfl rfl rfl ?_; clear hs; intro a w hs
    exact wpList_nil ⟨rfl, _, _, hs0, (.c (.c .r)), hs, rfl⟩
   ·
    intro a_ w_ R_ rest_ vs59 hm hs ht hx
    replace hs : St _ _ _ (feet []) [] _ _ := hs
    have hm0 := hm.mid
    have hs0 := hs.bare
    refine st_fa hs rfl Try.underlying54 rfl Try.sizeOf22 (by decide) (o := 1) rfl rfl ?_; clear hs; intro a w hs
    exact wpList_nil ⟨rfl, _, _, hs0, .r, hs, rfl⟩
   ·
    intro a_ w_ R_ rest_ vs59 hm hs ht hx
    replace hs : St _ _ _ (feet []) [] _ _ := hs
    have hm0 := hm.mid
    have t0 := ht 0 (twB_spec 12 _ (by kernel_rfl))
    have e0 : _ = some (vs59 0) := t0.val rfl
    rw [show vs59 0 = .int .i64 (1) from t0.2.1] at e0
    replace hs := hs.learn e0
    have t9 := ht 9 (twB_spec 12 _ (by kernel_rfl))
    have e9 : _ = some (vs59 9) := t9.val rfl
    rw [show vs59 9 = .pointer (some ⟨g3, 1, none⟩) from t9.2.1] at e9
    replace hs := hs.learn e9
    have hs0 := hs.bare
    refine st_iaB hs rfl rfl Try.underlying22 (by decide) (by decide) Try.sizeOf2 (o' := 2) rfl rfl ?_; clear hs; intro a w hs
    exact wpList_nil ⟨rfl, _, _, hs0, (.c (.c .r)), hs, rfl⟩
   intro a_ w_ R_ rest_ vs59 hm hs ht hx
   replace hs : St _ _ _ (feet [blk g3 [.int .i64 (ea.id), .int .i64 (IntKind.i64.wrap (ea.p0 + r.p0)), .int .i64 (ea.p1), .int .i64 (ea.p2), .int .i64 (IntKind.i64.wrap (ea.v0 + r.v0)), .int .i64 (ea.v1), .int .i64 (ea.v2), .int .u16 ((((ea.a).toNat : Nat) : Int)), .int .u8 ((((ea.g).toNat : Nat) : Int))] 54]) [blk g3 [.int .i64 (ea.id), .int .i64 (IntKind.i64.wrap (ea.p0 + r.p0)), .int .i64 (ea.p1), .int .i64 (ea.p2), .int .i64 (IntKind.i64.wrap (ea.v0 + r.v0)), .int .i64 (ea.v1), .int .i64 (ea.v2), .int .u16 ((((ea.a).toNat : Nat) : Int)), .int .u8 ((((ea.g).toNat : Nat) : Int))] 54] _ _ := hs
   have hm0 := hm.mid
   have t8 := ht 8 (twB_spec 12 _ (by kernel_rfl))
   have e8 : _ = some (vs59 8) := t8.val rfl
   rw [show vs59 8 = .int .i64 (IntKind.i64.wrap (ea.p1 + r.p1)) from t8.2.1] at e8
   replace hs := hs.learn e8
   have t10 := ht 10 (twB_spec 12 _ (by kernel_rfl))
   have e10 : _ = some (vs59 10) := t10.val rfl
   rw [show vs59 10 = .pointer (some ⟨g3, 2, none⟩) from t10.2.1] at e10
   replace hs := hs.learn e10
   have hs0 := hs.bare
   refine st_stB hs rfl rfl .z (.s (.s .z)) rfl Try.sizeOf2 ?_; clear hs; intro a w hs
   exact wpList_nil ⟨rfl, .tuple #[], _, hs0, (.c (.c .r)), hs, trivial⟩
  clear hs w a; intro a w vs59 hs hf
  replace hs : St _ _ _ _ [blk g5 [.int .i64 (0), .int .i64 (0), .int .i64 (0), .int .i64 (0), .int .i64 (0), .int .i64 (0), .int .i64 (0), .int .u16 (0), .int .u8 (0)] 54, blk g4 [.int .i64 (r.k), .int .i64 (r.id), .int .i64 (r.p0), .int .i64 (r.p1), .int .i64 (r.p2), .int .i64 (r.v0), .int .i64 (r.v1), .int .i64 (r.v2), .int .u16 ((((r.a).toNat : Nat) : Int))] 25, blk g3 [.int .i64 (ea.id), .int .i64 (IntKind.i64.wrap (ea.p0 + r.p0)), .int .i64 (IntKind.i64.wrap (ea.p1 + r.p1)), .int .i64 (ea.p2), .int .i64 (IntKind.i64.wrap (ea.v0 + r.v0)), .int .i64 (ea.v1), .int .i64 (ea.v2), .int .u16 ((((ea.a).toNat : Nat) : Int)), .int .u8 ((((ea.g).toNat : Nat) : Int))] 54] _ _ := hs
  clear hf
  refine then_n (hK58 _ _ ?_)
  replace hs := hs.sub (F' := [(7, .int .i64 (1)), (49, .int .i64 (1)), (48, .bool (true)), (47, .int .i64 (1)), (72, .int .i64 (1)), (5, .int .i64 (0)), (4, .pointer (some ⟨g5, 0, none⟩)), (3, .pointer (some ⟨g4, 0, none⟩)), (2, .pointer (some ⟨g3, 0, none⟩))]) (.c rfl (.c rfl (.c rfl (.c rfl (.c rfl (.c rfl (.c rfl (.c rfl (.c rfl .n)))))))))
  refine wp_drawG (M0 := [blk g5 [.int .i64 (0), .int .i64 (0), .int .i64 (0), .int .i64 (0), .int .i64 (0), .int .i64 (0), .int .i64 (0), .int .u16 (0), .int .u8 (0)] 54, blk g4 [.int .i64 (r.k), .int .i64 (r.id), .int .i64 (r.p0), .int .i64 (r.p1), .int .i64 (r.p2), .int .i64 (r.v0), .int .i64 (r.v1), .int .i64 (r.v2), .int .u16 ((((r.a).toNat : Nat) : Int))] 25]) (Ds := [⟨[], [], [], fun vs60 => vs60 0 = .int .i64 (1), fun vs60 => []⟩, ⟨[], [], [], fun vs60 => vs60 1 = .pointer (some ⟨g3, 4, none⟩), fun vs60 => []⟩, ⟨[], [], [], fun vs60 => vs60 2 = .pointer (some ⟨g3, 5, none⟩), fun vs60 => []⟩, ⟨[], [], [], fun vs60 => vs60 3 = .int .i64 (ea.v1), fun vs60 => []⟩, ⟨[], [], [], fun vs60 => vs60 4 = .int .i64 (1), fun vs60 => []⟩, ⟨[], [], [], fun vs60 => vs60 5 = .pointer (some ⟨g4, 5, none⟩), fun vs60 => []⟩, ⟨[], [], [], fun vs60 => vs60 6 = .pointer (some ⟨g4, 6, none⟩), fun vs60 => []⟩, ⟨[], [], [], fun vs60 => vs60 7 = .int .i64 (r.v1), fun vs60 => []⟩, ⟨[], [], [], fun vs60 => vs60 8 = .int .i64 (IntKind.i64.wrap (ea.v1 + r.v1)), fun vs60 => []⟩, ⟨[], [], [], fun vs60 => vs60 9 = .pointer (some ⟨g3, 4, none⟩), fun vs60 => []⟩, ⟨[], [], [], fun vs60 => vs60 10 = .pointer (some ⟨g3, 5, none⟩), fun vs60 => []⟩, ⟨[blk g3 [.int .i64 (ea.id), .int .i64 (IntKind.i64.wrap (ea.p0 + r.p0)), .int .i64 (IntKind.i64.wrap (ea.p1 + r.p1)), .int .i64 (ea.p2), .int .i64 (IntKind.i64.wrap (ea.v0 + r.v0)), .int .i64 (ea.v1), .int .i64 (ea.v2), .int .u16 ((((ea.a).toNat : Nat) : Int)), .int .u8 ((((ea.g).toNat : Nat) : Int))] 54], [], [], fun vs60 => True, fun vs60 => [blk g3 [.int .i64 (ea.id), .int .i64 (IntKind.i64.wrap (ea.p0 + r.p0)), .int .i64 (IntKind.i64.wrap (ea.p1 + r.p1)), .int .i64 (ea.p2), .int .i64 (IntKind.i64.wrap (ea.v0 + r.v0)), .int .i64 (IntKind.i64.wrap (ea.v1 + r.v1)), .int .i64 (ea.v2), .int .u16 ((((ea.a).toNat : Nat) : Int)), .int .u8 ((((ea.g).toNat : Nat) : Int))] 54]⟩]) (by kernel_rfl) hs rfl (.c (.s (.s .z)) .n) (by kernel_rfl) (by kernel_rfl) ?_ ?_
  ·
   refine (.c ?_ (.c ?_ (.c ?_ (.c ?_ (.c ?_ (.c ?_ (.c ?_ (.c ?_ (.c ?_ (.c ?_ (.c ?_ (.c ?_ .n))))))))))))
   ·
    intro a_ w_ R_ rest_ vs60 hm hs ht hx
    replace hs : St _ _ _ (feet []) [] _ _ := hs
    have hm0 := hm.mid
    have hs0 := hs.bare
    refine st_mv hs rfl rfl ?_; clear hs; intro a w hs
    exact wpList_nil ⟨rfl, _, _, hs0, .r, hs, rfl⟩
   ·
    intro a_ w_ R_ rest_ vs60 hm hs ht hx
    replace hs : St _ _ _ (feet []) [] _ _ := hs
    have hm0 := hm.mid
    have hs0 := hs.bare
    refine st_fa hs rfl Try.underlying54 rfl Try.sizeOf22 (by decide) (o := 4) rfl rfl ?_; clear hs; intro a w hs
    exact wpList_nil ⟨rfl, _, _, hs0, .r, hs, rfl⟩
   ·
    intro a_ w_ R_ rest_ vs60 hm hs ht hx
    replace hs : St _ _ _ (feet []) [] _ _ := hs
    have hm0 := hm.mid
    have t0 := ht 0 (twB_spec 12 _ (by kernel_rfl))
    have e0 : _ = some (vs60 0) := t0.val rfl
    rw [show vs60 0 = .int .i64 (1) from t0.2.1] at e0
    replace hs := hs.learn e0
    have t1 := ht 1 (twB_spec 12 _ (by kernel_rfl))
    have e1 : _ = some (vs60 1) := t1.val rfl
    rw [show vs60 1 = .pointer (some ⟨g3, 4, none⟩) from t1.2.1] at e1
    replace hs := hs.learn e1
    have hs0 := hs.bare
    refine st_iaB hs rfl rfl Try.underlying22 (by decide) (by decide) Try.sizeOf2 (o' := 5) rfl rfl ?_; clear hs; intro a w hs
    exact wpList_nil ⟨rfl, _, _, hs0, (.c (.c .r)), hs, rfl⟩
   ·
    intro a_ w_ R_ rest_ vs60 hm hs ht hx
    replace hs : St _ _ _ (feet []) [] _ _ := hs
    have hm0 := hm.mid
    have t2 := ht 2 (twB_spec 12 _ (by kernel_rfl))
    have e2 : _ = some (vs60 2) := t2.val rfl
    rw [show vs60 2 = .pointer (some ⟨g3, 5, none⟩) from t2.2.1] at e2
    replace hs := hs.learn e2
    have hs0 := hs.bare
    refine st_ldE hs rfl (hm.own (List.mem_append.2 (.inr (hx 11 (twB_spec 12 _ (by kernel_rfl)) _ (List.Mem.head _))))) (.s (.s (.s (.s (.s .z))))) Try.isAgg2 rfl ?_; clear hs; intro a w hs
    exact wpList_nil ⟨rfl, _, _, hs0, (.c .r), hs, rfl⟩
   ·
    intro a_ w_ R_ rest_ vs60 hm hs ht hx
    replace hs : St _ _ _ (feet []) [] _ _ := hs
    have hm0 := hm.mid
    have hs0 := hs.bare
    refine st_mv hs rfl rfl ?_; clear hs; intro a w hs
    exact wpList_nil ⟨rfl, _, _, hs0, .r, hs, rfl⟩
   ·
    intro a_ w_ R_ rest_ vs60 hm hs ht hx
    replace hs : St _ _ _ (feet []) [] _ _ := hs
    have hm0 := hm.mid
    have hs0 := hs.bare
    refine st_fa hs rfl Try.underlying25 rfl Try.sizeOf22 (by decide) (o := 5) rfl rfl ?_; clear hs; intro a w hs
    exact wpList_nil ⟨rfl, _, _, hs0, .r, hs, rfl⟩
   ·
    intro a_ w_ R_ rest_ vs60 hm hs ht hx
    replace hs : St _ _ _ (feet []) [] _ _ := hs
    have hm0 := hm.mid
    have t4 := ht 4 (twB_spec 12 _ (by kernel_rfl))
    have e4 : _ = some (vs60 4) := t4.val rfl
    rw [show vs60 4 = .int .i64 (1) from t4.2.1] at e4
    replace hs := hs.learn e4
    have t5 := ht 5 (twB_spec 12 _ (by kernel_rfl))
    have e5 : _ = some (vs60 5) := t5.val rfl
    rw [show vs60 5 = .pointer (some ⟨g4, 5, none⟩) from t5.2.1] at e5
    replace hs := hs.learn e5
    have hs0 := hs.bare
    refine st_iaB hs rfl rfl Try.underlying22 (by decide) (by decide) Try.sizeOf2 (o' := 6) rfl rfl ?_; clear hs; intro a w hs
    exact wpList_nil ⟨rfl, _, _, hs0, (.c (.c .r)), hs, rfl⟩
   ·
    intro a_ w_ R_ rest_ vs60 hm hs ht hx
    replace hs : St _ _ _ (feet []) [] _ _ := hs
    have hm0 := hm.mid
    have t6 := ht 6 (twB_spec 12 _ (by kernel_rfl))
    have e6 : _ = some (vs60 6) := t6.val rfl
    rw [show vs60 6 = .pointer (some ⟨g4, 6, none⟩) from t6.2.1] at e6
    replace hs := hs.learn e6
    have hs0 := hs.bare
    refine st_ldE hs rfl (hm0.del (.s .z)) (.s (.s (.s (.s (.s (.s .z)))))) Try.isAgg2 rfl ?_; clear hs; intro a w hs
    exact wpList_nil ⟨rfl, _, _, hs0, (.c .r), hs, rfl⟩
   ·
    intro a_ w_ R_ rest_ vs60 hm hs ht hx
    replace hs : St _ _ _ (feet []) [] _ _ := hs
    have hm0 := hm.mid
    have t3 := ht 3 (twB_spec 12 _ (by kernel_rfl))
    have e3 : _ = some (vs60 3) := t3.val rfl
    rw [show vs60 3 = .int .i64 (ea.v1) from t3.2.1] at e3
    replace hs := hs.learn e3
    have t7 := ht 7 (twB_spec 12 _ (by kernel_rfl))
    have e7 : _ = some (vs60 7) := t7.val rfl
    rw [show vs60 7 = .int .i64 (r.v1) from t7.2.1] at e7
    replace hs := hs.learn e7
    have hs0 := hs.bare
    refine st_add hs rfl rfl rfl ?_; clear hs; intro a w hs
    exact wpList_nil ⟨rfl, _, _, hs0, (.c (.c .r)), hs, rfl⟩
   ·
    intro a_ w_ R_ rest_ vs60 hm hs ht hx
    replace hs : St _ _ _ (feet []) [] _ _ := hs
    have hm0 := hm.mid
    have hs0 := hs.bare
    refine st_fa hs rfl Try.underlying54 rfl Try.sizeOf22 (by decide) (o := 4) rfl rfl ?_; clear hs; intro a w hs
    exact wpList_nil ⟨rfl, _, _, hs0, .r, hs, rfl⟩
   ·
    intro a_ w_ R_ rest_ vs60 hm hs ht hx
    replace hs : St _ _ _ (feet []) [] _ _ := hs
    have hm0 := hm.mid
    have t0 := ht 0 (twB_spec 12 _ (by kernel_rfl))
    have e0 : _ = some (vs60 0) := t0.val rfl
    rw [show vs60 0 = .int .i64 (1) from t0.2.1] at e0
    replace hs := hs.learn e0
    have t9 := ht 9 (twB_spec 12 _ (by kernel_rfl))
    have e9 : _ = some (vs60 9) := t9.val rfl
    rw [show vs60 9 = .pointer (some ⟨g3, 4, none⟩) from t9.2.1] at e9
    replace hs := hs.learn e9
    have hs0 := hs.bare
    refine st_iaB hs rfl rfl Try.underlying22 (by decide) (by decide) Try.sizeOf2 (o' := 5) rfl rfl ?_; clear hs; intro a w hs
    exact wpList_nil ⟨rfl, _, _, hs0, (.c (.c .r)), hs, rfl⟩
   intro a_ w_ R_ rest_ vs60 hm hs ht hx
   replace hs : St _ _ _ (feet [blk g3 [.int .i64 (ea.id), .int .i64 (IntKind.i64.wrap (ea.p0 + r.p0)), .int .i64 (IntKind.i64.wrap (ea.p1 + r.p1)), .int .i64 (ea.p2), .int .i64 (IntKind.i64.wrap (ea.v0 + r.v0)), .int .i64 (ea.v1), .int .i64 (ea.v2), .int .u16 ((((ea.a).toNat : Nat) : Int)), .int .u8 ((((ea.g).toNat : Nat) : Int))] 54]) [blk g3 [.int .i64 (ea.id), .int .i64 (IntKind.i64.wrap (ea.p0 + r.p0)), .int .i64 (IntKind.i64.wrap (ea.p1 + r.p1)), .int .i64 (ea.p2), .int .i64 (IntKind.i64.wrap (ea.v0 + r.v0)), .int .i64 (ea.v1), .int .i64 (ea.v2), .int .u16 ((((ea.a).toNat : Nat) : Int)), .int .u8 ((((ea.g).toNat : Nat) : Int))] 54] _ _ := hs
   have hm0 := hm.mid
   have t8 := ht 8 (twB_spec 12 _ (by kernel_rfl))
   have e8 : _ = some (vs60 8) := t8.val rfl
   rw [show vs60 8 = .int .i64 (IntKind.i64.wrap (ea.v1 + r.v1)) from t8.2.1] at e8
   replace hs := hs.learn e8
   have t10 := ht 10 (twB_spec 12 _ (by kernel_rfl))
   have e10 : _ = some (vs60 10) := t10.val rfl
   rw [show vs60 10 = .pointer (some ⟨g3, 5, none⟩) from t10.2.1] at e10
   replace hs := hs.learn e10
   have hs0 := hs.bare
   refine st_stB hs rfl rfl .z (.s (.s (.s (.s (.s .z))))) rfl Try.sizeOf2 ?_; clear hs; intro a w hs
   exact wpList_nil ⟨rfl, .tuple #[], _, hs0, (.c (.c .r)), hs, trivial⟩
  clear hs w a; intro a w vs60 hs hf
  replace hs : St _ _ _ _ [blk g5 [.int .i64 (0), .int .i64 (0), .int .i64 (0), .int .i64 (0), .int .i64 (0), .int .i64 (0), .int .i64 (0), .int .u16 (0), .int .u8 (0)] 54, blk g4 [.int .i64 (r.k), .int .i64 (r.id), .int .i64 (r.p0), .int .i64 (r.p1), .int .i64 (r.p2), .int .i64 (r.v0), .int .i64 (r.v1), .int .i64 (r.v2), .int .u16 ((((r.a).toNat : Nat) : Int))] 25, blk g3 [.int .i64 (ea.id), .int .i64 (IntKind.i64.wrap (ea.p0 + r.p0)), .int .i64 (IntKind.i64.wrap (ea.p1 + r.p1)), .int .i64 (ea.p2), .int .i64 (IntKind.i64.wrap (ea.v0 + r.v0)), .int .i64 (IntKind.i64.wrap (ea.v1 + r.v1)), .int .i64 (ea.v2), .int .u16 ((((ea.a).toNat : Nat) : Int)), .int .u8 ((((ea.g).toNat : Nat) : Int))] 54] _ _ := hs
  clear hf
  refine in_n ?_
  refine then_n (hK54 _ _ ?_)
  refine wp_region_lit ?_
  refine st_addR hs rfl rfl (by omega) rfl ?_; clear hs w a; intro a w hs
  rw [show (1 + 1 : Int) = 2 by rfl] at hs
  refine st_mv hs rfl rfl ?_; clear hs w a; intro a w hs
  refine wpList_nil ?_
  refine then_n ?_
  refine rounds_in ?_
  refine wp_seq_k fun K61 hK62 => ?_
  refine wp_region_lit ?_
  refine st_lss hs rfl rfl rfl ?_; clear hs w a; intro a w hs
  rw [show (decide ((2 : Int) < 3)) = true from by decide] at hs
  refine wpList_nil ?_
  refine then_n (hK62 _ _ ?_)
  refine wp_seq_k fun K63 hK64 => ?_
  refine wp_cond_true (hs.ev rfl) ?_
  refine wp_skip ?_
  refine then_n (hK64 _ _ ?_)
  refine wp_seq_k fun K65 hK66 => ?_
  refine wp_block ?_
  refine wp_seq_k fun K67 hK68 => ?_
  refine wp_region_lit ?_
  refine st_mv hs rfl rfl ?_; clear hs w a; intro a w hs
  refine st_as hs rfl rfl ?_; clear hs w a; intro a w hs
  refine wpList_nil ?_
  refine then_n (hK68 _ _ ?_)
  refine wp_seq_k fun K69 hK70 => ?_
  replace hs := hs.sub (F' := [(7, .int .i64 (2)), (49, .int .i64 (2)), (48, .bool (true)), (47, .int .i64 (2)), (72, .int .i64 (2)), (5, .int .i64 (0)), (4, .pointer (some ⟨g5, 0, none⟩)), (3, .pointer (some ⟨g4, 0, none⟩)), (2, .pointer (some ⟨g3, 0, none⟩))]) (.c rfl (.c rfl (.c rfl (.c rfl (.c rfl (.c rfl (.c rfl (.c rfl (.c rfl .n)))))))))
  refine wp_drawG (M0 := [blk g5 [.int .i64 (0), .int .i64 (0), .int .i64 (0), .int .i64 (0), .int .i64 (0), .int .i64 (0), .int .i64 (0), .int .u16 (0), .int .u8 (0)] 54, blk g4 [.int .i64 (r.k), .int .i64 (r.id), .int .i64 (r.p0), .int .i64 (r.p1), .int .i64 (r.p2), .int .i64 (r.v0), .int .i64 (r.v1), .int .i64 (r.v2), .int .u16 ((((r.a).toNat : Nat) : Int))] 25]) (Ds := [⟨[], [], [], fun vs71 => vs71 0 = .int .i64 (2), fun vs71 => []⟩, ⟨[], [], [], fun vs71 => vs71 1 = .pointer (some ⟨g3, 1, none⟩), fun vs71 => []⟩, ⟨[], [], [], fun vs71 => vs71 2 = .pointer (some ⟨g3, 3, none⟩), fun vs71 => []⟩, ⟨[], [], [], fun vs71 => vs71 3 = .int .i64 (ea.p2), fun vs71 => []⟩, ⟨[], [], [], fun vs71 => vs71 4 = .int .i64 (2), fun vs71 => []⟩, ⟨[], [], [], fun vs71 => vs71 5 = .pointer (some ⟨g4, 2, none⟩), fun vs71 => []⟩, ⟨[], [], [], fun vs71 => vs71 6 = .pointer (some ⟨g4, 4, none⟩), fun vs71 => []⟩, ⟨[], [], [], fun vs71 => vs71 7 = .int .i64 (r.p2), fun vs71 => []⟩, ⟨[], [], [], fun vs71 => vs71 8 = .int .i64 (IntKind.i64.wrap (ea.p2 + r.p2)), fun vs71 => []⟩, ⟨[], [], [], fun vs71 => vs71 9 = .pointer (some ⟨g3, 1, none⟩), fun vs71 => []⟩, ⟨[], [], [], fun vs71 => vs71 10 = .pointer (some ⟨g3, 3, none⟩), fun vs71 => []⟩, ⟨[blk g3 [.int .i64 (ea.id), .int .i64 (IntKind.i64.wrap (ea.p0 + r.p0)), .int .i64 (IntKind.i64.wrap (ea.p1 + r.p1)), .int .i64 (ea.p2), .int .i64 (IntKind.i64.wrap (ea.v0 + r.v0)), .int .i64 (IntKind.i64.wrap (ea.v1 + r.v1)), .int .i64 (ea.v2), .int .u16 ((((ea.a).toNat : Nat) : Int)), .int .u8 ((((ea.g).toNat : Nat) : Int))] 54], [], [], fun vs71 => True, fun vs71 => [blk g3 [.int .i64 (ea.id), .int .i64 (IntKind.i64.wrap (ea.p0 + r.p0)), .int .i64 (IntKind.i64.wrap (ea.p1 + r.p1)), .int .i64 (IntKind.i64.wrap (ea.p2 + r.p2)), .int .i64 (IntKind.i64.wrap (ea.v0 + r.v0)), .int .i64 (IntKind.i64.wrap (ea.v1 + r.v1)), .int .i64 (ea.v2), .int .u16 ((((ea.a).toNat : Nat) : Int)), .int .u8 ((((ea.g).toNat : Nat) : Int))] 54]⟩]) (by kernel_rfl) hs rfl (.c (.s (.s .z)) .n) (by kernel_rfl) (by kernel_rfl) ?_ ?_
  ·
   refine (.c ?_ (.c ?_ (.c ?_ (.c ?_ (.c ?_ (.c ?_ (.c ?_ (.c ?_ (.c ?_ (.c ?_ (.c ?_ (.c ?_ .n))))))))))))
   ·
    intro a_ w_ R_ rest_ vs71 hm hs ht hx
    replace hs : St _ _ _ (feet []) [] _ _ := hs
    have hm0 := hm.mid
    have hs0 := hs.bare
    refine st_mv hs rfl rfl ?_; clear hs; intro a w hs
    exact wpList_nil ⟨rfl, _, _, hs0, .r, hs, rfl⟩
   ·
    intro a_ w_ R_ rest_ vs71 hm hs ht hx
    replace hs : St _ _ _ (feet []) [] _ _ := hs
    have hm0 := hm.mid
    have hs0 := hs.bare
    refine st_fa hs rfl Try.underlying54 rfl Try.sizeOf22 (by decide) (o := 1) rfl rfl ?_; clear hs; intro a w hs
    exact wpList_nil ⟨rfl, _, _, hs0, .r, hs, rfl⟩
   ·
    intro a_ w_ R_ rest_ vs71 hm hs ht hx
    replace hs : St _ _ _ (feet []) [] _ _ := hs
    have hm0 := hm.mid
    have t0 := ht 0 (twB_spec 12 _ (by kernel_rfl))
    have e0 : _ = some (vs71 0) := t0.val rfl
    rw [show vs71 0 = .int .i64 (2) from t0.2.1] at e0
    replace hs := hs.learn e0
    have t1 := ht 1 (twB_spec 12 _ (by kernel_rfl))
    have e1 : _ = some (vs71 1) := t1.val rfl
    rw [show vs71 1 = .pointer (some ⟨g3, 1, none⟩) from t1.2.1] at e1
    replace hs := hs.learn e1
    have hs0 := hs.bare
    refine st_iaB hs rfl rfl Try.underlying22 (by decide) (by decide) Try.sizeOf2 (o' := 3) rfl rfl ?_; clear hs; intro a w hs
    exact wpList_nil ⟨rfl, _, _, hs0, (.c (.c .r)), hs, rfl⟩
   ·
    intro a_ w_ R_ rest_ vs71 hm hs ht hx
    replace hs : St _ _ _ (feet []) [] _ _ := hs
    have hm0 := hm.mid
    have t2 := ht 2 (twB_spec 12 _ (by kernel_rfl))
    have e2 : _ = some (vs71 2) := t2.val rfl
    rw [show vs71 2 = .pointer (some ⟨g3, 3, none⟩) from t2.2.1] at e2
    replace hs := hs.learn e2
    have hs0 := hs.bare
    refine st_ldE hs rfl (hm.own (List.mem_append.2 (.inr (hx 11 (twB_spec 12 _ (by kernel_rfl)) _ (List.Mem.head _))))) (.s (.s (.s .z))) Try.isAgg2 rfl ?_; clear hs; intro a w hs
    exact wpList_nil ⟨rfl, _, _, hs0, (.c .r), hs, rfl⟩
   ·
    intro a_ w_ R_ rest_ vs71 hm hs ht hx
    replace hs : St _ _ _ (feet []) [] _ _ := hs
    have hm0 := hm.mid
    have hs0 := hs.bare
    refine st_mv hs rfl rfl ?_; clear hs; intro a w hs
    exact wpList_nil ⟨rfl, _, _, hs0, .r, hs, rfl⟩
   ·
    intro a_ w_ R_ rest_ vs71 hm hs ht hx
    replace hs : St _ _ _ (feet []) [] _ _ := hs
    have hm0 := hm.mid
    have hs0 := hs.bare
    refine st_fa hs rfl Try.underlying25 rfl Try.sizeOf22 (by decide) (o := 2) rfl rfl ?_; clear hs; intro a w hs
    exact wpList_nil ⟨rfl, _, _, hs0, .r, hs, rfl⟩
   ·
    intro a_ w_ R_ rest_ vs71 hm hs ht hx
    replace hs : St _ _ _ (feet []) [] _ _ := hs
    have hm0 := hm.mid
    have t4 := ht 4 (twB_spec 12 _ (by kernel_rfl))
    have e4 : _ = some (vs71 4) := t4.val rfl
    rw [show vs71 4 = .int .i64 (2) from t4.2.1] at e4
    replace hs := hs.learn e4
    have t5 := ht 5 (twB_spec 12 _ (by kernel_rfl))
    have e5 : _ = some (vs71 5) := t5.val rfl
    rw [show vs71 5 = .pointer (some ⟨g4, 2, none⟩) from t5.2.1] at e5
    replace hs := hs.learn e5
    have hs0 := hs.bare
    refine st_iaB hs rfl rfl Try.underlying22 (by decide) (by decide) Try.sizeOf2 (o' := 4) rfl rfl ?_; clear hs; intro a w hs
    exact wpList_nil ⟨rfl, _, _, hs0, (.c (.c .r)), hs, rfl⟩
   ·
    intro a_ w_ R_ rest_ vs71 hm hs ht hx
    replace hs : St _ _ _ (feet []) [] _ _ := hs
    have hm0 := hm.mid
    have t6 := ht 6 (twB_spec 12 _ (by kernel_rfl))
    have e6 : _ = some (vs71 6) := t6.val rfl
    rw [show vs71 6 = .pointer (some ⟨g4, 4, none⟩) from t6.2.1] at e6
    replace hs := hs.learn e6
    have hs0 := hs.bare
    refine st_ldE hs rfl (hm0.del (.s .z)) (.s (.s (.s (.s .z)))) Try.isAgg2 rfl ?_; clear hs; intro a w hs
    exact wpList_nil ⟨rfl, _, _, hs0, (.c .r), hs, rfl⟩
   ·
    intro a_ w_ R_ rest_ vs71 hm hs ht hx
    replace hs : St _ _ _ (feet []) [] _ _ := hs
    have hm0 := hm.mid
    have t3 := ht 3 (twB_spec 12 _ (by kernel_rfl))
    have e3 : _ = some (vs71 3) := t3.val rfl
    rw [show vs71 3 = .int .i64 (ea.p2) from t3.2.1] at e3
    replace hs := hs.learn e3
    have t7 := ht 7 (twB_spec 12 _ (by kernel_rfl))
    have e7 : _ = some (vs71 7) := t7.val rfl
    rw [show vs71 7 = .int .i64 (r.p2) from t7.2.1] at e7
    replace hs := hs.learn e7
    have hs0 := hs.bare
    refine st_add hs rfl rfl rfl ?_; clear hs; intro a w hs
    exact wpList_nil ⟨rfl, _, _, hs0, (.c (.c .r)), hs, rfl⟩
   ·
    intro a_ w_ R_ rest_ vs71 hm hs ht hx
    replace hs : St _ _ _ (feet []) [] _ _ := hs
    have hm0 := hm.mid
    have hs0 := hs.bare
    refine st_fa hs rfl Try.underlying54 rfl Try.sizeOf22 (by decide) (o := 1) rfl rfl ?_; clear hs; intro a w hs
    exact wpList_nil ⟨rfl, _, _, hs0, .r, hs, rfl⟩
   ·
    intro a_ w_ R_ rest_ vs71 hm hs ht hx
    replace hs : St _ _ _ (feet []) [] _ _ := hs
    have hm0 := hm.mid
    have t0 := ht 0 (twB_spec 12 _ (by kernel_rfl))
    have e0 : _ = some (vs71 0) := t0.val rfl
    rw [show vs71 0 = .int .i64 (2) from t0.2.1] at e0
    replace hs := hs.learn e0
    have t9 := ht 9 (twB_spec 12 _ (by kernel_rfl))
    have e9 : _ = some (vs71 9) := t9.val rfl
    rw [show vs71 9 = .pointer (some ⟨g3, 1, none⟩) from t9.2.1] at e9
    replace hs := hs.learn e9
    have hs0 := hs.bare
    refine st_iaB hs rfl rfl Try.underlying22 (by decide) (by decide) Try.sizeOf2 (o' := 3) rfl rfl ?_; clear hs; intro a w hs
    exact wpList_nil ⟨rfl, _, _, hs0, (.c (.c .r)), hs, rfl⟩
   intro a_ w_ R_ rest_ vs71 hm hs ht hx
   replace hs : St _ _ _ (feet [blk g3 [.int .i64 (ea.id), .int .i64 (IntKind.i64.wrap (ea.p0 + r.p0)), .int .i64 (IntKind.i64.wrap (ea.p1 + r.p1)), .int .i64 (ea.p2), .int .i64 (IntKind.i64.wrap (ea.v0 + r.v0)), .int .i64 (IntKind.i64.wrap (ea.v1 + r.v1)), .int .i64 (ea.v2), .int .u16 ((((ea.a).toNat : Nat) : Int)), .int .u8 ((((ea.g).toNat : Nat) : Int))] 54]) [blk g3 [.int .i64 (ea.id), .int .i64 (IntKind.i64.wrap (ea.p0 + r.p0)), .int .i64 (IntKind.i64.wrap (ea.p1 + r.p1)), .int .i64 (ea.p2), .int .i64 (IntKind.i64.wrap (ea.v0 + r.v0)), .int .i64 (IntKind.i64.wrap (ea.v1 + r.v1)), .int .i64 (ea.v2), .int .u16 ((((ea.a).toNat : Nat) : Int)), .int .u8 ((((ea.g).toNat : Nat) : Int))] 54] _ _ := hs
   have hm0 := hm.mid
   have t8 := ht 8 (twB_spec 12 _ (by kernel_rfl))
   have e8 : _ = some (vs71 8) := t8.val rfl
   rw [show vs71 8 = .int .i64 (IntKind.i64.wrap (ea.p2 + r.p2)) from t8.2.1] at e8
   replace hs := hs.learn e8
   have t10 := ht 10 (twB_spec 12 _ (by kernel_rfl))
   have e10 : _ = some (vs71 10) := t10.val rfl
   rw [show vs71 10 = .pointer (some ⟨g3, 3, none⟩) from t10.2.1] at e10
   replace hs := hs.learn e10
   have hs0 := hs.bare
   refine st_stB hs rfl rfl .z (.s (.s (.s .z))) rfl Try.sizeOf2 ?_; clear hs; intro a w hs
   exact wpList_nil ⟨rfl, .tuple #[], _, hs0, (.c (.c .r)), hs, trivial⟩
  clear hs w a; intro a w vs71 hs hf
  replace hs : St _ _ _ _ [blk g5 [.int .i64 (0), .int .i64 (0), .int .i64 (0), .int .i64 (0), .int .i64 (0), .int .i64 (0), .int .i64 (0), .int .u16 (0), .int .u8 (0)] 54, blk g4 [.int .i64 (r.k), .int .i64 (r.id), .int .i64 (r.p0), .int .i64 (r.p1), .int .i64 (r.p2), .int .i64 (r.v0), .int .i64 (r.v1), .int .i64 (r.v2), .int .u16 ((((r.a).toNat : Nat) : Int))] 25, blk g3 [.int .i64 (ea.id), .int .i64 (IntKind.i64.wrap (ea.p0 + r.p0)), .int .i64 (IntKind.i64.wrap (ea.p1 + r.p1)), .int .i64 (IntKind.i64.wrap (ea.p2 + r.p2)), .int .i64 (IntKind.i64.wrap (ea.v0 + r.v0)), .int .i64 (IntKind.i64.wrap (ea.v1 + r.v1)), .int .i64 (ea.v2), .int .u16 ((((ea.a).toNat : Nat) : Int)), .int .u8 ((((ea.g).toNat : Nat) : Int))] 54] _ _ := hs
  clear hf
  refine then_n (hK70 _ _ ?_)
  replace hs := hs.sub (F' := [(7, .int .i64 (2)), (49, .int .i64 (2)), (48, .bool (true)), (47, .int .i64 (2)), (72, .int .i64 (2)), (5, .int .i64 (0)), (4, .pointer (some ⟨g5, 0, none⟩)), (3, .pointer (some ⟨g4, 0, none⟩)), (2, .pointer (some ⟨g3, 0, none⟩))]) (.c rfl (.c rfl (.c rfl (.c rfl (.c rfl (.c rfl (.c rfl (.c rfl (.c rfl .n)))))))))
  refine wp_drawG (M0 := [blk g5 [.int .i64 (0), .int .i64 (0), .int .i64 (0), .int .i64 (0), .int .i64 (0), .int .i64 (0), .int .i64 (0), .int .u16 (0), .int .u8 (0)] 54, blk g4 [.int .i64 (r.k), .int .i64 (r.id), .int .i64 (r.p0), .int .i64 (r.p1), .int .i64 (r.p2), .int .i64 (r.v0), .int .i64 (r.v1), .int .i64 (r.v2), .int .u16 ((((r.a).toNat : Nat) : Int))] 25]) (Ds := [⟨[], [], [], fun vs72 => vs72 0 = .int .i64 (2), fun vs72 => []⟩, ⟨[], [], [], fun vs72 => vs72 1 = .pointer (some ⟨g3, 4, none⟩), fun vs72 => []⟩, ⟨[], [], [], fun vs72 => vs72 2 = .pointer (some ⟨g3, 6, none⟩), fun vs72 => []⟩, ⟨[], [], [], fun vs72 => vs72 3 = .int .i64 (ea.v2), fun vs72 => []⟩, ⟨[], [], [], fun vs72 => vs72 4 = .int .i64 (2), fun vs72 => []⟩, ⟨[], [], [], fun vs72 => vs72 5 = .pointer (some ⟨g4, 5, none⟩), fun vs72 => []⟩, ⟨[], [], [], fun vs72 => vs72 6 = .pointer (some ⟨g4, 7, none⟩), fun vs72 => []⟩, ⟨[], [], [], fun vs72 => vs72 7 = .int .i64 (r.v2), fun vs72 => []⟩, ⟨[], [], [], fun vs72 => vs72 8 = .int .i64 (IntKind.i64.wrap (ea.v2 + r.v2)), fun vs72 => []⟩, ⟨[], [], [], fun vs72 => vs72 9 = .pointer (some ⟨g3, 4, none⟩), fun vs72 => []⟩, ⟨[], [], [], fun vs72 => vs72 10 = .pointer (some ⟨g3, 6, none⟩), fun vs72 => []⟩, ⟨[blk g3 [.int .i64 (ea.id), .int .i64 (IntKind.i64.wrap (ea.p0 + r.p0)), .int .i64 (IntKind.i64.wrap (ea.p1 + r.p1)), .int .i64 (IntKind.i64.wrap (ea.p2 + r.p2)), .int .i64 (IntKind.i64.wrap (ea.v0 + r.v0)), .int .i64 (IntKind.i64.wrap (ea.v1 + r.v1)), .int .i64 (ea.v2), .int .u16 ((((ea.a).toNat : Nat) : Int)), .int .u8 ((((ea.g).toNat : Nat) : Int))] 54], [], [], fun vs72 => True, fun vs72 => [blk g3 [.int .i64 (ea.id), .int .i64 (IntKind.i64.wrap (ea.p0 + r.p0)), .int .i64 (IntKind.i64.wrap (ea.p1 + r.p1)), .int .i64 (IntKind.i64.wrap (ea.p2 + r.p2)), .int .i64 (IntKind.i64.wrap (ea.v0 + r.v0)), .int .i64 (IntKind.i64.wrap (ea.v1 + r.v1)), .int .i64 (IntKind.i64.wrap (ea.v2 + r.v2)), .int .u16 ((((ea.a).toNat : Nat) : Int)), .int .u8 ((((ea.g).toNat : Nat) : Int))] 54]⟩]) (by kernel_rfl) hs rfl (.c (.s (.s .z)) .n) (by kernel_rfl) (by kernel_rfl) ?_ ?_
  ·
   refine (.c ?_ (.c ?_ (.c ?_ (.c ?_ (.c ?_ (.c ?_ (.c ?_ (.c ?_ (.c ?_ (.c ?_ (.c ?_ (.c ?_ .n))))))))))))
   ·
    intro a_ w_ R_ rest_ vs72 hm hs ht hx
    replace hs : St _ _ _ (feet []) [] _ _ := hs
    have hm0 := hm.mid
    have hs0 := hs.bare
    refine st_mv hs rfl rfl ?_; clear hs; intro a w hs
    exact wpList_nil ⟨rfl, _, _, hs0, .r, hs, rfl⟩
   ·
    intro a_ w_ R_ rest_ vs72 hm hs ht hx
    replace hs : St _ _ _ (feet []) [] _ _ := hs
    have hm0 := hm.mid
    have hs0 := hs.bare
    refine st_fa hs rfl Try.underlying54 rfl Try.sizeOf22 (by decide) (o := 4) rfl rfl ?_; clear hs; intro a w hs
    exact wpList_nil ⟨rfl, _, _, hs0, .r, hs, rfl⟩
   ·
    intro a_ w_ R_ rest_ vs72 hm hs ht hx
    replace hs : St _ _ _ (feet []) [] _ _ := hs
    have hm0 := hm.mid
    have t0 := ht 0 (twB_spec 12 _ (by kernel_rfl))
    have e0 : _ = some (vs72 0) := t0.val rfl
    rw [show vs72 0 = .int .i64 (2) from t0.2.1] at e0
    replace hs := hs.learn e0
    have t1 := ht 1 (twB_spec 12 _ (by kernel_rfl))
    have e1 : _ = some (vs72 1) := t1.val rfl
    rw [show vs72 1 = .pointer (some ⟨g3, 4, none⟩) from t1.2.1] at e1
    replace hs := hs.learn e1
    have hs0 := hs.bare
    refine st_iaB hs rfl rfl Try.underlying22 (by decide) (by decide) Try.sizeOf2 (o' := 6) rfl rfl ?_; clear hs; intro a w hs
    exact wpList_nil ⟨rfl, _, _, hs0, (.c (.c .r)), hs, rfl⟩
   ·
    intro a_ w_ R_ rest_ vs72 hm hs ht hx
    replace hs : St _ _ _ (feet []) [] _ _ := hs
    have hm0 := hm.mid
    have t2 := ht 2 (twB_spec 12 _ (by kernel_rfl))
    have e2 : _ = some (vs72 2) := t2.val rfl
    rw [show vs72 2 = .pointer (some ⟨g3, 6, none⟩) from t2.2.1] at e2
    replace hs := hs.learn e2
    have hs0 := hs.bare
    refine st_ldE hs rfl (hm.own (List.mem_append.2 (.inr (hx 11 (twB_spec 12 _ (by kernel_rfl)) _ (List.Mem.head _))))) (.s (.s (.s (.s (.s (.s .z)))))) Try.isAgg2 rfl ?_; clear hs; intro a w hs
    exact wpList_nil ⟨rfl, _, _, hs0, (.c .r), hs, rfl⟩
   ·
    intro a_ w_ R_ rest_ vs72 hm hs ht hx
    replace hs : St _ _ _ (feet []) [] _ _ := hs
    have hm0 := hm.mid
    have hs0 := hs.bare
    refine st_mv hs rfl rfl ?_; clear hs; intro a w hs
    exact wpList_nil ⟨rfl, _, _, hs0, .r, hs, rfl⟩
   ·
    intro a_ w_ R_ rest_ vs72 hm hs ht hx
    replace hs : St _ _ _ (feet []) [] _ _ := hs
    have hm0 := hm.mid
    have hs0 := hs.bare
    refine st_fa hs rfl Try.underlying25 rfl Try.sizeOf22 (by decide) (o := 5) rfl rfl ?_; clear hs; intro a w hs
    exact wpList_nil ⟨rfl, _, _, hs0, .r, hs, rfl⟩
   ·
    intro a_ w_ R_ rest_ vs72 hm hs ht hx
    replace hs : St _ _ _ (feet []) [] _ _ := hs
    have hm0 := hm.mid
    have t4 := ht 4 (twB_spec 12 _ (by kernel_rfl))
    have e4 : _ = some (vs72 4) := t4.val rfl
    rw [show vs72 4 = .int .i64 (2) from t4.2.1] at e4
    replace hs := hs.learn e4
    have t5 := ht 5 (twB_spec 12 _ (by kernel_rfl))
    have e5 : _ = some (vs72 5) := t5.val rfl
    rw [show vs72 5 = .pointer (some ⟨g4, 5, none⟩) from t5.2.1] at e5
    replace hs := hs.learn e5
    have hs0 := hs.bare
    refine st_iaB hs rfl rfl Try.underlying22 (by decide) (by decide) Try.sizeOf2 (o' := 7) rfl rfl ?_; clear hs; intro a w hs
    exact wpList_nil ⟨rfl, _, _, hs0, (.c (.c .r)), hs, rfl⟩
   ·
    intro a_ w_ R_ rest_ vs72 hm hs ht hx
    replace hs : St _ _ _ (feet []) [] _ _ := hs
    have hm0 := hm.mid
    have t6 := ht 6 (twB_spec 12 _ (by kernel_rfl))
    have e6 : _ = some (vs72 6) := t6.val rfl
    rw [show vs72 6 = .pointer (some ⟨g4, 7, none⟩) from t6.2.1] at e6
    replace hs := hs.learn e6
    have hs0 := hs.bare
    refine st_ldE hs rfl (hm0.del (.s .z)) (.s (.s (.s (.s (.s (.s (.s .z))))))) Try.isAgg2 rfl ?_; clear hs; intro a w hs
    exact wpList_nil ⟨rfl, _, _, hs0, (.c .r), hs, rfl⟩
   ·
    intro a_ w_ R_ rest_ vs72 hm hs ht hx
    replace hs : St _ _ _ (feet []) [] _ _ := hs
    have hm0 := hm.mid
    have t3 := ht 3 (twB_spec 12 _ (by kernel_rfl))
    have e3 : _ = some (vs72 3) := t3.val rfl
    rw [show vs72 3 = .int .i64 (ea.v2) from t3.2.1] at e3
    replace hs := hs.learn e3
    have t7 := ht 7 (twB_spec 12 _ (by kernel_rfl))
    have e7 : _ = some (vs72 7) := t7.val rfl
    rw [show vs72 7 = .int .i64 (r.v2) from t7.2.1] at e7
    replace hs := hs.learn e7
    have hs0 := hs.bare
    refine st_add hs rfl rfl rfl ?_; clear hs; intro a w hs
    exact wpList_nil ⟨rfl, _, _, hs0, (.c (.c .r)), hs, rfl⟩
   ·
    intro a_ w_ R_ rest_ vs72 hm hs ht hx
    replace hs : St _ _ _ (feet []) [] _ _ := hs
    have hm0 := hm.mid
    have hs0 := hs.bare
    refine st_fa hs rfl Try.underlying54 rfl Try.sizeOf22 (by decide) (o := 4) rfl rfl ?_; clear hs; intro a w hs
    exact wpList_nil ⟨rfl, _, _, hs0, .r, hs, rfl⟩
   ·
    intro a_ w_ R_ rest_ vs72 hm hs ht hx
    replace hs : St _ _ _ (feet []) [] _ _ := hs
    have hm0 := hm.mid
    have t0 := ht 0 (twB_spec 12 _ (by kernel_rfl))
    have e0 : _ = some (vs72 0) := t0.val rfl
    rw [show vs72 0 = .int .i64 (2) from t0.2.1] at e0
    replace hs := hs.learn e0
    have t9 := ht 9 (twB_spec 12 _ (by kernel_rfl))
    have e9 : _ = some (vs72 9) := t9.val rfl
    rw [show vs72 9 = .pointer (some ⟨g3, 4, none⟩) from t9.2.1] at e9
    replace hs := hs.learn e9
    have hs0 := hs.bare
    refine st_iaB hs rfl rfl Try.underlying22 (by decide) (by decide) Try.sizeOf2 (o' := 6) rfl rfl ?_; clear hs; intro a w hs
    exact wpList_nil ⟨rfl, _, _, hs0, (.c (.c .r)), hs, rfl⟩
   intro a_ w_ R_ rest_ vs72 hm hs ht hx
   replace hs : St _ _ _ (feet [blk g3 [.int .i64 (ea.id), .int .i64 (IntKind.i64.wrap (ea.p0 + r.p0)), .int .i64 (IntKind.i64.wrap (ea.p1 + r.p1)), .int .i64 (IntKind.i64.wrap (ea.p2 + r.p2)), .int .i64 (IntKind.i64.wrap (ea.v0 + r.v0)), .int .i64 (IntKind.i64.wrap (ea.v1 + r.v1)), .int .i64 (ea.v2), .int .u16 ((((ea.a).toNat : Nat) : Int)), .int .u8 ((((ea.g).toNat : Nat) : Int))] 54]) [blk g3 [.int .i64 (ea.id), .int .i64 (IntKind.i64.wrap (ea.p0 + r.p0)), .int .i64 (IntKind.i64.wrap (ea.p1 + r.p1)), .int .i64 (IntKind.i64.wrap (ea.p2 + r.p2)), .int .i64 (IntKind.i64.wrap (ea.v0 + r.v0)), .int .i64 (IntKind.i64.wrap (ea.v1 + r.v1)), .int .i64 (ea.v2), .int .u16 ((((ea.a).toNat : Nat) : Int)), .int .u8 ((((ea.g).toNat : Nat) : Int))] 54] _ _ := hs
   have hm0 := hm.mid
   have t8 := ht 8 (twB_spec 12 _ (by kernel_rfl))
   have e8 : _ = some (vs72 8) := t8.val rfl
   rw [show vs72 8 = .int .i64 (IntKind.i64.wrap (ea.v2 + r.v2)) from t8.2.1] at e8
   replace hs := hs.learn e8
   have t10 := ht 10 (twB_spec 12 _ (by kernel_rfl))
   have e10 : _ = some (vs72 10) := t10.val rfl
   rw [show vs72 10 = .pointer (some ⟨g3, 6, none⟩) from t10.2.1] at e10
   replace hs := hs.learn e10
   have hs0 := hs.bare
   refine st_stB hs rfl rfl .z (.s (.s (.s (.s (.s (.s .z)))))) rfl Try.sizeOf2 ?_; clear hs; intro a w hs
   exact wpList_nil ⟨rfl, .tuple #[], _, hs0, (.c (.c .r)), hs, trivial⟩
  clear hs w a; intro a w vs72 hs hf
  replace hs : St _ _ _ _ [blk g5 [.int .i64 (0), .int .i64 (0), .int .i64 (0), .int .i64 (0), .int .i64 (0), .int .i64 (0), .int .i64 (0), .int .u16 (0), .int .u8 (0)] 54, blk g4 [.int .i64 (r.k), .int .i64 (r.id), .int .i64 (r.p0), .int .i64 (r.p1), .int .i64 (r.p2), .int .i64 (r.v0), .int .i64 (r.v1), .int .i64 (r.v2), .int .u16 ((((r.a).toNat : Nat) : Int))] 25, blk g3 [.int .i64 (ea.id), .int .i64 (IntKind.i64.wrap (ea.p0 + r.p0)), .int .i64 (IntKind.i64.wrap (ea.p1 + r.p1)), .int .i64 (IntKind.i64.wrap (ea.p2 + r.p2)), .int .i64 (IntKind.i64.wrap (ea.v0 + r.v0)), .int .i64 (IntKind.i64.wrap (ea.v1 + r.v1)), .int .i64 (IntKind.i64.wrap (ea.v2 + r.v2)), .int .u16 ((((ea.a).toNat : Nat) : Int)), .int .u8 ((((ea.g).toNat : Nat) : Int))] 54] _ _ := hs
  clear hf
  refine in_n ?_
  refine then_n (hK66 _ _ ?_)
  refine wp_region_lit ?_
  refine st_addR hs rfl rfl (by omega) rfl ?_; clear hs w a; intro a w hs
  rw [show (2 + 1 : Int) = 3 by rfl] at hs
  refine st_mv hs rfl rfl ?_; clear hs w a; intro a w hs
  refine wpList_nil ?_
  refine then_n ?_
  refine rounds_in ?_
  refine wp_seq_k fun K73 hK74 => ?_
  refine wp_region_lit ?_
  refine st_lss hs rfl rfl rfl ?_; clear hs w a; intro a w hs
  rw [show (decide ((3 : Int) < 3)) = false from by decide] at hs
  refine wpList_nil ?_
  refine then_n (hK74 _ _ ?_)
  refine wp_seq_k fun K75 hK76 => ?_
  refine wp_cond_false (hs.ev rfl) ?_
  refine wp_exit ?_
  refine th_e ?_
  refine th_e ?_
  refine in_hit ?_
  refine then_n (hK34 _ _ ?_)
  refine wp_seq_k fun K77 hK78 => ?_
  refine wp_region_lit ?_
  refine st_fa hs rfl Try.underlying54 rfl Try.sizeOf23 (by decide) (o := 7) rfl rfl ?_; clear hs w a; intro a w hs
  refine st_ldB hs rfl (.s (.s .z)) (.s (.s (.s (.s (.s (.s (.s .z))))))) Try.isAgg23 rfl ?_; clear hs w a; intro a w hs
  refine st_fa hs rfl Try.underlying25 rfl Try.sizeOf23 (by decide) (o := 8) rfl rfl ?_; clear hs w a; intro a w hs
  refine st_ldB hs rfl (.s .z) (.s (.s (.s (.s (.s (.s (.s (.s .z)))))))) Try.isAgg23 rfl ?_; clear hs w a; intro a w hs
  refine st_add_u16 (X := ea.a) (Y := r.a) hs rfl rfl rfl rfl rfl ?_; clear hs w a; intro a w hs
  refine st_fa hs rfl Try.underlying54 rfl Try.sizeOf23 (by decide) (o := 7) rfl rfl ?_; clear hs w a; intro a w hs
  refine st_stB hs rfl rfl (.s (.s .z)) (.s (.s (.s (.s (.s (.s (.s .z))))))) rfl Try.sizeOf23 ?_; clear hs w a; intro a w hs
  refine wpList_nil ?_
  refine then_n (hK78 _ _ ?_)
  refine wp_seq_k fun K79 hK80 => ?_
  refine wp_region_lit ?_
  refine st_ldBA hs rfl .z (.z (.c (.c (.c (.c (.c (.c (.c (.c (.c .n)))))))))) Try.isAgg54 Try.sizeOf54 rfl ?_; clear hs w a; intro a w hs
  refine st_stBA hs rfl rfl (.s .z) (.z (.c (.c (.c (.c (.c (.c (.c (.c (.c .n)))))))))) (ones_c rfl (ones_c rfl (ones_c rfl (ones_c rfl (ones_c rfl (ones_c rfl (ones_c rfl (ones_c rfl (ones_c rfl ones_n))))))))) Try.sizeOf54 rfl ?_; clear hs w a; intro a w hs
  refine st_as hs rfl rfl ?_; clear hs w a; intro a w hs
  refine wpList_nil ?_
  refine then_n (hK80 _ _ ?_)
  refine wp_ret ?_
  exact finC2 hs rfl rfl rfl .z (.z (.c (.c (.c (.c (.c (.c (.c (.c (.c .n)))))))))) Try.isAgg54 Try.sizeOf54 (.c .z (.c .z (.c .z .n))) (by first | (rw [entApply_chk (by omega)]; exact ⟨rfl, rfl⟩) | (rw [entApply_no (by omega) (by omega)]; exact ⟨rfl, rfl⟩) | (rw [entApply_tel (by omega) (by omega) (by omega)]; exact ⟨rfl, rfl⟩) | (rw [entApply_upd (by omega) (by omega) (by omega)]; exact ⟨rfl, rfl⟩))
end Go.Proofs.Ytkobgcoegajfcaa
