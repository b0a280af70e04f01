/- Walks of what is others with an entity: what each function does, over the program of this seat. Printed by a program of this session. -/
import Derived.Test.YtbioemaipghagaaGreatQWrec
import Derived.Test.YtbioemaipghagaaGreatQSxPent
namespace Go.Proofs.YtbioemaipghagaaGreat
open Go Go.Sx Go.RowKit
set_option linter.unusedVariables false
set_option linter.unusedSimpArgs false
set_option maxRecDepth 4000
set_option maxHeartbeats 1000000

theorem diff_ok (ea eb : EntR) (w0 : World) : Calls Tryz.prog 60 #[.agg #[.int .i64 (ea.id), .int .i64 (ea.p0), .int .i64 (ea.p1), .int .i64 (ea.p2), .int .i64 (ea.v0), .int .i64 (ea.v1), .int .i64 (ea.v2), .int .u16 ((((ea.a).toNat : Nat) : Int)), .int .u8 ((((ea.g).toNat : Nat) : Int))], .agg #[.int .i64 (eb.id), .int .i64 (eb.p0), .int .i64 (eb.p1), .int .i64 (eb.p2), .int .i64 (eb.v0), .int .i64 (eb.v1), .int .i64 (eb.v2), .int .u16 ((((eb.a).toNat : Nat) : Int)), .int .u8 ((((eb.g).toNat : Nat) : Int))]] w0 (RetV w0 (.tuple #[.agg #[.int .i64 (((recDiff ea eb).1).k), .int .i64 (((recDiff ea eb).1).id), .int .i64 (((recDiff ea eb).1).p0), .int .i64 (((recDiff ea eb).1).p1), .int .i64 (((recDiff ea eb).1).p2), .int .i64 (((recDiff ea eb).1).v0), .int .i64 (((recDiff ea eb).1).v1), .int .i64 (((recDiff ea eb).1).v2), .int .u16 ((((((recDiff ea eb).1).a).toNat : Nat) : Int))], .bool (recDiff ea eb).2])) := by
  refine enter (F0 := [(0, .agg #[.int .i64 (ea.id), .int .i64 (ea.p0), .int .i64 (ea.p1), .int .i64 (ea.p2), .int .i64 (ea.v0), .int .i64 (ea.v1), .int .i64 (ea.v2), .int .u16 ((((ea.a).toNat : Nat) : Int)), .int .u8 ((((ea.g).toNat : Nat) : Int))]), (1, .agg #[.int .i64 (eb.id), .int .i64 (eb.p0), .int .i64 (eb.p1), .int .i64 (eb.p2), .int .i64 (eb.v0), .int .i64 (eb.v1), .int .i64 (eb.v2), .int .u16 ((((eb.a).toNat : Nat) : Int)), .int .u8 ((((eb.g).toNat : Nat) : Int))])]) Tryz.func60 rfl rfl rfl (.c (.c .n)) (Mem.nil _) fun a w hs => ?_
  refine wp_seq_k fun K1 hK2 => ?_
  refine wp_region_lit ?_
  refine st_box (cs := [.int .i64 (ea.id), .int .i64 (ea.p0), .int .i64 (ea.p1), .int .i64 (ea.p2), .int .i64 (ea.v0), .int .i64 (ea.v1), .int .i64 (ea.v2), .int .u16 ((((ea.a).toNat : Nat) : Int)), .int .u8 ((((ea.g).toNat : Nat) : Int))]) hs rfl rfl rfl ?_; clear hs w a; intro g3 a w hs
  refine st_box (cs := [.int .i64 (eb.id), .int .i64 (eb.p0), .int .i64 (eb.p1), .int .i64 (eb.p2), .int .i64 (eb.v0), .int .i64 (eb.v1), .int .i64 (eb.v2), .int .u16 ((((eb.a).toNat : Nat) : Int)), .int .u8 ((((eb.g).toNat : Nat) : Int))]) hs rfl rfl rfl ?_; clear hs w a; intro g4 a w hs
  refine st_alloc (cs := [.int .i64 (0), .int .i64 (0), .int .i64 (0), .int .i64 (0), .int .i64 (0), .int .i64 (0), .int .i64 (0), .int .i64 (0), .int .u16 (0)]) hs Tryz.zeroValue78 rfl rfl ?_; clear hs w a; intro g5 a w hs
  refine st_as hs rfl rfl ?_; clear hs w a; intro a w hs
  refine wpList_nil ?_
  refine then_n (hK2 _ _ ?_)
  refine wp_seq_k fun K6 hK7 => ?_
  refine wp_seq_k fun K8 hK9 => ?_
  refine wp_region_lit ?_
  refine st_run 2 [(12, .agg #[.int .i64 (eb.id), .int .i64 (eb.p0), .int .i64 (eb.p1), .int .i64 (eb.p2), .int .i64 (eb.v0), .int .i64 (eb.v1), .int .i64 (eb.v2), .int .u16 ((((eb.a).toNat : Nat) : Int)), .int .u8 ((((eb.g).toNat : Nat) : Int))]), (11, .agg #[.int .i64 (ea.id), .int .i64 (ea.p0), .int .i64 (ea.p1), .int .i64 (ea.p2), .int .i64 (ea.v0), .int .i64 (ea.v1), .int .i64 (ea.v2), .int .u16 ((((ea.a).toNat : Nat) : Int)), .int .u8 ((((ea.g).toNat : Nat) : Int))])] hs (.c (hs.mem.del (.s (.s .z))) (.c (hs.mem.del (.s .z)) .n)) (by kernel_rfl) (by kernel_rfl) (by kernel_rfl) ?_; clear hs a; intro a hs
  refine st_eqF (xs := [.int .i64 (ea.id), .int .i64 (ea.p0), .int .i64 (ea.p1), .int .i64 (ea.p2), .int .i64 (ea.v0), .int .i64 (ea.v1), .int .i64 (ea.v2), .int .u16 ((((ea.a).toNat : Nat) : Int)), .int .u8 ((((ea.g).toNat : Nat) : Int))]) (ys := [.int .i64 (eb.id), .int .i64 (eb.p0), .int .i64 (eb.p1), .int .i64 (eb.p2), .int .i64 (eb.v0), .int .i64 (eb.v1), .int .i64 (eb.v2), .int .u16 ((((eb.a).toNat : Nat) : Int)), .int .u8 ((((eb.g).toNat : Nat) : Int))]) (ks := [.i .i64, .i .i64, .i .i64, .i .i64, .i .i64, .i .i64, .i .i64, .i .u16, .i .u8]) 6 hs rfl rfl (by kernel_rfl) (by kernel_rfl) (by kernel_rfl) (by decide) (.i (.i (.i (.i (.i (.i (.i (.i (.i .n))))))))) (.i (.i (.i (.i (.i (.i (.i (.i (.i .n))))))))) rfl ?_; clear hs w a; intro a w hs
  replace hs := hs.recell (v' := .bool (entEq ea eb)) (Option.some.inj rfl)
  refine wpList_nil ?_
  refine then_n (hK9 _ _ ?_)
  refine wp_if hs rfl (fun hc10 => ?_) (fun hc10 => ?_)
  ·
   refine wp_seq_k fun K11 hK12 => ?_
   refine wp_region_lit ?_
   refine st_build (it := Tryz.t78) (zs := [.int .i64 (0), .int .i64 (0), .int .i64 (0), .int .i64 (0), .int .i64 (0), .int .i64 (0), .int .i64 (0), .int .i64 (0), .int .u16 (0)]) (places := [(0, 1), (1, 1), (2, 3), (5, 3), (8, 1)]) hs .n Tryz.underlying78 rfl rfl rfl rfl .n rfl ?_; clear hs w a; intro a w hs
   refine st_stBA hs rfl rfl .z (.z (.c (.c (.c (.c (.c (.c (.c (.c (.c .n)))))))))) (ones_c rfl (ones_c rfl (ones_c rfl (ones_c rfl (ones_c rfl (ones_c rfl (ones_c rfl (ones_c rfl (ones_c rfl ones_n))))))))) Tryz.sizeOf78 rfl ?_; clear hs w a; intro a w hs
   refine st_as hs rfl rfl ?_; clear hs w a; intro a w hs
   refine wpList_nil ?_
   refine then_n (hK12 _ _ ?_)
   refine wp_ret ?_
   refine th_r ?_
   exact finC2 hs rfl rfl rfl .z (.z (.c (.c (.c (.c (.c (.c (.c (.c (.c .n)))))))))) Tryz.isAgg78 Tryz.sizeOf78 (.c .z (.c .z (.c .z .n))) (by first | (rw [recDiff_eq (by assumption)]; exact ⟨rfl, rfl⟩) | (rw [recDiff_upd (by assumption) (by omega)]; exact ⟨rfl, rfl⟩) | (rw [recDiff_tel (by assumption) (by omega)]; exact ⟨rfl, rfl⟩))
  refine wp_skip ?_
  refine then_n (hK7 _ _ ?_)
  refine wp_seq_k fun K13 hK14 => ?_
  refine wp_region_lit ?_
  refine st_run 8 [(22, .int .u16 ((((eb.a).toNat : Nat) : Int))), (20, .agg #[.int .i64 (eb.v0), .int .i64 (eb.v1), .int .i64 (eb.v2)]), (18, .agg #[.int .i64 (eb.p0), .int .i64 (eb.p1), .int .i64 (eb.p2)]), (16, .int .i64 (eb.id))] hs (.c (hs.mem.del (.s .z)) (.c (hs.mem.del (.s .z)) (.c (hs.mem.del (.s .z)) (.c (hs.mem.del (.s .z)) .n)))) (by kernel_rfl) (by kernel_rfl) (by kernel_rfl) ?_; clear hs a; intro a hs
  refine st_build (it := Tryz.t78) (zs := [.int .i64 (0), .int .i64 (0), .int .i64 (0), .int .i64 (0), .int .i64 (0), .int .i64 (0), .int .i64 (0), .int .i64 (0), .int .u16 (0)]) (places := [(0, 1), (1, 1), (2, 3), (5, 3), (8, 1)]) hs (.c rfl (.c rfl (.c rfl (.c rfl (.c rfl .n))))) Tryz.underlying78 rfl rfl rfl rfl (.c rfl rfl (.z (.c .n)) (.c rfl rfl (.s (.z (.c .n))) (.c rfl rfl (.s (.s (.z (.c (.c (.c .n)))))) (.c rfl rfl (.s (.s (.s (.s (.s (.z (.c (.c (.c .n))))))))) (.c rfl rfl (.s (.s (.s (.s (.s (.s (.s (.s (.z (.c .n)))))))))) .n))))) rfl ?_; clear hs w a; intro a w hs
  refine st_alloc (cs := [.int .i64 (0), .int .i64 (0), .int .i64 (0), .int .i64 (0), .int .i64 (0), .int .i64 (0), .int .i64 (0), .int .i64 (0), .int .u16 (0)]) hs Tryz.zeroValue78 rfl rfl ?_; clear hs w a; intro g15 a w hs
  refine st_stBA hs rfl rfl .z (.z (.c (.c (.c (.c (.c (.c (.c (.c (.c .n)))))))))) (ones_c rfl (ones_c rfl (ones_c rfl (ones_c rfl (ones_c rfl (ones_c rfl (ones_c rfl (ones_c rfl (ones_c rfl ones_n))))))))) Tryz.sizeOf78 rfl ?_; clear hs w a; intro a w hs
  refine wpList_nil ?_
  refine then_n (hK14 _ _ ?_)
  refine wp_seq_k fun K16 hK17 => ?_
  refine wp_seq_k fun K18 hK19 => ?_
  refine wp_region_lit ?_
  refine st_run 5 [(28, .bool (((((ea.g).toNat : Nat) : Int) : Int) == ((((eb.g).toNat : Nat) : Int))))] hs (.c (hs.mem.del (.s (.s (.s .z)))) (.c (hs.mem.del (.s (.s .z))) .n)) (by kernel_rfl) (by kernel_rfl) (by kernel_rfl) ?_; clear hs a; intro a hs
  refine wpList_nil ?_
  refine then_n (hK19 _ _ ?_)
  refine wp_if hs rfl (fun hc20 => ?_) (fun hc20 => ?_)
  ·
   replace hc20 := eq_of_beq hc20
   refine wp_seq_k fun K21 hK22 => ?_
   refine wp_region_lit ?_
   refine st_fa hs rfl Tryz.underlying78 rfl Tryz.sizeOf3 (by decide) (o := 0) rfl rfl ?_; clear hs w a; intro a w hs
   refine st_stB hs rfl rfl .z .z rfl Tryz.sizeOf3 ?_; clear hs w a; intro a w hs
   refine wpList_nil ?_
   refine then_n (hK22 _ _ ?_)
   refine wp_seq_k fun K23 hK24 => ?_
   refine wp_region_lit ?_
   refine st_run 4 [(33, .agg #[.int .i64 (ea.v0), .int .i64 (ea.v1), .int .i64 (ea.v2)]), (31, .agg #[.int .i64 (ea.p0), .int .i64 (ea.p1), .int .i64 (ea.p2)])] hs (.c (hs.mem.del (.s (.s (.s .z)))) (.c (hs.mem.del (.s (.s (.s .z)))) .n)) (by kernel_rfl) (by kernel_rfl) (by kernel_rfl) ?_; clear hs a; intro a hs
   refine st_build (it := Tryz.t78) (zs := [.int .i64 (0), .int .i64 (0), .int .i64 (0), .int .i64 (0), .int .i64 (0), .int .i64 (0), .int .i64 (0), .int .i64 (0), .int .u16 (0)]) (places := [(0, 1), (1, 1), (2, 3), (5, 3), (8, 1)]) hs (.c rfl (.c rfl .n)) Tryz.underlying78 rfl rfl rfl rfl (.c rfl rfl (.s (.s (.z (.c (.c (.c .n)))))) (.c rfl rfl (.s (.s (.s (.s (.s (.z (.c (.c (.c .n))))))))) .n)) rfl ?_; clear hs w a; intro a w hs
   refine st_alloc (cs := [.int .i64 (0), .int .i64 (0), .int .i64 (0), .int .i64 (0), .int .i64 (0), .int .i64 (0), .int .i64 (0), .int .i64 (0), .int .u16 (0)]) hs Tryz.zeroValue78 rfl rfl ?_; clear hs w a; intro g25 a w hs
   refine st_stBA hs rfl rfl .z (.z (.c (.c (.c (.c (.c (.c (.c (.c (.c .n)))))))))) (ones_c rfl (ones_c rfl (ones_c rfl (ones_c rfl (ones_c rfl (ones_c rfl (ones_c rfl (ones_c rfl (ones_c rfl ones_n))))))))) Tryz.sizeOf78 rfl ?_; clear hs w a; intro a w hs
   refine wpList_nil ?_
   refine then_n (hK24 _ _ ?_)
   refine wp_seq_k fun K26 hK27 => ?_
   refine wp_region_lit ?_
   refine st_callP (v := .agg #[.pointer (some ⟨g25, 2, none⟩), .pointer (some ⟨g25, 3, none⟩), .pointer (some ⟨g25, 4, none⟩), .pointer (some ⟨g25, 5, none⟩), .pointer (some ⟨g25, 6, none⟩), .pointer (some ⟨g25, 7, none⟩)]) hs (.c rfl .n) Tryz.call87 (nums_ok g25 _) rfl ?_; clear hs w a; intro a w hs
   refine st_alloc (cs := [.pointer (none), .pointer (none), .pointer (none), .pointer (none), .pointer (none), .pointer (none)]) hs Tryz.zeroValue153 rfl rfl ?_; clear hs w a; intro g28 a w hs
   refine st_stBA hs rfl rfl .z (.z (.c (.c (.c (.c (.c (.c .n))))))) (ones_c rfl (ones_c rfl (ones_c rfl (ones_c rfl (ones_c rfl (ones_c rfl ones_n)))))) Tryz.sizeOf153 rfl ?_; clear hs w a; intro a w hs
   refine wpList_nil ?_
   refine then_n (hK27 _ _ ?_)
   refine wp_seq_k fun K29 hK30 => ?_
   refine wp_seq_k fun K31 hK32 => ?_
   refine wp_region_lit ?_
   refine st_callP (v := .agg #[.pointer (some ⟨g15, 2, none⟩), .pointer (some ⟨g15, 3, none⟩), .pointer (some ⟨g15, 4, none⟩), .pointer (some ⟨g15, 5, none⟩), .pointer (some ⟨g15, 6, none⟩), .pointer (some ⟨g15, 7, none⟩)]) hs (.c rfl .n) Tryz.call87 (nums_ok g15 _) rfl ?_; clear hs w a; intro a w hs
   refine st_mv hs rfl rfl ?_; clear hs w a; intro a w hs
   refine wpList_nil ?_
   refine then_n (hK32 _ _ ?_)
   refine wp_block ?_
   refine wp_loop_rounds 7 ?_
   refine rounds_in ?_
   refine wp_seq_k fun K33 hK34 => ?_
   refine wp_region_lit ?_
   refine st_lss hs rfl rfl rfl ?_; clear hs w a; intro a w hs
   rw [show (decide ((0 : Int) < 6)) = true from by decide] at hs
   refine wpList_nil ?_
   refine then_n (hK34 _ _ ?_)
   refine wp_seq_k fun K35 hK36 => ?_
   refine wp_cond_true (hs.ev rfl) ?_
   refine wp_skip ?_
   refine then_n (hK36 _ _ ?_)
   refine wp_seq_k fun K37 hK38 => ?_
   refine wp_block ?_
   refine wp_seq_k fun K39 hK40 => ?_
   refine wp_region_lit ?_
   refine st_run 4 [(10, .pointer (some ⟨g15, 2, none⟩)), (9, .int .i64 (0)), (40, .pointer (some ⟨g15, 2, none⟩)), (39, .int .i64 (0))] hs .n (by kernel_rfl) (by kernel_rfl) (by kernel_rfl) ?_; clear hs a; intro a hs
   refine wpList_nil ?_
   refine then_n (hK40 _ _ ?_)
   replace hs := hs.sub (F' := [(10, .pointer (some ⟨g15, 2, none⟩)), (9, .int .i64 (0)), (40, .pointer (some ⟨g15, 2, none⟩)), (39, .int .i64 (0)), (38, .bool (true)), (37, .int .i64 (0)), (36, .agg #[.pointer (some ⟨g15, 2, none⟩), .pointer (some ⟨g15, 3, none⟩), .pointer (some ⟨g15, 4, none⟩), .pointer (some ⟨g15, 5, none⟩), .pointer (some ⟨g15, 6, none⟩), .pointer (some ⟨g15, 7, none⟩)]), (8, .pointer (some ⟨g28, 0, none⟩)), (6, .pointer (some ⟨g15, 0, none⟩)), (5, .bool (false)), (4, .pointer (some ⟨g5, 0, none⟩)), (2, .pointer (some ⟨g3, 0, none⟩))]) (.c rfl (.c rfl (.c rfl (.c rfl (.c rfl (.c rfl (.c rfl (.c rfl (.c rfl (.c rfl (.c rfl (.c rfl .n))))))))))))
   refine wp_drawG (M0 := [blk g28 [.pointer (some ⟨g25, 2, none⟩), .pointer (some ⟨g25, 3, none⟩), .pointer (some ⟨g25, 4, none⟩), .pointer (some ⟨g25, 5, none⟩), .pointer (some ⟨g25, 6, none⟩), .pointer (some ⟨g25, 7, none⟩)] 153, blk g25 [.int .i64 (0), .int .i64 (0), .int .i64 (ea.p0), .int .i64 (ea.p1), .int .i64 (ea.p2), .int .i64 (ea.v0), .int .i64 (ea.v1), .int .i64 (ea.v2), .int .u16 (0)] 78, blk g5 [.int .i64 (0), .int .i64 (0), .int .i64 (0), .int .i64 (0), .int .i64 (0), .int .i64 (0), .int .i64 (0), .int .i64 (0), .int .u16 (0)] 78, blk g4 [.int .i64 (eb.id), .int .i64 (eb.p0), .int .i64 (eb.p1), .int .i64 (eb.p2), .int .i64 (eb.v0), .int .i64 (eb.v1), .int .i64 (eb.v2), .int .u16 ((((eb.a).toNat : Nat) : Int)), .int .u8 ((((eb.g).toNat : Nat) : Int))] 73, blk g3 [.int .i64 (ea.id), .int .i64 (ea.p0), .int .i64 (ea.p1), .int .i64 (ea.p2), .int .i64 (ea.v0), .int .i64 (ea.v1), .int .i64 (ea.v2), .int .u16 ((((ea.a).toNat : Nat) : Int)), .int .u8 ((((ea.g).toNat : Nat) : Int))] 73]) (Ds := [Pv 0 (.pointer (some ⟨g15, 2, none⟩)), Pv 1 (.pointer (some ⟨g15, 2, none⟩)), Pv 2 (.int .i64 (eb.p0)), Pv 3 (.int .i64 (0)), Pv 4 (.pointer (some ⟨g28, 0, none⟩)), Pv 5 (.pointer (some ⟨g25, 2, none⟩)), Pv 6 (.pointer (some ⟨g25, 2, none⟩)), Pv 7 (.int .i64 (ea.p0)), Pv 8 (.int .i64 (IntKind.i64.wrap (eb.p0 - ea.p0))), Pv 9 (.pointer (some ⟨g15, 2, none⟩)), ⟨[blk g15 [.int .i64 (1), .int .i64 (eb.id), .int .i64 (eb.p0), .int .i64 (eb.p1), .int .i64 (eb.p2), .int .i64 (eb.v0), .int .i64 (eb.v1), .int .i64 (eb.v2), .int .u16 ((((eb.a).toNat : Nat) : Int))] 78], [], [], fun vs41 => True, fun vs41 => [blk g15 [.int .i64 (1), .int .i64 (eb.id), .int .i64 (IntKind.i64.wrap (eb.p0 - ea.p0)), .int .i64 (eb.p1), .int .i64 (eb.p2), .int .i64 (eb.v0), .int .i64 (eb.v1), .int .i64 (eb.v2), .int .u16 ((((eb.a).toNat : Nat) : Int))] 78], none⟩]) (by kernel_rfl) hs rfl (.c (.s (.s .z)) .n) (by kernel_rfl) (by kernel_rfl) (by kernel_rfl) ?_ ?_
   ·
    refine (.c ?_ (.c ?_ (.c ?_ (.c ?_ (.c ?_ (.c ?_ (.c ?_ (.c ?_ (.c ?_ (.c ?_ (.c ?_ .n)))))))))))
    · exact trip_pv (m := 11) .n (fun hm0 hm hx => .n) (by kernel_rfl) (by kernel_rfl) rfl
    · exact trip_pv (m := 11) (.c (k := 0) (by kernel_rfl) rfl rfl .n) (fun hm0 hm hx => .n) (by kernel_rfl) (by kernel_rfl) rfl
    · exact trip_pv (m := 11) (.c (k := 1) (by kernel_rfl) rfl rfl .n) (fun hm0 hm hx => (.c (hm.own (List.mem_append.2 (.inr ((hx 10 (twB_spec 11 _ (by kernel_rfl))).1 _ (List.Mem.head _))))))) (by kernel_rfl) (by kernel_rfl) rfl
    · exact trip_pv (m := 11) .n (fun hm0 hm hx => .n) (by kernel_rfl) (by kernel_rfl) rfl
    · exact trip_pv (m := 11) (.c (k := 3) (by kernel_rfl) rfl rfl .n) (fun hm0 hm hx => .n) (by kernel_rfl) (by kernel_rfl) rfl
    · exact trip_pv (m := 11) (.c (k := 4) (by kernel_rfl) rfl rfl .n) (fun hm0 hm hx => (.c (hm0.del .z))) (by kernel_rfl) (by kernel_rfl) rfl
    · exact trip_pv (m := 11) (.c (k := 5) (by kernel_rfl) rfl rfl .n) (fun hm0 hm hx => .n) (by kernel_rfl) (by kernel_rfl) rfl
    · exact trip_pv (m := 11) (.c (k := 6) (by kernel_rfl) rfl rfl .n) (fun hm0 hm hx => (.c (hm0.del (.s .z)))) (by kernel_rfl) (by kernel_rfl) rfl
    ·
     intro a_ w_ R_ rest_ vs41 hm hs ht hx
     have hm0 := hm.mid
     replace hs := hs.lrn (ht 2 (twB_spec 11 _ (by kernel_rfl))) rfl rfl
     replace hs := hs.lrn (ht 7 (twB_spec 11 _ (by kernel_rfl))) rfl rfl
     have hs0 := hs.bare
     refine st_sub hs rfl rfl rfl ?_; clear hs; intro a w hs
     exact wpList_nil ⟨rfl, _, _, hs0, (.c (.c .r)), hs, rfl⟩
    · exact trip_pv (m := 11) (.c (k := 0) (by kernel_rfl) rfl rfl .n) (fun hm0 hm hx => .n) (by kernel_rfl) (by kernel_rfl) rfl
    intro a_ w_ R_ rest_ vs41 hm hs ht hx
    replace hs : St _ _ _ (feet [blk g15 [.int .i64 (1), .int .i64 (eb.id), .int .i64 (eb.p0), .int .i64 (eb.p1), .int .i64 (eb.p2), .int .i64 (eb.v0), .int .i64 (eb.v1), .int .i64 (eb.v2), .int .u16 ((((eb.a).toNat : Nat) : Int))] 78]) [blk g15 [.int .i64 (1), .int .i64 (eb.id), .int .i64 (eb.p0), .int .i64 (eb.p1), .int .i64 (eb.p2), .int .i64 (eb.v0), .int .i64 (eb.v1), .int .i64 (eb.v2), .int .u16 ((((eb.a).toNat : Nat) : Int))] 78] _ _ := hs
    have hm0 := hm.mid
    replace hs := hs.lrn (ht 8 (twB_spec 11 _ (by kernel_rfl))) rfl rfl
    replace hs := hs.lrn (ht 9 (twB_spec 11 _ (by kernel_rfl))) rfl rfl
    have hs0 := hs.bare
    refine st_stB hs rfl rfl .z (.s (.s .z)) rfl Tryz.sizeOf2 ?_; clear hs; intro a w hs
    exact wpList_nil ⟨rfl, .tuple #[], _, hs0, (.c (.c .r)), hs, trivial⟩
   clear hs w a; intro a w vs41 hs hf
   replace hs : St _ _ _ _ [blk g28 [.pointer (some ⟨g25, 2, none⟩), .pointer (some ⟨g25, 3, none⟩), .pointer (some ⟨g25, 4, none⟩), .pointer (some ⟨g25, 5, none⟩), .pointer (some ⟨g25, 6, none⟩), .pointer (some ⟨g25, 7, none⟩)] 153, blk g25 [.int .i64 (0), .int .i64 (0), .int .i64 (ea.p0), .int .i64 (ea.p1), .int .i64 (ea.p2), .int .i64 (ea.v0), .int .i64 (ea.v1), .int .i64 (ea.v2), .int .u16 (0)] 78, blk g5 [.int .i64 (0), .int .i64 (0), .int .i64 (0), .int .i64 (0), .int .i64 (0), .int .i64 (0), .int .i64 (0), .int .i64 (0), .int .u16 (0)] 78, blk g4 [.int .i64 (eb.id), .int .i64 (eb.p0), .int .i64 (eb.p1), .int .i64 (eb.p2), .int .i64 (eb.v0), .int .i64 (eb.v1), .int .i64 (eb.v2), .int .u16 ((((eb.a).toNat : Nat) : Int)), .int .u8 ((((eb.g).toNat : Nat) : Int))] 73, blk g3 [.int .i64 (ea.id), .int .i64 (ea.p0), .int .i64 (ea.p1), .int .i64 (ea.p2), .int .i64 (ea.v0), .int .i64 (ea.v1), .int .i64 (ea.v2), .int .u16 ((((ea.a).toNat : Nat) : Int)), .int .u8 ((((ea.g).toNat : Nat) : Int))] 73, blk g15 [.int .i64 (1), .int .i64 (eb.id), .int .i64 (IntKind.i64.wrap (eb.p0 - ea.p0)), .int .i64 (eb.p1), .int .i64 (eb.p2), .int .i64 (eb.v0), .int .i64 (eb.v1), .int .i64 (eb.v2), .int .u16 ((((eb.a).toNat : Nat) : Int))] 78] _ _ := hs
   clear hf
   refine in_n ?_
   refine then_n (hK38 _ _ ?_)
   refine wp_region_lit ?_
   refine st_run 2 [(37, .int .i64 (1)), (51, .int .i64 (1))] hs .n (by kernel_rfl) (by kernel_rfl) (by kernel_rfl) ?_; clear hs a; intro a hs
   refine wpList_nil ?_
   refine then_n ?_
   refine rounds_in ?_
   refine wp_seq_k fun K42 hK43 => ?_
   refine wp_region_lit ?_
   refine st_lss hs rfl rfl rfl ?_; clear hs w a; intro a w hs
   rw [show (decide ((1 : Int) < 6)) = true from by decide] at hs
   refine wpList_nil ?_
   refine then_n (hK43 _ _ ?_)
   refine wp_seq_k fun K44 hK45 => ?_
   refine wp_cond_true (hs.ev rfl) ?_
   refine wp_skip ?_
   refine then_n (hK45 _ _ ?_)
   refine wp_seq_k fun K46 hK47 => ?_
   refine wp_block ?_
   refine wp_seq_k fun K48 hK49 => ?_
   refine wp_region_lit ?_
   refine st_run 4 [(10, .pointer (some ⟨g15, 3, none⟩)), (9, .int .i64 (1)), (40, .pointer (some ⟨g15, 3, none⟩)), (39, .int .i64 (1))] hs .n (by kernel_rfl) (by kernel_rfl) (by kernel_rfl) ?_; clear hs a; intro a hs
   refine wpList_nil ?_
   refine then_n (hK49 _ _ ?_)
   replace hs := hs.sub (F' := [(10, .pointer (some ⟨g15, 3, none⟩)), (9, .int .i64 (1)), (40, .pointer (some ⟨g15, 3, none⟩)), (39, .int .i64 (1)), (38, .bool (true)), (37, .int .i64 (1)), (51, .int .i64 (1)), (36, .agg #[.pointer (some ⟨g15, 2, none⟩), .pointer (some ⟨g15, 3, none⟩), .pointer (some ⟨g15, 4, none⟩), .pointer (some ⟨g15, 5, none⟩), .pointer (some ⟨g15, 6, none⟩), .pointer (some ⟨g15, 7, none⟩)]), (8, .pointer (some ⟨g28, 0, none⟩)), (6, .pointer (some ⟨g15, 0, none⟩)), (5, .bool (false)), (4, .pointer (some ⟨g5, 0, none⟩)), (2, .pointer (some ⟨g3, 0, none⟩))]) (.c rfl (.c rfl (.c rfl (.c rfl (.c rfl (.c rfl (.c rfl (.c rfl (.c rfl (.c rfl (.c rfl (.c rfl (.c rfl .n)))))))))))))
   refine wp_drawG (M0 := [blk g28 [.pointer (some ⟨g25, 2, none⟩), .pointer (some ⟨g25, 3, none⟩), .pointer (some ⟨g25, 4, none⟩), .pointer (some ⟨g25, 5, none⟩), .pointer (some ⟨g25, 6, none⟩), .pointer (some ⟨g25, 7, none⟩)] 153, blk g25 [.int .i64 (0), .int .i64 (0), .int .i64 (ea.p0), .int .i64 (ea.p1), .int .i64 (ea.p2), .int .i64 (ea.v0), .int .i64 (ea.v1), .int .i64 (ea.v2), .int .u16 (0)] 78, blk g5 [.int .i64 (0), .int .i64 (0), .int .i64 (0), .int .i64 (0), .int .i64 (0), .int .i64 (0), .int .i64 (0), .int .i64 (0), .int .u16 (0)] 78, blk g4 [.int .i64 (eb.id), .int .i64 (eb.p0), .int .i64 (eb.p1), .int .i64 (eb.p2), .int .i64 (eb.v0), .int .i64 (eb.v1), .int .i64 (eb.v2), .int .u16 ((((eb.a).toNat : Nat) : Int)), .int .u8 ((((eb.g).toNat : Nat) : Int))] 73, blk g3 [.int .i64 (ea.id), .int .i64 (ea.p0), .int .i64 (ea.p1), .int .i64 (ea.p2), .int .i64 (ea.v0), .int .i64 (ea.v1), .int .i64 (ea.v2), .int .u16 ((((ea.a).toNat : Nat) : Int)), .int .u8 ((((ea.g).toNat : Nat) : Int))] 73]) (Ds := [Pv 0 (.pointer (some ⟨g15, 3, none⟩)), Pv 1 (.pointer (some ⟨g15, 3, none⟩)), Pv 2 (.int .i64 (eb.p1)), Pv 3 (.int .i64 (1)), Pv 4 (.pointer (some ⟨g28, 1, none⟩)), Pv 5 (.pointer (some ⟨g25, 3, none⟩)), Pv 6 (.pointer (some ⟨g25, 3, none⟩)), Pv 7 (.int .i64 (ea.p1)), Pv 8 (.int .i64 (IntKind.i64.wrap (eb.p1 - ea.p1))), Pv 9 (.pointer (some ⟨g15, 3, none⟩)), ⟨[blk g15 [.int .i64 (1), .int .i64 (eb.id), .int .i64 (IntKind.i64.wrap (eb.p0 - ea.p0)), .int .i64 (eb.p1), .int .i64 (eb.p2), .int .i64 (eb.v0), .int .i64 (eb.v1), .int .i64 (eb.v2), .int .u16 ((((eb.a).toNat : Nat) : Int))] 78], [], [], fun vs50 => True, fun vs50 => [blk g15 [.int .i64 (1), .int .i64 (eb.id), .int .i64 (IntKind.i64.wrap (eb.p0 - ea.p0)), .int .i64 (IntKind.i64.wrap (eb.p1 - ea.p1)), .int .i64 (eb.p2), .int .i64 (eb.v0), .int .i64 (eb.v1), .int .i64 (eb.v2), .int .u16 ((((eb.a).toNat : Nat) : Int))] 78], none⟩]) (by kernel_rfl) hs rfl (.c (.s (.s (.s (.s (.s .z))))) .n) (by kernel_rfl) (by kernel_rfl) (by kernel_rfl) ?_ ?_
   ·
    refine (.c ?_ (.c ?_ (.c ?_ (.c ?_ (.c ?_ (.c ?_ (.c ?_ (.c ?_ (.c ?_ (.c ?_ (.c ?_ .n)))))))))))
    · exact trip_pv (m := 11) .n (fun hm0 hm hx => .n) (by kernel_rfl) (by kernel_rfl) rfl
    · exact trip_pv (m := 11) (.c (k := 0) (by kernel_rfl) rfl rfl .n) (fun hm0 hm hx => .n) (by kernel_rfl) (by kernel_rfl) rfl
    · exact trip_pv (m := 11) (.c (k := 1) (by kernel_rfl) rfl rfl .n) (fun hm0 hm hx => (.c (hm.own (List.mem_append.2 (.inr ((hx 10 (twB_spec 11 _ (by kernel_rfl))).1 _ (List.Mem.head _))))))) (by kernel_rfl) (by kernel_rfl) rfl
    · exact trip_pv (m := 11) .n (fun hm0 hm hx => .n) (by kernel_rfl) (by kernel_rfl) rfl
    · exact trip_pv (m := 11) (.c (k := 3) (by kernel_rfl) rfl rfl .n) (fun hm0 hm hx => .n) (by kernel_rfl) (by kernel_rfl) rfl
    · exact trip_pv (m := 11) (.c (k := 4) (by kernel_rfl) rfl rfl .n) (fun hm0 hm hx => (.c (hm0.del .z))) (by kernel_rfl) (by kernel_rfl) rfl
    · exact trip_pv (m := 11) (.c (k := 5) (by kernel_rfl) rfl rfl .n) (fun hm0 hm hx => .n) (by kernel_rfl) (by kernel_rfl) rfl
    · exact trip_pv (m := 11) (.c (k := 6) (by kernel_rfl) rfl rfl .n) (fun hm0 hm hx => (.c (hm0.del (.s .z)))) (by kernel_rfl) (by kernel_rfl) rfl
    ·
     intro a_ w_ R_ rest_ vs50 hm hs ht hx
     have hm0 := hm.mid
     replace hs := hs.lrn (ht 2 (twB_spec 11 _ (by kernel_rfl))) rfl rfl
     replace hs := hs.lrn (ht 7 (twB_spec 11 _ (by kernel_rfl))) rfl rfl
     have hs0 := hs.bare
     refine st_sub hs rfl rfl rfl ?_; clear hs; intro a w hs
     exact wpList_nil ⟨rfl, _, _, hs0, (.c (.c .r)), hs, rfl⟩
    · exact trip_pv (m := 11) (.c (k := 0) (by kernel_rfl) rfl rfl .n) (fun hm0 hm hx => .n) (by kernel_rfl) (by kernel_rfl) rfl
    intro a_ w_ R_ rest_ vs50 hm hs ht hx
    replace hs : St _ _ _ (feet [blk g15 [.int .i64 (1), .int .i64 (eb.id), .int .i64 (IntKind.i64.wrap (eb.p0 - ea.p0)), .int .i64 (eb.p1), .int .i64 (eb.p2), .int .i64 (eb.v0), .int .i64 (eb.v1), .int .i64 (eb.v2), .int .u16 ((((eb.a).toNat : Nat) : Int))] 78]) [blk g15 [.int .i64 (1), .int .i64 (eb.id), .int .i64 (IntKind.i64.wrap (eb.p0 - ea.p0)), .int .i64 (eb.p1), .int .i64 (eb.p2), .int .i64 (eb.v0), .int .i64 (eb.v1), .int .i64 (eb.v2), .int .u16 ((((eb.a).toNat : Nat) : Int))] 78] _ _ := hs
    have hm0 := hm.mid
    replace hs := hs.lrn (ht 8 (twB_spec 11 _ (by kernel_rfl))) rfl rfl
    replace hs := hs.lrn (ht 9 (twB_spec 11 _ (by kernel_rfl))) rfl rfl
    have hs0 := hs.bare
    refine st_stB hs rfl rfl .z (.s (.s (.s .z))) rfl Tryz.sizeOf2 ?_; clear hs; intro a w hs
    exact wpList_nil ⟨rfl, .tuple #[], _, hs0, (.c (.c .r)), hs, trivial⟩
   clear hs w a; intro a w vs50 hs hf
   replace hs : St _ _ _ _ [blk g28 [.pointer (some ⟨g25, 2, none⟩), .pointer (some ⟨g25, 3, none⟩), .pointer (some ⟨g25, 4, none⟩), .pointer (some ⟨g25, 5, none⟩), .pointer (some ⟨g25, 6, none⟩), .pointer (some ⟨g25, 7, none⟩)] 153, blk g25 [.int .i64 (0), .int .i64 (0), .int .i64 (ea.p0), .int .i64 (ea.p1), .int .i64 (ea.p2), .int .i64 (ea.v0), .int .i64 (ea.v1), .int .i64 (ea.v2), .int .u16 (0)] 78, blk g5 [.int .i64 (0), .int .i64 (0), .int .i64 (0), .int .i64 (0), .int .i64 (0), .int .i64 (0), .int .i64 (0), .int .i64 (0), .int .u16 (0)] 78, blk g4 [.int .i64 (eb.id), .int .i64 (eb.p0), .int .i64 (eb.p1), .int .i64 (eb.p2), .int .i64 (eb.v0), .int .i64 (eb.v1), .int .i64 (eb.v2), .int .u16 ((((eb.a).toNat : Nat) : Int)), .int .u8 ((((eb.g).toNat : Nat) : Int))] 73, blk g3 [.int .i64 (ea.id), .int .i64 (ea.p0), .int .i64 (ea.p1), .int .i64 (ea.p2), .int .i64 (ea.v0), .int .i64 (ea.v1), .int .i64 (ea.v2), .int .u16 ((((ea.a).toNat : Nat) : Int)), .int .u8 ((((ea.g).toNat : Nat) : Int))] 73, blk g15 [.int .i64 (1), .int .i64 (eb.id), .int .i64 (IntKind.i64.wrap (eb.p0 - ea.p0)), .int .i64 (IntKind.i64.wrap (eb.p1 - ea.p1)), .int .i64 (eb.p2), .int .i64 (eb.v0), .int .i64 (eb.v1), .int .i64 (eb.v2), .int .u16 ((((eb.a).toNat : Nat) : Int))] 78] _ _ := hs
   clear hf
   refine in_n ?_
   refine then_n (hK47 _ _ ?_)
   refine wp_region_lit ?_
   refine st_run 2 [(37, .int .i64 (2)), (51, .int .i64 (2))] hs .n (by kernel_rfl) (by kernel_rfl) (by kernel_rfl) ?_; clear hs a; intro a hs
   refine wpList_nil ?_
   refine then_n ?_
   refine rounds_in ?_
   refine wp_seq_k fun K51 hK52 => ?_
   refine wp_region_lit ?_
   refine st_lss hs rfl rfl rfl ?_; clear hs w a; intro a w hs
   rw [show (decide ((2 : Int) < 6)) = true from by decide] at hs
   refine wpList_nil ?_
   refine then_n (hK52 _ _ ?_)
   refine wp_seq_k fun K53 hK54 => ?_
   refine wp_cond_true (hs.ev rfl) ?_
   refine wp_skip ?_
   refine then_n (hK54 _ _ ?_)
   refine wp_seq_k fun K55 hK56 => ?_
   refine wp_block ?_
   refine wp_seq_k fun K57 hK58 => ?_
   refine wp_region_lit ?_
   refine st_run 4 [(10, .pointer (some ⟨g15, 4, none⟩)), (9, .int .i64 (2)), (40, .pointer (some ⟨g15, 4, none⟩)), (39, .int .i64 (2))] hs .n (by kernel_rfl) (by kernel_rfl) (by kernel_rfl) ?_; clear hs a; intro a hs
   refine wpList_nil ?_
   refine then_n (hK58 _ _ ?_)
   replace hs := hs.sub (F' := [(10, .pointer (some ⟨g15, 4, none⟩)), (9, .int .i64 (2)), (40, .pointer (some ⟨g15, 4, none⟩)), (39, .int .i64 (2)), (38, .bool (true)), (37, .int .i64 (2)), (51, .int .i64 (2)), (36, .agg #[.pointer (some ⟨g15, 2, none⟩), .pointer (some ⟨g15, 3, none⟩), .pointer (some ⟨g15, 4, none⟩), .pointer (some ⟨g15, 5, none⟩), .pointer (some ⟨g15, 6, none⟩), .pointer (some ⟨g15, 7, none⟩)]), (8, .pointer (some ⟨g28, 0, none⟩)), (6, .pointer (some ⟨g15, 0, none⟩)), (5, .bool (false)), (4, .pointer (some ⟨g5, 0, none⟩)), (2, .pointer (some ⟨g3, 0, none⟩))]) (.c rfl (.c rfl (.c rfl (.c rfl (.c rfl (.c rfl (.c rfl (.c rfl (.c rfl (.c rfl (.c rfl (.c rfl (.c rfl .n)))))))))))))
   refine wp_drawG (M0 := [blk g28 [.pointer (some ⟨g25, 2, none⟩), .pointer (some ⟨g25, 3, none⟩), .pointer (some ⟨g25, 4, none⟩), .pointer (some ⟨g25, 5, none⟩), .pointer (some ⟨g25, 6, none⟩), .pointer (some ⟨g25, 7, none⟩)] 153, blk g25 [.int .i64 (0), .int .i64 (0), .int .i64 (ea.p0), .int .i64 (ea.p1), .int .i64 (ea.p2), .int .i64 (ea.v0), .int .i64 (ea.v1), .int .i64 (ea.v2), .int .u16 (0)] 78, blk g5 [.int .i64 (0), .int .i64 (0), .int .i64 (0), .int .i64 (0), .int .i64 (0), .int .i64 (0), .int .i64 (0), .int .i64 (0), .int .u16 (0)] 78, blk g4 [.int .i64 (eb.id), .int .i64 (eb.p0), .int .i64 (eb.p1), .int .i64 (eb.p2), .int .i64 (eb.v0), .int .i64 (eb.v1), .int .i64 (eb.v2), .int .u16 ((((eb.a).toNat : Nat) : Int)), .int .u8 ((((eb.g).toNat : Nat) : Int))] 73, blk g3 [.int .i64 (ea.id), .int .i64 (ea.p0), .int .i64 (ea.p1), .int .i64 (ea.p2), .int .i64 (ea.v0), .int .i64 (ea.v1), .int .i64 (ea.v2), .int .u16 ((((ea.a).toNat : Nat) : Int)), .int .u8 ((((ea.g).toNat : Nat) : Int))] 73]) (Ds := [Pv 0 (.pointer (some ⟨g15, 4, none⟩)), Pv 1 (.pointer (some ⟨g15, 4, none⟩)), Pv 2 (.int .i64 (eb.p2)), Pv 3 (.int .i64 (2)), Pv 4 (.pointer (some ⟨g28, 2, none⟩)), Pv 5 (.pointer (some ⟨g25, 4, none⟩)), Pv 6 (.pointer (some ⟨g25, 4, none⟩)), Pv 7 (.int .i64 (ea.p2)), Pv 8 (.int .i64 (IntKind.i64.wrap (eb.p2 - ea.p2))), Pv 9 (.pointer (some ⟨g15, 4, none⟩)), ⟨[blk g15 [.int .i64 (1), .int .i64 (eb.id), .int .i64 (IntKind.i64.wrap (eb.p0 - ea.p0)), .int .i64 (IntKind.i64.wrap (eb.p1 - ea.p1)), .int .i64 (eb.p2), .int .i64 (eb.v0), .int .i64 (eb.v1), .int .i64 (eb.v2), .int .u16 ((((eb.a).toNat : Nat) : Int))] 78], [], [], fun vs59 => True, fun vs59 => [blk g15 [.int .i64 (1), .int .i64 (eb.id), .int .i64 (IntKind.i64.wrap (eb.p0 - ea.p0)), .int .i64 (IntKind.i64.wrap (eb.p1 - ea.p1)), .int .i64 (IntKind.i64.wrap (eb.p2 - ea.p2)), .int .i64 (eb.v0), .int .i64 (eb.v1), .int .i64 (eb.v2), .int .u16 ((((eb.a).toNat : Nat) : Int))] 78], none⟩]) (by kernel_rfl) hs rfl (.c (.s (.s (.s (.s (.s .z))))) .n) (by kernel_rfl) (by kernel_rfl) (by kernel_rfl) ?_ ?_
   ·
    refine (.c ?_ (.c ?_ (.c ?_ (.c ?_ (.c ?_ (.c ?_ (.c ?_ (.c ?_ (.c ?_ (.c ?_ (.c ?_ .n)))))))))))
    · exact trip_pv (m := 11) .n (fun hm0 hm hx => .n) (by kernel_rfl) (by kernel_rfl) rfl
    · exact trip_pv (m := 11) (.c (k := 0) (by kernel_rfl) rfl rfl .n) (fun hm0 hm hx => .n) (by kernel_rfl) (by kernel_rfl) rfl
    · exact trip_pv (m := 11) (.c (k := 1) (by kernel_rfl) rfl rfl .n) (fun hm0 hm hx => (.c (hm.own (List.mem_append.2 (.inr ((hx 10 (twB_spec 11 _ (by kernel_rfl))).1 _ (List.Mem.head _))))))) (by kernel_rfl) (by kernel_rfl) rfl
    · exact trip_pv (m := 11) .n (fun hm0 hm hx => .n) (by kernel_rfl) (by kernel_rfl) rfl
    · exact trip_pv (m := 11) (.c (k := 3) (by kernel_rfl) rfl rfl .n) (fun hm0 hm hx => .n) (by kernel_rfl) (by kernel_rfl) rfl
    · exact trip_pv (m := 11) (.c (k := 4) (by kernel_rfl) rfl rfl .n) (fun hm0 hm hx => (.c (hm0.del .z))) (by kernel_rfl) (by kernel_rfl) rfl
    · exact trip_pv (m := 11) (.c (k := 5) (by kernel_rfl) rfl rfl .n) (fun hm0 hm hx => .n) (by kernel_rfl) (by kernel_rfl) rfl
    · exact trip_pv (m := 11) (.c (k := 6) (by kernel_rfl) rfl rfl .n) (fun hm0 hm hx => (.c (hm0.del (.s .z)))) (by kernel_rfl) (by kernel_rfl) rfl
    ·
     intro a_ w_ R_ rest_ vs59 hm hs ht hx
     have hm0 := hm.mid
     replace hs := hs.lrn (ht 2 (twB_spec 11 _ (by kernel_rfl))) rfl rfl
     replace hs := hs.lrn (ht 7 (twB_spec 11 _ (by kernel_rfl))) rfl rfl
     have hs0 := hs.bare
     refine st_sub hs rfl rfl rfl ?_; clear hs; intro a w hs
     exact wpList_nil ⟨rfl, _, _, hs0, (.c (.c .r)), hs, rfl⟩
    · exact trip_pv (m := 11) (.c (k := 0) (by kernel_rfl) rfl rfl .n) (fun hm0 hm hx => .n) (by kernel_rfl) (by kernel_rfl) rfl
    intro a_ w_ R_ rest_ vs59 hm hs ht hx
    replace hs : St _ _ _ (feet [blk g15 [.int .i64 (1), .int .i64 (eb.id), .int .i64 (IntKind.i64.wrap (eb.p0 - ea.p0)), .int .i64 (IntKind.i64.wrap (eb.p1 - ea.p1)), .int .i64 (eb.p2), .int .i64 (eb.v0), .int .i64 (eb.v1), .int .i64 (eb.v2), .int .u16 ((((eb.a).toNat : Nat) : Int))] 78]) [blk g15 [.int .i64 (1), .int .i64 (eb.id), .int .i64 (IntKind.i64.wrap (eb.p0 - ea.p0)), .int .i64 (IntKind.i64.wrap (eb.p1 - ea.p1)), .int .i64 (eb.p2), .int .i64 (eb.v0), .int .i64 (eb.v1), .int .i64 (eb.v2), .int .u16 ((((eb.a).toNat : Nat) : Int))] 78] _ _ := hs
    have hm0 := hm.mid
    replace hs := hs.lrn (ht 8 (twB_spec 11 _ (by kernel_rfl))) rfl rfl
    replace hs := hs.lrn (ht 9 (twB_spec 11 _ (by kernel_rfl))) rfl rfl
    have hs0 := hs.bare
    refine st_stB hs rfl rfl .z (.s (.s (.s (.s .z)))) rfl Tryz.sizeOf2 ?_; clear hs; intro a w hs
    exact wpList_nil ⟨rfl, .tuple #[], _, hs0, (.c (.c .r)), hs, trivial⟩
   clear hs w a; intro a w vs59 hs hf
   replace hs : St _ _ _ _ [blk g28 [.pointer (some ⟨g25, 2, none⟩), .pointer (some ⟨g25, 3, none⟩), .pointer (some ⟨g25, 4, none⟩), .pointer (some ⟨g25, 5, none⟩), .pointer (some ⟨g25, 6, none⟩), .pointer (some ⟨g25, 7, none⟩)] 153, blk g25 [.int .i64 (0), .int .i64 (0), .int .i64 (ea.p0), .int .i64 (ea.p1), .int .i64 (ea.p2), .int .i64 (ea.v0), .int .i64 (ea.v1), .int .i64 (ea.v2), .int .u16 (0)] 78, blk g5 [.int .i64 (0), .int .i64 (0), .int .i64 (0), .int .i64 (0), .int .i64 (0), .int .i64 (0), .int .i64 (0), .int .i64 (0), .int .u16 (0)] 78, blk g4 [.int .i64 (eb.id), .int .i64 (eb.p0), .int .i64 (eb.p1), .int .i64 (eb.p2), .int .i64 (eb.v0), .int .i64 (eb.v1), .int .i64 (eb.v2), .int .u16 ((((eb.a).toNat : Nat) : Int)), .int .u8 ((((eb.g).toNat : Nat) : Int))] 73, blk g3 [.int .i64 (ea.id), .int .i64 (ea.p0), .int .i64 (ea.p1), .int .i64 (ea.p2), .int .i64 (ea.v0), .int .i64 (ea.v1), .int .i64 (ea.v2), .int .u16 ((((ea.a).toNat : Nat) : Int)), .int .u8 ((((ea.g).toNat : Nat) : Int))] 73, blk g15 [.int .i64 (1), .int .i64 (eb.id), .int .i64 (IntKind.i64.wrap (eb.p0 - ea.p0)), .int .i64 (IntKind.i64.wrap (eb.p1 - ea.p1)), .int .i64 (IntKind.i64.wrap (eb.p2 - ea.p2)), .int .i64 (eb.v0), .int .i64 (eb.v1), .int .i64 (eb.v2), .int .u16 ((((eb.a).toNat : Nat) : Int))] 78] _ _ := hs
   clear hf
   refine in_n ?_
   refine then_n (hK56 _ _ ?_)
   refine wp_region_lit ?_
   refine st_run 2 [(37, .int .i64 (3)), (51, .int .i64 (3))] hs .n (by kernel_rfl) (by kernel_rfl) (by kernel_rfl) ?_; clear hs a; intro a hs
   refine wpList_nil ?_
   refine then_n ?_
   refine rounds_in ?_
   refine wp_seq_k fun K60 hK61 => ?_
   refine wp_region_lit ?_
   refine st_lss hs rfl rfl rfl ?_; clear hs w a; intro a w hs
   rw [show (decide ((3 : Int) < 6)) = true from by decide] at hs
   refine wpList_nil ?_
   refine then_n (hK61 _ _ ?_)
   refine wp_seq_k fun K62 hK63 => ?_
   refine wp_cond_true (hs.ev rfl) ?_
   refine wp_skip ?_
   refine then_n (hK63 _ _ ?_)
   refine wp_seq_k fun K64 hK65 => ?_
   refine wp_block ?_
   refine wp_seq_k fun K66 hK67 => ?_
   refine wp_region_lit ?_
   refine st_run 4 [(10, .pointer (some ⟨g15, 5, none⟩)), (9, .int .i64 (3)), (40, .pointer (some ⟨g15, 5, none⟩)), (39, .int .i64 (3))] hs .n (by kernel_rfl) (by kernel_rfl) (by kernel_rfl) ?_; clear hs a; intro a hs
   refine wpList_nil ?_
   refine then_n (hK67 _ _ ?_)
   replace hs := hs.sub (F' := [(10, .pointer (some ⟨g15, 5, none⟩)), (9, .int .i64 (3)), (40, .pointer (some ⟨g15, 5, none⟩)), (39, .int .i64 (3)), (38, .bool (true)), (37, .int .i64 (3)), (51, .int .i64 (3)), (36, .agg #[.pointer (some ⟨g15, 2, none⟩), .pointer (some ⟨g15, 3, none⟩), .pointer (some ⟨g15, 4, none⟩), .pointer (some ⟨g15, 5, none⟩), .pointer (some ⟨g15, 6, none⟩), .pointer (some ⟨g15, 7, none⟩)]), (8, .pointer (some ⟨g28, 0, none⟩)), (6, .pointer (some ⟨g15, 0, none⟩)), (5, .bool (false)), (4, .pointer (some ⟨g5, 0, none⟩)), (2, .pointer (some ⟨g3, 0, none⟩))]) (.c rfl (.c rfl (.c rfl (.c rfl (.c rfl (.c rfl (.c rfl (.c rfl (.c rfl (.c rfl (.c rfl (.c rfl (.c rfl .n)))))))))))))
   refine wp_drawG (M0 := [blk g28 [.pointer (some ⟨g25, 2, none⟩), .pointer (some ⟨g25, 3, none⟩), .pointer (some ⟨g25, 4, none⟩), .pointer (some ⟨g25, 5, none⟩), .pointer (some ⟨g25, 6, none⟩), .pointer (some ⟨g25, 7, none⟩)] 153, blk g25 [.int .i64 (0), .int .i64 (0), .int .i64 (ea.p0), .int .i64 (ea.p1), .int .i64 (ea.p2), .int .i64 (ea.v0), .int .i64 (ea.v1), .int .i64 (ea.v2), .int .u16 (0)] 78, blk g5 [.int .i64 (0), .int .i64 (0), .int .i64 (0), .int .i64 (0), .int .i64 (0), .int .i64 (0), .int .i64 (0), .int .i64 (0), .int .u16 (0)] 78, blk g4 [.int .i64 (eb.id), .int .i64 (eb.p0), .int .i64 (eb.p1), .int .i64 (eb.p2), .int .i64 (eb.v0), .int .i64 (eb.v1), .int .i64 (eb.v2), .int .u16 ((((eb.a).toNat : Nat) : Int)), .int .u8 ((((eb.g).toNat : Nat) : Int))] 73, blk g3 [.int .i64 (ea.id), .int .i64 (ea.p0), .int .i64 (ea.p1), .int .i64 (ea.p2), .int .i64 (ea.v0), .int .i64 (ea.v1), .int .i64 (ea.v2), .int .u16 ((((ea.a).toNat : Nat) : Int)), .int .u8 ((((ea.g).toNat : Nat) : Int))] 73]) (Ds := [Pv 0 (.pointer (some ⟨g15, 5, none⟩)), Pv 1 (.pointer (some ⟨g15, 5, none⟩)), Pv 2 (.int .i64 (eb.v0)), Pv 3 (.int .i64 (3)), Pv 4 (.pointer (some ⟨g28, 3, none⟩)), Pv 5 (.pointer (some ⟨g25, 5, none⟩)), Pv 6 (.pointer (some ⟨g25, 5, none⟩)), Pv 7 (.int .i64 (ea.v0)), Pv 8 (.int .i64 (IntKind.i64.wrap (eb.v0 - ea.v0))), Pv 9 (.pointer (some ⟨g15, 5, none⟩)), ⟨[blk g15 [.int .i64 (1), .int .i64 (eb.id), .int .i64 (IntKind.i64.wrap (eb.p0 - ea.p0)), .int .i64 (IntKind.i64.wrap (eb.p1 - ea.p1)), .int .i64 (IntKind.i64.wrap (eb.p2 - ea.p2)), .int .i64 (eb.v0), .int .i64 (eb.v1), .int .i64 (eb.v2), .int .u16 ((((eb.a).toNat : Nat) : Int))] 78], [], [], fun vs68 => True, fun vs68 => [blk g15 [.int .i64 (1), .int .i64 (eb.id), .int .i64 (IntKind.i64.wrap (eb.p0 - ea.p0)), .int .i64 (IntKind.i64.wrap (eb.p1 - ea.p1)), .int .i64 (IntKind.i64.wrap (eb.p2 - ea.p2)), .int .i64 (IntKind.i64.wrap (eb.v0 - ea.v0)), .int .i64 (eb.v1), .int .i64 (eb.v2), .int .u16 ((((eb.a).toNat : Nat) : Int))] 78], none⟩]) (by kernel_rfl) hs rfl (.c (.s (.s (.s (.s (.s .z))))) .n) (by kernel_rfl) (by kernel_rfl) (by kernel_rfl) ?_ ?_
   ·
    refine (.c ?_ (.c ?_ (.c ?_ (.c ?_ (.c ?_ (.c ?_ (.c ?_ (.c ?_ (.c ?_ (.c ?_ (.c ?_ .n)))))))))))
    · exact trip_pv (m := 11) .n (fun hm0 hm hx => .n) (by kernel_rfl) (by kernel_rfl) rfl
    · exact trip_pv (m := 11) (.c (k := 0) (by kernel_rfl) rfl rfl .n) (fun hm0 hm hx => .n) (by kernel_rfl) (by kernel_rfl) rfl
    · exact trip_pv (m := 11) (.c (k := 1) (by kernel_rfl) rfl rfl .n) (fun hm0 hm hx => (.c (hm.own (List.mem_append.2 (.inr ((hx 10 (twB_spec 11 _ (by kernel_rfl))).1 _ (List.Mem.head _))))))) (by kernel_rfl) (by kernel_rfl) rfl
    · exact trip_pv (m := 11) .n (fun hm0 hm hx => .n) (by kernel_rfl) (by kernel_rfl) rfl
    · exact trip_pv (m := 11) (.c (k := 3) (by kernel_rfl) rfl rfl .n) (fun hm0 hm hx => .n) (by kernel_rfl) (by kernel_rfl) rfl
    · exact trip_pv (m := 11) (.c (k := 4) (by kernel_rfl) rfl rfl .n) (fun hm0 hm hx => (.c (hm0.del .z))) (by kernel_rfl) (by kernel_rfl) rfl
    · exact trip_pv (m := 11) (.c (k := 5) (by kernel_rfl) rfl rfl .n) (fun hm0 hm hx => .n) (by kernel_rfl) (by kernel_rfl) rfl
    · exact trip_pv (m := 11) (.c (k := 6) (by kernel_rfl) rfl rfl .n) (fun hm0 hm hx => (.c (hm0.del (.s .z)))) (by kernel_rfl) (by kernel_rfl) rfl
    ·
     intro a_ w_ R_ rest_ vs68 hm hs ht hx
     have hm0 := hm.mid
     replace hs := hs.lrn (ht 2 (twB_spec 11 _ (by kernel_rfl))) rfl rfl
     replace hs := hs.lrn (ht 7 (twB_spec 11 _ (by kernel_rfl))) rfl rfl
     have hs0 := hs.bare
     refine st_sub hs rfl rfl rfl ?_; clear hs; intro a w hs
     exact wpList_nil ⟨rfl, _, _, hs0, (.c (.c .r)), hs, rfl⟩
    · exact trip_pv (m := 11) (.c (k := 0) (by kernel_rfl) rfl rfl .n) (fun hm0 hm hx => .n) (by kernel_rfl) (by kernel_rfl) rfl
    intro a_ w_ R_ rest_ vs68 hm hs ht hx
    replace hs : St _ _ _ (feet [blk g15 [.int .i64 (1), .int .i64 (eb.id), .int .i64 (IntKind.i64.wrap (eb.p0 - ea.p0)), .int .i64 (IntKind.i64.wrap (eb.p1 - ea.p1)), .int .i64 (IntKind.i64.wrap (eb.p2 - ea.p2)), .int .i64 (eb.v0), .int .i64 (eb.v1), .int .i64 (eb.v2), .int .u16 ((((eb.a).toNat : Nat) : Int))] 78]) [blk g15 [.int .i64 (1), .int .i64 (eb.id), .int .i64 (IntKind.i64.wrap (eb.p0 - ea.p0)), .int .i64 (IntKind.i64.wrap (eb.p1 - ea.p1)), .int .i64 (IntKind.i64.wrap (eb.p2 - ea.p2)), .int .i64 (eb.v0), .int .i64 (eb.v1), .int .i64 (eb.v2), .int .u16 ((((eb.a).toNat : Nat) : Int))] 78] _ _ := hs
    have hm0 := hm.mid
    replace hs := hs.lrn (ht 8 (twB_spec 11 _ (by kernel_rfl))) rfl rfl
    replace hs := hs.lrn (ht 9 (twB_spec 11 _ (by kernel_rfl))) rfl rfl
    have hs0 := hs.bare
    refine st_stB hs rfl rfl .z (.s (.s (.s (.s (.s .z))))) rfl Tryz.sizeOf2 ?_; clear hs; intro a w hs
    exact wpList_nil ⟨rfl, .tuple #[], _, hs0, (.c (.c .r)), hs, trivial⟩
   clear hs w a; intro a w vs68 hs hf
   replace hs : St _ _ _ _ [blk g28 [.pointer (some ⟨g25, 2, none⟩), .pointer (some ⟨g25, 3, none⟩), .pointer (some ⟨g25, 4, none⟩), .pointer (some ⟨g25, 5, none⟩), .pointer (some ⟨g25, 6, none⟩), .pointer (some ⟨g25, 7, none⟩)] 153, blk g25 [.int .i64 (0), .int .i64 (0), .int .i64 (ea.p0), .int .i64 (ea.p1), .int .i64 (ea.p2), .int .i64 (ea.v0), .int .i64 (ea.v1), .int .i64 (ea.v2), .int .u16 (0)] 78, blk g5 [.int .i64 (0), .int .i64 (0), .int .i64 (0), .int .i64 (0), .int .i64 (0), .int .i64 (0), .int .i64 (0), .int .i64 (0), .int .u16 (0)] 78, blk g4 [.int .i64 (eb.id), .int .i64 (eb.p0), .int .i64 (eb.p1), .int .i64 (eb.p2), .int .i64 (eb.v0), .int .i64 (eb.v1), .int .i64 (eb.v2), .int .u16 ((((eb.a).toNat : Nat) : Int)), .int .u8 ((((eb.g).toNat : Nat) : Int))] 73, blk g3 [.int .i64 (ea.id), .int .i64 (ea.p0), .int .i64 (ea.p1), .int .i64 (ea.p2), .int .i64 (ea.v0), .int .i64 (ea.v1), .int .i64 (ea.v2), .int .u16 ((((ea.a).toNat : Nat) : Int)), .int .u8 ((((ea.g).toNat : Nat) : Int))] 73, blk g15 [.int .i64 (1), .int .i64 (eb.id), .int .i64 (IntKind.i64.wrap (eb.p0 - ea.p0)), .int .i64 (IntKind.i64.wrap (eb.p1 - ea.p1)), .int .i64 (IntKind.i64.wrap (eb.p2 - ea.p2)), .int .i64 (IntKind.i64.wrap (eb.v0 - ea.v0)), .int .i64 (eb.v1), .int .i64 (eb.v2), .int .u16 ((((eb.a).toNat : Nat) : Int))] 78] _ _ := hs
   clear hf
   refine in_n ?_
   refine then_n (hK65 _ _ ?_)
   refine wp_region_lit ?_
   refine st_run 2 [(37, .int .i64 (4)), (51, .int .i64 (4))] hs .n (by kernel_rfl) (by kernel_rfl) (by kernel_rfl) ?_; clear hs a; intro a hs
   refine wpList_nil ?_
   refine then_n ?_
   refine rounds_in ?_
   refine wp_seq_k fun K69 hK70 => ?_
   refine wp_region_lit ?_
   refine st_lss hs rfl rfl rfl ?_; clear hs w a; intro a w hs
   rw [show (decide ((4 : Int) < 6)) = true from by decide] at hs
   refine wpList_nil ?_
   refine then_n (hK70 _ _ ?_)
   refine wp_seq_k fun K71 hK72 => ?_
   refine wp_cond_true (hs.ev rfl) ?_
   refine wp_skip ?_
   refine then_n (hK72 _ _ ?_)
   refine wp_seq_k fun K73 hK74 => ?_
   refine wp_block ?_
   refine wp_seq_k fun K75 hK76 => ?_
   refine wp_region_lit ?_
   refine st_run 4 [(10, .pointer (some ⟨g15, 6, none⟩)), (9, .int .i64 (4)), (40, .pointer (some ⟨g15, 6, none⟩)), (39, .int .i64 (4))] hs .n (by kernel_rfl) (by kernel_rfl) (by kernel_rfl) ?_; clear hs a; intro a hs
   refine wpList_nil ?_
   refine then_n (hK76 _ _ ?_)
   replace hs := hs.sub (F' := [(10, .pointer (some ⟨g15, 6, none⟩)), (9, .int .i64 (4)), (40, .pointer (some ⟨g15, 6, none⟩)), (39, .int .i64 (4)), (38, .bool (true)), (37, .int .i64 (4)), (51, .int .i64 (4)), (36, .agg #[.pointer (some ⟨g15, 2, none⟩), .pointer (some ⟨g15, 3, none⟩), .pointer (some ⟨g15, 4, none⟩), .pointer (some ⟨g15, 5, none⟩), .pointer (some ⟨g15, 6, none⟩), .pointer (some ⟨g15, 7, none⟩)]), (8, .pointer (some ⟨g28, 0, none⟩)), (6, .pointer (some ⟨g15, 0, none⟩)), (5, .bool (false)), (4, .pointer (some ⟨g5, 0, none⟩)), (2, .pointer (some ⟨g3, 0, none⟩))]) (.c rfl (.c rfl (.c rfl (.c rfl (.c rfl (.c rfl (.c rfl (.c rfl (.c rfl (.c rfl (.c rfl (.c rfl (.c rfl .n)))))))))))))
   refine wp_drawG (M0 := [blk g28 [.pointer (some ⟨g25, 2, none⟩), .pointer (some ⟨g25, 3, none⟩), .pointer (some ⟨g25, 4, none⟩), .pointer (some ⟨g25, 5, none⟩), .pointer (some ⟨g25, 6, none⟩), .pointer (some ⟨g25, 7, none⟩)] 153, blk g25 [.int .i64 (0), .int .i64 (0), .int .i64 (ea.p0), .int .i64 (ea.p1), .int .i64 (ea.p2), .int .i64 (ea.v0), .int .i64 (ea.v1), .int .i64 (ea.v2), .int .u16 (0)] 78, blk g5 [.int .i64 (0), .int .i64 (0), .int .i64 (0), .int .i64 (0), .int .i64 (0), .int .i64 (0), .int .i64 (0), .int .i64 (0), .int .u16 (0)] 78, blk g4 [.int .i64 (eb.id), .int .i64 (eb.p0), .int .i64 (eb.p1), .int .i64 (eb.p2), .int .i64 (eb.v0), .int .i64 (eb.v1), .int .i64 (eb.v2), .int .u16 ((((eb.a).toNat : Nat) : Int)), .int .u8 ((((eb.g).toNat : Nat) : Int))] 73, blk g3 [.int .i64 (ea.id), .int .i64 (ea.p0), .int .i64 (ea.p1), .int .i64 (ea.p2), .int .i64 (ea.v0), .int .i64 (ea.v1), .int .i64 (ea.v2), .int .u16 ((((ea.a).toNat : Nat) : Int)), .int .u8 ((((ea.g).toNat : Nat) : Int))] 73]) (Ds := [Pv 0 (.pointer (some ⟨g15, 6, none⟩)), Pv 1 (.pointer (some ⟨g15, 6, none⟩)), Pv 2 (.int .i64 (eb.v1)), Pv 3 (.int .i64 (4)), Pv 4 (.pointer (some ⟨g28, 4, none⟩)), Pv 5 (.pointer (some ⟨g25, 6, none⟩)), Pv 6 (.pointer (some ⟨g25, 6, none⟩)), Pv 7 (.int .i64 (ea.v1)), Pv 8 (.int .i64 (IntKind.i64.wrap (eb.v1 - ea.v1))), Pv 9 (.pointer (some ⟨g15, 6, none⟩)), ⟨[blk g15 [.int .i64 (1), .int .i64 (eb.id), .int .i64 (IntKind.i64.wrap (eb.p0 - ea.p0)), .int .i64 (IntKind.i64.wrap (eb.p1 - ea.p1)), .int .i64 (IntKind.i64.wrap (eb.p2 - ea.p2)), .int .i64 (IntKind.i64.wrap (eb.v0 - ea.v0)), .int .i64 (eb.v1), .int .i64 (eb.v2), .int .u16 ((((eb.a).toNat : Nat) : Int))] 78], [], [], fun vs77 => True, fun vs77 => [blk g15 [.int .i64 (1), .int .i64 (eb.id), .int .i64 (IntKind.i64.wrap (eb.p0 - ea.p0)), .int .i64 (IntKind.i64.wrap (eb.p1 - ea.p1)), .int .i64 (IntKind.i64.wrap (eb.p2 - ea.p2)), .int .i64 (IntKind.i64.wrap (eb.v0 - ea.v0)), .int .i64 (IntKind.i64.wrap (eb.v1 - ea.v1)), .int .i64 (eb.v2), .int .u16 ((((eb.a).toNat : Nat) : Int))] 78], none⟩]) (by kernel_rfl) hs rfl (.c (.s (.s (.s (.s (.s .z))))) .n) (by kernel_rfl) (by kernel_rfl) (by kernel_rfl) ?_ ?_
   ·
    refine (.c ?_ (.c ?_ (.c ?_ (.c ?_ (.c ?_ (.c ?_ (.c ?_ (.c ?_ (.c ?_ (.c ?_ (.c ?_ .n)))))))))))
    · exact trip_pv (m := 11) .n (fun hm0 hm hx => .n) (by kernel_rfl) (by kernel_rfl) rfl
    · exact trip_pv (m := 11) (.c (k := 0) (by kernel_rfl) rfl rfl .n) (fun hm0 hm hx => .n) (by kernel_rfl) (by kernel_rfl) rfl
    · exact trip_pv (m := 11) (.c (k := 1) (by kernel_rfl) rfl rfl .n) (fun hm0 hm hx => (.c (hm.own (List.mem_append.2 (.inr ((hx 10 (twB_spec 11 _ (by kernel_rfl))).1 _ (List.Mem.head _))))))) (by kernel_rfl) (by kernel_rfl) rfl
    · exact trip_pv (m := 11) .n (fun hm0 hm hx => .n) (by kernel_rfl) (by kernel_rfl) rfl
    · exact trip_pv (m := 11) (.c (k := 3) (by kernel_rfl) rfl rfl .n) (fun hm0 hm hx => .n) (by kernel_rfl) (by kernel_rfl) rfl
    · exact trip_pv (m := 11) (.c (k := 4) (by kernel_rfl) rfl rfl .n) (fun hm0 hm hx => (.c (hm0.del .z))) (by kernel_rfl) (by kernel_rfl) rfl
    · exact trip_pv (m := 11) (.c (k := 5) (by kernel_rfl) rfl rfl .n) (fun hm0 hm hx => .n) (by kernel_rfl) (by kernel_rfl) rfl
    · exact trip_pv (m := 11) (.c (k := 6) (by kernel_rfl) rfl rfl .n) (fun hm0 hm hx => (.c (hm0.del (.s .z)))) (by kernel_rfl) (by kernel_rfl) rfl
    ·
     intro a_ w_ R_ rest_ vs77 hm hs ht hx
     have hm0 := hm.mid
     replace hs := hs.lrn (ht 2 (twB_spec 11 _ (by kernel_rfl))) rfl rfl
     replace hs := hs.lrn (ht 7 (twB_spec 11 _ (by kernel_rfl))) rfl rfl
     have hs0 := hs.bare
     refine st_sub hs rfl rfl rfl ?_; clear hs; intro a w hs
     exact wpList_nil ⟨rfl, _, _, hs0, (.c (.c .r)), hs, rfl⟩
    · exact trip_pv (m := 11) (.c (k := 0) (by kernel_rfl) rfl rfl .n) (fun hm0 hm hx => .n) (by kernel_rfl) (by kernel_rfl) rfl
    intro a_ w_ R_ rest_ vs77 hm hs ht hx
    replace hs : St _ _ _ (feet [blk g15 [.int .i64 (1), .int .i64 (eb.id), .int .i64 (IntKind.i64.wrap (eb.p0 - ea.p0)), .int .i64 (IntKind.i64.wrap (eb.p1 - ea.p1)), .int .i64 (IntKind.i64.wrap (eb.p2 - ea.p2)), .int .i64 (IntKind.i64.wrap (eb.v0 - ea.v0)), .int .i64 (eb.v1), .int .i64 (eb.v2), .int .u16 ((((eb.a).toNat : Nat) : Int))] 78]) [blk g15 [.int .i64 (1), .int .i64 (eb.id), .int .i64 (IntKind.i64.wrap (eb.p0 - ea.p0)), .int .i64 (IntKind.i64.wrap (eb.p1 - ea.p1)), .int .i64 (IntKind.i64.wrap (eb.p2 - ea.p2)), .int .i64 (IntKind.i64.wrap (eb.v0 - ea.v0)), .int .i64 (eb.v1), .int .i64 (eb.v2), .int .u16 ((((eb.a).toNat : Nat) : Int))] 78] _ _ := hs
    have hm0 := hm.mid
    replace hs := hs.lrn (ht 8 (twB_spec 11 _ (by kernel_rfl))) rfl rfl
    replace hs := hs.lrn (ht 9 (twB_spec 11 _ (by kernel_rfl))) rfl rfl
    have hs0 := hs.bare
    refine st_stB hs rfl rfl .z (.s (.s (.s (.s (.s (.s .z)))))) rfl Tryz.sizeOf2 ?_; clear hs; intro a w hs
    exact wpList_nil ⟨rfl, .tuple #[], _, hs0, (.c (.c .r)), hs, trivial⟩
   clear hs w a; intro a w vs77 hs hf
   replace hs : St _ _ _ _ [blk g28 [.pointer (some ⟨g25, 2, none⟩), .pointer (some ⟨g25, 3, none⟩), .pointer (some ⟨g25, 4, none⟩), .pointer (some ⟨g25, 5, none⟩), .pointer (some ⟨g25, 6, none⟩), .pointer (some ⟨g25, 7, none⟩)] 153, blk g25 [.int .i64 (0), .int .i64 (0), .int .i64 (ea.p0), .int .i64 (ea.p1), .int .i64 (ea.p2), .int .i64 (ea.v0), .int .i64 (ea.v1), .int .i64 (ea.v2), .int .u16 (0)] 78, blk g5 [.int .i64 (0), .int .i64 (0), .int .i64 (0), .int .i64 (0), .int .i64 (0), .int .i64 (0), .int .i64 (0), .int .i64 (0), .int .u16 (0)] 78, blk g4 [.int .i64 (eb.id), .int .i64 (eb.p0), .int .i64 (eb.p1), .int .i64 (eb.p2), .int .i64 (eb.v0), .int .i64 (eb.v1), .int .i64 (eb.v2), .int .u16 ((((eb.a).toNat : Nat) : Int)), .int .u8 ((((eb.g).toNat : Nat) : Int))] 73, blk g3 [.int .i64 (ea.id), .int .i64 (ea.p0), .int .i64 (ea.p1), .int .i64 (ea.p2), .int .i64 (ea.v0), .int .i64 (ea.v1), .int .i64 (ea.v2), .int .u16 ((((ea.a).toNat : Nat) : Int)), .int .u8 ((((ea.g).toNat : Nat) : Int))] 73, blk g15 [.int .i64 (1), .int .i64 (eb.id), .int .i64 (IntKind.i64.wrap (eb.p0 - ea.p0)), .int .i64 (IntKind.i64.wrap (eb.p1 - ea.p1)), .int .i64 (IntKind.i64.wrap (eb.p2 - ea.p2)), .int .i64 (IntKind.i64.wrap (eb.v0 - ea.v0)), .int .i64 (IntKind.i64.wrap (eb.v1 - ea.v1)), .int .i64 (eb.v2), .int .u16 ((((eb.a).toNat : Nat) : Int))] 78] _ _ := hs
   clear hf
   refine in_n ?_
   refine then_n (hK74 _ _ ?_)
   refine wp_region_lit ?_
   refine st_run 2 [(37, .int .i64 (5)), (51, .int .i64 (5))] hs .n (by kernel_rfl) (by kernel_rfl) (by kernel_rfl) ?_; clear hs a; intro a hs
   refine wpList_nil ?_
   refine then_n ?_
   refine rounds_in ?_
   refine wp_seq_k fun K78 hK79 => ?_
   refine wp_region_lit ?_
   refine st_lss hs rfl rfl rfl ?_; clear hs w a; intro a w hs
   rw [show (decide ((5 : Int) < 6)) = true from by decide] at hs
   refine wpList_nil ?_
   refine then_n (hK79 _ _ ?_)
   refine wp_seq_k fun K80 hK81 => ?_
   refine wp_cond_true (hs.ev rfl) ?_
   refine wp_skip ?_
   refine then_n (hK81 _ _ ?_)
   refine wp_seq_k fun K82 hK83 => ?_
   refine wp_block ?_
   refine wp_seq_k fun K84 hK85 => ?_
   refine wp_region_lit ?_
   refine st_run 4 [(10, .pointer (some ⟨g15, 7, none⟩)), (9, .int .i64 (5)), (40, .pointer (some ⟨g15, 7, none⟩)), (39, .int .i64 (5))] hs .n (by kernel_rfl) (by kernel_rfl) (by kernel_rfl) ?_; clear hs a; intro a hs
   refine wpList_nil ?_
   refine then_n (hK85 _ _ ?_)
   replace hs := hs.sub (F' := [(10, .pointer (some ⟨g15, 7, none⟩)), (9, .int .i64 (5)), (40, .pointer (some ⟨g15, 7, none⟩)), (39, .int .i64 (5)), (38, .bool (true)), (37, .int .i64 (5)), (51, .int .i64 (5)), (36, .agg #[.pointer (some ⟨g15, 2, none⟩), .pointer (some ⟨g15, 3, none⟩), .pointer (some ⟨g15, 4, none⟩), .pointer (some ⟨g15, 5, none⟩), .pointer (some ⟨g15, 6, none⟩), .pointer (some ⟨g15, 7, none⟩)]), (8, .pointer (some ⟨g28, 0, none⟩)), (6, .pointer (some ⟨g15, 0, none⟩)), (5, .bool (false)), (4, .pointer (some ⟨g5, 0, none⟩)), (2, .pointer (some ⟨g3, 0, none⟩))]) (.c rfl (.c rfl (.c rfl (.c rfl (.c rfl (.c rfl (.c rfl (.c rfl (.c rfl (.c rfl (.c rfl (.c rfl (.c rfl .n)))))))))))))
   refine wp_drawG (M0 := [blk g28 [.pointer (some ⟨g25, 2, none⟩), .pointer (some ⟨g25, 3, none⟩), .pointer (some ⟨g25, 4, none⟩), .pointer (some ⟨g25, 5, none⟩), .pointer (some ⟨g25, 6, none⟩), .pointer (some ⟨g25, 7, none⟩)] 153, blk g25 [.int .i64 (0), .int .i64 (0), .int .i64 (ea.p0), .int .i64 (ea.p1), .int .i64 (ea.p2), .int .i64 (ea.v0), .int .i64 (ea.v1), .int .i64 (ea.v2), .int .u16 (0)] 78, blk g5 [.int .i64 (0), .int .i64 (0), .int .i64 (0), .int .i64 (0), .int .i64 (0), .int .i64 (0), .int .i64 (0), .int .i64 (0), .int .u16 (0)] 78, blk g4 [.int .i64 (eb.id), .int .i64 (eb.p0), .int .i64 (eb.p1), .int .i64 (eb.p2), .int .i64 (eb.v0), .int .i64 (eb.v1), .int .i64 (eb.v2), .int .u16 ((((eb.a).toNat : Nat) : Int)), .int .u8 ((((eb.g).toNat : Nat) : Int))] 73, blk g3 [.int .i64 (ea.id), .int .i64 (ea.p0), .int .i64 (ea.p1), .int .i64 (ea.p2), .int .i64 (ea.v0), .int .i64 (ea.v1), .int .i64 (ea.v2), .int .u16 ((((ea.a).toNat : Nat) : Int)), .int .u8 ((((ea.g).toNat : Nat) : Int))] 73]) (Ds := [Pv 0 (.pointer (some ⟨g15, 7, none⟩)), Pv 1 (.pointer (some ⟨g15, 7, none⟩)), Pv 2 (.int .i64 (eb.v2)), Pv 3 (.int .i64 (5)), Pv 4 (.pointer (some ⟨g28, 5, none⟩)), Pv 5 (.pointer (some ⟨g25, 7, none⟩)), Pv 6 (.pointer (some ⟨g25, 7, none⟩)), Pv 7 (.int .i64 (ea.v2)), Pv 8 (.int .i64 (IntKind.i64.wrap (eb.v2 - ea.v2))), Pv 9 (.pointer (some ⟨g15, 7, none⟩)), ⟨[blk g15 [.int .i64 (1), .int .i64 (eb.id), .int .i64 (IntKind.i64.wrap (eb.p0 - ea.p0)), .int .i64 (IntKind.i64.wrap (eb.p1 - ea.p1)), .int .i64 (IntKind.i64.wrap (eb.p2 - ea.p2)), .int .i64 (IntKind.i64.wrap (eb.v0 - ea.v0)), .int .i64 (IntKind.i64.wrap (eb.v1 - ea.v1)), .int .i64 (eb.v2), .int .u16 ((((eb.a).toNat : Nat) : Int))] 78], [], [], fun vs86 => True, fun vs86 => [blk g15 [.int .i64 (1), .int .i64 (eb.id), .int .i64 (IntKind.i64.wrap (eb.p0 - ea.p0)), .int .i64 (IntKind.i64.wrap (eb.p1 - ea.p1)), .int .i64 (IntKind.i64.wrap (eb.p2 - ea.p2)), .int .i64 (IntKind.i64.wrap (eb.v0 - ea.v0)), .int .i64 (IntKind.i64.wrap (eb.v1 - ea.v1)), .int .i64 (IntKind.i64.wrap (eb.v2 - ea.v2)), .int .u16 ((((eb.a).toNat : Nat) : Int))] 78], none⟩]) (by kernel_rfl) hs rfl (.c (.s (.s (.s (.s (.s .z))))) .n) (by kernel_rfl) (by kernel_rfl) (by kernel_rfl) ?_ ?_
   ·
    refine (.c ?_ (.c ?_ (.c ?_ (.c ?_ (.c ?_ (.c ?_ (.c ?_ (.c ?_ (.c ?_ (.c ?_ (.c ?_ .n)))))))))))
    · exact trip_pv (m := 11) .n (fun hm0 hm hx => .n) (by kernel_rfl) (by kernel_rfl) rfl
    · exact trip_pv (m := 11) (.c (k := 0) (by kernel_rfl) rfl rfl .n) (fun hm0 hm hx => .n) (by kernel_rfl) (by kernel_rfl) rfl
    · exact trip_pv (m := 11) (.c (k := 1) (by kernel_rfl) rfl rfl .n) (fun hm0 hm hx => (.c (hm.own (List.mem_append.2 (.inr ((hx 10 (twB_spec 11 _ (by kernel_rfl))).1 _ (List.Mem.head _))))))) (by kernel_rfl) (by kernel_rfl) rfl
    · exact trip_pv (m := 11) .n (fun hm0 hm hx => .n) (by kernel_rfl) (by kernel_rfl) rfl
    · exact trip_pv (m := 11) (.c (k := 3) (by kernel_rfl) rfl rfl .n) (fun hm0 hm hx => .n) (by kernel_rfl) (by kernel_rfl) rfl
    · exact trip_pv (m := 11) (.c (k := 4) (by kernel_rfl) rfl rfl .n) (fun hm0 hm hx => (.c (hm0.del .z))) (by kernel_rfl) (by kernel_rfl) rfl
    · exact trip_pv (m := 11) (.c (k := 5) (by kernel_rfl) rfl rfl .n) (fun hm0 hm hx => .n) (by kernel_rfl) (by kernel_rfl) rfl
    · exact trip_pv (m := 11) (.c (k := 6) (by kernel_rfl) rfl rfl .n) (fun hm0 hm hx => (.c (hm0.del (.s .z)))) (by kernel_rfl) (by kernel_rfl) rfl
    ·
     intro a_ w_ R_ rest_ vs86 hm hs ht hx
     have hm0 := hm.mid
     replace hs := hs.lrn (ht 2 (twB_spec 11 _ (by kernel_rfl))) rfl rfl
     replace hs := hs.lrn (ht 7 (twB_spec 11 _ (by kernel_rfl))) rfl rfl
     have hs0 := hs.bare
     refine st_sub hs rfl rfl rfl ?_; clear hs; intro a w hs
     exact wpList_nil ⟨rfl, _, _, hs0, (.c (.c .r)), hs, rfl⟩
    · exact trip_pv (m := 11) (.c (k := 0) (by kernel_rfl) rfl rfl .n) (fun hm0 hm hx => .n) (by kernel_rfl) (by kernel_rfl) rfl
    intro a_ w_ R_ rest_ vs86 hm hs ht hx
    replace hs : St _ _ _ (feet [blk g15 [.int .i64 (1), .int .i64 (eb.id), .int .i64 (IntKind.i64.wrap (eb.p0 - ea.p0)), .int .i64 (IntKind.i64.wrap (eb.p1 - ea.p1)), .int .i64 (IntKind.i64.wrap (eb.p2 - ea.p2)), .int .i64 (IntKind.i64.wrap (eb.v0 - ea.v0)), .int .i64 (IntKind.i64.wrap (eb.v1 - ea.v1)), .int .i64 (eb.v2), .int .u16 ((((eb.a).toNat : Nat) : Int))] 78]) [blk g15 [.int .i64 (1), .int .i64 (eb.id), .int .i64 (IntKind.i64.wrap (eb.p0 - ea.p0)), .int .i64 (IntKind.i64.wrap (eb.p1 - ea.p1)), .int .i64 (IntKind.i64.wrap (eb.p2 - ea.p2)), .int .i64 (IntKind.i64.wrap (eb.v0 - ea.v0)), .int .i64 (IntKind.i64.wrap (eb.v1 - ea.v1)), .int .i64 (eb.v2), .int .u16 ((((eb.a).toNat : Nat) : Int))] 78] _ _ := hs
    have hm0 := hm.mid
    replace hs := hs.lrn (ht 8 (twB_spec 11 _ (by kernel_rfl))) rfl rfl
    replace hs := hs.lrn (ht 9 (twB_spec 11 _ (by kernel_rfl))) rfl rfl
    have hs0 := hs.bare
    refine st_stB hs rfl rfl .z (.s (.s (.s (.s (.s (.s (.s .z))))))) rfl Tryz.sizeOf2 ?_; clear hs; intro a w hs
    exact wpList_nil ⟨rfl, .tuple #[], _, hs0, (.c (.c .r)), hs, trivial⟩
   clear hs w a; intro a w vs86 hs hf
   replace hs : St _ _ _ _ [blk g28 [.pointer (some ⟨g25, 2, none⟩), .pointer (some ⟨g25, 3, none⟩), .pointer (some ⟨g25, 4, none⟩), .pointer (some ⟨g25, 5, none⟩), .pointer (some ⟨g25, 6, none⟩), .pointer (some ⟨g25, 7, none⟩)] 153, blk g25 [.int .i64 (0), .int .i64 (0), .int .i64 (ea.p0), .int .i64 (ea.p1), .int .i64 (ea.p2), .int .i64 (ea.v0), .int .i64 (ea.v1), .int .i64 (ea.v2), .int .u16 (0)] 78, blk g5 [.int .i64 (0), .int .i64 (0), .int .i64 (0), .int .i64 (0), .int .i64 (0), .int .i64 (0), .int .i64 (0), .int .i64 (0), .int .u16 (0)] 78, blk g4 [.int .i64 (eb.id), .int .i64 (eb.p0), .int .i64 (eb.p1), .int .i64 (eb.p2), .int .i64 (eb.v0), .int .i64 (eb.v1), .int .i64 (eb.v2), .int .u16 ((((eb.a).toNat : Nat) : Int)), .int .u8 ((((eb.g).toNat : Nat) : Int))] 73, blk g3 [.int .i64 (ea.id), .int .i64 (ea.p0), .int .i64 (ea.p1), .int .i64 (ea.p2), .int .i64 (ea.v0), .int .i64 (ea.v1), .int .i64 (ea.v2), .int .u16 ((((ea.a).toNat : Nat) : Int)), .int .u8 ((((ea.g).toNat : Nat) : Int))] 73, blk g15 [.int .i64 (1), .int .i64 (eb.id), .int .i64 (IntKind.i64.wrap (eb.p0 - ea.p0)), .int .i64 (IntKind.i64.wrap (eb.p1 - ea.p1)), .int .i64 (IntKind.i64.wrap (eb.p2 - ea.p2)), .int .i64 (IntKind.i64.wrap (eb.v0 - ea.v0)), .int .i64 (IntKind.i64.wrap (eb.v1 - ea.v1)), .int .i64 (IntKind.i64.wrap (eb.v2 - ea.v2)), .int .u16 ((((eb.a).toNat : Nat) : Int))] 78] _ _ := hs
   clear hf
   refine in_n ?_
   refine then_n (hK83 _ _ ?_)
   refine wp_region_lit ?_
   refine st_run 2 [(37, .int .i64 (6)), (51, .int .i64 (6))] hs .n (by kernel_rfl) (by kernel_rfl) (by kernel_rfl) ?_; clear hs a; intro a hs
   refine wpList_nil ?_
   refine then_n ?_
   refine rounds_in ?_
   refine wp_seq_k fun K87 hK88 => ?_
   refine wp_region_lit ?_
   refine st_lss hs rfl rfl rfl ?_; clear hs w a; intro a w hs
   rw [show (decide ((6 : Int) < 6)) = false from by decide] at hs
   refine wpList_nil ?_
   refine then_n (hK88 _ _ ?_)
   refine wp_seq_k fun K89 hK90 => ?_
   refine wp_cond_false (hs.ev rfl) ?_
   refine wp_exit ?_
   refine th_e ?_
   refine th_e ?_
   refine in_hit ?_
   refine then_n (hK30 _ _ ?_)
   refine wp_region_lit ?_
   refine st_run 4 [(55, .int .u16 ((((ea.a).toNat : Nat) : Int))), (53, .int .u16 ((((eb.a).toNat : Nat) : Int)))] hs (.c (hs.mem.del (.s (.s (.s (.s (.s .z)))))) (.c (hs.mem.del (.s (.s (.s (.s .z))))) .n)) (by kernel_rfl) (by kernel_rfl) (by kernel_rfl) ?_; clear hs a; intro a hs
   refine st_sub_u16 (X := eb.a) (Y := ea.a) hs rfl rfl rfl rfl rfl ?_; clear hs w a; intro a w hs
   refine st_fa hs rfl Tryz.underlying78 rfl Tryz.sizeOf70 (by decide) (o := 8) rfl rfl ?_; clear hs w a; intro a w hs
   refine st_stB hs rfl rfl (.s (.s (.s (.s (.s .z))))) (.s (.s (.s (.s (.s (.s (.s (.s .z)))))))) rfl Tryz.sizeOf70 ?_; clear hs w a; intro a w hs
   refine wpList_nil ?_
   refine then_n (hK17 _ _ ?_)
   refine wp_seq_k fun K91 hK92 => ?_
   refine wp_region_lit ?_
   refine st_ldBA hs rfl .z (.z (.c (.c (.c (.c (.c (.c (.c (.c (.c .n)))))))))) Tryz.isAgg78 Tryz.sizeOf78 rfl ?_; clear hs w a; intro a w hs
   refine st_stBA hs rfl rfl (.s (.s (.s .z))) (.z (.c (.c (.c (.c (.c (.c (.c (.c (.c .n)))))))))) (ones_c rfl (ones_c rfl (ones_c rfl (ones_c rfl (ones_c rfl (ones_c rfl (ones_c rfl (ones_c rfl (ones_c rfl ones_n))))))))) Tryz.sizeOf78 rfl ?_; clear hs w a; intro a w hs
   refine st_as hs rfl rfl ?_; clear hs w a; intro a w hs
   refine wpList_nil ?_
   refine then_n (hK92 _ _ ?_)
   refine wp_ret ?_
   exact finC2 hs rfl rfl rfl .z (.z (.c (.c (.c (.c (.c (.c (.c (.c (.c .n)))))))))) Tryz.isAgg78 Tryz.sizeOf78 (.c .z (.c .z (.c .z (.c .z (.c .z (.c .z .n)))))) (by first | (rw [recDiff_eq (by assumption)]; exact ⟨rfl, rfl⟩) | (rw [recDiff_upd (by assumption) (by omega)]; exact ⟨rfl, rfl⟩) | (rw [recDiff_tel (by assumption) (by omega)]; exact ⟨rfl, rfl⟩))
  replace hc20 := ne_of_beq_f hc20
  refine wp_skip ?_
  refine then_n (hK17 _ _ ?_)
  refine wp_seq_k fun K93 hK94 => ?_
  refine wp_region_lit ?_
  refine st_ldBA hs rfl .z (.z (.c (.c (.c (.c (.c (.c (.c (.c (.c .n)))))))))) Tryz.isAgg78 Tryz.sizeOf78 rfl ?_; clear hs w a; intro a w hs
  refine st_stBA hs rfl rfl (.s .z) (.z (.c (.c (.c (.c (.c (.c (.c (.c (.c .n)))))))))) (ones_c rfl (ones_c rfl (ones_c rfl (ones_c rfl (ones_c rfl (ones_c rfl (ones_c rfl (ones_c rfl (ones_c rfl ones_n))))))))) Tryz.sizeOf78 rfl ?_; clear hs w a; intro a w hs
  refine st_as hs rfl rfl ?_; clear hs w a; intro a w hs
  refine wpList_nil ?_
  refine then_n (hK94 _ _ ?_)
  refine wp_ret ?_
  exact finC2 hs rfl rfl rfl .z (.z (.c (.c (.c (.c (.c (.c (.c (.c (.c .n)))))))))) Tryz.isAgg78 Tryz.sizeOf78 (.c .z (.c .z (.c .z (.c .z .n)))) (by first | (rw [recDiff_eq (by assumption)]; exact ⟨rfl, rfl⟩) | (rw [recDiff_upd (by assumption) (by omega)]; exact ⟨rfl, rfl⟩) | (rw [recDiff_tel (by assumption) (by omega)]; exact ⟨rfl, rfl⟩))
theorem apply_ok (ea : EntR) (r : RecR) (w0 : World) : Calls Tryz.prog 37 #[.agg #[.int .i64 (ea.id), .int .i64 (ea.p0), .int .i64 (ea.p1), .int .i64 (ea.p2), .int .i64 (ea.v0), .int .i64 (ea.v1), .int .i64 (ea.v2), .int .u16 ((((ea.a).toNat : Nat) : Int)), .int .u8 ((((ea.g).toNat : Nat) : Int))], .agg #[.int .i64 (r.k), .int .i64 (r.id), .int .i64 (r.p0), .int .i64 (r.p1), .int .i64 (r.p2), .int .i64 (r.v0), .int .i64 (r.v1), .int .i64 (r.v2), .int .u16 ((((r.a).toNat : Nat) : Int))]] w0 (RetV w0 (.tuple #[.agg #[.int .i64 (((entApply ea r).1).id), .int .i64 (((entApply ea r).1).p0), .int .i64 (((entApply ea r).1).p1), .int .i64 (((entApply ea r).1).p2), .int .i64 (((entApply ea r).1).v0), .int .i64 (((entApply ea r).1).v1), .int .i64 (((entApply ea r).1).v2), .int .u16 ((((((entApply ea r).1).a).toNat : Nat) : Int)), .int .u8 ((((((entApply ea r).1).g).toNat : Nat) : Int))], .int .i64 (((entApply ea r).2 : Nat) : Int)])) := by
  refine enter (F0 := [(0, .agg #[.int .i64 (ea.id), .int .i64 (ea.p0), .int .i64 (ea.p1), .int .i64 (ea.p2), .int .i64 (ea.v0), .int .i64 (ea.v1), .int .i64 (ea.v2), .int .u16 ((((ea.a).toNat : Nat) : Int)), .int .u8 ((((ea.g).toNat : Nat) : Int))]), (1, .agg #[.int .i64 (r.k), .int .i64 (r.id), .int .i64 (r.p0), .int .i64 (r.p1), .int .i64 (r.p2), .int .i64 (r.v0), .int .i64 (r.v1), .int .i64 (r.v2), .int .u16 ((((r.a).toNat : Nat) : Int))])]) Tryz.func37 rfl rfl rfl (.c (.c .n)) (Mem.nil _) fun a w hs => ?_
  refine wp_seq_k fun K1 hK2 => ?_
  refine wp_region_lit ?_
  refine st_box (cs := [.int .i64 (ea.id), .int .i64 (ea.p0), .int .i64 (ea.p1), .int .i64 (ea.p2), .int .i64 (ea.v0), .int .i64 (ea.v1), .int .i64 (ea.v2), .int .u16 ((((ea.a).toNat : Nat) : Int)), .int .u8 ((((ea.g).toNat : Nat) : Int))]) hs rfl rfl rfl ?_; clear hs w a; intro g3 a w hs
  refine st_box (cs := [.int .i64 (r.k), .int .i64 (r.id), .int .i64 (r.p0), .int .i64 (r.p1), .int .i64 (r.p2), .int .i64 (r.v0), .int .i64 (r.v1), .int .i64 (r.v2), .int .u16 ((((r.a).toNat : Nat) : Int))]) hs rfl rfl rfl ?_; clear hs w a; intro g4 a w hs
  refine st_alloc (cs := [.int .i64 (0), .int .i64 (0), .int .i64 (0), .int .i64 (0), .int .i64 (0), .int .i64 (0), .int .i64 (0), .int .u16 (0), .int .u8 (0)]) hs Tryz.zeroValue73 rfl rfl ?_; clear hs w a; intro g5 a w hs
  refine st_as hs rfl rfl ?_; clear hs w a; intro a w hs
  refine wpList_nil ?_
  refine then_n (hK2 _ _ ?_)
  refine wp_seq_k fun K6 hK7 => ?_
  refine wp_seq_k fun K8 hK9 => ?_
  refine wp_region_lit ?_
  refine st_ldBA hs rfl (.s .z) (.z (.c (.c (.c (.c (.c (.c (.c (.c (.c .n)))))))))) Tryz.isAgg78 Tryz.sizeOf78 rfl ?_; clear hs w a; intro a w hs
  refine st_callP (v := .int .i64 (((recChk r : Nat) : Int))) hs (.c rfl .n) Tryz.call63 (chk_ok r _) rfl ?_; clear hs w a; intro a w hs
  refine st_as hs rfl rfl ?_; clear hs w a; intro a w hs
  refine wpList_nil ?_
  refine then_n (hK9 _ _ ?_)
  refine wp_seq_k fun K10 hK11 => ?_
  refine wp_region_lit ?_
  refine st_run 2 [(11, .bool (!((((recChk r : Nat) : Int) : Int) == 0)))] hs .n (by kernel_rfl) (by kernel_rfl) (by kernel_rfl) ?_; clear hs a; intro a hs
  refine wpList_nil ?_
  refine then_n (hK11 _ _ ?_)
  refine wp_if hs rfl (fun hc12 => ?_) (fun hc12 => ?_)
  ·
   replace hc12 := not_t hc12
   replace hc12 := ne_of_beq_f hc12
   refine wp_seq_k fun K13 hK14 => ?_
   refine wp_region_lit ?_
   refine st_build (it := Tryz.t73) (zs := [.int .i64 (0), .int .i64 (0), .int .i64 (0), .int .i64 (0), .int .i64 (0), .int .i64 (0), .int .i64 (0), .int .u16 (0), .int .u8 (0)]) (places := [(0, 1), (1, 3), (4, 3), (7, 1), (8, 1)]) hs .n Tryz.underlying73 rfl rfl rfl rfl .n rfl ?_; clear hs w a; intro a w hs
   refine st_mv hs rfl rfl ?_; clear hs w a; intro a w hs
   refine st_stBA hs rfl rfl .z (.z (.c (.c (.c (.c (.c (.c (.c (.c (.c .n)))))))))) (ones_c rfl (ones_c rfl (ones_c rfl (ones_c rfl (ones_c rfl (ones_c rfl (ones_c rfl (ones_c rfl (ones_c rfl ones_n))))))))) Tryz.sizeOf73 rfl ?_; clear hs w a; intro a w hs
   refine st_as hs rfl rfl ?_; clear hs w a; intro a w hs
   refine wpList_nil ?_
   refine then_n (hK14 _ _ ?_)
   refine wp_ret ?_
   refine th_r ?_
   exact finC2 hs rfl rfl rfl .z (.z (.c (.c (.c (.c (.c (.c (.c (.c (.c .n)))))))))) Tryz.isAgg73 Tryz.sizeOf73 (.c .z (.c .z (.c .z .n))) (by first | (rw [entApply_chk (by omega)]; exact ⟨rfl, rfl⟩) | (rw [entApply_no (by omega) (by omega)]; exact ⟨rfl, rfl⟩) | (rw [entApply_tel (by omega) (by omega) (by omega)]; exact ⟨rfl, rfl⟩) | (rw [entApply_upd (by omega) (by omega) (by omega)]; exact ⟨rfl, rfl⟩))
  replace hc12 := not_f hc12
  replace hc12 := eq_of_beq hc12
  refine wp_skip ?_
  refine then_n (hK7 _ _ ?_)
  refine wp_seq_k fun K15 hK16 => ?_
  refine wp_block ?_
  refine wp_seq_k fun K17 hK18 => ?_
  refine wp_region_lit ?_
  refine st_run 6 [(20, .bool (!((r.id : Int) == ea.id)))] hs (.c (hs.mem.del (.s .z)) (.c (hs.mem.del (.s (.s .z))) .n)) (by kernel_rfl) (by kernel_rfl) (by kernel_rfl) ?_; clear hs a; intro a hs
  refine st_part (b := !((r.id : Int) == ea.id)) (fun hc19 => ?_) (fun hc19 => ?_)
  ·
   rw [hc19] at hs
   replace hc19 := not_t hc19
   replace hc19 := ne_of_beq_f hc19
   refine st_run 10 [(14, .bool (true))] hs .n (by kernel_rfl) (by kernel_rfl) (by kernel_rfl) ?_; clear hs a; intro a hs
   refine wpList_nil ?_
   refine then_n (hK18 _ _ ?_)
   refine wp_cond_true (hs.ev rfl) ?_
   refine wp_seq_k fun K20 hK21 => ?_
   refine wp_region_lit ?_
   refine st_build (it := Tryz.t73) (zs := [.int .i64 (0), .int .i64 (0), .int .i64 (0), .int .i64 (0), .int .i64 (0), .int .i64 (0), .int .i64 (0), .int .u16 (0), .int .u8 (0)]) (places := [(0, 1), (1, 3), (4, 3), (7, 1), (8, 1)]) hs .n Tryz.underlying73 rfl rfl rfl rfl .n rfl ?_; clear hs w a; intro a w hs
   refine st_stBA hs rfl rfl .z (.z (.c (.c (.c (.c (.c (.c (.c (.c (.c .n)))))))))) (ones_c rfl (ones_c rfl (ones_c rfl (ones_c rfl (ones_c rfl (ones_c rfl (ones_c rfl (ones_c rfl (ones_c rfl ones_n))))))))) Tryz.sizeOf73 rfl ?_; clear hs w a; intro a w hs
   refine st_as hs rfl rfl ?_; clear hs w a; intro a w hs
   refine wpList_nil ?_
   refine then_n (hK21 _ _ ?_)
   refine wp_ret ?_
   refine in_r ?_
   refine th_r ?_
   exact finC2 hs rfl rfl rfl .z (.z (.c (.c (.c (.c (.c (.c (.c (.c (.c .n)))))))))) Tryz.isAgg73 Tryz.sizeOf73 (.c .z (.c .z (.c .z .n))) (by first | (rw [entApply_chk (by omega)]; exact ⟨rfl, rfl⟩) | (rw [entApply_no (by omega) (by omega)]; exact ⟨rfl, rfl⟩) | (rw [entApply_tel (by omega) (by omega) (by omega)]; exact ⟨rfl, rfl⟩) | (rw [entApply_upd (by omega) (by omega) (by omega)]; exact ⟨rfl, rfl⟩))
  rw [hc19] at hs
  replace hc19 := not_f hc19
  replace hc19 := eq_of_beq hc19
  refine st_run 5 [(25, .bool ((r.k : Int) == 0))] hs (.c (hs.mem.del (.s .z)) .n) (by kernel_rfl) (by kernel_rfl) (by kernel_rfl) ?_; clear hs a; intro a hs
  refine st_part (b := (r.k : Int) == 0) (fun hc22 => ?_) (fun hc22 => ?_)
  ·
   rw [hc22] at hs
   replace hc22 := eq_of_beq hc22
   refine st_run 5 [(14, .bool (true))] hs .n (by kernel_rfl) (by kernel_rfl) (by kernel_rfl) ?_; clear hs a; intro a hs
   refine wpList_nil ?_
   refine then_n (hK18 _ _ ?_)
   refine wp_cond_true (hs.ev rfl) ?_
   refine wp_seq_k fun K23 hK24 => ?_
   refine wp_region_lit ?_
   refine st_build (it := Tryz.t73) (zs := [.int .i64 (0), .int .i64 (0), .int .i64 (0), .int .i64 (0), .int .i64 (0), .int .i64 (0), .int .i64 (0), .int .u16 (0), .int .u8 (0)]) (places := [(0, 1), (1, 3), (4, 3), (7, 1), (8, 1)]) hs .n Tryz.underlying73 rfl rfl rfl rfl .n rfl ?_; clear hs w a; intro a w hs
   refine st_stBA hs rfl rfl .z (.z (.c (.c (.c (.c (.c (.c (.c (.c (.c .n)))))))))) (ones_c rfl (ones_c rfl (ones_c rfl (ones_c rfl (ones_c rfl (ones_c rfl (ones_c rfl (ones_c rfl (ones_c rfl ones_n))))))))) Tryz.sizeOf73 rfl ?_; clear hs w a; intro a w hs
   refine st_as hs rfl rfl ?_; clear hs w a; intro a w hs
   refine wpList_nil ?_
   refine then_n (hK24 _ _ ?_)
   refine wp_ret ?_
   refine in_r ?_
   refine th_r ?_
   exact finC2 hs rfl rfl rfl .z (.z (.c (.c (.c (.c (.c (.c (.c (.c (.c .n)))))))))) Tryz.isAgg73 Tryz.sizeOf73 (.c .z (.c .z (.c .z .n))) (by first | (rw [entApply_chk (by omega)]; exact ⟨rfl, rfl⟩) | (rw [entApply_no (by omega) (by omega)]; exact ⟨rfl, rfl⟩) | (rw [entApply_tel (by omega) (by omega) (by omega)]; exact ⟨rfl, rfl⟩) | (rw [entApply_upd (by omega) (by omega) (by omega)]; exact ⟨rfl, rfl⟩))
  rw [hc22] at hs
  replace hc22 := ne_of_beq_f hc22
  refine st_run 5 [(14, .bool ((r.k : Int) == 2))] hs (.c (hs.mem.del (.s .z)) .n) (by kernel_rfl) (by kernel_rfl) (by kernel_rfl) ?_; clear hs a; intro a hs
  refine wpList_nil ?_
  refine then_n (hK18 _ _ ?_)
  refine wp_if hs rfl (fun hc25 => ?_) (fun hc25 => ?_)
  ·
   replace hc25 := eq_of_beq hc25
   refine wp_seq_k fun K26 hK27 => ?_
   refine wp_region_lit ?_
   refine st_build (it := Tryz.t73) (zs := [.int .i64 (0), .int .i64 (0), .int .i64 (0), .int .i64 (0), .int .i64 (0), .int .i64 (0), .int .i64 (0), .int .u16 (0), .int .u8 (0)]) (places := [(0, 1), (1, 3), (4, 3), (7, 1), (8, 1)]) hs .n Tryz.underlying73 rfl rfl rfl rfl .n rfl ?_; clear hs w a; intro a w hs
   refine st_stBA hs rfl rfl .z (.z (.c (.c (.c (.c (.c (.c (.c (.c (.c .n)))))))))) (ones_c rfl (ones_c rfl (ones_c rfl (ones_c rfl (ones_c rfl (ones_c rfl (ones_c rfl (ones_c rfl (ones_c rfl ones_n))))))))) Tryz.sizeOf73 rfl ?_; clear hs w a; intro a w hs
   refine st_as hs rfl rfl ?_; clear hs w a; intro a w hs
   refine wpList_nil ?_
   refine then_n (hK27 _ _ ?_)
   refine wp_ret ?_
   refine in_r ?_
   refine th_r ?_
   exact finC2 hs rfl rfl rfl .z (.z (.c (.c (.c (.c (.c (.c (.c (.c (.c .n)))))))))) Tryz.isAgg73 Tryz.sizeOf73 (.c .z (.c .z (.c .z .n))) (by first | (rw [entApply_chk (by omega)]; exact ⟨rfl, rfl⟩) | (rw [entApply_no (by omega) (by omega)]; exact ⟨rfl, rfl⟩) | (rw [entApply_tel (by omega) (by omega) (by omega)]; exact ⟨rfl, rfl⟩) | (rw [entApply_upd (by omega) (by omega) (by omega)]; exact ⟨rfl, rfl⟩))
  replace hc25 := ne_of_beq_f hc25
  refine wp_seq_k fun K28 hK29 => ?_
  refine wp_region_lit ?_
  refine st_run 4 [(31, .bool ((r.k : Int) == 3))] hs (.c (hs.mem.del (.s .z)) .n) (by kernel_rfl) (by kernel_rfl) (by kernel_rfl) ?_; clear hs a; intro a hs
  refine wpList_nil ?_
  refine then_n (hK29 _ _ ?_)
  refine wp_if hs rfl (fun hc30 => ?_) (fun hc30 => ?_)
  ·
   replace hc30 := eq_of_beq hc30
   refine wp_seq_k fun K31 hK32 => ?_
   refine wp_region_lit ?_
   refine st_run 10 [(44, .int .u8 ((((ea.g).toNat : Nat) : Int))), (42, .int .u16 ((((r.a).toNat : Nat) : Int))), (40, .agg #[.int .i64 (r.v0), .int .i64 (r.v1), .int .i64 (r.v2)]), (38, .agg #[.int .i64 (r.p0), .int .i64 (r.p1), .int .i64 (r.p2)]), (36, .int .i64 (ea.id))] hs (.c (hs.mem.del (.s (.s .z))) (.c (hs.mem.del (.s .z)) (.c (hs.mem.del (.s .z)) (.c (hs.mem.del (.s .z)) (.c (hs.mem.del (.s (.s .z))) .n))))) (by kernel_rfl) (by kernel_rfl) (by kernel_rfl) ?_; clear hs a; intro a hs
   refine st_add_u8 (X := ea.g) (Y := 1#8) hs rfl rfl rfl (by decide) rfl ?_; clear hs w a; intro a w hs
   refine st_build (it := Tryz.t73) (zs := [.int .i64 (0), .int .i64 (0), .int .i64 (0), .int .i64 (0), .int .i64 (0), .int .i64 (0), .int .i64 (0), .int .u16 (0), .int .u8 (0)]) (places := [(0, 1), (1, 3), (4, 3), (7, 1), (8, 1)]) hs (.c rfl (.c rfl (.c rfl (.c rfl (.c rfl .n))))) Tryz.underlying73 rfl rfl rfl rfl (.c rfl rfl (.z (.c .n)) (.c rfl rfl (.s (.z (.c (.c (.c .n))))) (.c rfl rfl (.s (.s (.s (.s (.z (.c (.c (.c .n)))))))) (.c rfl rfl (.s (.s (.s (.s (.s (.s (.s (.z (.c .n))))))))) (.c rfl rfl (.s (.s (.s (.s (.s (.s (.s (.s (.z (.c .n)))))))))) .n))))) rfl ?_; clear hs w a; intro a w hs
   refine st_stBA hs rfl rfl .z (.z (.c (.c (.c (.c (.c (.c (.c (.c (.c .n)))))))))) (ones_c rfl (ones_c rfl (ones_c rfl (ones_c rfl (ones_c rfl (ones_c rfl (ones_c rfl (ones_c rfl (ones_c rfl ones_n))))))))) Tryz.sizeOf73 rfl ?_; clear hs w a; intro a w hs
   refine st_as hs rfl rfl ?_; clear hs w a; intro a w hs
   refine wpList_nil ?_
   refine then_n (hK32 _ _ ?_)
   refine wp_ret ?_
   refine in_r ?_
   refine th_r ?_
   exact finC2 hs rfl rfl rfl .z (.z (.c (.c (.c (.c (.c (.c (.c (.c (.c .n)))))))))) Tryz.isAgg73 Tryz.sizeOf73 (.c .z (.c .z (.c .z .n))) (by first | (rw [entApply_chk (by omega)]; exact ⟨rfl, rfl⟩) | (rw [entApply_no (by omega) (by omega)]; exact ⟨rfl, rfl⟩) | (rw [entApply_tel (by omega) (by omega) (by omega)]; exact ⟨rfl, rfl⟩) | (rw [entApply_upd (by omega) (by omega) (by omega)]; exact ⟨rfl, rfl⟩))
  replace hc30 := ne_of_beq_f hc30
  refine wp_skip ?_
  refine in_n ?_
  refine then_n (hK16 _ _ ?_)
  refine wp_seq_k fun K33 hK34 => ?_
  refine wp_seq_k fun K35 hK36 => ?_
  refine wp_region_lit ?_
  refine st_mv hs rfl rfl ?_; clear hs w a; intro a w hs
  refine wpList_nil ?_
  refine then_n (hK36 _ _ ?_)
  refine wp_block ?_
  refine wp_loop_rounds 4 ?_
  refine rounds_in ?_
  refine wp_seq_k fun K37 hK38 => ?_
  refine wp_region_lit ?_
  refine st_lss hs rfl rfl rfl ?_; clear hs w a; intro a w hs
  rw [show (decide ((0 : Int) < 3)) = true from by decide] at hs
  refine wpList_nil ?_
  refine then_n (hK38 _ _ ?_)
  refine wp_seq_k fun K39 hK40 => ?_
  refine wp_cond_true (hs.ev rfl) ?_
  refine wp_skip ?_
  refine then_n (hK40 _ _ ?_)
  refine wp_seq_k fun K41 hK42 => ?_
  refine wp_block ?_
  refine wp_seq_k fun K43 hK44 => ?_
  refine wp_region_lit ?_
  refine st_run 2 [(7, .int .i64 (0)), (49, .int .i64 (0))] hs .n (by kernel_rfl) (by kernel_rfl) (by kernel_rfl) ?_; clear hs a; intro a hs
  refine wpList_nil ?_
  refine then_n (hK44 _ _ ?_)
  refine wp_seq_k fun K45 hK46 => ?_
  replace hs := hs.sub (F' := [(7, .int .i64 (0)), (49, .int .i64 (0)), (48, .bool (true)), (47, .int .i64 (0)), (5, .int .i64 (0)), (4, .pointer (some ⟨g5, 0, none⟩)), (3, .pointer (some ⟨g4, 0, none⟩)), (2, .pointer (some ⟨g3, 0, none⟩))]) (.c rfl (.c rfl (.c rfl (.c rfl (.c rfl (.c rfl (.c rfl (.c rfl .n))))))))
  refine wp_drawG (M0 := [blk g5 [.int .i64 (0), .int .i64 (0), .int .i64 (0), .int .i64 (0), .int .i64 (0), .int .i64 (0), .int .i64 (0), .int .u16 (0), .int .u8 (0)] 73, blk g4 [.int .i64 (r.k), .int .i64 (r.id), .int .i64 (r.p0), .int .i64 (r.p1), .int .i64 (r.p2), .int .i64 (r.v0), .int .i64 (r.v1), .int .i64 (r.v2), .int .u16 ((((r.a).toNat : Nat) : Int))] 78]) (Ds := [Pv 0 (.int .i64 (0)), Pv 1 (.pointer (some ⟨g3, 1, none⟩)), Pv 2 (.pointer (some ⟨g3, 1, none⟩)), Pv 3 (.int .i64 (ea.p0)), Pv 4 (.int .i64 (0)), Pv 5 (.pointer (some ⟨g4, 2, none⟩)), Pv 6 (.pointer (some ⟨g4, 2, none⟩)), Pv 7 (.int .i64 (r.p0)), Pv 8 (.int .i64 (IntKind.i64.wrap (ea.p0 + r.p0))), Pv 9 (.pointer (some ⟨g3, 1, none⟩)), Pv 10 (.pointer (some ⟨g3, 1, none⟩)), ⟨[blk g3 [.int .i64 (ea.id), .int .i64 (ea.p0), .int .i64 (ea.p1), .int .i64 (ea.p2), .int .i64 (ea.v0), .int .i64 (ea.v1), .int .i64 (ea.v2), .int .u16 ((((ea.a).toNat : Nat) : Int)), .int .u8 ((((ea.g).toNat : Nat) : Int))] 73], [], [], fun vs47 => True, fun vs47 => [blk g3 [.int .i64 (ea.id), .int .i64 (IntKind.i64.wrap (ea.p0 + r.p0)), .int .i64 (ea.p1), .int .i64 (ea.p2), .int .i64 (ea.v0), .int .i64 (ea.v1), .int .i64 (ea.v2), .int .u16 ((((ea.a).toNat : Nat) : Int)), .int .u8 ((((ea.g).toNat : Nat) : Int))] 73], none⟩]) (by kernel_rfl) hs rfl (.c (.s (.s .z)) .n) (by kernel_rfl) (by kernel_rfl) (by kernel_rfl) ?_ ?_
  ·
   refine (.c ?_ (.c ?_ (.c ?_ (.c ?_ (.c ?_ (.c ?_ (.c ?_ (.c ?_ (.c ?_ (.c ?_ (.c ?_ (.c ?_ .n))))))))))))
   · exact trip_pv (m := 12) .n (fun hm0 hm hx => .n) (by kernel_rfl) (by kernel_rfl) rfl
   · exact trip_pv (m := 12) .n (fun hm0 hm hx => .n) (by kernel_rfl) (by kernel_rfl) rfl
   · exact trip_pv (m := 12) (.c (k := 0) (by kernel_rfl) rfl rfl (.c (k := 1) (by kernel_rfl) rfl rfl .n)) (fun hm0 hm hx => .n) (by kernel_rfl) (by kernel_rfl) rfl
   · exact trip_pv (m := 12) (.c (k := 2) (by kernel_rfl) rfl rfl .n) (fun hm0 hm hx => (.c (hm.own (List.mem_append.2 (.inr ((hx 11 (twB_spec 12 _ (by kernel_rfl))).1 _ (List.Mem.head _))))))) (by kernel_rfl) (by kernel_rfl) rfl
   · exact trip_pv (m := 12) .n (fun hm0 hm hx => .n) (by kernel_rfl) (by kernel_rfl) rfl
   · exact trip_pv (m := 12) .n (fun hm0 hm hx => .n) (by kernel_rfl) (by kernel_rfl) rfl
   · exact trip_pv (m := 12) (.c (k := 4) (by kernel_rfl) rfl rfl (.c (k := 5) (by kernel_rfl) rfl rfl .n)) (fun hm0 hm hx => .n) (by kernel_rfl) (by kernel_rfl) rfl
   · exact trip_pv (m := 12) (.c (k := 6) (by kernel_rfl) rfl rfl .n) (fun hm0 hm hx => (.c (hm0.del (.s .z)))) (by kernel_rfl) (by kernel_rfl) rfl
   ·
    intro a_ w_ R_ rest_ vs47 hm hs ht hx
    have hm0 := hm.mid
    replace hs := hs.lrn (ht 3 (twB_spec 12 _ (by kernel_rfl))) rfl rfl
    replace hs := hs.lrn (ht 7 (twB_spec 12 _ (by kernel_rfl))) rfl rfl
    have hs0 := hs.bare
    refine st_add hs rfl rfl rfl ?_; clear hs; intro a w hs
    exact wpList_nil ⟨rfl, _, _, hs0, (.c (.c .r)), hs, rfl⟩
   · exact trip_pv (m := 12) .n (fun hm0 hm hx => .n) (by kernel_rfl) (by kernel_rfl) rfl
   · exact trip_pv (m := 12) (.c (k := 0) (by kernel_rfl) rfl rfl (.c (k := 9) (by kernel_rfl) rfl rfl .n)) (fun hm0 hm hx => .n) (by kernel_rfl) (by kernel_rfl) rfl
   intro a_ w_ R_ rest_ vs47 hm hs ht hx
   replace hs : St _ _ _ (feet [blk g3 [.int .i64 (ea.id), .int .i64 (ea.p0), .int .i64 (ea.p1), .int .i64 (ea.p2), .int .i64 (ea.v0), .int .i64 (ea.v1), .int .i64 (ea.v2), .int .u16 ((((ea.a).toNat : Nat) : Int)), .int .u8 ((((ea.g).toNat : Nat) : Int))] 73]) [blk g3 [.int .i64 (ea.id), .int .i64 (ea.p0), .int .i64 (ea.p1), .int .i64 (ea.p2), .int .i64 (ea.v0), .int .i64 (ea.v1), .int .i64 (ea.v2), .int .u16 ((((ea.a).toNat : Nat) : Int)), .int .u8 ((((ea.g).toNat : Nat) : Int))] 73] _ _ := hs
   have hm0 := hm.mid
   replace hs := hs.lrn (ht 8 (twB_spec 12 _ (by kernel_rfl))) rfl rfl
   replace hs := hs.lrn (ht 10 (twB_spec 12 _ (by kernel_rfl))) rfl rfl
   have hs0 := hs.bare
   refine st_stB hs rfl rfl .z (.s .z) rfl Tryz.sizeOf2 ?_; clear hs; intro a w hs
   exact wpList_nil ⟨rfl, .tuple #[], _, hs0, (.c (.c .r)), hs, trivial⟩
  clear hs w a; intro a w vs47 hs hf
  replace hs : St _ _ _ _ [blk g5 [.int .i64 (0), .int .i64 (0), .int .i64 (0), .int .i64 (0), .int .i64 (0), .int .i64 (0), .int .i64 (0), .int .u16 (0), .int .u8 (0)] 73, blk g4 [.int .i64 (r.k), .int .i64 (r.id), .int .i64 (r.p0), .int .i64 (r.p1), .int .i64 (r.p2), .int .i64 (r.v0), .int .i64 (r.v1), .int .i64 (r.v2), .int .u16 ((((r.a).toNat : Nat) : Int))] 78, blk g3 [.int .i64 (ea.id), .int .i64 (IntKind.i64.wrap (ea.p0 + r.p0)), .int .i64 (ea.p1), .int .i64 (ea.p2), .int .i64 (ea.v0), .int .i64 (ea.v1), .int .i64 (ea.v2), .int .u16 ((((ea.a).toNat : Nat) : Int)), .int .u8 ((((ea.g).toNat : Nat) : Int))] 73] _ _ := hs
  clear hf
  refine then_n (hK46 _ _ ?_)
  replace hs := hs.sub (F' := [(7, .int .i64 (0)), (49, .int .i64 (0)), (48, .bool (true)), (47, .int .i64 (0)), (5, .int .i64 (0)), (4, .pointer (some ⟨g5, 0, none⟩)), (3, .pointer (some ⟨g4, 0, none⟩)), (2, .pointer (some ⟨g3, 0, none⟩))]) (.c rfl (.c rfl (.c rfl (.c rfl (.c rfl (.c rfl (.c rfl (.c rfl .n))))))))
  refine wp_drawG (M0 := [blk g5 [.int .i64 (0), .int .i64 (0), .int .i64 (0), .int .i64 (0), .int .i64 (0), .int .i64 (0), .int .i64 (0), .int .u16 (0), .int .u8 (0)] 73, blk g4 [.int .i64 (r.k), .int .i64 (r.id), .int .i64 (r.p0), .int .i64 (r.p1), .int .i64 (r.p2), .int .i64 (r.v0), .int .i64 (r.v1), .int .i64 (r.v2), .int .u16 ((((r.a).toNat : Nat) : Int))] 78]) (Ds := [Pv 0 (.int .i64 (0)), Pv 1 (.pointer (some ⟨g3, 4, none⟩)), Pv 2 (.pointer (some ⟨g3, 4, none⟩)), Pv 3 (.int .i64 (ea.v0)), Pv 4 (.int .i64 (0)), Pv 5 (.pointer (some ⟨g4, 5, none⟩)), Pv 6 (.pointer (some ⟨g4, 5, none⟩)), Pv 7 (.int .i64 (r.v0)), Pv 8 (.int .i64 (IntKind.i64.wrap (ea.v0 + r.v0))), Pv 9 (.pointer (some ⟨g3, 4, none⟩)), Pv 10 (.pointer (some ⟨g3, 4, none⟩)), ⟨[blk g3 [.int .i64 (ea.id), .int .i64 (IntKind.i64.wrap (ea.p0 + r.p0)), .int .i64 (ea.p1), .int .i64 (ea.p2), .int .i64 (ea.v0), .int .i64 (ea.v1), .int .i64 (ea.v2), .int .u16 ((((ea.a).toNat : Nat) : Int)), .int .u8 ((((ea.g).toNat : Nat) : Int))] 73], [], [], fun vs48 => True, fun vs48 => [blk g3 [.int .i64 (ea.id), .int .i64 (IntKind.i64.wrap (ea.p0 + r.p0)), .int .i64 (ea.p1), .int .i64 (ea.p2), .int .i64 (IntKind.i64.wrap (ea.v0 + r.v0)), .int .i64 (ea.v1), .int .i64 (ea.v2), .int .u16 ((((ea.a).toNat : Nat) : Int)), .int .u8 ((((ea.g).toNat : Nat) : Int))] 73], none⟩]) (by kernel_rfl) hs rfl (.c (.s (.s .z)) .n) (by kernel_rfl) (by kernel_rfl) (by kernel_rfl) ?_ ?_
  ·
   refine (.c ?_ (.c ?_ (.c ?_ (.c ?_ (.c ?_ (.c ?_ (.c ?_ (.c ?_ (.c ?_ (.c ?_ (.c ?_ (.c ?_ .n))))))))))))
   · exact trip_pv (m := 12) .n (fun hm0 hm hx => .n) (by kernel_rfl) (by kernel_rfl) rfl
   · exact trip_pv (m := 12) .n (fun hm0 hm hx => .n) (by kernel_rfl) (by kernel_rfl) rfl
   · exact trip_pv (m := 12) (.c (k := 0) (by kernel_rfl) rfl rfl (.c (k := 1) (by kernel_rfl) rfl rfl .n)) (fun hm0 hm hx => .n) (by kernel_rfl) (by kernel_rfl) rfl
   · exact trip_pv (m := 12) (.c (k := 2) (by kernel_rfl) rfl rfl .n) (fun hm0 hm hx => (.c (hm.own (List.mem_append.2 (.inr ((hx 11 (twB_spec 12 _ (by kernel_rfl))).1 _ (List.Mem.head _))))))) (by kernel_rfl) (by kernel_rfl) rfl
   · exact trip_pv (m := 12) .n (fun hm0 hm hx => .n) (by kernel_rfl) (by kernel_rfl) rfl
   · exact trip_pv (m := 12) .n (fun hm0 hm hx => .n) (by kernel_rfl) (by kernel_rfl) rfl
   · exact trip_pv (m := 12) (.c (k := 4) (by kernel_rfl) rfl rfl (.c (k := 5) (by kernel_rfl) rfl rfl .n)) (fun hm0 hm hx => .n) (by kernel_rfl) (by kernel_rfl) rfl
   · exact trip_pv (m := 12) (.c (k := 6) (by kernel_rfl) rfl rfl .n) (fun hm0 hm hx => (.c (hm0.del (.s .z)))) (by kernel_rfl) (by kernel_rfl) rfl
   ·
    intro a_ w_ R_ rest_ vs48 hm hs ht hx
    have hm0 := hm.mid
    replace hs := hs.lrn (ht 3 (twB_spec 12 _ (by kernel_rfl))) rfl rfl
    replace hs := hs.lrn (ht 7 (twB_spec 12 _ (by kernel_rfl))) rfl rfl
    have hs0 := hs.bare
    refine st_add hs rfl rfl rfl ?_; clear hs; intro a w hs
    exact wpList_nil ⟨rfl, _, _, hs0, (.c (.c .r)), hs, rfl⟩
   · exact trip_pv (m := 12) .n (fun hm0 hm hx => .n) (by kernel_rfl) (by kernel_rfl) rfl
   · exact trip_pv (m := 12) (.c (k := 0) (by kernel_rfl) rfl rfl (.c (k := 9) (by kernel_rfl) rfl rfl .n)) (fun hm0 hm hx => .n) (by kernel_rfl) (by kernel_rfl) rfl
   intro a_ w_ R_ rest_ vs48 hm hs ht hx
   replace hs : St _ _ _ (feet [blk g3 [.int .i64 (ea.id), .int .i64 (IntKind.i64.wrap (ea.p0 + r.p0)), .int .i64 (ea.p1), .int .i64 (ea.p2), .int .i64 (ea.v0), .int .i64 (ea.v1), .int .i64 (ea.v2), .int .u16 ((((ea.a).toNat : Nat) : Int)), .int .u8 ((((ea.g).toNat : Nat) : Int))] 73]) [blk g3 [.int .i64 (ea.id), .int .i64 (IntKind.i64.wrap (ea.p0 + r.p0)), .int .i64 (ea.p1), .int .i64 (ea.p2), .int .i64 (ea.v0), .int .i64 (ea.v1), .int .i64 (ea.v2), .int .u16 ((((ea.a).toNat : Nat) : Int)), .int .u8 ((((ea.g).toNat : Nat) : Int))] 73] _ _ := hs
   have hm0 := hm.mid
   replace hs := hs.lrn (ht 8 (twB_spec 12 _ (by kernel_rfl))) rfl rfl
   replace hs := hs.lrn (ht 10 (twB_spec 12 _ (by kernel_rfl))) rfl rfl
   have hs0 := hs.bare
   refine st_stB hs rfl rfl .z (.s (.s (.s (.s .z)))) rfl Tryz.sizeOf2 ?_; clear hs; intro a w hs
   exact wpList_nil ⟨rfl, .tuple #[], _, hs0, (.c (.c .r)), hs, trivial⟩
  clear hs w a; intro a w vs48 hs hf
  replace hs : St _ _ _ _ [blk g5 [.int .i64 (0), .int .i64 (0), .int .i64 (0), .int .i64 (0), .int .i64 (0), .int .i64 (0), .int .i64 (0), .int .u16 (0), .int .u8 (0)] 73, blk g4 [.int .i64 (r.k), .int .i64 (r.id), .int .i64 (r.p0), .int .i64 (r.p1), .int .i64 (r.p2), .int .i64 (r.v0), .int .i64 (r.v1), .int .i64 (r.v2), .int .u16 ((((r.a).toNat : Nat) : Int))] 78, blk g3 [.int .i64 (ea.id), .int .i64 (IntKind.i64.wrap (ea.p0 + r.p0)), .int .i64 (ea.p1), .int .i64 (ea.p2), .int .i64 (IntKind.i64.wrap (ea.v0 + r.v0)), .int .i64 (ea.v1), .int .i64 (ea.v2), .int .u16 ((((ea.a).toNat : Nat) : Int)), .int .u8 ((((ea.g).toNat : Nat) : Int))] 73] _ _ := hs
  clear hf
  refine in_n ?_
  refine then_n (hK42 _ _ ?_)
  refine wp_region_lit ?_
  refine st_run 2 [(47, .int .i64 (1)), (72, .int .i64 (1))] hs .n (by kernel_rfl) (by kernel_rfl) (by kernel_rfl) ?_; clear hs a; intro a hs
  refine wpList_nil ?_
  refine then_n ?_
  refine rounds_in ?_
  refine wp_seq_k fun K49 hK50 => ?_
  refine wp_region_lit ?_
  refine st_lss hs rfl rfl rfl ?_; clear hs w a; intro a w hs
  rw [show (decide ((1 : Int) < 3)) = true from by decide] at hs
  refine wpList_nil ?_
  refine then_n (hK50 _ _ ?_)
  refine wp_seq_k fun K51 hK52 => ?_
  refine wp_cond_true (hs.ev rfl) ?_
  refine wp_skip ?_
  refine then_n (hK52 _ _ ?_)
  refine wp_seq_k fun K53 hK54 => ?_
  refine wp_block ?_
  refine wp_seq_k fun K55 hK56 => ?_
  refine wp_region_lit ?_
  refine st_run 2 [(7, .int .i64 (1)), (49, .int .i64 (1))] hs .n (by kernel_rfl) (by kernel_rfl) (by kernel_rfl) ?_; clear hs a; intro a hs
  refine wpList_nil ?_
  refine then_n (hK56 _ _ ?_)
  refine wp_seq_k fun K57 hK58 => ?_
  replace hs := hs.sub (F' := [(7, .int .i64 (1)), (49, .int .i64 (1)), (48, .bool (true)), (47, .int .i64 (1)), (72, .int .i64 (1)), (5, .int .i64 (0)), (4, .pointer (some ⟨g5, 0, none⟩)), (3, .pointer (some ⟨g4, 0, none⟩)), (2, .pointer (some ⟨g3, 0, none⟩))]) (.c rfl (.c rfl (.c rfl (.c rfl (.c rfl (.c rfl (.c rfl (.c rfl (.c rfl .n)))))))))
  refine wp_drawG (M0 := [blk g5 [.int .i64 (0), .int .i64 (0), .int .i64 (0), .int .i64 (0), .int .i64 (0), .int .i64 (0), .int .i64 (0), .int .u16 (0), .int .u8 (0)] 73, blk g4 [.int .i64 (r.k), .int .i64 (r.id), .int .i64 (r.p0), .int .i64 (r.p1), .int .i64 (r.p2), .int .i64 (r.v0), .int .i64 (r.v1), .int .i64 (r.v2), .int .u16 ((((r.a).toNat : Nat) : Int))] 78]) (Ds := [Pv 0 (.int .i64 (1)), Pv 1 (.pointer (some ⟨g3, 1, none⟩)), Pv 2 (.pointer (some ⟨g3, 2, none⟩)), Pv 3 (.int .i64 (ea.p1)), Pv 4 (.int .i64 (1)), Pv 5 (.pointer (some ⟨g4, 2, none⟩)), Pv 6 (.pointer (some ⟨g4, 3, none⟩)), Pv 7 (.int .i64 (r.p1)), Pv 8 (.int .i64 (IntKind.i64.wrap (ea.p1 + r.p1))), Pv 9 (.pointer (some ⟨g3, 1, none⟩)), Pv 10 (.pointer (some ⟨g3, 2, none⟩)), ⟨[blk g3 [.int .i64 (ea.id), .int .i64 (IntKind.i64.wrap (ea.p0 + r.p0)), .int .i64 (ea.p1), .int .i64 (ea.p2), .int .i64 (IntKind.i64.wrap (ea.v0 + r.v0)), .int .i64 (ea.v1), .int .i64 (ea.v2), .int .u16 ((((ea.a).toNat : Nat) : Int)), .int .u8 ((((ea.g).toNat : Nat) : Int))] 73], [], [], fun vs59 => True, fun vs59 => [blk g3 [.int .i64 (ea.id), .int .i64 (IntKind.i64.wrap (ea.p0 + r.p0)), .int .i64 (IntKind.i64.wrap (ea.p1 + r.p1)), .int .i64 (ea.p2), .int .i64 (IntKind.i64.wrap (ea.v0 + r.v0)), .int .i64 (ea.v1), .int .i64 (ea.v2), .int .u16 ((((ea.a).toNat : Nat) : Int)), .int .u8 ((((ea.g).toNat : Nat) : Int))] 73], none⟩]) (by kernel_rfl) hs rfl (.c (.s (.s .z)) .n) (by kernel_rfl) (by kernel_rfl) (by kernel_rfl) ?_ ?_
  ·
   refine (.c ?_ (.c ?_ (.c ?_ (.c ?_ (.c ?_ (.c ?_ (.c ?_ (.c ?_ (.c ?_ (.c ?_ (.c ?_ (.c ?_ .n))))))))))))
   · exact trip_pv (m := 12) .n (fun hm0 hm hx => .n) (by kernel_rfl) (by kernel_rfl) rfl
   · exact trip_pv (m := 12) .n (fun hm0 hm hx => .n) (by kernel_rfl) (by kernel_rfl) rfl
   · exact trip_pv (m := 12) (.c (k := 0) (by kernel_rfl) rfl rfl (.c (k := 1) (by kernel_rfl) rfl rfl .n)) (fun hm0 hm hx => .n) (by kernel_rfl) (by kernel_rfl) rfl
   · exact trip_pv (m := 12) (.c (k := 2) (by kernel_rfl) rfl rfl .n) (fun hm0 hm hx => (.c (hm.own (List.mem_append.2 (.inr ((hx 11 (twB_spec 12 _ (by kernel_rfl))).1 _ (List.Mem.head _))))))) (by kernel_rfl) (by kernel_rfl) rfl
   · exact trip_pv (m := 12) .n (fun hm0 hm hx => .n) (by kernel_rfl) (by kernel_rfl) rfl
   · exact trip_pv (m := 12) .n (fun hm0 hm hx => .n) (by kernel_rfl) (by kernel_rfl) rfl
   · exact trip_pv (m := 12) (.c (k := 4) (by kernel_rfl) rfl rfl (.c (k := 5) (by kernel_rfl) rfl rfl .n)) (fun hm0 hm hx => .n) (by kernel_rfl) (by kernel_rfl) rfl
   · exact trip_pv (m := 12) (.c (k := 6) (by kernel_rfl) rfl rfl .n) (fun hm0 hm hx => (.c (hm0.del (.s .z)))) (by kernel_rfl) (by kernel_rfl) rfl
   ·
    intro a_ w_ R_ rest_ vs59 hm hs ht hx
    have hm0 := hm.mid
    replace hs := hs.lrn (ht 3 (twB_spec 12 _ (by kernel_rfl))) rfl rfl
    replace hs := hs.lrn (ht 7 (twB_spec 12 _ (by kernel_rfl))) rfl rfl
    have hs0 := hs.bare
    refine st_add hs rfl rfl rfl ?_; clear hs; intro a w hs
    exact wpList_nil ⟨rfl, _, _, hs0, (.c (.c .r)), hs, rfl⟩
   · exact trip_pv (m := 12) .n (fun hm0 hm hx => .n) (by kernel_rfl) (by kernel_rfl) rfl
   · exact trip_pv (m := 12) (.c (k := 0) (by kernel_rfl) rfl rfl (.c (k := 9) (by kernel_rfl) rfl rfl .n)) (fun hm0 hm hx => .n) (by kernel_rfl) (by kernel_rfl) rfl
   intro a_ w_ R_ rest_ vs59 hm hs ht hx
   replace hs : St _ _ _ (feet [blk g3 [.int .i64 (ea.id), .int .i64 (IntKind.i64.wrap (ea.p0 + r.p0)), .int .i64 (ea.p1), .int .i64 (ea.p2), .int .i64 (IntKind.i64.wrap (ea.v0 + r.v0)), .int .i64 (ea.v1), .int .i64 (ea.v2), .int .u16 ((((ea.a).toNat : Nat) : Int)), .int .u8 ((((ea.g).toNat : Nat) : Int))] 73]) [blk g3 [.int .i64 (ea.id), .int .i64 (IntKind.i64.wrap (ea.p0 + r.p0)), .int .i64 (ea.p1), .int .i64 (ea.p2), .int .i64 (IntKind.i64.wrap (ea.v0 + r.v0)), .int .i64 (ea.v1), .int .i64 (ea.v2), .int .u16 ((((ea.a).toNat : Nat) : Int)), .int .u8 ((((ea.g).toNat : Nat) : Int))] 73] _ _ := hs
   have hm0 := hm.mid
   replace hs := hs.lrn (ht 8 (twB_spec 12 _ (by kernel_rfl))) rfl rfl
   replace hs := hs.lrn (ht 10 (twB_spec 12 _ (by kernel_rfl))) rfl rfl
   have hs0 := hs.bare
   refine st_stB hs rfl rfl .z (.s (.s .z)) rfl Tryz.sizeOf2 ?_; clear hs; intro a w hs
   exact wpList_nil ⟨rfl, .tuple #[], _, hs0, (.c (.c .r)), hs, trivial⟩
  clear hs w a; intro a w vs59 hs hf
  replace hs : St _ _ _ _ [blk g5 [.int .i64 (0), .int .i64 (0), .int .i64 (0), .int .i64 (0), .int .i64 (0), .int .i64 (0), .int .i64 (0), .int .u16 (0), .int .u8 (0)] 73, blk g4 [.int .i64 (r.k), .int .i64 (r.id), .int .i64 (r.p0), .int .i64 (r.p1), .int .i64 (r.p2), .int .i64 (r.v0), .int .i64 (r.v1), .int .i64 (r.v2), .int .u16 ((((r.a).toNat : Nat) : Int))] 78, blk g3 [.int .i64 (ea.id), .int .i64 (IntKind.i64.wrap (ea.p0 + r.p0)), .int .i64 (IntKind.i64.wrap (ea.p1 + r.p1)), .int .i64 (ea.p2), .int .i64 (IntKind.i64.wrap (ea.v0 + r.v0)), .int .i64 (ea.v1), .int .i64 (ea.v2), .int .u16 ((((ea.a).toNat : Nat) : Int)), .int .u8 ((((ea.g).toNat : Nat) : Int))] 73] _ _ := hs
  clear hf
  refine then_n (hK58 _ _ ?_)
  replace hs := hs.sub (F' := [(7, .int .i64 (1)), (49, .int .i64 (1)), (48, .bool (true)), (47, .int .i64 (1)), (72, .int .i64 (1)), (5, .int .i64 (0)), (4, .pointer (some ⟨g5, 0, none⟩)), (3, .pointer (some ⟨g4, 0, none⟩)), (2, .pointer (some ⟨g3, 0, none⟩))]) (.c rfl (.c rfl (.c rfl (.c rfl (.c rfl (.c rfl (.c rfl (.c rfl (.c rfl .n)))))))))
  refine wp_drawG (M0 := [blk g5 [.int .i64 (0), .int .i64 (0), .int .i64 (0), .int .i64 (0), .int .i64 (0), .int .i64 (0), .int .i64 (0), .int .u16 (0), .int .u8 (0)] 73, blk g4 [.int .i64 (r.k), .int .i64 (r.id), .int .i64 (r.p0), .int .i64 (r.p1), .int .i64 (r.p2), .int .i64 (r.v0), .int .i64 (r.v1), .int .i64 (r.v2), .int .u16 ((((r.a).toNat : Nat) : Int))] 78]) (Ds := [Pv 0 (.int .i64 (1)), Pv 1 (.pointer (some ⟨g3, 4, none⟩)), Pv 2 (.pointer (some ⟨g3, 5, none⟩)), Pv 3 (.int .i64 (ea.v1)), Pv 4 (.int .i64 (1)), Pv 5 (.pointer (some ⟨g4, 5, none⟩)), Pv 6 (.pointer (some ⟨g4, 6, none⟩)), Pv 7 (.int .i64 (r.v1)), Pv 8 (.int .i64 (IntKind.i64.wrap (ea.v1 + r.v1))), Pv 9 (.pointer (some ⟨g3, 4, none⟩)), Pv 10 (.pointer (some ⟨g3, 5, none⟩)), ⟨[blk g3 [.int .i64 (ea.id), .int .i64 (IntKind.i64.wrap (ea.p0 + r.p0)), .int .i64 (IntKind.i64.wrap (ea.p1 + r.p1)), .int .i64 (ea.p2), .int .i64 (IntKind.i64.wrap (ea.v0 + r.v0)), .int .i64 (ea.v1), .int .i64 (ea.v2), .int .u16 ((((ea.a).toNat : Nat) : Int)), .int .u8 ((((ea.g).toNat : Nat) : Int))] 73], [], [], fun vs60 => True, fun vs60 => [blk g3 [.int .i64 (ea.id), .int .i64 (IntKind.i64.wrap (ea.p0 + r.p0)), .int .i64 (IntKind.i64.wrap (ea.p1 + r.p1)), .int .i64 (ea.p2), .int .i64 (IntKind.i64.wrap (ea.v0 + r.v0)), .int .i64 (IntKind.i64.wrap (ea.v1 + r.v1)), .int .i64 (ea.v2), .int .u16 ((((ea.a).toNat : Nat) : Int)), .int .u8 ((((ea.g).toNat : Nat) : Int))] 73], none⟩]) (by kernel_rfl) hs rfl (.c (.s (.s .z)) .n) (by kernel_rfl) (by kernel_rfl) (by kernel_rfl) ?_ ?_
  ·
   refine (.c ?_ (.c ?_ (.c ?_ (.c ?_ (.c ?_ (.c ?_ (.c ?_ (.c ?_ (.c ?_ (.c ?_ (.c ?_ (.c ?_ .n))))))))))))
   · exact trip_pv (m := 12) .n (fun hm0 hm hx => .n) (by kernel_rfl) (by kernel_rfl) rfl
   · exact trip_pv (m := 12) .n (fun hm0 hm hx => .n) (by kernel_rfl) (by kernel_rfl) rfl
   · exact trip_pv (m := 12) (.c (k := 0) (by kernel_rfl) rfl rfl (.c (k := 1) (by kernel_rfl) rfl rfl .n)) (fun hm0 hm hx => .n) (by kernel_rfl) (by kernel_rfl) rfl
   · exact trip_pv (m := 12) (.c (k := 2) (by kernel_rfl) rfl rfl .n) (fun hm0 hm hx => (.c (hm.own (List.mem_append.2 (.inr ((hx 11 (twB_spec 12 _ (by kernel_rfl))).1 _ (List.Mem.head _))))))) (by kernel_rfl) (by kernel_rfl) rfl
   · exact trip_pv (m := 12) .n (fun hm0 hm hx => .n) (by kernel_rfl) (by kernel_rfl) rfl
   · exact trip_pv (m := 12) .n (fun hm0 hm hx => .n) (by kernel_rfl) (by kernel_rfl) rfl
   · exact trip_pv (m := 12) (.c (k := 4) (by kernel_rfl) rfl rfl (.c (k := 5) (by kernel_rfl) rfl rfl .n)) (fun hm0 hm hx => .n) (by kernel_rfl) (by kernel_rfl) rfl
   · exact trip_pv (m := 12) (.c (k := 6) (by kernel_rfl) rfl rfl .n) (fun hm0 hm hx => (.c (hm0.del (.s .z)))) (by kernel_rfl) (by kernel_rfl) rfl
   ·
    intro a_ w_ R_ rest_ vs60 hm hs ht hx
    have hm0 := hm.mid
    replace hs := hs.lrn (ht 3 (twB_spec 12 _ (by kernel_rfl))) rfl rfl
    replace hs := hs.lrn (ht 7 (twB_spec 12 _ (by kernel_rfl))) rfl rfl
    have hs0 := hs.bare
    refine st_add hs rfl rfl rfl ?_; clear hs; intro a w hs
    exact wpList_nil ⟨rfl, _, _, hs0, (.c (.c .r)), hs, rfl⟩
   · exact trip_pv (m := 12) .n (fun hm0 hm hx => .n) (by kernel_rfl) (by kernel_rfl) rfl
   · exact trip_pv (m := 12) (.c (k := 0) (by kernel_rfl) rfl rfl (.c (k := 9) (by kernel_rfl) rfl rfl .n)) (fun hm0 hm hx => .n) (by kernel_rfl) (by kernel_rfl) rfl
   intro a_ w_ R_ rest_ vs60 hm hs ht hx
   replace hs : St _ _ _ (feet [blk g3 [.int .i64 (ea.id), .int .i64 (IntKind.i64.wrap (ea.p0 + r.p0)), .int .i64 (IntKind.i64.wrap (ea.p1 + r.p1)), .int .i64 (ea.p2), .int .i64 (IntKind.i64.wrap (ea.v0 + r.v0)), .int .i64 (ea.v1), .int .i64 (ea.v2), .int .u16 ((((ea.a).toNat : Nat) : Int)), .int .u8 ((((ea.g).toNat : Nat) : Int))] 73]) [blk g3 [.int .i64 (ea.id), .int .i64 (IntKind.i64.wrap (ea.p0 + r.p0)), .int .i64 (IntKind.i64.wrap (ea.p1 + r.p1)), .int .i64 (ea.p2), .int .i64 (IntKind.i64.wrap (ea.v0 + r.v0)), .int .i64 (ea.v1), .int .i64 (ea.v2), .int .u16 ((((ea.a).toNat : Nat) : Int)), .int .u8 ((((ea.g).toNat : Nat) : Int))] 73] _ _ := hs
   have hm0 := hm.mid
   replace hs := hs.lrn (ht 8 (twB_spec 12 _ (by kernel_rfl))) rfl rfl
   replace hs := hs.lrn (ht 10 (twB_spec 12 _ (by kernel_rfl))) rfl rfl
   have hs0 := hs.bare
   refine st_stB hs rfl rfl .z (.s (.s (.s (.s (.s .z))))) rfl Tryz.sizeOf2 ?_; clear hs; intro a w hs
   exact wpList_nil ⟨rfl, .tuple #[], _, hs0, (.c (.c .r)), hs, trivial⟩
  clear hs w a; intro a w vs60 hs hf
  replace hs : St _ _ _ _ [blk g5 [.int .i64 (0), .int .i64 (0), .int .i64 (0), .int .i64 (0), .int .i64 (0), .int .i64 (0), .int .i64 (0), .int .u16 (0), .int .u8 (0)] 73, blk g4 [.int .i64 (r.k), .int .i64 (r.id), .int .i64 (r.p0), .int .i64 (r.p1), .int .i64 (r.p2), .int .i64 (r.v0), .int .i64 (r.v1), .int .i64 (r.v2), .int .u16 ((((r.a).toNat : Nat) : Int))] 78, blk g3 [.int .i64 (ea.id), .int .i64 (IntKind.i64.wrap (ea.p0 + r.p0)), .int .i64 (IntKind.i64.wrap (ea.p1 + r.p1)), .int .i64 (ea.p2), .int .i64 (IntKind.i64.wrap (ea.v0 + r.v0)), .int .i64 (IntKind.i64.wrap (ea.v1 + r.v1)), .int .i64 (ea.v2), .int .u16 ((((ea.a).toNat : Nat) : Int)), .int .u8 ((((ea.g).toNat : Nat) : Int))] 73] _ _ := hs
  clear hf
  refine in_n ?_
  refine then_n (hK54 _ _ ?_)
  refine wp_region_lit ?_
  refine st_run 2 [(47, .int .i64 (2)), (72, .int .i64 (2))] hs .n (by kernel_rfl) (by kernel_rfl) (by kernel_rfl) ?_; clear hs a; intro a hs
  refine wpList_nil ?_
  refine then_n ?_
  refine rounds_in ?_
  refine wp_seq_k fun K61 hK62 => ?_
  refine wp_region_lit ?_
  refine st_lss hs rfl rfl rfl ?_; clear hs w a; intro a w hs
  rw [show (decide ((2 : Int) < 3)) = true from by decide] at hs
  refine wpList_nil ?_
  refine then_n (hK62 _ _ ?_)
  refine wp_seq_k fun K63 hK64 => ?_
  refine wp_cond_true (hs.ev rfl) ?_
  refine wp_skip ?_
  refine then_n (hK64 _ _ ?_)
  refine wp_seq_k fun K65 hK66 => ?_
  refine wp_block ?_
  refine wp_seq_k fun K67 hK68 => ?_
  refine wp_region_lit ?_
  refine st_run 2 [(7, .int .i64 (2)), (49, .int .i64 (2))] hs .n (by kernel_rfl) (by kernel_rfl) (by kernel_rfl) ?_; clear hs a; intro a hs
  refine wpList_nil ?_
  refine then_n (hK68 _ _ ?_)
  refine wp_seq_k fun K69 hK70 => ?_
  replace hs := hs.sub (F' := [(7, .int .i64 (2)), (49, .int .i64 (2)), (48, .bool (true)), (47, .int .i64 (2)), (72, .int .i64 (2)), (5, .int .i64 (0)), (4, .pointer (some ⟨g5, 0, none⟩)), (3, .pointer (some ⟨g4, 0, none⟩)), (2, .pointer (some ⟨g3, 0, none⟩))]) (.c rfl (.c rfl (.c rfl (.c rfl (.c rfl (.c rfl (.c rfl (.c rfl (.c rfl .n)))))))))
  refine wp_drawG (M0 := [blk g5 [.int .i64 (0), .int .i64 (0), .int .i64 (0), .int .i64 (0), .int .i64 (0), .int .i64 (0), .int .i64 (0), .int .u16 (0), .int .u8 (0)] 73, blk g4 [.int .i64 (r.k), .int .i64 (r.id), .int .i64 (r.p0), .int .i64 (r.p1), .int .i64 (r.p2), .int .i64 (r.v0), .int .i64 (r.v1), .int .i64 (r.v2), .int .u16 ((((r.a).toNat : Nat) : Int))] 78]) (Ds := [Pv 0 (.int .i64 (2)), Pv 1 (.pointer (some ⟨g3, 1, none⟩)), Pv 2 (.pointer (some ⟨g3, 3, none⟩)), Pv 3 (.int .i64 (ea.p2)), Pv 4 (.int .i64 (2)), Pv 5 (.pointer (some ⟨g4, 2, none⟩)), Pv 6 (.pointer (some ⟨g4, 4, none⟩)), Pv 7 (.int .i64 (r.p2)), Pv 8 (.int .i64 (IntKind.i64.wrap (ea.p2 + r.p2))), Pv 9 (.pointer (some ⟨g3, 1, none⟩)), Pv 10 (.pointer (some ⟨g3, 3, none⟩)), ⟨[blk g3 [.int .i64 (ea.id), .int .i64 (IntKind.i64.wrap (ea.p0 + r.p0)), .int .i64 (IntKind.i64.wrap (ea.p1 + r.p1)), .int .i64 (ea.p2), .int .i64 (IntKind.i64.wrap (ea.v0 + r.v0)), .int .i64 (IntKind.i64.wrap (ea.v1 + r.v1)), .int .i64 (ea.v2), .int .u16 ((((ea.a).toNat : Nat) : Int)), .int .u8 ((((ea.g).toNat : Nat) : Int))] 73], [], [], fun vs71 => True, fun vs71 => [blk g3 [.int .i64 (ea.id), .int .i64 (IntKind.i64.wrap (ea.p0 + r.p0)), .int .i64 (IntKind.i64.wrap (ea.p1 + r.p1)), .int .i64 (IntKind.i64.wrap (ea.p2 + r.p2)), .int .i64 (IntKind.i64.wrap (ea.v0 + r.v0)), .int .i64 (IntKind.i64.wrap (ea.v1 + r.v1)), .int .i64 (ea.v2), .int .u16 ((((ea.a).toNat : Nat) : Int)), .int .u8 ((((ea.g).toNat : Nat) : Int))] 73], none⟩]) (by kernel_rfl) hs rfl (.c (.s (.s .z)) .n) (by kernel_rfl) (by kernel_rfl) (by kernel_rfl) ?_ ?_
  ·
   refine (.c ?_ (.c ?_ (.c ?_ (.c ?_ (.c ?_ (.c ?_ (.c ?_ (.c ?_ (.c ?_ (.c ?_ (.c ?_ (.c ?_ .n))))))))))))
   · exact trip_pv (m := 12) .n (fun hm0 hm hx => .n) (by kernel_rfl) (by kernel_rfl) rfl
   · exact trip_pv (m := 12) .n (fun hm0 hm hx => .n) (by kernel_rfl) (by kernel_rfl) rfl
   · exact trip_pv (m := 12) (.c (k := 0) (by kernel_rfl) rfl rfl (.c (k := 1) (by kernel_rfl) rfl rfl .n)) (fun hm0 hm hx => .n) (by kernel_rfl) (by kernel_rfl) rfl
   · exact trip_pv (m := 12) (.c (k := 2) (by kernel_rfl) rfl rfl .n) (fun hm0 hm hx => (.c (hm.own (List.mem_append.2 (.inr ((hx 11 (twB_spec 12 _ (by kernel_rfl))).1 _ (List.Mem.head _))))))) (by kernel_rfl) (by kernel_rfl) rfl
   · exact trip_pv (m := 12) .n (fun hm0 hm hx => .n) (by kernel_rfl) (by kernel_rfl) rfl
   · exact trip_pv (m := 12) .n (fun hm0 hm hx => .n) (by kernel_rfl) (by kernel_rfl) rfl
   · exact trip_pv (m := 12) (.c (k := 4) (by kernel_rfl) rfl rfl (.c (k := 5) (by kernel_rfl) rfl rfl .n)) (fun hm0 hm hx => .n) (by kernel_rfl) (by kernel_rfl) rfl
   · exact trip_pv (m := 12) (.c (k := 6) (by kernel_rfl) rfl rfl .n) (fun hm0 hm hx => (.c (hm0.del (.s .z)))) (by kernel_rfl) (by kernel_rfl) rfl
   ·
    intro a_ w_ R_ rest_ vs71 hm hs ht hx
    have hm0 := hm.mid
    replace hs := hs.lrn (ht 3 (twB_spec 12 _ (by kernel_rfl))) rfl rfl
    replace hs := hs.lrn (ht 7 (twB_spec 12 _ (by kernel_rfl))) rfl rfl
    have hs0 := hs.bare
    refine st_add hs rfl rfl rfl ?_; clear hs; intro a w hs
    exact wpList_nil ⟨rfl, _, _, hs0, (.c (.c .r)), hs, rfl⟩
   · exact trip_pv (m := 12) .n (fun hm0 hm hx => .n) (by kernel_rfl) (by kernel_rfl) rfl
   · exact trip_pv (m := 12) (.c (k := 0) (by kernel_rfl) rfl rfl (.c (k := 9) (by kernel_rfl) rfl rfl .n)) (fun hm0 hm hx => .n) (by kernel_rfl) (by kernel_rfl) rfl
   intro a_ w_ R_ rest_ vs71 hm hs ht hx
   replace hs : St _ _ _ (feet [blk g3 [.int .i64 (ea.id), .int .i64 (IntKind.i64.wrap (ea.p0 + r.p0)), .int .i64 (IntKind.i64.wrap (ea.p1 + r.p1)), .int .i64 (ea.p2), .int .i64 (IntKind.i64.wrap (ea.v0 + r.v0)), .int .i64 (IntKind.i64.wrap (ea.v1 + r.v1)), .int .i64 (ea.v2), .int .u16 ((((ea.a).toNat : Nat) : Int)), .int .u8 ((((ea.g).toNat : Nat) : Int))] 73]) [blk g3 [.int .i64 (ea.id), .int .i64 (IntKind.i64.wrap (ea.p0 + r.p0)), .int .i64 (IntKind.i64.wrap (ea.p1 + r.p1)), .int .i64 (ea.p2), .int .i64 (IntKind.i64.wrap (ea.v0 + r.v0)), .int .i64 (IntKind.i64.wrap (ea.v1 + r.v1)), .int .i64 (ea.v2), .int .u16 ((((ea.a).toNat : Nat) : Int)), .int .u8 ((((ea.g).toNat : Nat) : Int))] 73] _ _ := hs
   have hm0 := hm.mid
   replace hs := hs.lrn (ht 8 (twB_spec 12 _ (by kernel_rfl))) rfl rfl
   replace hs := hs.lrn (ht 10 (twB_spec 12 _ (by kernel_rfl))) rfl rfl
   have hs0 := hs.bare
   refine st_stB hs rfl rfl .z (.s (.s (.s .z))) rfl Tryz.sizeOf2 ?_; clear hs; intro a w hs
   exact wpList_nil ⟨rfl, .tuple #[], _, hs0, (.c (.c .r)), hs, trivial⟩
  clear hs w a; intro a w vs71 hs hf
  replace hs : St _ _ _ _ [blk g5 [.int .i64 (0), .int .i64 (0), .int .i64 (0), .int .i64 (0), .int .i64 (0), .int .i64 (0), .int .i64 (0), .int .u16 (0), .int .u8 (0)] 73, blk g4 [.int .i64 (r.k), .int .i64 (r.id), .int .i64 (r.p0), .int .i64 (r.p1), .int .i64 (r.p2), .int .i64 (r.v0), .int .i64 (r.v1), .int .i64 (r.v2), .int .u16 ((((r.a).toNat : Nat) : Int))] 78, blk g3 [.int .i64 (ea.id), .int .i64 (IntKind.i64.wrap (ea.p0 + r.p0)), .int .i64 (IntKind.i64.wrap (ea.p1 + r.p1)), .int .i64 (IntKind.i64.wrap (ea.p2 + r.p2)), .int .i64 (IntKind.i64.wrap (ea.v0 + r.v0)), .int .i64 (IntKind.i64.wrap (ea.v1 + r.v1)), .int .i64 (ea.v2), .int .u16 ((((ea.a).toNat : Nat) : Int)), .int .u8 ((((ea.g).toNat : Nat) : Int))] 73] _ _ := hs
  clear hf
  refine then_n (hK70 _ _ ?_)
  replace hs := hs.sub (F' := [(7, .int .i64 (2)), (49, .int .i64 (2)), (48, .bool (true)), (47, .int .i64 (2)), (72, .int .i64 (2)), (5, .int .i64 (0)), (4, .pointer (some ⟨g5, 0, none⟩)), (3, .pointer (some ⟨g4, 0, none⟩)), (2, .pointer (some ⟨g3, 0, none⟩))]) (.c rfl (.c rfl (.c rfl (.c rfl (.c rfl (.c rfl (.c rfl (.c rfl (.c rfl .n)))))))))
  refine wp_drawG (M0 := [blk g5 [.int .i64 (0), .int .i64 (0), .int .i64 (0), .int .i64 (0), .int .i64 (0), .int .i64 (0), .int .i64 (0), .int .u16 (0), .int .u8 (0)] 73, blk g4 [.int .i64 (r.k), .int .i64 (r.id), .int .i64 (r.p0), .int .i64 (r.p1), .int .i64 (r.p2), .int .i64 (r.v0), .int .i64 (r.v1), .int .i64 (r.v2), .int .u16 ((((r.a).toNat : Nat) : Int))] 78]) (Ds := [Pv 0 (.int .i64 (2)), Pv 1 (.pointer (some ⟨g3, 4, none⟩)), Pv 2 (.pointer (some ⟨g3, 6, none⟩)), Pv 3 (.int .i64 (ea.v2)), Pv 4 (.int .i64 (2)), Pv 5 (.pointer (some ⟨g4, 5, none⟩)), Pv 6 (.pointer (some ⟨g4, 7, none⟩)), Pv 7 (.int .i64 (r.v2)), Pv 8 (.int .i64 (IntKind.i64.wrap (ea.v2 + r.v2))), Pv 9 (.pointer (some ⟨g3, 4, none⟩)), Pv 10 (.pointer (some ⟨g3, 6, none⟩)), ⟨[blk g3 [.int .i64 (ea.id), .int .i64 (IntKind.i64.wrap (ea.p0 + r.p0)), .int .i64 (IntKind.i64.wrap (ea.p1 + r.p1)), .int .i64 (IntKind.i64.wrap (ea.p2 + r.p2)), .int .i64 (IntKind.i64.wrap (ea.v0 + r.v0)), .int .i64 (IntKind.i64.wrap (ea.v1 + r.v1)), .int .i64 (ea.v2), .int .u16 ((((ea.a).toNat : Nat) : Int)), .int .u8 ((((ea.g).toNat : Nat) : Int))] 73], [], [], fun vs72 => True, fun vs72 => [blk g3 [.int .i64 (ea.id), .int .i64 (IntKind.i64.wrap (ea.p0 + r.p0)), .int .i64 (IntKind.i64.wrap (ea.p1 + r.p1)), .int .i64 (IntKind.i64.wrap (ea.p2 + r.p2)), .int .i64 (IntKind.i64.wrap (ea.v0 + r.v0)), .int .i64 (IntKind.i64.wrap (ea.v1 + r.v1)), .int .i64 (IntKind.i64.wrap (ea.v2 + r.v2)), .int .u16 ((((ea.a).toNat : Nat) : Int)), .int .u8 ((((ea.g).toNat : Nat) : Int))] 73], none⟩]) (by kernel_rfl) hs rfl (.c (.s (.s .z)) .n) (by kernel_rfl) (by kernel_rfl) (by kernel_rfl) ?_ ?_
  ·
   refine (.c ?_ (.c ?_ (.c ?_ (.c ?_ (.c ?_ (.c ?_ (.c ?_ (.c ?_ (.c ?_ (.c ?_ (.c ?_ (.c ?_ .n))))))))))))
   · exact trip_pv (m := 12) .n (fun hm0 hm hx => .n) (by kernel_rfl) (by kernel_rfl) rfl
   · exact trip_pv (m := 12) .n (fun hm0 hm hx => .n) (by kernel_rfl) (by kernel_rfl) rfl
   · exact trip_pv (m := 12) (.c (k := 0) (by kernel_rfl) rfl rfl (.c (k := 1) (by kernel_rfl) rfl rfl .n)) (fun hm0 hm hx => .n) (by kernel_rfl) (by kernel_rfl) rfl
   · exact trip_pv (m := 12) (.c (k := 2) (by kernel_rfl) rfl rfl .n) (fun hm0 hm hx => (.c (hm.own (List.mem_append.2 (.inr ((hx 11 (twB_spec 12 _ (by kernel_rfl))).1 _ (List.Mem.head _))))))) (by kernel_rfl) (by kernel_rfl) rfl
   · exact trip_pv (m := 12) .n (fun hm0 hm hx => .n) (by kernel_rfl) (by kernel_rfl) rfl
   · exact trip_pv (m := 12) .n (fun hm0 hm hx => .n) (by kernel_rfl) (by kernel_rfl) rfl
   · exact trip_pv (m := 12) (.c (k := 4) (by kernel_rfl) rfl rfl (.c (k := 5) (by kernel_rfl) rfl rfl .n)) (fun hm0 hm hx => .n) (by kernel_rfl) (by kernel_rfl) rfl
   · exact trip_pv (m := 12) (.c (k := 6) (by kernel_rfl) rfl rfl .n) (fun hm0 hm hx => (.c (hm0.del (.s .z)))) (by kernel_rfl) (by kernel_rfl) rfl
   ·
    intro a_ w_ R_ rest_ vs72 hm hs ht hx
    have hm0 := hm.mid
    replace hs := hs.lrn (ht 3 (twB_spec 12 _ (by kernel_rfl))) rfl rfl
    replace hs := hs.lrn (ht 7 (twB_spec 12 _ (by kernel_rfl))) rfl rfl
    have hs0 := hs.bare
    refine st_add hs rfl rfl rfl ?_; clear hs; intro a w hs
    exact wpList_nil ⟨rfl, _, _, hs0, (.c (.c .r)), hs, rfl⟩
   · exact trip_pv (m := 12) .n (fun hm0 hm hx => .n) (by kernel_rfl) (by kernel_rfl) rfl
   · exact trip_pv (m := 12) (.c (k := 0) (by kernel_rfl) rfl rfl (.c (k := 9) (by kernel_rfl) rfl rfl .n)) (fun hm0 hm hx => .n) (by kernel_rfl) (by kernel_rfl) rfl
   intro a_ w_ R_ rest_ vs72 hm hs ht hx
   replace hs : St _ _ _ (feet [blk g3 [.int .i64 (ea.id), .int .i64 (IntKind.i64.wrap (ea.p0 + r.p0)), .int .i64 (IntKind.i64.wrap (ea.p1 + r.p1)), .int .i64 (IntKind.i64.wrap (ea.p2 + r.p2)), .int .i64 (IntKind.i64.wrap (ea.v0 + r.v0)), .int .i64 (IntKind.i64.wrap (ea.v1 + r.v1)), .int .i64 (ea.v2), .int .u16 ((((ea.a).toNat : Nat) : Int)), .int .u8 ((((ea.g).toNat : Nat) : Int))] 73]) [blk g3 [.int .i64 (ea.id), .int .i64 (IntKind.i64.wrap (ea.p0 + r.p0)), .int .i64 (IntKind.i64.wrap (ea.p1 + r.p1)), .int .i64 (IntKind.i64.wrap (ea.p2 + r.p2)), .int .i64 (IntKind.i64.wrap (ea.v0 + r.v0)), .int .i64 (IntKind.i64.wrap (ea.v1 + r.v1)), .int .i64 (ea.v2), .int .u16 ((((ea.a).toNat : Nat) : Int)), .int .u8 ((((ea.g).toNat : Nat) : Int))] 73] _ _ := hs
   have hm0 := hm.mid
   replace hs := hs.lrn (ht 8 (twB_spec 12 _ (by kernel_rfl))) rfl rfl
   replace hs := hs.lrn (ht 10 (twB_spec 12 _ (by kernel_rfl))) rfl rfl
   have hs0 := hs.bare
   refine st_stB hs rfl rfl .z (.s (.s (.s (.s (.s (.s .z)))))) rfl Tryz.sizeOf2 ?_; clear hs; intro a w hs
   exact wpList_nil ⟨rfl, .tuple #[], _, hs0, (.c (.c .r)), hs, trivial⟩
  clear hs w a; intro a w vs72 hs hf
  replace hs : St _ _ _ _ [blk g5 [.int .i64 (0), .int .i64 (0), .int .i64 (0), .int .i64 (0), .int .i64 (0), .int .i64 (0), .int .i64 (0), .int .u16 (0), .int .u8 (0)] 73, blk g4 [.int .i64 (r.k), .int .i64 (r.id), .int .i64 (r.p0), .int .i64 (r.p1), .int .i64 (r.p2), .int .i64 (r.v0), .int .i64 (r.v1), .int .i64 (r.v2), .int .u16 ((((r.a).toNat : Nat) : Int))] 78, blk g3 [.int .i64 (ea.id), .int .i64 (IntKind.i64.wrap (ea.p0 + r.p0)), .int .i64 (IntKind.i64.wrap (ea.p1 + r.p1)), .int .i64 (IntKind.i64.wrap (ea.p2 + r.p2)), .int .i64 (IntKind.i64.wrap (ea.v0 + r.v0)), .int .i64 (IntKind.i64.wrap (ea.v1 + r.v1)), .int .i64 (IntKind.i64.wrap (ea.v2 + r.v2)), .int .u16 ((((ea.a).toNat : Nat) : Int)), .int .u8 ((((ea.g).toNat : Nat) : Int))] 73] _ _ := hs
  clear hf
  refine in_n ?_
  refine then_n (hK66 _ _ ?_)
  refine wp_region_lit ?_
  refine st_run 2 [(47, .int .i64 (3)), (72, .int .i64 (3))] hs .n (by kernel_rfl) (by kernel_rfl) (by kernel_rfl) ?_; clear hs a; intro a hs
  refine wpList_nil ?_
  refine then_n ?_
  refine rounds_in ?_
  refine wp_seq_k fun K73 hK74 => ?_
  refine wp_region_lit ?_
  refine st_lss hs rfl rfl rfl ?_; clear hs w a; intro a w hs
  rw [show (decide ((3 : Int) < 3)) = false from by decide] at hs
  refine wpList_nil ?_
  refine then_n (hK74 _ _ ?_)
  refine wp_seq_k fun K75 hK76 => ?_
  refine wp_cond_false (hs.ev rfl) ?_
  refine wp_exit ?_
  refine th_e ?_
  refine th_e ?_
  refine in_hit ?_
  refine then_n (hK34 _ _ ?_)
  refine wp_seq_k fun K77 hK78 => ?_
  refine wp_region_lit ?_
  refine st_run 4 [(76, .int .u16 ((((r.a).toNat : Nat) : Int))), (74, .int .u16 ((((ea.a).toNat : Nat) : Int)))] hs (.c (hs.mem.del (.s (.s .z))) (.c (hs.mem.del (.s .z)) .n)) (by kernel_rfl) (by kernel_rfl) (by kernel_rfl) ?_; clear hs a; intro a hs
  refine st_add_u16 (X := ea.a) (Y := r.a) hs rfl rfl rfl rfl rfl ?_; clear hs w a; intro a w hs
  refine st_fa hs rfl Tryz.underlying73 rfl Tryz.sizeOf70 (by decide) (o := 7) rfl rfl ?_; clear hs w a; intro a w hs
  refine st_stB hs rfl rfl (.s (.s .z)) (.s (.s (.s (.s (.s (.s (.s .z))))))) rfl Tryz.sizeOf70 ?_; clear hs w a; intro a w hs
  refine wpList_nil ?_
  refine then_n (hK78 _ _ ?_)
  refine wp_seq_k fun K79 hK80 => ?_
  refine wp_region_lit ?_
  refine st_ldBA hs rfl .z (.z (.c (.c (.c (.c (.c (.c (.c (.c (.c .n)))))))))) Tryz.isAgg73 Tryz.sizeOf73 rfl ?_; clear hs w a; intro a w hs
  refine st_stBA hs rfl rfl (.s .z) (.z (.c (.c (.c (.c (.c (.c (.c (.c (.c .n)))))))))) (ones_c rfl (ones_c rfl (ones_c rfl (ones_c rfl (ones_c rfl (ones_c rfl (ones_c rfl (ones_c rfl (ones_c rfl ones_n))))))))) Tryz.sizeOf73 rfl ?_; clear hs w a; intro a w hs
  refine st_as hs rfl rfl ?_; clear hs w a; intro a w hs
  refine wpList_nil ?_
  refine then_n (hK80 _ _ ?_)
  refine wp_ret ?_
  exact finC2 hs rfl rfl rfl .z (.z (.c (.c (.c (.c (.c (.c (.c (.c (.c .n)))))))))) Tryz.isAgg73 Tryz.sizeOf73 (.c .z (.c .z (.c .z .n))) (by first | (rw [entApply_chk (by omega)]; exact ⟨rfl, rfl⟩) | (rw [entApply_no (by omega) (by omega)]; exact ⟨rfl, rfl⟩) | (rw [entApply_tel (by omega) (by omega) (by omega)]; exact ⟨rfl, rfl⟩) | (rw [entApply_upd (by omega) (by omega) (by omega)]; exact ⟨rfl, rfl⟩))
end Go.Proofs.YtbioemaipghagaaGreat
