/- Walks of the document's: what is others with an entity: what each function does, over the program of this seat. Printed by a program of this session. -/
import Derived.Test.YtbioemaipghagaaQWrecm
import Derived.Test.YtbioemaipghagaaQSxPent
namespace Go.Proofs.Ytbioemaipghagaa
open Go Go.Sx Go.RowKit
set_option linter.unusedVariables false
set_option linter.unusedSimpArgs false
set_option maxRecDepth 4000
set_option maxHeartbeats 1000000

theorem rdiff_ok (ea eb : EntR) (w0 : World) : Calls Try.prog 37 #[.agg #[.int .i64 (ea.id), .int .i64 (ea.p0), .int .i64 (ea.p1), .int .i64 (ea.p2), .int .i64 (ea.v0), .int .i64 (ea.v1), .int .i64 (ea.v2), .int .u16 ((((ea.a).toNat : Nat) : Int)), .int .u8 ((((ea.g).toNat : Nat) : Int))], .agg #[.int .i64 (eb.id), .int .i64 (eb.p0), .int .i64 (eb.p1), .int .i64 (eb.p2), .int .i64 (eb.v0), .int .i64 (eb.v1), .int .i64 (eb.v2), .int .u16 ((((eb.a).toNat : Nat) : Int)), .int .u8 ((((eb.g).toNat : Nat) : Int))]] w0 (RetV w0 (.tuple #[.agg #[.int .i64 (((recDiff ea eb).1).k), .int .i64 (((recDiff ea eb).1).id), .int .i64 (((recDiff ea eb).1).p0), .int .i64 (((recDiff ea eb).1).p1), .int .i64 (((recDiff ea eb).1).p2), .int .i64 (((recDiff ea eb).1).v0), .int .i64 (((recDiff ea eb).1).v1), .int .i64 (((recDiff ea eb).1).v2), .int .u16 ((((((recDiff ea eb).1).a).toNat : Nat) : Int))], .bool (recDiff ea eb).2])) := by
  refine enter (F0 := [(0, .agg #[.int .i64 (ea.id), .int .i64 (ea.p0), .int .i64 (ea.p1), .int .i64 (ea.p2), .int .i64 (ea.v0), .int .i64 (ea.v1), .int .i64 (ea.v2), .int .u16 ((((ea.a).toNat : Nat) : Int)), .int .u8 ((((ea.g).toNat : Nat) : Int))]), (1, .agg #[.int .i64 (eb.id), .int .i64 (eb.p0), .int .i64 (eb.p1), .int .i64 (eb.p2), .int .i64 (eb.v0), .int .i64 (eb.v1), .int .i64 (eb.v2), .int .u16 ((((eb.a).toNat : Nat) : Int)), .int .u8 ((((eb.g).toNat : Nat) : Int))])]) Try.func37 rfl rfl rfl (.c (.c .n)) (Mem.nil _) fun a w hs => ?_
  refine wp_seq_k fun K1 hK2 => ?_
  refine wp_region_lit ?_
  refine st_box (cs := [.int .i64 (ea.id), .int .i64 (ea.p0), .int .i64 (ea.p1), .int .i64 (ea.p2), .int .i64 (ea.v0), .int .i64 (ea.v1), .int .i64 (ea.v2), .int .u16 ((((ea.a).toNat : Nat) : Int)), .int .u8 ((((ea.g).toNat : Nat) : Int))]) hs rfl rfl rfl ?_; clear hs w a; intro g3 a w hs
  refine st_box (cs := [.int .i64 (eb.id), .int .i64 (eb.p0), .int .i64 (eb.p1), .int .i64 (eb.p2), .int .i64 (eb.v0), .int .i64 (eb.v1), .int .i64 (eb.v2), .int .u16 ((((eb.a).toNat : Nat) : Int)), .int .u8 ((((eb.g).toNat : Nat) : Int))]) hs rfl rfl rfl ?_; clear hs w a; intro g4 a w hs
  refine st_alloc (cs := [.int .i64 (0), .int .i64 (0), .int .i64 (0), .int .i64 (0), .int .i64 (0), .int .i64 (0), .int .i64 (0), .int .i64 (0), .int .u16 (0)]) hs Try.zeroValue45 rfl rfl ?_; clear hs w a; intro g5 a w hs
  refine st_as hs rfl rfl ?_; clear hs w a; intro a w hs
  refine wpList_nil ?_
  refine then_n (hK2 _ _ ?_)
  refine wp_seq_k fun K6 hK7 => ?_
  refine wp_seq_k fun K8 hK9 => ?_
  refine wp_region_lit ?_
  refine st_run 2 [(9, .agg #[.int .i64 (eb.id), .int .i64 (eb.p0), .int .i64 (eb.p1), .int .i64 (eb.p2), .int .i64 (eb.v0), .int .i64 (eb.v1), .int .i64 (eb.v2), .int .u16 ((((eb.a).toNat : Nat) : Int)), .int .u8 ((((eb.g).toNat : Nat) : Int))]), (8, .agg #[.int .i64 (ea.id), .int .i64 (ea.p0), .int .i64 (ea.p1), .int .i64 (ea.p2), .int .i64 (ea.v0), .int .i64 (ea.v1), .int .i64 (ea.v2), .int .u16 ((((ea.a).toNat : Nat) : Int)), .int .u8 ((((ea.g).toNat : Nat) : Int))])] hs (.c (hs.mem.del (.s (.s .z))) (.c (hs.mem.del (.s .z)) .n)) (by kernel_rfl) (by kernel_rfl) (by kernel_rfl) ?_; clear hs a; intro a hs
  refine st_eqF (xs := [.int .i64 (ea.id), .int .i64 (ea.p0), .int .i64 (ea.p1), .int .i64 (ea.p2), .int .i64 (ea.v0), .int .i64 (ea.v1), .int .i64 (ea.v2), .int .u16 ((((ea.a).toNat : Nat) : Int)), .int .u8 ((((ea.g).toNat : Nat) : Int))]) (ys := [.int .i64 (eb.id), .int .i64 (eb.p0), .int .i64 (eb.p1), .int .i64 (eb.p2), .int .i64 (eb.v0), .int .i64 (eb.v1), .int .i64 (eb.v2), .int .u16 ((((eb.a).toNat : Nat) : Int)), .int .u8 ((((eb.g).toNat : Nat) : Int))]) (ks := [.i .i64, .i .i64, .i .i64, .i .i64, .i .i64, .i .i64, .i .i64, .i .u16, .i .u8]) 6 hs rfl rfl (by kernel_rfl) (by kernel_rfl) (by kernel_rfl) (by decide) (.i (.i (.i (.i (.i (.i (.i (.i (.i .n))))))))) (.i (.i (.i (.i (.i (.i (.i (.i (.i .n))))))))) rfl ?_; clear hs w a; intro a w hs
  replace hs := hs.recell (v' := .bool (entEq ea eb)) (Option.some.inj rfl)
  refine wpList_nil ?_
  refine then_n (hK9 _ _ ?_)
  refine wp_if hs rfl (fun hc10 => ?_) (fun hc10 => ?_)
  ·
   refine wp_seq_k fun K11 hK12 => ?_
   refine wp_region_lit ?_
   refine st_build (it := Try.t45) (zs := [.int .i64 (0), .int .i64 (0), .int .i64 (0), .int .i64 (0), .int .i64 (0), .int .i64 (0), .int .i64 (0), .int .i64 (0), .int .u16 (0)]) (places := [(0, 1), (1, 1), (2, 3), (5, 3), (8, 1)]) hs .n Try.underlying45 rfl rfl rfl rfl .n rfl ?_; clear hs w a; intro a w hs
   refine st_stBA hs rfl rfl .z (.z (.c (.c (.c (.c (.c (.c (.c (.c (.c .n)))))))))) (ones_c rfl (ones_c rfl (ones_c rfl (ones_c rfl (ones_c rfl (ones_c rfl (ones_c rfl (ones_c rfl (ones_c rfl ones_n))))))))) Try.sizeOf45 rfl ?_; clear hs w a; intro a w hs
   refine st_as hs rfl rfl ?_; clear hs w a; intro a w hs
   refine wpList_nil ?_
   refine then_n (hK12 _ _ ?_)
   refine wp_ret ?_
   refine th_r ?_
   exact finC2 hs rfl rfl rfl .z (.z (.c (.c (.c (.c (.c (.c (.c (.c (.c .n)))))))))) Try.isAgg45 Try.sizeOf45 (.c .z (.c .z (.c .z .n))) (by first | (rw [recDiff_eq (by assumption)]; exact ⟨rfl, rfl⟩) | (rw [recDiff_upd (by assumption) (by omega)]; exact ⟨rfl, rfl⟩) | (rw [recDiff_tel (by assumption) (by omega)]; exact ⟨rfl, rfl⟩))
  refine wp_skip ?_
  refine then_n (hK7 _ _ ?_)
  refine wp_seq_k fun K13 hK14 => ?_
  refine wp_seq_k fun K15 hK16 => ?_
  refine wp_region_lit ?_
  refine st_run 5 [(16, .bool (!(((((ea.g).toNat : Nat) : Int) : Int) == ((((eb.g).toNat : Nat) : Int)))))] hs (.c (hs.mem.del (.s (.s .z))) (.c (hs.mem.del (.s .z)) .n)) (by kernel_rfl) (by kernel_rfl) (by kernel_rfl) ?_; clear hs a; intro a hs
  refine wpList_nil ?_
  refine then_n (hK16 _ _ ?_)
  refine wp_if hs rfl (fun hc17 => ?_) (fun hc17 => ?_)
  ·
   replace hc17 := not_t hc17
   replace hc17 := ne_of_beq_f hc17
   refine wp_seq_k fun K18 hK19 => ?_
   refine wp_region_lit ?_
   refine st_run 8 [(24, .int .u16 ((((eb.a).toNat : Nat) : Int))), (22, .agg #[.int .i64 (eb.v0), .int .i64 (eb.v1), .int .i64 (eb.v2)]), (20, .agg #[.int .i64 (eb.p0), .int .i64 (eb.p1), .int .i64 (eb.p2)]), (18, .int .i64 (eb.id))] hs (.c (hs.mem.del (.s .z)) (.c (hs.mem.del (.s .z)) (.c (hs.mem.del (.s .z)) (.c (hs.mem.del (.s .z)) .n)))) (by kernel_rfl) (by kernel_rfl) (by kernel_rfl) ?_; clear hs a; intro a hs
   refine st_build (it := Try.t45) (zs := [.int .i64 (0), .int .i64 (0), .int .i64 (0), .int .i64 (0), .int .i64 (0), .int .i64 (0), .int .i64 (0), .int .i64 (0), .int .u16 (0)]) (places := [(0, 1), (1, 1), (2, 3), (5, 3), (8, 1)]) hs (.c rfl (.c rfl (.c rfl (.c rfl (.c rfl .n))))) Try.underlying45 rfl rfl rfl rfl (.c rfl rfl (.z (.c .n)) (.c rfl rfl (.s (.z (.c .n))) (.c rfl rfl (.s (.s (.z (.c (.c (.c .n)))))) (.c rfl rfl (.s (.s (.s (.s (.s (.z (.c (.c (.c .n))))))))) (.c rfl rfl (.s (.s (.s (.s (.s (.s (.s (.s (.z (.c .n)))))))))) .n))))) rfl ?_; clear hs w a; intro a w hs
   refine st_stBA hs rfl rfl .z (.z (.c (.c (.c (.c (.c (.c (.c (.c (.c .n)))))))))) (ones_c rfl (ones_c rfl (ones_c rfl (ones_c rfl (ones_c rfl (ones_c rfl (ones_c rfl (ones_c rfl (ones_c rfl ones_n))))))))) Try.sizeOf45 rfl ?_; clear hs w a; intro a w hs
   refine st_as hs rfl rfl ?_; clear hs w a; intro a w hs
   refine wpList_nil ?_
   refine then_n (hK19 _ _ ?_)
   refine wp_ret ?_
   refine th_r ?_
   exact finC2 hs rfl rfl rfl .z (.z (.c (.c (.c (.c (.c (.c (.c (.c (.c .n)))))))))) Try.isAgg45 Try.sizeOf45 (.c .z (.c .z (.c .z .n))) (by first | (rw [recDiff_eq (by assumption)]; exact ⟨rfl, rfl⟩) | (rw [recDiff_upd (by assumption) (by omega)]; exact ⟨rfl, rfl⟩) | (rw [recDiff_tel (by assumption) (by omega)]; exact ⟨rfl, rfl⟩))
  replace hc17 := not_f hc17
  replace hc17 := eq_of_beq hc17
  refine wp_skip ?_
  refine then_n (hK14 _ _ ?_)
  refine wp_seq_k fun K20 hK21 => ?_
  refine wp_region_lit ?_
  refine st_run 6 [(31, .int .u16 ((((ea.a).toNat : Nat) : Int))), (29, .int .u16 ((((eb.a).toNat : Nat) : Int))), (27, .int .i64 (eb.id))] hs (.c (hs.mem.del (.s .z)) (.c (hs.mem.del (.s .z)) (.c (hs.mem.del (.s (.s .z))) .n))) (by kernel_rfl) (by kernel_rfl) (by kernel_rfl) ?_; clear hs a; intro a hs
  refine st_sub_u16 (X := eb.a) (Y := ea.a) hs rfl rfl rfl rfl rfl ?_; clear hs w a; intro a w hs
  refine st_build (it := Try.t45) (zs := [.int .i64 (0), .int .i64 (0), .int .i64 (0), .int .i64 (0), .int .i64 (0), .int .i64 (0), .int .i64 (0), .int .i64 (0), .int .u16 (0)]) (places := [(0, 1), (1, 1), (2, 3), (5, 3), (8, 1)]) hs (.c rfl (.c rfl (.c rfl .n))) Try.underlying45 rfl rfl rfl rfl (.c rfl rfl (.z (.c .n)) (.c rfl rfl (.s (.z (.c .n))) (.c rfl rfl (.s (.s (.s (.s (.s (.s (.s (.s (.z (.c .n)))))))))) .n))) rfl ?_; clear hs w a; intro a w hs
  refine st_alloc (cs := [.int .i64 (0), .int .i64 (0), .int .i64 (0), .int .i64 (0), .int .i64 (0), .int .i64 (0), .int .i64 (0), .int .i64 (0), .int .u16 (0)]) hs Try.zeroValue45 rfl rfl ?_; clear hs w a; intro g22 a w hs
  refine st_stBA hs rfl rfl .z (.z (.c (.c (.c (.c (.c (.c (.c (.c (.c .n)))))))))) (ones_c rfl (ones_c rfl (ones_c rfl (ones_c rfl (ones_c rfl (ones_c rfl (ones_c rfl (ones_c rfl (ones_c rfl ones_n))))))))) Try.sizeOf45 rfl ?_; clear hs w a; intro a w hs
  refine wpList_nil ?_
  refine then_n (hK21 _ _ ?_)
  refine wp_seq_k fun K23 hK24 => ?_
  refine wp_seq_k fun K25 hK26 => ?_
  refine wp_region_lit ?_
  refine st_as hs rfl rfl ?_; clear hs w a; intro a w hs
  refine wpList_nil ?_
  refine then_n (hK26 _ _ ?_)
  refine wp_block ?_
  refine wp_loop_rounds 4 ?_
  refine rounds_in ?_
  refine wp_seq_k fun K27 hK28 => ?_
  refine wp_seq_k fun K29 hK30 => ?_
  refine wp_region_lit ?_
  refine st_run 2 [(35, .bool (true)), (34, .int .i64 (0))] hs .n (by kernel_rfl) (by kernel_rfl) (by kernel_rfl) ?_; clear hs a; intro a hs
  refine wpList_nil ?_
  refine then_n (hK30 _ _ ?_)
  refine wp_cond_true (hs.ev rfl) ?_
  refine wp_skip ?_
  refine then_n (hK28 _ _ ?_)
  refine wp_seq_k fun K31 hK32 => ?_
  refine wp_block ?_
  refine wp_seq_k fun K33 hK34 => ?_
  replace hs := hs.sub (F' := [(35, .bool (true)), (34, .int .i64 (0)), (7, .int .i64 (0)), (6, .pointer (some ⟨g22, 0, none⟩)), (5, .bool (false)), (4, .pointer (some ⟨g5, 0, none⟩)), (3, .pointer (some ⟨g4, 0, none⟩)), (2, .pointer (some ⟨g3, 0, none⟩))]) (.c rfl (.c rfl (.c rfl (.c rfl (.c rfl (.c rfl (.c rfl (.c rfl .n))))))))
  refine wp_drawG (M0 := [blk g5 [.int .i64 (0), .int .i64 (0), .int .i64 (0), .int .i64 (0), .int .i64 (0), .int .i64 (0), .int .i64 (0), .int .i64 (0), .int .u16 (0)] 45, blk g4 [.int .i64 (eb.id), .int .i64 (eb.p0), .int .i64 (eb.p1), .int .i64 (eb.p2), .int .i64 (eb.v0), .int .i64 (eb.v1), .int .i64 (eb.v2), .int .u16 ((((eb.a).toNat : Nat) : Int)), .int .u8 ((((eb.g).toNat : Nat) : Int))] 47, blk g3 [.int .i64 (ea.id), .int .i64 (ea.p0), .int .i64 (ea.p1), .int .i64 (ea.p2), .int .i64 (ea.v0), .int .i64 (ea.v1), .int .i64 (ea.v2), .int .u16 ((((ea.a).toNat : Nat) : Int)), .int .u8 ((((ea.g).toNat : Nat) : Int))] 47]) (Ds := [Pv 0 (.int .i64 (0)), Pv 1 (.int .i64 (0)), Pv 2 (.pointer (some ⟨g4, 1, none⟩)), Pv 3 (.pointer (some ⟨g4, 1, none⟩)), Pv 4 (.int .i64 (eb.p0)), Pv 5 (.int .i64 (0)), Pv 6 (.pointer (some ⟨g3, 1, none⟩)), Pv 7 (.pointer (some ⟨g3, 1, none⟩)), Pv 8 (.int .i64 (ea.p0)), Pv 9 (.int .i64 (IntKind.i64.wrap (eb.p0 - ea.p0))), Pv 10 (.pointer (some ⟨g22, 2, none⟩)), Pv 11 (.pointer (some ⟨g22, 2, none⟩)), ⟨[blk g22 [.int .i64 (1), .int .i64 (eb.id), .int .i64 (0), .int .i64 (0), .int .i64 (0), .int .i64 (0), .int .i64 (0), .int .i64 (0), .int .u16 ((((eb.a - ea.a).toNat : Nat) : Int))] 45], [], [], fun vs35 => True, fun vs35 => [blk g22 [.int .i64 (1), .int .i64 (eb.id), .int .i64 (IntKind.i64.wrap (eb.p0 - ea.p0)), .int .i64 (0), .int .i64 (0), .int .i64 (0), .int .i64 (0), .int .i64 (0), .int .u16 ((((eb.a - ea.a).toNat : Nat) : Int))] 45], none⟩]) (by kernel_rfl) hs rfl (.c .z .n) (by kernel_rfl) (by kernel_rfl) (by kernel_rfl) ?_ ?_
  ·
   refine (.c ?_ (.c ?_ (.c ?_ (.c ?_ (.c ?_ (.c ?_ (.c ?_ (.c ?_ (.c ?_ (.c ?_ (.c ?_ (.c ?_ (.c ?_ .n)))))))))))))
   · exact trip_pv (m := 13) .n (fun hm0 hm hx => .n) (by kernel_rfl) (by kernel_rfl) rfl
   · exact trip_pv (m := 13) .n (fun hm0 hm hx => .n) (by kernel_rfl) (by kernel_rfl) rfl
   · exact trip_pv (m := 13) .n (fun hm0 hm hx => .n) (by kernel_rfl) (by kernel_rfl) rfl
   · exact trip_pv (m := 13) (.c (k := 1) (by kernel_rfl) rfl rfl (.c (k := 2) (by kernel_rfl) rfl rfl .n)) (fun hm0 hm hx => .n) (by kernel_rfl) (by kernel_rfl) rfl
   · exact trip_pv (m := 13) (.c (k := 3) (by kernel_rfl) rfl rfl .n) (fun hm0 hm hx => (.c (hm0.del (.s .z)))) (by kernel_rfl) (by kernel_rfl) rfl
   · exact trip_pv (m := 13) .n (fun hm0 hm hx => .n) (by kernel_rfl) (by kernel_rfl) rfl
   · exact trip_pv (m := 13) .n (fun hm0 hm hx => .n) (by kernel_rfl) (by kernel_rfl) rfl
   · exact trip_pv (m := 13) (.c (k := 5) (by kernel_rfl) rfl rfl (.c (k := 6) (by kernel_rfl) rfl rfl .n)) (fun hm0 hm hx => .n) (by kernel_rfl) (by kernel_rfl) rfl
   · exact trip_pv (m := 13) (.c (k := 7) (by kernel_rfl) rfl rfl .n) (fun hm0 hm hx => (.c (hm0.del (.s (.s .z))))) (by kernel_rfl) (by kernel_rfl) rfl
   ·
    intro a_ w_ R_ rest_ vs35 hm hs ht hx
    have hm0 := hm.mid
    replace hs := hs.lrn (ht 4 (twB_spec 13 _ (by kernel_rfl))) rfl rfl
    replace hs := hs.lrn (ht 8 (twB_spec 13 _ (by kernel_rfl))) rfl rfl
    have hs0 := hs.bare
    refine st_sub hs rfl rfl rfl ?_; clear hs; intro a w hs
    exact wpList_nil ⟨rfl, _, _, hs0, (.c (.c .r)), hs, rfl⟩
   · exact trip_pv (m := 13) .n (fun hm0 hm hx => .n) (by kernel_rfl) (by kernel_rfl) rfl
   · exact trip_pv (m := 13) (.c (k := 0) (by kernel_rfl) rfl rfl (.c (k := 10) (by kernel_rfl) rfl rfl .n)) (fun hm0 hm hx => .n) (by kernel_rfl) (by kernel_rfl) rfl
   intro a_ w_ R_ rest_ vs35 hm hs ht hx
   replace hs : St _ _ _ (feet [blk g22 [.int .i64 (1), .int .i64 (eb.id), .int .i64 (0), .int .i64 (0), .int .i64 (0), .int .i64 (0), .int .i64 (0), .int .i64 (0), .int .u16 ((((eb.a - ea.a).toNat : Nat) : Int))] 45]) [blk g22 [.int .i64 (1), .int .i64 (eb.id), .int .i64 (0), .int .i64 (0), .int .i64 (0), .int .i64 (0), .int .i64 (0), .int .i64 (0), .int .u16 ((((eb.a - ea.a).toNat : Nat) : Int))] 45] _ _ := hs
   have hm0 := hm.mid
   replace hs := hs.lrn (ht 9 (twB_spec 13 _ (by kernel_rfl))) rfl rfl
   replace hs := hs.lrn (ht 11 (twB_spec 13 _ (by kernel_rfl))) rfl rfl
   have hs0 := hs.bare
   refine st_stB hs rfl rfl .z (.s (.s .z)) rfl Try.sizeOf2 ?_; clear hs; intro a w hs
   exact wpList_nil ⟨rfl, .tuple #[], _, hs0, (.c (.c .r)), hs, trivial⟩
  clear hs w a; intro a w vs35 hs hf
  replace hs : St _ _ _ _ [blk g5 [.int .i64 (0), .int .i64 (0), .int .i64 (0), .int .i64 (0), .int .i64 (0), .int .i64 (0), .int .i64 (0), .int .i64 (0), .int .u16 (0)] 45, blk g4 [.int .i64 (eb.id), .int .i64 (eb.p0), .int .i64 (eb.p1), .int .i64 (eb.p2), .int .i64 (eb.v0), .int .i64 (eb.v1), .int .i64 (eb.v2), .int .u16 ((((eb.a).toNat : Nat) : Int)), .int .u8 ((((eb.g).toNat : Nat) : Int))] 47, blk g3 [.int .i64 (ea.id), .int .i64 (ea.p0), .int .i64 (ea.p1), .int .i64 (ea.p2), .int .i64 (ea.v0), .int .i64 (ea.v1), .int .i64 (ea.v2), .int .u16 ((((ea.a).toNat : Nat) : Int)), .int .u8 ((((ea.g).toNat : Nat) : Int))] 47, blk g22 [.int .i64 (1), .int .i64 (eb.id), .int .i64 (IntKind.i64.wrap (eb.p0 - ea.p0)), .int .i64 (0), .int .i64 (0), .int .i64 (0), .int .i64 (0), .int .i64 (0), .int .u16 ((((eb.a - ea.a).toNat : Nat) : Int))] 45] _ _ := hs
  clear hf
  refine then_n (hK34 _ _ ?_)
  replace hs := hs.sub (F' := [(35, .bool (true)), (34, .int .i64 (0)), (7, .int .i64 (0)), (6, .pointer (some ⟨g22, 0, none⟩)), (5, .bool (false)), (4, .pointer (some ⟨g5, 0, none⟩)), (3, .pointer (some ⟨g4, 0, none⟩)), (2, .pointer (some ⟨g3, 0, none⟩))]) (.c rfl (.c rfl (.c rfl (.c rfl (.c rfl (.c rfl (.c rfl (.c rfl .n))))))))
  refine wp_drawG (M0 := [blk g5 [.int .i64 (0), .int .i64 (0), .int .i64 (0), .int .i64 (0), .int .i64 (0), .int .i64 (0), .int .i64 (0), .int .i64 (0), .int .u16 (0)] 45, blk g4 [.int .i64 (eb.id), .int .i64 (eb.p0), .int .i64 (eb.p1), .int .i64 (eb.p2), .int .i64 (eb.v0), .int .i64 (eb.v1), .int .i64 (eb.v2), .int .u16 ((((eb.a).toNat : Nat) : Int)), .int .u8 ((((eb.g).toNat : Nat) : Int))] 47, blk g3 [.int .i64 (ea.id), .int .i64 (ea.p0), .int .i64 (ea.p1), .int .i64 (ea.p2), .int .i64 (ea.v0), .int .i64 (ea.v1), .int .i64 (ea.v2), .int .u16 ((((ea.a).toNat : Nat) : Int)), .int .u8 ((((ea.g).toNat : Nat) : Int))] 47]) (Ds := [Pv 0 (.int .i64 (0)), Pv 1 (.int .i64 (0)), Pv 2 (.pointer (some ⟨g4, 4, none⟩)), Pv 3 (.pointer (some ⟨g4, 4, none⟩)), Pv 4 (.int .i64 (eb.v0)), Pv 5 (.int .i64 (0)), Pv 6 (.pointer (some ⟨g3, 4, none⟩)), Pv 7 (.pointer (some ⟨g3, 4, none⟩)), Pv 8 (.int .i64 (ea.v0)), Pv 9 (.int .i64 (IntKind.i64.wrap (eb.v0 - ea.v0))), Pv 10 (.pointer (some ⟨g22, 5, none⟩)), Pv 11 (.pointer (some ⟨g22, 5, none⟩)), ⟨[blk g22 [.int .i64 (1), .int .i64 (eb.id), .int .i64 (IntKind.i64.wrap (eb.p0 - ea.p0)), .int .i64 (0), .int .i64 (0), .int .i64 (0), .int .i64 (0), .int .i64 (0), .int .u16 ((((eb.a - ea.a).toNat : Nat) : Int))] 45], [], [], fun vs36 => True, fun vs36 => [blk g22 [.int .i64 (1), .int .i64 (eb.id), .int .i64 (IntKind.i64.wrap (eb.p0 - ea.p0)), .int .i64 (0), .int .i64 (0), .int .i64 (IntKind.i64.wrap (eb.v0 - ea.v0)), .int .i64 (0), .int .i64 (0), .int .u16 ((((eb.a - ea.a).toNat : Nat) : Int))] 45], none⟩]) (by kernel_rfl) hs rfl (.c (.s (.s (.s .z))) .n) (by kernel_rfl) (by kernel_rfl) (by kernel_rfl) ?_ ?_
  ·
   refine (.c ?_ (.c ?_ (.c ?_ (.c ?_ (.c ?_ (.c ?_ (.c ?_ (.c ?_ (.c ?_ (.c ?_ (.c ?_ (.c ?_ (.c ?_ .n)))))))))))))
   · exact trip_pv (m := 13) .n (fun hm0 hm hx => .n) (by kernel_rfl) (by kernel_rfl) rfl
   · exact trip_pv (m := 13) .n (fun hm0 hm hx => .n) (by kernel_rfl) (by kernel_rfl) rfl
   · exact trip_pv (m := 13) .n (fun hm0 hm hx => .n) (by kernel_rfl) (by kernel_rfl) rfl
   · exact trip_pv (m := 13) (.c (k := 1) (by kernel_rfl) rfl rfl (.c (k := 2) (by kernel_rfl) rfl rfl .n)) (fun hm0 hm hx => .n) (by kernel_rfl) (by kernel_rfl) rfl
   · exact trip_pv (m := 13) (.c (k := 3) (by kernel_rfl) rfl rfl .n) (fun hm0 hm hx => (.c (hm0.del (.s .z)))) (by kernel_rfl) (by kernel_rfl) rfl
   · exact trip_pv (m := 13) .n (fun hm0 hm hx => .n) (by kernel_rfl) (by kernel_rfl) rfl
   · exact trip_pv (m := 13) .n (fun hm0 hm hx => .n) (by kernel_rfl) (by kernel_rfl) rfl
   · exact trip_pv (m := 13) (.c (k := 5) (by kernel_rfl) rfl rfl (.c (k := 6) (by kernel_rfl) rfl rfl .n)) (fun hm0 hm hx => .n) (by kernel_rfl) (by kernel_rfl) rfl
   · exact trip_pv (m := 13) (.c (k := 7) (by kernel_rfl) rfl rfl .n) (fun hm0 hm hx => (.c (hm0.del (.s (.s .z))))) (by kernel_rfl) (by kernel_rfl) rfl
   ·
    intro a_ w_ R_ rest_ vs36 hm hs ht hx
    have hm0 := hm.mid
    replace hs := hs.lrn (ht 4 (twB_spec 13 _ (by kernel_rfl))) rfl rfl
    replace hs := hs.lrn (ht 8 (twB_spec 13 _ (by kernel_rfl))) rfl rfl
    have hs0 := hs.bare
    refine st_sub hs rfl rfl rfl ?_; clear hs; intro a w hs
    exact wpList_nil ⟨rfl, _, _, hs0, (.c (.c .r)), hs, rfl⟩
   · exact trip_pv (m := 13) .n (fun hm0 hm hx => .n) (by kernel_rfl) (by kernel_rfl) rfl
   · exact trip_pv (m := 13) (.c (k := 0) (by kernel_rfl) rfl rfl (.c (k := 10) (by kernel_rfl) rfl rfl .n)) (fun hm0 hm hx => .n) (by kernel_rfl) (by kernel_rfl) rfl
   intro a_ w_ R_ rest_ vs36 hm hs ht hx
   replace hs : St _ _ _ (feet [blk g22 [.int .i64 (1), .int .i64 (eb.id), .int .i64 (IntKind.i64.wrap (eb.p0 - ea.p0)), .int .i64 (0), .int .i64 (0), .int .i64 (0), .int .i64 (0), .int .i64 (0), .int .u16 ((((eb.a - ea.a).toNat : Nat) : Int))] 45]) [blk g22 [.int .i64 (1), .int .i64 (eb.id), .int .i64 (IntKind.i64.wrap (eb.p0 - ea.p0)), .int .i64 (0), .int .i64 (0), .int .i64 (0), .int .i64 (0), .int .i64 (0), .int .u16 ((((eb.a - ea.a).toNat : Nat) : Int))] 45] _ _ := hs
   have hm0 := hm.mid
   replace hs := hs.lrn (ht 9 (twB_spec 13 _ (by kernel_rfl))) rfl rfl
   replace hs := hs.lrn (ht 11 (twB_spec 13 _ (by kernel_rfl))) rfl rfl
   have hs0 := hs.bare
   refine st_stB hs rfl rfl .z (.s (.s (.s (.s (.s .z))))) rfl Try.sizeOf2 ?_; clear hs; intro a w hs
   exact wpList_nil ⟨rfl, .tuple #[], _, hs0, (.c (.c .r)), hs, trivial⟩
  clear hs w a; intro a w vs36 hs hf
  replace hs : St _ _ _ _ [blk g5 [.int .i64 (0), .int .i64 (0), .int .i64 (0), .int .i64 (0), .int .i64 (0), .int .i64 (0), .int .i64 (0), .int .i64 (0), .int .u16 (0)] 45, blk g4 [.int .i64 (eb.id), .int .i64 (eb.p0), .int .i64 (eb.p1), .int .i64 (eb.p2), .int .i64 (eb.v0), .int .i64 (eb.v1), .int .i64 (eb.v2), .int .u16 ((((eb.a).toNat : Nat) : Int)), .int .u8 ((((eb.g).toNat : Nat) : Int))] 47, blk g3 [.int .i64 (ea.id), .int .i64 (ea.p0), .int .i64 (ea.p1), .int .i64 (ea.p2), .int .i64 (ea.v0), .int .i64 (ea.v1), .int .i64 (ea.v2), .int .u16 ((((ea.a).toNat : Nat) : Int)), .int .u8 ((((ea.g).toNat : Nat) : Int))] 47, blk g22 [.int .i64 (1), .int .i64 (eb.id), .int .i64 (IntKind.i64.wrap (eb.p0 - ea.p0)), .int .i64 (0), .int .i64 (0), .int .i64 (IntKind.i64.wrap (eb.v0 - ea.v0)), .int .i64 (0), .int .i64 (0), .int .u16 ((((eb.a - ea.a).toNat : Nat) : Int))] 45] _ _ := hs
  clear hf
  refine in_n ?_
  refine then_n (hK32 _ _ ?_)
  refine wp_region_lit ?_
  refine st_run 3 [(7, .int .i64 (1)), (37, .int .i64 (1)), (36, .int .i64 (0))] hs .n (by kernel_rfl) (by kernel_rfl) (by kernel_rfl) ?_; clear hs a; intro a hs
  refine wpList_nil ?_
  refine then_n ?_
  refine rounds_in ?_
  refine wp_seq_k fun K37 hK38 => ?_
  refine wp_seq_k fun K39 hK40 => ?_
  refine wp_region_lit ?_
  refine st_run 2 [(35, .bool (true)), (34, .int .i64 (1))] hs .n (by kernel_rfl) (by kernel_rfl) (by kernel_rfl) ?_; clear hs a; intro a hs
  refine wpList_nil ?_
  refine then_n (hK40 _ _ ?_)
  refine wp_cond_true (hs.ev rfl) ?_
  refine wp_skip ?_
  refine then_n (hK38 _ _ ?_)
  refine wp_seq_k fun K41 hK42 => ?_
  refine wp_block ?_
  refine wp_seq_k fun K43 hK44 => ?_
  replace hs := hs.sub (F' := [(35, .bool (true)), (34, .int .i64 (1)), (7, .int .i64 (1)), (37, .int .i64 (1)), (36, .int .i64 (0)), (6, .pointer (some ⟨g22, 0, none⟩)), (5, .bool (false)), (4, .pointer (some ⟨g5, 0, none⟩)), (3, .pointer (some ⟨g4, 0, none⟩)), (2, .pointer (some ⟨g3, 0, none⟩))]) (.c rfl (.c rfl (.c rfl (.c rfl (.c rfl (.c rfl (.c rfl (.c rfl (.c rfl (.c rfl .n))))))))))
  refine wp_drawG (M0 := [blk g5 [.int .i64 (0), .int .i64 (0), .int .i64 (0), .int .i64 (0), .int .i64 (0), .int .i64 (0), .int .i64 (0), .int .i64 (0), .int .u16 (0)] 45, blk g4 [.int .i64 (eb.id), .int .i64 (eb.p0), .int .i64 (eb.p1), .int .i64 (eb.p2), .int .i64 (eb.v0), .int .i64 (eb.v1), .int .i64 (eb.v2), .int .u16 ((((eb.a).toNat : Nat) : Int)), .int .u8 ((((eb.g).toNat : Nat) : Int))] 47, blk g3 [.int .i64 (ea.id), .int .i64 (ea.p0), .int .i64 (ea.p1), .int .i64 (ea.p2), .int .i64 (ea.v0), .int .i64 (ea.v1), .int .i64 (ea.v2), .int .u16 ((((ea.a).toNat : Nat) : Int)), .int .u8 ((((ea.g).toNat : Nat) : Int))] 47]) (Ds := [Pv 0 (.int .i64 (1)), Pv 1 (.int .i64 (1)), Pv 2 (.pointer (some ⟨g4, 1, none⟩)), Pv 3 (.pointer (some ⟨g4, 2, none⟩)), Pv 4 (.int .i64 (eb.p1)), Pv 5 (.int .i64 (1)), Pv 6 (.pointer (some ⟨g3, 1, none⟩)), Pv 7 (.pointer (some ⟨g3, 2, none⟩)), Pv 8 (.int .i64 (ea.p1)), Pv 9 (.int .i64 (IntKind.i64.wrap (eb.p1 - ea.p1))), Pv 10 (.pointer (some ⟨g22, 2, none⟩)), Pv 11 (.pointer (some ⟨g22, 3, none⟩)), ⟨[blk g22 [.int .i64 (1), .int .i64 (eb.id), .int .i64 (IntKind.i64.wrap (eb.p0 - ea.p0)), .int .i64 (0), .int .i64 (0), .int .i64 (IntKind.i64.wrap (eb.v0 - ea.v0)), .int .i64 (0), .int .i64 (0), .int .u16 ((((eb.a - ea.a).toNat : Nat) : Int))] 45], [], [], fun vs45 => True, fun vs45 => [blk g22 [.int .i64 (1), .int .i64 (eb.id), .int .i64 (IntKind.i64.wrap (eb.p0 - ea.p0)), .int .i64 (IntKind.i64.wrap (eb.p1 - ea.p1)), .int .i64 (0), .int .i64 (IntKind.i64.wrap (eb.v0 - ea.v0)), .int .i64 (0), .int .i64 (0), .int .u16 ((((eb.a - ea.a).toNat : Nat) : Int))] 45], none⟩]) (by kernel_rfl) hs rfl (.c (.s (.s (.s .z))) .n) (by kernel_rfl) (by kernel_rfl) (by kernel_rfl) ?_ ?_
  ·
   refine (.c ?_ (.c ?_ (.c ?_ (.c ?_ (.c ?_ (.c ?_ (.c ?_ (.c ?_ (.c ?_ (.c ?_ (.c ?_ (.c ?_ (.c ?_ .n)))))))))))))
   · exact trip_pv (m := 13) .n (fun hm0 hm hx => .n) (by kernel_rfl) (by kernel_rfl) rfl
   · exact trip_pv (m := 13) .n (fun hm0 hm hx => .n) (by kernel_rfl) (by kernel_rfl) rfl
   · exact trip_pv (m := 13) .n (fun hm0 hm hx => .n) (by kernel_rfl) (by kernel_rfl) rfl
   · exact trip_pv (m := 13) (.c (k := 1) (by kernel_rfl) rfl rfl (.c (k := 2) (by kernel_rfl) rfl rfl .n)) (fun hm0 hm hx => .n) (by kernel_rfl) (by kernel_rfl) rfl
   · exact trip_pv (m := 13) (.c (k := 3) (by kernel_rfl) rfl rfl .n) (fun hm0 hm hx => (.c (hm0.del (.s .z)))) (by kernel_rfl) (by kernel_rfl) rfl
   · exact trip_pv (m := 13) .n (fun hm0 hm hx => .n) (by kernel_rfl) (by kernel_rfl) rfl
   · exact trip_pv (m := 13) .n (fun hm0 hm hx => .n) (by kernel_rfl) (by kernel_rfl) rfl
   · exact trip_pv (m := 13) (.c (k := 5) (by kernel_rfl) rfl rfl (.c (k := 6) (by kernel_rfl) rfl rfl .n)) (fun hm0 hm hx => .n) (by kernel_rfl) (by kernel_rfl) rfl
   · exact trip_pv (m := 13) (.c (k := 7) (by kernel_rfl) rfl rfl .n) (fun hm0 hm hx => (.c (hm0.del (.s (.s .z))))) (by kernel_rfl) (by kernel_rfl) rfl
   ·
    intro a_ w_ R_ rest_ vs45 hm hs ht hx
    have hm0 := hm.mid
    replace hs := hs.lrn (ht 4 (twB_spec 13 _ (by kernel_rfl))) rfl rfl
    replace hs := hs.lrn (ht 8 (twB_spec 13 _ (by kernel_rfl))) rfl rfl
    have hs0 := hs.bare
    refine st_sub hs rfl rfl rfl ?_; clear hs; intro a w hs
    exact wpList_nil ⟨rfl, _, _, hs0, (.c (.c .r)), hs, rfl⟩
   · exact trip_pv (m := 13) .n (fun hm0 hm hx => .n) (by kernel_rfl) (by kernel_rfl) rfl
   · exact trip_pv (m := 13) (.c (k := 0) (by kernel_rfl) rfl rfl (.c (k := 10) (by kernel_rfl) rfl rfl .n)) (fun hm0 hm hx => .n) (by kernel_rfl) (by kernel_rfl) rfl
   intro a_ w_ R_ rest_ vs45 hm hs ht hx
   replace hs : St _ _ _ (feet [blk g22 [.int .i64 (1), .int .i64 (eb.id), .int .i64 (IntKind.i64.wrap (eb.p0 - ea.p0)), .int .i64 (0), .int .i64 (0), .int .i64 (IntKind.i64.wrap (eb.v0 - ea.v0)), .int .i64 (0), .int .i64 (0), .int .u16 ((((eb.a - ea.a).toNat : Nat) : Int))] 45]) [blk g22 [.int .i64 (1), .int .i64 (eb.id), .int .i64 (IntKind.i64.wrap (eb.p0 - ea.p0)), .int .i64 (0), .int .i64 (0), .int .i64 (IntKind.i64.wrap (eb.v0 - ea.v0)), .int .i64 (0), .int .i64 (0), .int .u16 ((((eb.a - ea.a).toNat : Nat) : Int))] 45] _ _ := hs
   have hm0 := hm.mid
   replace hs := hs.lrn (ht 9 (twB_spec 13 _ (by kernel_rfl))) rfl rfl
   replace hs := hs.lrn (ht 11 (twB_spec 13 _ (by kernel_rfl))) rfl rfl
   have hs0 := hs.bare
   refine st_stB hs rfl rfl .z (.s (.s (.s .z))) rfl Try.sizeOf2 ?_; clear hs; intro a w hs
   exact wpList_nil ⟨rfl, .tuple #[], _, hs0, (.c (.c .r)), hs, trivial⟩
  clear hs w a; intro a w vs45 hs hf
  replace hs : St _ _ _ _ [blk g5 [.int .i64 (0), .int .i64 (0), .int .i64 (0), .int .i64 (0), .int .i64 (0), .int .i64 (0), .int .i64 (0), .int .i64 (0), .int .u16 (0)] 45, blk g4 [.int .i64 (eb.id), .int .i64 (eb.p0), .int .i64 (eb.p1), .int .i64 (eb.p2), .int .i64 (eb.v0), .int .i64 (eb.v1), .int .i64 (eb.v2), .int .u16 ((((eb.a).toNat : Nat) : Int)), .int .u8 ((((eb.g).toNat : Nat) : Int))] 47, blk g3 [.int .i64 (ea.id), .int .i64 (ea.p0), .int .i64 (ea.p1), .int .i64 (ea.p2), .int .i64 (ea.v0), .int .i64 (ea.v1), .int .i64 (ea.v2), .int .u16 ((((ea.a).toNat : Nat) : Int)), .int .u8 ((((ea.g).toNat : Nat) : Int))] 47, blk g22 [.int .i64 (1), .int .i64 (eb.id), .int .i64 (IntKind.i64.wrap (eb.p0 - ea.p0)), .int .i64 (IntKind.i64.wrap (eb.p1 - ea.p1)), .int .i64 (0), .int .i64 (IntKind.i64.wrap (eb.v0 - ea.v0)), .int .i64 (0), .int .i64 (0), .int .u16 ((((eb.a - ea.a).toNat : Nat) : Int))] 45] _ _ := hs
  clear hf
  refine then_n (hK44 _ _ ?_)
  replace hs := hs.sub (F' := [(35, .bool (true)), (34, .int .i64 (1)), (7, .int .i64 (1)), (37, .int .i64 (1)), (36, .int .i64 (0)), (6, .pointer (some ⟨g22, 0, none⟩)), (5, .bool (false)), (4, .pointer (some ⟨g5, 0, none⟩)), (3, .pointer (some ⟨g4, 0, none⟩)), (2, .pointer (some ⟨g3, 0, none⟩))]) (.c rfl (.c rfl (.c rfl (.c rfl (.c rfl (.c rfl (.c rfl (.c rfl (.c rfl (.c rfl .n))))))))))
  refine wp_drawG (M0 := [blk g5 [.int .i64 (0), .int .i64 (0), .int .i64 (0), .int .i64 (0), .int .i64 (0), .int .i64 (0), .int .i64 (0), .int .i64 (0), .int .u16 (0)] 45, blk g4 [.int .i64 (eb.id), .int .i64 (eb.p0), .int .i64 (eb.p1), .int .i64 (eb.p2), .int .i64 (eb.v0), .int .i64 (eb.v1), .int .i64 (eb.v2), .int .u16 ((((eb.a).toNat : Nat) : Int)), .int .u8 ((((eb.g).toNat : Nat) : Int))] 47, blk g3 [.int .i64 (ea.id), .int .i64 (ea.p0), .int .i64 (ea.p1), .int .i64 (ea.p2), .int .i64 (ea.v0), .int .i64 (ea.v1), .int .i64 (ea.v2), .int .u16 ((((ea.a).toNat : Nat) : Int)), .int .u8 ((((ea.g).toNat : Nat) : Int))] 47]) (Ds := [Pv 0 (.int .i64 (1)), Pv 1 (.int .i64 (1)), Pv 2 (.pointer (some ⟨g4, 4, none⟩)), Pv 3 (.pointer (some ⟨g4, 5, none⟩)), Pv 4 (.int .i64 (eb.v1)), Pv 5 (.int .i64 (1)), Pv 6 (.pointer (some ⟨g3, 4, none⟩)), Pv 7 (.pointer (some ⟨g3, 5, none⟩)), Pv 8 (.int .i64 (ea.v1)), Pv 9 (.int .i64 (IntKind.i64.wrap (eb.v1 - ea.v1))), Pv 10 (.pointer (some ⟨g22, 5, none⟩)), Pv 11 (.pointer (some ⟨g22, 6, none⟩)), ⟨[blk g22 [.int .i64 (1), .int .i64 (eb.id), .int .i64 (IntKind.i64.wrap (eb.p0 - ea.p0)), .int .i64 (IntKind.i64.wrap (eb.p1 - ea.p1)), .int .i64 (0), .int .i64 (IntKind.i64.wrap (eb.v0 - ea.v0)), .int .i64 (0), .int .i64 (0), .int .u16 ((((eb.a - ea.a).toNat : Nat) : Int))] 45], [], [], fun vs46 => True, fun vs46 => [blk g22 [.int .i64 (1), .int .i64 (eb.id), .int .i64 (IntKind.i64.wrap (eb.p0 - ea.p0)), .int .i64 (IntKind.i64.wrap (eb.p1 - ea.p1)), .int .i64 (0), .int .i64 (IntKind.i64.wrap (eb.v0 - ea.v0)), .int .i64 (IntKind.i64.wrap (eb.v1 - ea.v1)), .int .i64 (0), .int .u16 ((((eb.a - ea.a).toNat : Nat) : Int))] 45], none⟩]) (by kernel_rfl) hs rfl (.c (.s (.s (.s .z))) .n) (by kernel_rfl) (by kernel_rfl) (by kernel_rfl) ?_ ?_
  ·
   refine (.c ?_ (.c ?_ (.c ?_ (.c ?_ (.c ?_ (.c ?_ (.c ?_ (.c ?_ (.c ?_ (.c ?_ (.c ?_ (.c ?_ (.c ?_ .n)))))))))))))
   · exact trip_pv (m := 13) .n (fun hm0 hm hx => .n) (by kernel_rfl) (by kernel_rfl) rfl
   · exact trip_pv (m := 13) .n (fun hm0 hm hx => .n) (by kernel_rfl) (by kernel_rfl) rfl
   · exact trip_pv (m := 13) .n (fun hm0 hm hx => .n) (by kernel_rfl) (by kernel_rfl) rfl
   · exact trip_pv (m := 13) (.c (k := 1) (by kernel_rfl) rfl rfl (.c (k := 2) (by kernel_rfl) rfl rfl .n)) (fun hm0 hm hx => .n) (by kernel_rfl) (by kernel_rfl) rfl
   · exact trip_pv (m := 13) (.c (k := 3) (by kernel_rfl) rfl rfl .n) (fun hm0 hm hx => (.c (hm0.del (.s .z)))) (by kernel_rfl) (by kernel_rfl) rfl
   · exact trip_pv (m := 13) .n (fun hm0 hm hx => .n) (by kernel_rfl) (by kernel_rfl) rfl
   · exact trip_pv (m := 13) .n (fun hm0 hm hx => .n) (by kernel_rfl) (by kernel_rfl) rfl
   · exact trip_pv (m := 13) (.c (k := 5) (by kernel_rfl) rfl rfl (.c (k := 6) (by kernel_rfl) rfl rfl .n)) (fun hm0 hm hx => .n) (by kernel_rfl) (by kernel_rfl) rfl
   · exact trip_pv (m := 13) (.c (k := 7) (by kernel_rfl) rfl rfl .n) (fun hm0 hm hx => (.c (hm0.del (.s (.s .z))))) (by kernel_rfl) (by kernel_rfl) rfl
   ·
    intro a_ w_ R_ rest_ vs46 hm hs ht hx
    have hm0 := hm.mid
    replace hs := hs.lrn (ht 4 (twB_spec 13 _ (by kernel_rfl))) rfl rfl
    replace hs := hs.lrn (ht 8 (twB_spec 13 _ (by kernel_rfl))) rfl rfl
    have hs0 := hs.bare
    refine st_sub hs rfl rfl rfl ?_; clear hs; intro a w hs
    exact wpList_nil ⟨rfl, _, _, hs0, (.c (.c .r)), hs, rfl⟩
   · exact trip_pv (m := 13) .n (fun hm0 hm hx => .n) (by kernel_rfl) (by kernel_rfl) rfl
   · exact trip_pv (m := 13) (.c (k := 0) (by kernel_rfl) rfl rfl (.c (k := 10) (by kernel_rfl) rfl rfl .n)) (fun hm0 hm hx => .n) (by kernel_rfl) (by kernel_rfl) rfl
   intro a_ w_ R_ rest_ vs46 hm hs ht hx
   replace hs : St _ _ _ (feet [blk g22 [.int .i64 (1), .int .i64 (eb.id), .int .i64 (IntKind.i64.wrap (eb.p0 - ea.p0)), .int .i64 (IntKind.i64.wrap (eb.p1 - ea.p1)), .int .i64 (0), .int .i64 (IntKind.i64.wrap (eb.v0 - ea.v0)), .int .i64 (0), .int .i64 (0), .int .u16 ((((eb.a - ea.a).toNat : Nat) : Int))] 45]) [blk g22 [.int .i64 (1), .int .i64 (eb.id), .int .i64 (IntKind.i64.wrap (eb.p0 - ea.p0)), .int .i64 (IntKind.i64.wrap (eb.p1 - ea.p1)), .int .i64 (0), .int .i64 (IntKind.i64.wrap (eb.v0 - ea.v0)), .int .i64 (0), .int .i64 (0), .int .u16 ((((eb.a - ea.a).toNat : Nat) : Int))] 45] _ _ := hs
   have hm0 := hm.mid
   replace hs := hs.lrn (ht 9 (twB_spec 13 _ (by kernel_rfl))) rfl rfl
   replace hs := hs.lrn (ht 11 (twB_spec 13 _ (by kernel_rfl))) rfl rfl
   have hs0 := hs.bare
   refine st_stB hs rfl rfl .z (.s (.s (.s (.s (.s (.s .z)))))) rfl Try.sizeOf2 ?_; clear hs; intro a w hs
   exact wpList_nil ⟨rfl, .tuple #[], _, hs0, (.c (.c .r)), hs, trivial⟩
  clear hs w a; intro a w vs46 hs hf
  replace hs : St _ _ _ _ [blk g5 [.int .i64 (0), .int .i64 (0), .int .i64 (0), .int .i64 (0), .int .i64 (0), .int .i64 (0), .int .i64 (0), .int .i64 (0), .int .u16 (0)] 45, blk g4 [.int .i64 (eb.id), .int .i64 (eb.p0), .int .i64 (eb.p1), .int .i64 (eb.p2), .int .i64 (eb.v0), .int .i64 (eb.v1), .int .i64 (eb.v2), .int .u16 ((((eb.a).toNat : Nat) : Int)), .int .u8 ((((eb.g).toNat : Nat) : Int))] 47, blk g3 [.int .i64 (ea.id), .int .i64 (ea.p0), .int .i64 (ea.p1), .int .i64 (ea.p2), .int .i64 (ea.v0), .int .i64 (ea.v1), .int .i64 (ea.v2), .int .u16 ((((ea.a).toNat : Nat) : Int)), .int .u8 ((((ea.g).toNat : Nat) : Int))] 47, blk g22 [.int .i64 (1), .int .i64 (eb.id), .int .i64 (IntKind.i64.wrap (eb.p0 - ea.p0)), .int .i64 (IntKind.i64.wrap (eb.p1 - ea.p1)), .int .i64 (0), .int .i64 (IntKind.i64.wrap (eb.v0 - ea.v0)), .int .i64 (IntKind.i64.wrap (eb.v1 - ea.v1)), .int .i64 (0), .int .u16 ((((eb.a - ea.a).toNat : Nat) : Int))] 45] _ _ := hs
  clear hf
  refine in_n ?_
  refine then_n (hK42 _ _ ?_)
  refine wp_region_lit ?_
  refine st_run 3 [(7, .int .i64 (2)), (37, .int .i64 (2)), (36, .int .i64 (1))] hs .n (by kernel_rfl) (by kernel_rfl) (by kernel_rfl) ?_; clear hs a; intro a hs
  refine wpList_nil ?_
  refine then_n ?_
  refine rounds_in ?_
  refine wp_seq_k fun K47 hK48 => ?_
  refine wp_seq_k fun K49 hK50 => ?_
  refine wp_region_lit ?_
  refine st_run 2 [(35, .bool (true)), (34, .int .i64 (2))] hs .n (by kernel_rfl) (by kernel_rfl) (by kernel_rfl) ?_; clear hs a; intro a hs
  refine wpList_nil ?_
  refine then_n (hK50 _ _ ?_)
  refine wp_cond_true (hs.ev rfl) ?_
  refine wp_skip ?_
  refine then_n (hK48 _ _ ?_)
  refine wp_seq_k fun K51 hK52 => ?_
  refine wp_block ?_
  refine wp_seq_k fun K53 hK54 => ?_
  replace hs := hs.sub (F' := [(35, .bool (true)), (34, .int .i64 (2)), (7, .int .i64 (2)), (37, .int .i64 (2)), (36, .int .i64 (1)), (6, .pointer (some ⟨g22, 0, none⟩)), (5, .bool (false)), (4, .pointer (some ⟨g5, 0, none⟩)), (3, .pointer (some ⟨g4, 0, none⟩)), (2, .pointer (some ⟨g3, 0, none⟩))]) (.c rfl (.c rfl (.c rfl (.c rfl (.c rfl (.c rfl (.c rfl (.c rfl (.c rfl (.c rfl .n))))))))))
  refine wp_drawG (M0 := [blk g5 [.int .i64 (0), .int .i64 (0), .int .i64 (0), .int .i64 (0), .int .i64 (0), .int .i64 (0), .int .i64 (0), .int .i64 (0), .int .u16 (0)] 45, blk g4 [.int .i64 (eb.id), .int .i64 (eb.p0), .int .i64 (eb.p1), .int .i64 (eb.p2), .int .i64 (eb.v0), .int .i64 (eb.v1), .int .i64 (eb.v2), .int .u16 ((((eb.a).toNat : Nat) : Int)), .int .u8 ((((eb.g).toNat : Nat) : Int))] 47, blk g3 [.int .i64 (ea.id), .int .i64 (ea.p0), .int .i64 (ea.p1), .int .i64 (ea.p2), .int .i64 (ea.v0), .int .i64 (ea.v1), .int .i64 (ea.v2), .int .u16 ((((ea.a).toNat : Nat) : Int)), .int .u8 ((((ea.g).toNat : Nat) : Int))] 47]) (Ds := [Pv 0 (.int .i64 (2)), Pv 1 (.int .i64 (2)), Pv 2 (.pointer (some ⟨g4, 1, none⟩)), Pv 3 (.pointer (some ⟨g4, 3, none⟩)), Pv 4 (.int .i64 (eb.p2)), Pv 5 (.int .i64 (2)), Pv 6 (.pointer (some ⟨g3, 1, none⟩)), Pv 7 (.pointer (some ⟨g3, 3, none⟩)), Pv 8 (.int .i64 (ea.p2)), Pv 9 (.int .i64 (IntKind.i64.wrap (eb.p2 - ea.p2))), Pv 10 (.pointer (some ⟨g22, 2, none⟩)), Pv 11 (.pointer (some ⟨g22, 4, none⟩)), ⟨[blk g22 [.int .i64 (1), .int .i64 (eb.id), .int .i64 (IntKind.i64.wrap (eb.p0 - ea.p0)), .int .i64 (IntKind.i64.wrap (eb.p1 - ea.p1)), .int .i64 (0), .int .i64 (IntKind.i64.wrap (eb.v0 - ea.v0)), .int .i64 (IntKind.i64.wrap (eb.v1 - ea.v1)), .int .i64 (0), .int .u16 ((((eb.a - ea.a).toNat : Nat) : Int))] 45], [], [], fun vs55 => True, fun vs55 => [blk g22 [.int .i64 (1), .int .i64 (eb.id), .int .i64 (IntKind.i64.wrap (eb.p0 - ea.p0)), .int .i64 (IntKind.i64.wrap (eb.p1 - ea.p1)), .int .i64 (IntKind.i64.wrap (eb.p2 - ea.p2)), .int .i64 (IntKind.i64.wrap (eb.v0 - ea.v0)), .int .i64 (IntKind.i64.wrap (eb.v1 - ea.v1)), .int .i64 (0), .int .u16 ((((eb.a - ea.a).toNat : Nat) : Int))] 45], none⟩]) (by kernel_rfl) hs rfl (.c (.s (.s (.s .z))) .n) (by kernel_rfl) (by kernel_rfl) (by kernel_rfl) ?_ ?_
  ·
   refine (.c ?_ (.c ?_ (.c ?_ (.c ?_ (.c ?_ (.c ?_ (.c ?_ (.c ?_ (.c ?_ (.c ?_ (.c ?_ (.c ?_ (.c ?_ .n)))))))))))))
   · exact trip_pv (m := 13) .n (fun hm0 hm hx => .n) (by kernel_rfl) (by kernel_rfl) rfl
   · exact trip_pv (m := 13) .n (fun hm0 hm hx => .n) (by kernel_rfl) (by kernel_rfl) rfl
   · exact trip_pv (m := 13) .n (fun hm0 hm hx => .n) (by kernel_rfl) (by kernel_rfl) rfl
   · exact trip_pv (m := 13) (.c (k := 1) (by kernel_rfl) rfl rfl (.c (k := 2) (by kernel_rfl) rfl rfl .n)) (fun hm0 hm hx => .n) (by kernel_rfl) (by kernel_rfl) rfl
   · exact trip_pv (m := 13) (.c (k := 3) (by kernel_rfl) rfl rfl .n) (fun hm0 hm hx => (.c (hm0.del (.s .z)))) (by kernel_rfl) (by kernel_rfl) rfl
   · exact trip_pv (m := 13) .n (fun hm0 hm hx => .n) (by kernel_rfl) (by kernel_rfl) rfl
   · exact trip_pv (m := 13) .n (fun hm0 hm hx => .n) (by kernel_rfl) (by kernel_rfl) rfl
   · exact trip_pv (m := 13) (.c (k := 5) (by kernel_rfl) rfl rfl (.c (k := 6) (by kernel_rfl) rfl rfl .n)) (fun hm0 hm hx => .n) (by kernel_rfl) (by kernel_rfl) rfl
   · exact trip_pv (m := 13) (.c (k := 7) (by kernel_rfl) rfl rfl .n) (fun hm0 hm hx => (.c (hm0.del (.s (.s .z))))) (by kernel_rfl) (by kernel_rfl) rfl
   ·
    intro a_ w_ R_ rest_ vs55 hm hs ht hx
    have hm0 := hm.mid
    replace hs := hs.lrn (ht 4 (twB_spec 13 _ (by kernel_rfl))) rfl rfl
    replace hs := hs.lrn (ht 8 (twB_spec 13 _ (by kernel_rfl))) rfl rfl
    have hs0 := hs.bare
    refine st_sub hs rfl rfl rfl ?_; clear hs; intro a w hs
    exact wpList_nil ⟨rfl, _, _, hs0, (.c (.c .r)), hs, rfl⟩
   · exact trip_pv (m := 13) .n (fun hm0 hm hx => .n) (by kernel_rfl) (by kernel_rfl) rfl
   · exact trip_pv (m := 13) (.c (k := 0) (by kernel_rfl) rfl rfl (.c (k := 10) (by kernel_rfl) rfl rfl .n)) (fun hm0 hm hx => .n) (by kernel_rfl) (by kernel_rfl) rfl
   intro a_ w_ R_ rest_ vs55 hm hs ht hx
   replace hs : St _ _ _ (feet [blk g22 [.int .i64 (1), .int .i64 (eb.id), .int .i64 (IntKind.i64.wrap (eb.p0 - ea.p0)), .int .i64 (IntKind.i64.wrap (eb.p1 - ea.p1)), .int .i64 (0), .int .i64 (IntKind.i64.wrap (eb.v0 - ea.v0)), .int .i64 (IntKind.i64.wrap (eb.v1 - ea.v1)), .int .i64 (0), .int .u16 ((((eb.a - ea.a).toNat : Nat) : Int))] 45]) [blk g22 [.int .i64 (1), .int .i64 (eb.id), .int .i64 (IntKind.i64.wrap (eb.p0 - ea.p0)), .int .i64 (IntKind.i64.wrap (eb.p1 - ea.p1)), .int .i64 (0), .int .i64 (IntKind.i64.wrap (eb.v0 - ea.v0)), .int .i64 (IntKind.i64.wrap (eb.v1 - ea.v1)), .int .i64 (0), .int .u16 ((((eb.a - ea.a).toNat : Nat) : Int))] 45] _ _ := hs
   have hm0 := hm.mid
   replace hs := hs.lrn (ht 9 (twB_spec 13 _ (by kernel_rfl))) rfl rfl
   replace hs := hs.lrn (ht 11 (twB_spec 13 _ (by kernel_rfl))) rfl rfl
   have hs0 := hs.bare
   refine st_stB hs rfl rfl .z (.s (.s (.s (.s .z)))) rfl Try.sizeOf2 ?_; clear hs; intro a w hs
   exact wpList_nil ⟨rfl, .tuple #[], _, hs0, (.c (.c .r)), hs, trivial⟩
  clear hs w a; intro a w vs55 hs hf
  replace hs : St _ _ _ _ [blk g5 [.int .i64 (0), .int .i64 (0), .int .i64 (0), .int .i64 (0), .int .i64 (0), .int .i64 (0), .int .i64 (0), .int .i64 (0), .int .u16 (0)] 45, blk g4 [.int .i64 (eb.id), .int .i64 (eb.p0), .int .i64 (eb.p1), .int .i64 (eb.p2), .int .i64 (eb.v0), .int .i64 (eb.v1), .int .i64 (eb.v2), .int .u16 ((((eb.a).toNat : Nat) : Int)), .int .u8 ((((eb.g).toNat : Nat) : Int))] 47, blk g3 [.int .i64 (ea.id), .int .i64 (ea.p0), .int .i64 (ea.p1), .int .i64 (ea.p2), .int .i64 (ea.v0), .int .i64 (ea.v1), .int .i64 (ea.v2), .int .u16 ((((ea.a).toNat : Nat) : Int)), .int .u8 ((((ea.g).toNat : Nat) : Int))] 47, blk g22 [.int .i64 (1), .int .i64 (eb.id), .int .i64 (IntKind.i64.wrap (eb.p0 - ea.p0)), .int .i64 (IntKind.i64.wrap (eb.p1 - ea.p1)), .int .i64 (IntKind.i64.wrap (eb.p2 - ea.p2)), .int .i64 (IntKind.i64.wrap (eb.v0 - ea.v0)), .int .i64 (IntKind.i64.wrap (eb.v1 - ea.v1)), .int .i64 (0), .int .u16 ((((eb.a - ea.a).toNat : Nat) : Int))] 45] _ _ := hs
  clear hf
  refine then_n (hK54 _ _ ?_)
  replace hs := hs.sub (F' := [(35, .bool (true)), (34, .int .i64 (2)), (7, .int .i64 (2)), (37, .int .i64 (2)), (36, .int .i64 (1)), (6, .pointer (some ⟨g22, 0, none⟩)), (5, .bool (false)), (4, .pointer (some ⟨g5, 0, none⟩)), (3, .pointer (some ⟨g4, 0, none⟩)), (2, .pointer (some ⟨g3, 0, none⟩))]) (.c rfl (.c rfl (.c rfl (.c rfl (.c rfl (.c rfl (.c rfl (.c rfl (.c rfl (.c rfl .n))))))))))
  refine wp_drawG (M0 := [blk g5 [.int .i64 (0), .int .i64 (0), .int .i64 (0), .int .i64 (0), .int .i64 (0), .int .i64 (0), .int .i64 (0), .int .i64 (0), .int .u16 (0)] 45, blk g4 [.int .i64 (eb.id), .int .i64 (eb.p0), .int .i64 (eb.p1), .int .i64 (eb.p2), .int .i64 (eb.v0), .int .i64 (eb.v1), .int .i64 (eb.v2), .int .u16 ((((eb.a).toNat : Nat) : Int)), .int .u8 ((((eb.g).toNat : Nat) : Int))] 47, blk g3 [.int .i64 (ea.id), .int .i64 (ea.p0), .int .i64 (ea.p1), .int .i64 (ea.p2), .int .i64 (ea.v0), .int .i64 (ea.v1), .int .i64 (ea.v2), .int .u16 ((((ea.a).toNat : Nat) : Int)), .int .u8 ((((ea.g).toNat : Nat) : Int))] 47]) (Ds := [Pv 0 (.int .i64 (2)), Pv 1 (.int .i64 (2)), Pv 2 (.pointer (some ⟨g4, 4, none⟩)), Pv 3 (.pointer (some ⟨g4, 6, none⟩)), Pv 4 (.int .i64 (eb.v2)), Pv 5 (.int .i64 (2)), Pv 6 (.pointer (some ⟨g3, 4, none⟩)), Pv 7 (.pointer (some ⟨g3, 6, none⟩)), Pv 8 (.int .i64 (ea.v2)), Pv 9 (.int .i64 (IntKind.i64.wrap (eb.v2 - ea.v2))), Pv 10 (.pointer (some ⟨g22, 5, none⟩)), Pv 11 (.pointer (some ⟨g22, 7, none⟩)), ⟨[blk g22 [.int .i64 (1), .int .i64 (eb.id), .int .i64 (IntKind.i64.wrap (eb.p0 - ea.p0)), .int .i64 (IntKind.i64.wrap (eb.p1 - ea.p1)), .int .i64 (IntKind.i64.wrap (eb.p2 - ea.p2)), .int .i64 (IntKind.i64.wrap (eb.v0 - ea.v0)), .int .i64 (IntKind.i64.wrap (eb.v1 - ea.v1)), .int .i64 (0), .int .u16 ((((eb.a - ea.a).toNat : Nat) : Int))] 45], [], [], fun vs56 => True, fun vs56 => [blk g22 [.int .i64 (1), .int .i64 (eb.id), .int .i64 (IntKind.i64.wrap (eb.p0 - ea.p0)), .int .i64 (IntKind.i64.wrap (eb.p1 - ea.p1)), .int .i64 (IntKind.i64.wrap (eb.p2 - ea.p2)), .int .i64 (IntKind.i64.wrap (eb.v0 - ea.v0)), .int .i64 (IntKind.i64.wrap (eb.v1 - ea.v1)), .int .i64 (IntKind.i64.wrap (eb.v2 - ea.v2)), .int .u16 ((((eb.a - ea.a).toNat : Nat) : Int))] 45], none⟩]) (by kernel_rfl) hs rfl (.c (.s (.s (.s .z))) .n) (by kernel_rfl) (by kernel_rfl) (by kernel_rfl) ?_ ?_
  ·
   refine (.c ?_ (.c ?_ (.c ?_ (.c ?_ (.c ?_ (.c ?_ (.c ?_ (.c ?_ (.c ?_ (.c ?_ (.c ?_ (.c ?_ (.c ?_ .n)))))))))))))
   · exact trip_pv (m := 13) .n (fun hm0 hm hx => .n) (by kernel_rfl) (by kernel_rfl) rfl
   · exact trip_pv (m := 13) .n (fun hm0 hm hx => .n) (by kernel_rfl) (by kernel_rfl) rfl
   · exact trip_pv (m := 13) .n (fun hm0 hm hx => .n) (by kernel_rfl) (by kernel_rfl) rfl
   · exact trip_pv (m := 13) (.c (k := 1) (by kernel_rfl) rfl rfl (.c (k := 2) (by kernel_rfl) rfl rfl .n)) (fun hm0 hm hx => .n) (by kernel_rfl) (by kernel_rfl) rfl
   · exact trip_pv (m := 13) (.c (k := 3) (by kernel_rfl) rfl rfl .n) (fun hm0 hm hx => (.c (hm0.del (.s .z)))) (by kernel_rfl) (by kernel_rfl) rfl
   · exact trip_pv (m := 13) .n (fun hm0 hm hx => .n) (by kernel_rfl) (by kernel_rfl) rfl
   · exact trip_pv (m := 13) .n (fun hm0 hm hx => .n) (by kernel_rfl) (by kernel_rfl) rfl
   · exact trip_pv (m := 13) (.c (k := 5) (by kernel_rfl) rfl rfl (.c (k := 6) (by kernel_rfl) rfl rfl .n)) (fun hm0 hm hx => .n) (by kernel_rfl) (by kernel_rfl) rfl
   · exact trip_pv (m := 13) (.c (k := 7) (by kernel_rfl) rfl rfl .n) (fun hm0 hm hx => (.c (hm0.del (.s (.s .z))))) (by kernel_rfl) (by kernel_rfl) rfl
   ·
    intro a_ w_ R_ rest_ vs56 hm hs ht hx
    have hm0 := hm.mid
    replace hs := hs.lrn (ht 4 (twB_spec 13 _ (by kernel_rfl))) rfl rfl
    replace hs := hs.lrn (ht 8 (twB_spec 13 _ (by kernel_rfl))) rfl rfl
    have hs0 := hs.bare
    refine st_sub hs rfl rfl rfl ?_; clear hs; intro a w hs
    exact wpList_nil ⟨rfl, _, _, hs0, (.c (.c .r)), hs, rfl⟩
   · exact trip_pv (m := 13) .n (fun hm0 hm hx => .n) (by kernel_rfl) (by kernel_rfl) rfl
   · exact trip_pv (m := 13) (.c (k := 0) (by kernel_rfl) rfl rfl (.c (k := 10) (by kernel_rfl) rfl rfl .n)) (fun hm0 hm hx => .n) (by kernel_rfl) (by kernel_rfl) rfl
   intro a_ w_ R_ rest_ vs56 hm hs ht hx
   replace hs : St _ _ _ (feet [blk g22 [.int .i64 (1), .int .i64 (eb.id), .int .i64 (IntKind.i64.wrap (eb.p0 - ea.p0)), .int .i64 (IntKind.i64.wrap (eb.p1 - ea.p1)), .int .i64 (IntKind.i64.wrap (eb.p2 - ea.p2)), .int .i64 (IntKind.i64.wrap (eb.v0 - ea.v0)), .int .i64 (IntKind.i64.wrap (eb.v1 - ea.v1)), .int .i64 (0), .int .u16 ((((eb.a - ea.a).toNat : Nat) : Int))] 45]) [blk g22 [.int .i64 (1), .int .i64 (eb.id), .int .i64 (IntKind.i64.wrap (eb.p0 - ea.p0)), .int .i64 (IntKind.i64.wrap (eb.p1 - ea.p1)), .int .i64 (IntKind.i64.wrap (eb.p2 - ea.p2)), .int .i64 (IntKind.i64.wrap (eb.v0 - ea.v0)), .int .i64 (IntKind.i64.wrap (eb.v1 - ea.v1)), .int .i64 (0), .int .u16 ((((eb.a - ea.a).toNat : Nat) : Int))] 45] _ _ := hs
   have hm0 := hm.mid
   replace hs := hs.lrn (ht 9 (twB_spec 13 _ (by kernel_rfl))) rfl rfl
   replace hs := hs.lrn (ht 11 (twB_spec 13 _ (by kernel_rfl))) rfl rfl
   have hs0 := hs.bare
   refine st_stB hs rfl rfl .z (.s (.s (.s (.s (.s (.s (.s .z))))))) rfl Try.sizeOf2 ?_; clear hs; intro a w hs
   exact wpList_nil ⟨rfl, .tuple #[], _, hs0, (.c (.c .r)), hs, trivial⟩
  clear hs w a; intro a w vs56 hs hf
  replace hs : St _ _ _ _ [blk g5 [.int .i64 (0), .int .i64 (0), .int .i64 (0), .int .i64 (0), .int .i64 (0), .int .i64 (0), .int .i64 (0), .int .i64 (0), .int .u16 (0)] 45, blk g4 [.int .i64 (eb.id), .int .i64 (eb.p0), .int .i64 (eb.p1), .int .i64 (eb.p2), .int .i64 (eb.v0), .int .i64 (eb.v1), .int .i64 (eb.v2), .int .u16 ((((eb.a).toNat : Nat) : Int)), .int .u8 ((((eb.g).toNat : Nat) : Int))] 47, blk g3 [.int .i64 (ea.id), .int .i64 (ea.p0), .int .i64 (ea.p1), .int .i64 (ea.p2), .int .i64 (ea.v0), .int .i64 (ea.v1), .int .i64 (ea.v2), .int .u16 ((((ea.a).toNat : Nat) : Int)), .int .u8 ((((ea.g).toNat : Nat) : Int))] 47, blk g22 [.int .i64 (1), .int .i64 (eb.id), .int .i64 (IntKind.i64.wrap (eb.p0 - ea.p0)), .int .i64 (IntKind.i64.wrap (eb.p1 - ea.p1)), .int .i64 (IntKind.i64.wrap (eb.p2 - ea.p2)), .int .i64 (IntKind.i64.wrap (eb.v0 - ea.v0)), .int .i64 (IntKind.i64.wrap (eb.v1 - ea.v1)), .int .i64 (IntKind.i64.wrap (eb.v2 - ea.v2)), .int .u16 ((((eb.a - ea.a).toNat : Nat) : Int))] 45] _ _ := hs
  clear hf
  refine in_n ?_
  refine then_n (hK52 _ _ ?_)
  refine wp_region_lit ?_
  refine st_run 3 [(7, .int .i64 (3)), (37, .int .i64 (3)), (36, .int .i64 (2))] hs .n (by kernel_rfl) (by kernel_rfl) (by kernel_rfl) ?_; clear hs a; intro a hs
  refine wpList_nil ?_
  refine then_n ?_
  refine rounds_in ?_
  refine wp_seq_k fun K57 hK58 => ?_
  refine wp_seq_k fun K59 hK60 => ?_
  refine wp_region_lit ?_
  refine st_run 2 [(35, .bool (false)), (34, .int .i64 (3))] hs .n (by kernel_rfl) (by kernel_rfl) (by kernel_rfl) ?_; clear hs a; intro a hs
  refine wpList_nil ?_
  refine then_n (hK60 _ _ ?_)
  refine wp_cond_false (hs.ev rfl) ?_
  refine wp_exit ?_
  refine th_e ?_
  refine th_e ?_
  refine in_hit ?_
  refine then_n (hK24 _ _ ?_)
  refine wp_seq_k fun K61 hK62 => ?_
  refine wp_region_lit ?_
  refine st_ldBA hs rfl (.s (.s (.s .z))) (.z (.c (.c (.c (.c (.c (.c (.c (.c (.c .n)))))))))) Try.isAgg45 Try.sizeOf45 rfl ?_; clear hs w a; intro a w hs
  refine st_stBA hs rfl rfl .z (.z (.c (.c (.c (.c (.c (.c (.c (.c (.c .n)))))))))) (ones_c rfl (ones_c rfl (ones_c rfl (ones_c rfl (ones_c rfl (ones_c rfl (ones_c rfl (ones_c rfl (ones_c rfl ones_n))))))))) Try.sizeOf45 rfl ?_; clear hs w a; intro a w hs
  refine st_as hs rfl rfl ?_; clear hs w a; intro a w hs
  refine wpList_nil ?_
  refine then_n (hK62 _ _ ?_)
  refine wp_ret ?_
  exact finC2 hs rfl rfl rfl .z (.z (.c (.c (.c (.c (.c (.c (.c (.c (.c .n)))))))))) Try.isAgg45 Try.sizeOf45 (.c .z (.c .z (.c .z (.c .z .n)))) (by first | (rw [recDiff_eq (by assumption)]; exact ⟨rfl, rfl⟩) | (rw [recDiff_upd (by assumption) (by omega)]; exact ⟨rfl, rfl⟩) | (rw [recDiff_tel (by assumption) (by omega)]; exact ⟨rfl, rfl⟩))
end Go.Proofs.Ytbioemaipghagaa
