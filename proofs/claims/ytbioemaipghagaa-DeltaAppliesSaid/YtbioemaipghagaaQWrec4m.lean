/- Walks of the document's: what is others with an entity: what each function does, over the program of this seat. Printed by a program of this session. -/
import Derived.Test.YtbioemaipghagaaQWrecm
import Derived.Test.YtbioemaipghagaaQSxPent
namespace Go.Proofs.Ytbioemaipghagaa
open Go Go.Sx Go.RowKit
set_option linter.unusedVariables false
set_option linter.unusedSimpArgs false
set_option maxRecDepth 4000
set_option maxHeartbeats 1000000

theorem rapply_ok (ea : EntR) (r : RecR) (w0 : World) : Calls Try.prog 31 #[.agg #[.int .i64 (ea.id), .int .i64 (ea.p0), .int .i64 (ea.p1), .int .i64 (ea.p2), .int .i64 (ea.v0), .int .i64 (ea.v1), .int .i64 (ea.v2), .int .u16 ((((ea.a).toNat : Nat) : Int)), .int .u8 ((((ea.g).toNat : Nat) : Int))], .agg #[.int .i64 (r.k), .int .i64 (r.id), .int .i64 (r.p0), .int .i64 (r.p1), .int .i64 (r.p2), .int .i64 (r.v0), .int .i64 (r.v1), .int .i64 (r.v2), .int .u16 ((((r.a).toNat : Nat) : Int))]] w0 (RetV w0 (.tuple #[.agg #[.int .i64 (((entApply ea r).1).id), .int .i64 (((entApply ea r).1).p0), .int .i64 (((entApply ea r).1).p1), .int .i64 (((entApply ea r).1).p2), .int .i64 (((entApply ea r).1).v0), .int .i64 (((entApply ea r).1).v1), .int .i64 (((entApply ea r).1).v2), .int .u16 ((((((entApply ea r).1).a).toNat : Nat) : Int)), .int .u8 ((((((entApply ea r).1).g).toNat : Nat) : Int))], .int .i64 (((entApply ea r).2 : Nat) : Int)])) := by
  refine enter (F0 := [(0, .agg #[.int .i64 (ea.id), .int .i64 (ea.p0), .int .i64 (ea.p1), .int .i64 (ea.p2), .int .i64 (ea.v0), .int .i64 (ea.v1), .int .i64 (ea.v2), .int .u16 ((((ea.a).toNat : Nat) : Int)), .int .u8 ((((ea.g).toNat : Nat) : Int))]), (1, .agg #[.int .i64 (r.k), .int .i64 (r.id), .int .i64 (r.p0), .int .i64 (r.p1), .int .i64 (r.p2), .int .i64 (r.v0), .int .i64 (r.v1), .int .i64 (r.v2), .int .u16 ((((r.a).toNat : Nat) : Int))])]) Try.func31 rfl rfl rfl (.c (.c .n)) (Mem.nil _) fun a w hs => ?_
  refine wp_seq_k fun K1 hK2 => ?_
  refine wp_region_lit ?_
  refine st_box (cs := [.int .i64 (ea.id), .int .i64 (ea.p0), .int .i64 (ea.p1), .int .i64 (ea.p2), .int .i64 (ea.v0), .int .i64 (ea.v1), .int .i64 (ea.v2), .int .u16 ((((ea.a).toNat : Nat) : Int)), .int .u8 ((((ea.g).toNat : Nat) : Int))]) hs rfl rfl rfl ?_; clear hs w a; intro g3 a w hs
  refine st_box (cs := [.int .i64 (r.k), .int .i64 (r.id), .int .i64 (r.p0), .int .i64 (r.p1), .int .i64 (r.p2), .int .i64 (r.v0), .int .i64 (r.v1), .int .i64 (r.v2), .int .u16 ((((r.a).toNat : Nat) : Int))]) hs rfl rfl rfl ?_; clear hs w a; intro g4 a w hs
  refine st_alloc (cs := [.int .i64 (0), .int .i64 (0), .int .i64 (0), .int .i64 (0), .int .i64 (0), .int .i64 (0), .int .i64 (0), .int .u16 (0), .int .u8 (0)]) hs Try.zeroValue47 rfl rfl ?_; clear hs w a; intro g5 a w hs
  refine st_as hs rfl rfl ?_; clear hs w a; intro a w hs
  refine wpList_nil ?_
  refine then_n (hK2 _ _ ?_)
  refine wp_seq_k fun K6 hK7 => ?_
  refine wp_region_lit ?_
  refine st_ldBA hs rfl (.s .z) (.z (.c (.c (.c (.c (.c (.c (.c (.c (.c .n)))))))))) Try.isAgg45 Try.sizeOf45 rfl ?_; clear hs w a; intro a w hs
  refine st_callP (v := .int .i64 (((recChk r : Nat) : Int))) hs (.c rfl .n) Try.call44 (rchk_ok r _) rfl ?_; clear hs w a; intro a w hs
  refine st_as hs rfl rfl ?_; clear hs w a; intro a w hs
  refine wpList_nil ?_
  refine then_n (hK7 _ _ ?_)
  refine wp_seq_k fun K8 hK9 => ?_
  refine wp_seq_k fun K10 hK11 => ?_
  refine wp_region_lit ?_
  refine st_run 2 [(11, .bool (!((((recChk r : Nat) : Int) : Int) == 0)))] hs .n (by kernel_rfl) (by kernel_rfl) (by kernel_rfl) ?_; clear hs a; intro a hs
  refine wpList_nil ?_
  refine then_n (hK11 _ _ ?_)
  refine wp_if hs rfl (fun hc12 => ?_) (fun hc12 => ?_)
  ·
   replace hc12 := not_t hc12
   replace hc12 := ne_of_beq_f hc12
   refine wp_seq_k fun K13 hK14 => ?_
   refine wp_region_lit ?_
   refine st_build (it := Try.t47) (zs := [.int .i64 (0), .int .i64 (0), .int .i64 (0), .int .i64 (0), .int .i64 (0), .int .i64 (0), .int .i64 (0), .int .u16 (0), .int .u8 (0)]) (places := [(0, 1), (1, 3), (4, 3), (7, 1), (8, 1)]) hs .n Try.underlying47 rfl rfl rfl rfl .n rfl ?_; clear hs w a; intro a w hs
   refine st_mv hs rfl rfl ?_; clear hs w a; intro a w hs
   refine st_stBA hs rfl rfl .z (.z (.c (.c (.c (.c (.c (.c (.c (.c (.c .n)))))))))) (ones_c rfl (ones_c rfl (ones_c rfl (ones_c rfl (ones_c rfl (ones_c rfl (ones_c rfl (ones_c rfl (ones_c rfl ones_n))))))))) Try.sizeOf47 rfl ?_; clear hs w a; intro a w hs
   refine st_as hs rfl rfl ?_; clear hs w a; intro a w hs
   refine wpList_nil ?_
   refine then_n (hK14 _ _ ?_)
   refine wp_ret ?_
   refine th_r ?_
   exact finC2 hs rfl rfl rfl .z (.z (.c (.c (.c (.c (.c (.c (.c (.c (.c .n)))))))))) Try.isAgg47 Try.sizeOf47 (.c .z (.c .z (.c .z .n))) (by first | (rw [entApply_chk (by omega)]; exact ⟨rfl, rfl⟩) | (rw [entApply_no (by omega) (by omega)]; exact ⟨rfl, rfl⟩) | (rw [entApply_tel (by omega) (by omega) (by omega)]; exact ⟨rfl, rfl⟩) | (rw [entApply_upd (by omega) (by omega) (by omega)]; exact ⟨rfl, rfl⟩))
  replace hc12 := not_f hc12
  replace hc12 := eq_of_beq hc12
  refine wp_skip ?_
  refine then_n (hK9 _ _ ?_)
  refine wp_seq_k fun K15 hK16 => ?_
  refine wp_seq_k fun K17 hK18 => ?_
  refine wp_region_lit ?_
  refine st_run 4 [(17, .bool ((r.k : Int) == 0))] hs (.c (hs.mem.del (.s .z)) .n) (by kernel_rfl) (by kernel_rfl) (by kernel_rfl) ?_; clear hs a; intro a hs
  refine st_part (b := (r.k : Int) == 0) (fun hc19 => ?_) (fun hc19 => ?_)
  ·
   rw [hc19] at hs
   replace hc19 := eq_of_beq hc19
   refine st_run 11 [(28, .bool (true))] hs .n (by kernel_rfl) (by kernel_rfl) (by kernel_rfl) ?_; clear hs a; intro a hs
   refine wpList_nil ?_
   refine then_n (hK18 _ _ ?_)
   refine wp_cond_true (hs.ev rfl) ?_
   refine wp_seq_k fun K20 hK21 => ?_
   refine wp_region_lit ?_
   refine st_build (it := Try.t47) (zs := [.int .i64 (0), .int .i64 (0), .int .i64 (0), .int .i64 (0), .int .i64 (0), .int .i64 (0), .int .i64 (0), .int .u16 (0), .int .u8 (0)]) (places := [(0, 1), (1, 3), (4, 3), (7, 1), (8, 1)]) hs .n Try.underlying47 rfl rfl rfl rfl .n rfl ?_; clear hs w a; intro a w hs
   refine st_stBA hs rfl rfl .z (.z (.c (.c (.c (.c (.c (.c (.c (.c (.c .n)))))))))) (ones_c rfl (ones_c rfl (ones_c rfl (ones_c rfl (ones_c rfl (ones_c rfl (ones_c rfl (ones_c rfl (ones_c rfl ones_n))))))))) Try.sizeOf47 rfl ?_; clear hs w a; intro a w hs
   refine st_as hs rfl rfl ?_; clear hs w a; intro a w hs
   refine wpList_nil ?_
   refine then_n (hK21 _ _ ?_)
   refine wp_ret ?_
   refine th_r ?_
   exact finC2 hs rfl rfl rfl .z (.z (.c (.c (.c (.c (.c (.c (.c (.c (.c .n)))))))))) Try.isAgg47 Try.sizeOf47 (.c .z (.c .z (.c .z .n))) (by first | (rw [entApply_chk (by omega)]; exact ⟨rfl, rfl⟩) | (rw [entApply_no (by omega) (by omega)]; exact ⟨rfl, rfl⟩) | (rw [entApply_tel (by omega) (by omega) (by omega)]; exact ⟨rfl, rfl⟩) | (rw [entApply_upd (by omega) (by omega) (by omega)]; exact ⟨rfl, rfl⟩))
  rw [hc19] at hs
  replace hc19 := ne_of_beq_f hc19
  refine st_run 5 [(22, .bool ((r.k : Int) == 2))] hs (.c (hs.mem.del (.s .z)) .n) (by kernel_rfl) (by kernel_rfl) (by kernel_rfl) ?_; clear hs a; intro a hs
  refine st_part (b := (r.k : Int) == 2) (fun hc22 => ?_) (fun hc22 => ?_)
  ·
   rw [hc22] at hs
   replace hc22 := eq_of_beq hc22
   refine st_run 6 [(28, .bool (true))] hs .n (by kernel_rfl) (by kernel_rfl) (by kernel_rfl) ?_; clear hs a; intro a hs
   refine wpList_nil ?_
   refine then_n (hK18 _ _ ?_)
   refine wp_cond_true (hs.ev rfl) ?_
   refine wp_seq_k fun K23 hK24 => ?_
   refine wp_region_lit ?_
   refine st_build (it := Try.t47) (zs := [.int .i64 (0), .int .i64 (0), .int .i64 (0), .int .i64 (0), .int .i64 (0), .int .i64 (0), .int .i64 (0), .int .u16 (0), .int .u8 (0)]) (places := [(0, 1), (1, 3), (4, 3), (7, 1), (8, 1)]) hs .n Try.underlying47 rfl rfl rfl rfl .n rfl ?_; clear hs w a; intro a w hs
   refine st_stBA hs rfl rfl .z (.z (.c (.c (.c (.c (.c (.c (.c (.c (.c .n)))))))))) (ones_c rfl (ones_c rfl (ones_c rfl (ones_c rfl (ones_c rfl (ones_c rfl (ones_c rfl (ones_c rfl (ones_c rfl ones_n))))))))) Try.sizeOf47 rfl ?_; clear hs w a; intro a w hs
   refine st_as hs rfl rfl ?_; clear hs w a; intro a w hs
   refine wpList_nil ?_
   refine then_n (hK24 _ _ ?_)
   refine wp_ret ?_
   refine th_r ?_
   exact finC2 hs rfl rfl rfl .z (.z (.c (.c (.c (.c (.c (.c (.c (.c (.c .n)))))))))) Try.isAgg47 Try.sizeOf47 (.c .z (.c .z (.c .z .n))) (by first | (rw [entApply_chk (by omega)]; exact ⟨rfl, rfl⟩) | (rw [entApply_no (by omega) (by omega)]; exact ⟨rfl, rfl⟩) | (rw [entApply_tel (by omega) (by omega) (by omega)]; exact ⟨rfl, rfl⟩) | (rw [entApply_upd (by omega) (by omega) (by omega)]; exact ⟨rfl, rfl⟩))
  rw [hc22] at hs
  replace hc22 := ne_of_beq_f hc22
  refine st_run 6 [(28, .bool (!((r.id : Int) == ea.id)))] hs (.c (hs.mem.del (.s .z)) (.c (hs.mem.del (.s (.s .z))) .n)) (by kernel_rfl) (by kernel_rfl) (by kernel_rfl) ?_; clear hs a; intro a hs
  refine wpList_nil ?_
  refine then_n (hK18 _ _ ?_)
  refine wp_if hs rfl (fun hc25 => ?_) (fun hc25 => ?_)
  ·
   replace hc25 := not_t hc25
   replace hc25 := ne_of_beq_f hc25
   refine wp_seq_k fun K26 hK27 => ?_
   refine wp_region_lit ?_
   refine st_build (it := Try.t47) (zs := [.int .i64 (0), .int .i64 (0), .int .i64 (0), .int .i64 (0), .int .i64 (0), .int .i64 (0), .int .i64 (0), .int .u16 (0), .int .u8 (0)]) (places := [(0, 1), (1, 3), (4, 3), (7, 1), (8, 1)]) hs .n Try.underlying47 rfl rfl rfl rfl .n rfl ?_; clear hs w a; intro a w hs
   refine st_stBA hs rfl rfl .z (.z (.c (.c (.c (.c (.c (.c (.c (.c (.c .n)))))))))) (ones_c rfl (ones_c rfl (ones_c rfl (ones_c rfl (ones_c rfl (ones_c rfl (ones_c rfl (ones_c rfl (ones_c rfl ones_n))))))))) Try.sizeOf47 rfl ?_; clear hs w a; intro a w hs
   refine st_as hs rfl rfl ?_; clear hs w a; intro a w hs
   refine wpList_nil ?_
   refine then_n (hK27 _ _ ?_)
   refine wp_ret ?_
   refine th_r ?_
   exact finC2 hs rfl rfl rfl .z (.z (.c (.c (.c (.c (.c (.c (.c (.c (.c .n)))))))))) Try.isAgg47 Try.sizeOf47 (.c .z (.c .z (.c .z .n))) (by first | (rw [entApply_chk (by omega)]; exact ⟨rfl, rfl⟩) | (rw [entApply_no (by omega) (by omega)]; exact ⟨rfl, rfl⟩) | (rw [entApply_tel (by omega) (by omega) (by omega)]; exact ⟨rfl, rfl⟩) | (rw [entApply_upd (by omega) (by omega) (by omega)]; exact ⟨rfl, rfl⟩))
  replace hc25 := not_f hc25
  replace hc25 := eq_of_beq hc25
  refine wp_skip ?_
  refine then_n (hK16 _ _ ?_)
  refine wp_seq_k fun K28 hK29 => ?_
  refine wp_seq_k fun K30 hK31 => ?_
  refine wp_region_lit ?_
  refine st_run 3 [(32, .bool ((r.k : Int) == 3))] hs (.c (hs.mem.del (.s .z)) .n) (by kernel_rfl) (by kernel_rfl) (by kernel_rfl) ?_; clear hs a; intro a hs
  refine wpList_nil ?_
  refine then_n (hK31 _ _ ?_)
  refine wp_if hs rfl (fun hc32 => ?_) (fun hc32 => ?_)
  ·
   replace hc32 := eq_of_beq hc32
   refine wp_seq_k fun K33 hK34 => ?_
   refine wp_region_lit ?_
   refine st_run 10 [(42, .int .u8 ((((ea.g).toNat : Nat) : Int))), (40, .int .u16 ((((r.a).toNat : Nat) : Int))), (38, .agg #[.int .i64 (r.v0), .int .i64 (r.v1), .int .i64 (r.v2)]), (36, .agg #[.int .i64 (r.p0), .int .i64 (r.p1), .int .i64 (r.p2)]), (34, .int .i64 (ea.id))] hs (.c (hs.mem.del (.s (.s .z))) (.c (hs.mem.del (.s .z)) (.c (hs.mem.del (.s .z)) (.c (hs.mem.del (.s .z)) (.c (hs.mem.del (.s (.s .z))) .n))))) (by kernel_rfl) (by kernel_rfl) (by kernel_rfl) ?_; clear hs a; intro a hs
   refine st_add_u8 (X := ea.g) (Y := 1#8) hs rfl rfl rfl (by decide) rfl ?_; clear hs w a; intro a w hs
   refine st_build (it := Try.t47) (zs := [.int .i64 (0), .int .i64 (0), .int .i64 (0), .int .i64 (0), .int .i64 (0), .int .i64 (0), .int .i64 (0), .int .u16 (0), .int .u8 (0)]) (places := [(0, 1), (1, 3), (4, 3), (7, 1), (8, 1)]) hs (.c rfl (.c rfl (.c rfl (.c rfl (.c rfl .n))))) Try.underlying47 rfl rfl rfl rfl (.c rfl rfl (.z (.c .n)) (.c rfl rfl (.s (.z (.c (.c (.c .n))))) (.c rfl rfl (.s (.s (.s (.s (.z (.c (.c (.c .n)))))))) (.c rfl rfl (.s (.s (.s (.s (.s (.s (.s (.z (.c .n))))))))) (.c rfl rfl (.s (.s (.s (.s (.s (.s (.s (.s (.z (.c .n)))))))))) .n))))) rfl ?_; clear hs w a; intro a w hs
   refine st_stBA hs rfl rfl .z (.z (.c (.c (.c (.c (.c (.c (.c (.c (.c .n)))))))))) (ones_c rfl (ones_c rfl (ones_c rfl (ones_c rfl (ones_c rfl (ones_c rfl (ones_c rfl (ones_c rfl (ones_c rfl ones_n))))))))) Try.sizeOf47 rfl ?_; clear hs w a; intro a w hs
   refine st_as hs rfl rfl ?_; clear hs w a; intro a w hs
   refine wpList_nil ?_
   refine then_n (hK34 _ _ ?_)
   refine wp_ret ?_
   refine th_r ?_
   exact finC2 hs rfl rfl rfl .z (.z (.c (.c (.c (.c (.c (.c (.c (.c (.c .n)))))))))) Try.isAgg47 Try.sizeOf47 (.c .z (.c .z (.c .z .n))) (by first | (rw [entApply_chk (by omega)]; exact ⟨rfl, rfl⟩) | (rw [entApply_no (by omega) (by omega)]; exact ⟨rfl, rfl⟩) | (rw [entApply_tel (by omega) (by omega) (by omega)]; exact ⟨rfl, rfl⟩) | (rw [entApply_upd (by omega) (by omega) (by omega)]; exact ⟨rfl, rfl⟩))
  replace hc32 := ne_of_beq_f hc32
  refine wp_skip ?_
  refine then_n (hK29 _ _ ?_)
  refine wp_seq_k fun K35 hK36 => ?_
  refine wp_seq_k fun K37 hK38 => ?_
  refine wp_region_lit ?_
  refine st_as hs rfl rfl ?_; clear hs w a; intro a w hs
  refine wpList_nil ?_
  refine then_n (hK38 _ _ ?_)
  refine wp_block ?_
  refine wp_loop_rounds 4 ?_
  refine rounds_in ?_
  refine wp_seq_k fun K39 hK40 => ?_
  refine wp_seq_k fun K41 hK42 => ?_
  refine wp_region_lit ?_
  refine st_run 2 [(46, .bool (true)), (45, .int .i64 (0))] hs .n (by kernel_rfl) (by kernel_rfl) (by kernel_rfl) ?_; clear hs a; intro a hs
  refine wpList_nil ?_
  refine then_n (hK42 _ _ ?_)
  refine wp_cond_true (hs.ev rfl) ?_
  refine wp_skip ?_
  refine then_n (hK40 _ _ ?_)
  refine wp_seq_k fun K43 hK44 => ?_
  refine wp_block ?_
  refine wp_seq_k fun K45 hK46 => ?_
  replace hs := hs.sub (F' := [(46, .bool (true)), (45, .int .i64 (0)), (7, .int .i64 (0)), (5, .int .i64 (0)), (4, .pointer (some ⟨g5, 0, none⟩)), (3, .pointer (some ⟨g4, 0, none⟩)), (2, .pointer (some ⟨g3, 0, none⟩))]) (.c rfl (.c rfl (.c rfl (.c rfl (.c rfl (.c rfl (.c rfl .n)))))))
  refine wp_drawG (M0 := [blk g5 [.int .i64 (0), .int .i64 (0), .int .i64 (0), .int .i64 (0), .int .i64 (0), .int .i64 (0), .int .i64 (0), .int .u16 (0), .int .u8 (0)] 47, blk g4 [.int .i64 (r.k), .int .i64 (r.id), .int .i64 (r.p0), .int .i64 (r.p1), .int .i64 (r.p2), .int .i64 (r.v0), .int .i64 (r.v1), .int .i64 (r.v2), .int .u16 ((((r.a).toNat : Nat) : Int))] 45]) (Ds := [Pv 0 (.int .i64 (0)), Pv 1 (.pointer (some ⟨g3, 1, none⟩)), Pv 2 (.pointer (some ⟨g3, 1, none⟩)), Pv 3 (.int .i64 (ea.p0)), Pv 4 (.int .i64 (0)), Pv 5 (.pointer (some ⟨g4, 2, none⟩)), Pv 6 (.pointer (some ⟨g4, 2, none⟩)), Pv 7 (.int .i64 (r.p0)), Pv 8 (.int .i64 (IntKind.i64.wrap (ea.p0 + r.p0))), Pv 9 (.pointer (some ⟨g3, 1, none⟩)), Pv 10 (.pointer (some ⟨g3, 1, none⟩)), ⟨[blk g3 [.int .i64 (ea.id), .int .i64 (ea.p0), .int .i64 (ea.p1), .int .i64 (ea.p2), .int .i64 (ea.v0), .int .i64 (ea.v1), .int .i64 (ea.v2), .int .u16 ((((ea.a).toNat : Nat) : Int)), .int .u8 ((((ea.g).toNat : Nat) : Int))] 47], [], [], fun vs47 => True, fun vs47 => [blk g3 [.int .i64 (ea.id), .int .i64 (IntKind.i64.wrap (ea.p0 + r.p0)), .int .i64 (ea.p1), .int .i64 (ea.p2), .int .i64 (ea.v0), .int .i64 (ea.v1), .int .i64 (ea.v2), .int .u16 ((((ea.a).toNat : Nat) : Int)), .int .u8 ((((ea.g).toNat : Nat) : Int))] 47], none⟩]) (by kernel_rfl) hs rfl (.c (.s (.s .z)) .n) (by kernel_rfl) (by kernel_rfl) (by kernel_rfl) ?_ ?_
  ·
   refine (.c ?_ (.c ?_ (.c ?_ (.c ?_ (.c ?_ (.c ?_ (.c ?_ (.c ?_ (.c ?_ (.c ?_ (.c ?_ (.c ?_ .n))))))))))))
   · exact trip_pv (m := 12) .n (fun hm0 hm hx => .n) (by kernel_rfl) (by kernel_rfl) rfl
   · exact trip_pv (m := 12) .n (fun hm0 hm hx => .n) (by kernel_rfl) (by kernel_rfl) rfl
   · exact trip_pv (m := 12) (.c (k := 0) (by kernel_rfl) rfl rfl (.c (k := 1) (by kernel_rfl) rfl rfl .n)) (fun hm0 hm hx => .n) (by kernel_rfl) (by kernel_rfl) rfl
   · exact trip_pv (m := 12) (.c (k := 2) (by kernel_rfl) rfl rfl .n) (fun hm0 hm hx => (.c (hm.own (List.mem_append.2 (.inr ((hx 11 (twB_spec 12 _ (by kernel_rfl))).1 _ (List.Mem.head _))))))) (by kernel_rfl) (by kernel_rfl) rfl
   · exact trip_pv (m := 12) .n (fun hm0 hm hx => .n) (by kernel_rfl) (by kernel_rfl) rfl
   · exact trip_pv (m := 12) .n (fun hm0 hm hx => .n) (by kernel_rfl) (by kernel_rfl) rfl
   · exact trip_pv (m := 12) (.c (k := 4) (by kernel_rfl) rfl rfl (.c (k := 5) (by kernel_rfl) rfl rfl .n)) (fun hm0 hm hx => .n) (by kernel_rfl) (by kernel_rfl) rfl
   · exact trip_pv (m := 12) (.c (k := 6) (by kernel_rfl) rfl rfl .n) (fun hm0 hm hx => (.c (hm0.del (.s .z)))) (by kernel_rfl) (by kernel_rfl) rfl
   ·
    intro a_ w_ R_ rest_ vs47 hm hs ht hx
    have hm0 := hm.mid
    replace hs := hs.lrn (ht 3 (twB_spec 12 _ (by kernel_rfl))) rfl rfl
    replace hs := hs.lrn (ht 7 (twB_spec 12 _ (by kernel_rfl))) rfl rfl
    have hs0 := hs.bare
    refine st_add hs rfl rfl rfl ?_; clear hs; intro a w hs
    exact wpList_nil ⟨rfl, _, _, hs0, (.c (.c .r)), hs, rfl⟩
   · exact trip_pv (m := 12) .n (fun hm0 hm hx => .n) (by kernel_rfl) (by kernel_rfl) rfl
   · exact trip_pv (m := 12) (.c (k := 0) (by kernel_rfl) rfl rfl (.c (k := 9) (by kernel_rfl) rfl rfl .n)) (fun hm0 hm hx => .n) (by kernel_rfl) (by kernel_rfl) rfl
   intro a_ w_ R_ rest_ vs47 hm hs ht hx
   replace hs : St _ _ _ (feet [blk g3 [.int .i64 (ea.id), .int .i64 (ea.p0), .int .i64 (ea.p1), .int .i64 (ea.p2), .int .i64 (ea.v0), .int .i64 (ea.v1), .int .i64 (ea.v2), .int .u16 ((((ea.a).toNat : Nat) : Int)), .int .u8 ((((ea.g).toNat : Nat) : Int))] 47]) [blk g3 [.int .i64 (ea.id), .int .i64 (ea.p0), .int .i64 (ea.p1), .int .i64 (ea.p2), .int .i64 (ea.v0), .int .i64 (ea.v1), .int .i64 (ea.v2), .int .u16 ((((ea.a).toNat : Nat) : Int)), .int .u8 ((((ea.g).toNat : Nat) : Int))] 47] _ _ := hs
   have hm0 := hm.mid
   replace hs := hs.lrn (ht 8 (twB_spec 12 _ (by kernel_rfl))) rfl rfl
   replace hs := hs.lrn (ht 10 (twB_spec 12 _ (by kernel_rfl))) rfl rfl
   have hs0 := hs.bare
   refine st_stB hs rfl rfl .z (.s .z) rfl Try.sizeOf2 ?_; clear hs; intro a w hs
   exact wpList_nil ⟨rfl, .tuple #[], _, hs0, (.c (.c .r)), hs, trivial⟩
  clear hs w a; intro a w vs47 hs hf
  replace hs : St _ _ _ _ [blk g5 [.int .i64 (0), .int .i64 (0), .int .i64 (0), .int .i64 (0), .int .i64 (0), .int .i64 (0), .int .i64 (0), .int .u16 (0), .int .u8 (0)] 47, blk g4 [.int .i64 (r.k), .int .i64 (r.id), .int .i64 (r.p0), .int .i64 (r.p1), .int .i64 (r.p2), .int .i64 (r.v0), .int .i64 (r.v1), .int .i64 (r.v2), .int .u16 ((((r.a).toNat : Nat) : Int))] 45, blk g3 [.int .i64 (ea.id), .int .i64 (IntKind.i64.wrap (ea.p0 + r.p0)), .int .i64 (ea.p1), .int .i64 (ea.p2), .int .i64 (ea.v0), .int .i64 (ea.v1), .int .i64 (ea.v2), .int .u16 ((((ea.a).toNat : Nat) : Int)), .int .u8 ((((ea.g).toNat : Nat) : Int))] 47] _ _ := hs
  clear hf
  refine then_n (hK46 _ _ ?_)
  replace hs := hs.sub (F' := [(46, .bool (true)), (45, .int .i64 (0)), (7, .int .i64 (0)), (5, .int .i64 (0)), (4, .pointer (some ⟨g5, 0, none⟩)), (3, .pointer (some ⟨g4, 0, none⟩)), (2, .pointer (some ⟨g3, 0, none⟩))]) (.c rfl (.c rfl (.c rfl (.c rfl (.c rfl (.c rfl (.c rfl .n)))))))
  refine wp_drawG (M0 := [blk g5 [.int .i64 (0), .int .i64 (0), .int .i64 (0), .int .i64 (0), .int .i64 (0), .int .i64 (0), .int .i64 (0), .int .u16 (0), .int .u8 (0)] 47, blk g4 [.int .i64 (r.k), .int .i64 (r.id), .int .i64 (r.p0), .int .i64 (r.p1), .int .i64 (r.p2), .int .i64 (r.v0), .int .i64 (r.v1), .int .i64 (r.v2), .int .u16 ((((r.a).toNat : Nat) : Int))] 45]) (Ds := [Pv 0 (.int .i64 (0)), Pv 1 (.pointer (some ⟨g3, 4, none⟩)), Pv 2 (.pointer (some ⟨g3, 4, none⟩)), Pv 3 (.int .i64 (ea.v0)), Pv 4 (.int .i64 (0)), Pv 5 (.pointer (some ⟨g4, 5, none⟩)), Pv 6 (.pointer (some ⟨g4, 5, none⟩)), Pv 7 (.int .i64 (r.v0)), Pv 8 (.int .i64 (IntKind.i64.wrap (ea.v0 + r.v0))), Pv 9 (.pointer (some ⟨g3, 4, none⟩)), Pv 10 (.pointer (some ⟨g3, 4, none⟩)), ⟨[blk g3 [.int .i64 (ea.id), .int .i64 (IntKind.i64.wrap (ea.p0 + r.p0)), .int .i64 (ea.p1), .int .i64 (ea.p2), .int .i64 (ea.v0), .int .i64 (ea.v1), .int .i64 (ea.v2), .int .u16 ((((ea.a).toNat : Nat) : Int)), .int .u8 ((((ea.g).toNat : Nat) : Int))] 47], [], [], fun vs48 => True, fun vs48 => [blk g3 [.int .i64 (ea.id), .int .i64 (IntKind.i64.wrap (ea.p0 + r.p0)), .int .i64 (ea.p1), .int .i64 (ea.p2), .int .i64 (IntKind.i64.wrap (ea.v0 + r.v0)), .int .i64 (ea.v1), .int .i64 (ea.v2), .int .u16 ((((ea.a).toNat : Nat) : Int)), .int .u8 ((((ea.g).toNat : Nat) : Int))] 47], none⟩]) (by kernel_rfl) hs rfl (.c (.s (.s .z)) .n) (by kernel_rfl) (by kernel_rfl) (by kernel_rfl) ?_ ?_
  ·
   refine (.c ?_ (.c ?_ (.c ?_ (.c ?_ (.c ?_ (.c ?_ (.c ?_ (.c ?_ (.c ?_ (.c ?_ (.c ?_ (.c ?_ .n))))))))))))
   · exact trip_pv (m := 12) .n (fun hm0 hm hx => .n) (by kernel_rfl) (by kernel_rfl) rfl
   · exact trip_pv (m := 12) .n (fun hm0 hm hx => .n) (by kernel_rfl) (by kernel_rfl) rfl
   · exact trip_pv (m := 12) (.c (k := 0) (by kernel_rfl) rfl rfl (.c (k := 1) (by kernel_rfl) rfl rfl .n)) (fun hm0 hm hx => .n) (by kernel_rfl) (by kernel_rfl) rfl
   · exact trip_pv (m := 12) (.c (k := 2) (by kernel_rfl) rfl rfl .n) (fun hm0 hm hx => (.c (hm.own (List.mem_append.2 (.inr ((hx 11 (twB_spec 12 _ (by kernel_rfl))).1 _ (List.Mem.head _))))))) (by kernel_rfl) (by kernel_rfl) rfl
   · exact trip_pv (m := 12) .n (fun hm0 hm hx => .n) (by kernel_rfl) (by kernel_rfl) rfl
   · exact trip_pv (m := 12) .n (fun hm0 hm hx => .n) (by kernel_rfl) (by kernel_rfl) rfl
   · exact trip_pv (m := 12) (.c (k := 4) (by kernel_rfl) rfl rfl (.c (k := 5) (by kernel_rfl) rfl rfl .n)) (fun hm0 hm hx => .n) (by kernel_rfl) (by kernel_rfl) rfl
   · exact trip_pv (m := 12) (.c (k := 6) (by kernel_rfl) rfl rfl .n) (fun hm0 hm hx => (.c (hm0.del (.s .z)))) (by kernel_rfl) (by kernel_rfl) rfl
   ·
    intro a_ w_ R_ rest_ vs48 hm hs ht hx
    have hm0 := hm.mid
    replace hs := hs.lrn (ht 3 (twB_spec 12 _ (by kernel_rfl))) rfl rfl
    replace hs := hs.lrn (ht 7 (twB_spec 12 _ (by kernel_rfl))) rfl rfl
    have hs0 := hs.bare
    refine st_add hs rfl rfl rfl ?_; clear hs; intro a w hs
    exact wpList_nil ⟨rfl, _, _, hs0, (.c (.c .r)), hs, rfl⟩
   · exact trip_pv (m := 12) .n (fun hm0 hm hx => .n) (by kernel_rfl) (by kernel_rfl) rfl
   · exact trip_pv (m := 12) (.c (k := 0) (by kernel_rfl) rfl rfl (.c (k := 9) (by kernel_rfl) rfl rfl .n)) (fun hm0 hm hx => .n) (by kernel_rfl) (by kernel_rfl) rfl
   intro a_ w_ R_ rest_ vs48 hm hs ht hx
   replace hs : St _ _ _ (feet [blk g3 [.int .i64 (ea.id), .int .i64 (IntKind.i64.wrap (ea.p0 + r.p0)), .int .i64 (ea.p1), .int .i64 (ea.p2), .int .i64 (ea.v0), .int .i64 (ea.v1), .int .i64 (ea.v2), .int .u16 ((((ea.a).toNat : Nat) : Int)), .int .u8 ((((ea.g).toNat : Nat) : Int))] 47]) [blk g3 [.int .i64 (ea.id), .int .i64 (IntKind.i64.wrap (ea.p0 + r.p0)), .int .i64 (ea.p1), .int .i64 (ea.p2), .int .i64 (ea.v0), .int .i64 (ea.v1), .int .i64 (ea.v2), .int .u16 ((((ea.a).toNat : Nat) : Int)), .int .u8 ((((ea.g).toNat : Nat) : Int))] 47] _ _ := hs
   have hm0 := hm.mid
   replace hs := hs.lrn (ht 8 (twB_spec 12 _ (by kernel_rfl))) rfl rfl
   replace hs := hs.lrn (ht 10 (twB_spec 12 _ (by kernel_rfl))) rfl rfl
   have hs0 := hs.bare
   refine st_stB hs rfl rfl .z (.s (.s (.s (.s .z)))) rfl Try.sizeOf2 ?_; clear hs; intro a w hs
   exact wpList_nil ⟨rfl, .tuple #[], _, hs0, (.c (.c .r)), hs, trivial⟩
  clear hs w a; intro a w vs48 hs hf
  replace hs : St _ _ _ _ [blk g5 [.int .i64 (0), .int .i64 (0), .int .i64 (0), .int .i64 (0), .int .i64 (0), .int .i64 (0), .int .i64 (0), .int .u16 (0), .int .u8 (0)] 47, blk g4 [.int .i64 (r.k), .int .i64 (r.id), .int .i64 (r.p0), .int .i64 (r.p1), .int .i64 (r.p2), .int .i64 (r.v0), .int .i64 (r.v1), .int .i64 (r.v2), .int .u16 ((((r.a).toNat : Nat) : Int))] 45, blk g3 [.int .i64 (ea.id), .int .i64 (IntKind.i64.wrap (ea.p0 + r.p0)), .int .i64 (ea.p1), .int .i64 (ea.p2), .int .i64 (IntKind.i64.wrap (ea.v0 + r.v0)), .int .i64 (ea.v1), .int .i64 (ea.v2), .int .u16 ((((ea.a).toNat : Nat) : Int)), .int .u8 ((((ea.g).toNat : Nat) : Int))] 47] _ _ := hs
  clear hf
  refine in_n ?_
  refine then_n (hK44 _ _ ?_)
  refine wp_region_lit ?_
  refine st_run 3 [(7, .int .i64 (1)), (48, .int .i64 (1)), (47, .int .i64 (0))] hs .n (by kernel_rfl) (by kernel_rfl) (by kernel_rfl) ?_; clear hs a; intro a hs
  refine wpList_nil ?_
  refine then_n ?_
  refine rounds_in ?_
  refine wp_seq_k fun K49 hK50 => ?_
  refine wp_seq_k fun K51 hK52 => ?_
  refine wp_region_lit ?_
  refine st_run 2 [(46, .bool (true)), (45, .int .i64 (1))] hs .n (by kernel_rfl) (by kernel_rfl) (by kernel_rfl) ?_; clear hs a; intro a hs
  refine wpList_nil ?_
  refine then_n (hK52 _ _ ?_)
  refine wp_cond_true (hs.ev rfl) ?_
  refine wp_skip ?_
  refine then_n (hK50 _ _ ?_)
  refine wp_seq_k fun K53 hK54 => ?_
  refine wp_block ?_
  refine wp_seq_k fun K55 hK56 => ?_
  replace hs := hs.sub (F' := [(46, .bool (true)), (45, .int .i64 (1)), (7, .int .i64 (1)), (48, .int .i64 (1)), (47, .int .i64 (0)), (5, .int .i64 (0)), (4, .pointer (some ⟨g5, 0, none⟩)), (3, .pointer (some ⟨g4, 0, none⟩)), (2, .pointer (some ⟨g3, 0, none⟩))]) (.c rfl (.c rfl (.c rfl (.c rfl (.c rfl (.c rfl (.c rfl (.c rfl (.c rfl .n)))))))))
  refine wp_drawG (M0 := [blk g5 [.int .i64 (0), .int .i64 (0), .int .i64 (0), .int .i64 (0), .int .i64 (0), .int .i64 (0), .int .i64 (0), .int .u16 (0), .int .u8 (0)] 47, blk g4 [.int .i64 (r.k), .int .i64 (r.id), .int .i64 (r.p0), .int .i64 (r.p1), .int .i64 (r.p2), .int .i64 (r.v0), .int .i64 (r.v1), .int .i64 (r.v2), .int .u16 ((((r.a).toNat : Nat) : Int))] 45]) (Ds := [Pv 0 (.int .i64 (1)), Pv 1 (.pointer (some ⟨g3, 1, none⟩)), Pv 2 (.pointer (some ⟨g3, 2, none⟩)), Pv 3 (.int .i64 (ea.p1)), Pv 4 (.int .i64 (1)), Pv 5 (.pointer (some ⟨g4, 2, none⟩)), Pv 6 (.pointer (some ⟨g4, 3, none⟩)), Pv 7 (.int .i64 (r.p1)), Pv 8 (.int .i64 (IntKind.i64.wrap (ea.p1 + r.p1))), Pv 9 (.pointer (some ⟨g3, 1, none⟩)), Pv 10 (.pointer (some ⟨g3, 2, none⟩)), ⟨[blk g3 [.int .i64 (ea.id), .int .i64 (IntKind.i64.wrap (ea.p0 + r.p0)), .int .i64 (ea.p1), .int .i64 (ea.p2), .int .i64 (IntKind.i64.wrap (ea.v0 + r.v0)), .int .i64 (ea.v1), .int .i64 (ea.v2), .int .u16 ((((ea.a).toNat : Nat) : Int)), .int .u8 ((((ea.g).toNat : Nat) : Int))] 47], [], [], fun vs57 => True, fun vs57 => [blk g3 [.int .i64 (ea.id), .int .i64 (IntKind.i64.wrap (ea.p0 + r.p0)), .int .i64 (IntKind.i64.wrap (ea.p1 + r.p1)), .int .i64 (ea.p2), .int .i64 (IntKind.i64.wrap (ea.v0 + r.v0)), .int .i64 (ea.v1), .int .i64 (ea.v2), .int .u16 ((((ea.a).toNat : Nat) : Int)), .int .u8 ((((ea.g).toNat : Nat) : Int))] 47], none⟩]) (by kernel_rfl) hs rfl (.c (.s (.s .z)) .n) (by kernel_rfl) (by kernel_rfl) (by kernel_rfl) ?_ ?_
  ·
   refine (.c ?_ (.c ?_ (.c ?_ (.c ?_ (.c ?_ (.c ?_ (.c ?_ (.c ?_ (.c ?_ (.c ?_ (.c ?_ (.c ?_ .n))))))))))))
   · exact trip_pv (m := 12) .n (fun hm0 hm hx => .n) (by kernel_rfl) (by kernel_rfl) rfl
   · exact trip_pv (m := 12) .n (fun hm0 hm hx => .n) (by kernel_rfl) (by kernel_rfl) rfl
   · exact trip_pv (m := 12) (.c (k := 0) (by kernel_rfl) rfl rfl (.c (k := 1) (by kernel_rfl) rfl rfl .n)) (fun hm0 hm hx => .n) (by kernel_rfl) (by kernel_rfl) rfl
   · exact trip_pv (m := 12) (.c (k := 2) (by kernel_rfl) rfl rfl .n) (fun hm0 hm hx => (.c (hm.own (List.mem_append.2 (.inr ((hx 11 (twB_spec 12 _ (by kernel_rfl))).1 _ (List.Mem.head _))))))) (by kernel_rfl) (by kernel_rfl) rfl
   · exact trip_pv (m := 12) .n (fun hm0 hm hx => .n) (by kernel_rfl) (by kernel_rfl) rfl
   · exact trip_pv (m := 12) .n (fun hm0 hm hx => .n) (by kernel_rfl) (by kernel_rfl) rfl
   · exact trip_pv (m := 12) (.c (k := 4) (by kernel_rfl) rfl rfl (.c (k := 5) (by kernel_rfl) rfl rfl .n)) (fun hm0 hm hx => .n) (by kernel_rfl) (by kernel_rfl) rfl
   · exact trip_pv (m := 12) (.c (k := 6) (by kernel_rfl) rfl rfl .n) (fun hm0 hm hx => (.c (hm0.del (.s .z)))) (by kernel_rfl) (by kernel_rfl) rfl
   ·
    intro a_ w_ R_ rest_ vs57 hm hs ht hx
    have hm0 := hm.mid
    replace hs := hs.lrn (ht 3 (twB_spec 12 _ (by kernel_rfl))) rfl rfl
    replace hs := hs.lrn (ht 7 (twB_spec 12 _ (by kernel_rfl))) rfl rfl
    have hs0 := hs.bare
    refine st_add hs rfl rfl rfl ?_; clear hs; intro a w hs
    exact wpList_nil ⟨rfl, _, _, hs0, (.c (.c .r)), hs, rfl⟩
   · exact trip_pv (m := 12) .n (fun hm0 hm hx => .n) (by kernel_rfl) (by kernel_rfl) rfl
   · exact trip_pv (m := 12) (.c (k := 0) (by kernel_rfl) rfl rfl (.c (k := 9) (by kernel_rfl) rfl rfl .n)) (fun hm0 hm hx => .n) (by kernel_rfl) (by kernel_rfl) rfl
   intro a_ w_ R_ rest_ vs57 hm hs ht hx
   replace hs : St _ _ _ (feet [blk g3 [.int .i64 (ea.id), .int .i64 (IntKind.i64.wrap (ea.p0 + r.p0)), .int .i64 (ea.p1), .int .i64 (ea.p2), .int .i64 (IntKind.i64.wrap (ea.v0 + r.v0)), .int .i64 (ea.v1), .int .i64 (ea.v2), .int .u16 ((((ea.a).toNat : Nat) : Int)), .int .u8 ((((ea.g).toNat : Nat) : Int))] 47]) [blk g3 [.int .i64 (ea.id), .int .i64 (IntKind.i64.wrap (ea.p0 + r.p0)), .int .i64 (ea.p1), .int .i64 (ea.p2), .int .i64 (IntKind.i64.wrap (ea.v0 + r.v0)), .int .i64 (ea.v1), .int .i64 (ea.v2), .int .u16 ((((ea.a).toNat : Nat) : Int)), .int .u8 ((((ea.g).toNat : Nat) : Int))] 47] _ _ := hs
   have hm0 := hm.mid
   replace hs := hs.lrn (ht 8 (twB_spec 12 _ (by kernel_rfl))) rfl rfl
   replace hs := hs.lrn (ht 10 (twB_spec 12 _ (by kernel_rfl))) rfl rfl
   have hs0 := hs.bare
   refine st_stB hs rfl rfl .z (.s (.s .z)) rfl Try.sizeOf2 ?_; clear hs; intro a w hs
   exact wpList_nil ⟨rfl, .tuple #[], _, hs0, (.c (.c .r)), hs, trivial⟩
  clear hs w a; intro a w vs57 hs hf
  replace hs : St _ _ _ _ [blk g5 [.int .i64 (0), .int .i64 (0), .int .i64 (0), .int .i64 (0), .int .i64 (0), .int .i64 (0), .int .i64 (0), .int .u16 (0), .int .u8 (0)] 47, blk g4 [.int .i64 (r.k), .int .i64 (r.id), .int .i64 (r.p0), .int .i64 (r.p1), .int .i64 (r.p2), .int .i64 (r.v0), .int .i64 (r.v1), .int .i64 (r.v2), .int .u16 ((((r.a).toNat : Nat) : Int))] 45, blk g3 [.int .i64 (ea.id), .int .i64 (IntKind.i64.wrap (ea.p0 + r.p0)), .int .i64 (IntKind.i64.wrap (ea.p1 + r.p1)), .int .i64 (ea.p2), .int .i64 (IntKind.i64.wrap (ea.v0 + r.v0)), .int .i64 (ea.v1), .int .i64 (ea.v2), .int .u16 ((((ea.a).toNat : Nat) : Int)), .int .u8 ((((ea.g).toNat : Nat) : Int))] 47] _ _ := hs
  clear hf
  refine then_n (hK56 _ _ ?_)
  replace hs := hs.sub (F' := [(46, .bool (true)), (45, .int .i64 (1)), (7, .int .i64 (1)), (48, .int .i64 (1)), (47, .int .i64 (0)), (5, .int .i64 (0)), (4, .pointer (some ⟨g5, 0, none⟩)), (3, .pointer (some ⟨g4, 0, none⟩)), (2, .pointer (some ⟨g3, 0, none⟩))]) (.c rfl (.c rfl (.c rfl (.c rfl (.c rfl (.c rfl (.c rfl (.c rfl (.c rfl .n)))))))))
  refine wp_drawG (M0 := [blk g5 [.int .i64 (0), .int .i64 (0), .int .i64 (0), .int .i64 (0), .int .i64 (0), .int .i64 (0), .int .i64 (0), .int .u16 (0), .int .u8 (0)] 47, blk g4 [.int .i64 (r.k), .int .i64 (r.id), .int .i64 (r.p0), .int .i64 (r.p1), .int .i64 (r.p2), .int .i64 (r.v0), .int .i64 (r.v1), .int .i64 (r.v2), .int .u16 ((((r.a).toNat : Nat) : Int))] 45]) (Ds := [Pv 0 (.int .i64 (1)), Pv 1 (.pointer (some ⟨g3, 4, none⟩)), Pv 2 (.pointer (some ⟨g3, 5, none⟩)), Pv 3 (.int .i64 (ea.v1)), Pv 4 (.int .i64 (1)), Pv 5 (.pointer (some ⟨g4, 5, none⟩)), Pv 6 (.pointer (some ⟨g4, 6, none⟩)), Pv 7 (.int .i64 (r.v1)), Pv 8 (.int .i64 (IntKind.i64.wrap (ea.v1 + r.v1))), Pv 9 (.pointer (some ⟨g3, 4, none⟩)), Pv 10 (.pointer (some ⟨g3, 5, none⟩)), ⟨[blk g3 [.int .i64 (ea.id), .int .i64 (IntKind.i64.wrap (ea.p0 + r.p0)), .int .i64 (IntKind.i64.wrap (ea.p1 + r.p1)), .int .i64 (ea.p2), .int .i64 (IntKind.i64.wrap (ea.v0 + r.v0)), .int .i64 (ea.v1), .int .i64 (ea.v2), .int .u16 ((((ea.a).toNat : Nat) : Int)), .int .u8 ((((ea.g).toNat : Nat) : Int))] 47], [], [], fun vs58 => True, fun vs58 => [blk g3 [.int .i64 (ea.id), .int .i64 (IntKind.i64.wrap (ea.p0 + r.p0)), .int .i64 (IntKind.i64.wrap (ea.p1 + r.p1)), .int .i64 (ea.p2), .int .i64 (IntKind.i64.wrap (ea.v0 + r.v0)), .int .i64 (IntKind.i64.wrap (ea.v1 + r.v1)), .int .i64 (ea.v2), .int .u16 ((((ea.a).toNat : Nat) : Int)), .int .u8 ((((ea.g).toNat : Nat) : Int))] 47], none⟩]) (by kernel_rfl) hs rfl (.c (.s (.s .z)) .n) (by kernel_rfl) (by kernel_rfl) (by kernel_rfl) ?_ ?_
  ·
   refine (.c ?_ (.c ?_ (.c ?_ (.c ?_ (.c ?_ (.c ?_ (.c ?_ (.c ?_ (.c ?_ (.c ?_ (.c ?_ (.c ?_ .n))))))))))))
   · exact trip_pv (m := 12) .n (fun hm0 hm hx => .n) (by kernel_rfl) (by kernel_rfl) rfl
   · exact trip_pv (m := 12) .n (fun hm0 hm hx => .n) (by kernel_rfl) (by kernel_rfl) rfl
   · exact trip_pv (m := 12) (.c (k := 0) (by kernel_rfl) rfl rfl (.c (k := 1) (by kernel_rfl) rfl rfl .n)) (fun hm0 hm hx => .n) (by kernel_rfl) (by kernel_rfl) rfl
   · exact trip_pv (m := 12) (.c (k := 2) (by kernel_rfl) rfl rfl .n) (fun hm0 hm hx => (.c (hm.own (List.mem_append.2 (.inr ((hx 11 (twB_spec 12 _ (by kernel_rfl))).1 _ (List.Mem.head _))))))) (by kernel_rfl) (by kernel_rfl) rfl
   · exact trip_pv (m := 12) .n (fun hm0 hm hx => .n) (by kernel_rfl) (by kernel_rfl) rfl
   · exact trip_pv (m := 12) .n (fun hm0 hm hx => .n) (by kernel_rfl) (by kernel_rfl) rfl
   · exact trip_pv (m := 12) (.c (k := 4) (by kernel_rfl) rfl rfl (.c (k := 5) (by kernel_rfl) rfl rfl .n)) (fun hm0 hm hx => .n) (by kernel_rfl) (by kernel_rfl) rfl
   · exact trip_pv (m := 12) (.c (k := 6) (by kernel_rfl) rfl rfl .n) (fun hm0 hm hx => (.c (hm0.del (.s .z)))) (by kernel_rfl) (by kernel_rfl) rfl
   ·
    intro a_ w_ R_ rest_ vs58 hm hs ht hx
    have hm0 := hm.mid
    replace hs := hs.lrn (ht 3 (twB_spec 12 _ (by kernel_rfl))) rfl rfl
    replace hs := hs.lrn (ht 7 (twB_spec 12 _ (by kernel_rfl))) rfl rfl
    have hs0 := hs.bare
    refine st_add hs rfl rfl rfl ?_; clear hs; intro a w hs
    exact wpList_nil ⟨rfl, _, _, hs0, (.c (.c .r)), hs, rfl⟩
   · exact trip_pv (m := 12) .n (fun hm0 hm hx => .n) (by kernel_rfl) (by kernel_rfl) rfl
   · exact trip_pv (m := 12) (.c (k := 0) (by kernel_rfl) rfl rfl (.c (k := 9) (by kernel_rfl) rfl rfl .n)) (fun hm0 hm hx => .n) (by kernel_rfl) (by kernel_rfl) rfl
   intro a_ w_ R_ rest_ vs58 hm hs ht hx
   replace hs : St _ _ _ (feet [blk g3 [.int .i64 (ea.id), .int .i64 (IntKind.i64.wrap (ea.p0 + r.p0)), .int .i64 (IntKind.i64.wrap (ea.p1 + r.p1)), .int .i64 (ea.p2), .int .i64 (IntKind.i64.wrap (ea.v0 + r.v0)), .int .i64 (ea.v1), .int .i64 (ea.v2), .int .u16 ((((ea.a).toNat : Nat) : Int)), .int .u8 ((((ea.g).toNat : Nat) : Int))] 47]) [blk g3 [.int .i64 (ea.id), .int .i64 (IntKind.i64.wrap (ea.p0 + r.p0)), .int .i64 (IntKind.i64.wrap (ea.p1 + r.p1)), .int .i64 (ea.p2), .int .i64 (IntKind.i64.wrap (ea.v0 + r.v0)), .int .i64 (ea.v1), .int .i64 (ea.v2), .int .u16 ((((ea.a).toNat : Nat) : Int)), .int .u8 ((((ea.g).toNat : Nat) : Int))] 47] _ _ := hs
   have hm0 := hm.mid
   replace hs := hs.lrn (ht 8 (twB_spec 12 _ (by kernel_rfl))) rfl rfl
   replace hs := hs.lrn (ht 10 (twB_spec 12 _ (by kernel_rfl))) rfl rfl
   have hs0 := hs.bare
   refine st_stB hs rfl rfl .z (.s (.s (.s (.s (.s .z))))) rfl Try.sizeOf2 ?_; clear hs; intro a w hs
   exact wpList_nil ⟨rfl, .tuple #[], _, hs0, (.c (.c .r)), hs, trivial⟩
  clear hs w a; intro a w vs58 hs hf
  replace hs : St _ _ _ _ [blk g5 [.int .i64 (0), .int .i64 (0), .int .i64 (0), .int .i64 (0), .int .i64 (0), .int .i64 (0), .int .i64 (0), .int .u16 (0), .int .u8 (0)] 47, blk g4 [.int .i64 (r.k), .int .i64 (r.id), .int .i64 (r.p0), .int .i64 (r.p1), .int .i64 (r.p2), .int .i64 (r.v0), .int .i64 (r.v1), .int .i64 (r.v2), .int .u16 ((((r.a).toNat : Nat) : Int))] 45, blk g3 [.int .i64 (ea.id), .int .i64 (IntKind.i64.wrap (ea.p0 + r.p0)), .int .i64 (IntKind.i64.wrap (ea.p1 + r.p1)), .int .i64 (ea.p2), .int .i64 (IntKind.i64.wrap (ea.v0 + r.v0)), .int .i64 (IntKind.i64.wrap (ea.v1 + r.v1)), .int .i64 (ea.v2), .int .u16 ((((ea.a).toNat : Nat) : Int)), .int .u8 ((((ea.g).toNat : Nat) : Int))] 47] _ _ := hs
  clear hf
  refine in_n ?_
  refine then_n (hK54 _ _ ?_)
  refine wp_region_lit ?_
  refine st_run 3 [(7, .int .i64 (2)), (48, .int .i64 (2)), (47, .int .i64 (1))] hs .n (by kernel_rfl) (by kernel_rfl) (by kernel_rfl) ?_; clear hs a; intro a hs
  refine wpList_nil ?_
  refine then_n ?_
  refine rounds_in ?_
  refine wp_seq_k fun K59 hK60 => ?_
  refine wp_seq_k fun K61 hK62 => ?_
  refine wp_region_lit ?_
  refine st_run 2 [(46, .bool (true)), (45, .int .i64 (2))] hs .n (by kernel_rfl) (by kernel_rfl) (by kernel_rfl) ?_; clear hs a; intro a hs
  refine wpList_nil ?_
  refine then_n (hK62 _ _ ?_)
  refine wp_cond_true (hs.ev rfl) ?_
  refine wp_skip ?_
  refine then_n (hK60 _ _ ?_)
  refine wp_seq_k fun K63 hK64 => ?_
  refine wp_block ?_
  refine wp_seq_k fun K65 hK66 => ?_
  replace hs := hs.sub (F' := [(46, .bool (true)), (45, .int .i64 (2)), (7, .int .i64 (2)), (48, .int .i64 (2)), (47, .int .i64 (1)), (5, .int .i64 (0)), (4, .pointer (some ⟨g5, 0, none⟩)), (3, .pointer (some ⟨g4, 0, none⟩)), (2, .pointer (some ⟨g3, 0, none⟩))]) (.c rfl (.c rfl (.c rfl (.c rfl (.c rfl (.c rfl (.c rfl (.c rfl (.c rfl .n)))))))))
  refine wp_drawG (M0 := [blk g5 [.int .i64 (0), .int .i64 (0), .int .i64 (0), .int .i64 (0), .int .i64 (0), .int .i64 (0), .int .i64 (0), .int .u16 (0), .int .u8 (0)] 47, blk g4 [.int .i64 (r.k), .int .i64 (r.id), .int .i64 (r.p0), .int .i64 (r.p1), .int .i64 (r.p2), .int .i64 (r.v0), .int .i64 (r.v1), .int .i64 (r.v2), .int .u16 ((((r.a).toNat : Nat) : Int))] 45]) (Ds := [Pv 0 (.int .i64 (2)), Pv 1 (.pointer (some ⟨g3, 1, none⟩)), Pv 2 (.pointer (some ⟨g3, 3, none⟩)), Pv 3 (.int .i64 (ea.p2)), Pv 4 (.int .i64 (2)), Pv 5 (.pointer (some ⟨g4, 2, none⟩)), Pv 6 (.pointer (some ⟨g4, 4, none⟩)), Pv 7 (.int .i64 (r.p2)), Pv 8 (.int .i64 (IntKind.i64.wrap (ea.p2 + r.p2))), Pv 9 (.pointer (some ⟨g3, 1, none⟩)), Pv 10 (.pointer (some ⟨g3, 3, none⟩)), ⟨[blk g3 [.int .i64 (ea.id), .int .i64 (IntKind.i64.wrap (ea.p0 + r.p0)), .int .i64 (IntKind.i64.wrap (ea.p1 + r.p1)), .int .i64 (ea.p2), .int .i64 (IntKind.i64.wrap (ea.v0 + r.v0)), .int .i64 (IntKind.i64.wrap (ea.v1 + r.v1)), .int .i64 (ea.v2), .int .u16 ((((ea.a).toNat : Nat) : Int)), .int .u8 ((((ea.g).toNat : Nat) : Int))] 47], [], [], fun vs67 => True, fun vs67 => [blk g3 [.int .i64 (ea.id), .int .i64 (IntKind.i64.wrap (ea.p0 + r.p0)), .int .i64 (IntKind.i64.wrap (ea.p1 + r.p1)), .int .i64 (IntKind.i64.wrap (ea.p2 + r.p2)), .int .i64 (IntKind.i64.wrap (ea.v0 + r.v0)), .int .i64 (IntKind.i64.wrap (ea.v1 + r.v1)), .int .i64 (ea.v2), .int .u16 ((((ea.a).toNat : Nat) : Int)), .int .u8 ((((ea.g).toNat : Nat) : Int))] 47], none⟩]) (by kernel_rfl) hs rfl (.c (.s (.s .z)) .n) (by kernel_rfl) (by kernel_rfl) (by kernel_rfl) ?_ ?_
  ·
   refine (.c ?_ (.c ?_ (.c ?_ (.c ?_ (.c ?_ (.c ?_ (.c ?_ (.c ?_ (.c ?_ (.c ?_ (.c ?_ (.c ?_ .n))))))))))))
   · exact trip_pv (m := 12) .n (fun hm0 hm hx => .n) (by kernel_rfl) (by kernel_rfl) rfl
   · exact trip_pv (m := 12) .n (fun hm0 hm hx => .n) (by kernel_rfl) (by kernel_rfl) rfl
   · exact trip_pv (m := 12) (.c (k := 0) (by kernel_rfl) rfl rfl (.c (k := 1) (by kernel_rfl) rfl rfl .n)) (fun hm0 hm hx => .n) (by kernel_rfl) (by kernel_rfl) rfl
   · exact trip_pv (m := 12) (.c (k := 2) (by kernel_rfl) rfl rfl .n) (fun hm0 hm hx => (.c (hm.own (List.mem_append.2 (.inr ((hx 11 (twB_spec 12 _ (by kernel_rfl))).1 _ (List.Mem.head _))))))) (by kernel_rfl) (by kernel_rfl) rfl
   · exact trip_pv (m := 12) .n (fun hm0 hm hx => .n) (by kernel_rfl) (by kernel_rfl) rfl
   · exact trip_pv (m := 12) .n (fun hm0 hm hx => .n) (by kernel_rfl) (by kernel_rfl) rfl
   · exact trip_pv (m := 12) (.c (k := 4) (by kernel_rfl) rfl rfl (.c (k := 5) (by kernel_rfl) rfl rfl .n)) (fun hm0 hm hx => .n) (by kernel_rfl) (by kernel_rfl) rfl
   · exact trip_pv (m := 12) (.c (k := 6) (by kernel_rfl) rfl rfl .n) (fun hm0 hm hx => (.c (hm0.del (.s .z)))) (by kernel_rfl) (by kernel_rfl) rfl
   ·
    intro a_ w_ R_ rest_ vs67 hm hs ht hx
    have hm0 := hm.mid
    replace hs := hs.lrn (ht 3 (twB_spec 12 _ (by kernel_rfl))) rfl rfl
    replace hs := hs.lrn (ht 7 (twB_spec 12 _ (by kernel_rfl))) rfl rfl
    have hs0 := hs.bare
    refine st_add hs rfl rfl rfl ?_; clear hs; intro a w hs
    exact wpList_nil ⟨rfl, _, _, hs0, (.c (.c .r)), hs, rfl⟩
   · exact trip_pv (m := 12) .n (fun hm0 hm hx => .n) (by kernel_rfl) (by kernel_rfl) rfl
   · exact trip_pv (m := 12) (.c (k := 0) (by kernel_rfl) rfl rfl (.c (k := 9) (by kernel_rfl) rfl rfl .n)) (fun hm0 hm hx => .n) (by kernel_rfl) (by kernel_rfl) rfl
   intro a_ w_ R_ rest_ vs67 hm hs ht hx
   replace hs : St _ _ _ (feet [blk g3 [.int .i64 (ea.id), .int .i64 (IntKind.i64.wrap (ea.p0 + r.p0)), .int .i64 (IntKind.i64.wrap (ea.p1 + r.p1)), .int .i64 (ea.p2), .int .i64 (IntKind.i64.wrap (ea.v0 + r.v0)), .int .i64 (IntKind.i64.wrap (ea.v1 + r.v1)), .int .i64 (ea.v2), .int .u16 ((((ea.a).toNat : Nat) : Int)), .int .u8 ((((ea.g).toNat : Nat) : Int))] 47]) [blk g3 [.int .i64 (ea.id), .int .i64 (IntKind.i64.wrap (ea.p0 + r.p0)), .int .i64 (IntKind.i64.wrap (ea.p1 + r.p1)), .int .i64 (ea.p2), .int .i64 (IntKind.i64.wrap (ea.v0 + r.v0)), .int .i64 (IntKind.i64.wrap (ea.v1 + r.v1)), .int .i64 (ea.v2), .int .u16 ((((ea.a).toNat : Nat) : Int)), .int .u8 ((((ea.g).toNat : Nat) : Int))] 47] _ _ := hs
   have hm0 := hm.mid
   replace hs := hs.lrn (ht 8 (twB_spec 12 _ (by kernel_rfl))) rfl rfl
   replace hs := hs.lrn (ht 10 (twB_spec 12 _ (by kernel_rfl))) rfl rfl
   have hs0 := hs.bare
   refine st_stB hs rfl rfl .z (.s (.s (.s .z))) rfl Try.sizeOf2 ?_; clear hs; intro a w hs
   exact wpList_nil ⟨rfl, .tuple #[], _, hs0, (.c (.c .r)), hs, trivial⟩
  clear hs w a; intro a w vs67 hs hf
  replace hs : St _ _ _ _ [blk g5 [.int .i64 (0), .int .i64 (0), .int .i64 (0), .int .i64 (0), .int .i64 (0), .int .i64 (0), .int .i64 (0), .int .u16 (0), .int .u8 (0)] 47, blk g4 [.int .i64 (r.k), .int .i64 (r.id), .int .i64 (r.p0), .int .i64 (r.p1), .int .i64 (r.p2), .int .i64 (r.v0), .int .i64 (r.v1), .int .i64 (r.v2), .int .u16 ((((r.a).toNat : Nat) : Int))] 45, blk g3 [.int .i64 (ea.id), .int .i64 (IntKind.i64.wrap (ea.p0 + r.p0)), .int .i64 (IntKind.i64.wrap (ea.p1 + r.p1)), .int .i64 (IntKind.i64.wrap (ea.p2 + r.p2)), .int .i64 (IntKind.i64.wrap (ea.v0 + r.v0)), .int .i64 (IntKind.i64.wrap (ea.v1 + r.v1)), .int .i64 (ea.v2), .int .u16 ((((ea.a).toNat : Nat) : Int)), .int .u8 ((((ea.g).toNat : Nat) : Int))] 47] _ _ := hs
  clear hf
  refine then_n (hK66 _ _ ?_)
  replace hs := hs.sub (F' := [(46, .bool (true)), (45, .int .i64 (2)), (7, .int .i64 (2)), (48, .int .i64 (2)), (47, .int .i64 (1)), (5, .int .i64 (0)), (4, .pointer (some ⟨g5, 0, none⟩)), (3, .pointer (some ⟨g4, 0, none⟩)), (2, .pointer (some ⟨g3, 0, none⟩))]) (.c rfl (.c rfl (.c rfl (.c rfl (.c rfl (.c rfl (.c rfl (.c rfl (.c rfl .n)))))))))
  refine wp_drawG (M0 := [blk g5 [.int .i64 (0), .int .i64 (0), .int .i64 (0), .int .i64 (0), .int .i64 (0), .int .i64 (0), .int .i64 (0), .int .u16 (0), .int .u8 (0)] 47, blk g4 [.int .i64 (r.k), .int .i64 (r.id), .int .i64 (r.p0), .int .i64 (r.p1), .int .i64 (r.p2), .int .i64 (r.v0), .int .i64 (r.v1), .int .i64 (r.v2), .int .u16 ((((r.a).toNat : Nat) : Int))] 45]) (Ds := [Pv 0 (.int .i64 (2)), Pv 1 (.pointer (some ⟨g3, 4, none⟩)), Pv 2 (.pointer (some ⟨g3, 6, none⟩)), Pv 3 (.int .i64 (ea.v2)), Pv 4 (.int .i64 (2)), Pv 5 (.pointer (some ⟨g4, 5, none⟩)), Pv 6 (.pointer (some ⟨g4, 7, none⟩)), Pv 7 (.int .i64 (r.v2)), Pv 8 (.int .i64 (IntKind.i64.wrap (ea.v2 + r.v2))), Pv 9 (.pointer (some ⟨g3, 4, none⟩)), Pv 10 (.pointer (some ⟨g3, 6, none⟩)), ⟨[blk g3 [.int .i64 (ea.id), .int .i64 (IntKind.i64.wrap (ea.p0 + r.p0)), .int .i64 (IntKind.i64.wrap (ea.p1 + r.p1)), .int .i64 (IntKind.i64.wrap (ea.p2 + r.p2)), .int .i64 (IntKind.i64.wrap (ea.v0 + r.v0)), .int .i64 (IntKind.i64.wrap (ea.v1 + r.v1)), .int .i64 (ea.v2), .int .u16 ((((ea.a).toNat : Nat) : Int)), .int .u8 ((((ea.g).toNat : Nat) : Int))] 47], [], [], fun vs68 => True, fun vs68 => [blk g3 [.int .i64 (ea.id), .int .i64 (IntKind.i64.wrap (ea.p0 + r.p0)), .int .i64 (IntKind.i64.wrap (ea.p1 + r.p1)), .int .i64 (IntKind.i64.wrap (ea.p2 + r.p2)), .int .i64 (IntKind.i64.wrap (ea.v0 + r.v0)), .int .i64 (IntKind.i64.wrap (ea.v1 + r.v1)), .int .i64 (IntKind.i64.wrap (ea.v2 + r.v2)), .int .u16 ((((ea.a).toNat : Nat) : Int)), .int .u8 ((((ea.g).toNat : Nat) : Int))] 47], none⟩]) (by kernel_rfl) hs rfl (.c (.s (.s .z)) .n) (by kernel_rfl) (by kernel_rfl) (by kernel_rfl) ?_ ?_
  ·
   refine (.c ?_ (.c ?_ (.c ?_ (.c ?_ (.c ?_ (.c ?_ (.c ?_ (.c ?_ (.c ?_ (.c ?_ (.c ?_ (.c ?_ .n))))))))))))
   · exact trip_pv (m := 12) .n (fun hm0 hm hx => .n) (by kernel_rfl) (by kernel_rfl) rfl
   · exact trip_pv (m := 12) .n (fun hm0 hm hx => .n) (by kernel_rfl) (by kernel_rfl) rfl
   · exact trip_pv (m := 12) (.c (k := 0) (by kernel_rfl) rfl rfl (.c (k := 1) (by kernel_rfl) rfl rfl .n)) (fun hm0 hm hx => .n) (by kernel_rfl) (by kernel_rfl) rfl
   · exact trip_pv (m := 12) (.c (k := 2) (by kernel_rfl) rfl rfl .n) (fun hm0 hm hx => (.c (hm.own (List.mem_append.2 (.inr ((hx 11 (twB_spec 12 _ (by kernel_rfl))).1 _ (List.Mem.head _))))))) (by kernel_rfl) (by kernel_rfl) rfl
   · exact trip_pv (m := 12) .n (fun hm0 hm hx => .n) (by kernel_rfl) (by kernel_rfl) rfl
   · exact trip_pv (m := 12) .n (fun hm0 hm hx => .n) (by kernel_rfl) (by kernel_rfl) rfl
   · exact trip_pv (m := 12) (.c (k := 4) (by kernel_rfl) rfl rfl (.c (k := 5) (by kernel_rfl) rfl rfl .n)) (fun hm0 hm hx => .n) (by kernel_rfl) (by kernel_rfl) rfl
   · exact trip_pv (m := 12) (.c (k := 6) (by kernel_rfl) rfl rfl .n) (fun hm0 hm hx => (.c (hm0.del (.s .z)))) (by kernel_rfl) (by kernel_rfl) rfl
   ·
    intro a_ w_ R_ rest_ vs68 hm hs ht hx
    have hm0 := hm.mid
    replace hs := hs.lrn (ht 3 (twB_spec 12 _ (by kernel_rfl))) rfl rfl
    replace hs := hs.lrn (ht 7 (twB_spec 12 _ (by kernel_rfl))) rfl rfl
    have hs0 := hs.bare
    refine st_add hs rfl rfl rfl ?_; clear hs; intro a w hs
    exact wpList_nil ⟨rfl, _, _, hs0, (.c (.c .r)), hs, rfl⟩
   · exact trip_pv (m := 12) .n (fun hm0 hm hx => .n) (by kernel_rfl) (by kernel_rfl) rfl
   · exact trip_pv (m := 12) (.c (k := 0) (by kernel_rfl) rfl rfl (.c (k := 9) (by kernel_rfl) rfl rfl .n)) (fun hm0 hm hx => .n) (by kernel_rfl) (by kernel_rfl) rfl
   intro a_ w_ R_ rest_ vs68 hm hs ht hx
   replace hs : St _ _ _ (feet [blk g3 [.int .i64 (ea.id), .int .i64 (IntKind.i64.wrap (ea.p0 + r.p0)), .int .i64 (IntKind.i64.wrap (ea.p1 + r.p1)), .int .i64 (IntKind.i64.wrap (ea.p2 + r.p2)), .int .i64 (IntKind.i64.wrap (ea.v0 + r.v0)), .int .i64 (IntKind.i64.wrap (ea.v1 + r.v1)), .int .i64 (ea.v2), .int .u16 ((((ea.a).toNat : Nat) : Int)), .int .u8 ((((ea.g).toNat : Nat) : Int))] 47]) [blk g3 [.int .i64 (ea.id), .int .i64 (IntKind.i64.wrap (ea.p0 + r.p0)), .int .i64 (IntKind.i64.wrap (ea.p1 + r.p1)), .int .i64 (IntKind.i64.wrap (ea.p2 + r.p2)), .int .i64 (IntKind.i64.wrap (ea.v0 + r.v0)), .int .i64 (IntKind.i64.wrap (ea.v1 + r.v1)), .int .i64 (ea.v2), .int .u16 ((((ea.a).toNat : Nat) : Int)), .int .u8 ((((ea.g).toNat : Nat) : Int))] 47] _ _ := hs
   have hm0 := hm.mid
   replace hs := hs.lrn (ht 8 (twB_spec 12 _ (by kernel_rfl))) rfl rfl
   replace hs := hs.lrn (ht 10 (twB_spec 12 _ (by kernel_rfl))) rfl rfl
   have hs0 := hs.bare
   refine st_stB hs rfl rfl .z (.s (.s (.s (.s (.s (.s .z)))))) rfl Try.sizeOf2 ?_; clear hs; intro a w hs
   exact wpList_nil ⟨rfl, .tuple #[], _, hs0, (.c (.c .r)), hs, trivial⟩
  clear hs w a; intro a w vs68 hs hf
  replace hs : St _ _ _ _ [blk g5 [.int .i64 (0), .int .i64 (0), .int .i64 (0), .int .i64 (0), .int .i64 (0), .int .i64 (0), .int .i64 (0), .int .u16 (0), .int .u8 (0)] 47, blk g4 [.int .i64 (r.k), .int .i64 (r.id), .int .i64 (r.p0), .int .i64 (r.p1), .int .i64 (r.p2), .int .i64 (r.v0), .int .i64 (r.v1), .int .i64 (r.v2), .int .u16 ((((r.a).toNat : Nat) : Int))] 45, blk g3 [.int .i64 (ea.id), .int .i64 (IntKind.i64.wrap (ea.p0 + r.p0)), .int .i64 (IntKind.i64.wrap (ea.p1 + r.p1)), .int .i64 (IntKind.i64.wrap (ea.p2 + r.p2)), .int .i64 (IntKind.i64.wrap (ea.v0 + r.v0)), .int .i64 (IntKind.i64.wrap (ea.v1 + r.v1)), .int .i64 (IntKind.i64.wrap (ea.v2 + r.v2)), .int .u16 ((((ea.a).toNat : Nat) : Int)), .int .u8 ((((ea.g).toNat : Nat) : Int))] 47] _ _ := hs
  clear hf
  refine in_n ?_
  refine then_n (hK64 _ _ ?_)
  refine wp_region_lit ?_
  refine st_run 3 [(7, .int .i64 (3)), (48, .int .i64 (3)), (47, .int .i64 (2))] hs .n (by kernel_rfl) (by kernel_rfl) (by kernel_rfl) ?_; clear hs a; intro a hs
  refine wpList_nil ?_
  refine then_n ?_
  refine rounds_in ?_
  refine wp_seq_k fun K69 hK70 => ?_
  refine wp_seq_k fun K71 hK72 => ?_
  refine wp_region_lit ?_
  refine st_run 2 [(46, .bool (false)), (45, .int .i64 (3))] hs .n (by kernel_rfl) (by kernel_rfl) (by kernel_rfl) ?_; clear hs a; intro a hs
  refine wpList_nil ?_
  refine then_n (hK72 _ _ ?_)
  refine wp_cond_false (hs.ev rfl) ?_
  refine wp_exit ?_
  refine th_e ?_
  refine th_e ?_
  refine in_hit ?_
  refine then_n (hK36 _ _ ?_)
  refine wp_seq_k fun K73 hK74 => ?_
  refine wp_region_lit ?_
  refine st_run 4 [(74, .int .u16 ((((r.a).toNat : Nat) : Int))), (72, .int .u16 ((((ea.a).toNat : Nat) : Int)))] hs (.c (hs.mem.del (.s (.s .z))) (.c (hs.mem.del (.s .z)) .n)) (by kernel_rfl) (by kernel_rfl) (by kernel_rfl) ?_; clear hs a; intro a hs
  refine st_add_u16 (X := ea.a) (Y := r.a) hs rfl rfl rfl rfl rfl ?_; clear hs w a; intro a w hs
  refine st_fa hs rfl Try.underlying47 rfl Try.sizeOf43 (by decide) (o := 7) rfl rfl ?_; clear hs w a; intro a w hs
  refine st_stB hs rfl rfl (.s (.s .z)) (.s (.s (.s (.s (.s (.s (.s .z))))))) rfl Try.sizeOf43 ?_; clear hs w a; intro a w hs
  refine wpList_nil ?_
  refine then_n (hK74 _ _ ?_)
  refine wp_seq_k fun K75 hK76 => ?_
  refine wp_region_lit ?_
  refine st_ldBA hs rfl .z (.z (.c (.c (.c (.c (.c (.c (.c (.c (.c .n)))))))))) Try.isAgg47 Try.sizeOf47 rfl ?_; clear hs w a; intro a w hs
  refine st_stBA hs rfl rfl (.s .z) (.z (.c (.c (.c (.c (.c (.c (.c (.c (.c .n)))))))))) (ones_c rfl (ones_c rfl (ones_c rfl (ones_c rfl (ones_c rfl (ones_c rfl (ones_c rfl (ones_c rfl (ones_c rfl ones_n))))))))) Try.sizeOf47 rfl ?_; clear hs w a; intro a w hs
  refine st_as hs rfl rfl ?_; clear hs w a; intro a w hs
  refine wpList_nil ?_
  refine then_n (hK76 _ _ ?_)
  refine wp_ret ?_
  exact finC2 hs rfl rfl rfl .z (.z (.c (.c (.c (.c (.c (.c (.c (.c (.c .n)))))))))) Try.isAgg47 Try.sizeOf47 (.c .z (.c .z (.c .z .n))) (by first | (rw [entApply_chk (by omega)]; exact ⟨rfl, rfl⟩) | (rw [entApply_no (by omega) (by omega)]; exact ⟨rfl, rfl⟩) | (rw [entApply_tel (by omega) (by omega) (by omega)]; exact ⟨rfl, rfl⟩) | (rw [entApply_upd (by omega) (by omega) (by omega)]; exact ⟨rfl, rfl⟩))
end Go.Proofs.Ytbioemaipghagaa
