/- Walks of the example of snapshots: what each function does, over the program of this seat. Printed by a program of this session. -/
import Derived.Test.YtbioemaipghagaaGreatQWdel2
import Derived.Test.YtbioemaipghagaaGreatQWdel3
import Derived.Test.YtbioemaipghagaaGreatQSxDel
namespace Go.Proofs.YtbioemaipghagaaGreat
open Go Go.Sx Go.RowKit
set_option linter.unusedVariables false
set_option linter.unusedSimpArgs false
set_option maxRecDepth 4000
set_option maxHeartbeats 1000000

theorem alive10_ok (w0 : World) : Calls Tryz.prog 12 #[] w0 (RetV w0 (.bool true)) := by
  obtain ⟨a1, a2⟩ := alive_1
  obtain ⟨a3, a4⟩ := alive_2
  obtain ⟨a5, a6⟩ := alive_3
  have a7 : (dG 1 0 [] 2 0 [e7]).t = 2 ∧ (dG 1 0 [] 2 0 [e7]).tm = 0 ∧ (dG 1 0 [] 2 0 [e7]).b = 1 ∧ (dG 1 0 [] 2 0 [e7]).l.length = 1 := by rw [a2]; exact ⟨rfl, rfl, rfl, rfl⟩
  have a8 : (dG 0 0 [e7] 1 0 []).l.length = 1 := by rw [a4]; rfl
  have a9 : (aS 1 0 [] (dG 1 0 [] 2 0 [e7]).t (dG 1 0 [] 2 0 [e7]).tm (dG 1 0 [] 2 0 [e7]).b (dG 1 0 [] 2 0 [e7]).l).l.length = 1 := by rw [a6]; rfl
  unfold e7 at *
  refine enter (F0 := []) Tryz.func12 rfl rfl rfl .n (Mem.nil _) fun a w hs => ?_
  refine wp_seq_k fun K1 hK2 => ?_
  refine wp_region_lit ?_
  refine st_as hs rfl rfl ?_; clear hs w a; intro a w hs
  refine wpList_nil ?_
  refine then_n (hK2 _ _ ?_)
  refine wp_seq_k fun K3 hK4 => ?_
  refine wp_region_lit ?_
  refine st_build (it := Tryz.t24) (zs := [.int .i64 (0), .int .i64 (0), .slice none 0 0]) (places := [(0, 1), (1, 1), (2, 1)]) hs (.c rfl .n) Tryz.underlying24 rfl rfl rfl rfl (.c rfl rfl (.z (.c .n)) .n) rfl ?_; clear hs w a; intro a w hs
  refine st_build (it := Tryz.t73) (zs := [.int .i64 (0), .int .i64 (0), .int .i64 (0), .int .i64 (0), .int .i64 (0), .int .i64 (0), .int .i64 (0), .int .u16 (0), .int .u8 (0)]) (places := [(0, 1), (1, 3), (4, 3), (7, 1), (8, 1)]) hs (.c rfl (.c rfl .n)) Tryz.underlying73 rfl rfl rfl rfl (.c rfl rfl (.z (.c .n)) (.c rfl rfl (.s (.s (.s (.s (.s (.s (.s (.z (.c .n))))))))) .n)) rfl ?_; clear hs w a; intro a w hs
  refine st_bs (cs := [.int .i64 (7), .int .i64 (0), .int .i64 (0), .int .i64 (0), .int .i64 (0), .int .i64 (0), .int .i64 (0), .int .u16 (5), .int .u8 (0)]) hs (.c .n) (.c rfl .n) Tryz.underlying22 (ie := Tryz.t73) rfl rfl rfl rfl (by decide) (by decide) rfl (by decide) rfl rfl rfl ?_; clear hs w a; intro g5 a w hs
  refine st_build (it := Tryz.t24) (zs := [.int .i64 (0), .int .i64 (0), .slice none 0 0]) (places := [(0, 1), (1, 1), (2, 1)]) hs (.c rfl (.c rfl .n)) Tryz.underlying24 rfl rfl rfl rfl (.c rfl rfl (.z (.c .n)) (.c rfl rfl (.s (.s (.z (.c .n)))) .n)) rfl ?_; clear hs w a; intro a w hs
  refine st_alloc (cs := [.int .i64 (0), .int .i64 (0), .slice none 0 0]) hs Tryz.zeroValue24 rfl rfl ?_; clear hs w a; intro g6 a w hs
  refine st_alloc (cs := [.int .i64 (0), .int .i64 (0), .slice none 0 0]) hs Tryz.zeroValue24 rfl rfl ?_; clear hs w a; intro g7 a w hs
  refine st_stBA hs rfl rfl (.s .z) (.z (.c (.c (.c .n)))) (ones_c rfl (ones_c rfl (ones_c rfl ones_n))) Tryz.sizeOf24 rfl ?_; clear hs w a; intro a w hs
  refine st_stBA hs rfl rfl (.s .z) (.z (.c (.c (.c .n)))) (ones_c rfl (ones_c rfl (ones_c rfl ones_n))) Tryz.sizeOf24 rfl ?_; clear hs w a; intro a w hs
  refine wpList_nil ?_
  refine then_n (hK4 _ _ ?_)
  refine wp_seq_k fun K8 hK9 => ?_
  refine wp_region_lit ?_
  refine st_run 2 [(15, .agg #[.int .i64 (2), .int .i64 (0), .slice (some ⟨g5, 0, none⟩) 1 1]), (14, .agg #[.int .i64 (1), .int .i64 (0), .slice none 0 0])] hs (.c (hs.mem.del (.s .z)) (.c (hs.mem.del .z) .n)) (by kernel_rfl) (by kernel_rfl) (by kernel_rfl) ?_; clear hs a; intro a hs
  refine st_call hs (.c rfl (.c rfl .n)) Tryz.call13 .n (ddiff_ok 1 0 _ ([] : List EntR) 2 0 _ (([(⟨7, 0, 0, 0, 0, 0, 0, 5#16, 0#8⟩ : EntR)] : List EntR)) _ (by omega) (by omega) (by omega) (by omega) (rd_nil _ [] 9) (rd_blk (m := 1) (size := 9) (hs.mem.del (.s (.s .z))) rfl (by decide)) none_wf (one_wf e7_wf)) rfl ?_; clear hs w a; rintro _ _ a w ⟨v10, rfl, rfl⟩ hs; simp only [List.cons_append, List.nil_append] at hs
  have hk11 := dG_rng (at_ := 1) (atm := 0) (a := ([] : List EntR)) (bt := 2) (btm := 0) (b := ([(⟨7, 0, 0, 0, 0, 0, 0, 5#16, 0#8⟩ : EntR)] : List EntR))
  refine st_run 3 [(18, .int .i64 (((dErr 1 0 ([] : List EntR) 2 0 (([(⟨7, 0, 0, 0, 0, 0, 0, 5#16, 0#8⟩ : EntR)] : List EntR)) : Nat) : Int))), (17, .agg #[.int .i64 ((dG 1 0 ([] : List EntR) 2 0 (([(⟨7, 0, 0, 0, 0, 0, 0, 5#16, 0#8⟩ : EntR)] : List EntR))).t), .int .i64 ((dG 1 0 ([] : List EntR) 2 0 (([(⟨7, 0, 0, 0, 0, 0, 0, 5#16, 0#8⟩ : EntR)] : List EntR))).tm), .int .i64 ((dG 1 0 ([] : List EntR) 2 0 (([(⟨7, 0, 0, 0, 0, 0, 0, 5#16, 0#8⟩ : EntR)] : List EntR))).b), v10])] hs .n (by kernel_rfl) (by kernel_rfl) (by kernel_rfl) ?_; clear hs a; intro a hs
  refine st_alloc (cs := [.int .i64 (0), .int .i64 (0), .int .i64 (0), .slice none 0 0]) hs Tryz.zeroValue29 rfl rfl ?_; clear hs w a; intro g12 a w hs
  refine st_stBA hs rfl rfl .z (.z (.c (.c (.c (.c .n))))) (ones_c rfl (ones_c rfl (ones_c rfl (ones_c (rd_row (hs.mem.del (.s .z))).isSl.one ones_n)))) Tryz.sizeOf29 rfl ?_; clear hs w a; intro a w hs
  refine st_as hs rfl rfl ?_; clear hs w a; intro a w hs
  refine wpList_nil ?_
  refine then_n (hK9 _ _ ?_)
  refine wp_seq_k fun K13 hK14 => ?_
  refine wp_region_lit ?_
  refine st_run 2 [(21, .agg #[.int .i64 ((dG 1 0 ([] : List EntR) 2 0 (([(⟨7, 0, 0, 0, 0, 0, 0, 5#16, 0#8⟩ : EntR)] : List EntR))).t), .int .i64 ((dG 1 0 ([] : List EntR) 2 0 (([(⟨7, 0, 0, 0, 0, 0, 0, 5#16, 0#8⟩ : EntR)] : List EntR))).tm), .int .i64 ((dG 1 0 ([] : List EntR) 2 0 (([(⟨7, 0, 0, 0, 0, 0, 0, 5#16, 0#8⟩ : EntR)] : List EntR))).b), v10]), (20, .agg #[.int .i64 (1), .int .i64 (0), .slice none 0 0])] hs (.c (hs.mem.del (.s (.s (.s .z)))) (.c (hs.mem.del .z) .n)) (by kernel_rfl) (by kernel_rfl) (by kernel_rfl) ?_; clear hs a; intro a hs
  refine st_call hs (.c rfl (.c rfl .n)) Tryz.call14 .n (dapply_ok 1 0 _ ([] : List EntR) ((dG 1 0 ([] : List EntR) 2 0 (([(⟨7, 0, 0, 0, 0, 0, 0, 5#16, 0#8⟩ : EntR)] : List EntR))).t) ((dG 1 0 ([] : List EntR) 2 0 (([(⟨7, 0, 0, 0, 0, 0, 0, 5#16, 0#8⟩ : EntR)] : List EntR))).tm) ((dG 1 0 ([] : List EntR) 2 0 (([(⟨7, 0, 0, 0, 0, 0, 0, 5#16, 0#8⟩ : EntR)] : List EntR))).b) _ ((dG 1 0 ([] : List EntR) 2 0 (([(⟨7, 0, 0, 0, 0, 0, 0, 5#16, 0#8⟩ : EntR)] : List EntR))).l) _ (by omega) (by omega) (by omega) (by omega) (by omega) (rd_nil _ [] 9) (rd_row (hs.mem.del (.s .z))) (dG_wf none_wf (one_wf e7_wf))) rfl ?_; clear hs w a; rintro _ _ a w ⟨v15, rfl, rfl⟩ hs; simp only [List.cons_append, List.nil_append] at hs
  have hk16 := aS_rng (at_ := 1) (atm := 0) (a := ([] : List EntR)) (gt := ((dG 1 0 ([] : List EntR) 2 0 (([(⟨7, 0, 0, 0, 0, 0, 0, 5#16, 0#8⟩ : EntR)] : List EntR))).t)) (gtm := ((dG 1 0 ([] : List EntR) 2 0 (([(⟨7, 0, 0, 0, 0, 0, 0, 5#16, 0#8⟩ : EntR)] : List EntR))).tm)) (gb := ((dG 1 0 ([] : List EntR) 2 0 (([(⟨7, 0, 0, 0, 0, 0, 0, 5#16, 0#8⟩ : EntR)] : List EntR))).b)) (rl := (dG 1 0 ([] : List EntR) 2 0 (([(⟨7, 0, 0, 0, 0, 0, 0, 5#16, 0#8⟩ : EntR)] : List EntR))).l)
  refine st_run 3 [(24, .int .i64 (((aE 1 0 ([] : List EntR) ((dG 1 0 ([] : List EntR) 2 0 (([(⟨7, 0, 0, 0, 0, 0, 0, 5#16, 0#8⟩ : EntR)] : List EntR))).t) ((dG 1 0 ([] : List EntR) 2 0 (([(⟨7, 0, 0, 0, 0, 0, 0, 5#16, 0#8⟩ : EntR)] : List EntR))).tm) ((dG 1 0 ([] : List EntR) 2 0 (([(⟨7, 0, 0, 0, 0, 0, 0, 5#16, 0#8⟩ : EntR)] : List EntR))).b) ((dG 1 0 ([] : List EntR) 2 0 (([(⟨7, 0, 0, 0, 0, 0, 0, 5#16, 0#8⟩ : EntR)] : List EntR))).l) : Nat) : Int))), (23, .agg #[.int .i64 ((aS 1 0 ([] : List EntR) ((dG 1 0 ([] : List EntR) 2 0 (([(⟨7, 0, 0, 0, 0, 0, 0, 5#16, 0#8⟩ : EntR)] : List EntR))).t) ((dG 1 0 ([] : List EntR) 2 0 (([(⟨7, 0, 0, 0, 0, 0, 0, 5#16, 0#8⟩ : EntR)] : List EntR))).tm) ((dG 1 0 ([] : List EntR) 2 0 (([(⟨7, 0, 0, 0, 0, 0, 0, 5#16, 0#8⟩ : EntR)] : List EntR))).b) ((dG 1 0 ([] : List EntR) 2 0 (([(⟨7, 0, 0, 0, 0, 0, 0, 5#16, 0#8⟩ : EntR)] : List EntR))).l)).t), .int .i64 ((aS 1 0 ([] : List EntR) ((dG 1 0 ([] : List EntR) 2 0 (([(⟨7, 0, 0, 0, 0, 0, 0, 5#16, 0#8⟩ : EntR)] : List EntR))).t) ((dG 1 0 ([] : List EntR) 2 0 (([(⟨7, 0, 0, 0, 0, 0, 0, 5#16, 0#8⟩ : EntR)] : List EntR))).tm) ((dG 1 0 ([] : List EntR) 2 0 (([(⟨7, 0, 0, 0, 0, 0, 0, 5#16, 0#8⟩ : EntR)] : List EntR))).b) ((dG 1 0 ([] : List EntR) 2 0 (([(⟨7, 0, 0, 0, 0, 0, 0, 5#16, 0#8⟩ : EntR)] : List EntR))).l)).tm), v15])] hs .n (by kernel_rfl) (by kernel_rfl) (by kernel_rfl) ?_; clear hs a; intro a hs
  refine st_alloc (cs := [.int .i64 (0), .int .i64 (0), .slice none 0 0]) hs Tryz.zeroValue24 rfl rfl ?_; clear hs w a; intro g17 a w hs
  refine st_stBA hs rfl rfl .z (.z (.c (.c (.c .n)))) (ones_c rfl (ones_c rfl (ones_c (rd_row (hs.mem.del (.s .z))).isSl.one ones_n))) Tryz.sizeOf24 rfl ?_; clear hs w a; intro a w hs
  refine st_as hs rfl rfl ?_; clear hs w a; intro a w hs
  refine wpList_nil ?_
  refine then_n (hK14 _ _ ?_)
  refine wp_seq_k fun K18 hK19 => ?_
  refine wp_region_lit ?_
  refine st_fa hs rfl Tryz.underlying24 rfl Tryz.sizeOf2 (by decide) (o := 0) rfl rfl ?_; clear hs w a; intro a w hs
  refine st_stB hs rfl rfl (.s (.s (.s (.s .z)))) .z rfl Tryz.sizeOf2 ?_; clear hs w a; intro a w hs
  refine wpList_nil ?_
  refine then_n (hK19 _ _ ?_)
  refine wp_seq_k fun K20 hK21 => ?_
  refine wp_region_lit ?_
  refine st_run 2 [(28, .agg #[.int .i64 (1), .int .i64 (0), .slice none 0 0]), (27, .agg #[.int .i64 (0), .int .i64 (0), .slice (some ⟨g5, 0, none⟩) 1 1])] hs (.c (hs.mem.del .z) (.c (hs.mem.del (.s (.s (.s (.s (.s .z)))))) .n)) (by kernel_rfl) (by kernel_rfl) (by kernel_rfl) ?_; clear hs a; intro a hs
  refine st_call hs (.c rfl (.c rfl .n)) Tryz.call13 .n (ddiff_ok 0 0 _ (([(⟨7, 0, 0, 0, 0, 0, 0, 5#16, 0#8⟩ : EntR)] : List EntR)) 1 0 _ ([] : List EntR) _ (by omega) (by omega) (by omega) (by omega) (rd_blk (m := 1) (size := 9) (hs.mem.del (.s (.s (.s (.s (.s (.s .z))))))) rfl (by decide)) (rd_nil _ [] 9) (one_wf e7_wf) none_wf) rfl ?_; clear hs w a; rintro _ _ a w ⟨v22, rfl, rfl⟩ hs; simp only [List.cons_append, List.nil_append] at hs
  have hk23 := dG_rng (at_ := 0) (atm := 0) (a := ([(⟨7, 0, 0, 0, 0, 0, 0, 5#16, 0#8⟩ : EntR)] : List EntR)) (bt := 1) (btm := 0) (b := ([] : List EntR))
  refine st_run 3 [(31, .int .i64 (((dErr 0 0 (([(⟨7, 0, 0, 0, 0, 0, 0, 5#16, 0#8⟩ : EntR)] : List EntR)) 1 0 ([] : List EntR) : Nat) : Int))), (30, .agg #[.int .i64 ((dG 0 0 (([(⟨7, 0, 0, 0, 0, 0, 0, 5#16, 0#8⟩ : EntR)] : List EntR)) 1 0 ([] : List EntR)).t), .int .i64 ((dG 0 0 (([(⟨7, 0, 0, 0, 0, 0, 0, 5#16, 0#8⟩ : EntR)] : List EntR)) 1 0 ([] : List EntR)).tm), .int .i64 ((dG 0 0 (([(⟨7, 0, 0, 0, 0, 0, 0, 5#16, 0#8⟩ : EntR)] : List EntR)) 1 0 ([] : List EntR)).b), v22])] hs .n (by kernel_rfl) (by kernel_rfl) (by kernel_rfl) ?_; clear hs a; intro a hs
  refine st_alloc (cs := [.int .i64 (0), .int .i64 (0), .int .i64 (0), .slice none 0 0]) hs Tryz.zeroValue29 rfl rfl ?_; clear hs w a; intro g24 a w hs
  refine st_stBA hs rfl rfl .z (.z (.c (.c (.c (.c .n))))) (ones_c rfl (ones_c rfl (ones_c rfl (ones_c (rd_row (hs.mem.del (.s .z))).isSl.one ones_n)))) Tryz.sizeOf29 rfl ?_; clear hs w a; intro a w hs
  refine st_as hs rfl rfl ?_; clear hs w a; intro a w hs
  refine wpList_nil ?_
  refine then_n (hK21 _ _ ?_)
  refine wp_seq_k fun K25 hK26 => ?_
  refine wp_region_lit ?_
  refine st_run 2 [(33, .bool ((((dErr 1 0 ([] : List EntR) 2 0 (([(⟨7, 0, 0, 0, 0, 0, 0, 5#16, 0#8⟩ : EntR)] : List EntR)) : Nat) : Int) : Int) == 0))] hs .n (by kernel_rfl) (by kernel_rfl) (by kernel_rfl) ?_; clear hs a; intro a hs
  have hb_ : ((((dErr 1 0 ([] : List EntR) 2 0 (([(⟨7, 0, 0, 0, 0, 0, 0, 5#16, 0#8⟩ : EntR)] : List EntR)) : Nat) : Int) : Int) == 0) = true := by rw [a1]; rfl
  rw [hb_] at hs; clear hb_
  refine st_run 3 [(36, v10), (34, .bool (true))] hs (.c (hs.mem.del (.s (.s (.s (.s (.s .z)))))) .n) (by kernel_rfl) (by kernel_rfl) (by kernel_rfl) ?_; clear hs a; intro a hs
  refine st_guardT hs rfl rfl rfl ?_
  refine st_len hs rfl (rd_row (hs.mem.del (.s (.s (.s (.s (.s (.s .z)))))))).isSl Tryz.underlying27 rfl ?_; clear hs w a; intro a w hs
  refine st_guardT hs rfl rfl rfl ?_
  refine st_eql hs rfl rfl rfl ?_; clear hs w a; intro a w hs
  have hb_ : (((((dG 1 0 ([] : List EntR) 2 0 (([(⟨7, 0, 0, 0, 0, 0, 0, 5#16, 0#8⟩ : EntR)] : List EntR))).l.length : Nat) : Int) : Int) == 1) = true := by rw [a7.2.2.2]; rfl
  rw [hb_] at hs; clear hb_
  refine st_run 4 [(42, v10), (40, .bool (true))] hs (.c (hs.mem.del (.s (.s (.s (.s (.s .z)))))) .n) (by kernel_rfl) (by kernel_rfl) (by kernel_rfl) ?_; clear hs a; intro a hs
  refine st_guardT hs rfl rfl rfl ?_
  refine st_ia (j := 0) hs rfl rfl (rd_row (hs.mem.del (.s (.s (.s (.s (.s (.s .z)))))))) (by decide) (by omega) Tryz.underlying27 Tryz.sizeOf78 rfl ?_; clear hs w a; intro a w hs
  refine st_guardT hs rfl rfl rfl ?_
  refine st_faV hs rfl (rd_row (hs.mem.del (.s (.s (.s (.s (.s (.s .z)))))))) (by omega) Tryz.underlying78 rfl Tryz.sizeOf3 (by decide) (o := 0 * 9 + 0) rfl rfl ?_; clear hs w a; intro a w hs
  refine st_guardT hs rfl rfl rfl ?_
  refine st_ld (u := .int .i64 ((((dG 1 0 ([] : List EntR) 2 0 (([(⟨7, 0, 0, 0, 0, 0, 0, 5#16, 0#8⟩ : EntR)] : List EntR))).l.getD 0 default)).k)) hs rfl (rd_row (hs.mem.del (.s (.s (.s (.s (.s (.s .z)))))))) ((flat_get1 recV_len (dG 1 0 ([] : List EntR) 2 0 (([(⟨7, 0, 0, 0, 0, 0, 0, 5#16, 0#8⟩ : EntR)] : List EntR))).l 0 0 (by omega) (by decide)).trans rfl) Tryz.isAgg3 rfl ?_; clear hs w a; intro a w hs
  refine st_guardT hs rfl rfl rfl ?_
  refine st_eql hs rfl rfl rfl ?_; clear hs w a; intro a w hs
  have hb_ : (((((dG 1 0 ([] : List EntR) 2 0 (([(⟨7, 0, 0, 0, 0, 0, 0, 5#16, 0#8⟩ : EntR)] : List EntR))).l.getD 0 default)).k : Int) == 0) = true := by rw [a2]; rfl
  rw [hb_] at hs; clear hb_
  refine st_run 4 [(50, .bool ((((aE 1 0 ([] : List EntR) ((dG 1 0 ([] : List EntR) 2 0 (([(⟨7, 0, 0, 0, 0, 0, 0, 5#16, 0#8⟩ : EntR)] : List EntR))).t) ((dG 1 0 ([] : List EntR) 2 0 (([(⟨7, 0, 0, 0, 0, 0, 0, 5#16, 0#8⟩ : EntR)] : List EntR))).tm) ((dG 1 0 ([] : List EntR) 2 0 (([(⟨7, 0, 0, 0, 0, 0, 0, 5#16, 0#8⟩ : EntR)] : List EntR))).b) ((dG 1 0 ([] : List EntR) 2 0 (([(⟨7, 0, 0, 0, 0, 0, 0, 5#16, 0#8⟩ : EntR)] : List EntR))).l) : Nat) : Int) : Int) == 0)), (48, .bool (true))] hs .n (by kernel_rfl) (by kernel_rfl) (by kernel_rfl) ?_; clear hs a; intro a hs
  have hb_ : ((((aE 1 0 ([] : List EntR) ((dG 1 0 ([] : List EntR) 2 0 (([(⟨7, 0, 0, 0, 0, 0, 0, 5#16, 0#8⟩ : EntR)] : List EntR))).t) ((dG 1 0 ([] : List EntR) 2 0 (([(⟨7, 0, 0, 0, 0, 0, 0, 5#16, 0#8⟩ : EntR)] : List EntR))).tm) ((dG 1 0 ([] : List EntR) 2 0 (([(⟨7, 0, 0, 0, 0, 0, 0, 5#16, 0#8⟩ : EntR)] : List EntR))).b) ((dG 1 0 ([] : List EntR) 2 0 (([(⟨7, 0, 0, 0, 0, 0, 0, 5#16, 0#8⟩ : EntR)] : List EntR))).l) : Nat) : Int) : Int) == 0) = true := by rw [a5]; rfl
  rw [hb_] at hs; clear hb_
  refine st_run 4 [(54, v15), (52, .bool (true))] hs (.c (hs.mem.del (.s (.s (.s .z)))) .n) (by kernel_rfl) (by kernel_rfl) (by kernel_rfl) ?_; clear hs a; intro a hs
  refine st_guardT hs rfl rfl rfl ?_
  refine st_len hs rfl (rd_row (hs.mem.del (.s (.s (.s (.s .z)))))).isSl Tryz.underlying22 rfl ?_; clear hs w a; intro a w hs
  refine st_guardT hs rfl rfl rfl ?_
  refine st_eql hs rfl rfl rfl ?_; clear hs w a; intro a w hs
  have hb_ : (((((aS 1 0 ([] : List EntR) ((dG 1 0 ([] : List EntR) 2 0 (([(⟨7, 0, 0, 0, 0, 0, 0, 5#16, 0#8⟩ : EntR)] : List EntR))).t) ((dG 1 0 ([] : List EntR) 2 0 (([(⟨7, 0, 0, 0, 0, 0, 0, 5#16, 0#8⟩ : EntR)] : List EntR))).tm) ((dG 1 0 ([] : List EntR) 2 0 (([(⟨7, 0, 0, 0, 0, 0, 0, 5#16, 0#8⟩ : EntR)] : List EntR))).b) ((dG 1 0 ([] : List EntR) 2 0 (([(⟨7, 0, 0, 0, 0, 0, 0, 5#16, 0#8⟩ : EntR)] : List EntR))).l)).l.length : Nat) : Int) : Int) == 1) = true := by rw [a9]; rfl
  rw [hb_] at hs; clear hb_
  refine st_run 4 [(60, v15), (58, .bool (true))] hs (.c (hs.mem.del (.s (.s (.s .z)))) .n) (by kernel_rfl) (by kernel_rfl) (by kernel_rfl) ?_; clear hs a; intro a hs
  refine st_guardT hs rfl rfl rfl ?_
  refine st_ia (j := 0) hs rfl rfl (rd_row (hs.mem.del (.s (.s (.s (.s .z)))))) (by decide) (by omega) Tryz.underlying22 Tryz.sizeOf73 rfl ?_; clear hs w a; intro a w hs
  refine st_guardT hs rfl rfl rfl ?_
  refine st_faV hs rfl (rd_row (hs.mem.del (.s (.s (.s (.s .z)))))) (by omega) Tryz.underlying73 rfl Tryz.sizeOf70 (by decide) (o := 0 * 9 + 7) rfl rfl ?_; clear hs w a; intro a w hs
  refine st_guardT hs rfl rfl rfl ?_
  refine st_ld (u := .int .u16 (((((((aS 1 0 ([] : List EntR) ((dG 1 0 ([] : List EntR) 2 0 (([(⟨7, 0, 0, 0, 0, 0, 0, 5#16, 0#8⟩ : EntR)] : List EntR))).t) ((dG 1 0 ([] : List EntR) 2 0 (([(⟨7, 0, 0, 0, 0, 0, 0, 5#16, 0#8⟩ : EntR)] : List EntR))).tm) ((dG 1 0 ([] : List EntR) 2 0 (([(⟨7, 0, 0, 0, 0, 0, 0, 5#16, 0#8⟩ : EntR)] : List EntR))).b) ((dG 1 0 ([] : List EntR) 2 0 (([(⟨7, 0, 0, 0, 0, 0, 0, 5#16, 0#8⟩ : EntR)] : List EntR))).l)).l.getD 0 default)).a).toNat : Nat) : Int))) hs rfl (rd_row (hs.mem.del (.s (.s (.s (.s .z)))))) ((flat_get1 entV_len (aS 1 0 ([] : List EntR) ((dG 1 0 ([] : List EntR) 2 0 (([(⟨7, 0, 0, 0, 0, 0, 0, 5#16, 0#8⟩ : EntR)] : List EntR))).t) ((dG 1 0 ([] : List EntR) 2 0 (([(⟨7, 0, 0, 0, 0, 0, 0, 5#16, 0#8⟩ : EntR)] : List EntR))).tm) ((dG 1 0 ([] : List EntR) 2 0 (([(⟨7, 0, 0, 0, 0, 0, 0, 5#16, 0#8⟩ : EntR)] : List EntR))).b) ((dG 1 0 ([] : List EntR) 2 0 (([(⟨7, 0, 0, 0, 0, 0, 0, 5#16, 0#8⟩ : EntR)] : List EntR))).l)).l 0 7 (by omega) (by decide)).trans rfl) Tryz.isAgg70 rfl ?_; clear hs w a; intro a w hs
  refine st_guardT hs rfl rfl rfl ?_
  refine st_eql hs rfl rfl rfl ?_; clear hs w a; intro a w hs
  have hb_ : ((((((((aS 1 0 ([] : List EntR) ((dG 1 0 ([] : List EntR) 2 0 (([(⟨7, 0, 0, 0, 0, 0, 0, 5#16, 0#8⟩ : EntR)] : List EntR))).t) ((dG 1 0 ([] : List EntR) 2 0 (([(⟨7, 0, 0, 0, 0, 0, 0, 5#16, 0#8⟩ : EntR)] : List EntR))).tm) ((dG 1 0 ([] : List EntR) 2 0 (([(⟨7, 0, 0, 0, 0, 0, 0, 5#16, 0#8⟩ : EntR)] : List EntR))).b) ((dG 1 0 ([] : List EntR) 2 0 (([(⟨7, 0, 0, 0, 0, 0, 0, 5#16, 0#8⟩ : EntR)] : List EntR))).l)).l.getD 0 default)).a).toNat : Nat) : Int) : Int) == 5) = true := by rw [a6]; rfl
  rw [hb_] at hs; clear hb_
  refine st_run 4 [(68, .bool ((((dErr 0 0 (([(⟨7, 0, 0, 0, 0, 0, 0, 5#16, 0#8⟩ : EntR)] : List EntR)) 1 0 ([] : List EntR) : Nat) : Int) : Int) == 0)), (66, .bool (true))] hs .n (by kernel_rfl) (by kernel_rfl) (by kernel_rfl) ?_; clear hs a; intro a hs
  have hb_ : ((((dErr 0 0 (([(⟨7, 0, 0, 0, 0, 0, 0, 5#16, 0#8⟩ : EntR)] : List EntR)) 1 0 ([] : List EntR) : Nat) : Int) : Int) == 0) = true := by rw [a3]; rfl
  rw [hb_] at hs; clear hb_
  refine st_run 4 [(72, v22), (70, .bool (true))] hs (.c (hs.mem.del .z) .n) (by kernel_rfl) (by kernel_rfl) (by kernel_rfl) ?_; clear hs a; intro a hs
  refine st_guardT hs rfl rfl rfl ?_
  refine st_len hs rfl (rd_row (hs.mem.del (.s .z))).isSl Tryz.underlying27 rfl ?_; clear hs w a; intro a w hs
  refine st_guardT hs rfl rfl rfl ?_
  refine st_eql hs rfl rfl rfl ?_; clear hs w a; intro a w hs
  have hb_ : (((((dG 0 0 (([(⟨7, 0, 0, 0, 0, 0, 0, 5#16, 0#8⟩ : EntR)] : List EntR)) 1 0 ([] : List EntR)).l.length : Nat) : Int) : Int) == 1) = true := by rw [a8]; rfl
  rw [hb_] at hs; clear hb_
  refine st_run 4 [(78, v22), (76, .bool (true))] hs (.c (hs.mem.del .z) .n) (by kernel_rfl) (by kernel_rfl) (by kernel_rfl) ?_; clear hs a; intro a hs
  refine st_guardT hs rfl rfl rfl ?_
  refine st_ia (j := 0) hs rfl rfl (rd_row (hs.mem.del (.s .z))) (by decide) (by omega) Tryz.underlying27 Tryz.sizeOf78 rfl ?_; clear hs w a; intro a w hs
  refine st_guardT hs rfl rfl rfl ?_
  refine st_faV hs rfl (rd_row (hs.mem.del (.s .z))) (by omega) Tryz.underlying78 rfl Tryz.sizeOf3 (by decide) (o := 0 * 9 + 0) rfl rfl ?_; clear hs w a; intro a w hs
  refine st_guardT hs rfl rfl rfl ?_
  refine st_ld (u := .int .i64 ((((dG 0 0 (([(⟨7, 0, 0, 0, 0, 0, 0, 5#16, 0#8⟩ : EntR)] : List EntR)) 1 0 ([] : List EntR)).l.getD 0 default)).k)) hs rfl (rd_row (hs.mem.del (.s .z))) ((flat_get1 recV_len (dG 0 0 (([(⟨7, 0, 0, 0, 0, 0, 0, 5#16, 0#8⟩ : EntR)] : List EntR)) 1 0 ([] : List EntR)).l 0 0 (by omega) (by decide)).trans rfl) Tryz.isAgg3 rfl ?_; clear hs w a; intro a w hs
  refine st_guardT hs rfl rfl rfl ?_
  refine st_eql hs rfl rfl rfl ?_; clear hs w a; intro a w hs
  have hb_ : (((((dG 0 0 (([(⟨7, 0, 0, 0, 0, 0, 0, 5#16, 0#8⟩ : EntR)] : List EntR)) 1 0 ([] : List EntR)).l.getD 0 default)).k : Int) == 2) = true := by rw [a4]; rfl
  rw [hb_] at hs; clear hb_
  refine st_run 2 [(0, .bool (true))] hs .n (by kernel_rfl) (by kernel_rfl) (by kernel_rfl) ?_; clear hs a; intro a hs
  refine wpList_nil ?_
  refine then_n (hK26 _ _ ?_)
  refine wp_ret ?_
  replace hs := hs.drop (.c (.s (.s (.s (.s (.s (.s (.s (.s .z)))))))) (.c (.s (.s (.s (.s (.s (.s (.s .z))))))) (.c (.s (.s (.s (.s (.s (.s .z)))))) (.c (.s (.s (.s (.s (.s .z))))) (.c (.s (.s (.s (.s .z)))) (.c (.s (.s (.s .z))) (.c (.s (.s .z)) (.c (.s .z) (.c .z .n)))))))))
  exact fin hs rfl rfl ⟨rfl, rfl⟩
theorem great2_ok (g : Nat) (t0 m0 : Int) (u0 : Value) (l0 : List EntR) (t1 m1 : Int) (u1 : Value) (l1 : List EntR) (w0 : World) (hg : (blk g [.int .i64 (t0), .int .i64 (m0), u0, .int .i64 (t1), .int .i64 (m1), u1] 24).p w0) (hc0 : Rd w0 [] u0 9 l0.length (l0.flatMap entV)) (hc1 : Rd w0 [] u1 9 l1.length (l1.flatMap entV)) : Calls Tryz.prog 11 #[.slice (some ⟨g, 0, none⟩) 2 2] w0 (RetV w0 (.bool (decide (100 < l0.length ∨ 100 < l1.length)))) := by
  refine enter (F0 := [(0, .slice (some ⟨g, 0, none⟩) 2 2)]) Tryz.func11 rfl rfl rfl (.c .n) (Mem.nil _) fun a w hs => ?_
  refine wp_seq_k fun K1 hK2 => ?_
  refine wp_region_lit ?_
  refine st_as hs rfl rfl ?_; clear hs w a; intro a w hs
  refine wpList_nil ?_
  refine then_n (hK2 _ _ ?_)
  refine wp_seq_k fun K3 hK4 => ?_
  refine wp_seq_k fun K5 hK6 => ?_
  refine wp_region_lit ?_
  refine st_mv hs rfl rfl ?_; clear hs w a; intro a w hs
  refine st_len hs rfl (rd_blk (m := 2) (size := 3) (hs.mem.keep hg (by simp [feet, blk])) rfl (by decide)).isSl Tryz.underlying49 rfl ?_; clear hs w a; intro a w hs
  replace hs := hs.recell (v' := .int .i64 (2)) (Option.some.inj rfl)
  refine st_mv hs rfl rfl ?_; clear hs w a; intro a w hs
  refine wpList_nil ?_
  refine then_n (hK6 _ _ ?_)
  refine wp_block ?_
  refine wp_loop_rounds 3 ?_
  refine rounds_in ?_
  refine wp_seq_k fun K7 hK8 => ?_
  refine wp_region_lit ?_
  refine st_lss hs rfl rfl rfl ?_; clear hs w a; intro a w hs
  rw [show (decide ((0 : Int) < 2)) = true from by decide] at hs
  refine wpList_nil ?_
  refine then_n (hK8 _ _ ?_)
  refine wp_seq_k fun K9 hK10 => ?_
  refine wp_cond_true (hs.ev rfl) ?_
  refine wp_skip ?_
  refine then_n (hK10 _ _ ?_)
  refine wp_seq_k fun K11 hK12 => ?_
  refine wp_block ?_
  refine wp_seq_k fun K13 hK14 => ?_
  refine wp_region_lit ?_
  refine st_ia (j := 0) hs rfl rfl (rd_blk (m := 2) (size := 3) (hs.mem.keep hg (by simp [feet, blk])) rfl (by decide)) (by decide) (by omega) Tryz.underlying49 Tryz.sizeOf24 rfl ?_; clear hs w a; intro a w hs
  refine st_ldA (cs := [.int .i64 (t0), .int .i64 (m0), u0]) hs rfl (rd_blk (m := 2) (size := 3) (hs.mem.keep hg (by simp [feet, blk])) rfl (by decide)) (by rfl) (by simp) (by decide) Tryz.isAgg24 Tryz.sizeOf24 rfl ?_; clear hs w a; intro a w hs
  refine st_alloc (cs := [.int .i64 (0), .int .i64 (0), .slice none 0 0]) hs Tryz.zeroValue24 rfl rfl ?_; clear hs w a; intro g15 a w hs
  refine st_stBA hs rfl rfl .z (.z (.c (.c (.c .n)))) (ones_c rfl (ones_c rfl (ones_c (hs.rd0 hc0).isSl.one ones_n))) Tryz.sizeOf24 rfl ?_; clear hs w a; intro a w hs
  refine wpList_nil ?_
  refine then_n (hK14 _ _ ?_)
  refine wp_seq_k fun K16 hK17 => ?_
  refine wp_region_lit ?_
  refine st_run 2 [(12, u0), (11, .pointer (some ⟨g15, 2, none⟩))] hs (.c (hs.mem.del .z) .n) (by kernel_rfl) (by kernel_rfl) (by kernel_rfl) ?_; clear hs a; intro a hs
  refine st_len hs rfl (hs.rd0 hc0).isSl Tryz.underlying22 rfl ?_; clear hs w a; intro a w hs
  refine st_gtr hs rfl rfl rfl ?_; clear hs w a; intro a w hs
  refine wpList_nil ?_
  refine then_n (hK17 _ _ ?_)
  refine wp_if hs rfl (fun hc18 => ?_) (fun hc18 => ?_)
  ·
   replace hc18 := of_decide_eq_true hc18
   refine wp_seq_k fun K19 hK20 => ?_
   refine wp_region_lit ?_
   refine st_as hs rfl rfl ?_; clear hs w a; intro a w hs
   refine wpList_nil ?_
   refine then_n (hK20 _ _ ?_)
   refine wp_ret ?_
   refine in_r ?_
   refine th_r ?_
   refine th_r ?_
   refine in_r ?_
   refine th_r ?_
   replace hs := hs.drop (.c .z .n)
   exact fin hs rfl rfl ⟨congrArg Value.bool (by first | exact (decide_eq_true (by omega)).symm | exact (decide_eq_false (by omega)).symm), rfl⟩
  replace hc18 := of_decide_eq_false hc18
  refine wp_skip ?_
  refine in_n ?_
  refine then_n (hK12 _ _ ?_)
  refine wp_region_lit ?_
  refine st_run 2 [(7, .int .i64 (1)), (15, .int .i64 (1))] hs .n (by kernel_rfl) (by kernel_rfl) (by kernel_rfl) ?_; clear hs a; intro a hs
  refine wpList_nil ?_
  refine then_n ?_
  refine rounds_in ?_
  refine wp_seq_k fun K21 hK22 => ?_
  refine wp_region_lit ?_
  refine st_lss hs rfl rfl rfl ?_; clear hs w a; intro a w hs
  rw [show (decide ((1 : Int) < 2)) = true from by decide] at hs
  refine wpList_nil ?_
  refine then_n (hK22 _ _ ?_)
  refine wp_seq_k fun K23 hK24 => ?_
  refine wp_cond_true (hs.ev rfl) ?_
  refine wp_skip ?_
  refine then_n (hK24 _ _ ?_)
  refine wp_seq_k fun K25 hK26 => ?_
  refine wp_block ?_
  refine wp_seq_k fun K27 hK28 => ?_
  refine wp_region_lit ?_
  refine st_ia (j := 1) hs rfl rfl (rd_blk (m := 2) (size := 3) (hs.mem.keep hg (by simp [feet, blk])) rfl (by decide)) (by decide) (by omega) Tryz.underlying49 Tryz.sizeOf24 rfl ?_; clear hs w a; intro a w hs
  refine st_ldA (cs := [.int .i64 (t1), .int .i64 (m1), u1]) hs rfl (rd_blk (m := 2) (size := 3) (hs.mem.keep hg (by simp [feet, blk])) rfl (by decide)) (by rfl) (by simp) (by decide) Tryz.isAgg24 Tryz.sizeOf24 rfl ?_; clear hs w a; intro a w hs
  refine st_alloc (cs := [.int .i64 (0), .int .i64 (0), .slice none 0 0]) hs Tryz.zeroValue24 rfl rfl ?_; clear hs w a; intro g29 a w hs
  refine st_stBA hs rfl rfl .z (.z (.c (.c (.c .n)))) (ones_c rfl (ones_c rfl (ones_c (hs.rd0 hc1).isSl.one ones_n))) Tryz.sizeOf24 rfl ?_; clear hs w a; intro a w hs
  refine wpList_nil ?_
  refine then_n (hK28 _ _ ?_)
  refine wp_seq_k fun K30 hK31 => ?_
  refine wp_region_lit ?_
  refine st_run 2 [(12, u1), (11, .pointer (some ⟨g29, 2, none⟩))] hs (.c (hs.mem.del .z) .n) (by kernel_rfl) (by kernel_rfl) (by kernel_rfl) ?_; clear hs a; intro a hs
  refine st_len hs rfl (hs.rd0 hc1).isSl Tryz.underlying22 rfl ?_; clear hs w a; intro a w hs
  refine st_gtr hs rfl rfl rfl ?_; clear hs w a; intro a w hs
  refine wpList_nil ?_
  refine then_n (hK31 _ _ ?_)
  refine wp_if hs rfl (fun hc32 => ?_) (fun hc32 => ?_)
  ·
   replace hc32 := of_decide_eq_true hc32
   refine wp_seq_k fun K33 hK34 => ?_
   refine wp_region_lit ?_
   refine st_as hs rfl rfl ?_; clear hs w a; intro a w hs
   refine wpList_nil ?_
   refine then_n (hK34 _ _ ?_)
   refine wp_ret ?_
   refine in_r ?_
   refine th_r ?_
   refine th_r ?_
   refine in_r ?_
   refine th_r ?_
   replace hs := hs.drop (.c (.s .z) (.c .z .n))
   exact fin hs rfl rfl ⟨congrArg Value.bool (by first | exact (decide_eq_true (by omega)).symm | exact (decide_eq_false (by omega)).symm), rfl⟩
  replace hc32 := of_decide_eq_false hc32
  refine wp_skip ?_
  refine in_n ?_
  refine then_n (hK26 _ _ ?_)
  refine wp_region_lit ?_
  refine st_run 2 [(7, .int .i64 (2)), (15, .int .i64 (2))] hs .n (by kernel_rfl) (by kernel_rfl) (by kernel_rfl) ?_; clear hs a; intro a hs
  refine wpList_nil ?_
  refine then_n ?_
  refine rounds_in ?_
  refine wp_seq_k fun K35 hK36 => ?_
  refine wp_region_lit ?_
  refine st_lss hs rfl rfl rfl ?_; clear hs w a; intro a w hs
  rw [show (decide ((2 : Int) < 2)) = false from by decide] at hs
  refine wpList_nil ?_
  refine then_n (hK36 _ _ ?_)
  refine wp_seq_k fun K37 hK38 => ?_
  refine wp_cond_false (hs.ev rfl) ?_
  refine wp_exit ?_
  refine th_e ?_
  refine th_e ?_
  refine in_hit ?_
  refine then_n (hK4 _ _ ?_)
  refine wp_seq_k fun K39 hK40 => ?_
  refine wp_region_lit ?_
  refine st_as hs rfl rfl ?_; clear hs w a; intro a w hs
  refine wpList_nil ?_
  refine then_n (hK40 _ _ ?_)
  refine wp_ret ?_
  replace hs := hs.drop (.c (.s .z) (.c .z .n))
  exact fin hs rfl rfl ⟨congrArg Value.bool (by first | exact (decide_eq_true (by omega)).symm | exact (decide_eq_false (by omega)).symm), rfl⟩
end Go.Proofs.YtbioemaipghagaaGreat
