/- Walks of GramReads: what each function does, over the program of this seat. Printed by a program of this session. -/
import Derived.Test.YtkobgcoegajfcaaWgram
import Derived.Test.YtkobgcoegajfcaaWgramS
import Derived.Test.YtkobgcoegajfcaaWgramU
namespace Go.Proofs.Ytkobgcoegajfcaa
open Go Go.Sx Go.RowKit
set_option linter.unusedVariables false
set_option linter.unusedSimpArgs false
set_option maxRecDepth 4000
set_option maxHeartbeats 1000000

theorem gramReads_ok (v : Value) (m : Nat) (bs : List Byte) (w0 : World) (hb : Rd w0 [] v 1 m (bytesV bs)) : Calls Try.prog 14 #[v] w0 (RetV w0 (.bool true)) := by
  have hbl : bs.length = m := by have := hb.len; simpa [bytesV] using this
  have hbe : m ≤ maxLen := hb.le
  simp only [maxLen] at hbe
  refine enter (F0 := [(0, v)]) Try.func14 rfl rfl rfl (.c .n) (Mem.nil _) fun a w hs => ?_
  refine wp_seq_k fun K1 hK2 => ?_
  refine wp_region_lit ?_
  refine st_as hs rfl rfl ?_; clear hs w a; intro a w hs
  refine wpList_nil ?_
  refine then_n (hK2 _ _ ?_)
  refine wp_seq_k fun K3 hK4 => ?_
  refine wp_seq_k fun K5 hK6 => ?_
  refine wp_region_lit ?_
  refine st_mv hs rfl rfl ?_; clear hs w a; intro a w hs
  refine st_len hs rfl (hs.rd0 hb).isSl Try.underlying26 rfl ?_; clear hs w a; intro a w hs
  refine st_gtr hs rfl rfl rfl ?_; clear hs w a; intro a w hs
  refine wpList_nil ?_
  refine then_n (hK6 _ _ ?_)
  refine wp_if hs rfl (fun hc7 => ?_) (fun hc7 => ?_)
  ·
   replace hc7 := of_decide_eq_true hc7
   refine wp_seq_k fun K8 hK9 => ?_
   refine wp_region_lit ?_
   refine st_callP (v := .bool (true)) hs .n Try.call35 (alive09_ok _) rfl ?_; clear hs w a; intro a w hs
   refine st_as hs rfl rfl ?_; clear hs w a; intro a w hs
   refine wpList_nil ?_
   refine then_n (hK9 _ _ ?_)
   refine wp_ret ?_
   refine th_r ?_
   exact fin hs rfl rfl ⟨rfl, rfl⟩
  replace hc7 := of_decide_eq_false hc7
  refine wp_skip ?_
  refine then_n (hK4 _ _ ?_)
  refine wp_seq_k fun K10 hK11 => ?_
  refine wp_region_lit ?_
  refine st_mv hs rfl rfl ?_; clear hs w a; intro a w hs
  refine st_call hs (.c rfl .n) Try.call41 .n (gread_ok _ _ bs _ (hs.rd0 hb)) rfl ?_; clear hs w a; rintro _ _ a w ⟨v12, rfl, rfl⟩ hs; simp only [List.cons_append, List.nil_append] at hs
  have hk13 := gRead_le bs
  refine st_run 3 [(20, .int .i64 ((((gRead bs).e : Nat) : Int))), (19, .agg #[.int .i64 ((gRead bs).t), .int .i64 ((gRead bs).tm), .int .i64 ((gRead bs).b), v12])] hs .n (by kernel_rfl) (by kernel_rfl) (by kernel_rfl) ?_; clear hs a; intro a hs
  refine st_alloc (cs := [.int .i64 (0), .int .i64 (0), .int .i64 (0), .slice none 0 0]) hs Try.zeroValue69 rfl rfl ?_; clear hs w a; intro g14 a w hs
  refine st_stBA hs rfl rfl .z (.z (.c (.c (.c (.c .n))))) (ones_c rfl (ones_c rfl (ones_c rfl (ones_c (rd_row (hs.mem.del (.s .z))).isSl.one ones_n)))) Try.sizeOf69 rfl ?_; clear hs w a; intro a w hs
  refine st_as hs rfl rfl ?_; clear hs w a; intro a w hs
  refine wpList_nil ?_
  refine then_n (hK11 _ _ ?_)
  refine wp_seq_k fun K15 hK16 => ?_
  refine wp_region_lit ?_
  refine st_mv hs rfl rfl ?_; clear hs w a; intro a w hs
  refine st_call hs (.c rfl .n) Try.call42 .n (gmread_ok _ _ bs _ (hs.rd0 hb)) rfl ?_; clear hs w a; rintro _ _ a w ⟨v17, rfl, rfl⟩ hs; simp only [List.cons_append, List.nil_append] at hs
  have hk18 := gRead_le bs
  refine st_run 3 [(25, .int .i64 ((((gRead bs).e : Nat) : Int))), (24, .agg #[.int .i64 ((gRead bs).t), .int .i64 ((gRead bs).tm), .int .i64 ((gRead bs).b), v17])] hs .n (by kernel_rfl) (by kernel_rfl) (by kernel_rfl) ?_; clear hs a; intro a hs
  refine st_alloc (cs := [.int .i64 (0), .int .i64 (0), .int .i64 (0), .slice none 0 0]) hs Try.zeroValue69 rfl rfl ?_; clear hs w a; intro g19 a w hs
  refine st_stBA hs rfl rfl .z (.z (.c (.c (.c (.c .n))))) (ones_c rfl (ones_c rfl (ones_c rfl (ones_c (rd_row (hs.mem.del (.s .z))).isSl.one ones_n)))) Try.sizeOf69 rfl ?_; clear hs w a; intro a w hs
  refine st_as hs rfl rfl ?_; clear hs w a; intro a w hs
  refine wpList_nil ?_
  refine then_n (hK16 _ _ ?_)
  refine wp_seq_k fun K20 hK21 => ?_
  refine wp_region_lit ?_
  refine st_mv hs rfl rfl ?_; clear hs w a; intro a w hs
  refine st_call hs (.c rfl .n) Try.call43 .n (seal_ok _ _ bs _ (hs.rd0 hb) (by omega)) rfl ?_; clear hs w a; rintro v22 _ a w rfl hs; simp only [List.cons_append, List.nil_append] at hs
  refine st_as hs rfl rfl ?_; clear hs w a; intro a w hs
  refine wpList_nil ?_
  refine then_n (hK21 _ _ ?_)
  refine wp_seq_k fun K23 hK24 => ?_
  refine wp_region_lit ?_
  refine st_mv hs rfl rfl ?_; clear hs w a; intro a w hs
  refine st_call hs (.c rfl .n) Try.call41 .n (gread_ok _ _ (seal_ bs) _ (rd_row (hs.mem.del .z))) rfl ?_; clear hs w a; rintro _ _ a w ⟨v25, rfl, rfl⟩ hs; simp only [List.cons_append, List.nil_append] at hs
  have hk26 := gRead_le (seal_ bs)
  refine st_run 3 [(32, .int .i64 ((((gRead (seal_ bs)).e : Nat) : Int))), (31, .agg #[.int .i64 ((gRead (seal_ bs)).t), .int .i64 ((gRead (seal_ bs)).tm), .int .i64 ((gRead (seal_ bs)).b), v25])] hs .n (by kernel_rfl) (by kernel_rfl) (by kernel_rfl) ?_; clear hs a; intro a hs
  refine st_alloc (cs := [.int .i64 (0), .int .i64 (0), .int .i64 (0), .slice none 0 0]) hs Try.zeroValue69 rfl rfl ?_; clear hs w a; intro g27 a w hs
  refine st_stBA hs rfl rfl .z (.z (.c (.c (.c (.c .n))))) (ones_c rfl (ones_c rfl (ones_c rfl (ones_c (rd_row (hs.mem.del (.s .z))).isSl.one ones_n)))) Try.sizeOf69 rfl ?_; clear hs w a; intro a w hs
  refine st_as hs rfl rfl ?_; clear hs w a; intro a w hs
  refine wpList_nil ?_
  refine then_n (hK24 _ _ ?_)
  refine wp_seq_k fun K28 hK29 => ?_
  refine wp_region_lit ?_
  refine st_mv hs rfl rfl ?_; clear hs w a; intro a w hs
  refine st_call hs (.c rfl .n) Try.call42 .n (gmread_ok _ _ (seal_ bs) _ (rd_row (hs.mem.del (.s (.s .z))))) rfl ?_; clear hs w a; rintro _ _ a w ⟨v30, rfl, rfl⟩ hs; simp only [List.cons_append, List.nil_append] at hs
  have hk31 := gRead_le (seal_ bs)
  refine st_run 3 [(37, .int .i64 ((((gRead (seal_ bs)).e : Nat) : Int))), (36, .agg #[.int .i64 ((gRead (seal_ bs)).t), .int .i64 ((gRead (seal_ bs)).tm), .int .i64 ((gRead (seal_ bs)).b), v30])] hs .n (by kernel_rfl) (by kernel_rfl) (by kernel_rfl) ?_; clear hs a; intro a hs
  refine st_alloc (cs := [.int .i64 (0), .int .i64 (0), .int .i64 (0), .slice none 0 0]) hs Try.zeroValue69 rfl rfl ?_; clear hs w a; intro g32 a w hs
  refine st_stBA hs rfl rfl .z (.z (.c (.c (.c (.c .n))))) (ones_c rfl (ones_c rfl (ones_c rfl (ones_c (rd_row (hs.mem.del (.s .z))).isSl.one ones_n)))) Try.sizeOf69 rfl ?_; clear hs w a; intro a w hs
  refine st_as hs rfl rfl ?_; clear hs w a; intro a w hs
  refine wpList_nil ?_
  refine then_n (hK29 _ _ ?_)
  refine wp_seq_k fun K33 hK34 => ?_
  refine wp_region_lit ?_
  refine st_callP (v := .bool (true)) hs .n Try.call35 (alive09_ok _) rfl ?_; clear hs w a; intro a w hs
  refine st_run 3 [(41, .agg #[.int .i64 ((gRead bs).t), .int .i64 ((gRead bs).tm), .int .i64 ((gRead bs).b), v17]), (40, .agg #[.int .i64 ((gRead bs).t), .int .i64 ((gRead bs).tm), .int .i64 ((gRead bs).b), v12]), (39, .bool (true))] hs (.c (hs.mem.del (.s (.s (.s (.s (.s (.s (.s .z)))))))) (.c (hs.mem.del (.s (.s (.s (.s (.s .z)))))) .n)) (by kernel_rfl) (by kernel_rfl) (by kernel_rfl) ?_; clear hs a; intro a hs
  refine st_guardT hs rfl rfl rfl ?_
  refine st_callP (v := .bool (true)) hs (.c rfl (.c rfl .n)) Try.call44 (gsame_ok _ _ _ _ _ ((gRead bs).l) _ (rd_row (hs.mem.del (.s (.s (.s (.s (.s (.s (.s (.s .z)))))))))) (rd_row (hs.mem.del (.s (.s (.s (.s (.s (.s .z))))))))) rfl ?_; clear hs w a; intro a w hs
  refine st_run 5 [(47, .bool (((((gRead bs).e : Nat) : Int) : Int) == ((((gRead bs).e : Nat) : Int)))), (44, .bool (true))] hs .n (by kernel_rfl) (by kernel_rfl) (by kernel_rfl) ?_; clear hs a; intro a hs
  have hb_ : (((((gRead bs).e : Nat) : Int) : Int) == ((((gRead bs).e : Nat) : Int))) = true := beq_self_eq_true _
  rw [hb_] at hs; clear hb_
  refine st_run 4 [(51, .agg #[.int .i64 ((gRead (seal_ bs)).t), .int .i64 ((gRead (seal_ bs)).tm), .int .i64 ((gRead (seal_ bs)).b), v30]), (50, .agg #[.int .i64 ((gRead (seal_ bs)).t), .int .i64 ((gRead (seal_ bs)).tm), .int .i64 ((gRead (seal_ bs)).b), v25]), (49, .bool (true))] hs (.c (hs.mem.del (.s (.s .z))) (.c (hs.mem.del .z) .n)) (by kernel_rfl) (by kernel_rfl) (by kernel_rfl) ?_; clear hs a; intro a hs
  refine st_guardT hs rfl rfl rfl ?_
  refine st_callP (v := .bool (true)) hs (.c rfl (.c rfl .n)) Try.call44 (gsame_ok _ _ _ _ _ ((gRead (seal_ bs)).l) _ (rd_row (hs.mem.del (.s (.s (.s .z))))) (rd_row (hs.mem.del (.s .z)))) rfl ?_; clear hs w a; intro a w hs
  refine st_run 5 [(57, .bool (((((gRead (seal_ bs)).e : Nat) : Int) : Int) == ((((gRead (seal_ bs)).e : Nat) : Int)))), (54, .bool (true))] hs .n (by kernel_rfl) (by kernel_rfl) (by kernel_rfl) ?_; clear hs a; intro a hs
  have hb_ : (((((gRead (seal_ bs)).e : Nat) : Int) : Int) == ((((gRead (seal_ bs)).e : Nat) : Int))) = true := beq_self_eq_true _
  rw [hb_] at hs; clear hb_
  refine st_run 2 [(2, .bool (true))] hs .n (by kernel_rfl) (by kernel_rfl) (by kernel_rfl) ?_; clear hs a; intro a hs
  refine wpList_nil ?_
  refine then_n (hK34 _ _ ?_)
  refine wp_ret ?_
  replace hs := hs.drop (.c (.s (.s (.s (.s (.s (.s (.s (.s .z)))))))) (.c (.s (.s (.s (.s (.s (.s (.s .z))))))) (.c (.s (.s (.s (.s (.s (.s .z)))))) (.c (.s (.s (.s (.s (.s .z))))) (.c (.s (.s (.s (.s .z)))) (.c (.s (.s (.s .z))) (.c (.s (.s .z)) (.c (.s .z) (.c .z .n)))))))))
  exact fin hs rfl rfl ⟨rfl, rfl⟩
end Go.Proofs.Ytkobgcoegajfcaa
