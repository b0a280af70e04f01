/- Walks of the example of records: what each function does, over the program of this seat. Printed by a program of this session. -/
import Derived.Test.YtkobgcoegajfcaaWrec
namespace Go.Proofs.Ytkobgcoegajfcaa
open Go Go.Sx Go.RowKit
set_option linter.unusedVariables false
set_option linter.unusedSimpArgs false
set_option maxRecDepth 4000
set_option maxHeartbeats 1000000

theorem alive08_ok (w0 : World) : Calls Try.prog 20 #[] w0 (RetV w0 (.bool true)) := by
  refine enter (F0 := []) Try.func20 rfl rfl rfl .n (Mem.nil _) fun a w hs => ?_
  refine wp_seq_k fun K1 hK2 => ?_
  refine wp_region_lit ?_
  refine st_as hs rfl rfl ?_; clear hs w a; intro a w hs
  refine wpList_nil ?_
  refine then_n (hK2 _ _ ?_)
  refine wp_seq_k fun K3 hK4 => ?_
  refine wp_region_lit ?_
  refine st_buildA (it := Try.t22) (ie := Try.t2) (zs := [.int .i64 (0), .int .i64 (0), .int .i64 (0)]) (sz := 1) hs (.c rfl (.c rfl (.c rfl .n))) Try.underlying22 rfl rfl rfl rfl rfl (.c rfl rfl (.z (.c .n)) (.c rfl rfl (.s (.z (.c .n))) (.c rfl rfl (.s (.s (.z (.c .n)))) .n))) rfl ?_; clear hs w a; intro a w hs
  refine st_build (it := Try.t25) (zs := [.int .i64 (0), .int .i64 (0), .int .i64 (0), .int .i64 (0), .int .i64 (0), .int .i64 (0), .int .i64 (0), .int .i64 (0), .int .u16 (0)]) (places := [(0, 1), (1, 1), (2, 3), (5, 3), (8, 1)]) hs (.c rfl (.c rfl (.c rfl .n))) Try.underlying25 rfl rfl rfl rfl (.c rfl rfl (.z (.c .n)) (.c rfl rfl (.s (.z (.c .n))) (.c rfl rfl (.s (.s (.z (.c (.c (.c .n)))))) .n))) rfl ?_; clear hs w a; intro a w hs
  refine st_call hs (.c rfl (.c rfl .n)) Try.call18 .n (write_ok (⟨1, 5, 1, 0, 0, 0, 0, 0, 0#16⟩ : RecR) 3 _ (wf_mk (by omega) (by omega) (by omega) (by omega) (by omega) (by omega) (by omega) (by omega)) (by omega)) rfl ?_; clear hs w a; rintro _ _ a w ⟨v5, rfl, rfl⟩ hs; simp only [List.cons_append, List.nil_append] at hs
  have hk6 := length_recB (⟨1, 5, 1, 0, 0, 0, 0, 0, 0#16⟩ : RecR) 3
  refine st_mv hs rfl rfl ?_; clear hs w a; intro a w hs
  refine st_ex hs rfl .z rfl ?_; clear hs w a; intro a w hs
  refine st_ex hs rfl (.s .z) rfl ?_; clear hs w a; intro a w hs
  refine st_as hs rfl rfl ?_; clear hs w a; intro a w hs
  refine st_as hs rfl rfl ?_; clear hs w a; intro a w hs
  refine wpList_nil ?_
  refine then_n (hK4 _ _ ?_)
  refine wp_seq_k fun K7 hK8 => ?_
  refine wp_region_lit ?_
  refine st_build (it := Try.t25) (zs := [.int .i64 (0), .int .i64 (0), .int .i64 (0), .int .i64 (0), .int .i64 (0), .int .i64 (0), .int .i64 (0), .int .i64 (0), .int .u16 (0)]) (places := [(0, 1), (1, 1), (2, 3), (5, 3), (8, 1)]) hs (.c rfl (.c rfl .n)) Try.underlying25 rfl rfl rfl rfl (.c rfl rfl (.z (.c .n)) (.c rfl rfl (.s (.z (.c .n))) .n)) rfl ?_; clear hs w a; intro a w hs
  refine st_call hs (.c rfl (.c rfl .n)) Try.call18 .n (write_ok (⟨2, 5, 0, 0, 0, 0, 0, 0, 0#16⟩ : RecR) 4 _ (wf_mk (by omega) (by omega) (by omega) (by omega) (by omega) (by omega) (by omega) (by omega)) (by omega)) rfl ?_; clear hs w a; rintro _ _ a w ⟨v9, rfl, rfl⟩ hs; simp only [List.cons_append, List.nil_append] at hs
  have hk10 := length_recB (⟨2, 5, 0, 0, 0, 0, 0, 0, 0#16⟩ : RecR) 4
  refine st_mv hs rfl rfl ?_; clear hs w a; intro a w hs
  refine st_ex hs rfl .z rfl ?_; clear hs w a; intro a w hs
  refine st_ex hs rfl (.s .z) rfl ?_; clear hs w a; intro a w hs
  refine st_as hs rfl rfl ?_; clear hs w a; intro a w hs
  refine st_as hs rfl rfl ?_; clear hs w a; intro a w hs
  refine wpList_nil ?_
  refine then_n (hK8 _ _ ?_)
  refine wp_seq_k fun K11 hK12 => ?_
  refine wp_region_lit ?_
  refine st_mv hs rfl rfl ?_; clear hs w a; intro a w hs
  refine st_eql hs rfl rfl rfl ?_; clear hs w a; intro a w hs
  have hb_ : ((((recErr (⟨1, 5, 1, 0, 0, 0, 0, 0, 0#16⟩ : RecR) 3 : Nat) : Int) : Int) == 0) = true := by decide +kernel
  rw [hb_] at hs; clear hb_
  refine st_mv hs rfl rfl ?_; clear hs w a; intro a w hs
  refine st_guardT hs rfl rfl rfl ?_
  refine st_mv hs rfl rfl ?_; clear hs w a; intro a w hs
  refine st_guardT hs rfl rfl rfl ?_
  refine st_str (bs := (recB (⟨1, 5, 1, 0, 0, 0, 0, 0, 0#16⟩ : RecR) 3)) hs rfl (rd_row (hs.mem.del (.s .z))) Try.underlying26 Try.underlying5 Try.underlying9 rfl ?_; clear hs w a; intro a w hs
  refine st_guardT hs rfl rfl rfl ?_
  refine st_eqs (p := strB ((recB (⟨1, 5, 1, 0, 0, 0, 0, 0, 0#16⟩ : RecR) 3))) (q := strB [1#8, 1#8, 1#8, 2#8]) hs rfl rfl rfl ?_; clear hs w a; intro a w hs
  have hb_ : ((strB ((recB (⟨1, 5, 1, 0, 0, 0, 0, 0, 0#16⟩ : RecR) 3))).toList == (strB [1#8, 1#8, 1#8, 2#8]).toList) = true := by rw [strB_eq]; decide +kernel
  rw [hb_] at hs; clear hb_
  refine st_pickT hs rfl rfl rfl ?_; clear hs w a; intro a w hs
  refine st_mv hs rfl rfl ?_; clear hs w a; intro a w hs
  refine st_guardT hs rfl rfl rfl ?_
  refine st_mv hs rfl rfl ?_; clear hs w a; intro a w hs
  refine st_guardT hs rfl rfl rfl ?_
  refine st_eql hs rfl rfl rfl ?_; clear hs w a; intro a w hs
  have hb_ : ((((recErr (⟨2, 5, 0, 0, 0, 0, 0, 0, 0#16⟩ : RecR) 4 : Nat) : Int) : Int) == 0) = true := by decide +kernel
  rw [hb_] at hs; clear hb_
  refine st_pickT hs rfl rfl rfl ?_; clear hs w a; intro a w hs
  refine st_mv hs rfl rfl ?_; clear hs w a; intro a w hs
  refine st_guardT hs rfl rfl rfl ?_
  refine st_mv hs rfl rfl ?_; clear hs w a; intro a w hs
  refine st_guardT hs rfl rfl rfl ?_
  refine st_str (bs := (recB (⟨2, 5, 0, 0, 0, 0, 0, 0, 0#16⟩ : RecR) 4)) hs rfl (rd_row (hs.mem.del .z)) Try.underlying26 Try.underlying5 Try.underlying9 rfl ?_; clear hs w a; intro a w hs
  refine st_guardT hs rfl rfl rfl ?_
  refine st_eqs (p := strB ((recB (⟨2, 5, 0, 0, 0, 0, 0, 0, 0#16⟩ : RecR) 4))) (q := strB [0#8, 2#8]) hs rfl rfl rfl ?_; clear hs w a; intro a w hs
  have hb_ : ((strB ((recB (⟨2, 5, 0, 0, 0, 0, 0, 0, 0#16⟩ : RecR) 4))).toList == (strB [0#8, 2#8]).toList) = true := by rw [strB_eq]; decide +kernel
  rw [hb_] at hs; clear hb_
  refine st_pickT hs rfl rfl rfl ?_; clear hs w a; intro a w hs
  refine st_as hs rfl rfl ?_; clear hs w a; intro a w hs
  refine wpList_nil ?_
  refine then_n (hK12 _ _ ?_)
  refine wp_ret ?_
  replace hs := hs.drop (.c (.s .z) (.c .z .n))
  exact fin hs rfl rfl ⟨rfl, rfl⟩
end Go.Proofs.Ytkobgcoegajfcaa
