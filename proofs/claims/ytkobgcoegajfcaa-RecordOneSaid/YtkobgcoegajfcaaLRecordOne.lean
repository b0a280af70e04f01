/- Walks of RecordOne: what each function does, over the program of this seat. Printed by a program of this session. -/
import Derived.Test.YtkobgcoegajfcaaWrec2
import Derived.Test.YtkobgcoegajfcaaWrec5
import Derived.Test.YtkobgcoegajfcaaSxRrec
namespace Go.Proofs.Ytkobgcoegajfcaa
open Go Go.Sx Go.RowKit
set_option linter.unusedVariables false
set_option linter.unusedSimpArgs false
set_option maxRecDepth 4000
set_option maxHeartbeats 1000000

theorem recordOne_ok (v : Value) (m : Nat) (bs : List Byte) (last : Int) (w0 : World) (hb : Rd w0 [] v 1 m (bytesV bs)) (hl : -9223372036854775808 ≤ last ∧ last ≤ 9223372036854775807) : Calls Try.prog 7 #[v, .int .i64 last] w0 (RetV w0 (.bool true)) := by
  have hbl : bs.length = m := by have := hb.len; simpa [bytesV] using this
  have hbe : m ≤ maxLen := hb.le
  simp only [maxLen] at hbe
  refine enter (F0 := [(0, v), (1, .int .i64 (last))]) Try.func7 rfl rfl rfl (.c (.c .n)) (Mem.nil _) fun a w hs => ?_
  refine wp_seq_k fun K1 hK2 => ?_
  refine wp_region_lit ?_
  refine st_as hs rfl rfl ?_; clear hs w a; intro a w hs
  refine wpList_nil ?_
  refine then_n (hK2 _ _ ?_)
  refine wp_seq_k fun K3 hK4 => ?_
  refine wp_region_lit ?_
  refine st_mv hs rfl rfl ?_; clear hs w a; intro a w hs
  refine st_call hs (.c rfl .n) Try.call25 .n (new_ok _ _ bs _ (hs.rd0 hb)) rfl ?_; clear hs w a; rintro _ _ a w ⟨g5, rfl, rfl⟩ hs; simp only [List.cons_append, List.nil_append] at hs
  have hleg5 : (⟨0, 0⟩ : Rs).p ≤ bs.length := Nat.zero_le _
  refine st_as hs rfl rfl ?_; clear hs w a; intro a w hs
  refine wpList_nil ?_
  refine then_n (hK4 _ _ ?_)
  refine wp_seq_k fun K6 hK7 => ?_
  refine wp_seq_k fun K8 hK9 => ?_
  refine wp_region_lit ?_
  refine st_callP (v := .bool (true)) hs .n Try.call20 (alive08_ok _) rfl ?_; clear hs w a; intro a w hs
  refine st_not hs rfl rfl ?_; clear hs w a; intro a w hs
  refine st_mv hs rfl rfl ?_; clear hs w a; intro a w hs
  refine st_part (b := !(true)) (fun hc10 => ?_) (fun hc10 => ?_)
  ·
   rw [hc10] at hs
   replace hc10 := not_t hc10
   refine st_guardF hs rfl rfl rfl rfl rfl ?_; clear hs w a; intro a w hs
   refine st_guardF hs rfl rfl rfl rfl rfl ?_; clear hs w a; intro a w hs
   refine st_pickT hs rfl rfl rfl ?_; clear hs w a; intro a w hs
   refine st_mv hs rfl rfl ?_; clear hs w a; intro a w hs
   refine st_guardF hs rfl rfl rfl rfl rfl ?_; clear hs w a; intro a w hs
   refine st_guardF hs rfl rfl rfl rfl rfl ?_; clear hs w a; intro a w hs
   refine st_guardF hs rfl rfl rfl rfl rfl ?_; clear hs w a; intro a w hs
   refine st_pickT hs rfl rfl rfl ?_; clear hs w a; intro a w hs
   refine wpList_nil ?_
   refine then_n (hK9 _ _ ?_)
   refine wp_cond_true (hs.ev rfl) ?_
   refine wp_seq_k fun K11 hK12 => ?_
   refine wp_region_lit ?_
   refine st_callP (v := .bool (true)) hs .n Try.call20 (alive08_ok _) rfl ?_; clear hs w a; intro a w hs
   refine st_as hs rfl rfl ?_; clear hs w a; intro a w hs
   refine wpList_nil ?_
   refine then_n (hK12 _ _ ?_)
   refine wp_ret ?_
   refine th_r ?_
   replace hs := hs.drop (.c .z .n)
   exact fin hs rfl rfl ⟨rfl, rfl⟩
  rw [hc10] at hs
  replace hc10 := not_f hc10
  refine st_guardT hs rfl rfl rfl ?_
  refine st_mv hs rfl rfl ?_; clear hs w a; intro a w hs
  refine st_guardT hs rfl rfl rfl ?_
  refine st_eqnil hs rfl rfl Try.underlying40 rfl ?_; clear hs w a; intro a w hs
  refine st_pickF hs rfl rfl rfl ?_; clear hs w a; intro a w hs
  refine st_mv hs rfl rfl ?_; clear hs w a; intro a w hs
  refine st_guardT hs rfl rfl rfl ?_
  refine st_mv hs rfl rfl ?_; clear hs w a; intro a w hs
  refine st_guardT hs rfl rfl rfl ?_
  refine st_len hs rfl (hs.rd0 hb).isSl Try.underlying26 rfl ?_; clear hs w a; intro a w hs
  refine st_guardT hs rfl rfl rfl ?_
  refine st_gtr hs rfl rfl rfl ?_; clear hs w a; intro a w hs
  refine st_pickF hs rfl rfl rfl ?_; clear hs w a; intro a w hs
  refine wpList_nil ?_
  refine then_n (hK9 _ _ ?_)
  refine wp_if hs rfl (fun hc13 => ?_) (fun hc13 => ?_)
  ·
   replace hc13 := of_decide_eq_true hc13
   refine wp_seq_k fun K14 hK15 => ?_
   refine wp_region_lit ?_
   refine st_callP (v := .bool (true)) hs .n Try.call20 (alive08_ok _) rfl ?_; clear hs w a; intro a w hs
   refine st_as hs rfl rfl ?_; clear hs w a; intro a w hs
   refine wpList_nil ?_
   refine then_n (hK15 _ _ ?_)
   refine wp_ret ?_
   refine th_r ?_
   replace hs := hs.drop (.c .z .n)
   exact fin hs rfl rfl ⟨rfl, rfl⟩
  replace hc13 := of_decide_eq_false hc13
  refine wp_skip ?_
  refine then_n (hK7 _ _ ?_)
  refine wp_seq_k fun K16 hK17 => ?_
  refine wp_region_lit ?_
  refine st_mv hs rfl rfl ?_; clear hs w a; intro a w hs
  refine st_mv hs rfl rfl ?_; clear hs w a; intro a w hs
  refine st_call hs (.c rfl (.c rfl .n)) Try.call26 (.c .z .n) (read_ok g5 _ _ bs (⟨0, 0⟩ : Rs) last _ (hs.mem.rd1 hb (.c .z .n)) (hs.mem.del .z) (by omega) (by omega)) rfl ?_; clear hs w a; rintro _ _ a w ⟨rfl, rfl⟩ hs; simp only [List.cons_append, List.nil_append] at hs
  have hk18 := rdRec_le (bs := bs) (last := last) (R := (⟨0, 0⟩ : Rs)) (by omega)
  refine st_mv hs rfl rfl ?_; clear hs w a; intro a w hs
  refine st_ex hs rfl .z rfl ?_; clear hs w a; intro a w hs
  refine st_ex hs rfl (.s .z) rfl ?_; clear hs w a; intro a w hs
  refine st_alloc (cs := [.int .i64 (0), .int .i64 (0), .int .i64 (0), .int .i64 (0), .int .i64 (0), .int .i64 (0), .int .i64 (0), .int .i64 (0), .int .u16 (0)]) hs Try.zeroValue25 rfl rfl ?_; clear hs w a; intro g19 a w hs
  refine st_stBA hs rfl rfl .z (.z (.c (.c (.c (.c (.c (.c (.c (.c (.c .n)))))))))) (ones_c rfl (ones_c rfl (ones_c rfl (ones_c rfl (ones_c rfl (ones_c rfl (ones_c rfl (ones_c rfl (ones_c rfl ones_n))))))))) Try.sizeOf25 rfl ?_; clear hs w a; intro a w hs
  refine st_as hs rfl rfl ?_; clear hs w a; intro a w hs
  refine wpList_nil ?_
  refine then_n (hK17 _ _ ?_)
  refine wp_seq_k fun K20 hK21 => ?_
  refine wp_seq_k fun K22 hK23 => ?_
  refine wp_region_lit ?_
  refine st_mv hs rfl rfl ?_; clear hs w a; intro a w hs
  refine st_neq hs rfl rfl rfl ?_; clear hs w a; intro a w hs
  refine wpList_nil ?_
  refine then_n (hK23 _ _ ?_)
  refine wp_if hs rfl (fun hc24 => ?_) (fun hc24 => ?_)
  ·
   replace hc24 := not_t hc24
   replace hc24 := ne_of_beq_f hc24
   refine wp_seq_k fun K25 hK26 => ?_
   refine wp_region_lit ?_
   refine st_ldBA hs rfl .z (.z (.c (.c (.c (.c (.c (.c (.c (.c (.c .n)))))))))) Try.isAgg25 Try.sizeOf25 rfl ?_; clear hs w a; intro a w hs
   refine st_build (it := Try.t25) (zs := [.int .i64 (0), .int .i64 (0), .int .i64 (0), .int .i64 (0), .int .i64 (0), .int .i64 (0), .int .i64 (0), .int .i64 (0), .int .u16 (0)]) (places := [(0, 1), (1, 1), (2, 3), (5, 3), (8, 1)]) hs .n Try.underlying25 rfl rfl rfl rfl .n rfl ?_; clear hs w a; intro a w hs
   refine st_eqF (xs := [.int .i64 (((rdRec bs last (⟨0, 0⟩ : Rs)).1).k), .int .i64 (((rdRec bs last (⟨0, 0⟩ : Rs)).1).id), .int .i64 (((rdRec bs last (⟨0, 0⟩ : Rs)).1).p0), .int .i64 (((rdRec bs last (⟨0, 0⟩ : Rs)).1).p1), .int .i64 (((rdRec bs last (⟨0, 0⟩ : Rs)).1).p2), .int .i64 (((rdRec bs last (⟨0, 0⟩ : Rs)).1).v0), .int .i64 (((rdRec bs last (⟨0, 0⟩ : Rs)).1).v1), .int .i64 (((rdRec bs last (⟨0, 0⟩ : Rs)).1).v2), .int .u16 ((((((rdRec bs last (⟨0, 0⟩ : Rs)).1).a).toNat : Nat) : Int))]) (ys := [.int .i64 (0), .int .i64 (0), .int .i64 (0), .int .i64 (0), .int .i64 (0), .int .i64 (0), .int .i64 (0), .int .i64 (0), .int .u16 (0)]) (ks := [.i .i64, .i .i64, .i .i64, .i .i64, .i .i64, .i .i64, .i .i64, .i .i64, .i .u16]) 6 hs rfl rfl (by kernel_rfl) (by kernel_rfl) (by kernel_rfl) (by decide) (.i (.i (.i (.i (.i (.i (.i (.i (.i .n))))))))) (.i (.i (.i (.i (.i (.i (.i (.i (.i .n))))))))) rfl ?_; clear hs w a; intro a w hs
   have hb_ : (eqCells [.int .i64 (((rdRec bs last (⟨0, 0⟩ : Rs)).1).k), .int .i64 (((rdRec bs last (⟨0, 0⟩ : Rs)).1).id), .int .i64 (((rdRec bs last (⟨0, 0⟩ : Rs)).1).p0), .int .i64 (((rdRec bs last (⟨0, 0⟩ : Rs)).1).p1), .int .i64 (((rdRec bs last (⟨0, 0⟩ : Rs)).1).p2), .int .i64 (((rdRec bs last (⟨0, 0⟩ : Rs)).1).v0), .int .i64 (((rdRec bs last (⟨0, 0⟩ : Rs)).1).v1), .int .i64 (((rdRec bs last (⟨0, 0⟩ : Rs)).1).v2), .int .u16 ((((((rdRec bs last (⟨0, 0⟩ : Rs)).1).a).toNat : Nat) : Int))] [.int .i64 (0), .int .i64 (0), .int .i64 (0), .int .i64 (0), .int .i64 (0), .int .i64 (0), .int .i64 (0), .int .i64 (0), .int .u16 (0)]) = true := by rw [rdRec_z (by omega)]; rfl
   rw [hb_] at hs; clear hb_
   refine st_as hs rfl rfl ?_; clear hs w a; intro a w hs
   refine wpList_nil ?_
   refine then_n (hK26 _ _ ?_)
   refine wp_ret ?_
   refine th_r ?_
   replace hs := hs.drop (.c (.s .z) (.c .z .n))
   exact fin hs rfl rfl ⟨rfl, rfl⟩
  replace hc24 := not_f hc24
  replace hc24 := eq_of_beq hc24
  have hbk := rd_back' (bs := bs) (last := last) (by omega)
  refine wp_skip ?_
  refine then_n (hK21 _ _ ?_)
  refine wp_seq_k fun K27 hK28 => ?_
  refine wp_region_lit ?_
  refine st_ldBA hs rfl .z (.z (.c (.c (.c (.c (.c (.c (.c (.c (.c .n)))))))))) Try.isAgg25 Try.sizeOf25 rfl ?_; clear hs w a; intro a w hs
  refine st_mv hs rfl rfl ?_; clear hs w a; intro a w hs
  refine st_call hs (.c rfl (.c rfl .n)) Try.call18 .n (write_ok (((rdRec bs last (⟨0, 0⟩ : Rs)).1)) last _ (rdRec_wf (by omega)) (by omega)) rfl ?_; clear hs w a; rintro _ _ a w ⟨v29, rfl, rfl⟩ hs; simp only [List.cons_append, List.nil_append] at hs
  have hk30 := length_recB (((rdRec bs last (⟨0, 0⟩ : Rs)).1)) last
  refine st_mv hs rfl rfl ?_; clear hs w a; intro a w hs
  refine st_ex hs rfl .z rfl ?_; clear hs w a; intro a w hs
  refine st_ex hs rfl (.s .z) rfl ?_; clear hs w a; intro a w hs
  refine st_as hs rfl rfl ?_; clear hs w a; intro a w hs
  refine st_as hs rfl rfl ?_; clear hs w a; intro a w hs
  refine wpList_nil ?_
  refine then_n (hK28 _ _ ?_)
  refine wp_seq_k fun K31 hK32 => ?_
  refine wp_region_lit ?_
  refine st_mv hs rfl rfl ?_; clear hs w a; intro a w hs
  refine st_callP (v := .int .i64 ((((((rdRec bs last (⟨0, 0⟩ : Rs)).2.2)).p : Nat) : Int))) hs (.c rfl .n) Try.call29 (rat_ok g5 _ _ bs (((rdRec bs last (⟨0, 0⟩ : Rs)).2.2)) _ (hs.rd0 hb) (hs.mem.del (.s (.s .z))) (by omega)) rfl ?_; clear hs w a; intro a w hs
  refine st_as hs rfl rfl ?_; clear hs w a; intro a w hs
  refine wpList_nil ?_
  refine then_n (hK32 _ _ ?_)
  refine wp_seq_k fun K33 hK34 => ?_
  replace hs := hs.sub (F' := [(10, .int .i64 ((((((rdRec bs last (⟨0, 0⟩ : Rs)).2.2)).p : Nat) : Int))), (9, .int .i64 (((recErr (((rdRec bs last (⟨0, 0⟩ : Rs)).1)) last : Nat) : Int))), (8, v29), (6, .pointer (some ⟨g19, 0, none⟩)), (0, v)]) (.c rfl (.c rfl (.c rfl (.c rfl (.c rfl .n)))))
  refine wp_drawG (M0 := [row v29 5 1 ((recB (((rdRec bs last (⟨0, 0⟩ : Rs)).1)) last).length) (bytesV (recB (((rdRec bs last (⟨0, 0⟩ : Rs)).1)) last)), blk g19 [.int .i64 (((rdRec bs last (⟨0, 0⟩ : Rs)).1).k), .int .i64 (((rdRec bs last (⟨0, 0⟩ : Rs)).1).id), .int .i64 (((rdRec bs last (⟨0, 0⟩ : Rs)).1).p0), .int .i64 (((rdRec bs last (⟨0, 0⟩ : Rs)).1).p1), .int .i64 (((rdRec bs last (⟨0, 0⟩ : Rs)).1).p2), .int .i64 (((rdRec bs last (⟨0, 0⟩ : Rs)).1).v0), .int .i64 (((rdRec bs last (⟨0, 0⟩ : Rs)).1).v1), .int .i64 (((rdRec bs last (⟨0, 0⟩ : Rs)).1).v2), .int .u16 ((((((rdRec bs last (⟨0, 0⟩ : Rs)).1).a).toNat : Nat) : Int))] 25, blk g5 [v, .int .i64 (((((rdRec bs last (⟨0, 0⟩ : Rs)).2.2).p : Nat) : Int)), .int .i64 (((((rdRec bs last (⟨0, 0⟩ : Rs)).2.2).e : Nat) : Int))] 100]) (Ds := [Pv 0 (.int .i64 (((recErr (((rdRec bs last (⟨0, 0⟩ : Rs)).1)) last : Nat) : Int))), Pv 1 (.bool (true)), Pv 2 (.bool (true)), Pv 3 (.agg #[.int .i64 (((rdRec bs last (⟨0, 0⟩ : Rs)).1).k), .int .i64 (((rdRec bs last (⟨0, 0⟩ : Rs)).1).id), .int .i64 (((rdRec bs last (⟨0, 0⟩ : Rs)).1).p0), .int .i64 (((rdRec bs last (⟨0, 0⟩ : Rs)).1).p1), .int .i64 (((rdRec bs last (⟨0, 0⟩ : Rs)).1).p2), .int .i64 (((rdRec bs last (⟨0, 0⟩ : Rs)).1).v0), .int .i64 (((rdRec bs last (⟨0, 0⟩ : Rs)).1).v1), .int .i64 (((rdRec bs last (⟨0, 0⟩ : Rs)).1).v2), .int .u16 ((((((rdRec bs last (⟨0, 0⟩ : Rs)).1).a).toNat : Nat) : Int))]), Pv 4 (.int .i64 (((recChk (((rdRec bs last (⟨0, 0⟩ : Rs)).1)) : Nat) : Int))), Pv 5 (.bool (true)), Pv 6 (.bool (true)), Pv 7 (.bool (true)), Pv 8 (.int .i64 ((((((rdRec bs last (⟨0, 0⟩ : Rs)).2.2)).p : Nat) : Int))), Pv 9 (.bool (true)), Pv 10 (.bool (true)), Pv 11 (.bool (true)), Pv 12 (.int .i64 ((((((rdRec bs last (⟨0, 0⟩ : Rs)).2.2)).p : Nat) : Int))), Pv 13 v, Pv 14 (.int .i64 ((m : Int))), Pv 15 (.bool (true)), Pv 16 (.bool (true)), Pv 17 (.bool (true)), Pv 18 v29, Pv 19 (.string (strB ((recB (((rdRec bs last (⟨0, 0⟩ : Rs)).1)) last)))), Pv 20 v, Pv 21 (.int .i64 ((((((rdRec bs last (⟨0, 0⟩ : Rs)).2.2)).p : Nat) : Int))), Pv 22 (slcV v 1 0 ((((rdRec bs last (⟨0, 0⟩ : Rs)).2.2)).p)), Pv 23 (.string (strB ((bs.take ((((rdRec bs last (⟨0, 0⟩ : Rs)).2.2)).p))))), Pv 24 (.bool (true)), Pv 25 (.bool (true)), Pv 26 (.bool (true))]) (by kernel_rfl) hs rfl .n (by kernel_rfl) (by kernel_rfl) (by kernel_rfl) ?_ ?_
  ·
   refine (.c ?_ (.c ?_ (.c ?_ (.c ?_ (.c ?_ (.c ?_ (.c ?_ (.c ?_ (.c ?_ (.c ?_ (.c ?_ (.c ?_ (.c ?_ (.c ?_ (.c ?_ (.c ?_ (.c ?_ (.c ?_ (.c ?_ (.c ?_ (.c ?_ (.c ?_ (.c ?_ (.c ?_ (.c ?_ (.c ?_ (.c ?_ .n)))))))))))))))))))))))))))
   ·
    intro a_ w_ R_ rest_ vs35 hm hs ht hx
    have hm0 := hm.mid
    have hs0 := hs.bare
    refine st_mv hs rfl rfl ?_; clear hs; intro a w hs
    exact wpList_nil ⟨rfl, _, _, hs0, .r, hs, rfl⟩
   ·
    intro a_ w_ R_ rest_ vs35 hm hs ht hx
    have hm0 := hm.mid
    have t0 := ht 0 (twB_spec 27 _ (by kernel_rfl))
    have e0 : _ = some (vs35 0) := t0.val rfl
    rw [show vs35 0 = .int .i64 (((recErr (((rdRec bs last (⟨0, 0⟩ : Rs)).1)) last : Nat) : Int)) from t0.2.1] at e0
    replace hs := hs.learn e0
    have hs0 := hs.bare
    refine st_eql hs rfl rfl rfl ?_; clear hs; intro a w hs
    have hb_ : ((((recErr (((rdRec bs last (⟨0, 0⟩ : Rs)).1)) last : Nat) : Int) : Int) == 0) = true := by rw [hbk.1]; rfl
    rw [hb_] at hs; clear hb_
    exact wpList_nil ⟨rfl, _, _, hs0, (.c .r), hs, rfl⟩
   ·
    intro a_ w_ R_ rest_ vs35 hm hs ht hx
    have hm0 := hm.mid
    have t1 := ht 1 (twB_spec 27 _ (by kernel_rfl))
    have e1 : _ = some (vs35 1) := t1.val rfl
    rw [show vs35 1 = .bool (true) from t1.2.1] at e1
    replace hs := hs.learn e1
    have hs0 := hs.bare
    refine st_mv hs rfl rfl ?_; clear hs; intro a w hs
    exact wpList_nil ⟨rfl, _, _, hs0, (.c .r), hs, rfl⟩
   ·
    intro a_ w_ R_ rest_ vs35 hm hs ht hx
    have hm0 := hm.mid
    have t2 := ht 2 (twB_spec 27 _ (by kernel_rfl))
    have e2 : _ = some (vs35 2) := t2.val rfl
    rw [show vs35 2 = .bool (true) from t2.2.1] at e2
    replace hs := hs.learn e2
    have hs0 := hs.bare
    refine st_guardT hs rfl rfl rfl ?_
    refine st_ldEA hs rfl (hm0.del (.s .z)) (.z (.c (.c (.c (.c (.c (.c (.c (.c (.c .n)))))))))) Try.isAgg25 Try.sizeOf25 rfl ?_; clear hs; intro a w hs
    exact wpList_nil ⟨rfl, _, _, hs0, (.c .r), hs, rfl⟩
   ·
    intro a_ w_ R_ rest_ vs35 hm hs ht hx
    have hm0 := hm.mid
    have t2 := ht 2 (twB_spec 27 _ (by kernel_rfl))
    have e2 : _ = some (vs35 2) := t2.val rfl
    rw [show vs35 2 = .bool (true) from t2.2.1] at e2
    replace hs := hs.learn e2
    have t3 := ht 3 (twB_spec 27 _ (by kernel_rfl))
    have e3 : _ = some (vs35 3) := t3.val rfl
    rw [show vs35 3 = .agg #[.int .i64 (((rdRec bs last (⟨0, 0⟩ : Rs)).1).k), .int .i64 (((rdRec bs last (⟨0, 0⟩ : Rs)).1).id), .int .i64 (((rdRec bs last (⟨0, 0⟩ : Rs)).1).p0), .int .i64 (((rdRec bs last (⟨0, 0⟩ : Rs)).1).p1), .int .i64 (((rdRec bs last (⟨0, 0⟩ : Rs)).1).p2), .int .i64 (((rdRec bs last (⟨0, 0⟩ : Rs)).1).v0), .int .i64 (((rdRec bs last (⟨0, 0⟩ : Rs)).1).v1), .int .i64 (((rdRec bs last (⟨0, 0⟩ : Rs)).1).v2), .int .u16 ((((((rdRec bs last (⟨0, 0⟩ : Rs)).1).a).toNat : Nat) : Int))] from t3.2.1] at e3
    replace hs := hs.learn e3
    have hs0 := hs.bare
    refine st_guardT hs rfl rfl rfl ?_
    refine st_callP (v := .int .i64 (((recChk (((rdRec bs last (⟨0, 0⟩ : Rs)).1)) : Nat) : Int))) hs (.c rfl .n) Try.call21 (chk_ok (((rdRec bs last (⟨0, 0⟩ : Rs)).1)) _) rfl ?_; clear hs; intro a w hs
    exact wpList_nil ⟨rfl, _, _, hs0, (.c (.c .r)), hs, rfl⟩
   ·
    intro a_ w_ R_ rest_ vs35 hm hs ht hx
    have hm0 := hm.mid
    have t2 := ht 2 (twB_spec 27 _ (by kernel_rfl))
    have e2 : _ = some (vs35 2) := t2.val rfl
    rw [show vs35 2 = .bool (true) from t2.2.1] at e2
    replace hs := hs.learn e2
    have t4 := ht 4 (twB_spec 27 _ (by kernel_rfl))
    have e4 : _ = some (vs35 4) := t4.val rfl
    rw [show vs35 4 = .int .i64 (((recChk (((rdRec bs last (⟨0, 0⟩ : Rs)).1)) : Nat) : Int)) from t4.2.1] at e4
    replace hs := hs.learn e4
    have hs0 := hs.bare
    refine st_guardT hs rfl rfl rfl ?_
    refine st_eql hs rfl rfl rfl ?_; clear hs; intro a w hs
    have hb_ : ((((recChk (((rdRec bs last (⟨0, 0⟩ : Rs)).1)) : Nat) : Int) : Int) == 0) = true := by rw [hbk.2.2.1]; rfl
    rw [hb_] at hs; clear hb_
    exact wpList_nil ⟨rfl, _, _, hs0, (.c (.c .r)), hs, rfl⟩
   ·
    intro a_ w_ R_ rest_ vs35 hm hs ht hx
    have hm0 := hm.mid
    have t2 := ht 2 (twB_spec 27 _ (by kernel_rfl))
    have e2 : _ = some (vs35 2) := t2.val rfl
    rw [show vs35 2 = .bool (true) from t2.2.1] at e2
    replace hs := hs.learn e2
    have t5 := ht 5 (twB_spec 27 _ (by kernel_rfl))
    have e5 : _ = some (vs35 5) := t5.val rfl
    rw [show vs35 5 = .bool (true) from t5.2.1] at e5
    replace hs := hs.learn e5
    have hs0 := hs.bare
    refine st_pickT hs rfl rfl rfl ?_; clear hs; intro a w hs
    exact wpList_nil ⟨rfl, _, _, hs0, (.c (.c .r)), hs, rfl⟩
   ·
    intro a_ w_ R_ rest_ vs35 hm hs ht hx
    have hm0 := hm.mid
    have t6 := ht 6 (twB_spec 27 _ (by kernel_rfl))
    have e6 : _ = some (vs35 6) := t6.val rfl
    rw [show vs35 6 = .bool (true) from t6.2.1] at e6
    replace hs := hs.learn e6
    have hs0 := hs.bare
    refine st_mv hs rfl rfl ?_; clear hs; intro a w hs
    exact wpList_nil ⟨rfl, _, _, hs0, (.c .r), hs, rfl⟩
   ·
    intro a_ w_ R_ rest_ vs35 hm hs ht hx
    have hm0 := hm.mid
    have t7 := ht 7 (twB_spec 27 _ (by kernel_rfl))
    have e7 : _ = some (vs35 7) := t7.val rfl
    rw [show vs35 7 = .bool (true) from t7.2.1] at e7
    replace hs := hs.learn e7
    have hs0 := hs.bare
    refine st_guardT hs rfl rfl rfl ?_
    refine st_mv hs rfl rfl ?_; clear hs; intro a w hs
    exact wpList_nil ⟨rfl, _, _, hs0, (.c .r), hs, rfl⟩
   ·
    intro a_ w_ R_ rest_ vs35 hm hs ht hx
    have hm0 := hm.mid
    have t7 := ht 7 (twB_spec 27 _ (by kernel_rfl))
    have e7 : _ = some (vs35 7) := t7.val rfl
    rw [show vs35 7 = .bool (true) from t7.2.1] at e7
    replace hs := hs.learn e7
    have t8 := ht 8 (twB_spec 27 _ (by kernel_rfl))
    have e8 : _ = some (vs35 8) := t8.val rfl
    rw [show vs35 8 = .int .i64 ((((((rdRec bs last (⟨0, 0⟩ : Rs)).2.2)).p : Nat) : Int)) from t8.2.1] at e8
    replace hs := hs.learn e8
    have hs0 := hs.bare
    refine st_guardT hs rfl rfl rfl ?_
    refine st_geq hs rfl rfl rfl ?_; clear hs; intro a w hs
    have hb_ : (decide (0 ≤ ((((((rdRec bs last (⟨0, 0⟩ : Rs)).2.2)).p : Nat) : Int)))) = true := decide_eq_true (by omega)
    rw [hb_] at hs; clear hb_
    exact wpList_nil ⟨rfl, _, _, hs0, (.c (.c .r)), hs, rfl⟩
   ·
    intro a_ w_ R_ rest_ vs35 hm hs ht hx
    have hm0 := hm.mid
    have t7 := ht 7 (twB_spec 27 _ (by kernel_rfl))
    have e7 : _ = some (vs35 7) := t7.val rfl
    rw [show vs35 7 = .bool (true) from t7.2.1] at e7
    replace hs := hs.learn e7
    have t9 := ht 9 (twB_spec 27 _ (by kernel_rfl))
    have e9 : _ = some (vs35 9) := t9.val rfl
    rw [show vs35 9 = .bool (true) from t9.2.1] at e9
    replace hs := hs.learn e9
    have hs0 := hs.bare
    refine st_pickT hs rfl rfl rfl ?_; clear hs; intro a w hs
    exact wpList_nil ⟨rfl, _, _, hs0, (.c (.c .r)), hs, rfl⟩
   ·
    intro a_ w_ R_ rest_ vs35 hm hs ht hx
    have hm0 := hm.mid
    have t10 := ht 10 (twB_spec 27 _ (by kernel_rfl))
    have e10 : _ = some (vs35 10) := t10.val rfl
    rw [show vs35 10 = .bool (true) from t10.2.1] at e10
    replace hs := hs.learn e10
    have hs0 := hs.bare
    refine st_mv hs rfl rfl ?_; clear hs; intro a w hs
    exact wpList_nil ⟨rfl, _, _, hs0, (.c .r), hs, rfl⟩
   ·
    intro a_ w_ R_ rest_ vs35 hm hs ht hx
    have hm0 := hm.mid
    have t11 := ht 11 (twB_spec 27 _ (by kernel_rfl))
    have e11 : _ = some (vs35 11) := t11.val rfl
    rw [show vs35 11 = .bool (true) from t11.2.1] at e11
    replace hs := hs.learn e11
    have hs0 := hs.bare
    refine st_guardT hs rfl rfl rfl ?_
    refine st_mv hs rfl rfl ?_; clear hs; intro a w hs
    exact wpList_nil ⟨rfl, _, _, hs0, (.c .r), hs, rfl⟩
   ·
    intro a_ w_ R_ rest_ vs35 hm hs ht hx
    have hm0 := hm.mid
    have t11 := ht 11 (twB_spec 27 _ (by kernel_rfl))
    have e11 : _ = some (vs35 11) := t11.val rfl
    rw [show vs35 11 = .bool (true) from t11.2.1] at e11
    replace hs := hs.learn e11
    have hs0 := hs.bare
    refine st_guardT hs rfl rfl rfl ?_
    refine st_mv hs rfl rfl ?_; clear hs; intro a w hs
    exact wpList_nil ⟨rfl, _, _, hs0, (.c .r), hs, rfl⟩
   ·
    intro a_ w_ R_ rest_ vs35 hm hs ht hx
    have hm0 := hm.mid
    have t11 := ht 11 (twB_spec 27 _ (by kernel_rfl))
    have e11 : _ = some (vs35 11) := t11.val rfl
    rw [show vs35 11 = .bool (true) from t11.2.1] at e11
    replace hs := hs.learn e11
    have t13 := ht 13 (twB_spec 27 _ (by kernel_rfl))
    have e13 : _ = some (vs35 13) := t13.val rfl
    rw [show vs35 13 = v from t13.2.1] at e13
    replace hs := hs.learn e13
    have hs0 := hs.bare
    refine st_guardT hs rfl rfl rfl ?_
    refine st_len hs rfl (hm.rd0 hb).isSl Try.underlying26 rfl ?_; clear hs; intro a w hs
    exact wpList_nil ⟨rfl, _, _, hs0, (.c (.c .r)), hs, rfl⟩
   ·
    intro a_ w_ R_ rest_ vs35 hm hs ht hx
    have hm0 := hm.mid
    have t11 := ht 11 (twB_spec 27 _ (by kernel_rfl))
    have e11 : _ = some (vs35 11) := t11.val rfl
    rw [show vs35 11 = .bool (true) from t11.2.1] at e11
    replace hs := hs.learn e11
    have t12 := ht 12 (twB_spec 27 _ (by kernel_rfl))
    have e12 : _ = some (vs35 12) := t12.val rfl
    rw [show vs35 12 = .int .i64 ((((((rdRec bs last (⟨0, 0⟩ : Rs)).2.2)).p : Nat) : Int)) from t12.2.1] at e12
    replace hs := hs.learn e12
    have t14 := ht 14 (twB_spec 27 _ (by kernel_rfl))
    have e14 : _ = some (vs35 14) := t14.val rfl
    rw [show vs35 14 = .int .i64 ((m : Int)) from t14.2.1] at e14
    replace hs := hs.learn e14
    have hs0 := hs.bare
    refine st_guardT hs rfl rfl rfl ?_
    refine st_leq hs rfl rfl rfl ?_; clear hs; intro a w hs
    have hb_ : (decide (((((((rdRec bs last (⟨0, 0⟩ : Rs)).2.2)).p : Nat) : Int)) ≤ (m : Int))) = true := decide_eq_true (by omega)
    rw [hb_] at hs; clear hb_
    exact wpList_nil ⟨rfl, _, _, hs0, (.c (.c (.c .r))), hs, rfl⟩
   ·
    intro a_ w_ R_ rest_ vs35 hm hs ht hx
    have hm0 := hm.mid
    have t11 := ht 11 (twB_spec 27 _ (by kernel_rfl))
    have e11 : _ = some (vs35 11) := t11.val rfl
    rw [show vs35 11 = .bool (true) from t11.2.1] at e11
    replace hs := hs.learn e11
    have t15 := ht 15 (twB_spec 27 _ (by kernel_rfl))
    have e15 : _ = some (vs35 15) := t15.val rfl
    rw [show vs35 15 = .bool (true) from t15.2.1] at e15
    replace hs := hs.learn e15
    have hs0 := hs.bare
    refine st_pickT hs rfl rfl rfl ?_; clear hs; intro a w hs
    exact wpList_nil ⟨rfl, _, _, hs0, (.c (.c .r)), hs, rfl⟩
   ·
    intro a_ w_ R_ rest_ vs35 hm hs ht hx
    have hm0 := hm.mid
    have t16 := ht 16 (twB_spec 27 _ (by kernel_rfl))
    have e16 : _ = some (vs35 16) := t16.val rfl
    rw [show vs35 16 = .bool (true) from t16.2.1] at e16
    replace hs := hs.learn e16
    have hs0 := hs.bare
    refine st_mv hs rfl rfl ?_; clear hs; intro a w hs
    exact wpList_nil ⟨rfl, _, _, hs0, (.c .r), hs, rfl⟩
   ·
    intro a_ w_ R_ rest_ vs35 hm hs ht hx
    have hm0 := hm.mid
    have t17 := ht 17 (twB_spec 27 _ (by kernel_rfl))
    have e17 : _ = some (vs35 17) := t17.val rfl
    rw [show vs35 17 = .bool (true) from t17.2.1] at e17
    replace hs := hs.learn e17
    have hs0 := hs.bare
    refine st_guardT hs rfl rfl rfl ?_
    refine st_mv hs rfl rfl ?_; clear hs; intro a w hs
    exact wpList_nil ⟨rfl, _, _, hs0, (.c .r), hs, rfl⟩
   ·
    intro a_ w_ R_ rest_ vs35 hm hs ht hx
    have hm0 := hm.mid
    have t17 := ht 17 (twB_spec 27 _ (by kernel_rfl))
    have e17 : _ = some (vs35 17) := t17.val rfl
    rw [show vs35 17 = .bool (true) from t17.2.1] at e17
    replace hs := hs.learn e17
    have t18 := ht 18 (twB_spec 27 _ (by kernel_rfl))
    have e18 : _ = some (vs35 18) := t18.val rfl
    rw [show vs35 18 = v29 from t18.2.1] at e18
    replace hs := hs.learn e18
    have hs0 := hs.bare
    refine st_guardT hs rfl rfl rfl ?_
    refine st_str (bs := (recB (((rdRec bs last (⟨0, 0⟩ : Rs)).1)) last)) hs rfl (rd_row (hm0.del .z)) Try.underlying26 Try.underlying5 Try.underlying9 rfl ?_; clear hs; intro a w hs
    exact wpList_nil ⟨rfl, _, _, hs0, (.c (.c .r)), hs, rfl⟩
   ·
    intro a_ w_ R_ rest_ vs35 hm hs ht hx
    have hm0 := hm.mid
    have t17 := ht 17 (twB_spec 27 _ (by kernel_rfl))
    have e17 : _ = some (vs35 17) := t17.val rfl
    rw [show vs35 17 = .bool (true) from t17.2.1] at e17
    replace hs := hs.learn e17
    have hs0 := hs.bare
    refine st_guardT hs rfl rfl rfl ?_
    refine st_mv hs rfl rfl ?_; clear hs; intro a w hs
    exact wpList_nil ⟨rfl, _, _, hs0, (.c .r), hs, rfl⟩
   ·
    intro a_ w_ R_ rest_ vs35 hm hs ht hx
    have hm0 := hm.mid
    have t17 := ht 17 (twB_spec 27 _ (by kernel_rfl))
    have e17 : _ = some (vs35 17) := t17.val rfl
    rw [show vs35 17 = .bool (true) from t17.2.1] at e17
    replace hs := hs.learn e17
    have hs0 := hs.bare
    refine st_guardT hs rfl rfl rfl ?_
    refine st_mv hs rfl rfl ?_; clear hs; intro a w hs
    exact wpList_nil ⟨rfl, _, _, hs0, (.c .r), hs, rfl⟩
   ·
    intro a_ w_ R_ rest_ vs35 hm hs ht hx
    have hm0 := hm.mid
    have t17 := ht 17 (twB_spec 27 _ (by kernel_rfl))
    have e17 : _ = some (vs35 17) := t17.val rfl
    rw [show vs35 17 = .bool (true) from t17.2.1] at e17
    replace hs := hs.learn e17
    have t20 := ht 20 (twB_spec 27 _ (by kernel_rfl))
    have e20 : _ = some (vs35 20) := t20.val rfl
    rw [show vs35 20 = v from t20.2.1] at e20
    replace hs := hs.learn e20
    have t21 := ht 21 (twB_spec 27 _ (by kernel_rfl))
    have e21 : _ = some (vs35 21) := t21.val rfl
    rw [show vs35 21 = .int .i64 ((((((rdRec bs last (⟨0, 0⟩ : Rs)).2.2)).p : Nat) : Int)) from t21.2.1] at e21
    replace hs := hs.learn e21
    have hs0 := hs.bare
    refine st_guardT hs rfl rfl rfl ?_
    refine st_slcH (j := (((rdRec bs last (⟨0, 0⟩ : Rs)).2.2)).p) hs rfl rfl rfl (hm.rd0 hb) (by omega) Try.underlying26 Try.sizeOf5 rfl ?_; clear hs; intro a w hs
    exact wpList_nil ⟨rfl, _, _, hs0, (.c (.c (.c .r))), hs, rfl⟩
   ·
    intro a_ w_ R_ rest_ vs35 hm hs ht hx
    have hm0 := hm.mid
    have t17 := ht 17 (twB_spec 27 _ (by kernel_rfl))
    have e17 : _ = some (vs35 17) := t17.val rfl
    rw [show vs35 17 = .bool (true) from t17.2.1] at e17
    replace hs := hs.learn e17
    have t22 := ht 22 (twB_spec 27 _ (by kernel_rfl))
    have e22 : _ = some (vs35 22) := t22.val rfl
    rw [show vs35 22 = slcV v 1 0 ((((rdRec bs last (⟨0, 0⟩ : Rs)).2.2)).p) from t22.2.1] at e22
    replace hs := hs.learn e22
    have hs0 := hs.bare
    refine st_guardT hs rfl rfl rfl ?_
    refine st_str (bs := (bs.take ((((rdRec bs last (⟨0, 0⟩ : Rs)).2.2)).p))) hs rfl ((hm.rd0 hb).slcT (h := ((((rdRec bs last (⟨0, 0⟩ : Rs)).2.2)).p)) (by omega)) Try.underlying26 Try.underlying5 Try.underlying9 rfl ?_; clear hs; intro a w hs
    exact wpList_nil ⟨rfl, _, _, hs0, (.c (.c .r)), hs, rfl⟩
   ·
    intro a_ w_ R_ rest_ vs35 hm hs ht hx
    have hm0 := hm.mid
    have t17 := ht 17 (twB_spec 27 _ (by kernel_rfl))
    have e17 : _ = some (vs35 17) := t17.val rfl
    rw [show vs35 17 = .bool (true) from t17.2.1] at e17
    replace hs := hs.learn e17
    have t19 := ht 19 (twB_spec 27 _ (by kernel_rfl))
    have e19 : _ = some (vs35 19) := t19.val rfl
    rw [show vs35 19 = .string (strB ((recB (((rdRec bs last (⟨0, 0⟩ : Rs)).1)) last))) from t19.2.1] at e19
    replace hs := hs.learn e19
    have t23 := ht 23 (twB_spec 27 _ (by kernel_rfl))
    have e23 : _ = some (vs35 23) := t23.val rfl
    rw [show vs35 23 = .string (strB ((bs.take ((((rdRec bs last (⟨0, 0⟩ : Rs)).2.2)).p)))) from t23.2.1] at e23
    replace hs := hs.learn e23
    have hs0 := hs.bare
    refine st_guardT hs rfl rfl rfl ?_
    refine st_eqs (p := strB ((recB (((rdRec bs last (⟨0, 0⟩ : Rs)).1)) last))) (q := strB ((bs.take ((((rdRec bs last (⟨0, 0⟩ : Rs)).2.2)).p)))) hs rfl rfl rfl ?_; clear hs; intro a w hs
    have hb_ : ((strB ((recB (((rdRec bs last (⟨0, 0⟩ : Rs)).1)) last))).toList == (strB ((bs.take ((((rdRec bs last (⟨0, 0⟩ : Rs)).2.2)).p)))).toList) = true := by rw [hbk.2.1]; exact beq_self_eq_true _
    rw [hb_] at hs; clear hb_
    exact wpList_nil ⟨rfl, _, _, hs0, (.c (.c (.c .r))), hs, rfl⟩
   ·
    intro a_ w_ R_ rest_ vs35 hm hs ht hx
    have hm0 := hm.mid
    have t17 := ht 17 (twB_spec 27 _ (by kernel_rfl))
    have e17 : _ = some (vs35 17) := t17.val rfl
    rw [show vs35 17 = .bool (true) from t17.2.1] at e17
    replace hs := hs.learn e17
    have t24 := ht 24 (twB_spec 27 _ (by kernel_rfl))
    have e24 : _ = some (vs35 24) := t24.val rfl
    rw [show vs35 24 = .bool (true) from t24.2.1] at e24
    replace hs := hs.learn e24
    have hs0 := hs.bare
    refine st_pickT hs rfl rfl rfl ?_; clear hs; intro a w hs
    exact wpList_nil ⟨rfl, _, _, hs0, (.c (.c .r)), hs, rfl⟩
   intro a_ w_ R_ rest_ vs35 hm hs ht hx
   have hm0 := hm.mid
   have t25 := ht 25 (twB_spec 27 _ (by kernel_rfl))
   have e25 : _ = some (vs35 25) := t25.val rfl
   rw [show vs35 25 = .bool (true) from t25.2.1] at e25
   replace hs := hs.learn e25
   have hs0 := hs.bare
   refine st_as hs rfl rfl ?_; clear hs; intro a w hs
   exact wpList_nil ⟨rfl, _, _, hs0, (.c .r), hs, rfl⟩
  clear hs w a; intro a w vs35 hs hf
  replace hs : St _ _ _ _ [row v29 5 1 ((recB (((rdRec bs last (⟨0, 0⟩ : Rs)).1)) last).length) (bytesV (recB (((rdRec bs last (⟨0, 0⟩ : Rs)).1)) last)), blk g19 [.int .i64 (((rdRec bs last (⟨0, 0⟩ : Rs)).1).k), .int .i64 (((rdRec bs last (⟨0, 0⟩ : Rs)).1).id), .int .i64 (((rdRec bs last (⟨0, 0⟩ : Rs)).1).p0), .int .i64 (((rdRec bs last (⟨0, 0⟩ : Rs)).1).p1), .int .i64 (((rdRec bs last (⟨0, 0⟩ : Rs)).1).p2), .int .i64 (((rdRec bs last (⟨0, 0⟩ : Rs)).1).v0), .int .i64 (((rdRec bs last (⟨0, 0⟩ : Rs)).1).v1), .int .i64 (((rdRec bs last (⟨0, 0⟩ : Rs)).1).v2), .int .u16 ((((((rdRec bs last (⟨0, 0⟩ : Rs)).1).a).toNat : Nat) : Int))] 25, blk g5 [v, .int .i64 (((((rdRec bs last (⟨0, 0⟩ : Rs)).2.2).p : Nat) : Int)), .int .i64 (((((rdRec bs last (⟨0, 0⟩ : Rs)).2.2).e : Nat) : Int))] 100] _ _ := hs
  obtain ⟨e26, q26⟩ := hf 26 (by decide)
  replace e26 : _ = some (vs35 26) := e26.val rfl
  rw [show vs35 26 = .bool (true) from q26] at e26
  replace hs := hs.learn e26; clear e26 q26
  clear hf
  refine then_n (hK34 _ _ ?_)
  refine wp_ret ?_
  replace hs := hs.drop (.c (.s (.s .z)) (.c (.s .z) (.c .z .n)))
  exact fin hs rfl rfl ⟨rfl, rfl⟩
end Go.Proofs.Ytkobgcoegajfcaa
