/- Walks of crc: what each function does, over the program of this seat. Printed by a program of this session. -/
import Derived.Test.YtkobgcoegajfcaaSxS
import Derived.Test.YtkobgcoegajfcaaSxG
import Derived.Test.YtkobgcoegajfcaaSxPcrc
import Derived.KernelRfl
import Derived.Test.YtkobgcoegajfcaaProg
namespace Go.Proofs.Ytkobgcoegajfcaa
open Go Go.Sx Go.RowKit
set_option linter.unusedVariables false
set_option linter.unusedSimpArgs false
set_option maxRecDepth 4000
set_option maxHeartbeats 1000000

theorem step_ok (s : BitVec 32) (c : Byte) (w0 : World) : Calls Try.prog 98 #[.int .u32 (s.toNat : Int), .int .u8 (c.toNat : Int)] w0 (RetV w0 (.int .u32 ((stepC s c).toNat : Int))) := by
  refine enter (F0 := [(0, .int .u32 ((((s).toNat : Nat) : Int))), (1, .int .u8 ((((c).toNat : Nat) : Int)))]) Try.func98 rfl rfl rfl (.c (.c .n)) (Mem.nil _) fun a w hs => ?_
  refine wp_seq_k fun K1 hK2 => ?_
  refine wp_region_lit ?_
  refine st_as hs rfl rfl ?_; clear hs w a; intro a w hs
  refine wpList_nil ?_
  refine then_n (hK2 _ _ ?_)
  refine wp_seq_k fun K3 hK4 => ?_
  refine wp_region_lit ?_
  refine st_run 2 [(6, .int .u8 ((((c).toNat : Nat) : Int))), (5, .int .u32 ((((s).toNat : Nat) : Int)))] hs .n (by kernel_rfl) (by kernel_rfl) (by kernel_rfl) ?_; clear hs a; intro a hs
  refine st_cv_u8_u32 (X := c) hs rfl rfl Try.underlying5 Try.underlying110 rfl ?_; clear hs w a; intro a w hs
  refine st_xor_u32 (X := s) (Y := (c).setWidth 32) hs rfl rfl rfl rfl rfl ?_; clear hs w a; intro a w hs
  refine st_as hs rfl rfl ?_; clear hs w a; intro a w hs
  refine wpList_nil ?_
  refine then_n (hK4 _ _ ?_)
  refine wp_seq_k fun K5 hK6 => ?_
  refine wp_seq_k fun K7 hK8 => ?_
  refine wp_region_lit ?_
  refine st_mv hs rfl rfl ?_; clear hs w a; intro a w hs
  refine wpList_nil ?_
  refine then_n (hK8 _ _ ?_)
  refine wp_block ?_
  refine wp_loopI (fun mm_ a w => ∃ k : Nat, mm_ = 8 - k ∧ St 20 [(0, .int .u32 ((((stepN k (s ^^^ c.setWidth 32)).toNat : Nat) : Int))), (9, .int .i64 ((k : Int)))] w0 [] [] a w ∧ k ≤ 8) ⟨0, rfl, hs.sub (.c rfl (.c rfl .n)), by omega⟩ ?_
  clear hs w a; rintro mm_ a w ⟨k, rfl, hs, hI1_0⟩
  refine wp_seq_k fun K9 hK10 => ?_
  refine wp_region_lit ?_
  refine st_lss hs rfl rfl rfl ?_; clear hs w a; intro a w hs
  refine wpList_nil ?_
  refine then_n (hK10 _ _ ?_)
  refine wp_seq_k fun K11 hK12 => ?_
  refine wp_if hs rfl (fun hc13 => ?_) (fun hc13 => ?_)
  ·
   replace hc13 := of_decide_eq_true hc13
   refine wp_skip ?_
   refine then_n (hK12 _ _ ?_)
   refine wp_seq_k fun K14 hK15 => ?_
   refine wp_block ?_
   refine wp_region_lit ?_
   refine st_mv hs rfl rfl ?_; clear hs w a; intro a w hs
   refine st_shr_u32 (X := stepN k (s ^^^ c.setWidth 32)) (m := 1) hs rfl rfl rfl (by decide) rfl ?_; clear hs w a; intro a w hs
   refine st_mv hs rfl rfl ?_; clear hs w a; intro a w hs
   refine st_and_u32 (X := stepN k (s ^^^ c.setWidth 32)) (Y := 1#32) hs rfl rfl rfl (by decide) rfl ?_; clear hs w a; intro a w hs
   refine st_neg_u32 (X := (stepN k (s ^^^ c.setWidth 32)) &&& (1#32)) hs rfl rfl rfl ?_; clear hs w a; intro a w hs
   refine st_and_u32 (X := 3988292384#32) (Y := -((stepN k (s ^^^ c.setWidth 32)) &&& (1#32))) hs rfl (by decide) rfl rfl rfl ?_; clear hs w a; intro a w hs
   refine st_xor_u32 (X := (stepN k (s ^^^ c.setWidth 32)) >>> 1) (Y := (3988292384#32) &&& (-((stepN k (s ^^^ c.setWidth 32)) &&& (1#32)))) hs rfl rfl rfl rfl rfl ?_; clear hs w a; intro a w hs
   refine st_as hs rfl rfl ?_; clear hs w a; intro a w hs
   refine wpList_nil ?_
   refine in_n ?_
   refine then_n (hK15 _ _ ?_)
   refine wp_region_lit ?_
   refine st_addR hs rfl rfl (by omega) rfl ?_; clear hs w a; intro a w hs
   refine st_mv hs rfl rfl ?_; clear hs w a; intro a w hs
   refine wpList_nil ?_
   refine then_n ?_
   refine ⟨_, ?_, k + 1, rfl, hs.sub (.c rfl (.c rfl .n)), by omega⟩
   omega
  replace hc13 := of_decide_eq_false hc13
  refine wp_exit ?_
  refine th_e ?_
  refine th_e ?_
  refine in_hit ?_
  refine then_n (hK6 _ _ ?_)
  refine wp_seq_k fun K16 hK17 => ?_
  refine wp_region_lit ?_
  refine st_run 2 [(4, .int .u32 ((((stepN k (s ^^^ c.setWidth 32)).toNat : Nat) : Int)))] hs .n (by kernel_rfl) (by kernel_rfl) (by kernel_rfl) ?_; clear hs a; intro a hs
  refine wpList_nil ?_
  refine then_n (hK17 _ _ ?_)
  refine wp_ret ?_
  exact fin hs rfl rfl ⟨by have h : k = 8 := (by omega); subst h; rfl, rfl⟩
theorem more1_ok (s : BitVec 32) (c : Byte) (g : Nat) (w0 : World) (hb : (blk g [.int .u32 (s.toNat : Int)] 110).p w0) : Calls Try.prog 97 #[.int .u8 (c.toNat : Int), .pointer (some ⟨g, 0, none⟩)] w0 (Ret w0 (feet [blk g [.int .u32 (s.toNat : Int)] 110]) fun v N => v = .tuple #[] ∧ N = [blk g [.int .u32 ((stepC s c).toNat : Int)] 110]) := by
  refine enter (F0 := [(0, .int .u8 ((((c).toNat : Nat) : Int))), (1, .pointer (some ⟨g, 0, none⟩))]) Try.func97 rfl rfl rfl (.c (.c .n)) (mem_one hb) fun a w hs => ?_
  refine wp_region_lit ?_
  refine st_run 2 [(4, .int .u8 ((((c).toNat : Nat) : Int))), (3, .int .u32 ((((s).toNat : Nat) : Int)))] hs (.c (hs.mem.del .z) .n) (by kernel_rfl) (by kernel_rfl) (by kernel_rfl) ?_; clear hs a; intro a hs
  refine st_callP (v := .int .u32 ((((stepC s c).toNat : Nat) : Int))) hs (.c rfl (.c rfl .n)) Try.call98 (step_ok s c _) rfl ?_; clear hs w a; intro a w hs
  refine st_stB hs rfl rfl .z .z rfl Try.sizeOf110 ?_; clear hs w a; intro a w hs
  refine wpList_nil ?_
  exact fin0 hs rfl ⟨rfl, rfl⟩
theorem more_ok (s : BitVec 32) (v : Value) (m : Nat) (bs : List Byte) (w0 : World) (hb : Rd w0 [] v 1 m (bytesV bs)) : Calls Try.prog 89 #[.int .u32 (s.toNat : Int), v] w0 (RetV w0 (.int .u32 ((crcMore s bs).toNat : Int))) := by
  have hbl : bs.length = m := by have := hb.len; simpa [bytesV] using this
  have hle : m ≤ maxLen := hb.le
  simp only [maxLen] at hle
  refine enter (F0 := [(0, .int .u32 ((((s).toNat : Nat) : Int))), (1, v)]) Try.func89 rfl rfl rfl (.c (.c .n)) (Mem.nil _) fun a w hs => ?_
  refine wp_seq_k fun K1 hK2 => ?_
  refine wp_region_lit ?_
  refine st_as hs rfl rfl ?_; clear hs w a; intro a w hs
  refine wpList_nil ?_
  refine then_n (hK2 _ _ ?_)
  refine wp_seq_k fun K3 hK4 => ?_
  refine wp_region_lit ?_
  refine st_mv hs rfl rfl ?_; clear hs w a; intro a w hs
  refine st_not_u32 (X := s) hs rfl rfl rfl ?_; clear hs w a; intro a w hs
  refine st_alloc (cs := [.int .u32 (0)]) hs Try.zeroValue110 rfl rfl ?_; clear hs w a; intro g5 a w hs
  refine st_stB hs rfl rfl .z .z rfl Try.sizeOf110 ?_; clear hs w a; intro a w hs
  refine wpList_nil ?_
  refine then_n (hK4 _ _ ?_)
  refine wp_seq_k fun K6 hK7 => ?_
  refine wp_region_lit ?_
  refine st_mf hs .n (.c rfl .n) rfl ?_; clear hs w a; intro a w hs
  refine st_as hs rfl rfl ?_; clear hs w a; intro a w hs
  refine wpList_nil ?_
  refine then_n (hK7 _ _ ?_)
  refine wp_seq_k fun K8 hK9 => ?_
  refine wp_seq_k fun K10 hK11 => ?_
  refine wp_region_lit ?_
  refine st_mv hs rfl rfl ?_; clear hs w a; intro a w hs
  refine st_len hs rfl (hs.rd0 hb).isSl Try.underlying26 rfl ?_; clear hs w a; intro a w hs
  refine st_mv hs rfl rfl ?_; clear hs w a; intro a w hs
  refine wpList_nil ?_
  refine then_n (hK11 _ _ ?_)
  refine wp_block ?_
  refine wp_loopI (fun mm_ a w => ∃ k : Nat, mm_ = m - k ∧ St 24 [(5, .pointer (some ⟨g5, 0, none⟩)), (6, .func (.func 97) #[] #[.pointer (some ⟨g5, 0, none⟩)]), (12, v), (13, .int .i64 ((m : Int))), (14, .int .i64 ((k : Int)))] w0 [] [blk g5 [.int .u32 ((((foldC (~~~s) (bs.take k)).toNat : Nat) : Int))] 110] a w ∧ k ≤ m) ⟨0, rfl, hs.sub (.c rfl (.c rfl (.c rfl (.c rfl (.c rfl .n))))), by omega⟩ ?_
  clear hs w a; rintro mm_ a w ⟨k, rfl, hs, hI1_0⟩
  refine wp_seq_k fun K12 hK13 => ?_
  refine wp_region_lit ?_
  refine st_lss hs rfl rfl rfl ?_; clear hs w a; intro a w hs
  refine wpList_nil ?_
  refine then_n (hK13 _ _ ?_)
  refine wp_seq_k fun K14 hK15 => ?_
  refine wp_if hs rfl (fun hc16 => ?_) (fun hc16 => ?_)
  ·
   replace hc16 := of_decide_eq_true hc16
   refine wp_skip ?_
   refine then_n (hK15 _ _ ?_)
   refine wp_seq_k fun K17 hK18 => ?_
   refine wp_block ?_
   refine wp_seq_k fun K19 hK20 => ?_
   refine wp_region_lit ?_
   refine st_ia1 (j := k) hs rfl rfl (hs.rd0 hb) rfl (by omega) Try.underlying26 Try.sizeOf5 rfl ?_; clear hs w a; intro a w hs
   refine st_ld hs rfl (hs.rd0 hb) (bytesV_getD bs (by first | omega | (simp; omega))) Try.isAgg5 rfl ?_; clear hs w a; intro a w hs
   refine st_as hs rfl rfl ?_; clear hs w a; intro a w hs
   refine wpList_nil ?_
   refine then_n (hK20 _ _ ?_)
   refine wp_region_lit ?_
   refine st_run 2 [(19, .int .u8 ((((bs.getD k 0).toNat : Nat) : Int))), (18, .func (.func 97) #[] #[.pointer (some ⟨g5, 0, none⟩)])] hs .n (by kernel_rfl) (by kernel_rfl) (by kernel_rfl) ?_; clear hs a; intro a hs
   refine st_callV hs rfl (.c rfl .n) rfl Try.call97 (.c .z .n) (more1_ok (foldC (~~~s) (bs.take k)) (bs.getD k 0) g5 _ (hs.mem.del .z)) rfl ?_; clear hs w a; rintro _ _ a w ⟨rfl, rfl⟩ hs
   refine wpList_nil ?_
   refine in_n ?_
   refine then_n (hK18 _ _ ?_)
   refine wp_region_lit ?_
   refine st_addR hs rfl rfl (by omega) rfl ?_; clear hs w a; intro a w hs
   refine st_mv hs rfl rfl ?_; clear hs w a; intro a w hs
   refine wpList_nil ?_
   refine then_n ?_
   rw [← foldC_succ _ _ _ (by omega)] at hs
   refine ⟨_, ?_, k + 1, rfl, hs.sub (.c rfl (.c rfl (.c rfl (.c rfl (.c rfl .n))))), by omega⟩
   omega
  replace hc16 := of_decide_eq_false hc16
  refine wp_exit ?_
  refine th_e ?_
  refine th_e ?_
  refine in_hit ?_
  refine then_n (hK9 _ _ ?_)
  refine wp_seq_k fun K21 hK22 => ?_
  refine wp_region_lit ?_
  refine st_ldB hs rfl .z .z Try.isAgg110 rfl ?_; clear hs w a; intro a w hs
  refine st_not_u32 (X := foldC (~~~s) (bs.take k)) hs rfl rfl rfl ?_; clear hs w a; intro a w hs
  refine st_as hs rfl rfl ?_; clear hs w a; intro a w hs
  refine wpList_nil ?_
  refine then_n (hK22 _ _ ?_)
  refine wp_ret ?_
  replace hs := hs.drop (.c .z .n)
  exact fin hs rfl rfl ⟨by have h : k = m := (by omega); subst h; rw [← hbl, List.take_length]; rfl, rfl⟩
theorem sum_ok (v : Value) (m : Nat) (bs : List Byte) (w0 : World) (hb : Rd w0 [] v 1 m (bytesV bs)) : Calls Try.prog 64 #[v] w0 (RetV w0 (.int .u32 ((crcSum bs).toNat : Int))) := by
  refine enter (F0 := [(0, v)]) Try.func64 rfl rfl rfl (.c .n) (Mem.nil _) fun a w hs => ?_
  refine wp_seq_k fun K1 hK2 => ?_
  refine wp_region_lit ?_
  refine st_as hs rfl rfl ?_; clear hs w a; intro a w hs
  refine wpList_nil ?_
  refine then_n (hK2 _ _ ?_)
  refine wp_seq_k fun K3 hK4 => ?_
  refine wp_region_lit ?_
  refine st_mv hs rfl rfl ?_; clear hs w a; intro a w hs
  refine st_callP (v := .int .u32 ((((crcMore (0#32) bs).toNat : Nat) : Int))) hs (.c rfl (.c rfl .n)) Try.call89 (more_ok (0#32) _ _ bs _ (hs.rd0 hb)) rfl ?_; clear hs w a; intro a w hs
  refine st_as hs rfl rfl ?_; clear hs w a; intro a w hs
  refine wpList_nil ?_
  refine then_n (hK4 _ _ ?_)
  refine wp_ret ?_
  exact fin hs rfl rfl ⟨rfl, rfl⟩
theorem seal_ok (v : Value) (m : Nat) (bs : List Byte) (w0 : World) (hb : Rd w0 [] v 1 m (bytesV bs)) (hm : m ≤ 140737488351232) : Calls Try.prog 43 #[v] w0 (Ret w0 [] fun r N => N = [row r 5 1 (m + 4) (bytesV (seal_ bs))]) := by
  have hbl : bs.length = m := by have := hb.len; simpa [bytesV] using this
  have hle : m ≤ maxLen := hb.le
  simp only [maxLen] at hle
  refine enter (F0 := [(0, v)]) Try.func43 rfl rfl rfl (.c .n) (Mem.nil _) fun a w hs => ?_
  refine wp_seq_k fun K1 hK2 => ?_
  refine wp_region_lit ?_
  refine st_as hs rfl rfl ?_; clear hs w a; intro a w hs
  refine wpList_nil ?_
  refine then_n (hK2 _ _ ?_)
  refine wp_seq_k fun K3 hK4 => ?_
  refine wp_region_lit ?_
  refine st_mv hs rfl rfl ?_; clear hs w a; intro a w hs
  refine st_callP (v := .int .u32 ((((crcSum bs).toNat : Nat) : Int))) hs (.c rfl .n) Try.call64 (sum_ok _ _ bs _ (hs.rd0 hb)) rfl ?_; clear hs w a; intro a w hs
  refine st_as hs rfl rfl ?_; clear hs w a; intro a w hs
  refine wpList_nil ?_
  refine then_n (hK4 _ _ ?_)
  refine wp_seq_k fun K5 hK6 => ?_
  refine wp_region_lit ?_
  refine st_bs0 hs Try.underlying26 rfl ?_ ⟨_, Try.sizeOf5⟩; clear hs w a; intro g7 a w hs
  refine st_mv hs rfl rfl ?_; clear hs w a; intro a w hs
  replace hs := hs.toRow (size := 1) (m := 0) .z rfl (by decide)
  refine st_app (size := 1) (bytes := 1) hs rfl rfl .z (hs.rd0 hb) (oneCell_bytesV _) Try.underlying26 (i := Try.t5) rfl rfl rfl rfl rfl (by decide) (by omega) (by simp only [maxLen]; omega) rfl ?_; clear hs w a; intro v8 a w hs
  refine st_mv hs rfl rfl ?_; clear hs w a; intro a w hs
  refine st_shr_u32 (X := crcSum bs) (m := 24) hs rfl rfl rfl (by decide) rfl ?_; clear hs w a; intro a w hs
  refine st_cv_u32_u8 (X := (crcSum bs) >>> 24) hs rfl rfl Try.underlying110 Try.underlying5 rfl ?_; clear hs w a; intro a w hs
  refine st_mv hs rfl rfl ?_; clear hs w a; intro a w hs
  refine st_shr_u32 (X := crcSum bs) (m := 16) hs rfl rfl rfl (by decide) rfl ?_; clear hs w a; intro a w hs
  refine st_cv_u32_u8 (X := (crcSum bs) >>> 16) hs rfl rfl Try.underlying110 Try.underlying5 rfl ?_; clear hs w a; intro a w hs
  refine st_mv hs rfl rfl ?_; clear hs w a; intro a w hs
  refine st_shr_u32 (X := crcSum bs) (m := 8) hs rfl rfl rfl (by decide) rfl ?_; clear hs w a; intro a w hs
  refine st_cv_u32_u8 (X := (crcSum bs) >>> 8) hs rfl rfl Try.underlying110 Try.underlying5 rfl ?_; clear hs w a; intro a w hs
  refine st_mv hs rfl rfl ?_; clear hs w a; intro a w hs
  refine st_cv_u32_u8 (X := crcSum bs) hs rfl rfl Try.underlying110 Try.underlying5 rfl ?_; clear hs w a; intro a w hs
  refine st_bs (cs := [.int .u8 ((((((crcSum bs) >>> 24).setWidth 8).toNat : Nat) : Int)), .int .u8 ((((((crcSum bs) >>> 16).setWidth 8).toNat : Nat) : Int)), .int .u8 ((((((crcSum bs) >>> 8).setWidth 8).toNat : Nat) : Int)), .int .u8 (((((crcSum bs).setWidth 8).toNat : Nat) : Int))]) hs (.c (.c (.c (.c .n)))) (.c rfl (.c rfl (.c rfl (.c rfl .n)))) Try.underlying26 (ie := Try.t5) rfl rfl rfl rfl (by decide) (by decide) rfl (by decide) rfl rfl rfl ?_; clear hs w a; intro g9 a w hs
  refine st_app (size := 1) (bytes := 1) hs rfl rfl (.s .z) (rd_blk (m := 4) (size := 1) (hs.mem.del .z) rfl (by decide)) (by simp [Value.oneCell']) Try.underlying26 (i := Try.t5) rfl rfl rfl rfl rfl (by decide) (by omega) (by simp only [maxLen]; omega) rfl ?_; clear hs w a; intro v10 a w hs
  replace hs := hs.drop (.c (.s .z) .n)
  refine st_as hs rfl rfl ?_; clear hs w a; intro a w hs
  refine wpList_nil ?_
  refine then_n (hK6 _ _ ?_)
  refine wp_ret ?_
  replace hs := hs.rerow .z (m' := m + 4) (xs' := bytesV (seal_ bs)) (by omega) (by rw [List.nil_append]; exact (bytesV_append bs (be4 (crcSum bs))).symm)
  exact fin hs rfl rfl rfl
theorem rsum_ok (v : Value) (m : Nat) (bs : List Byte) (w0 : World) (hb : Rd w0 [] v 1 m (bytesV bs)) : Calls Try.prog 90 #[v] w0 (RetV w0 (.int .u32 ((crcSum bs).toNat : Int))) := by
  have hbl : bs.length = m := by have := hb.len; simpa [bytesV] using this
  have hle : m ≤ maxLen := hb.le
  simp only [maxLen] at hle
  refine enter (F0 := [(0, v)]) Try.func90 rfl rfl rfl (.c .n) (Mem.nil _) fun a w hs => ?_
  refine wp_seq_k fun K1 hK2 => ?_
  refine wp_region_lit ?_
  refine st_as hs rfl rfl ?_; clear hs w a; intro a w hs
  refine wpList_nil ?_
  refine then_n (hK2 _ _ ?_)
  refine wp_seq_k fun K3 hK4 => ?_
  refine wp_region_lit ?_
  refine st_as hs rfl rfl ?_; clear hs w a; intro a w hs
  refine wpList_nil ?_
  refine then_n (hK4 _ _ ?_)
  refine wp_seq_k fun K5 hK6 => ?_
  refine wp_seq_k fun K7 hK8 => ?_
  refine wp_region_lit ?_
  refine st_as hs rfl rfl ?_; clear hs w a; intro a w hs
  refine wpList_nil ?_
  refine then_n (hK8 _ _ ?_)
  refine wp_block ?_
  refine wp_loopI (fun mm_ a w => ∃ k : Nat, mm_ = m - k ∧ St 34 [(0, v), (3, .int .u32 ((((foldC 4294967295#32 (bs.take k)).toNat : Nat) : Int))), (4, .int .i64 ((k : Int)))] w0 [] [] a w ∧ k ≤ m) ⟨0, rfl, hs.sub (.c rfl (.c rfl (.c rfl .n))), by omega⟩ ?_
  clear hs w a; rintro mm_ a w ⟨k, rfl, hs, hI1_0⟩
  refine wp_seq_k fun K9 hK10 => ?_
  refine wp_seq_k fun K11 hK12 => ?_
  refine wp_region_lit ?_
  refine st_run 2 [(8, v), (7, .int .i64 ((k : Int)))] hs .n (by kernel_rfl) (by kernel_rfl) (by kernel_rfl) ?_; clear hs a; intro a hs
  refine st_len hs rfl (hs.rd0 hb).isSl Try.underlying26 rfl ?_; clear hs w a; intro a w hs
  refine st_lss hs rfl rfl rfl ?_; clear hs w a; intro a w hs
  refine wpList_nil ?_
  refine then_n (hK12 _ _ ?_)
  refine wp_if hs rfl (fun hc13 => ?_) (fun hc13 => ?_)
  ·
   replace hc13 := of_decide_eq_true hc13
   refine wp_skip ?_
   refine then_n (hK10 _ _ ?_)
   refine wp_seq_k fun K14 hK15 => ?_
   refine wp_block ?_
   refine wp_seq_k fun K16 hK17 => ?_
   refine wp_region_lit ?_
   refine st_run 3 [(15, .int .i64 ((k : Int))), (14, v), (13, .int .u32 ((((foldC 4294967295#32 (bs.take k)).toNat : Nat) : Int)))] hs .n (by kernel_rfl) (by kernel_rfl) (by kernel_rfl) ?_; clear hs a; intro a hs
   refine st_ia1 (j := k) hs rfl rfl (hs.rd0 hb) rfl (by omega) Try.underlying26 Try.sizeOf5 rfl ?_; clear hs w a; intro a w hs
   refine st_ld hs rfl (hs.rd0 hb) (bytesV_getD bs (by first | omega | (simp; omega))) Try.isAgg5 rfl ?_; clear hs w a; intro a w hs
   refine st_cv_u8_u32 (X := bs.getD k 0) hs rfl rfl Try.underlying5 Try.underlying110 rfl ?_; clear hs w a; intro a w hs
   refine st_xor_u32 (X := foldC 4294967295#32 (bs.take k)) (Y := (bs.getD k 0).setWidth 32) hs rfl rfl rfl rfl rfl ?_; clear hs w a; intro a w hs
   refine st_as hs rfl rfl ?_; clear hs w a; intro a w hs
   refine wpList_nil ?_
   refine then_n (hK17 _ _ ?_)
   refine wp_seq_k fun K18 hK19 => ?_
   refine wp_region_lit ?_
   refine st_as hs rfl rfl ?_; clear hs w a; intro a w hs
   refine wpList_nil ?_
   refine then_n (hK19 _ _ ?_)
   refine wp_block ?_
   refine wp_loopI (fun mm_ a w => ∃ j : Nat, mm_ = 8 - j ∧ St 34 [(0, v), (3, .int .u32 ((((stepN j ((foldC 4294967295#32 (bs.take k)) ^^^ ((bs.getD k 0).setWidth 32))).toNat : Nat) : Int))), (4, .int .i64 ((k : Int))), (5, .int .i64 ((j : Int)))] w0 [] [] a w ∧ j ≤ 8) ⟨0, rfl, hs.sub (.c rfl (.c rfl (.c rfl (.c rfl .n)))), by omega⟩ ?_
   clear hs w a; rintro mm_ a w ⟨j, rfl, hs, hI2_0⟩
   refine wp_seq_k fun K20 hK21 => ?_
   refine wp_seq_k fun K22 hK23 => ?_
   refine wp_region_lit ?_
   refine st_run 2 [(21, .bool (decide ((j : Int) < 8))), (20, .int .i64 ((j : Int)))] hs .n (by kernel_rfl) (by kernel_rfl) (by kernel_rfl) ?_; clear hs a; intro a hs
   refine wpList_nil ?_
   refine then_n (hK23 _ _ ?_)
   refine wp_if hs rfl (fun hc24 => ?_) (fun hc24 => ?_)
   ·
    replace hc24 := of_decide_eq_true hc24
    refine wp_skip ?_
    refine then_n (hK21 _ _ ?_)
    refine wp_seq_k fun K25 hK26 => ?_
    refine wp_block ?_
    refine wp_seq_k fun K27 hK28 => ?_
    refine wp_region_lit ?_
    refine st_mv hs rfl rfl ?_; clear hs w a; intro a w hs
    refine st_rem_u32 (X := stepN j ((foldC 4294967295#32 (bs.take k)) ^^^ ((bs.getD k 0).setWidth 32))) (Y := 2#32) hs rfl rfl rfl (by decide) (by decide) rfl ?_; clear hs w a; intro a w hs
    refine st_run 2 [(6, .bool ((((((stepN j ((foldC 4294967295#32 (bs.take k)) ^^^ ((bs.getD k 0).setWidth 32))) % (2#32)).toNat : Nat) : Int) : Int) == 1)), (26, .bool ((((((stepN j ((foldC 4294967295#32 (bs.take k)) ^^^ ((bs.getD k 0).setWidth 32))) % (2#32)).toNat : Nat) : Int) : Int) == 1))] hs .n (by kernel_rfl) (by kernel_rfl) (by kernel_rfl) ?_; clear hs a; intro a hs
    refine wpList_nil ?_
    refine then_n (hK28 _ _ ?_)
    refine wp_seq_k fun K29 hK30 => ?_
    refine wp_region_lit ?_
    refine st_mv hs rfl rfl ?_; clear hs w a; intro a w hs
    refine st_quo_u32 (X := stepN j ((foldC 4294967295#32 (bs.take k)) ^^^ ((bs.getD k 0).setWidth 32))) (Y := 2#32) hs rfl rfl rfl (by decide) (by decide) rfl ?_; clear hs w a; intro a w hs
    refine st_as hs rfl rfl ?_; clear hs w a; intro a w hs
    refine wpList_nil ?_
    refine then_n (hK30 _ _ ?_)
    refine wp_seq_k fun K31 hK32 => ?_
    refine wp_region_lit ?_
    refine st_mv hs rfl rfl ?_; clear hs w a; intro a w hs
    refine wpList_nil ?_
    refine then_n (hK32 _ _ ?_)
    refine wp_if hs rfl (fun hc33 => ?_) (fun hc33 => ?_)
    ·
     replace hc33 := eq_of_beq hc33
     refine wp_region_lit ?_
     refine st_mv hs rfl rfl ?_; clear hs w a; intro a w hs
     refine st_xor_u32 (X := (stepN j ((foldC 4294967295#32 (bs.take k)) ^^^ ((bs.getD k 0).setWidth 32))) / (2#32)) (Y := 3988292384#32) hs rfl rfl rfl (by decide) rfl ?_; clear hs w a; intro a w hs
     refine st_as hs rfl rfl ?_; clear hs w a; intro a w hs
     refine wpList_nil ?_
     refine in_n ?_
     refine then_n (hK26 _ _ ?_)
     refine wp_region_lit ?_
     refine st_mv hs rfl rfl ?_; clear hs w a; intro a w hs
     refine st_addR hs rfl rfl (by omega) rfl ?_; clear hs w a; intro a w hs
     refine st_as hs rfl rfl ?_; clear hs w a; intro a w hs
     refine wpList_nil ?_
     refine then_n ?_
     first | rw [ref_odd (by assumption)] at hs | rw [ref_even (by assumption)] at hs
     refine ⟨_, ?_, j + 1, rfl, hs.sub (.c rfl (.c rfl (.c rfl (.c rfl .n)))), by omega⟩
     omega
    replace hc33 := ne_of_beq_f hc33
    refine wp_skip ?_
    refine in_n ?_
    refine then_n (hK26 _ _ ?_)
    refine wp_region_lit ?_
    refine st_mv hs rfl rfl ?_; clear hs w a; intro a w hs
    refine st_addR hs rfl rfl (by omega) rfl ?_; clear hs w a; intro a w hs
    refine st_as hs rfl rfl ?_; clear hs w a; intro a w hs
    refine wpList_nil ?_
    refine then_n ?_
    first | rw [ref_odd (by assumption)] at hs | rw [ref_even (by assumption)] at hs
    refine ⟨_, ?_, j + 1, rfl, hs.sub (.c rfl (.c rfl (.c rfl (.c rfl .n)))), by omega⟩
    omega
   replace hc24 := of_decide_eq_false hc24
   refine wp_exit ?_
   refine th_e ?_
   refine th_e ?_
   refine in_hit ?_
   refine in_n ?_
   refine then_n (hK15 _ _ ?_)
   refine wp_region_lit ?_
   refine st_mv hs rfl rfl ?_; clear hs w a; intro a w hs
   refine st_addR hs rfl rfl (by omega) rfl ?_; clear hs w a; intro a w hs
   refine st_as hs rfl rfl ?_; clear hs w a; intro a w hs
   refine wpList_nil ?_
   refine then_n ?_
   obtain rfl : j = 8 := by omega
   have e8_ := foldC_succ 4294967295#32 bs k (by omega)
   unfold stepC at e8_; rw [← e8_] at hs; clear e8_
   refine ⟨_, ?_, k + 1, rfl, hs.sub (.c rfl (.c rfl (.c rfl .n))), by omega⟩
   omega
  replace hc13 := of_decide_eq_false hc13
  refine wp_exit ?_
  refine th_e ?_
  refine th_e ?_
  refine in_hit ?_
  refine then_n (hK6 _ _ ?_)
  refine wp_seq_k fun K34 hK35 => ?_
  refine wp_region_lit ?_
  refine st_mv hs rfl rfl ?_; clear hs w a; intro a w hs
  refine st_xor_u32 (X := 4294967295#32) (Y := foldC 4294967295#32 (bs.take k)) hs rfl (by decide) rfl rfl rfl ?_; clear hs w a; intro a w hs
  refine st_as hs rfl rfl ?_; clear hs w a; intro a w hs
  refine wpList_nil ?_
  refine then_n (hK35 _ _ ?_)
  refine wp_ret ?_
  exact fin hs rfl rfl ⟨by have h : k = m := (by omega); subst h; rw [← hbl, List.take_length, crcSum_ref], rfl⟩
theorem rseal_ok (v : Value) (m : Nat) (bs : List Byte) (w0 : World) (hb : Rd w0 [] v 1 m (bytesV bs)) (hm : m ≤ 140737488351232) : Calls Try.prog 66 #[v] w0 (Ret w0 [] fun r N => N = [row r 5 1 (m + 4) (bytesV (seal_ bs))]) := by
  have hbl : bs.length = m := by have := hb.len; simpa [bytesV] using this
  have hle : m ≤ maxLen := hb.le
  simp only [maxLen] at hle
  refine enter (F0 := [(0, v)]) Try.func66 rfl rfl rfl (.c .n) (Mem.nil _) fun a w hs => ?_
  refine wp_seq_k fun K1 hK2 => ?_
  refine wp_region_lit ?_
  refine st_as hs rfl rfl ?_; clear hs w a; intro a w hs
  refine wpList_nil ?_
  refine then_n (hK2 _ _ ?_)
  refine wp_seq_k fun K3 hK4 => ?_
  refine wp_region_lit ?_
  refine st_mv hs rfl rfl ?_; clear hs w a; intro a w hs
  refine st_callP (v := .int .u32 ((((crcSum bs).toNat : Nat) : Int))) hs (.c rfl .n) Try.call90 (rsum_ok _ _ bs _ (hs.rd0 hb)) rfl ?_; clear hs w a; intro a w hs
  refine st_as hs rfl rfl ?_; clear hs w a; intro a w hs
  refine wpList_nil ?_
  refine then_n (hK4 _ _ ?_)
  refine wp_seq_k fun K5 hK6 => ?_
  refine wp_region_lit ?_
  refine st_bs0 hs Try.underlying26 rfl ?_ ⟨_, Try.sizeOf5⟩; clear hs w a; intro g7 a w hs
  refine st_mv hs rfl rfl ?_; clear hs w a; intro a w hs
  replace hs := hs.toRow (size := 1) (m := 0) .z rfl (by decide)
  refine st_app (size := 1) (bytes := 1) hs rfl rfl .z (hs.rd0 hb) (oneCell_bytesV _) Try.underlying26 (i := Try.t5) rfl rfl rfl rfl rfl (by decide) (by omega) (by simp only [maxLen]; omega) rfl ?_; clear hs w a; intro v8 a w hs
  refine st_mv hs rfl rfl ?_; clear hs w a; intro a w hs
  refine st_quo_u32 (X := crcSum bs) (Y := 16777216#32) hs rfl rfl rfl (by decide) (by decide) rfl ?_; clear hs w a; intro a w hs
  refine st_cv_u32_u8 (X := (crcSum bs) / (16777216#32)) hs rfl rfl Try.underlying110 Try.underlying5 rfl ?_; clear hs w a; intro a w hs
  refine st_mv hs rfl rfl ?_; clear hs w a; intro a w hs
  refine st_quo_u32 (X := crcSum bs) (Y := 65536#32) hs rfl rfl rfl (by decide) (by decide) rfl ?_; clear hs w a; intro a w hs
  refine st_rem_u32 (X := (crcSum bs) / (65536#32)) (Y := 256#32) hs rfl rfl rfl (by decide) (by decide) rfl ?_; clear hs w a; intro a w hs
  refine st_cv_u32_u8 (X := ((crcSum bs) / (65536#32)) % (256#32)) hs rfl rfl Try.underlying110 Try.underlying5 rfl ?_; clear hs w a; intro a w hs
  refine st_mv hs rfl rfl ?_; clear hs w a; intro a w hs
  refine st_quo_u32 (X := crcSum bs) (Y := 256#32) hs rfl rfl rfl (by decide) (by decide) rfl ?_; clear hs w a; intro a w hs
  refine st_rem_u32 (X := (crcSum bs) / (256#32)) (Y := 256#32) hs rfl rfl rfl (by decide) (by decide) rfl ?_; clear hs w a; intro a w hs
  refine st_cv_u32_u8 (X := ((crcSum bs) / (256#32)) % (256#32)) hs rfl rfl Try.underlying110 Try.underlying5 rfl ?_; clear hs w a; intro a w hs
  refine st_mv hs rfl rfl ?_; clear hs w a; intro a w hs
  refine st_rem_u32 (X := crcSum bs) (Y := 256#32) hs rfl rfl rfl (by decide) (by decide) rfl ?_; clear hs w a; intro a w hs
  refine st_cv_u32_u8 (X := (crcSum bs) % (256#32)) hs rfl rfl Try.underlying110 Try.underlying5 rfl ?_; clear hs w a; intro a w hs
  refine st_bs (cs := [.int .u8 ((((((crcSum bs) / (16777216#32)).setWidth 8).toNat : Nat) : Int)), .int .u8 (((((((crcSum bs) / (65536#32)) % (256#32)).setWidth 8).toNat : Nat) : Int)), .int .u8 (((((((crcSum bs) / (256#32)) % (256#32)).setWidth 8).toNat : Nat) : Int)), .int .u8 ((((((crcSum bs) % (256#32)).setWidth 8).toNat : Nat) : Int))]) hs (.c (.c (.c (.c .n)))) (.c rfl (.c rfl (.c rfl (.c rfl .n)))) Try.underlying26 (ie := Try.t5) rfl rfl rfl rfl (by decide) (by decide) rfl (by decide) rfl rfl rfl ?_; clear hs w a; intro g9 a w hs
  refine st_app (size := 1) (bytes := 1) hs rfl rfl (.s .z) (rd_blk (m := 4) (size := 1) (hs.mem.del .z) rfl (by decide)) (by simp [Value.oneCell']) Try.underlying26 (i := Try.t5) rfl rfl rfl rfl rfl (by decide) (by omega) (by simp only [maxLen]; omega) rfl ?_; clear hs w a; intro v10 a w hs
  replace hs := hs.drop (.c (.s .z) .n)
  refine st_as hs rfl rfl ?_; clear hs w a; intro a w hs
  refine wpList_nil ?_
  refine then_n (hK6 _ _ ?_)
  refine wp_ret ?_
  replace hs := hs.rerow .z (m' := m + 4) (xs' := bytesV (seal_ bs)) (by omega) (by rw [List.nil_append]; refine Eq.trans ?_ (bytesV_append bs (be4 (crcSum bs))).symm; rw [← ref_be4]; rfl)
  exact fin hs rfl rfl rfl
/-- What opening hands back. -/
def OpenPost (bs : List Byte) (v : Value) (N : List HA) : Prop := match open_ bs with
  | none => v = .tuple #[.slice none 0 0, .bool false] ∧ N = []
  | some x => ∃ r, v = .tuple #[r, .bool true] ∧ N = [row r 5 1 x.length (bytesV x)]
theorem openPost_none {bs : List Byte} (h : open_ bs = none) : OpenPost bs (.tuple #[.slice none 0 0, .bool false]) [] := by unfold OpenPost; rw [h]; exact ⟨rfl, rfl⟩
theorem openPost_some {bs x : List Byte} (h : open_ bs = some x) (r : Value) : OpenPost bs (.tuple #[r, .bool true]) [row r 5 1 x.length (bytesV x)] := by unfold OpenPost; rw [h]; exact ⟨r, rfl, rfl⟩
theorem open_short {bs : List Byte} (h : bs.length < 4) : open_ bs = none := by unfold open_; rw [if_pos h]
theorem open_no {bs : List Byte} (h : ¬ bs.length < 4) (h2 : beN (bs.drop (bs.length - 4)) ≠ crcSum (bs.take (bs.length - 4))) : open_ bs = none := by unfold open_; rw [if_neg h, if_neg h2]
theorem open_yes {bs : List Byte} (h : ¬ bs.length < 4) (h2 : beN (bs.drop (bs.length - 4)) = crcSum (bs.take (bs.length - 4))) : open_ bs = some (bs.take (bs.length - 4)) := by unfold open_; rw [if_neg h, if_pos h2]
theorem open_no2 {bs : List Byte} {m k : Nat} (hl : bs.length = m) (h4 : 4 ≤ m) (h : (((beN ((bs.drop (m - 4)).take k)).toNat : Nat) : Int) ≠ (((crcSum (bs.take (m - 4))).toNat : Nat) : Int)) (hk : k = m - (m - 4)) : open_ bs = none := by
  subst hl
  rw [List.take_of_length_le (by simp; omega)] at h
  exact open_no (by omega) (fun e => h (by rw [e]))
theorem open_yes2 {bs : List Byte} {m k : Nat} (hl : bs.length = m) (h4 : 4 ≤ m) (h : (((beN ((bs.drop (m - 4)).take k)).toNat : Nat) : Int) = (((crcSum (bs.take (m - 4))).toNat : Nat) : Int)) (hk : k = m - (m - 4)) : open_ bs = some (bs.take (m - 4)) := by
  subst hl
  rw [List.take_of_length_le (by simp; omega)] at h
  exact open_yes (by omega) (BitVec.eq_of_toNat_eq (by omega))
theorem open_ok (v : Value) (m : Nat) (bs : List Byte) (w0 : World) (hb : Rd w0 [] v 1 m (bytesV bs)) (hm : m ≤ 140737488351232) : Calls Try.prog 37 #[v] w0 (Ret w0 [] (OpenPost bs)) := by
  have hbl : bs.length = m := by have := hb.len; simpa [bytesV] using this
  have hle : m ≤ maxLen := hb.le
  simp only [maxLen] at hle
  refine enter (F0 := [(0, v)]) Try.func37 rfl rfl rfl (.c .n) (Mem.nil _) fun a w hs => ?_
  refine wp_seq_k fun K1 hK2 => ?_
  refine wp_region_lit ?_
  refine st_run 2 [(3, .bool (false)), (2, .slice none 0 0)] hs .n (by kernel_rfl) (by kernel_rfl) (by kernel_rfl) ?_; clear hs a; intro a hs
  refine wpList_nil ?_
  refine then_n (hK2 _ _ ?_)
  refine wp_seq_k fun K3 hK4 => ?_
  refine wp_region_lit ?_
  refine st_mv hs rfl rfl ?_; clear hs w a; intro a w hs
  refine st_len hs rfl (hs.rd0 hb).isSl Try.underlying26 rfl ?_; clear hs w a; intro a w hs
  refine st_subR hs rfl rfl (by omega) rfl ?_; clear hs w a; intro a w hs
  refine st_as hs rfl rfl ?_; clear hs w a; intro a w hs
  refine wpList_nil ?_
  refine then_n (hK4 _ _ ?_)
  refine wp_seq_k fun K5 hK6 => ?_
  refine wp_seq_k fun K7 hK8 => ?_
  refine wp_region_lit ?_
  refine st_run 2 [(12, .bool (decide (((m : Int) - 4) < 0)))] hs .n (by kernel_rfl) (by kernel_rfl) (by kernel_rfl) ?_; clear hs a; intro a hs
  refine wpList_nil ?_
  refine then_n (hK8 _ _ ?_)
  refine wp_if hs rfl (fun hc9 => ?_) (fun hc9 => ?_)
  ·
   replace hc9 := of_decide_eq_true hc9
   refine wp_seq_k fun K10 hK11 => ?_
   refine wp_region_lit ?_
   refine st_run 2 [(3, .bool (false)), (2, .slice none 0 0)] hs .n (by kernel_rfl) (by kernel_rfl) (by kernel_rfl) ?_; clear hs a; intro a hs
   refine wpList_nil ?_
   refine then_n (hK11 _ _ ?_)
   refine wp_ret ?_
   refine th_r ?_
   first | exact fin2 hs rfl rfl rfl (openPost_none (open_short (by omega))) | exact fin2 hs rfl rfl rfl (openPost_none (open_no2 hbl (by omega) (by assumption) (by omega)))
  replace hc9 := of_decide_eq_false hc9
  have hv_ : ((m : Int) - 4 : Int) = (((m - 4 : Nat) : Int) : Int) := by omega
  rw [hv_] at hs; clear hv_
  refine wp_skip ?_
  refine then_n (hK6 _ _ ?_)
  refine wp_seq_k fun K12 hK13 => ?_
  refine wp_region_lit ?_
  refine st_as hs rfl rfl ?_; clear hs w a; intro a w hs
  refine wpList_nil ?_
  refine then_n (hK13 _ _ ?_)
  refine wp_seq_k fun K14 hK15 => ?_
  refine wp_seq_k fun K16 hK17 => ?_
  refine wp_region_lit ?_
  refine st_run 2 [(14, .int .i64 (((m - 4 : Nat) : Int))), (13, v)] hs .n (by kernel_rfl) (by kernel_rfl) (by kernel_rfl) ?_; clear hs a; intro a hs
  refine st_slcL (j := (m - 4)) hs rfl rfl rfl (hs.rd0 hb).isSl (by omega) Try.underlying26 Try.sizeOf5 rfl ?_; clear hs w a; intro a w hs
  refine st_len hs rfl ((hs.rd0 hb).slcL (l := (m - 4)) (by omega)).isSl Try.underlying26 rfl ?_; clear hs w a; intro a w hs
  refine st_mv hs rfl rfl ?_; clear hs w a; intro a w hs
  refine wpList_nil ?_
  refine then_n (hK17 _ _ ?_)
  refine wp_block ?_
  refine wp_loopI (fun mm_ a w => ∃ k : Nat, mm_ = m - k ∧ St 38 [(0, v), (4, .int .i64 (((m - 4 : Nat) : Int))), (5, .int .u32 ((((beN ((bs.drop (m - 4)).take k)).toNat : Nat) : Int))), (15, slcV v 1 (m - 4) m), (16, .int .i64 (((m - (m - 4) : Nat) : Int))), (17, .int .i64 ((k : Int)))] w0 [] [] a w ∧ k ≤ m - (m - 4)) ⟨0, rfl, hs.sub (.c rfl (.c rfl (.c rfl (.c rfl (.c rfl (.c rfl .n)))))), by omega⟩ ?_
  clear hs w a; rintro mm_ a w ⟨k, rfl, hs, hI1_0⟩
  refine wp_seq_k fun K18 hK19 => ?_
  refine wp_region_lit ?_
  refine st_lss hs rfl rfl rfl ?_; clear hs w a; intro a w hs
  refine wpList_nil ?_
  refine then_n (hK19 _ _ ?_)
  refine wp_seq_k fun K20 hK21 => ?_
  refine wp_if hs rfl (fun hc22 => ?_) (fun hc22 => ?_)
  ·
   replace hc22 := of_decide_eq_true hc22
   refine wp_skip ?_
   refine then_n (hK21 _ _ ?_)
   refine wp_seq_k fun K23 hK24 => ?_
   refine wp_block ?_
   refine wp_seq_k fun K25 hK26 => ?_
   refine wp_region_lit ?_
   refine st_ia1 (j := k) hs rfl rfl ((hs.rd0 hb).slcL (l := (m - 4)) (by omega)) rfl (by omega) Try.underlying26 Try.sizeOf5 rfl ?_; clear hs w a; intro a w hs
   refine st_ld hs rfl ((hs.rd0 hb).slcL (l := (m - 4)) (by omega)) (bytesV_getD ((bs.drop (m - 4))) (by first | omega | (simp; omega))) Try.isAgg5 rfl ?_; clear hs w a; intro a w hs
   refine st_as hs rfl rfl ?_; clear hs w a; intro a w hs
   refine wpList_nil ?_
   refine then_n (hK26 _ _ ?_)
   refine wp_region_lit ?_
   refine st_mv hs rfl rfl ?_; clear hs w a; intro a w hs
   refine st_shl_u32 (X := beN ((bs.drop (m - 4)).take k)) (m := 8) hs rfl rfl rfl (by decide) rfl ?_; clear hs w a; intro a w hs
   refine st_mv hs rfl rfl ?_; clear hs w a; intro a w hs
   refine st_cv_u8_u32 (X := ((bs.drop (m - 4))).getD k 0) hs rfl rfl Try.underlying5 Try.underlying110 rfl ?_; clear hs w a; intro a w hs
   refine st_or_u32 (X := (beN ((bs.drop (m - 4)).take k)) <<< 8) (Y := (((bs.drop (m - 4))).getD k 0).setWidth 32) hs rfl rfl rfl rfl rfl ?_; clear hs w a; intro a w hs
   refine st_as hs rfl rfl ?_; clear hs w a; intro a w hs
   refine wpList_nil ?_
   refine in_n ?_
   refine then_n (hK24 _ _ ?_)
   refine wp_region_lit ?_
   refine st_addR hs rfl rfl (by omega) rfl ?_; clear hs w a; intro a w hs
   refine st_mv hs rfl rfl ?_; clear hs w a; intro a w hs
   refine wpList_nil ?_
   refine then_n ?_
   rw [← beN_succ _ _ (by simp; omega)] at hs
   refine ⟨_, ?_, k + 1, rfl, hs.sub (.c rfl (.c rfl (.c rfl (.c rfl (.c rfl (.c rfl .n)))))), by omega⟩
   omega
  replace hc22 := of_decide_eq_false hc22
  refine wp_exit ?_
  refine th_e ?_
  refine th_e ?_
  refine in_hit ?_
  refine then_n (hK15 _ _ ?_)
  refine wp_seq_k fun K27 hK28 => ?_
  refine wp_seq_k fun K29 hK30 => ?_
  refine wp_region_lit ?_
  refine st_run 3 [(29, .int .i64 (((m - 4 : Nat) : Int))), (28, v), (27, .int .u32 ((((beN ((bs.drop (m - 4)).take k)).toNat : Nat) : Int)))] hs .n (by kernel_rfl) (by kernel_rfl) (by kernel_rfl) ?_; clear hs a; intro a hs
  refine st_slcH (j := (m - 4)) hs rfl rfl rfl (hs.rd0 hb) (by omega) Try.underlying26 Try.sizeOf5 rfl ?_; clear hs w a; intro a w hs
  refine st_callP (v := .int .u32 ((((crcSum ((bs.take (m - 4)))).toNat : Nat) : Int))) hs (.c rfl .n) Try.call64 (sum_ok _ _ ((bs.take (m - 4))) _ ((hs.rd0 hb).slcT (h := (m - 4)) (by omega))) rfl ?_; clear hs w a; intro a w hs
  refine st_neq hs rfl rfl rfl ?_; clear hs w a; intro a w hs
  refine wpList_nil ?_
  refine then_n (hK30 _ _ ?_)
  refine wp_if hs rfl (fun hc31 => ?_) (fun hc31 => ?_)
  ·
   replace hc31 := not_t hc31
   replace hc31 := ne_of_beq_f hc31
   refine wp_seq_k fun K32 hK33 => ?_
   refine wp_region_lit ?_
   refine st_run 2 [(3, .bool (false)), (2, .slice none 0 0)] hs .n (by kernel_rfl) (by kernel_rfl) (by kernel_rfl) ?_; clear hs a; intro a hs
   refine wpList_nil ?_
   refine then_n (hK33 _ _ ?_)
   refine wp_ret ?_
   refine th_r ?_
   first | exact fin2 hs rfl rfl rfl (openPost_none (open_short (by omega))) | exact fin2 hs rfl rfl rfl (openPost_none (open_no2 hbl (by omega) (by assumption) (by omega)))
  replace hc31 := not_f hc31
  replace hc31 := eq_of_beq hc31
  refine wp_skip ?_
  refine then_n (hK28 _ _ ?_)
  refine wp_seq_k fun K34 hK35 => ?_
  refine wp_region_lit ?_
  refine st_bs0 hs Try.underlying26 rfl ?_ ⟨_, Try.sizeOf5⟩; clear hs w a; intro g36 a w hs
  refine st_run 2 [(35, .int .i64 (((m - 4 : Nat) : Int))), (34, v)] hs .n (by kernel_rfl) (by kernel_rfl) (by kernel_rfl) ?_; clear hs a; intro a hs
  refine st_slcH (j := (m - 4)) hs rfl rfl rfl (hs.rd0 hb) (by omega) Try.underlying26 Try.sizeOf5 rfl ?_; clear hs w a; intro a w hs
  replace hs := hs.toRow (size := 1) (m := 0) .z rfl (by decide)
  refine st_app (size := 1) (bytes := 1) hs rfl rfl .z ((hs.rd0 hb).slcT (h := (m - 4)) (by omega)) (oneCell_bytesV _) Try.underlying26 (i := Try.t5) rfl rfl rfl rfl rfl (by decide) (by omega) (by simp only [maxLen]; omega) rfl ?_; clear hs w a; intro v37 a w hs
  refine st_run 2 [(3, .bool (true)), (2, v37)] hs .n (by kernel_rfl) (by kernel_rfl) (by kernel_rfl) ?_; clear hs a; intro a hs
  refine wpList_nil ?_
  refine then_n (hK35 _ _ ?_)
  refine wp_ret ?_
  replace hs := hs.rerow .z (m' := (bs.take (m - 4)).length) (xs' := bytesV (bs.take (m - 4))) (by simp; omega) (by rw [List.nil_append])
  exact fin2 hs rfl rfl rfl (openPost_some (open_yes2 hbl (by omega) (by assumption) (by omega)) _)
theorem open_none (v : Value) (m : Nat) (bs : List Byte) (w0 : World) (hb : Rd w0 [] v 1 m (bytesV bs)) (hm : m ≤ 140737488351232) (h : open_ bs = none) : Calls Try.prog 37 #[v] w0 (RetV w0 (.tuple #[.slice none 0 0, .bool false])) :=
  (open_ok v m bs w0 hb hm).mono fun e w' ⟨u, N, he, hp, hM⟩ => ⟨u, N, he, by unfold OpenPost at hp; rw [h] at hp; exact hp, hM⟩
theorem open_some (v : Value) (m : Nat) (bs : List Byte) (w0 : World) (hb : Rd w0 [] v 1 m (bytesV bs)) (x : List Byte) (hm : m ≤ 140737488351232) (h : open_ bs = some x) : Calls Try.prog 37 #[v] w0 (Ret w0 [] fun u N => ∃ r, u = .tuple #[r, .bool true] ∧ N = [row r 5 1 x.length (bytesV x)]) :=
  (open_ok v m bs w0 hb hm).mono fun e w' ⟨u, N, he, hp, hM⟩ => ⟨u, N, he, by unfold OpenPost at hp; rw [h] at hp; exact hp, hM⟩
theorem open_none3 {bs : List Byte} {m : Nat} (hl : bs.length = m) (h4 : 4 ≤ m) (h : seal_ (bs.take (m - 4)) ≠ bs) : open_ bs = none := by
  cases ho : open_ bs with
  | none => rfl
  | some x =>
    exfalso
    have e := (open_spec bs x).1 ho
    have hx := length_seal x
    rw [← e, hl] at hx
    apply h
    rw [e]
    congr 1
    rw [show m - 4 = x.length by omega]
    simp [seal_]
theorem open_yes3 {bs x : List Byte} (h : seal_ x = bs) : open_ bs = some x := (open_spec bs x).2 h.symm
theorem ropen_ok (v : Value) (m : Nat) (bs : List Byte) (w0 : World) (hb : Rd w0 [] v 1 m (bytesV bs)) (hm : m ≤ 140737488351232) : Calls Try.prog 71 #[v] w0 (Ret w0 [] (OpenPost bs)) := by
  have hbl : bs.length = m := by have := hb.len; simpa [bytesV] using this
  have hle : m ≤ maxLen := hb.le
  simp only [maxLen] at hle
  refine enter (F0 := [(0, v)]) Try.func71 rfl rfl rfl (.c .n) (Mem.nil _) fun a w hs => ?_
  refine wp_seq_k fun K1 hK2 => ?_
  refine wp_region_lit ?_
  refine st_run 2 [(3, .bool (false)), (2, .slice none 0 0)] hs .n (by kernel_rfl) (by kernel_rfl) (by kernel_rfl) ?_; clear hs a; intro a hs
  refine wpList_nil ?_
  refine then_n (hK2 _ _ ?_)
  refine wp_seq_k fun K3 hK4 => ?_
  refine wp_region_lit ?_
  refine st_mv hs rfl rfl ?_; clear hs w a; intro a w hs
  refine st_len hs rfl (hs.rd0 hb).isSl Try.underlying26 rfl ?_; clear hs w a; intro a w hs
  refine st_subR hs rfl rfl (by omega) rfl ?_; clear hs w a; intro a w hs
  refine st_as hs rfl rfl ?_; clear hs w a; intro a w hs
  refine wpList_nil ?_
  refine then_n (hK4 _ _ ?_)
  refine wp_seq_k fun K5 hK6 => ?_
  refine wp_seq_k fun K7 hK8 => ?_
  by_cases hsp : m < 4
  ·
   replace hs := hs.sub (F' := [(4, .int .i64 ((m : Int) - 4)), (7, .int .i64 ((m : Int) - 4)), (6, .int .i64 ((m : Int))), (5, v), (3, .bool (false)), (2, .slice none 0 0), (0, v)]) (.c rfl (.c rfl (.c rfl (.c rfl (.c rfl (.c rfl (.c rfl .n)))))))
   refine wp_draw (Ps := [eqv (.int .i64 ((m : Int) - 4)), eqv (.bool (true)), eqv (.bool (true)), eqv (undef), eqv (undef), eqv (undef), eqv (undef), eqv (undef), eqv (undef), eqv (undef), eqv (undef), eqv (.bool (true))]) (by kernel_rfl) hs (by kernel_rfl) ?_ ?_
   ·
    refine (.c ?_ (.c ?_ (.c ?_ (.c ?_ (.c ?_ (.c ?_ (.c ?_ (.c ?_ (.c ?_ (.c ?_ (.c ?_ (.c ?_ .n))))))))))))
    ·
     intro a_ w_ R hm hs hp
     have hs0 := hs
     refine st_mv hs rfl rfl ?_; clear hs; intro a w hs
     exact wpList_nil ⟨rfl, _, _, _, _, rfl, hs0, .r, hs, rfl⟩
    ·
     intro a_ w_ R hm hs hp
     obtain ⟨v8, h8, p8⟩ := (hp 0 ⟨⟨0, .data⟩, mem_arr (.head _), rfl, rfl⟩).get rfl rfl
     rw [show v8 = .int .i64 ((m : Int) - 4) from p8] at h8; clear p8
     replace hs := hs.learn h8
     have hs0 := hs
     refine st_lss hs rfl rfl rfl ?_; clear hs; intro a w hs
     have hb_ : (decide (((m : Int) - 4) < 0)) = true := by first | (simp; done) | (simp; omega)
     rw [hb_] at hs; clear hb_
     exact wpList_nil ⟨rfl, _, _, _, _, rfl, hs0, (.c .r), hs, rfl⟩
    ·
     intro a_ w_ R hm hs hp
     obtain ⟨v9, h9, p9⟩ := (hp 1 ⟨⟨1, .data⟩, mem_arr (.head _), rfl, rfl⟩).get rfl rfl
     rw [show v9 = .bool (true) from p9] at h9; clear p9
     replace hs := hs.learn h9
     have hs0 := hs
     refine st_mv hs rfl rfl ?_; clear hs; intro a w hs
     exact wpList_nil ⟨rfl, _, _, _, _, rfl, hs0, (.c .r), hs, rfl⟩
    ·
     intro a_ w_ R hm hs hp
     obtain ⟨v10, h10, p10⟩ := (hp 2 ⟨⟨2, .guard⟩, mem_arr (.head _), rfl, rfl⟩).get rfl rfl
     rw [show v10 = .bool (true) from p10] at h10; clear p10
     replace hs := hs.learn h10
     have hs0 := hs
     refine st_guardF hs rfl rfl rfl rfl rfl ?_; clear hs; intro a w hs
     exact wpList_nil ⟨rfl, _, _, _, _, rfl, hs0, (.c .r), hs, rfl⟩
    ·
     intro a_ w_ R hm hs hp
     obtain ⟨v10, h10, p10⟩ := (hp 2 ⟨⟨2, .guard⟩, mem_arr (.head _), rfl, rfl⟩).get rfl rfl
     rw [show v10 = .bool (true) from p10] at h10; clear p10
     replace hs := hs.learn h10
     have hs0 := hs
     refine st_guardF hs rfl rfl rfl rfl rfl ?_; clear hs; intro a w hs
     exact wpList_nil ⟨rfl, _, _, _, _, rfl, hs0, (.c .r), hs, rfl⟩
    ·
     intro a_ w_ R hm hs hp
     obtain ⟨v11, h11, p11⟩ := (hp 3 ⟨⟨3, .data⟩, mem_arr (.head _), rfl, rfl⟩).get rfl rfl
     rw [show v11 = undef from p11] at h11; clear p11
     replace hs := hs.learn h11
     obtain ⟨v12, h12, p12⟩ := (hp 4 ⟨⟨4, .data⟩, mem_arr (.tail _ (.head _)), rfl, rfl⟩).get rfl rfl
     rw [show v12 = undef from p12] at h12; clear p12
     replace hs := hs.learn h12
     obtain ⟨v10, h10, p10⟩ := (hp 2 ⟨⟨2, .guard⟩, mem_arr (.tail _ (.tail _ (.head _))), rfl, rfl⟩).get rfl rfl
     rw [show v10 = .bool (true) from p10] at h10; clear p10
     replace hs := hs.learn h10
     have hs0 := hs
     refine st_guardF hs rfl rfl rfl rfl rfl ?_; clear hs; intro a w hs
     exact wpList_nil ⟨rfl, _, _, _, _, rfl, hs0, (.c (.c (.c .r))), hs, rfl⟩
    ·
     intro a_ w_ R hm hs hp
     obtain ⟨v13, h13, p13⟩ := (hp 5 ⟨⟨5, .data⟩, mem_arr (.head _), rfl, rfl⟩).get rfl rfl
     rw [show v13 = undef from p13] at h13; clear p13
     replace hs := hs.learn h13
     obtain ⟨v10, h10, p10⟩ := (hp 2 ⟨⟨2, .chain⟩, mem_arr (.tail _ (.head _)), rfl, rfl⟩).get rfl rfl
     rw [show v10 = .bool (true) from p10] at h10; clear p10
     replace hs := hs.learn h10
     have hs0 := hs
     refine st_guardF hs rfl rfl rfl rfl rfl ?_; clear hs; intro a w hs
     exact wpList_nil ⟨rfl, _, _, _, _, rfl, hs0, (.c (.c .r)), hs, rfl⟩
    ·
     intro a_ w_ R hm hs hp
     obtain ⟨v14, h14, p14⟩ := (hp 6 ⟨⟨6, .data⟩, mem_arr (.head _), rfl, rfl⟩).get rfl rfl
     rw [show v14 = undef from p14] at h14; clear p14
     replace hs := hs.learn h14
     obtain ⟨v10, h10, p10⟩ := (hp 2 ⟨⟨2, .guard⟩, mem_arr (.tail _ (.head _)), rfl, rfl⟩).get rfl rfl
     rw [show v10 = .bool (true) from p10] at h10; clear p10
     replace hs := hs.learn h10
     have hs0 := hs
     refine st_guardF hs rfl rfl rfl rfl rfl ?_; clear hs; intro a w hs
     exact wpList_nil ⟨rfl, _, _, _, _, rfl, hs0, (.c (.c .r)), hs, rfl⟩
    ·
     intro a_ w_ R hm hs hp
     obtain ⟨v10, h10, p10⟩ := (hp 2 ⟨⟨2, .guard⟩, mem_arr (.head _), rfl, rfl⟩).get rfl rfl
     rw [show v10 = .bool (true) from p10] at h10; clear p10
     replace hs := hs.learn h10
     have hs0 := hs
     refine st_guardF hs rfl rfl rfl rfl rfl ?_; clear hs; intro a w hs
     exact wpList_nil ⟨rfl, _, _, _, _, rfl, hs0, (.c .r), hs, rfl⟩
    ·
     intro a_ w_ R hm hs hp
     obtain ⟨v16, h16, p16⟩ := (hp 8 ⟨⟨8, .data⟩, mem_arr (.head _), rfl, rfl⟩).get rfl rfl
     rw [show v16 = undef from p16] at h16; clear p16
     replace hs := hs.learn h16
     obtain ⟨v10, h10, p10⟩ := (hp 2 ⟨⟨2, .guard⟩, mem_arr (.tail _ (.head _)), rfl, rfl⟩).get rfl rfl
     rw [show v10 = .bool (true) from p10] at h10; clear p10
     replace hs := hs.learn h10
     have hs0 := hs
     refine st_guardF hs rfl rfl rfl rfl rfl ?_; clear hs; intro a w hs
     exact wpList_nil ⟨rfl, _, _, _, _, rfl, hs0, (.c (.c .r)), hs, rfl⟩
    ·
     intro a_ w_ R hm hs hp
     obtain ⟨v15, h15, p15⟩ := (hp 7 ⟨⟨7, .data⟩, mem_arr (.head _), rfl, rfl⟩).get rfl rfl
     rw [show v15 = undef from p15] at h15; clear p15
     replace hs := hs.learn h15
     obtain ⟨v17, h17, p17⟩ := (hp 9 ⟨⟨9, .data⟩, mem_arr (.tail _ (.head _)), rfl, rfl⟩).get rfl rfl
     rw [show v17 = undef from p17] at h17; clear p17
     replace hs := hs.learn h17
     obtain ⟨v10, h10, p10⟩ := (hp 2 ⟨⟨2, .guard⟩, mem_arr (.tail _ (.tail _ (.head _))), rfl, rfl⟩).get rfl rfl
     rw [show v10 = .bool (true) from p10] at h10; clear p10
     replace hs := hs.learn h10
     have hs0 := hs
     refine st_guardF hs rfl rfl rfl rfl rfl ?_; clear hs; intro a w hs
     exact wpList_nil ⟨rfl, _, _, _, _, rfl, hs0, (.c (.c (.c .r))), hs, rfl⟩
    intro a_ w_ R hm hs hp
    obtain ⟨v10, h10, p10⟩ := (hp 2 ⟨⟨2, .data⟩, mem_arr (.head _), rfl, rfl⟩).get rfl rfl
    rw [show v10 = .bool (true) from p10] at h10; clear p10
    replace hs := hs.learn h10
    obtain ⟨v18, h18, p18⟩ := (hp 10 ⟨⟨10, .data⟩, mem_arr (.tail _ (.head _)), rfl, rfl⟩).get rfl rfl
    rw [show v18 = undef from p18] at h18; clear p18
    replace hs := hs.learn h18
    have hs0 := hs
    refine st_pickT hs rfl rfl rfl ?_; clear hs; intro a w hs
    exact wpList_nil ⟨rfl, _, _, _, _, rfl, hs0, (.c (.c .r)), hs, rfl⟩
   clear hs w a; intro a w hs hf
   obtain ⟨v19, h19, p19⟩ := (hf 11 (by decide)).get rfl rfl
   rw [show v19 = .bool (true) from p19] at h19; clear p19
   replace hs := hs.learn h19; clear h19
   clear hf
   refine then_n (hK8 _ _ ?_)
   refine wp_cond_true (hs.ev rfl) ?_
   refine wp_seq_k fun K9 hK10 => ?_
   refine wp_region_lit ?_
   refine st_run 2 [(3, .bool (false)), (2, .slice none 0 0)] hs .n (by kernel_rfl) (by kernel_rfl) (by kernel_rfl) ?_; clear hs a; intro a hs
   refine wpList_nil ?_
   refine then_n (hK10 _ _ ?_)
   refine wp_ret ?_
   refine th_r ?_
   first | exact fin2 hs rfl rfl rfl (openPost_none (open_short (by omega))) | exact fin2 hs rfl rfl rfl (openPost_none (open_none3 hbl (by omega) (by assumption)))
  have hv_ : ((m : Int) - 4 : Int) = (((m - 4 : Nat) : Int) : Int) := by omega
  rw [hv_] at hs; clear hv_
  replace hs := hs.sub (F' := [(4, .int .i64 (((m - 4 : Nat) : Int))), (7, .int .i64 (((m - 4 : Nat) : Int))), (6, .int .i64 ((m : Int))), (5, v), (3, .bool (false)), (2, .slice none 0 0), (0, v)]) (.c rfl (.c rfl (.c rfl (.c rfl (.c rfl (.c rfl (.c rfl .n)))))))
  refine wp_draw (Ps := [eqv (.int .i64 (((m - 4 : Nat) : Int))), eqv (.bool (false)), eqv (.bool (false)), eqv (v), eqv (.int .i64 (((m - 4 : Nat) : Int))), eqv (slcV v 1 0 (m - 4)), rdv 1 ((m - 4) + 4) (bytesV (seal_ ((bs.take (m - 4))))), eqv (.string (strB ((seal_ ((bs.take (m - 4))))))), eqv (v), eqv (.string (strB bs)), eqv (.bool (!((strB ((seal_ ((bs.take (m - 4)))))).toList == (strB bs).toList))), eqv (.bool (!((strB ((seal_ ((bs.take (m - 4)))))).toList == (strB bs).toList)))]) (by kernel_rfl) hs (by kernel_rfl) ?_ ?_
  ·
   refine (.c ?_ (.c ?_ (.c ?_ (.c ?_ (.c ?_ (.c ?_ (.c ?_ (.c ?_ (.c ?_ (.c ?_ (.c ?_ (.c ?_ .n))))))))))))
   ·
    intro a_ w_ R hm hs hp
    have hs0 := hs
    refine st_mv hs rfl rfl ?_; clear hs; intro a w hs
    exact wpList_nil ⟨rfl, _, _, _, _, rfl, hs0, .r, hs, rfl⟩
   ·
    intro a_ w_ R hm hs hp
    obtain ⟨v8, h8, p8⟩ := (hp 0 ⟨⟨0, .data⟩, mem_arr (.head _), rfl, rfl⟩).get rfl rfl
    rw [show v8 = .int .i64 (((m - 4 : Nat) : Int)) from p8] at h8; clear p8
    replace hs := hs.learn h8
    have hs0 := hs
    refine st_lss hs rfl rfl rfl ?_; clear hs; intro a w hs
    have hb_ : (decide ((((m - 4 : Nat) : Int)) < 0)) = false := by first | (simp; done) | (simp; omega)
    rw [hb_] at hs; clear hb_
    exact wpList_nil ⟨rfl, _, _, _, _, rfl, hs0, (.c .r), hs, rfl⟩
   ·
    intro a_ w_ R hm hs hp
    obtain ⟨v9, h9, p9⟩ := (hp 1 ⟨⟨1, .data⟩, mem_arr (.head _), rfl, rfl⟩).get rfl rfl
    rw [show v9 = .bool (false) from p9] at h9; clear p9
    replace hs := hs.learn h9
    have hs0 := hs
    refine st_mv hs rfl rfl ?_; clear hs; intro a w hs
    exact wpList_nil ⟨rfl, _, _, _, _, rfl, hs0, (.c .r), hs, rfl⟩
   ·
    intro a_ w_ R hm hs hp
    obtain ⟨v10, h10, p10⟩ := (hp 2 ⟨⟨2, .guard⟩, mem_arr (.head _), rfl, rfl⟩).get rfl rfl
    rw [show v10 = .bool (false) from p10] at h10; clear p10
    replace hs := hs.learn h10
    have hs0 := hs
    refine st_guardT hs rfl rfl rfl ?_
    refine st_mv hs rfl rfl ?_; clear hs; intro a w hs
    exact wpList_nil ⟨rfl, _, _, _, _, rfl, hs0, (.c .r), hs, rfl⟩
   ·
    intro a_ w_ R hm hs hp
    obtain ⟨v10, h10, p10⟩ := (hp 2 ⟨⟨2, .guard⟩, mem_arr (.head _), rfl, rfl⟩).get rfl rfl
    rw [show v10 = .bool (false) from p10] at h10; clear p10
    replace hs := hs.learn h10
    have hs0 := hs
    refine st_guardT hs rfl rfl rfl ?_
    refine st_mv hs rfl rfl ?_; clear hs; intro a w hs
    exact wpList_nil ⟨rfl, _, _, _, _, rfl, hs0, (.c .r), hs, rfl⟩
   ·
    intro a_ w_ R hm hs hp
    obtain ⟨v11, h11, p11⟩ := (hp 3 ⟨⟨3, .data⟩, mem_arr (.head _), rfl, rfl⟩).get rfl rfl
    rw [show v11 = v from p11] at h11; clear p11
    replace hs := hs.learn h11
    obtain ⟨v12, h12, p12⟩ := (hp 4 ⟨⟨4, .data⟩, mem_arr (.tail _ (.head _)), rfl, rfl⟩).get rfl rfl
    rw [show v12 = .int .i64 (((m - 4 : Nat) : Int)) from p12] at h12; clear p12
    replace hs := hs.learn h12
    obtain ⟨v10, h10, p10⟩ := (hp 2 ⟨⟨2, .guard⟩, mem_arr (.tail _ (.tail _ (.head _))), rfl, rfl⟩).get rfl rfl
    rw [show v10 = .bool (false) from p10] at h10; clear p10
    replace hs := hs.learn h10
    have hs0 := hs
    refine st_guardT hs rfl rfl rfl ?_
    refine st_slcH (j := (m - 4)) hs rfl rfl rfl (hm.rd0 hb) (by omega) Try.underlying26 Try.sizeOf5 rfl ?_; clear hs; intro a w hs
    exact wpList_nil ⟨rfl, _, _, _, _, rfl, hs0, (.c (.c (.c .r))), hs, rfl⟩
   ·
    intro a_ w_ R hm hs hp
    obtain ⟨v13, h13, p13⟩ := (hp 5 ⟨⟨5, .data⟩, mem_arr (.head _), rfl, rfl⟩).get rfl rfl
    rw [show v13 = slcV v 1 0 (m - 4) from p13] at h13; clear p13
    replace hs := hs.learn h13
    obtain ⟨v10, h10, p10⟩ := (hp 2 ⟨⟨2, .chain⟩, mem_arr (.tail _ (.head _)), rfl, rfl⟩).get rfl rfl
    rw [show v10 = .bool (false) from p10] at h10; clear p10
    replace hs := hs.learn h10
    have hs0 := hs
    refine st_guardT hs rfl rfl rfl ?_
    refine st_call hs (.c rfl .n) Try.call66 .n (rseal_ok _ _ ((bs.take (m - 4))) _ ((hm.rd0 hb).slcT (h := (m - 4)) (by omega)) (by omega)) rfl ?_; clear hs; rintro v11 _ a w rfl hs; simp only [List.cons_append, List.nil_append] at hs
    exact wpList_nil ⟨rfl, _, _, _, _, rfl, hs0, (.c (.c .r)), hs, rd_row (hs.mem.del .z)⟩
   ·
    intro a_ w_ R hm hs hp
    obtain ⟨v14, h14, p14⟩ := (hp 6 ⟨⟨6, .data⟩, mem_arr (.head _), rfl, rfl⟩).get rfl rfl
    replace hs := hs.learn h14
    obtain ⟨v10, h10, p10⟩ := (hp 2 ⟨⟨2, .guard⟩, mem_arr (.tail _ (.head _)), rfl, rfl⟩).get rfl rfl
    rw [show v10 = .bool (false) from p10] at h10; clear p10
    replace hs := hs.learn h10
    have hs0 := hs
    refine st_guardT hs rfl rfl rfl ?_
    refine st_str (bs := (seal_ ((bs.take (m - 4))))) hs rfl (p14) Try.underlying26 Try.underlying5 Try.underlying9 rfl ?_; clear hs; intro a w hs
    exact wpList_nil ⟨rfl, _, _, _, _, rfl, hs0, (.c (.c .r)), hs, rfl⟩
   ·
    intro a_ w_ R hm hs hp
    obtain ⟨v10, h10, p10⟩ := (hp 2 ⟨⟨2, .guard⟩, mem_arr (.head _), rfl, rfl⟩).get rfl rfl
    rw [show v10 = .bool (false) from p10] at h10; clear p10
    replace hs := hs.learn h10
    have hs0 := hs
    refine st_guardT hs rfl rfl rfl ?_
    refine st_mv hs rfl rfl ?_; clear hs; intro a w hs
    exact wpList_nil ⟨rfl, _, _, _, _, rfl, hs0, (.c .r), hs, rfl⟩
   ·
    intro a_ w_ R hm hs hp
    obtain ⟨v16, h16, p16⟩ := (hp 8 ⟨⟨8, .data⟩, mem_arr (.head _), rfl, rfl⟩).get rfl rfl
    rw [show v16 = v from p16] at h16; clear p16
    replace hs := hs.learn h16
    obtain ⟨v10, h10, p10⟩ := (hp 2 ⟨⟨2, .guard⟩, mem_arr (.tail _ (.head _)), rfl, rfl⟩).get rfl rfl
    rw [show v10 = .bool (false) from p10] at h10; clear p10
    replace hs := hs.learn h10
    have hs0 := hs
    refine st_guardT hs rfl rfl rfl ?_
    refine st_str (bs := bs) hs rfl (hm.rd0 hb) Try.underlying26 Try.underlying5 Try.underlying9 rfl ?_; clear hs; intro a w hs
    exact wpList_nil ⟨rfl, _, _, _, _, rfl, hs0, (.c (.c .r)), hs, rfl⟩
   ·
    intro a_ w_ R hm hs hp
    obtain ⟨v15, h15, p15⟩ := (hp 7 ⟨⟨7, .data⟩, mem_arr (.head _), rfl, rfl⟩).get rfl rfl
    rw [show v15 = .string (strB ((seal_ ((bs.take (m - 4)))))) from p15] at h15; clear p15
    replace hs := hs.learn h15
    obtain ⟨v17, h17, p17⟩ := (hp 9 ⟨⟨9, .data⟩, mem_arr (.tail _ (.head _)), rfl, rfl⟩).get rfl rfl
    rw [show v17 = .string (strB bs) from p17] at h17; clear p17
    replace hs := hs.learn h17
    obtain ⟨v10, h10, p10⟩ := (hp 2 ⟨⟨2, .guard⟩, mem_arr (.tail _ (.tail _ (.head _))), rfl, rfl⟩).get rfl rfl
    rw [show v10 = .bool (false) from p10] at h10; clear p10
    replace hs := hs.learn h10
    have hs0 := hs
    refine st_guardT hs rfl rfl rfl ?_
    refine st_nes (p := strB ((seal_ ((bs.take (m - 4)))))) (q := strB bs) hs rfl rfl rfl ?_; clear hs; intro a w hs
    exact wpList_nil ⟨rfl, _, _, _, _, rfl, hs0, (.c (.c (.c .r))), hs, rfl⟩
   intro a_ w_ R hm hs hp
   obtain ⟨v10, h10, p10⟩ := (hp 2 ⟨⟨2, .data⟩, mem_arr (.head _), rfl, rfl⟩).get rfl rfl
   rw [show v10 = .bool (false) from p10] at h10; clear p10
   replace hs := hs.learn h10
   obtain ⟨v18, h18, p18⟩ := (hp 10 ⟨⟨10, .data⟩, mem_arr (.tail _ (.head _)), rfl, rfl⟩).get rfl rfl
   rw [show v18 = .bool (!((strB ((seal_ ((bs.take (m - 4)))))).toList == (strB bs).toList)) from p18] at h18; clear p18
   replace hs := hs.learn h18
   have hs0 := hs
   refine st_pickF hs rfl rfl rfl ?_; clear hs; intro a w hs
   exact wpList_nil ⟨rfl, _, _, _, _, rfl, hs0, (.c (.c .r)), hs, rfl⟩
  clear hs w a; intro a w hs hf
  obtain ⟨v19, h19, p19⟩ := (hf 11 (by decide)).get rfl rfl
  rw [show v19 = .bool (!((strB ((seal_ ((bs.take (m - 4)))))).toList == (strB bs).toList)) from p19] at h19; clear p19
  replace hs := hs.learn h19; clear h19
  clear hf
  refine then_n (hK8 _ _ ?_)
  refine wp_if hs rfl (fun hc12 => ?_) (fun hc12 => ?_)
  ·
   replace hc12 := not_t hc12
   rw [strB_eq] at hc12; replace hc12 := of_decide_eq_false hc12
   refine wp_seq_k fun K13 hK14 => ?_
   refine wp_region_lit ?_
   refine st_run 2 [(3, .bool (false)), (2, .slice none 0 0)] hs .n (by kernel_rfl) (by kernel_rfl) (by kernel_rfl) ?_; clear hs a; intro a hs
   refine wpList_nil ?_
   refine then_n (hK14 _ _ ?_)
   refine wp_ret ?_
   refine th_r ?_
   first | exact fin2 hs rfl rfl rfl (openPost_none (open_short (by omega))) | exact fin2 hs rfl rfl rfl (openPost_none (open_none3 hbl (by omega) (by assumption)))
  replace hc12 := not_f hc12
  rw [strB_eq] at hc12; replace hc12 := of_decide_eq_true hc12
  refine wp_skip ?_
  refine then_n (hK6 _ _ ?_)
  refine wp_seq_k fun K15 hK16 => ?_
  refine wp_region_lit ?_
  refine st_bs0 hs Try.underlying26 rfl ?_ ⟨_, Try.sizeOf5⟩; clear hs w a; intro g17 a w hs
  refine st_run 2 [(22, .int .i64 (((m - 4 : Nat) : Int))), (21, v)] hs .n (by kernel_rfl) (by kernel_rfl) (by kernel_rfl) ?_; clear hs a; intro a hs
  refine st_slcH (j := (m - 4)) hs rfl rfl rfl (hs.rd0 hb) (by omega) Try.underlying26 Try.sizeOf5 rfl ?_; clear hs w a; intro a w hs
  replace hs := hs.toRow (size := 1) (m := 0) .z rfl (by decide)
  refine st_app (size := 1) (bytes := 1) hs rfl rfl .z ((hs.rd0 hb).slcT (h := (m - 4)) (by omega)) (oneCell_bytesV _) Try.underlying26 (i := Try.t5) rfl rfl rfl rfl rfl (by decide) (by omega) (by simp only [maxLen]; omega) rfl ?_; clear hs w a; intro v18 a w hs
  refine st_run 2 [(3, .bool (true)), (2, v18)] hs .n (by kernel_rfl) (by kernel_rfl) (by kernel_rfl) ?_; clear hs a; intro a hs
  refine wpList_nil ?_
  refine then_n (hK16 _ _ ?_)
  refine wp_ret ?_
  replace hs := hs.rerow .z (m' := (bs.take (m - 4)).length) (xs' := bytesV (bs.take (m - 4))) (by simp; omega) (by rw [List.nil_append])
  exact fin2 hs rfl rfl rfl (openPost_some (open_yes3 (by assumption)) _)
theorem ropen_none (v : Value) (m : Nat) (bs : List Byte) (w0 : World) (hb : Rd w0 [] v 1 m (bytesV bs)) (hm : m ≤ 140737488351232) (h : open_ bs = none) : Calls Try.prog 71 #[v] w0 (RetV w0 (.tuple #[.slice none 0 0, .bool false])) :=
  (ropen_ok v m bs w0 hb hm).mono fun e w' ⟨u, N, he, hp, hM⟩ => ⟨u, N, he, by unfold OpenPost at hp; rw [h] at hp; exact hp, hM⟩
theorem ropen_some (v : Value) (m : Nat) (bs : List Byte) (w0 : World) (hb : Rd w0 [] v 1 m (bytesV bs)) (x : List Byte) (hm : m ≤ 140737488351232) (h : open_ bs = some x) : Calls Try.prog 71 #[v] w0 (Ret w0 [] fun u N => ∃ r, u = .tuple #[r, .bool true] ∧ N = [row r 5 1 x.length (bytesV x)]) :=
  (ropen_ok v m bs w0 hb hm).mono fun e w' ⟨u, N, he, hp, hM⟩ => ⟨u, N, he, by unfold OpenPost at hp; rw [h] at hp; exact hp, hM⟩
end Go.Proofs.Ytkobgcoegajfcaa
