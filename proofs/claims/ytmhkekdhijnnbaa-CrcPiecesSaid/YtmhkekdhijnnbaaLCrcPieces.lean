/- Walks of CrcPieces: what each function does, over the program of this seat. Printed by a program of this session. -/
import Derived.Test.YtmhkekdhijnnbaaWcrc
namespace Go.Proofs.Ytmhkekdhijnnbaa
open Go Go.Sx Go.RowKit
set_option linter.unusedVariables false
set_option linter.unusedSimpArgs false
set_option maxRecDepth 4000

theorem crcPieces_ok (v : Value) (m : Nat) (bs : List Byte) (u : Value) (m2 : Nat) (cs : List Byte) (w0 : World) (hb : Rd w0 [] v 1 m (bytesV bs)) (hc : Rd w0 [] u 1 m2 (bytesV cs)) : Calls Try.prog 3 #[v, u] w0 (RetV w0 (.bool true)) := by
  have hbl : bs.length = m := by have := hb.len; simpa [bytesV] using this
  have hbe : m ≤ maxLen := hb.le
  simp only [maxLen] at hbe
  have hcl : cs.length = m2 := by have := hc.len; simpa [bytesV] using this
  have hce : m2 ≤ maxLen := hc.le
  simp only [maxLen] at hce
  refine enter (F0 := [(0, v), (1, u)]) Try.func3 rfl rfl rfl (.c (.c .n)) (Mem.nil _) fun a w hs => ?_
  refine wp_seq_k fun K1 hK2 => ?_
  refine wp_region_lit ?_
  refine st_as hs rfl rfl ?_; clear hs w a; intro a w hs
  refine wpList_nil ?_
  refine then_n (hK2 _ _ ?_)
  refine wp_seq_k fun K3 hK4 => ?_
  refine wp_seq_k fun K5 hK6 => ?_
  refine wp_region_lit ?_
  refine st_mv hs rfl rfl ?_; clear hs w a; intro a w hs
  refine st_len hs rfl (hs.rd0 hb).isSl Try.underlying22 rfl ?_; clear hs w a; intro a w hs
  refine st_gtr hs rfl rfl rfl ?_; clear hs w a; intro a w hs
  refine st_mv hs rfl rfl ?_; clear hs w a; intro a w hs
  refine st_part (b := decide (2000 < (m : Int))) (fun hc7 => ?_) (fun hc7 => ?_)
  · rw [hc7] at hs
    replace hc7 := of_decide_eq_true hc7
    refine st_guardF hs rfl rfl rfl rfl rfl ?_; clear hs w a; intro a w hs
    refine st_guardF hs rfl rfl rfl rfl rfl ?_; clear hs w a; intro a w hs
    refine st_guardF hs rfl rfl rfl rfl rfl ?_; clear hs w a; intro a w hs
    refine st_pickT hs rfl rfl rfl ?_; clear hs w a; intro a w hs
    refine wpList_nil ?_
    refine then_n (hK6 _ _ ?_)
    refine wp_cond_true (hs.ev rfl) ?_
    refine wp_seq_k fun K8 hK9 => ?_
    refine wp_region_lit ?_
    refine st_callP (v := .bool (true)) hs .n Try.call19 (alive06_ok _) rfl ?_; clear hs w a; intro a w hs
    refine st_as hs rfl rfl ?_; clear hs w a; intro a w hs
    refine wpList_nil ?_
    refine then_n (hK9 _ _ ?_)
    refine wp_ret ?_
    refine th_r ?_
    exact fin hs rfl rfl ⟨rfl, rfl⟩
  · rw [hc7] at hs
    replace hc7 := of_decide_eq_false hc7
    refine st_guardT hs rfl rfl rfl ?_
    refine st_mv hs rfl rfl ?_; clear hs w a; intro a w hs
    refine st_guardT hs rfl rfl rfl ?_
    refine st_len hs rfl (hs.rd0 hc).isSl Try.underlying22 rfl ?_; clear hs w a; intro a w hs
    refine st_guardT hs rfl rfl rfl ?_
    refine st_gtr hs rfl rfl rfl ?_; clear hs w a; intro a w hs
    refine st_pickF hs rfl rfl rfl ?_; clear hs w a; intro a w hs
    refine wpList_nil ?_
    refine then_n (hK6 _ _ ?_)
    refine wp_if hs rfl (fun hc10 => ?_) (fun hc10 => ?_)
    ·
      replace hc10 := of_decide_eq_true hc10
      refine wp_seq_k fun K11 hK12 => ?_
      refine wp_region_lit ?_
      refine st_callP (v := .bool (true)) hs .n Try.call19 (alive06_ok _) rfl ?_; clear hs w a; intro a w hs
      refine st_as hs rfl rfl ?_; clear hs w a; intro a w hs
      refine wpList_nil ?_
      refine then_n (hK12 _ _ ?_)
      refine wp_ret ?_
      refine th_r ?_
      exact fin hs rfl rfl ⟨rfl, rfl⟩
    ·
      replace hc10 := of_decide_eq_false hc10
      refine wp_skip ?_
      refine then_n (hK4 _ _ ?_)
      refine wp_seq_k fun K13 hK14 => ?_
      refine wp_region_lit ?_
      refine st_as hs rfl rfl ?_; clear hs w a; intro a w hs
      refine wpList_nil ?_
      refine then_n (hK14 _ _ ?_)
      refine wp_seq_k fun K15 hK16 => ?_
      refine wp_region_lit ?_
      refine st_mv hs rfl rfl ?_; clear hs w a; intro a w hs
      refine st_as hs rfl rfl ?_; clear hs w a; intro a w hs
      refine wpList_nil ?_
      refine then_n (hK16 _ _ ?_)
      refine wp_seq_k fun K17 hK18 => ?_
      refine wp_seq_k fun K19 hK20 => ?_
      refine wp_region_lit ?_
      refine st_mv hs rfl rfl ?_; clear hs w a; intro a w hs
      refine st_len hs rfl (hs.rd0 hc).isSl Try.underlying22 rfl ?_; clear hs w a; intro a w hs
      refine st_mv hs rfl rfl ?_; clear hs w a; intro a w hs
      refine wpList_nil ?_
      refine then_n (hK20 _ _ ?_)
      refine wp_block ?_
      refine wp_loopI (fun mm_ a w => ∃ i : Nat, ∃ j : Nat, ∃ r : Value, mm_ = m2 - i ∧ St 50 [(0, v), (5, .int .u32 ((((crcSum (bs.take j)).toNat : Nat) : Int))), (6, r), (20, u), (21, .int .i64 ((m2 : Int))), (22, .int .i64 ((i : Int)))] w0 [] [] a w ∧ i ≤ m2 ∧ j ≤ m ∧ Rd w0 [] r 1 (m - j) (bytesV (bs.drop j))) ⟨0, 0, v, rfl, hs.sub (.c rfl (.c (congrArg (fun z : BitVec 32 => some (Value.int .u32 ((z.toNat : Nat) : Int))) (show 0#32 = crcSum (bs.take 0) by rw [List.take_zero]; decide)) (.c rfl (.c rfl (.c rfl (.c rfl .n)))))), by omega, by omega, by simpa using hb⟩ ?_
      clear hs w a; rintro mm_ a w ⟨i, j, r, rfl, hs, hI1_0, hI1_1, hI1_2⟩
      refine wp_seq_k fun K21 hK22 => ?_
      refine wp_region_lit ?_
      refine st_lss hs rfl rfl rfl ?_; clear hs w a; intro a w hs
      refine wpList_nil ?_
      refine then_n (hK22 _ _ ?_)
      refine wp_seq_k fun K23 hK24 => ?_
      refine wp_if hs rfl (fun hc25 => ?_) (fun hc25 => ?_)
      ·
        replace hc25 := of_decide_eq_true hc25
        refine wp_skip ?_
        refine then_n (hK24 _ _ ?_)
        refine wp_seq_k fun K26 hK27 => ?_
        refine wp_block ?_
        refine wp_seq_k fun K28 hK29 => ?_
        refine wp_region_lit ?_
        refine st_ia1 (j := i) hs rfl rfl (hs.rd0 hc) rfl (by omega) Try.underlying22 Try.sizeOf5 rfl ?_; clear hs w a; intro a w hs
        refine st_ld hs rfl (hs.rd0 hc) (bytesV_getD cs (by first | omega | (simp; omega))) Try.isAgg5 rfl ?_; clear hs w a; intro a w hs
        refine st_as hs rfl rfl ?_; clear hs w a; intro a w hs
        refine wpList_nil ?_
        refine then_n (hK29 _ _ ?_)
        refine wp_seq_k fun K30 hK31 => ?_
        refine wp_region_lit ?_
        refine st_mv hs rfl rfl ?_; clear hs w a; intro a w hs
        refine st_cv_i64 hs rfl (bvr (cs.getD i 0)) Try.underlying5 Try.underlying3 rfl ?_; clear hs w a; intro a w hs
        refine st_mv hs rfl rfl ?_; clear hs w a; intro a w hs
        refine st_len hs rfl (hs.rd0 hI1_2).isSl Try.underlying22 rfl ?_; clear hs w a; intro a w hs
        refine st_addR hs rfl rfl (by omega) rfl ?_; clear hs w a; intro a w hs
        refine st_remN hs rfl rfl (by omega) rfl ?_; clear hs w a; intro a w hs
        refine st_as hs rfl rfl ?_; clear hs w a; intro a w hs
        obtain ⟨kk, hkk, hkb⟩ := mod_nat (((((cs.getD i 0).toNat : Nat) : Int))) (((((m - j) : Nat) : Int)) + 1) (by omega)
        rw [hkk] at hs; clear hkk
        refine wpList_nil ?_
        refine then_n (hK31 _ _ ?_)
        refine wp_seq_k fun K32 hK33 => ?_
        refine wp_region_lit ?_
        refine st_mv hs rfl rfl ?_; clear hs w a; intro a w hs
        refine st_mv hs rfl rfl ?_; clear hs w a; intro a w hs
        refine st_mv hs rfl rfl ?_; clear hs w a; intro a w hs
        refine st_slcH (j := kk) hs rfl rfl rfl (hs.rd0 hI1_2) (by omega) Try.underlying22 Try.sizeOf5 rfl ?_; clear hs w a; intro a w hs
        refine st_callP (v := .int .u32 ((((crcMore (crcSum (bs.take j)) (((bs.drop j).take kk))).toNat : Nat) : Int))) hs (.c rfl (.c rfl .n)) Try.call20 (more_ok (crcSum (bs.take j)) _ _ (((bs.drop j).take kk)) _ ((hs.rd0 hI1_2).slcT (h := kk) (by omega))) rfl ?_; clear hs w a; intro a w hs
        refine st_as hs rfl rfl ?_; clear hs w a; intro a w hs
        refine wpList_nil ?_
        refine then_n (hK33 _ _ ?_)
        refine wp_region_lit ?_
        refine st_mv hs rfl rfl ?_; clear hs w a; intro a w hs
        refine st_mv hs rfl rfl ?_; clear hs w a; intro a w hs
        refine st_slcL (j := kk) hs rfl rfl rfl (hs.rd0 hI1_2).isSl (by omega) Try.underlying22 Try.sizeOf5 rfl ?_; clear hs w a; intro a w hs
        refine st_as hs rfl rfl ?_; clear hs w a; intro a w hs
        refine wpList_nil ?_
        refine in_n ?_
        refine then_n (hK27 _ _ ?_)
        refine wp_region_lit ?_
        refine st_addR hs rfl rfl (by omega) rfl ?_; clear hs w a; intro a w hs
        refine st_mv hs rfl rfl ?_; clear hs w a; intro a w hs
        refine wpList_nil ?_
        refine then_n ?_
        rw [crc_pieces] at hs
        refine ⟨_, ?_, i + 1, j + kk, (slcV r 1 kk (m - j)), rfl, hs.sub (.c rfl (.c rfl (.c rfl (.c rfl (.c rfl (.c rfl .n)))))), by omega, by omega, by rw [← List.drop_drop, ← Nat.sub_sub]; exact hI1_2.slcL (by omega)⟩
        omega
      ·
        replace hc25 := of_decide_eq_false hc25
        refine wp_exit ?_
        refine th_e ?_
        refine th_e ?_
        refine in_hit ?_
        refine then_n (hK18 _ _ ?_)
        refine wp_seq_k fun K34 hK35 => ?_
        refine wp_region_lit ?_
        refine st_callP (v := .bool (true)) hs .n Try.call19 (alive06_ok _) rfl ?_; clear hs w a; intro a w hs
        refine st_mv hs rfl rfl ?_; clear hs w a; intro a w hs
        refine st_guardT hs rfl rfl rfl ?_
        refine st_mv hs rfl rfl ?_; clear hs w a; intro a w hs
        refine st_guardT hs rfl rfl rfl ?_
        refine st_mv hs rfl rfl ?_; clear hs w a; intro a w hs
        refine st_guardT hs rfl rfl rfl ?_
        refine st_callP (v := .int .u32 ((((crcMore (crcSum (bs.take j)) (bs.drop j)).toNat : Nat) : Int))) hs (.c rfl (.c rfl .n)) Try.call20 (more_ok (crcSum (bs.take j)) _ _ (bs.drop j) _ (hs.rd0 hI1_2)) rfl ?_; clear hs w a; intro a w hs
        refine st_guardT hs rfl rfl rfl ?_
        refine st_mv hs rfl rfl ?_; clear hs w a; intro a w hs
        refine st_guardT hs rfl rfl rfl ?_
        refine st_callP (v := .int .u32 ((((crcSum bs).toNat : Nat) : Int))) hs (.c rfl .n) Try.call21 (sum_ok _ _ bs _ (hs.rd0 hb)) rfl ?_; clear hs w a; intro a w hs
        refine st_guardT hs rfl rfl rfl ?_
        refine st_eql hs rfl rfl rfl ?_; clear hs w a; intro a w hs
        have hb_ : (((((crcMore (crcSum (bs.take j)) (bs.drop j)).toNat : Nat) : Int) : Int) == ((((crcSum bs).toNat : Nat) : Int))) = true := by rw [crc_rest]; exact beq_self_eq_true _
        rw [hb_] at hs; clear hb_
        refine st_pickT hs rfl rfl rfl ?_; clear hs w a; intro a w hs
        refine st_as hs rfl rfl ?_; clear hs w a; intro a w hs
        refine wpList_nil ?_
        refine then_n (hK35 _ _ ?_)
        refine wp_ret ?_
        exact fin hs rfl rfl ⟨rfl, rfl⟩
end Go.Proofs.Ytmhkekdhijnnbaa
