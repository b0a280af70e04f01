/- Walks of ReaderCounts: what each function does, over the program of this seat. Printed by a program of this session. -/
import Derived.Test.YtmhkekdhijnnbaaWrd2
namespace Go.Proofs.Ytmhkekdhijnnbaa
open Go Go.Sx Go.RowKit
set_option linter.unusedVariables false
set_option linter.unusedSimpArgs false
set_option maxRecDepth 4000

theorem done_a (bs : List Byte) (R : Rs) (h : R.e ≠ 0) : ((((rDone bs R : Nat) : Int)) == 0) = false := by unfold rDone; rw [if_pos (.inl h)]; exact beq_eq_false_iff_ne.2 (by omega)
theorem done_b (bs : List Byte) (R : Rs) (h : R.e = 0) : ((((rDone bs R : Nat) : Int)) == 0) = ((((bs.length - R.p : Nat) : Int)) == 0) := by
  unfold rDone
  by_cases h1 : bs.length ≤ R.p
  · rw [if_pos (.inr h1), h, show bs.length - R.p = 0 by omega]
  · rw [if_neg (by omega), beq_eq_false_iff_ne.2 (show ((8 : Nat) : Int) ≠ 0 by omega), beq_eq_false_iff_ne.2 (show ((bs.length - R.p : Nat) : Int) ≠ 0 by omega)]
theorem readerCounts_ok (v : Value) (m : Nat) (bs : List Byte) (u : Value) (m2 : Nat) (l : List ActR) (w0 : World) (hb : Rd w0 [] v 1 m (bytesV bs)) (hc : Rd w0 [] u 3 m2 (l.flatMap actV)) : Calls Try.prog 14 #[v, u] w0 (RetV w0 (.bool true)) := by
  have hbl : bs.length = m := by have := hb.len; simpa [bytesV] using this
  have hbe : m ≤ maxLen := hb.le
  simp only [maxLen] at hbe
  have hcl : l.length = m2 := by have := hc.len; rw [flat_len actV_len] at this; omega
  have hce : m2 ≤ maxLen := hc.le
  simp only [maxLen] at hce
  refine enter (F0 := [(0, v), (1, u)]) Try.func14 rfl rfl rfl (.c (.c .n)) (Mem.nil _) fun a w hs => ?_
  refine wp_seq_k fun K1 hK2 => ?_
  refine wp_region_lit ?_
  refine st_as hs rfl rfl ?_; clear hs w a; intro a w hs
  refine wpList_nil ?_
  refine then_n (hK2 _ _ ?_)
  refine wp_seq_k fun K3 hK4 => ?_
  refine wp_region_lit ?_
  refine st_mv hs rfl rfl ?_; clear hs w a; intro a w hs
  refine st_call hs (.c rfl .n) Try.call38 .n (new_ok _ _ bs _ (hs.rd0 hb)) rfl ?_; clear hs w a; rintro _ _ a w ⟨g5, rfl, rfl⟩ hs; simp only [List.cons_append, List.nil_append] at hs
  have hleg5 : (⟨0, 0⟩ : Rs).p ≤ bs.length := Nat.zero_le _
  refine st_as hs rfl rfl ?_; clear hs w a; intro a w hs
  refine wpList_nil ?_
  refine then_n (hK4 _ _ ?_)
  refine wp_seq_k fun K6 hK7 => ?_
  refine wp_seq_k fun K8 hK9 => ?_
  refine wp_region_lit ?_
  refine st_callP (v := .bool (true)) hs .n Try.call39 (alive07_ok _) rfl ?_; clear hs w a; intro a w hs
  refine st_not hs rfl rfl ?_; clear hs w a; intro a w hs
  refine st_mv hs rfl rfl ?_; clear hs w a; intro a w hs
  refine st_part (b := !(true)) (fun hc10 => ?_) (fun hc10 => ?_)
  · rw [hc10] at hs
    replace hc10 := not_t hc10
    refine st_guardF hs rfl rfl rfl rfl rfl ?_; clear hs w a; intro a w hs
    refine st_guardF hs rfl rfl rfl rfl rfl ?_; clear hs w a; intro a w hs
    refine st_pickT hs rfl rfl rfl ?_; clear hs w a; intro a w hs
    refine st_mv hs rfl rfl ?_; clear hs w a; intro a w hs
    refine st_guardF hs rfl rfl rfl rfl rfl ?_; clear hs w a; intro a w hs
    refine st_guardF hs rfl rfl rfl rfl rfl ?_; clear hs w a; intro a w hs
    refine st_guardF hs rfl rfl rfl rfl rfl ?_; clear hs w a; intro a w hs
    refine st_pickT hs rfl rfl rfl ?_; clear hs w a; intro a w hs
    refine st_mv hs rfl rfl ?_; clear hs w a; intro a w hs
    refine st_guardF hs rfl rfl rfl rfl rfl ?_; clear hs w a; intro a w hs
    refine st_guardF hs rfl rfl rfl rfl rfl ?_; clear hs w a; intro a w hs
    refine st_guardF hs rfl rfl rfl rfl rfl ?_; clear hs w a; intro a w hs
    refine st_pickT hs rfl rfl rfl ?_; clear hs w a; intro a w hs
    refine wpList_nil ?_
    refine then_n (hK9 _ _ ?_)
    refine wp_cond_true (hs.ev rfl) ?_
    refine wp_seq_k fun K11 hK12 => ?_
    refine wp_region_lit ?_
    refine st_callP (v := .bool (true)) hs .n Try.call39 (alive07_ok _) rfl ?_; clear hs w a; intro a w hs
    refine st_as hs rfl rfl ?_; clear hs w a; intro a w hs
    refine wpList_nil ?_
    refine then_n (hK12 _ _ ?_)
    refine wp_ret ?_
    refine th_r ?_
    replace hs := hs.drop (.c .z .n)
    exact fin hs rfl rfl ⟨rfl, rfl⟩
  · rw [hc10] at hs
    replace hc10 := not_f hc10
    refine st_guardT hs rfl rfl rfl ?_
    refine st_mv hs rfl rfl ?_; clear hs w a; intro a w hs
    refine st_guardT hs rfl rfl rfl ?_
    refine st_eqnil hs rfl rfl Try.underlying52 rfl ?_; clear hs w a; intro a w hs
    refine st_pickF hs rfl rfl rfl ?_; clear hs w a; intro a w hs
    refine st_mv hs rfl rfl ?_; clear hs w a; intro a w hs
    refine st_guardT hs rfl rfl rfl ?_
    refine st_mv hs rfl rfl ?_; clear hs w a; intro a w hs
    refine st_guardT hs rfl rfl rfl ?_
    refine st_len hs rfl (hs.rd0 hb).isSl Try.underlying22 rfl ?_; clear hs w a; intro a w hs
    refine st_guardT hs rfl rfl rfl ?_
    refine st_gtr hs rfl rfl rfl ?_; clear hs w a; intro a w hs
    refine st_pickF hs rfl rfl rfl ?_; clear hs w a; intro a w hs
    refine st_mv hs rfl rfl ?_; clear hs w a; intro a w hs
    refine st_part (b := decide (2000 < (m : Int))) (fun hc13 => ?_) (fun hc13 => ?_)
    · rw [hc13] at hs
      replace hc13 := of_decide_eq_true hc13
      refine st_guardF hs rfl rfl rfl rfl rfl ?_; clear hs w a; intro a w hs
      refine st_guardF hs rfl rfl rfl rfl rfl ?_; clear hs w a; intro a w hs
      refine st_guardF hs rfl rfl rfl rfl rfl ?_; clear hs w a; intro a w hs
      refine st_pickT hs rfl rfl rfl ?_; clear hs w a; intro a w hs
      refine wpList_nil ?_
      refine then_n (hK9 _ _ ?_)
      refine wp_cond_true (hs.ev rfl) ?_
      refine wp_seq_k fun K14 hK15 => ?_
      refine wp_region_lit ?_
      refine st_callP (v := .bool (true)) hs .n Try.call39 (alive07_ok _) rfl ?_; clear hs w a; intro a w hs
      refine st_as hs rfl rfl ?_; clear hs w a; intro a w hs
      refine wpList_nil ?_
      refine then_n (hK15 _ _ ?_)
      refine wp_ret ?_
      refine th_r ?_
      replace hs := hs.drop (.c .z .n)
      exact fin hs rfl rfl ⟨rfl, rfl⟩
    · rw [hc13] at hs
      replace hc13 := of_decide_eq_false hc13
      refine st_guardT hs rfl rfl rfl ?_
      refine st_mv hs rfl rfl ?_; clear hs w a; intro a w hs
      refine st_guardT hs rfl rfl rfl ?_
      refine st_len hs rfl (hs.rd0 hc).isSl Try.underlying51 rfl ?_; clear hs w a; intro a w hs
      refine st_guardT hs rfl rfl rfl ?_
      refine st_gtr hs rfl rfl rfl ?_; clear hs w a; intro a w hs
      refine st_pickF hs rfl rfl rfl ?_; clear hs w a; intro a w hs
      refine wpList_nil ?_
      refine then_n (hK9 _ _ ?_)
      refine wp_if hs rfl (fun hc16 => ?_) (fun hc16 => ?_)
      ·
        replace hc16 := of_decide_eq_true hc16
        refine wp_seq_k fun K17 hK18 => ?_
        refine wp_region_lit ?_
        refine st_callP (v := .bool (true)) hs .n Try.call39 (alive07_ok _) rfl ?_; clear hs w a; intro a w hs
        refine st_as hs rfl rfl ?_; clear hs w a; intro a w hs
        refine wpList_nil ?_
        refine then_n (hK18 _ _ ?_)
        refine wp_ret ?_
        refine th_r ?_
        replace hs := hs.drop (.c .z .n)
        exact fin hs rfl rfl ⟨rfl, rfl⟩
      ·
        replace hc16 := of_decide_eq_false hc16
        refine wp_skip ?_
        refine then_n (hK7 _ _ ?_)
        refine wp_seq_k fun K19 hK20 => ?_
        refine wp_seq_k fun K21 hK22 => ?_
        refine wp_region_lit ?_
        refine st_mv hs rfl rfl ?_; clear hs w a; intro a w hs
        refine st_len hs rfl (hs.rd0 hc).isSl Try.underlying51 rfl ?_; clear hs w a; intro a w hs
        refine st_mv hs rfl rfl ?_; clear hs w a; intro a w hs
        refine wpList_nil ?_
        refine then_n (hK22 _ _ ?_)
        refine wp_block ?_
        refine wp_loopI (fun mm_ a w => ∃ j : Nat, ∃ R : Rs, mm_ = m2 - j ∧ St 95 [(0, v), (5, .pointer (some ⟨g5, 0, none⟩)), (29, u), (30, .int .i64 ((m2 : Int))), (31, .int .i64 ((j : Int)))] w0 [] [blk g5 [v, .int .i64 (((R.p : Nat) : Int)), .int .i64 (((R.e : Nat) : Int))] 76] a w ∧ j ≤ m2 ∧ R.p ≤ bs.length) ⟨0, ⟨0, 0⟩, rfl, hs.sub (.c rfl (.c rfl (.c rfl (.c rfl (.c rfl .n))))), by omega, by omega⟩ ?_
        clear hs w a; rintro mm_ a w ⟨j, R, rfl, hs, hI1_0, hI1_1⟩
        refine wp_seq_k fun K23 hK24 => ?_
        refine wp_region_lit ?_
        refine st_lss hs rfl rfl rfl ?_; clear hs w a; intro a w hs
        refine wpList_nil ?_
        refine then_n (hK24 _ _ ?_)
        refine wp_seq_k fun K25 hK26 => ?_
        refine wp_if hs rfl (fun hc27 => ?_) (fun hc27 => ?_)
        ·
          replace hc27 := of_decide_eq_true hc27
          refine wp_skip ?_
          refine then_n (hK26 _ _ ?_)
          refine wp_seq_k fun K28 hK29 => ?_
          refine wp_block ?_
          refine wp_seq_k fun K30 hK31 => ?_
          refine wp_region_lit ?_
          refine st_ia (j := j) hs rfl rfl (hs.rd0 hc) rfl (by omega) Try.underlying51 Try.sizeOf55 rfl ?_; clear hs w a; intro a w hs
          refine st_ldA (cs := actV (l.getD j default)) hs rfl (hs.rd0 hc) (flat_get actV_len l j (by omega)) (by rw [flat_len actV_len]; omega) (by omega) Try.isAgg55 Try.sizeOf55 rfl ?_; clear hs w a; intro a w hs
          refine st_alloc (cs := [.int .i64 (0), .int .u64 (0), .int .u8 (0)]) hs Try.zeroValue55 rfl rfl ?_; clear hs w a; intro g32 a w hs
          refine st_stBA hs rfl rfl .z (.z (.c (.c (.c .n)))) (ones_c rfl (ones_c rfl (ones_c rfl ones_n))) Try.sizeOf55 rfl ?_; clear hs w a; intro a w hs
          refine wpList_nil ?_
          refine then_n (hK31 _ _ ?_)
          refine wp_seq_k fun K33 hK34 => ?_
          refine wp_region_lit ?_
          refine st_mv hs rfl rfl ?_; clear hs w a; intro a w hs
          refine st_callP (v := .int .i64 (((R.p : Nat) : Int))) hs (.c rfl .n) Try.call40 (rat_ok g5 _ _ bs R _ (hs.rd0 hb) (hs.mem.del (.s .z)) (by omega)) rfl ?_; clear hs w a; intro a w hs
          refine st_as hs rfl rfl ?_; clear hs w a; intro a w hs
          refine st_as hs rfl rfl ?_; clear hs w a; intro a w hs
          refine wpList_nil ?_
          refine then_n (hK34 _ _ ?_)
          refine wp_seq_k fun K35 hK36 => ?_
          refine wp_seq_k fun K37 hK38 => ?_
          refine wp_region_lit ?_
          refine st_fa hs rfl Try.underlying55 rfl Try.sizeOf3 (by decide) (o := 0) rfl rfl ?_; clear hs w a; intro a w hs
          refine st_ldB hs rfl .z .z Try.isAgg3 rfl ?_; clear hs w a; intro a w hs
          refine wpList_nil ?_
          refine then_n (hK38 _ _ ?_)
          refine wp_block ?_
          refine wp_seq_k fun K39 hK40 => ?_
          refine wp_region_lit ?_
          refine st_eql hs rfl rfl rfl ?_; clear hs w a; intro a w hs
          refine st_as hs rfl rfl ?_; clear hs w a; intro a w hs
          refine wpList_nil ?_
          refine then_n (hK40 _ _ ?_)
          refine wp_if hs rfl (fun hc41 => ?_) (fun hc41 => ?_)
          ·
            replace hc41 := eq_of_beq hc41
            refine wp_seq_k fun K42 hK43 => ?_
            refine wp_region_lit ?_
            refine st_mv hs rfl rfl ?_; clear hs w a; intro a w hs
            refine st_call hs (.c rfl .n) Try.call41 (.c (.s .z) .n) (rbyte_ok  g5 _ _ bs R _ (hs.mem.rd1 hb (.c (.s .z) .n)) (hs.mem.del (.s .z)) (by omega)) rfl ?_; clear hs w a; rintro _ _ a w ⟨rfl, rfl⟩ hs; simp only [List.cons_append, List.nil_append] at hs
            have hk44 := rByte_le (bs := bs) (R := R) (by omega)
            refine wpList_nil ?_
            refine then_n (hK43 _ _ ?_)
            refine wp_region_lit ?_
            refine st_as hs rfl rfl ?_; clear hs w a; intro a w hs
            refine wpList_nil ?_
            refine in_n ?_
            refine then_n (hK36 _ _ ?_)
            refine wp_seq_k fun K45 hK46 => ?_
            refine wp_region_lit ?_
            refine st_mv hs rfl rfl ?_; clear hs w a; intro a w hs
            refine st_callP (v := .int .i64 ((((((rByte bs R).2)).p : Nat) : Int))) hs (.c rfl .n) Try.call40 (rat_ok g5 _ _ bs (((rByte bs R).2)) _ (hs.rd0 hb) (hs.mem.del .z) (by omega)) rfl ?_; clear hs w a; intro a w hs
            refine st_mv hs rfl rfl ?_; clear hs w a; intro a w hs
            refine st_callP (v := .int .i64 ((((bs.length - (((rByte bs R).2)).p) : Nat) : Int))) hs (.c rfl .n) Try.call45 (rleft_ok g5 _ _ bs (((rByte bs R).2)) _ (hs.rd0 hb) (hs.mem.del .z) (by omega)) rfl ?_; clear hs w a; intro a w hs
            refine st_addR hs rfl rfl (by omega) rfl ?_; clear hs w a; intro a w hs
            refine st_mv hs rfl rfl ?_; clear hs w a; intro a w hs
            refine st_len hs rfl (hs.rd0 hb).isSl Try.underlying22 rfl ?_; clear hs w a; intro a w hs
            refine st_neq hs rfl rfl rfl ?_; clear hs w a; intro a w hs
            have hb_ : (!((((((((rByte bs R).2)).p : Nat) : Int)) + ((((bs.length - (((rByte bs R).2)).p) : Nat) : Int)) : Int) == (m : Int))) = false := by rw [Bool.not_eq_false', beq_iff_eq]; omega
            rw [hb_] at hs; clear hb_
            refine st_mv hs rfl rfl ?_; clear hs w a; intro a w hs
            refine st_guardT hs rfl rfl rfl ?_
            refine st_mv hs rfl rfl ?_; clear hs w a; intro a w hs
            refine st_guardT hs rfl rfl rfl ?_
            refine st_callP (v := .int .i64 ((((((rByte bs R).2)).p : Nat) : Int))) hs (.c rfl .n) Try.call40 (rat_ok g5 _ _ bs (((rByte bs R).2)) _ (hs.rd0 hb) (hs.mem.del .z) (by omega)) rfl ?_; clear hs w a; intro a w hs
            refine st_guardT hs rfl rfl rfl ?_
            refine st_mv hs rfl rfl ?_; clear hs w a; intro a w hs
            refine st_guardT hs rfl rfl rfl ?_
            refine st_lss hs rfl rfl rfl ?_; clear hs w a; intro a w hs
            have hb_ : (decide (((((((rByte bs R).2)).p : Nat) : Int)) < (((R.p : Nat) : Int)))) = false := decide_eq_false (by omega)
            rw [hb_] at hs; clear hb_
            refine st_pickF hs rfl rfl rfl ?_; clear hs w a; intro a w hs
            refine st_mv hs rfl rfl ?_; clear hs w a; intro a w hs
            refine st_guardT hs rfl rfl rfl ?_
            refine st_mv hs rfl rfl ?_; clear hs w a; intro a w hs
            refine st_guardT hs rfl rfl rfl ?_
            refine st_callP (v := .int .i64 ((((((rByte bs R).2)).p : Nat) : Int))) hs (.c rfl .n) Try.call40 (rat_ok g5 _ _ bs (((rByte bs R).2)) _ (hs.rd0 hb) (hs.mem.del .z) (by omega)) rfl ?_; clear hs w a; intro a w hs
            refine st_guardT hs rfl rfl rfl ?_
            refine st_mv hs rfl rfl ?_; clear hs w a; intro a w hs
            refine st_guardT hs rfl rfl rfl ?_
            refine st_mv hs rfl rfl ?_; clear hs w a; intro a w hs
            refine st_guardT hs rfl rfl rfl ?_
            refine st_addR hs rfl rfl (by omega) rfl ?_; clear hs w a; intro a w hs
            refine st_guardT hs rfl rfl rfl ?_
            refine st_gtr hs rfl rfl rfl ?_; clear hs w a; intro a w hs
            have hb_ : (decide (((((R.p : Nat) : Int)) + 1) < ((((((rByte bs R).2)).p : Nat) : Int)))) = false := decide_eq_false (by omega)
            rw [hb_] at hs; clear hb_
            refine st_pickF hs rfl rfl rfl ?_; clear hs w a; intro a w hs
            refine st_mv hs rfl rfl ?_; clear hs w a; intro a w hs
            refine st_guardT hs rfl rfl rfl ?_
            refine st_mv hs rfl rfl ?_; clear hs w a; intro a w hs
            refine st_guardT hs rfl rfl rfl ?_
            refine st_callP (v := .int .i64 ((((rDone bs (((rByte bs R).2))) : Nat) : Int))) hs (.c rfl .n) Try.call46 (rdone_ok g5 _ _ bs (((rByte bs R).2)) _ (hs.rd0 hb) (hs.mem.del .z) (by omega)) rfl ?_; clear hs w a; intro a w hs
            refine st_guardT hs rfl rfl rfl ?_
            refine st_eql hs rfl rfl rfl ?_; clear hs w a; intro a w hs
            refine st_guardT hs rfl rfl rfl ?_
            refine st_mv hs rfl rfl ?_; clear hs w a; intro a w hs
            refine st_guardT hs rfl rfl rfl ?_
            refine st_callP (v := .int .i64 ((((((rByte bs R).2)).e : Nat) : Int))) hs (.c rfl .n) Try.call47 (rerr_ok g5 _ _ bs (((rByte bs R).2)) _ (hs.rd0 hb) (hs.mem.del .z) (by omega)) rfl ?_; clear hs w a; intro a w hs
            refine st_guardT hs rfl rfl rfl ?_
            refine st_eql hs rfl rfl rfl ?_; clear hs w a; intro a w hs
            refine st_guardT hs rfl rfl rfl ?_
            refine st_mv hs rfl rfl ?_; clear hs w a; intro a w hs
            refine st_part (b := ((((((rByte bs R).2)).e : Nat) : Int) : Int) == 0) (fun hc47 => ?_) (fun hc47 => ?_)
            · rw [hc47] at hs
              replace hc47 := eq_of_beq hc47
              refine st_guardT hs rfl rfl rfl ?_
              refine st_mv hs rfl rfl ?_; clear hs w a; intro a w hs
              refine st_guardT hs rfl rfl rfl ?_
              refine st_callP (v := .int .i64 ((((bs.length - (((rByte bs R).2)).p) : Nat) : Int))) hs (.c rfl .n) Try.call45 (rleft_ok g5 _ _ bs (((rByte bs R).2)) _ (hs.rd0 hb) (hs.mem.del .z) (by omega)) rfl ?_; clear hs w a; intro a w hs
              refine st_guardT hs rfl rfl rfl ?_
              refine st_eql hs rfl rfl rfl ?_; clear hs w a; intro a w hs
              refine st_guardT hs rfl rfl rfl ?_
              refine st_pickT hs rfl rfl rfl ?_; clear hs w a; intro a w hs
              refine st_guardT hs rfl rfl rfl ?_
              refine st_neb hs rfl rfl Try.underlying4 rfl ?_; clear hs w a; intro a w hs
              have hb_ : (!((((((rDone bs (((rByte bs R).2))) : Nat) : Int) : Int) == 0 : Bool) == (((((bs.length - (((rByte bs R).2)).p) : Nat) : Int) : Int) == 0))) = false := by first | (rw [done_a _ _ (by omega)]; rfl) | (rw [done_b _ _ (by omega)]; simp)
              rw [hb_] at hs; clear hb_
              refine st_pickF hs rfl rfl rfl ?_; clear hs w a; intro a w hs
              refine wpList_nil ?_
              refine then_n (hK46 _ _ ?_)
              refine wp_cond_false (hs.ev rfl) ?_
              refine wp_skip ?_
              refine in_n ?_
              refine then_n (hK29 _ _ ?_)
              refine wp_region_lit ?_
              refine st_addR hs rfl rfl (by omega) rfl ?_; clear hs w a; intro a w hs
              refine st_mv hs rfl rfl ?_; clear hs w a; intro a w hs
              refine wpList_nil ?_
              refine then_n ?_
              replace hs := hs.drop (.c (.s .z) .n)
              refine ⟨_, ?_, j + 1, ((rByte bs R).2), rfl, hs.sub (.c rfl (.c rfl (.c rfl (.c rfl (.c rfl .n))))), by omega, by omega⟩
              omega
            · rw [hc47] at hs
              replace hc47 := ne_of_beq_f hc47
              refine st_guardF hs rfl rfl rfl rfl rfl ?_; clear hs w a; intro a w hs
              refine st_guardF hs rfl rfl rfl rfl rfl ?_; clear hs w a; intro a w hs
              refine st_guardF hs rfl rfl rfl rfl rfl ?_; clear hs w a; intro a w hs
              refine st_guardT hs rfl rfl rfl ?_
              refine st_pickF hs rfl rfl rfl ?_; clear hs w a; intro a w hs
              refine st_guardT hs rfl rfl rfl ?_
              refine st_neb hs rfl rfl Try.underlying4 rfl ?_; clear hs w a; intro a w hs
              have hb_ : (!((((((rDone bs (((rByte bs R).2))) : Nat) : Int) : Int) == 0 : Bool) == false)) = false := by first | (rw [done_a _ _ (by omega)]; rfl) | (rw [done_b _ _ (by omega)]; simp)
              rw [hb_] at hs; clear hb_
              refine st_pickF hs rfl rfl rfl ?_; clear hs w a; intro a w hs
              refine wpList_nil ?_
              refine then_n (hK46 _ _ ?_)
              refine wp_cond_false (hs.ev rfl) ?_
              refine wp_skip ?_
              refine in_n ?_
              refine then_n (hK29 _ _ ?_)
              refine wp_region_lit ?_
              refine st_addR hs rfl rfl (by omega) rfl ?_; clear hs w a; intro a w hs
              refine st_mv hs rfl rfl ?_; clear hs w a; intro a w hs
              refine wpList_nil ?_
              refine then_n ?_
              replace hs := hs.drop (.c (.s .z) .n)
              refine ⟨_, ?_, j + 1, ((rByte bs R).2), rfl, hs.sub (.c rfl (.c rfl (.c rfl (.c rfl (.c rfl .n))))), by omega, by omega⟩
              omega
          ·
            replace hc41 := ne_of_beq_f hc41
            refine wp_seq_k fun K48 hK49 => ?_
            refine wp_region_lit ?_
            refine st_eql hs rfl rfl rfl ?_; clear hs w a; intro a w hs
            refine st_as hs rfl rfl ?_; clear hs w a; intro a w hs
            refine wpList_nil ?_
            refine then_n (hK49 _ _ ?_)
            refine wp_if hs rfl (fun hc50 => ?_) (fun hc50 => ?_)
            ·
              replace hc50 := eq_of_beq hc50
              refine wp_seq_k fun K51 hK52 => ?_
              replace hs := hs.sub (F' := [(45, .bool (((l.getD j default).k : Int) == 1)), (46, .bool (((l.getD j default).k : Int) == 1)), (41, .bool (((l.getD j default).k : Int) == 0)), (42, .bool (((l.getD j default).k : Int) == 0)), (38, .int .i64 ((l.getD j default).k)), (37, .pointer (some ⟨g32, 0, none⟩)), (9, .int .i64 (10)), (8, .int .i64 (((R.p : Nat) : Int))), (36, .int .i64 (((R.p : Nat) : Int))), (35, .pointer (some ⟨g5, 0, none⟩)), (7, .pointer (some ⟨g32, 0, none⟩)), (34, .agg #[.int .i64 ((l.getD j default).k), .int .u64 (((((l.getD j default).m).toNat : Nat) : Int)), .int .u8 (((((l.getD j default).e).toNat : Nat) : Int))]), (33, .pointer (some (adr u (j * 3)))), (32, .bool (decide ((j : Int) < (m2 : Int)))), (0, v), (5, .pointer (some ⟨g5, 0, none⟩)), (29, u), (30, .int .i64 ((m2 : Int))), (31, .int .i64 ((j : Int)))]) (.c rfl (.c rfl (.c rfl (.c rfl (.c rfl (.c rfl (.c rfl (.c rfl (.c rfl (.c rfl (.c rfl (.c rfl (.c rfl (.c rfl (.c rfl (.c rfl (.c rfl (.c rfl (.c rfl .n)))))))))))))))))))
              have hk54 := rUint_le (X := (l.getD j default).m) (bs := bs) (R := R) (by omega)
              refine wp_drawG (M0 := [blk g32 [.int .i64 ((l.getD j default).k), .int .u64 (((((l.getD j default).m).toNat : Nat) : Int)), .int .u8 (((((l.getD j default).e).toNat : Nat) : Int))] 55]) (Ds := [⟨[], [], [], fun vs53 => vs53 0 = .pointer (some ⟨g5, 0, none⟩), fun vs53 => []⟩, ⟨[], [], [], fun vs53 => vs53 1 = .pointer (some ⟨g32, 1, none⟩), fun vs53 => []⟩, ⟨[], [], [], fun vs53 => vs53 2 = .int .u64 (((((l.getD j default).m).toNat : Nat) : Int)), fun vs53 => []⟩, ⟨[blk g5 [v, .int .i64 (((R.p : Nat) : Int)), .int .i64 (((R.e : Nat) : Int))] 76], [], [], fun vs53 => vs53 3 = .int .u64 (((((rUint bs ((l.getD j default).m) R).1).toNat : Nat) : Int)), fun vs53 => [blk g5 [v, .int .i64 (((((rUint bs ((l.getD j default).m) R).2).p : Nat) : Int)), .int .i64 (((((rUint bs ((l.getD j default).m) R).2).e : Nat) : Int))] 76]⟩, ⟨[], [], [], fun vs53 => vs53 4 = .pointer (some ⟨g32, 1, none⟩), fun vs53 => []⟩, ⟨[], [], [], fun vs53 => vs53 5 = .int .u64 (((((l.getD j default).m).toNat : Nat) : Int)), fun vs53 => []⟩, ⟨[], [], [], fun vs53 => vs53 6 = .bool (false), fun vs53 => []⟩]) (by kernel_rfl) hs rfl (.c (.s .z) .n) (by kernel_rfl) (by kernel_rfl) ?_ ?_
              · refine (.c ?_ (.c ?_ (.c ?_ (.c ?_ (.c ?_ (.c ?_ (.c ?_ .n)))))))
                · intro a_ w_ R_ rest_ vs53 hm hs ht
                  replace hs : St _ _ _ (feet []) [] _ _ := hs
                  have hm0 := hm.mid
                  have hs0 := hs.bare
                  refine st_mv hs rfl rfl ?_; clear hs; intro a w hs
                  exact wpList_nil ⟨rfl, _, _, hs0, .r, hs, rfl⟩
                · intro a_ w_ R_ rest_ vs53 hm hs ht
                  replace hs : St _ _ _ (feet []) [] _ _ := hs
                  have hm0 := hm.mid
                  have hs0 := hs.bare
                  refine st_fa hs rfl Try.underlying55 rfl Try.sizeOf35 (by decide) (o := 1) rfl rfl ?_; clear hs; intro a w hs
                  exact wpList_nil ⟨rfl, _, _, hs0, .r, hs, rfl⟩
                · intro a_ w_ R_ rest_ vs53 hm hs ht
                  replace hs : St _ _ _ (feet []) [] _ _ := hs
                  have hm0 := hm.mid
                  have t1 := ht 1 (twB_spec 7 _ (by kernel_rfl))
                  have e1 : _ = some (vs53 1) := t1.val rfl
                  rw [show vs53 1 = .pointer (some ⟨g32, 1, none⟩) from t1.2.1] at e1
                  replace hs := hs.learn e1
                  have hs0 := hs.bare
                  refine st_ldE hs rfl (hm0.del .z) (.s .z) Try.isAgg35 rfl ?_; clear hs; intro a w hs
                  exact wpList_nil ⟨rfl, _, _, hs0, (.c .r), hs, rfl⟩
                · intro a_ w_ R_ rest_ vs53 hm hs ht
                  replace hs : St _ _ _ (feet [blk g5 [v, .int .i64 (((R.p : Nat) : Int)), .int .i64 (((R.e : Nat) : Int))] 76]) [blk g5 [v, .int .i64 (((R.p : Nat) : Int)), .int .i64 (((R.e : Nat) : Int))] 76] _ _ := hs
                  have hm0 := hm.mid
                  have t0 := ht 0 (twB_spec 7 _ (by kernel_rfl))
                  have e0 : _ = some (vs53 0) := t0.val rfl
                  rw [show vs53 0 = .pointer (some ⟨g5, 0, none⟩) from t0.2.1] at e0
                  replace hs := hs.learn e0
                  have t2 := ht 2 (twB_spec 7 _ (by kernel_rfl))
                  have e2 : _ = some (vs53 2) := t2.val rfl
                  rw [show vs53 2 = .int .u64 (((((l.getD j default).m).toNat : Nat) : Int)) from t2.2.1] at e2
                  replace hs := hs.learn e2
                  have hs0 := hs.bare
                  refine st_call hs (.c rfl (.c rfl .n)) Try.call42 (.c .z .n) (ruint_ok ((l.getD j default).m) g5 _ _ bs R _ (hm.rd1 hb (Dels.app _ _)) (hs.mem.del .z) (by omega)) rfl ?_; clear hs; rintro _ _ a w ⟨rfl, rfl⟩ hs; simp only [List.cons_append, List.nil_append] at hs
                  have hk54 := rUint_le (X := (l.getD j default).m) (bs := bs) (R := R) (by omega)
                  exact wpList_nil ⟨rfl, _, _, hs0, (.c (.c .r)), hs, rfl⟩
                · intro a_ w_ R_ rest_ vs53 hm hs ht
                  replace hs : St _ _ _ (feet []) [] _ _ := hs
                  have hm0 := hm.mid
                  have hs0 := hs.bare
                  refine st_fa hs rfl Try.underlying55 rfl Try.sizeOf35 (by decide) (o := 1) rfl rfl ?_; clear hs; intro a w hs
                  exact wpList_nil ⟨rfl, _, _, hs0, .r, hs, rfl⟩
                · intro a_ w_ R_ rest_ vs53 hm hs ht
                  replace hs : St _ _ _ (feet []) [] _ _ := hs
                  have hm0 := hm.mid
                  have t4 := ht 4 (twB_spec 7 _ (by kernel_rfl))
                  have e4 : _ = some (vs53 4) := t4.val rfl
                  rw [show vs53 4 = .pointer (some ⟨g32, 1, none⟩) from t4.2.1] at e4
                  replace hs := hs.learn e4
                  have hs0 := hs.bare
                  refine st_ldE hs rfl (hm0.del .z) (.s .z) Try.isAgg35 rfl ?_; clear hs; intro a w hs
                  exact wpList_nil ⟨rfl, _, _, hs0, (.c .r), hs, rfl⟩
                · intro a_ w_ R_ rest_ vs53 hm hs ht
                  replace hs : St _ _ _ (feet []) [] _ _ := hs
                  have hm0 := hm.mid
                  have t3 := ht 3 (twB_spec 7 _ (by kernel_rfl))
                  have e3 : _ = some (vs53 3) := t3.val rfl
                  rw [show vs53 3 = .int .u64 (((((rUint bs ((l.getD j default).m) R).1).toNat : Nat) : Int)) from t3.2.1] at e3
                  replace hs := hs.learn e3
                  have t5 := ht 5 (twB_spec 7 _ (by kernel_rfl))
                  have e5 : _ = some (vs53 5) := t5.val rfl
                  rw [show vs53 5 = .int .u64 (((((l.getD j default).m).toNat : Nat) : Int)) from t5.2.1] at e5
                  replace hs := hs.learn e5
                  have hs0 := hs.bare
                  refine st_gtr hs rfl rfl rfl ?_; clear hs; intro a w hs
                  have hb_ : (decide ((((((l.getD j default).m).toNat : Nat) : Int)) < (((((rUint bs ((l.getD j default).m) R).1).toNat : Nat) : Int)))) = false := decide_eq_false (by omega)
                  rw [hb_] at hs; clear hb_
                  exact wpList_nil ⟨rfl, _, _, hs0, (.c (.c .r)), hs, rfl⟩
              · clear hs w a; intro a w vs53 hs hf
                replace hs : St _ _ _ _ [blk g32 [.int .i64 ((l.getD j default).k), .int .u64 (((((l.getD j default).m).toNat : Nat) : Int)), .int .u8 (((((l.getD j default).e).toNat : Nat) : Int))] 55, blk g5 [v, .int .i64 (((((rUint bs ((l.getD j default).m) R).2).p : Nat) : Int)), .int .i64 (((((rUint bs ((l.getD j default).m) R).2).e : Nat) : Int))] 76] _ _ := hs
                obtain ⟨e6, q6⟩ := hf 6 (by decide)
                replace e6 : _ = some (vs53 6) := e6.val rfl
                rw [show vs53 6 = .bool (false) from q6] at e6
                replace hs := hs.learn e6; clear e6 q6
                clear hf
                refine then_n (hK52 _ _ ?_)
                refine wp_cond_false (hs.ev rfl) ?_
                refine wp_skip ?_
                refine in_n ?_
                refine then_n (hK36 _ _ ?_)
                refine wp_seq_k fun K55 hK56 => ?_
                refine wp_region_lit ?_
                refine st_mv hs rfl rfl ?_; clear hs w a; intro a w hs
                refine st_callP (v := .int .i64 ((((((rUint bs ((l.getD j default).m) R).2)).p : Nat) : Int))) hs (.c rfl .n) Try.call40 (rat_ok g5 _ _ bs (((rUint bs ((l.getD j default).m) R).2)) _ (hs.rd0 hb) (hs.mem.del (.s .z)) (by omega)) rfl ?_; clear hs w a; intro a w hs
                refine st_mv hs rfl rfl ?_; clear hs w a; intro a w hs
                refine st_callP (v := .int .i64 ((((bs.length - (((rUint bs ((l.getD j default).m) R).2)).p) : Nat) : Int))) hs (.c rfl .n) Try.call45 (rleft_ok g5 _ _ bs (((rUint bs ((l.getD j default).m) R).2)) _ (hs.rd0 hb) (hs.mem.del (.s .z)) (by omega)) rfl ?_; clear hs w a; intro a w hs
                refine st_addR hs rfl rfl (by omega) rfl ?_; clear hs w a; intro a w hs
                refine st_mv hs rfl rfl ?_; clear hs w a; intro a w hs
                refine st_len hs rfl (hs.rd0 hb).isSl Try.underlying22 rfl ?_; clear hs w a; intro a w hs
                refine st_neq hs rfl rfl rfl ?_; clear hs w a; intro a w hs
                have hb_ : (!((((((((rUint bs ((l.getD j default).m) R).2)).p : Nat) : Int)) + ((((bs.length - (((rUint bs ((l.getD j default).m) R).2)).p) : Nat) : Int)) : Int) == (m : Int))) = false := by rw [Bool.not_eq_false', beq_iff_eq]; omega
                rw [hb_] at hs; clear hb_
                refine st_mv hs rfl rfl ?_; clear hs w a; intro a w hs
                refine st_guardT hs rfl rfl rfl ?_
                refine st_mv hs rfl rfl ?_; clear hs w a; intro a w hs
                refine st_guardT hs rfl rfl rfl ?_
                refine st_callP (v := .int .i64 ((((((rUint bs ((l.getD j default).m) R).2)).p : Nat) : Int))) hs (.c rfl .n) Try.call40 (rat_ok g5 _ _ bs (((rUint bs ((l.getD j default).m) R).2)) _ (hs.rd0 hb) (hs.mem.del (.s .z)) (by omega)) rfl ?_; clear hs w a; intro a w hs
                refine st_guardT hs rfl rfl rfl ?_
                refine st_mv hs rfl rfl ?_; clear hs w a; intro a w hs
                refine st_guardT hs rfl rfl rfl ?_
                refine st_lss hs rfl rfl rfl ?_; clear hs w a; intro a w hs
                have hb_ : (decide (((((((rUint bs ((l.getD j default).m) R).2)).p : Nat) : Int)) < (((R.p : Nat) : Int)))) = false := decide_eq_false (by omega)
                rw [hb_] at hs; clear hb_
                refine st_pickF hs rfl rfl rfl ?_; clear hs w a; intro a w hs
                refine st_mv hs rfl rfl ?_; clear hs w a; intro a w hs
                refine st_guardT hs rfl rfl rfl ?_
                refine st_mv hs rfl rfl ?_; clear hs w a; intro a w hs
                refine st_guardT hs rfl rfl rfl ?_
                refine st_callP (v := .int .i64 ((((((rUint bs ((l.getD j default).m) R).2)).p : Nat) : Int))) hs (.c rfl .n) Try.call40 (rat_ok g5 _ _ bs (((rUint bs ((l.getD j default).m) R).2)) _ (hs.rd0 hb) (hs.mem.del (.s .z)) (by omega)) rfl ?_; clear hs w a; intro a w hs
                refine st_guardT hs rfl rfl rfl ?_
                refine st_mv hs rfl rfl ?_; clear hs w a; intro a w hs
                refine st_guardT hs rfl rfl rfl ?_
                refine st_mv hs rfl rfl ?_; clear hs w a; intro a w hs
                refine st_guardT hs rfl rfl rfl ?_
                refine st_addR hs rfl rfl (by omega) rfl ?_; clear hs w a; intro a w hs
                refine st_guardT hs rfl rfl rfl ?_
                refine st_gtr hs rfl rfl rfl ?_; clear hs w a; intro a w hs
                have hb_ : (decide (((((R.p : Nat) : Int)) + 10) < ((((((rUint bs ((l.getD j default).m) R).2)).p : Nat) : Int)))) = false := decide_eq_false (by omega)
                rw [hb_] at hs; clear hb_
                refine st_pickF hs rfl rfl rfl ?_; clear hs w a; intro a w hs
                refine st_mv hs rfl rfl ?_; clear hs w a; intro a w hs
                refine st_guardT hs rfl rfl rfl ?_
                refine st_mv hs rfl rfl ?_; clear hs w a; intro a w hs
                refine st_guardT hs rfl rfl rfl ?_
                refine st_callP (v := .int .i64 ((((rDone bs (((rUint bs ((l.getD j default).m) R).2))) : Nat) : Int))) hs (.c rfl .n) Try.call46 (rdone_ok g5 _ _ bs (((rUint bs ((l.getD j default).m) R).2)) _ (hs.rd0 hb) (hs.mem.del (.s .z)) (by omega)) rfl ?_; clear hs w a; intro a w hs
                refine st_guardT hs rfl rfl rfl ?_
                refine st_eql hs rfl rfl rfl ?_; clear hs w a; intro a w hs
                refine st_guardT hs rfl rfl rfl ?_
                refine st_mv hs rfl rfl ?_; clear hs w a; intro a w hs
                refine st_guardT hs rfl rfl rfl ?_
                refine st_callP (v := .int .i64 ((((((rUint bs ((l.getD j default).m) R).2)).e : Nat) : Int))) hs (.c rfl .n) Try.call47 (rerr_ok g5 _ _ bs (((rUint bs ((l.getD j default).m) R).2)) _ (hs.rd0 hb) (hs.mem.del (.s .z)) (by omega)) rfl ?_; clear hs w a; intro a w hs
                refine st_guardT hs rfl rfl rfl ?_
                refine st_eql hs rfl rfl rfl ?_; clear hs w a; intro a w hs
                refine st_guardT hs rfl rfl rfl ?_
                refine st_mv hs rfl rfl ?_; clear hs w a; intro a w hs
                refine st_part (b := ((((((rUint bs ((l.getD j default).m) R).2)).e : Nat) : Int) : Int) == 0) (fun hc57 => ?_) (fun hc57 => ?_)
                · rw [hc57] at hs
                  replace hc57 := eq_of_beq hc57
                  refine st_guardT hs rfl rfl rfl ?_
                  refine st_mv hs rfl rfl ?_; clear hs w a; intro a w hs
                  refine st_guardT hs rfl rfl rfl ?_
                  refine st_callP (v := .int .i64 ((((bs.length - (((rUint bs ((l.getD j default).m) R).2)).p) : Nat) : Int))) hs (.c rfl .n) Try.call45 (rleft_ok g5 _ _ bs (((rUint bs ((l.getD j default).m) R).2)) _ (hs.rd0 hb) (hs.mem.del (.s .z)) (by omega)) rfl ?_; clear hs w a; intro a w hs
                  refine st_guardT hs rfl rfl rfl ?_
                  refine st_eql hs rfl rfl rfl ?_; clear hs w a; intro a w hs
                  refine st_guardT hs rfl rfl rfl ?_
                  refine st_pickT hs rfl rfl rfl ?_; clear hs w a; intro a w hs
                  refine st_guardT hs rfl rfl rfl ?_
                  refine st_neb hs rfl rfl Try.underlying4 rfl ?_; clear hs w a; intro a w hs
                  have hb_ : (!((((((rDone bs (((rUint bs ((l.getD j default).m) R).2))) : Nat) : Int) : Int) == 0 : Bool) == (((((bs.length - (((rUint bs ((l.getD j default).m) R).2)).p) : Nat) : Int) : Int) == 0))) = false := by first | (rw [done_a _ _ (by omega)]; rfl) | (rw [done_b _ _ (by omega)]; simp)
                  rw [hb_] at hs; clear hb_
                  refine st_pickF hs rfl rfl rfl ?_; clear hs w a; intro a w hs
                  refine wpList_nil ?_
                  refine then_n (hK56 _ _ ?_)
                  refine wp_cond_false (hs.ev rfl) ?_
                  refine wp_skip ?_
                  refine in_n ?_
                  refine then_n (hK29 _ _ ?_)
                  refine wp_region_lit ?_
                  refine st_addR hs rfl rfl (by omega) rfl ?_; clear hs w a; intro a w hs
                  refine st_mv hs rfl rfl ?_; clear hs w a; intro a w hs
                  refine wpList_nil ?_
                  refine then_n ?_
                  replace hs := hs.drop (.c .z .n)
                  refine ⟨_, ?_, j + 1, ((rUint bs ((l.getD j default).m) R).2), rfl, hs.sub (.c rfl (.c rfl (.c rfl (.c rfl (.c rfl .n))))), by omega, by omega⟩
                  omega
                · rw [hc57] at hs
                  replace hc57 := ne_of_beq_f hc57
                  refine st_guardF hs rfl rfl rfl rfl rfl ?_; clear hs w a; intro a w hs
                  refine st_guardF hs rfl rfl rfl rfl rfl ?_; clear hs w a; intro a w hs
                  refine st_guardF hs rfl rfl rfl rfl rfl ?_; clear hs w a; intro a w hs
                  refine st_guardT hs rfl rfl rfl ?_
                  refine st_pickF hs rfl rfl rfl ?_; clear hs w a; intro a w hs
                  refine st_guardT hs rfl rfl rfl ?_
                  refine st_neb hs rfl rfl Try.underlying4 rfl ?_; clear hs w a; intro a w hs
                  have hb_ : (!((((((rDone bs (((rUint bs ((l.getD j default).m) R).2))) : Nat) : Int) : Int) == 0 : Bool) == false)) = false := by first | (rw [done_a _ _ (by omega)]; rfl) | (rw [done_b _ _ (by omega)]; simp)
                  rw [hb_] at hs; clear hb_
                  refine st_pickF hs rfl rfl rfl ?_; clear hs w a; intro a w hs
                  refine wpList_nil ?_
                  refine then_n (hK56 _ _ ?_)
                  refine wp_cond_false (hs.ev rfl) ?_
                  refine wp_skip ?_
                  refine in_n ?_
                  refine then_n (hK29 _ _ ?_)
                  refine wp_region_lit ?_
                  refine st_addR hs rfl rfl (by omega) rfl ?_; clear hs w a; intro a w hs
                  refine st_mv hs rfl rfl ?_; clear hs w a; intro a w hs
                  refine wpList_nil ?_
                  refine then_n ?_
                  replace hs := hs.drop (.c .z .n)
                  refine ⟨_, ?_, j + 1, ((rUint bs ((l.getD j default).m) R).2), rfl, hs.sub (.c rfl (.c rfl (.c rfl (.c rfl (.c rfl .n))))), by omega, by omega⟩
                  omega
            ·
              replace hc50 := ne_of_beq_f hc50
              refine wp_seq_k fun K58 hK59 => ?_
              refine wp_region_lit ?_
              refine st_eql hs rfl rfl rfl ?_; clear hs w a; intro a w hs
              refine st_as hs rfl rfl ?_; clear hs w a; intro a w hs
              refine wpList_nil ?_
              refine then_n (hK59 _ _ ?_)
              refine wp_if hs rfl (fun hc60 => ?_) (fun hc60 => ?_)
              ·
                replace hc60 := eq_of_beq hc60
                refine wp_region_lit ?_
                refine st_mv hs rfl rfl ?_; clear hs w a; intro a w hs
                refine st_call hs (.c rfl .n) Try.call43 (.c (.s .z) .n) (rint_ok  g5 _ _ bs R _ (hs.mem.rd1 hb (.c (.s .z) .n)) (hs.mem.del (.s .z)) (by omega)) rfl ?_; clear hs w a; rintro _ _ a w ⟨rfl, rfl⟩ hs; simp only [List.cons_append, List.nil_append] at hs
                have hk61 := rInt_le (bs := bs) (R := R) (by omega)
                refine wpList_nil ?_
                refine in_n ?_
                refine then_n (hK36 _ _ ?_)
                refine wp_seq_k fun K62 hK63 => ?_
                refine wp_region_lit ?_
                refine st_mv hs rfl rfl ?_; clear hs w a; intro a w hs
                refine st_callP (v := .int .i64 ((((((rInt bs R).2)).p : Nat) : Int))) hs (.c rfl .n) Try.call40 (rat_ok g5 _ _ bs (((rInt bs R).2)) _ (hs.rd0 hb) (hs.mem.del .z) (by omega)) rfl ?_; clear hs w a; intro a w hs
                refine st_mv hs rfl rfl ?_; clear hs w a; intro a w hs
                refine st_callP (v := .int .i64 ((((bs.length - (((rInt bs R).2)).p) : Nat) : Int))) hs (.c rfl .n) Try.call45 (rleft_ok g5 _ _ bs (((rInt bs R).2)) _ (hs.rd0 hb) (hs.mem.del .z) (by omega)) rfl ?_; clear hs w a; intro a w hs
                refine st_addR hs rfl rfl (by omega) rfl ?_; clear hs w a; intro a w hs
                refine st_mv hs rfl rfl ?_; clear hs w a; intro a w hs
                refine st_len hs rfl (hs.rd0 hb).isSl Try.underlying22 rfl ?_; clear hs w a; intro a w hs
                refine st_neq hs rfl rfl rfl ?_; clear hs w a; intro a w hs
                have hb_ : (!((((((((rInt bs R).2)).p : Nat) : Int)) + ((((bs.length - (((rInt bs R).2)).p) : Nat) : Int)) : Int) == (m : Int))) = false := by rw [Bool.not_eq_false', beq_iff_eq]; omega
                rw [hb_] at hs; clear hb_
                refine st_mv hs rfl rfl ?_; clear hs w a; intro a w hs
                refine st_guardT hs rfl rfl rfl ?_
                refine st_mv hs rfl rfl ?_; clear hs w a; intro a w hs
                refine st_guardT hs rfl rfl rfl ?_
                refine st_callP (v := .int .i64 ((((((rInt bs R).2)).p : Nat) : Int))) hs (.c rfl .n) Try.call40 (rat_ok g5 _ _ bs (((rInt bs R).2)) _ (hs.rd0 hb) (hs.mem.del .z) (by omega)) rfl ?_; clear hs w a; intro a w hs
                refine st_guardT hs rfl rfl rfl ?_
                refine st_mv hs rfl rfl ?_; clear hs w a; intro a w hs
                refine st_guardT hs rfl rfl rfl ?_
                refine st_lss hs rfl rfl rfl ?_; clear hs w a; intro a w hs
                have hb_ : (decide (((((((rInt bs R).2)).p : Nat) : Int)) < (((R.p : Nat) : Int)))) = false := decide_eq_false (by omega)
                rw [hb_] at hs; clear hb_
                refine st_pickF hs rfl rfl rfl ?_; clear hs w a; intro a w hs
                refine st_mv hs rfl rfl ?_; clear hs w a; intro a w hs
                refine st_guardT hs rfl rfl rfl ?_
                refine st_mv hs rfl rfl ?_; clear hs w a; intro a w hs
                refine st_guardT hs rfl rfl rfl ?_
                refine st_callP (v := .int .i64 ((((((rInt bs R).2)).p : Nat) : Int))) hs (.c rfl .n) Try.call40 (rat_ok g5 _ _ bs (((rInt bs R).2)) _ (hs.rd0 hb) (hs.mem.del .z) (by omega)) rfl ?_; clear hs w a; intro a w hs
                refine st_guardT hs rfl rfl rfl ?_
                refine st_mv hs rfl rfl ?_; clear hs w a; intro a w hs
                refine st_guardT hs rfl rfl rfl ?_
                refine st_mv hs rfl rfl ?_; clear hs w a; intro a w hs
                refine st_guardT hs rfl rfl rfl ?_
                refine st_addR hs rfl rfl (by omega) rfl ?_; clear hs w a; intro a w hs
                refine st_guardT hs rfl rfl rfl ?_
                refine st_gtr hs rfl rfl rfl ?_; clear hs w a; intro a w hs
                have hb_ : (decide (((((R.p : Nat) : Int)) + 10) < ((((((rInt bs R).2)).p : Nat) : Int)))) = false := decide_eq_false (by omega)
                rw [hb_] at hs; clear hb_
                refine st_pickF hs rfl rfl rfl ?_; clear hs w a; intro a w hs
                refine st_mv hs rfl rfl ?_; clear hs w a; intro a w hs
                refine st_guardT hs rfl rfl rfl ?_
                refine st_mv hs rfl rfl ?_; clear hs w a; intro a w hs
                refine st_guardT hs rfl rfl rfl ?_
                refine st_callP (v := .int .i64 ((((rDone bs (((rInt bs R).2))) : Nat) : Int))) hs (.c rfl .n) Try.call46 (rdone_ok g5 _ _ bs (((rInt bs R).2)) _ (hs.rd0 hb) (hs.mem.del .z) (by omega)) rfl ?_; clear hs w a; intro a w hs
                refine st_guardT hs rfl rfl rfl ?_
                refine st_eql hs rfl rfl rfl ?_; clear hs w a; intro a w hs
                refine st_guardT hs rfl rfl rfl ?_
                refine st_mv hs rfl rfl ?_; clear hs w a; intro a w hs
                refine st_guardT hs rfl rfl rfl ?_
                refine st_callP (v := .int .i64 ((((((rInt bs R).2)).e : Nat) : Int))) hs (.c rfl .n) Try.call47 (rerr_ok g5 _ _ bs (((rInt bs R).2)) _ (hs.rd0 hb) (hs.mem.del .z) (by omega)) rfl ?_; clear hs w a; intro a w hs
                refine st_guardT hs rfl rfl rfl ?_
                refine st_eql hs rfl rfl rfl ?_; clear hs w a; intro a w hs
                refine st_guardT hs rfl rfl rfl ?_
                refine st_mv hs rfl rfl ?_; clear hs w a; intro a w hs
                refine st_part (b := ((((((rInt bs R).2)).e : Nat) : Int) : Int) == 0) (fun hc64 => ?_) (fun hc64 => ?_)
                · rw [hc64] at hs
                  replace hc64 := eq_of_beq hc64
                  refine st_guardT hs rfl rfl rfl ?_
                  refine st_mv hs rfl rfl ?_; clear hs w a; intro a w hs
                  refine st_guardT hs rfl rfl rfl ?_
                  refine st_callP (v := .int .i64 ((((bs.length - (((rInt bs R).2)).p) : Nat) : Int))) hs (.c rfl .n) Try.call45 (rleft_ok g5 _ _ bs (((rInt bs R).2)) _ (hs.rd0 hb) (hs.mem.del .z) (by omega)) rfl ?_; clear hs w a; intro a w hs
                  refine st_guardT hs rfl rfl rfl ?_
                  refine st_eql hs rfl rfl rfl ?_; clear hs w a; intro a w hs
                  refine st_guardT hs rfl rfl rfl ?_
                  refine st_pickT hs rfl rfl rfl ?_; clear hs w a; intro a w hs
                  refine st_guardT hs rfl rfl rfl ?_
                  refine st_neb hs rfl rfl Try.underlying4 rfl ?_; clear hs w a; intro a w hs
                  have hb_ : (!((((((rDone bs (((rInt bs R).2))) : Nat) : Int) : Int) == 0 : Bool) == (((((bs.length - (((rInt bs R).2)).p) : Nat) : Int) : Int) == 0))) = false := by first | (rw [done_a _ _ (by omega)]; rfl) | (rw [done_b _ _ (by omega)]; simp)
                  rw [hb_] at hs; clear hb_
                  refine st_pickF hs rfl rfl rfl ?_; clear hs w a; intro a w hs
                  refine wpList_nil ?_
                  refine then_n (hK63 _ _ ?_)
                  refine wp_cond_false (hs.ev rfl) ?_
                  refine wp_skip ?_
                  refine in_n ?_
                  refine then_n (hK29 _ _ ?_)
                  refine wp_region_lit ?_
                  refine st_addR hs rfl rfl (by omega) rfl ?_; clear hs w a; intro a w hs
                  refine st_mv hs rfl rfl ?_; clear hs w a; intro a w hs
                  refine wpList_nil ?_
                  refine then_n ?_
                  replace hs := hs.drop (.c (.s .z) .n)
                  refine ⟨_, ?_, j + 1, ((rInt bs R).2), rfl, hs.sub (.c rfl (.c rfl (.c rfl (.c rfl (.c rfl .n))))), by omega, by omega⟩
                  omega
                · rw [hc64] at hs
                  replace hc64 := ne_of_beq_f hc64
                  refine st_guardF hs rfl rfl rfl rfl rfl ?_; clear hs w a; intro a w hs
                  refine st_guardF hs rfl rfl rfl rfl rfl ?_; clear hs w a; intro a w hs
                  refine st_guardF hs rfl rfl rfl rfl rfl ?_; clear hs w a; intro a w hs
                  refine st_guardT hs rfl rfl rfl ?_
                  refine st_pickF hs rfl rfl rfl ?_; clear hs w a; intro a w hs
                  refine st_guardT hs rfl rfl rfl ?_
                  refine st_neb hs rfl rfl Try.underlying4 rfl ?_; clear hs w a; intro a w hs
                  have hb_ : (!((((((rDone bs (((rInt bs R).2))) : Nat) : Int) : Int) == 0 : Bool) == false)) = false := by first | (rw [done_a _ _ (by omega)]; rfl) | (rw [done_b _ _ (by omega)]; simp)
                  rw [hb_] at hs; clear hb_
                  refine st_pickF hs rfl rfl rfl ?_; clear hs w a; intro a w hs
                  refine wpList_nil ?_
                  refine then_n (hK63 _ _ ?_)
                  refine wp_cond_false (hs.ev rfl) ?_
                  refine wp_skip ?_
                  refine in_n ?_
                  refine then_n (hK29 _ _ ?_)
                  refine wp_region_lit ?_
                  refine st_addR hs rfl rfl (by omega) rfl ?_; clear hs w a; intro a w hs
                  refine st_mv hs rfl rfl ?_; clear hs w a; intro a w hs
                  refine wpList_nil ?_
                  refine then_n ?_
                  replace hs := hs.drop (.c (.s .z) .n)
                  refine ⟨_, ?_, j + 1, ((rInt bs R).2), rfl, hs.sub (.c rfl (.c rfl (.c rfl (.c rfl (.c rfl .n))))), by omega, by omega⟩
                  omega
              ·
                replace hc60 := ne_of_beq_f hc60
                refine wp_seq_k fun K65 hK66 => ?_
                refine wp_region_lit ?_
                refine st_mv hs rfl rfl ?_; clear hs w a; intro a w hs
                refine st_call hs (.c rfl .n) Try.call44 (.c (.s .z) .n) (rvec_ok  g5 _ _ bs R _ (hs.mem.rd1 hb (.c (.s .z) .n)) (hs.mem.del (.s .z)) (by omega)) rfl ?_; clear hs w a; rintro _ _ a w ⟨rfl, rfl⟩ hs; simp only [List.cons_append, List.nil_append] at hs
                have hk67 := rVec_le' (bs := bs) (R := R) (by omega)
                refine wpList_nil ?_
                refine then_n (hK66 _ _ ?_)
                refine wp_region_lit ?_
                refine st_as hs rfl rfl ?_; clear hs w a; intro a w hs
                refine wpList_nil ?_
                refine in_n ?_
                refine then_n (hK36 _ _ ?_)
                refine wp_seq_k fun K68 hK69 => ?_
                refine wp_region_lit ?_
                refine st_mv hs rfl rfl ?_; clear hs w a; intro a w hs
                refine st_callP (v := .int .i64 ((((((rInt bs (rInt bs (rInt bs R).2).2).2)).p : Nat) : Int))) hs (.c rfl .n) Try.call40 (rat_ok g5 _ _ bs (((rInt bs (rInt bs (rInt bs R).2).2).2)) _ (hs.rd0 hb) (hs.mem.del .z) (by omega)) rfl ?_; clear hs w a; intro a w hs
                refine st_mv hs rfl rfl ?_; clear hs w a; intro a w hs
                refine st_callP (v := .int .i64 ((((bs.length - (((rInt bs (rInt bs (rInt bs R).2).2).2)).p) : Nat) : Int))) hs (.c rfl .n) Try.call45 (rleft_ok g5 _ _ bs (((rInt bs (rInt bs (rInt bs R).2).2).2)) _ (hs.rd0 hb) (hs.mem.del .z) (by omega)) rfl ?_; clear hs w a; intro a w hs
                refine st_addR hs rfl rfl (by omega) rfl ?_; clear hs w a; intro a w hs
                refine st_mv hs rfl rfl ?_; clear hs w a; intro a w hs
                refine st_len hs rfl (hs.rd0 hb).isSl Try.underlying22 rfl ?_; clear hs w a; intro a w hs
                refine st_neq hs rfl rfl rfl ?_; clear hs w a; intro a w hs
                have hb_ : (!((((((((rInt bs (rInt bs (rInt bs R).2).2).2)).p : Nat) : Int)) + ((((bs.length - (((rInt bs (rInt bs (rInt bs R).2).2).2)).p) : Nat) : Int)) : Int) == (m : Int))) = false := by rw [Bool.not_eq_false', beq_iff_eq]; omega
                rw [hb_] at hs; clear hb_
                refine st_mv hs rfl rfl ?_; clear hs w a; intro a w hs
                refine st_guardT hs rfl rfl rfl ?_
                refine st_mv hs rfl rfl ?_; clear hs w a; intro a w hs
                refine st_guardT hs rfl rfl rfl ?_
                refine st_callP (v := .int .i64 ((((((rInt bs (rInt bs (rInt bs R).2).2).2)).p : Nat) : Int))) hs (.c rfl .n) Try.call40 (rat_ok g5 _ _ bs (((rInt bs (rInt bs (rInt bs R).2).2).2)) _ (hs.rd0 hb) (hs.mem.del .z) (by omega)) rfl ?_; clear hs w a; intro a w hs
                refine st_guardT hs rfl rfl rfl ?_
                refine st_mv hs rfl rfl ?_; clear hs w a; intro a w hs
                refine st_guardT hs rfl rfl rfl ?_
                refine st_lss hs rfl rfl rfl ?_; clear hs w a; intro a w hs
                have hb_ : (decide (((((((rInt bs (rInt bs (rInt bs R).2).2).2)).p : Nat) : Int)) < (((R.p : Nat) : Int)))) = false := decide_eq_false (by omega)
                rw [hb_] at hs; clear hb_
                refine st_pickF hs rfl rfl rfl ?_; clear hs w a; intro a w hs
                refine st_mv hs rfl rfl ?_; clear hs w a; intro a w hs
                refine st_guardT hs rfl rfl rfl ?_
                refine st_mv hs rfl rfl ?_; clear hs w a; intro a w hs
                refine st_guardT hs rfl rfl rfl ?_
                refine st_callP (v := .int .i64 ((((((rInt bs (rInt bs (rInt bs R).2).2).2)).p : Nat) : Int))) hs (.c rfl .n) Try.call40 (rat_ok g5 _ _ bs (((rInt bs (rInt bs (rInt bs R).2).2).2)) _ (hs.rd0 hb) (hs.mem.del .z) (by omega)) rfl ?_; clear hs w a; intro a w hs
                refine st_guardT hs rfl rfl rfl ?_
                refine st_mv hs rfl rfl ?_; clear hs w a; intro a w hs
                refine st_guardT hs rfl rfl rfl ?_
                refine st_mv hs rfl rfl ?_; clear hs w a; intro a w hs
                refine st_guardT hs rfl rfl rfl ?_
                refine st_addR hs rfl rfl (by omega) rfl ?_; clear hs w a; intro a w hs
                refine st_guardT hs rfl rfl rfl ?_
                refine st_gtr hs rfl rfl rfl ?_; clear hs w a; intro a w hs
                have hb_ : (decide (((((R.p : Nat) : Int)) + 30) < ((((((rInt bs (rInt bs (rInt bs R).2).2).2)).p : Nat) : Int)))) = false := decide_eq_false (by omega)
                rw [hb_] at hs; clear hb_
                refine st_pickF hs rfl rfl rfl ?_; clear hs w a; intro a w hs
                refine st_mv hs rfl rfl ?_; clear hs w a; intro a w hs
                refine st_guardT hs rfl rfl rfl ?_
                refine st_mv hs rfl rfl ?_; clear hs w a; intro a w hs
                refine st_guardT hs rfl rfl rfl ?_
                refine st_callP (v := .int .i64 ((((rDone bs (((rInt bs (rInt bs (rInt bs R).2).2).2))) : Nat) : Int))) hs (.c rfl .n) Try.call46 (rdone_ok g5 _ _ bs (((rInt bs (rInt bs (rInt bs R).2).2).2)) _ (hs.rd0 hb) (hs.mem.del .z) (by omega)) rfl ?_; clear hs w a; intro a w hs
                refine st_guardT hs rfl rfl rfl ?_
                refine st_eql hs rfl rfl rfl ?_; clear hs w a; intro a w hs
                refine st_guardT hs rfl rfl rfl ?_
                refine st_mv hs rfl rfl ?_; clear hs w a; intro a w hs
                refine st_guardT hs rfl rfl rfl ?_
                refine st_callP (v := .int .i64 ((((((rInt bs (rInt bs (rInt bs R).2).2).2)).e : Nat) : Int))) hs (.c rfl .n) Try.call47 (rerr_ok g5 _ _ bs (((rInt bs (rInt bs (rInt bs R).2).2).2)) _ (hs.rd0 hb) (hs.mem.del .z) (by omega)) rfl ?_; clear hs w a; intro a w hs
                refine st_guardT hs rfl rfl rfl ?_
                refine st_eql hs rfl rfl rfl ?_; clear hs w a; intro a w hs
                refine st_guardT hs rfl rfl rfl ?_
                refine st_mv hs rfl rfl ?_; clear hs w a; intro a w hs
                refine st_part (b := ((((((rInt bs (rInt bs (rInt bs R).2).2).2)).e : Nat) : Int) : Int) == 0) (fun hc70 => ?_) (fun hc70 => ?_)
                · rw [hc70] at hs
                  replace hc70 := eq_of_beq hc70
                  refine st_guardT hs rfl rfl rfl ?_
                  refine st_mv hs rfl rfl ?_; clear hs w a; intro a w hs
                  refine st_guardT hs rfl rfl rfl ?_
                  refine st_callP (v := .int .i64 ((((bs.length - (((rInt bs (rInt bs (rInt bs R).2).2).2)).p) : Nat) : Int))) hs (.c rfl .n) Try.call45 (rleft_ok g5 _ _ bs (((rInt bs (rInt bs (rInt bs R).2).2).2)) _ (hs.rd0 hb) (hs.mem.del .z) (by omega)) rfl ?_; clear hs w a; intro a w hs
                  refine st_guardT hs rfl rfl rfl ?_
                  refine st_eql hs rfl rfl rfl ?_; clear hs w a; intro a w hs
                  refine st_guardT hs rfl rfl rfl ?_
                  refine st_pickT hs rfl rfl rfl ?_; clear hs w a; intro a w hs
                  refine st_guardT hs rfl rfl rfl ?_
                  refine st_neb hs rfl rfl Try.underlying4 rfl ?_; clear hs w a; intro a w hs
                  have hb_ : (!((((((rDone bs (((rInt bs (rInt bs (rInt bs R).2).2).2))) : Nat) : Int) : Int) == 0 : Bool) == (((((bs.length - (((rInt bs (rInt bs (rInt bs R).2).2).2)).p) : Nat) : Int) : Int) == 0))) = false := by first | (rw [done_a _ _ (by omega)]; rfl) | (rw [done_b _ _ (by omega)]; simp)
                  rw [hb_] at hs; clear hb_
                  refine st_pickF hs rfl rfl rfl ?_; clear hs w a; intro a w hs
                  refine wpList_nil ?_
                  refine then_n (hK69 _ _ ?_)
                  refine wp_cond_false (hs.ev rfl) ?_
                  refine wp_skip ?_
                  refine in_n ?_
                  refine then_n (hK29 _ _ ?_)
                  refine wp_region_lit ?_
                  refine st_addR hs rfl rfl (by omega) rfl ?_; clear hs w a; intro a w hs
                  refine st_mv hs rfl rfl ?_; clear hs w a; intro a w hs
                  refine wpList_nil ?_
                  refine then_n ?_
                  replace hs := hs.drop (.c (.s .z) .n)
                  refine ⟨_, ?_, j + 1, ((rInt bs (rInt bs (rInt bs R).2).2).2), rfl, hs.sub (.c rfl (.c rfl (.c rfl (.c rfl (.c rfl .n))))), by omega, by omega⟩
                  omega
                · rw [hc70] at hs
                  replace hc70 := ne_of_beq_f hc70
                  refine st_guardF hs rfl rfl rfl rfl rfl ?_; clear hs w a; intro a w hs
                  refine st_guardF hs rfl rfl rfl rfl rfl ?_; clear hs w a; intro a w hs
                  refine st_guardF hs rfl rfl rfl rfl rfl ?_; clear hs w a; intro a w hs
                  refine st_guardT hs rfl rfl rfl ?_
                  refine st_pickF hs rfl rfl rfl ?_; clear hs w a; intro a w hs
                  refine st_guardT hs rfl rfl rfl ?_
                  refine st_neb hs rfl rfl Try.underlying4 rfl ?_; clear hs w a; intro a w hs
                  have hb_ : (!((((((rDone bs (((rInt bs (rInt bs (rInt bs R).2).2).2))) : Nat) : Int) : Int) == 0 : Bool) == false)) = false := by first | (rw [done_a _ _ (by omega)]; rfl) | (rw [done_b _ _ (by omega)]; simp)
                  rw [hb_] at hs; clear hb_
                  refine st_pickF hs rfl rfl rfl ?_; clear hs w a; intro a w hs
                  refine wpList_nil ?_
                  refine then_n (hK69 _ _ ?_)
                  refine wp_cond_false (hs.ev rfl) ?_
                  refine wp_skip ?_
                  refine in_n ?_
                  refine then_n (hK29 _ _ ?_)
                  refine wp_region_lit ?_
                  refine st_addR hs rfl rfl (by omega) rfl ?_; clear hs w a; intro a w hs
                  refine st_mv hs rfl rfl ?_; clear hs w a; intro a w hs
                  refine wpList_nil ?_
                  refine then_n ?_
                  replace hs := hs.drop (.c (.s .z) .n)
                  refine ⟨_, ?_, j + 1, ((rInt bs (rInt bs (rInt bs R).2).2).2), rfl, hs.sub (.c rfl (.c rfl (.c rfl (.c rfl (.c rfl .n))))), by omega, by omega⟩
                  omega
        ·
          replace hc27 := of_decide_eq_false hc27
          refine wp_exit ?_
          refine th_e ?_
          refine th_e ?_
          refine in_hit ?_
          refine then_n (hK20 _ _ ?_)
          refine wp_seq_k fun K71 hK72 => ?_
          refine wp_region_lit ?_
          refine st_as hs rfl rfl ?_; clear hs w a; intro a w hs
          refine wpList_nil ?_
          refine then_n (hK72 _ _ ?_)
          refine wp_ret ?_
          replace hs := hs.drop (.c .z .n)
          exact fin hs rfl rfl ⟨rfl, rfl⟩
end Go.Proofs.Ytmhkekdhijnnbaa
