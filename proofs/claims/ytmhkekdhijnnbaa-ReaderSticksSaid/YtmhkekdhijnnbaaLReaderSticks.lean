/- Walks of ReaderSticks: what each function does, over the program of this seat. Printed by a program of this session. -/
import Derived.Test.YtmhkekdhijnnbaaWrd2
namespace Go.Proofs.Ytmhkekdhijnnbaa
open Go Go.Sx Go.RowKit
set_option linter.unusedVariables false
set_option linter.unusedSimpArgs false
set_option maxRecDepth 4000

theorem readerSticks_ok (v : Value) (m : Nat) (bs : List Byte) (e : BitVec 8) (u : Value) (m2 : Nat) (l : List ActR) (w0 : World) (hb : Rd w0 [] v 1 m (bytesV bs)) (hc : Rd w0 [] u 3 m2 (l.flatMap actV)) : Calls Try.prog 17 #[v, .int .u8 (e.toNat : Int), u] w0 (RetV w0 (.bool true)) := by
  have hbl : bs.length = m := by have := hb.len; simpa [bytesV] using this
  have hbe : m ≤ maxLen := hb.le
  simp only [maxLen] at hbe
  have hcl : l.length = m2 := by have := hc.len; rw [flat_len actV_len] at this; omega
  have hce : m2 ≤ maxLen := hc.le
  simp only [maxLen] at hce
  refine enter (F0 := [(0, v), (1, .int .u8 ((((e).toNat : Nat) : Int))), (2, u)]) Try.func17 rfl rfl rfl (.c (.c (.c .n))) (Mem.nil _) fun a w hs => ?_
  refine wp_seq_k fun K1 hK2 => ?_
  refine wp_region_lit ?_
  refine st_as hs rfl rfl ?_; clear hs w a; intro a w hs
  refine wpList_nil ?_
  refine then_n (hK2 _ _ ?_)
  refine wp_seq_k fun K3 hK4 => ?_
  refine wp_region_lit ?_
  refine st_mv hs rfl rfl ?_; clear hs w a; intro a w hs
  refine st_call hs (.c rfl .n) Try.call38 .n (new_ok _ _ bs _ (hs.rd0 hb)) rfl ?_; clear hs w a; rintro _ _ a w ⟨g5, rfl, rfl⟩ hs; simp only [List.cons_append, List.nil_append] at hs
  have hleg5 : (⟨0, 0⟩ : Rs).p ≤ bs.length := Nat.zero_le _
  refine st_as hs rfl rfl ?_; clear hs w a; intro a w hs
  refine wpList_nil ?_
  refine then_n (hK4 _ _ ?_)
  refine wp_seq_k fun K6 hK7 => ?_
  refine wp_seq_k fun K8 hK9 => ?_
  refine wp_region_lit ?_
  refine st_callP (v := .bool (true)) hs .n Try.call39 (alive07_ok _) rfl ?_; clear hs w a; intro a w hs
  refine st_not hs rfl rfl ?_; clear hs w a; intro a w hs
  refine st_mv hs rfl rfl ?_; clear hs w a; intro a w hs
  refine st_part (b := !(true)) (fun hc10 => ?_) (fun hc10 => ?_)
  · rw [hc10] at hs
    replace hc10 := not_t hc10
    refine st_guardF hs rfl rfl rfl rfl rfl ?_; clear hs w a; intro a w hs
    refine st_guardF hs rfl rfl rfl rfl rfl ?_; clear hs w a; intro a w hs
    refine st_pickT hs rfl rfl rfl ?_; clear hs w a; intro a w hs
    refine st_mv hs rfl rfl ?_; clear hs w a; intro a w hs
    refine st_guardF hs rfl rfl rfl rfl rfl ?_; clear hs w a; intro a w hs
    refine st_guardF hs rfl rfl rfl rfl rfl ?_; clear hs w a; intro a w hs
    refine st_guardF hs rfl rfl rfl rfl rfl ?_; clear hs w a; intro a w hs
    refine st_pickT hs rfl rfl rfl ?_; clear hs w a; intro a w hs
    refine st_mv hs rfl rfl ?_; clear hs w a; intro a w hs
    refine st_guardF hs rfl rfl rfl rfl rfl ?_; clear hs w a; intro a w hs
    refine st_guardF hs rfl rfl rfl rfl rfl ?_; clear hs w a; intro a w hs
    refine st_guardF hs rfl rfl rfl rfl rfl ?_; clear hs w a; intro a w hs
    refine st_pickT hs rfl rfl rfl ?_; clear hs w a; intro a w hs
    refine wpList_nil ?_
    refine then_n (hK9 _ _ ?_)
    refine wp_cond_true (hs.ev rfl) ?_
    refine wp_seq_k fun K11 hK12 => ?_
    refine wp_region_lit ?_
    refine st_callP (v := .bool (true)) hs .n Try.call39 (alive07_ok _) rfl ?_; clear hs w a; intro a w hs
    refine st_as hs rfl rfl ?_; clear hs w a; intro a w hs
    refine wpList_nil ?_
    refine then_n (hK12 _ _ ?_)
    refine wp_ret ?_
    refine th_r ?_
    replace hs := hs.drop (.c .z .n)
    exact fin hs rfl rfl ⟨rfl, rfl⟩
  · rw [hc10] at hs
    replace hc10 := not_f hc10
    refine st_guardT hs rfl rfl rfl ?_
    refine st_mv hs rfl rfl ?_; clear hs w a; intro a w hs
    refine st_guardT hs rfl rfl rfl ?_
    refine st_eqnil hs rfl rfl Try.underlying52 rfl ?_; clear hs w a; intro a w hs
    refine st_pickF hs rfl rfl rfl ?_; clear hs w a; intro a w hs
    refine st_mv hs rfl rfl ?_; clear hs w a; intro a w hs
    refine st_guardT hs rfl rfl rfl ?_
    refine st_mv hs rfl rfl ?_; clear hs w a; intro a w hs
    refine st_guardT hs rfl rfl rfl ?_
    refine st_len hs rfl (hs.rd0 hb).isSl Try.underlying22 rfl ?_; clear hs w a; intro a w hs
    refine st_guardT hs rfl rfl rfl ?_
    refine st_gtr hs rfl rfl rfl ?_; clear hs w a; intro a w hs
    refine st_pickF hs rfl rfl rfl ?_; clear hs w a; intro a w hs
    refine st_mv hs rfl rfl ?_; clear hs w a; intro a w hs
    refine st_part (b := decide (1000 < (m : Int))) (fun hc13 => ?_) (fun hc13 => ?_)
    · rw [hc13] at hs
      replace hc13 := of_decide_eq_true hc13
      refine st_guardF hs rfl rfl rfl rfl rfl ?_; clear hs w a; intro a w hs
      refine st_guardF hs rfl rfl rfl rfl rfl ?_; clear hs w a; intro a w hs
      refine st_guardF hs rfl rfl rfl rfl rfl ?_; clear hs w a; intro a w hs
      refine st_pickT hs rfl rfl rfl ?_; clear hs w a; intro a w hs
      refine wpList_nil ?_
      refine then_n (hK9 _ _ ?_)
      refine wp_cond_true (hs.ev rfl) ?_
      refine wp_seq_k fun K14 hK15 => ?_
      refine wp_region_lit ?_
      refine st_callP (v := .bool (true)) hs .n Try.call39 (alive07_ok _) rfl ?_; clear hs w a; intro a w hs
      refine st_as hs rfl rfl ?_; clear hs w a; intro a w hs
      refine wpList_nil ?_
      refine then_n (hK15 _ _ ?_)
      refine wp_ret ?_
      refine th_r ?_
      replace hs := hs.drop (.c .z .n)
      exact fin hs rfl rfl ⟨rfl, rfl⟩
    · rw [hc13] at hs
      replace hc13 := of_decide_eq_false hc13
      refine st_guardT hs rfl rfl rfl ?_
      refine st_mv hs rfl rfl ?_; clear hs w a; intro a w hs
      refine st_guardT hs rfl rfl rfl ?_
      refine st_len hs rfl (hs.rd0 hc).isSl Try.underlying51 rfl ?_; clear hs w a; intro a w hs
      refine st_guardT hs rfl rfl rfl ?_
      refine st_gtr hs rfl rfl rfl ?_; clear hs w a; intro a w hs
      refine st_pickF hs rfl rfl rfl ?_; clear hs w a; intro a w hs
      refine wpList_nil ?_
      refine then_n (hK9 _ _ ?_)
      refine wp_if hs rfl (fun hc16 => ?_) (fun hc16 => ?_)
      ·
        replace hc16 := of_decide_eq_true hc16
        refine wp_seq_k fun K17 hK18 => ?_
        refine wp_region_lit ?_
        refine st_callP (v := .bool (true)) hs .n Try.call39 (alive07_ok _) rfl ?_; clear hs w a; intro a w hs
        refine st_as hs rfl rfl ?_; clear hs w a; intro a w hs
        refine wpList_nil ?_
        refine then_n (hK18 _ _ ?_)
        refine wp_ret ?_
        refine th_r ?_
        replace hs := hs.drop (.c .z .n)
        exact fin hs rfl rfl ⟨rfl, rfl⟩
      ·
        replace hc16 := of_decide_eq_false hc16
        refine wp_skip ?_
        refine then_n (hK7 _ _ ?_)
        refine wp_seq_k fun K19 hK20 => ?_
        refine wp_region_lit ?_
        refine st_mv hs rfl rfl ?_; clear hs w a; intro a w hs
        refine st_call hs (.c rfl .n) Try.call41 (.c .z .n) (rbyte_ok  g5 _ _ bs (⟨0, 0⟩ : Rs) _ (hs.mem.rd1 hb (.c .z .n)) (hs.mem.del .z) (by omega)) rfl ?_; clear hs w a; rintro _ _ a w ⟨rfl, rfl⟩ hs; simp only [List.cons_append, List.nil_append] at hs
        have hk21 := rByte_le (bs := bs) (R := (⟨0, 0⟩ : Rs)) (by omega)
        refine wpList_nil ?_
        refine then_n (hK20 _ _ ?_)
        refine wp_seq_k fun K22 hK23 => ?_
        refine wp_region_lit ?_
        refine st_mv hs rfl rfl ?_; clear hs w a; intro a w hs
        refine st_callP (v := .int .i64 ((((((rByte bs (⟨0, 0⟩ : Rs)).2)).p : Nat) : Int))) hs (.c rfl .n) Try.call40 (rat_ok g5 _ _ bs (((rByte bs (⟨0, 0⟩ : Rs)).2)) _ (hs.rd0 hb) (hs.mem.del .z) (by omega)) rfl ?_; clear hs w a; intro a w hs
        refine st_mv hs rfl rfl ?_; clear hs w a; intro a w hs
        refine st_callP (v := .int .i64 ((((((rByte bs (⟨0, 0⟩ : Rs)).2)).e : Nat) : Int))) hs (.c rfl .n) Try.call47 (rerr_ok g5 _ _ bs (((rByte bs (⟨0, 0⟩ : Rs)).2)) _ (hs.rd0 hb) (hs.mem.del .z) (by omega)) rfl ?_; clear hs w a; intro a w hs
        refine st_as hs rfl rfl ?_; clear hs w a; intro a w hs
        refine st_as hs rfl rfl ?_; clear hs w a; intro a w hs
        refine wpList_nil ?_
        refine then_n (hK23 _ _ ?_)
        refine wp_seq_k fun K24 hK25 => ?_
        refine wp_region_lit ?_
        refine st_mv hs rfl rfl ?_; clear hs w a; intro a w hs
        refine st_mv hs rfl rfl ?_; clear hs w a; intro a w hs
        refine st_rem_u8 (X := e) (Y := 18#8) hs rfl rfl rfl (by decide) (by decide) rfl ?_; clear hs w a; intro a w hs
        refine st_cv_i64 hs rfl (bvr (e % (18#8))) Try.underlying5 Try.underlying39 rfl ?_; clear hs w a; intro a w hs
        refine st_call hs (.c rfl (.c rfl .n)) Try.call52 (.c .z .n) (rfail_ok ((e % (18#8)).toNat) g5 _ _ bs (((rByte bs (⟨0, 0⟩ : Rs)).2)) _ (hs.mem.rd1 hb (.c .z .n)) (hs.mem.del .z) (by omega)) rfl ?_; clear hs w a; rintro _ _ a w ⟨rfl, rfl⟩ hs; simp only [List.cons_append, List.nil_append] at hs
        have hk26 := rFail_le (e := (e % (18#8)).toNat) (bs := bs) (R := ((rByte bs (⟨0, 0⟩ : Rs)).2)) (by omega)
        refine wpList_nil ?_
        refine then_n (hK25 _ _ ?_)
        refine wp_seq_k fun K27 hK28 => ?_
        refine wp_seq_k fun K29 hK30 => ?_
        refine wp_region_lit ?_
        refine st_mv hs rfl rfl ?_; clear hs w a; intro a w hs
        refine st_eql hs rfl rfl rfl ?_; clear hs w a; intro a w hs
        refine wpList_nil ?_
        refine then_n (hK30 _ _ ?_)
        refine wp_if hs rfl (fun hc31 => ?_) (fun hc31 => ?_)
        ·
          replace hc31 := eq_of_beq hc31
          refine wp_region_lit ?_
          refine st_mv hs rfl rfl ?_; clear hs w a; intro a w hs
          refine st_rem_u8 (X := e) (Y := 18#8) hs rfl rfl rfl (by decide) (by decide) rfl ?_; clear hs w a; intro a w hs
          refine st_cv_i64 hs rfl (bvr (e % (18#8))) Try.underlying5 Try.underlying39 rfl ?_; clear hs w a; intro a w hs
          refine st_as hs rfl rfl ?_; clear hs w a; intro a w hs
          refine wpList_nil ?_
          refine then_n (hK28 _ _ ?_)
          refine wp_seq_k fun K32 hK33 => ?_
          refine wp_seq_k fun K34 hK35 => ?_
          refine wp_region_lit ?_
          refine st_mv hs rfl rfl ?_; clear hs w a; intro a w hs
          refine st_eql hs rfl rfl rfl ?_; clear hs w a; intro a w hs
          refine wpList_nil ?_
          refine then_n (hK35 _ _ ?_)
          refine wp_if hs rfl (fun hc36 => ?_) (fun hc36 => ?_)
          ·
            replace hc36 := eq_of_beq hc36
            refine wp_seq_k fun K37 hK38 => ?_
            refine wp_region_lit ?_
            refine st_mv hs rfl rfl ?_; clear hs w a; intro a w hs
            refine st_callP (v := .int .i64 ((((((rFail ((e % (18#8)).toNat) (((rByte bs (⟨0, 0⟩ : Rs)).2))))).e : Nat) : Int))) hs (.c rfl .n) Try.call47 (rerr_ok g5 _ _ bs (((rFail ((e % (18#8)).toNat) (((rByte bs (⟨0, 0⟩ : Rs)).2))))) _ (hs.rd0 hb) (hs.mem.del .z) (by omega)) rfl ?_; clear hs w a; intro a w hs
            refine st_eql hs rfl rfl rfl ?_; clear hs w a; intro a w hs
            have hb_ : (((((((rFail ((e % (18#8)).toNat) (((rByte bs (⟨0, 0⟩ : Rs)).2))))).e : Nat) : Int) : Int) == 0) = true := by rw [beq_iff_eq]; omega
            rw [hb_] at hs; clear hb_
            refine st_as hs rfl rfl ?_; clear hs w a; intro a w hs
            refine wpList_nil ?_
            refine then_n (hK38 _ _ ?_)
            refine wp_ret ?_
            refine th_r ?_
            replace hs := hs.drop (.c .z .n)
            exact fin hs rfl rfl ⟨rfl, rfl⟩
          ·
            replace hc36 := ne_of_beq_f hc36
            refine wp_skip ?_
            refine then_n (hK33 _ _ ?_)
            refine wp_seq_k fun K39 hK40 => ?_
            refine wp_seq_k fun K41 hK42 => ?_
            refine wp_region_lit ?_
            refine st_mv hs rfl rfl ?_; clear hs w a; intro a w hs
            refine st_len hs rfl (hs.rd0 hc).isSl Try.underlying51 rfl ?_; clear hs w a; intro a w hs
            refine st_mv hs rfl rfl ?_; clear hs w a; intro a w hs
            refine wpList_nil ?_
            refine then_n (hK42 _ _ ?_)
            refine wp_block ?_
            refine wp_loopI (fun mm_ a w => ∃ j : Nat, ∃ R : Rs, mm_ = m2 - j ∧ St 111 [(0, v), (7, .pointer (some ⟨g5, 0, none⟩)), (8, .int .i64 ((((((rByte bs (⟨0, 0⟩ : Rs)).2)).p : Nat) : Int))), (9, .int .i64 ((((e % (18#8)).toNat : Nat) : Int))), (52, u), (53, .int .i64 ((m2 : Int))), (54, .int .i64 ((j : Int)))] w0 [] [blk g5 [v, .int .i64 (((R.p : Nat) : Int)), .int .i64 (((R.e : Nat) : Int))] 76] a w ∧ j ≤ m2 ∧ R.p ≤ bs.length ∧ R.p = (rFail (e % 18#8).toNat (rByte bs (⟨0, 0⟩ : Rs)).2).p ∧ R.e = (rFail (e % 18#8).toNat (rByte bs (⟨0, 0⟩ : Rs)).2).e ∧ R.e ≠ 0) ⟨0, (rFail (e % 18#8).toNat (rByte bs (⟨0, 0⟩ : Rs)).2), rfl, hs.sub (.c rfl (.c rfl (.c rfl (.c rfl (.c rfl (.c rfl (.c rfl .n))))))), by omega, by omega, rfl, rfl, by omega⟩ ?_
            clear hs w a; rintro mm_ a w ⟨j, R, rfl, hs, hI1_0, hI1_1, hI1_2, hI1_3, hI1_4⟩
            refine wp_seq_k fun K43 hK44 => ?_
            refine wp_region_lit ?_
            refine st_lss hs rfl rfl rfl ?_; clear hs w a; intro a w hs
            refine wpList_nil ?_
            refine then_n (hK44 _ _ ?_)
            refine wp_seq_k fun K45 hK46 => ?_
            refine wp_if hs rfl (fun hc47 => ?_) (fun hc47 => ?_)
            ·
              replace hc47 := of_decide_eq_true hc47
              refine wp_skip ?_
              refine then_n (hK46 _ _ ?_)
              refine wp_seq_k fun K48 hK49 => ?_
              refine wp_block ?_
              refine wp_seq_k fun K50 hK51 => ?_
              refine wp_region_lit ?_
              refine st_ia (j := j) hs rfl rfl (hs.rd0 hc) rfl (by omega) Try.underlying51 Try.sizeOf55 rfl ?_; clear hs w a; intro a w hs
              refine st_ldA (cs := actV (l.getD j default)) hs rfl (hs.rd0 hc) (flat_get actV_len l j (by omega)) (by rw [flat_len actV_len]; omega) (by omega) Try.isAgg55 Try.sizeOf55 rfl ?_; clear hs w a; intro a w hs
              refine st_alloc (cs := [.int .i64 (0), .int .u64 (0), .int .u8 (0)]) hs Try.zeroValue55 rfl rfl ?_; clear hs w a; intro g52 a w hs
              refine st_stBA hs rfl rfl .z (.z (.c (.c (.c .n)))) (ones_c rfl (ones_c rfl (ones_c rfl ones_n))) Try.sizeOf55 rfl ?_; clear hs w a; intro a w hs
              refine wpList_nil ?_
              refine then_n (hK51 _ _ ?_)
              refine wp_seq_k fun K53 hK54 => ?_
              refine wp_seq_k fun K55 hK56 => ?_
              refine wp_region_lit ?_
              refine st_mv hs rfl rfl ?_; clear hs w a; intro a w hs
              refine st_call hs (.c rfl .n) Try.call41 (.c (.s .z) .n) (rbyte_ok  g5 _ _ bs R _ (hs.mem.rd1 hb (.c (.s .z) .n)) (hs.mem.del (.s .z)) (by omega)) rfl ?_; clear hs w a; rintro _ _ a w ⟨rfl, rfl⟩ hs; simp only [List.cons_append, List.nil_append] at hs
              have hk57 := rByte_le (bs := bs) (R := R) (by omega)
              have hk58 := rByte_stay (bs := bs) (R := R) (by omega)
              refine st_neq hs rfl rfl rfl ?_; clear hs w a; intro a w hs
              have hb_ : (!((((((rByte bs R).1).toNat : Nat) : Int) : Int) == 0)) = false := by rw [Bool.not_eq_false', beq_iff_eq]; omega
              rw [hb_] at hs; clear hb_
              refine st_mv hs rfl rfl ?_; clear hs w a; intro a w hs
              refine st_guardT hs rfl rfl rfl ?_
              refine st_mv hs rfl rfl ?_; clear hs w a; intro a w hs
              refine st_guardT hs rfl rfl rfl ?_
              refine st_fa hs rfl Try.underlying55 rfl Try.sizeOf35 (by decide) (o := 1) rfl rfl ?_; clear hs w a; intro a w hs
              refine st_guardT hs rfl rfl rfl ?_
              refine st_ldB hs rfl (.s .z) (.s .z) Try.isAgg35 rfl ?_; clear hs w a; intro a w hs
              refine st_guardT hs rfl rfl rfl ?_
              refine st_call hs (.c rfl (.c rfl .n)) Try.call42 (.c .z .n) (ruint_ok ((l.getD j default).m) g5 _ _ bs (((rByte bs R).2)) _ (hs.mem.rd1 hb (.c .z .n)) (hs.mem.del .z) (by omega)) rfl ?_; clear hs w a; rintro _ _ a w ⟨rfl, rfl⟩ hs; simp only [List.cons_append, List.nil_append] at hs
              have hk59 := rUint_le (X := (l.getD j default).m) (bs := bs) (R := ((rByte bs R).2)) (by omega)
              have hk60 := rUint_stay (X := (l.getD j default).m) (bs := bs) (R := ((rByte bs R).2)) (by omega)
              refine st_guardT hs rfl rfl rfl ?_
              refine st_neq hs rfl rfl rfl ?_; clear hs w a; intro a w hs
              have hb_ : (!((((((rUint bs ((l.getD j default).m) (((rByte bs R).2))).1).toNat : Nat) : Int) : Int) == 0)) = false := by rw [Bool.not_eq_false', beq_iff_eq]; omega
              rw [hb_] at hs; clear hb_
              refine st_pickF hs rfl rfl rfl ?_; clear hs w a; intro a w hs
              refine st_mv hs rfl rfl ?_; clear hs w a; intro a w hs
              refine st_guardT hs rfl rfl rfl ?_
              refine st_mv hs rfl rfl ?_; clear hs w a; intro a w hs
              refine st_guardT hs rfl rfl rfl ?_
              refine st_call hs (.c rfl .n) Try.call43 (.c .z .n) (rint_ok  g5 _ _ bs (((rUint bs ((l.getD j default).m) (((rByte bs R).2))).2)) _ (hs.mem.rd1 hb (.c .z .n)) (hs.mem.del .z) (by omega)) rfl ?_; clear hs w a; rintro _ _ a w ⟨rfl, rfl⟩ hs; simp only [List.cons_append, List.nil_append] at hs
              have hk61 := rInt_le (bs := bs) (R := ((rUint bs ((l.getD j default).m) (((rByte bs R).2))).2)) (by omega)
              have hk62 := rInt_stay (bs := bs) (R := ((rUint bs ((l.getD j default).m) (((rByte bs R).2))).2)) (by omega)
              refine st_guardT hs rfl rfl rfl ?_
              refine st_neq hs rfl rfl rfl ?_; clear hs w a; intro a w hs
              have hb_ : (!(((rInt bs (((rUint bs ((l.getD j default).m) (((rByte bs R).2))).2))).1 : Int) == 0)) = false := by rw [Bool.not_eq_false', beq_iff_eq]; omega
              rw [hb_] at hs; clear hb_
              refine st_pickF hs rfl rfl rfl ?_; clear hs w a; intro a w hs
              refine st_mv hs rfl rfl ?_; clear hs w a; intro a w hs
              refine st_guardT hs rfl rfl rfl ?_
              refine st_mv hs rfl rfl ?_; clear hs w a; intro a w hs
              refine st_guardT hs rfl rfl rfl ?_
              refine st_call hs (.c rfl .n) Try.call44 (.c .z .n) (rvec_ok  g5 _ _ bs (((rInt bs (((rUint bs ((l.getD j default).m) (((rByte bs R).2))).2))).2)) _ (hs.mem.rd1 hb (.c .z .n)) (hs.mem.del .z) (by omega)) rfl ?_; clear hs w a; rintro _ _ a w ⟨rfl, rfl⟩ hs; simp only [List.cons_append, List.nil_append] at hs
              have hk63 := rVec_le' (bs := bs) (R := ((rInt bs (((rUint bs ((l.getD j default).m) (((rByte bs R).2))).2))).2)) (by omega)
              have hk64 := rVec_stay (bs := bs) (R := ((rInt bs (((rUint bs ((l.getD j default).m) (((rByte bs R).2))).2))).2)) (by omega)
              refine st_guardT hs rfl rfl rfl ?_
              refine st_buildA (it := Try.t60) (ie := Try.t2) (zs := [.int .i64 (0), .int .i64 (0), .int .i64 (0)]) (sz := 1) hs .n Try.underlying60 rfl rfl rfl rfl rfl .n rfl ?_; clear hs w a; intro a w hs
              refine st_guardT hs rfl rfl rfl ?_
              refine st_neq3 hs rfl rfl (by kernel_rfl) Try.underlying60 Try.underlying2 Try.sizeOf2 Try.isAgg2 rfl ?_; clear hs w a; intro a w hs
              have hb_ : (!(((rInt bs (((rInt bs (((rUint bs ((l.getD j default).m) (((rByte bs R).2))).2))).2))).1 : Int) == 0 && ((rInt bs (rInt bs (((rInt bs (((rUint bs ((l.getD j default).m) (((rByte bs R).2))).2))).2))).2).1 : Int) == 0 && ((rInt bs (rInt bs (rInt bs (((rInt bs (((rUint bs ((l.getD j default).m) (((rByte bs R).2))).2))).2))).2).2).1 : Int) == 0)) = false := by rw [Bool.not_eq_false', Bool.and_eq_true, Bool.and_eq_true, beq_iff_eq, beq_iff_eq, beq_iff_eq]; omega
              rw [hb_] at hs; clear hb_
              refine st_pickF hs rfl rfl rfl ?_; clear hs w a; intro a w hs
              refine wpList_nil ?_
              refine then_n (hK56 _ _ ?_)
              refine wp_cond_false (hs.ev rfl) ?_
              refine wp_skip ?_
              refine then_n (hK54 _ _ ?_)
              refine wp_region_lit ?_
              refine st_mv hs rfl rfl ?_; clear hs w a; intro a w hs
              refine st_fa hs rfl Try.underlying55 rfl Try.sizeOf5 (by decide) (o := 2) rfl rfl ?_; clear hs w a; intro a w hs
              refine st_ldB hs rfl (.s .z) (.s (.s .z)) Try.isAgg5 rfl ?_; clear hs w a; intro a w hs
              refine st_rem_u8 (X := (l.getD j default).e) (Y := 18#8) hs rfl rfl rfl (by decide) (by decide) rfl ?_; clear hs w a; intro a w hs
              refine st_cv_i64 hs rfl (bvr (((l.getD j default).e) % (18#8))) Try.underlying5 Try.underlying39 rfl ?_; clear hs w a; intro a w hs
              refine st_call hs (.c rfl (.c rfl .n)) Try.call52 (.c .z .n) (rfail_ok ((((l.getD j default).e) % (18#8)).toNat) g5 _ _ bs (((rInt bs (rInt bs (rInt bs ((((rInt bs (((rUint bs ((l.getD j default).m) (((rByte bs R).2))).2))).2)))).2).2).2)) _ (hs.mem.rd1 hb (.c .z .n)) (hs.mem.del .z) (by omega)) rfl ?_; clear hs w a; rintro _ _ a w ⟨rfl, rfl⟩ hs; simp only [List.cons_append, List.nil_append] at hs
              have hk65 := rFail_le (e := (((l.getD j default).e) % (18#8)).toNat) (bs := bs) (R := ((rInt bs (rInt bs (rInt bs ((((rInt bs (((rUint bs ((l.getD j default).m) (((rByte bs R).2))).2))).2)))).2).2).2)) (by omega)
              have hk66 := rFail_stay (e := (((l.getD j default).e) % (18#8)).toNat) (bs := bs) (R := ((rInt bs (rInt bs (rInt bs ((((rInt bs (((rUint bs ((l.getD j default).m) (((rByte bs R).2))).2))).2)))).2).2).2)) (by omega)
              refine wpList_nil ?_
              refine in_n ?_
              refine then_n (hK49 _ _ ?_)
              refine wp_region_lit ?_
              refine st_addR hs rfl rfl (by omega) rfl ?_; clear hs w a; intro a w hs
              refine st_mv hs rfl rfl ?_; clear hs w a; intro a w hs
              refine wpList_nil ?_
              refine then_n ?_
              replace hs := hs.drop (.c (.s .z) .n)
              refine ⟨_, ?_, j + 1, ((rFail ((((l.getD j default).e) % (18#8)).toNat) (((rInt bs (rInt bs (rInt bs ((((rInt bs (((rUint bs ((l.getD j default).m) (((rByte bs R).2))).2))).2)))).2).2).2)))), rfl, hs.sub (.c rfl (.c rfl (.c rfl (.c rfl (.c rfl (.c rfl (.c rfl .n))))))), by omega, by omega, by omega, by omega, by omega⟩
              omega
            ·
              replace hc47 := of_decide_eq_false hc47
              refine wp_exit ?_
              refine th_e ?_
              refine th_e ?_
              refine in_hit ?_
              refine then_n (hK40 _ _ ?_)
              refine wp_seq_k fun K67 hK68 => ?_
              refine wp_region_lit ?_
              refine st_mv hs rfl rfl ?_; clear hs w a; intro a w hs
              refine st_callP (v := .int .i64 (((R.e : Nat) : Int))) hs (.c rfl .n) Try.call47 (rerr_ok g5 _ _ bs R _ (hs.rd0 hb) (hs.mem.del .z) (by omega)) rfl ?_; clear hs w a; intro a w hs
              refine st_mv hs rfl rfl ?_; clear hs w a; intro a w hs
              refine st_eql hs rfl rfl rfl ?_; clear hs w a; intro a w hs
              have hb_ : ((((R.e : Nat) : Int) : Int) == ((((e % (18#8)).toNat : Nat) : Int))) = true := by rw [beq_iff_eq]; omega
              rw [hb_] at hs; clear hb_
              refine st_mv hs rfl rfl ?_; clear hs w a; intro a w hs
              refine st_guardT hs rfl rfl rfl ?_
              refine st_mv hs rfl rfl ?_; clear hs w a; intro a w hs
              refine st_guardT hs rfl rfl rfl ?_
              refine st_callP (v := .int .i64 ((((rDone bs R) : Nat) : Int))) hs (.c rfl .n) Try.call46 (rdone_ok g5 _ _ bs R _ (hs.rd0 hb) (hs.mem.del .z) (by omega)) rfl ?_; clear hs w a; intro a w hs
              refine st_guardT hs rfl rfl rfl ?_
              refine st_mv hs rfl rfl ?_; clear hs w a; intro a w hs
              refine st_guardT hs rfl rfl rfl ?_
              refine st_eql hs rfl rfl rfl ?_; clear hs w a; intro a w hs
              have hb_ : (((((rDone bs R) : Nat) : Int) : Int) == ((((e % (18#8)).toNat : Nat) : Int))) = true := by unfold rDone; rw [if_pos (by omega), beq_iff_eq]; omega
              rw [hb_] at hs; clear hb_
              refine st_pickT hs rfl rfl rfl ?_; clear hs w a; intro a w hs
              refine st_mv hs rfl rfl ?_; clear hs w a; intro a w hs
              refine st_guardT hs rfl rfl rfl ?_
              refine st_mv hs rfl rfl ?_; clear hs w a; intro a w hs
              refine st_guardT hs rfl rfl rfl ?_
              refine st_callP (v := .int .i64 (((R.p : Nat) : Int))) hs (.c rfl .n) Try.call40 (rat_ok g5 _ _ bs R _ (hs.rd0 hb) (hs.mem.del .z) (by omega)) rfl ?_; clear hs w a; intro a w hs
              refine st_guardT hs rfl rfl rfl ?_
              refine st_mv hs rfl rfl ?_; clear hs w a; intro a w hs
              refine st_guardT hs rfl rfl rfl ?_
              refine st_eql hs rfl rfl rfl ?_; clear hs w a; intro a w hs
              have hb_ : ((((R.p : Nat) : Int) : Int) == ((((((rByte bs (⟨0, 0⟩ : Rs)).2)).p : Nat) : Int))) = true := by rw [beq_iff_eq]; omega
              rw [hb_] at hs; clear hb_
              refine st_pickT hs rfl rfl rfl ?_; clear hs w a; intro a w hs
              refine st_mv hs rfl rfl ?_; clear hs w a; intro a w hs
              refine st_guardT hs rfl rfl rfl ?_
              refine st_mv hs rfl rfl ?_; clear hs w a; intro a w hs
              refine st_guardT hs rfl rfl rfl ?_
              refine st_callP (v := .int .i64 ((((bs.length - R.p) : Nat) : Int))) hs (.c rfl .n) Try.call45 (rleft_ok g5 _ _ bs R _ (hs.rd0 hb) (hs.mem.del .z) (by omega)) rfl ?_; clear hs w a; intro a w hs
              refine st_guardT hs rfl rfl rfl ?_
              refine st_mv hs rfl rfl ?_; clear hs w a; intro a w hs
              refine st_guardT hs rfl rfl rfl ?_
              refine st_len hs rfl (hs.rd0 hb).isSl Try.underlying22 rfl ?_; clear hs w a; intro a w hs
              refine st_guardT hs rfl rfl rfl ?_
              refine st_mv hs rfl rfl ?_; clear hs w a; intro a w hs
              refine st_guardT hs rfl rfl rfl ?_
              refine st_subR hs rfl rfl (by omega) rfl ?_; clear hs w a; intro a w hs
              refine st_guardT hs rfl rfl rfl ?_
              refine st_eql hs rfl rfl rfl ?_; clear hs w a; intro a w hs
              have hb_ : (((((bs.length - R.p) : Nat) : Int) : Int) == ((m : Int) - ((((((rByte bs (⟨0, 0⟩ : Rs)).2)).p : Nat) : Int)))) = true := by rw [beq_iff_eq]; omega
              rw [hb_] at hs; clear hb_
              refine st_pickT hs rfl rfl rfl ?_; clear hs w a; intro a w hs
              refine st_as hs rfl rfl ?_; clear hs w a; intro a w hs
              refine wpList_nil ?_
              refine then_n (hK68 _ _ ?_)
              refine wp_ret ?_
              replace hs := hs.drop (.c .z .n)
              exact fin hs rfl rfl ⟨rfl, rfl⟩
        ·
          replace hc31 := ne_of_beq_f hc31
          refine wp_skip ?_
          refine then_n (hK28 _ _ ?_)
          refine wp_seq_k fun K69 hK70 => ?_
          refine wp_seq_k fun K71 hK72 => ?_
          refine wp_region_lit ?_
          refine st_mv hs rfl rfl ?_; clear hs w a; intro a w hs
          refine st_eql hs rfl rfl rfl ?_; clear hs w a; intro a w hs
          refine wpList_nil ?_
          refine then_n (hK72 _ _ ?_)
          refine wp_if hs rfl (fun hc73 => ?_) (fun hc73 => ?_)
          ·
            replace hc73 := eq_of_beq hc73
            refine wp_seq_k fun K74 hK75 => ?_
            refine wp_region_lit ?_
            refine st_mv hs rfl rfl ?_; clear hs w a; intro a w hs
            refine st_callP (v := .int .i64 ((((((rFail ((e % (18#8)).toNat) (((rByte bs (⟨0, 0⟩ : Rs)).2))))).e : Nat) : Int))) hs (.c rfl .n) Try.call47 (rerr_ok g5 _ _ bs (((rFail ((e % (18#8)).toNat) (((rByte bs (⟨0, 0⟩ : Rs)).2))))) _ (hs.rd0 hb) (hs.mem.del .z) (by omega)) rfl ?_; clear hs w a; intro a w hs
            refine st_eql hs rfl rfl rfl ?_; clear hs w a; intro a w hs
            have hb_ : (((((((rFail ((e % (18#8)).toNat) (((rByte bs (⟨0, 0⟩ : Rs)).2))))).e : Nat) : Int) : Int) == 0) = true := by rw [beq_iff_eq]; omega
            rw [hb_] at hs; clear hb_
            refine st_as hs rfl rfl ?_; clear hs w a; intro a w hs
            refine wpList_nil ?_
            refine then_n (hK75 _ _ ?_)
            refine wp_ret ?_
            refine th_r ?_
            replace hs := hs.drop (.c .z .n)
            exact fin hs rfl rfl ⟨rfl, rfl⟩
          ·
            replace hc73 := ne_of_beq_f hc73
            refine wp_skip ?_
            refine then_n (hK70 _ _ ?_)
            refine wp_seq_k fun K76 hK77 => ?_
            refine wp_seq_k fun K78 hK79 => ?_
            refine wp_region_lit ?_
            refine st_mv hs rfl rfl ?_; clear hs w a; intro a w hs
            refine st_len hs rfl (hs.rd0 hc).isSl Try.underlying51 rfl ?_; clear hs w a; intro a w hs
            refine st_mv hs rfl rfl ?_; clear hs w a; intro a w hs
            refine wpList_nil ?_
            refine then_n (hK79 _ _ ?_)
            refine wp_block ?_
            refine wp_loopI (fun mm_ a w => ∃ j : Nat, ∃ R : Rs, mm_ = m2 - j ∧ St 111 [(0, v), (7, .pointer (some ⟨g5, 0, none⟩)), (8, .int .i64 ((((((rByte bs (⟨0, 0⟩ : Rs)).2)).p : Nat) : Int))), (9, .int .i64 ((((((rByte bs (⟨0, 0⟩ : Rs)).2)).e : Nat) : Int))), (52, u), (53, .int .i64 ((m2 : Int))), (54, .int .i64 ((j : Int)))] w0 [] [blk g5 [v, .int .i64 (((R.p : Nat) : Int)), .int .i64 (((R.e : Nat) : Int))] 76] a w ∧ j ≤ m2 ∧ R.p ≤ bs.length ∧ R.p = (rFail (e % 18#8).toNat (rByte bs (⟨0, 0⟩ : Rs)).2).p ∧ R.e = (rFail (e % 18#8).toNat (rByte bs (⟨0, 0⟩ : Rs)).2).e ∧ R.e ≠ 0) ⟨0, (rFail (e % 18#8).toNat (rByte bs (⟨0, 0⟩ : Rs)).2), rfl, hs.sub (.c rfl (.c rfl (.c rfl (.c rfl (.c rfl (.c rfl (.c rfl .n))))))), by omega, by omega, rfl, rfl, by omega⟩ ?_
            clear hs w a; rintro mm_ a w ⟨j, R, rfl, hs, hI1_0, hI1_1, hI1_2, hI1_3, hI1_4⟩
            refine wp_seq_k fun K80 hK81 => ?_
            refine wp_region_lit ?_
            refine st_lss hs rfl rfl rfl ?_; clear hs w a; intro a w hs
            refine wpList_nil ?_
            refine then_n (hK81 _ _ ?_)
            refine wp_seq_k fun K82 hK83 => ?_
            refine wp_if hs rfl (fun hc84 => ?_) (fun hc84 => ?_)
            ·
              replace hc84 := of_decide_eq_true hc84
              refine wp_skip ?_
              refine then_n (hK83 _ _ ?_)
              refine wp_seq_k fun K85 hK86 => ?_
              refine wp_block ?_
              refine wp_seq_k fun K87 hK88 => ?_
              refine wp_region_lit ?_
              refine st_ia (j := j) hs rfl rfl (hs.rd0 hc) rfl (by omega) Try.underlying51 Try.sizeOf55 rfl ?_; clear hs w a; intro a w hs
              refine st_ldA (cs := actV (l.getD j default)) hs rfl (hs.rd0 hc) (flat_get actV_len l j (by omega)) (by rw [flat_len actV_len]; omega) (by omega) Try.isAgg55 Try.sizeOf55 rfl ?_; clear hs w a; intro a w hs
              refine st_alloc (cs := [.int .i64 (0), .int .u64 (0), .int .u8 (0)]) hs Try.zeroValue55 rfl rfl ?_; clear hs w a; intro g89 a w hs
              refine st_stBA hs rfl rfl .z (.z (.c (.c (.c .n)))) (ones_c rfl (ones_c rfl (ones_c rfl ones_n))) Try.sizeOf55 rfl ?_; clear hs w a; intro a w hs
              refine wpList_nil ?_
              refine then_n (hK88 _ _ ?_)
              refine wp_seq_k fun K90 hK91 => ?_
              refine wp_seq_k fun K92 hK93 => ?_
              refine wp_region_lit ?_
              refine st_mv hs rfl rfl ?_; clear hs w a; intro a w hs
              refine st_call hs (.c rfl .n) Try.call41 (.c (.s .z) .n) (rbyte_ok  g5 _ _ bs R _ (hs.mem.rd1 hb (.c (.s .z) .n)) (hs.mem.del (.s .z)) (by omega)) rfl ?_; clear hs w a; rintro _ _ a w ⟨rfl, rfl⟩ hs; simp only [List.cons_append, List.nil_append] at hs
              have hk94 := rByte_le (bs := bs) (R := R) (by omega)
              have hk95 := rByte_stay (bs := bs) (R := R) (by omega)
              refine st_neq hs rfl rfl rfl ?_; clear hs w a; intro a w hs
              have hb_ : (!((((((rByte bs R).1).toNat : Nat) : Int) : Int) == 0)) = false := by rw [Bool.not_eq_false', beq_iff_eq]; omega
              rw [hb_] at hs; clear hb_
              refine st_mv hs rfl rfl ?_; clear hs w a; intro a w hs
              refine st_guardT hs rfl rfl rfl ?_
              refine st_mv hs rfl rfl ?_; clear hs w a; intro a w hs
              refine st_guardT hs rfl rfl rfl ?_
              refine st_fa hs rfl Try.underlying55 rfl Try.sizeOf35 (by decide) (o := 1) rfl rfl ?_; clear hs w a; intro a w hs
              refine st_guardT hs rfl rfl rfl ?_
              refine st_ldB hs rfl (.s .z) (.s .z) Try.isAgg35 rfl ?_; clear hs w a; intro a w hs
              refine st_guardT hs rfl rfl rfl ?_
              refine st_call hs (.c rfl (.c rfl .n)) Try.call42 (.c .z .n) (ruint_ok ((l.getD j default).m) g5 _ _ bs (((rByte bs R).2)) _ (hs.mem.rd1 hb (.c .z .n)) (hs.mem.del .z) (by omega)) rfl ?_; clear hs w a; rintro _ _ a w ⟨rfl, rfl⟩ hs; simp only [List.cons_append, List.nil_append] at hs
              have hk96 := rUint_le (X := (l.getD j default).m) (bs := bs) (R := ((rByte bs R).2)) (by omega)
              have hk97 := rUint_stay (X := (l.getD j default).m) (bs := bs) (R := ((rByte bs R).2)) (by omega)
              refine st_guardT hs rfl rfl rfl ?_
              refine st_neq hs rfl rfl rfl ?_; clear hs w a; intro a w hs
              have hb_ : (!((((((rUint bs ((l.getD j default).m) (((rByte bs R).2))).1).toNat : Nat) : Int) : Int) == 0)) = false := by rw [Bool.not_eq_false', beq_iff_eq]; omega
              rw [hb_] at hs; clear hb_
              refine st_pickF hs rfl rfl rfl ?_; clear hs w a; intro a w hs
              refine st_mv hs rfl rfl ?_; clear hs w a; intro a w hs
              refine st_guardT hs rfl rfl rfl ?_
              refine st_mv hs rfl rfl ?_; clear hs w a; intro a w hs
              refine st_guardT hs rfl rfl rfl ?_
              refine st_call hs (.c rfl .n) Try.call43 (.c .z .n) (rint_ok  g5 _ _ bs (((rUint bs ((l.getD j default).m) (((rByte bs R).2))).2)) _ (hs.mem.rd1 hb (.c .z .n)) (hs.mem.del .z) (by omega)) rfl ?_; clear hs w a; rintro _ _ a w ⟨rfl, rfl⟩ hs; simp only [List.cons_append, List.nil_append] at hs
              have hk98 := rInt_le (bs := bs) (R := ((rUint bs ((l.getD j default).m) (((rByte bs R).2))).2)) (by omega)
              have hk99 := rInt_stay (bs := bs) (R := ((rUint bs ((l.getD j default).m) (((rByte bs R).2))).2)) (by omega)
              refine st_guardT hs rfl rfl rfl ?_
              refine st_neq hs rfl rfl rfl ?_; clear hs w a; intro a w hs
              have hb_ : (!(((rInt bs (((rUint bs ((l.getD j default).m) (((rByte bs R).2))).2))).1 : Int) == 0)) = false := by rw [Bool.not_eq_false', beq_iff_eq]; omega
              rw [hb_] at hs; clear hb_
              refine st_pickF hs rfl rfl rfl ?_; clear hs w a; intro a w hs
              refine st_mv hs rfl rfl ?_; clear hs w a; intro a w hs
              refine st_guardT hs rfl rfl rfl ?_
              refine st_mv hs rfl rfl ?_; clear hs w a; intro a w hs
              refine st_guardT hs rfl rfl rfl ?_
              refine st_call hs (.c rfl .n) Try.call44 (.c .z .n) (rvec_ok  g5 _ _ bs (((rInt bs (((rUint bs ((l.getD j default).m) (((rByte bs R).2))).2))).2)) _ (hs.mem.rd1 hb (.c .z .n)) (hs.mem.del .z) (by omega)) rfl ?_; clear hs w a; rintro _ _ a w ⟨rfl, rfl⟩ hs; simp only [List.cons_append, List.nil_append] at hs
              have hk100 := rVec_le' (bs := bs) (R := ((rInt bs (((rUint bs ((l.getD j default).m) (((rByte bs R).2))).2))).2)) (by omega)
              have hk101 := rVec_stay (bs := bs) (R := ((rInt bs (((rUint bs ((l.getD j default).m) (((rByte bs R).2))).2))).2)) (by omega)
              refine st_guardT hs rfl rfl rfl ?_
              refine st_buildA (it := Try.t60) (ie := Try.t2) (zs := [.int .i64 (0), .int .i64 (0), .int .i64 (0)]) (sz := 1) hs .n Try.underlying60 rfl rfl rfl rfl rfl .n rfl ?_; clear hs w a; intro a w hs
              refine st_guardT hs rfl rfl rfl ?_
              refine st_neq3 hs rfl rfl (by kernel_rfl) Try.underlying60 Try.underlying2 Try.sizeOf2 Try.isAgg2 rfl ?_; clear hs w a; intro a w hs
              have hb_ : (!(((rInt bs (((rInt bs (((rUint bs ((l.getD j default).m) (((rByte bs R).2))).2))).2))).1 : Int) == 0 && ((rInt bs (rInt bs (((rInt bs (((rUint bs ((l.getD j default).m) (((rByte bs R).2))).2))).2))).2).1 : Int) == 0 && ((rInt bs (rInt bs (rInt bs (((rInt bs (((rUint bs ((l.getD j default).m) (((rByte bs R).2))).2))).2))).2).2).1 : Int) == 0)) = false := by rw [Bool.not_eq_false', Bool.and_eq_true, Bool.and_eq_true, beq_iff_eq, beq_iff_eq, beq_iff_eq]; omega
              rw [hb_] at hs; clear hb_
              refine st_pickF hs rfl rfl rfl ?_; clear hs w a; intro a w hs
              refine wpList_nil ?_
              refine then_n (hK93 _ _ ?_)
              refine wp_cond_false (hs.ev rfl) ?_
              refine wp_skip ?_
              refine then_n (hK91 _ _ ?_)
              refine wp_region_lit ?_
              refine st_mv hs rfl rfl ?_; clear hs w a; intro a w hs
              refine st_fa hs rfl Try.underlying55 rfl Try.sizeOf5 (by decide) (o := 2) rfl rfl ?_; clear hs w a; intro a w hs
              refine st_ldB hs rfl (.s .z) (.s (.s .z)) Try.isAgg5 rfl ?_; clear hs w a; intro a w hs
              refine st_rem_u8 (X := (l.getD j default).e) (Y := 18#8) hs rfl rfl rfl (by decide) (by decide) rfl ?_; clear hs w a; intro a w hs
              refine st_cv_i64 hs rfl (bvr (((l.getD j default).e) % (18#8))) Try.underlying5 Try.underlying39 rfl ?_; clear hs w a; intro a w hs
              refine st_call hs (.c rfl (.c rfl .n)) Try.call52 (.c .z .n) (rfail_ok ((((l.getD j default).e) % (18#8)).toNat) g5 _ _ bs (((rInt bs (rInt bs (rInt bs ((((rInt bs (((rUint bs ((l.getD j default).m) (((rByte bs R).2))).2))).2)))).2).2).2)) _ (hs.mem.rd1 hb (.c .z .n)) (hs.mem.del .z) (by omega)) rfl ?_; clear hs w a; rintro _ _ a w ⟨rfl, rfl⟩ hs; simp only [List.cons_append, List.nil_append] at hs
              have hk102 := rFail_le (e := (((l.getD j default).e) % (18#8)).toNat) (bs := bs) (R := ((rInt bs (rInt bs (rInt bs ((((rInt bs (((rUint bs ((l.getD j default).m) (((rByte bs R).2))).2))).2)))).2).2).2)) (by omega)
              have hk103 := rFail_stay (e := (((l.getD j default).e) % (18#8)).toNat) (bs := bs) (R := ((rInt bs (rInt bs (rInt bs ((((rInt bs (((rUint bs ((l.getD j default).m) (((rByte bs R).2))).2))).2)))).2).2).2)) (by omega)
              refine wpList_nil ?_
              refine in_n ?_
              refine then_n (hK86 _ _ ?_)
              refine wp_region_lit ?_
              refine st_addR hs rfl rfl (by omega) rfl ?_; clear hs w a; intro a w hs
              refine st_mv hs rfl rfl ?_; clear hs w a; intro a w hs
              refine wpList_nil ?_
              refine then_n ?_
              replace hs := hs.drop (.c (.s .z) .n)
              refine ⟨_, ?_, j + 1, ((rFail ((((l.getD j default).e) % (18#8)).toNat) (((rInt bs (rInt bs (rInt bs ((((rInt bs (((rUint bs ((l.getD j default).m) (((rByte bs R).2))).2))).2)))).2).2).2)))), rfl, hs.sub (.c rfl (.c rfl (.c rfl (.c rfl (.c rfl (.c rfl (.c rfl .n))))))), by omega, by omega, by omega, by omega, by omega⟩
              omega
            ·
              replace hc84 := of_decide_eq_false hc84
              refine wp_exit ?_
              refine th_e ?_
              refine th_e ?_
              refine in_hit ?_
              refine then_n (hK77 _ _ ?_)
              refine wp_seq_k fun K104 hK105 => ?_
              refine wp_region_lit ?_
              refine st_mv hs rfl rfl ?_; clear hs w a; intro a w hs
              refine st_callP (v := .int .i64 (((R.e : Nat) : Int))) hs (.c rfl .n) Try.call47 (rerr_ok g5 _ _ bs R _ (hs.rd0 hb) (hs.mem.del .z) (by omega)) rfl ?_; clear hs w a; intro a w hs
              refine st_mv hs rfl rfl ?_; clear hs w a; intro a w hs
              refine st_eql hs rfl rfl rfl ?_; clear hs w a; intro a w hs
              have hb_ : ((((R.e : Nat) : Int) : Int) == ((((((rByte bs (⟨0, 0⟩ : Rs)).2)).e : Nat) : Int))) = true := by rw [beq_iff_eq]; omega
              rw [hb_] at hs; clear hb_
              refine st_mv hs rfl rfl ?_; clear hs w a; intro a w hs
              refine st_guardT hs rfl rfl rfl ?_
              refine st_mv hs rfl rfl ?_; clear hs w a; intro a w hs
              refine st_guardT hs rfl rfl rfl ?_
              refine st_callP (v := .int .i64 ((((rDone bs R) : Nat) : Int))) hs (.c rfl .n) Try.call46 (rdone_ok g5 _ _ bs R _ (hs.rd0 hb) (hs.mem.del .z) (by omega)) rfl ?_; clear hs w a; intro a w hs
              refine st_guardT hs rfl rfl rfl ?_
              refine st_mv hs rfl rfl ?_; clear hs w a; intro a w hs
              refine st_guardT hs rfl rfl rfl ?_
              refine st_eql hs rfl rfl rfl ?_; clear hs w a; intro a w hs
              have hb_ : (((((rDone bs R) : Nat) : Int) : Int) == ((((((rByte bs (⟨0, 0⟩ : Rs)).2)).e : Nat) : Int))) = true := by unfold rDone; rw [if_pos (by omega), beq_iff_eq]; omega
              rw [hb_] at hs; clear hb_
              refine st_pickT hs rfl rfl rfl ?_; clear hs w a; intro a w hs
              refine st_mv hs rfl rfl ?_; clear hs w a; intro a w hs
              refine st_guardT hs rfl rfl rfl ?_
              refine st_mv hs rfl rfl ?_; clear hs w a; intro a w hs
              refine st_guardT hs rfl rfl rfl ?_
              refine st_callP (v := .int .i64 (((R.p : Nat) : Int))) hs (.c rfl .n) Try.call40 (rat_ok g5 _ _ bs R _ (hs.rd0 hb) (hs.mem.del .z) (by omega)) rfl ?_; clear hs w a; intro a w hs
              refine st_guardT hs rfl rfl rfl ?_
              refine st_mv hs rfl rfl ?_; clear hs w a; intro a w hs
              refine st_guardT hs rfl rfl rfl ?_
              refine st_eql hs rfl rfl rfl ?_; clear hs w a; intro a w hs
              have hb_ : ((((R.p : Nat) : Int) : Int) == ((((((rByte bs (⟨0, 0⟩ : Rs)).2)).p : Nat) : Int))) = true := by rw [beq_iff_eq]; omega
              rw [hb_] at hs; clear hb_
              refine st_pickT hs rfl rfl rfl ?_; clear hs w a; intro a w hs
              refine st_mv hs rfl rfl ?_; clear hs w a; intro a w hs
              refine st_guardT hs rfl rfl rfl ?_
              refine st_mv hs rfl rfl ?_; clear hs w a; intro a w hs
              refine st_guardT hs rfl rfl rfl ?_
              refine st_callP (v := .int .i64 ((((bs.length - R.p) : Nat) : Int))) hs (.c rfl .n) Try.call45 (rleft_ok g5 _ _ bs R _ (hs.rd0 hb) (hs.mem.del .z) (by omega)) rfl ?_; clear hs w a; intro a w hs
              refine st_guardT hs rfl rfl rfl ?_
              refine st_mv hs rfl rfl ?_; clear hs w a; intro a w hs
              refine st_guardT hs rfl rfl rfl ?_
              refine st_len hs rfl (hs.rd0 hb).isSl Try.underlying22 rfl ?_; clear hs w a; intro a w hs
              refine st_guardT hs rfl rfl rfl ?_
              refine st_mv hs rfl rfl ?_; clear hs w a; intro a w hs
              refine st_guardT hs rfl rfl rfl ?_
              refine st_subR hs rfl rfl (by omega) rfl ?_; clear hs w a; intro a w hs
              refine st_guardT hs rfl rfl rfl ?_
              refine st_eql hs rfl rfl rfl ?_; clear hs w a; intro a w hs
              have hb_ : (((((bs.length - R.p) : Nat) : Int) : Int) == ((m : Int) - ((((((rByte bs (⟨0, 0⟩ : Rs)).2)).p : Nat) : Int)))) = true := by rw [beq_iff_eq]; omega
              rw [hb_] at hs; clear hb_
              refine st_pickT hs rfl rfl rfl ?_; clear hs w a; intro a w hs
              refine st_as hs rfl rfl ?_; clear hs w a; intro a w hs
              refine wpList_nil ?_
              refine then_n (hK105 _ _ ?_)
              refine wp_ret ?_
              replace hs := hs.drop (.c .z .n)
              exact fin hs rfl rfl ⟨rfl, rfl⟩
end Go.Proofs.Ytmhkekdhijnnbaa
