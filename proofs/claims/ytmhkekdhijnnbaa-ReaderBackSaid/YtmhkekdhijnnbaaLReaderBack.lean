/- Walks of ReaderBack: what each function does, over the program of this seat. Printed by a program of this session. -/
import Derived.Test.YtmhkekdhijnnbaaWrd2
namespace Go.Proofs.Ytmhkekdhijnnbaa
open Go Go.Sx Go.RowKit
set_option linter.unusedVariables false
set_option linter.unusedSimpArgs false
set_option maxRecDepth 4000

theorem readerBack_ok (u : Value) (m2 : Nat) (l : List Int) (v : Value) (m : Nat) (bs : List Byte) (w0 : World) (hr : ∀ x ∈ l, -9223372036854775808 ≤ x ∧ x ≤ 9223372036854775807) (hc : Rd w0 [] u 1 m2 (l.map (Value.int .i64))) (hb : Rd w0 [] v 1 m (bytesV bs)) : Calls Try.prog 18 #[u, v] w0 (RetV w0 (.bool true)) := by
  have hbl : bs.length = m := by have := hb.len; simpa [bytesV] using this
  have hbe : m ≤ maxLen := hb.le
  simp only [maxLen] at hbe
  have hcl : l.length = m2 := by have := hc.len; simpa using this
  have hce : m2 ≤ maxLen := hc.le
  simp only [maxLen] at hce
  have hzl : (l.map zigI).length = m2 := by rw [List.length_map, hcl]
  refine enter (F0 := [(0, u), (1, v)]) Try.func18 rfl rfl rfl (.c (.c .n)) (Mem.nil _) fun a w hs => ?_
  refine wp_seq_k fun K1 hK2 => ?_
  refine wp_region_lit ?_
  refine st_as hs rfl rfl ?_; clear hs w a; intro a w hs
  refine wpList_nil ?_
  refine then_n (hK2 _ _ ?_)
  refine wp_seq_k fun K3 hK4 => ?_
  refine wp_seq_k fun K5 hK6 => ?_
  refine wp_region_lit ?_
  refine st_callP (v := .bool (true)) hs .n Try.call39 (alive07_ok _) rfl ?_; clear hs w a; intro a w hs
  refine st_not hs rfl rfl ?_; clear hs w a; intro a w hs
  refine st_mv hs rfl rfl ?_; clear hs w a; intro a w hs
  refine st_part (b := !(true)) (fun hc7 => ?_) (fun hc7 => ?_)
  · rw [hc7] at hs
    replace hc7 := not_t hc7
    refine st_guardF hs rfl rfl rfl rfl rfl ?_; clear hs w a; intro a w hs
    refine st_guardF hs rfl rfl rfl rfl rfl ?_; clear hs w a; intro a w hs
    refine st_guardF hs rfl rfl rfl rfl rfl ?_; clear hs w a; intro a w hs
    refine st_pickT hs rfl rfl rfl ?_; clear hs w a; intro a w hs
    refine st_mv hs rfl rfl ?_; clear hs w a; intro a w hs
    refine st_guardF hs rfl rfl rfl rfl rfl ?_; clear hs w a; intro a w hs
    refine st_guardF hs rfl rfl rfl rfl rfl ?_; clear hs w a; intro a w hs
    refine st_guardF hs rfl rfl rfl rfl rfl ?_; clear hs w a; intro a w hs
    refine st_pickT hs rfl rfl rfl ?_; clear hs w a; intro a w hs
    refine wpList_nil ?_
    refine then_n (hK6 _ _ ?_)
    refine wp_cond_true (hs.ev rfl) ?_
    refine wp_seq_k fun K8 hK9 => ?_
    refine wp_region_lit ?_
    refine st_callP (v := .bool (true)) hs .n Try.call39 (alive07_ok _) rfl ?_; clear hs w a; intro a w hs
    refine st_as hs rfl rfl ?_; clear hs w a; intro a w hs
    refine wpList_nil ?_
    refine then_n (hK9 _ _ ?_)
    refine wp_ret ?_
    refine th_r ?_
    exact fin hs rfl rfl ⟨rfl, rfl⟩
  · rw [hc7] at hs
    replace hc7 := not_f hc7
    refine st_guardT hs rfl rfl rfl ?_
    refine st_mv hs rfl rfl ?_; clear hs w a; intro a w hs
    refine st_guardT hs rfl rfl rfl ?_
    refine st_len hs rfl (hs.rd0 hc).isSl Try.underlying71 rfl ?_; clear hs w a; intro a w hs
    refine st_guardT hs rfl rfl rfl ?_
    refine st_gtr hs rfl rfl rfl ?_; clear hs w a; intro a w hs
    refine st_pickF hs rfl rfl rfl ?_; clear hs w a; intro a w hs
    refine st_mv hs rfl rfl ?_; clear hs w a; intro a w hs
    refine st_part (b := decide (200 < (m2 : Int))) (fun hc10 => ?_) (fun hc10 => ?_)
    · rw [hc10] at hs
      replace hc10 := of_decide_eq_true hc10
      refine st_guardF hs rfl rfl rfl rfl rfl ?_; clear hs w a; intro a w hs
      refine st_guardF hs rfl rfl rfl rfl rfl ?_; clear hs w a; intro a w hs
      refine st_guardF hs rfl rfl rfl rfl rfl ?_; clear hs w a; intro a w hs
      refine st_pickT hs rfl rfl rfl ?_; clear hs w a; intro a w hs
      refine wpList_nil ?_
      refine then_n (hK6 _ _ ?_)
      refine wp_cond_true (hs.ev rfl) ?_
      refine wp_seq_k fun K11 hK12 => ?_
      refine wp_region_lit ?_
      refine st_callP (v := .bool (true)) hs .n Try.call39 (alive07_ok _) rfl ?_; clear hs w a; intro a w hs
      refine st_as hs rfl rfl ?_; clear hs w a; intro a w hs
      refine wpList_nil ?_
      refine then_n (hK12 _ _ ?_)
      refine wp_ret ?_
      refine th_r ?_
      exact fin hs rfl rfl ⟨rfl, rfl⟩
    · rw [hc10] at hs
      replace hc10 := of_decide_eq_false hc10
      refine st_guardT hs rfl rfl rfl ?_
      refine st_mv hs rfl rfl ?_; clear hs w a; intro a w hs
      refine st_guardT hs rfl rfl rfl ?_
      refine st_len hs rfl (hs.rd0 hb).isSl Try.underlying22 rfl ?_; clear hs w a; intro a w hs
      refine st_guardT hs rfl rfl rfl ?_
      refine st_gtr hs rfl rfl rfl ?_; clear hs w a; intro a w hs
      refine st_pickF hs rfl rfl rfl ?_; clear hs w a; intro a w hs
      refine wpList_nil ?_
      refine then_n (hK6 _ _ ?_)
      refine wp_if hs rfl (fun hc13 => ?_) (fun hc13 => ?_)
      ·
        replace hc13 := of_decide_eq_true hc13
        refine wp_seq_k fun K14 hK15 => ?_
        refine wp_region_lit ?_
        refine st_callP (v := .bool (true)) hs .n Try.call39 (alive07_ok _) rfl ?_; clear hs w a; intro a w hs
        refine st_as hs rfl rfl ?_; clear hs w a; intro a w hs
        refine wpList_nil ?_
        refine then_n (hK15 _ _ ?_)
        refine wp_ret ?_
        refine th_r ?_
        exact fin hs rfl rfl ⟨rfl, rfl⟩
      ·
        replace hc13 := of_decide_eq_false hc13
        refine wp_skip ?_
        refine then_n (hK4 _ _ ?_)
        refine wp_seq_k fun K16 hK17 => ?_
        refine wp_region_lit ?_
        refine st_as hs rfl rfl ?_; clear hs w a; intro a w hs
        refine wpList_nil ?_
        refine then_n (hK17 _ _ ?_)
        refine wp_seq_k fun K18 hK19 => ?_
        refine wp_seq_k fun K20 hK21 => ?_
        refine wp_region_lit ?_
        refine st_mv hs rfl rfl ?_; clear hs w a; intro a w hs
        refine st_len hs rfl (hs.rd0 hc).isSl Try.underlying71 rfl ?_; clear hs w a; intro a w hs
        refine st_mv hs rfl rfl ?_; clear hs w a; intro a w hs
        refine wpList_nil ?_
        refine then_n (hK21 _ _ ?_)
        refine wp_block ?_
        replace hs := hs.addNil 5 1
        refine wp_loopI (fun mm_ a w => ∃ i : Nat, ∃ r : Value, mm_ = m2 - i ∧ St 107 [(0, u), (1, v), (5, r), (28, u), (29, .int .i64 ((m2 : Int))), (30, .int .i64 ((i : Int)))] w0 [] [row r 5 1 ((vputs ((l.map zigI).take i)).length) (bytesV (vputs ((l.map zigI).take i)))] a w ∧ i ≤ m2) ⟨0, .slice none 0 0, rfl, hs.sub (.c rfl (.c rfl (.c rfl (.c rfl (.c rfl (.c rfl .n)))))), by omega⟩ ?_
        clear hs w a; rintro mm_ a w ⟨i, r, rfl, hs, hI1_0⟩
        have hlv := length_vputs ((l.map zigI).take i)
        have hlt : ((l.map zigI).take i).length ≤ m2 := by rw [List.length_take]; omega
        have hvx := vlen_le (zigI (l.getD i 0)).toNat
        refine wp_seq_k fun K22 hK23 => ?_
        refine wp_region_lit ?_
        refine st_lss hs rfl rfl rfl ?_; clear hs w a; intro a w hs
        refine wpList_nil ?_
        refine then_n (hK23 _ _ ?_)
        refine wp_seq_k fun K24 hK25 => ?_
        refine wp_if hs rfl (fun hc26 => ?_) (fun hc26 => ?_)
        ·
          replace hc26 := of_decide_eq_true hc26
          refine wp_skip ?_
          refine then_n (hK25 _ _ ?_)
          refine wp_seq_k fun K27 hK28 => ?_
          refine wp_block ?_
          refine wp_seq_k fun K29 hK30 => ?_
          refine wp_region_lit ?_
          refine st_ia1 (j := i) hs rfl rfl (hs.rd0 hc) rfl (by omega) Try.underlying71 Try.sizeOf2 rfl ?_; clear hs w a; intro a w hs
          refine st_ld hs rfl (hs.rd0 hc) (ints_getD l (by omega)) Try.isAgg2 rfl ?_; clear hs w a; intro a w hs
          have hrx30 := hr _ (getD_mem l (i := i) (by omega))
          refine st_as hs rfl rfl ?_; clear hs w a; intro a w hs
          refine wpList_nil ?_
          refine then_n (hK30 _ _ ?_)
          refine wp_region_lit ?_
          refine st_mv hs rfl rfl ?_; clear hs w a; intro a w hs
          refine st_mv hs rfl rfl ?_; clear hs w a; intro a w hs
          refine st_callP (v := .int .u64 ((((zigI (l.getD i 0)).toNat : Nat) : Int))) hs (.c rfl .n) Try.call33 (zig_ok (l.getD i 0) _ (by omega)) rfl ?_; clear hs w a; intro a w hs
          refine st_call hs (.c rfl .n) Try.call27 .n (put_ok (zigI (l.getD i 0)) _) rfl ?_; clear hs w a; rintro v31 _ a w rfl hs; simp only [List.cons_append, List.nil_append] at hs
          refine st_app (size := 1) (bytes := 1) hs rfl rfl (.s .z) (rd_row (hs.mem.del .z)) (oneCell_bytesV _) Try.underlying22 (i := Try.t5) rfl rfl rfl rfl rfl (by decide) (by omega) (by simp only [maxLen]; omega) rfl ?_; clear hs w a; intro v32 a w hs
          refine st_as hs rfl rfl ?_; clear hs w a; intro a w hs
          refine wpList_nil ?_
          refine in_n ?_
          refine then_n (hK28 _ _ ?_)
          refine wp_region_lit ?_
          refine st_addR hs rfl rfl (by omega) rfl ?_; clear hs w a; intro a w hs
          refine st_mv hs rfl rfl ?_; clear hs w a; intro a w hs
          refine wpList_nil ?_
          refine then_n ?_
          replace hs := hs.rerow .z (m' := (vputs ((l.map zigI).take (i + 1))).length) (xs' := bytesV (vputs ((l.map zigI).take (i + 1)))) (by rw [vputs_take _ i (by omega), getD_zig l (by omega)]; simp [vlen]) (by rw [vputs_take _ i (by omega), getD_zig l (by omega), bytesV_append])
          replace hs := hs.drop (.c (.s .z) .n)
          refine ⟨_, ?_, i + 1, v32, rfl, hs.sub (.c rfl (.c rfl (.c rfl (.c rfl (.c rfl (.c rfl .n)))))), by omega⟩
          omega
        ·
          replace hc26 := of_decide_eq_false hc26
          refine wp_exit ?_
          refine th_e ?_
          refine th_e ?_
          refine in_hit ?_
          refine then_n (hK19 _ _ ?_)
          refine wp_seq_k fun K33 hK34 => ?_
          refine wp_region_lit ?_
          refine st_mv hs rfl rfl ?_; clear hs w a; intro a w hs
          replace hs := hs.rerow .z (m' := (vputs (l.map zigI)).length) (xs' := bytesV (vputs (l.map zigI))) (by rw [show i = m2 by omega, ← hzl, List.take_length]) (by rw [show i = m2 by omega, ← hzl, List.take_length])
          refine st_call hs (.c rfl .n) Try.call38 .n (new_ok _ _ ((vputs (l.map zigI))) _ (rd_row (hs.mem.del .z))) rfl ?_; clear hs w a; rintro _ _ a w ⟨g35, rfl, rfl⟩ hs; simp only [List.cons_append, List.nil_append] at hs
          have hleg35 : (⟨0, 0⟩ : Rs).p ≤ ((vputs (l.map zigI))).length := Nat.zero_le _
          refine st_as hs rfl rfl ?_; clear hs w a; intro a w hs
          refine wpList_nil ?_
          refine then_n (hK34 _ _ ?_)
          refine wp_seq_k fun K36 hK37 => ?_
          refine wp_seq_k fun K38 hK39 => ?_
          refine wp_region_lit ?_
          refine st_mv hs rfl rfl ?_; clear hs w a; intro a w hs
          refine st_eqnil hs rfl rfl Try.underlying52 rfl ?_; clear hs w a; intro a w hs
          refine wpList_nil ?_
          refine then_n (hK39 _ _ ?_)
          refine wp_cond_false (hs.ev rfl) ?_
          refine wp_skip ?_
          refine then_n (hK37 _ _ ?_)
          refine wp_seq_k fun K40 hK41 => ?_
          refine wp_seq_k fun K42 hK43 => ?_
          refine wp_region_lit ?_
          refine st_mv hs rfl rfl ?_; clear hs w a; intro a w hs
          refine st_len hs rfl (hs.rd0 hc).isSl Try.underlying71 rfl ?_; clear hs w a; intro a w hs
          refine st_mv hs rfl rfl ?_; clear hs w a; intro a w hs
          refine wpList_nil ?_
          refine then_n (hK43 _ _ ?_)
          refine wp_block ?_
          replace hs := hs.reorder (.c (.s .z) (.c .z .n))
          refine wp_loopI (fun mm_ a w => ∃ j : Nat, mm_ = m2 - j ∧ St 107 [(0, u), (1, v), (5, r), (8, .pointer (some ⟨g35, 0, none⟩)), (44, u), (45, .int .i64 ((m2 : Int))), (46, .int .i64 ((j : Int)))] w0 [] [row r 5 1 ((vputs (l.map zigI)).length) (bytesV (vputs (l.map zigI))), blk g35 [r, .int .i64 (((((⟨(vputs ((l.map zigI).take j)).length, 0⟩ : Rs)).p : Nat) : Int)), .int .i64 (((((⟨(vputs ((l.map zigI).take j)).length, 0⟩ : Rs)).e : Nat) : Int))] 76] a w ∧ j ≤ m2 ∧ (vputs ((l.map zigI).take j)).length ≤ (vputs (l.map zigI)).length) ⟨0, rfl, hs.sub (.c rfl (.c rfl (.c rfl (.c rfl (.c rfl (.c rfl (.c rfl .n))))))), by omega, by simp [vputs]⟩ ?_
          clear hs w a; rintro mm_ a w ⟨j, rfl, hs, hI2_0, hI2_1⟩
          have hpj : (⟨(vputs ((l.map zigI).take j)).length, 0⟩ : Rs).p = (vputs ((l.map zigI).take j)).length := rfl
          have hej : (⟨(vputs ((l.map zigI).take j)).length, 0⟩ : Rs).e = 0 := rfl
          have hjm : j = m2 → (vputs ((l.map zigI).take j)).length = (vputs (l.map zigI)).length := fun e => by rw [e, ← hzl, List.take_length]
          refine wp_seq_k fun K44 hK45 => ?_
          refine wp_region_lit ?_
          refine st_lss hs rfl rfl rfl ?_; clear hs w a; intro a w hs
          refine wpList_nil ?_
          refine then_n (hK45 _ _ ?_)
          refine wp_seq_k fun K46 hK47 => ?_
          refine wp_if hs rfl (fun hc48 => ?_) (fun hc48 => ?_)
          ·
            replace hc48 := of_decide_eq_true hc48
            refine wp_skip ?_
            refine then_n (hK47 _ _ ?_)
            refine wp_seq_k fun K49 hK50 => ?_
            refine wp_block ?_
            refine wp_seq_k fun K51 hK52 => ?_
            refine wp_region_lit ?_
            refine st_ia1 (j := j) hs rfl rfl (hs.rd0 hc) rfl (by omega) Try.underlying71 Try.sizeOf2 rfl ?_; clear hs w a; intro a w hs
            refine st_ld hs rfl (hs.rd0 hc) (ints_getD l (by omega)) Try.isAgg2 rfl ?_; clear hs w a; intro a w hs
            have hrx52 := hr _ (getD_mem l (i := j) (by omega))
            refine st_as hs rfl rfl ?_; clear hs w a; intro a w hs
            refine wpList_nil ?_
            refine then_n (hK52 _ _ ?_)
            refine wp_seq_k fun K53 hK54 => ?_
            refine wp_region_lit ?_
            refine st_mv hs rfl rfl ?_; clear hs w a; intro a w hs
            refine st_call hs (.c rfl .n) Try.call43 (.c (.s .z) .n) (rint_ok  g35 _ _ ((vputs (l.map zigI))) (((⟨(vputs ((l.map zigI).take j)).length, 0⟩ : Rs))) _ (hs.mem.rdrow .z (.c .z .n)) (hs.mem.del (.s .z)) (by omega)) rfl ?_; clear hs w a; rintro _ _ a w ⟨rfl, rfl⟩ hs; simp only [List.cons_append, List.nil_append] at hs
            have hk55 := rInt_le (bs := ((vputs (l.map zigI)))) (R := ((⟨(vputs ((l.map zigI).take j)).length, 0⟩ : Rs))) (by omega)
            simp only [rInt_at l j hr (by omega)] at hs
            refine st_mv hs rfl rfl ?_; clear hs w a; intro a w hs
            refine st_neq hs rfl rfl rfl ?_; clear hs w a; intro a w hs
            have hb_ : (!((l.getD j 0 : Int) == (l.getD j 0))) = false := by simp
            rw [hb_] at hs; clear hb_
            refine wpList_nil ?_
            refine then_n (hK54 _ _ ?_)
            refine wp_cond_false (hs.ev rfl) ?_
            refine wp_skip ?_
            refine in_n ?_
            refine then_n (hK50 _ _ ?_)
            refine wp_region_lit ?_
            refine st_addR hs rfl rfl (by omega) rfl ?_; clear hs w a; intro a w hs
            refine st_mv hs rfl rfl ?_; clear hs w a; intro a w hs
            refine wpList_nil ?_
            refine then_n ?_
            replace hs := hs.reorder (.c (.s .z) (.c .z .n))
            refine ⟨_, ?_, j + 1, rfl, hs.sub (.c rfl (.c rfl (.c rfl (.c rfl (.c rfl (.c rfl (.c rfl .n))))))), by omega, vputs_pre _ _⟩
            omega
          ·
            replace hc48 := of_decide_eq_false hc48
            refine wp_exit ?_
            refine th_e ?_
            refine th_e ?_
            refine in_hit ?_
            refine then_n (hK41 _ _ ?_)
            refine wp_seq_k fun K56 hK57 => ?_
            refine wp_seq_k fun K58 hK59 => ?_
            refine wp_region_lit ?_
            refine st_mv hs rfl rfl ?_; clear hs w a; intro a w hs
            refine st_callP (v := .int .i64 ((((rDone ((vputs (l.map zigI))) (((⟨(vputs ((l.map zigI).take j)).length, 0⟩ : Rs)))) : Nat) : Int))) hs (.c rfl .n) Try.call46 (rdone_ok g35 _ _ ((vputs (l.map zigI))) (((⟨(vputs ((l.map zigI).take j)).length, 0⟩ : Rs))) _ (rd_row (hs.mem.del .z)) (hs.mem.del (.s .z)) (by omega)) rfl ?_; clear hs w a; intro a w hs
            refine st_neq hs rfl rfl rfl ?_; clear hs w a; intro a w hs
            have hb_ : (!(((((rDone ((vputs (l.map zigI))) (((⟨(vputs ((l.map zigI).take j)).length, 0⟩ : Rs)))) : Nat) : Int) : Int) == 0)) = false := by unfold rDone; rw [if_pos (.inr (by omega))]; rfl
            rw [hb_] at hs; clear hb_
            refine st_mv hs rfl rfl ?_; clear hs w a; intro a w hs
            refine st_guardT hs rfl rfl rfl ?_
            refine st_mv hs rfl rfl ?_; clear hs w a; intro a w hs
            refine st_guardT hs rfl rfl rfl ?_
            refine st_callP (v := .int .i64 ((((((⟨(vputs ((l.map zigI).take j)).length, 0⟩ : Rs))).p : Nat) : Int))) hs (.c rfl .n) Try.call40 (rat_ok g35 _ _ ((vputs (l.map zigI))) (((⟨(vputs ((l.map zigI).take j)).length, 0⟩ : Rs))) _ (rd_row (hs.mem.del .z)) (hs.mem.del (.s .z)) (by omega)) rfl ?_; clear hs w a; intro a w hs
            refine st_guardT hs rfl rfl rfl ?_
            refine st_mv hs rfl rfl ?_; clear hs w a; intro a w hs
            refine st_guardT hs rfl rfl rfl ?_
            refine st_len hs rfl (rd_row (hs.mem.del .z)).isSl Try.underlying22 rfl ?_; clear hs w a; intro a w hs
            refine st_guardT hs rfl rfl rfl ?_
            refine st_neq hs rfl rfl rfl ?_; clear hs w a; intro a w hs
            have hb_ : (!(((((((⟨(vputs ((l.map zigI).take j)).length, 0⟩ : Rs))).p : Nat) : Int) : Int) == ((((vputs (l.map zigI)).length : Nat) : Int)))) = false := by rw [Bool.not_eq_false', beq_iff_eq]; omega
            rw [hb_] at hs; clear hb_
            refine st_pickF hs rfl rfl rfl ?_; clear hs w a; intro a w hs
            refine st_mv hs rfl rfl ?_; clear hs w a; intro a w hs
            refine st_guardT hs rfl rfl rfl ?_
            refine st_mv hs rfl rfl ?_; clear hs w a; intro a w hs
            refine st_guardT hs rfl rfl rfl ?_
            refine st_callP (v := .int .i64 ((((((vputs (l.map zigI))).length - (((⟨(vputs ((l.map zigI).take j)).length, 0⟩ : Rs))).p) : Nat) : Int))) hs (.c rfl .n) Try.call45 (rleft_ok g35 _ _ ((vputs (l.map zigI))) (((⟨(vputs ((l.map zigI).take j)).length, 0⟩ : Rs))) _ (rd_row (hs.mem.del .z)) (hs.mem.del (.s .z)) (by omega)) rfl ?_; clear hs w a; intro a w hs
            refine st_guardT hs rfl rfl rfl ?_
            refine st_neq hs rfl rfl rfl ?_; clear hs w a; intro a w hs
            have hb_ : (!(((((((vputs (l.map zigI))).length - (((⟨(vputs ((l.map zigI).take j)).length, 0⟩ : Rs))).p) : Nat) : Int) : Int) == 0)) = false := by rw [Bool.not_eq_false', beq_iff_eq]; omega
            rw [hb_] at hs; clear hb_
            refine st_pickF hs rfl rfl rfl ?_; clear hs w a; intro a w hs
            refine wpList_nil ?_
            refine then_n (hK59 _ _ ?_)
            refine wp_cond_false (hs.ev rfl) ?_
            refine wp_skip ?_
            refine then_n (hK57 _ _ ?_)
            refine wp_seq_k fun K60 hK61 => ?_
            refine wp_region_lit ?_
            refine st_mv hs rfl rfl ?_; clear hs w a; intro a w hs
            refine st_call hs (.c rfl .n) Try.call38 .n (new_ok _ _ bs _ (hs.rd0 hb)) rfl ?_; clear hs w a; rintro _ _ a w ⟨g62, rfl, rfl⟩ hs; simp only [List.cons_append, List.nil_append] at hs
            have hleg62 : (⟨0, 0⟩ : Rs).p ≤ bs.length := Nat.zero_le _
            refine st_as hs rfl rfl ?_; clear hs w a; intro a w hs
            refine wpList_nil ?_
            refine then_n (hK61 _ _ ?_)
            refine wp_seq_k fun K63 hK64 => ?_
            refine wp_region_lit ?_
            refine st_as hs rfl rfl ?_; clear hs w a; intro a w hs
            refine wpList_nil ?_
            refine then_n (hK64 _ _ ?_)
            refine wp_seq_k fun K65 hK66 => ?_
            refine wp_seq_k fun K67 hK68 => ?_
            refine wp_region_lit ?_
            refine st_mv hs rfl rfl ?_; clear hs w a; intro a w hs
            refine st_len hs rfl (hs.rd0 hb).isSl Try.underlying22 rfl ?_; clear hs w a; intro a w hs
            refine st_addR hs rfl rfl (by omega) rfl ?_; clear hs w a; intro a w hs
            refine st_mv hs rfl rfl ?_; clear hs w a; intro a w hs
            refine wpList_nil ?_
            refine then_n (hK68 _ _ ?_)
            refine wp_block ?_
            replace hs := hs.drop (.c (.s (.s .z)) (.c (.s .z) .n))
            replace hs := hs.addNil 5 1
            refine wp_loopI (fun mm_ a w => ∃ q : Nat, ∃ R : Rs, ∃ s : Value, mm_ = m + 1 - q ∧ St 107 [(1, v), (11, .pointer (some ⟨g62, 0, none⟩)), (12, s), (74, .int .i64 ((m : Int) + 1)), (75, .int .i64 ((q : Int)))] w0 [] [row s 5 1 ((bs.take R.p).length) (bytesV (bs.take R.p)), blk g62 [v, .int .i64 (((R.p : Nat) : Int)), .int .i64 (((R.e : Nat) : Int))] 76] a w ∧ q ≤ R.p ∧ R.p ≤ bs.length ∧ R.e = 0) ⟨0, ⟨0, 0⟩, .slice none 0 0, rfl, hs.sub (.c rfl (.c rfl (.c rfl (.c rfl (.c rfl .n))))), by omega, by omega, by omega⟩ ?_
            clear hs w a; rintro mm_ a w ⟨q, R, s, rfl, hs, hI3_0, hI3_1, hI3_2⟩
            refine wp_seq_k fun K69 hK70 => ?_
            refine wp_region_lit ?_
            refine st_lss hs rfl rfl rfl ?_; clear hs w a; intro a w hs
            refine wpList_nil ?_
            refine then_n (hK70 _ _ ?_)
            refine wp_seq_k fun K71 hK72 => ?_
            refine wp_if hs rfl (fun hc73 => ?_) (fun hc73 => ?_)
            ·
              replace hc73 := of_decide_eq_true hc73
              refine wp_skip ?_
              refine then_n (hK72 _ _ ?_)
              refine wp_seq_k fun K74 hK75 => ?_
              refine wp_block ?_
              refine wp_seq_k fun K76 hK77 => ?_
              refine wp_region_lit ?_
              refine st_mv hs rfl rfl ?_; clear hs w a; intro a w hs
              refine st_call hs (.c rfl .n) Try.call43 (.c (.s .z) .n) (rint_ok  g62 _ _ bs R _ (hs.mem.rd1 hb (.c (.s .z) .n)) (hs.mem.del (.s .z)) (by omega)) rfl ?_; clear hs w a; rintro _ _ a w ⟨rfl, rfl⟩ hs; simp only [List.cons_append, List.nil_append] at hs
              have hk78 := rInt_le (bs := bs) (R := R) (by omega)
              refine st_as hs rfl rfl ?_; clear hs w a; intro a w hs
              refine wpList_nil ?_
              refine then_n (hK77 _ _ ?_)
              refine wp_seq_k fun K79 hK80 => ?_
              refine wp_seq_k fun K81 hK82 => ?_
              refine wp_region_lit ?_
              refine st_mv hs rfl rfl ?_; clear hs w a; intro a w hs
              refine st_callP (v := .int .i64 ((((((rInt bs R).2)).e : Nat) : Int))) hs (.c rfl .n) Try.call47 (rerr_ok g62 _ _ bs (((rInt bs R).2)) _ (hs.rd0 hb) (hs.mem.del .z) (by omega)) rfl ?_; clear hs w a; intro a w hs
              refine st_neq hs rfl rfl rfl ?_; clear hs w a; intro a w hs
              refine wpList_nil ?_
              refine then_n (hK82 _ _ ?_)
              refine wp_if hs rfl (fun hc83 => ?_) (fun hc83 => ?_)
              ·
                replace hc83 := not_t hc83
                replace hc83 := ne_of_beq_f hc83
                have hha := rInt_halt (bs := bs) (R := R) (by omega)
                refine wp_exit ?_
                refine th_e ?_
                refine in_miss rfl ?_
                refine th_e ?_
                refine th_e ?_
                refine in_hit ?_
                refine then_n (hK66 _ _ ?_)
                refine wp_seq_k fun K84 hK85 => ?_
                refine wp_region_lit ?_
                refine st_mv hs rfl rfl ?_; clear hs w a; intro a w hs
                refine st_callP (v := .int .i64 ((((((rInt bs R).2)).p : Nat) : Int))) hs (.c rfl .n) Try.call40 (rat_ok g62 _ _ bs (((rInt bs R).2)) _ (hs.rd0 hb) (hs.mem.del .z) (by omega)) rfl ?_; clear hs w a; intro a w hs
                refine st_as hs rfl rfl ?_; clear hs w a; intro a w hs
                refine wpList_nil ?_
                refine then_n (hK85 _ _ ?_)
                refine wp_seq_k fun K86 hK87 => ?_
                replace hs := hs.sub (F' := [(14, .int .i64 ((((((rInt bs R).2)).p : Nat) : Int))), (89, .int .i64 ((((((rInt bs R).2)).p : Nat) : Int))), (88, .pointer (some ⟨g62, 0, none⟩)), (81, .bool (!(((((((rInt bs R).2)).e : Nat) : Int) : Int) == 0))), (80, .int .i64 ((((((rInt bs R).2)).e : Nat) : Int))), (79, .pointer (some ⟨g62, 0, none⟩)), (13, .int .i64 ((rInt bs R).1)), (78, .int .i64 ((rInt bs R).1)), (77, .pointer (some ⟨g62, 0, none⟩)), (76, .bool (decide ((q : Int) < ((m : Int) + 1)))), (1, v), (11, .pointer (some ⟨g62, 0, none⟩)), (12, s), (74, .int .i64 ((m : Int) + 1)), (75, .int .i64 ((q : Int)))]) (.c rfl (.c rfl (.c rfl (.c rfl (.c rfl (.c rfl (.c rfl (.c rfl (.c rfl (.c rfl (.c rfl (.c rfl (.c rfl (.c rfl (.c rfl .n)))))))))))))))
                refine wp_drawG (M0 := [blk g62 [v, .int .i64 (((((rInt bs R).2).p : Nat) : Int)), .int .i64 (((((rInt bs R).2).e : Nat) : Int))] 76, row s 5 1 ((bs.take R.p).length) (bytesV (bs.take R.p))]) (Ds := [⟨[], [], [], fun vs88 => vs88 0 = .int .i64 ((((((rInt bs R).2)).p : Nat) : Int)), fun vs88 => []⟩, ⟨[], [], [], fun vs88 => vs88 1 = .bool (true), fun vs88 => []⟩, ⟨[], [], [], fun vs88 => vs88 2 = .bool (true), fun vs88 => []⟩, ⟨[], [], [], fun vs88 => vs88 3 = .int .i64 ((((((rInt bs R).2)).p : Nat) : Int)), fun vs88 => []⟩, ⟨[], [], [], fun vs88 => vs88 4 = v, fun vs88 => []⟩, ⟨[], [], [], fun vs88 => vs88 5 = .int .i64 ((m : Int)), fun vs88 => []⟩, ⟨[], [], [], fun vs88 => vs88 6 = .bool (true), fun vs88 => []⟩, ⟨[], [], [], fun vs88 => vs88 7 = .bool (true), fun vs88 => []⟩, ⟨[], [], [], fun vs88 => vs88 8 = .bool (true), fun vs88 => []⟩, ⟨[], [], [], fun vs88 => vs88 9 = s, fun vs88 => []⟩, ⟨[], [], [], fun vs88 => vs88 10 = .string (strB (bs.take R.p)), fun vs88 => []⟩, ⟨[], [], [], fun vs88 => vs88 11 = v, fun vs88 => []⟩, ⟨[], [], [], fun vs88 => vs88 12 = .int .i64 ((((((rInt bs R).2)).p : Nat) : Int)), fun vs88 => []⟩, ⟨[], [], [], fun vs88 => vs88 13 = slcV v 1 0 ((((rInt bs R).2)).p), fun vs88 => []⟩, ⟨[], [], [], fun vs88 => vs88 14 = .string (strB ((bs.take ((((rInt bs R).2)).p)))), fun vs88 => []⟩, ⟨[], [], [], fun vs88 => vs88 15 = .bool (true), fun vs88 => []⟩, ⟨[], [], [], fun vs88 => vs88 16 = .bool (true), fun vs88 => []⟩, ⟨[], [], [], fun vs88 => vs88 17 = .bool (true), fun vs88 => []⟩]) (by kernel_rfl) hs rfl .n (by kernel_rfl) (by kernel_rfl) ?_ ?_
                · refine (.c ?_ (.c ?_ (.c ?_ (.c ?_ (.c ?_ (.c ?_ (.c ?_ (.c ?_ (.c ?_ (.c ?_ (.c ?_ (.c ?_ (.c ?_ (.c ?_ (.c ?_ (.c ?_ (.c ?_ (.c ?_ .n))))))))))))))))))
                  · intro a_ w_ R_ rest_ vs88 hm hs ht
                    replace hs : St _ _ _ (feet []) [] _ _ := hs
                    have hm0 := hm.mid
                    have hs0 := hs.bare
                    refine st_mv hs rfl rfl ?_; clear hs; intro a w hs
                    exact wpList_nil ⟨rfl, _, _, hs0, .r, hs, rfl⟩
                  · intro a_ w_ R_ rest_ vs88 hm hs ht
                    replace hs : St _ _ _ (feet []) [] _ _ := hs
                    have hm0 := hm.mid
                    have t0 := ht 0 (twB_spec 18 _ (by kernel_rfl))
                    have e0 : _ = some (vs88 0) := t0.val rfl
                    rw [show vs88 0 = .int .i64 ((((((rInt bs R).2)).p : Nat) : Int)) from t0.2.1] at e0
                    replace hs := hs.learn e0
                    have hs0 := hs.bare
                    refine st_geq hs rfl rfl rfl ?_; clear hs; intro a w hs
                    have hb_ : (decide (0 ≤ ((((((rInt bs R).2)).p : Nat) : Int)))) = true := decide_eq_true (by omega)
                    rw [hb_] at hs; clear hb_
                    exact wpList_nil ⟨rfl, _, _, hs0, (.c .r), hs, rfl⟩
                  · intro a_ w_ R_ rest_ vs88 hm hs ht
                    replace hs : St _ _ _ (feet []) [] _ _ := hs
                    have hm0 := hm.mid
                    have t1 := ht 1 (twB_spec 18 _ (by kernel_rfl))
                    have e1 : _ = some (vs88 1) := t1.val rfl
                    rw [show vs88 1 = .bool (true) from t1.2.1] at e1
                    replace hs := hs.learn e1
                    have hs0 := hs.bare
                    refine st_mv hs rfl rfl ?_; clear hs; intro a w hs
                    exact wpList_nil ⟨rfl, _, _, hs0, (.c .r), hs, rfl⟩
                  · intro a_ w_ R_ rest_ vs88 hm hs ht
                    replace hs : St _ _ _ (feet []) [] _ _ := hs
                    have hm0 := hm.mid
                    have t2 := ht 2 (twB_spec 18 _ (by kernel_rfl))
                    have e2 : _ = some (vs88 2) := t2.val rfl
                    rw [show vs88 2 = .bool (true) from t2.2.1] at e2
                    replace hs := hs.learn e2
                    have hs0 := hs.bare
                    refine st_guardT hs rfl rfl rfl ?_
                    refine st_mv hs rfl rfl ?_; clear hs; intro a w hs
                    exact wpList_nil ⟨rfl, _, _, hs0, (.c .r), hs, rfl⟩
                  · intro a_ w_ R_ rest_ vs88 hm hs ht
                    replace hs : St _ _ _ (feet []) [] _ _ := hs
                    have hm0 := hm.mid
                    have t2 := ht 2 (twB_spec 18 _ (by kernel_rfl))
                    have e2 : _ = some (vs88 2) := t2.val rfl
                    rw [show vs88 2 = .bool (true) from t2.2.1] at e2
                    replace hs := hs.learn e2
                    have hs0 := hs.bare
                    refine st_guardT hs rfl rfl rfl ?_
                    refine st_mv hs rfl rfl ?_; clear hs; intro a w hs
                    exact wpList_nil ⟨rfl, _, _, hs0, (.c .r), hs, rfl⟩
                  · intro a_ w_ R_ rest_ vs88 hm hs ht
                    replace hs : St _ _ _ (feet []) [] _ _ := hs
                    have hm0 := hm.mid
                    have t2 := ht 2 (twB_spec 18 _ (by kernel_rfl))
                    have e2 : _ = some (vs88 2) := t2.val rfl
                    rw [show vs88 2 = .bool (true) from t2.2.1] at e2
                    replace hs := hs.learn e2
                    have t4 := ht 4 (twB_spec 18 _ (by kernel_rfl))
                    have e4 : _ = some (vs88 4) := t4.val rfl
                    rw [show vs88 4 = v from t4.2.1] at e4
                    replace hs := hs.learn e4
                    have hs0 := hs.bare
                    refine st_guardT hs rfl rfl rfl ?_
                    refine st_len hs rfl (hm.rd0 hb).isSl Try.underlying22 rfl ?_; clear hs; intro a w hs
                    exact wpList_nil ⟨rfl, _, _, hs0, (.c (.c .r)), hs, rfl⟩
                  · intro a_ w_ R_ rest_ vs88 hm hs ht
                    replace hs : St _ _ _ (feet []) [] _ _ := hs
                    have hm0 := hm.mid
                    have t2 := ht 2 (twB_spec 18 _ (by kernel_rfl))
                    have e2 : _ = some (vs88 2) := t2.val rfl
                    rw [show vs88 2 = .bool (true) from t2.2.1] at e2
                    replace hs := hs.learn e2
                    have t3 := ht 3 (twB_spec 18 _ (by kernel_rfl))
                    have e3 : _ = some (vs88 3) := t3.val rfl
                    rw [show vs88 3 = .int .i64 ((((((rInt bs R).2)).p : Nat) : Int)) from t3.2.1] at e3
                    replace hs := hs.learn e3
                    have t5 := ht 5 (twB_spec 18 _ (by kernel_rfl))
                    have e5 : _ = some (vs88 5) := t5.val rfl
                    rw [show vs88 5 = .int .i64 ((m : Int)) from t5.2.1] at e5
                    replace hs := hs.learn e5
                    have hs0 := hs.bare
                    refine st_guardT hs rfl rfl rfl ?_
                    refine st_leq hs rfl rfl rfl ?_; clear hs; intro a w hs
                    have hb_ : (decide (((((((rInt bs R).2)).p : Nat) : Int)) ≤ (m : Int))) = true := decide_eq_true (by omega)
                    rw [hb_] at hs; clear hb_
                    exact wpList_nil ⟨rfl, _, _, hs0, (.c (.c (.c .r))), hs, rfl⟩
                  · intro a_ w_ R_ rest_ vs88 hm hs ht
                    replace hs : St _ _ _ (feet []) [] _ _ := hs
                    have hm0 := hm.mid
                    have t2 := ht 2 (twB_spec 18 _ (by kernel_rfl))
                    have e2 : _ = some (vs88 2) := t2.val rfl
                    rw [show vs88 2 = .bool (true) from t2.2.1] at e2
                    replace hs := hs.learn e2
                    have t6 := ht 6 (twB_spec 18 _ (by kernel_rfl))
                    have e6 : _ = some (vs88 6) := t6.val rfl
                    rw [show vs88 6 = .bool (true) from t6.2.1] at e6
                    replace hs := hs.learn e6
                    have hs0 := hs.bare
                    refine st_pickT hs rfl rfl rfl ?_; clear hs; intro a w hs
                    exact wpList_nil ⟨rfl, _, _, hs0, (.c (.c .r)), hs, rfl⟩
                  · intro a_ w_ R_ rest_ vs88 hm hs ht
                    replace hs : St _ _ _ (feet []) [] _ _ := hs
                    have hm0 := hm.mid
                    have t7 := ht 7 (twB_spec 18 _ (by kernel_rfl))
                    have e7 : _ = some (vs88 7) := t7.val rfl
                    rw [show vs88 7 = .bool (true) from t7.2.1] at e7
                    replace hs := hs.learn e7
                    have hs0 := hs.bare
                    refine st_mv hs rfl rfl ?_; clear hs; intro a w hs
                    exact wpList_nil ⟨rfl, _, _, hs0, (.c .r), hs, rfl⟩
                  · intro a_ w_ R_ rest_ vs88 hm hs ht
                    replace hs : St _ _ _ (feet []) [] _ _ := hs
                    have hm0 := hm.mid
                    have t8 := ht 8 (twB_spec 18 _ (by kernel_rfl))
                    have e8 : _ = some (vs88 8) := t8.val rfl
                    rw [show vs88 8 = .bool (true) from t8.2.1] at e8
                    replace hs := hs.learn e8
                    have hs0 := hs.bare
                    refine st_guardT hs rfl rfl rfl ?_
                    refine st_mv hs rfl rfl ?_; clear hs; intro a w hs
                    exact wpList_nil ⟨rfl, _, _, hs0, (.c .r), hs, rfl⟩
                  · intro a_ w_ R_ rest_ vs88 hm hs ht
                    replace hs : St _ _ _ (feet []) [] _ _ := hs
                    have hm0 := hm.mid
                    have t8 := ht 8 (twB_spec 18 _ (by kernel_rfl))
                    have e8 : _ = some (vs88 8) := t8.val rfl
                    rw [show vs88 8 = .bool (true) from t8.2.1] at e8
                    replace hs := hs.learn e8
                    have t9 := ht 9 (twB_spec 18 _ (by kernel_rfl))
                    have e9 : _ = some (vs88 9) := t9.val rfl
                    rw [show vs88 9 = s from t9.2.1] at e9
                    replace hs := hs.learn e9
                    have hs0 := hs.bare
                    refine st_guardT hs rfl rfl rfl ?_
                    refine st_str (bs := (bs.take R.p)) hs rfl (rd_row (hm0.del (.s .z))) Try.underlying22 Try.underlying5 Try.underlying9 rfl ?_; clear hs; intro a w hs
                    exact wpList_nil ⟨rfl, _, _, hs0, (.c (.c .r)), hs, rfl⟩
                  · intro a_ w_ R_ rest_ vs88 hm hs ht
                    replace hs : St _ _ _ (feet []) [] _ _ := hs
                    have hm0 := hm.mid
                    have t8 := ht 8 (twB_spec 18 _ (by kernel_rfl))
                    have e8 : _ = some (vs88 8) := t8.val rfl
                    rw [show vs88 8 = .bool (true) from t8.2.1] at e8
                    replace hs := hs.learn e8
                    have hs0 := hs.bare
                    refine st_guardT hs rfl rfl rfl ?_
                    refine st_mv hs rfl rfl ?_; clear hs; intro a w hs
                    exact wpList_nil ⟨rfl, _, _, hs0, (.c .r), hs, rfl⟩
                  · intro a_ w_ R_ rest_ vs88 hm hs ht
                    replace hs : St _ _ _ (feet []) [] _ _ := hs
                    have hm0 := hm.mid
                    have t8 := ht 8 (twB_spec 18 _ (by kernel_rfl))
                    have e8 : _ = some (vs88 8) := t8.val rfl
                    rw [show vs88 8 = .bool (true) from t8.2.1] at e8
                    replace hs := hs.learn e8
                    have hs0 := hs.bare
                    refine st_guardT hs rfl rfl rfl ?_
                    refine st_mv hs rfl rfl ?_; clear hs; intro a w hs
                    exact wpList_nil ⟨rfl, _, _, hs0, (.c .r), hs, rfl⟩
                  · intro a_ w_ R_ rest_ vs88 hm hs ht
                    replace hs : St _ _ _ (feet []) [] _ _ := hs
                    have hm0 := hm.mid
                    have t8 := ht 8 (twB_spec 18 _ (by kernel_rfl))
                    have e8 : _ = some (vs88 8) := t8.val rfl
                    rw [show vs88 8 = .bool (true) from t8.2.1] at e8
                    replace hs := hs.learn e8
                    have t11 := ht 11 (twB_spec 18 _ (by kernel_rfl))
                    have e11 : _ = some (vs88 11) := t11.val rfl
                    rw [show vs88 11 = v from t11.2.1] at e11
                    replace hs := hs.learn e11
                    have t12 := ht 12 (twB_spec 18 _ (by kernel_rfl))
                    have e12 : _ = some (vs88 12) := t12.val rfl
                    rw [show vs88 12 = .int .i64 ((((((rInt bs R).2)).p : Nat) : Int)) from t12.2.1] at e12
                    replace hs := hs.learn e12
                    have hs0 := hs.bare
                    refine st_guardT hs rfl rfl rfl ?_
                    refine st_slcH (j := (((rInt bs R).2)).p) hs rfl rfl rfl (hm.rd0 hb) (by omega) Try.underlying22 Try.sizeOf5 rfl ?_; clear hs; intro a w hs
                    exact wpList_nil ⟨rfl, _, _, hs0, (.c (.c (.c .r))), hs, rfl⟩
                  · intro a_ w_ R_ rest_ vs88 hm hs ht
                    replace hs : St _ _ _ (feet []) [] _ _ := hs
                    have hm0 := hm.mid
                    have t8 := ht 8 (twB_spec 18 _ (by kernel_rfl))
                    have e8 : _ = some (vs88 8) := t8.val rfl
                    rw [show vs88 8 = .bool (true) from t8.2.1] at e8
                    replace hs := hs.learn e8
                    have t13 := ht 13 (twB_spec 18 _ (by kernel_rfl))
                    have e13 : _ = some (vs88 13) := t13.val rfl
                    rw [show vs88 13 = slcV v 1 0 ((((rInt bs R).2)).p) from t13.2.1] at e13
                    replace hs := hs.learn e13
                    have hs0 := hs.bare
                    refine st_guardT hs rfl rfl rfl ?_
                    refine st_str (bs := (bs.take ((((rInt bs R).2)).p))) hs rfl ((hm.rd0 hb).slcT (h := ((((rInt bs R).2)).p)) (by omega)) Try.underlying22 Try.underlying5 Try.underlying9 rfl ?_; clear hs; intro a w hs
                    exact wpList_nil ⟨rfl, _, _, hs0, (.c (.c .r)), hs, rfl⟩
                  · intro a_ w_ R_ rest_ vs88 hm hs ht
                    replace hs : St _ _ _ (feet []) [] _ _ := hs
                    have hm0 := hm.mid
                    have t8 := ht 8 (twB_spec 18 _ (by kernel_rfl))
                    have e8 : _ = some (vs88 8) := t8.val rfl
                    rw [show vs88 8 = .bool (true) from t8.2.1] at e8
                    replace hs := hs.learn e8
                    have t10 := ht 10 (twB_spec 18 _ (by kernel_rfl))
                    have e10 : _ = some (vs88 10) := t10.val rfl
                    rw [show vs88 10 = .string (strB (bs.take R.p)) from t10.2.1] at e10
                    replace hs := hs.learn e10
                    have t14 := ht 14 (twB_spec 18 _ (by kernel_rfl))
                    have e14 : _ = some (vs88 14) := t14.val rfl
                    rw [show vs88 14 = .string (strB ((bs.take ((((rInt bs R).2)).p)))) from t14.2.1] at e14
                    replace hs := hs.learn e14
                    have hs0 := hs.bare
                    refine st_guardT hs rfl rfl rfl ?_
                    refine st_eqs (p := strB (bs.take R.p)) (q := strB ((bs.take ((((rInt bs R).2)).p)))) hs rfl rfl rfl ?_; clear hs; intro a w hs
                    have hb_ : ((strB (bs.take R.p)).toList == (strB ((bs.take ((((rInt bs R).2)).p)))).toList) = true := by first | (exfalso; omega) | (rw [hha]; exact beq_self_eq_true _) | exact beq_self_eq_true _
                    rw [hb_] at hs; clear hb_
                    exact wpList_nil ⟨rfl, _, _, hs0, (.c (.c (.c .r))), hs, rfl⟩
                  · intro a_ w_ R_ rest_ vs88 hm hs ht
                    replace hs : St _ _ _ (feet []) [] _ _ := hs
                    have hm0 := hm.mid
                    have t8 := ht 8 (twB_spec 18 _ (by kernel_rfl))
                    have e8 : _ = some (vs88 8) := t8.val rfl
                    rw [show vs88 8 = .bool (true) from t8.2.1] at e8
                    replace hs := hs.learn e8
                    have t15 := ht 15 (twB_spec 18 _ (by kernel_rfl))
                    have e15 : _ = some (vs88 15) := t15.val rfl
                    rw [show vs88 15 = .bool (true) from t15.2.1] at e15
                    replace hs := hs.learn e15
                    have hs0 := hs.bare
                    refine st_pickT hs rfl rfl rfl ?_; clear hs; intro a w hs
                    exact wpList_nil ⟨rfl, _, _, hs0, (.c (.c .r)), hs, rfl⟩
                  · intro a_ w_ R_ rest_ vs88 hm hs ht
                    replace hs : St _ _ _ (feet []) [] _ _ := hs
                    have hm0 := hm.mid
                    have t16 := ht 16 (twB_spec 18 _ (by kernel_rfl))
                    have e16 : _ = some (vs88 16) := t16.val rfl
                    rw [show vs88 16 = .bool (true) from t16.2.1] at e16
                    replace hs := hs.learn e16
                    have hs0 := hs.bare
                    refine st_as hs rfl rfl ?_; clear hs; intro a w hs
                    exact wpList_nil ⟨rfl, _, _, hs0, (.c .r), hs, rfl⟩
                · clear hs w a; intro a w vs88 hs hf
                  replace hs : St _ _ _ _ [blk g62 [v, .int .i64 (((((rInt bs R).2).p : Nat) : Int)), .int .i64 (((((rInt bs R).2).e : Nat) : Int))] 76, row s 5 1 ((bs.take R.p).length) (bytesV (bs.take R.p))] _ _ := hs
                  obtain ⟨e17, q17⟩ := hf 17 (by decide)
                  replace e17 : _ = some (vs88 17) := e17.val rfl
                  rw [show vs88 17 = .bool (true) from q17] at e17
                  replace hs := hs.learn e17; clear e17 q17
                  clear hf
                  refine then_n (hK87 _ _ ?_)
                  refine wp_ret ?_
                  replace hs := hs.drop (.c (.s .z) (.c .z .n))
                  exact fin hs rfl rfl ⟨rfl, rfl⟩
              ·
                replace hc83 := not_f hc83
                replace hc83 := eq_of_beq hc83
                have hmo := rInt_more (bs := bs) (R := R) (by omega) (by omega) (by omega)
                have hmol := congrArg List.length hmo.2
                have htk : (bs.take R.p).length ≤ m := by rw [List.length_take]; omega
                have hvl := vlen_le (zigI (rInt bs R).1).toNat
                have hzr := zag_range (rUint bs 18446744073709551615#64 R).1
                rw [show zagI (rUint bs 18446744073709551615#64 R).1 = (rInt bs R).1 from rfl] at hzr
                refine wp_skip ?_
                refine then_n (hK80 _ _ ?_)
                refine wp_region_lit ?_
                refine st_mv hs rfl rfl ?_; clear hs w a; intro a w hs
                refine st_mv hs rfl rfl ?_; clear hs w a; intro a w hs
                refine st_callP (v := .int .u64 ((((zigI ((rInt bs R).1)).toNat : Nat) : Int))) hs (.c rfl .n) Try.call33 (zig_ok ((rInt bs R).1) _ (by omega)) rfl ?_; clear hs w a; intro a w hs
                refine st_call hs (.c rfl .n) Try.call27 .n (put_ok (zigI ((rInt bs R).1)) _) rfl ?_; clear hs w a; rintro v89 _ a w rfl hs; simp only [List.cons_append, List.nil_append] at hs
                refine st_app (size := 1) (bytes := 1) hs rfl rfl (.s (.s .z)) (rd_row (hs.mem.del .z)) (oneCell_bytesV _) Try.underlying22 (i := Try.t5) rfl rfl rfl rfl rfl (by decide) (by omega) (by simp only [maxLen]; omega) rfl ?_; clear hs w a; intro v90 a w hs
                refine st_as hs rfl rfl ?_; clear hs w a; intro a w hs
                refine wpList_nil ?_
                refine in_n ?_
                refine then_n (hK75 _ _ ?_)
                refine wp_region_lit ?_
                refine st_addR hs rfl rfl (by omega) rfl ?_; clear hs w a; intro a w hs
                refine st_mv hs rfl rfl ?_; clear hs w a; intro a w hs
                refine wpList_nil ?_
                refine then_n ?_
                replace hs := hs.rerow .z (m' := (bs.take (rInt bs R).2.p).length) (xs' := bytesV (bs.take (rInt bs R).2.p)) (by rw [hmo.2]; simp [vlen]) (by rw [hmo.2, bytesV_append])
                replace hs := hs.drop (.c (.s .z) .n)
                refine ⟨_, ?_, q + 1, (rInt bs R).2, v90, rfl, hs.sub (.c rfl (.c rfl (.c rfl (.c rfl (.c rfl .n))))), by omega, by omega, by omega⟩
                omega
            ·
              replace hc73 := of_decide_eq_false hc73
              refine wp_exit ?_
              refine th_e ?_
              refine th_e ?_
              refine in_hit ?_
              refine then_n (hK66 _ _ ?_)
              refine wp_seq_k fun K91 hK92 => ?_
              refine wp_region_lit ?_
              refine st_mv hs rfl rfl ?_; clear hs w a; intro a w hs
              refine st_callP (v := .int .i64 (((R.p : Nat) : Int))) hs (.c rfl .n) Try.call40 (rat_ok g62 _ _ bs R _ (hs.rd0 hb) (hs.mem.del (.s .z)) (by omega)) rfl ?_; clear hs w a; intro a w hs
              refine st_as hs rfl rfl ?_; clear hs w a; intro a w hs
              refine wpList_nil ?_
              refine then_n (hK92 _ _ ?_)
              refine wp_seq_k fun K93 hK94 => ?_
              replace hs := hs.sub (F' := [(14, .int .i64 (((R.p : Nat) : Int))), (89, .int .i64 (((R.p : Nat) : Int))), (88, .pointer (some ⟨g62, 0, none⟩)), (76, .bool (decide ((q : Int) < ((m : Int) + 1)))), (1, v), (11, .pointer (some ⟨g62, 0, none⟩)), (12, s), (74, .int .i64 ((m : Int) + 1)), (75, .int .i64 ((q : Int)))]) (.c rfl (.c rfl (.c rfl (.c rfl (.c rfl (.c rfl (.c rfl (.c rfl (.c rfl .n)))))))))
              refine wp_drawG (M0 := [row s 5 1 ((bs.take R.p).length) (bytesV (bs.take R.p)), blk g62 [v, .int .i64 (((R.p : Nat) : Int)), .int .i64 (((R.e : Nat) : Int))] 76]) (Ds := [⟨[], [], [], fun vs95 => vs95 0 = .int .i64 (((R.p : Nat) : Int)), fun vs95 => []⟩, ⟨[], [], [], fun vs95 => vs95 1 = .bool (true), fun vs95 => []⟩, ⟨[], [], [], fun vs95 => vs95 2 = .bool (true), fun vs95 => []⟩, ⟨[], [], [], fun vs95 => vs95 3 = .int .i64 (((R.p : Nat) : Int)), fun vs95 => []⟩, ⟨[], [], [], fun vs95 => vs95 4 = v, fun vs95 => []⟩, ⟨[], [], [], fun vs95 => vs95 5 = .int .i64 ((m : Int)), fun vs95 => []⟩, ⟨[], [], [], fun vs95 => vs95 6 = .bool (true), fun vs95 => []⟩, ⟨[], [], [], fun vs95 => vs95 7 = .bool (true), fun vs95 => []⟩, ⟨[], [], [], fun vs95 => vs95 8 = .bool (true), fun vs95 => []⟩, ⟨[], [], [], fun vs95 => vs95 9 = s, fun vs95 => []⟩, ⟨[], [], [], fun vs95 => vs95 10 = .string (strB (bs.take R.p)), fun vs95 => []⟩, ⟨[], [], [], fun vs95 => vs95 11 = v, fun vs95 => []⟩, ⟨[], [], [], fun vs95 => vs95 12 = .int .i64 (((R.p : Nat) : Int)), fun vs95 => []⟩, ⟨[], [], [], fun vs95 => vs95 13 = slcV v 1 0 R.p, fun vs95 => []⟩, ⟨[], [], [], fun vs95 => vs95 14 = .string (strB (bs.take R.p)), fun vs95 => []⟩, ⟨[], [], [], fun vs95 => vs95 15 = .bool (true), fun vs95 => []⟩, ⟨[], [], [], fun vs95 => vs95 16 = .bool (true), fun vs95 => []⟩, ⟨[], [], [], fun vs95 => vs95 17 = .bool (true), fun vs95 => []⟩]) (by kernel_rfl) hs rfl .n (by kernel_rfl) (by kernel_rfl) ?_ ?_
              · refine (.c ?_ (.c ?_ (.c ?_ (.c ?_ (.c ?_ (.c ?_ (.c ?_ (.c ?_ (.c ?_ (.c ?_ (.c ?_ (.c ?_ (.c ?_ (.c ?_ (.c ?_ (.c ?_ (.c ?_ (.c ?_ .n))))))))))))))))))
                · intro a_ w_ R_ rest_ vs95 hm hs ht
                  replace hs : St _ _ _ (feet []) [] _ _ := hs
                  have hm0 := hm.mid
                  have hs0 := hs.bare
                  refine st_mv hs rfl rfl ?_; clear hs; intro a w hs
                  exact wpList_nil ⟨rfl, _, _, hs0, .r, hs, rfl⟩
                · intro a_ w_ R_ rest_ vs95 hm hs ht
                  replace hs : St _ _ _ (feet []) [] _ _ := hs
                  have hm0 := hm.mid
                  have t0 := ht 0 (twB_spec 18 _ (by kernel_rfl))
                  have e0 : _ = some (vs95 0) := t0.val rfl
                  rw [show vs95 0 = .int .i64 (((R.p : Nat) : Int)) from t0.2.1] at e0
                  replace hs := hs.learn e0
                  have hs0 := hs.bare
                  refine st_geq hs rfl rfl rfl ?_; clear hs; intro a w hs
                  have hb_ : (decide (0 ≤ (((R.p : Nat) : Int)))) = true := decide_eq_true (by omega)
                  rw [hb_] at hs; clear hb_
                  exact wpList_nil ⟨rfl, _, _, hs0, (.c .r), hs, rfl⟩
                · intro a_ w_ R_ rest_ vs95 hm hs ht
                  replace hs : St _ _ _ (feet []) [] _ _ := hs
                  have hm0 := hm.mid
                  have t1 := ht 1 (twB_spec 18 _ (by kernel_rfl))
                  have e1 : _ = some (vs95 1) := t1.val rfl
                  rw [show vs95 1 = .bool (true) from t1.2.1] at e1
                  replace hs := hs.learn e1
                  have hs0 := hs.bare
                  refine st_mv hs rfl rfl ?_; clear hs; intro a w hs
                  exact wpList_nil ⟨rfl, _, _, hs0, (.c .r), hs, rfl⟩
                · intro a_ w_ R_ rest_ vs95 hm hs ht
                  replace hs : St _ _ _ (feet []) [] _ _ := hs
                  have hm0 := hm.mid
                  have t2 := ht 2 (twB_spec 18 _ (by kernel_rfl))
                  have e2 : _ = some (vs95 2) := t2.val rfl
                  rw [show vs95 2 = .bool (true) from t2.2.1] at e2
                  replace hs := hs.learn e2
                  have hs0 := hs.bare
                  refine st_guardT hs rfl rfl rfl ?_
                  refine st_mv hs rfl rfl ?_; clear hs; intro a w hs
                  exact wpList_nil ⟨rfl, _, _, hs0, (.c .r), hs, rfl⟩
                · intro a_ w_ R_ rest_ vs95 hm hs ht
                  replace hs : St _ _ _ (feet []) [] _ _ := hs
                  have hm0 := hm.mid
                  have t2 := ht 2 (twB_spec 18 _ (by kernel_rfl))
                  have e2 : _ = some (vs95 2) := t2.val rfl
                  rw [show vs95 2 = .bool (true) from t2.2.1] at e2
                  replace hs := hs.learn e2
                  have hs0 := hs.bare
                  refine st_guardT hs rfl rfl rfl ?_
                  refine st_mv hs rfl rfl ?_; clear hs; intro a w hs
                  exact wpList_nil ⟨rfl, _, _, hs0, (.c .r), hs, rfl⟩
                · intro a_ w_ R_ rest_ vs95 hm hs ht
                  replace hs : St _ _ _ (feet []) [] _ _ := hs
                  have hm0 := hm.mid
                  have t2 := ht 2 (twB_spec 18 _ (by kernel_rfl))
                  have e2 : _ = some (vs95 2) := t2.val rfl
                  rw [show vs95 2 = .bool (true) from t2.2.1] at e2
                  replace hs := hs.learn e2
                  have t4 := ht 4 (twB_spec 18 _ (by kernel_rfl))
                  have e4 : _ = some (vs95 4) := t4.val rfl
                  rw [show vs95 4 = v from t4.2.1] at e4
                  replace hs := hs.learn e4
                  have hs0 := hs.bare
                  refine st_guardT hs rfl rfl rfl ?_
                  refine st_len hs rfl (hm.rd0 hb).isSl Try.underlying22 rfl ?_; clear hs; intro a w hs
                  exact wpList_nil ⟨rfl, _, _, hs0, (.c (.c .r)), hs, rfl⟩
                · intro a_ w_ R_ rest_ vs95 hm hs ht
                  replace hs : St _ _ _ (feet []) [] _ _ := hs
                  have hm0 := hm.mid
                  have t2 := ht 2 (twB_spec 18 _ (by kernel_rfl))
                  have e2 : _ = some (vs95 2) := t2.val rfl
                  rw [show vs95 2 = .bool (true) from t2.2.1] at e2
                  replace hs := hs.learn e2
                  have t3 := ht 3 (twB_spec 18 _ (by kernel_rfl))
                  have e3 : _ = some (vs95 3) := t3.val rfl
                  rw [show vs95 3 = .int .i64 (((R.p : Nat) : Int)) from t3.2.1] at e3
                  replace hs := hs.learn e3
                  have t5 := ht 5 (twB_spec 18 _ (by kernel_rfl))
                  have e5 : _ = some (vs95 5) := t5.val rfl
                  rw [show vs95 5 = .int .i64 ((m : Int)) from t5.2.1] at e5
                  replace hs := hs.learn e5
                  have hs0 := hs.bare
                  refine st_guardT hs rfl rfl rfl ?_
                  refine st_leq hs rfl rfl rfl ?_; clear hs; intro a w hs
                  have hb_ : (decide ((((R.p : Nat) : Int)) ≤ (m : Int))) = true := decide_eq_true (by omega)
                  rw [hb_] at hs; clear hb_
                  exact wpList_nil ⟨rfl, _, _, hs0, (.c (.c (.c .r))), hs, rfl⟩
                · intro a_ w_ R_ rest_ vs95 hm hs ht
                  replace hs : St _ _ _ (feet []) [] _ _ := hs
                  have hm0 := hm.mid
                  have t2 := ht 2 (twB_spec 18 _ (by kernel_rfl))
                  have e2 : _ = some (vs95 2) := t2.val rfl
                  rw [show vs95 2 = .bool (true) from t2.2.1] at e2
                  replace hs := hs.learn e2
                  have t6 := ht 6 (twB_spec 18 _ (by kernel_rfl))
                  have e6 : _ = some (vs95 6) := t6.val rfl
                  rw [show vs95 6 = .bool (true) from t6.2.1] at e6
                  replace hs := hs.learn e6
                  have hs0 := hs.bare
                  refine st_pickT hs rfl rfl rfl ?_; clear hs; intro a w hs
                  exact wpList_nil ⟨rfl, _, _, hs0, (.c (.c .r)), hs, rfl⟩
                · intro a_ w_ R_ rest_ vs95 hm hs ht
                  replace hs : St _ _ _ (feet []) [] _ _ := hs
                  have hm0 := hm.mid
                  have t7 := ht 7 (twB_spec 18 _ (by kernel_rfl))
                  have e7 : _ = some (vs95 7) := t7.val rfl
                  rw [show vs95 7 = .bool (true) from t7.2.1] at e7
                  replace hs := hs.learn e7
                  have hs0 := hs.bare
                  refine st_mv hs rfl rfl ?_; clear hs; intro a w hs
                  exact wpList_nil ⟨rfl, _, _, hs0, (.c .r), hs, rfl⟩
                · intro a_ w_ R_ rest_ vs95 hm hs ht
                  replace hs : St _ _ _ (feet []) [] _ _ := hs
                  have hm0 := hm.mid
                  have t8 := ht 8 (twB_spec 18 _ (by kernel_rfl))
                  have e8 : _ = some (vs95 8) := t8.val rfl
                  rw [show vs95 8 = .bool (true) from t8.2.1] at e8
                  replace hs := hs.learn e8
                  have hs0 := hs.bare
                  refine st_guardT hs rfl rfl rfl ?_
                  refine st_mv hs rfl rfl ?_; clear hs; intro a w hs
                  exact wpList_nil ⟨rfl, _, _, hs0, (.c .r), hs, rfl⟩
                · intro a_ w_ R_ rest_ vs95 hm hs ht
                  replace hs : St _ _ _ (feet []) [] _ _ := hs
                  have hm0 := hm.mid
                  have t8 := ht 8 (twB_spec 18 _ (by kernel_rfl))
                  have e8 : _ = some (vs95 8) := t8.val rfl
                  rw [show vs95 8 = .bool (true) from t8.2.1] at e8
                  replace hs := hs.learn e8
                  have t9 := ht 9 (twB_spec 18 _ (by kernel_rfl))
                  have e9 : _ = some (vs95 9) := t9.val rfl
                  rw [show vs95 9 = s from t9.2.1] at e9
                  replace hs := hs.learn e9
                  have hs0 := hs.bare
                  refine st_guardT hs rfl rfl rfl ?_
                  refine st_str (bs := (bs.take R.p)) hs rfl (rd_row (hm0.del .z)) Try.underlying22 Try.underlying5 Try.underlying9 rfl ?_; clear hs; intro a w hs
                  exact wpList_nil ⟨rfl, _, _, hs0, (.c (.c .r)), hs, rfl⟩
                · intro a_ w_ R_ rest_ vs95 hm hs ht
                  replace hs : St _ _ _ (feet []) [] _ _ := hs
                  have hm0 := hm.mid
                  have t8 := ht 8 (twB_spec 18 _ (by kernel_rfl))
                  have e8 : _ = some (vs95 8) := t8.val rfl
                  rw [show vs95 8 = .bool (true) from t8.2.1] at e8
                  replace hs := hs.learn e8
                  have hs0 := hs.bare
                  refine st_guardT hs rfl rfl rfl ?_
                  refine st_mv hs rfl rfl ?_; clear hs; intro a w hs
                  exact wpList_nil ⟨rfl, _, _, hs0, (.c .r), hs, rfl⟩
                · intro a_ w_ R_ rest_ vs95 hm hs ht
                  replace hs : St _ _ _ (feet []) [] _ _ := hs
                  have hm0 := hm.mid
                  have t8 := ht 8 (twB_spec 18 _ (by kernel_rfl))
                  have e8 : _ = some (vs95 8) := t8.val rfl
                  rw [show vs95 8 = .bool (true) from t8.2.1] at e8
                  replace hs := hs.learn e8
                  have hs0 := hs.bare
                  refine st_guardT hs rfl rfl rfl ?_
                  refine st_mv hs rfl rfl ?_; clear hs; intro a w hs
                  exact wpList_nil ⟨rfl, _, _, hs0, (.c .r), hs, rfl⟩
                · intro a_ w_ R_ rest_ vs95 hm hs ht
                  replace hs : St _ _ _ (feet []) [] _ _ := hs
                  have hm0 := hm.mid
                  have t8 := ht 8 (twB_spec 18 _ (by kernel_rfl))
                  have e8 : _ = some (vs95 8) := t8.val rfl
                  rw [show vs95 8 = .bool (true) from t8.2.1] at e8
                  replace hs := hs.learn e8
                  have t11 := ht 11 (twB_spec 18 _ (by kernel_rfl))
                  have e11 : _ = some (vs95 11) := t11.val rfl
                  rw [show vs95 11 = v from t11.2.1] at e11
                  replace hs := hs.learn e11
                  have t12 := ht 12 (twB_spec 18 _ (by kernel_rfl))
                  have e12 : _ = some (vs95 12) := t12.val rfl
                  rw [show vs95 12 = .int .i64 (((R.p : Nat) : Int)) from t12.2.1] at e12
                  replace hs := hs.learn e12
                  have hs0 := hs.bare
                  refine st_guardT hs rfl rfl rfl ?_
                  refine st_slcH (j := R.p) hs rfl rfl rfl (hm.rd0 hb) (by omega) Try.underlying22 Try.sizeOf5 rfl ?_; clear hs; intro a w hs
                  exact wpList_nil ⟨rfl, _, _, hs0, (.c (.c (.c .r))), hs, rfl⟩
                · intro a_ w_ R_ rest_ vs95 hm hs ht
                  replace hs : St _ _ _ (feet []) [] _ _ := hs
                  have hm0 := hm.mid
                  have t8 := ht 8 (twB_spec 18 _ (by kernel_rfl))
                  have e8 : _ = some (vs95 8) := t8.val rfl
                  rw [show vs95 8 = .bool (true) from t8.2.1] at e8
                  replace hs := hs.learn e8
                  have t13 := ht 13 (twB_spec 18 _ (by kernel_rfl))
                  have e13 : _ = some (vs95 13) := t13.val rfl
                  rw [show vs95 13 = slcV v 1 0 R.p from t13.2.1] at e13
                  replace hs := hs.learn e13
                  have hs0 := hs.bare
                  refine st_guardT hs rfl rfl rfl ?_
                  refine st_str (bs := (bs.take R.p)) hs rfl ((hm.rd0 hb).slcT (h := R.p) (by omega)) Try.underlying22 Try.underlying5 Try.underlying9 rfl ?_; clear hs; intro a w hs
                  exact wpList_nil ⟨rfl, _, _, hs0, (.c (.c .r)), hs, rfl⟩
                · intro a_ w_ R_ rest_ vs95 hm hs ht
                  replace hs : St _ _ _ (feet []) [] _ _ := hs
                  have hm0 := hm.mid
                  have t8 := ht 8 (twB_spec 18 _ (by kernel_rfl))
                  have e8 : _ = some (vs95 8) := t8.val rfl
                  rw [show vs95 8 = .bool (true) from t8.2.1] at e8
                  replace hs := hs.learn e8
                  have t10 := ht 10 (twB_spec 18 _ (by kernel_rfl))
                  have e10 : _ = some (vs95 10) := t10.val rfl
                  rw [show vs95 10 = .string (strB (bs.take R.p)) from t10.2.1] at e10
                  replace hs := hs.learn e10
                  have t14 := ht 14 (twB_spec 18 _ (by kernel_rfl))
                  have e14 : _ = some (vs95 14) := t14.val rfl
                  rw [show vs95 14 = .string (strB (bs.take R.p)) from t14.2.1] at e14
                  replace hs := hs.learn e14
                  have hs0 := hs.bare
                  refine st_guardT hs rfl rfl rfl ?_
                  refine st_eqs (p := strB (bs.take R.p)) (q := strB (bs.take R.p)) hs rfl rfl rfl ?_; clear hs; intro a w hs
                  have hb_ : ((strB (bs.take R.p)).toList == (strB (bs.take R.p)).toList) = true := by first | (exfalso; omega) | (rw [hha]; exact beq_self_eq_true _) | exact beq_self_eq_true _
                  rw [hb_] at hs; clear hb_
                  exact wpList_nil ⟨rfl, _, _, hs0, (.c (.c (.c .r))), hs, rfl⟩
                · intro a_ w_ R_ rest_ vs95 hm hs ht
                  replace hs : St _ _ _ (feet []) [] _ _ := hs
                  have hm0 := hm.mid
                  have t8 := ht 8 (twB_spec 18 _ (by kernel_rfl))
                  have e8 : _ = some (vs95 8) := t8.val rfl
                  rw [show vs95 8 = .bool (true) from t8.2.1] at e8
                  replace hs := hs.learn e8
                  have t15 := ht 15 (twB_spec 18 _ (by kernel_rfl))
                  have e15 : _ = some (vs95 15) := t15.val rfl
                  rw [show vs95 15 = .bool (true) from t15.2.1] at e15
                  replace hs := hs.learn e15
                  have hs0 := hs.bare
                  refine st_pickT hs rfl rfl rfl ?_; clear hs; intro a w hs
                  exact wpList_nil ⟨rfl, _, _, hs0, (.c (.c .r)), hs, rfl⟩
                · intro a_ w_ R_ rest_ vs95 hm hs ht
                  replace hs : St _ _ _ (feet []) [] _ _ := hs
                  have hm0 := hm.mid
                  have t16 := ht 16 (twB_spec 18 _ (by kernel_rfl))
                  have e16 : _ = some (vs95 16) := t16.val rfl
                  rw [show vs95 16 = .bool (true) from t16.2.1] at e16
                  replace hs := hs.learn e16
                  have hs0 := hs.bare
                  refine st_as hs rfl rfl ?_; clear hs; intro a w hs
                  exact wpList_nil ⟨rfl, _, _, hs0, (.c .r), hs, rfl⟩
              · clear hs w a; intro a w vs95 hs hf
                replace hs : St _ _ _ _ [row s 5 1 ((bs.take R.p).length) (bytesV (bs.take R.p)), blk g62 [v, .int .i64 (((R.p : Nat) : Int)), .int .i64 (((R.e : Nat) : Int))] 76] _ _ := hs
                obtain ⟨e17, q17⟩ := hf 17 (by decide)
                replace e17 : _ = some (vs95 17) := e17.val rfl
                rw [show vs95 17 = .bool (true) from q17] at e17
                replace hs := hs.learn e17; clear e17 q17
                clear hf
                refine then_n (hK94 _ _ ?_)
                refine wp_ret ?_
                replace hs := hs.drop (.c (.s .z) (.c .z .n))
                exact fin hs rfl rfl ⟨rfl, rfl⟩
end Go.Proofs.Ytmhkekdhijnnbaa
