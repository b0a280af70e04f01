/- Walks of VarintRows: what each function does, over the program of this seat. Printed by a program of this session. -/
import Derived.Test.YtmhkekdhijnnbaaWvar
namespace Go.Proofs.Ytmhkekdhijnnbaa
open Go Go.Sx Go.RowKit
set_option linter.unusedVariables false
set_option linter.unusedSimpArgs false
set_option maxRecDepth 4000

theorem varintRows_ok (v : Value) (m : Nat) (l : List (BitVec 64)) (w0 : World) (hb : Rd w0 [] v 1 m (l.map fun X => .int .u64 ((X.toNat : Nat) : Int))) : Calls Try.prog 11 #[v] w0 (RetV w0 (.bool true)) := by
  have hbl : l.length = m := by have := hb.len; simpa using this
  have hbe : m ≤ maxLen := hb.le
  simp only [maxLen] at hbe
  refine enter (F0 := [(0, v)]) Try.func11 rfl rfl rfl (.c .n) (Mem.nil _) fun a w hs => ?_
  refine wp_seq_k fun K1 hK2 => ?_
  refine wp_region_lit ?_
  refine st_as hs rfl rfl ?_; clear hs w a; intro a w hs
  refine wpList_nil ?_
  refine then_n (hK2 _ _ ?_)
  refine wp_seq_k fun K3 hK4 => ?_
  refine wp_seq_k fun K5 hK6 => ?_
  refine wp_region_lit ?_
  refine st_mv hs rfl rfl ?_; clear hs w a; intro a w hs
  refine st_len hs rfl (hs.rd0 hb).isSl Try.underlying45 rfl ?_; clear hs w a; intro a w hs
  refine st_gtr hs rfl rfl rfl ?_; clear hs w a; intro a w hs
  refine wpList_nil ?_
  refine then_n (hK6 _ _ ?_)
  refine wp_if hs rfl (fun hc7 => ?_) (fun hc7 => ?_)
  ·
    replace hc7 := of_decide_eq_true hc7
    refine wp_seq_k fun K8 hK9 => ?_
    refine wp_region_lit ?_
    refine st_callP (v := .bool (true)) hs .n Try.call28 (alive05_ok _) rfl ?_; clear hs w a; intro a w hs
    refine st_as hs rfl rfl ?_; clear hs w a; intro a w hs
    refine wpList_nil ?_
    refine then_n (hK9 _ _ ?_)
    refine wp_ret ?_
    refine th_r ?_
    exact fin hs rfl rfl ⟨rfl, rfl⟩
  ·
    replace hc7 := of_decide_eq_false hc7
    refine wp_skip ?_
    refine then_n (hK4 _ _ ?_)
    refine wp_seq_k fun K10 hK11 => ?_
    refine wp_region_lit ?_
    refine st_as hs rfl rfl ?_; clear hs w a; intro a w hs
    refine wpList_nil ?_
    refine then_n (hK11 _ _ ?_)
    refine wp_seq_k fun K12 hK13 => ?_
    refine wp_seq_k fun K14 hK15 => ?_
    refine wp_region_lit ?_
    refine st_mv hs rfl rfl ?_; clear hs w a; intro a w hs
    refine st_len hs rfl (hs.rd0 hb).isSl Try.underlying45 rfl ?_; clear hs w a; intro a w hs
    refine st_mv hs rfl rfl ?_; clear hs w a; intro a w hs
    refine wpList_nil ?_
    refine then_n (hK15 _ _ ?_)
    refine wp_block ?_
    replace hs := hs.addNil 5 1
    refine wp_loopI (fun mm_ a w => ∃ i : Nat, ∃ r : Value, mm_ = m - i ∧ St 71 [(0, v), (3, r), (15, v), (16, .int .i64 ((m : Int))), (17, .int .i64 ((i : Int)))] w0 [] [row r 5 1 ((vputs (l.take i)).length) (bytesV (vputs (l.take i)))] a w ∧ i ≤ m) ⟨0, .slice none 0 0, rfl, hs.sub (.c rfl (.c rfl (.c rfl (.c rfl (.c rfl .n))))), by omega⟩ ?_
    clear hs w a; rintro mm_ a w ⟨i, r, rfl, hs, hI1_0⟩
    have hlv := length_vputs (l.take i)
    have hlt : (l.take i).length ≤ m := by rw [List.length_take]; omega
    have hvx := vlen_le (l.getD i 0).toNat
    refine wp_seq_k fun K16 hK17 => ?_
    refine wp_region_lit ?_
    refine st_lss hs rfl rfl rfl ?_; clear hs w a; intro a w hs
    refine wpList_nil ?_
    refine then_n (hK17 _ _ ?_)
    refine wp_seq_k fun K18 hK19 => ?_
    refine wp_if hs rfl (fun hc20 => ?_) (fun hc20 => ?_)
    ·
      replace hc20 := of_decide_eq_true hc20
      refine wp_skip ?_
      refine then_n (hK19 _ _ ?_)
      refine wp_seq_k fun K21 hK22 => ?_
      refine wp_block ?_
      refine wp_seq_k fun K23 hK24 => ?_
      refine wp_region_lit ?_
      refine st_ia1 (j := i) hs rfl rfl (hs.rd0 hb) rfl (by omega) Try.underlying45 Try.sizeOf35 rfl ?_; clear hs w a; intro a w hs
      refine st_ld hs rfl (hs.rd0 hb) (u64s_getD l (by omega)) Try.isAgg35 rfl ?_; clear hs w a; intro a w hs
      refine st_as hs rfl rfl ?_; clear hs w a; intro a w hs
      refine wpList_nil ?_
      refine then_n (hK24 _ _ ?_)
      refine wp_region_lit ?_
      refine st_mv hs rfl rfl ?_; clear hs w a; intro a w hs
      refine st_mv hs rfl rfl ?_; clear hs w a; intro a w hs
      refine st_call hs (.c rfl .n) Try.call27 .n (put_ok (l.getD i 0) _) rfl ?_; clear hs w a; rintro v25 _ a w rfl hs; simp only [List.cons_append, List.nil_append] at hs
      refine st_app (size := 1) (bytes := 1) hs rfl rfl (.s .z) (rd_row (hs.mem.del .z)) (oneCell_bytesV _) Try.underlying22 (i := Try.t5) rfl rfl rfl rfl rfl (by decide) (by omega) (by simp only [maxLen]; omega) rfl ?_; clear hs w a; intro v26 a w hs
      refine st_as hs rfl rfl ?_; clear hs w a; intro a w hs
      refine wpList_nil ?_
      refine in_n ?_
      refine then_n (hK22 _ _ ?_)
      refine wp_region_lit ?_
      refine st_addR hs rfl rfl (by omega) rfl ?_; clear hs w a; intro a w hs
      refine st_mv hs rfl rfl ?_; clear hs w a; intro a w hs
      refine wpList_nil ?_
      refine then_n ?_
      replace hs := hs.rerow .z (m' := (vputs (l.take (i + 1))).length) (xs' := bytesV (vputs (l.take (i + 1)))) (by rw [vputs_take l i (by omega)]; simp [vlen]) (by rw [vputs_take l i (by omega), bytesV_append])
      replace hs := hs.drop (.c (.s .z) .n)
      refine ⟨_, ?_, i + 1, v26, rfl, hs.sub (.c rfl (.c rfl (.c rfl (.c rfl (.c rfl .n))))), by omega⟩
      omega
    ·
      replace hc20 := of_decide_eq_false hc20
      refine wp_exit ?_
      refine th_e ?_
      refine th_e ?_
      refine in_hit ?_
      refine then_n (hK13 _ _ ?_)
      refine wp_seq_k fun K27 hK28 => ?_
      refine wp_seq_k fun K29 hK30 => ?_
      refine wp_region_lit ?_
      refine st_mv hs rfl rfl ?_; clear hs w a; intro a w hs
      refine st_len hs rfl (hs.rd0 hb).isSl Try.underlying45 rfl ?_; clear hs w a; intro a w hs
      refine st_mv hs rfl rfl ?_; clear hs w a; intro a w hs
      refine wpList_nil ?_
      refine then_n (hK30 _ _ ?_)
      refine wp_block ?_
      replace hs := hs.rerow .z (m' := (vputs l).length) (xs' := bytesV (vputs l)) (by rw [show i = m by omega, ← hbl, List.take_length]) (by rw [show i = m by omega, ← hbl, List.take_length])
      refine wp_loopI (fun mm_ a w => ∃ j : Nat, ∃ s : Value, mm_ = m - j ∧ St 71 [(0, v), (3, s), (26, v), (27, .int .i64 ((m : Int))), (28, .int .i64 ((j : Int)))] w0 [] [row r 5 1 ((vputs l).length) (bytesV (vputs l))] a w ∧ j ≤ m ∧ (∀ w', Rd w' [] r 1 (vputs l).length (bytesV (vputs l)) → Rd w' [] s 1 (vputs (l.drop j)).length (bytesV (vputs (l.drop j))))) ⟨0, r, rfl, hs.sub (.c rfl (.c rfl (.c rfl (.c rfl (.c rfl .n))))), by omega, fun _ h => h⟩ ?_
      clear hs w a; rintro mm_ a w ⟨j, s, rfl, hs, hI2_0, hI2_1⟩
      refine wp_seq_k fun K31 hK32 => ?_
      refine wp_region_lit ?_
      refine st_lss hs rfl rfl rfl ?_; clear hs w a; intro a w hs
      refine wpList_nil ?_
      refine then_n (hK32 _ _ ?_)
      refine wp_seq_k fun K33 hK34 => ?_
      refine wp_if hs rfl (fun hc35 => ?_) (fun hc35 => ?_)
      ·
        replace hc35 := of_decide_eq_true hc35
        have hvd := congrArg List.length (vputs_drop l j (by omega))
        rw [List.length_append, show (vput (l.getD j 0).toNat).length = vlen (l.getD j 0).toNat from rfl] at hvd
        have hvp := vlen_pos (l.getD j 0).toNat
        refine wp_skip ?_
        refine then_n (hK34 _ _ ?_)
        refine wp_seq_k fun K36 hK37 => ?_
        refine wp_block ?_
        refine wp_seq_k fun K38 hK39 => ?_
        refine wp_region_lit ?_
        refine st_ia1 (j := j) hs rfl rfl (hs.rd0 hb) rfl (by omega) Try.underlying45 Try.sizeOf35 rfl ?_; clear hs w a; intro a w hs
        refine st_ld hs rfl (hs.rd0 hb) (u64s_getD l (by omega)) Try.isAgg35 rfl ?_; clear hs w a; intro a w hs
        refine st_as hs rfl rfl ?_; clear hs w a; intro a w hs
        refine wpList_nil ?_
        refine then_n (hK39 _ _ ?_)
        refine wp_seq_k fun K40 hK41 => ?_
        refine wp_region_lit ?_
        refine st_mv hs rfl rfl ?_; clear hs w a; intro a w hs
        refine st_callP (v := .tuple #[.int .u64 (((((vget ((vputs (l.drop j)))).1).toNat : Nat) : Int)), .int .i64 ((((vget ((vputs (l.drop j)))).2.1 : Nat) : Int)), .int .i64 ((((vget ((vputs (l.drop j)))).2.2 : Nat) : Int))]) hs (.c rfl .n) Try.call31 (get_ok _ _ ((vputs (l.drop j))) _ (hI2_1 _ (rd_row (hs.mem.del .z)))) rfl ?_; clear hs w a; intro a w hs
        rw [vputs_drop l j (by omega), vget_put] at hs
        refine st_mv hs rfl rfl ?_; clear hs w a; intro a w hs
        refine st_ex hs rfl .z rfl ?_; clear hs w a; intro a w hs
        refine st_ex hs rfl (.s .z) rfl ?_; clear hs w a; intro a w hs
        refine st_ex hs rfl (.s (.s .z)) rfl ?_; clear hs w a; intro a w hs
        refine st_as hs rfl rfl ?_; clear hs w a; intro a w hs
        refine st_as hs rfl rfl ?_; clear hs w a; intro a w hs
        refine st_as hs rfl rfl ?_; clear hs w a; intro a w hs
        refine wpList_nil ?_
        refine then_n (hK41 _ _ ?_)
        refine wp_seq_k fun K42 hK43 => ?_
        refine wp_seq_k fun K44 hK45 => ?_
        refine wp_region_lit ?_
        refine st_mv hs rfl rfl ?_; clear hs w a; intro a w hs
        refine st_neq hs rfl rfl rfl ?_; clear hs w a; intro a w hs
        have hb_ : (!((((0 : Nat) : Int) : Int) == 0)) = false := by first | (simp; done) | (simp; omega)
        rw [hb_] at hs; clear hb_
        refine st_mv hs rfl rfl ?_; clear hs w a; intro a w hs
        refine st_guardT hs rfl rfl rfl ?_
        refine st_mv hs rfl rfl ?_; clear hs w a; intro a w hs
        refine st_guardT hs rfl rfl rfl ?_
        refine st_mv hs rfl rfl ?_; clear hs w a; intro a w hs
        refine st_guardT hs rfl rfl rfl ?_
        refine st_neq hs rfl rfl rfl ?_; clear hs w a; intro a w hs
        have hb_ : (!(((((l.getD j 0).toNat : Nat) : Int) : Int) == ((((l.getD j 0).toNat : Nat) : Int)))) = false := by first | (simp; done) | (simp; omega)
        rw [hb_] at hs; clear hb_
        refine st_pickF hs rfl rfl rfl ?_; clear hs w a; intro a w hs
        refine st_mv hs rfl rfl ?_; clear hs w a; intro a w hs
        refine st_guardT hs rfl rfl rfl ?_
        refine st_mv hs rfl rfl ?_; clear hs w a; intro a w hs
        refine st_guardT hs rfl rfl rfl ?_
        refine st_mv hs rfl rfl ?_; clear hs w a; intro a w hs
        refine st_guardT hs rfl rfl rfl ?_
        refine st_callP (v := .int .i64 (((vlen (l.getD j 0).toNat : Nat) : Int))) hs (.c rfl .n) Try.call30 (size_ok (l.getD j 0) _) rfl ?_; clear hs w a; intro a w hs
        refine st_guardT hs rfl rfl rfl ?_
        refine st_neq hs rfl rfl rfl ?_; clear hs w a; intro a w hs
        have hb_ : (!((((vlen (l.getD j 0).toNat : Nat) : Int) : Int) == (((vlen (l.getD j 0).toNat : Nat) : Int)))) = false := by first | (simp; done) | (simp; omega)
        rw [hb_] at hs; clear hb_
        refine st_pickF hs rfl rfl rfl ?_; clear hs w a; intro a w hs
        refine st_mv hs rfl rfl ?_; clear hs w a; intro a w hs
        refine st_guardT hs rfl rfl rfl ?_
        refine st_mv hs rfl rfl ?_; clear hs w a; intro a w hs
        refine st_guardT hs rfl rfl rfl ?_
        refine st_lss hs rfl rfl rfl ?_; clear hs w a; intro a w hs
        have hb_ : (decide ((((vlen (l.getD j 0).toNat : Nat) : Int)) < 1)) = false := decide_eq_false (by omega)
        rw [hb_] at hs; clear hb_
        refine st_pickF hs rfl rfl rfl ?_; clear hs w a; intro a w hs
        refine st_mv hs rfl rfl ?_; clear hs w a; intro a w hs
        refine st_guardT hs rfl rfl rfl ?_
        refine st_mv hs rfl rfl ?_; clear hs w a; intro a w hs
        refine st_guardT hs rfl rfl rfl ?_
        refine st_mv hs rfl rfl ?_; clear hs w a; intro a w hs
        refine st_guardT hs rfl rfl rfl ?_
        refine st_len hs rfl (hI2_1 _ (rd_row (hs.mem.del .z))).isSl Try.underlying22 rfl ?_; clear hs w a; intro a w hs
        refine st_guardT hs rfl rfl rfl ?_
        refine st_gtr hs rfl rfl rfl ?_; clear hs w a; intro a w hs
        have hb_ : (decide (((((vputs (l.drop j)).length : Nat) : Int)) < (((vlen (l.getD j 0).toNat : Nat) : Int)))) = false := decide_eq_false (by omega)
        rw [hb_] at hs; clear hb_
        refine st_pickF hs rfl rfl rfl ?_; clear hs w a; intro a w hs
        refine wpList_nil ?_
        refine then_n (hK45 _ _ ?_)
        refine wp_cond_false (hs.ev rfl) ?_
        refine wp_skip ?_
        refine then_n (hK43 _ _ ?_)
        refine wp_region_lit ?_
        refine st_mv hs rfl rfl ?_; clear hs w a; intro a w hs
        refine st_mv hs rfl rfl ?_; clear hs w a; intro a w hs
        refine st_slcL (j := vlen (l.getD j 0).toNat) hs rfl rfl rfl (hI2_1 _ (rd_row (hs.mem.del .z))).isSl (by omega) Try.underlying22 Try.sizeOf5 rfl ?_; clear hs w a; intro a w hs
        refine st_as hs rfl rfl ?_; clear hs w a; intro a w hs
        refine wpList_nil ?_
        refine in_n ?_
        refine then_n (hK37 _ _ ?_)
        refine wp_region_lit ?_
        refine st_addR hs rfl rfl (by omega) rfl ?_; clear hs w a; intro a w hs
        refine st_mv hs rfl rfl ?_; clear hs w a; intro a w hs
        refine wpList_nil ?_
        refine then_n ?_
        refine ⟨_, ?_, j + 1, slcV s 1 (vlen (l.getD j 0).toNat) ((vputs (l.drop j)).length), rfl, hs.sub (.c rfl (.c rfl (.c rfl (.c rfl (.c rfl .n))))), by omega, fun w' h => by have h2 := (hI2_1 w' h).slcL (l := vlen (l.getD j 0).toNat) (by omega); rw [show (vputs (l.drop j)).drop (vlen (l.getD j 0).toNat) = vputs (l.drop (j + 1)) by rw [vputs_drop l j (by omega)]; exact List.drop_left' rfl, show (vputs (l.drop j)).length - vlen (l.getD j 0).toNat = (vputs (l.drop (j + 1))).length by omega] at h2; exact h2⟩
        omega
      ·
        replace hc35 := of_decide_eq_false hc35
        refine wp_exit ?_
        refine th_e ?_
        refine th_e ?_
        refine in_hit ?_
        refine then_n (hK28 _ _ ?_)
        refine wp_seq_k fun K46 hK47 => ?_
        refine wp_region_lit ?_
        refine st_callP (v := .bool (true)) hs .n Try.call28 (alive05_ok _) rfl ?_; clear hs w a; intro a w hs
        refine st_mv hs rfl rfl ?_; clear hs w a; intro a w hs
        refine st_guardT hs rfl rfl rfl ?_
        refine st_mv hs rfl rfl ?_; clear hs w a; intro a w hs
        refine st_guardT hs rfl rfl rfl ?_
        refine st_len hs rfl (hI2_1 _ (rd_row (hs.mem.del .z))).isSl Try.underlying22 rfl ?_; clear hs w a; intro a w hs
        refine st_guardT hs rfl rfl rfl ?_
        refine st_eql hs rfl rfl rfl ?_; clear hs w a; intro a w hs
        have hb_ : (((((vputs (l.drop j)).length : Nat) : Int) : Int) == 0) = true := by rw [show j = m by omega, ← hbl, List.drop_length]; rfl
        rw [hb_] at hs; clear hb_
        refine st_pickT hs rfl rfl rfl ?_; clear hs w a; intro a w hs
        refine st_as hs rfl rfl ?_; clear hs w a; intro a w hs
        refine wpList_nil ?_
        refine then_n (hK47 _ _ ?_)
        refine wp_ret ?_
        replace hs := hs.drop (.c .z .n)
        exact fin hs rfl rfl ⟨rfl, rfl⟩
end Go.Proofs.Ytmhkekdhijnnbaa
