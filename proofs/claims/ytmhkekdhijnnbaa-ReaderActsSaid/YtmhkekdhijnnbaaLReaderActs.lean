/- Walks of ReaderActs: what each function does, over the program of this seat. Printed by a program of this session. -/
import Derived.Test.YtmhkekdhijnnbaaWrd2
namespace Go.Proofs.Ytmhkekdhijnnbaa
open Go Go.Sx Go.RowKit
set_option linter.unusedVariables false
set_option linter.unusedSimpArgs false
set_option maxRecDepth 4000

theorem readerActs_ok (v : Value) (m : Nat) (bs : List Byte) (u : Value) (m2 : Nat) (l : List ActR) (w0 : World) (hb : Rd w0 [] v 1 m (bytesV bs)) (hc : Rd w0 [] u 3 m2 (l.flatMap actV)) : Calls Try.prog 15 #[v, u] w0 (RetV w0 (.bool true)) := by
  have hbl : bs.length = m := by have := hb.len; simpa [bytesV] using this
  have hbe : m ≤ maxLen := hb.le
  simp only [maxLen] at hbe
  have hcl : l.length = m2 := by have := hc.len; rw [flat_len actV_len] at this; omega
  have hce : m2 ≤ maxLen := hc.le
  simp only [maxLen] at hce
  refine enter (F0 := [(0, v), (1, u)]) Try.func15 rfl rfl rfl (.c (.c .n)) (Mem.nil _) fun a w hs => ?_
  refine wp_seq_k fun K1 hK2 => ?_
  refine wp_region_lit ?_
  refine st_as hs rfl rfl ?_; clear hs w a; intro a w hs
  refine wpList_nil ?_
  refine then_n (hK2 _ _ ?_)
  refine wp_seq_k fun K3 hK4 => ?_
  refine wp_region_lit ?_
  refine st_mv hs rfl rfl ?_; clear hs w a; intro a w hs
  refine st_call hs (.c rfl .n) Try.call38 .n (new_ok _ _ bs _ (hs.rd0 hb)) rfl ?_; clear hs w a; rintro _ _ a w ⟨g5, rfl, rfl⟩ hs; simp only [List.cons_append, List.nil_append] at hs
  have hleg5 : (⟨0, 0⟩ : Rs).p ≤ bs.length := Nat.zero_le _
  refine st_as hs rfl rfl ?_; clear hs w a; intro a w hs
  refine wpList_nil ?_
  refine then_n (hK4 _ _ ?_)
  refine wp_seq_k fun K6 hK7 => ?_
  refine wp_seq_k fun K8 hK9 => ?_
  refine wp_region_lit ?_
  refine st_callP (v := .bool (true)) hs .n Try.call39 (alive07_ok _) rfl ?_; clear hs w a; intro a w hs
  refine st_not hs rfl rfl ?_; clear hs w a; intro a w hs
  refine st_mv hs rfl rfl ?_; clear hs w a; intro a w hs
  refine st_part (b := !(true)) (fun hc10 => ?_) (fun hc10 => ?_)
  · rw [hc10] at hs
    replace hc10 := not_t hc10
    refine st_guardF hs rfl rfl rfl rfl rfl ?_; clear hs w a; intro a w hs
    refine st_guardF hs rfl rfl rfl rfl rfl ?_; clear hs w a; intro a w hs
    refine st_pickT hs rfl rfl rfl ?_; clear hs w a; intro a w hs
    refine st_mv hs rfl rfl ?_; clear hs w a; intro a w hs
    refine st_guardF hs rfl rfl rfl rfl rfl ?_; clear hs w a; intro a w hs
    refine st_guardF hs rfl rfl rfl rfl rfl ?_; clear hs w a; intro a w hs
    refine st_guardF hs rfl rfl rfl rfl rfl ?_; clear hs w a; intro a w hs
    refine st_pickT hs rfl rfl rfl ?_; clear hs w a; intro a w hs
    refine st_mv hs rfl rfl ?_; clear hs w a; intro a w hs
    refine st_guardF hs rfl rfl rfl rfl rfl ?_; clear hs w a; intro a w hs
    refine st_guardF hs rfl rfl rfl rfl rfl ?_; clear hs w a; intro a w hs
    refine st_guardF hs rfl rfl rfl rfl rfl ?_; clear hs w a; intro a w hs
    refine st_pickT hs rfl rfl rfl ?_; clear hs w a; intro a w hs
    refine wpList_nil ?_
    refine then_n (hK9 _ _ ?_)
    refine wp_cond_true (hs.ev rfl) ?_
    refine wp_seq_k fun K11 hK12 => ?_
    refine wp_region_lit ?_
    refine st_callP (v := .bool (true)) hs .n Try.call39 (alive07_ok _) rfl ?_; clear hs w a; intro a w hs
    refine st_as hs rfl rfl ?_; clear hs w a; intro a w hs
    refine wpList_nil ?_
    refine then_n (hK12 _ _ ?_)
    refine wp_ret ?_
    refine th_r ?_
    replace hs := hs.drop (.c .z .n)
    exact fin hs rfl rfl ⟨rfl, rfl⟩
  · rw [hc10] at hs
    replace hc10 := not_f hc10
    refine st_guardT hs rfl rfl rfl ?_
    refine st_mv hs rfl rfl ?_; clear hs w a; intro a w hs
    refine st_guardT hs rfl rfl rfl ?_
    refine st_eqnil hs rfl rfl Try.underlying52 rfl ?_; clear hs w a; intro a w hs
    refine st_pickF hs rfl rfl rfl ?_; clear hs w a; intro a w hs
    refine st_mv hs rfl rfl ?_; clear hs w a; intro a w hs
    refine st_guardT hs rfl rfl rfl ?_
    refine st_mv hs rfl rfl ?_; clear hs w a; intro a w hs
    refine st_guardT hs rfl rfl rfl ?_
    refine st_len hs rfl (hs.rd0 hb).isSl Try.underlying22 rfl ?_; clear hs w a; intro a w hs
    refine st_guardT hs rfl rfl rfl ?_
    refine st_gtr hs rfl rfl rfl ?_; clear hs w a; intro a w hs
    refine st_pickF hs rfl rfl rfl ?_; clear hs w a; intro a w hs
    refine st_mv hs rfl rfl ?_; clear hs w a; intro a w hs
    refine st_part (b := decide (2000 < (m : Int))) (fun hc13 => ?_) (fun hc13 => ?_)
    · rw [hc13] at hs
      replace hc13 := of_decide_eq_true hc13
      refine st_guardF hs rfl rfl rfl rfl rfl ?_; clear hs w a; intro a w hs
      refine st_guardF hs rfl rfl rfl rfl rfl ?_; clear hs w a; intro a w hs
      refine st_guardF hs rfl rfl rfl rfl rfl ?_; clear hs w a; intro a w hs
      refine st_pickT hs rfl rfl rfl ?_; clear hs w a; intro a w hs
      refine wpList_nil ?_
      refine then_n (hK9 _ _ ?_)
      refine wp_cond_true (hs.ev rfl) ?_
      refine wp_seq_k fun K14 hK15 => ?_
      refine wp_region_lit ?_
      refine st_callP (v := .bool (true)) hs .n Try.call39 (alive07_ok _) rfl ?_; clear hs w a; intro a w hs
      refine st_as hs rfl rfl ?_; clear hs w a; intro a w hs
      refine wpList_nil ?_
      refine then_n (hK15 _ _ ?_)
      refine wp_ret ?_
      refine th_r ?_
      replace hs := hs.drop (.c .z .n)
      exact fin hs rfl rfl ⟨rfl, rfl⟩
    · rw [hc13] at hs
      replace hc13 := of_decide_eq_false hc13
      refine st_guardT hs rfl rfl rfl ?_
      refine st_mv hs rfl rfl ?_; clear hs w a; intro a w hs
      refine st_guardT hs rfl rfl rfl ?_
      refine st_len hs rfl (hs.rd0 hc).isSl Try.underlying51 rfl ?_; clear hs w a; intro a w hs
      refine st_guardT hs rfl rfl rfl ?_
      refine st_gtr hs rfl rfl rfl ?_; clear hs w a; intro a w hs
      refine st_pickF hs rfl rfl rfl ?_; clear hs w a; intro a w hs
      refine wpList_nil ?_
      refine then_n (hK9 _ _ ?_)
      refine wp_if hs rfl (fun hc16 => ?_) (fun hc16 => ?_)
      ·
        replace hc16 := of_decide_eq_true hc16
        refine wp_seq_k fun K17 hK18 => ?_
        refine wp_region_lit ?_
        refine st_callP (v := .bool (true)) hs .n Try.call39 (alive07_ok _) rfl ?_; clear hs w a; intro a w hs
        refine st_as hs rfl rfl ?_; clear hs w a; intro a w hs
        refine wpList_nil ?_
        refine then_n (hK18 _ _ ?_)
        refine wp_ret ?_
        refine th_r ?_
        replace hs := hs.drop (.c .z .n)
        exact fin hs rfl rfl ⟨rfl, rfl⟩
      ·
        replace hc16 := of_decide_eq_false hc16
        refine wp_skip ?_
        refine then_n (hK7 _ _ ?_)
        refine wp_seq_k fun K19 hK20 => ?_
        refine wp_region_lit ?_
        refine st_mv hs rfl rfl ?_; clear hs w a; intro a w hs
        refine st_build (it := Try.t66) (zs := [.slice none 0 0, .int .i64 (0), .int .i64 (0)]) (places := [(0, 1), (1, 1), (2, 1)]) hs (.c rfl .n) Try.underlying66 rfl rfl rfl rfl (.c rfl (hs.rd0 hb).isSl.lcells (.z (.c .n)) .n) rfl ?_; clear hs w a; intro a w hs
        refine st_box (cs := [v, .int .i64 (0), .int .i64 (0)]) hs rfl rfl rfl ?_; clear hs w a; intro g21 a w hs
        refine st_as hs rfl rfl ?_; clear hs w a; intro a w hs
        refine wpList_nil ?_
        refine then_n (hK20 _ _ ?_)
        refine wp_seq_k fun K22 hK23 => ?_
        refine wp_seq_k fun K24 hK25 => ?_
        refine wp_region_lit ?_
        refine st_mv hs rfl rfl ?_; clear hs w a; intro a w hs
        refine st_len hs rfl (hs.rd0 hc).isSl Try.underlying51 rfl ?_; clear hs w a; intro a w hs
        refine st_mv hs rfl rfl ?_; clear hs w a; intro a w hs
        refine wpList_nil ?_
        refine then_n (hK25 _ _ ?_)
        refine wp_block ?_
        replace hs := hs.reorder (.c (.s .z) (.c .z .n))
        refine wp_loopI (fun mm_ a w => ∃ j : Nat, ∃ R : Rs, ∃ u1 : Value, mm_ = m2 - j ∧ St 119 [(0, v), (5, .pointer (some ⟨g5, 0, none⟩)), (6, .pointer (some ⟨g21, 0, none⟩)), (31, u), (32, .int .i64 ((m2 : Int))), (33, .int .i64 ((j : Int)))] w0 [] [blk g5 [v, .int .i64 (((R.p : Nat) : Int)), .int .i64 (((R.e : Nat) : Int))] 76, blk g21 [u1, .int .i64 (((R.p : Nat) : Int)), .int .i64 (((R.e : Nat) : Int))] 66] a w ∧ j ≤ m2 ∧ R.p ≤ bs.length ∧ (∀ w T, Rd w T v 1 m (bytesV bs) → Rd w T u1 1 (bs.length - R.p) (bytesV (bs.drop R.p)))) ⟨0, ⟨0, 0⟩, v, rfl, hs.sub (.c rfl (.c rfl (.c rfl (.c rfl (.c rfl (.c rfl .n)))))), by omega, by omega, fun w T h => by simpa [hbl] using h⟩ ?_
        clear hs w a; rintro mm_ a w ⟨j, R, u1, rfl, hs, hI1_0, hI1_1, hI1_2⟩
        refine wp_seq_k fun K26 hK27 => ?_
        refine wp_region_lit ?_
        refine st_lss hs rfl rfl rfl ?_; clear hs w a; intro a w hs
        refine wpList_nil ?_
        refine then_n (hK27 _ _ ?_)
        refine wp_seq_k fun K28 hK29 => ?_
        refine wp_if hs rfl (fun hc30 => ?_) (fun hc30 => ?_)
        ·
          replace hc30 := of_decide_eq_true hc30
          refine wp_skip ?_
          refine then_n (hK29 _ _ ?_)
          refine wp_seq_k fun K31 hK32 => ?_
          refine wp_block ?_
          refine wp_seq_k fun K33 hK34 => ?_
          refine wp_region_lit ?_
          refine st_ia (j := j) hs rfl rfl (hs.rd0 hc) rfl (by omega) Try.underlying51 Try.sizeOf55 rfl ?_; clear hs w a; intro a w hs
          refine st_ldA (cs := actV (l.getD j default)) hs rfl (hs.rd0 hc) (flat_get actV_len l j (by omega)) (by rw [flat_len actV_len]; omega) (by omega) Try.isAgg55 Try.sizeOf55 rfl ?_; clear hs w a; intro a w hs
          refine st_alloc (cs := [.int .i64 (0), .int .u64 (0), .int .u8 (0)]) hs Try.zeroValue55 rfl rfl ?_; clear hs w a; intro g35 a w hs
          refine st_stBA hs rfl rfl .z (.z (.c (.c (.c .n)))) (ones_c rfl (ones_c rfl (ones_c rfl ones_n))) Try.sizeOf55 rfl ?_; clear hs w a; intro a w hs
          refine wpList_nil ?_
          refine then_n (hK34 _ _ ?_)
          refine wp_seq_k fun K36 hK37 => ?_
          refine wp_seq_k fun K38 hK39 => ?_
          refine wp_region_lit ?_
          refine st_fa hs rfl Try.underlying55 rfl Try.sizeOf3 (by decide) (o := 0) rfl rfl ?_; clear hs w a; intro a w hs
          refine st_ldB hs rfl .z .z Try.isAgg3 rfl ?_; clear hs w a; intro a w hs
          refine wpList_nil ?_
          refine then_n (hK39 _ _ ?_)
          refine wp_block ?_
          refine wp_seq_k fun K40 hK41 => ?_
          refine wp_region_lit ?_
          refine st_eql hs rfl rfl rfl ?_; clear hs w a; intro a w hs
          refine st_as hs rfl rfl ?_; clear hs w a; intro a w hs
          refine wpList_nil ?_
          refine then_n (hK41 _ _ ?_)
          refine wp_if hs rfl (fun hc42 => ?_) (fun hc42 => ?_)
          ·
            replace hc42 := eq_of_beq hc42
            refine wp_seq_k fun K43 hK44 => ?_
            refine wp_region_lit ?_
            refine st_mv hs rfl rfl ?_; clear hs w a; intro a w hs
            refine st_call hs (.c rfl .n) Try.call41 (.c (.s .z) .n) (rbyte_ok  g5 _ _ bs R _ (hs.mem.rd1 hb (.c (.s .z) .n)) (hs.mem.del (.s .z)) (by omega)) rfl ?_; clear hs w a; rintro _ _ a w ⟨rfl, rfl⟩ hs; simp only [List.cons_append, List.nil_append] at hs
            have hk45 := rByte_le (bs := bs) (R := R) (by omega)
            refine st_mv hs rfl rfl ?_; clear hs w a; intro a w hs
            refine st_call hs (.c rfl .n) Try.call48 (.c (.s (.s .z)) .n) (mbyte_ok  g21 _ bs R _ (hI1_2 _ _ (hs.mem.rd1 hb (.c (.s (.s .z)) .n))) (hs.mem.del (.s (.s .z))) (by omega) (by simp only [maxLen]; omega)) rfl ?_; clear hs w a; rintro _ _ a w ⟨rfl, rfl⟩ hs; simp only [List.cons_append, List.nil_append] at hs
            have hk46 := rByte_le (bs := bs) (R := R) (by omega)
            refine st_neq hs rfl rfl rfl ?_; clear hs w a; intro a w hs
            have hb_ : (!((((((rByte bs R).1).toNat : Nat) : Int) : Int) == (((((rByte bs R).1).toNat : Nat) : Int)))) = false := by first | decide | (simp; done) | (simp; omega)
            rw [hb_] at hs; clear hb_
            refine wpList_nil ?_
            refine then_n (hK44 _ _ ?_)
            refine wp_cond_false (hs.ev rfl) ?_
            refine wp_skip ?_
            refine in_n ?_
            refine then_n (hK37 _ _ ?_)
            refine wp_seq_k fun K47 hK48 => ?_
            replace hs := hs.sub (F' := [(45, .bool (false)), (44, .int .u8 (((((rByte bs R).1).toNat : Nat) : Int))), (43, .pointer (some ⟨g21, 0, none⟩)), (42, .int .u8 (((((rByte bs R).1).toNat : Nat) : Int))), (41, .pointer (some ⟨g5, 0, none⟩)), (39, .bool (((l.getD j default).k : Int) == 0)), (40, .bool (((l.getD j default).k : Int) == 0)), (38, .int .i64 ((l.getD j default).k)), (37, .pointer (some ⟨g35, 0, none⟩)), (8, .pointer (some ⟨g35, 0, none⟩)), (36, .agg #[.int .i64 ((l.getD j default).k), .int .u64 (((((l.getD j default).m).toNat : Nat) : Int)), .int .u8 (((((l.getD j default).e).toNat : Nat) : Int))]), (35, .pointer (some (adr u (j * 3)))), (34, .bool (decide ((j : Int) < (m2 : Int)))), (0, v), (5, .pointer (some ⟨g5, 0, none⟩)), (6, .pointer (some ⟨g21, 0, none⟩)), (31, u), (32, .int .i64 ((m2 : Int))), (33, .int .i64 ((j : Int)))]) (.c rfl (.c rfl (.c rfl (.c rfl (.c rfl (.c rfl (.c rfl (.c rfl (.c rfl (.c rfl (.c rfl (.c rfl (.c rfl (.c rfl (.c rfl (.c rfl (.c rfl (.c rfl (.c rfl .n)))))))))))))))))))
            refine wp_drawG (M0 := [blk g21 [(uNext u1 bs.length R.p ((rByte bs R).2).p), .int .i64 (((((rByte bs R).2).p : Nat) : Int)), .int .i64 (((((rByte bs R).2).e : Nat) : Int))] 66, blk g5 [v, .int .i64 (((((rByte bs R).2).p : Nat) : Int)), .int .i64 (((((rByte bs R).2).e : Nat) : Int))] 76, blk g35 [.int .i64 ((l.getD j default).k), .int .u64 (((((l.getD j default).m).toNat : Nat) : Int)), .int .u8 (((((l.getD j default).e).toNat : Nat) : Int))] 55]) (Ds := [⟨[], [], [], fun vs49 => vs49 0 = .pointer (some ⟨g5, 0, none⟩), fun vs49 => []⟩, ⟨[], [], [], fun vs49 => vs49 1 = .int .i64 ((((((rByte bs R).2)).e : Nat) : Int)), fun vs49 => []⟩, ⟨[], [], [], fun vs49 => vs49 2 = .pointer (some ⟨g21, 0, none⟩), fun vs49 => []⟩, ⟨[], [], [], fun vs49 => vs49 3 = .pointer (some ⟨g21, 0, none⟩), fun vs49 => []⟩, ⟨[], [], [], fun vs49 => vs49 4 = .pointer (some ⟨g21, 2, none⟩), fun vs49 => []⟩, ⟨[], [], [], fun vs49 => vs49 5 = .int .i64 (((((rByte bs R).2).e : Nat) : Int)), fun vs49 => []⟩, ⟨[], [], [], fun vs49 => vs49 6 = .bool (false), fun vs49 => []⟩, ⟨[], [], [], fun vs49 => vs49 7 = .bool (false), fun vs49 => []⟩, ⟨[], [], [], fun vs49 => vs49 8 = .pointer (some ⟨g5, 0, none⟩), fun vs49 => []⟩, ⟨[], [], [], fun vs49 => vs49 9 = .int .i64 ((((((rByte bs R).2)).p : Nat) : Int)), fun vs49 => []⟩, ⟨[], [], [], fun vs49 => vs49 10 = .pointer (some ⟨g21, 0, none⟩), fun vs49 => []⟩, ⟨[], [], [], fun vs49 => vs49 11 = .pointer (some ⟨g21, 0, none⟩), fun vs49 => []⟩, ⟨[], [], [], fun vs49 => vs49 12 = .pointer (some ⟨g21, 1, none⟩), fun vs49 => []⟩, ⟨[], [], [], fun vs49 => vs49 13 = .int .i64 (((((rByte bs R).2).p : Nat) : Int)), fun vs49 => []⟩, ⟨[], [], [], fun vs49 => vs49 14 = .bool (false), fun vs49 => []⟩, ⟨[], [], [], fun vs49 => vs49 15 = .bool (false), fun vs49 => []⟩, ⟨[], [], [], fun vs49 => vs49 16 = .bool (false), fun vs49 => []⟩, ⟨[], [], [], fun vs49 => vs49 17 = .pointer (some ⟨g5, 0, none⟩), fun vs49 => []⟩, ⟨[], [], [], fun vs49 => vs49 18 = .int .i64 ((((bs.length - (((rByte bs R).2)).p) : Nat) : Int)), fun vs49 => []⟩, ⟨[], [], [], fun vs49 => vs49 19 = .pointer (some ⟨g21, 0, none⟩), fun vs49 => []⟩, ⟨[], [], [], fun vs49 => vs49 20 = .pointer (some ⟨g21, 0, none⟩), fun vs49 => []⟩, ⟨[], [], [], fun vs49 => vs49 21 = .pointer (some ⟨g21, 0, none⟩), fun vs49 => []⟩, ⟨[], [], [], fun vs49 => vs49 22 = (uNext u1 bs.length R.p ((rByte bs R).2).p), fun vs49 => []⟩, ⟨[], [], [], fun vs49 => vs49 23 = .int .i64 ((((bs.length - ((rByte bs R).2).p) : Nat) : Int)), fun vs49 => []⟩, ⟨[], [], [], fun vs49 => vs49 24 = .bool (false), fun vs49 => []⟩, ⟨[], [], [], fun vs49 => vs49 25 = .bool (false), fun vs49 => []⟩, ⟨[], [], [], fun vs49 => vs49 26 = .bool (false), fun vs49 => []⟩, ⟨[], [], [], fun vs49 => vs49 27 = .pointer (some ⟨g5, 0, none⟩), fun vs49 => []⟩, ⟨[], [], [], fun vs49 => vs49 28 = .int .i64 ((((rDone bs (((rByte bs R).2))) : Nat) : Int)), fun vs49 => []⟩, ⟨[], [], [], fun vs49 => vs49 29 = .pointer (some ⟨g21, 0, none⟩), fun vs49 => []⟩, ⟨[], [], [], fun vs49 => vs49 30 = .int .i64 ((((rDone bs (((rByte bs R).2))) : Nat) : Int)), fun vs49 => []⟩, ⟨[], [], [], fun vs49 => vs49 31 = .bool (false), fun vs49 => []⟩, ⟨[], [], [], fun vs49 => vs49 32 = .bool (false), fun vs49 => []⟩]) (by kernel_rfl) hs rfl .n (by kernel_rfl) (by kernel_rfl) ?_ ?_
            · refine (.c ?_ (.c ?_ (.c ?_ (.c ?_ (.c ?_ (.c ?_ (.c ?_ (.c ?_ (.c ?_ (.c ?_ (.c ?_ (.c ?_ (.c ?_ (.c ?_ (.c ?_ (.c ?_ (.c ?_ (.c ?_ (.c ?_ (.c ?_ (.c ?_ (.c ?_ (.c ?_ (.c ?_ (.c ?_ (.c ?_ (.c ?_ (.c ?_ (.c ?_ (.c ?_ (.c ?_ (.c ?_ (.c ?_ .n)))))))))))))))))))))))))))))))))
              · intro a_ w_ R_ rest_ vs49 hm hs ht
                replace hs : St _ _ _ (feet []) [] _ _ := hs
                have hm0 := hm.mid
                have hs0 := hs.bare
                refine st_mv hs rfl rfl ?_; clear hs; intro a w hs
                exact wpList_nil ⟨rfl, _, _, hs0, .r, hs, rfl⟩
              · intro a_ w_ R_ rest_ vs49 hm hs ht
                replace hs : St _ _ _ (feet []) [] _ _ := hs
                have hm0 := hm.mid
                have t0 := ht 0 (twB_spec 33 _ (by kernel_rfl))
                have e0 : _ = some (vs49 0) := t0.val rfl
                rw [show vs49 0 = .pointer (some ⟨g5, 0, none⟩) from t0.2.1] at e0
                replace hs := hs.learn e0
                have hs0 := hs.bare
                refine st_callP (v := .int .i64 ((((((rByte bs R).2)).e : Nat) : Int))) hs (.c rfl .n) Try.call47 (rerr_ok g5 _ _ bs (((rByte bs R).2)) _ (hm.rd0 hb) (hm0.del (.s .z)) (by omega)) rfl ?_; clear hs; intro a w hs
                exact wpList_nil ⟨rfl, _, _, hs0, (.c .r), hs, rfl⟩
              · intro a_ w_ R_ rest_ vs49 hm hs ht
                replace hs : St _ _ _ (feet []) [] _ _ := hs
                have hm0 := hm.mid
                have hs0 := hs.bare
                refine st_mv hs rfl rfl ?_; clear hs; intro a w hs
                exact wpList_nil ⟨rfl, _, _, hs0, .r, hs, rfl⟩
              · intro a_ w_ R_ rest_ vs49 hm hs ht
                replace hs : St _ _ _ (feet []) [] _ _ := hs
                have hm0 := hm.mid
                have t2 := ht 2 (twB_spec 33 _ (by kernel_rfl))
                have e2 : _ = some (vs49 2) := t2.val rfl
                rw [show vs49 2 = .pointer (some ⟨g21, 0, none⟩) from t2.2.1] at e2
                replace hs := hs.learn e2
                have hs0 := hs.bare
                refine st_nc hs rfl rfl ?_; clear hs; intro a w hs
                exact wpList_nil ⟨rfl, _, _, hs0, (.c .r), hs, rfl⟩
              · intro a_ w_ R_ rest_ vs49 hm hs ht
                replace hs : St _ _ _ (feet []) [] _ _ := hs
                have hm0 := hm.mid
                have t3 := ht 3 (twB_spec 33 _ (by kernel_rfl))
                have e3 : _ = some (vs49 3) := t3.val rfl
                rw [show vs49 3 = .pointer (some ⟨g21, 0, none⟩) from t3.2.1] at e3
                replace hs := hs.learn e3
                have hs0 := hs.bare
                refine st_fa hs rfl Try.underlying66 rfl Try.sizeOf3 (by decide) (o := 2) rfl rfl ?_; clear hs; intro a w hs
                exact wpList_nil ⟨rfl, _, _, hs0, (.c .r), hs, rfl⟩
              · intro a_ w_ R_ rest_ vs49 hm hs ht
                replace hs : St _ _ _ (feet []) [] _ _ := hs
                have hm0 := hm.mid
                have t4 := ht 4 (twB_spec 33 _ (by kernel_rfl))
                have e4 : _ = some (vs49 4) := t4.val rfl
                rw [show vs49 4 = .pointer (some ⟨g21, 2, none⟩) from t4.2.1] at e4
                replace hs := hs.learn e4
                have hs0 := hs.bare
                refine st_ldE hs rfl (hm0.del .z) (.s (.s .z)) Try.isAgg3 rfl ?_; clear hs; intro a w hs
                exact wpList_nil ⟨rfl, _, _, hs0, (.c .r), hs, rfl⟩
              · intro a_ w_ R_ rest_ vs49 hm hs ht
                replace hs : St _ _ _ (feet []) [] _ _ := hs
                have hm0 := hm.mid
                have t1 := ht 1 (twB_spec 33 _ (by kernel_rfl))
                have e1 : _ = some (vs49 1) := t1.val rfl
                rw [show vs49 1 = .int .i64 ((((((rByte bs R).2)).e : Nat) : Int)) from t1.2.1] at e1
                replace hs := hs.learn e1
                have t5 := ht 5 (twB_spec 33 _ (by kernel_rfl))
                have e5 : _ = some (vs49 5) := t5.val rfl
                rw [show vs49 5 = .int .i64 (((((rByte bs R).2).e : Nat) : Int)) from t5.2.1] at e5
                replace hs := hs.learn e5
                have hs0 := hs.bare
                refine st_neq hs rfl rfl rfl ?_; clear hs; intro a w hs
                have hb_ : (!(((((((rByte bs R).2)).e : Nat) : Int) : Int) == (((((rByte bs R).2).e : Nat) : Int)))) = false := by first | decide | (simp; done) | (simp; omega)
                rw [hb_] at hs; clear hb_
                exact wpList_nil ⟨rfl, _, _, hs0, (.c (.c .r)), hs, rfl⟩
              · intro a_ w_ R_ rest_ vs49 hm hs ht
                replace hs : St _ _ _ (feet []) [] _ _ := hs
                have hm0 := hm.mid
                have t6 := ht 6 (twB_spec 33 _ (by kernel_rfl))
                have e6 : _ = some (vs49 6) := t6.val rfl
                rw [show vs49 6 = .bool (false) from t6.2.1] at e6
                replace hs := hs.learn e6
                have hs0 := hs.bare
                refine st_mv hs rfl rfl ?_; clear hs; intro a w hs
                exact wpList_nil ⟨rfl, _, _, hs0, (.c .r), hs, rfl⟩
              · intro a_ w_ R_ rest_ vs49 hm hs ht
                replace hs : St _ _ _ (feet []) [] _ _ := hs
                have hm0 := hm.mid
                have t7 := ht 7 (twB_spec 33 _ (by kernel_rfl))
                have e7 : _ = some (vs49 7) := t7.val rfl
                rw [show vs49 7 = .bool (false) from t7.2.1] at e7
                replace hs := hs.learn e7
                have hs0 := hs.bare
                refine st_guardT hs rfl rfl rfl ?_
                refine st_mv hs rfl rfl ?_; clear hs; intro a w hs
                exact wpList_nil ⟨rfl, _, _, hs0, (.c .r), hs, rfl⟩
              · intro a_ w_ R_ rest_ vs49 hm hs ht
                replace hs : St _ _ _ (feet []) [] _ _ := hs
                have hm0 := hm.mid
                have t7 := ht 7 (twB_spec 33 _ (by kernel_rfl))
                have e7 : _ = some (vs49 7) := t7.val rfl
                rw [show vs49 7 = .bool (false) from t7.2.1] at e7
                replace hs := hs.learn e7
                have t8 := ht 8 (twB_spec 33 _ (by kernel_rfl))
                have e8 : _ = some (vs49 8) := t8.val rfl
                rw [show vs49 8 = .pointer (some ⟨g5, 0, none⟩) from t8.2.1] at e8
                replace hs := hs.learn e8
                have hs0 := hs.bare
                refine st_guardT hs rfl rfl rfl ?_
                refine st_callP (v := .int .i64 ((((((rByte bs R).2)).p : Nat) : Int))) hs (.c rfl .n) Try.call40 (rat_ok g5 _ _ bs (((rByte bs R).2)) _ (hm.rd0 hb) (hm0.del (.s .z)) (by omega)) rfl ?_; clear hs; intro a w hs
                exact wpList_nil ⟨rfl, _, _, hs0, (.c (.c .r)), hs, rfl⟩
              · intro a_ w_ R_ rest_ vs49 hm hs ht
                replace hs : St _ _ _ (feet []) [] _ _ := hs
                have hm0 := hm.mid
                have t7 := ht 7 (twB_spec 33 _ (by kernel_rfl))
                have e7 : _ = some (vs49 7) := t7.val rfl
                rw [show vs49 7 = .bool (false) from t7.2.1] at e7
                replace hs := hs.learn e7
                have hs0 := hs.bare
                refine st_guardT hs rfl rfl rfl ?_
                refine st_mv hs rfl rfl ?_; clear hs; intro a w hs
                exact wpList_nil ⟨rfl, _, _, hs0, (.c .r), hs, rfl⟩
              · intro a_ w_ R_ rest_ vs49 hm hs ht
                replace hs : St _ _ _ (feet []) [] _ _ := hs
                have hm0 := hm.mid
                have t7 := ht 7 (twB_spec 33 _ (by kernel_rfl))
                have e7 : _ = some (vs49 7) := t7.val rfl
                rw [show vs49 7 = .bool (false) from t7.2.1] at e7
                replace hs := hs.learn e7
                have t10 := ht 10 (twB_spec 33 _ (by kernel_rfl))
                have e10 : _ = some (vs49 10) := t10.val rfl
                rw [show vs49 10 = .pointer (some ⟨g21, 0, none⟩) from t10.2.1] at e10
                replace hs := hs.learn e10
                have hs0 := hs.bare
                refine st_guardT hs rfl rfl rfl ?_
                refine st_nc hs rfl rfl ?_; clear hs; intro a w hs
                exact wpList_nil ⟨rfl, _, _, hs0, (.c (.c .r)), hs, rfl⟩
              · intro a_ w_ R_ rest_ vs49 hm hs ht
                replace hs : St _ _ _ (feet []) [] _ _ := hs
                have hm0 := hm.mid
                have t7 := ht 7 (twB_spec 33 _ (by kernel_rfl))
                have e7 : _ = some (vs49 7) := t7.val rfl
                rw [show vs49 7 = .bool (false) from t7.2.1] at e7
                replace hs := hs.learn e7
                have t11 := ht 11 (twB_spec 33 _ (by kernel_rfl))
                have e11 : _ = some (vs49 11) := t11.val rfl
                rw [show vs49 11 = .pointer (some ⟨g21, 0, none⟩) from t11.2.1] at e11
                replace hs := hs.learn e11
                have hs0 := hs.bare
                refine st_guardT hs rfl rfl rfl ?_
                refine st_fa hs rfl Try.underlying66 rfl Try.sizeOf3 (by decide) (o := 1) rfl rfl ?_; clear hs; intro a w hs
                exact wpList_nil ⟨rfl, _, _, hs0, (.c (.c .r)), hs, rfl⟩
              · intro a_ w_ R_ rest_ vs49 hm hs ht
                replace hs : St _ _ _ (feet []) [] _ _ := hs
                have hm0 := hm.mid
                have t7 := ht 7 (twB_spec 33 _ (by kernel_rfl))
                have e7 : _ = some (vs49 7) := t7.val rfl
                rw [show vs49 7 = .bool (false) from t7.2.1] at e7
                replace hs := hs.learn e7
                have t12 := ht 12 (twB_spec 33 _ (by kernel_rfl))
                have e12 : _ = some (vs49 12) := t12.val rfl
                rw [show vs49 12 = .pointer (some ⟨g21, 1, none⟩) from t12.2.1] at e12
                replace hs := hs.learn e12
                have hs0 := hs.bare
                refine st_guardT hs rfl rfl rfl ?_
                refine st_ldE hs rfl (hm0.del .z) (.s .z) Try.isAgg3 rfl ?_; clear hs; intro a w hs
                exact wpList_nil ⟨rfl, _, _, hs0, (.c (.c .r)), hs, rfl⟩
              · intro a_ w_ R_ rest_ vs49 hm hs ht
                replace hs : St _ _ _ (feet []) [] _ _ := hs
                have hm0 := hm.mid
                have t7 := ht 7 (twB_spec 33 _ (by kernel_rfl))
                have e7 : _ = some (vs49 7) := t7.val rfl
                rw [show vs49 7 = .bool (false) from t7.2.1] at e7
                replace hs := hs.learn e7
                have t9 := ht 9 (twB_spec 33 _ (by kernel_rfl))
                have e9 : _ = some (vs49 9) := t9.val rfl
                rw [show vs49 9 = .int .i64 ((((((rByte bs R).2)).p : Nat) : Int)) from t9.2.1] at e9
                replace hs := hs.learn e9
                have t13 := ht 13 (twB_spec 33 _ (by kernel_rfl))
                have e13 : _ = some (vs49 13) := t13.val rfl
                rw [show vs49 13 = .int .i64 (((((rByte bs R).2).p : Nat) : Int)) from t13.2.1] at e13
                replace hs := hs.learn e13
                have hs0 := hs.bare
                refine st_guardT hs rfl rfl rfl ?_
                refine st_neq hs rfl rfl rfl ?_; clear hs; intro a w hs
                have hb_ : (!(((((((rByte bs R).2)).p : Nat) : Int) : Int) == (((((rByte bs R).2).p : Nat) : Int)))) = false := by first | decide | (simp; done) | (simp; omega)
                rw [hb_] at hs; clear hb_
                exact wpList_nil ⟨rfl, _, _, hs0, (.c (.c (.c .r))), hs, rfl⟩
              · intro a_ w_ R_ rest_ vs49 hm hs ht
                replace hs : St _ _ _ (feet []) [] _ _ := hs
                have hm0 := hm.mid
                have t7 := ht 7 (twB_spec 33 _ (by kernel_rfl))
                have e7 : _ = some (vs49 7) := t7.val rfl
                rw [show vs49 7 = .bool (false) from t7.2.1] at e7
                replace hs := hs.learn e7
                have t14 := ht 14 (twB_spec 33 _ (by kernel_rfl))
                have e14 : _ = some (vs49 14) := t14.val rfl
                rw [show vs49 14 = .bool (false) from t14.2.1] at e14
                replace hs := hs.learn e14
                have hs0 := hs.bare
                refine st_pickF hs rfl rfl rfl ?_; clear hs; intro a w hs
                exact wpList_nil ⟨rfl, _, _, hs0, (.c (.c .r)), hs, rfl⟩
              · intro a_ w_ R_ rest_ vs49 hm hs ht
                replace hs : St _ _ _ (feet []) [] _ _ := hs
                have hm0 := hm.mid
                have t15 := ht 15 (twB_spec 33 _ (by kernel_rfl))
                have e15 : _ = some (vs49 15) := t15.val rfl
                rw [show vs49 15 = .bool (false) from t15.2.1] at e15
                replace hs := hs.learn e15
                have hs0 := hs.bare
                refine st_mv hs rfl rfl ?_; clear hs; intro a w hs
                exact wpList_nil ⟨rfl, _, _, hs0, (.c .r), hs, rfl⟩
              · intro a_ w_ R_ rest_ vs49 hm hs ht
                replace hs : St _ _ _ (feet []) [] _ _ := hs
                have hm0 := hm.mid
                have t16 := ht 16 (twB_spec 33 _ (by kernel_rfl))
                have e16 : _ = some (vs49 16) := t16.val rfl
                rw [show vs49 16 = .bool (false) from t16.2.1] at e16
                replace hs := hs.learn e16
                have hs0 := hs.bare
                refine st_guardT hs rfl rfl rfl ?_
                refine st_mv hs rfl rfl ?_; clear hs; intro a w hs
                exact wpList_nil ⟨rfl, _, _, hs0, (.c .r), hs, rfl⟩
              · intro a_ w_ R_ rest_ vs49 hm hs ht
                replace hs : St _ _ _ (feet []) [] _ _ := hs
                have hm0 := hm.mid
                have t16 := ht 16 (twB_spec 33 _ (by kernel_rfl))
                have e16 : _ = some (vs49 16) := t16.val rfl
                rw [show vs49 16 = .bool (false) from t16.2.1] at e16
                replace hs := hs.learn e16
                have t17 := ht 17 (twB_spec 33 _ (by kernel_rfl))
                have e17 : _ = some (vs49 17) := t17.val rfl
                rw [show vs49 17 = .pointer (some ⟨g5, 0, none⟩) from t17.2.1] at e17
                replace hs := hs.learn e17
                have hs0 := hs.bare
                refine st_guardT hs rfl rfl rfl ?_
                refine st_callP (v := .int .i64 ((((bs.length - (((rByte bs R).2)).p) : Nat) : Int))) hs (.c rfl .n) Try.call45 (rleft_ok g5 _ _ bs (((rByte bs R).2)) _ (hm.rd0 hb) (hm0.del (.s .z)) (by omega)) rfl ?_; clear hs; intro a w hs
                exact wpList_nil ⟨rfl, _, _, hs0, (.c (.c .r)), hs, rfl⟩
              · intro a_ w_ R_ rest_ vs49 hm hs ht
                replace hs : St _ _ _ (feet []) [] _ _ := hs
                have hm0 := hm.mid
                have t16 := ht 16 (twB_spec 33 _ (by kernel_rfl))
                have e16 : _ = some (vs49 16) := t16.val rfl
                rw [show vs49 16 = .bool (false) from t16.2.1] at e16
                replace hs := hs.learn e16
                have hs0 := hs.bare
                refine st_guardT hs rfl rfl rfl ?_
                refine st_mv hs rfl rfl ?_; clear hs; intro a w hs
                exact wpList_nil ⟨rfl, _, _, hs0, (.c .r), hs, rfl⟩
              · intro a_ w_ R_ rest_ vs49 hm hs ht
                replace hs : St _ _ _ (feet []) [] _ _ := hs
                have hm0 := hm.mid
                have t16 := ht 16 (twB_spec 33 _ (by kernel_rfl))
                have e16 : _ = some (vs49 16) := t16.val rfl
                rw [show vs49 16 = .bool (false) from t16.2.1] at e16
                replace hs := hs.learn e16
                have t19 := ht 19 (twB_spec 33 _ (by kernel_rfl))
                have e19 : _ = some (vs49 19) := t19.val rfl
                rw [show vs49 19 = .pointer (some ⟨g21, 0, none⟩) from t19.2.1] at e19
                replace hs := hs.learn e19
                have hs0 := hs.bare
                refine st_guardT hs rfl rfl rfl ?_
                refine st_nc hs rfl rfl ?_; clear hs; intro a w hs
                exact wpList_nil ⟨rfl, _, _, hs0, (.c (.c .r)), hs, rfl⟩
              · intro a_ w_ R_ rest_ vs49 hm hs ht
                replace hs : St _ _ _ (feet []) [] _ _ := hs
                have hm0 := hm.mid
                have t16 := ht 16 (twB_spec 33 _ (by kernel_rfl))
                have e16 : _ = some (vs49 16) := t16.val rfl
                rw [show vs49 16 = .bool (false) from t16.2.1] at e16
                replace hs := hs.learn e16
                have t20 := ht 20 (twB_spec 33 _ (by kernel_rfl))
                have e20 : _ = some (vs49 20) := t20.val rfl
                rw [show vs49 20 = .pointer (some ⟨g21, 0, none⟩) from t20.2.1] at e20
                replace hs := hs.learn e20
                have hs0 := hs.bare
                refine st_guardT hs rfl rfl rfl ?_
                refine st_fa hs rfl Try.underlying66 rfl Try.sizeOf22 (by decide) (o := 0) rfl rfl ?_; clear hs; intro a w hs
                exact wpList_nil ⟨rfl, _, _, hs0, (.c (.c .r)), hs, rfl⟩
              · intro a_ w_ R_ rest_ vs49 hm hs ht
                replace hs : St _ _ _ (feet []) [] _ _ := hs
                have hm0 := hm.mid
                have t16 := ht 16 (twB_spec 33 _ (by kernel_rfl))
                have e16 : _ = some (vs49 16) := t16.val rfl
                rw [show vs49 16 = .bool (false) from t16.2.1] at e16
                replace hs := hs.learn e16
                have t21 := ht 21 (twB_spec 33 _ (by kernel_rfl))
                have e21 : _ = some (vs49 21) := t21.val rfl
                rw [show vs49 21 = .pointer (some ⟨g21, 0, none⟩) from t21.2.1] at e21
                replace hs := hs.learn e21
                have hs0 := hs.bare
                refine st_guardT hs rfl rfl rfl ?_
                refine st_ldE hs rfl (hm0.del .z) .z Try.isAgg22 rfl ?_; clear hs; intro a w hs
                exact wpList_nil ⟨rfl, _, _, hs0, (.c (.c .r)), hs, rfl⟩
              · intro a_ w_ R_ rest_ vs49 hm hs ht
                replace hs : St _ _ _ (feet []) [] _ _ := hs
                have hm0 := hm.mid
                have t16 := ht 16 (twB_spec 33 _ (by kernel_rfl))
                have e16 : _ = some (vs49 16) := t16.val rfl
                rw [show vs49 16 = .bool (false) from t16.2.1] at e16
                replace hs := hs.learn e16
                have t22 := ht 22 (twB_spec 33 _ (by kernel_rfl))
                have e22 : _ = some (vs49 22) := t22.val rfl
                rw [show vs49 22 = (uNext u1 bs.length R.p ((rByte bs R).2).p) from t22.2.1] at e22
                replace hs := hs.learn e22
                have hs0 := hs.bare
                refine st_guardT hs rfl rfl rfl ?_
                refine st_len hs rfl ((uNext_tr (p := R.p) (p' := ((rByte bs R).2).p) (by omega) (by omega)) _ _ (hI1_2 _ _ (hm.rd0 hb))).isSl Try.underlying22 rfl ?_; clear hs; intro a w hs
                exact wpList_nil ⟨rfl, _, _, hs0, (.c (.c .r)), hs, rfl⟩
              · intro a_ w_ R_ rest_ vs49 hm hs ht
                replace hs : St _ _ _ (feet []) [] _ _ := hs
                have hm0 := hm.mid
                have t16 := ht 16 (twB_spec 33 _ (by kernel_rfl))
                have e16 : _ = some (vs49 16) := t16.val rfl
                rw [show vs49 16 = .bool (false) from t16.2.1] at e16
                replace hs := hs.learn e16
                have t18 := ht 18 (twB_spec 33 _ (by kernel_rfl))
                have e18 : _ = some (vs49 18) := t18.val rfl
                rw [show vs49 18 = .int .i64 ((((bs.length - (((rByte bs R).2)).p) : Nat) : Int)) from t18.2.1] at e18
                replace hs := hs.learn e18
                have t23 := ht 23 (twB_spec 33 _ (by kernel_rfl))
                have e23 : _ = some (vs49 23) := t23.val rfl
                rw [show vs49 23 = .int .i64 ((((bs.length - ((rByte bs R).2).p) : Nat) : Int)) from t23.2.1] at e23
                replace hs := hs.learn e23
                have hs0 := hs.bare
                refine st_guardT hs rfl rfl rfl ?_
                refine st_neq hs rfl rfl rfl ?_; clear hs; intro a w hs
                have hb_ : (!(((((bs.length - (((rByte bs R).2)).p) : Nat) : Int) : Int) == ((((bs.length - ((rByte bs R).2).p) : Nat) : Int)))) = false := by first | decide | (simp; done) | (simp; omega)
                rw [hb_] at hs; clear hb_
                exact wpList_nil ⟨rfl, _, _, hs0, (.c (.c (.c .r))), hs, rfl⟩
              · intro a_ w_ R_ rest_ vs49 hm hs ht
                replace hs : St _ _ _ (feet []) [] _ _ := hs
                have hm0 := hm.mid
                have t16 := ht 16 (twB_spec 33 _ (by kernel_rfl))
                have e16 : _ = some (vs49 16) := t16.val rfl
                rw [show vs49 16 = .bool (false) from t16.2.1] at e16
                replace hs := hs.learn e16
                have t24 := ht 24 (twB_spec 33 _ (by kernel_rfl))
                have e24 : _ = some (vs49 24) := t24.val rfl
                rw [show vs49 24 = .bool (false) from t24.2.1] at e24
                replace hs := hs.learn e24
                have hs0 := hs.bare
                refine st_pickF hs rfl rfl rfl ?_; clear hs; intro a w hs
                exact wpList_nil ⟨rfl, _, _, hs0, (.c (.c .r)), hs, rfl⟩
              · intro a_ w_ R_ rest_ vs49 hm hs ht
                replace hs : St _ _ _ (feet []) [] _ _ := hs
                have hm0 := hm.mid
                have t25 := ht 25 (twB_spec 33 _ (by kernel_rfl))
                have e25 : _ = some (vs49 25) := t25.val rfl
                rw [show vs49 25 = .bool (false) from t25.2.1] at e25
                replace hs := hs.learn e25
                have hs0 := hs.bare
                refine st_mv hs rfl rfl ?_; clear hs; intro a w hs
                exact wpList_nil ⟨rfl, _, _, hs0, (.c .r), hs, rfl⟩
              · intro a_ w_ R_ rest_ vs49 hm hs ht
                replace hs : St _ _ _ (feet []) [] _ _ := hs
                have hm0 := hm.mid
                have t26 := ht 26 (twB_spec 33 _ (by kernel_rfl))
                have e26 : _ = some (vs49 26) := t26.val rfl
                rw [show vs49 26 = .bool (false) from t26.2.1] at e26
                replace hs := hs.learn e26
                have hs0 := hs.bare
                refine st_guardT hs rfl rfl rfl ?_
                refine st_mv hs rfl rfl ?_; clear hs; intro a w hs
                exact wpList_nil ⟨rfl, _, _, hs0, (.c .r), hs, rfl⟩
              · intro a_ w_ R_ rest_ vs49 hm hs ht
                replace hs : St _ _ _ (feet []) [] _ _ := hs
                have hm0 := hm.mid
                have t26 := ht 26 (twB_spec 33 _ (by kernel_rfl))
                have e26 : _ = some (vs49 26) := t26.val rfl
                rw [show vs49 26 = .bool (false) from t26.2.1] at e26
                replace hs := hs.learn e26
                have t27 := ht 27 (twB_spec 33 _ (by kernel_rfl))
                have e27 : _ = some (vs49 27) := t27.val rfl
                rw [show vs49 27 = .pointer (some ⟨g5, 0, none⟩) from t27.2.1] at e27
                replace hs := hs.learn e27
                have hs0 := hs.bare
                refine st_guardT hs rfl rfl rfl ?_
                refine st_callP (v := .int .i64 ((((rDone bs (((rByte bs R).2))) : Nat) : Int))) hs (.c rfl .n) Try.call46 (rdone_ok g5 _ _ bs (((rByte bs R).2)) _ (hm.rd0 hb) (hm0.del (.s .z)) (by omega)) rfl ?_; clear hs; intro a w hs
                exact wpList_nil ⟨rfl, _, _, hs0, (.c (.c .r)), hs, rfl⟩
              · intro a_ w_ R_ rest_ vs49 hm hs ht
                replace hs : St _ _ _ (feet []) [] _ _ := hs
                have hm0 := hm.mid
                have t26 := ht 26 (twB_spec 33 _ (by kernel_rfl))
                have e26 : _ = some (vs49 26) := t26.val rfl
                rw [show vs49 26 = .bool (false) from t26.2.1] at e26
                replace hs := hs.learn e26
                have hs0 := hs.bare
                refine st_guardT hs rfl rfl rfl ?_
                refine st_mv hs rfl rfl ?_; clear hs; intro a w hs
                exact wpList_nil ⟨rfl, _, _, hs0, (.c .r), hs, rfl⟩
              · intro a_ w_ R_ rest_ vs49 hm hs ht
                replace hs : St _ _ _ (feet []) [] _ _ := hs
                have hm0 := hm.mid
                have t26 := ht 26 (twB_spec 33 _ (by kernel_rfl))
                have e26 : _ = some (vs49 26) := t26.val rfl
                rw [show vs49 26 = .bool (false) from t26.2.1] at e26
                replace hs := hs.learn e26
                have t29 := ht 29 (twB_spec 33 _ (by kernel_rfl))
                have e29 : _ = some (vs49 29) := t29.val rfl
                rw [show vs49 29 = .pointer (some ⟨g21, 0, none⟩) from t29.2.1] at e29
                replace hs := hs.learn e29
                have hs0 := hs.bare
                refine st_guardT hs rfl rfl rfl ?_
                refine st_callP (v := .int .i64 ((((rDone bs (((rByte bs R).2))) : Nat) : Int))) hs (.c rfl .n) Try.call54 (mdone_ok g21 _ bs (((rByte bs R).2)) _ ((uNext_tr (p := R.p) (p' := ((rByte bs R).2).p) (by omega) (by omega)) _ _ (hI1_2 _ _ (hm.rd0 hb))) (hm0.del .z) (by omega) (by simp only [maxLen]; omega)) rfl ?_; clear hs; intro a w hs
                exact wpList_nil ⟨rfl, _, _, hs0, (.c (.c .r)), hs, rfl⟩
              · intro a_ w_ R_ rest_ vs49 hm hs ht
                replace hs : St _ _ _ (feet []) [] _ _ := hs
                have hm0 := hm.mid
                have t26 := ht 26 (twB_spec 33 _ (by kernel_rfl))
                have e26 : _ = some (vs49 26) := t26.val rfl
                rw [show vs49 26 = .bool (false) from t26.2.1] at e26
                replace hs := hs.learn e26
                have t28 := ht 28 (twB_spec 33 _ (by kernel_rfl))
                have e28 : _ = some (vs49 28) := t28.val rfl
                rw [show vs49 28 = .int .i64 ((((rDone bs (((rByte bs R).2))) : Nat) : Int)) from t28.2.1] at e28
                replace hs := hs.learn e28
                have t30 := ht 30 (twB_spec 33 _ (by kernel_rfl))
                have e30 : _ = some (vs49 30) := t30.val rfl
                rw [show vs49 30 = .int .i64 ((((rDone bs (((rByte bs R).2))) : Nat) : Int)) from t30.2.1] at e30
                replace hs := hs.learn e30
                have hs0 := hs.bare
                refine st_guardT hs rfl rfl rfl ?_
                refine st_neq hs rfl rfl rfl ?_; clear hs; intro a w hs
                have hb_ : (!(((((rDone bs (((rByte bs R).2))) : Nat) : Int) : Int) == ((((rDone bs (((rByte bs R).2))) : Nat) : Int)))) = false := by first | decide | (simp; done) | (simp; omega)
                rw [hb_] at hs; clear hb_
                exact wpList_nil ⟨rfl, _, _, hs0, (.c (.c (.c .r))), hs, rfl⟩
              · intro a_ w_ R_ rest_ vs49 hm hs ht
                replace hs : St _ _ _ (feet []) [] _ _ := hs
                have hm0 := hm.mid
                have t26 := ht 26 (twB_spec 33 _ (by kernel_rfl))
                have e26 : _ = some (vs49 26) := t26.val rfl
                rw [show vs49 26 = .bool (false) from t26.2.1] at e26
                replace hs := hs.learn e26
                have t31 := ht 31 (twB_spec 33 _ (by kernel_rfl))
                have e31 : _ = some (vs49 31) := t31.val rfl
                rw [show vs49 31 = .bool (false) from t31.2.1] at e31
                replace hs := hs.learn e31
                have hs0 := hs.bare
                refine st_pickF hs rfl rfl rfl ?_; clear hs; intro a w hs
                exact wpList_nil ⟨rfl, _, _, hs0, (.c (.c .r)), hs, rfl⟩
            · clear hs w a; intro a w vs49 hs hf
              replace hs : St _ _ _ _ [blk g21 [(uNext u1 bs.length R.p ((rByte bs R).2).p), .int .i64 (((((rByte bs R).2).p : Nat) : Int)), .int .i64 (((((rByte bs R).2).e : Nat) : Int))] 66, blk g5 [v, .int .i64 (((((rByte bs R).2).p : Nat) : Int)), .int .i64 (((((rByte bs R).2).e : Nat) : Int))] 76, blk g35 [.int .i64 ((l.getD j default).k), .int .u64 (((((l.getD j default).m).toNat : Nat) : Int)), .int .u8 (((((l.getD j default).e).toNat : Nat) : Int))] 55] _ _ := hs
              obtain ⟨e32, q32⟩ := hf 32 (by decide)
              replace e32 : _ = some (vs49 32) := e32.val rfl
              rw [show vs49 32 = .bool (false) from q32] at e32
              replace hs := hs.learn e32; clear e32 q32
              clear hf
              refine then_n (hK48 _ _ ?_)
              refine wp_cond_false (hs.ev rfl) ?_
              refine wp_skip ?_
              refine in_n ?_
              refine then_n (hK32 _ _ ?_)
              refine wp_region_lit ?_
              refine st_addR hs rfl rfl (by omega) rfl ?_; clear hs w a; intro a w hs
              refine st_mv hs rfl rfl ?_; clear hs w a; intro a w hs
              refine wpList_nil ?_
              refine then_n ?_
              replace hs := hs.drop (.c (.s (.s .z)) .n)
              replace hs := hs.reorder (.c (.s .z) (.c .z .n))
              refine ⟨_, ?_, j + 1, ((rByte bs R).2), (uNext u1 bs.length R.p ((rByte bs R).2).p), rfl, hs.sub (.c rfl (.c rfl (.c rfl (.c rfl (.c rfl (.c rfl .n)))))), by omega, by omega, (fun w T h => (uNext_tr (p := R.p) (p' := ((rByte bs R).2).p) (by omega) (by omega)) w T (hI1_2 w T h))⟩
              omega
          ·
            replace hc42 := ne_of_beq_f hc42
            refine wp_seq_k fun K50 hK51 => ?_
            refine wp_region_lit ?_
            refine st_eql hs rfl rfl rfl ?_; clear hs w a; intro a w hs
            refine st_as hs rfl rfl ?_; clear hs w a; intro a w hs
            refine wpList_nil ?_
            refine then_n (hK51 _ _ ?_)
            refine wp_if hs rfl (fun hc52 => ?_) (fun hc52 => ?_)
            ·
              replace hc52 := eq_of_beq hc52
              refine wp_seq_k fun K53 hK54 => ?_
              replace hs := hs.sub (F' := [(46, .bool (((l.getD j default).k : Int) == 1)), (47, .bool (((l.getD j default).k : Int) == 1)), (39, .bool (((l.getD j default).k : Int) == 0)), (40, .bool (((l.getD j default).k : Int) == 0)), (38, .int .i64 ((l.getD j default).k)), (37, .pointer (some ⟨g35, 0, none⟩)), (8, .pointer (some ⟨g35, 0, none⟩)), (36, .agg #[.int .i64 ((l.getD j default).k), .int .u64 (((((l.getD j default).m).toNat : Nat) : Int)), .int .u8 (((((l.getD j default).e).toNat : Nat) : Int))]), (35, .pointer (some (adr u (j * 3)))), (34, .bool (decide ((j : Int) < (m2 : Int)))), (0, v), (5, .pointer (some ⟨g5, 0, none⟩)), (6, .pointer (some ⟨g21, 0, none⟩)), (31, u), (32, .int .i64 ((m2 : Int))), (33, .int .i64 ((j : Int)))]) (.c rfl (.c rfl (.c rfl (.c rfl (.c rfl (.c rfl (.c rfl (.c rfl (.c rfl (.c rfl (.c rfl (.c rfl (.c rfl (.c rfl (.c rfl (.c rfl .n))))))))))))))))
              have hk56 := rUint_le (X := (l.getD j default).m) (bs := bs) (R := R) (by omega)
              have hk57 := rUint_le (X := (l.getD j default).m) (bs := bs) (R := R) (by omega)
              refine wp_drawG (M0 := [blk g35 [.int .i64 ((l.getD j default).k), .int .u64 (((((l.getD j default).m).toNat : Nat) : Int)), .int .u8 (((((l.getD j default).e).toNat : Nat) : Int))] 55]) (Ds := [⟨[], [], [], fun vs55 => vs55 0 = .pointer (some ⟨g5, 0, none⟩), fun vs55 => []⟩, ⟨[], [], [], fun vs55 => vs55 1 = .pointer (some ⟨g35, 1, none⟩), fun vs55 => []⟩, ⟨[], [], [], fun vs55 => vs55 2 = .int .u64 (((((l.getD j default).m).toNat : Nat) : Int)), fun vs55 => []⟩, ⟨[blk g5 [v, .int .i64 (((R.p : Nat) : Int)), .int .i64 (((R.e : Nat) : Int))] 76], [], [], fun vs55 => vs55 3 = .int .u64 (((((rUint bs ((l.getD j default).m) R).1).toNat : Nat) : Int)), fun vs55 => [blk g5 [v, .int .i64 (((((rUint bs ((l.getD j default).m) R).2).p : Nat) : Int)), .int .i64 (((((rUint bs ((l.getD j default).m) R).2).e : Nat) : Int))] 76]⟩, ⟨[], [], [], fun vs55 => vs55 4 = .pointer (some ⟨g21, 0, none⟩), fun vs55 => []⟩, ⟨[], [], [], fun vs55 => vs55 5 = .pointer (some ⟨g35, 1, none⟩), fun vs55 => []⟩, ⟨[], [], [], fun vs55 => vs55 6 = .int .u64 (((((l.getD j default).m).toNat : Nat) : Int)), fun vs55 => []⟩, ⟨[blk g21 [u1, .int .i64 (((R.p : Nat) : Int)), .int .i64 (((R.e : Nat) : Int))] 66], [], [], fun vs55 => vs55 7 = .int .u64 (((((rUint bs ((l.getD j default).m) R).1).toNat : Nat) : Int)), fun vs55 => [blk g21 [(uNext u1 bs.length R.p ((rUint bs ((l.getD j default).m) R).2).p), .int .i64 (((((rUint bs ((l.getD j default).m) R).2).p : Nat) : Int)), .int .i64 (((((rUint bs ((l.getD j default).m) R).2).e : Nat) : Int))] 66]⟩, ⟨[], [], [], fun vs55 => vs55 8 = .bool (false), fun vs55 => []⟩]) (by kernel_rfl) hs rfl (.c (.s .z) (.c (.s .z) .n)) (by kernel_rfl) (by kernel_rfl) ?_ ?_
              · refine (.c ?_ (.c ?_ (.c ?_ (.c ?_ (.c ?_ (.c ?_ (.c ?_ (.c ?_ (.c ?_ .n)))))))))
                · intro a_ w_ R_ rest_ vs55 hm hs ht
                  replace hs : St _ _ _ (feet []) [] _ _ := hs
                  have hm0 := hm.mid
                  have hs0 := hs.bare
                  refine st_mv hs rfl rfl ?_; clear hs; intro a w hs
                  exact wpList_nil ⟨rfl, _, _, hs0, .r, hs, rfl⟩
                · intro a_ w_ R_ rest_ vs55 hm hs ht
                  replace hs : St _ _ _ (feet []) [] _ _ := hs
                  have hm0 := hm.mid
                  have hs0 := hs.bare
                  refine st_fa hs rfl Try.underlying55 rfl Try.sizeOf35 (by decide) (o := 1) rfl rfl ?_; clear hs; intro a w hs
                  exact wpList_nil ⟨rfl, _, _, hs0, .r, hs, rfl⟩
                · intro a_ w_ R_ rest_ vs55 hm hs ht
                  replace hs : St _ _ _ (feet []) [] _ _ := hs
                  have hm0 := hm.mid
                  have t1 := ht 1 (twB_spec 9 _ (by kernel_rfl))
                  have e1 : _ = some (vs55 1) := t1.val rfl
                  rw [show vs55 1 = .pointer (some ⟨g35, 1, none⟩) from t1.2.1] at e1
                  replace hs := hs.learn e1
                  have hs0 := hs.bare
                  refine st_ldE hs rfl (hm0.del .z) (.s .z) Try.isAgg35 rfl ?_; clear hs; intro a w hs
                  exact wpList_nil ⟨rfl, _, _, hs0, (.c .r), hs, rfl⟩
                · intro a_ w_ R_ rest_ vs55 hm hs ht
                  replace hs : St _ _ _ (feet [blk g5 [v, .int .i64 (((R.p : Nat) : Int)), .int .i64 (((R.e : Nat) : Int))] 76]) [blk g5 [v, .int .i64 (((R.p : Nat) : Int)), .int .i64 (((R.e : Nat) : Int))] 76] _ _ := hs
                  have hm0 := hm.mid
                  have t0 := ht 0 (twB_spec 9 _ (by kernel_rfl))
                  have e0 : _ = some (vs55 0) := t0.val rfl
                  rw [show vs55 0 = .pointer (some ⟨g5, 0, none⟩) from t0.2.1] at e0
                  replace hs := hs.learn e0
                  have t2 := ht 2 (twB_spec 9 _ (by kernel_rfl))
                  have e2 : _ = some (vs55 2) := t2.val rfl
                  rw [show vs55 2 = .int .u64 (((((l.getD j default).m).toNat : Nat) : Int)) from t2.2.1] at e2
                  replace hs := hs.learn e2
                  have hs0 := hs.bare
                  refine st_call hs (.c rfl (.c rfl .n)) Try.call42 (.c .z .n) (ruint_ok ((l.getD j default).m) g5 _ _ bs R _ (hm.rd1 hb (Dels.app _ _)) (hs.mem.del .z) (by omega)) rfl ?_; clear hs; rintro _ _ a w ⟨rfl, rfl⟩ hs; simp only [List.cons_append, List.nil_append] at hs
                  have hk56 := rUint_le (X := (l.getD j default).m) (bs := bs) (R := R) (by omega)
                  exact wpList_nil ⟨rfl, _, _, hs0, (.c (.c .r)), hs, rfl⟩
                · intro a_ w_ R_ rest_ vs55 hm hs ht
                  replace hs : St _ _ _ (feet []) [] _ _ := hs
                  have hm0 := hm.mid
                  have hs0 := hs.bare
                  refine st_mv hs rfl rfl ?_; clear hs; intro a w hs
                  exact wpList_nil ⟨rfl, _, _, hs0, .r, hs, rfl⟩
                · intro a_ w_ R_ rest_ vs55 hm hs ht
                  replace hs : St _ _ _ (feet []) [] _ _ := hs
                  have hm0 := hm.mid
                  have hs0 := hs.bare
                  refine st_fa hs rfl Try.underlying55 rfl Try.sizeOf35 (by decide) (o := 1) rfl rfl ?_; clear hs; intro a w hs
                  exact wpList_nil ⟨rfl, _, _, hs0, .r, hs, rfl⟩
                · intro a_ w_ R_ rest_ vs55 hm hs ht
                  replace hs : St _ _ _ (feet []) [] _ _ := hs
                  have hm0 := hm.mid
                  have t5 := ht 5 (twB_spec 9 _ (by kernel_rfl))
                  have e5 : _ = some (vs55 5) := t5.val rfl
                  rw [show vs55 5 = .pointer (some ⟨g35, 1, none⟩) from t5.2.1] at e5
                  replace hs := hs.learn e5
                  have hs0 := hs.bare
                  refine st_ldE hs rfl (hm0.del .z) (.s .z) Try.isAgg35 rfl ?_; clear hs; intro a w hs
                  exact wpList_nil ⟨rfl, _, _, hs0, (.c .r), hs, rfl⟩
                · intro a_ w_ R_ rest_ vs55 hm hs ht
                  replace hs : St _ _ _ (feet [blk g21 [u1, .int .i64 (((R.p : Nat) : Int)), .int .i64 (((R.e : Nat) : Int))] 66]) [blk g21 [u1, .int .i64 (((R.p : Nat) : Int)), .int .i64 (((R.e : Nat) : Int))] 66] _ _ := hs
                  have hm0 := hm.mid
                  have t4 := ht 4 (twB_spec 9 _ (by kernel_rfl))
                  have e4 : _ = some (vs55 4) := t4.val rfl
                  rw [show vs55 4 = .pointer (some ⟨g21, 0, none⟩) from t4.2.1] at e4
                  replace hs := hs.learn e4
                  have t6 := ht 6 (twB_spec 9 _ (by kernel_rfl))
                  have e6 : _ = some (vs55 6) := t6.val rfl
                  rw [show vs55 6 = .int .u64 (((((l.getD j default).m).toNat : Nat) : Int)) from t6.2.1] at e6
                  replace hs := hs.learn e6
                  have hs0 := hs.bare
                  refine st_call hs (.c rfl (.c rfl .n)) Try.call49 (.c .z .n) (muint_ok ((l.getD j default).m) g21 _ bs R _ (hI1_2 _ _ (hm.rd1 hb (Dels.app _ _))) (hs.mem.del .z) (by omega) (by simp only [maxLen]; omega)) rfl ?_; clear hs; rintro _ _ a w ⟨rfl, rfl⟩ hs; simp only [List.cons_append, List.nil_append] at hs
                  have hk57 := rUint_le (X := (l.getD j default).m) (bs := bs) (R := R) (by omega)
                  exact wpList_nil ⟨rfl, _, _, hs0, (.c (.c .r)), hs, rfl⟩
                · intro a_ w_ R_ rest_ vs55 hm hs ht
                  replace hs : St _ _ _ (feet []) [] _ _ := hs
                  have hm0 := hm.mid
                  have t3 := ht 3 (twB_spec 9 _ (by kernel_rfl))
                  have e3 : _ = some (vs55 3) := t3.val rfl
                  rw [show vs55 3 = .int .u64 (((((rUint bs ((l.getD j default).m) R).1).toNat : Nat) : Int)) from t3.2.1] at e3
                  replace hs := hs.learn e3
                  have t7 := ht 7 (twB_spec 9 _ (by kernel_rfl))
                  have e7 : _ = some (vs55 7) := t7.val rfl
                  rw [show vs55 7 = .int .u64 (((((rUint bs ((l.getD j default).m) R).1).toNat : Nat) : Int)) from t7.2.1] at e7
                  replace hs := hs.learn e7
                  have hs0 := hs.bare
                  refine st_neq hs rfl rfl rfl ?_; clear hs; intro a w hs
                  have hb_ : (!((((((rUint bs ((l.getD j default).m) R).1).toNat : Nat) : Int) : Int) == (((((rUint bs ((l.getD j default).m) R).1).toNat : Nat) : Int)))) = false := by first | decide | (simp; done) | (simp; omega)
                  rw [hb_] at hs; clear hb_
                  exact wpList_nil ⟨rfl, _, _, hs0, (.c (.c .r)), hs, rfl⟩
              · clear hs w a; intro a w vs55 hs hf
                replace hs : St _ _ _ _ [blk g35 [.int .i64 ((l.getD j default).k), .int .u64 (((((l.getD j default).m).toNat : Nat) : Int)), .int .u8 (((((l.getD j default).e).toNat : Nat) : Int))] 55, blk g5 [v, .int .i64 (((((rUint bs ((l.getD j default).m) R).2).p : Nat) : Int)), .int .i64 (((((rUint bs ((l.getD j default).m) R).2).e : Nat) : Int))] 76, blk g21 [(uNext u1 bs.length R.p ((rUint bs ((l.getD j default).m) R).2).p), .int .i64 (((((rUint bs ((l.getD j default).m) R).2).p : Nat) : Int)), .int .i64 (((((rUint bs ((l.getD j default).m) R).2).e : Nat) : Int))] 66] _ _ := hs
                obtain ⟨e8, q8⟩ := hf 8 (by decide)
                replace e8 : _ = some (vs55 8) := e8.val rfl
                rw [show vs55 8 = .bool (false) from q8] at e8
                replace hs := hs.learn e8; clear e8 q8
                clear hf
                refine then_n (hK54 _ _ ?_)
                refine wp_cond_false (hs.ev rfl) ?_
                refine wp_skip ?_
                refine in_n ?_
                refine then_n (hK37 _ _ ?_)
                refine wp_seq_k fun K58 hK59 => ?_
                replace hs := hs.sub (F' := [(56, .bool (false)), (46, .bool (((l.getD j default).k : Int) == 1)), (47, .bool (((l.getD j default).k : Int) == 1)), (39, .bool (((l.getD j default).k : Int) == 0)), (40, .bool (((l.getD j default).k : Int) == 0)), (38, .int .i64 ((l.getD j default).k)), (37, .pointer (some ⟨g35, 0, none⟩)), (8, .pointer (some ⟨g35, 0, none⟩)), (36, .agg #[.int .i64 ((l.getD j default).k), .int .u64 (((((l.getD j default).m).toNat : Nat) : Int)), .int .u8 (((((l.getD j default).e).toNat : Nat) : Int))]), (35, .pointer (some (adr u (j * 3)))), (34, .bool (decide ((j : Int) < (m2 : Int)))), (0, v), (5, .pointer (some ⟨g5, 0, none⟩)), (6, .pointer (some ⟨g21, 0, none⟩)), (31, u), (32, .int .i64 ((m2 : Int))), (33, .int .i64 ((j : Int)))]) (.c rfl (.c rfl (.c rfl (.c rfl (.c rfl (.c rfl (.c rfl (.c rfl (.c rfl (.c rfl (.c rfl (.c rfl (.c rfl (.c rfl (.c rfl (.c rfl (.c rfl .n)))))))))))))))))
                refine wp_drawG (M0 := [blk g35 [.int .i64 ((l.getD j default).k), .int .u64 (((((l.getD j default).m).toNat : Nat) : Int)), .int .u8 (((((l.getD j default).e).toNat : Nat) : Int))] 55, blk g5 [v, .int .i64 (((((rUint bs ((l.getD j default).m) R).2).p : Nat) : Int)), .int .i64 (((((rUint bs ((l.getD j default).m) R).2).e : Nat) : Int))] 76, blk g21 [(uNext u1 bs.length R.p ((rUint bs ((l.getD j default).m) R).2).p), .int .i64 (((((rUint bs ((l.getD j default).m) R).2).p : Nat) : Int)), .int .i64 (((((rUint bs ((l.getD j default).m) R).2).e : Nat) : Int))] 66]) (Ds := [⟨[], [], [], fun vs60 => vs60 0 = .pointer (some ⟨g5, 0, none⟩), fun vs60 => []⟩, ⟨[], [], [], fun vs60 => vs60 1 = .int .i64 ((((((rUint bs ((l.getD j default).m) R).2)).e : Nat) : Int)), fun vs60 => []⟩, ⟨[], [], [], fun vs60 => vs60 2 = .pointer (some ⟨g21, 0, none⟩), fun vs60 => []⟩, ⟨[], [], [], fun vs60 => vs60 3 = .pointer (some ⟨g21, 0, none⟩), fun vs60 => []⟩, ⟨[], [], [], fun vs60 => vs60 4 = .pointer (some ⟨g21, 2, none⟩), fun vs60 => []⟩, ⟨[], [], [], fun vs60 => vs60 5 = .int .i64 (((((rUint bs ((l.getD j default).m) R).2).e : Nat) : Int)), fun vs60 => []⟩, ⟨[], [], [], fun vs60 => vs60 6 = .bool (false), fun vs60 => []⟩, ⟨[], [], [], fun vs60 => vs60 7 = .bool (false), fun vs60 => []⟩, ⟨[], [], [], fun vs60 => vs60 8 = .pointer (some ⟨g5, 0, none⟩), fun vs60 => []⟩, ⟨[], [], [], fun vs60 => vs60 9 = .int .i64 ((((((rUint bs ((l.getD j default).m) R).2)).p : Nat) : Int)), fun vs60 => []⟩, ⟨[], [], [], fun vs60 => vs60 10 = .pointer (some ⟨g21, 0, none⟩), fun vs60 => []⟩, ⟨[], [], [], fun vs60 => vs60 11 = .pointer (some ⟨g21, 0, none⟩), fun vs60 => []⟩, ⟨[], [], [], fun vs60 => vs60 12 = .pointer (some ⟨g21, 1, none⟩), fun vs60 => []⟩, ⟨[], [], [], fun vs60 => vs60 13 = .int .i64 (((((rUint bs ((l.getD j default).m) R).2).p : Nat) : Int)), fun vs60 => []⟩, ⟨[], [], [], fun vs60 => vs60 14 = .bool (false), fun vs60 => []⟩, ⟨[], [], [], fun vs60 => vs60 15 = .bool (false), fun vs60 => []⟩, ⟨[], [], [], fun vs60 => vs60 16 = .bool (false), fun vs60 => []⟩, ⟨[], [], [], fun vs60 => vs60 17 = .pointer (some ⟨g5, 0, none⟩), fun vs60 => []⟩, ⟨[], [], [], fun vs60 => vs60 18 = .int .i64 ((((bs.length - (((rUint bs ((l.getD j default).m) R).2)).p) : Nat) : Int)), fun vs60 => []⟩, ⟨[], [], [], fun vs60 => vs60 19 = .pointer (some ⟨g21, 0, none⟩), fun vs60 => []⟩, ⟨[], [], [], fun vs60 => vs60 20 = .pointer (some ⟨g21, 0, none⟩), fun vs60 => []⟩, ⟨[], [], [], fun vs60 => vs60 21 = .pointer (some ⟨g21, 0, none⟩), fun vs60 => []⟩, ⟨[], [], [], fun vs60 => vs60 22 = (uNext u1 bs.length R.p ((rUint bs ((l.getD j default).m) R).2).p), fun vs60 => []⟩, ⟨[], [], [], fun vs60 => vs60 23 = .int .i64 ((((bs.length - ((rUint bs ((l.getD j default).m) R).2).p) : Nat) : Int)), fun vs60 => []⟩, ⟨[], [], [], fun vs60 => vs60 24 = .bool (false), fun vs60 => []⟩, ⟨[], [], [], fun vs60 => vs60 25 = .bool (false), fun vs60 => []⟩, ⟨[], [], [], fun vs60 => vs60 26 = .bool (false), fun vs60 => []⟩, ⟨[], [], [], fun vs60 => vs60 27 = .pointer (some ⟨g5, 0, none⟩), fun vs60 => []⟩, ⟨[], [], [], fun vs60 => vs60 28 = .int .i64 ((((rDone bs (((rUint bs ((l.getD j default).m) R).2))) : Nat) : Int)), fun vs60 => []⟩, ⟨[], [], [], fun vs60 => vs60 29 = .pointer (some ⟨g21, 0, none⟩), fun vs60 => []⟩, ⟨[], [], [], fun vs60 => vs60 30 = .int .i64 ((((rDone bs (((rUint bs ((l.getD j default).m) R).2))) : Nat) : Int)), fun vs60 => []⟩, ⟨[], [], [], fun vs60 => vs60 31 = .bool (false), fun vs60 => []⟩, ⟨[], [], [], fun vs60 => vs60 32 = .bool (false), fun vs60 => []⟩]) (by kernel_rfl) hs rfl .n (by kernel_rfl) (by kernel_rfl) ?_ ?_
                · refine (.c ?_ (.c ?_ (.c ?_ (.c ?_ (.c ?_ (.c ?_ (.c ?_ (.c ?_ (.c ?_ (.c ?_ (.c ?_ (.c ?_ (.c ?_ (.c ?_ (.c ?_ (.c ?_ (.c ?_ (.c ?_ (.c ?_ (.c ?_ (.c ?_ (.c ?_ (.c ?_ (.c ?_ (.c ?_ (.c ?_ (.c ?_ (.c ?_ (.c ?_ (.c ?_ (.c ?_ (.c ?_ (.c ?_ .n)))))))))))))))))))))))))))))))))
                  · intro a_ w_ R_ rest_ vs60 hm hs ht
                    replace hs : St _ _ _ (feet []) [] _ _ := hs
                    have hm0 := hm.mid
                    have hs0 := hs.bare
                    refine st_mv hs rfl rfl ?_; clear hs; intro a w hs
                    exact wpList_nil ⟨rfl, _, _, hs0, .r, hs, rfl⟩
                  · intro a_ w_ R_ rest_ vs60 hm hs ht
                    replace hs : St _ _ _ (feet []) [] _ _ := hs
                    have hm0 := hm.mid
                    have t0 := ht 0 (twB_spec 33 _ (by kernel_rfl))
                    have e0 : _ = some (vs60 0) := t0.val rfl
                    rw [show vs60 0 = .pointer (some ⟨g5, 0, none⟩) from t0.2.1] at e0
                    replace hs := hs.learn e0
                    have hs0 := hs.bare
                    refine st_callP (v := .int .i64 ((((((rUint bs ((l.getD j default).m) R).2)).e : Nat) : Int))) hs (.c rfl .n) Try.call47 (rerr_ok g5 _ _ bs (((rUint bs ((l.getD j default).m) R).2)) _ (hm.rd0 hb) (hm0.del (.s .z)) (by omega)) rfl ?_; clear hs; intro a w hs
                    exact wpList_nil ⟨rfl, _, _, hs0, (.c .r), hs, rfl⟩
                  · intro a_ w_ R_ rest_ vs60 hm hs ht
                    replace hs : St _ _ _ (feet []) [] _ _ := hs
                    have hm0 := hm.mid
                    have hs0 := hs.bare
                    refine st_mv hs rfl rfl ?_; clear hs; intro a w hs
                    exact wpList_nil ⟨rfl, _, _, hs0, .r, hs, rfl⟩
                  · intro a_ w_ R_ rest_ vs60 hm hs ht
                    replace hs : St _ _ _ (feet []) [] _ _ := hs
                    have hm0 := hm.mid
                    have t2 := ht 2 (twB_spec 33 _ (by kernel_rfl))
                    have e2 : _ = some (vs60 2) := t2.val rfl
                    rw [show vs60 2 = .pointer (some ⟨g21, 0, none⟩) from t2.2.1] at e2
                    replace hs := hs.learn e2
                    have hs0 := hs.bare
                    refine st_nc hs rfl rfl ?_; clear hs; intro a w hs
                    exact wpList_nil ⟨rfl, _, _, hs0, (.c .r), hs, rfl⟩
                  · intro a_ w_ R_ rest_ vs60 hm hs ht
                    replace hs : St _ _ _ (feet []) [] _ _ := hs
                    have hm0 := hm.mid
                    have t3 := ht 3 (twB_spec 33 _ (by kernel_rfl))
                    have e3 : _ = some (vs60 3) := t3.val rfl
                    rw [show vs60 3 = .pointer (some ⟨g21, 0, none⟩) from t3.2.1] at e3
                    replace hs := hs.learn e3
                    have hs0 := hs.bare
                    refine st_fa hs rfl Try.underlying66 rfl Try.sizeOf3 (by decide) (o := 2) rfl rfl ?_; clear hs; intro a w hs
                    exact wpList_nil ⟨rfl, _, _, hs0, (.c .r), hs, rfl⟩
                  · intro a_ w_ R_ rest_ vs60 hm hs ht
                    replace hs : St _ _ _ (feet []) [] _ _ := hs
                    have hm0 := hm.mid
                    have t4 := ht 4 (twB_spec 33 _ (by kernel_rfl))
                    have e4 : _ = some (vs60 4) := t4.val rfl
                    rw [show vs60 4 = .pointer (some ⟨g21, 2, none⟩) from t4.2.1] at e4
                    replace hs := hs.learn e4
                    have hs0 := hs.bare
                    refine st_ldE hs rfl (hm0.del (.s (.s .z))) (.s (.s .z)) Try.isAgg3 rfl ?_; clear hs; intro a w hs
                    exact wpList_nil ⟨rfl, _, _, hs0, (.c .r), hs, rfl⟩
                  · intro a_ w_ R_ rest_ vs60 hm hs ht
                    replace hs : St _ _ _ (feet []) [] _ _ := hs
                    have hm0 := hm.mid
                    have t1 := ht 1 (twB_spec 33 _ (by kernel_rfl))
                    have e1 : _ = some (vs60 1) := t1.val rfl
                    rw [show vs60 1 = .int .i64 ((((((rUint bs ((l.getD j default).m) R).2)).e : Nat) : Int)) from t1.2.1] at e1
                    replace hs := hs.learn e1
                    have t5 := ht 5 (twB_spec 33 _ (by kernel_rfl))
                    have e5 : _ = some (vs60 5) := t5.val rfl
                    rw [show vs60 5 = .int .i64 (((((rUint bs ((l.getD j default).m) R).2).e : Nat) : Int)) from t5.2.1] at e5
                    replace hs := hs.learn e5
                    have hs0 := hs.bare
                    refine st_neq hs rfl rfl rfl ?_; clear hs; intro a w hs
                    have hb_ : (!(((((((rUint bs ((l.getD j default).m) R).2)).e : Nat) : Int) : Int) == (((((rUint bs ((l.getD j default).m) R).2).e : Nat) : Int)))) = false := by first | decide | (simp; done) | (simp; omega)
                    rw [hb_] at hs; clear hb_
                    exact wpList_nil ⟨rfl, _, _, hs0, (.c (.c .r)), hs, rfl⟩
                  · intro a_ w_ R_ rest_ vs60 hm hs ht
                    replace hs : St _ _ _ (feet []) [] _ _ := hs
                    have hm0 := hm.mid
                    have t6 := ht 6 (twB_spec 33 _ (by kernel_rfl))
                    have e6 : _ = some (vs60 6) := t6.val rfl
                    rw [show vs60 6 = .bool (false) from t6.2.1] at e6
                    replace hs := hs.learn e6
                    have hs0 := hs.bare
                    refine st_mv hs rfl rfl ?_; clear hs; intro a w hs
                    exact wpList_nil ⟨rfl, _, _, hs0, (.c .r), hs, rfl⟩
                  · intro a_ w_ R_ rest_ vs60 hm hs ht
                    replace hs : St _ _ _ (feet []) [] _ _ := hs
                    have hm0 := hm.mid
                    have t7 := ht 7 (twB_spec 33 _ (by kernel_rfl))
                    have e7 : _ = some (vs60 7) := t7.val rfl
                    rw [show vs60 7 = .bool (false) from t7.2.1] at e7
                    replace hs := hs.learn e7
                    have hs0 := hs.bare
                    refine st_guardT hs rfl rfl rfl ?_
                    refine st_mv hs rfl rfl ?_; clear hs; intro a w hs
                    exact wpList_nil ⟨rfl, _, _, hs0, (.c .r), hs, rfl⟩
                  · intro a_ w_ R_ rest_ vs60 hm hs ht
                    replace hs : St _ _ _ (feet []) [] _ _ := hs
                    have hm0 := hm.mid
                    have t7 := ht 7 (twB_spec 33 _ (by kernel_rfl))
                    have e7 : _ = some (vs60 7) := t7.val rfl
                    rw [show vs60 7 = .bool (false) from t7.2.1] at e7
                    replace hs := hs.learn e7
                    have t8 := ht 8 (twB_spec 33 _ (by kernel_rfl))
                    have e8 : _ = some (vs60 8) := t8.val rfl
                    rw [show vs60 8 = .pointer (some ⟨g5, 0, none⟩) from t8.2.1] at e8
                    replace hs := hs.learn e8
                    have hs0 := hs.bare
                    refine st_guardT hs rfl rfl rfl ?_
                    refine st_callP (v := .int .i64 ((((((rUint bs ((l.getD j default).m) R).2)).p : Nat) : Int))) hs (.c rfl .n) Try.call40 (rat_ok g5 _ _ bs (((rUint bs ((l.getD j default).m) R).2)) _ (hm.rd0 hb) (hm0.del (.s .z)) (by omega)) rfl ?_; clear hs; intro a w hs
                    exact wpList_nil ⟨rfl, _, _, hs0, (.c (.c .r)), hs, rfl⟩
                  · intro a_ w_ R_ rest_ vs60 hm hs ht
                    replace hs : St _ _ _ (feet []) [] _ _ := hs
                    have hm0 := hm.mid
                    have t7 := ht 7 (twB_spec 33 _ (by kernel_rfl))
                    have e7 : _ = some (vs60 7) := t7.val rfl
                    rw [show vs60 7 = .bool (false) from t7.2.1] at e7
                    replace hs := hs.learn e7
                    have hs0 := hs.bare
                    refine st_guardT hs rfl rfl rfl ?_
                    refine st_mv hs rfl rfl ?_; clear hs; intro a w hs
                    exact wpList_nil ⟨rfl, _, _, hs0, (.c .r), hs, rfl⟩
                  · intro a_ w_ R_ rest_ vs60 hm hs ht
                    replace hs : St _ _ _ (feet []) [] _ _ := hs
                    have hm0 := hm.mid
                    have t7 := ht 7 (twB_spec 33 _ (by kernel_rfl))
                    have e7 : _ = some (vs60 7) := t7.val rfl
                    rw [show vs60 7 = .bool (false) from t7.2.1] at e7
                    replace hs := hs.learn e7
                    have t10 := ht 10 (twB_spec 33 _ (by kernel_rfl))
                    have e10 : _ = some (vs60 10) := t10.val rfl
                    rw [show vs60 10 = .pointer (some ⟨g21, 0, none⟩) from t10.2.1] at e10
                    replace hs := hs.learn e10
                    have hs0 := hs.bare
                    refine st_guardT hs rfl rfl rfl ?_
                    refine st_nc hs rfl rfl ?_; clear hs; intro a w hs
                    exact wpList_nil ⟨rfl, _, _, hs0, (.c (.c .r)), hs, rfl⟩
                  · intro a_ w_ R_ rest_ vs60 hm hs ht
                    replace hs : St _ _ _ (feet []) [] _ _ := hs
                    have hm0 := hm.mid
                    have t7 := ht 7 (twB_spec 33 _ (by kernel_rfl))
                    have e7 : _ = some (vs60 7) := t7.val rfl
                    rw [show vs60 7 = .bool (false) from t7.2.1] at e7
                    replace hs := hs.learn e7
                    have t11 := ht 11 (twB_spec 33 _ (by kernel_rfl))
                    have e11 : _ = some (vs60 11) := t11.val rfl
                    rw [show vs60 11 = .pointer (some ⟨g21, 0, none⟩) from t11.2.1] at e11
                    replace hs := hs.learn e11
                    have hs0 := hs.bare
                    refine st_guardT hs rfl rfl rfl ?_
                    refine st_fa hs rfl Try.underlying66 rfl Try.sizeOf3 (by decide) (o := 1) rfl rfl ?_; clear hs; intro a w hs
                    exact wpList_nil ⟨rfl, _, _, hs0, (.c (.c .r)), hs, rfl⟩
                  · intro a_ w_ R_ rest_ vs60 hm hs ht
                    replace hs : St _ _ _ (feet []) [] _ _ := hs
                    have hm0 := hm.mid
                    have t7 := ht 7 (twB_spec 33 _ (by kernel_rfl))
                    have e7 : _ = some (vs60 7) := t7.val rfl
                    rw [show vs60 7 = .bool (false) from t7.2.1] at e7
                    replace hs := hs.learn e7
                    have t12 := ht 12 (twB_spec 33 _ (by kernel_rfl))
                    have e12 : _ = some (vs60 12) := t12.val rfl
                    rw [show vs60 12 = .pointer (some ⟨g21, 1, none⟩) from t12.2.1] at e12
                    replace hs := hs.learn e12
                    have hs0 := hs.bare
                    refine st_guardT hs rfl rfl rfl ?_
                    refine st_ldE hs rfl (hm0.del (.s (.s .z))) (.s .z) Try.isAgg3 rfl ?_; clear hs; intro a w hs
                    exact wpList_nil ⟨rfl, _, _, hs0, (.c (.c .r)), hs, rfl⟩
                  · intro a_ w_ R_ rest_ vs60 hm hs ht
                    replace hs : St _ _ _ (feet []) [] _ _ := hs
                    have hm0 := hm.mid
                    have t7 := ht 7 (twB_spec 33 _ (by kernel_rfl))
                    have e7 : _ = some (vs60 7) := t7.val rfl
                    rw [show vs60 7 = .bool (false) from t7.2.1] at e7
                    replace hs := hs.learn e7
                    have t9 := ht 9 (twB_spec 33 _ (by kernel_rfl))
                    have e9 : _ = some (vs60 9) := t9.val rfl
                    rw [show vs60 9 = .int .i64 ((((((rUint bs ((l.getD j default).m) R).2)).p : Nat) : Int)) from t9.2.1] at e9
                    replace hs := hs.learn e9
                    have t13 := ht 13 (twB_spec 33 _ (by kernel_rfl))
                    have e13 : _ = some (vs60 13) := t13.val rfl
                    rw [show vs60 13 = .int .i64 (((((rUint bs ((l.getD j default).m) R).2).p : Nat) : Int)) from t13.2.1] at e13
                    replace hs := hs.learn e13
                    have hs0 := hs.bare
                    refine st_guardT hs rfl rfl rfl ?_
                    refine st_neq hs rfl rfl rfl ?_; clear hs; intro a w hs
                    have hb_ : (!(((((((rUint bs ((l.getD j default).m) R).2)).p : Nat) : Int) : Int) == (((((rUint bs ((l.getD j default).m) R).2).p : Nat) : Int)))) = false := by first | decide | (simp; done) | (simp; omega)
                    rw [hb_] at hs; clear hb_
                    exact wpList_nil ⟨rfl, _, _, hs0, (.c (.c (.c .r))), hs, rfl⟩
                  · intro a_ w_ R_ rest_ vs60 hm hs ht
                    replace hs : St _ _ _ (feet []) [] _ _ := hs
                    have hm0 := hm.mid
                    have t7 := ht 7 (twB_spec 33 _ (by kernel_rfl))
                    have e7 : _ = some (vs60 7) := t7.val rfl
                    rw [show vs60 7 = .bool (false) from t7.2.1] at e7
                    replace hs := hs.learn e7
                    have t14 := ht 14 (twB_spec 33 _ (by kernel_rfl))
                    have e14 : _ = some (vs60 14) := t14.val rfl
                    rw [show vs60 14 = .bool (false) from t14.2.1] at e14
                    replace hs := hs.learn e14
                    have hs0 := hs.bare
                    refine st_pickF hs rfl rfl rfl ?_; clear hs; intro a w hs
                    exact wpList_nil ⟨rfl, _, _, hs0, (.c (.c .r)), hs, rfl⟩
                  · intro a_ w_ R_ rest_ vs60 hm hs ht
                    replace hs : St _ _ _ (feet []) [] _ _ := hs
                    have hm0 := hm.mid
                    have t15 := ht 15 (twB_spec 33 _ (by kernel_rfl))
                    have e15 : _ = some (vs60 15) := t15.val rfl
                    rw [show vs60 15 = .bool (false) from t15.2.1] at e15
                    replace hs := hs.learn e15
                    have hs0 := hs.bare
                    refine st_mv hs rfl rfl ?_; clear hs; intro a w hs
                    exact wpList_nil ⟨rfl, _, _, hs0, (.c .r), hs, rfl⟩
                  · intro a_ w_ R_ rest_ vs60 hm hs ht
                    replace hs : St _ _ _ (feet []) [] _ _ := hs
                    have hm0 := hm.mid
                    have t16 := ht 16 (twB_spec 33 _ (by kernel_rfl))
                    have e16 : _ = some (vs60 16) := t16.val rfl
                    rw [show vs60 16 = .bool (false) from t16.2.1] at e16
                    replace hs := hs.learn e16
                    have hs0 := hs.bare
                    refine st_guardT hs rfl rfl rfl ?_
                    refine st_mv hs rfl rfl ?_; clear hs; intro a w hs
                    exact wpList_nil ⟨rfl, _, _, hs0, (.c .r), hs, rfl⟩
                  · intro a_ w_ R_ rest_ vs60 hm hs ht
                    replace hs : St _ _ _ (feet []) [] _ _ := hs
                    have hm0 := hm.mid
                    have t16 := ht 16 (twB_spec 33 _ (by kernel_rfl))
                    have e16 : _ = some (vs60 16) := t16.val rfl
                    rw [show vs60 16 = .bool (false) from t16.2.1] at e16
                    replace hs := hs.learn e16
                    have t17 := ht 17 (twB_spec 33 _ (by kernel_rfl))
                    have e17 : _ = some (vs60 17) := t17.val rfl
                    rw [show vs60 17 = .pointer (some ⟨g5, 0, none⟩) from t17.2.1] at e17
                    replace hs := hs.learn e17
                    have hs0 := hs.bare
                    refine st_guardT hs rfl rfl rfl ?_
                    refine st_callP (v := .int .i64 ((((bs.length - (((rUint bs ((l.getD j default).m) R).2)).p) : Nat) : Int))) hs (.c rfl .n) Try.call45 (rleft_ok g5 _ _ bs (((rUint bs ((l.getD j default).m) R).2)) _ (hm.rd0 hb) (hm0.del (.s .z)) (by omega)) rfl ?_; clear hs; intro a w hs
                    exact wpList_nil ⟨rfl, _, _, hs0, (.c (.c .r)), hs, rfl⟩
                  · intro a_ w_ R_ rest_ vs60 hm hs ht
                    replace hs : St _ _ _ (feet []) [] _ _ := hs
                    have hm0 := hm.mid
                    have t16 := ht 16 (twB_spec 33 _ (by kernel_rfl))
                    have e16 : _ = some (vs60 16) := t16.val rfl
                    rw [show vs60 16 = .bool (false) from t16.2.1] at e16
                    replace hs := hs.learn e16
                    have hs0 := hs.bare
                    refine st_guardT hs rfl rfl rfl ?_
                    refine st_mv hs rfl rfl ?_; clear hs; intro a w hs
                    exact wpList_nil ⟨rfl, _, _, hs0, (.c .r), hs, rfl⟩
                  · intro a_ w_ R_ rest_ vs60 hm hs ht
                    replace hs : St _ _ _ (feet []) [] _ _ := hs
                    have hm0 := hm.mid
                    have t16 := ht 16 (twB_spec 33 _ (by kernel_rfl))
                    have e16 : _ = some (vs60 16) := t16.val rfl
                    rw [show vs60 16 = .bool (false) from t16.2.1] at e16
                    replace hs := hs.learn e16
                    have t19 := ht 19 (twB_spec 33 _ (by kernel_rfl))
                    have e19 : _ = some (vs60 19) := t19.val rfl
                    rw [show vs60 19 = .pointer (some ⟨g21, 0, none⟩) from t19.2.1] at e19
                    replace hs := hs.learn e19
                    have hs0 := hs.bare
                    refine st_guardT hs rfl rfl rfl ?_
                    refine st_nc hs rfl rfl ?_; clear hs; intro a w hs
                    exact wpList_nil ⟨rfl, _, _, hs0, (.c (.c .r)), hs, rfl⟩
                  · intro a_ w_ R_ rest_ vs60 hm hs ht
                    replace hs : St _ _ _ (feet []) [] _ _ := hs
                    have hm0 := hm.mid
                    have t16 := ht 16 (twB_spec 33 _ (by kernel_rfl))
                    have e16 : _ = some (vs60 16) := t16.val rfl
                    rw [show vs60 16 = .bool (false) from t16.2.1] at e16
                    replace hs := hs.learn e16
                    have t20 := ht 20 (twB_spec 33 _ (by kernel_rfl))
                    have e20 : _ = some (vs60 20) := t20.val rfl
                    rw [show vs60 20 = .pointer (some ⟨g21, 0, none⟩) from t20.2.1] at e20
                    replace hs := hs.learn e20
                    have hs0 := hs.bare
                    refine st_guardT hs rfl rfl rfl ?_
                    refine st_fa hs rfl Try.underlying66 rfl Try.sizeOf22 (by decide) (o := 0) rfl rfl ?_; clear hs; intro a w hs
                    exact wpList_nil ⟨rfl, _, _, hs0, (.c (.c .r)), hs, rfl⟩
                  · intro a_ w_ R_ rest_ vs60 hm hs ht
                    replace hs : St _ _ _ (feet []) [] _ _ := hs
                    have hm0 := hm.mid
                    have t16 := ht 16 (twB_spec 33 _ (by kernel_rfl))
                    have e16 : _ = some (vs60 16) := t16.val rfl
                    rw [show vs60 16 = .bool (false) from t16.2.1] at e16
                    replace hs := hs.learn e16
                    have t21 := ht 21 (twB_spec 33 _ (by kernel_rfl))
                    have e21 : _ = some (vs60 21) := t21.val rfl
                    rw [show vs60 21 = .pointer (some ⟨g21, 0, none⟩) from t21.2.1] at e21
                    replace hs := hs.learn e21
                    have hs0 := hs.bare
                    refine st_guardT hs rfl rfl rfl ?_
                    refine st_ldE hs rfl (hm0.del (.s (.s .z))) .z Try.isAgg22 rfl ?_; clear hs; intro a w hs
                    exact wpList_nil ⟨rfl, _, _, hs0, (.c (.c .r)), hs, rfl⟩
                  · intro a_ w_ R_ rest_ vs60 hm hs ht
                    replace hs : St _ _ _ (feet []) [] _ _ := hs
                    have hm0 := hm.mid
                    have t16 := ht 16 (twB_spec 33 _ (by kernel_rfl))
                    have e16 : _ = some (vs60 16) := t16.val rfl
                    rw [show vs60 16 = .bool (false) from t16.2.1] at e16
                    replace hs := hs.learn e16
                    have t22 := ht 22 (twB_spec 33 _ (by kernel_rfl))
                    have e22 : _ = some (vs60 22) := t22.val rfl
                    rw [show vs60 22 = (uNext u1 bs.length R.p ((rUint bs ((l.getD j default).m) R).2).p) from t22.2.1] at e22
                    replace hs := hs.learn e22
                    have hs0 := hs.bare
                    refine st_guardT hs rfl rfl rfl ?_
                    refine st_len hs rfl ((uNext_tr (p := R.p) (p' := ((rUint bs ((l.getD j default).m) R).2).p) (by omega) (by omega)) _ _ (hI1_2 _ _ (hm.rd0 hb))).isSl Try.underlying22 rfl ?_; clear hs; intro a w hs
                    exact wpList_nil ⟨rfl, _, _, hs0, (.c (.c .r)), hs, rfl⟩
                  · intro a_ w_ R_ rest_ vs60 hm hs ht
                    replace hs : St _ _ _ (feet []) [] _ _ := hs
                    have hm0 := hm.mid
                    have t16 := ht 16 (twB_spec 33 _ (by kernel_rfl))
                    have e16 : _ = some (vs60 16) := t16.val rfl
                    rw [show vs60 16 = .bool (false) from t16.2.1] at e16
                    replace hs := hs.learn e16
                    have t18 := ht 18 (twB_spec 33 _ (by kernel_rfl))
                    have e18 : _ = some (vs60 18) := t18.val rfl
                    rw [show vs60 18 = .int .i64 ((((bs.length - (((rUint bs ((l.getD j default).m) R).2)).p) : Nat) : Int)) from t18.2.1] at e18
                    replace hs := hs.learn e18
                    have t23 := ht 23 (twB_spec 33 _ (by kernel_rfl))
                    have e23 : _ = some (vs60 23) := t23.val rfl
                    rw [show vs60 23 = .int .i64 ((((bs.length - ((rUint bs ((l.getD j default).m) R).2).p) : Nat) : Int)) from t23.2.1] at e23
                    replace hs := hs.learn e23
                    have hs0 := hs.bare
                    refine st_guardT hs rfl rfl rfl ?_
                    refine st_neq hs rfl rfl rfl ?_; clear hs; intro a w hs
                    have hb_ : (!(((((bs.length - (((rUint bs ((l.getD j default).m) R).2)).p) : Nat) : Int) : Int) == ((((bs.length - ((rUint bs ((l.getD j default).m) R).2).p) : Nat) : Int)))) = false := by first | decide | (simp; done) | (simp; omega)
                    rw [hb_] at hs; clear hb_
                    exact wpList_nil ⟨rfl, _, _, hs0, (.c (.c (.c .r))), hs, rfl⟩
                  · intro a_ w_ R_ rest_ vs60 hm hs ht
                    replace hs : St _ _ _ (feet []) [] _ _ := hs
                    have hm0 := hm.mid
                    have t16 := ht 16 (twB_spec 33 _ (by kernel_rfl))
                    have e16 : _ = some (vs60 16) := t16.val rfl
                    rw [show vs60 16 = .bool (false) from t16.2.1] at e16
                    replace hs := hs.learn e16
                    have t24 := ht 24 (twB_spec 33 _ (by kernel_rfl))
                    have e24 : _ = some (vs60 24) := t24.val rfl
                    rw [show vs60 24 = .bool (false) from t24.2.1] at e24
                    replace hs := hs.learn e24
                    have hs0 := hs.bare
                    refine st_pickF hs rfl rfl rfl ?_; clear hs; intro a w hs
                    exact wpList_nil ⟨rfl, _, _, hs0, (.c (.c .r)), hs, rfl⟩
                  · intro a_ w_ R_ rest_ vs60 hm hs ht
                    replace hs : St _ _ _ (feet []) [] _ _ := hs
                    have hm0 := hm.mid
                    have t25 := ht 25 (twB_spec 33 _ (by kernel_rfl))
                    have e25 : _ = some (vs60 25) := t25.val rfl
                    rw [show vs60 25 = .bool (false) from t25.2.1] at e25
                    replace hs := hs.learn e25
                    have hs0 := hs.bare
                    refine st_mv hs rfl rfl ?_; clear hs; intro a w hs
                    exact wpList_nil ⟨rfl, _, _, hs0, (.c .r), hs, rfl⟩
                  · intro a_ w_ R_ rest_ vs60 hm hs ht
                    replace hs : St _ _ _ (feet []) [] _ _ := hs
                    have hm0 := hm.mid
                    have t26 := ht 26 (twB_spec 33 _ (by kernel_rfl))
                    have e26 : _ = some (vs60 26) := t26.val rfl
                    rw [show vs60 26 = .bool (false) from t26.2.1] at e26
                    replace hs := hs.learn e26
                    have hs0 := hs.bare
                    refine st_guardT hs rfl rfl rfl ?_
                    refine st_mv hs rfl rfl ?_; clear hs; intro a w hs
                    exact wpList_nil ⟨rfl, _, _, hs0, (.c .r), hs, rfl⟩
                  · intro a_ w_ R_ rest_ vs60 hm hs ht
                    replace hs : St _ _ _ (feet []) [] _ _ := hs
                    have hm0 := hm.mid
                    have t26 := ht 26 (twB_spec 33 _ (by kernel_rfl))
                    have e26 : _ = some (vs60 26) := t26.val rfl
                    rw [show vs60 26 = .bool (false) from t26.2.1] at e26
                    replace hs := hs.learn e26
                    have t27 := ht 27 (twB_spec 33 _ (by kernel_rfl))
                    have e27 : _ = some (vs60 27) := t27.val rfl
                    rw [show vs60 27 = .pointer (some ⟨g5, 0, none⟩) from t27.2.1] at e27
                    replace hs := hs.learn e27
                    have hs0 := hs.bare
                    refine st_guardT hs rfl rfl rfl ?_
                    refine st_callP (v := .int .i64 ((((rDone bs (((rUint bs ((l.getD j default).m) R).2))) : Nat) : Int))) hs (.c rfl .n) Try.call46 (rdone_ok g5 _ _ bs (((rUint bs ((l.getD j default).m) R).2)) _ (hm.rd0 hb) (hm0.del (.s .z)) (by omega)) rfl ?_; clear hs; intro a w hs
                    exact wpList_nil ⟨rfl, _, _, hs0, (.c (.c .r)), hs, rfl⟩
                  · intro a_ w_ R_ rest_ vs60 hm hs ht
                    replace hs : St _ _ _ (feet []) [] _ _ := hs
                    have hm0 := hm.mid
                    have t26 := ht 26 (twB_spec 33 _ (by kernel_rfl))
                    have e26 : _ = some (vs60 26) := t26.val rfl
                    rw [show vs60 26 = .bool (false) from t26.2.1] at e26
                    replace hs := hs.learn e26
                    have hs0 := hs.bare
                    refine st_guardT hs rfl rfl rfl ?_
                    refine st_mv hs rfl rfl ?_; clear hs; intro a w hs
                    exact wpList_nil ⟨rfl, _, _, hs0, (.c .r), hs, rfl⟩
                  · intro a_ w_ R_ rest_ vs60 hm hs ht
                    replace hs : St _ _ _ (feet []) [] _ _ := hs
                    have hm0 := hm.mid
                    have t26 := ht 26 (twB_spec 33 _ (by kernel_rfl))
                    have e26 : _ = some (vs60 26) := t26.val rfl
                    rw [show vs60 26 = .bool (false) from t26.2.1] at e26
                    replace hs := hs.learn e26
                    have t29 := ht 29 (twB_spec 33 _ (by kernel_rfl))
                    have e29 : _ = some (vs60 29) := t29.val rfl
                    rw [show vs60 29 = .pointer (some ⟨g21, 0, none⟩) from t29.2.1] at e29
                    replace hs := hs.learn e29
                    have hs0 := hs.bare
                    refine st_guardT hs rfl rfl rfl ?_
                    refine st_callP (v := .int .i64 ((((rDone bs (((rUint bs ((l.getD j default).m) R).2))) : Nat) : Int))) hs (.c rfl .n) Try.call54 (mdone_ok g21 _ bs (((rUint bs ((l.getD j default).m) R).2)) _ ((uNext_tr (p := R.p) (p' := ((rUint bs ((l.getD j default).m) R).2).p) (by omega) (by omega)) _ _ (hI1_2 _ _ (hm.rd0 hb))) (hm0.del (.s (.s .z))) (by omega) (by simp only [maxLen]; omega)) rfl ?_; clear hs; intro a w hs
                    exact wpList_nil ⟨rfl, _, _, hs0, (.c (.c .r)), hs, rfl⟩
                  · intro a_ w_ R_ rest_ vs60 hm hs ht
                    replace hs : St _ _ _ (feet []) [] _ _ := hs
                    have hm0 := hm.mid
                    have t26 := ht 26 (twB_spec 33 _ (by kernel_rfl))
                    have e26 : _ = some (vs60 26) := t26.val rfl
                    rw [show vs60 26 = .bool (false) from t26.2.1] at e26
                    replace hs := hs.learn e26
                    have t28 := ht 28 (twB_spec 33 _ (by kernel_rfl))
                    have e28 : _ = some (vs60 28) := t28.val rfl
                    rw [show vs60 28 = .int .i64 ((((rDone bs (((rUint bs ((l.getD j default).m) R).2))) : Nat) : Int)) from t28.2.1] at e28
                    replace hs := hs.learn e28
                    have t30 := ht 30 (twB_spec 33 _ (by kernel_rfl))
                    have e30 : _ = some (vs60 30) := t30.val rfl
                    rw [show vs60 30 = .int .i64 ((((rDone bs (((rUint bs ((l.getD j default).m) R).2))) : Nat) : Int)) from t30.2.1] at e30
                    replace hs := hs.learn e30
                    have hs0 := hs.bare
                    refine st_guardT hs rfl rfl rfl ?_
                    refine st_neq hs rfl rfl rfl ?_; clear hs; intro a w hs
                    have hb_ : (!(((((rDone bs (((rUint bs ((l.getD j default).m) R).2))) : Nat) : Int) : Int) == ((((rDone bs (((rUint bs ((l.getD j default).m) R).2))) : Nat) : Int)))) = false := by first | decide | (simp; done) | (simp; omega)
                    rw [hb_] at hs; clear hb_
                    exact wpList_nil ⟨rfl, _, _, hs0, (.c (.c (.c .r))), hs, rfl⟩
                  · intro a_ w_ R_ rest_ vs60 hm hs ht
                    replace hs : St _ _ _ (feet []) [] _ _ := hs
                    have hm0 := hm.mid
                    have t26 := ht 26 (twB_spec 33 _ (by kernel_rfl))
                    have e26 : _ = some (vs60 26) := t26.val rfl
                    rw [show vs60 26 = .bool (false) from t26.2.1] at e26
                    replace hs := hs.learn e26
                    have t31 := ht 31 (twB_spec 33 _ (by kernel_rfl))
                    have e31 : _ = some (vs60 31) := t31.val rfl
                    rw [show vs60 31 = .bool (false) from t31.2.1] at e31
                    replace hs := hs.learn e31
                    have hs0 := hs.bare
                    refine st_pickF hs rfl rfl rfl ?_; clear hs; intro a w hs
                    exact wpList_nil ⟨rfl, _, _, hs0, (.c (.c .r)), hs, rfl⟩
                · clear hs w a; intro a w vs60 hs hf
                  replace hs : St _ _ _ _ [blk g35 [.int .i64 ((l.getD j default).k), .int .u64 (((((l.getD j default).m).toNat : Nat) : Int)), .int .u8 (((((l.getD j default).e).toNat : Nat) : Int))] 55, blk g5 [v, .int .i64 (((((rUint bs ((l.getD j default).m) R).2).p : Nat) : Int)), .int .i64 (((((rUint bs ((l.getD j default).m) R).2).e : Nat) : Int))] 76, blk g21 [(uNext u1 bs.length R.p ((rUint bs ((l.getD j default).m) R).2).p), .int .i64 (((((rUint bs ((l.getD j default).m) R).2).p : Nat) : Int)), .int .i64 (((((rUint bs ((l.getD j default).m) R).2).e : Nat) : Int))] 66] _ _ := hs
                  obtain ⟨e32, q32⟩ := hf 32 (by decide)
                  replace e32 : _ = some (vs60 32) := e32.val rfl
                  rw [show vs60 32 = .bool (false) from q32] at e32
                  replace hs := hs.learn e32; clear e32 q32
                  clear hf
                  refine then_n (hK59 _ _ ?_)
                  refine wp_cond_false (hs.ev rfl) ?_
                  refine wp_skip ?_
                  refine in_n ?_
                  refine then_n (hK32 _ _ ?_)
                  refine wp_region_lit ?_
                  refine st_addR hs rfl rfl (by omega) rfl ?_; clear hs w a; intro a w hs
                  refine st_mv hs rfl rfl ?_; clear hs w a; intro a w hs
                  refine wpList_nil ?_
                  refine then_n ?_
                  replace hs := hs.drop (.c .z .n)
                  refine ⟨_, ?_, j + 1, ((rUint bs ((l.getD j default).m) R).2), (uNext u1 bs.length R.p ((rUint bs ((l.getD j default).m) R).2).p), rfl, hs.sub (.c rfl (.c rfl (.c rfl (.c rfl (.c rfl (.c rfl .n)))))), by omega, by omega, (fun w T h => (uNext_tr (p := R.p) (p' := ((rUint bs ((l.getD j default).m) R).2).p) (by omega) (by omega)) w T (hI1_2 w T h))⟩
                  omega
            ·
              replace hc52 := ne_of_beq_f hc52
              refine wp_seq_k fun K61 hK62 => ?_
              refine wp_region_lit ?_
              refine st_eql hs rfl rfl rfl ?_; clear hs w a; intro a w hs
              refine st_as hs rfl rfl ?_; clear hs w a; intro a w hs
              refine wpList_nil ?_
              refine then_n (hK62 _ _ ?_)
              refine wp_if hs rfl (fun hc63 => ?_) (fun hc63 => ?_)
              ·
                replace hc63 := eq_of_beq hc63
                refine wp_seq_k fun K64 hK65 => ?_
                refine wp_region_lit ?_
                refine st_mv hs rfl rfl ?_; clear hs w a; intro a w hs
                refine st_call hs (.c rfl .n) Try.call43 (.c (.s .z) .n) (rint_ok  g5 _ _ bs R _ (hs.mem.rd1 hb (.c (.s .z) .n)) (hs.mem.del (.s .z)) (by omega)) rfl ?_; clear hs w a; rintro _ _ a w ⟨rfl, rfl⟩ hs; simp only [List.cons_append, List.nil_append] at hs
                have hk66 := rInt_le (bs := bs) (R := R) (by omega)
                refine st_mv hs rfl rfl ?_; clear hs w a; intro a w hs
                refine st_call hs (.c rfl .n) Try.call50 (.c (.s (.s .z)) .n) (mint_ok  g21 _ bs R _ (hI1_2 _ _ (hs.mem.rd1 hb (.c (.s (.s .z)) .n))) (hs.mem.del (.s (.s .z))) (by omega) (by simp only [maxLen]; omega)) rfl ?_; clear hs w a; rintro _ _ a w ⟨rfl, rfl⟩ hs; simp only [List.cons_append, List.nil_append] at hs
                have hk67 := rInt_le (bs := bs) (R := R) (by omega)
                refine st_neq hs rfl rfl rfl ?_; clear hs w a; intro a w hs
                have hb_ : (!(((rInt bs R).1 : Int) == ((rInt bs R).1))) = false := by first | decide | (simp; done) | (simp; omega)
                rw [hb_] at hs; clear hb_
                refine wpList_nil ?_
                refine then_n (hK65 _ _ ?_)
                refine wp_cond_false (hs.ev rfl) ?_
                refine wp_skip ?_
                refine in_n ?_
                refine then_n (hK37 _ _ ?_)
                refine wp_seq_k fun K68 hK69 => ?_
                replace hs := hs.sub (F' := [(63, .bool (false)), (62, .int .i64 ((rInt bs R).1)), (61, .pointer (some ⟨g21, 0, none⟩)), (60, .int .i64 ((rInt bs R).1)), (59, .pointer (some ⟨g5, 0, none⟩)), (57, .bool (((l.getD j default).k : Int) == 2)), (58, .bool (((l.getD j default).k : Int) == 2)), (46, .bool (((l.getD j default).k : Int) == 1)), (47, .bool (((l.getD j default).k : Int) == 1)), (39, .bool (((l.getD j default).k : Int) == 0)), (40, .bool (((l.getD j default).k : Int) == 0)), (38, .int .i64 ((l.getD j default).k)), (37, .pointer (some ⟨g35, 0, none⟩)), (8, .pointer (some ⟨g35, 0, none⟩)), (36, .agg #[.int .i64 ((l.getD j default).k), .int .u64 (((((l.getD j default).m).toNat : Nat) : Int)), .int .u8 (((((l.getD j default).e).toNat : Nat) : Int))]), (35, .pointer (some (adr u (j * 3)))), (34, .bool (decide ((j : Int) < (m2 : Int)))), (0, v), (5, .pointer (some ⟨g5, 0, none⟩)), (6, .pointer (some ⟨g21, 0, none⟩)), (31, u), (32, .int .i64 ((m2 : Int))), (33, .int .i64 ((j : Int)))]) (.c rfl (.c rfl (.c rfl (.c rfl (.c rfl (.c rfl (.c rfl (.c rfl (.c rfl (.c rfl (.c rfl (.c rfl (.c rfl (.c rfl (.c rfl (.c rfl (.c rfl (.c rfl (.c rfl (.c rfl (.c rfl (.c rfl (.c rfl .n)))))))))))))))))))))))
                refine wp_drawG (M0 := [blk g21 [(uNext u1 bs.length R.p ((rInt bs R).2).p), .int .i64 (((((rInt bs R).2).p : Nat) : Int)), .int .i64 (((((rInt bs R).2).e : Nat) : Int))] 66, blk g5 [v, .int .i64 (((((rInt bs R).2).p : Nat) : Int)), .int .i64 (((((rInt bs R).2).e : Nat) : Int))] 76, blk g35 [.int .i64 ((l.getD j default).k), .int .u64 (((((l.getD j default).m).toNat : Nat) : Int)), .int .u8 (((((l.getD j default).e).toNat : Nat) : Int))] 55]) (Ds := [⟨[], [], [], fun vs70 => vs70 0 = .pointer (some ⟨g5, 0, none⟩), fun vs70 => []⟩, ⟨[], [], [], fun vs70 => vs70 1 = .int .i64 ((((((rInt bs R).2)).e : Nat) : Int)), fun vs70 => []⟩, ⟨[], [], [], fun vs70 => vs70 2 = .pointer (some ⟨g21, 0, none⟩), fun vs70 => []⟩, ⟨[], [], [], fun vs70 => vs70 3 = .pointer (some ⟨g21, 0, none⟩), fun vs70 => []⟩, ⟨[], [], [], fun vs70 => vs70 4 = .pointer (some ⟨g21, 2, none⟩), fun vs70 => []⟩, ⟨[], [], [], fun vs70 => vs70 5 = .int .i64 (((((rInt bs R).2).e : Nat) : Int)), fun vs70 => []⟩, ⟨[], [], [], fun vs70 => vs70 6 = .bool (false), fun vs70 => []⟩, ⟨[], [], [], fun vs70 => vs70 7 = .bool (false), fun vs70 => []⟩, ⟨[], [], [], fun vs70 => vs70 8 = .pointer (some ⟨g5, 0, none⟩), fun vs70 => []⟩, ⟨[], [], [], fun vs70 => vs70 9 = .int .i64 ((((((rInt bs R).2)).p : Nat) : Int)), fun vs70 => []⟩, ⟨[], [], [], fun vs70 => vs70 10 = .pointer (some ⟨g21, 0, none⟩), fun vs70 => []⟩, ⟨[], [], [], fun vs70 => vs70 11 = .pointer (some ⟨g21, 0, none⟩), fun vs70 => []⟩, ⟨[], [], [], fun vs70 => vs70 12 = .pointer (some ⟨g21, 1, none⟩), fun vs70 => []⟩, ⟨[], [], [], fun vs70 => vs70 13 = .int .i64 (((((rInt bs R).2).p : Nat) : Int)), fun vs70 => []⟩, ⟨[], [], [], fun vs70 => vs70 14 = .bool (false), fun vs70 => []⟩, ⟨[], [], [], fun vs70 => vs70 15 = .bool (false), fun vs70 => []⟩, ⟨[], [], [], fun vs70 => vs70 16 = .bool (false), fun vs70 => []⟩, ⟨[], [], [], fun vs70 => vs70 17 = .pointer (some ⟨g5, 0, none⟩), fun vs70 => []⟩, ⟨[], [], [], fun vs70 => vs70 18 = .int .i64 ((((bs.length - (((rInt bs R).2)).p) : Nat) : Int)), fun vs70 => []⟩, ⟨[], [], [], fun vs70 => vs70 19 = .pointer (some ⟨g21, 0, none⟩), fun vs70 => []⟩, ⟨[], [], [], fun vs70 => vs70 20 = .pointer (some ⟨g21, 0, none⟩), fun vs70 => []⟩, ⟨[], [], [], fun vs70 => vs70 21 = .pointer (some ⟨g21, 0, none⟩), fun vs70 => []⟩, ⟨[], [], [], fun vs70 => vs70 22 = (uNext u1 bs.length R.p ((rInt bs R).2).p), fun vs70 => []⟩, ⟨[], [], [], fun vs70 => vs70 23 = .int .i64 ((((bs.length - ((rInt bs R).2).p) : Nat) : Int)), fun vs70 => []⟩, ⟨[], [], [], fun vs70 => vs70 24 = .bool (false), fun vs70 => []⟩, ⟨[], [], [], fun vs70 => vs70 25 = .bool (false), fun vs70 => []⟩, ⟨[], [], [], fun vs70 => vs70 26 = .bool (false), fun vs70 => []⟩, ⟨[], [], [], fun vs70 => vs70 27 = .pointer (some ⟨g5, 0, none⟩), fun vs70 => []⟩, ⟨[], [], [], fun vs70 => vs70 28 = .int .i64 ((((rDone bs (((rInt bs R).2))) : Nat) : Int)), fun vs70 => []⟩, ⟨[], [], [], fun vs70 => vs70 29 = .pointer (some ⟨g21, 0, none⟩), fun vs70 => []⟩, ⟨[], [], [], fun vs70 => vs70 30 = .int .i64 ((((rDone bs (((rInt bs R).2))) : Nat) : Int)), fun vs70 => []⟩, ⟨[], [], [], fun vs70 => vs70 31 = .bool (false), fun vs70 => []⟩, ⟨[], [], [], fun vs70 => vs70 32 = .bool (false), fun vs70 => []⟩]) (by kernel_rfl) hs rfl .n (by kernel_rfl) (by kernel_rfl) ?_ ?_
                · refine (.c ?_ (.c ?_ (.c ?_ (.c ?_ (.c ?_ (.c ?_ (.c ?_ (.c ?_ (.c ?_ (.c ?_ (.c ?_ (.c ?_ (.c ?_ (.c ?_ (.c ?_ (.c ?_ (.c ?_ (.c ?_ (.c ?_ (.c ?_ (.c ?_ (.c ?_ (.c ?_ (.c ?_ (.c ?_ (.c ?_ (.c ?_ (.c ?_ (.c ?_ (.c ?_ (.c ?_ (.c ?_ (.c ?_ .n)))))))))))))))))))))))))))))))))
                  · intro a_ w_ R_ rest_ vs70 hm hs ht
                    replace hs : St _ _ _ (feet []) [] _ _ := hs
                    have hm0 := hm.mid
                    have hs0 := hs.bare
                    refine st_mv hs rfl rfl ?_; clear hs; intro a w hs
                    exact wpList_nil ⟨rfl, _, _, hs0, .r, hs, rfl⟩
                  · intro a_ w_ R_ rest_ vs70 hm hs ht
                    replace hs : St _ _ _ (feet []) [] _ _ := hs
                    have hm0 := hm.mid
                    have t0 := ht 0 (twB_spec 33 _ (by kernel_rfl))
                    have e0 : _ = some (vs70 0) := t0.val rfl
                    rw [show vs70 0 = .pointer (some ⟨g5, 0, none⟩) from t0.2.1] at e0
                    replace hs := hs.learn e0
                    have hs0 := hs.bare
                    refine st_callP (v := .int .i64 ((((((rInt bs R).2)).e : Nat) : Int))) hs (.c rfl .n) Try.call47 (rerr_ok g5 _ _ bs (((rInt bs R).2)) _ (hm.rd0 hb) (hm0.del (.s .z)) (by omega)) rfl ?_; clear hs; intro a w hs
                    exact wpList_nil ⟨rfl, _, _, hs0, (.c .r), hs, rfl⟩
                  · intro a_ w_ R_ rest_ vs70 hm hs ht
                    replace hs : St _ _ _ (feet []) [] _ _ := hs
                    have hm0 := hm.mid
                    have hs0 := hs.bare
                    refine st_mv hs rfl rfl ?_; clear hs; intro a w hs
                    exact wpList_nil ⟨rfl, _, _, hs0, .r, hs, rfl⟩
                  · intro a_ w_ R_ rest_ vs70 hm hs ht
                    replace hs : St _ _ _ (feet []) [] _ _ := hs
                    have hm0 := hm.mid
                    have t2 := ht 2 (twB_spec 33 _ (by kernel_rfl))
                    have e2 : _ = some (vs70 2) := t2.val rfl
                    rw [show vs70 2 = .pointer (some ⟨g21, 0, none⟩) from t2.2.1] at e2
                    replace hs := hs.learn e2
                    have hs0 := hs.bare
                    refine st_nc hs rfl rfl ?_; clear hs; intro a w hs
                    exact wpList_nil ⟨rfl, _, _, hs0, (.c .r), hs, rfl⟩
                  · intro a_ w_ R_ rest_ vs70 hm hs ht
                    replace hs : St _ _ _ (feet []) [] _ _ := hs
                    have hm0 := hm.mid
                    have t3 := ht 3 (twB_spec 33 _ (by kernel_rfl))
                    have e3 : _ = some (vs70 3) := t3.val rfl
                    rw [show vs70 3 = .pointer (some ⟨g21, 0, none⟩) from t3.2.1] at e3
                    replace hs := hs.learn e3
                    have hs0 := hs.bare
                    refine st_fa hs rfl Try.underlying66 rfl Try.sizeOf3 (by decide) (o := 2) rfl rfl ?_; clear hs; intro a w hs
                    exact wpList_nil ⟨rfl, _, _, hs0, (.c .r), hs, rfl⟩
                  · intro a_ w_ R_ rest_ vs70 hm hs ht
                    replace hs : St _ _ _ (feet []) [] _ _ := hs
                    have hm0 := hm.mid
                    have t4 := ht 4 (twB_spec 33 _ (by kernel_rfl))
                    have e4 : _ = some (vs70 4) := t4.val rfl
                    rw [show vs70 4 = .pointer (some ⟨g21, 2, none⟩) from t4.2.1] at e4
                    replace hs := hs.learn e4
                    have hs0 := hs.bare
                    refine st_ldE hs rfl (hm0.del .z) (.s (.s .z)) Try.isAgg3 rfl ?_; clear hs; intro a w hs
                    exact wpList_nil ⟨rfl, _, _, hs0, (.c .r), hs, rfl⟩
                  · intro a_ w_ R_ rest_ vs70 hm hs ht
                    replace hs : St _ _ _ (feet []) [] _ _ := hs
                    have hm0 := hm.mid
                    have t1 := ht 1 (twB_spec 33 _ (by kernel_rfl))
                    have e1 : _ = some (vs70 1) := t1.val rfl
                    rw [show vs70 1 = .int .i64 ((((((rInt bs R).2)).e : Nat) : Int)) from t1.2.1] at e1
                    replace hs := hs.learn e1
                    have t5 := ht 5 (twB_spec 33 _ (by kernel_rfl))
                    have e5 : _ = some (vs70 5) := t5.val rfl
                    rw [show vs70 5 = .int .i64 (((((rInt bs R).2).e : Nat) : Int)) from t5.2.1] at e5
                    replace hs := hs.learn e5
                    have hs0 := hs.bare
                    refine st_neq hs rfl rfl rfl ?_; clear hs; intro a w hs
                    have hb_ : (!(((((((rInt bs R).2)).e : Nat) : Int) : Int) == (((((rInt bs R).2).e : Nat) : Int)))) = false := by first | decide | (simp; done) | (simp; omega)
                    rw [hb_] at hs; clear hb_
                    exact wpList_nil ⟨rfl, _, _, hs0, (.c (.c .r)), hs, rfl⟩
                  · intro a_ w_ R_ rest_ vs70 hm hs ht
                    replace hs : St _ _ _ (feet []) [] _ _ := hs
                    have hm0 := hm.mid
                    have t6 := ht 6 (twB_spec 33 _ (by kernel_rfl))
                    have e6 : _ = some (vs70 6) := t6.val rfl
                    rw [show vs70 6 = .bool (false) from t6.2.1] at e6
                    replace hs := hs.learn e6
                    have hs0 := hs.bare
                    refine st_mv hs rfl rfl ?_; clear hs; intro a w hs
                    exact wpList_nil ⟨rfl, _, _, hs0, (.c .r), hs, rfl⟩
                  · intro a_ w_ R_ rest_ vs70 hm hs ht
                    replace hs : St _ _ _ (feet []) [] _ _ := hs
                    have hm0 := hm.mid
                    have t7 := ht 7 (twB_spec 33 _ (by kernel_rfl))
                    have e7 : _ = some (vs70 7) := t7.val rfl
                    rw [show vs70 7 = .bool (false) from t7.2.1] at e7
                    replace hs := hs.learn e7
                    have hs0 := hs.bare
                    refine st_guardT hs rfl rfl rfl ?_
                    refine st_mv hs rfl rfl ?_; clear hs; intro a w hs
                    exact wpList_nil ⟨rfl, _, _, hs0, (.c .r), hs, rfl⟩
                  · intro a_ w_ R_ rest_ vs70 hm hs ht
                    replace hs : St _ _ _ (feet []) [] _ _ := hs
                    have hm0 := hm.mid
                    have t7 := ht 7 (twB_spec 33 _ (by kernel_rfl))
                    have e7 : _ = some (vs70 7) := t7.val rfl
                    rw [show vs70 7 = .bool (false) from t7.2.1] at e7
                    replace hs := hs.learn e7
                    have t8 := ht 8 (twB_spec 33 _ (by kernel_rfl))
                    have e8 : _ = some (vs70 8) := t8.val rfl
                    rw [show vs70 8 = .pointer (some ⟨g5, 0, none⟩) from t8.2.1] at e8
                    replace hs := hs.learn e8
                    have hs0 := hs.bare
                    refine st_guardT hs rfl rfl rfl ?_
                    refine st_callP (v := .int .i64 ((((((rInt bs R).2)).p : Nat) : Int))) hs (.c rfl .n) Try.call40 (rat_ok g5 _ _ bs (((rInt bs R).2)) _ (hm.rd0 hb) (hm0.del (.s .z)) (by omega)) rfl ?_; clear hs; intro a w hs
                    exact wpList_nil ⟨rfl, _, _, hs0, (.c (.c .r)), hs, rfl⟩
                  · intro a_ w_ R_ rest_ vs70 hm hs ht
                    replace hs : St _ _ _ (feet []) [] _ _ := hs
                    have hm0 := hm.mid
                    have t7 := ht 7 (twB_spec 33 _ (by kernel_rfl))
                    have e7 : _ = some (vs70 7) := t7.val rfl
                    rw [show vs70 7 = .bool (false) from t7.2.1] at e7
                    replace hs := hs.learn e7
                    have hs0 := hs.bare
                    refine st_guardT hs rfl rfl rfl ?_
                    refine st_mv hs rfl rfl ?_; clear hs; intro a w hs
                    exact wpList_nil ⟨rfl, _, _, hs0, (.c .r), hs, rfl⟩
                  · intro a_ w_ R_ rest_ vs70 hm hs ht
                    replace hs : St _ _ _ (feet []) [] _ _ := hs
                    have hm0 := hm.mid
                    have t7 := ht 7 (twB_spec 33 _ (by kernel_rfl))
                    have e7 : _ = some (vs70 7) := t7.val rfl
                    rw [show vs70 7 = .bool (false) from t7.2.1] at e7
                    replace hs := hs.learn e7
                    have t10 := ht 10 (twB_spec 33 _ (by kernel_rfl))
                    have e10 : _ = some (vs70 10) := t10.val rfl
                    rw [show vs70 10 = .pointer (some ⟨g21, 0, none⟩) from t10.2.1] at e10
                    replace hs := hs.learn e10
                    have hs0 := hs.bare
                    refine st_guardT hs rfl rfl rfl ?_
                    refine st_nc hs rfl rfl ?_; clear hs; intro a w hs
                    exact wpList_nil ⟨rfl, _, _, hs0, (.c (.c .r)), hs, rfl⟩
                  · intro a_ w_ R_ rest_ vs70 hm hs ht
                    replace hs : St _ _ _ (feet []) [] _ _ := hs
                    have hm0 := hm.mid
                    have t7 := ht 7 (twB_spec 33 _ (by kernel_rfl))
                    have e7 : _ = some (vs70 7) := t7.val rfl
                    rw [show vs70 7 = .bool (false) from t7.2.1] at e7
                    replace hs := hs.learn e7
                    have t11 := ht 11 (twB_spec 33 _ (by kernel_rfl))
                    have e11 : _ = some (vs70 11) := t11.val rfl
                    rw [show vs70 11 = .pointer (some ⟨g21, 0, none⟩) from t11.2.1] at e11
                    replace hs := hs.learn e11
                    have hs0 := hs.bare
                    refine st_guardT hs rfl rfl rfl ?_
                    refine st_fa hs rfl Try.underlying66 rfl Try.sizeOf3 (by decide) (o := 1) rfl rfl ?_; clear hs; intro a w hs
                    exact wpList_nil ⟨rfl, _, _, hs0, (.c (.c .r)), hs, rfl⟩
                  · intro a_ w_ R_ rest_ vs70 hm hs ht
                    replace hs : St _ _ _ (feet []) [] _ _ := hs
                    have hm0 := hm.mid
                    have t7 := ht 7 (twB_spec 33 _ (by kernel_rfl))
                    have e7 : _ = some (vs70 7) := t7.val rfl
                    rw [show vs70 7 = .bool (false) from t7.2.1] at e7
                    replace hs := hs.learn e7
                    have t12 := ht 12 (twB_spec 33 _ (by kernel_rfl))
                    have e12 : _ = some (vs70 12) := t12.val rfl
                    rw [show vs70 12 = .pointer (some ⟨g21, 1, none⟩) from t12.2.1] at e12
                    replace hs := hs.learn e12
                    have hs0 := hs.bare
                    refine st_guardT hs rfl rfl rfl ?_
                    refine st_ldE hs rfl (hm0.del .z) (.s .z) Try.isAgg3 rfl ?_; clear hs; intro a w hs
                    exact wpList_nil ⟨rfl, _, _, hs0, (.c (.c .r)), hs, rfl⟩
                  · intro a_ w_ R_ rest_ vs70 hm hs ht
                    replace hs : St _ _ _ (feet []) [] _ _ := hs
                    have hm0 := hm.mid
                    have t7 := ht 7 (twB_spec 33 _ (by kernel_rfl))
                    have e7 : _ = some (vs70 7) := t7.val rfl
                    rw [show vs70 7 = .bool (false) from t7.2.1] at e7
                    replace hs := hs.learn e7
                    have t9 := ht 9 (twB_spec 33 _ (by kernel_rfl))
                    have e9 : _ = some (vs70 9) := t9.val rfl
                    rw [show vs70 9 = .int .i64 ((((((rInt bs R).2)).p : Nat) : Int)) from t9.2.1] at e9
                    replace hs := hs.learn e9
                    have t13 := ht 13 (twB_spec 33 _ (by kernel_rfl))
                    have e13 : _ = some (vs70 13) := t13.val rfl
                    rw [show vs70 13 = .int .i64 (((((rInt bs R).2).p : Nat) : Int)) from t13.2.1] at e13
                    replace hs := hs.learn e13
                    have hs0 := hs.bare
                    refine st_guardT hs rfl rfl rfl ?_
                    refine st_neq hs rfl rfl rfl ?_; clear hs; intro a w hs
                    have hb_ : (!(((((((rInt bs R).2)).p : Nat) : Int) : Int) == (((((rInt bs R).2).p : Nat) : Int)))) = false := by first | decide | (simp; done) | (simp; omega)
                    rw [hb_] at hs; clear hb_
                    exact wpList_nil ⟨rfl, _, _, hs0, (.c (.c (.c .r))), hs, rfl⟩
                  · intro a_ w_ R_ rest_ vs70 hm hs ht
                    replace hs : St _ _ _ (feet []) [] _ _ := hs
                    have hm0 := hm.mid
                    have t7 := ht 7 (twB_spec 33 _ (by kernel_rfl))
                    have e7 : _ = some (vs70 7) := t7.val rfl
                    rw [show vs70 7 = .bool (false) from t7.2.1] at e7
                    replace hs := hs.learn e7
                    have t14 := ht 14 (twB_spec 33 _ (by kernel_rfl))
                    have e14 : _ = some (vs70 14) := t14.val rfl
                    rw [show vs70 14 = .bool (false) from t14.2.1] at e14
                    replace hs := hs.learn e14
                    have hs0 := hs.bare
                    refine st_pickF hs rfl rfl rfl ?_; clear hs; intro a w hs
                    exact wpList_nil ⟨rfl, _, _, hs0, (.c (.c .r)), hs, rfl⟩
                  · intro a_ w_ R_ rest_ vs70 hm hs ht
                    replace hs : St _ _ _ (feet []) [] _ _ := hs
                    have hm0 := hm.mid
                    have t15 := ht 15 (twB_spec 33 _ (by kernel_rfl))
                    have e15 : _ = some (vs70 15) := t15.val rfl
                    rw [show vs70 15 = .bool (false) from t15.2.1] at e15
                    replace hs := hs.learn e15
                    have hs0 := hs.bare
                    refine st_mv hs rfl rfl ?_; clear hs; intro a w hs
                    exact wpList_nil ⟨rfl, _, _, hs0, (.c .r), hs, rfl⟩
                  · intro a_ w_ R_ rest_ vs70 hm hs ht
                    replace hs : St _ _ _ (feet []) [] _ _ := hs
                    have hm0 := hm.mid
                    have t16 := ht 16 (twB_spec 33 _ (by kernel_rfl))
                    have e16 : _ = some (vs70 16) := t16.val rfl
                    rw [show vs70 16 = .bool (false) from t16.2.1] at e16
                    replace hs := hs.learn e16
                    have hs0 := hs.bare
                    refine st_guardT hs rfl rfl rfl ?_
                    refine st_mv hs rfl rfl ?_; clear hs; intro a w hs
                    exact wpList_nil ⟨rfl, _, _, hs0, (.c .r), hs, rfl⟩
                  · intro a_ w_ R_ rest_ vs70 hm hs ht
                    replace hs : St _ _ _ (feet []) [] _ _ := hs
                    have hm0 := hm.mid
                    have t16 := ht 16 (twB_spec 33 _ (by kernel_rfl))
                    have e16 : _ = some (vs70 16) := t16.val rfl
                    rw [show vs70 16 = .bool (false) from t16.2.1] at e16
                    replace hs := hs.learn e16
                    have t17 := ht 17 (twB_spec 33 _ (by kernel_rfl))
                    have e17 : _ = some (vs70 17) := t17.val rfl
                    rw [show vs70 17 = .pointer (some ⟨g5, 0, none⟩) from t17.2.1] at e17
                    replace hs := hs.learn e17
                    have hs0 := hs.bare
                    refine st_guardT hs rfl rfl rfl ?_
                    refine st_callP (v := .int .i64 ((((bs.length - (((rInt bs R).2)).p) : Nat) : Int))) hs (.c rfl .n) Try.call45 (rleft_ok g5 _ _ bs (((rInt bs R).2)) _ (hm.rd0 hb) (hm0.del (.s .z)) (by omega)) rfl ?_; clear hs; intro a w hs
                    exact wpList_nil ⟨rfl, _, _, hs0, (.c (.c .r)), hs, rfl⟩
                  · intro a_ w_ R_ rest_ vs70 hm hs ht
                    replace hs : St _ _ _ (feet []) [] _ _ := hs
                    have hm0 := hm.mid
                    have t16 := ht 16 (twB_spec 33 _ (by kernel_rfl))
                    have e16 : _ = some (vs70 16) := t16.val rfl
                    rw [show vs70 16 = .bool (false) from t16.2.1] at e16
                    replace hs := hs.learn e16
                    have hs0 := hs.bare
                    refine st_guardT hs rfl rfl rfl ?_
                    refine st_mv hs rfl rfl ?_; clear hs; intro a w hs
                    exact wpList_nil ⟨rfl, _, _, hs0, (.c .r), hs, rfl⟩
                  · intro a_ w_ R_ rest_ vs70 hm hs ht
                    replace hs : St _ _ _ (feet []) [] _ _ := hs
                    have hm0 := hm.mid
                    have t16 := ht 16 (twB_spec 33 _ (by kernel_rfl))
                    have e16 : _ = some (vs70 16) := t16.val rfl
                    rw [show vs70 16 = .bool (false) from t16.2.1] at e16
                    replace hs := hs.learn e16
                    have t19 := ht 19 (twB_spec 33 _ (by kernel_rfl))
                    have e19 : _ = some (vs70 19) := t19.val rfl
                    rw [show vs70 19 = .pointer (some ⟨g21, 0, none⟩) from t19.2.1] at e19
                    replace hs := hs.learn e19
                    have hs0 := hs.bare
                    refine st_guardT hs rfl rfl rfl ?_
                    refine st_nc hs rfl rfl ?_; clear hs; intro a w hs
                    exact wpList_nil ⟨rfl, _, _, hs0, (.c (.c .r)), hs, rfl⟩
                  · intro a_ w_ R_ rest_ vs70 hm hs ht
                    replace hs : St _ _ _ (feet []) [] _ _ := hs
                    have hm0 := hm.mid
                    have t16 := ht 16 (twB_spec 33 _ (by kernel_rfl))
                    have e16 : _ = some (vs70 16) := t16.val rfl
                    rw [show vs70 16 = .bool (false) from t16.2.1] at e16
                    replace hs := hs.learn e16
                    have t20 := ht 20 (twB_spec 33 _ (by kernel_rfl))
                    have e20 : _ = some (vs70 20) := t20.val rfl
                    rw [show vs70 20 = .pointer (some ⟨g21, 0, none⟩) from t20.2.1] at e20
                    replace hs := hs.learn e20
                    have hs0 := hs.bare
                    refine st_guardT hs rfl rfl rfl ?_
                    refine st_fa hs rfl Try.underlying66 rfl Try.sizeOf22 (by decide) (o := 0) rfl rfl ?_; clear hs; intro a w hs
                    exact wpList_nil ⟨rfl, _, _, hs0, (.c (.c .r)), hs, rfl⟩
                  · intro a_ w_ R_ rest_ vs70 hm hs ht
                    replace hs : St _ _ _ (feet []) [] _ _ := hs
                    have hm0 := hm.mid
                    have t16 := ht 16 (twB_spec 33 _ (by kernel_rfl))
                    have e16 : _ = some (vs70 16) := t16.val rfl
                    rw [show vs70 16 = .bool (false) from t16.2.1] at e16
                    replace hs := hs.learn e16
                    have t21 := ht 21 (twB_spec 33 _ (by kernel_rfl))
                    have e21 : _ = some (vs70 21) := t21.val rfl
                    rw [show vs70 21 = .pointer (some ⟨g21, 0, none⟩) from t21.2.1] at e21
                    replace hs := hs.learn e21
                    have hs0 := hs.bare
                    refine st_guardT hs rfl rfl rfl ?_
                    refine st_ldE hs rfl (hm0.del .z) .z Try.isAgg22 rfl ?_; clear hs; intro a w hs
                    exact wpList_nil ⟨rfl, _, _, hs0, (.c (.c .r)), hs, rfl⟩
                  · intro a_ w_ R_ rest_ vs70 hm hs ht
                    replace hs : St _ _ _ (feet []) [] _ _ := hs
                    have hm0 := hm.mid
                    have t16 := ht 16 (twB_spec 33 _ (by kernel_rfl))
                    have e16 : _ = some (vs70 16) := t16.val rfl
                    rw [show vs70 16 = .bool (false) from t16.2.1] at e16
                    replace hs := hs.learn e16
                    have t22 := ht 22 (twB_spec 33 _ (by kernel_rfl))
                    have e22 : _ = some (vs70 22) := t22.val rfl
                    rw [show vs70 22 = (uNext u1 bs.length R.p ((rInt bs R).2).p) from t22.2.1] at e22
                    replace hs := hs.learn e22
                    have hs0 := hs.bare
                    refine st_guardT hs rfl rfl rfl ?_
                    refine st_len hs rfl ((uNext_tr (p := R.p) (p' := ((rInt bs R).2).p) (by omega) (by omega)) _ _ (hI1_2 _ _ (hm.rd0 hb))).isSl Try.underlying22 rfl ?_; clear hs; intro a w hs
                    exact wpList_nil ⟨rfl, _, _, hs0, (.c (.c .r)), hs, rfl⟩
                  · intro a_ w_ R_ rest_ vs70 hm hs ht
                    replace hs : St _ _ _ (feet []) [] _ _ := hs
                    have hm0 := hm.mid
                    have t16 := ht 16 (twB_spec 33 _ (by kernel_rfl))
                    have e16 : _ = some (vs70 16) := t16.val rfl
                    rw [show vs70 16 = .bool (false) from t16.2.1] at e16
                    replace hs := hs.learn e16
                    have t18 := ht 18 (twB_spec 33 _ (by kernel_rfl))
                    have e18 : _ = some (vs70 18) := t18.val rfl
                    rw [show vs70 18 = .int .i64 ((((bs.length - (((rInt bs R).2)).p) : Nat) : Int)) from t18.2.1] at e18
                    replace hs := hs.learn e18
                    have t23 := ht 23 (twB_spec 33 _ (by kernel_rfl))
                    have e23 : _ = some (vs70 23) := t23.val rfl
                    rw [show vs70 23 = .int .i64 ((((bs.length - ((rInt bs R).2).p) : Nat) : Int)) from t23.2.1] at e23
                    replace hs := hs.learn e23
                    have hs0 := hs.bare
                    refine st_guardT hs rfl rfl rfl ?_
                    refine st_neq hs rfl rfl rfl ?_; clear hs; intro a w hs
                    have hb_ : (!(((((bs.length - (((rInt bs R).2)).p) : Nat) : Int) : Int) == ((((bs.length - ((rInt bs R).2).p) : Nat) : Int)))) = false := by first | decide | (simp; done) | (simp; omega)
                    rw [hb_] at hs; clear hb_
                    exact wpList_nil ⟨rfl, _, _, hs0, (.c (.c (.c .r))), hs, rfl⟩
                  · intro a_ w_ R_ rest_ vs70 hm hs ht
                    replace hs : St _ _ _ (feet []) [] _ _ := hs
                    have hm0 := hm.mid
                    have t16 := ht 16 (twB_spec 33 _ (by kernel_rfl))
                    have e16 : _ = some (vs70 16) := t16.val rfl
                    rw [show vs70 16 = .bool (false) from t16.2.1] at e16
                    replace hs := hs.learn e16
                    have t24 := ht 24 (twB_spec 33 _ (by kernel_rfl))
                    have e24 : _ = some (vs70 24) := t24.val rfl
                    rw [show vs70 24 = .bool (false) from t24.2.1] at e24
                    replace hs := hs.learn e24
                    have hs0 := hs.bare
                    refine st_pickF hs rfl rfl rfl ?_; clear hs; intro a w hs
                    exact wpList_nil ⟨rfl, _, _, hs0, (.c (.c .r)), hs, rfl⟩
                  · intro a_ w_ R_ rest_ vs70 hm hs ht
                    replace hs : St _ _ _ (feet []) [] _ _ := hs
                    have hm0 := hm.mid
                    have t25 := ht 25 (twB_spec 33 _ (by kernel_rfl))
                    have e25 : _ = some (vs70 25) := t25.val rfl
                    rw [show vs70 25 = .bool (false) from t25.2.1] at e25
                    replace hs := hs.learn e25
                    have hs0 := hs.bare
                    refine st_mv hs rfl rfl ?_; clear hs; intro a w hs
                    exact wpList_nil ⟨rfl, _, _, hs0, (.c .r), hs, rfl⟩
                  · intro a_ w_ R_ rest_ vs70 hm hs ht
                    replace hs : St _ _ _ (feet []) [] _ _ := hs
                    have hm0 := hm.mid
                    have t26 := ht 26 (twB_spec 33 _ (by kernel_rfl))
                    have e26 : _ = some (vs70 26) := t26.val rfl
                    rw [show vs70 26 = .bool (false) from t26.2.1] at e26
                    replace hs := hs.learn e26
                    have hs0 := hs.bare
                    refine st_guardT hs rfl rfl rfl ?_
                    refine st_mv hs rfl rfl ?_; clear hs; intro a w hs
                    exact wpList_nil ⟨rfl, _, _, hs0, (.c .r), hs, rfl⟩
                  · intro a_ w_ R_ rest_ vs70 hm hs ht
                    replace hs : St _ _ _ (feet []) [] _ _ := hs
                    have hm0 := hm.mid
                    have t26 := ht 26 (twB_spec 33 _ (by kernel_rfl))
                    have e26 : _ = some (vs70 26) := t26.val rfl
                    rw [show vs70 26 = .bool (false) from t26.2.1] at e26
                    replace hs := hs.learn e26
                    have t27 := ht 27 (twB_spec 33 _ (by kernel_rfl))
                    have e27 : _ = some (vs70 27) := t27.val rfl
                    rw [show vs70 27 = .pointer (some ⟨g5, 0, none⟩) from t27.2.1] at e27
                    replace hs := hs.learn e27
                    have hs0 := hs.bare
                    refine st_guardT hs rfl rfl rfl ?_
                    refine st_callP (v := .int .i64 ((((rDone bs (((rInt bs R).2))) : Nat) : Int))) hs (.c rfl .n) Try.call46 (rdone_ok g5 _ _ bs (((rInt bs R).2)) _ (hm.rd0 hb) (hm0.del (.s .z)) (by omega)) rfl ?_; clear hs; intro a w hs
                    exact wpList_nil ⟨rfl, _, _, hs0, (.c (.c .r)), hs, rfl⟩
                  · intro a_ w_ R_ rest_ vs70 hm hs ht
                    replace hs : St _ _ _ (feet []) [] _ _ := hs
                    have hm0 := hm.mid
                    have t26 := ht 26 (twB_spec 33 _ (by kernel_rfl))
                    have e26 : _ = some (vs70 26) := t26.val rfl
                    rw [show vs70 26 = .bool (false) from t26.2.1] at e26
                    replace hs := hs.learn e26
                    have hs0 := hs.bare
                    refine st_guardT hs rfl rfl rfl ?_
                    refine st_mv hs rfl rfl ?_; clear hs; intro a w hs
                    exact wpList_nil ⟨rfl, _, _, hs0, (.c .r), hs, rfl⟩
                  · intro a_ w_ R_ rest_ vs70 hm hs ht
                    replace hs : St _ _ _ (feet []) [] _ _ := hs
                    have hm0 := hm.mid
                    have t26 := ht 26 (twB_spec 33 _ (by kernel_rfl))
                    have e26 : _ = some (vs70 26) := t26.val rfl
                    rw [show vs70 26 = .bool (false) from t26.2.1] at e26
                    replace hs := hs.learn e26
                    have t29 := ht 29 (twB_spec 33 _ (by kernel_rfl))
                    have e29 : _ = some (vs70 29) := t29.val rfl
                    rw [show vs70 29 = .pointer (some ⟨g21, 0, none⟩) from t29.2.1] at e29
                    replace hs := hs.learn e29
                    have hs0 := hs.bare
                    refine st_guardT hs rfl rfl rfl ?_
                    refine st_callP (v := .int .i64 ((((rDone bs (((rInt bs R).2))) : Nat) : Int))) hs (.c rfl .n) Try.call54 (mdone_ok g21 _ bs (((rInt bs R).2)) _ ((uNext_tr (p := R.p) (p' := ((rInt bs R).2).p) (by omega) (by omega)) _ _ (hI1_2 _ _ (hm.rd0 hb))) (hm0.del .z) (by omega) (by simp only [maxLen]; omega)) rfl ?_; clear hs; intro a w hs
                    exact wpList_nil ⟨rfl, _, _, hs0, (.c (.c .r)), hs, rfl⟩
                  · intro a_ w_ R_ rest_ vs70 hm hs ht
                    replace hs : St _ _ _ (feet []) [] _ _ := hs
                    have hm0 := hm.mid
                    have t26 := ht 26 (twB_spec 33 _ (by kernel_rfl))
                    have e26 : _ = some (vs70 26) := t26.val rfl
                    rw [show vs70 26 = .bool (false) from t26.2.1] at e26
                    replace hs := hs.learn e26
                    have t28 := ht 28 (twB_spec 33 _ (by kernel_rfl))
                    have e28 : _ = some (vs70 28) := t28.val rfl
                    rw [show vs70 28 = .int .i64 ((((rDone bs (((rInt bs R).2))) : Nat) : Int)) from t28.2.1] at e28
                    replace hs := hs.learn e28
                    have t30 := ht 30 (twB_spec 33 _ (by kernel_rfl))
                    have e30 : _ = some (vs70 30) := t30.val rfl
                    rw [show vs70 30 = .int .i64 ((((rDone bs (((rInt bs R).2))) : Nat) : Int)) from t30.2.1] at e30
                    replace hs := hs.learn e30
                    have hs0 := hs.bare
                    refine st_guardT hs rfl rfl rfl ?_
                    refine st_neq hs rfl rfl rfl ?_; clear hs; intro a w hs
                    have hb_ : (!(((((rDone bs (((rInt bs R).2))) : Nat) : Int) : Int) == ((((rDone bs (((rInt bs R).2))) : Nat) : Int)))) = false := by first | decide | (simp; done) | (simp; omega)
                    rw [hb_] at hs; clear hb_
                    exact wpList_nil ⟨rfl, _, _, hs0, (.c (.c (.c .r))), hs, rfl⟩
                  · intro a_ w_ R_ rest_ vs70 hm hs ht
                    replace hs : St _ _ _ (feet []) [] _ _ := hs
                    have hm0 := hm.mid
                    have t26 := ht 26 (twB_spec 33 _ (by kernel_rfl))
                    have e26 : _ = some (vs70 26) := t26.val rfl
                    rw [show vs70 26 = .bool (false) from t26.2.1] at e26
                    replace hs := hs.learn e26
                    have t31 := ht 31 (twB_spec 33 _ (by kernel_rfl))
                    have e31 : _ = some (vs70 31) := t31.val rfl
                    rw [show vs70 31 = .bool (false) from t31.2.1] at e31
                    replace hs := hs.learn e31
                    have hs0 := hs.bare
                    refine st_pickF hs rfl rfl rfl ?_; clear hs; intro a w hs
                    exact wpList_nil ⟨rfl, _, _, hs0, (.c (.c .r)), hs, rfl⟩
                · clear hs w a; intro a w vs70 hs hf
                  replace hs : St _ _ _ _ [blk g21 [(uNext u1 bs.length R.p ((rInt bs R).2).p), .int .i64 (((((rInt bs R).2).p : Nat) : Int)), .int .i64 (((((rInt bs R).2).e : Nat) : Int))] 66, blk g5 [v, .int .i64 (((((rInt bs R).2).p : Nat) : Int)), .int .i64 (((((rInt bs R).2).e : Nat) : Int))] 76, blk g35 [.int .i64 ((l.getD j default).k), .int .u64 (((((l.getD j default).m).toNat : Nat) : Int)), .int .u8 (((((l.getD j default).e).toNat : Nat) : Int))] 55] _ _ := hs
                  obtain ⟨e32, q32⟩ := hf 32 (by decide)
                  replace e32 : _ = some (vs70 32) := e32.val rfl
                  rw [show vs70 32 = .bool (false) from q32] at e32
                  replace hs := hs.learn e32; clear e32 q32
                  clear hf
                  refine then_n (hK69 _ _ ?_)
                  refine wp_cond_false (hs.ev rfl) ?_
                  refine wp_skip ?_
                  refine in_n ?_
                  refine then_n (hK32 _ _ ?_)
                  refine wp_region_lit ?_
                  refine st_addR hs rfl rfl (by omega) rfl ?_; clear hs w a; intro a w hs
                  refine st_mv hs rfl rfl ?_; clear hs w a; intro a w hs
                  refine wpList_nil ?_
                  refine then_n ?_
                  replace hs := hs.drop (.c (.s (.s .z)) .n)
                  replace hs := hs.reorder (.c (.s .z) (.c .z .n))
                  refine ⟨_, ?_, j + 1, ((rInt bs R).2), (uNext u1 bs.length R.p ((rInt bs R).2).p), rfl, hs.sub (.c rfl (.c rfl (.c rfl (.c rfl (.c rfl (.c rfl .n)))))), by omega, by omega, (fun w T h => (uNext_tr (p := R.p) (p' := ((rInt bs R).2).p) (by omega) (by omega)) w T (hI1_2 w T h))⟩
                  omega
              ·
                replace hc63 := ne_of_beq_f hc63
                refine wp_seq_k fun K71 hK72 => ?_
                refine wp_region_lit ?_
                refine st_eql hs rfl rfl rfl ?_; clear hs w a; intro a w hs
                refine st_as hs rfl rfl ?_; clear hs w a; intro a w hs
                refine wpList_nil ?_
                refine then_n (hK72 _ _ ?_)
                refine wp_if hs rfl (fun hc73 => ?_) (fun hc73 => ?_)
                ·
                  replace hc73 := eq_of_beq hc73
                  refine wp_seq_k fun K74 hK75 => ?_
                  refine wp_region_lit ?_
                  refine st_mv hs rfl rfl ?_; clear hs w a; intro a w hs
                  refine st_call hs (.c rfl .n) Try.call44 (.c (.s .z) .n) (rvec_ok  g5 _ _ bs R _ (hs.mem.rd1 hb (.c (.s .z) .n)) (hs.mem.del (.s .z)) (by omega)) rfl ?_; clear hs w a; rintro _ _ a w ⟨rfl, rfl⟩ hs; simp only [List.cons_append, List.nil_append] at hs
                  have hk76 := rVec_le' (bs := bs) (R := R) (by omega)
                  refine st_mv hs rfl rfl ?_; clear hs w a; intro a w hs
                  refine st_call hs (.c rfl .n) Try.call51 (.c (.s (.s .z)) .n) (mvec_ok  g21 _ bs R _ (hI1_2 _ _ (hs.mem.rd1 hb (.c (.s (.s .z)) .n))) (hs.mem.del (.s (.s .z))) (by omega) (by simp only [maxLen]; omega)) rfl ?_; clear hs w a; rintro _ _ a w ⟨rfl, rfl⟩ hs; simp only [List.cons_append, List.nil_append] at hs
                  have hk77 := rInt_le (bs := bs) (R := R) (by omega)
                  have hk78 := rInt_le (bs := bs) (R := (rInt bs R).2) (by omega)
                  have hk79 := rInt_le (bs := bs) (R := (rInt bs (rInt bs R).2).2) (by omega)
                  refine st_neq3 hs rfl rfl (by kernel_rfl) Try.underlying60 Try.underlying2 Try.sizeOf2 Try.isAgg2 rfl ?_; clear hs w a; intro a w hs
                  have hb_ : (!(((rInt bs R).1 : Int) == ((rInt bs R).1) && ((rInt bs (rInt bs R).2).1 : Int) == ((rInt bs (rInt bs R).2).1) && ((rInt bs (rInt bs (rInt bs R).2).2).1 : Int) == ((rInt bs (rInt bs (rInt bs R).2).2).1))) = false := by first | decide | (simp; done) | (simp; omega)
                  rw [hb_] at hs; clear hb_
                  refine wpList_nil ?_
                  refine then_n (hK75 _ _ ?_)
                  refine wp_cond_false (hs.ev rfl) ?_
                  refine wp_skip ?_
                  refine in_n ?_
                  refine then_n (hK37 _ _ ?_)
                  refine wp_seq_k fun K80 hK81 => ?_
                  replace hs := hs.sub (F' := [(70, .bool (false)), (69, .agg #[.int .i64 ((rInt bs R).1), .int .i64 ((rInt bs (rInt bs R).2).1), .int .i64 ((rInt bs (rInt bs (rInt bs R).2).2).1)]), (68, .pointer (some ⟨g21, 0, none⟩)), (67, .agg #[.int .i64 ((rInt bs R).1), .int .i64 ((rInt bs (rInt bs R).2).1), .int .i64 ((rInt bs (rInt bs (rInt bs R).2).2).1)]), (66, .pointer (some ⟨g5, 0, none⟩)), (64, .bool (((l.getD j default).k : Int) == 3)), (65, .bool (((l.getD j default).k : Int) == 3)), (57, .bool (((l.getD j default).k : Int) == 2)), (58, .bool (((l.getD j default).k : Int) == 2)), (46, .bool (((l.getD j default).k : Int) == 1)), (47, .bool (((l.getD j default).k : Int) == 1)), (39, .bool (((l.getD j default).k : Int) == 0)), (40, .bool (((l.getD j default).k : Int) == 0)), (38, .int .i64 ((l.getD j default).k)), (37, .pointer (some ⟨g35, 0, none⟩)), (8, .pointer (some ⟨g35, 0, none⟩)), (36, .agg #[.int .i64 ((l.getD j default).k), .int .u64 (((((l.getD j default).m).toNat : Nat) : Int)), .int .u8 (((((l.getD j default).e).toNat : Nat) : Int))]), (35, .pointer (some (adr u (j * 3)))), (34, .bool (decide ((j : Int) < (m2 : Int)))), (0, v), (5, .pointer (some ⟨g5, 0, none⟩)), (6, .pointer (some ⟨g21, 0, none⟩)), (31, u), (32, .int .i64 ((m2 : Int))), (33, .int .i64 ((j : Int)))]) (.c rfl (.c rfl (.c rfl (.c rfl (.c rfl (.c rfl (.c rfl (.c rfl (.c rfl (.c rfl (.c rfl (.c rfl (.c rfl (.c rfl (.c rfl (.c rfl (.c rfl (.c rfl (.c rfl (.c rfl (.c rfl (.c rfl (.c rfl (.c rfl (.c rfl .n)))))))))))))))))))))))))
                  refine wp_drawG (M0 := [blk g21 [(uNext ((uNext ((uNext u1 bs.length R.p ((rInt bs R).2).p)) bs.length ((rInt bs R).2).p ((rInt bs (rInt bs R).2).2).p)) bs.length ((rInt bs (rInt bs R).2).2).p ((rInt bs (rInt bs (rInt bs R).2).2).2).p), .int .i64 (((((rInt bs (rInt bs (rInt bs R).2).2).2).p : Nat) : Int)), .int .i64 (((((rInt bs (rInt bs (rInt bs R).2).2).2).e : Nat) : Int))] 66, blk g5 [v, .int .i64 (((((rInt bs (rInt bs (rInt bs R).2).2).2).p : Nat) : Int)), .int .i64 (((((rInt bs (rInt bs (rInt bs R).2).2).2).e : Nat) : Int))] 76, blk g35 [.int .i64 ((l.getD j default).k), .int .u64 (((((l.getD j default).m).toNat : Nat) : Int)), .int .u8 (((((l.getD j default).e).toNat : Nat) : Int))] 55]) (Ds := [⟨[], [], [], fun vs82 => vs82 0 = .pointer (some ⟨g5, 0, none⟩), fun vs82 => []⟩, ⟨[], [], [], fun vs82 => vs82 1 = .int .i64 ((((((rInt bs (rInt bs (rInt bs R).2).2).2)).e : Nat) : Int)), fun vs82 => []⟩, ⟨[], [], [], fun vs82 => vs82 2 = .pointer (some ⟨g21, 0, none⟩), fun vs82 => []⟩, ⟨[], [], [], fun vs82 => vs82 3 = .pointer (some ⟨g21, 0, none⟩), fun vs82 => []⟩, ⟨[], [], [], fun vs82 => vs82 4 = .pointer (some ⟨g21, 2, none⟩), fun vs82 => []⟩, ⟨[], [], [], fun vs82 => vs82 5 = .int .i64 (((((rInt bs (rInt bs (rInt bs R).2).2).2).e : Nat) : Int)), fun vs82 => []⟩, ⟨[], [], [], fun vs82 => vs82 6 = .bool (false), fun vs82 => []⟩, ⟨[], [], [], fun vs82 => vs82 7 = .bool (false), fun vs82 => []⟩, ⟨[], [], [], fun vs82 => vs82 8 = .pointer (some ⟨g5, 0, none⟩), fun vs82 => []⟩, ⟨[], [], [], fun vs82 => vs82 9 = .int .i64 ((((((rInt bs (rInt bs (rInt bs R).2).2).2)).p : Nat) : Int)), fun vs82 => []⟩, ⟨[], [], [], fun vs82 => vs82 10 = .pointer (some ⟨g21, 0, none⟩), fun vs82 => []⟩, ⟨[], [], [], fun vs82 => vs82 11 = .pointer (some ⟨g21, 0, none⟩), fun vs82 => []⟩, ⟨[], [], [], fun vs82 => vs82 12 = .pointer (some ⟨g21, 1, none⟩), fun vs82 => []⟩, ⟨[], [], [], fun vs82 => vs82 13 = .int .i64 (((((rInt bs (rInt bs (rInt bs R).2).2).2).p : Nat) : Int)), fun vs82 => []⟩, ⟨[], [], [], fun vs82 => vs82 14 = .bool (false), fun vs82 => []⟩, ⟨[], [], [], fun vs82 => vs82 15 = .bool (false), fun vs82 => []⟩, ⟨[], [], [], fun vs82 => vs82 16 = .bool (false), fun vs82 => []⟩, ⟨[], [], [], fun vs82 => vs82 17 = .pointer (some ⟨g5, 0, none⟩), fun vs82 => []⟩, ⟨[], [], [], fun vs82 => vs82 18 = .int .i64 ((((bs.length - (((rInt bs (rInt bs (rInt bs R).2).2).2)).p) : Nat) : Int)), fun vs82 => []⟩, ⟨[], [], [], fun vs82 => vs82 19 = .pointer (some ⟨g21, 0, none⟩), fun vs82 => []⟩, ⟨[], [], [], fun vs82 => vs82 20 = .pointer (some ⟨g21, 0, none⟩), fun vs82 => []⟩, ⟨[], [], [], fun vs82 => vs82 21 = .pointer (some ⟨g21, 0, none⟩), fun vs82 => []⟩, ⟨[], [], [], fun vs82 => vs82 22 = (uNext ((uNext ((uNext u1 bs.length R.p ((rInt bs R).2).p)) bs.length ((rInt bs R).2).p ((rInt bs (rInt bs R).2).2).p)) bs.length ((rInt bs (rInt bs R).2).2).p ((rInt bs (rInt bs (rInt bs R).2).2).2).p), fun vs82 => []⟩, ⟨[], [], [], fun vs82 => vs82 23 = .int .i64 ((((bs.length - ((rInt bs (rInt bs (rInt bs R).2).2).2).p) : Nat) : Int)), fun vs82 => []⟩, ⟨[], [], [], fun vs82 => vs82 24 = .bool (false), fun vs82 => []⟩, ⟨[], [], [], fun vs82 => vs82 25 = .bool (false), fun vs82 => []⟩, ⟨[], [], [], fun vs82 => vs82 26 = .bool (false), fun vs82 => []⟩, ⟨[], [], [], fun vs82 => vs82 27 = .pointer (some ⟨g5, 0, none⟩), fun vs82 => []⟩, ⟨[], [], [], fun vs82 => vs82 28 = .int .i64 ((((rDone bs (((rInt bs (rInt bs (rInt bs R).2).2).2))) : Nat) : Int)), fun vs82 => []⟩, ⟨[], [], [], fun vs82 => vs82 29 = .pointer (some ⟨g21, 0, none⟩), fun vs82 => []⟩, ⟨[], [], [], fun vs82 => vs82 30 = .int .i64 ((((rDone bs (((rInt bs (rInt bs (rInt bs R).2).2).2))) : Nat) : Int)), fun vs82 => []⟩, ⟨[], [], [], fun vs82 => vs82 31 = .bool (false), fun vs82 => []⟩, ⟨[], [], [], fun vs82 => vs82 32 = .bool (false), fun vs82 => []⟩]) (by kernel_rfl) hs rfl .n (by kernel_rfl) (by kernel_rfl) ?_ ?_
                  · refine (.c ?_ (.c ?_ (.c ?_ (.c ?_ (.c ?_ (.c ?_ (.c ?_ (.c ?_ (.c ?_ (.c ?_ (.c ?_ (.c ?_ (.c ?_ (.c ?_ (.c ?_ (.c ?_ (.c ?_ (.c ?_ (.c ?_ (.c ?_ (.c ?_ (.c ?_ (.c ?_ (.c ?_ (.c ?_ (.c ?_ (.c ?_ (.c ?_ (.c ?_ (.c ?_ (.c ?_ (.c ?_ (.c ?_ .n)))))))))))))))))))))))))))))))))
                    · intro a_ w_ R_ rest_ vs82 hm hs ht
                      replace hs : St _ _ _ (feet []) [] _ _ := hs
                      have hm0 := hm.mid
                      have hs0 := hs.bare
                      refine st_mv hs rfl rfl ?_; clear hs; intro a w hs
                      exact wpList_nil ⟨rfl, _, _, hs0, .r, hs, rfl⟩
                    · intro a_ w_ R_ rest_ vs82 hm hs ht
                      replace hs : St _ _ _ (feet []) [] _ _ := hs
                      have hm0 := hm.mid
                      have t0 := ht 0 (twB_spec 33 _ (by kernel_rfl))
                      have e0 : _ = some (vs82 0) := t0.val rfl
                      rw [show vs82 0 = .pointer (some ⟨g5, 0, none⟩) from t0.2.1] at e0
                      replace hs := hs.learn e0
                      have hs0 := hs.bare
                      refine st_callP (v := .int .i64 ((((((rInt bs (rInt bs (rInt bs R).2).2).2)).e : Nat) : Int))) hs (.c rfl .n) Try.call47 (rerr_ok g5 _ _ bs (((rInt bs (rInt bs (rInt bs R).2).2).2)) _ (hm.rd0 hb) (hm0.del (.s .z)) (by omega)) rfl ?_; clear hs; intro a w hs
                      exact wpList_nil ⟨rfl, _, _, hs0, (.c .r), hs, rfl⟩
                    · intro a_ w_ R_ rest_ vs82 hm hs ht
                      replace hs : St _ _ _ (feet []) [] _ _ := hs
                      have hm0 := hm.mid
                      have hs0 := hs.bare
                      refine st_mv hs rfl rfl ?_; clear hs; intro a w hs
                      exact wpList_nil ⟨rfl, _, _, hs0, .r, hs, rfl⟩
                    · intro a_ w_ R_ rest_ vs82 hm hs ht
                      replace hs : St _ _ _ (feet []) [] _ _ := hs
                      have hm0 := hm.mid
                      have t2 := ht 2 (twB_spec 33 _ (by kernel_rfl))
                      have e2 : _ = some (vs82 2) := t2.val rfl
                      rw [show vs82 2 = .pointer (some ⟨g21, 0, none⟩) from t2.2.1] at e2
                      replace hs := hs.learn e2
                      have hs0 := hs.bare
                      refine st_nc hs rfl rfl ?_; clear hs; intro a w hs
                      exact wpList_nil ⟨rfl, _, _, hs0, (.c .r), hs, rfl⟩
                    · intro a_ w_ R_ rest_ vs82 hm hs ht
                      replace hs : St _ _ _ (feet []) [] _ _ := hs
                      have hm0 := hm.mid
                      have t3 := ht 3 (twB_spec 33 _ (by kernel_rfl))
                      have e3 : _ = some (vs82 3) := t3.val rfl
                      rw [show vs82 3 = .pointer (some ⟨g21, 0, none⟩) from t3.2.1] at e3
                      replace hs := hs.learn e3
                      have hs0 := hs.bare
                      refine st_fa hs rfl Try.underlying66 rfl Try.sizeOf3 (by decide) (o := 2) rfl rfl ?_; clear hs; intro a w hs
                      exact wpList_nil ⟨rfl, _, _, hs0, (.c .r), hs, rfl⟩
                    · intro a_ w_ R_ rest_ vs82 hm hs ht
                      replace hs : St _ _ _ (feet []) [] _ _ := hs
                      have hm0 := hm.mid
                      have t4 := ht 4 (twB_spec 33 _ (by kernel_rfl))
                      have e4 : _ = some (vs82 4) := t4.val rfl
                      rw [show vs82 4 = .pointer (some ⟨g21, 2, none⟩) from t4.2.1] at e4
                      replace hs := hs.learn e4
                      have hs0 := hs.bare
                      refine st_ldE hs rfl (hm0.del .z) (.s (.s .z)) Try.isAgg3 rfl ?_; clear hs; intro a w hs
                      exact wpList_nil ⟨rfl, _, _, hs0, (.c .r), hs, rfl⟩
                    · intro a_ w_ R_ rest_ vs82 hm hs ht
                      replace hs : St _ _ _ (feet []) [] _ _ := hs
                      have hm0 := hm.mid
                      have t1 := ht 1 (twB_spec 33 _ (by kernel_rfl))
                      have e1 : _ = some (vs82 1) := t1.val rfl
                      rw [show vs82 1 = .int .i64 ((((((rInt bs (rInt bs (rInt bs R).2).2).2)).e : Nat) : Int)) from t1.2.1] at e1
                      replace hs := hs.learn e1
                      have t5 := ht 5 (twB_spec 33 _ (by kernel_rfl))
                      have e5 : _ = some (vs82 5) := t5.val rfl
                      rw [show vs82 5 = .int .i64 (((((rInt bs (rInt bs (rInt bs R).2).2).2).e : Nat) : Int)) from t5.2.1] at e5
                      replace hs := hs.learn e5
                      have hs0 := hs.bare
                      refine st_neq hs rfl rfl rfl ?_; clear hs; intro a w hs
                      have hb_ : (!(((((((rInt bs (rInt bs (rInt bs R).2).2).2)).e : Nat) : Int) : Int) == (((((rInt bs (rInt bs (rInt bs R).2).2).2).e : Nat) : Int)))) = false := by first | decide | (simp; done) | (simp; omega)
                      rw [hb_] at hs; clear hb_
                      exact wpList_nil ⟨rfl, _, _, hs0, (.c (.c .r)), hs, rfl⟩
                    · intro a_ w_ R_ rest_ vs82 hm hs ht
                      replace hs : St _ _ _ (feet []) [] _ _ := hs
                      have hm0 := hm.mid
                      have t6 := ht 6 (twB_spec 33 _ (by kernel_rfl))
                      have e6 : _ = some (vs82 6) := t6.val rfl
                      rw [show vs82 6 = .bool (false) from t6.2.1] at e6
                      replace hs := hs.learn e6
                      have hs0 := hs.bare
                      refine st_mv hs rfl rfl ?_; clear hs; intro a w hs
                      exact wpList_nil ⟨rfl, _, _, hs0, (.c .r), hs, rfl⟩
                    · intro a_ w_ R_ rest_ vs82 hm hs ht
                      replace hs : St _ _ _ (feet []) [] _ _ := hs
                      have hm0 := hm.mid
                      have t7 := ht 7 (twB_spec 33 _ (by kernel_rfl))
                      have e7 : _ = some (vs82 7) := t7.val rfl
                      rw [show vs82 7 = .bool (false) from t7.2.1] at e7
                      replace hs := hs.learn e7
                      have hs0 := hs.bare
                      refine st_guardT hs rfl rfl rfl ?_
                      refine st_mv hs rfl rfl ?_; clear hs; intro a w hs
                      exact wpList_nil ⟨rfl, _, _, hs0, (.c .r), hs, rfl⟩
                    · intro a_ w_ R_ rest_ vs82 hm hs ht
                      replace hs : St _ _ _ (feet []) [] _ _ := hs
                      have hm0 := hm.mid
                      have t7 := ht 7 (twB_spec 33 _ (by kernel_rfl))
                      have e7 : _ = some (vs82 7) := t7.val rfl
                      rw [show vs82 7 = .bool (false) from t7.2.1] at e7
                      replace hs := hs.learn e7
                      have t8 := ht 8 (twB_spec 33 _ (by kernel_rfl))
                      have e8 : _ = some (vs82 8) := t8.val rfl
                      rw [show vs82 8 = .pointer (some ⟨g5, 0, none⟩) from t8.2.1] at e8
                      replace hs := hs.learn e8
                      have hs0 := hs.bare
                      refine st_guardT hs rfl rfl rfl ?_
                      refine st_callP (v := .int .i64 ((((((rInt bs (rInt bs (rInt bs R).2).2).2)).p : Nat) : Int))) hs (.c rfl .n) Try.call40 (rat_ok g5 _ _ bs (((rInt bs (rInt bs (rInt bs R).2).2).2)) _ (hm.rd0 hb) (hm0.del (.s .z)) (by omega)) rfl ?_; clear hs; intro a w hs
                      exact wpList_nil ⟨rfl, _, _, hs0, (.c (.c .r)), hs, rfl⟩
                    · intro a_ w_ R_ rest_ vs82 hm hs ht
                      replace hs : St _ _ _ (feet []) [] _ _ := hs
                      have hm0 := hm.mid
                      have t7 := ht 7 (twB_spec 33 _ (by kernel_rfl))
                      have e7 : _ = some (vs82 7) := t7.val rfl
                      rw [show vs82 7 = .bool (false) from t7.2.1] at e7
                      replace hs := hs.learn e7
                      have hs0 := hs.bare
                      refine st_guardT hs rfl rfl rfl ?_
                      refine st_mv hs rfl rfl ?_; clear hs; intro a w hs
                      exact wpList_nil ⟨rfl, _, _, hs0, (.c .r), hs, rfl⟩
                    · intro a_ w_ R_ rest_ vs82 hm hs ht
                      replace hs : St _ _ _ (feet []) [] _ _ := hs
                      have hm0 := hm.mid
                      have t7 := ht 7 (twB_spec 33 _ (by kernel_rfl))
                      have e7 : _ = some (vs82 7) := t7.val rfl
                      rw [show vs82 7 = .bool (false) from t7.2.1] at e7
                      replace hs := hs.learn e7
                      have t10 := ht 10 (twB_spec 33 _ (by kernel_rfl))
                      have e10 : _ = some (vs82 10) := t10.val rfl
                      rw [show vs82 10 = .pointer (some ⟨g21, 0, none⟩) from t10.2.1] at e10
                      replace hs := hs.learn e10
                      have hs0 := hs.bare
                      refine st_guardT hs rfl rfl rfl ?_
                      refine st_nc hs rfl rfl ?_; clear hs; intro a w hs
                      exact wpList_nil ⟨rfl, _, _, hs0, (.c (.c .r)), hs, rfl⟩
                    · intro a_ w_ R_ rest_ vs82 hm hs ht
                      replace hs : St _ _ _ (feet []) [] _ _ := hs
                      have hm0 := hm.mid
                      have t7 := ht 7 (twB_spec 33 _ (by kernel_rfl))
                      have e7 : _ = some (vs82 7) := t7.val rfl
                      rw [show vs82 7 = .bool (false) from t7.2.1] at e7
                      replace hs := hs.learn e7
                      have t11 := ht 11 (twB_spec 33 _ (by kernel_rfl))
                      have e11 : _ = some (vs82 11) := t11.val rfl
                      rw [show vs82 11 = .pointer (some ⟨g21, 0, none⟩) from t11.2.1] at e11
                      replace hs := hs.learn e11
                      have hs0 := hs.bare
                      refine st_guardT hs rfl rfl rfl ?_
                      refine st_fa hs rfl Try.underlying66 rfl Try.sizeOf3 (by decide) (o := 1) rfl rfl ?_; clear hs; intro a w hs
                      exact wpList_nil ⟨rfl, _, _, hs0, (.c (.c .r)), hs, rfl⟩
                    · intro a_ w_ R_ rest_ vs82 hm hs ht
                      replace hs : St _ _ _ (feet []) [] _ _ := hs
                      have hm0 := hm.mid
                      have t7 := ht 7 (twB_spec 33 _ (by kernel_rfl))
                      have e7 : _ = some (vs82 7) := t7.val rfl
                      rw [show vs82 7 = .bool (false) from t7.2.1] at e7
                      replace hs := hs.learn e7
                      have t12 := ht 12 (twB_spec 33 _ (by kernel_rfl))
                      have e12 : _ = some (vs82 12) := t12.val rfl
                      rw [show vs82 12 = .pointer (some ⟨g21, 1, none⟩) from t12.2.1] at e12
                      replace hs := hs.learn e12
                      have hs0 := hs.bare
                      refine st_guardT hs rfl rfl rfl ?_
                      refine st_ldE hs rfl (hm0.del .z) (.s .z) Try.isAgg3 rfl ?_; clear hs; intro a w hs
                      exact wpList_nil ⟨rfl, _, _, hs0, (.c (.c .r)), hs, rfl⟩
                    · intro a_ w_ R_ rest_ vs82 hm hs ht
                      replace hs : St _ _ _ (feet []) [] _ _ := hs
                      have hm0 := hm.mid
                      have t7 := ht 7 (twB_spec 33 _ (by kernel_rfl))
                      have e7 : _ = some (vs82 7) := t7.val rfl
                      rw [show vs82 7 = .bool (false) from t7.2.1] at e7
                      replace hs := hs.learn e7
                      have t9 := ht 9 (twB_spec 33 _ (by kernel_rfl))
                      have e9 : _ = some (vs82 9) := t9.val rfl
                      rw [show vs82 9 = .int .i64 ((((((rInt bs (rInt bs (rInt bs R).2).2).2)).p : Nat) : Int)) from t9.2.1] at e9
                      replace hs := hs.learn e9
                      have t13 := ht 13 (twB_spec 33 _ (by kernel_rfl))
                      have e13 : _ = some (vs82 13) := t13.val rfl
                      rw [show vs82 13 = .int .i64 (((((rInt bs (rInt bs (rInt bs R).2).2).2).p : Nat) : Int)) from t13.2.1] at e13
                      replace hs := hs.learn e13
                      have hs0 := hs.bare
                      refine st_guardT hs rfl rfl rfl ?_
                      refine st_neq hs rfl rfl rfl ?_; clear hs; intro a w hs
                      have hb_ : (!(((((((rInt bs (rInt bs (rInt bs R).2).2).2)).p : Nat) : Int) : Int) == (((((rInt bs (rInt bs (rInt bs R).2).2).2).p : Nat) : Int)))) = false := by first | decide | (simp; done) | (simp; omega)
                      rw [hb_] at hs; clear hb_
                      exact wpList_nil ⟨rfl, _, _, hs0, (.c (.c (.c .r))), hs, rfl⟩
                    · intro a_ w_ R_ rest_ vs82 hm hs ht
                      replace hs : St _ _ _ (feet []) [] _ _ := hs
                      have hm0 := hm.mid
                      have t7 := ht 7 (twB_spec 33 _ (by kernel_rfl))
                      have e7 : _ = some (vs82 7) := t7.val rfl
                      rw [show vs82 7 = .bool (false) from t7.2.1] at e7
                      replace hs := hs.learn e7
                      have t14 := ht 14 (twB_spec 33 _ (by kernel_rfl))
                      have e14 : _ = some (vs82 14) := t14.val rfl
                      rw [show vs82 14 = .bool (false) from t14.2.1] at e14
                      replace hs := hs.learn e14
                      have hs0 := hs.bare
                      refine st_pickF hs rfl rfl rfl ?_; clear hs; intro a w hs
                      exact wpList_nil ⟨rfl, _, _, hs0, (.c (.c .r)), hs, rfl⟩
                    · intro a_ w_ R_ rest_ vs82 hm hs ht
                      replace hs : St _ _ _ (feet []) [] _ _ := hs
                      have hm0 := hm.mid
                      have t15 := ht 15 (twB_spec 33 _ (by kernel_rfl))
                      have e15 : _ = some (vs82 15) := t15.val rfl
                      rw [show vs82 15 = .bool (false) from t15.2.1] at e15
                      replace hs := hs.learn e15
                      have hs0 := hs.bare
                      refine st_mv hs rfl rfl ?_; clear hs; intro a w hs
                      exact wpList_nil ⟨rfl, _, _, hs0, (.c .r), hs, rfl⟩
                    · intro a_ w_ R_ rest_ vs82 hm hs ht
                      replace hs : St _ _ _ (feet []) [] _ _ := hs
                      have hm0 := hm.mid
                      have t16 := ht 16 (twB_spec 33 _ (by kernel_rfl))
                      have e16 : _ = some (vs82 16) := t16.val rfl
                      rw [show vs82 16 = .bool (false) from t16.2.1] at e16
                      replace hs := hs.learn e16
                      have hs0 := hs.bare
                      refine st_guardT hs rfl rfl rfl ?_
                      refine st_mv hs rfl rfl ?_; clear hs; intro a w hs
                      exact wpList_nil ⟨rfl, _, _, hs0, (.c .r), hs, rfl⟩
                    · intro a_ w_ R_ rest_ vs82 hm hs ht
                      replace hs : St _ _ _ (feet []) [] _ _ := hs
                      have hm0 := hm.mid
                      have t16 := ht 16 (twB_spec 33 _ (by kernel_rfl))
                      have e16 : _ = some (vs82 16) := t16.val rfl
                      rw [show vs82 16 = .bool (false) from t16.2.1] at e16
                      replace hs := hs.learn e16
                      have t17 := ht 17 (twB_spec 33 _ (by kernel_rfl))
                      have e17 : _ = some (vs82 17) := t17.val rfl
                      rw [show vs82 17 = .pointer (some ⟨g5, 0, none⟩) from t17.2.1] at e17
                      replace hs := hs.learn e17
                      have hs0 := hs.bare
                      refine st_guardT hs rfl rfl rfl ?_
                      refine st_callP (v := .int .i64 ((((bs.length - (((rInt bs (rInt bs (rInt bs R).2).2).2)).p) : Nat) : Int))) hs (.c rfl .n) Try.call45 (rleft_ok g5 _ _ bs (((rInt bs (rInt bs (rInt bs R).2).2).2)) _ (hm.rd0 hb) (hm0.del (.s .z)) (by omega)) rfl ?_; clear hs; intro a w hs
                      exact wpList_nil ⟨rfl, _, _, hs0, (.c (.c .r)), hs, rfl⟩
                    · intro a_ w_ R_ rest_ vs82 hm hs ht
                      replace hs : St _ _ _ (feet []) [] _ _ := hs
                      have hm0 := hm.mid
                      have t16 := ht 16 (twB_spec 33 _ (by kernel_rfl))
                      have e16 : _ = some (vs82 16) := t16.val rfl
                      rw [show vs82 16 = .bool (false) from t16.2.1] at e16
                      replace hs := hs.learn e16
                      have hs0 := hs.bare
                      refine st_guardT hs rfl rfl rfl ?_
                      refine st_mv hs rfl rfl ?_; clear hs; intro a w hs
                      exact wpList_nil ⟨rfl, _, _, hs0, (.c .r), hs, rfl⟩
                    · intro a_ w_ R_ rest_ vs82 hm hs ht
                      replace hs : St _ _ _ (feet []) [] _ _ := hs
                      have hm0 := hm.mid
                      have t16 := ht 16 (twB_spec 33 _ (by kernel_rfl))
                      have e16 : _ = some (vs82 16) := t16.val rfl
                      rw [show vs82 16 = .bool (false) from t16.2.1] at e16
                      replace hs := hs.learn e16
                      have t19 := ht 19 (twB_spec 33 _ (by kernel_rfl))
                      have e19 : _ = some (vs82 19) := t19.val rfl
                      rw [show vs82 19 = .pointer (some ⟨g21, 0, none⟩) from t19.2.1] at e19
                      replace hs := hs.learn e19
                      have hs0 := hs.bare
                      refine st_guardT hs rfl rfl rfl ?_
                      refine st_nc hs rfl rfl ?_; clear hs; intro a w hs
                      exact wpList_nil ⟨rfl, _, _, hs0, (.c (.c .r)), hs, rfl⟩
                    · intro a_ w_ R_ rest_ vs82 hm hs ht
                      replace hs : St _ _ _ (feet []) [] _ _ := hs
                      have hm0 := hm.mid
                      have t16 := ht 16 (twB_spec 33 _ (by kernel_rfl))
                      have e16 : _ = some (vs82 16) := t16.val rfl
                      rw [show vs82 16 = .bool (false) from t16.2.1] at e16
                      replace hs := hs.learn e16
                      have t20 := ht 20 (twB_spec 33 _ (by kernel_rfl))
                      have e20 : _ = some (vs82 20) := t20.val rfl
                      rw [show vs82 20 = .pointer (some ⟨g21, 0, none⟩) from t20.2.1] at e20
                      replace hs := hs.learn e20
                      have hs0 := hs.bare
                      refine st_guardT hs rfl rfl rfl ?_
                      refine st_fa hs rfl Try.underlying66 rfl Try.sizeOf22 (by decide) (o := 0) rfl rfl ?_; clear hs; intro a w hs
                      exact wpList_nil ⟨rfl, _, _, hs0, (.c (.c .r)), hs, rfl⟩
                    · intro a_ w_ R_ rest_ vs82 hm hs ht
                      replace hs : St _ _ _ (feet []) [] _ _ := hs
                      have hm0 := hm.mid
                      have t16 := ht 16 (twB_spec 33 _ (by kernel_rfl))
                      have e16 : _ = some (vs82 16) := t16.val rfl
                      rw [show vs82 16 = .bool (false) from t16.2.1] at e16
                      replace hs := hs.learn e16
                      have t21 := ht 21 (twB_spec 33 _ (by kernel_rfl))
                      have e21 : _ = some (vs82 21) := t21.val rfl
                      rw [show vs82 21 = .pointer (some ⟨g21, 0, none⟩) from t21.2.1] at e21
                      replace hs := hs.learn e21
                      have hs0 := hs.bare
                      refine st_guardT hs rfl rfl rfl ?_
                      refine st_ldE hs rfl (hm0.del .z) .z Try.isAgg22 rfl ?_; clear hs; intro a w hs
                      exact wpList_nil ⟨rfl, _, _, hs0, (.c (.c .r)), hs, rfl⟩
                    · intro a_ w_ R_ rest_ vs82 hm hs ht
                      replace hs : St _ _ _ (feet []) [] _ _ := hs
                      have hm0 := hm.mid
                      have t16 := ht 16 (twB_spec 33 _ (by kernel_rfl))
                      have e16 : _ = some (vs82 16) := t16.val rfl
                      rw [show vs82 16 = .bool (false) from t16.2.1] at e16
                      replace hs := hs.learn e16
                      have t22 := ht 22 (twB_spec 33 _ (by kernel_rfl))
                      have e22 : _ = some (vs82 22) := t22.val rfl
                      rw [show vs82 22 = (uNext ((uNext ((uNext u1 bs.length R.p ((rInt bs R).2).p)) bs.length ((rInt bs R).2).p ((rInt bs (rInt bs R).2).2).p)) bs.length ((rInt bs (rInt bs R).2).2).p ((rInt bs (rInt bs (rInt bs R).2).2).2).p) from t22.2.1] at e22
                      replace hs := hs.learn e22
                      have hs0 := hs.bare
                      refine st_guardT hs rfl rfl rfl ?_
                      refine st_len hs rfl ((uNext_tr (p := ((rInt bs (rInt bs R).2).2).p) (p' := ((rInt bs (rInt bs (rInt bs R).2).2).2).p) (by omega) (by omega)) _ _ ((uNext_tr (p := ((rInt bs R).2).p) (p' := ((rInt bs (rInt bs R).2).2).p) (by omega) (by omega)) _ _ ((uNext_tr (p := R.p) (p' := ((rInt bs R).2).p) (by omega) (by omega)) _ _ (hI1_2 _ _ (hm.rd0 hb))))).isSl Try.underlying22 rfl ?_; clear hs; intro a w hs
                      exact wpList_nil ⟨rfl, _, _, hs0, (.c (.c .r)), hs, rfl⟩
                    · intro a_ w_ R_ rest_ vs82 hm hs ht
                      replace hs : St _ _ _ (feet []) [] _ _ := hs
                      have hm0 := hm.mid
                      have t16 := ht 16 (twB_spec 33 _ (by kernel_rfl))
                      have e16 : _ = some (vs82 16) := t16.val rfl
                      rw [show vs82 16 = .bool (false) from t16.2.1] at e16
                      replace hs := hs.learn e16
                      have t18 := ht 18 (twB_spec 33 _ (by kernel_rfl))
                      have e18 : _ = some (vs82 18) := t18.val rfl
                      rw [show vs82 18 = .int .i64 ((((bs.length - (((rInt bs (rInt bs (rInt bs R).2).2).2)).p) : Nat) : Int)) from t18.2.1] at e18
                      replace hs := hs.learn e18
                      have t23 := ht 23 (twB_spec 33 _ (by kernel_rfl))
                      have e23 : _ = some (vs82 23) := t23.val rfl
                      rw [show vs82 23 = .int .i64 ((((bs.length - ((rInt bs (rInt bs (rInt bs R).2).2).2).p) : Nat) : Int)) from t23.2.1] at e23
                      replace hs := hs.learn e23
                      have hs0 := hs.bare
                      refine st_guardT hs rfl rfl rfl ?_
                      refine st_neq hs rfl rfl rfl ?_; clear hs; intro a w hs
                      have hb_ : (!(((((bs.length - (((rInt bs (rInt bs (rInt bs R).2).2).2)).p) : Nat) : Int) : Int) == ((((bs.length - ((rInt bs (rInt bs (rInt bs R).2).2).2).p) : Nat) : Int)))) = false := by first | decide | (simp; done) | (simp; omega)
                      rw [hb_] at hs; clear hb_
                      exact wpList_nil ⟨rfl, _, _, hs0, (.c (.c (.c .r))), hs, rfl⟩
                    · intro a_ w_ R_ rest_ vs82 hm hs ht
                      replace hs : St _ _ _ (feet []) [] _ _ := hs
                      have hm0 := hm.mid
                      have t16 := ht 16 (twB_spec 33 _ (by kernel_rfl))
                      have e16 : _ = some (vs82 16) := t16.val rfl
                      rw [show vs82 16 = .bool (false) from t16.2.1] at e16
                      replace hs := hs.learn e16
                      have t24 := ht 24 (twB_spec 33 _ (by kernel_rfl))
                      have e24 : _ = some (vs82 24) := t24.val rfl
                      rw [show vs82 24 = .bool (false) from t24.2.1] at e24
                      replace hs := hs.learn e24
                      have hs0 := hs.bare
                      refine st_pickF hs rfl rfl rfl ?_; clear hs; intro a w hs
                      exact wpList_nil ⟨rfl, _, _, hs0, (.c (.c .r)), hs, rfl⟩
                    · intro a_ w_ R_ rest_ vs82 hm hs ht
                      replace hs : St _ _ _ (feet []) [] _ _ := hs
                      have hm0 := hm.mid
                      have t25 := ht 25 (twB_spec 33 _ (by kernel_rfl))
                      have e25 : _ = some (vs82 25) := t25.val rfl
                      rw [show vs82 25 = .bool (false) from t25.2.1] at e25
                      replace hs := hs.learn e25
                      have hs0 := hs.bare
                      refine st_mv hs rfl rfl ?_; clear hs; intro a w hs
                      exact wpList_nil ⟨rfl, _, _, hs0, (.c .r), hs, rfl⟩
                    · intro a_ w_ R_ rest_ vs82 hm hs ht
                      replace hs : St _ _ _ (feet []) [] _ _ := hs
                      have hm0 := hm.mid
                      have t26 := ht 26 (twB_spec 33 _ (by kernel_rfl))
                      have e26 : _ = some (vs82 26) := t26.val rfl
                      rw [show vs82 26 = .bool (false) from t26.2.1] at e26
                      replace hs := hs.learn e26
                      have hs0 := hs.bare
                      refine st_guardT hs rfl rfl rfl ?_
                      refine st_mv hs rfl rfl ?_; clear hs; intro a w hs
                      exact wpList_nil ⟨rfl, _, _, hs0, (.c .r), hs, rfl⟩
                    · intro a_ w_ R_ rest_ vs82 hm hs ht
                      replace hs : St _ _ _ (feet []) [] _ _ := hs
                      have hm0 := hm.mid
                      have t26 := ht 26 (twB_spec 33 _ (by kernel_rfl))
                      have e26 : _ = some (vs82 26) := t26.val rfl
                      rw [show vs82 26 = .bool (false) from t26.2.1] at e26
                      replace hs := hs.learn e26
                      have t27 := ht 27 (twB_spec 33 _ (by kernel_rfl))
                      have e27 : _ = some (vs82 27) := t27.val rfl
                      rw [show vs82 27 = .pointer (some ⟨g5, 0, none⟩) from t27.2.1] at e27
                      replace hs := hs.learn e27
                      have hs0 := hs.bare
                      refine st_guardT hs rfl rfl rfl ?_
                      refine st_callP (v := .int .i64 ((((rDone bs (((rInt bs (rInt bs (rInt bs R).2).2).2))) : Nat) : Int))) hs (.c rfl .n) Try.call46 (rdone_ok g5 _ _ bs (((rInt bs (rInt bs (rInt bs R).2).2).2)) _ (hm.rd0 hb) (hm0.del (.s .z)) (by omega)) rfl ?_; clear hs; intro a w hs
                      exact wpList_nil ⟨rfl, _, _, hs0, (.c (.c .r)), hs, rfl⟩
                    · intro a_ w_ R_ rest_ vs82 hm hs ht
                      replace hs : St _ _ _ (feet []) [] _ _ := hs
                      have hm0 := hm.mid
                      have t26 := ht 26 (twB_spec 33 _ (by kernel_rfl))
                      have e26 : _ = some (vs82 26) := t26.val rfl
                      rw [show vs82 26 = .bool (false) from t26.2.1] at e26
                      replace hs := hs.learn e26
                      have hs0 := hs.bare
                      refine st_guardT hs rfl rfl rfl ?_
                      refine st_mv hs rfl rfl ?_; clear hs; intro a w hs
                      exact wpList_nil ⟨rfl, _, _, hs0, (.c .r), hs, rfl⟩
                    · intro a_ w_ R_ rest_ vs82 hm hs ht
                      replace hs : St _ _ _ (feet []) [] _ _ := hs
                      have hm0 := hm.mid
                      have t26 := ht 26 (twB_spec 33 _ (by kernel_rfl))
                      have e26 : _ = some (vs82 26) := t26.val rfl
                      rw [show vs82 26 = .bool (false) from t26.2.1] at e26
                      replace hs := hs.learn e26
                      have t29 := ht 29 (twB_spec 33 _ (by kernel_rfl))
                      have e29 : _ = some (vs82 29) := t29.val rfl
                      rw [show vs82 29 = .pointer (some ⟨g21, 0, none⟩) from t29.2.1] at e29
                      replace hs := hs.learn e29
                      have hs0 := hs.bare
                      refine st_guardT hs rfl rfl rfl ?_
                      refine st_callP (v := .int .i64 ((((rDone bs (((rInt bs (rInt bs (rInt bs R).2).2).2))) : Nat) : Int))) hs (.c rfl .n) Try.call54 (mdone_ok g21 _ bs (((rInt bs (rInt bs (rInt bs R).2).2).2)) _ ((uNext_tr (p := ((rInt bs (rInt bs R).2).2).p) (p' := ((rInt bs (rInt bs (rInt bs R).2).2).2).p) (by omega) (by omega)) _ _ ((uNext_tr (p := ((rInt bs R).2).p) (p' := ((rInt bs (rInt bs R).2).2).p) (by omega) (by omega)) _ _ ((uNext_tr (p := R.p) (p' := ((rInt bs R).2).p) (by omega) (by omega)) _ _ (hI1_2 _ _ (hm.rd0 hb))))) (hm0.del .z) (by omega) (by simp only [maxLen]; omega)) rfl ?_; clear hs; intro a w hs
                      exact wpList_nil ⟨rfl, _, _, hs0, (.c (.c .r)), hs, rfl⟩
                    · intro a_ w_ R_ rest_ vs82 hm hs ht
                      replace hs : St _ _ _ (feet []) [] _ _ := hs
                      have hm0 := hm.mid
                      have t26 := ht 26 (twB_spec 33 _ (by kernel_rfl))
                      have e26 : _ = some (vs82 26) := t26.val rfl
                      rw [show vs82 26 = .bool (false) from t26.2.1] at e26
                      replace hs := hs.learn e26
                      have t28 := ht 28 (twB_spec 33 _ (by kernel_rfl))
                      have e28 : _ = some (vs82 28) := t28.val rfl
                      rw [show vs82 28 = .int .i64 ((((rDone bs (((rInt bs (rInt bs (rInt bs R).2).2).2))) : Nat) : Int)) from t28.2.1] at e28
                      replace hs := hs.learn e28
                      have t30 := ht 30 (twB_spec 33 _ (by kernel_rfl))
                      have e30 : _ = some (vs82 30) := t30.val rfl
                      rw [show vs82 30 = .int .i64 ((((rDone bs (((rInt bs (rInt bs (rInt bs R).2).2).2))) : Nat) : Int)) from t30.2.1] at e30
                      replace hs := hs.learn e30
                      have hs0 := hs.bare
                      refine st_guardT hs rfl rfl rfl ?_
                      refine st_neq hs rfl rfl rfl ?_; clear hs; intro a w hs
                      have hb_ : (!(((((rDone bs (((rInt bs (rInt bs (rInt bs R).2).2).2))) : Nat) : Int) : Int) == ((((rDone bs (((rInt bs (rInt bs (rInt bs R).2).2).2))) : Nat) : Int)))) = false := by first | decide | (simp; done) | (simp; omega)
                      rw [hb_] at hs; clear hb_
                      exact wpList_nil ⟨rfl, _, _, hs0, (.c (.c (.c .r))), hs, rfl⟩
                    · intro a_ w_ R_ rest_ vs82 hm hs ht
                      replace hs : St _ _ _ (feet []) [] _ _ := hs
                      have hm0 := hm.mid
                      have t26 := ht 26 (twB_spec 33 _ (by kernel_rfl))
                      have e26 : _ = some (vs82 26) := t26.val rfl
                      rw [show vs82 26 = .bool (false) from t26.2.1] at e26
                      replace hs := hs.learn e26
                      have t31 := ht 31 (twB_spec 33 _ (by kernel_rfl))
                      have e31 : _ = some (vs82 31) := t31.val rfl
                      rw [show vs82 31 = .bool (false) from t31.2.1] at e31
                      replace hs := hs.learn e31
                      have hs0 := hs.bare
                      refine st_pickF hs rfl rfl rfl ?_; clear hs; intro a w hs
                      exact wpList_nil ⟨rfl, _, _, hs0, (.c (.c .r)), hs, rfl⟩
                  · clear hs w a; intro a w vs82 hs hf
                    replace hs : St _ _ _ _ [blk g21 [(uNext ((uNext ((uNext u1 bs.length R.p ((rInt bs R).2).p)) bs.length ((rInt bs R).2).p ((rInt bs (rInt bs R).2).2).p)) bs.length ((rInt bs (rInt bs R).2).2).p ((rInt bs (rInt bs (rInt bs R).2).2).2).p), .int .i64 (((((rInt bs (rInt bs (rInt bs R).2).2).2).p : Nat) : Int)), .int .i64 (((((rInt bs (rInt bs (rInt bs R).2).2).2).e : Nat) : Int))] 66, blk g5 [v, .int .i64 (((((rInt bs (rInt bs (rInt bs R).2).2).2).p : Nat) : Int)), .int .i64 (((((rInt bs (rInt bs (rInt bs R).2).2).2).e : Nat) : Int))] 76, blk g35 [.int .i64 ((l.getD j default).k), .int .u64 (((((l.getD j default).m).toNat : Nat) : Int)), .int .u8 (((((l.getD j default).e).toNat : Nat) : Int))] 55] _ _ := hs
                    obtain ⟨e32, q32⟩ := hf 32 (by decide)
                    replace e32 : _ = some (vs82 32) := e32.val rfl
                    rw [show vs82 32 = .bool (false) from q32] at e32
                    replace hs := hs.learn e32; clear e32 q32
                    clear hf
                    refine then_n (hK81 _ _ ?_)
                    refine wp_cond_false (hs.ev rfl) ?_
                    refine wp_skip ?_
                    refine in_n ?_
                    refine then_n (hK32 _ _ ?_)
                    refine wp_region_lit ?_
                    refine st_addR hs rfl rfl (by omega) rfl ?_; clear hs w a; intro a w hs
                    refine st_mv hs rfl rfl ?_; clear hs w a; intro a w hs
                    refine wpList_nil ?_
                    refine then_n ?_
                    replace hs := hs.drop (.c (.s (.s .z)) .n)
                    replace hs := hs.reorder (.c (.s .z) (.c .z .n))
                    refine ⟨_, ?_, j + 1, ((rInt bs (rInt bs (rInt bs R).2).2).2), (uNext ((uNext ((uNext u1 bs.length R.p ((rInt bs R).2).p)) bs.length ((rInt bs R).2).p ((rInt bs (rInt bs R).2).2).p)) bs.length ((rInt bs (rInt bs R).2).2).p ((rInt bs (rInt bs (rInt bs R).2).2).2).p), rfl, hs.sub (.c rfl (.c rfl (.c rfl (.c rfl (.c rfl (.c rfl .n)))))), by omega, by omega, (fun w T h => (uNext_tr (p := ((rInt bs (rInt bs R).2).2).p) (p' := ((rInt bs (rInt bs (rInt bs R).2).2).2).p) (by omega) (by omega)) w T ((fun w T h => (uNext_tr (p := ((rInt bs R).2).p) (p' := ((rInt bs (rInt bs R).2).2).p) (by omega) (by omega)) w T ((fun w T h => (uNext_tr (p := R.p) (p' := ((rInt bs R).2).p) (by omega) (by omega)) w T (hI1_2 w T h)) w T h)) w T h))⟩
                    omega
                ·
                  replace hc73 := ne_of_beq_f hc73
                  refine wp_seq_k fun K83 hK84 => ?_
                  refine wp_region_lit ?_
                  refine st_eql hs rfl rfl rfl ?_; clear hs w a; intro a w hs
                  refine st_as hs rfl rfl ?_; clear hs w a; intro a w hs
                  refine wpList_nil ?_
                  refine then_n (hK84 _ _ ?_)
                  refine wp_if hs rfl (fun hc85 => ?_) (fun hc85 => ?_)
                  ·
                    replace hc85 := eq_of_beq hc85
                    refine wp_seq_k fun K86 hK87 => ?_
                    refine wp_region_lit ?_
                    refine st_mv hs rfl rfl ?_; clear hs w a; intro a w hs
                    refine st_fa hs rfl Try.underlying55 rfl Try.sizeOf5 (by decide) (o := 2) rfl rfl ?_; clear hs w a; intro a w hs
                    refine st_ldB hs rfl .z (.s (.s .z)) Try.isAgg5 rfl ?_; clear hs w a; intro a w hs
                    refine st_rem_u8 (X := (l.getD j default).e) (Y := 18#8) hs rfl rfl rfl (by decide) (by decide) rfl ?_; clear hs w a; intro a w hs
                    refine st_cv_i64 hs rfl (bvr (((l.getD j default).e) % (18#8))) Try.underlying5 Try.underlying39 rfl ?_; clear hs w a; intro a w hs
                    refine st_call hs (.c rfl (.c rfl .n)) Try.call52 (.c (.s .z) .n) (rfail_ok ((((l.getD j default).e) % (18#8)).toNat) g5 _ _ bs R _ (hs.mem.rd1 hb (.c (.s .z) .n)) (hs.mem.del (.s .z)) (by omega)) rfl ?_; clear hs w a; rintro _ _ a w ⟨rfl, rfl⟩ hs; simp only [List.cons_append, List.nil_append] at hs
                    have hk88 := rFail_le (e := (((l.getD j default).e) % (18#8)).toNat) (bs := bs) (R := R) (by omega)
                    refine wpList_nil ?_
                    refine then_n (hK87 _ _ ?_)
                    refine wp_region_lit ?_
                    refine st_mv hs rfl rfl ?_; clear hs w a; intro a w hs
                    refine st_fa hs rfl Try.underlying55 rfl Try.sizeOf5 (by decide) (o := 2) rfl rfl ?_; clear hs w a; intro a w hs
                    refine st_ldB hs rfl (.s .z) (.s (.s .z)) Try.isAgg5 rfl ?_; clear hs w a; intro a w hs
                    refine st_rem_u8 (X := (l.getD j default).e) (Y := 18#8) hs rfl rfl rfl (by decide) (by decide) rfl ?_; clear hs w a; intro a w hs
                    refine st_cv_i64 hs rfl (bvr (((l.getD j default).e) % (18#8))) Try.underlying5 Try.underlying3 rfl ?_; clear hs w a; intro a w hs
                    refine st_call hs (.c rfl (.c rfl .n)) Try.call53 (.c (.s (.s .z)) .n) (mfail_ok ((((l.getD j default).e) % (18#8)).toNat) g21 _ bs R _ (hI1_2 _ _ (hs.mem.rd1 hb (.c (.s (.s .z)) .n))) (hs.mem.del (.s (.s .z))) (by omega) (by simp only [maxLen]; omega)) rfl ?_; clear hs w a; rintro _ _ a w ⟨rfl, rfl⟩ hs; simp only [List.cons_append, List.nil_append] at hs
                    have hk89 := rFail_le (bs := bs) (R := R) (e := (((l.getD j default).e) % (18#8)).toNat) (by omega)
                    refine wpList_nil ?_
                    refine in_n ?_
                    refine then_n (hK37 _ _ ?_)
                    refine wp_seq_k fun K90 hK91 => ?_
                    replace hs := hs.sub (F' := [(84, .tuple #[]), (83, .int .i64 ((((((l.getD j default).e) % (18#8)).toNat : Nat) : Int))), (82, .int .u8 ((((((l.getD j default).e) % (18#8)).toNat : Nat) : Int))), (81, .int .u8 (((((l.getD j default).e).toNat : Nat) : Int))), (80, .pointer (some ⟨g35, 2, none⟩)), (79, .pointer (some ⟨g21, 0, none⟩)), (78, .tuple #[]), (77, .int .i64 ((((((l.getD j default).e) % (18#8)).toNat : Nat) : Int))), (76, .int .u8 ((((((l.getD j default).e) % (18#8)).toNat : Nat) : Int))), (75, .int .u8 (((((l.getD j default).e).toNat : Nat) : Int))), (74, .pointer (some ⟨g35, 2, none⟩)), (73, .pointer (some ⟨g5, 0, none⟩)), (71, .bool (((l.getD j default).k : Int) == 4)), (72, .bool (((l.getD j default).k : Int) == 4)), (64, .bool (((l.getD j default).k : Int) == 3)), (65, .bool (((l.getD j default).k : Int) == 3)), (57, .bool (((l.getD j default).k : Int) == 2)), (58, .bool (((l.getD j default).k : Int) == 2)), (46, .bool (((l.getD j default).k : Int) == 1)), (47, .bool (((l.getD j default).k : Int) == 1)), (39, .bool (((l.getD j default).k : Int) == 0)), (40, .bool (((l.getD j default).k : Int) == 0)), (38, .int .i64 ((l.getD j default).k)), (37, .pointer (some ⟨g35, 0, none⟩)), (8, .pointer (some ⟨g35, 0, none⟩)), (36, .agg #[.int .i64 ((l.getD j default).k), .int .u64 (((((l.getD j default).m).toNat : Nat) : Int)), .int .u8 (((((l.getD j default).e).toNat : Nat) : Int))]), (35, .pointer (some (adr u (j * 3)))), (34, .bool (decide ((j : Int) < (m2 : Int)))), (0, v), (5, .pointer (some ⟨g5, 0, none⟩)), (6, .pointer (some ⟨g21, 0, none⟩)), (31, u), (32, .int .i64 ((m2 : Int))), (33, .int .i64 ((j : Int)))]) (.c rfl (.c rfl (.c rfl (.c rfl (.c rfl (.c rfl (.c rfl (.c rfl (.c rfl (.c rfl (.c rfl (.c rfl (.c rfl (.c rfl (.c rfl (.c rfl (.c rfl (.c rfl (.c rfl (.c rfl (.c rfl (.c rfl (.c rfl (.c rfl (.c rfl (.c rfl (.c rfl (.c rfl (.c rfl (.c rfl (.c rfl (.c rfl (.c rfl (.c rfl .n))))))))))))))))))))))))))))))))))
                    refine wp_drawG (M0 := [blk g21 [(id u1), .int .i64 (((((rFail ((((l.getD j default).e) % (18#8)).toNat) R)).p : Nat) : Int)), .int .i64 (((((rFail ((((l.getD j default).e) % (18#8)).toNat) R)).e : Nat) : Int))] 66, blk g5 [v, .int .i64 (((((rFail ((((l.getD j default).e) % (18#8)).toNat) R)).p : Nat) : Int)), .int .i64 (((((rFail ((((l.getD j default).e) % (18#8)).toNat) R)).e : Nat) : Int))] 76, blk g35 [.int .i64 ((l.getD j default).k), .int .u64 (((((l.getD j default).m).toNat : Nat) : Int)), .int .u8 (((((l.getD j default).e).toNat : Nat) : Int))] 55]) (Ds := [⟨[], [], [], fun vs92 => vs92 0 = .pointer (some ⟨g5, 0, none⟩), fun vs92 => []⟩, ⟨[], [], [], fun vs92 => vs92 1 = .int .i64 ((((((rFail ((((l.getD j default).e) % (18#8)).toNat) R))).e : Nat) : Int)), fun vs92 => []⟩, ⟨[], [], [], fun vs92 => vs92 2 = .pointer (some ⟨g21, 0, none⟩), fun vs92 => []⟩, ⟨[], [], [], fun vs92 => vs92 3 = .pointer (some ⟨g21, 0, none⟩), fun vs92 => []⟩, ⟨[], [], [], fun vs92 => vs92 4 = .pointer (some ⟨g21, 2, none⟩), fun vs92 => []⟩, ⟨[], [], [], fun vs92 => vs92 5 = .int .i64 (((((rFail ((((l.getD j default).e) % (18#8)).toNat) R)).e : Nat) : Int)), fun vs92 => []⟩, ⟨[], [], [], fun vs92 => vs92 6 = .bool (false), fun vs92 => []⟩, ⟨[], [], [], fun vs92 => vs92 7 = .bool (false), fun vs92 => []⟩, ⟨[], [], [], fun vs92 => vs92 8 = .pointer (some ⟨g5, 0, none⟩), fun vs92 => []⟩, ⟨[], [], [], fun vs92 => vs92 9 = .int .i64 ((((((rFail ((((l.getD j default).e) % (18#8)).toNat) R))).p : Nat) : Int)), fun vs92 => []⟩, ⟨[], [], [], fun vs92 => vs92 10 = .pointer (some ⟨g21, 0, none⟩), fun vs92 => []⟩, ⟨[], [], [], fun vs92 => vs92 11 = .pointer (some ⟨g21, 0, none⟩), fun vs92 => []⟩, ⟨[], [], [], fun vs92 => vs92 12 = .pointer (some ⟨g21, 1, none⟩), fun vs92 => []⟩, ⟨[], [], [], fun vs92 => vs92 13 = .int .i64 (((((rFail ((((l.getD j default).e) % (18#8)).toNat) R)).p : Nat) : Int)), fun vs92 => []⟩, ⟨[], [], [], fun vs92 => vs92 14 = .bool (false), fun vs92 => []⟩, ⟨[], [], [], fun vs92 => vs92 15 = .bool (false), fun vs92 => []⟩, ⟨[], [], [], fun vs92 => vs92 16 = .bool (false), fun vs92 => []⟩, ⟨[], [], [], fun vs92 => vs92 17 = .pointer (some ⟨g5, 0, none⟩), fun vs92 => []⟩, ⟨[], [], [], fun vs92 => vs92 18 = .int .i64 ((((bs.length - (((rFail ((((l.getD j default).e) % (18#8)).toNat) R))).p) : Nat) : Int)), fun vs92 => []⟩, ⟨[], [], [], fun vs92 => vs92 19 = .pointer (some ⟨g21, 0, none⟩), fun vs92 => []⟩, ⟨[], [], [], fun vs92 => vs92 20 = .pointer (some ⟨g21, 0, none⟩), fun vs92 => []⟩, ⟨[], [], [], fun vs92 => vs92 21 = .pointer (some ⟨g21, 0, none⟩), fun vs92 => []⟩, ⟨[], [], [], fun vs92 => vs92 22 = (id u1), fun vs92 => []⟩, ⟨[], [], [], fun vs92 => vs92 23 = .int .i64 ((((bs.length - ((rFail ((((l.getD j default).e) % (18#8)).toNat) R)).p) : Nat) : Int)), fun vs92 => []⟩, ⟨[], [], [], fun vs92 => vs92 24 = .bool (false), fun vs92 => []⟩, ⟨[], [], [], fun vs92 => vs92 25 = .bool (false), fun vs92 => []⟩, ⟨[], [], [], fun vs92 => vs92 26 = .bool (false), fun vs92 => []⟩, ⟨[], [], [], fun vs92 => vs92 27 = .pointer (some ⟨g5, 0, none⟩), fun vs92 => []⟩, ⟨[], [], [], fun vs92 => vs92 28 = .int .i64 ((((rDone bs (((rFail ((((l.getD j default).e) % (18#8)).toNat) R)))) : Nat) : Int)), fun vs92 => []⟩, ⟨[], [], [], fun vs92 => vs92 29 = .pointer (some ⟨g21, 0, none⟩), fun vs92 => []⟩, ⟨[], [], [], fun vs92 => vs92 30 = .int .i64 ((((rDone bs (((rFail ((((l.getD j default).e) % (18#8)).toNat) R)))) : Nat) : Int)), fun vs92 => []⟩, ⟨[], [], [], fun vs92 => vs92 31 = .bool (false), fun vs92 => []⟩, ⟨[], [], [], fun vs92 => vs92 32 = .bool (false), fun vs92 => []⟩]) (by kernel_rfl) hs rfl .n (by kernel_rfl) (by kernel_rfl) ?_ ?_
                    · refine (.c ?_ (.c ?_ (.c ?_ (.c ?_ (.c ?_ (.c ?_ (.c ?_ (.c ?_ (.c ?_ (.c ?_ (.c ?_ (.c ?_ (.c ?_ (.c ?_ (.c ?_ (.c ?_ (.c ?_ (.c ?_ (.c ?_ (.c ?_ (.c ?_ (.c ?_ (.c ?_ (.c ?_ (.c ?_ (.c ?_ (.c ?_ (.c ?_ (.c ?_ (.c ?_ (.c ?_ (.c ?_ (.c ?_ .n)))))))))))))))))))))))))))))))))
                      · intro a_ w_ R_ rest_ vs92 hm hs ht
                        replace hs : St _ _ _ (feet []) [] _ _ := hs
                        have hm0 := hm.mid
                        have hs0 := hs.bare
                        refine st_mv hs rfl rfl ?_; clear hs; intro a w hs
                        exact wpList_nil ⟨rfl, _, _, hs0, .r, hs, rfl⟩
                      · intro a_ w_ R_ rest_ vs92 hm hs ht
                        replace hs : St _ _ _ (feet []) [] _ _ := hs
                        have hm0 := hm.mid
                        have t0 := ht 0 (twB_spec 33 _ (by kernel_rfl))
                        have e0 : _ = some (vs92 0) := t0.val rfl
                        rw [show vs92 0 = .pointer (some ⟨g5, 0, none⟩) from t0.2.1] at e0
                        replace hs := hs.learn e0
                        have hs0 := hs.bare
                        refine st_callP (v := .int .i64 ((((((rFail ((((l.getD j default).e) % (18#8)).toNat) R))).e : Nat) : Int))) hs (.c rfl .n) Try.call47 (rerr_ok g5 _ _ bs (((rFail ((((l.getD j default).e) % (18#8)).toNat) R))) _ (hm.rd0 hb) (hm0.del (.s .z)) (by omega)) rfl ?_; clear hs; intro a w hs
                        exact wpList_nil ⟨rfl, _, _, hs0, (.c .r), hs, rfl⟩
                      · intro a_ w_ R_ rest_ vs92 hm hs ht
                        replace hs : St _ _ _ (feet []) [] _ _ := hs
                        have hm0 := hm.mid
                        have hs0 := hs.bare
                        refine st_mv hs rfl rfl ?_; clear hs; intro a w hs
                        exact wpList_nil ⟨rfl, _, _, hs0, .r, hs, rfl⟩
                      · intro a_ w_ R_ rest_ vs92 hm hs ht
                        replace hs : St _ _ _ (feet []) [] _ _ := hs
                        have hm0 := hm.mid
                        have t2 := ht 2 (twB_spec 33 _ (by kernel_rfl))
                        have e2 : _ = some (vs92 2) := t2.val rfl
                        rw [show vs92 2 = .pointer (some ⟨g21, 0, none⟩) from t2.2.1] at e2
                        replace hs := hs.learn e2
                        have hs0 := hs.bare
                        refine st_nc hs rfl rfl ?_; clear hs; intro a w hs
                        exact wpList_nil ⟨rfl, _, _, hs0, (.c .r), hs, rfl⟩
                      · intro a_ w_ R_ rest_ vs92 hm hs ht
                        replace hs : St _ _ _ (feet []) [] _ _ := hs
                        have hm0 := hm.mid
                        have t3 := ht 3 (twB_spec 33 _ (by kernel_rfl))
                        have e3 : _ = some (vs92 3) := t3.val rfl
                        rw [show vs92 3 = .pointer (some ⟨g21, 0, none⟩) from t3.2.1] at e3
                        replace hs := hs.learn e3
                        have hs0 := hs.bare
                        refine st_fa hs rfl Try.underlying66 rfl Try.sizeOf3 (by decide) (o := 2) rfl rfl ?_; clear hs; intro a w hs
                        exact wpList_nil ⟨rfl, _, _, hs0, (.c .r), hs, rfl⟩
                      · intro a_ w_ R_ rest_ vs92 hm hs ht
                        replace hs : St _ _ _ (feet []) [] _ _ := hs
                        have hm0 := hm.mid
                        have t4 := ht 4 (twB_spec 33 _ (by kernel_rfl))
                        have e4 : _ = some (vs92 4) := t4.val rfl
                        rw [show vs92 4 = .pointer (some ⟨g21, 2, none⟩) from t4.2.1] at e4
                        replace hs := hs.learn e4
                        have hs0 := hs.bare
                        refine st_ldE hs rfl (hm0.del .z) (.s (.s .z)) Try.isAgg3 rfl ?_; clear hs; intro a w hs
                        exact wpList_nil ⟨rfl, _, _, hs0, (.c .r), hs, rfl⟩
                      · intro a_ w_ R_ rest_ vs92 hm hs ht
                        replace hs : St _ _ _ (feet []) [] _ _ := hs
                        have hm0 := hm.mid
                        have t1 := ht 1 (twB_spec 33 _ (by kernel_rfl))
                        have e1 : _ = some (vs92 1) := t1.val rfl
                        rw [show vs92 1 = .int .i64 ((((((rFail ((((l.getD j default).e) % (18#8)).toNat) R))).e : Nat) : Int)) from t1.2.1] at e1
                        replace hs := hs.learn e1
                        have t5 := ht 5 (twB_spec 33 _ (by kernel_rfl))
                        have e5 : _ = some (vs92 5) := t5.val rfl
                        rw [show vs92 5 = .int .i64 (((((rFail ((((l.getD j default).e) % (18#8)).toNat) R)).e : Nat) : Int)) from t5.2.1] at e5
                        replace hs := hs.learn e5
                        have hs0 := hs.bare
                        refine st_neq hs rfl rfl rfl ?_; clear hs; intro a w hs
                        have hb_ : (!(((((((rFail ((((l.getD j default).e) % (18#8)).toNat) R))).e : Nat) : Int) : Int) == (((((rFail ((((l.getD j default).e) % (18#8)).toNat) R)).e : Nat) : Int)))) = false := by first | decide | (simp; done) | (simp; omega)
                        rw [hb_] at hs; clear hb_
                        exact wpList_nil ⟨rfl, _, _, hs0, (.c (.c .r)), hs, rfl⟩
                      · intro a_ w_ R_ rest_ vs92 hm hs ht
                        replace hs : St _ _ _ (feet []) [] _ _ := hs
                        have hm0 := hm.mid
                        have t6 := ht 6 (twB_spec 33 _ (by kernel_rfl))
                        have e6 : _ = some (vs92 6) := t6.val rfl
                        rw [show vs92 6 = .bool (false) from t6.2.1] at e6
                        replace hs := hs.learn e6
                        have hs0 := hs.bare
                        refine st_mv hs rfl rfl ?_; clear hs; intro a w hs
                        exact wpList_nil ⟨rfl, _, _, hs0, (.c .r), hs, rfl⟩
                      · intro a_ w_ R_ rest_ vs92 hm hs ht
                        replace hs : St _ _ _ (feet []) [] _ _ := hs
                        have hm0 := hm.mid
                        have t7 := ht 7 (twB_spec 33 _ (by kernel_rfl))
                        have e7 : _ = some (vs92 7) := t7.val rfl
                        rw [show vs92 7 = .bool (false) from t7.2.1] at e7
                        replace hs := hs.learn e7
                        have hs0 := hs.bare
                        refine st_guardT hs rfl rfl rfl ?_
                        refine st_mv hs rfl rfl ?_; clear hs; intro a w hs
                        exact wpList_nil ⟨rfl, _, _, hs0, (.c .r), hs, rfl⟩
                      · intro a_ w_ R_ rest_ vs92 hm hs ht
                        replace hs : St _ _ _ (feet []) [] _ _ := hs
                        have hm0 := hm.mid
                        have t7 := ht 7 (twB_spec 33 _ (by kernel_rfl))
                        have e7 : _ = some (vs92 7) := t7.val rfl
                        rw [show vs92 7 = .bool (false) from t7.2.1] at e7
                        replace hs := hs.learn e7
                        have t8 := ht 8 (twB_spec 33 _ (by kernel_rfl))
                        have e8 : _ = some (vs92 8) := t8.val rfl
                        rw [show vs92 8 = .pointer (some ⟨g5, 0, none⟩) from t8.2.1] at e8
                        replace hs := hs.learn e8
                        have hs0 := hs.bare
                        refine st_guardT hs rfl rfl rfl ?_
                        refine st_callP (v := .int .i64 ((((((rFail ((((l.getD j default).e) % (18#8)).toNat) R))).p : Nat) : Int))) hs (.c rfl .n) Try.call40 (rat_ok g5 _ _ bs (((rFail ((((l.getD j default).e) % (18#8)).toNat) R))) _ (hm.rd0 hb) (hm0.del (.s .z)) (by omega)) rfl ?_; clear hs; intro a w hs
                        exact wpList_nil ⟨rfl, _, _, hs0, (.c (.c .r)), hs, rfl⟩
                      · intro a_ w_ R_ rest_ vs92 hm hs ht
                        replace hs : St _ _ _ (feet []) [] _ _ := hs
                        have hm0 := hm.mid
                        have t7 := ht 7 (twB_spec 33 _ (by kernel_rfl))
                        have e7 : _ = some (vs92 7) := t7.val rfl
                        rw [show vs92 7 = .bool (false) from t7.2.1] at e7
                        replace hs := hs.learn e7
                        have hs0 := hs.bare
                        refine st_guardT hs rfl rfl rfl ?_
                        refine st_mv hs rfl rfl ?_; clear hs; intro a w hs
                        exact wpList_nil ⟨rfl, _, _, hs0, (.c .r), hs, rfl⟩
                      · intro a_ w_ R_ rest_ vs92 hm hs ht
                        replace hs : St _ _ _ (feet []) [] _ _ := hs
                        have hm0 := hm.mid
                        have t7 := ht 7 (twB_spec 33 _ (by kernel_rfl))
                        have e7 : _ = some (vs92 7) := t7.val rfl
                        rw [show vs92 7 = .bool (false) from t7.2.1] at e7
                        replace hs := hs.learn e7
                        have t10 := ht 10 (twB_spec 33 _ (by kernel_rfl))
                        have e10 : _ = some (vs92 10) := t10.val rfl
                        rw [show vs92 10 = .pointer (some ⟨g21, 0, none⟩) from t10.2.1] at e10
                        replace hs := hs.learn e10
                        have hs0 := hs.bare
                        refine st_guardT hs rfl rfl rfl ?_
                        refine st_nc hs rfl rfl ?_; clear hs; intro a w hs
                        exact wpList_nil ⟨rfl, _, _, hs0, (.c (.c .r)), hs, rfl⟩
                      · intro a_ w_ R_ rest_ vs92 hm hs ht
                        replace hs : St _ _ _ (feet []) [] _ _ := hs
                        have hm0 := hm.mid
                        have t7 := ht 7 (twB_spec 33 _ (by kernel_rfl))
                        have e7 : _ = some (vs92 7) := t7.val rfl
                        rw [show vs92 7 = .bool (false) from t7.2.1] at e7
                        replace hs := hs.learn e7
                        have t11 := ht 11 (twB_spec 33 _ (by kernel_rfl))
                        have e11 : _ = some (vs92 11) := t11.val rfl
                        rw [show vs92 11 = .pointer (some ⟨g21, 0, none⟩) from t11.2.1] at e11
                        replace hs := hs.learn e11
                        have hs0 := hs.bare
                        refine st_guardT hs rfl rfl rfl ?_
                        refine st_fa hs rfl Try.underlying66 rfl Try.sizeOf3 (by decide) (o := 1) rfl rfl ?_; clear hs; intro a w hs
                        exact wpList_nil ⟨rfl, _, _, hs0, (.c (.c .r)), hs, rfl⟩
                      · intro a_ w_ R_ rest_ vs92 hm hs ht
                        replace hs : St _ _ _ (feet []) [] _ _ := hs
                        have hm0 := hm.mid
                        have t7 := ht 7 (twB_spec 33 _ (by kernel_rfl))
                        have e7 : _ = some (vs92 7) := t7.val rfl
                        rw [show vs92 7 = .bool (false) from t7.2.1] at e7
                        replace hs := hs.learn e7
                        have t12 := ht 12 (twB_spec 33 _ (by kernel_rfl))
                        have e12 : _ = some (vs92 12) := t12.val rfl
                        rw [show vs92 12 = .pointer (some ⟨g21, 1, none⟩) from t12.2.1] at e12
                        replace hs := hs.learn e12
                        have hs0 := hs.bare
                        refine st_guardT hs rfl rfl rfl ?_
                        refine st_ldE hs rfl (hm0.del .z) (.s .z) Try.isAgg3 rfl ?_; clear hs; intro a w hs
                        exact wpList_nil ⟨rfl, _, _, hs0, (.c (.c .r)), hs, rfl⟩
                      · intro a_ w_ R_ rest_ vs92 hm hs ht
                        replace hs : St _ _ _ (feet []) [] _ _ := hs
                        have hm0 := hm.mid
                        have t7 := ht 7 (twB_spec 33 _ (by kernel_rfl))
                        have e7 : _ = some (vs92 7) := t7.val rfl
                        rw [show vs92 7 = .bool (false) from t7.2.1] at e7
                        replace hs := hs.learn e7
                        have t9 := ht 9 (twB_spec 33 _ (by kernel_rfl))
                        have e9 : _ = some (vs92 9) := t9.val rfl
                        rw [show vs92 9 = .int .i64 ((((((rFail ((((l.getD j default).e) % (18#8)).toNat) R))).p : Nat) : Int)) from t9.2.1] at e9
                        replace hs := hs.learn e9
                        have t13 := ht 13 (twB_spec 33 _ (by kernel_rfl))
                        have e13 : _ = some (vs92 13) := t13.val rfl
                        rw [show vs92 13 = .int .i64 (((((rFail ((((l.getD j default).e) % (18#8)).toNat) R)).p : Nat) : Int)) from t13.2.1] at e13
                        replace hs := hs.learn e13
                        have hs0 := hs.bare
                        refine st_guardT hs rfl rfl rfl ?_
                        refine st_neq hs rfl rfl rfl ?_; clear hs; intro a w hs
                        have hb_ : (!(((((((rFail ((((l.getD j default).e) % (18#8)).toNat) R))).p : Nat) : Int) : Int) == (((((rFail ((((l.getD j default).e) % (18#8)).toNat) R)).p : Nat) : Int)))) = false := by first | decide | (simp; done) | (simp; omega)
                        rw [hb_] at hs; clear hb_
                        exact wpList_nil ⟨rfl, _, _, hs0, (.c (.c (.c .r))), hs, rfl⟩
                      · intro a_ w_ R_ rest_ vs92 hm hs ht
                        replace hs : St _ _ _ (feet []) [] _ _ := hs
                        have hm0 := hm.mid
                        have t7 := ht 7 (twB_spec 33 _ (by kernel_rfl))
                        have e7 : _ = some (vs92 7) := t7.val rfl
                        rw [show vs92 7 = .bool (false) from t7.2.1] at e7
                        replace hs := hs.learn e7
                        have t14 := ht 14 (twB_spec 33 _ (by kernel_rfl))
                        have e14 : _ = some (vs92 14) := t14.val rfl
                        rw [show vs92 14 = .bool (false) from t14.2.1] at e14
                        replace hs := hs.learn e14
                        have hs0 := hs.bare
                        refine st_pickF hs rfl rfl rfl ?_; clear hs; intro a w hs
                        exact wpList_nil ⟨rfl, _, _, hs0, (.c (.c .r)), hs, rfl⟩
                      · intro a_ w_ R_ rest_ vs92 hm hs ht
                        replace hs : St _ _ _ (feet []) [] _ _ := hs
                        have hm0 := hm.mid
                        have t15 := ht 15 (twB_spec 33 _ (by kernel_rfl))
                        have e15 : _ = some (vs92 15) := t15.val rfl
                        rw [show vs92 15 = .bool (false) from t15.2.1] at e15
                        replace hs := hs.learn e15
                        have hs0 := hs.bare
                        refine st_mv hs rfl rfl ?_; clear hs; intro a w hs
                        exact wpList_nil ⟨rfl, _, _, hs0, (.c .r), hs, rfl⟩
                      · intro a_ w_ R_ rest_ vs92 hm hs ht
                        replace hs : St _ _ _ (feet []) [] _ _ := hs
                        have hm0 := hm.mid
                        have t16 := ht 16 (twB_spec 33 _ (by kernel_rfl))
                        have e16 : _ = some (vs92 16) := t16.val rfl
                        rw [show vs92 16 = .bool (false) from t16.2.1] at e16
                        replace hs := hs.learn e16
                        have hs0 := hs.bare
                        refine st_guardT hs rfl rfl rfl ?_
                        refine st_mv hs rfl rfl ?_; clear hs; intro a w hs
                        exact wpList_nil ⟨rfl, _, _, hs0, (.c .r), hs, rfl⟩
                      · intro a_ w_ R_ rest_ vs92 hm hs ht
                        replace hs : St _ _ _ (feet []) [] _ _ := hs
                        have hm0 := hm.mid
                        have t16 := ht 16 (twB_spec 33 _ (by kernel_rfl))
                        have e16 : _ = some (vs92 16) := t16.val rfl
                        rw [show vs92 16 = .bool (false) from t16.2.1] at e16
                        replace hs := hs.learn e16
                        have t17 := ht 17 (twB_spec 33 _ (by kernel_rfl))
                        have e17 : _ = some (vs92 17) := t17.val rfl
                        rw [show vs92 17 = .pointer (some ⟨g5, 0, none⟩) from t17.2.1] at e17
                        replace hs := hs.learn e17
                        have hs0 := hs.bare
                        refine st_guardT hs rfl rfl rfl ?_
                        refine st_callP (v := .int .i64 ((((bs.length - (((rFail ((((l.getD j default).e) % (18#8)).toNat) R))).p) : Nat) : Int))) hs (.c rfl .n) Try.call45 (rleft_ok g5 _ _ bs (((rFail ((((l.getD j default).e) % (18#8)).toNat) R))) _ (hm.rd0 hb) (hm0.del (.s .z)) (by omega)) rfl ?_; clear hs; intro a w hs
                        exact wpList_nil ⟨rfl, _, _, hs0, (.c (.c .r)), hs, rfl⟩
                      · intro a_ w_ R_ rest_ vs92 hm hs ht
                        replace hs : St _ _ _ (feet []) [] _ _ := hs
                        have hm0 := hm.mid
                        have t16 := ht 16 (twB_spec 33 _ (by kernel_rfl))
                        have e16 : _ = some (vs92 16) := t16.val rfl
                        rw [show vs92 16 = .bool (false) from t16.2.1] at e16
                        replace hs := hs.learn e16
                        have hs0 := hs.bare
                        refine st_guardT hs rfl rfl rfl ?_
                        refine st_mv hs rfl rfl ?_; clear hs; intro a w hs
                        exact wpList_nil ⟨rfl, _, _, hs0, (.c .r), hs, rfl⟩
                      · intro a_ w_ R_ rest_ vs92 hm hs ht
                        replace hs : St _ _ _ (feet []) [] _ _ := hs
                        have hm0 := hm.mid
                        have t16 := ht 16 (twB_spec 33 _ (by kernel_rfl))
                        have e16 : _ = some (vs92 16) := t16.val rfl
                        rw [show vs92 16 = .bool (false) from t16.2.1] at e16
                        replace hs := hs.learn e16
                        have t19 := ht 19 (twB_spec 33 _ (by kernel_rfl))
                        have e19 : _ = some (vs92 19) := t19.val rfl
                        rw [show vs92 19 = .pointer (some ⟨g21, 0, none⟩) from t19.2.1] at e19
                        replace hs := hs.learn e19
                        have hs0 := hs.bare
                        refine st_guardT hs rfl rfl rfl ?_
                        refine st_nc hs rfl rfl ?_; clear hs; intro a w hs
                        exact wpList_nil ⟨rfl, _, _, hs0, (.c (.c .r)), hs, rfl⟩
                      · intro a_ w_ R_ rest_ vs92 hm hs ht
                        replace hs : St _ _ _ (feet []) [] _ _ := hs
                        have hm0 := hm.mid
                        have t16 := ht 16 (twB_spec 33 _ (by kernel_rfl))
                        have e16 : _ = some (vs92 16) := t16.val rfl
                        rw [show vs92 16 = .bool (false) from t16.2.1] at e16
                        replace hs := hs.learn e16
                        have t20 := ht 20 (twB_spec 33 _ (by kernel_rfl))
                        have e20 : _ = some (vs92 20) := t20.val rfl
                        rw [show vs92 20 = .pointer (some ⟨g21, 0, none⟩) from t20.2.1] at e20
                        replace hs := hs.learn e20
                        have hs0 := hs.bare
                        refine st_guardT hs rfl rfl rfl ?_
                        refine st_fa hs rfl Try.underlying66 rfl Try.sizeOf22 (by decide) (o := 0) rfl rfl ?_; clear hs; intro a w hs
                        exact wpList_nil ⟨rfl, _, _, hs0, (.c (.c .r)), hs, rfl⟩
                      · intro a_ w_ R_ rest_ vs92 hm hs ht
                        replace hs : St _ _ _ (feet []) [] _ _ := hs
                        have hm0 := hm.mid
                        have t16 := ht 16 (twB_spec 33 _ (by kernel_rfl))
                        have e16 : _ = some (vs92 16) := t16.val rfl
                        rw [show vs92 16 = .bool (false) from t16.2.1] at e16
                        replace hs := hs.learn e16
                        have t21 := ht 21 (twB_spec 33 _ (by kernel_rfl))
                        have e21 : _ = some (vs92 21) := t21.val rfl
                        rw [show vs92 21 = .pointer (some ⟨g21, 0, none⟩) from t21.2.1] at e21
                        replace hs := hs.learn e21
                        have hs0 := hs.bare
                        refine st_guardT hs rfl rfl rfl ?_
                        refine st_ldE hs rfl (hm0.del .z) .z Try.isAgg22 rfl ?_; clear hs; intro a w hs
                        exact wpList_nil ⟨rfl, _, _, hs0, (.c (.c .r)), hs, rfl⟩
                      · intro a_ w_ R_ rest_ vs92 hm hs ht
                        replace hs : St _ _ _ (feet []) [] _ _ := hs
                        have hm0 := hm.mid
                        have t16 := ht 16 (twB_spec 33 _ (by kernel_rfl))
                        have e16 : _ = some (vs92 16) := t16.val rfl
                        rw [show vs92 16 = .bool (false) from t16.2.1] at e16
                        replace hs := hs.learn e16
                        have t22 := ht 22 (twB_spec 33 _ (by kernel_rfl))
                        have e22 : _ = some (vs92 22) := t22.val rfl
                        rw [show vs92 22 = (id u1) from t22.2.1] at e22
                        replace hs := hs.learn e22
                        have hs0 := hs.bare
                        refine st_guardT hs rfl rfl rfl ?_
                        refine st_len hs rfl ((fail_tr (bs := bs) (R := R) (e := ((((l.getD j default).e) % (18#8)).toNat))) _ _ (hI1_2 _ _ (hm.rd0 hb))).isSl Try.underlying22 rfl ?_; clear hs; intro a w hs
                        exact wpList_nil ⟨rfl, _, _, hs0, (.c (.c .r)), hs, rfl⟩
                      · intro a_ w_ R_ rest_ vs92 hm hs ht
                        replace hs : St _ _ _ (feet []) [] _ _ := hs
                        have hm0 := hm.mid
                        have t16 := ht 16 (twB_spec 33 _ (by kernel_rfl))
                        have e16 : _ = some (vs92 16) := t16.val rfl
                        rw [show vs92 16 = .bool (false) from t16.2.1] at e16
                        replace hs := hs.learn e16
                        have t18 := ht 18 (twB_spec 33 _ (by kernel_rfl))
                        have e18 : _ = some (vs92 18) := t18.val rfl
                        rw [show vs92 18 = .int .i64 ((((bs.length - (((rFail ((((l.getD j default).e) % (18#8)).toNat) R))).p) : Nat) : Int)) from t18.2.1] at e18
                        replace hs := hs.learn e18
                        have t23 := ht 23 (twB_spec 33 _ (by kernel_rfl))
                        have e23 : _ = some (vs92 23) := t23.val rfl
                        rw [show vs92 23 = .int .i64 ((((bs.length - ((rFail ((((l.getD j default).e) % (18#8)).toNat) R)).p) : Nat) : Int)) from t23.2.1] at e23
                        replace hs := hs.learn e23
                        have hs0 := hs.bare
                        refine st_guardT hs rfl rfl rfl ?_
                        refine st_neq hs rfl rfl rfl ?_; clear hs; intro a w hs
                        have hb_ : (!(((((bs.length - (((rFail ((((l.getD j default).e) % (18#8)).toNat) R))).p) : Nat) : Int) : Int) == ((((bs.length - ((rFail ((((l.getD j default).e) % (18#8)).toNat) R)).p) : Nat) : Int)))) = false := by first | decide | (simp; done) | (simp; omega)
                        rw [hb_] at hs; clear hb_
                        exact wpList_nil ⟨rfl, _, _, hs0, (.c (.c (.c .r))), hs, rfl⟩
                      · intro a_ w_ R_ rest_ vs92 hm hs ht
                        replace hs : St _ _ _ (feet []) [] _ _ := hs
                        have hm0 := hm.mid
                        have t16 := ht 16 (twB_spec 33 _ (by kernel_rfl))
                        have e16 : _ = some (vs92 16) := t16.val rfl
                        rw [show vs92 16 = .bool (false) from t16.2.1] at e16
                        replace hs := hs.learn e16
                        have t24 := ht 24 (twB_spec 33 _ (by kernel_rfl))
                        have e24 : _ = some (vs92 24) := t24.val rfl
                        rw [show vs92 24 = .bool (false) from t24.2.1] at e24
                        replace hs := hs.learn e24
                        have hs0 := hs.bare
                        refine st_pickF hs rfl rfl rfl ?_; clear hs; intro a w hs
                        exact wpList_nil ⟨rfl, _, _, hs0, (.c (.c .r)), hs, rfl⟩
                      · intro a_ w_ R_ rest_ vs92 hm hs ht
                        replace hs : St _ _ _ (feet []) [] _ _ := hs
                        have hm0 := hm.mid
                        have t25 := ht 25 (twB_spec 33 _ (by kernel_rfl))
                        have e25 : _ = some (vs92 25) := t25.val rfl
                        rw [show vs92 25 = .bool (false) from t25.2.1] at e25
                        replace hs := hs.learn e25
                        have hs0 := hs.bare
                        refine st_mv hs rfl rfl ?_; clear hs; intro a w hs
                        exact wpList_nil ⟨rfl, _, _, hs0, (.c .r), hs, rfl⟩
                      · intro a_ w_ R_ rest_ vs92 hm hs ht
                        replace hs : St _ _ _ (feet []) [] _ _ := hs
                        have hm0 := hm.mid
                        have t26 := ht 26 (twB_spec 33 _ (by kernel_rfl))
                        have e26 : _ = some (vs92 26) := t26.val rfl
                        rw [show vs92 26 = .bool (false) from t26.2.1] at e26
                        replace hs := hs.learn e26
                        have hs0 := hs.bare
                        refine st_guardT hs rfl rfl rfl ?_
                        refine st_mv hs rfl rfl ?_; clear hs; intro a w hs
                        exact wpList_nil ⟨rfl, _, _, hs0, (.c .r), hs, rfl⟩
                      · intro a_ w_ R_ rest_ vs92 hm hs ht
                        replace hs : St _ _ _ (feet []) [] _ _ := hs
                        have hm0 := hm.mid
                        have t26 := ht 26 (twB_spec 33 _ (by kernel_rfl))
                        have e26 : _ = some (vs92 26) := t26.val rfl
                        rw [show vs92 26 = .bool (false) from t26.2.1] at e26
                        replace hs := hs.learn e26
                        have t27 := ht 27 (twB_spec 33 _ (by kernel_rfl))
                        have e27 : _ = some (vs92 27) := t27.val rfl
                        rw [show vs92 27 = .pointer (some ⟨g5, 0, none⟩) from t27.2.1] at e27
                        replace hs := hs.learn e27
                        have hs0 := hs.bare
                        refine st_guardT hs rfl rfl rfl ?_
                        refine st_callP (v := .int .i64 ((((rDone bs (((rFail ((((l.getD j default).e) % (18#8)).toNat) R)))) : Nat) : Int))) hs (.c rfl .n) Try.call46 (rdone_ok g5 _ _ bs (((rFail ((((l.getD j default).e) % (18#8)).toNat) R))) _ (hm.rd0 hb) (hm0.del (.s .z)) (by omega)) rfl ?_; clear hs; intro a w hs
                        exact wpList_nil ⟨rfl, _, _, hs0, (.c (.c .r)), hs, rfl⟩
                      · intro a_ w_ R_ rest_ vs92 hm hs ht
                        replace hs : St _ _ _ (feet []) [] _ _ := hs
                        have hm0 := hm.mid
                        have t26 := ht 26 (twB_spec 33 _ (by kernel_rfl))
                        have e26 : _ = some (vs92 26) := t26.val rfl
                        rw [show vs92 26 = .bool (false) from t26.2.1] at e26
                        replace hs := hs.learn e26
                        have hs0 := hs.bare
                        refine st_guardT hs rfl rfl rfl ?_
                        refine st_mv hs rfl rfl ?_; clear hs; intro a w hs
                        exact wpList_nil ⟨rfl, _, _, hs0, (.c .r), hs, rfl⟩
                      · intro a_ w_ R_ rest_ vs92 hm hs ht
                        replace hs : St _ _ _ (feet []) [] _ _ := hs
                        have hm0 := hm.mid
                        have t26 := ht 26 (twB_spec 33 _ (by kernel_rfl))
                        have e26 : _ = some (vs92 26) := t26.val rfl
                        rw [show vs92 26 = .bool (false) from t26.2.1] at e26
                        replace hs := hs.learn e26
                        have t29 := ht 29 (twB_spec 33 _ (by kernel_rfl))
                        have e29 : _ = some (vs92 29) := t29.val rfl
                        rw [show vs92 29 = .pointer (some ⟨g21, 0, none⟩) from t29.2.1] at e29
                        replace hs := hs.learn e29
                        have hs0 := hs.bare
                        refine st_guardT hs rfl rfl rfl ?_
                        refine st_callP (v := .int .i64 ((((rDone bs (((rFail ((((l.getD j default).e) % (18#8)).toNat) R)))) : Nat) : Int))) hs (.c rfl .n) Try.call54 (mdone_ok g21 _ bs (((rFail ((((l.getD j default).e) % (18#8)).toNat) R))) _ ((fail_tr (bs := bs) (R := R) (e := ((((l.getD j default).e) % (18#8)).toNat))) _ _ (hI1_2 _ _ (hm.rd0 hb))) (hm0.del .z) (by omega) (by simp only [maxLen]; omega)) rfl ?_; clear hs; intro a w hs
                        exact wpList_nil ⟨rfl, _, _, hs0, (.c (.c .r)), hs, rfl⟩
                      · intro a_ w_ R_ rest_ vs92 hm hs ht
                        replace hs : St _ _ _ (feet []) [] _ _ := hs
                        have hm0 := hm.mid
                        have t26 := ht 26 (twB_spec 33 _ (by kernel_rfl))
                        have e26 : _ = some (vs92 26) := t26.val rfl
                        rw [show vs92 26 = .bool (false) from t26.2.1] at e26
                        replace hs := hs.learn e26
                        have t28 := ht 28 (twB_spec 33 _ (by kernel_rfl))
                        have e28 : _ = some (vs92 28) := t28.val rfl
                        rw [show vs92 28 = .int .i64 ((((rDone bs (((rFail ((((l.getD j default).e) % (18#8)).toNat) R)))) : Nat) : Int)) from t28.2.1] at e28
                        replace hs := hs.learn e28
                        have t30 := ht 30 (twB_spec 33 _ (by kernel_rfl))
                        have e30 : _ = some (vs92 30) := t30.val rfl
                        rw [show vs92 30 = .int .i64 ((((rDone bs (((rFail ((((l.getD j default).e) % (18#8)).toNat) R)))) : Nat) : Int)) from t30.2.1] at e30
                        replace hs := hs.learn e30
                        have hs0 := hs.bare
                        refine st_guardT hs rfl rfl rfl ?_
                        refine st_neq hs rfl rfl rfl ?_; clear hs; intro a w hs
                        have hb_ : (!(((((rDone bs (((rFail ((((l.getD j default).e) % (18#8)).toNat) R)))) : Nat) : Int) : Int) == ((((rDone bs (((rFail ((((l.getD j default).e) % (18#8)).toNat) R)))) : Nat) : Int)))) = false := by first | decide | (simp; done) | (simp; omega)
                        rw [hb_] at hs; clear hb_
                        exact wpList_nil ⟨rfl, _, _, hs0, (.c (.c (.c .r))), hs, rfl⟩
                      · intro a_ w_ R_ rest_ vs92 hm hs ht
                        replace hs : St _ _ _ (feet []) [] _ _ := hs
                        have hm0 := hm.mid
                        have t26 := ht 26 (twB_spec 33 _ (by kernel_rfl))
                        have e26 : _ = some (vs92 26) := t26.val rfl
                        rw [show vs92 26 = .bool (false) from t26.2.1] at e26
                        replace hs := hs.learn e26
                        have t31 := ht 31 (twB_spec 33 _ (by kernel_rfl))
                        have e31 : _ = some (vs92 31) := t31.val rfl
                        rw [show vs92 31 = .bool (false) from t31.2.1] at e31
                        replace hs := hs.learn e31
                        have hs0 := hs.bare
                        refine st_pickF hs rfl rfl rfl ?_; clear hs; intro a w hs
                        exact wpList_nil ⟨rfl, _, _, hs0, (.c (.c .r)), hs, rfl⟩
                    · clear hs w a; intro a w vs92 hs hf
                      replace hs : St _ _ _ _ [blk g21 [(id u1), .int .i64 (((((rFail ((((l.getD j default).e) % (18#8)).toNat) R)).p : Nat) : Int)), .int .i64 (((((rFail ((((l.getD j default).e) % (18#8)).toNat) R)).e : Nat) : Int))] 66, blk g5 [v, .int .i64 (((((rFail ((((l.getD j default).e) % (18#8)).toNat) R)).p : Nat) : Int)), .int .i64 (((((rFail ((((l.getD j default).e) % (18#8)).toNat) R)).e : Nat) : Int))] 76, blk g35 [.int .i64 ((l.getD j default).k), .int .u64 (((((l.getD j default).m).toNat : Nat) : Int)), .int .u8 (((((l.getD j default).e).toNat : Nat) : Int))] 55] _ _ := hs
                      obtain ⟨e32, q32⟩ := hf 32 (by decide)
                      replace e32 : _ = some (vs92 32) := e32.val rfl
                      rw [show vs92 32 = .bool (false) from q32] at e32
                      replace hs := hs.learn e32; clear e32 q32
                      clear hf
                      refine then_n (hK91 _ _ ?_)
                      refine wp_cond_false (hs.ev rfl) ?_
                      refine wp_skip ?_
                      refine in_n ?_
                      refine then_n (hK32 _ _ ?_)
                      refine wp_region_lit ?_
                      refine st_addR hs rfl rfl (by omega) rfl ?_; clear hs w a; intro a w hs
                      refine st_mv hs rfl rfl ?_; clear hs w a; intro a w hs
                      refine wpList_nil ?_
                      refine then_n ?_
                      replace hs := hs.drop (.c (.s (.s .z)) .n)
                      replace hs := hs.reorder (.c (.s .z) (.c .z .n))
                      refine ⟨_, ?_, j + 1, ((rFail ((((l.getD j default).e) % (18#8)).toNat) R)), (id u1), rfl, hs.sub (.c rfl (.c rfl (.c rfl (.c rfl (.c rfl (.c rfl .n)))))), by omega, by omega, (fun w T h => (fail_tr (bs := bs) (R := R) (e := ((((l.getD j default).e) % (18#8)).toNat))) w T (hI1_2 w T h))⟩
                      omega
                  ·
                    replace hc85 := ne_of_beq_f hc85
                    refine wp_skip ?_
                    refine in_n ?_
                    refine then_n (hK37 _ _ ?_)
                    refine wp_seq_k fun K93 hK94 => ?_
                    replace hs := hs.sub (F' := [(71, .bool (((l.getD j default).k : Int) == 4)), (72, .bool (((l.getD j default).k : Int) == 4)), (64, .bool (((l.getD j default).k : Int) == 3)), (65, .bool (((l.getD j default).k : Int) == 3)), (57, .bool (((l.getD j default).k : Int) == 2)), (58, .bool (((l.getD j default).k : Int) == 2)), (46, .bool (((l.getD j default).k : Int) == 1)), (47, .bool (((l.getD j default).k : Int) == 1)), (39, .bool (((l.getD j default).k : Int) == 0)), (40, .bool (((l.getD j default).k : Int) == 0)), (38, .int .i64 ((l.getD j default).k)), (37, .pointer (some ⟨g35, 0, none⟩)), (8, .pointer (some ⟨g35, 0, none⟩)), (36, .agg #[.int .i64 ((l.getD j default).k), .int .u64 (((((l.getD j default).m).toNat : Nat) : Int)), .int .u8 (((((l.getD j default).e).toNat : Nat) : Int))]), (35, .pointer (some (adr u (j * 3)))), (34, .bool (decide ((j : Int) < (m2 : Int)))), (0, v), (5, .pointer (some ⟨g5, 0, none⟩)), (6, .pointer (some ⟨g21, 0, none⟩)), (31, u), (32, .int .i64 ((m2 : Int))), (33, .int .i64 ((j : Int)))]) (.c rfl (.c rfl (.c rfl (.c rfl (.c rfl (.c rfl (.c rfl (.c rfl (.c rfl (.c rfl (.c rfl (.c rfl (.c rfl (.c rfl (.c rfl (.c rfl (.c rfl (.c rfl (.c rfl (.c rfl (.c rfl (.c rfl .n))))))))))))))))))))))
                    refine wp_drawG (M0 := [blk g35 [.int .i64 ((l.getD j default).k), .int .u64 (((((l.getD j default).m).toNat : Nat) : Int)), .int .u8 (((((l.getD j default).e).toNat : Nat) : Int))] 55, blk g5 [v, .int .i64 (((R.p : Nat) : Int)), .int .i64 (((R.e : Nat) : Int))] 76, blk g21 [u1, .int .i64 (((R.p : Nat) : Int)), .int .i64 (((R.e : Nat) : Int))] 66]) (Ds := [⟨[], [], [], fun vs95 => vs95 0 = .pointer (some ⟨g5, 0, none⟩), fun vs95 => []⟩, ⟨[], [], [], fun vs95 => vs95 1 = .int .i64 (((R.e : Nat) : Int)), fun vs95 => []⟩, ⟨[], [], [], fun vs95 => vs95 2 = .pointer (some ⟨g21, 0, none⟩), fun vs95 => []⟩, ⟨[], [], [], fun vs95 => vs95 3 = .pointer (some ⟨g21, 0, none⟩), fun vs95 => []⟩, ⟨[], [], [], fun vs95 => vs95 4 = .pointer (some ⟨g21, 2, none⟩), fun vs95 => []⟩, ⟨[], [], [], fun vs95 => vs95 5 = .int .i64 (((R.e : Nat) : Int)), fun vs95 => []⟩, ⟨[], [], [], fun vs95 => vs95 6 = .bool (false), fun vs95 => []⟩, ⟨[], [], [], fun vs95 => vs95 7 = .bool (false), fun vs95 => []⟩, ⟨[], [], [], fun vs95 => vs95 8 = .pointer (some ⟨g5, 0, none⟩), fun vs95 => []⟩, ⟨[], [], [], fun vs95 => vs95 9 = .int .i64 (((R.p : Nat) : Int)), fun vs95 => []⟩, ⟨[], [], [], fun vs95 => vs95 10 = .pointer (some ⟨g21, 0, none⟩), fun vs95 => []⟩, ⟨[], [], [], fun vs95 => vs95 11 = .pointer (some ⟨g21, 0, none⟩), fun vs95 => []⟩, ⟨[], [], [], fun vs95 => vs95 12 = .pointer (some ⟨g21, 1, none⟩), fun vs95 => []⟩, ⟨[], [], [], fun vs95 => vs95 13 = .int .i64 (((R.p : Nat) : Int)), fun vs95 => []⟩, ⟨[], [], [], fun vs95 => vs95 14 = .bool (false), fun vs95 => []⟩, ⟨[], [], [], fun vs95 => vs95 15 = .bool (false), fun vs95 => []⟩, ⟨[], [], [], fun vs95 => vs95 16 = .bool (false), fun vs95 => []⟩, ⟨[], [], [], fun vs95 => vs95 17 = .pointer (some ⟨g5, 0, none⟩), fun vs95 => []⟩, ⟨[], [], [], fun vs95 => vs95 18 = .int .i64 ((((bs.length - R.p) : Nat) : Int)), fun vs95 => []⟩, ⟨[], [], [], fun vs95 => vs95 19 = .pointer (some ⟨g21, 0, none⟩), fun vs95 => []⟩, ⟨[], [], [], fun vs95 => vs95 20 = .pointer (some ⟨g21, 0, none⟩), fun vs95 => []⟩, ⟨[], [], [], fun vs95 => vs95 21 = .pointer (some ⟨g21, 0, none⟩), fun vs95 => []⟩, ⟨[], [], [], fun vs95 => vs95 22 = u1, fun vs95 => []⟩, ⟨[], [], [], fun vs95 => vs95 23 = .int .i64 ((((bs.length - R.p) : Nat) : Int)), fun vs95 => []⟩, ⟨[], [], [], fun vs95 => vs95 24 = .bool (false), fun vs95 => []⟩, ⟨[], [], [], fun vs95 => vs95 25 = .bool (false), fun vs95 => []⟩, ⟨[], [], [], fun vs95 => vs95 26 = .bool (false), fun vs95 => []⟩, ⟨[], [], [], fun vs95 => vs95 27 = .pointer (some ⟨g5, 0, none⟩), fun vs95 => []⟩, ⟨[], [], [], fun vs95 => vs95 28 = .int .i64 ((((rDone bs R) : Nat) : Int)), fun vs95 => []⟩, ⟨[], [], [], fun vs95 => vs95 29 = .pointer (some ⟨g21, 0, none⟩), fun vs95 => []⟩, ⟨[], [], [], fun vs95 => vs95 30 = .int .i64 ((((rDone bs R) : Nat) : Int)), fun vs95 => []⟩, ⟨[], [], [], fun vs95 => vs95 31 = .bool (false), fun vs95 => []⟩, ⟨[], [], [], fun vs95 => vs95 32 = .bool (false), fun vs95 => []⟩]) (by kernel_rfl) hs rfl .n (by kernel_rfl) (by kernel_rfl) ?_ ?_
                    · refine (.c ?_ (.c ?_ (.c ?_ (.c ?_ (.c ?_ (.c ?_ (.c ?_ (.c ?_ (.c ?_ (.c ?_ (.c ?_ (.c ?_ (.c ?_ (.c ?_ (.c ?_ (.c ?_ (.c ?_ (.c ?_ (.c ?_ (.c ?_ (.c ?_ (.c ?_ (.c ?_ (.c ?_ (.c ?_ (.c ?_ (.c ?_ (.c ?_ (.c ?_ (.c ?_ (.c ?_ (.c ?_ (.c ?_ .n)))))))))))))))))))))))))))))))))
                      · intro a_ w_ R_ rest_ vs95 hm hs ht
                        replace hs : St _ _ _ (feet []) [] _ _ := hs
                        have hm0 := hm.mid
                        have hs0 := hs.bare
                        refine st_mv hs rfl rfl ?_; clear hs; intro a w hs
                        exact wpList_nil ⟨rfl, _, _, hs0, .r, hs, rfl⟩
                      · intro a_ w_ R_ rest_ vs95 hm hs ht
                        replace hs : St _ _ _ (feet []) [] _ _ := hs
                        have hm0 := hm.mid
                        have t0 := ht 0 (twB_spec 33 _ (by kernel_rfl))
                        have e0 : _ = some (vs95 0) := t0.val rfl
                        rw [show vs95 0 = .pointer (some ⟨g5, 0, none⟩) from t0.2.1] at e0
                        replace hs := hs.learn e0
                        have hs0 := hs.bare
                        refine st_callP (v := .int .i64 (((R.e : Nat) : Int))) hs (.c rfl .n) Try.call47 (rerr_ok g5 _ _ bs R _ (hm.rd0 hb) (hm0.del (.s .z)) (by omega)) rfl ?_; clear hs; intro a w hs
                        exact wpList_nil ⟨rfl, _, _, hs0, (.c .r), hs, rfl⟩
                      · intro a_ w_ R_ rest_ vs95 hm hs ht
                        replace hs : St _ _ _ (feet []) [] _ _ := hs
                        have hm0 := hm.mid
                        have hs0 := hs.bare
                        refine st_mv hs rfl rfl ?_; clear hs; intro a w hs
                        exact wpList_nil ⟨rfl, _, _, hs0, .r, hs, rfl⟩
                      · intro a_ w_ R_ rest_ vs95 hm hs ht
                        replace hs : St _ _ _ (feet []) [] _ _ := hs
                        have hm0 := hm.mid
                        have t2 := ht 2 (twB_spec 33 _ (by kernel_rfl))
                        have e2 : _ = some (vs95 2) := t2.val rfl
                        rw [show vs95 2 = .pointer (some ⟨g21, 0, none⟩) from t2.2.1] at e2
                        replace hs := hs.learn e2
                        have hs0 := hs.bare
                        refine st_nc hs rfl rfl ?_; clear hs; intro a w hs
                        exact wpList_nil ⟨rfl, _, _, hs0, (.c .r), hs, rfl⟩
                      · intro a_ w_ R_ rest_ vs95 hm hs ht
                        replace hs : St _ _ _ (feet []) [] _ _ := hs
                        have hm0 := hm.mid
                        have t3 := ht 3 (twB_spec 33 _ (by kernel_rfl))
                        have e3 : _ = some (vs95 3) := t3.val rfl
                        rw [show vs95 3 = .pointer (some ⟨g21, 0, none⟩) from t3.2.1] at e3
                        replace hs := hs.learn e3
                        have hs0 := hs.bare
                        refine st_fa hs rfl Try.underlying66 rfl Try.sizeOf3 (by decide) (o := 2) rfl rfl ?_; clear hs; intro a w hs
                        exact wpList_nil ⟨rfl, _, _, hs0, (.c .r), hs, rfl⟩
                      · intro a_ w_ R_ rest_ vs95 hm hs ht
                        replace hs : St _ _ _ (feet []) [] _ _ := hs
                        have hm0 := hm.mid
                        have t4 := ht 4 (twB_spec 33 _ (by kernel_rfl))
                        have e4 : _ = some (vs95 4) := t4.val rfl
                        rw [show vs95 4 = .pointer (some ⟨g21, 2, none⟩) from t4.2.1] at e4
                        replace hs := hs.learn e4
                        have hs0 := hs.bare
                        refine st_ldE hs rfl (hm0.del (.s (.s .z))) (.s (.s .z)) Try.isAgg3 rfl ?_; clear hs; intro a w hs
                        exact wpList_nil ⟨rfl, _, _, hs0, (.c .r), hs, rfl⟩
                      · intro a_ w_ R_ rest_ vs95 hm hs ht
                        replace hs : St _ _ _ (feet []) [] _ _ := hs
                        have hm0 := hm.mid
                        have t1 := ht 1 (twB_spec 33 _ (by kernel_rfl))
                        have e1 : _ = some (vs95 1) := t1.val rfl
                        rw [show vs95 1 = .int .i64 (((R.e : Nat) : Int)) from t1.2.1] at e1
                        replace hs := hs.learn e1
                        have t5 := ht 5 (twB_spec 33 _ (by kernel_rfl))
                        have e5 : _ = some (vs95 5) := t5.val rfl
                        rw [show vs95 5 = .int .i64 (((R.e : Nat) : Int)) from t5.2.1] at e5
                        replace hs := hs.learn e5
                        have hs0 := hs.bare
                        refine st_neq hs rfl rfl rfl ?_; clear hs; intro a w hs
                        have hb_ : (!((((R.e : Nat) : Int) : Int) == (((R.e : Nat) : Int)))) = false := by first | decide | (simp; done) | (simp; omega)
                        rw [hb_] at hs; clear hb_
                        exact wpList_nil ⟨rfl, _, _, hs0, (.c (.c .r)), hs, rfl⟩
                      · intro a_ w_ R_ rest_ vs95 hm hs ht
                        replace hs : St _ _ _ (feet []) [] _ _ := hs
                        have hm0 := hm.mid
                        have t6 := ht 6 (twB_spec 33 _ (by kernel_rfl))
                        have e6 : _ = some (vs95 6) := t6.val rfl
                        rw [show vs95 6 = .bool (false) from t6.2.1] at e6
                        replace hs := hs.learn e6
                        have hs0 := hs.bare
                        refine st_mv hs rfl rfl ?_; clear hs; intro a w hs
                        exact wpList_nil ⟨rfl, _, _, hs0, (.c .r), hs, rfl⟩
                      · intro a_ w_ R_ rest_ vs95 hm hs ht
                        replace hs : St _ _ _ (feet []) [] _ _ := hs
                        have hm0 := hm.mid
                        have t7 := ht 7 (twB_spec 33 _ (by kernel_rfl))
                        have e7 : _ = some (vs95 7) := t7.val rfl
                        rw [show vs95 7 = .bool (false) from t7.2.1] at e7
                        replace hs := hs.learn e7
                        have hs0 := hs.bare
                        refine st_guardT hs rfl rfl rfl ?_
                        refine st_mv hs rfl rfl ?_; clear hs; intro a w hs
                        exact wpList_nil ⟨rfl, _, _, hs0, (.c .r), hs, rfl⟩
                      · intro a_ w_ R_ rest_ vs95 hm hs ht
                        replace hs : St _ _ _ (feet []) [] _ _ := hs
                        have hm0 := hm.mid
                        have t7 := ht 7 (twB_spec 33 _ (by kernel_rfl))
                        have e7 : _ = some (vs95 7) := t7.val rfl
                        rw [show vs95 7 = .bool (false) from t7.2.1] at e7
                        replace hs := hs.learn e7
                        have t8 := ht 8 (twB_spec 33 _ (by kernel_rfl))
                        have e8 : _ = some (vs95 8) := t8.val rfl
                        rw [show vs95 8 = .pointer (some ⟨g5, 0, none⟩) from t8.2.1] at e8
                        replace hs := hs.learn e8
                        have hs0 := hs.bare
                        refine st_guardT hs rfl rfl rfl ?_
                        refine st_callP (v := .int .i64 (((R.p : Nat) : Int))) hs (.c rfl .n) Try.call40 (rat_ok g5 _ _ bs R _ (hm.rd0 hb) (hm0.del (.s .z)) (by omega)) rfl ?_; clear hs; intro a w hs
                        exact wpList_nil ⟨rfl, _, _, hs0, (.c (.c .r)), hs, rfl⟩
                      · intro a_ w_ R_ rest_ vs95 hm hs ht
                        replace hs : St _ _ _ (feet []) [] _ _ := hs
                        have hm0 := hm.mid
                        have t7 := ht 7 (twB_spec 33 _ (by kernel_rfl))
                        have e7 : _ = some (vs95 7) := t7.val rfl
                        rw [show vs95 7 = .bool (false) from t7.2.1] at e7
                        replace hs := hs.learn e7
                        have hs0 := hs.bare
                        refine st_guardT hs rfl rfl rfl ?_
                        refine st_mv hs rfl rfl ?_; clear hs; intro a w hs
                        exact wpList_nil ⟨rfl, _, _, hs0, (.c .r), hs, rfl⟩
                      · intro a_ w_ R_ rest_ vs95 hm hs ht
                        replace hs : St _ _ _ (feet []) [] _ _ := hs
                        have hm0 := hm.mid
                        have t7 := ht 7 (twB_spec 33 _ (by kernel_rfl))
                        have e7 : _ = some (vs95 7) := t7.val rfl
                        rw [show vs95 7 = .bool (false) from t7.2.1] at e7
                        replace hs := hs.learn e7
                        have t10 := ht 10 (twB_spec 33 _ (by kernel_rfl))
                        have e10 : _ = some (vs95 10) := t10.val rfl
                        rw [show vs95 10 = .pointer (some ⟨g21, 0, none⟩) from t10.2.1] at e10
                        replace hs := hs.learn e10
                        have hs0 := hs.bare
                        refine st_guardT hs rfl rfl rfl ?_
                        refine st_nc hs rfl rfl ?_; clear hs; intro a w hs
                        exact wpList_nil ⟨rfl, _, _, hs0, (.c (.c .r)), hs, rfl⟩
                      · intro a_ w_ R_ rest_ vs95 hm hs ht
                        replace hs : St _ _ _ (feet []) [] _ _ := hs
                        have hm0 := hm.mid
                        have t7 := ht 7 (twB_spec 33 _ (by kernel_rfl))
                        have e7 : _ = some (vs95 7) := t7.val rfl
                        rw [show vs95 7 = .bool (false) from t7.2.1] at e7
                        replace hs := hs.learn e7
                        have t11 := ht 11 (twB_spec 33 _ (by kernel_rfl))
                        have e11 : _ = some (vs95 11) := t11.val rfl
                        rw [show vs95 11 = .pointer (some ⟨g21, 0, none⟩) from t11.2.1] at e11
                        replace hs := hs.learn e11
                        have hs0 := hs.bare
                        refine st_guardT hs rfl rfl rfl ?_
                        refine st_fa hs rfl Try.underlying66 rfl Try.sizeOf3 (by decide) (o := 1) rfl rfl ?_; clear hs; intro a w hs
                        exact wpList_nil ⟨rfl, _, _, hs0, (.c (.c .r)), hs, rfl⟩
                      · intro a_ w_ R_ rest_ vs95 hm hs ht
                        replace hs : St _ _ _ (feet []) [] _ _ := hs
                        have hm0 := hm.mid
                        have t7 := ht 7 (twB_spec 33 _ (by kernel_rfl))
                        have e7 : _ = some (vs95 7) := t7.val rfl
                        rw [show vs95 7 = .bool (false) from t7.2.1] at e7
                        replace hs := hs.learn e7
                        have t12 := ht 12 (twB_spec 33 _ (by kernel_rfl))
                        have e12 : _ = some (vs95 12) := t12.val rfl
                        rw [show vs95 12 = .pointer (some ⟨g21, 1, none⟩) from t12.2.1] at e12
                        replace hs := hs.learn e12
                        have hs0 := hs.bare
                        refine st_guardT hs rfl rfl rfl ?_
                        refine st_ldE hs rfl (hm0.del (.s (.s .z))) (.s .z) Try.isAgg3 rfl ?_; clear hs; intro a w hs
                        exact wpList_nil ⟨rfl, _, _, hs0, (.c (.c .r)), hs, rfl⟩
                      · intro a_ w_ R_ rest_ vs95 hm hs ht
                        replace hs : St _ _ _ (feet []) [] _ _ := hs
                        have hm0 := hm.mid
                        have t7 := ht 7 (twB_spec 33 _ (by kernel_rfl))
                        have e7 : _ = some (vs95 7) := t7.val rfl
                        rw [show vs95 7 = .bool (false) from t7.2.1] at e7
                        replace hs := hs.learn e7
                        have t9 := ht 9 (twB_spec 33 _ (by kernel_rfl))
                        have e9 : _ = some (vs95 9) := t9.val rfl
                        rw [show vs95 9 = .int .i64 (((R.p : Nat) : Int)) from t9.2.1] at e9
                        replace hs := hs.learn e9
                        have t13 := ht 13 (twB_spec 33 _ (by kernel_rfl))
                        have e13 : _ = some (vs95 13) := t13.val rfl
                        rw [show vs95 13 = .int .i64 (((R.p : Nat) : Int)) from t13.2.1] at e13
                        replace hs := hs.learn e13
                        have hs0 := hs.bare
                        refine st_guardT hs rfl rfl rfl ?_
                        refine st_neq hs rfl rfl rfl ?_; clear hs; intro a w hs
                        have hb_ : (!((((R.p : Nat) : Int) : Int) == (((R.p : Nat) : Int)))) = false := by first | decide | (simp; done) | (simp; omega)
                        rw [hb_] at hs; clear hb_
                        exact wpList_nil ⟨rfl, _, _, hs0, (.c (.c (.c .r))), hs, rfl⟩
                      · intro a_ w_ R_ rest_ vs95 hm hs ht
                        replace hs : St _ _ _ (feet []) [] _ _ := hs
                        have hm0 := hm.mid
                        have t7 := ht 7 (twB_spec 33 _ (by kernel_rfl))
                        have e7 : _ = some (vs95 7) := t7.val rfl
                        rw [show vs95 7 = .bool (false) from t7.2.1] at e7
                        replace hs := hs.learn e7
                        have t14 := ht 14 (twB_spec 33 _ (by kernel_rfl))
                        have e14 : _ = some (vs95 14) := t14.val rfl
                        rw [show vs95 14 = .bool (false) from t14.2.1] at e14
                        replace hs := hs.learn e14
                        have hs0 := hs.bare
                        refine st_pickF hs rfl rfl rfl ?_; clear hs; intro a w hs
                        exact wpList_nil ⟨rfl, _, _, hs0, (.c (.c .r)), hs, rfl⟩
                      · intro a_ w_ R_ rest_ vs95 hm hs ht
                        replace hs : St _ _ _ (feet []) [] _ _ := hs
                        have hm0 := hm.mid
                        have t15 := ht 15 (twB_spec 33 _ (by kernel_rfl))
                        have e15 : _ = some (vs95 15) := t15.val rfl
                        rw [show vs95 15 = .bool (false) from t15.2.1] at e15
                        replace hs := hs.learn e15
                        have hs0 := hs.bare
                        refine st_mv hs rfl rfl ?_; clear hs; intro a w hs
                        exact wpList_nil ⟨rfl, _, _, hs0, (.c .r), hs, rfl⟩
                      · intro a_ w_ R_ rest_ vs95 hm hs ht
                        replace hs : St _ _ _ (feet []) [] _ _ := hs
                        have hm0 := hm.mid
                        have t16 := ht 16 (twB_spec 33 _ (by kernel_rfl))
                        have e16 : _ = some (vs95 16) := t16.val rfl
                        rw [show vs95 16 = .bool (false) from t16.2.1] at e16
                        replace hs := hs.learn e16
                        have hs0 := hs.bare
                        refine st_guardT hs rfl rfl rfl ?_
                        refine st_mv hs rfl rfl ?_; clear hs; intro a w hs
                        exact wpList_nil ⟨rfl, _, _, hs0, (.c .r), hs, rfl⟩
                      · intro a_ w_ R_ rest_ vs95 hm hs ht
                        replace hs : St _ _ _ (feet []) [] _ _ := hs
                        have hm0 := hm.mid
                        have t16 := ht 16 (twB_spec 33 _ (by kernel_rfl))
                        have e16 : _ = some (vs95 16) := t16.val rfl
                        rw [show vs95 16 = .bool (false) from t16.2.1] at e16
                        replace hs := hs.learn e16
                        have t17 := ht 17 (twB_spec 33 _ (by kernel_rfl))
                        have e17 : _ = some (vs95 17) := t17.val rfl
                        rw [show vs95 17 = .pointer (some ⟨g5, 0, none⟩) from t17.2.1] at e17
                        replace hs := hs.learn e17
                        have hs0 := hs.bare
                        refine st_guardT hs rfl rfl rfl ?_
                        refine st_callP (v := .int .i64 ((((bs.length - R.p) : Nat) : Int))) hs (.c rfl .n) Try.call45 (rleft_ok g5 _ _ bs R _ (hm.rd0 hb) (hm0.del (.s .z)) (by omega)) rfl ?_; clear hs; intro a w hs
                        exact wpList_nil ⟨rfl, _, _, hs0, (.c (.c .r)), hs, rfl⟩
                      · intro a_ w_ R_ rest_ vs95 hm hs ht
                        replace hs : St _ _ _ (feet []) [] _ _ := hs
                        have hm0 := hm.mid
                        have t16 := ht 16 (twB_spec 33 _ (by kernel_rfl))
                        have e16 : _ = some (vs95 16) := t16.val rfl
                        rw [show vs95 16 = .bool (false) from t16.2.1] at e16
                        replace hs := hs.learn e16
                        have hs0 := hs.bare
                        refine st_guardT hs rfl rfl rfl ?_
                        refine st_mv hs rfl rfl ?_; clear hs; intro a w hs
                        exact wpList_nil ⟨rfl, _, _, hs0, (.c .r), hs, rfl⟩
                      · intro a_ w_ R_ rest_ vs95 hm hs ht
                        replace hs : St _ _ _ (feet []) [] _ _ := hs
                        have hm0 := hm.mid
                        have t16 := ht 16 (twB_spec 33 _ (by kernel_rfl))
                        have e16 : _ = some (vs95 16) := t16.val rfl
                        rw [show vs95 16 = .bool (false) from t16.2.1] at e16
                        replace hs := hs.learn e16
                        have t19 := ht 19 (twB_spec 33 _ (by kernel_rfl))
                        have e19 : _ = some (vs95 19) := t19.val rfl
                        rw [show vs95 19 = .pointer (some ⟨g21, 0, none⟩) from t19.2.1] at e19
                        replace hs := hs.learn e19
                        have hs0 := hs.bare
                        refine st_guardT hs rfl rfl rfl ?_
                        refine st_nc hs rfl rfl ?_; clear hs; intro a w hs
                        exact wpList_nil ⟨rfl, _, _, hs0, (.c (.c .r)), hs, rfl⟩
                      · intro a_ w_ R_ rest_ vs95 hm hs ht
                        replace hs : St _ _ _ (feet []) [] _ _ := hs
                        have hm0 := hm.mid
                        have t16 := ht 16 (twB_spec 33 _ (by kernel_rfl))
                        have e16 : _ = some (vs95 16) := t16.val rfl
                        rw [show vs95 16 = .bool (false) from t16.2.1] at e16
                        replace hs := hs.learn e16
                        have t20 := ht 20 (twB_spec 33 _ (by kernel_rfl))
                        have e20 : _ = some (vs95 20) := t20.val rfl
                        rw [show vs95 20 = .pointer (some ⟨g21, 0, none⟩) from t20.2.1] at e20
                        replace hs := hs.learn e20
                        have hs0 := hs.bare
                        refine st_guardT hs rfl rfl rfl ?_
                        refine st_fa hs rfl Try.underlying66 rfl Try.sizeOf22 (by decide) (o := 0) rfl rfl ?_; clear hs; intro a w hs
                        exact wpList_nil ⟨rfl, _, _, hs0, (.c (.c .r)), hs, rfl⟩
                      · intro a_ w_ R_ rest_ vs95 hm hs ht
                        replace hs : St _ _ _ (feet []) [] _ _ := hs
                        have hm0 := hm.mid
                        have t16 := ht 16 (twB_spec 33 _ (by kernel_rfl))
                        have e16 : _ = some (vs95 16) := t16.val rfl
                        rw [show vs95 16 = .bool (false) from t16.2.1] at e16
                        replace hs := hs.learn e16
                        have t21 := ht 21 (twB_spec 33 _ (by kernel_rfl))
                        have e21 : _ = some (vs95 21) := t21.val rfl
                        rw [show vs95 21 = .pointer (some ⟨g21, 0, none⟩) from t21.2.1] at e21
                        replace hs := hs.learn e21
                        have hs0 := hs.bare
                        refine st_guardT hs rfl rfl rfl ?_
                        refine st_ldE hs rfl (hm0.del (.s (.s .z))) .z Try.isAgg22 rfl ?_; clear hs; intro a w hs
                        exact wpList_nil ⟨rfl, _, _, hs0, (.c (.c .r)), hs, rfl⟩
                      · intro a_ w_ R_ rest_ vs95 hm hs ht
                        replace hs : St _ _ _ (feet []) [] _ _ := hs
                        have hm0 := hm.mid
                        have t16 := ht 16 (twB_spec 33 _ (by kernel_rfl))
                        have e16 : _ = some (vs95 16) := t16.val rfl
                        rw [show vs95 16 = .bool (false) from t16.2.1] at e16
                        replace hs := hs.learn e16
                        have t22 := ht 22 (twB_spec 33 _ (by kernel_rfl))
                        have e22 : _ = some (vs95 22) := t22.val rfl
                        rw [show vs95 22 = u1 from t22.2.1] at e22
                        replace hs := hs.learn e22
                        have hs0 := hs.bare
                        refine st_guardT hs rfl rfl rfl ?_
                        refine st_len hs rfl (hI1_2 _ _ (hm.rd0 hb)).isSl Try.underlying22 rfl ?_; clear hs; intro a w hs
                        exact wpList_nil ⟨rfl, _, _, hs0, (.c (.c .r)), hs, rfl⟩
                      · intro a_ w_ R_ rest_ vs95 hm hs ht
                        replace hs : St _ _ _ (feet []) [] _ _ := hs
                        have hm0 := hm.mid
                        have t16 := ht 16 (twB_spec 33 _ (by kernel_rfl))
                        have e16 : _ = some (vs95 16) := t16.val rfl
                        rw [show vs95 16 = .bool (false) from t16.2.1] at e16
                        replace hs := hs.learn e16
                        have t18 := ht 18 (twB_spec 33 _ (by kernel_rfl))
                        have e18 : _ = some (vs95 18) := t18.val rfl
                        rw [show vs95 18 = .int .i64 ((((bs.length - R.p) : Nat) : Int)) from t18.2.1] at e18
                        replace hs := hs.learn e18
                        have t23 := ht 23 (twB_spec 33 _ (by kernel_rfl))
                        have e23 : _ = some (vs95 23) := t23.val rfl
                        rw [show vs95 23 = .int .i64 ((((bs.length - R.p) : Nat) : Int)) from t23.2.1] at e23
                        replace hs := hs.learn e23
                        have hs0 := hs.bare
                        refine st_guardT hs rfl rfl rfl ?_
                        refine st_neq hs rfl rfl rfl ?_; clear hs; intro a w hs
                        have hb_ : (!(((((bs.length - R.p) : Nat) : Int) : Int) == ((((bs.length - R.p) : Nat) : Int)))) = false := by first | decide | (simp; done) | (simp; omega)
                        rw [hb_] at hs; clear hb_
                        exact wpList_nil ⟨rfl, _, _, hs0, (.c (.c (.c .r))), hs, rfl⟩
                      · intro a_ w_ R_ rest_ vs95 hm hs ht
                        replace hs : St _ _ _ (feet []) [] _ _ := hs
                        have hm0 := hm.mid
                        have t16 := ht 16 (twB_spec 33 _ (by kernel_rfl))
                        have e16 : _ = some (vs95 16) := t16.val rfl
                        rw [show vs95 16 = .bool (false) from t16.2.1] at e16
                        replace hs := hs.learn e16
                        have t24 := ht 24 (twB_spec 33 _ (by kernel_rfl))
                        have e24 : _ = some (vs95 24) := t24.val rfl
                        rw [show vs95 24 = .bool (false) from t24.2.1] at e24
                        replace hs := hs.learn e24
                        have hs0 := hs.bare
                        refine st_pickF hs rfl rfl rfl ?_; clear hs; intro a w hs
                        exact wpList_nil ⟨rfl, _, _, hs0, (.c (.c .r)), hs, rfl⟩
                      · intro a_ w_ R_ rest_ vs95 hm hs ht
                        replace hs : St _ _ _ (feet []) [] _ _ := hs
                        have hm0 := hm.mid
                        have t25 := ht 25 (twB_spec 33 _ (by kernel_rfl))
                        have e25 : _ = some (vs95 25) := t25.val rfl
                        rw [show vs95 25 = .bool (false) from t25.2.1] at e25
                        replace hs := hs.learn e25
                        have hs0 := hs.bare
                        refine st_mv hs rfl rfl ?_; clear hs; intro a w hs
                        exact wpList_nil ⟨rfl, _, _, hs0, (.c .r), hs, rfl⟩
                      · intro a_ w_ R_ rest_ vs95 hm hs ht
                        replace hs : St _ _ _ (feet []) [] _ _ := hs
                        have hm0 := hm.mid
                        have t26 := ht 26 (twB_spec 33 _ (by kernel_rfl))
                        have e26 : _ = some (vs95 26) := t26.val rfl
                        rw [show vs95 26 = .bool (false) from t26.2.1] at e26
                        replace hs := hs.learn e26
                        have hs0 := hs.bare
                        refine st_guardT hs rfl rfl rfl ?_
                        refine st_mv hs rfl rfl ?_; clear hs; intro a w hs
                        exact wpList_nil ⟨rfl, _, _, hs0, (.c .r), hs, rfl⟩
                      · intro a_ w_ R_ rest_ vs95 hm hs ht
                        replace hs : St _ _ _ (feet []) [] _ _ := hs
                        have hm0 := hm.mid
                        have t26 := ht 26 (twB_spec 33 _ (by kernel_rfl))
                        have e26 : _ = some (vs95 26) := t26.val rfl
                        rw [show vs95 26 = .bool (false) from t26.2.1] at e26
                        replace hs := hs.learn e26
                        have t27 := ht 27 (twB_spec 33 _ (by kernel_rfl))
                        have e27 : _ = some (vs95 27) := t27.val rfl
                        rw [show vs95 27 = .pointer (some ⟨g5, 0, none⟩) from t27.2.1] at e27
                        replace hs := hs.learn e27
                        have hs0 := hs.bare
                        refine st_guardT hs rfl rfl rfl ?_
                        refine st_callP (v := .int .i64 ((((rDone bs R) : Nat) : Int))) hs (.c rfl .n) Try.call46 (rdone_ok g5 _ _ bs R _ (hm.rd0 hb) (hm0.del (.s .z)) (by omega)) rfl ?_; clear hs; intro a w hs
                        exact wpList_nil ⟨rfl, _, _, hs0, (.c (.c .r)), hs, rfl⟩
                      · intro a_ w_ R_ rest_ vs95 hm hs ht
                        replace hs : St _ _ _ (feet []) [] _ _ := hs
                        have hm0 := hm.mid
                        have t26 := ht 26 (twB_spec 33 _ (by kernel_rfl))
                        have e26 : _ = some (vs95 26) := t26.val rfl
                        rw [show vs95 26 = .bool (false) from t26.2.1] at e26
                        replace hs := hs.learn e26
                        have hs0 := hs.bare
                        refine st_guardT hs rfl rfl rfl ?_
                        refine st_mv hs rfl rfl ?_; clear hs; intro a w hs
                        exact wpList_nil ⟨rfl, _, _, hs0, (.c .r), hs, rfl⟩
                      · intro a_ w_ R_ rest_ vs95 hm hs ht
                        replace hs : St _ _ _ (feet []) [] _ _ := hs
                        have hm0 := hm.mid
                        have t26 := ht 26 (twB_spec 33 _ (by kernel_rfl))
                        have e26 : _ = some (vs95 26) := t26.val rfl
                        rw [show vs95 26 = .bool (false) from t26.2.1] at e26
                        replace hs := hs.learn e26
                        have t29 := ht 29 (twB_spec 33 _ (by kernel_rfl))
                        have e29 : _ = some (vs95 29) := t29.val rfl
                        rw [show vs95 29 = .pointer (some ⟨g21, 0, none⟩) from t29.2.1] at e29
                        replace hs := hs.learn e29
                        have hs0 := hs.bare
                        refine st_guardT hs rfl rfl rfl ?_
                        refine st_callP (v := .int .i64 ((((rDone bs R) : Nat) : Int))) hs (.c rfl .n) Try.call54 (mdone_ok g21 _ bs R _ (hI1_2 _ _ (hm.rd0 hb)) (hm0.del (.s (.s .z))) (by omega) (by simp only [maxLen]; omega)) rfl ?_; clear hs; intro a w hs
                        exact wpList_nil ⟨rfl, _, _, hs0, (.c (.c .r)), hs, rfl⟩
                      · intro a_ w_ R_ rest_ vs95 hm hs ht
                        replace hs : St _ _ _ (feet []) [] _ _ := hs
                        have hm0 := hm.mid
                        have t26 := ht 26 (twB_spec 33 _ (by kernel_rfl))
                        have e26 : _ = some (vs95 26) := t26.val rfl
                        rw [show vs95 26 = .bool (false) from t26.2.1] at e26
                        replace hs := hs.learn e26
                        have t28 := ht 28 (twB_spec 33 _ (by kernel_rfl))
                        have e28 : _ = some (vs95 28) := t28.val rfl
                        rw [show vs95 28 = .int .i64 ((((rDone bs R) : Nat) : Int)) from t28.2.1] at e28
                        replace hs := hs.learn e28
                        have t30 := ht 30 (twB_spec 33 _ (by kernel_rfl))
                        have e30 : _ = some (vs95 30) := t30.val rfl
                        rw [show vs95 30 = .int .i64 ((((rDone bs R) : Nat) : Int)) from t30.2.1] at e30
                        replace hs := hs.learn e30
                        have hs0 := hs.bare
                        refine st_guardT hs rfl rfl rfl ?_
                        refine st_neq hs rfl rfl rfl ?_; clear hs; intro a w hs
                        have hb_ : (!(((((rDone bs R) : Nat) : Int) : Int) == ((((rDone bs R) : Nat) : Int)))) = false := by first | decide | (simp; done) | (simp; omega)
                        rw [hb_] at hs; clear hb_
                        exact wpList_nil ⟨rfl, _, _, hs0, (.c (.c (.c .r))), hs, rfl⟩
                      · intro a_ w_ R_ rest_ vs95 hm hs ht
                        replace hs : St _ _ _ (feet []) [] _ _ := hs
                        have hm0 := hm.mid
                        have t26 := ht 26 (twB_spec 33 _ (by kernel_rfl))
                        have e26 : _ = some (vs95 26) := t26.val rfl
                        rw [show vs95 26 = .bool (false) from t26.2.1] at e26
                        replace hs := hs.learn e26
                        have t31 := ht 31 (twB_spec 33 _ (by kernel_rfl))
                        have e31 : _ = some (vs95 31) := t31.val rfl
                        rw [show vs95 31 = .bool (false) from t31.2.1] at e31
                        replace hs := hs.learn e31
                        have hs0 := hs.bare
                        refine st_pickF hs rfl rfl rfl ?_; clear hs; intro a w hs
                        exact wpList_nil ⟨rfl, _, _, hs0, (.c (.c .r)), hs, rfl⟩
                    · clear hs w a; intro a w vs95 hs hf
                      replace hs : St _ _ _ _ [blk g35 [.int .i64 ((l.getD j default).k), .int .u64 (((((l.getD j default).m).toNat : Nat) : Int)), .int .u8 (((((l.getD j default).e).toNat : Nat) : Int))] 55, blk g5 [v, .int .i64 (((R.p : Nat) : Int)), .int .i64 (((R.e : Nat) : Int))] 76, blk g21 [u1, .int .i64 (((R.p : Nat) : Int)), .int .i64 (((R.e : Nat) : Int))] 66] _ _ := hs
                      obtain ⟨e32, q32⟩ := hf 32 (by decide)
                      replace e32 : _ = some (vs95 32) := e32.val rfl
                      rw [show vs95 32 = .bool (false) from q32] at e32
                      replace hs := hs.learn e32; clear e32 q32
                      clear hf
                      refine then_n (hK94 _ _ ?_)
                      refine wp_cond_false (hs.ev rfl) ?_
                      refine wp_skip ?_
                      refine in_n ?_
                      refine then_n (hK32 _ _ ?_)
                      refine wp_region_lit ?_
                      refine st_addR hs rfl rfl (by omega) rfl ?_; clear hs w a; intro a w hs
                      refine st_mv hs rfl rfl ?_; clear hs w a; intro a w hs
                      refine wpList_nil ?_
                      refine then_n ?_
                      replace hs := hs.drop (.c .z .n)
                      refine ⟨_, ?_, j + 1, R, u1, rfl, hs.sub (.c rfl (.c rfl (.c rfl (.c rfl (.c rfl (.c rfl .n)))))), by omega, by omega, hI1_2⟩
                      omega
        ·
          replace hc30 := of_decide_eq_false hc30
          refine wp_exit ?_
          refine th_e ?_
          refine th_e ?_
          refine in_hit ?_
          refine then_n (hK23 _ _ ?_)
          refine wp_seq_k fun K96 hK97 => ?_
          refine wp_region_lit ?_
          refine st_as hs rfl rfl ?_; clear hs w a; intro a w hs
          refine wpList_nil ?_
          refine then_n (hK97 _ _ ?_)
          refine wp_ret ?_
          replace hs := hs.drop (.c (.s .z) (.c .z .n))
          exact fin hs rfl rfl ⟨rfl, rfl⟩
end Go.Proofs.Ytmhkekdhijnnbaa
