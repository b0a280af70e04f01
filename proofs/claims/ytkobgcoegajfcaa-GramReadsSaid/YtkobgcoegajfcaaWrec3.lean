/- Walks of the document's records off bytes: what each function does, over the program of this seat. Printed by a program of this session. -/
import Derived.Test.YtkobgcoegajfcaaWrec
namespace Go.Proofs.Ytkobgcoegajfcaa
open Go Go.Sx Go.RowKit
set_option linter.unusedVariables false
set_option linter.unusedSimpArgs false
set_option maxRecDepth 4000
set_option maxHeartbeats 1000000

theorem mupd_ok (g h : Nat) (u : Value) (bs : List Byte) (R : Rs) (k idn : Int) (w0 : World) (hb : Rd w0 [g, h] u 1 (bs.length - R.p) (bytesV (bs.drop R.p))) (hg : (blk g [u, .int .i64 (((R).p : Nat) : Int), .int .i64 (((R).e : Nat) : Int)] 44).p w0) (hh : (blk h [.int .i64 (k), .int .i64 (idn), .int .i64 (0), .int .i64 (0), .int .i64 (0), .int .i64 (0), .int .i64 (0), .int .i64 (0), .int .u16 (0)] 25).p w0) (hle : R.p ≤ bs.length) (hlm : bs.length ≤ maxLen) : Calls Try.prog 60 #[.pointer (some ⟨g, 0, none⟩), .pointer (some ⟨h, 0, none⟩)] w0 (Ret w0 [g, h] fun x N => ∃ u', x = .tuple #[] ∧ N = [blk g [u', .int .i64 ((((rdSome bs k idn R).2).p : Nat) : Int), .int .i64 ((((rdSome bs k idn R).2).e : Nat) : Int)] 44, blk h [.int .i64 (((rdSome bs k idn R).1).k), .int .i64 (((rdSome bs k idn R).1).id), .int .i64 (((rdSome bs k idn R).1).p0), .int .i64 (((rdSome bs k idn R).1).p1), .int .i64 (((rdSome bs k idn R).1).p2), .int .i64 (((rdSome bs k idn R).1).v0), .int .i64 (((rdSome bs k idn R).1).v1), .int .i64 (((rdSome bs k idn R).1).v2), .int .u16 ((((((rdSome bs k idn R).1).a).toNat : Nat) : Int))] 25] ∧ Tr bs u R.p u' (rdSome bs k idn R).2.p) := by
  simp only [maxLen] at hlm
  refine enter (F0 := [(0, .pointer (some ⟨g, 0, none⟩)), (1, .pointer (some ⟨h, 0, none⟩))]) Try.func60 rfl rfl rfl (.c (.c .n)) (mem_two hg hh (by simp [feet, blk, blk_ne hg hh (by decide)])) fun a w hs => ?_
  refine wp_seq_k fun K1 hK2 => ?_
  refine wp_region_lit ?_
  refine st_mv hs rfl rfl ?_; clear hs w a; intro a w hs
  refine st_call hs (.c rfl .n) Try.call58 (.c .z .n) (mbyte_ok  g _ bs R _ (hs.mem.rd1 hb (.c .z .n)) (hs.mem.del .z) (by omega) (by simp only [maxLen]; omega)) rfl ?_; clear hs w a; rintro _ _ a w ⟨rfl, rfl⟩ hs; simp only [List.cons_append, List.nil_append] at hs
  have hk3 := rByte_le (bs := bs) (R := R) (by omega)
  refine st_as hs rfl rfl ?_; clear hs w a; intro a w hs
  refine wpList_nil ?_
  refine then_n (hK2 _ _ ?_)
  refine wp_seq_k fun K4 hK5 => ?_
  refine wp_seq_k fun K6 hK7 => ?_
  refine wp_region_lit ?_
  refine st_run 3 [(11, .bool ((((((rByte bs R).1).toNat : Nat) : Int) : Int) == 0))] hs .n (by kernel_rfl) (by kernel_rfl) (by kernel_rfl) ?_; clear hs a; intro a hs
  refine st_part (b := (((((rByte bs R).1).toNat : Nat) : Int) : Int) == 0) (fun hc8 => ?_) (fun hc8 => ?_)
  ·
   rw [hc8] at hs
   replace hc8 := eq_of_beq hc8
   refine st_run 3 [(14, .bool (true))] hs .n (by kernel_rfl) (by kernel_rfl) (by kernel_rfl) ?_; clear hs a; intro a hs
   refine wpList_nil ?_
   refine then_n (hK7 _ _ ?_)
   refine wp_cond_true (hs.ev rfl) ?_
   refine wp_seq_k fun K9 hK10 => ?_
   refine wp_region_lit ?_
   refine st_mv hs rfl rfl ?_; clear hs w a; intro a w hs
   refine st_call hs (.c rfl (.c rfl .n)) Try.call56 (.c .z .n) (mfail_ok 7 g _ bs (((rByte bs R).2)) _ ((uNext_tr (p := R.p) (p' := ((rByte bs R).2).p) (by omega) (by omega)) _ _ (hs.mem.rd1 hb (.c .z .n))) (hs.mem.del .z) (by omega) (by simp only [maxLen]; omega)) rfl ?_; clear hs w a; rintro _ _ a w ⟨rfl, rfl⟩ hs; simp only [List.cons_append, List.nil_append] at hs
   have hk11 := rFail_le (bs := bs) (R := ((rByte bs R).2)) (e := 7) (by omega)
   refine wpList_nil ?_
   refine then_n (hK10 _ _ ?_)
   refine wp_ret ?_
   refine th_r ?_
   exact fin0r hs rfl (by rw [rdSome_bad (by omega)]; exact ⟨_, rfl, rfl, (Tr.trans (Tr.trans Tr.refl (uNext_tr (p := R.p) (p' := ((rByte bs R).2).p) (by omega) (by omega))) (fail_tr (bs := bs) (R := ((rByte bs R).2)) (e := 7)))⟩)
  rw [hc8] at hs
  replace hc8 := ne_of_beq_f hc8
  refine st_run 3 [(14, .bool (decide (127 < (((((rByte bs R).1).toNat : Nat) : Int)))))] hs .n (by kernel_rfl) (by kernel_rfl) (by kernel_rfl) ?_; clear hs a; intro a hs
  refine wpList_nil ?_
  refine then_n (hK7 _ _ ?_)
  refine wp_if hs rfl (fun hc12 => ?_) (fun hc12 => ?_)
  ·
   replace hc12 := of_decide_eq_true hc12
   refine wp_seq_k fun K13 hK14 => ?_
   refine wp_region_lit ?_
   refine st_mv hs rfl rfl ?_; clear hs w a; intro a w hs
   refine st_call hs (.c rfl (.c rfl .n)) Try.call56 (.c .z .n) (mfail_ok 7 g _ bs (((rByte bs R).2)) _ ((uNext_tr (p := R.p) (p' := ((rByte bs R).2).p) (by omega) (by omega)) _ _ (hs.mem.rd1 hb (.c .z .n))) (hs.mem.del .z) (by omega) (by simp only [maxLen]; omega)) rfl ?_; clear hs w a; rintro _ _ a w ⟨rfl, rfl⟩ hs; simp only [List.cons_append, List.nil_append] at hs
   have hk15 := rFail_le (bs := bs) (R := ((rByte bs R).2)) (e := 7) (by omega)
   refine wpList_nil ?_
   refine then_n (hK14 _ _ ?_)
   refine wp_ret ?_
   refine th_r ?_
   exact fin0r hs rfl (by rw [rdSome_bad (by omega)]; exact ⟨_, rfl, rfl, (Tr.trans (Tr.trans Tr.refl (uNext_tr (p := R.p) (p' := ((rByte bs R).2).p) (by omega) (by omega))) (fail_tr (bs := bs) (R := ((rByte bs R).2)) (e := 7)))⟩)
  replace hc12 := of_decide_eq_false hc12
  refine wp_skip ?_
  refine then_n (hK5 _ _ ?_)
  refine wp_seq_k fun K16 hK17 => ?_
  refine wp_region_lit ?_
  refine st_as hs rfl rfl ?_; clear hs w a; intro a w hs
  replace hs := hs.reslot (d := 4) (v := .int .u8 (((((rByte bs R).1).toNat : Nat) : Int))) (v' := .int .u8 ((((upSh (rByte bs R).1 0).toNat : Nat) : Int))) rfl (Option.some.inj rfl)
  replace hs := hs.reblk .z (cs' := [(uNext u bs.length R.p ((rByte bs R).2).p), .int .i64 ((((upS bs (rByte bs R).1 (rByte bs R).2 0).p : Nat) : Int)), .int .i64 ((((upS bs (rByte bs R).1 (rByte bs R).2 0).e : Nat) : Int))]) rfl
  have hu0 : (upS bs (rByte bs R).1 (rByte bs R).2 0).p = (rByte bs R).2.p := rfl
  refine wpList_nil ?_
  refine then_n (hK17 _ _ ?_)
  refine wp_block ?_
  refine wp_loop_rounds 8 ?_
  refine rounds_in ?_
  refine wp_cut (fun a w => ∃ q0 : Value, St 61 [(0, .pointer (some ⟨g, 0, none⟩)), (1, .pointer (some ⟨h, 0, none⟩)), (4, .int .u8 ((((upSh (rByte bs R).1 1).toNat : Nat) : Int))), (5, .int .i64 (1))] w0 [g, h] [blk g [q0, .int .i64 (((((upS bs (rByte bs R).1 (rByte bs R).2 1)).p : Nat) : Int)), .int .i64 (((((upS bs (rByte bs R).1 (rByte bs R).2 1)).e : Nat) : Int))] 44, blk h [.int .i64 (k), .int .i64 (idn), .int .i64 (upX bs (rByte bs R).1 (rByte bs R).2 0), .int .i64 (0), .int .i64 (0), .int .i64 (0), .int .i64 (0), .int .i64 (0), .int .u16 (0)] 25] a w ∧ Tr bs u R.p q0 (upS bs (rByte bs R).1 (rByte bs R).2 1).p ∧ (upS bs (rByte bs R).1 (rByte bs R).2 1).p ≤ bs.length) ?_ ?_
  ·
   refine wp_seq_k fun K18 hK19 => ?_
   refine wp_seq_k fun K20 hK21 => ?_
   refine wp_region_lit ?_
   refine st_run 2 [(18, .bool (true)), (17, .int .i64 (0))] hs .n (by kernel_rfl) (by kernel_rfl) (by kernel_rfl) ?_; clear hs a; intro a hs
   refine wpList_nil ?_
   refine then_n (hK21 _ _ ?_)
   refine wp_cond_true (hs.ev rfl) ?_
   refine wp_skip ?_
   refine then_n (hK19 _ _ ?_)
   refine wp_seq_k fun K22 hK23 => ?_
   refine wp_block ?_
   refine wp_seq_k fun K24 hK25 => ?_
   refine wp_seq_k fun K26 hK27 => ?_
   refine wp_region_lit ?_
   refine st_mv hs rfl rfl ?_; clear hs w a; intro a w hs
   refine st_rem_u8 (X := upSh (rByte bs R).1 0) (Y := 2#8) hs rfl rfl rfl (by decide) (by decide) rfl ?_; clear hs w a; intro a w hs
   refine st_eql hs rfl rfl rfl ?_; clear hs w a; intro a w hs
   refine wpList_nil ?_
   refine then_n (hK27 _ _ ?_)
   refine wp_if hs rfl (fun hc28 => ?_) (fun hc28 => ?_)
   ·
    replace hc28 := eq_of_beq hc28
    have hz_ := upBit_rt (m := (rByte bs R).1) (i := 0) (by assumption)
    refine wp_seq_k fun K29 hK30 => ?_
    refine wp_region_lit ?_
    refine st_as hs rfl rfl ?_; clear hs w a; intro a w hs
    refine wpList_nil ?_
    refine then_n (hK30 _ _ ?_)
    refine wp_seq_k fun K31 hK32 => ?_
    refine wp_seq_k fun K33 hK34 => ?_
    refine wp_region_lit ?_
    refine st_run 2 [(25, .bool (true)), (24, .int .i64 (0))] hs .n (by kernel_rfl) (by kernel_rfl) (by kernel_rfl) ?_; clear hs a; intro a hs
    refine wpList_nil ?_
    refine then_n (hK34 _ _ ?_)
    refine wp_cond_true (hs.ev rfl) ?_
    refine wp_region_lit ?_
    refine st_mv hs rfl rfl ?_; clear hs w a; intro a w hs
    refine st_call hs (.c rfl .n) Try.call73 (.c .z .n) (mint_ok  g _ bs ((upS bs (rByte bs R).1 (rByte bs R).2 0)) _ ((uNext_tr (p := R.p) (p' := ((rByte bs R).2).p) (by omega) (by omega)) _ _ (hs.mem.rd1 hb (.c .z .n))) (hs.mem.del .z) (by omega) (by simp only [maxLen]; omega)) rfl ?_; clear hs w a; rintro _ _ a w ⟨rfl, rfl⟩ hs; simp only [List.cons_append, List.nil_append] at hs
    have hk35 := rInt_le (bs := bs) (R := (upS bs (rByte bs R).1 (rByte bs R).2 0)) (by omega)
    refine st_as hs rfl rfl ?_; clear hs w a; intro a w hs
    refine wpList_nil ?_
    refine then_n (hK32 _ _ ?_)
    refine wp_seq_k fun K36 hK37 => ?_
    refine wp_seq_k fun K38 hK39 => ?_
    refine wp_region_lit ?_
    refine st_run 2 [(32, .bool (((rInt bs ((upS bs (rByte bs R).1 (rByte bs R).2 0))).1 : Int) == 0)), (31, .int .i64 ((rInt bs ((upS bs (rByte bs R).1 (rByte bs R).2 0))).1))] hs .n (by kernel_rfl) (by kernel_rfl) (by kernel_rfl) ?_; clear hs a; intro a hs
    refine wpList_nil ?_
    refine then_n (hK39 _ _ ?_)
    refine wp_if hs rfl (fun hc40 => ?_) (fun hc40 => ?_)
    ·
     replace hc40 := eq_of_beq hc40
     refine wp_region_lit ?_
     refine st_mv hs rfl rfl ?_; clear hs w a; intro a w hs
     refine st_call hs (.c rfl (.c rfl .n)) Try.call56 (.c .z .n) (mfail_ok 7 g _ bs (((rInt bs ((upS bs (rByte bs R).1 (rByte bs R).2 0))).2)) _ ((uNext_tr (p := ((upS bs (rByte bs R).1 (rByte bs R).2 0)).p) (p' := ((rInt bs ((upS bs (rByte bs R).1 (rByte bs R).2 0))).2).p) (by omega) (by omega)) _ _ ((uNext_tr (p := R.p) (p' := ((rByte bs R).2).p) (by omega) (by omega)) _ _ (hs.mem.rd1 hb (.c .z .n)))) (hs.mem.del .z) (by omega) (by simp only [maxLen]; omega)) rfl ?_; clear hs w a; rintro _ _ a w ⟨rfl, rfl⟩ hs; simp only [List.cons_append, List.nil_append] at hs
     have hk41 := rFail_le (bs := bs) (R := ((rInt bs ((upS bs (rByte bs R).1 (rByte bs R).2 0))).2)) (e := 7) (by omega)
     refine wpList_nil ?_
     refine then_n (hK37 _ _ ?_)
     refine wp_block ?_
     refine wp_seq_k fun K42 hK43 => ?_
     refine wp_region_lit ?_
     refine st_run 3 [(40, .bool (true)), (42, .bool (true)), (41, .int .i64 (0))] hs .n (by kernel_rfl) (by kernel_rfl) (by kernel_rfl) ?_; clear hs a; intro a hs
     refine wpList_nil ?_
     refine then_n (hK43 _ _ ?_)
     refine wp_cond_true (hs.ev rfl) ?_
     refine wp_region_lit ?_
     refine st_run 6 [(48, .pointer (some ⟨h, 2, none⟩)), (47, .pointer (some ⟨h, 2, none⟩)), (46, .pointer (some ⟨h, 0, none⟩)), (45, .int .i64 ((rInt bs ((upS bs (rByte bs R).1 (rByte bs R).2 0))).1)), (44, .int .i64 (0)), (43, .pointer (some ⟨h, 0, none⟩))] hs .n (by kernel_rfl) (by kernel_rfl) (by kernel_rfl) ?_; clear hs a; intro a hs
     refine st_stB hs rfl rfl (.s .z) (.s (.s .z)) rfl Try.sizeOf2 ?_; clear hs w a; intro a w hs
     refine wpList_nil ?_
     refine in_n ?_
     refine then_n (hK25 _ _ ?_)
     refine wp_region_lit ?_
     refine st_mv hs rfl rfl ?_; clear hs w a; intro a w hs
     refine st_quo_u8 (X := upSh (rByte bs R).1 0) (Y := 2#8) hs rfl rfl rfl (by decide) (by decide) rfl ?_; clear hs w a; intro a w hs
     refine st_as hs rfl rfl ?_; clear hs w a; intro a w hs
     refine wpList_nil ?_
     refine in_n ?_
     refine then_n (hK23 _ _ ?_)
     refine wp_region_lit ?_
     refine st_run 3 [(5, .int .i64 (1)), (20, .int .i64 (1)), (19, .int .i64 (0))] hs .n (by kernel_rfl) (by kernel_rfl) (by kernel_rfl) ?_; clear hs a; intro a hs
     refine wpList_nil ?_
     refine then_n ?_
     have hT_ : Tr bs u R.p ((id ((uNext ((uNext u bs.length R.p ((rByte bs R).2).p)) bs.length ((upS bs (rByte bs R).1 (rByte bs R).2 0)).p ((rInt bs ((upS bs (rByte bs R).1 (rByte bs R).2 0))).2).p)))) (((rFail 7 (((rInt bs ((upS bs (rByte bs R).1 (rByte bs R).2 0))).2))))).p := (Tr.trans (Tr.trans (Tr.trans Tr.refl (uNext_tr (p := R.p) (p' := ((rByte bs R).2).p) (by omega) (by omega))) (uNext_tr (p := ((upS bs (rByte bs R).1 (rByte bs R).2 0)).p) (p' := ((rInt bs ((upS bs (rByte bs R).1 (rByte bs R).2 0))).2).p) (by omega) (by omega))) (fail_tr (bs := bs) (R := ((rInt bs ((upS bs (rByte bs R).1 (rByte bs R).2 0))).2)) (e := 7)))
     have hS_ : (upS bs (rByte bs R).1 (rByte bs R).2 1) = ((rFail 7 (((rInt bs ((upS bs (rByte bs R).1 (rByte bs R).2 0))).2)))) := upSZ hz_ (by assumption)
     have hX_ : upX bs (rByte bs R).1 (rByte bs R).2 0 = (rInt bs ((upS bs (rByte bs R).1 (rByte bs R).2 0))).1 := upX_t hz_
     replace hs := hs.reblk (.s .z) (cs' := [(id ((uNext ((uNext u bs.length R.p ((rByte bs R).2).p)) bs.length ((upS bs (rByte bs R).1 (rByte bs R).2 0)).p ((rInt bs ((upS bs (rByte bs R).1 (rByte bs R).2 0))).2).p))), .int .i64 ((((upS bs (rByte bs R).1 (rByte bs R).2 1).p : Nat) : Int)), .int .i64 ((((upS bs (rByte bs R).1 (rByte bs R).2 1).e : Nat) : Int))]) (by rw [hS_])
     replace hs := hs.reblk (.s .z) (cs' := [.int .i64 (k), .int .i64 (idn), .int .i64 (upX bs (rByte bs R).1 (rByte bs R).2 0), .int .i64 (0), .int .i64 (0), .int .i64 (0), .int .i64 (0), .int .i64 (0), .int .u16 (0)]) (by rw [hX_])
     replace hs := hs.reslot (d := 4) (v := .int .u8 (((((upSh (rByte bs R).1 0) / (2#8)).toNat : Nat) : Int))) (v' := .int .u8 ((((upSh (rByte bs R).1 1).toNat : Nat) : Int))) rfl (Option.some.inj rfl)
     replace hs := hs.reorder (.c (.s .z) (.c .z .n))
     exact ⟨(id ((uNext ((uNext u bs.length R.p ((rByte bs R).2).p)) bs.length ((upS bs (rByte bs R).1 (rByte bs R).2 0)).p ((rInt bs ((upS bs (rByte bs R).1 (rByte bs R).2 0))).2).p))), hs.sub (.c rfl (.c rfl (.c rfl (.c rfl .n)))), (by rw [hS_]; exact hT_), (upS_le (m := (rByte bs R).1) (R := (rByte bs R).2) (bs := bs) (by omega) 1).1⟩
    replace hc40 := ne_of_beq_f hc40
    refine wp_skip ?_
    refine then_n (hK37 _ _ ?_)
    refine wp_block ?_
    refine wp_seq_k fun K44 hK45 => ?_
    refine wp_region_lit ?_
    refine st_run 3 [(40, .bool (true)), (42, .bool (true)), (41, .int .i64 (0))] hs .n (by kernel_rfl) (by kernel_rfl) (by kernel_rfl) ?_; clear hs a; intro a hs
    refine wpList_nil ?_
    refine then_n (hK45 _ _ ?_)
    refine wp_cond_true (hs.ev rfl) ?_
    refine wp_region_lit ?_
    refine st_run 6 [(48, .pointer (some ⟨h, 2, none⟩)), (47, .pointer (some ⟨h, 2, none⟩)), (46, .pointer (some ⟨h, 0, none⟩)), (45, .int .i64 ((rInt bs ((upS bs (rByte bs R).1 (rByte bs R).2 0))).1)), (44, .int .i64 (0)), (43, .pointer (some ⟨h, 0, none⟩))] hs .n (by kernel_rfl) (by kernel_rfl) (by kernel_rfl) ?_; clear hs a; intro a hs
    refine st_stB hs rfl rfl (.s .z) (.s (.s .z)) rfl Try.sizeOf2 ?_; clear hs w a; intro a w hs
    refine wpList_nil ?_
    refine in_n ?_
    refine then_n (hK25 _ _ ?_)
    refine wp_region_lit ?_
    refine st_mv hs rfl rfl ?_; clear hs w a; intro a w hs
    refine st_quo_u8 (X := upSh (rByte bs R).1 0) (Y := 2#8) hs rfl rfl rfl (by decide) (by decide) rfl ?_; clear hs w a; intro a w hs
    refine st_as hs rfl rfl ?_; clear hs w a; intro a w hs
    refine wpList_nil ?_
    refine in_n ?_
    refine then_n (hK23 _ _ ?_)
    refine wp_region_lit ?_
    refine st_run 3 [(5, .int .i64 (1)), (20, .int .i64 (1)), (19, .int .i64 (0))] hs .n (by kernel_rfl) (by kernel_rfl) (by kernel_rfl) ?_; clear hs a; intro a hs
    refine wpList_nil ?_
    refine then_n ?_
    have hT_ : Tr bs u R.p ((uNext ((uNext u bs.length R.p ((rByte bs R).2).p)) bs.length ((upS bs (rByte bs R).1 (rByte bs R).2 0)).p ((rInt bs ((upS bs (rByte bs R).1 (rByte bs R).2 0))).2).p)) (((rInt bs ((upS bs (rByte bs R).1 (rByte bs R).2 0))).2)).p := (Tr.trans (Tr.trans Tr.refl (uNext_tr (p := R.p) (p' := ((rByte bs R).2).p) (by omega) (by omega))) (uNext_tr (p := ((upS bs (rByte bs R).1 (rByte bs R).2 0)).p) (p' := ((rInt bs ((upS bs (rByte bs R).1 (rByte bs R).2 0))).2).p) (by omega) (by omega)))
    have hS_ : (upS bs (rByte bs R).1 (rByte bs R).2 1) = ((rInt bs ((upS bs (rByte bs R).1 (rByte bs R).2 0))).2) := upSN hz_ (by assumption)
    have hX_ : upX bs (rByte bs R).1 (rByte bs R).2 0 = (rInt bs ((upS bs (rByte bs R).1 (rByte bs R).2 0))).1 := upX_t hz_
    replace hs := hs.reblk (.s .z) (cs' := [(uNext ((uNext u bs.length R.p ((rByte bs R).2).p)) bs.length ((upS bs (rByte bs R).1 (rByte bs R).2 0)).p ((rInt bs ((upS bs (rByte bs R).1 (rByte bs R).2 0))).2).p), .int .i64 ((((upS bs (rByte bs R).1 (rByte bs R).2 1).p : Nat) : Int)), .int .i64 ((((upS bs (rByte bs R).1 (rByte bs R).2 1).e : Nat) : Int))]) (by rw [hS_])
    replace hs := hs.reblk (.s .z) (cs' := [.int .i64 (k), .int .i64 (idn), .int .i64 (upX bs (rByte bs R).1 (rByte bs R).2 0), .int .i64 (0), .int .i64 (0), .int .i64 (0), .int .i64 (0), .int .i64 (0), .int .u16 (0)]) (by rw [hX_])
    replace hs := hs.reslot (d := 4) (v := .int .u8 (((((upSh (rByte bs R).1 0) / (2#8)).toNat : Nat) : Int))) (v' := .int .u8 ((((upSh (rByte bs R).1 1).toNat : Nat) : Int))) rfl (Option.some.inj rfl)
    replace hs := hs.reorder (.c (.s .z) (.c .z .n))
    exact ⟨(uNext ((uNext u bs.length R.p ((rByte bs R).2).p)) bs.length ((upS bs (rByte bs R).1 (rByte bs R).2 0)).p ((rInt bs ((upS bs (rByte bs R).1 (rByte bs R).2 0))).2).p), hs.sub (.c rfl (.c rfl (.c rfl (.c rfl .n)))), (by rw [hS_]; exact hT_), (upS_le (m := (rByte bs R).1) (R := (rByte bs R).2) (bs := bs) (by omega) 1).1⟩
   replace hc28 := ne_of_beq_f hc28
   have hz_ := upBit_rf (m := (rByte bs R).1) (i := 0) (by assumption)
   refine wp_skip ?_
   refine then_n (hK25 _ _ ?_)
   refine wp_region_lit ?_
   refine st_mv hs rfl rfl ?_; clear hs w a; intro a w hs
   refine st_quo_u8 (X := upSh (rByte bs R).1 0) (Y := 2#8) hs rfl rfl rfl (by decide) (by decide) rfl ?_; clear hs w a; intro a w hs
   refine st_as hs rfl rfl ?_; clear hs w a; intro a w hs
   refine wpList_nil ?_
   refine in_n ?_
   refine then_n (hK23 _ _ ?_)
   refine wp_region_lit ?_
   refine st_run 3 [(5, .int .i64 (1)), (20, .int .i64 (1)), (19, .int .i64 (0))] hs .n (by kernel_rfl) (by kernel_rfl) (by kernel_rfl) ?_; clear hs a; intro a hs
   refine wpList_nil ?_
   refine then_n ?_
   have hT_ : Tr bs u R.p ((uNext u bs.length R.p ((rByte bs R).2).p)) ((upS bs (rByte bs R).1 (rByte bs R).2 0)).p := (Tr.trans Tr.refl (uNext_tr (p := R.p) (p' := ((rByte bs R).2).p) (by omega) (by omega)))
   have hS_ : (upS bs (rByte bs R).1 (rByte bs R).2 1) = (upS bs (rByte bs R).1 (rByte bs R).2 0) := upS_f hz_
   have hX_ : upX bs (rByte bs R).1 (rByte bs R).2 0 = 0 := upX_f hz_
   replace hs := hs.reblk .z (cs' := [(uNext u bs.length R.p ((rByte bs R).2).p), .int .i64 ((((upS bs (rByte bs R).1 (rByte bs R).2 1).p : Nat) : Int)), .int .i64 ((((upS bs (rByte bs R).1 (rByte bs R).2 1).e : Nat) : Int))]) (by rw [hS_])
   replace hs := hs.reblk (.s .z) (cs' := [.int .i64 (k), .int .i64 (idn), .int .i64 (upX bs (rByte bs R).1 (rByte bs R).2 0), .int .i64 (0), .int .i64 (0), .int .i64 (0), .int .i64 (0), .int .i64 (0), .int .u16 (0)]) (by rw [hX_])
   replace hs := hs.reslot (d := 4) (v := .int .u8 (((((upSh (rByte bs R).1 0) / (2#8)).toNat : Nat) : Int))) (v' := .int .u8 ((((upSh (rByte bs R).1 1).toNat : Nat) : Int))) rfl (Option.some.inj rfl)
   replace hs := hs.reorder (.c (.s .z) (.c .z .n))
   exact ⟨(uNext u bs.length R.p ((rByte bs R).2).p), hs.sub (.c rfl (.c rfl (.c rfl (.c rfl .n)))), (by rw [hS_]; exact hT_), (upS_le (m := (rByte bs R).1) (R := (rByte bs R).2) (bs := bs) (by omega) 1).1⟩
  clear hs w a; rintro a w ⟨q0, hs, hJ46, hJ47⟩
  refine then_n ?_
  refine rounds_in ?_
  refine wp_cut (fun a w => ∃ q1 : Value, St 61 [(0, .pointer (some ⟨g, 0, none⟩)), (1, .pointer (some ⟨h, 0, none⟩)), (4, .int .u8 ((((upSh (rByte bs R).1 2).toNat : Nat) : Int))), (5, .int .i64 (2))] w0 [g, h] [blk g [q1, .int .i64 (((((upS bs (rByte bs R).1 (rByte bs R).2 2)).p : Nat) : Int)), .int .i64 (((((upS bs (rByte bs R).1 (rByte bs R).2 2)).e : Nat) : Int))] 44, blk h [.int .i64 (k), .int .i64 (idn), .int .i64 (upX bs (rByte bs R).1 (rByte bs R).2 0), .int .i64 (upX bs (rByte bs R).1 (rByte bs R).2 1), .int .i64 (0), .int .i64 (0), .int .i64 (0), .int .i64 (0), .int .u16 (0)] 25] a w ∧ Tr bs u R.p q1 (upS bs (rByte bs R).1 (rByte bs R).2 2).p ∧ (upS bs (rByte bs R).1 (rByte bs R).2 2).p ≤ bs.length) ?_ ?_
  ·
   refine wp_seq_k fun K48 hK49 => ?_
   refine wp_seq_k fun K50 hK51 => ?_
   refine wp_region_lit ?_
   refine st_run 2 [(18, .bool (true)), (17, .int .i64 (1))] hs .n (by kernel_rfl) (by kernel_rfl) (by kernel_rfl) ?_; clear hs a; intro a hs
   refine wpList_nil ?_
   refine then_n (hK51 _ _ ?_)
   refine wp_cond_true (hs.ev rfl) ?_
   refine wp_skip ?_
   refine then_n (hK49 _ _ ?_)
   refine wp_seq_k fun K52 hK53 => ?_
   refine wp_block ?_
   refine wp_seq_k fun K54 hK55 => ?_
   refine wp_seq_k fun K56 hK57 => ?_
   refine wp_region_lit ?_
   refine st_mv hs rfl rfl ?_; clear hs w a; intro a w hs
   refine st_rem_u8 (X := upSh (rByte bs R).1 1) (Y := 2#8) hs rfl rfl rfl (by decide) (by decide) rfl ?_; clear hs w a; intro a w hs
   refine st_eql hs rfl rfl rfl ?_; clear hs w a; intro a w hs
   refine wpList_nil ?_
   refine then_n (hK57 _ _ ?_)
   refine wp_if hs rfl (fun hc58 => ?_) (fun hc58 => ?_)
   ·
    replace hc58 := eq_of_beq hc58
    have hz_ := upBit_rt (m := (rByte bs R).1) (i := 1) (by assumption)
    refine wp_seq_k fun K59 hK60 => ?_
    refine wp_region_lit ?_
    refine st_as hs rfl rfl ?_; clear hs w a; intro a w hs
    refine wpList_nil ?_
    refine then_n (hK60 _ _ ?_)
    refine wp_seq_k fun K61 hK62 => ?_
    refine wp_seq_k fun K63 hK64 => ?_
    refine wp_region_lit ?_
    refine st_run 2 [(25, .bool (true)), (24, .int .i64 (1))] hs .n (by kernel_rfl) (by kernel_rfl) (by kernel_rfl) ?_; clear hs a; intro a hs
    refine wpList_nil ?_
    refine then_n (hK64 _ _ ?_)
    refine wp_cond_true (hs.ev rfl) ?_
    refine wp_region_lit ?_
    refine st_mv hs rfl rfl ?_; clear hs w a; intro a w hs
    refine st_call hs (.c rfl .n) Try.call73 (.c .z .n) (mint_ok  g _ bs (((upS bs (rByte bs R).1 (rByte bs R).2 1))) _ (hJ46 _ _ (hs.mem.rd1 hb (.c .z .n))) (hs.mem.del .z) (by omega) (by simp only [maxLen]; omega)) rfl ?_; clear hs w a; rintro _ _ a w ⟨rfl, rfl⟩ hs; simp only [List.cons_append, List.nil_append] at hs
    have hk65 := rInt_le (bs := bs) (R := ((upS bs (rByte bs R).1 (rByte bs R).2 1))) (by omega)
    refine st_as hs rfl rfl ?_; clear hs w a; intro a w hs
    refine wpList_nil ?_
    refine then_n (hK62 _ _ ?_)
    refine wp_seq_k fun K66 hK67 => ?_
    refine wp_seq_k fun K68 hK69 => ?_
    refine wp_region_lit ?_
    refine st_run 2 [(32, .bool (((rInt bs (((upS bs (rByte bs R).1 (rByte bs R).2 1)))).1 : Int) == 0)), (31, .int .i64 ((rInt bs (((upS bs (rByte bs R).1 (rByte bs R).2 1)))).1))] hs .n (by kernel_rfl) (by kernel_rfl) (by kernel_rfl) ?_; clear hs a; intro a hs
    refine wpList_nil ?_
    refine then_n (hK69 _ _ ?_)
    refine wp_if hs rfl (fun hc70 => ?_) (fun hc70 => ?_)
    ·
     replace hc70 := eq_of_beq hc70
     refine wp_region_lit ?_
     refine st_mv hs rfl rfl ?_; clear hs w a; intro a w hs
     refine st_call hs (.c rfl (.c rfl .n)) Try.call56 (.c .z .n) (mfail_ok 7 g _ bs (((rInt bs (((upS bs (rByte bs R).1 (rByte bs R).2 1)))).2)) _ ((uNext_tr (p := (((upS bs (rByte bs R).1 (rByte bs R).2 1))).p) (p' := ((rInt bs (((upS bs (rByte bs R).1 (rByte bs R).2 1)))).2).p) (by omega) (by omega)) _ _ (hJ46 _ _ (hs.mem.rd1 hb (.c .z .n)))) (hs.mem.del .z) (by omega) (by simp only [maxLen]; omega)) rfl ?_; clear hs w a; rintro _ _ a w ⟨rfl, rfl⟩ hs; simp only [List.cons_append, List.nil_append] at hs
     have hk71 := rFail_le (bs := bs) (R := ((rInt bs (((upS bs (rByte bs R).1 (rByte bs R).2 1)))).2)) (e := 7) (by omega)
     refine wpList_nil ?_
     refine then_n (hK67 _ _ ?_)
     refine wp_block ?_
     refine wp_seq_k fun K72 hK73 => ?_
     refine wp_region_lit ?_
     refine st_run 3 [(40, .bool (true)), (42, .bool (true)), (41, .int .i64 (1))] hs .n (by kernel_rfl) (by kernel_rfl) (by kernel_rfl) ?_; clear hs a; intro a hs
     refine wpList_nil ?_
     refine then_n (hK73 _ _ ?_)
     refine wp_cond_true (hs.ev rfl) ?_
     refine wp_region_lit ?_
     refine st_run 6 [(48, .pointer (some ⟨h, 3, none⟩)), (47, .pointer (some ⟨h, 2, none⟩)), (46, .pointer (some ⟨h, 0, none⟩)), (45, .int .i64 ((rInt bs (((upS bs (rByte bs R).1 (rByte bs R).2 1)))).1)), (44, .int .i64 (1)), (43, .pointer (some ⟨h, 0, none⟩))] hs .n (by kernel_rfl) (by kernel_rfl) (by kernel_rfl) ?_; clear hs a; intro a hs
     refine st_stB hs rfl rfl (.s .z) (.s (.s (.s .z))) rfl Try.sizeOf2 ?_; clear hs w a; intro a w hs
     refine wpList_nil ?_
     refine in_n ?_
     refine then_n (hK55 _ _ ?_)
     refine wp_region_lit ?_
     refine st_mv hs rfl rfl ?_; clear hs w a; intro a w hs
     refine st_quo_u8 (X := upSh (rByte bs R).1 1) (Y := 2#8) hs rfl rfl rfl (by decide) (by decide) rfl ?_; clear hs w a; intro a w hs
     refine st_as hs rfl rfl ?_; clear hs w a; intro a w hs
     refine wpList_nil ?_
     refine in_n ?_
     refine then_n (hK53 _ _ ?_)
     refine wp_region_lit ?_
     refine st_run 3 [(5, .int .i64 (2)), (20, .int .i64 (2)), (19, .int .i64 (1))] hs .n (by kernel_rfl) (by kernel_rfl) (by kernel_rfl) ?_; clear hs a; intro a hs
     refine wpList_nil ?_
     refine then_n ?_
     have hT_ : Tr bs u R.p ((id ((uNext q0 bs.length (((upS bs (rByte bs R).1 (rByte bs R).2 1))).p ((rInt bs (((upS bs (rByte bs R).1 (rByte bs R).2 1)))).2).p)))) (((rFail 7 (((rInt bs (((upS bs (rByte bs R).1 (rByte bs R).2 1)))).2))))).p := (Tr.trans (Tr.trans (Tr.trans Tr.refl hJ46) (uNext_tr (p := (((upS bs (rByte bs R).1 (rByte bs R).2 1))).p) (p' := ((rInt bs (((upS bs (rByte bs R).1 (rByte bs R).2 1)))).2).p) (by omega) (by omega))) (fail_tr (bs := bs) (R := ((rInt bs (((upS bs (rByte bs R).1 (rByte bs R).2 1)))).2)) (e := 7)))
     have hS_ : (upS bs (rByte bs R).1 (rByte bs R).2 2) = ((rFail 7 (((rInt bs (((upS bs (rByte bs R).1 (rByte bs R).2 1)))).2)))) := upSZ hz_ (by assumption)
     have hX_ : upX bs (rByte bs R).1 (rByte bs R).2 1 = (rInt bs (((upS bs (rByte bs R).1 (rByte bs R).2 1)))).1 := upX_t hz_
     replace hs := hs.reblk (.s .z) (cs' := [(id ((uNext q0 bs.length (((upS bs (rByte bs R).1 (rByte bs R).2 1))).p ((rInt bs (((upS bs (rByte bs R).1 (rByte bs R).2 1)))).2).p))), .int .i64 ((((upS bs (rByte bs R).1 (rByte bs R).2 2).p : Nat) : Int)), .int .i64 ((((upS bs (rByte bs R).1 (rByte bs R).2 2).e : Nat) : Int))]) (by rw [hS_])
     replace hs := hs.reblk (.s .z) (cs' := [.int .i64 (k), .int .i64 (idn), .int .i64 (upX bs (rByte bs R).1 (rByte bs R).2 0), .int .i64 (upX bs (rByte bs R).1 (rByte bs R).2 1), .int .i64 (0), .int .i64 (0), .int .i64 (0), .int .i64 (0), .int .u16 (0)]) (by rw [hX_])
     replace hs := hs.reslot (d := 4) (v := .int .u8 (((((upSh (rByte bs R).1 1) / (2#8)).toNat : Nat) : Int))) (v' := .int .u8 ((((upSh (rByte bs R).1 2).toNat : Nat) : Int))) rfl (Option.some.inj rfl)
     replace hs := hs.reorder (.c (.s .z) (.c .z .n))
     exact ⟨(id ((uNext q0 bs.length (((upS bs (rByte bs R).1 (rByte bs R).2 1))).p ((rInt bs (((upS bs (rByte bs R).1 (rByte bs R).2 1)))).2).p))), hs.sub (.c rfl (.c rfl (.c rfl (.c rfl .n)))), (by rw [hS_]; exact hT_), (upS_le (m := (rByte bs R).1) (R := (rByte bs R).2) (bs := bs) (by omega) 2).1⟩
    replace hc70 := ne_of_beq_f hc70
    refine wp_skip ?_
    refine then_n (hK67 _ _ ?_)
    refine wp_block ?_
    refine wp_seq_k fun K74 hK75 => ?_
    refine wp_region_lit ?_
    refine st_run 3 [(40, .bool (true)), (42, .bool (true)), (41, .int .i64 (1))] hs .n (by kernel_rfl) (by kernel_rfl) (by kernel_rfl) ?_; clear hs a; intro a hs
    refine wpList_nil ?_
    refine then_n (hK75 _ _ ?_)
    refine wp_cond_true (hs.ev rfl) ?_
    refine wp_region_lit ?_
    refine st_run 6 [(48, .pointer (some ⟨h, 3, none⟩)), (47, .pointer (some ⟨h, 2, none⟩)), (46, .pointer (some ⟨h, 0, none⟩)), (45, .int .i64 ((rInt bs (((upS bs (rByte bs R).1 (rByte bs R).2 1)))).1)), (44, .int .i64 (1)), (43, .pointer (some ⟨h, 0, none⟩))] hs .n (by kernel_rfl) (by kernel_rfl) (by kernel_rfl) ?_; clear hs a; intro a hs
    refine st_stB hs rfl rfl (.s .z) (.s (.s (.s .z))) rfl Try.sizeOf2 ?_; clear hs w a; intro a w hs
    refine wpList_nil ?_
    refine in_n ?_
    refine then_n (hK55 _ _ ?_)
    refine wp_region_lit ?_
    refine st_mv hs rfl rfl ?_; clear hs w a; intro a w hs
    refine st_quo_u8 (X := upSh (rByte bs R).1 1) (Y := 2#8) hs rfl rfl rfl (by decide) (by decide) rfl ?_; clear hs w a; intro a w hs
    refine st_as hs rfl rfl ?_; clear hs w a; intro a w hs
    refine wpList_nil ?_
    refine in_n ?_
    refine then_n (hK53 _ _ ?_)
    refine wp_region_lit ?_
    refine st_run 3 [(5, .int .i64 (2)), (20, .int .i64 (2)), (19, .int .i64 (1))] hs .n (by kernel_rfl) (by kernel_rfl) (by kernel_rfl) ?_; clear hs a; intro a hs
    refine wpList_nil ?_
    refine then_n ?_
    have hT_ : Tr bs u R.p ((uNext q0 bs.length (((upS bs (rByte bs R).1 (rByte bs R).2 1))).p ((rInt bs (((upS bs (rByte bs R).1 (rByte bs R).2 1)))).2).p)) (((rInt bs (((upS bs (rByte bs R).1 (rByte bs R).2 1)))).2)).p := (Tr.trans (Tr.trans Tr.refl hJ46) (uNext_tr (p := (((upS bs (rByte bs R).1 (rByte bs R).2 1))).p) (p' := ((rInt bs (((upS bs (rByte bs R).1 (rByte bs R).2 1)))).2).p) (by omega) (by omega)))
    have hS_ : (upS bs (rByte bs R).1 (rByte bs R).2 2) = ((rInt bs (((upS bs (rByte bs R).1 (rByte bs R).2 1)))).2) := upSN hz_ (by assumption)
    have hX_ : upX bs (rByte bs R).1 (rByte bs R).2 1 = (rInt bs (((upS bs (rByte bs R).1 (rByte bs R).2 1)))).1 := upX_t hz_
    replace hs := hs.reblk (.s .z) (cs' := [(uNext q0 bs.length (((upS bs (rByte bs R).1 (rByte bs R).2 1))).p ((rInt bs (((upS bs (rByte bs R).1 (rByte bs R).2 1)))).2).p), .int .i64 ((((upS bs (rByte bs R).1 (rByte bs R).2 2).p : Nat) : Int)), .int .i64 ((((upS bs (rByte bs R).1 (rByte bs R).2 2).e : Nat) : Int))]) (by rw [hS_])
    replace hs := hs.reblk (.s .z) (cs' := [.int .i64 (k), .int .i64 (idn), .int .i64 (upX bs (rByte bs R).1 (rByte bs R).2 0), .int .i64 (upX bs (rByte bs R).1 (rByte bs R).2 1), .int .i64 (0), .int .i64 (0), .int .i64 (0), .int .i64 (0), .int .u16 (0)]) (by rw [hX_])
    replace hs := hs.reslot (d := 4) (v := .int .u8 (((((upSh (rByte bs R).1 1) / (2#8)).toNat : Nat) : Int))) (v' := .int .u8 ((((upSh (rByte bs R).1 2).toNat : Nat) : Int))) rfl (Option.some.inj rfl)
    replace hs := hs.reorder (.c (.s .z) (.c .z .n))
    exact ⟨(uNext q0 bs.length (((upS bs (rByte bs R).1 (rByte bs R).2 1))).p ((rInt bs (((upS bs (rByte bs R).1 (rByte bs R).2 1)))).2).p), hs.sub (.c rfl (.c rfl (.c rfl (.c rfl .n)))), (by rw [hS_]; exact hT_), (upS_le (m := (rByte bs R).1) (R := (rByte bs R).2) (bs := bs) (by omega) 2).1⟩
   replace hc58 := ne_of_beq_f hc58
   have hz_ := upBit_rf (m := (rByte bs R).1) (i := 1) (by assumption)
   refine wp_skip ?_
   refine then_n (hK55 _ _ ?_)
   refine wp_region_lit ?_
   refine st_mv hs rfl rfl ?_; clear hs w a; intro a w hs
   refine st_quo_u8 (X := upSh (rByte bs R).1 1) (Y := 2#8) hs rfl rfl rfl (by decide) (by decide) rfl ?_; clear hs w a; intro a w hs
   refine st_as hs rfl rfl ?_; clear hs w a; intro a w hs
   refine wpList_nil ?_
   refine in_n ?_
   refine then_n (hK53 _ _ ?_)
   refine wp_region_lit ?_
   refine st_run 3 [(5, .int .i64 (2)), (20, .int .i64 (2)), (19, .int .i64 (1))] hs .n (by kernel_rfl) (by kernel_rfl) (by kernel_rfl) ?_; clear hs a; intro a hs
   refine wpList_nil ?_
   refine then_n ?_
   have hT_ : Tr bs u R.p q0 (((upS bs (rByte bs R).1 (rByte bs R).2 1))).p := (Tr.trans Tr.refl hJ46)
   have hS_ : (upS bs (rByte bs R).1 (rByte bs R).2 2) = ((upS bs (rByte bs R).1 (rByte bs R).2 1)) := upS_f hz_
   have hX_ : upX bs (rByte bs R).1 (rByte bs R).2 1 = 0 := upX_f hz_
   replace hs := hs.reblk .z (cs' := [q0, .int .i64 ((((upS bs (rByte bs R).1 (rByte bs R).2 2).p : Nat) : Int)), .int .i64 ((((upS bs (rByte bs R).1 (rByte bs R).2 2).e : Nat) : Int))]) (by rw [hS_])
   replace hs := hs.reblk (.s .z) (cs' := [.int .i64 (k), .int .i64 (idn), .int .i64 (upX bs (rByte bs R).1 (rByte bs R).2 0), .int .i64 (upX bs (rByte bs R).1 (rByte bs R).2 1), .int .i64 (0), .int .i64 (0), .int .i64 (0), .int .i64 (0), .int .u16 (0)]) (by rw [hX_])
   replace hs := hs.reslot (d := 4) (v := .int .u8 (((((upSh (rByte bs R).1 1) / (2#8)).toNat : Nat) : Int))) (v' := .int .u8 ((((upSh (rByte bs R).1 2).toNat : Nat) : Int))) rfl (Option.some.inj rfl)
   replace hs := hs.reorder (.c (.s .z) (.c .z .n))
   exact ⟨q0, hs.sub (.c rfl (.c rfl (.c rfl (.c rfl .n)))), (by rw [hS_]; exact hT_), (upS_le (m := (rByte bs R).1) (R := (rByte bs R).2) (bs := bs) (by omega) 2).1⟩
  clear hs w a; rintro a w ⟨q1, hs, hJ76, hJ77⟩
  refine then_n ?_
  refine rounds_in ?_
  refine wp_cut (fun a w => ∃ q2 : Value, St 61 [(0, .pointer (some ⟨g, 0, none⟩)), (1, .pointer (some ⟨h, 0, none⟩)), (4, .int .u8 ((((upSh (rByte bs R).1 3).toNat : Nat) : Int))), (5, .int .i64 (3))] w0 [g, h] [blk g [q2, .int .i64 (((((upS bs (rByte bs R).1 (rByte bs R).2 3)).p : Nat) : Int)), .int .i64 (((((upS bs (rByte bs R).1 (rByte bs R).2 3)).e : Nat) : Int))] 44, blk h [.int .i64 (k), .int .i64 (idn), .int .i64 (upX bs (rByte bs R).1 (rByte bs R).2 0), .int .i64 (upX bs (rByte bs R).1 (rByte bs R).2 1), .int .i64 (upX bs (rByte bs R).1 (rByte bs R).2 2), .int .i64 (0), .int .i64 (0), .int .i64 (0), .int .u16 (0)] 25] a w ∧ Tr bs u R.p q2 (upS bs (rByte bs R).1 (rByte bs R).2 3).p ∧ (upS bs (rByte bs R).1 (rByte bs R).2 3).p ≤ bs.length) ?_ ?_
  ·
   refine wp_seq_k fun K78 hK79 => ?_
   refine wp_seq_k fun K80 hK81 => ?_
   refine wp_region_lit ?_
   refine st_run 2 [(18, .bool (true)), (17, .int .i64 (2))] hs .n (by kernel_rfl) (by kernel_rfl) (by kernel_rfl) ?_; clear hs a; intro a hs
   refine wpList_nil ?_
   refine then_n (hK81 _ _ ?_)
   refine wp_cond_true (hs.ev rfl) ?_
   refine wp_skip ?_
   refine then_n (hK79 _ _ ?_)
   refine wp_seq_k fun K82 hK83 => ?_
   refine wp_block ?_
   refine wp_seq_k fun K84 hK85 => ?_
   refine wp_seq_k fun K86 hK87 => ?_
   refine wp_region_lit ?_
   refine st_mv hs rfl rfl ?_; clear hs w a; intro a w hs
   refine st_rem_u8 (X := upSh (rByte bs R).1 2) (Y := 2#8) hs rfl rfl rfl (by decide) (by decide) rfl ?_; clear hs w a; intro a w hs
   refine st_eql hs rfl rfl rfl ?_; clear hs w a; intro a w hs
   refine wpList_nil ?_
   refine then_n (hK87 _ _ ?_)
   refine wp_if hs rfl (fun hc88 => ?_) (fun hc88 => ?_)
   ·
    replace hc88 := eq_of_beq hc88
    have hz_ := upBit_rt (m := (rByte bs R).1) (i := 2) (by assumption)
    refine wp_seq_k fun K89 hK90 => ?_
    refine wp_region_lit ?_
    refine st_as hs rfl rfl ?_; clear hs w a; intro a w hs
    refine wpList_nil ?_
    refine then_n (hK90 _ _ ?_)
    refine wp_seq_k fun K91 hK92 => ?_
    refine wp_seq_k fun K93 hK94 => ?_
    refine wp_region_lit ?_
    refine st_run 2 [(25, .bool (true)), (24, .int .i64 (2))] hs .n (by kernel_rfl) (by kernel_rfl) (by kernel_rfl) ?_; clear hs a; intro a hs
    refine wpList_nil ?_
    refine then_n (hK94 _ _ ?_)
    refine wp_cond_true (hs.ev rfl) ?_
    refine wp_region_lit ?_
    refine st_mv hs rfl rfl ?_; clear hs w a; intro a w hs
    refine st_call hs (.c rfl .n) Try.call73 (.c .z .n) (mint_ok  g _ bs (((upS bs (rByte bs R).1 (rByte bs R).2 2))) _ (hJ76 _ _ (hs.mem.rd1 hb (.c .z .n))) (hs.mem.del .z) (by omega) (by simp only [maxLen]; omega)) rfl ?_; clear hs w a; rintro _ _ a w ⟨rfl, rfl⟩ hs; simp only [List.cons_append, List.nil_append] at hs
    have hk95 := rInt_le (bs := bs) (R := ((upS bs (rByte bs R).1 (rByte bs R).2 2))) (by omega)
    refine st_as hs rfl rfl ?_; clear hs w a; intro a w hs
    refine wpList_nil ?_
    refine then_n (hK92 _ _ ?_)
    refine wp_seq_k fun K96 hK97 => ?_
    refine wp_seq_k fun K98 hK99 => ?_
    refine wp_region_lit ?_
    refine st_run 2 [(32, .bool (((rInt bs (((upS bs (rByte bs R).1 (rByte bs R).2 2)))).1 : Int) == 0)), (31, .int .i64 ((rInt bs (((upS bs (rByte bs R).1 (rByte bs R).2 2)))).1))] hs .n (by kernel_rfl) (by kernel_rfl) (by kernel_rfl) ?_; clear hs a; intro a hs
    refine wpList_nil ?_
    refine then_n (hK99 _ _ ?_)
    refine wp_if hs rfl (fun hc100 => ?_) (fun hc100 => ?_)
    ·
     replace hc100 := eq_of_beq hc100
     refine wp_region_lit ?_
     refine st_mv hs rfl rfl ?_; clear hs w a; intro a w hs
     refine st_call hs (.c rfl (.c rfl .n)) Try.call56 (.c .z .n) (mfail_ok 7 g _ bs (((rInt bs (((upS bs (rByte bs R).1 (rByte bs R).2 2)))).2)) _ ((uNext_tr (p := (((upS bs (rByte bs R).1 (rByte bs R).2 2))).p) (p' := ((rInt bs (((upS bs (rByte bs R).1 (rByte bs R).2 2)))).2).p) (by omega) (by omega)) _ _ (hJ76 _ _ (hs.mem.rd1 hb (.c .z .n)))) (hs.mem.del .z) (by omega) (by simp only [maxLen]; omega)) rfl ?_; clear hs w a; rintro _ _ a w ⟨rfl, rfl⟩ hs; simp only [List.cons_append, List.nil_append] at hs
     have hk101 := rFail_le (bs := bs) (R := ((rInt bs (((upS bs (rByte bs R).1 (rByte bs R).2 2)))).2)) (e := 7) (by omega)
     refine wpList_nil ?_
     refine then_n (hK97 _ _ ?_)
     refine wp_block ?_
     refine wp_seq_k fun K102 hK103 => ?_
     refine wp_region_lit ?_
     refine st_run 3 [(40, .bool (true)), (42, .bool (true)), (41, .int .i64 (2))] hs .n (by kernel_rfl) (by kernel_rfl) (by kernel_rfl) ?_; clear hs a; intro a hs
     refine wpList_nil ?_
     refine then_n (hK103 _ _ ?_)
     refine wp_cond_true (hs.ev rfl) ?_
     refine wp_region_lit ?_
     refine st_run 6 [(48, .pointer (some ⟨h, 4, none⟩)), (47, .pointer (some ⟨h, 2, none⟩)), (46, .pointer (some ⟨h, 0, none⟩)), (45, .int .i64 ((rInt bs (((upS bs (rByte bs R).1 (rByte bs R).2 2)))).1)), (44, .int .i64 (2)), (43, .pointer (some ⟨h, 0, none⟩))] hs .n (by kernel_rfl) (by kernel_rfl) (by kernel_rfl) ?_; clear hs a; intro a hs
     refine st_stB hs rfl rfl (.s .z) (.s (.s (.s (.s .z)))) rfl Try.sizeOf2 ?_; clear hs w a; intro a w hs
     refine wpList_nil ?_
     refine in_n ?_
     refine then_n (hK85 _ _ ?_)
     refine wp_region_lit ?_
     refine st_mv hs rfl rfl ?_; clear hs w a; intro a w hs
     refine st_quo_u8 (X := upSh (rByte bs R).1 2) (Y := 2#8) hs rfl rfl rfl (by decide) (by decide) rfl ?_; clear hs w a; intro a w hs
     refine st_as hs rfl rfl ?_; clear hs w a; intro a w hs
     refine wpList_nil ?_
     refine in_n ?_
     refine then_n (hK83 _ _ ?_)
     refine wp_region_lit ?_
     refine st_run 3 [(5, .int .i64 (3)), (20, .int .i64 (3)), (19, .int .i64 (2))] hs .n (by kernel_rfl) (by kernel_rfl) (by kernel_rfl) ?_; clear hs a; intro a hs
     refine wpList_nil ?_
     refine then_n ?_
     have hT_ : Tr bs u R.p ((id ((uNext q1 bs.length (((upS bs (rByte bs R).1 (rByte bs R).2 2))).p ((rInt bs (((upS bs (rByte bs R).1 (rByte bs R).2 2)))).2).p)))) (((rFail 7 (((rInt bs (((upS bs (rByte bs R).1 (rByte bs R).2 2)))).2))))).p := (Tr.trans (Tr.trans (Tr.trans Tr.refl hJ76) (uNext_tr (p := (((upS bs (rByte bs R).1 (rByte bs R).2 2))).p) (p' := ((rInt bs (((upS bs (rByte bs R).1 (rByte bs R).2 2)))).2).p) (by omega) (by omega))) (fail_tr (bs := bs) (R := ((rInt bs (((upS bs (rByte bs R).1 (rByte bs R).2 2)))).2)) (e := 7)))
     have hS_ : (upS bs (rByte bs R).1 (rByte bs R).2 3) = ((rFail 7 (((rInt bs (((upS bs (rByte bs R).1 (rByte bs R).2 2)))).2)))) := upSZ hz_ (by assumption)
     have hX_ : upX bs (rByte bs R).1 (rByte bs R).2 2 = (rInt bs (((upS bs (rByte bs R).1 (rByte bs R).2 2)))).1 := upX_t hz_
     replace hs := hs.reblk (.s .z) (cs' := [(id ((uNext q1 bs.length (((upS bs (rByte bs R).1 (rByte bs R).2 2))).p ((rInt bs (((upS bs (rByte bs R).1 (rByte bs R).2 2)))).2).p))), .int .i64 ((((upS bs (rByte bs R).1 (rByte bs R).2 3).p : Nat) : Int)), .int .i64 ((((upS bs (rByte bs R).1 (rByte bs R).2 3).e : Nat) : Int))]) (by rw [hS_])
     replace hs := hs.reblk (.s .z) (cs' := [.int .i64 (k), .int .i64 (idn), .int .i64 (upX bs (rByte bs R).1 (rByte bs R).2 0), .int .i64 (upX bs (rByte bs R).1 (rByte bs R).2 1), .int .i64 (upX bs (rByte bs R).1 (rByte bs R).2 2), .int .i64 (0), .int .i64 (0), .int .i64 (0), .int .u16 (0)]) (by rw [hX_])
     replace hs := hs.reslot (d := 4) (v := .int .u8 (((((upSh (rByte bs R).1 2) / (2#8)).toNat : Nat) : Int))) (v' := .int .u8 ((((upSh (rByte bs R).1 3).toNat : Nat) : Int))) rfl (Option.some.inj rfl)
     replace hs := hs.reorder (.c (.s .z) (.c .z .n))
     exact ⟨(id ((uNext q1 bs.length (((upS bs (rByte bs R).1 (rByte bs R).2 2))).p ((rInt bs (((upS bs (rByte bs R).1 (rByte bs R).2 2)))).2).p))), hs.sub (.c rfl (.c rfl (.c rfl (.c rfl .n)))), (by rw [hS_]; exact hT_), (upS_le (m := (rByte bs R).1) (R := (rByte bs R).2) (bs := bs) (by omega) 3).1⟩
    replace hc100 := ne_of_beq_f hc100
    refine wp_skip ?_
    refine then_n (hK97 _ _ ?_)
    refine wp_block ?_
    refine wp_seq_k fun K104 hK105 => ?_
    refine wp_region_lit ?_
    refine st_run 3 [(40, .bool (true)), (42, .bool (true)), (41, .int .i64 (2))] hs .n (by kernel_rfl) (by kernel_rfl) (by kernel_rfl) ?_; clear hs a; intro a hs
    refine wpList_nil ?_
    refine then_n (hK105 _ _ ?_)
    refine wp_cond_true (hs.ev rfl) ?_
    refine wp_region_lit ?_
    refine st_run 6 [(48, .pointer (some ⟨h, 4, none⟩)), (47, .pointer (some ⟨h, 2, none⟩)), (46, .pointer (some ⟨h, 0, none⟩)), (45, .int .i64 ((rInt bs (((upS bs (rByte bs R).1 (rByte bs R).2 2)))).1)), (44, .int .i64 (2)), (43, .pointer (some ⟨h, 0, none⟩))] hs .n (by kernel_rfl) (by kernel_rfl) (by kernel_rfl) ?_; clear hs a; intro a hs
    refine st_stB hs rfl rfl (.s .z) (.s (.s (.s (.s .z)))) rfl Try.sizeOf2 ?_; clear hs w a; intro a w hs
    refine wpList_nil ?_
    refine in_n ?_
    refine then_n (hK85 _ _ ?_)
    refine wp_region_lit ?_
    refine st_mv hs rfl rfl ?_; clear hs w a; intro a w hs
    refine st_quo_u8 (X := upSh (rByte bs R).1 2) (Y := 2#8) hs rfl rfl rfl (by decide) (by decide) rfl ?_; clear hs w a; intro a w hs
    refine st_as hs rfl rfl ?_; clear hs w a; intro a w hs
    refine wpList_nil ?_
    refine in_n ?_
    refine then_n (hK83 _ _ ?_)
    refine wp_region_lit ?_
    refine st_run 3 [(5, .int .i64 (3)), (20, .int .i64 (3)), (19, .int .i64 (2))] hs .n (by kernel_rfl) (by kernel_rfl) (by kernel_rfl) ?_; clear hs a; intro a hs
    refine wpList_nil ?_
    refine then_n ?_
    have hT_ : Tr bs u R.p ((uNext q1 bs.length (((upS bs (rByte bs R).1 (rByte bs R).2 2))).p ((rInt bs (((upS bs (rByte bs R).1 (rByte bs R).2 2)))).2).p)) (((rInt bs (((upS bs (rByte bs R).1 (rByte bs R).2 2)))).2)).p := (Tr.trans (Tr.trans Tr.refl hJ76) (uNext_tr (p := (((upS bs (rByte bs R).1 (rByte bs R).2 2))).p) (p' := ((rInt bs (((upS bs (rByte bs R).1 (rByte bs R).2 2)))).2).p) (by omega) (by omega)))
    have hS_ : (upS bs (rByte bs R).1 (rByte bs R).2 3) = ((rInt bs (((upS bs (rByte bs R).1 (rByte bs R).2 2)))).2) := upSN hz_ (by assumption)
    have hX_ : upX bs (rByte bs R).1 (rByte bs R).2 2 = (rInt bs (((upS bs (rByte bs R).1 (rByte bs R).2 2)))).1 := upX_t hz_
    replace hs := hs.reblk (.s .z) (cs' := [(uNext q1 bs.length (((upS bs (rByte bs R).1 (rByte bs R).2 2))).p ((rInt bs (((upS bs (rByte bs R).1 (rByte bs R).2 2)))).2).p), .int .i64 ((((upS bs (rByte bs R).1 (rByte bs R).2 3).p : Nat) : Int)), .int .i64 ((((upS bs (rByte bs R).1 (rByte bs R).2 3).e : Nat) : Int))]) (by rw [hS_])
    replace hs := hs.reblk (.s .z) (cs' := [.int .i64 (k), .int .i64 (idn), .int .i64 (upX bs (rByte bs R).1 (rByte bs R).2 0), .int .i64 (upX bs (rByte bs R).1 (rByte bs R).2 1), .int .i64 (upX bs (rByte bs R).1 (rByte bs R).2 2), .int .i64 (0), .int .i64 (0), .int .i64 (0), .int .u16 (0)]) (by rw [hX_])
    replace hs := hs.reslot (d := 4) (v := .int .u8 (((((upSh (rByte bs R).1 2) / (2#8)).toNat : Nat) : Int))) (v' := .int .u8 ((((upSh (rByte bs R).1 3).toNat : Nat) : Int))) rfl (Option.some.inj rfl)
    replace hs := hs.reorder (.c (.s .z) (.c .z .n))
    exact ⟨(uNext q1 bs.length (((upS bs (rByte bs R).1 (rByte bs R).2 2))).p ((rInt bs (((upS bs (rByte bs R).1 (rByte bs R).2 2)))).2).p), hs.sub (.c rfl (.c rfl (.c rfl (.c rfl .n)))), (by rw [hS_]; exact hT_), (upS_le (m := (rByte bs R).1) (R := (rByte bs R).2) (bs := bs) (by omega) 3).1⟩
   replace hc88 := ne_of_beq_f hc88
   have hz_ := upBit_rf (m := (rByte bs R).1) (i := 2) (by assumption)
   refine wp_skip ?_
   refine then_n (hK85 _ _ ?_)
   refine wp_region_lit ?_
   refine st_mv hs rfl rfl ?_; clear hs w a; intro a w hs
   refine st_quo_u8 (X := upSh (rByte bs R).1 2) (Y := 2#8) hs rfl rfl rfl (by decide) (by decide) rfl ?_; clear hs w a; intro a w hs
   refine st_as hs rfl rfl ?_; clear hs w a; intro a w hs
   refine wpList_nil ?_
   refine in_n ?_
   refine then_n (hK83 _ _ ?_)
   refine wp_region_lit ?_
   refine st_run 3 [(5, .int .i64 (3)), (20, .int .i64 (3)), (19, .int .i64 (2))] hs .n (by kernel_rfl) (by kernel_rfl) (by kernel_rfl) ?_; clear hs a; intro a hs
   refine wpList_nil ?_
   refine then_n ?_
   have hT_ : Tr bs u R.p q1 (((upS bs (rByte bs R).1 (rByte bs R).2 2))).p := (Tr.trans Tr.refl hJ76)
   have hS_ : (upS bs (rByte bs R).1 (rByte bs R).2 3) = ((upS bs (rByte bs R).1 (rByte bs R).2 2)) := upS_f hz_
   have hX_ : upX bs (rByte bs R).1 (rByte bs R).2 2 = 0 := upX_f hz_
   replace hs := hs.reblk .z (cs' := [q1, .int .i64 ((((upS bs (rByte bs R).1 (rByte bs R).2 3).p : Nat) : Int)), .int .i64 ((((upS bs (rByte bs R).1 (rByte bs R).2 3).e : Nat) : Int))]) (by rw [hS_])
   replace hs := hs.reblk (.s .z) (cs' := [.int .i64 (k), .int .i64 (idn), .int .i64 (upX bs (rByte bs R).1 (rByte bs R).2 0), .int .i64 (upX bs (rByte bs R).1 (rByte bs R).2 1), .int .i64 (upX bs (rByte bs R).1 (rByte bs R).2 2), .int .i64 (0), .int .i64 (0), .int .i64 (0), .int .u16 (0)]) (by rw [hX_])
   replace hs := hs.reslot (d := 4) (v := .int .u8 (((((upSh (rByte bs R).1 2) / (2#8)).toNat : Nat) : Int))) (v' := .int .u8 ((((upSh (rByte bs R).1 3).toNat : Nat) : Int))) rfl (Option.some.inj rfl)
   replace hs := hs.reorder (.c (.s .z) (.c .z .n))
   exact ⟨q1, hs.sub (.c rfl (.c rfl (.c rfl (.c rfl .n)))), (by rw [hS_]; exact hT_), (upS_le (m := (rByte bs R).1) (R := (rByte bs R).2) (bs := bs) (by omega) 3).1⟩
  clear hs w a; rintro a w ⟨q2, hs, hJ106, hJ107⟩
  refine then_n ?_
  refine rounds_in ?_
  refine wp_cut (fun a w => ∃ q3 : Value, St 61 [(0, .pointer (some ⟨g, 0, none⟩)), (1, .pointer (some ⟨h, 0, none⟩)), (4, .int .u8 ((((upSh (rByte bs R).1 4).toNat : Nat) : Int))), (5, .int .i64 (4))] w0 [g, h] [blk g [q3, .int .i64 (((((upS bs (rByte bs R).1 (rByte bs R).2 4)).p : Nat) : Int)), .int .i64 (((((upS bs (rByte bs R).1 (rByte bs R).2 4)).e : Nat) : Int))] 44, blk h [.int .i64 (k), .int .i64 (idn), .int .i64 (upX bs (rByte bs R).1 (rByte bs R).2 0), .int .i64 (upX bs (rByte bs R).1 (rByte bs R).2 1), .int .i64 (upX bs (rByte bs R).1 (rByte bs R).2 2), .int .i64 (upX bs (rByte bs R).1 (rByte bs R).2 3), .int .i64 (0), .int .i64 (0), .int .u16 (0)] 25] a w ∧ Tr bs u R.p q3 (upS bs (rByte bs R).1 (rByte bs R).2 4).p ∧ (upS bs (rByte bs R).1 (rByte bs R).2 4).p ≤ bs.length) ?_ ?_
  ·
   refine wp_seq_k fun K108 hK109 => ?_
   refine wp_seq_k fun K110 hK111 => ?_
   refine wp_region_lit ?_
   refine st_run 2 [(18, .bool (true)), (17, .int .i64 (3))] hs .n (by kernel_rfl) (by kernel_rfl) (by kernel_rfl) ?_; clear hs a; intro a hs
   refine wpList_nil ?_
   refine then_n (hK111 _ _ ?_)
   refine wp_cond_true (hs.ev rfl) ?_
   refine wp_skip ?_
   refine then_n (hK109 _ _ ?_)
   refine wp_seq_k fun K112 hK113 => ?_
   refine wp_block ?_
   refine wp_seq_k fun K114 hK115 => ?_
   refine wp_seq_k fun K116 hK117 => ?_
   refine wp_region_lit ?_
   refine st_mv hs rfl rfl ?_; clear hs w a; intro a w hs
   refine st_rem_u8 (X := upSh (rByte bs R).1 3) (Y := 2#8) hs rfl rfl rfl (by decide) (by decide) rfl ?_; clear hs w a; intro a w hs
   refine st_eql hs rfl rfl rfl ?_; clear hs w a; intro a w hs
   refine wpList_nil ?_
   refine then_n (hK117 _ _ ?_)
   refine wp_if hs rfl (fun hc118 => ?_) (fun hc118 => ?_)
   ·
    replace hc118 := eq_of_beq hc118
    have hz_ := upBit_rt (m := (rByte bs R).1) (i := 3) (by assumption)
    refine wp_seq_k fun K119 hK120 => ?_
    refine wp_region_lit ?_
    refine st_as hs rfl rfl ?_; clear hs w a; intro a w hs
    refine wpList_nil ?_
    refine then_n (hK120 _ _ ?_)
    refine wp_seq_k fun K121 hK122 => ?_
    refine wp_seq_k fun K123 hK124 => ?_
    refine wp_region_lit ?_
    refine st_run 2 [(25, .bool (true)), (24, .int .i64 (3))] hs .n (by kernel_rfl) (by kernel_rfl) (by kernel_rfl) ?_; clear hs a; intro a hs
    refine wpList_nil ?_
    refine then_n (hK124 _ _ ?_)
    refine wp_cond_true (hs.ev rfl) ?_
    refine wp_region_lit ?_
    refine st_mv hs rfl rfl ?_; clear hs w a; intro a w hs
    refine st_call hs (.c rfl .n) Try.call73 (.c .z .n) (mint_ok  g _ bs (((upS bs (rByte bs R).1 (rByte bs R).2 3))) _ (hJ106 _ _ (hs.mem.rd1 hb (.c .z .n))) (hs.mem.del .z) (by omega) (by simp only [maxLen]; omega)) rfl ?_; clear hs w a; rintro _ _ a w ⟨rfl, rfl⟩ hs; simp only [List.cons_append, List.nil_append] at hs
    have hk125 := rInt_le (bs := bs) (R := ((upS bs (rByte bs R).1 (rByte bs R).2 3))) (by omega)
    refine st_as hs rfl rfl ?_; clear hs w a; intro a w hs
    refine wpList_nil ?_
    refine then_n (hK122 _ _ ?_)
    refine wp_seq_k fun K126 hK127 => ?_
    refine wp_seq_k fun K128 hK129 => ?_
    refine wp_region_lit ?_
    refine st_run 2 [(32, .bool (((rInt bs (((upS bs (rByte bs R).1 (rByte bs R).2 3)))).1 : Int) == 0)), (31, .int .i64 ((rInt bs (((upS bs (rByte bs R).1 (rByte bs R).2 3)))).1))] hs .n (by kernel_rfl) (by kernel_rfl) (by kernel_rfl) ?_; clear hs a; intro a hs
    refine wpList_nil ?_
    refine then_n (hK129 _ _ ?_)
    refine wp_if hs rfl (fun hc130 => ?_) (fun hc130 => ?_)
    ·
     replace hc130 := eq_of_beq hc130
     refine wp_region_lit ?_
     refine st_mv hs rfl rfl ?_; clear hs w a; intro a w hs
     refine st_call hs (.c rfl (.c rfl .n)) Try.call56 (.c .z .n) (mfail_ok 7 g _ bs (((rInt bs (((upS bs (rByte bs R).1 (rByte bs R).2 3)))).2)) _ ((uNext_tr (p := (((upS bs (rByte bs R).1 (rByte bs R).2 3))).p) (p' := ((rInt bs (((upS bs (rByte bs R).1 (rByte bs R).2 3)))).2).p) (by omega) (by omega)) _ _ (hJ106 _ _ (hs.mem.rd1 hb (.c .z .n)))) (hs.mem.del .z) (by omega) (by simp only [maxLen]; omega)) rfl ?_; clear hs w a; rintro _ _ a w ⟨rfl, rfl⟩ hs; simp only [List.cons_append, List.nil_append] at hs
     have hk131 := rFail_le (bs := bs) (R := ((rInt bs (((upS bs (rByte bs R).1 (rByte bs R).2 3)))).2)) (e := 7) (by omega)
     refine wpList_nil ?_
     refine then_n (hK127 _ _ ?_)
     refine wp_block ?_
     refine wp_seq_k fun K132 hK133 => ?_
     refine wp_region_lit ?_
     refine st_run 3 [(40, .bool (false)), (42, .bool (false)), (41, .int .i64 (3))] hs .n (by kernel_rfl) (by kernel_rfl) (by kernel_rfl) ?_; clear hs a; intro a hs
     refine wpList_nil ?_
     refine then_n (hK133 _ _ ?_)
     refine wp_cond_false (hs.ev rfl) ?_
     refine wp_seq_k fun K134 hK135 => ?_
     refine wp_region_lit ?_
     refine st_run 3 [(49, .bool (true)), (51, .bool (true)), (50, .int .i64 (3))] hs .n (by kernel_rfl) (by kernel_rfl) (by kernel_rfl) ?_; clear hs a; intro a hs
     refine wpList_nil ?_
     refine then_n (hK135 _ _ ?_)
     refine wp_cond_true (hs.ev rfl) ?_
     refine wp_region_lit ?_
     refine st_run 7 [(58, .pointer (some ⟨h, 5, none⟩)), (57, .pointer (some ⟨h, 5, none⟩)), (56, .pointer (some ⟨h, 0, none⟩)), (55, .int .i64 ((rInt bs (((upS bs (rByte bs R).1 (rByte bs R).2 3)))).1)), (54, .int .i64 (0)), (53, .int .i64 (3)), (52, .pointer (some ⟨h, 0, none⟩))] hs .n (by kernel_rfl) (by kernel_rfl) (by kernel_rfl) ?_; clear hs a; intro a hs
     refine st_stB hs rfl rfl (.s .z) (.s (.s (.s (.s (.s .z))))) rfl Try.sizeOf2 ?_; clear hs w a; intro a w hs
     refine wpList_nil ?_
     refine in_n ?_
     refine then_n (hK115 _ _ ?_)
     refine wp_region_lit ?_
     refine st_mv hs rfl rfl ?_; clear hs w a; intro a w hs
     refine st_quo_u8 (X := upSh (rByte bs R).1 3) (Y := 2#8) hs rfl rfl rfl (by decide) (by decide) rfl ?_; clear hs w a; intro a w hs
     refine st_as hs rfl rfl ?_; clear hs w a; intro a w hs
     refine wpList_nil ?_
     refine in_n ?_
     refine then_n (hK113 _ _ ?_)
     refine wp_region_lit ?_
     refine st_run 3 [(5, .int .i64 (4)), (20, .int .i64 (4)), (19, .int .i64 (3))] hs .n (by kernel_rfl) (by kernel_rfl) (by kernel_rfl) ?_; clear hs a; intro a hs
     refine wpList_nil ?_
     refine then_n ?_
     have hT_ : Tr bs u R.p ((id ((uNext q2 bs.length (((upS bs (rByte bs R).1 (rByte bs R).2 3))).p ((rInt bs (((upS bs (rByte bs R).1 (rByte bs R).2 3)))).2).p)))) (((rFail 7 (((rInt bs (((upS bs (rByte bs R).1 (rByte bs R).2 3)))).2))))).p := (Tr.trans (Tr.trans (Tr.trans Tr.refl hJ106) (uNext_tr (p := (((upS bs (rByte bs R).1 (rByte bs R).2 3))).p) (p' := ((rInt bs (((upS bs (rByte bs R).1 (rByte bs R).2 3)))).2).p) (by omega) (by omega))) (fail_tr (bs := bs) (R := ((rInt bs (((upS bs (rByte bs R).1 (rByte bs R).2 3)))).2)) (e := 7)))
     have hS_ : (upS bs (rByte bs R).1 (rByte bs R).2 4) = ((rFail 7 (((rInt bs (((upS bs (rByte bs R).1 (rByte bs R).2 3)))).2)))) := upSZ hz_ (by assumption)
     have hX_ : upX bs (rByte bs R).1 (rByte bs R).2 3 = (rInt bs (((upS bs (rByte bs R).1 (rByte bs R).2 3)))).1 := upX_t hz_
     replace hs := hs.reblk (.s .z) (cs' := [(id ((uNext q2 bs.length (((upS bs (rByte bs R).1 (rByte bs R).2 3))).p ((rInt bs (((upS bs (rByte bs R).1 (rByte bs R).2 3)))).2).p))), .int .i64 ((((upS bs (rByte bs R).1 (rByte bs R).2 4).p : Nat) : Int)), .int .i64 ((((upS bs (rByte bs R).1 (rByte bs R).2 4).e : Nat) : Int))]) (by rw [hS_])
     replace hs := hs.reblk (.s .z) (cs' := [.int .i64 (k), .int .i64 (idn), .int .i64 (upX bs (rByte bs R).1 (rByte bs R).2 0), .int .i64 (upX bs (rByte bs R).1 (rByte bs R).2 1), .int .i64 (upX bs (rByte bs R).1 (rByte bs R).2 2), .int .i64 (upX bs (rByte bs R).1 (rByte bs R).2 3), .int .i64 (0), .int .i64 (0), .int .u16 (0)]) (by rw [hX_])
     replace hs := hs.reslot (d := 4) (v := .int .u8 (((((upSh (rByte bs R).1 3) / (2#8)).toNat : Nat) : Int))) (v' := .int .u8 ((((upSh (rByte bs R).1 4).toNat : Nat) : Int))) rfl (Option.some.inj rfl)
     replace hs := hs.reorder (.c (.s .z) (.c .z .n))
     exact ⟨(id ((uNext q2 bs.length (((upS bs (rByte bs R).1 (rByte bs R).2 3))).p ((rInt bs (((upS bs (rByte bs R).1 (rByte bs R).2 3)))).2).p))), hs.sub (.c rfl (.c rfl (.c rfl (.c rfl .n)))), (by rw [hS_]; exact hT_), (upS_le (m := (rByte bs R).1) (R := (rByte bs R).2) (bs := bs) (by omega) 4).1⟩
    replace hc130 := ne_of_beq_f hc130
    refine wp_skip ?_
    refine then_n (hK127 _ _ ?_)
    refine wp_block ?_
    refine wp_seq_k fun K136 hK137 => ?_
    refine wp_region_lit ?_
    refine st_run 3 [(40, .bool (false)), (42, .bool (false)), (41, .int .i64 (3))] hs .n (by kernel_rfl) (by kernel_rfl) (by kernel_rfl) ?_; clear hs a; intro a hs
    refine wpList_nil ?_
    refine then_n (hK137 _ _ ?_)
    refine wp_cond_false (hs.ev rfl) ?_
    refine wp_seq_k fun K138 hK139 => ?_
    refine wp_region_lit ?_
    refine st_run 3 [(49, .bool (true)), (51, .bool (true)), (50, .int .i64 (3))] hs .n (by kernel_rfl) (by kernel_rfl) (by kernel_rfl) ?_; clear hs a; intro a hs
    refine wpList_nil ?_
    refine then_n (hK139 _ _ ?_)
    refine wp_cond_true (hs.ev rfl) ?_
    refine wp_region_lit ?_
    refine st_run 7 [(58, .pointer (some ⟨h, 5, none⟩)), (57, .pointer (some ⟨h, 5, none⟩)), (56, .pointer (some ⟨h, 0, none⟩)), (55, .int .i64 ((rInt bs (((upS bs (rByte bs R).1 (rByte bs R).2 3)))).1)), (54, .int .i64 (0)), (53, .int .i64 (3)), (52, .pointer (some ⟨h, 0, none⟩))] hs .n (by kernel_rfl) (by kernel_rfl) (by kernel_rfl) ?_; clear hs a; intro a hs
    refine st_stB hs rfl rfl (.s .z) (.s (.s (.s (.s (.s .z))))) rfl Try.sizeOf2 ?_; clear hs w a; intro a w hs
    refine wpList_nil ?_
    refine in_n ?_
    refine then_n (hK115 _ _ ?_)
    refine wp_region_lit ?_
    refine st_mv hs rfl rfl ?_; clear hs w a; intro a w hs
    refine st_quo_u8 (X := upSh (rByte bs R).1 3) (Y := 2#8) hs rfl rfl rfl (by decide) (by decide) rfl ?_; clear hs w a; intro a w hs
    refine st_as hs rfl rfl ?_; clear hs w a; intro a w hs
    refine wpList_nil ?_
    refine in_n ?_
    refine then_n (hK113 _ _ ?_)
    refine wp_region_lit ?_
    refine st_run 3 [(5, .int .i64 (4)), (20, .int .i64 (4)), (19, .int .i64 (3))] hs .n (by kernel_rfl) (by kernel_rfl) (by kernel_rfl) ?_; clear hs a; intro a hs
    refine wpList_nil ?_
    refine then_n ?_
    have hT_ : Tr bs u R.p ((uNext q2 bs.length (((upS bs (rByte bs R).1 (rByte bs R).2 3))).p ((rInt bs (((upS bs (rByte bs R).1 (rByte bs R).2 3)))).2).p)) (((rInt bs (((upS bs (rByte bs R).1 (rByte bs R).2 3)))).2)).p := (Tr.trans (Tr.trans Tr.refl hJ106) (uNext_tr (p := (((upS bs (rByte bs R).1 (rByte bs R).2 3))).p) (p' := ((rInt bs (((upS bs (rByte bs R).1 (rByte bs R).2 3)))).2).p) (by omega) (by omega)))
    have hS_ : (upS bs (rByte bs R).1 (rByte bs R).2 4) = ((rInt bs (((upS bs (rByte bs R).1 (rByte bs R).2 3)))).2) := upSN hz_ (by assumption)
    have hX_ : upX bs (rByte bs R).1 (rByte bs R).2 3 = (rInt bs (((upS bs (rByte bs R).1 (rByte bs R).2 3)))).1 := upX_t hz_
    replace hs := hs.reblk (.s .z) (cs' := [(uNext q2 bs.length (((upS bs (rByte bs R).1 (rByte bs R).2 3))).p ((rInt bs (((upS bs (rByte bs R).1 (rByte bs R).2 3)))).2).p), .int .i64 ((((upS bs (rByte bs R).1 (rByte bs R).2 4).p : Nat) : Int)), .int .i64 ((((upS bs (rByte bs R).1 (rByte bs R).2 4).e : Nat) : Int))]) (by rw [hS_])
    replace hs := hs.reblk (.s .z) (cs' := [.int .i64 (k), .int .i64 (idn), .int .i64 (upX bs (rByte bs R).1 (rByte bs R).2 0), .int .i64 (upX bs (rByte bs R).1 (rByte bs R).2 1), .int .i64 (upX bs (rByte bs R).1 (rByte bs R).2 2), .int .i64 (upX bs (rByte bs R).1 (rByte bs R).2 3), .int .i64 (0), .int .i64 (0), .int .u16 (0)]) (by rw [hX_])
    replace hs := hs.reslot (d := 4) (v := .int .u8 (((((upSh (rByte bs R).1 3) / (2#8)).toNat : Nat) : Int))) (v' := .int .u8 ((((upSh (rByte bs R).1 4).toNat : Nat) : Int))) rfl (Option.some.inj rfl)
    replace hs := hs.reorder (.c (.s .z) (.c .z .n))
    exact ⟨(uNext q2 bs.length (((upS bs (rByte bs R).1 (rByte bs R).2 3))).p ((rInt bs (((upS bs (rByte bs R).1 (rByte bs R).2 3)))).2).p), hs.sub (.c rfl (.c rfl (.c rfl (.c rfl .n)))), (by rw [hS_]; exact hT_), (upS_le (m := (rByte bs R).1) (R := (rByte bs R).2) (bs := bs) (by omega) 4).1⟩
   replace hc118 := ne_of_beq_f hc118
   have hz_ := upBit_rf (m := (rByte bs R).1) (i := 3) (by assumption)
   refine wp_skip ?_
   refine then_n (hK115 _ _ ?_)
   refine wp_region_lit ?_
   refine st_mv hs rfl rfl ?_; clear hs w a; intro a w hs
   refine st_quo_u8 (X := upSh (rByte bs R).1 3) (Y := 2#8) hs rfl rfl rfl (by decide) (by decide) rfl ?_; clear hs w a; intro a w hs
   refine st_as hs rfl rfl ?_; clear hs w a; intro a w hs
   refine wpList_nil ?_
   refine in_n ?_
   refine then_n (hK113 _ _ ?_)
   refine wp_region_lit ?_
   refine st_run 3 [(5, .int .i64 (4)), (20, .int .i64 (4)), (19, .int .i64 (3))] hs .n (by kernel_rfl) (by kernel_rfl) (by kernel_rfl) ?_; clear hs a; intro a hs
   refine wpList_nil ?_
   refine then_n ?_
   have hT_ : Tr bs u R.p q2 (((upS bs (rByte bs R).1 (rByte bs R).2 3))).p := (Tr.trans Tr.refl hJ106)
   have hS_ : (upS bs (rByte bs R).1 (rByte bs R).2 4) = ((upS bs (rByte bs R).1 (rByte bs R).2 3)) := upS_f hz_
   have hX_ : upX bs (rByte bs R).1 (rByte bs R).2 3 = 0 := upX_f hz_
   replace hs := hs.reblk .z (cs' := [q2, .int .i64 ((((upS bs (rByte bs R).1 (rByte bs R).2 4).p : Nat) : Int)), .int .i64 ((((upS bs (rByte bs R).1 (rByte bs R).2 4).e : Nat) : Int))]) (by rw [hS_])
   replace hs := hs.reblk (.s .z) (cs' := [.int .i64 (k), .int .i64 (idn), .int .i64 (upX bs (rByte bs R).1 (rByte bs R).2 0), .int .i64 (upX bs (rByte bs R).1 (rByte bs R).2 1), .int .i64 (upX bs (rByte bs R).1 (rByte bs R).2 2), .int .i64 (upX bs (rByte bs R).1 (rByte bs R).2 3), .int .i64 (0), .int .i64 (0), .int .u16 (0)]) (by rw [hX_])
   replace hs := hs.reslot (d := 4) (v := .int .u8 (((((upSh (rByte bs R).1 3) / (2#8)).toNat : Nat) : Int))) (v' := .int .u8 ((((upSh (rByte bs R).1 4).toNat : Nat) : Int))) rfl (Option.some.inj rfl)
   replace hs := hs.reorder (.c (.s .z) (.c .z .n))
   exact ⟨q2, hs.sub (.c rfl (.c rfl (.c rfl (.c rfl .n)))), (by rw [hS_]; exact hT_), (upS_le (m := (rByte bs R).1) (R := (rByte bs R).2) (bs := bs) (by omega) 4).1⟩
  clear hs w a; rintro a w ⟨q3, hs, hJ140, hJ141⟩
  refine then_n ?_
  refine rounds_in ?_
  refine wp_cut (fun a w => ∃ q4 : Value, St 61 [(0, .pointer (some ⟨g, 0, none⟩)), (1, .pointer (some ⟨h, 0, none⟩)), (4, .int .u8 ((((upSh (rByte bs R).1 5).toNat : Nat) : Int))), (5, .int .i64 (5))] w0 [g, h] [blk g [q4, .int .i64 (((((upS bs (rByte bs R).1 (rByte bs R).2 5)).p : Nat) : Int)), .int .i64 (((((upS bs (rByte bs R).1 (rByte bs R).2 5)).e : Nat) : Int))] 44, blk h [.int .i64 (k), .int .i64 (idn), .int .i64 (upX bs (rByte bs R).1 (rByte bs R).2 0), .int .i64 (upX bs (rByte bs R).1 (rByte bs R).2 1), .int .i64 (upX bs (rByte bs R).1 (rByte bs R).2 2), .int .i64 (upX bs (rByte bs R).1 (rByte bs R).2 3), .int .i64 (upX bs (rByte bs R).1 (rByte bs R).2 4), .int .i64 (0), .int .u16 (0)] 25] a w ∧ Tr bs u R.p q4 (upS bs (rByte bs R).1 (rByte bs R).2 5).p ∧ (upS bs (rByte bs R).1 (rByte bs R).2 5).p ≤ bs.length) ?_ ?_
  ·
   refine wp_seq_k fun K142 hK143 => ?_
   refine wp_seq_k fun K144 hK145 => ?_
   refine wp_region_lit ?_
   refine st_run 2 [(18, .bool (true)), (17, .int .i64 (4))] hs .n (by kernel_rfl) (by kernel_rfl) (by kernel_rfl) ?_; clear hs a; intro a hs
   refine wpList_nil ?_
   refine then_n (hK145 _ _ ?_)
   refine wp_cond_true (hs.ev rfl) ?_
   refine wp_skip ?_
   refine then_n (hK143 _ _ ?_)
   refine wp_seq_k fun K146 hK147 => ?_
   refine wp_block ?_
   refine wp_seq_k fun K148 hK149 => ?_
   refine wp_seq_k fun K150 hK151 => ?_
   refine wp_region_lit ?_
   refine st_mv hs rfl rfl ?_; clear hs w a; intro a w hs
   refine st_rem_u8 (X := upSh (rByte bs R).1 4) (Y := 2#8) hs rfl rfl rfl (by decide) (by decide) rfl ?_; clear hs w a; intro a w hs
   refine st_eql hs rfl rfl rfl ?_; clear hs w a; intro a w hs
   refine wpList_nil ?_
   refine then_n (hK151 _ _ ?_)
   refine wp_if hs rfl (fun hc152 => ?_) (fun hc152 => ?_)
   ·
    replace hc152 := eq_of_beq hc152
    have hz_ := upBit_rt (m := (rByte bs R).1) (i := 4) (by assumption)
    refine wp_seq_k fun K153 hK154 => ?_
    refine wp_region_lit ?_
    refine st_as hs rfl rfl ?_; clear hs w a; intro a w hs
    refine wpList_nil ?_
    refine then_n (hK154 _ _ ?_)
    refine wp_seq_k fun K155 hK156 => ?_
    refine wp_seq_k fun K157 hK158 => ?_
    refine wp_region_lit ?_
    refine st_run 2 [(25, .bool (true)), (24, .int .i64 (4))] hs .n (by kernel_rfl) (by kernel_rfl) (by kernel_rfl) ?_; clear hs a; intro a hs
    refine wpList_nil ?_
    refine then_n (hK158 _ _ ?_)
    refine wp_cond_true (hs.ev rfl) ?_
    refine wp_region_lit ?_
    refine st_mv hs rfl rfl ?_; clear hs w a; intro a w hs
    refine st_call hs (.c rfl .n) Try.call73 (.c .z .n) (mint_ok  g _ bs (((upS bs (rByte bs R).1 (rByte bs R).2 4))) _ (hJ140 _ _ (hs.mem.rd1 hb (.c .z .n))) (hs.mem.del .z) (by omega) (by simp only [maxLen]; omega)) rfl ?_; clear hs w a; rintro _ _ a w ⟨rfl, rfl⟩ hs; simp only [List.cons_append, List.nil_append] at hs
    have hk159 := rInt_le (bs := bs) (R := ((upS bs (rByte bs R).1 (rByte bs R).2 4))) (by omega)
    refine st_as hs rfl rfl ?_; clear hs w a; intro a w hs
    refine wpList_nil ?_
    refine then_n (hK156 _ _ ?_)
    refine wp_seq_k fun K160 hK161 => ?_
    refine wp_seq_k fun K162 hK163 => ?_
    refine wp_region_lit ?_
    refine st_run 2 [(32, .bool (((rInt bs (((upS bs (rByte bs R).1 (rByte bs R).2 4)))).1 : Int) == 0)), (31, .int .i64 ((rInt bs (((upS bs (rByte bs R).1 (rByte bs R).2 4)))).1))] hs .n (by kernel_rfl) (by kernel_rfl) (by kernel_rfl) ?_; clear hs a; intro a hs
    refine wpList_nil ?_
    refine then_n (hK163 _ _ ?_)
    refine wp_if hs rfl (fun hc164 => ?_) (fun hc164 => ?_)
    ·
     replace hc164 := eq_of_beq hc164
     refine wp_region_lit ?_
     refine st_mv hs rfl rfl ?_; clear hs w a; intro a w hs
     refine st_call hs (.c rfl (.c rfl .n)) Try.call56 (.c .z .n) (mfail_ok 7 g _ bs (((rInt bs (((upS bs (rByte bs R).1 (rByte bs R).2 4)))).2)) _ ((uNext_tr (p := (((upS bs (rByte bs R).1 (rByte bs R).2 4))).p) (p' := ((rInt bs (((upS bs (rByte bs R).1 (rByte bs R).2 4)))).2).p) (by omega) (by omega)) _ _ (hJ140 _ _ (hs.mem.rd1 hb (.c .z .n)))) (hs.mem.del .z) (by omega) (by simp only [maxLen]; omega)) rfl ?_; clear hs w a; rintro _ _ a w ⟨rfl, rfl⟩ hs; simp only [List.cons_append, List.nil_append] at hs
     have hk165 := rFail_le (bs := bs) (R := ((rInt bs (((upS bs (rByte bs R).1 (rByte bs R).2 4)))).2)) (e := 7) (by omega)
     refine wpList_nil ?_
     refine then_n (hK161 _ _ ?_)
     refine wp_block ?_
     refine wp_seq_k fun K166 hK167 => ?_
     refine wp_region_lit ?_
     refine st_run 3 [(40, .bool (false)), (42, .bool (false)), (41, .int .i64 (4))] hs .n (by kernel_rfl) (by kernel_rfl) (by kernel_rfl) ?_; clear hs a; intro a hs
     refine wpList_nil ?_
     refine then_n (hK167 _ _ ?_)
     refine wp_cond_false (hs.ev rfl) ?_
     refine wp_seq_k fun K168 hK169 => ?_
     refine wp_region_lit ?_
     refine st_run 3 [(49, .bool (true)), (51, .bool (true)), (50, .int .i64 (4))] hs .n (by kernel_rfl) (by kernel_rfl) (by kernel_rfl) ?_; clear hs a; intro a hs
     refine wpList_nil ?_
     refine then_n (hK169 _ _ ?_)
     refine wp_cond_true (hs.ev rfl) ?_
     refine wp_region_lit ?_
     refine st_run 7 [(58, .pointer (some ⟨h, 6, none⟩)), (57, .pointer (some ⟨h, 5, none⟩)), (56, .pointer (some ⟨h, 0, none⟩)), (55, .int .i64 ((rInt bs (((upS bs (rByte bs R).1 (rByte bs R).2 4)))).1)), (54, .int .i64 (1)), (53, .int .i64 (4)), (52, .pointer (some ⟨h, 0, none⟩))] hs .n (by kernel_rfl) (by kernel_rfl) (by kernel_rfl) ?_; clear hs a; intro a hs
     refine st_stB hs rfl rfl (.s .z) (.s (.s (.s (.s (.s (.s .z)))))) rfl Try.sizeOf2 ?_; clear hs w a; intro a w hs
     refine wpList_nil ?_
     refine in_n ?_
     refine then_n (hK149 _ _ ?_)
     refine wp_region_lit ?_
     refine st_mv hs rfl rfl ?_; clear hs w a; intro a w hs
     refine st_quo_u8 (X := upSh (rByte bs R).1 4) (Y := 2#8) hs rfl rfl rfl (by decide) (by decide) rfl ?_; clear hs w a; intro a w hs
     refine st_as hs rfl rfl ?_; clear hs w a; intro a w hs
     refine wpList_nil ?_
     refine in_n ?_
     refine then_n (hK147 _ _ ?_)
     refine wp_region_lit ?_
     refine st_run 3 [(5, .int .i64 (5)), (20, .int .i64 (5)), (19, .int .i64 (4))] hs .n (by kernel_rfl) (by kernel_rfl) (by kernel_rfl) ?_; clear hs a; intro a hs
     refine wpList_nil ?_
     refine then_n ?_
     have hT_ : Tr bs u R.p ((id ((uNext q3 bs.length (((upS bs (rByte bs R).1 (rByte bs R).2 4))).p ((rInt bs (((upS bs (rByte bs R).1 (rByte bs R).2 4)))).2).p)))) (((rFail 7 (((rInt bs (((upS bs (rByte bs R).1 (rByte bs R).2 4)))).2))))).p := (Tr.trans (Tr.trans (Tr.trans Tr.refl hJ140) (uNext_tr (p := (((upS bs (rByte bs R).1 (rByte bs R).2 4))).p) (p' := ((rInt bs (((upS bs (rByte bs R).1 (rByte bs R).2 4)))).2).p) (by omega) (by omega))) (fail_tr (bs := bs) (R := ((rInt bs (((upS bs (rByte bs R).1 (rByte bs R).2 4)))).2)) (e := 7)))
     have hS_ : (upS bs (rByte bs R).1 (rByte bs R).2 5) = ((rFail 7 (((rInt bs (((upS bs (rByte bs R).1 (rByte bs R).2 4)))).2)))) := upSZ hz_ (by assumption)
     have hX_ : upX bs (rByte bs R).1 (rByte bs R).2 4 = (rInt bs (((upS bs (rByte bs R).1 (rByte bs R).2 4)))).1 := upX_t hz_
     replace hs := hs.reblk (.s .z) (cs' := [(id ((uNext q3 bs.length (((upS bs (rByte bs R).1 (rByte bs R).2 4))).p ((rInt bs (((upS bs (rByte bs R).1 (rByte bs R).2 4)))).2).p))), .int .i64 ((((upS bs (rByte bs R).1 (rByte bs R).2 5).p : Nat) : Int)), .int .i64 ((((upS bs (rByte bs R).1 (rByte bs R).2 5).e : Nat) : Int))]) (by rw [hS_])
     replace hs := hs.reblk (.s .z) (cs' := [.int .i64 (k), .int .i64 (idn), .int .i64 (upX bs (rByte bs R).1 (rByte bs R).2 0), .int .i64 (upX bs (rByte bs R).1 (rByte bs R).2 1), .int .i64 (upX bs (rByte bs R).1 (rByte bs R).2 2), .int .i64 (upX bs (rByte bs R).1 (rByte bs R).2 3), .int .i64 (upX bs (rByte bs R).1 (rByte bs R).2 4), .int .i64 (0), .int .u16 (0)]) (by rw [hX_])
     replace hs := hs.reslot (d := 4) (v := .int .u8 (((((upSh (rByte bs R).1 4) / (2#8)).toNat : Nat) : Int))) (v' := .int .u8 ((((upSh (rByte bs R).1 5).toNat : Nat) : Int))) rfl (Option.some.inj rfl)
     replace hs := hs.reorder (.c (.s .z) (.c .z .n))
     exact ⟨(id ((uNext q3 bs.length (((upS bs (rByte bs R).1 (rByte bs R).2 4))).p ((rInt bs (((upS bs (rByte bs R).1 (rByte bs R).2 4)))).2).p))), hs.sub (.c rfl (.c rfl (.c rfl (.c rfl .n)))), (by rw [hS_]; exact hT_), (upS_le (m := (rByte bs R).1) (R := (rByte bs R).2) (bs := bs) (by omega) 5).1⟩
    replace hc164 := ne_of_beq_f hc164
    refine wp_skip ?_
    refine then_n (hK161 _ _ ?_)
    refine wp_block ?_
    refine wp_seq_k fun K170 hK171 => ?_
    refine wp_region_lit ?_
    refine st_run 3 [(40, .bool (false)), (42, .bool (false)), (41, .int .i64 (4))] hs .n (by kernel_rfl) (by kernel_rfl) (by kernel_rfl) ?_; clear hs a; intro a hs
    refine wpList_nil ?_
    refine then_n (hK171 _ _ ?_)
    refine wp_cond_false (hs.ev rfl) ?_
    refine wp_seq_k fun K172 hK173 => ?_
    refine wp_region_lit ?_
    refine st_run 3 [(49, .bool (true)), (51, .bool (true)), (50, .int .i64 (4))] hs .n (by kernel_rfl) (by kernel_rfl) (by kernel_rfl) ?_; clear hs a; intro a hs
    refine wpList_nil ?_
    refine then_n (hK173 _ _ ?_)
    refine wp_cond_true (hs.ev rfl) ?_
    refine wp_region_lit ?_
    refine st_run 7 [(58, .pointer (some ⟨h, 6, none⟩)), (57, .pointer (some ⟨h, 5, none⟩)), (56, .pointer (some ⟨h, 0, none⟩)), (55, .int .i64 ((rInt bs (((upS bs (rByte bs R).1 (rByte bs R).2 4)))).1)), (54, .int .i64 (1)), (53, .int .i64 (4)), (52, .pointer (some ⟨h, 0, none⟩))] hs .n (by kernel_rfl) (by kernel_rfl) (by kernel_rfl) ?_; clear hs a; intro a hs
    refine st_stB hs rfl rfl (.s .z) (.s (.s (.s (.s (.s (.s .z)))))) rfl Try.sizeOf2 ?_; clear hs w a; intro a w hs
    refine wpList_nil ?_
    refine in_n ?_
    refine then_n (hK149 _ _ ?_)
    refine wp_region_lit ?_
    refine st_mv hs rfl rfl ?_; clear hs w a; intro a w hs
    refine st_quo_u8 (X := upSh (rByte bs R).1 4) (Y := 2#8) hs rfl rfl rfl (by decide) (by decide) rfl ?_; clear hs w a; intro a w hs
    refine st_as hs rfl rfl ?_; clear hs w a; intro a w hs
    refine wpList_nil ?_
    refine in_n ?_
    refine then_n (hK147 _ _ ?_)
    refine wp_region_lit ?_
    refine st_run 3 [(5, .int .i64 (5)), (20, .int .i64 (5)), (19, .int .i64 (4))] hs .n (by kernel_rfl) (by kernel_rfl) (by kernel_rfl) ?_; clear hs a; intro a hs
    refine wpList_nil ?_
    refine then_n ?_
    have hT_ : Tr bs u R.p ((uNext q3 bs.length (((upS bs (rByte bs R).1 (rByte bs R).2 4))).p ((rInt bs (((upS bs (rByte bs R).1 (rByte bs R).2 4)))).2).p)) (((rInt bs (((upS bs (rByte bs R).1 (rByte bs R).2 4)))).2)).p := (Tr.trans (Tr.trans Tr.refl hJ140) (uNext_tr (p := (((upS bs (rByte bs R).1 (rByte bs R).2 4))).p) (p' := ((rInt bs (((upS bs (rByte bs R).1 (rByte bs R).2 4)))).2).p) (by omega) (by omega)))
    have hS_ : (upS bs (rByte bs R).1 (rByte bs R).2 5) = ((rInt bs (((upS bs (rByte bs R).1 (rByte bs R).2 4)))).2) := upSN hz_ (by assumption)
    have hX_ : upX bs (rByte bs R).1 (rByte bs R).2 4 = (rInt bs (((upS bs (rByte bs R).1 (rByte bs R).2 4)))).1 := upX_t hz_
    replace hs := hs.reblk (.s .z) (cs' := [(uNext q3 bs.length (((upS bs (rByte bs R).1 (rByte bs R).2 4))).p ((rInt bs (((upS bs (rByte bs R).1 (rByte bs R).2 4)))).2).p), .int .i64 ((((upS bs (rByte bs R).1 (rByte bs R).2 5).p : Nat) : Int)), .int .i64 ((((upS bs (rByte bs R).1 (rByte bs R).2 5).e : Nat) : Int))]) (by rw [hS_])
    replace hs := hs.reblk (.s .z) (cs' := [.int .i64 (k), .int .i64 (idn), .int .i64 (upX bs (rByte bs R).1 (rByte bs R).2 0), .int .i64 (upX bs (rByte bs R).1 (rByte bs R).2 1), .int .i64 (upX bs (rByte bs R).1 (rByte bs R).2 2), .int .i64 (upX bs (rByte bs R).1 (rByte bs R).2 3), .int .i64 (upX bs (rByte bs R).1 (rByte bs R).2 4), .int .i64 (0), .int .u16 (0)]) (by rw [hX_])
    replace hs := hs.reslot (d := 4) (v := .int .u8 (((((upSh (rByte bs R).1 4) / (2#8)).toNat : Nat) : Int))) (v' := .int .u8 ((((upSh (rByte bs R).1 5).toNat : Nat) : Int))) rfl (Option.some.inj rfl)
    replace hs := hs.reorder (.c (.s .z) (.c .z .n))
    exact ⟨(uNext q3 bs.length (((upS bs (rByte bs R).1 (rByte bs R).2 4))).p ((rInt bs (((upS bs (rByte bs R).1 (rByte bs R).2 4)))).2).p), hs.sub (.c rfl (.c rfl (.c rfl (.c rfl .n)))), (by rw [hS_]; exact hT_), (upS_le (m := (rByte bs R).1) (R := (rByte bs R).2) (bs := bs) (by omega) 5).1⟩
   replace hc152 := ne_of_beq_f hc152
   have hz_ := upBit_rf (m := (rByte bs R).1) (i := 4) (by assumption)
   refine wp_skip ?_
   refine then_n (hK149 _ _ ?_)
   refine wp_region_lit ?_
   refine st_mv hs rfl rfl ?_; clear hs w a; intro a w hs
   refine st_quo_u8 (X := upSh (rByte bs R).1 4) (Y := 2#8) hs rfl rfl rfl (by decide) (by decide) rfl ?_; clear hs w a; intro a w hs
   refine st_as hs rfl rfl ?_; clear hs w a; intro a w hs
   refine wpList_nil ?_
   refine in_n ?_
   refine then_n (hK147 _ _ ?_)
   refine wp_region_lit ?_
   refine st_run 3 [(5, .int .i64 (5)), (20, .int .i64 (5)), (19, .int .i64 (4))] hs .n (by kernel_rfl) (by kernel_rfl) (by kernel_rfl) ?_; clear hs a; intro a hs
   refine wpList_nil ?_
   refine then_n ?_
   have hT_ : Tr bs u R.p q3 (((upS bs (rByte bs R).1 (rByte bs R).2 4))).p := (Tr.trans Tr.refl hJ140)
   have hS_ : (upS bs (rByte bs R).1 (rByte bs R).2 5) = ((upS bs (rByte bs R).1 (rByte bs R).2 4)) := upS_f hz_
   have hX_ : upX bs (rByte bs R).1 (rByte bs R).2 4 = 0 := upX_f hz_
   replace hs := hs.reblk .z (cs' := [q3, .int .i64 ((((upS bs (rByte bs R).1 (rByte bs R).2 5).p : Nat) : Int)), .int .i64 ((((upS bs (rByte bs R).1 (rByte bs R).2 5).e : Nat) : Int))]) (by rw [hS_])
   replace hs := hs.reblk (.s .z) (cs' := [.int .i64 (k), .int .i64 (idn), .int .i64 (upX bs (rByte bs R).1 (rByte bs R).2 0), .int .i64 (upX bs (rByte bs R).1 (rByte bs R).2 1), .int .i64 (upX bs (rByte bs R).1 (rByte bs R).2 2), .int .i64 (upX bs (rByte bs R).1 (rByte bs R).2 3), .int .i64 (upX bs (rByte bs R).1 (rByte bs R).2 4), .int .i64 (0), .int .u16 (0)]) (by rw [hX_])
   replace hs := hs.reslot (d := 4) (v := .int .u8 (((((upSh (rByte bs R).1 4) / (2#8)).toNat : Nat) : Int))) (v' := .int .u8 ((((upSh (rByte bs R).1 5).toNat : Nat) : Int))) rfl (Option.some.inj rfl)
   replace hs := hs.reorder (.c (.s .z) (.c .z .n))
   exact ⟨q3, hs.sub (.c rfl (.c rfl (.c rfl (.c rfl .n)))), (by rw [hS_]; exact hT_), (upS_le (m := (rByte bs R).1) (R := (rByte bs R).2) (bs := bs) (by omega) 5).1⟩
  clear hs w a; rintro a w ⟨q4, hs, hJ174, hJ175⟩
  refine then_n ?_
  refine rounds_in ?_
  refine wp_cut (fun a w => ∃ q5 : Value, St 61 [(0, .pointer (some ⟨g, 0, none⟩)), (1, .pointer (some ⟨h, 0, none⟩)), (4, .int .u8 ((((upSh (rByte bs R).1 6).toNat : Nat) : Int))), (5, .int .i64 (6))] w0 [g, h] [blk g [q5, .int .i64 (((((upS bs (rByte bs R).1 (rByte bs R).2 6)).p : Nat) : Int)), .int .i64 (((((upS bs (rByte bs R).1 (rByte bs R).2 6)).e : Nat) : Int))] 44, blk h [.int .i64 (k), .int .i64 (idn), .int .i64 (upX bs (rByte bs R).1 (rByte bs R).2 0), .int .i64 (upX bs (rByte bs R).1 (rByte bs R).2 1), .int .i64 (upX bs (rByte bs R).1 (rByte bs R).2 2), .int .i64 (upX bs (rByte bs R).1 (rByte bs R).2 3), .int .i64 (upX bs (rByte bs R).1 (rByte bs R).2 4), .int .i64 (upX bs (rByte bs R).1 (rByte bs R).2 5), .int .u16 (0)] 25] a w ∧ Tr bs u R.p q5 (upS bs (rByte bs R).1 (rByte bs R).2 6).p ∧ (upS bs (rByte bs R).1 (rByte bs R).2 6).p ≤ bs.length) ?_ ?_
  ·
   refine wp_seq_k fun K176 hK177 => ?_
   refine wp_seq_k fun K178 hK179 => ?_
   refine wp_region_lit ?_
   refine st_run 2 [(18, .bool (true)), (17, .int .i64 (5))] hs .n (by kernel_rfl) (by kernel_rfl) (by kernel_rfl) ?_; clear hs a; intro a hs
   refine wpList_nil ?_
   refine then_n (hK179 _ _ ?_)
   refine wp_cond_true (hs.ev rfl) ?_
   refine wp_skip ?_
   refine then_n (hK177 _ _ ?_)
   refine wp_seq_k fun K180 hK181 => ?_
   refine wp_block ?_
   refine wp_seq_k fun K182 hK183 => ?_
   refine wp_seq_k fun K184 hK185 => ?_
   refine wp_region_lit ?_
   refine st_mv hs rfl rfl ?_; clear hs w a; intro a w hs
   refine st_rem_u8 (X := upSh (rByte bs R).1 5) (Y := 2#8) hs rfl rfl rfl (by decide) (by decide) rfl ?_; clear hs w a; intro a w hs
   refine st_eql hs rfl rfl rfl ?_; clear hs w a; intro a w hs
   refine wpList_nil ?_
   refine then_n (hK185 _ _ ?_)
   refine wp_if hs rfl (fun hc186 => ?_) (fun hc186 => ?_)
   ·
    replace hc186 := eq_of_beq hc186
    have hz_ := upBit_rt (m := (rByte bs R).1) (i := 5) (by assumption)
    refine wp_seq_k fun K187 hK188 => ?_
    refine wp_region_lit ?_
    refine st_as hs rfl rfl ?_; clear hs w a; intro a w hs
    refine wpList_nil ?_
    refine then_n (hK188 _ _ ?_)
    refine wp_seq_k fun K189 hK190 => ?_
    refine wp_seq_k fun K191 hK192 => ?_
    refine wp_region_lit ?_
    refine st_run 2 [(25, .bool (true)), (24, .int .i64 (5))] hs .n (by kernel_rfl) (by kernel_rfl) (by kernel_rfl) ?_; clear hs a; intro a hs
    refine wpList_nil ?_
    refine then_n (hK192 _ _ ?_)
    refine wp_cond_true (hs.ev rfl) ?_
    refine wp_region_lit ?_
    refine st_mv hs rfl rfl ?_; clear hs w a; intro a w hs
    refine st_call hs (.c rfl .n) Try.call73 (.c .z .n) (mint_ok  g _ bs (((upS bs (rByte bs R).1 (rByte bs R).2 5))) _ (hJ174 _ _ (hs.mem.rd1 hb (.c .z .n))) (hs.mem.del .z) (by omega) (by simp only [maxLen]; omega)) rfl ?_; clear hs w a; rintro _ _ a w ⟨rfl, rfl⟩ hs; simp only [List.cons_append, List.nil_append] at hs
    have hk193 := rInt_le (bs := bs) (R := ((upS bs (rByte bs R).1 (rByte bs R).2 5))) (by omega)
    refine st_as hs rfl rfl ?_; clear hs w a; intro a w hs
    refine wpList_nil ?_
    refine then_n (hK190 _ _ ?_)
    refine wp_seq_k fun K194 hK195 => ?_
    refine wp_seq_k fun K196 hK197 => ?_
    refine wp_region_lit ?_
    refine st_run 2 [(32, .bool (((rInt bs (((upS bs (rByte bs R).1 (rByte bs R).2 5)))).1 : Int) == 0)), (31, .int .i64 ((rInt bs (((upS bs (rByte bs R).1 (rByte bs R).2 5)))).1))] hs .n (by kernel_rfl) (by kernel_rfl) (by kernel_rfl) ?_; clear hs a; intro a hs
    refine wpList_nil ?_
    refine then_n (hK197 _ _ ?_)
    refine wp_if hs rfl (fun hc198 => ?_) (fun hc198 => ?_)
    ·
     replace hc198 := eq_of_beq hc198
     refine wp_region_lit ?_
     refine st_mv hs rfl rfl ?_; clear hs w a; intro a w hs
     refine st_call hs (.c rfl (.c rfl .n)) Try.call56 (.c .z .n) (mfail_ok 7 g _ bs (((rInt bs (((upS bs (rByte bs R).1 (rByte bs R).2 5)))).2)) _ ((uNext_tr (p := (((upS bs (rByte bs R).1 (rByte bs R).2 5))).p) (p' := ((rInt bs (((upS bs (rByte bs R).1 (rByte bs R).2 5)))).2).p) (by omega) (by omega)) _ _ (hJ174 _ _ (hs.mem.rd1 hb (.c .z .n)))) (hs.mem.del .z) (by omega) (by simp only [maxLen]; omega)) rfl ?_; clear hs w a; rintro _ _ a w ⟨rfl, rfl⟩ hs; simp only [List.cons_append, List.nil_append] at hs
     have hk199 := rFail_le (bs := bs) (R := ((rInt bs (((upS bs (rByte bs R).1 (rByte bs R).2 5)))).2)) (e := 7) (by omega)
     refine wpList_nil ?_
     refine then_n (hK195 _ _ ?_)
     refine wp_block ?_
     refine wp_seq_k fun K200 hK201 => ?_
     refine wp_region_lit ?_
     refine st_run 3 [(40, .bool (false)), (42, .bool (false)), (41, .int .i64 (5))] hs .n (by kernel_rfl) (by kernel_rfl) (by kernel_rfl) ?_; clear hs a; intro a hs
     refine wpList_nil ?_
     refine then_n (hK201 _ _ ?_)
     refine wp_cond_false (hs.ev rfl) ?_
     refine wp_seq_k fun K202 hK203 => ?_
     refine wp_region_lit ?_
     refine st_run 3 [(49, .bool (true)), (51, .bool (true)), (50, .int .i64 (5))] hs .n (by kernel_rfl) (by kernel_rfl) (by kernel_rfl) ?_; clear hs a; intro a hs
     refine wpList_nil ?_
     refine then_n (hK203 _ _ ?_)
     refine wp_cond_true (hs.ev rfl) ?_
     refine wp_region_lit ?_
     refine st_run 7 [(58, .pointer (some ⟨h, 7, none⟩)), (57, .pointer (some ⟨h, 5, none⟩)), (56, .pointer (some ⟨h, 0, none⟩)), (55, .int .i64 ((rInt bs (((upS bs (rByte bs R).1 (rByte bs R).2 5)))).1)), (54, .int .i64 (2)), (53, .int .i64 (5)), (52, .pointer (some ⟨h, 0, none⟩))] hs .n (by kernel_rfl) (by kernel_rfl) (by kernel_rfl) ?_; clear hs a; intro a hs
     refine st_stB hs rfl rfl (.s .z) (.s (.s (.s (.s (.s (.s (.s .z))))))) rfl Try.sizeOf2 ?_; clear hs w a; intro a w hs
     refine wpList_nil ?_
     refine in_n ?_
     refine then_n (hK183 _ _ ?_)
     refine wp_region_lit ?_
     refine st_mv hs rfl rfl ?_; clear hs w a; intro a w hs
     refine st_quo_u8 (X := upSh (rByte bs R).1 5) (Y := 2#8) hs rfl rfl rfl (by decide) (by decide) rfl ?_; clear hs w a; intro a w hs
     refine st_as hs rfl rfl ?_; clear hs w a; intro a w hs
     refine wpList_nil ?_
     refine in_n ?_
     refine then_n (hK181 _ _ ?_)
     refine wp_region_lit ?_
     refine st_run 3 [(5, .int .i64 (6)), (20, .int .i64 (6)), (19, .int .i64 (5))] hs .n (by kernel_rfl) (by kernel_rfl) (by kernel_rfl) ?_; clear hs a; intro a hs
     refine wpList_nil ?_
     refine then_n ?_
     have hT_ : Tr bs u R.p ((id ((uNext q4 bs.length (((upS bs (rByte bs R).1 (rByte bs R).2 5))).p ((rInt bs (((upS bs (rByte bs R).1 (rByte bs R).2 5)))).2).p)))) (((rFail 7 (((rInt bs (((upS bs (rByte bs R).1 (rByte bs R).2 5)))).2))))).p := (Tr.trans (Tr.trans (Tr.trans Tr.refl hJ174) (uNext_tr (p := (((upS bs (rByte bs R).1 (rByte bs R).2 5))).p) (p' := ((rInt bs (((upS bs (rByte bs R).1 (rByte bs R).2 5)))).2).p) (by omega) (by omega))) (fail_tr (bs := bs) (R := ((rInt bs (((upS bs (rByte bs R).1 (rByte bs R).2 5)))).2)) (e := 7)))
     have hS_ : (upS bs (rByte bs R).1 (rByte bs R).2 6) = ((rFail 7 (((rInt bs (((upS bs (rByte bs R).1 (rByte bs R).2 5)))).2)))) := upSZ hz_ (by assumption)
     have hX_ : upX bs (rByte bs R).1 (rByte bs R).2 5 = (rInt bs (((upS bs (rByte bs R).1 (rByte bs R).2 5)))).1 := upX_t hz_
     replace hs := hs.reblk (.s .z) (cs' := [(id ((uNext q4 bs.length (((upS bs (rByte bs R).1 (rByte bs R).2 5))).p ((rInt bs (((upS bs (rByte bs R).1 (rByte bs R).2 5)))).2).p))), .int .i64 ((((upS bs (rByte bs R).1 (rByte bs R).2 6).p : Nat) : Int)), .int .i64 ((((upS bs (rByte bs R).1 (rByte bs R).2 6).e : Nat) : Int))]) (by rw [hS_])
     replace hs := hs.reblk (.s .z) (cs' := [.int .i64 (k), .int .i64 (idn), .int .i64 (upX bs (rByte bs R).1 (rByte bs R).2 0), .int .i64 (upX bs (rByte bs R).1 (rByte bs R).2 1), .int .i64 (upX bs (rByte bs R).1 (rByte bs R).2 2), .int .i64 (upX bs (rByte bs R).1 (rByte bs R).2 3), .int .i64 (upX bs (rByte bs R).1 (rByte bs R).2 4), .int .i64 (upX bs (rByte bs R).1 (rByte bs R).2 5), .int .u16 (0)]) (by rw [hX_])
     replace hs := hs.reslot (d := 4) (v := .int .u8 (((((upSh (rByte bs R).1 5) / (2#8)).toNat : Nat) : Int))) (v' := .int .u8 ((((upSh (rByte bs R).1 6).toNat : Nat) : Int))) rfl (Option.some.inj rfl)
     replace hs := hs.reorder (.c (.s .z) (.c .z .n))
     exact ⟨(id ((uNext q4 bs.length (((upS bs (rByte bs R).1 (rByte bs R).2 5))).p ((rInt bs (((upS bs (rByte bs R).1 (rByte bs R).2 5)))).2).p))), hs.sub (.c rfl (.c rfl (.c rfl (.c rfl .n)))), (by rw [hS_]; exact hT_), (upS_le (m := (rByte bs R).1) (R := (rByte bs R).2) (bs := bs) (by omega) 6).1⟩
    replace hc198 := ne_of_beq_f hc198
    refine wp_skip ?_
    refine then_n (hK195 _ _ ?_)
    refine wp_block ?_
    refine wp_seq_k fun K204 hK205 => ?_
    refine wp_region_lit ?_
    refine st_run 3 [(40, .bool (false)), (42, .bool (false)), (41, .int .i64 (5))] hs .n (by kernel_rfl) (by kernel_rfl) (by kernel_rfl) ?_; clear hs a; intro a hs
    refine wpList_nil ?_
    refine then_n (hK205 _ _ ?_)
    refine wp_cond_false (hs.ev rfl) ?_
    refine wp_seq_k fun K206 hK207 => ?_
    refine wp_region_lit ?_
    refine st_run 3 [(49, .bool (true)), (51, .bool (true)), (50, .int .i64 (5))] hs .n (by kernel_rfl) (by kernel_rfl) (by kernel_rfl) ?_; clear hs a; intro a hs
    refine wpList_nil ?_
    refine then_n (hK207 _ _ ?_)
    refine wp_cond_true (hs.ev rfl) ?_
    refine wp_region_lit ?_
    refine st_run 7 [(58, .pointer (some ⟨h, 7, none⟩)), (57, .pointer (some ⟨h, 5, none⟩)), (56, .pointer (some ⟨h, 0, none⟩)), (55, .int .i64 ((rInt bs (((upS bs (rByte bs R).1 (rByte bs R).2 5)))).1)), (54, .int .i64 (2)), (53, .int .i64 (5)), (52, .pointer (some ⟨h, 0, none⟩))] hs .n (by kernel_rfl) (by kernel_rfl) (by kernel_rfl) ?_; clear hs a; intro a hs
    refine st_stB hs rfl rfl (.s .z) (.s (.s (.s (.s (.s (.s (.s .z))))))) rfl Try.sizeOf2 ?_; clear hs w a; intro a w hs
    refine wpList_nil ?_
    refine in_n ?_
    refine then_n (hK183 _ _ ?_)
    refine wp_region_lit ?_
    refine st_mv hs rfl rfl ?_; clear hs w a; intro a w hs
    refine st_quo_u8 (X := upSh (rByte bs R).1 5) (Y := 2#8) hs rfl rfl rfl (by decide) (by decide) rfl ?_; clear hs w a; intro a w hs
    refine st_as hs rfl rfl ?_; clear hs w a; intro a w hs
    refine wpList_nil ?_
    refine in_n ?_
    refine then_n (hK181 _ _ ?_)
    refine wp_region_lit ?_
    refine st_run 3 [(5, .int .i64 (6)), (20, .int .i64 (6)), (19, .int .i64 (5))] hs .n (by kernel_rfl) (by kernel_rfl) (by kernel_rfl) ?_; clear hs a; intro a hs
    refine wpList_nil ?_
    refine then_n ?_
    have hT_ : Tr bs u R.p ((uNext q4 bs.length (((upS bs (rByte bs R).1 (rByte bs R).2 5))).p ((rInt bs (((upS bs (rByte bs R).1 (rByte bs R).2 5)))).2).p)) (((rInt bs (((upS bs (rByte bs R).1 (rByte bs R).2 5)))).2)).p := (Tr.trans (Tr.trans Tr.refl hJ174) (uNext_tr (p := (((upS bs (rByte bs R).1 (rByte bs R).2 5))).p) (p' := ((rInt bs (((upS bs (rByte bs R).1 (rByte bs R).2 5)))).2).p) (by omega) (by omega)))
    have hS_ : (upS bs (rByte bs R).1 (rByte bs R).2 6) = ((rInt bs (((upS bs (rByte bs R).1 (rByte bs R).2 5)))).2) := upSN hz_ (by assumption)
    have hX_ : upX bs (rByte bs R).1 (rByte bs R).2 5 = (rInt bs (((upS bs (rByte bs R).1 (rByte bs R).2 5)))).1 := upX_t hz_
    replace hs := hs.reblk (.s .z) (cs' := [(uNext q4 bs.length (((upS bs (rByte bs R).1 (rByte bs R).2 5))).p ((rInt bs (((upS bs (rByte bs R).1 (rByte bs R).2 5)))).2).p), .int .i64 ((((upS bs (rByte bs R).1 (rByte bs R).2 6).p : Nat) : Int)), .int .i64 ((((upS bs (rByte bs R).1 (rByte bs R).2 6).e : Nat) : Int))]) (by rw [hS_])
    replace hs := hs.reblk (.s .z) (cs' := [.int .i64 (k), .int .i64 (idn), .int .i64 (upX bs (rByte bs R).1 (rByte bs R).2 0), .int .i64 (upX bs (rByte bs R).1 (rByte bs R).2 1), .int .i64 (upX bs (rByte bs R).1 (rByte bs R).2 2), .int .i64 (upX bs (rByte bs R).1 (rByte bs R).2 3), .int .i64 (upX bs (rByte bs R).1 (rByte bs R).2 4), .int .i64 (upX bs (rByte bs R).1 (rByte bs R).2 5), .int .u16 (0)]) (by rw [hX_])
    replace hs := hs.reslot (d := 4) (v := .int .u8 (((((upSh (rByte bs R).1 5) / (2#8)).toNat : Nat) : Int))) (v' := .int .u8 ((((upSh (rByte bs R).1 6).toNat : Nat) : Int))) rfl (Option.some.inj rfl)
    replace hs := hs.reorder (.c (.s .z) (.c .z .n))
    exact ⟨(uNext q4 bs.length (((upS bs (rByte bs R).1 (rByte bs R).2 5))).p ((rInt bs (((upS bs (rByte bs R).1 (rByte bs R).2 5)))).2).p), hs.sub (.c rfl (.c rfl (.c rfl (.c rfl .n)))), (by rw [hS_]; exact hT_), (upS_le (m := (rByte bs R).1) (R := (rByte bs R).2) (bs := bs) (by omega) 6).1⟩
   replace hc186 := ne_of_beq_f hc186
   have hz_ := upBit_rf (m := (rByte bs R).1) (i := 5) (by assumption)
   refine wp_skip ?_
   refine then_n (hK183 _ _ ?_)
   refine wp_region_lit ?_
   refine st_mv hs rfl rfl ?_; clear hs w a; intro a w hs
   refine st_quo_u8 (X := upSh (rByte bs R).1 5) (Y := 2#8) hs rfl rfl rfl (by decide) (by decide) rfl ?_; clear hs w a; intro a w hs
   refine st_as hs rfl rfl ?_; clear hs w a; intro a w hs
   refine wpList_nil ?_
   refine in_n ?_
   refine then_n (hK181 _ _ ?_)
   refine wp_region_lit ?_
   refine st_run 3 [(5, .int .i64 (6)), (20, .int .i64 (6)), (19, .int .i64 (5))] hs .n (by kernel_rfl) (by kernel_rfl) (by kernel_rfl) ?_; clear hs a; intro a hs
   refine wpList_nil ?_
   refine then_n ?_
   have hT_ : Tr bs u R.p q4 (((upS bs (rByte bs R).1 (rByte bs R).2 5))).p := (Tr.trans Tr.refl hJ174)
   have hS_ : (upS bs (rByte bs R).1 (rByte bs R).2 6) = ((upS bs (rByte bs R).1 (rByte bs R).2 5)) := upS_f hz_
   have hX_ : upX bs (rByte bs R).1 (rByte bs R).2 5 = 0 := upX_f hz_
   replace hs := hs.reblk .z (cs' := [q4, .int .i64 ((((upS bs (rByte bs R).1 (rByte bs R).2 6).p : Nat) : Int)), .int .i64 ((((upS bs (rByte bs R).1 (rByte bs R).2 6).e : Nat) : Int))]) (by rw [hS_])
   replace hs := hs.reblk (.s .z) (cs' := [.int .i64 (k), .int .i64 (idn), .int .i64 (upX bs (rByte bs R).1 (rByte bs R).2 0), .int .i64 (upX bs (rByte bs R).1 (rByte bs R).2 1), .int .i64 (upX bs (rByte bs R).1 (rByte bs R).2 2), .int .i64 (upX bs (rByte bs R).1 (rByte bs R).2 3), .int .i64 (upX bs (rByte bs R).1 (rByte bs R).2 4), .int .i64 (upX bs (rByte bs R).1 (rByte bs R).2 5), .int .u16 (0)]) (by rw [hX_])
   replace hs := hs.reslot (d := 4) (v := .int .u8 (((((upSh (rByte bs R).1 5) / (2#8)).toNat : Nat) : Int))) (v' := .int .u8 ((((upSh (rByte bs R).1 6).toNat : Nat) : Int))) rfl (Option.some.inj rfl)
   replace hs := hs.reorder (.c (.s .z) (.c .z .n))
   exact ⟨q4, hs.sub (.c rfl (.c rfl (.c rfl (.c rfl .n)))), (by rw [hS_]; exact hT_), (upS_le (m := (rByte bs R).1) (R := (rByte bs R).2) (bs := bs) (by omega) 6).1⟩
  clear hs w a; rintro a w ⟨q5, hs, hJ208, hJ209⟩
  refine then_n ?_
  refine rounds_in ?_
  refine wp_cut (fun a w => ∃ q6 : Value, St 61 [(0, .pointer (some ⟨g, 0, none⟩)), (1, .pointer (some ⟨h, 0, none⟩)), (4, .int .u8 ((((upSh (rByte bs R).1 7).toNat : Nat) : Int))), (5, .int .i64 (7))] w0 [g, h] [blk g [q6, .int .i64 (((((upA bs (rByte bs R).1 (upS bs (rByte bs R).1 (rByte bs R).2 6)).2).p : Nat) : Int)), .int .i64 (((((upA bs (rByte bs R).1 (upS bs (rByte bs R).1 (rByte bs R).2 6)).2).e : Nat) : Int))] 44, blk h [.int .i64 (k), .int .i64 (idn), .int .i64 (upX bs (rByte bs R).1 (rByte bs R).2 0), .int .i64 (upX bs (rByte bs R).1 (rByte bs R).2 1), .int .i64 (upX bs (rByte bs R).1 (rByte bs R).2 2), .int .i64 (upX bs (rByte bs R).1 (rByte bs R).2 3), .int .i64 (upX bs (rByte bs R).1 (rByte bs R).2 4), .int .i64 (upX bs (rByte bs R).1 (rByte bs R).2 5), .int .u16 (((((upA bs (rByte bs R).1 (upS bs (rByte bs R).1 (rByte bs R).2 6)).1).toNat : Nat) : Int))] 25] a w ∧ Tr bs u R.p q6 (upA bs (rByte bs R).1 (upS bs (rByte bs R).1 (rByte bs R).2 6)).2.p ∧ (upA bs (rByte bs R).1 (upS bs (rByte bs R).1 (rByte bs R).2 6)).2.p ≤ bs.length) ?_ ?_
  ·
   refine wp_seq_k fun K210 hK211 => ?_
   refine wp_seq_k fun K212 hK213 => ?_
   refine wp_region_lit ?_
   refine st_run 2 [(18, .bool (true)), (17, .int .i64 (6))] hs .n (by kernel_rfl) (by kernel_rfl) (by kernel_rfl) ?_; clear hs a; intro a hs
   refine wpList_nil ?_
   refine then_n (hK213 _ _ ?_)
   refine wp_cond_true (hs.ev rfl) ?_
   refine wp_skip ?_
   refine then_n (hK211 _ _ ?_)
   refine wp_seq_k fun K214 hK215 => ?_
   refine wp_block ?_
   refine wp_seq_k fun K216 hK217 => ?_
   refine wp_seq_k fun K218 hK219 => ?_
   refine wp_region_lit ?_
   refine st_mv hs rfl rfl ?_; clear hs w a; intro a w hs
   refine st_rem_u8 (X := upSh (rByte bs R).1 6) (Y := 2#8) hs rfl rfl rfl (by decide) (by decide) rfl ?_; clear hs w a; intro a w hs
   refine st_eql hs rfl rfl rfl ?_; clear hs w a; intro a w hs
   refine wpList_nil ?_
   refine then_n (hK219 _ _ ?_)
   refine wp_if hs rfl (fun hc220 => ?_) (fun hc220 => ?_)
   ·
    replace hc220 := eq_of_beq hc220
    have hz_ := upBit_rt (m := (rByte bs R).1) (i := 6) (by assumption)
    refine wp_seq_k fun K221 hK222 => ?_
    refine wp_region_lit ?_
    refine st_as hs rfl rfl ?_; clear hs w a; intro a w hs
    refine wpList_nil ?_
    refine then_n (hK222 _ _ ?_)
    refine wp_seq_k fun K223 hK224 => ?_
    refine wp_seq_k fun K225 hK226 => ?_
    refine wp_region_lit ?_
    refine st_run 2 [(25, .bool (false)), (24, .int .i64 (6))] hs .n (by kernel_rfl) (by kernel_rfl) (by kernel_rfl) ?_; clear hs a; intro a hs
    refine wpList_nil ?_
    refine then_n (hK226 _ _ ?_)
    refine wp_cond_false (hs.ev rfl) ?_
    refine wp_region_lit ?_
    refine st_mv hs rfl rfl ?_; clear hs w a; intro a w hs
    refine st_call hs (.c rfl (.c rfl .n)) Try.call57 (.c .z .n) (muint_ok (65535#64) g _ bs (((upS bs (rByte bs R).1 (rByte bs R).2 6))) _ (hJ208 _ _ (hs.mem.rd1 hb (.c .z .n))) (hs.mem.del .z) (by omega) (by simp only [maxLen]; omega)) rfl ?_; clear hs w a; rintro _ _ a w ⟨rfl, rfl⟩ hs; simp only [List.cons_append, List.nil_append] at hs
    have hk227 := rUint_le (X := 65535#64) (bs := bs) (R := ((upS bs (rByte bs R).1 (rByte bs R).2 6))) (by omega)
    refine st_cv_u64_i64 (X := (rUint bs (65535#64) (((upS bs (rByte bs R).1 (rByte bs R).2 6)))).1) hs rfl rfl Try.underlying37 Try.underlying2 rfl ?_; clear hs w a; intro a w hs
    replace hs := hs.recell (v' := .int .i64 ((((rUint bs 65535#64 (upS bs (rByte bs R).1 (rByte bs R).2 6)).1.toNat : Nat) : Int))) (Option.some.inj (congrArg (fun z => some (Value.int .i64 z)) (toInt_small (X := (rUint bs 65535#64 (upS bs (rByte bs R).1 (rByte bs R).2 6)).1) (by have : (65535#64).toNat = 65535 := rfl; omega))))
    refine st_as hs rfl rfl ?_; clear hs w a; intro a w hs
    refine wpList_nil ?_
    refine then_n (hK224 _ _ ?_)
    refine wp_seq_k fun K228 hK229 => ?_
    refine wp_seq_k fun K230 hK231 => ?_
    refine wp_region_lit ?_
    refine st_run 2 [(32, .bool (((((rUint bs 65535#64 (upS bs (rByte bs R).1 (rByte bs R).2 6)).1.toNat : Nat) : Int) : Int) == 0)), (31, .int .i64 ((((rUint bs 65535#64 (upS bs (rByte bs R).1 (rByte bs R).2 6)).1.toNat : Nat) : Int)))] hs .n (by kernel_rfl) (by kernel_rfl) (by kernel_rfl) ?_; clear hs a; intro a hs
    refine wpList_nil ?_
    refine then_n (hK231 _ _ ?_)
    refine wp_if hs rfl (fun hc232 => ?_) (fun hc232 => ?_)
    ·
     replace hc232 := eq_of_beq hc232
     refine wp_region_lit ?_
     refine st_mv hs rfl rfl ?_; clear hs w a; intro a w hs
     refine st_call hs (.c rfl (.c rfl .n)) Try.call56 (.c .z .n) (mfail_ok 7 g _ bs (((rUint bs (65535#64) (((upS bs (rByte bs R).1 (rByte bs R).2 6)))).2)) _ ((uNext_tr (p := (((upS bs (rByte bs R).1 (rByte bs R).2 6))).p) (p' := ((rUint bs (65535#64) (((upS bs (rByte bs R).1 (rByte bs R).2 6)))).2).p) (by omega) (by omega)) _ _ (hJ208 _ _ (hs.mem.rd1 hb (.c .z .n)))) (hs.mem.del .z) (by omega) (by simp only [maxLen]; omega)) rfl ?_; clear hs w a; rintro _ _ a w ⟨rfl, rfl⟩ hs; simp only [List.cons_append, List.nil_append] at hs
     have hk233 := rFail_le (bs := bs) (R := ((rUint bs (65535#64) (((upS bs (rByte bs R).1 (rByte bs R).2 6)))).2)) (e := 7) (by omega)
     refine wpList_nil ?_
     refine then_n (hK229 _ _ ?_)
     refine wp_block ?_
     refine wp_seq_k fun K234 hK235 => ?_
     refine wp_region_lit ?_
     refine st_run 3 [(40, .bool (false)), (42, .bool (false)), (41, .int .i64 (6))] hs .n (by kernel_rfl) (by kernel_rfl) (by kernel_rfl) ?_; clear hs a; intro a hs
     refine wpList_nil ?_
     refine then_n (hK235 _ _ ?_)
     refine wp_cond_false (hs.ev rfl) ?_
     refine wp_seq_k fun K236 hK237 => ?_
     refine wp_region_lit ?_
     refine st_run 3 [(49, .bool (false)), (51, .bool (false)), (50, .int .i64 (6))] hs .n (by kernel_rfl) (by kernel_rfl) (by kernel_rfl) ?_; clear hs a; intro a hs
     refine wpList_nil ?_
     refine then_n (hK237 _ _ ?_)
     refine wp_cond_false (hs.ev rfl) ?_
     refine wp_region_lit ?_
     refine st_run 2 [(36, .int .i64 ((((rUint bs 65535#64 (upS bs (rByte bs R).1 (rByte bs R).2 6)).1.toNat : Nat) : Int))), (35, .pointer (some ⟨h, 0, none⟩))] hs .n (by kernel_rfl) (by kernel_rfl) (by kernel_rfl) ?_; clear hs a; intro a hs
     refine st_cv_u16 hs rfl Try.underlying2 Try.underlying23 rfl ?_; clear hs w a; intro a w hs
     refine st_run 2 [(39, .pointer (some ⟨h, 8, none⟩)), (38, .pointer (some ⟨h, 0, none⟩))] hs .n (by kernel_rfl) (by kernel_rfl) (by kernel_rfl) ?_; clear hs a; intro a hs
     refine st_stB hs rfl rfl (.s .z) (.s (.s (.s (.s (.s (.s (.s (.s .z)))))))) rfl Try.sizeOf23 ?_; clear hs w a; intro a w hs
     refine wpList_nil ?_
     refine in_n ?_
     refine then_n (hK217 _ _ ?_)
     refine wp_region_lit ?_
     refine st_mv hs rfl rfl ?_; clear hs w a; intro a w hs
     refine st_quo_u8 (X := upSh (rByte bs R).1 6) (Y := 2#8) hs rfl rfl rfl (by decide) (by decide) rfl ?_; clear hs w a; intro a w hs
     refine st_as hs rfl rfl ?_; clear hs w a; intro a w hs
     refine wpList_nil ?_
     refine in_n ?_
     refine then_n (hK215 _ _ ?_)
     refine wp_region_lit ?_
     refine st_run 3 [(5, .int .i64 (7)), (20, .int .i64 (7)), (19, .int .i64 (6))] hs .n (by kernel_rfl) (by kernel_rfl) (by kernel_rfl) ?_; clear hs a; intro a hs
     refine wpList_nil ?_
     refine then_n ?_
     have hT_ : Tr bs u R.p ((id ((uNext q5 bs.length (((upS bs (rByte bs R).1 (rByte bs R).2 6))).p ((rUint bs (65535#64) (((upS bs (rByte bs R).1 (rByte bs R).2 6)))).2).p)))) (((rFail 7 (((rUint bs (65535#64) (((upS bs (rByte bs R).1 (rByte bs R).2 6)))).2))))).p := (Tr.trans (Tr.trans (Tr.trans Tr.refl hJ208) (uNext_tr (p := (((upS bs (rByte bs R).1 (rByte bs R).2 6))).p) (p' := ((rUint bs (65535#64) (((upS bs (rByte bs R).1 (rByte bs R).2 6)))).2).p) (by omega) (by omega))) (fail_tr (bs := bs) (R := ((rUint bs (65535#64) (((upS bs (rByte bs R).1 (rByte bs R).2 6)))).2)) (e := 7)))
     have hS_ : upA bs (rByte bs R).1 (upS bs (rByte bs R).1 (rByte bs R).2 6) = ((rUint bs 65535#64 (upS bs (rByte bs R).1 (rByte bs R).2 6)).1.setWidth 16, ((rFail 7 (((rUint bs (65535#64) (((upS bs (rByte bs R).1 (rByte bs R).2 6)))).2))))) := upA_z hz_ (by omega)
     replace hs := hs.reblk (.s .z) (cs' := [(id ((uNext q5 bs.length (((upS bs (rByte bs R).1 (rByte bs R).2 6))).p ((rUint bs (65535#64) (((upS bs (rByte bs R).1 (rByte bs R).2 6)))).2).p))), .int .i64 ((((upA bs (rByte bs R).1 (upS bs (rByte bs R).1 (rByte bs R).2 6)).2.p : Nat) : Int)), .int .i64 ((((upA bs (rByte bs R).1 (upS bs (rByte bs R).1 (rByte bs R).2 6)).2.e : Nat) : Int))]) (by rw [hS_])
     replace hs := hs.reblk (.s .z) (cs' := [.int .i64 (k), .int .i64 (idn), .int .i64 (upX bs (rByte bs R).1 (rByte bs R).2 0), .int .i64 (upX bs (rByte bs R).1 (rByte bs R).2 1), .int .i64 (upX bs (rByte bs R).1 (rByte bs R).2 2), .int .i64 (upX bs (rByte bs R).1 (rByte bs R).2 3), .int .i64 (upX bs (rByte bs R).1 (rByte bs R).2 4), .int .i64 (upX bs (rByte bs R).1 (rByte bs R).2 5), .int .u16 (((((upA bs (rByte bs R).1 (upS bs (rByte bs R).1 (rByte bs R).2 6)).1).toNat : Nat) : Int))]) (by rw [hS_]; rw [ofInt16 (by have : (65535#64).toNat = 65535 := rfl; omega)])
     replace hs := hs.reslot (d := 4) (v := .int .u8 (((((upSh (rByte bs R).1 6) / (2#8)).toNat : Nat) : Int))) (v' := .int .u8 ((((upSh (rByte bs R).1 7).toNat : Nat) : Int))) rfl (Option.some.inj rfl)
     replace hs := hs.reorder (.c (.s .z) (.c .z .n))
     exact ⟨(id ((uNext q5 bs.length (((upS bs (rByte bs R).1 (rByte bs R).2 6))).p ((rUint bs (65535#64) (((upS bs (rByte bs R).1 (rByte bs R).2 6)))).2).p))), hs.sub (.c rfl (.c rfl (.c rfl (.c rfl .n)))), (by rw [hS_]; exact hT_), (upA_le (m := (rByte bs R).1) (bs := bs) (by omega)).1⟩
    replace hc232 := ne_of_beq_f hc232
    refine wp_skip ?_
    refine then_n (hK229 _ _ ?_)
    refine wp_block ?_
    refine wp_seq_k fun K238 hK239 => ?_
    refine wp_region_lit ?_
    refine st_run 3 [(40, .bool (false)), (42, .bool (false)), (41, .int .i64 (6))] hs .n (by kernel_rfl) (by kernel_rfl) (by kernel_rfl) ?_; clear hs a; intro a hs
    refine wpList_nil ?_
    refine then_n (hK239 _ _ ?_)
    refine wp_cond_false (hs.ev rfl) ?_
    refine wp_seq_k fun K240 hK241 => ?_
    refine wp_region_lit ?_
    refine st_run 3 [(49, .bool (false)), (51, .bool (false)), (50, .int .i64 (6))] hs .n (by kernel_rfl) (by kernel_rfl) (by kernel_rfl) ?_; clear hs a; intro a hs
    refine wpList_nil ?_
    refine then_n (hK241 _ _ ?_)
    refine wp_cond_false (hs.ev rfl) ?_
    refine wp_region_lit ?_
    refine st_run 2 [(36, .int .i64 ((((rUint bs 65535#64 (upS bs (rByte bs R).1 (rByte bs R).2 6)).1.toNat : Nat) : Int))), (35, .pointer (some ⟨h, 0, none⟩))] hs .n (by kernel_rfl) (by kernel_rfl) (by kernel_rfl) ?_; clear hs a; intro a hs
    refine st_cv_u16 hs rfl Try.underlying2 Try.underlying23 rfl ?_; clear hs w a; intro a w hs
    refine st_run 2 [(39, .pointer (some ⟨h, 8, none⟩)), (38, .pointer (some ⟨h, 0, none⟩))] hs .n (by kernel_rfl) (by kernel_rfl) (by kernel_rfl) ?_; clear hs a; intro a hs
    refine st_stB hs rfl rfl (.s .z) (.s (.s (.s (.s (.s (.s (.s (.s .z)))))))) rfl Try.sizeOf23 ?_; clear hs w a; intro a w hs
    refine wpList_nil ?_
    refine in_n ?_
    refine then_n (hK217 _ _ ?_)
    refine wp_region_lit ?_
    refine st_mv hs rfl rfl ?_; clear hs w a; intro a w hs
    refine st_quo_u8 (X := upSh (rByte bs R).1 6) (Y := 2#8) hs rfl rfl rfl (by decide) (by decide) rfl ?_; clear hs w a; intro a w hs
    refine st_as hs rfl rfl ?_; clear hs w a; intro a w hs
    refine wpList_nil ?_
    refine in_n ?_
    refine then_n (hK215 _ _ ?_)
    refine wp_region_lit ?_
    refine st_run 3 [(5, .int .i64 (7)), (20, .int .i64 (7)), (19, .int .i64 (6))] hs .n (by kernel_rfl) (by kernel_rfl) (by kernel_rfl) ?_; clear hs a; intro a hs
    refine wpList_nil ?_
    refine then_n ?_
    have hT_ : Tr bs u R.p ((uNext q5 bs.length (((upS bs (rByte bs R).1 (rByte bs R).2 6))).p ((rUint bs (65535#64) (((upS bs (rByte bs R).1 (rByte bs R).2 6)))).2).p)) (((rUint bs (65535#64) (((upS bs (rByte bs R).1 (rByte bs R).2 6)))).2)).p := (Tr.trans (Tr.trans Tr.refl hJ208) (uNext_tr (p := (((upS bs (rByte bs R).1 (rByte bs R).2 6))).p) (p' := ((rUint bs (65535#64) (((upS bs (rByte bs R).1 (rByte bs R).2 6)))).2).p) (by omega) (by omega)))
    have hS_ : upA bs (rByte bs R).1 (upS bs (rByte bs R).1 (rByte bs R).2 6) = ((rUint bs 65535#64 (upS bs (rByte bs R).1 (rByte bs R).2 6)).1.setWidth 16, ((rUint bs (65535#64) (((upS bs (rByte bs R).1 (rByte bs R).2 6)))).2)) := upA_n hz_ (by omega)
    replace hs := hs.reblk (.s .z) (cs' := [(uNext q5 bs.length (((upS bs (rByte bs R).1 (rByte bs R).2 6))).p ((rUint bs (65535#64) (((upS bs (rByte bs R).1 (rByte bs R).2 6)))).2).p), .int .i64 ((((upA bs (rByte bs R).1 (upS bs (rByte bs R).1 (rByte bs R).2 6)).2.p : Nat) : Int)), .int .i64 ((((upA bs (rByte bs R).1 (upS bs (rByte bs R).1 (rByte bs R).2 6)).2.e : Nat) : Int))]) (by rw [hS_])
    replace hs := hs.reblk (.s .z) (cs' := [.int .i64 (k), .int .i64 (idn), .int .i64 (upX bs (rByte bs R).1 (rByte bs R).2 0), .int .i64 (upX bs (rByte bs R).1 (rByte bs R).2 1), .int .i64 (upX bs (rByte bs R).1 (rByte bs R).2 2), .int .i64 (upX bs (rByte bs R).1 (rByte bs R).2 3), .int .i64 (upX bs (rByte bs R).1 (rByte bs R).2 4), .int .i64 (upX bs (rByte bs R).1 (rByte bs R).2 5), .int .u16 (((((upA bs (rByte bs R).1 (upS bs (rByte bs R).1 (rByte bs R).2 6)).1).toNat : Nat) : Int))]) (by rw [hS_]; rw [ofInt16 (by have : (65535#64).toNat = 65535 := rfl; omega)])
    replace hs := hs.reslot (d := 4) (v := .int .u8 (((((upSh (rByte bs R).1 6) / (2#8)).toNat : Nat) : Int))) (v' := .int .u8 ((((upSh (rByte bs R).1 7).toNat : Nat) : Int))) rfl (Option.some.inj rfl)
    replace hs := hs.reorder (.c (.s .z) (.c .z .n))
    exact ⟨(uNext q5 bs.length (((upS bs (rByte bs R).1 (rByte bs R).2 6))).p ((rUint bs (65535#64) (((upS bs (rByte bs R).1 (rByte bs R).2 6)))).2).p), hs.sub (.c rfl (.c rfl (.c rfl (.c rfl .n)))), (by rw [hS_]; exact hT_), (upA_le (m := (rByte bs R).1) (bs := bs) (by omega)).1⟩
   replace hc220 := ne_of_beq_f hc220
   have hz_ := upBit_rf (m := (rByte bs R).1) (i := 6) (by assumption)
   refine wp_skip ?_
   refine then_n (hK217 _ _ ?_)
   refine wp_region_lit ?_
   refine st_mv hs rfl rfl ?_; clear hs w a; intro a w hs
   refine st_quo_u8 (X := upSh (rByte bs R).1 6) (Y := 2#8) hs rfl rfl rfl (by decide) (by decide) rfl ?_; clear hs w a; intro a w hs
   refine st_as hs rfl rfl ?_; clear hs w a; intro a w hs
   refine wpList_nil ?_
   refine in_n ?_
   refine then_n (hK215 _ _ ?_)
   refine wp_region_lit ?_
   refine st_run 3 [(5, .int .i64 (7)), (20, .int .i64 (7)), (19, .int .i64 (6))] hs .n (by kernel_rfl) (by kernel_rfl) (by kernel_rfl) ?_; clear hs a; intro a hs
   refine wpList_nil ?_
   refine then_n ?_
   have hT_ : Tr bs u R.p q5 (((upS bs (rByte bs R).1 (rByte bs R).2 6))).p := (Tr.trans Tr.refl hJ208)
   have hS_ : upA bs (rByte bs R).1 (upS bs (rByte bs R).1 (rByte bs R).2 6) = (0#16, ((upS bs (rByte bs R).1 (rByte bs R).2 6))) := upA_f hz_
   replace hs := hs.reblk .z (cs' := [q5, .int .i64 ((((upA bs (rByte bs R).1 (upS bs (rByte bs R).1 (rByte bs R).2 6)).2.p : Nat) : Int)), .int .i64 ((((upA bs (rByte bs R).1 (upS bs (rByte bs R).1 (rByte bs R).2 6)).2.e : Nat) : Int))]) (by rw [hS_])
   replace hs := hs.reblk (.s .z) (cs' := [.int .i64 (k), .int .i64 (idn), .int .i64 (upX bs (rByte bs R).1 (rByte bs R).2 0), .int .i64 (upX bs (rByte bs R).1 (rByte bs R).2 1), .int .i64 (upX bs (rByte bs R).1 (rByte bs R).2 2), .int .i64 (upX bs (rByte bs R).1 (rByte bs R).2 3), .int .i64 (upX bs (rByte bs R).1 (rByte bs R).2 4), .int .i64 (upX bs (rByte bs R).1 (rByte bs R).2 5), .int .u16 (((((upA bs (rByte bs R).1 (upS bs (rByte bs R).1 (rByte bs R).2 6)).1).toNat : Nat) : Int))]) (by rw [hS_]; rfl)
   replace hs := hs.reslot (d := 4) (v := .int .u8 (((((upSh (rByte bs R).1 6) / (2#8)).toNat : Nat) : Int))) (v' := .int .u8 ((((upSh (rByte bs R).1 7).toNat : Nat) : Int))) rfl (Option.some.inj rfl)
   replace hs := hs.reorder (.c (.s .z) (.c .z .n))
   exact ⟨q5, hs.sub (.c rfl (.c rfl (.c rfl (.c rfl .n)))), (by rw [hS_]; exact hT_), (upA_le (m := (rByte bs R).1) (bs := bs) (by omega)).1⟩
  clear hs w a; rintro a w ⟨q6, hs, hJ242, hJ243⟩
  refine then_n ?_
  refine rounds_in ?_
  refine wp_seq_k fun K244 hK245 => ?_
  refine wp_seq_k fun K246 hK247 => ?_
  refine wp_region_lit ?_
  refine st_run 2 [(18, .bool (false)), (17, .int .i64 (7))] hs .n (by kernel_rfl) (by kernel_rfl) (by kernel_rfl) ?_; clear hs a; intro a hs
  refine wpList_nil ?_
  refine then_n (hK247 _ _ ?_)
  refine wp_cond_false (hs.ev rfl) ?_
  refine wp_exit ?_
  refine th_e ?_
  refine th_e ?_
  refine in_hit ?_
  exact fin0 hs rfl (by rw [rdSome_ok (by omega) (pair_eq rfl)]; exact ⟨_, rfl, rfl, (Tr.trans Tr.refl hJ242)⟩)
theorem mread_ok (g : Nat) (u : Value) (bs : List Byte) (R : Rs) (last : Int) (w0 : World) (hb : Rd w0 [g] u 1 (bs.length - R.p) (bytesV (bs.drop R.p))) (hg : (blk g [u, .int .i64 (((R).p : Nat) : Int), .int .i64 (((R).e : Nat) : Int)] 44).p w0) (hle : R.p ≤ bs.length) (hlm : bs.length ≤ maxLen) (hl : -9223372036854775808 ≤ last ∧ last ≤ 9223372036854775807) : Calls Try.prog 27 #[.pointer (some ⟨g, 0, none⟩), .int .i64 last] w0 (Ret w0 [g] fun x N => ∃ u', x = Value.tuple #[.agg #[.int .i64 (((rdRec bs last R).1).k), .int .i64 (((rdRec bs last R).1).id), .int .i64 (((rdRec bs last R).1).p0), .int .i64 (((rdRec bs last R).1).p1), .int .i64 (((rdRec bs last R).1).p2), .int .i64 (((rdRec bs last R).1).v0), .int .i64 (((rdRec bs last R).1).v1), .int .i64 (((rdRec bs last R).1).v2), .int .u16 ((((((rdRec bs last R).1).a).toNat : Nat) : Int))], .int .i64 (((rdRec bs last R).2.1 : Nat) : Int)] ∧ N = [blk g [u', .int .i64 ((((rdRec bs last R).2.2).p : Nat) : Int), .int .i64 ((((rdRec bs last R).2.2).e : Nat) : Int)] 44] ∧ Tr bs u R.p u' (rdRec bs last R).2.2.p) := by
  simp only [maxLen] at hlm
  refine enter (F0 := [(0, .pointer (some ⟨g, 0, none⟩)), (1, .int .i64 (last))]) Try.func27 rfl rfl rfl (.c (.c .n)) (mem_one hg) fun a w hs => ?_
  refine wp_seq_k fun K1 hK2 => ?_
  refine wp_region_lit ?_
  refine st_alloc (cs := [.int .i64 (0), .int .i64 (0), .int .i64 (0), .int .i64 (0), .int .i64 (0), .int .i64 (0), .int .i64 (0), .int .i64 (0), .int .u16 (0)]) hs Try.zeroValue25 rfl rfl ?_; clear hs w a; intro g3 a w hs
  refine st_as hs rfl rfl ?_; clear hs w a; intro a w hs
  refine wpList_nil ?_
  refine then_n (hK2 _ _ ?_)
  refine wp_seq_k fun K4 hK5 => ?_
  refine wp_seq_k fun K6 hK7 => ?_
  refine wp_region_lit ?_
  refine st_run 3 [(9, .bool (decide (last < (-1))))] hs .n (by kernel_rfl) (by kernel_rfl) (by kernel_rfl) ?_; clear hs a; intro a hs
  refine st_part (b := decide (last < (-1))) (fun hc8 => ?_) (fun hc8 => ?_)
  ·
   rw [hc8] at hs
   replace hc8 := of_decide_eq_true hc8
   refine st_run 3 [(12, .bool (true))] hs .n (by kernel_rfl) (by kernel_rfl) (by kernel_rfl) ?_; clear hs a; intro a hs
   refine wpList_nil ?_
   refine then_n (hK7 _ _ ?_)
   refine wp_cond_true (hs.ev rfl) ?_
   refine wp_seq_k fun K9 hK10 => ?_
   refine wp_region_lit ?_
   refine st_build (it := Try.t25) (zs := [.int .i64 (0), .int .i64 (0), .int .i64 (0), .int .i64 (0), .int .i64 (0), .int .i64 (0), .int .i64 (0), .int .i64 (0), .int .u16 (0)]) (places := [(0, 1), (1, 1), (2, 3), (5, 3), (8, 1)]) hs .n Try.underlying25 rfl rfl rfl rfl .n rfl ?_; clear hs w a; intro a w hs
   refine st_stBA hs rfl rfl .z (.z (.c (.c (.c (.c (.c (.c (.c (.c (.c .n)))))))))) (ones_c rfl (ones_c rfl (ones_c rfl (ones_c rfl (ones_c rfl (ones_c rfl (ones_c rfl (ones_c rfl (ones_c rfl ones_n))))))))) Try.sizeOf25 rfl ?_; clear hs w a; intro a w hs
   refine st_as hs rfl rfl ?_; clear hs w a; intro a w hs
   refine wpList_nil ?_
   refine then_n (hK10 _ _ ?_)
   refine wp_ret ?_
   refine th_r ?_
   have hq_ : rdRec bs last R = (recZ, 3, R) := by first | exact rdRec_rng (by omega) | exact rdRec_end (by omega) | exact rdRec_bad (by omega) (by omega) hraw (by omega) | exact rdRec_ok (by omega) (by omega) hraw (by omega)
   exact finC2 hs rfl rfl rfl .z (.z (.c (.c (.c (.c (.c (.c (.c (.c (.c .n)))))))))) Try.isAgg25 Try.sizeOf25 (.c .z .n) (by rw [hq_]; exact ⟨_, rfl, rfl, Tr.refl⟩)
  rw [hc8] at hs
  replace hc8 := of_decide_eq_false hc8
  refine st_run 3 [(12, .bool (decide (65535 < last)))] hs .n (by kernel_rfl) (by kernel_rfl) (by kernel_rfl) ?_; clear hs a; intro a hs
  refine wpList_nil ?_
  refine then_n (hK7 _ _ ?_)
  refine wp_if hs rfl (fun hc11 => ?_) (fun hc11 => ?_)
  ·
   replace hc11 := of_decide_eq_true hc11
   refine wp_seq_k fun K12 hK13 => ?_
   refine wp_region_lit ?_
   refine st_build (it := Try.t25) (zs := [.int .i64 (0), .int .i64 (0), .int .i64 (0), .int .i64 (0), .int .i64 (0), .int .i64 (0), .int .i64 (0), .int .i64 (0), .int .u16 (0)]) (places := [(0, 1), (1, 1), (2, 3), (5, 3), (8, 1)]) hs .n Try.underlying25 rfl rfl rfl rfl .n rfl ?_; clear hs w a; intro a w hs
   refine st_stBA hs rfl rfl .z (.z (.c (.c (.c (.c (.c (.c (.c (.c (.c .n)))))))))) (ones_c rfl (ones_c rfl (ones_c rfl (ones_c rfl (ones_c rfl (ones_c rfl (ones_c rfl (ones_c rfl (ones_c rfl ones_n))))))))) Try.sizeOf25 rfl ?_; clear hs w a; intro a w hs
   refine st_as hs rfl rfl ?_; clear hs w a; intro a w hs
   refine wpList_nil ?_
   refine then_n (hK13 _ _ ?_)
   refine wp_ret ?_
   refine th_r ?_
   have hq_ : rdRec bs last R = (recZ, 3, R) := by first | exact rdRec_rng (by omega) | exact rdRec_end (by omega) | exact rdRec_bad (by omega) (by omega) hraw (by omega) | exact rdRec_ok (by omega) (by omega) hraw (by omega)
   exact finC2 hs rfl rfl rfl .z (.z (.c (.c (.c (.c (.c (.c (.c (.c (.c .n)))))))))) Try.isAgg25 Try.sizeOf25 (.c .z .n) (by rw [hq_]; exact ⟨_, rfl, rfl, Tr.refl⟩)
  replace hc11 := of_decide_eq_false hc11
  refine wp_skip ?_
  refine then_n (hK5 _ _ ?_)
  refine wp_seq_k fun K14 hK15 => ?_
  refine wp_seq_k fun K16 hK17 => ?_
  refine wp_region_lit ?_
  refine st_run 2 [(15, .bool ((last : Int) == 65535))] hs .n (by kernel_rfl) (by kernel_rfl) (by kernel_rfl) ?_; clear hs a; intro a hs
  refine wpList_nil ?_
  refine then_n (hK17 _ _ ?_)
  refine wp_if hs rfl (fun hc18 => ?_) (fun hc18 => ?_)
  ·
   replace hc18 := eq_of_beq hc18
   refine wp_seq_k fun K19 hK20 => ?_
   refine wp_region_lit ?_
   refine st_mv hs rfl rfl ?_; clear hs w a; intro a w hs
   refine st_call hs (.c rfl (.c rfl .n)) Try.call56 (.c (.s .z) .n) (mfail_ok 10 g _ bs R _ (hs.mem.rd1 hb (.c (.s .z) .n)) (hs.mem.del (.s .z)) (by omega) (by simp only [maxLen]; omega)) rfl ?_; clear hs w a; rintro _ _ a w ⟨rfl, rfl⟩ hs; simp only [List.cons_append, List.nil_append] at hs
   have hk21 := rFail_le (bs := bs) (R := R) (e := 10) (by omega)
   refine wpList_nil ?_
   refine then_n (hK20 _ _ ?_)
   refine wp_seq_k fun K22 hK23 => ?_
   replace hs := hs.sub (F' := [(4, .pointer (some ⟨g3, 0, none⟩)), (0, .pointer (some ⟨g, 0, none⟩)), (1, .int .i64 (last))]) (.c rfl (.c rfl (.c rfl .n)))
   refine wp_drawG (M0 := [blk g [(id u), .int .i64 ((((rFail 10 R).p : Nat) : Int)), .int .i64 ((((rFail 10 R).e : Nat) : Int))] 44]) (Ds := [Pv 0 (.agg #[.int .i64 (0), .int .i64 (0), .int .i64 (0), .int .i64 (0), .int .i64 (0), .int .i64 (0), .int .i64 (0), .int .i64 (0), .int .u16 (0)]), Pv 1 (.pointer (some ⟨g, 0, none⟩)), Pv 2 (.pointer (some ⟨g, 0, none⟩)), Pv 3 (.pointer (some ⟨g, 2, none⟩)), Pv 4 (.int .i64 ((((rFail 10 R).e : Nat) : Int))), ⟨[blk g3 [.int .i64 (0), .int .i64 (0), .int .i64 (0), .int .i64 (0), .int .i64 (0), .int .i64 (0), .int .i64 (0), .int .i64 (0), .int .u16 (0)] 25], [], [], fun vs24 => True, fun vs24 => [blk g3 [.int .i64 (0), .int .i64 (0), .int .i64 (0), .int .i64 (0), .int .i64 (0), .int .i64 (0), .int .i64 (0), .int .i64 (0), .int .u16 (0)] 25], none⟩, Pv 6 (.int .i64 ((((rFail 10 R).e : Nat) : Int)))]) (by kernel_rfl) hs rfl (.c (.s .z) .n) (by kernel_rfl) (by kernel_rfl) (by kernel_rfl) ?_ ?_
   ·
    refine (.c ?_ (.c ?_ (.c ?_ (.c ?_ (.c ?_ (.c ?_ (.c ?_ .n)))))))
    ·
     intro a_ w_ R_ rest_ vs24 hm hs ht hx
     have hm0 := hm.mid
     have hs0 := hs.bare
     refine st_build (it := Try.t25) (zs := [.int .i64 (0), .int .i64 (0), .int .i64 (0), .int .i64 (0), .int .i64 (0), .int .i64 (0), .int .i64 (0), .int .i64 (0), .int .u16 (0)]) (places := [(0, 1), (1, 1), (2, 3), (5, 3), (8, 1)]) hs .n Try.underlying25 rfl rfl rfl rfl .n rfl ?_; clear hs; intro a w hs
     exact wpList_nil ⟨rfl, _, _, hs0, .r, hs, rfl⟩
    · exact trip_pv (m := 7) .n (fun hm0 hm hx => .n) (by kernel_rfl) (by kernel_rfl) rfl
    · exact trip_pv (m := 7) (.c (k := 1) (by kernel_rfl) rfl rfl .n) (fun hm0 hm hx => .n) (by kernel_rfl) (by kernel_rfl) rfl
    · exact trip_pv (m := 7) (.c (k := 2) (by kernel_rfl) rfl rfl .n) (fun hm0 hm hx => .n) (by kernel_rfl) (by kernel_rfl) rfl
    · exact trip_pv (m := 7) (.c (k := 3) (by kernel_rfl) rfl rfl .n) (fun hm0 hm hx => (.c (hm0.del .z))) (by kernel_rfl) (by kernel_rfl) rfl
    ·
     intro a_ w_ R_ rest_ vs24 hm hs ht hx
     replace hs : St _ _ _ (feet [blk g3 [.int .i64 (0), .int .i64 (0), .int .i64 (0), .int .i64 (0), .int .i64 (0), .int .i64 (0), .int .i64 (0), .int .i64 (0), .int .u16 (0)] 25]) [blk g3 [.int .i64 (0), .int .i64 (0), .int .i64 (0), .int .i64 (0), .int .i64 (0), .int .i64 (0), .int .i64 (0), .int .i64 (0), .int .u16 (0)] 25] _ _ := hs
     have hm0 := hm.mid
     replace hs := hs.lrn (ht 0 (twB_spec 7 _ (by kernel_rfl))) rfl rfl
     have hs0 := hs.bare
     refine st_stBA hs rfl rfl .z (.z (.c (.c (.c (.c (.c (.c (.c (.c (.c .n)))))))))) (ones_c rfl (ones_c rfl (ones_c rfl (ones_c rfl (ones_c rfl (ones_c rfl (ones_c rfl (ones_c rfl (ones_c rfl ones_n))))))))) Try.sizeOf25 rfl ?_; clear hs; intro a w hs
     exact wpList_nil ⟨rfl, .tuple #[], _, hs0, (.c .r), hs, trivial⟩
    exact trip_pv (m := 7) (.c (k := 4) (by kernel_rfl) rfl rfl .n) (fun hm0 hm hx => .n) (by kernel_rfl) (by kernel_rfl) rfl
   clear hs w a; intro a w vs24 hs hf
   replace hs : St _ _ _ _ [blk g [(id u), .int .i64 ((((rFail 10 R).p : Nat) : Int)), .int .i64 ((((rFail 10 R).e : Nat) : Int))] 44, blk g3 [.int .i64 (0), .int .i64 (0), .int .i64 (0), .int .i64 (0), .int .i64 (0), .int .i64 (0), .int .i64 (0), .int .i64 (0), .int .u16 (0)] 25] _ _ := hs
   obtain ⟨e6, q6⟩ := hf 6 (by decide)
   replace e6 : _ = some (vs24 6) := e6.val rfl
   rw [show vs24 6 = .int .i64 ((((rFail 10 R).e : Nat) : Int)) from q6] at e6
   replace hs := hs.learn e6; clear e6 q6
   clear hf
   refine then_n (hK23 _ _ ?_)
   refine wp_ret ?_
   refine th_r ?_
   have hq_ : rdRec bs last R = (recZ, (rFail 10 R).e, (rFail 10 R)) := by first | exact rdRec_rng (by omega) | exact rdRec_end (by omega) | exact rdRec_bad (by omega) (by omega) hraw (by omega) | exact rdRec_ok (by omega) (by omega) hraw (by omega)
   exact finC2 hs rfl rfl rfl (.s .z) (.z (.c (.c (.c (.c (.c (.c (.c (.c (.c .n)))))))))) Try.isAgg25 Try.sizeOf25 (.c (.s .z) .n) (by rw [hq_]; exact ⟨_, rfl, rfl, (Tr.trans Tr.refl (fail_tr (bs := bs) (R := R) (e := 10)))⟩)
  replace hc18 := ne_of_beq_f hc18
  refine wp_skip ?_
  refine then_n (hK15 _ _ ?_)
  refine wp_seq_k fun K25 hK26 => ?_
  refine wp_region_lit ?_
  refine st_build (it := Try.t25) (zs := [.int .i64 (0), .int .i64 (0), .int .i64 (0), .int .i64 (0), .int .i64 (0), .int .i64 (0), .int .i64 (0), .int .i64 (0), .int .u16 (0)]) (places := [(0, 1), (1, 1), (2, 3), (5, 3), (8, 1)]) hs .n Try.underlying25 rfl rfl rfl rfl .n rfl ?_; clear hs w a; intro a w hs
  refine st_alloc (cs := [.int .i64 (0), .int .i64 (0), .int .i64 (0), .int .i64 (0), .int .i64 (0), .int .i64 (0), .int .i64 (0), .int .i64 (0), .int .u16 (0)]) hs Try.zeroValue25 rfl rfl ?_; clear hs w a; intro g27 a w hs
  refine st_stBA hs rfl rfl .z (.z (.c (.c (.c (.c (.c (.c (.c (.c (.c .n)))))))))) (ones_c rfl (ones_c rfl (ones_c rfl (ones_c rfl (ones_c rfl (ones_c rfl (ones_c rfl (ones_c rfl (ones_c rfl ones_n))))))))) Try.sizeOf25 rfl ?_; clear hs w a; intro a w hs
  refine wpList_nil ?_
  refine then_n (hK26 _ _ ?_)
  refine wp_seq_k fun K28 hK29 => ?_
  refine wp_region_lit ?_
  refine st_mv hs rfl rfl ?_; clear hs w a; intro a w hs
  refine st_addR hs rfl rfl (by omega) rfl ?_; clear hs w a; intro a w hs
  refine st_run 2 [(27, .int .i64 (last)), (26, .pointer (some ⟨g, 0, none⟩))] hs .n (by kernel_rfl) (by kernel_rfl) (by kernel_rfl) ?_; clear hs a; intro a hs
  refine st_subR hs rfl rfl (by omega) rfl ?_; clear hs w a; intro a w hs
  refine st_cv_u64 hs rfl Try.underlying3 Try.underlying37 rfl ?_; clear hs w a; intro a w hs
  refine st_call hs (.c rfl (.c rfl .n)) Try.call57 (.c (.s (.s .z)) .n) (muint_ok (BitVec.ofInt 64 (65534 - last)) g _ bs R _ (hs.mem.rd1 hb (.c (.s (.s .z)) .n)) (hs.mem.del (.s (.s .z))) (by omega) (by simp only [maxLen]; omega)) rfl ?_; clear hs w a; rintro _ _ a w ⟨rfl, rfl⟩ hs; simp only [List.cons_append, List.nil_append] at hs
  have hk30 := rUint_le (X := BitVec.ofInt 64 (65534 - last)) (bs := bs) (R := R) (by omega)
  refine st_cv_u64_i64 (X := (rUint bs (BitVec.ofInt 64 (65534 - last)) R).1) hs rfl rfl Try.underlying37 Try.underlying3 rfl ?_; clear hs w a; intro a w hs
  replace hs := hs.recell (v' := .int .i64 ((((rUint bs (BitVec.ofInt 64 (65534 - last)) R).1.toNat : Nat) : Int))) (Option.some.inj (congrArg (fun z => some (Value.int .i64 z)) (toInt_id (bs := bs) (R := R) (by omega) (by omega) (by omega))))
  refine st_addR hs rfl rfl (by have := rId_le (bs := bs) (last := last) (R := R) (by omega) (by omega) (by omega); omega) rfl ?_; clear hs w a; intro a w hs
  refine st_fa hs rfl Try.underlying25 rfl Try.sizeOf3 (by decide) (o := 1) rfl rfl ?_; clear hs w a; intro a w hs
  refine st_stB hs rfl rfl (.s .z) (.s .z) rfl Try.sizeOf3 ?_; clear hs w a; intro a w hs
  refine wpList_nil ?_
  refine then_n (hK29 _ _ ?_)
  refine wp_seq_k fun K31 hK32 => ?_
  refine wp_region_lit ?_
  refine st_mv hs rfl rfl ?_; clear hs w a; intro a w hs
  refine st_call hs (.c rfl .n) Try.call58 (.c (.s .z) .n) (mbyte_ok  g _ bs (((rUint bs (BitVec.ofInt 64 (65534 - last)) R).2)) _ ((uNext_tr (p := R.p) (p' := ((rUint bs (BitVec.ofInt 64 (65534 - last)) R).2).p) (by omega) (by omega)) _ _ (hs.mem.rd1 hb (.c (.s .z) .n))) (hs.mem.del (.s .z)) (by omega) (by simp only [maxLen]; omega)) rfl ?_; clear hs w a; rintro _ _ a w ⟨rfl, rfl⟩ hs; simp only [List.cons_append, List.nil_append] at hs
  have hk33 := rByte_le (bs := bs) (R := ((rUint bs (BitVec.ofInt 64 (65534 - last)) R).2)) (by omega)
  refine st_cv_i64 hs rfl (bvr ((rByte bs (((rUint bs (BitVec.ofInt 64 (65534 - last)) R).2))).1)) Try.underlying5 Try.underlying3 rfl ?_; clear hs w a; intro a w hs
  refine st_fa hs rfl Try.underlying25 rfl Try.sizeOf3 (by decide) (o := 0) rfl rfl ?_; clear hs w a; intro a w hs
  refine st_stB hs rfl rfl (.s .z) .z rfl Try.sizeOf3 ?_; clear hs w a; intro a w hs
  refine wpList_nil ?_
  refine then_n (hK32 _ _ ?_)
  refine wp_seq_k fun K34 hK35 => ?_
  refine wp_seq_k fun K36 hK37 => ?_
  refine wp_region_lit ?_
  refine st_run 2 [(39, .int .i64 (((((rByte bs (((rUint bs (BitVec.ofInt 64 (65534 - last)) R).2))).1).toNat : Nat) : Int)))] hs (.c (hs.mem.del .z) .n) (by kernel_rfl) (by kernel_rfl) (by kernel_rfl) ?_; clear hs a; intro a hs
  refine wpList_nil ?_
  refine then_n (hK37 _ _ ?_)
  refine wp_cut (fun a w => ∃ rr : RecR, ∃ RR : Rs, ∃ q : Value, St 72 [(0, .pointer (some ⟨g, 0, none⟩)), (1, .int .i64 (last)), (4, .pointer (some ⟨g3, 0, none⟩)), (6, .pointer (some ⟨g27, 0, none⟩))] w0 [g] [blk g [q, .int .i64 (((RR.p : Nat) : Int)), .int .i64 (((RR.e : Nat) : Int))] 44, blk g27 [.int .i64 (rr.k), .int .i64 (rr.id), .int .i64 (rr.p0), .int .i64 (rr.p1), .int .i64 (rr.p2), .int .i64 (rr.v0), .int .i64 (rr.v1), .int .i64 (rr.v2), .int .u16 ((((rr.a).toNat : Nat) : Int))] 25, blk g3 [.int .i64 (0), .int .i64 (0), .int .i64 (0), .int .i64 (0), .int .i64 (0), .int .i64 (0), .int .i64 (0), .int .i64 (0), .int .u16 (0)] 25] a w ∧ rdRaw bs last R = (rr, RR) ∧ RR.p ≤ bs.length ∧ Tr bs u R.p q RR.p) ?_ ?_
  ·
   refine wp_block ?_
   refine wp_seq_k fun K38 hK39 => ?_
   refine wp_seq_k fun K40 hK41 => ?_
   refine wp_region_lit ?_
   refine st_run 2 [(42, .bool ((((((rByte bs (((rUint bs (BitVec.ofInt 64 (65534 - last)) R).2))).1).toNat : Nat) : Int) : Int) == 0))] hs .n (by kernel_rfl) (by kernel_rfl) (by kernel_rfl) ?_; clear hs a; intro a hs
   refine wpList_nil ?_
   refine then_n (hK41 _ _ ?_)
   refine wp_if hs rfl (fun hc42 => ?_) (fun hc42 => ?_)
   ·
    rw [hc42] at hs
    replace hc42 := eq_of_beq hc42
    refine wp_skip ?_
    refine then_n (hK39 _ _ ?_)
    refine wp_cond_true (hs.ev rfl) ?_
    refine wp_seq_k fun K43 hK44 => ?_
    refine wp_region_lit ?_
    refine st_mv hs rfl rfl ?_; clear hs w a; intro a w hs
    refine st_call hs (.c rfl .n) Try.call59 (.c (.s .z) .n) (mvec_ok  g _ bs (((rByte bs (((rUint bs (BitVec.ofInt 64 (65534 - last)) R).2))).2)) _ ((uNext_tr (p := (((rUint bs (BitVec.ofInt 64 (65534 - last)) R).2)).p) (p' := ((rByte bs (((rUint bs (BitVec.ofInt 64 (65534 - last)) R).2))).2).p) (by omega) (by omega)) _ _ ((uNext_tr (p := R.p) (p' := ((rUint bs (BitVec.ofInt 64 (65534 - last)) R).2).p) (by omega) (by omega)) _ _ (hs.mem.rd1 hb (.c (.s .z) .n)))) (hs.mem.del (.s .z)) (by omega) (by simp only [maxLen]; omega)) rfl ?_; clear hs w a; rintro _ _ a w ⟨rfl, rfl⟩ hs; simp only [List.cons_append, List.nil_append] at hs
    have hk45 := rInt_le (bs := bs) (R := ((rByte bs (((rUint bs (BitVec.ofInt 64 (65534 - last)) R).2))).2)) (by omega)
    have hk46 := rInt_le (bs := bs) (R := (rInt bs ((((rByte bs (((rUint bs (BitVec.ofInt 64 (65534 - last)) R).2))).2)))).2) (by omega)
    have hk47 := rInt_le (bs := bs) (R := (rInt bs (rInt bs ((((rByte bs (((rUint bs (BitVec.ofInt 64 (65534 - last)) R).2))).2)))).2).2) (by omega)
    refine st_fa hs rfl Try.underlying25 rfl Try.sizeOf22 (by decide) (o := 2) rfl rfl ?_; clear hs w a; intro a w hs
    refine st_stBA hs rfl rfl (.s .z) (.s (.s (.z (.c (.c (.c .n)))))) (ones_c rfl (ones_c rfl (ones_c rfl ones_n))) Try.sizeOf22 rfl ?_; clear hs w a; intro a w hs
    refine wpList_nil ?_
    refine then_n (hK44 _ _ ?_)
    refine wp_seq_k fun K48 hK49 => ?_
    refine wp_region_lit ?_
    refine st_mv hs rfl rfl ?_; clear hs w a; intro a w hs
    refine st_call hs (.c rfl .n) Try.call59 (.c (.s .z) .n) (mvec_ok  g _ bs (((rInt bs (rInt bs (rInt bs ((((rByte bs (((rUint bs (BitVec.ofInt 64 (65534 - last)) R).2))).2)))).2).2).2)) _ ((uNext_tr (p := ((rInt bs (rInt bs ((((rByte bs (((rUint bs (BitVec.ofInt 64 (65534 - last)) R).2))).2)))).2).2).p) (p' := ((rInt bs (rInt bs (rInt bs ((((rByte bs (((rUint bs (BitVec.ofInt 64 (65534 - last)) R).2))).2)))).2).2).2).p) (by omega) (by omega)) _ _ ((uNext_tr (p := ((rInt bs ((((rByte bs (((rUint bs (BitVec.ofInt 64 (65534 - last)) R).2))).2)))).2).p) (p' := ((rInt bs (rInt bs ((((rByte bs (((rUint bs (BitVec.ofInt 64 (65534 - last)) R).2))).2)))).2).2).p) (by omega) (by omega)) _ _ ((uNext_tr (p := (((rByte bs (((rUint bs (BitVec.ofInt 64 (65534 - last)) R).2))).2)).p) (p' := ((rInt bs ((((rByte bs (((rUint bs (BitVec.ofInt 64 (65534 - last)) R).2))).2)))).2).p) (by omega) (by omega)) _ _ ((uNext_tr (p := (((rUint bs (BitVec.ofInt 64 (65534 - last)) R).2)).p) (p' := ((rByte bs (((rUint bs (BitVec.ofInt 64 (65534 - last)) R).2))).2).p) (by omega) (by omega)) _ _ ((uNext_tr (p := R.p) (p' := ((rUint bs (BitVec.ofInt 64 (65534 - last)) R).2).p) (by omega) (by omega)) _ _ (hs.mem.rd1 hb (.c (.s .z) .n))))))) (hs.mem.del (.s .z)) (by omega) (by simp only [maxLen]; omega)) rfl ?_; clear hs w a; rintro _ _ a w ⟨rfl, rfl⟩ hs; simp only [List.cons_append, List.nil_append] at hs
    have hk50 := rInt_le (bs := bs) (R := ((rInt bs (rInt bs (rInt bs ((((rByte bs (((rUint bs (BitVec.ofInt 64 (65534 - last)) R).2))).2)))).2).2).2)) (by omega)
    have hk51 := rInt_le (bs := bs) (R := (rInt bs ((((rInt bs (rInt bs (rInt bs ((((rByte bs (((rUint bs (BitVec.ofInt 64 (65534 - last)) R).2))).2)))).2).2).2)))).2) (by omega)
    have hk52 := rInt_le (bs := bs) (R := (rInt bs (rInt bs ((((rInt bs (rInt bs (rInt bs ((((rByte bs (((rUint bs (BitVec.ofInt 64 (65534 - last)) R).2))).2)))).2).2).2)))).2).2) (by omega)
    refine st_fa hs rfl Try.underlying25 rfl Try.sizeOf22 (by decide) (o := 5) rfl rfl ?_; clear hs w a; intro a w hs
    refine st_stBA hs rfl rfl (.s .z) (.s (.s (.s (.s (.s (.z (.c (.c (.c .n))))))))) (ones_c rfl (ones_c rfl (ones_c rfl ones_n))) Try.sizeOf22 rfl ?_; clear hs w a; intro a w hs
    refine wpList_nil ?_
    refine then_n (hK49 _ _ ?_)
    refine wp_region_lit ?_
    refine st_mv hs rfl rfl ?_; clear hs w a; intro a w hs
    refine st_call hs (.c rfl (.c rfl .n)) Try.call57 (.c (.s .z) .n) (muint_ok (65535#64) g _ bs (((rInt bs (rInt bs (rInt bs ((((rInt bs (rInt bs (rInt bs ((((rByte bs (((rUint bs (BitVec.ofInt 64 (65534 - last)) R).2))).2)))).2).2).2)))).2).2).2)) _ ((uNext_tr (p := ((rInt bs (rInt bs ((((rInt bs (rInt bs (rInt bs ((((rByte bs (((rUint bs (BitVec.ofInt 64 (65534 - last)) R).2))).2)))).2).2).2)))).2).2).p) (p' := ((rInt bs (rInt bs (rInt bs ((((rInt bs (rInt bs (rInt bs ((((rByte bs (((rUint bs (BitVec.ofInt 64 (65534 - last)) R).2))).2)))).2).2).2)))).2).2).2).p) (by omega) (by omega)) _ _ ((uNext_tr (p := ((rInt bs ((((rInt bs (rInt bs (rInt bs ((((rByte bs (((rUint bs (BitVec.ofInt 64 (65534 - last)) R).2))).2)))).2).2).2)))).2).p) (p' := ((rInt bs (rInt bs ((((rInt bs (rInt bs (rInt bs ((((rByte bs (((rUint bs (BitVec.ofInt 64 (65534 - last)) R).2))).2)))).2).2).2)))).2).2).p) (by omega) (by omega)) _ _ ((uNext_tr (p := (((rInt bs (rInt bs (rInt bs ((((rByte bs (((rUint bs (BitVec.ofInt 64 (65534 - last)) R).2))).2)))).2).2).2)).p) (p' := ((rInt bs ((((rInt bs (rInt bs (rInt bs ((((rByte bs (((rUint bs (BitVec.ofInt 64 (65534 - last)) R).2))).2)))).2).2).2)))).2).p) (by omega) (by omega)) _ _ ((uNext_tr (p := ((rInt bs (rInt bs ((((rByte bs (((rUint bs (BitVec.ofInt 64 (65534 - last)) R).2))).2)))).2).2).p) (p' := ((rInt bs (rInt bs (rInt bs ((((rByte bs (((rUint bs (BitVec.ofInt 64 (65534 - last)) R).2))).2)))).2).2).2).p) (by omega) (by omega)) _ _ ((uNext_tr (p := ((rInt bs ((((rByte bs (((rUint bs (BitVec.ofInt 64 (65534 - last)) R).2))).2)))).2).p) (p' := ((rInt bs (rInt bs ((((rByte bs (((rUint bs (BitVec.ofInt 64 (65534 - last)) R).2))).2)))).2).2).p) (by omega) (by omega)) _ _ ((uNext_tr (p := (((rByte bs (((rUint bs (BitVec.ofInt 64 (65534 - last)) R).2))).2)).p) (p' := ((rInt bs ((((rByte bs (((rUint bs (BitVec.ofInt 64 (65534 - last)) R).2))).2)))).2).p) (by omega) (by omega)) _ _ ((uNext_tr (p := (((rUint bs (BitVec.ofInt 64 (65534 - last)) R).2)).p) (p' := ((rByte bs (((rUint bs (BitVec.ofInt 64 (65534 - last)) R).2))).2).p) (by omega) (by omega)) _ _ ((uNext_tr (p := R.p) (p' := ((rUint bs (BitVec.ofInt 64 (65534 - last)) R).2).p) (by omega) (by omega)) _ _ (hs.mem.rd1 hb (.c (.s .z) .n)))))))))) (hs.mem.del (.s .z)) (by omega) (by simp only [maxLen]; omega)) rfl ?_; clear hs w a; rintro _ _ a w ⟨rfl, rfl⟩ hs; simp only [List.cons_append, List.nil_append] at hs
    have hk53 := rUint_le (X := 65535#64) (bs := bs) (R := ((rInt bs (rInt bs (rInt bs ((((rInt bs (rInt bs (rInt bs ((((rByte bs (((rUint bs (BitVec.ofInt 64 (65534 - last)) R).2))).2)))).2).2).2)))).2).2).2)) (by omega)
    refine st_cv_u64_u16 (X := (rUint bs (65535#64) (((rInt bs (rInt bs (rInt bs ((((rInt bs (rInt bs (rInt bs ((((rByte bs (((rUint bs (BitVec.ofInt 64 (65534 - last)) R).2))).2)))).2).2).2)))).2).2).2))).1) hs rfl rfl Try.underlying37 Try.underlying23 rfl ?_; clear hs w a; intro a w hs
    refine st_fa hs rfl Try.underlying25 rfl Try.sizeOf23 (by decide) (o := 8) rfl rfl ?_; clear hs w a; intro a w hs
    refine st_stB hs rfl rfl (.s .z) (.s (.s (.s (.s (.s (.s (.s (.s .z)))))))) rfl Try.sizeOf23 ?_; clear hs w a; intro a w hs
    refine wpList_nil ?_
    refine in_n ?_
    refine then_n ?_
    have hA_ : (rdAll bs (((((rByte bs (((rUint bs (BitVec.ofInt 64 (65534 - last)) R).2))).1).toNat : Nat) : Int)) ((last + 1) + ((((rUint bs (BitVec.ofInt 64 (65534 - last)) R).1.toNat : Nat) : Int))) (rByte bs (rUint bs (BitVec.ofInt 64 (65534 - last)) R).2).2) = (⟨((((rByte bs (((rUint bs (BitVec.ofInt 64 (65534 - last)) R).2))).1).toNat : Nat) : Int), (last + 1) + ((((rUint bs (BitVec.ofInt 64 (65534 - last)) R).1.toNat : Nat) : Int)), (rInt bs (((rByte bs (((rUint bs (BitVec.ofInt 64 (65534 - last)) R).2))).2))).1, (rInt bs (rInt bs (((rByte bs (((rUint bs (BitVec.ofInt 64 (65534 - last)) R).2))).2))).2).1, (rInt bs (rInt bs (rInt bs (((rByte bs (((rUint bs (BitVec.ofInt 64 (65534 - last)) R).2))).2))).2).2).1, (rInt bs (((rInt bs (rInt bs (rInt bs ((((rByte bs (((rUint bs (BitVec.ofInt 64 (65534 - last)) R).2))).2)))).2).2).2))).1, (rInt bs (rInt bs (((rInt bs (rInt bs (rInt bs ((((rByte bs (((rUint bs (BitVec.ofInt 64 (65534 - last)) R).2))).2)))).2).2).2))).2).1, (rInt bs (rInt bs (rInt bs (((rInt bs (rInt bs (rInt bs ((((rByte bs (((rUint bs (BitVec.ofInt 64 (65534 - last)) R).2))).2)))).2).2).2))).2).2).1, ((rUint bs (65535#64) (((rInt bs (rInt bs (rInt bs ((((rInt bs (rInt bs (rInt bs ((((rByte bs (((rUint bs (BitVec.ofInt 64 (65534 - last)) R).2))).2)))).2).2).2)))).2).2).2))).1).setWidth 16⟩, ((rUint bs (65535#64) (((rInt bs (rInt bs (rInt bs ((((rInt bs (rInt bs (rInt bs ((((rByte bs (((rUint bs (BitVec.ofInt 64 (65534 - last)) R).2))).2)))).2).2).2)))).2).2).2))).2)) := by simp only [rdAll, nX, nS]
    replace hs := hs.reblk (.s .z) (cs' := [(uNext ((uNext ((uNext ((uNext ((uNext ((uNext ((uNext ((uNext ((uNext u bs.length R.p ((rUint bs (BitVec.ofInt 64 (65534 - last)) R).2).p)) bs.length (((rUint bs (BitVec.ofInt 64 (65534 - last)) R).2)).p ((rByte bs (((rUint bs (BitVec.ofInt 64 (65534 - last)) R).2))).2).p)) bs.length (((rByte bs (((rUint bs (BitVec.ofInt 64 (65534 - last)) R).2))).2)).p ((rInt bs ((((rByte bs (((rUint bs (BitVec.ofInt 64 (65534 - last)) R).2))).2)))).2).p)) bs.length ((rInt bs ((((rByte bs (((rUint bs (BitVec.ofInt 64 (65534 - last)) R).2))).2)))).2).p ((rInt bs (rInt bs ((((rByte bs (((rUint bs (BitVec.ofInt 64 (65534 - last)) R).2))).2)))).2).2).p)) bs.length ((rInt bs (rInt bs ((((rByte bs (((rUint bs (BitVec.ofInt 64 (65534 - last)) R).2))).2)))).2).2).p ((rInt bs (rInt bs (rInt bs ((((rByte bs (((rUint bs (BitVec.ofInt 64 (65534 - last)) R).2))).2)))).2).2).2).p)) bs.length (((rInt bs (rInt bs (rInt bs ((((rByte bs (((rUint bs (BitVec.ofInt 64 (65534 - last)) R).2))).2)))).2).2).2)).p ((rInt bs ((((rInt bs (rInt bs (rInt bs ((((rByte bs (((rUint bs (BitVec.ofInt 64 (65534 - last)) R).2))).2)))).2).2).2)))).2).p)) bs.length ((rInt bs ((((rInt bs (rInt bs (rInt bs ((((rByte bs (((rUint bs (BitVec.ofInt 64 (65534 - last)) R).2))).2)))).2).2).2)))).2).p ((rInt bs (rInt bs ((((rInt bs (rInt bs (rInt bs ((((rByte bs (((rUint bs (BitVec.ofInt 64 (65534 - last)) R).2))).2)))).2).2).2)))).2).2).p)) bs.length ((rInt bs (rInt bs ((((rInt bs (rInt bs (rInt bs ((((rByte bs (((rUint bs (BitVec.ofInt 64 (65534 - last)) R).2))).2)))).2).2).2)))).2).2).p ((rInt bs (rInt bs (rInt bs ((((rInt bs (rInt bs (rInt bs ((((rByte bs (((rUint bs (BitVec.ofInt 64 (65534 - last)) R).2))).2)))).2).2).2)))).2).2).2).p)) bs.length (((rInt bs (rInt bs (rInt bs ((((rInt bs (rInt bs (rInt bs ((((rByte bs (((rUint bs (BitVec.ofInt 64 (65534 - last)) R).2))).2)))).2).2).2)))).2).2).2)).p ((rUint bs (65535#64) (((rInt bs (rInt bs (rInt bs ((((rInt bs (rInt bs (rInt bs ((((rByte bs (((rUint bs (BitVec.ofInt 64 (65534 - last)) R).2))).2)))).2).2).2)))).2).2).2))).2).p), .int .i64 ((((rdAll bs (((((rByte bs (((rUint bs (BitVec.ofInt 64 (65534 - last)) R).2))).1).toNat : Nat) : Int)) ((last + 1) + ((((rUint bs (BitVec.ofInt 64 (65534 - last)) R).1.toNat : Nat) : Int))) (rByte bs (rUint bs (BitVec.ofInt 64 (65534 - last)) R).2).2).2.p : Nat) : Int)), .int .i64 ((((rdAll bs (((((rByte bs (((rUint bs (BitVec.ofInt 64 (65534 - last)) R).2))).1).toNat : Nat) : Int)) ((last + 1) + ((((rUint bs (BitVec.ofInt 64 (65534 - last)) R).1.toNat : Nat) : Int))) (rByte bs (rUint bs (BitVec.ofInt 64 (65534 - last)) R).2).2).2.e : Nat) : Int))]) (by simp only [hA_])
    replace hs := hs.reblk (.s .z) (cs' := [.int .i64 (((rdAll bs (((((rByte bs (((rUint bs (BitVec.ofInt 64 (65534 - last)) R).2))).1).toNat : Nat) : Int)) ((last + 1) + ((((rUint bs (BitVec.ofInt 64 (65534 - last)) R).1.toNat : Nat) : Int))) (rByte bs (rUint bs (BitVec.ofInt 64 (65534 - last)) R).2).2).1).k), .int .i64 (((rdAll bs (((((rByte bs (((rUint bs (BitVec.ofInt 64 (65534 - last)) R).2))).1).toNat : Nat) : Int)) ((last + 1) + ((((rUint bs (BitVec.ofInt 64 (65534 - last)) R).1.toNat : Nat) : Int))) (rByte bs (rUint bs (BitVec.ofInt 64 (65534 - last)) R).2).2).1).id), .int .i64 (((rdAll bs (((((rByte bs (((rUint bs (BitVec.ofInt 64 (65534 - last)) R).2))).1).toNat : Nat) : Int)) ((last + 1) + ((((rUint bs (BitVec.ofInt 64 (65534 - last)) R).1.toNat : Nat) : Int))) (rByte bs (rUint bs (BitVec.ofInt 64 (65534 - last)) R).2).2).1).p0), .int .i64 (((rdAll bs (((((rByte bs (((rUint bs (BitVec.ofInt 64 (65534 - last)) R).2))).1).toNat : Nat) : Int)) ((last + 1) + ((((rUint bs (BitVec.ofInt 64 (65534 - last)) R).1.toNat : Nat) : Int))) (rByte bs (rUint bs (BitVec.ofInt 64 (65534 - last)) R).2).2).1).p1), .int .i64 (((rdAll bs (((((rByte bs (((rUint bs (BitVec.ofInt 64 (65534 - last)) R).2))).1).toNat : Nat) : Int)) ((last + 1) + ((((rUint bs (BitVec.ofInt 64 (65534 - last)) R).1.toNat : Nat) : Int))) (rByte bs (rUint bs (BitVec.ofInt 64 (65534 - last)) R).2).2).1).p2), .int .i64 (((rdAll bs (((((rByte bs (((rUint bs (BitVec.ofInt 64 (65534 - last)) R).2))).1).toNat : Nat) : Int)) ((last + 1) + ((((rUint bs (BitVec.ofInt 64 (65534 - last)) R).1.toNat : Nat) : Int))) (rByte bs (rUint bs (BitVec.ofInt 64 (65534 - last)) R).2).2).1).v0), .int .i64 (((rdAll bs (((((rByte bs (((rUint bs (BitVec.ofInt 64 (65534 - last)) R).2))).1).toNat : Nat) : Int)) ((last + 1) + ((((rUint bs (BitVec.ofInt 64 (65534 - last)) R).1.toNat : Nat) : Int))) (rByte bs (rUint bs (BitVec.ofInt 64 (65534 - last)) R).2).2).1).v1), .int .i64 (((rdAll bs (((((rByte bs (((rUint bs (BitVec.ofInt 64 (65534 - last)) R).2))).1).toNat : Nat) : Int)) ((last + 1) + ((((rUint bs (BitVec.ofInt 64 (65534 - last)) R).1.toNat : Nat) : Int))) (rByte bs (rUint bs (BitVec.ofInt 64 (65534 - last)) R).2).2).1).v2), .int .u16 ((((((rdAll bs (((((rByte bs (((rUint bs (BitVec.ofInt 64 (65534 - last)) R).2))).1).toNat : Nat) : Int)) ((last + 1) + ((((rUint bs (BitVec.ofInt 64 (65534 - last)) R).1.toNat : Nat) : Int))) (rByte bs (rUint bs (BitVec.ofInt 64 (65534 - last)) R).2).2).1).a).toNat : Nat) : Int))]) (by simp only [hA_])
    have hT_ : Tr bs u R.p ((uNext ((uNext ((uNext ((uNext ((uNext ((uNext ((uNext ((uNext ((uNext u bs.length R.p ((rUint bs (BitVec.ofInt 64 (65534 - last)) R).2).p)) bs.length (((rUint bs (BitVec.ofInt 64 (65534 - last)) R).2)).p ((rByte bs (((rUint bs (BitVec.ofInt 64 (65534 - last)) R).2))).2).p)) bs.length (((rByte bs (((rUint bs (BitVec.ofInt 64 (65534 - last)) R).2))).2)).p ((rInt bs ((((rByte bs (((rUint bs (BitVec.ofInt 64 (65534 - last)) R).2))).2)))).2).p)) bs.length ((rInt bs ((((rByte bs (((rUint bs (BitVec.ofInt 64 (65534 - last)) R).2))).2)))).2).p ((rInt bs (rInt bs ((((rByte bs (((rUint bs (BitVec.ofInt 64 (65534 - last)) R).2))).2)))).2).2).p)) bs.length ((rInt bs (rInt bs ((((rByte bs (((rUint bs (BitVec.ofInt 64 (65534 - last)) R).2))).2)))).2).2).p ((rInt bs (rInt bs (rInt bs ((((rByte bs (((rUint bs (BitVec.ofInt 64 (65534 - last)) R).2))).2)))).2).2).2).p)) bs.length (((rInt bs (rInt bs (rInt bs ((((rByte bs (((rUint bs (BitVec.ofInt 64 (65534 - last)) R).2))).2)))).2).2).2)).p ((rInt bs ((((rInt bs (rInt bs (rInt bs ((((rByte bs (((rUint bs (BitVec.ofInt 64 (65534 - last)) R).2))).2)))).2).2).2)))).2).p)) bs.length ((rInt bs ((((rInt bs (rInt bs (rInt bs ((((rByte bs (((rUint bs (BitVec.ofInt 64 (65534 - last)) R).2))).2)))).2).2).2)))).2).p ((rInt bs (rInt bs ((((rInt bs (rInt bs (rInt bs ((((rByte bs (((rUint bs (BitVec.ofInt 64 (65534 - last)) R).2))).2)))).2).2).2)))).2).2).p)) bs.length ((rInt bs (rInt bs ((((rInt bs (rInt bs (rInt bs ((((rByte bs (((rUint bs (BitVec.ofInt 64 (65534 - last)) R).2))).2)))).2).2).2)))).2).2).p ((rInt bs (rInt bs (rInt bs ((((rInt bs (rInt bs (rInt bs ((((rByte bs (((rUint bs (BitVec.ofInt 64 (65534 - last)) R).2))).2)))).2).2).2)))).2).2).2).p)) bs.length (((rInt bs (rInt bs (rInt bs ((((rInt bs (rInt bs (rInt bs ((((rByte bs (((rUint bs (BitVec.ofInt 64 (65534 - last)) R).2))).2)))).2).2).2)))).2).2).2)).p ((rUint bs (65535#64) (((rInt bs (rInt bs (rInt bs ((((rInt bs (rInt bs (rInt bs ((((rByte bs (((rUint bs (BitVec.ofInt 64 (65534 - last)) R).2))).2)))).2).2).2)))).2).2).2))).2).p)) ((rdAll bs (((((rByte bs (((rUint bs (BitVec.ofInt 64 (65534 - last)) R).2))).1).toNat : Nat) : Int)) ((last + 1) + ((((rUint bs (BitVec.ofInt 64 (65534 - last)) R).1.toNat : Nat) : Int))) (rByte bs (rUint bs (BitVec.ofInt 64 (65534 - last)) R).2).2).2).p := by rw [hA_]; dsimp only; exact (Tr.trans (Tr.trans (Tr.trans (Tr.trans (Tr.trans (Tr.trans (Tr.trans (Tr.trans (Tr.trans Tr.refl (uNext_tr (p := R.p) (p' := ((rUint bs (BitVec.ofInt 64 (65534 - last)) R).2).p) (by omega) (by omega))) (uNext_tr (p := (((rUint bs (BitVec.ofInt 64 (65534 - last)) R).2)).p) (p' := ((rByte bs (((rUint bs (BitVec.ofInt 64 (65534 - last)) R).2))).2).p) (by omega) (by omega))) (uNext_tr (p := (((rByte bs (((rUint bs (BitVec.ofInt 64 (65534 - last)) R).2))).2)).p) (p' := ((rInt bs ((((rByte bs (((rUint bs (BitVec.ofInt 64 (65534 - last)) R).2))).2)))).2).p) (by omega) (by omega))) (uNext_tr (p := ((rInt bs ((((rByte bs (((rUint bs (BitVec.ofInt 64 (65534 - last)) R).2))).2)))).2).p) (p' := ((rInt bs (rInt bs ((((rByte bs (((rUint bs (BitVec.ofInt 64 (65534 - last)) R).2))).2)))).2).2).p) (by omega) (by omega))) (uNext_tr (p := ((rInt bs (rInt bs ((((rByte bs (((rUint bs (BitVec.ofInt 64 (65534 - last)) R).2))).2)))).2).2).p) (p' := ((rInt bs (rInt bs (rInt bs ((((rByte bs (((rUint bs (BitVec.ofInt 64 (65534 - last)) R).2))).2)))).2).2).2).p) (by omega) (by omega))) (uNext_tr (p := (((rInt bs (rInt bs (rInt bs ((((rByte bs (((rUint bs (BitVec.ofInt 64 (65534 - last)) R).2))).2)))).2).2).2)).p) (p' := ((rInt bs ((((rInt bs (rInt bs (rInt bs ((((rByte bs (((rUint bs (BitVec.ofInt 64 (65534 - last)) R).2))).2)))).2).2).2)))).2).p) (by omega) (by omega))) (uNext_tr (p := ((rInt bs ((((rInt bs (rInt bs (rInt bs ((((rByte bs (((rUint bs (BitVec.ofInt 64 (65534 - last)) R).2))).2)))).2).2).2)))).2).p) (p' := ((rInt bs (rInt bs ((((rInt bs (rInt bs (rInt bs ((((rByte bs (((rUint bs (BitVec.ofInt 64 (65534 - last)) R).2))).2)))).2).2).2)))).2).2).p) (by omega) (by omega))) (uNext_tr (p := ((rInt bs (rInt bs ((((rInt bs (rInt bs (rInt bs ((((rByte bs (((rUint bs (BitVec.ofInt 64 (65534 - last)) R).2))).2)))).2).2).2)))).2).2).p) (p' := ((rInt bs (rInt bs (rInt bs ((((rInt bs (rInt bs (rInt bs ((((rByte bs (((rUint bs (BitVec.ofInt 64 (65534 - last)) R).2))).2)))).2).2).2)))).2).2).2).p) (by omega) (by omega))) (uNext_tr (p := (((rInt bs (rInt bs (rInt bs ((((rInt bs (rInt bs (rInt bs ((((rByte bs (((rUint bs (BitVec.ofInt 64 (65534 - last)) R).2))).2)))).2).2).2)))).2).2).2)).p) (p' := ((rUint bs (65535#64) (((rInt bs (rInt bs (rInt bs ((((rInt bs (rInt bs (rInt bs ((((rByte bs (((rUint bs (BitVec.ofInt 64 (65534 - last)) R).2))).2)))).2).2).2)))).2).2).2))).2).p) (by omega) (by omega)))
    have hL_ : ((rdAll bs (((((rByte bs (((rUint bs (BitVec.ofInt 64 (65534 - last)) R).2))).1).toNat : Nat) : Int)) ((last + 1) + ((((rUint bs (BitVec.ofInt 64 (65534 - last)) R).1.toNat : Nat) : Int))) (rByte bs (rUint bs (BitVec.ofInt 64 (65534 - last)) R).2).2).2).p ≤ bs.length := by rw [hA_]; dsimp only; omega
    replace hs := hs.reorder (.c (.s .z) (.c .z (.c .z .n)))
    exact ⟨((rdAll bs (((((rByte bs (((rUint bs (BitVec.ofInt 64 (65534 - last)) R).2))).1).toNat : Nat) : Int)) ((last + 1) + ((((rUint bs (BitVec.ofInt 64 (65534 - last)) R).1.toNat : Nat) : Int))) (rByte bs (rUint bs (BitVec.ofInt 64 (65534 - last)) R).2).2).1), (rdAll bs (((((rByte bs (((rUint bs (BitVec.ofInt 64 (65534 - last)) R).2))).1).toNat : Nat) : Int)) ((last + 1) + ((((rUint bs (BitVec.ofInt 64 (65534 - last)) R).1.toNat : Nat) : Int))) (rByte bs (rUint bs (BitVec.ofInt 64 (65534 - last)) R).2).2).2, (uNext ((uNext ((uNext ((uNext ((uNext ((uNext ((uNext ((uNext ((uNext u bs.length R.p ((rUint bs (BitVec.ofInt 64 (65534 - last)) R).2).p)) bs.length (((rUint bs (BitVec.ofInt 64 (65534 - last)) R).2)).p ((rByte bs (((rUint bs (BitVec.ofInt 64 (65534 - last)) R).2))).2).p)) bs.length (((rByte bs (((rUint bs (BitVec.ofInt 64 (65534 - last)) R).2))).2)).p ((rInt bs ((((rByte bs (((rUint bs (BitVec.ofInt 64 (65534 - last)) R).2))).2)))).2).p)) bs.length ((rInt bs ((((rByte bs (((rUint bs (BitVec.ofInt 64 (65534 - last)) R).2))).2)))).2).p ((rInt bs (rInt bs ((((rByte bs (((rUint bs (BitVec.ofInt 64 (65534 - last)) R).2))).2)))).2).2).p)) bs.length ((rInt bs (rInt bs ((((rByte bs (((rUint bs (BitVec.ofInt 64 (65534 - last)) R).2))).2)))).2).2).p ((rInt bs (rInt bs (rInt bs ((((rByte bs (((rUint bs (BitVec.ofInt 64 (65534 - last)) R).2))).2)))).2).2).2).p)) bs.length (((rInt bs (rInt bs (rInt bs ((((rByte bs (((rUint bs (BitVec.ofInt 64 (65534 - last)) R).2))).2)))).2).2).2)).p ((rInt bs ((((rInt bs (rInt bs (rInt bs ((((rByte bs (((rUint bs (BitVec.ofInt 64 (65534 - last)) R).2))).2)))).2).2).2)))).2).p)) bs.length ((rInt bs ((((rInt bs (rInt bs (rInt bs ((((rByte bs (((rUint bs (BitVec.ofInt 64 (65534 - last)) R).2))).2)))).2).2).2)))).2).p ((rInt bs (rInt bs ((((rInt bs (rInt bs (rInt bs ((((rByte bs (((rUint bs (BitVec.ofInt 64 (65534 - last)) R).2))).2)))).2).2).2)))).2).2).p)) bs.length ((rInt bs (rInt bs ((((rInt bs (rInt bs (rInt bs ((((rByte bs (((rUint bs (BitVec.ofInt 64 (65534 - last)) R).2))).2)))).2).2).2)))).2).2).p ((rInt bs (rInt bs (rInt bs ((((rInt bs (rInt bs (rInt bs ((((rByte bs (((rUint bs (BitVec.ofInt 64 (65534 - last)) R).2))).2)))).2).2).2)))).2).2).2).p)) bs.length (((rInt bs (rInt bs (rInt bs ((((rInt bs (rInt bs (rInt bs ((((rByte bs (((rUint bs (BitVec.ofInt 64 (65534 - last)) R).2))).2)))).2).2).2)))).2).2).2)).p ((rUint bs (65535#64) (((rInt bs (rInt bs (rInt bs ((((rInt bs (rInt bs (rInt bs ((((rByte bs (((rUint bs (BitVec.ofInt 64 (65534 - last)) R).2))).2)))).2).2).2)))).2).2).2))).2).p), hs.sub (.c rfl (.c rfl (.c rfl (.c rfl .n)))), pair_eq ((rdRaw_eq _ _ _).trans (rdBody_all (by omega))), hL_, hT_⟩
   rw [hc42] at hs
   replace hc42 := ne_of_beq_f hc42
   refine wp_region_lit ?_
   refine st_run 2 [(42, .bool ((((((rByte bs (((rUint bs (BitVec.ofInt 64 (65534 - last)) R).2))).1).toNat : Nat) : Int) : Int) == 3))] hs .n (by kernel_rfl) (by kernel_rfl) (by kernel_rfl) ?_; clear hs a; intro a hs
   refine wpList_nil ?_
   refine then_n (hK39 _ _ ?_)
   refine wp_if hs rfl (fun hc54 => ?_) (fun hc54 => ?_)
   ·
    replace hc54 := eq_of_beq hc54
    refine wp_seq_k fun K55 hK56 => ?_
    refine wp_region_lit ?_
    refine st_mv hs rfl rfl ?_; clear hs w a; intro a w hs
    refine st_call hs (.c rfl .n) Try.call59 (.c (.s .z) .n) (mvec_ok  g _ bs (((rByte bs (((rUint bs (BitVec.ofInt 64 (65534 - last)) R).2))).2)) _ ((uNext_tr (p := (((rUint bs (BitVec.ofInt 64 (65534 - last)) R).2)).p) (p' := ((rByte bs (((rUint bs (BitVec.ofInt 64 (65534 - last)) R).2))).2).p) (by omega) (by omega)) _ _ ((uNext_tr (p := R.p) (p' := ((rUint bs (BitVec.ofInt 64 (65534 - last)) R).2).p) (by omega) (by omega)) _ _ (hs.mem.rd1 hb (.c (.s .z) .n)))) (hs.mem.del (.s .z)) (by omega) (by simp only [maxLen]; omega)) rfl ?_; clear hs w a; rintro _ _ a w ⟨rfl, rfl⟩ hs; simp only [List.cons_append, List.nil_append] at hs
    have hk57 := rInt_le (bs := bs) (R := ((rByte bs (((rUint bs (BitVec.ofInt 64 (65534 - last)) R).2))).2)) (by omega)
    have hk58 := rInt_le (bs := bs) (R := (rInt bs ((((rByte bs (((rUint bs (BitVec.ofInt 64 (65534 - last)) R).2))).2)))).2) (by omega)
    have hk59 := rInt_le (bs := bs) (R := (rInt bs (rInt bs ((((rByte bs (((rUint bs (BitVec.ofInt 64 (65534 - last)) R).2))).2)))).2).2) (by omega)
    refine st_fa hs rfl Try.underlying25 rfl Try.sizeOf22 (by decide) (o := 2) rfl rfl ?_; clear hs w a; intro a w hs
    refine st_stBA hs rfl rfl (.s .z) (.s (.s (.z (.c (.c (.c .n)))))) (ones_c rfl (ones_c rfl (ones_c rfl ones_n))) Try.sizeOf22 rfl ?_; clear hs w a; intro a w hs
    refine wpList_nil ?_
    refine then_n (hK56 _ _ ?_)
    refine wp_seq_k fun K60 hK61 => ?_
    refine wp_region_lit ?_
    refine st_mv hs rfl rfl ?_; clear hs w a; intro a w hs
    refine st_call hs (.c rfl .n) Try.call59 (.c (.s .z) .n) (mvec_ok  g _ bs (((rInt bs (rInt bs (rInt bs ((((rByte bs (((rUint bs (BitVec.ofInt 64 (65534 - last)) R).2))).2)))).2).2).2)) _ ((uNext_tr (p := ((rInt bs (rInt bs ((((rByte bs (((rUint bs (BitVec.ofInt 64 (65534 - last)) R).2))).2)))).2).2).p) (p' := ((rInt bs (rInt bs (rInt bs ((((rByte bs (((rUint bs (BitVec.ofInt 64 (65534 - last)) R).2))).2)))).2).2).2).p) (by omega) (by omega)) _ _ ((uNext_tr (p := ((rInt bs ((((rByte bs (((rUint bs (BitVec.ofInt 64 (65534 - last)) R).2))).2)))).2).p) (p' := ((rInt bs (rInt bs ((((rByte bs (((rUint bs (BitVec.ofInt 64 (65534 - last)) R).2))).2)))).2).2).p) (by omega) (by omega)) _ _ ((uNext_tr (p := (((rByte bs (((rUint bs (BitVec.ofInt 64 (65534 - last)) R).2))).2)).p) (p' := ((rInt bs ((((rByte bs (((rUint bs (BitVec.ofInt 64 (65534 - last)) R).2))).2)))).2).p) (by omega) (by omega)) _ _ ((uNext_tr (p := (((rUint bs (BitVec.ofInt 64 (65534 - last)) R).2)).p) (p' := ((rByte bs (((rUint bs (BitVec.ofInt 64 (65534 - last)) R).2))).2).p) (by omega) (by omega)) _ _ ((uNext_tr (p := R.p) (p' := ((rUint bs (BitVec.ofInt 64 (65534 - last)) R).2).p) (by omega) (by omega)) _ _ (hs.mem.rd1 hb (.c (.s .z) .n))))))) (hs.mem.del (.s .z)) (by omega) (by simp only [maxLen]; omega)) rfl ?_; clear hs w a; rintro _ _ a w ⟨rfl, rfl⟩ hs; simp only [List.cons_append, List.nil_append] at hs
    have hk62 := rInt_le (bs := bs) (R := ((rInt bs (rInt bs (rInt bs ((((rByte bs (((rUint bs (BitVec.ofInt 64 (65534 - last)) R).2))).2)))).2).2).2)) (by omega)
    have hk63 := rInt_le (bs := bs) (R := (rInt bs ((((rInt bs (rInt bs (rInt bs ((((rByte bs (((rUint bs (BitVec.ofInt 64 (65534 - last)) R).2))).2)))).2).2).2)))).2) (by omega)
    have hk64 := rInt_le (bs := bs) (R := (rInt bs (rInt bs ((((rInt bs (rInt bs (rInt bs ((((rByte bs (((rUint bs (BitVec.ofInt 64 (65534 - last)) R).2))).2)))).2).2).2)))).2).2) (by omega)
    refine st_fa hs rfl Try.underlying25 rfl Try.sizeOf22 (by decide) (o := 5) rfl rfl ?_; clear hs w a; intro a w hs
    refine st_stBA hs rfl rfl (.s .z) (.s (.s (.s (.s (.s (.z (.c (.c (.c .n))))))))) (ones_c rfl (ones_c rfl (ones_c rfl ones_n))) Try.sizeOf22 rfl ?_; clear hs w a; intro a w hs
    refine wpList_nil ?_
    refine then_n (hK61 _ _ ?_)
    refine wp_region_lit ?_
    refine st_mv hs rfl rfl ?_; clear hs w a; intro a w hs
    refine st_call hs (.c rfl (.c rfl .n)) Try.call57 (.c (.s .z) .n) (muint_ok (65535#64) g _ bs (((rInt bs (rInt bs (rInt bs ((((rInt bs (rInt bs (rInt bs ((((rByte bs (((rUint bs (BitVec.ofInt 64 (65534 - last)) R).2))).2)))).2).2).2)))).2).2).2)) _ ((uNext_tr (p := ((rInt bs (rInt bs ((((rInt bs (rInt bs (rInt bs ((((rByte bs (((rUint bs (BitVec.ofInt 64 (65534 - last)) R).2))).2)))).2).2).2)))).2).2).p) (p' := ((rInt bs (rInt bs (rInt bs ((((rInt bs (rInt bs (rInt bs ((((rByte bs (((rUint bs (BitVec.ofInt 64 (65534 - last)) R).2))).2)))).2).2).2)))).2).2).2).p) (by omega) (by omega)) _ _ ((uNext_tr (p := ((rInt bs ((((rInt bs (rInt bs (rInt bs ((((rByte bs (((rUint bs (BitVec.ofInt 64 (65534 - last)) R).2))).2)))).2).2).2)))).2).p) (p' := ((rInt bs (rInt bs ((((rInt bs (rInt bs (rInt bs ((((rByte bs (((rUint bs (BitVec.ofInt 64 (65534 - last)) R).2))).2)))).2).2).2)))).2).2).p) (by omega) (by omega)) _ _ ((uNext_tr (p := (((rInt bs (rInt bs (rInt bs ((((rByte bs (((rUint bs (BitVec.ofInt 64 (65534 - last)) R).2))).2)))).2).2).2)).p) (p' := ((rInt bs ((((rInt bs (rInt bs (rInt bs ((((rByte bs (((rUint bs (BitVec.ofInt 64 (65534 - last)) R).2))).2)))).2).2).2)))).2).p) (by omega) (by omega)) _ _ ((uNext_tr (p := ((rInt bs (rInt bs ((((rByte bs (((rUint bs (BitVec.ofInt 64 (65534 - last)) R).2))).2)))).2).2).p) (p' := ((rInt bs (rInt bs (rInt bs ((((rByte bs (((rUint bs (BitVec.ofInt 64 (65534 - last)) R).2))).2)))).2).2).2).p) (by omega) (by omega)) _ _ ((uNext_tr (p := ((rInt bs ((((rByte bs (((rUint bs (BitVec.ofInt 64 (65534 - last)) R).2))).2)))).2).p) (p' := ((rInt bs (rInt bs ((((rByte bs (((rUint bs (BitVec.ofInt 64 (65534 - last)) R).2))).2)))).2).2).p) (by omega) (by omega)) _ _ ((uNext_tr (p := (((rByte bs (((rUint bs (BitVec.ofInt 64 (65534 - last)) R).2))).2)).p) (p' := ((rInt bs ((((rByte bs (((rUint bs (BitVec.ofInt 64 (65534 - last)) R).2))).2)))).2).p) (by omega) (by omega)) _ _ ((uNext_tr (p := (((rUint bs (BitVec.ofInt 64 (65534 - last)) R).2)).p) (p' := ((rByte bs (((rUint bs (BitVec.ofInt 64 (65534 - last)) R).2))).2).p) (by omega) (by omega)) _ _ ((uNext_tr (p := R.p) (p' := ((rUint bs (BitVec.ofInt 64 (65534 - last)) R).2).p) (by omega) (by omega)) _ _ (hs.mem.rd1 hb (.c (.s .z) .n)))))))))) (hs.mem.del (.s .z)) (by omega) (by simp only [maxLen]; omega)) rfl ?_; clear hs w a; rintro _ _ a w ⟨rfl, rfl⟩ hs; simp only [List.cons_append, List.nil_append] at hs
    have hk65 := rUint_le (X := 65535#64) (bs := bs) (R := ((rInt bs (rInt bs (rInt bs ((((rInt bs (rInt bs (rInt bs ((((rByte bs (((rUint bs (BitVec.ofInt 64 (65534 - last)) R).2))).2)))).2).2).2)))).2).2).2)) (by omega)
    refine st_cv_u64_u16 (X := (rUint bs (65535#64) (((rInt bs (rInt bs (rInt bs ((((rInt bs (rInt bs (rInt bs ((((rByte bs (((rUint bs (BitVec.ofInt 64 (65534 - last)) R).2))).2)))).2).2).2)))).2).2).2))).1) hs rfl rfl Try.underlying37 Try.underlying23 rfl ?_; clear hs w a; intro a w hs
    refine st_fa hs rfl Try.underlying25 rfl Try.sizeOf23 (by decide) (o := 8) rfl rfl ?_; clear hs w a; intro a w hs
    refine st_stB hs rfl rfl (.s .z) (.s (.s (.s (.s (.s (.s (.s (.s .z)))))))) rfl Try.sizeOf23 ?_; clear hs w a; intro a w hs
    refine wpList_nil ?_
    refine in_n ?_
    refine then_n ?_
    have hA_ : (rdAll bs (((((rByte bs (((rUint bs (BitVec.ofInt 64 (65534 - last)) R).2))).1).toNat : Nat) : Int)) ((last + 1) + ((((rUint bs (BitVec.ofInt 64 (65534 - last)) R).1.toNat : Nat) : Int))) (rByte bs (rUint bs (BitVec.ofInt 64 (65534 - last)) R).2).2) = (⟨((((rByte bs (((rUint bs (BitVec.ofInt 64 (65534 - last)) R).2))).1).toNat : Nat) : Int), (last + 1) + ((((rUint bs (BitVec.ofInt 64 (65534 - last)) R).1.toNat : Nat) : Int)), (rInt bs (((rByte bs (((rUint bs (BitVec.ofInt 64 (65534 - last)) R).2))).2))).1, (rInt bs (rInt bs (((rByte bs (((rUint bs (BitVec.ofInt 64 (65534 - last)) R).2))).2))).2).1, (rInt bs (rInt bs (rInt bs (((rByte bs (((rUint bs (BitVec.ofInt 64 (65534 - last)) R).2))).2))).2).2).1, (rInt bs (((rInt bs (rInt bs (rInt bs ((((rByte bs (((rUint bs (BitVec.ofInt 64 (65534 - last)) R).2))).2)))).2).2).2))).1, (rInt bs (rInt bs (((rInt bs (rInt bs (rInt bs ((((rByte bs (((rUint bs (BitVec.ofInt 64 (65534 - last)) R).2))).2)))).2).2).2))).2).1, (rInt bs (rInt bs (rInt bs (((rInt bs (rInt bs (rInt bs ((((rByte bs (((rUint bs (BitVec.ofInt 64 (65534 - last)) R).2))).2)))).2).2).2))).2).2).1, ((rUint bs (65535#64) (((rInt bs (rInt bs (rInt bs ((((rInt bs (rInt bs (rInt bs ((((rByte bs (((rUint bs (BitVec.ofInt 64 (65534 - last)) R).2))).2)))).2).2).2)))).2).2).2))).1).setWidth 16⟩, ((rUint bs (65535#64) (((rInt bs (rInt bs (rInt bs ((((rInt bs (rInt bs (rInt bs ((((rByte bs (((rUint bs (BitVec.ofInt 64 (65534 - last)) R).2))).2)))).2).2).2)))).2).2).2))).2)) := by simp only [rdAll, nX, nS]
    replace hs := hs.reblk (.s .z) (cs' := [(uNext ((uNext ((uNext ((uNext ((uNext ((uNext ((uNext ((uNext ((uNext u bs.length R.p ((rUint bs (BitVec.ofInt 64 (65534 - last)) R).2).p)) bs.length (((rUint bs (BitVec.ofInt 64 (65534 - last)) R).2)).p ((rByte bs (((rUint bs (BitVec.ofInt 64 (65534 - last)) R).2))).2).p)) bs.length (((rByte bs (((rUint bs (BitVec.ofInt 64 (65534 - last)) R).2))).2)).p ((rInt bs ((((rByte bs (((rUint bs (BitVec.ofInt 64 (65534 - last)) R).2))).2)))).2).p)) bs.length ((rInt bs ((((rByte bs (((rUint bs (BitVec.ofInt 64 (65534 - last)) R).2))).2)))).2).p ((rInt bs (rInt bs ((((rByte bs (((rUint bs (BitVec.ofInt 64 (65534 - last)) R).2))).2)))).2).2).p)) bs.length ((rInt bs (rInt bs ((((rByte bs (((rUint bs (BitVec.ofInt 64 (65534 - last)) R).2))).2)))).2).2).p ((rInt bs (rInt bs (rInt bs ((((rByte bs (((rUint bs (BitVec.ofInt 64 (65534 - last)) R).2))).2)))).2).2).2).p)) bs.length (((rInt bs (rInt bs (rInt bs ((((rByte bs (((rUint bs (BitVec.ofInt 64 (65534 - last)) R).2))).2)))).2).2).2)).p ((rInt bs ((((rInt bs (rInt bs (rInt bs ((((rByte bs (((rUint bs (BitVec.ofInt 64 (65534 - last)) R).2))).2)))).2).2).2)))).2).p)) bs.length ((rInt bs ((((rInt bs (rInt bs (rInt bs ((((rByte bs (((rUint bs (BitVec.ofInt 64 (65534 - last)) R).2))).2)))).2).2).2)))).2).p ((rInt bs (rInt bs ((((rInt bs (rInt bs (rInt bs ((((rByte bs (((rUint bs (BitVec.ofInt 64 (65534 - last)) R).2))).2)))).2).2).2)))).2).2).p)) bs.length ((rInt bs (rInt bs ((((rInt bs (rInt bs (rInt bs ((((rByte bs (((rUint bs (BitVec.ofInt 64 (65534 - last)) R).2))).2)))).2).2).2)))).2).2).p ((rInt bs (rInt bs (rInt bs ((((rInt bs (rInt bs (rInt bs ((((rByte bs (((rUint bs (BitVec.ofInt 64 (65534 - last)) R).2))).2)))).2).2).2)))).2).2).2).p)) bs.length (((rInt bs (rInt bs (rInt bs ((((rInt bs (rInt bs (rInt bs ((((rByte bs (((rUint bs (BitVec.ofInt 64 (65534 - last)) R).2))).2)))).2).2).2)))).2).2).2)).p ((rUint bs (65535#64) (((rInt bs (rInt bs (rInt bs ((((rInt bs (rInt bs (rInt bs ((((rByte bs (((rUint bs (BitVec.ofInt 64 (65534 - last)) R).2))).2)))).2).2).2)))).2).2).2))).2).p), .int .i64 ((((rdAll bs (((((rByte bs (((rUint bs (BitVec.ofInt 64 (65534 - last)) R).2))).1).toNat : Nat) : Int)) ((last + 1) + ((((rUint bs (BitVec.ofInt 64 (65534 - last)) R).1.toNat : Nat) : Int))) (rByte bs (rUint bs (BitVec.ofInt 64 (65534 - last)) R).2).2).2.p : Nat) : Int)), .int .i64 ((((rdAll bs (((((rByte bs (((rUint bs (BitVec.ofInt 64 (65534 - last)) R).2))).1).toNat : Nat) : Int)) ((last + 1) + ((((rUint bs (BitVec.ofInt 64 (65534 - last)) R).1.toNat : Nat) : Int))) (rByte bs (rUint bs (BitVec.ofInt 64 (65534 - last)) R).2).2).2.e : Nat) : Int))]) (by simp only [hA_])
    replace hs := hs.reblk (.s .z) (cs' := [.int .i64 (((rdAll bs (((((rByte bs (((rUint bs (BitVec.ofInt 64 (65534 - last)) R).2))).1).toNat : Nat) : Int)) ((last + 1) + ((((rUint bs (BitVec.ofInt 64 (65534 - last)) R).1.toNat : Nat) : Int))) (rByte bs (rUint bs (BitVec.ofInt 64 (65534 - last)) R).2).2).1).k), .int .i64 (((rdAll bs (((((rByte bs (((rUint bs (BitVec.ofInt 64 (65534 - last)) R).2))).1).toNat : Nat) : Int)) ((last + 1) + ((((rUint bs (BitVec.ofInt 64 (65534 - last)) R).1.toNat : Nat) : Int))) (rByte bs (rUint bs (BitVec.ofInt 64 (65534 - last)) R).2).2).1).id), .int .i64 (((rdAll bs (((((rByte bs (((rUint bs (BitVec.ofInt 64 (65534 - last)) R).2))).1).toNat : Nat) : Int)) ((last + 1) + ((((rUint bs (BitVec.ofInt 64 (65534 - last)) R).1.toNat : Nat) : Int))) (rByte bs (rUint bs (BitVec.ofInt 64 (65534 - last)) R).2).2).1).p0), .int .i64 (((rdAll bs (((((rByte bs (((rUint bs (BitVec.ofInt 64 (65534 - last)) R).2))).1).toNat : Nat) : Int)) ((last + 1) + ((((rUint bs (BitVec.ofInt 64 (65534 - last)) R).1.toNat : Nat) : Int))) (rByte bs (rUint bs (BitVec.ofInt 64 (65534 - last)) R).2).2).1).p1), .int .i64 (((rdAll bs (((((rByte bs (((rUint bs (BitVec.ofInt 64 (65534 - last)) R).2))).1).toNat : Nat) : Int)) ((last + 1) + ((((rUint bs (BitVec.ofInt 64 (65534 - last)) R).1.toNat : Nat) : Int))) (rByte bs (rUint bs (BitVec.ofInt 64 (65534 - last)) R).2).2).1).p2), .int .i64 (((rdAll bs (((((rByte bs (((rUint bs (BitVec.ofInt 64 (65534 - last)) R).2))).1).toNat : Nat) : Int)) ((last + 1) + ((((rUint bs (BitVec.ofInt 64 (65534 - last)) R).1.toNat : Nat) : Int))) (rByte bs (rUint bs (BitVec.ofInt 64 (65534 - last)) R).2).2).1).v0), .int .i64 (((rdAll bs (((((rByte bs (((rUint bs (BitVec.ofInt 64 (65534 - last)) R).2))).1).toNat : Nat) : Int)) ((last + 1) + ((((rUint bs (BitVec.ofInt 64 (65534 - last)) R).1.toNat : Nat) : Int))) (rByte bs (rUint bs (BitVec.ofInt 64 (65534 - last)) R).2).2).1).v1), .int .i64 (((rdAll bs (((((rByte bs (((rUint bs (BitVec.ofInt 64 (65534 - last)) R).2))).1).toNat : Nat) : Int)) ((last + 1) + ((((rUint bs (BitVec.ofInt 64 (65534 - last)) R).1.toNat : Nat) : Int))) (rByte bs (rUint bs (BitVec.ofInt 64 (65534 - last)) R).2).2).1).v2), .int .u16 ((((((rdAll bs (((((rByte bs (((rUint bs (BitVec.ofInt 64 (65534 - last)) R).2))).1).toNat : Nat) : Int)) ((last + 1) + ((((rUint bs (BitVec.ofInt 64 (65534 - last)) R).1.toNat : Nat) : Int))) (rByte bs (rUint bs (BitVec.ofInt 64 (65534 - last)) R).2).2).1).a).toNat : Nat) : Int))]) (by simp only [hA_])
    have hT_ : Tr bs u R.p ((uNext ((uNext ((uNext ((uNext ((uNext ((uNext ((uNext ((uNext ((uNext u bs.length R.p ((rUint bs (BitVec.ofInt 64 (65534 - last)) R).2).p)) bs.length (((rUint bs (BitVec.ofInt 64 (65534 - last)) R).2)).p ((rByte bs (((rUint bs (BitVec.ofInt 64 (65534 - last)) R).2))).2).p)) bs.length (((rByte bs (((rUint bs (BitVec.ofInt 64 (65534 - last)) R).2))).2)).p ((rInt bs ((((rByte bs (((rUint bs (BitVec.ofInt 64 (65534 - last)) R).2))).2)))).2).p)) bs.length ((rInt bs ((((rByte bs (((rUint bs (BitVec.ofInt 64 (65534 - last)) R).2))).2)))).2).p ((rInt bs (rInt bs ((((rByte bs (((rUint bs (BitVec.ofInt 64 (65534 - last)) R).2))).2)))).2).2).p)) bs.length ((rInt bs (rInt bs ((((rByte bs (((rUint bs (BitVec.ofInt 64 (65534 - last)) R).2))).2)))).2).2).p ((rInt bs (rInt bs (rInt bs ((((rByte bs (((rUint bs (BitVec.ofInt 64 (65534 - last)) R).2))).2)))).2).2).2).p)) bs.length (((rInt bs (rInt bs (rInt bs ((((rByte bs (((rUint bs (BitVec.ofInt 64 (65534 - last)) R).2))).2)))).2).2).2)).p ((rInt bs ((((rInt bs (rInt bs (rInt bs ((((rByte bs (((rUint bs (BitVec.ofInt 64 (65534 - last)) R).2))).2)))).2).2).2)))).2).p)) bs.length ((rInt bs ((((rInt bs (rInt bs (rInt bs ((((rByte bs (((rUint bs (BitVec.ofInt 64 (65534 - last)) R).2))).2)))).2).2).2)))).2).p ((rInt bs (rInt bs ((((rInt bs (rInt bs (rInt bs ((((rByte bs (((rUint bs (BitVec.ofInt 64 (65534 - last)) R).2))).2)))).2).2).2)))).2).2).p)) bs.length ((rInt bs (rInt bs ((((rInt bs (rInt bs (rInt bs ((((rByte bs (((rUint bs (BitVec.ofInt 64 (65534 - last)) R).2))).2)))).2).2).2)))).2).2).p ((rInt bs (rInt bs (rInt bs ((((rInt bs (rInt bs (rInt bs ((((rByte bs (((rUint bs (BitVec.ofInt 64 (65534 - last)) R).2))).2)))).2).2).2)))).2).2).2).p)) bs.length (((rInt bs (rInt bs (rInt bs ((((rInt bs (rInt bs (rInt bs ((((rByte bs (((rUint bs (BitVec.ofInt 64 (65534 - last)) R).2))).2)))).2).2).2)))).2).2).2)).p ((rUint bs (65535#64) (((rInt bs (rInt bs (rInt bs ((((rInt bs (rInt bs (rInt bs ((((rByte bs (((rUint bs (BitVec.ofInt 64 (65534 - last)) R).2))).2)))).2).2).2)))).2).2).2))).2).p)) ((rdAll bs (((((rByte bs (((rUint bs (BitVec.ofInt 64 (65534 - last)) R).2))).1).toNat : Nat) : Int)) ((last + 1) + ((((rUint bs (BitVec.ofInt 64 (65534 - last)) R).1.toNat : Nat) : Int))) (rByte bs (rUint bs (BitVec.ofInt 64 (65534 - last)) R).2).2).2).p := by rw [hA_]; dsimp only; exact (Tr.trans (Tr.trans (Tr.trans (Tr.trans (Tr.trans (Tr.trans (Tr.trans (Tr.trans (Tr.trans Tr.refl (uNext_tr (p := R.p) (p' := ((rUint bs (BitVec.ofInt 64 (65534 - last)) R).2).p) (by omega) (by omega))) (uNext_tr (p := (((rUint bs (BitVec.ofInt 64 (65534 - last)) R).2)).p) (p' := ((rByte bs (((rUint bs (BitVec.ofInt 64 (65534 - last)) R).2))).2).p) (by omega) (by omega))) (uNext_tr (p := (((rByte bs (((rUint bs (BitVec.ofInt 64 (65534 - last)) R).2))).2)).p) (p' := ((rInt bs ((((rByte bs (((rUint bs (BitVec.ofInt 64 (65534 - last)) R).2))).2)))).2).p) (by omega) (by omega))) (uNext_tr (p := ((rInt bs ((((rByte bs (((rUint bs (BitVec.ofInt 64 (65534 - last)) R).2))).2)))).2).p) (p' := ((rInt bs (rInt bs ((((rByte bs (((rUint bs (BitVec.ofInt 64 (65534 - last)) R).2))).2)))).2).2).p) (by omega) (by omega))) (uNext_tr (p := ((rInt bs (rInt bs ((((rByte bs (((rUint bs (BitVec.ofInt 64 (65534 - last)) R).2))).2)))).2).2).p) (p' := ((rInt bs (rInt bs (rInt bs ((((rByte bs (((rUint bs (BitVec.ofInt 64 (65534 - last)) R).2))).2)))).2).2).2).p) (by omega) (by omega))) (uNext_tr (p := (((rInt bs (rInt bs (rInt bs ((((rByte bs (((rUint bs (BitVec.ofInt 64 (65534 - last)) R).2))).2)))).2).2).2)).p) (p' := ((rInt bs ((((rInt bs (rInt bs (rInt bs ((((rByte bs (((rUint bs (BitVec.ofInt 64 (65534 - last)) R).2))).2)))).2).2).2)))).2).p) (by omega) (by omega))) (uNext_tr (p := ((rInt bs ((((rInt bs (rInt bs (rInt bs ((((rByte bs (((rUint bs (BitVec.ofInt 64 (65534 - last)) R).2))).2)))).2).2).2)))).2).p) (p' := ((rInt bs (rInt bs ((((rInt bs (rInt bs (rInt bs ((((rByte bs (((rUint bs (BitVec.ofInt 64 (65534 - last)) R).2))).2)))).2).2).2)))).2).2).p) (by omega) (by omega))) (uNext_tr (p := ((rInt bs (rInt bs ((((rInt bs (rInt bs (rInt bs ((((rByte bs (((rUint bs (BitVec.ofInt 64 (65534 - last)) R).2))).2)))).2).2).2)))).2).2).p) (p' := ((rInt bs (rInt bs (rInt bs ((((rInt bs (rInt bs (rInt bs ((((rByte bs (((rUint bs (BitVec.ofInt 64 (65534 - last)) R).2))).2)))).2).2).2)))).2).2).2).p) (by omega) (by omega))) (uNext_tr (p := (((rInt bs (rInt bs (rInt bs ((((rInt bs (rInt bs (rInt bs ((((rByte bs (((rUint bs (BitVec.ofInt 64 (65534 - last)) R).2))).2)))).2).2).2)))).2).2).2)).p) (p' := ((rUint bs (65535#64) (((rInt bs (rInt bs (rInt bs ((((rInt bs (rInt bs (rInt bs ((((rByte bs (((rUint bs (BitVec.ofInt 64 (65534 - last)) R).2))).2)))).2).2).2)))).2).2).2))).2).p) (by omega) (by omega)))
    have hL_ : ((rdAll bs (((((rByte bs (((rUint bs (BitVec.ofInt 64 (65534 - last)) R).2))).1).toNat : Nat) : Int)) ((last + 1) + ((((rUint bs (BitVec.ofInt 64 (65534 - last)) R).1.toNat : Nat) : Int))) (rByte bs (rUint bs (BitVec.ofInt 64 (65534 - last)) R).2).2).2).p ≤ bs.length := by rw [hA_]; dsimp only; omega
    replace hs := hs.reorder (.c (.s .z) (.c .z (.c .z .n)))
    exact ⟨((rdAll bs (((((rByte bs (((rUint bs (BitVec.ofInt 64 (65534 - last)) R).2))).1).toNat : Nat) : Int)) ((last + 1) + ((((rUint bs (BitVec.ofInt 64 (65534 - last)) R).1.toNat : Nat) : Int))) (rByte bs (rUint bs (BitVec.ofInt 64 (65534 - last)) R).2).2).1), (rdAll bs (((((rByte bs (((rUint bs (BitVec.ofInt 64 (65534 - last)) R).2))).1).toNat : Nat) : Int)) ((last + 1) + ((((rUint bs (BitVec.ofInt 64 (65534 - last)) R).1.toNat : Nat) : Int))) (rByte bs (rUint bs (BitVec.ofInt 64 (65534 - last)) R).2).2).2, (uNext ((uNext ((uNext ((uNext ((uNext ((uNext ((uNext ((uNext ((uNext u bs.length R.p ((rUint bs (BitVec.ofInt 64 (65534 - last)) R).2).p)) bs.length (((rUint bs (BitVec.ofInt 64 (65534 - last)) R).2)).p ((rByte bs (((rUint bs (BitVec.ofInt 64 (65534 - last)) R).2))).2).p)) bs.length (((rByte bs (((rUint bs (BitVec.ofInt 64 (65534 - last)) R).2))).2)).p ((rInt bs ((((rByte bs (((rUint bs (BitVec.ofInt 64 (65534 - last)) R).2))).2)))).2).p)) bs.length ((rInt bs ((((rByte bs (((rUint bs (BitVec.ofInt 64 (65534 - last)) R).2))).2)))).2).p ((rInt bs (rInt bs ((((rByte bs (((rUint bs (BitVec.ofInt 64 (65534 - last)) R).2))).2)))).2).2).p)) bs.length ((rInt bs (rInt bs ((((rByte bs (((rUint bs (BitVec.ofInt 64 (65534 - last)) R).2))).2)))).2).2).p ((rInt bs (rInt bs (rInt bs ((((rByte bs (((rUint bs (BitVec.ofInt 64 (65534 - last)) R).2))).2)))).2).2).2).p)) bs.length (((rInt bs (rInt bs (rInt bs ((((rByte bs (((rUint bs (BitVec.ofInt 64 (65534 - last)) R).2))).2)))).2).2).2)).p ((rInt bs ((((rInt bs (rInt bs (rInt bs ((((rByte bs (((rUint bs (BitVec.ofInt 64 (65534 - last)) R).2))).2)))).2).2).2)))).2).p)) bs.length ((rInt bs ((((rInt bs (rInt bs (rInt bs ((((rByte bs (((rUint bs (BitVec.ofInt 64 (65534 - last)) R).2))).2)))).2).2).2)))).2).p ((rInt bs (rInt bs ((((rInt bs (rInt bs (rInt bs ((((rByte bs (((rUint bs (BitVec.ofInt 64 (65534 - last)) R).2))).2)))).2).2).2)))).2).2).p)) bs.length ((rInt bs (rInt bs ((((rInt bs (rInt bs (rInt bs ((((rByte bs (((rUint bs (BitVec.ofInt 64 (65534 - last)) R).2))).2)))).2).2).2)))).2).2).p ((rInt bs (rInt bs (rInt bs ((((rInt bs (rInt bs (rInt bs ((((rByte bs (((rUint bs (BitVec.ofInt 64 (65534 - last)) R).2))).2)))).2).2).2)))).2).2).2).p)) bs.length (((rInt bs (rInt bs (rInt bs ((((rInt bs (rInt bs (rInt bs ((((rByte bs (((rUint bs (BitVec.ofInt 64 (65534 - last)) R).2))).2)))).2).2).2)))).2).2).2)).p ((rUint bs (65535#64) (((rInt bs (rInt bs (rInt bs ((((rInt bs (rInt bs (rInt bs ((((rByte bs (((rUint bs (BitVec.ofInt 64 (65534 - last)) R).2))).2)))).2).2).2)))).2).2).2))).2).p), hs.sub (.c rfl (.c rfl (.c rfl (.c rfl .n)))), pair_eq ((rdRaw_eq _ _ _).trans (rdBody_all (by omega))), hL_, hT_⟩
   replace hc54 := ne_of_beq_f hc54
   refine wp_seq_k fun K66 hK67 => ?_
   refine wp_region_lit ?_
   refine st_run 2 [(55, .bool ((((((rByte bs (((rUint bs (BitVec.ofInt 64 (65534 - last)) R).2))).1).toNat : Nat) : Int) : Int) == 1))] hs .n (by kernel_rfl) (by kernel_rfl) (by kernel_rfl) ?_; clear hs a; intro a hs
   refine wpList_nil ?_
   refine then_n (hK67 _ _ ?_)
   refine wp_if hs rfl (fun hc68 => ?_) (fun hc68 => ?_)
   ·
    replace hc68 := eq_of_beq hc68
    refine wp_region_lit ?_
    refine st_mv hs rfl rfl ?_; clear hs w a; intro a w hs
    refine st_call hs (.c rfl (.c rfl .n)) Try.call60 (.c (.s .z) (.c .z .n)) (mupd_ok g g27 _ bs (((rByte bs (((rUint bs (BitVec.ofInt 64 (65534 - last)) R).2))).2)) (((((rByte bs (((rUint bs (BitVec.ofInt 64 (65534 - last)) R).2))).1).toNat : Nat) : Int)) ((last + 1) + ((((rUint bs (BitVec.ofInt 64 (65534 - last)) R).1.toNat : Nat) : Int))) _ ((uNext_tr (p := (((rUint bs (BitVec.ofInt 64 (65534 - last)) R).2)).p) (p' := ((rByte bs (((rUint bs (BitVec.ofInt 64 (65534 - last)) R).2))).2).p) (by omega) (by omega)) _ _ ((uNext_tr (p := R.p) (p' := ((rUint bs (BitVec.ofInt 64 (65534 - last)) R).2).p) (by omega) (by omega)) _ _ (hs.mem.rd1 hb (.c (.s .z) (.c .z .n))))) (hs.mem.del (.s .z)) (hs.mem.del .z) (by omega) (by simp only [maxLen]; omega)) rfl ?_; clear hs w a; rintro _ _ a w ⟨u69, rfl, rfl, ht70⟩ hs; simp only [List.cons_append, List.nil_append] at hs
    have hk71 := rdSome_le (bs := bs) (k := ((((rByte bs (((rUint bs (BitVec.ofInt 64 (65534 - last)) R).2))).1).toNat : Nat) : Int)) (id := (last + 1) + ((((rUint bs (BitVec.ofInt 64 (65534 - last)) R).1.toNat : Nat) : Int))) (R := ((rByte bs (((rUint bs (BitVec.ofInt 64 (65534 - last)) R).2))).2)) (by omega)
    refine wpList_nil ?_
    refine in_n ?_
    refine then_n ?_
    have hT_ : Tr bs u R.p u69 (((rdSome bs (((((rByte bs (((rUint bs (BitVec.ofInt 64 (65534 - last)) R).2))).1).toNat : Nat) : Int)) ((last + 1) + ((((rUint bs (BitVec.ofInt 64 (65534 - last)) R).1.toNat : Nat) : Int))) (((rByte bs (((rUint bs (BitVec.ofInt 64 (65534 - last)) R).2))).2))).2)).p := (Tr.trans (Tr.trans (Tr.trans Tr.refl (uNext_tr (p := R.p) (p' := ((rUint bs (BitVec.ofInt 64 (65534 - last)) R).2).p) (by omega) (by omega))) (uNext_tr (p := (((rUint bs (BitVec.ofInt 64 (65534 - last)) R).2)).p) (p' := ((rByte bs (((rUint bs (BitVec.ofInt 64 (65534 - last)) R).2))).2).p) (by omega) (by omega))) ht70)
    have hL_ : (((rdSome bs (((((rByte bs (((rUint bs (BitVec.ofInt 64 (65534 - last)) R).2))).1).toNat : Nat) : Int)) ((last + 1) + ((((rUint bs (BitVec.ofInt 64 (65534 - last)) R).1.toNat : Nat) : Int))) (((rByte bs (((rUint bs (BitVec.ofInt 64 (65534 - last)) R).2))).2))).2)).p ≤ bs.length := by omega
    exact ⟨((rdSome bs (((((rByte bs (((rUint bs (BitVec.ofInt 64 (65534 - last)) R).2))).1).toNat : Nat) : Int)) ((last + 1) + ((((rUint bs (BitVec.ofInt 64 (65534 - last)) R).1.toNat : Nat) : Int))) (((rByte bs (((rUint bs (BitVec.ofInt 64 (65534 - last)) R).2))).2))).1), ((rdSome bs (((((rByte bs (((rUint bs (BitVec.ofInt 64 (65534 - last)) R).2))).1).toNat : Nat) : Int)) ((last + 1) + ((((rUint bs (BitVec.ofInt 64 (65534 - last)) R).1.toNat : Nat) : Int))) (((rByte bs (((rUint bs (BitVec.ofInt 64 (65534 - last)) R).2))).2))).2), u69, hs.sub (.c rfl (.c rfl (.c rfl (.c rfl .n)))), pair_eq ((rdRaw_eq _ _ _).trans (rdBody_some (by omega))), hL_, hT_⟩
   replace hc68 := ne_of_beq_f hc68
   refine wp_seq_k fun K72 hK73 => ?_
   refine wp_region_lit ?_
   refine st_run 2 [(59, .bool ((((((rByte bs (((rUint bs (BitVec.ofInt 64 (65534 - last)) R).2))).1).toNat : Nat) : Int) : Int) == 2))] hs .n (by kernel_rfl) (by kernel_rfl) (by kernel_rfl) ?_; clear hs a; intro a hs
   refine wpList_nil ?_
   refine then_n (hK73 _ _ ?_)
   refine wp_if hs rfl (fun hc74 => ?_) (fun hc74 => ?_)
   ·
    replace hc74 := eq_of_beq hc74
    refine wp_skip ?_
    refine in_n ?_
    refine then_n ?_
    have hT_ : Tr bs u R.p ((uNext ((uNext u bs.length R.p ((rUint bs (BitVec.ofInt 64 (65534 - last)) R).2).p)) bs.length (((rUint bs (BitVec.ofInt 64 (65534 - last)) R).2)).p ((rByte bs (((rUint bs (BitVec.ofInt 64 (65534 - last)) R).2))).2).p)) (((rByte bs (((rUint bs (BitVec.ofInt 64 (65534 - last)) R).2))).2)).p := (Tr.trans (Tr.trans Tr.refl (uNext_tr (p := R.p) (p' := ((rUint bs (BitVec.ofInt 64 (65534 - last)) R).2).p) (by omega) (by omega))) (uNext_tr (p := (((rUint bs (BitVec.ofInt 64 (65534 - last)) R).2)).p) (p' := ((rByte bs (((rUint bs (BitVec.ofInt 64 (65534 - last)) R).2))).2).p) (by omega) (by omega)))
    have hL_ : (((rByte bs (((rUint bs (BitVec.ofInt 64 (65534 - last)) R).2))).2)).p ≤ bs.length := by omega
    replace hs := hs.reorder (.c (.s .z) (.c .z (.c .z .n)))
    exact ⟨(⟨((((rByte bs (((rUint bs (BitVec.ofInt 64 (65534 - last)) R).2))).1).toNat : Nat) : Int), (last + 1) + ((((rUint bs (BitVec.ofInt 64 (65534 - last)) R).1.toNat : Nat) : Int)), 0, 0, 0, 0, 0, 0, 0#16⟩ : RecR), ((rByte bs (((rUint bs (BitVec.ofInt 64 (65534 - last)) R).2))).2), (uNext ((uNext u bs.length R.p ((rUint bs (BitVec.ofInt 64 (65534 - last)) R).2).p)) bs.length (((rUint bs (BitVec.ofInt 64 (65534 - last)) R).2)).p ((rByte bs (((rUint bs (BitVec.ofInt 64 (65534 - last)) R).2))).2).p), hs.sub (.c rfl (.c rfl (.c rfl (.c rfl .n)))), (rdRaw_eq _ _ _).trans (rdBody_none (by omega)), hL_, hT_⟩
   replace hc74 := ne_of_beq_f hc74
   refine wp_region_lit ?_
   refine st_mv hs rfl rfl ?_; clear hs w a; intro a w hs
   refine st_call hs (.c rfl (.c rfl .n)) Try.call56 (.c (.s .z) .n) (mfail_ok 11 g _ bs (((rByte bs (((rUint bs (BitVec.ofInt 64 (65534 - last)) R).2))).2)) _ ((uNext_tr (p := (((rUint bs (BitVec.ofInt 64 (65534 - last)) R).2)).p) (p' := ((rByte bs (((rUint bs (BitVec.ofInt 64 (65534 - last)) R).2))).2).p) (by omega) (by omega)) _ _ ((uNext_tr (p := R.p) (p' := ((rUint bs (BitVec.ofInt 64 (65534 - last)) R).2).p) (by omega) (by omega)) _ _ (hs.mem.rd1 hb (.c (.s .z) .n)))) (hs.mem.del (.s .z)) (by omega) (by simp only [maxLen]; omega)) rfl ?_; clear hs w a; rintro _ _ a w ⟨rfl, rfl⟩ hs; simp only [List.cons_append, List.nil_append] at hs
   have hk75 := rFail_le (bs := bs) (R := ((rByte bs (((rUint bs (BitVec.ofInt 64 (65534 - last)) R).2))).2)) (e := 11) (by omega)
   refine wpList_nil ?_
   refine in_n ?_
   refine then_n ?_
   have hT_ : Tr bs u R.p ((id ((uNext ((uNext u bs.length R.p ((rUint bs (BitVec.ofInt 64 (65534 - last)) R).2).p)) bs.length (((rUint bs (BitVec.ofInt 64 (65534 - last)) R).2)).p ((rByte bs (((rUint bs (BitVec.ofInt 64 (65534 - last)) R).2))).2).p)))) (((rFail 11 (((rByte bs (((rUint bs (BitVec.ofInt 64 (65534 - last)) R).2))).2))))).p := (Tr.trans (Tr.trans (Tr.trans Tr.refl (uNext_tr (p := R.p) (p' := ((rUint bs (BitVec.ofInt 64 (65534 - last)) R).2).p) (by omega) (by omega))) (uNext_tr (p := (((rUint bs (BitVec.ofInt 64 (65534 - last)) R).2)).p) (p' := ((rByte bs (((rUint bs (BitVec.ofInt 64 (65534 - last)) R).2))).2).p) (by omega) (by omega))) (fail_tr (bs := bs) (R := ((rByte bs (((rUint bs (BitVec.ofInt 64 (65534 - last)) R).2))).2)) (e := 11)))
   have hL_ : (((rFail 11 (((rByte bs (((rUint bs (BitVec.ofInt 64 (65534 - last)) R).2))).2))))).p ≤ bs.length := by omega
   exact ⟨(⟨((((rByte bs (((rUint bs (BitVec.ofInt 64 (65534 - last)) R).2))).1).toNat : Nat) : Int), (last + 1) + ((((rUint bs (BitVec.ofInt 64 (65534 - last)) R).1.toNat : Nat) : Int)), 0, 0, 0, 0, 0, 0, 0#16⟩ : RecR), ((rFail 11 (((rByte bs (((rUint bs (BitVec.ofInt 64 (65534 - last)) R).2))).2)))), (id ((uNext ((uNext u bs.length R.p ((rUint bs (BitVec.ofInt 64 (65534 - last)) R).2).p)) bs.length (((rUint bs (BitVec.ofInt 64 (65534 - last)) R).2)).p ((rByte bs (((rUint bs (BitVec.ofInt 64 (65534 - last)) R).2))).2).p))), hs.sub (.c rfl (.c rfl (.c rfl (.c rfl .n)))), (rdRaw_eq _ _ _).trans (rdBody_bad (by omega)), hL_, hT_⟩
  clear hs w a; rintro a w ⟨rr, RR, q, hs, hJ76, hJ77, hJ78⟩
  have hraw := hJ76
  refine then_n (hK35 _ _ ?_)
  refine wp_seq_k fun K79 hK80 => ?_
  refine wp_seq_k fun K81 hK82 => ?_
  refine wp_region_lit ?_
  refine st_run 5 [(65, .bool (!((((RR.e : Nat) : Int) : Int) == 0)))] hs (.c (hs.mem.del .z) .n) (by kernel_rfl) (by kernel_rfl) (by kernel_rfl) ?_; clear hs a; intro a hs
  refine wpList_nil ?_
  refine then_n (hK82 _ _ ?_)
  refine wp_if hs rfl (fun hc83 => ?_) (fun hc83 => ?_)
  ·
   replace hc83 := not_t hc83
   replace hc83 := ne_of_beq_f hc83
   refine wp_seq_k fun K84 hK85 => ?_
   replace hs := hs.sub (F' := [(0, .pointer (some ⟨g, 0, none⟩)), (1, .int .i64 (last)), (4, .pointer (some ⟨g3, 0, none⟩)), (6, .pointer (some ⟨g27, 0, none⟩))]) (.c rfl (.c rfl (.c rfl (.c rfl .n))))
   refine wp_drawG (M0 := [blk g [q, .int .i64 (((RR.p : Nat) : Int)), .int .i64 (((RR.e : Nat) : Int))] 44, blk g27 [.int .i64 (rr.k), .int .i64 (rr.id), .int .i64 (rr.p0), .int .i64 (rr.p1), .int .i64 (rr.p2), .int .i64 (rr.v0), .int .i64 (rr.v1), .int .i64 (rr.v2), .int .u16 ((((rr.a).toNat : Nat) : Int))] 25]) (Ds := [Pv 0 (.agg #[.int .i64 (0), .int .i64 (0), .int .i64 (0), .int .i64 (0), .int .i64 (0), .int .i64 (0), .int .i64 (0), .int .i64 (0), .int .u16 (0)]), Pv 1 (.pointer (some ⟨g, 0, none⟩)), Pv 2 (.pointer (some ⟨g, 0, none⟩)), Pv 3 (.pointer (some ⟨g, 2, none⟩)), Pv 4 (.int .i64 (((RR.e : Nat) : Int))), ⟨[blk g3 [.int .i64 (0), .int .i64 (0), .int .i64 (0), .int .i64 (0), .int .i64 (0), .int .i64 (0), .int .i64 (0), .int .i64 (0), .int .u16 (0)] 25], [], [], fun vs86 => True, fun vs86 => [blk g3 [.int .i64 (0), .int .i64 (0), .int .i64 (0), .int .i64 (0), .int .i64 (0), .int .i64 (0), .int .i64 (0), .int .i64 (0), .int .u16 (0)] 25], none⟩, Pv 6 (.int .i64 (((RR.e : Nat) : Int)))]) (by kernel_rfl) hs rfl (.c (.s (.s .z)) .n) (by kernel_rfl) (by kernel_rfl) (by kernel_rfl) ?_ ?_
   ·
    refine (.c ?_ (.c ?_ (.c ?_ (.c ?_ (.c ?_ (.c ?_ (.c ?_ .n)))))))
    ·
     intro a_ w_ R_ rest_ vs86 hm hs ht hx
     have hm0 := hm.mid
     have hs0 := hs.bare
     refine st_build (it := Try.t25) (zs := [.int .i64 (0), .int .i64 (0), .int .i64 (0), .int .i64 (0), .int .i64 (0), .int .i64 (0), .int .i64 (0), .int .i64 (0), .int .u16 (0)]) (places := [(0, 1), (1, 1), (2, 3), (5, 3), (8, 1)]) hs .n Try.underlying25 rfl rfl rfl rfl .n rfl ?_; clear hs; intro a w hs
     exact wpList_nil ⟨rfl, _, _, hs0, .r, hs, rfl⟩
    · exact trip_pv (m := 7) .n (fun hm0 hm hx => .n) (by kernel_rfl) (by kernel_rfl) rfl
    · exact trip_pv (m := 7) (.c (k := 1) (by kernel_rfl) rfl rfl .n) (fun hm0 hm hx => .n) (by kernel_rfl) (by kernel_rfl) rfl
    · exact trip_pv (m := 7) (.c (k := 2) (by kernel_rfl) rfl rfl .n) (fun hm0 hm hx => .n) (by kernel_rfl) (by kernel_rfl) rfl
    · exact trip_pv (m := 7) (.c (k := 3) (by kernel_rfl) rfl rfl .n) (fun hm0 hm hx => (.c (hm0.del .z))) (by kernel_rfl) (by kernel_rfl) rfl
    ·
     intro a_ w_ R_ rest_ vs86 hm hs ht hx
     replace hs : St _ _ _ (feet [blk g3 [.int .i64 (0), .int .i64 (0), .int .i64 (0), .int .i64 (0), .int .i64 (0), .int .i64 (0), .int .i64 (0), .int .i64 (0), .int .u16 (0)] 25]) [blk g3 [.int .i64 (0), .int .i64 (0), .int .i64 (0), .int .i64 (0), .int .i64 (0), .int .i64 (0), .int .i64 (0), .int .i64 (0), .int .u16 (0)] 25] _ _ := hs
     have hm0 := hm.mid
     replace hs := hs.lrn (ht 0 (twB_spec 7 _ (by kernel_rfl))) rfl rfl
     have hs0 := hs.bare
     refine st_stBA hs rfl rfl .z (.z (.c (.c (.c (.c (.c (.c (.c (.c (.c .n)))))))))) (ones_c rfl (ones_c rfl (ones_c rfl (ones_c rfl (ones_c rfl (ones_c rfl (ones_c rfl (ones_c rfl (ones_c rfl ones_n))))))))) Try.sizeOf25 rfl ?_; clear hs; intro a w hs
     exact wpList_nil ⟨rfl, .tuple #[], _, hs0, (.c .r), hs, trivial⟩
    exact trip_pv (m := 7) (.c (k := 4) (by kernel_rfl) rfl rfl .n) (fun hm0 hm hx => .n) (by kernel_rfl) (by kernel_rfl) rfl
   clear hs w a; intro a w vs86 hs hf
   replace hs : St _ _ _ _ [blk g [q, .int .i64 (((RR.p : Nat) : Int)), .int .i64 (((RR.e : Nat) : Int))] 44, blk g27 [.int .i64 (rr.k), .int .i64 (rr.id), .int .i64 (rr.p0), .int .i64 (rr.p1), .int .i64 (rr.p2), .int .i64 (rr.v0), .int .i64 (rr.v1), .int .i64 (rr.v2), .int .u16 ((((rr.a).toNat : Nat) : Int))] 25, blk g3 [.int .i64 (0), .int .i64 (0), .int .i64 (0), .int .i64 (0), .int .i64 (0), .int .i64 (0), .int .i64 (0), .int .i64 (0), .int .u16 (0)] 25] _ _ := hs
   obtain ⟨e6, q6⟩ := hf 6 (by decide)
   replace e6 : _ = some (vs86 6) := e6.val rfl
   rw [show vs86 6 = .int .i64 (((RR.e : Nat) : Int)) from q6] at e6
   replace hs := hs.learn e6; clear e6 q6
   clear hf
   refine then_n (hK85 _ _ ?_)
   refine wp_ret ?_
   refine th_r ?_
   have hq_ : rdRec bs last R = (recZ, RR.e, RR) := by first | exact rdRec_rng (by omega) | exact rdRec_end (by omega) | exact rdRec_bad (by omega) (by omega) hraw (by omega) | exact rdRec_ok (by omega) (by omega) hraw (by omega)
   exact finC2 hs rfl rfl rfl (.s (.s .z)) (.z (.c (.c (.c (.c (.c (.c (.c (.c (.c .n)))))))))) Try.isAgg25 Try.sizeOf25 (.c (.s (.s .z)) (.c (.s .z) .n)) (by rw [hq_]; exact ⟨_, rfl, rfl, (Tr.trans Tr.refl hJ78)⟩)
  replace hc83 := not_f hc83
  replace hc83 := eq_of_beq hc83
  refine wp_skip ?_
  refine then_n (hK80 _ _ ?_)
  refine wp_seq_k fun K87 hK88 => ?_
  refine wp_region_lit ?_
  refine st_ldBA hs rfl (.s .z) (.z (.c (.c (.c (.c (.c (.c (.c (.c (.c .n)))))))))) Try.isAgg25 Try.sizeOf25 rfl ?_; clear hs w a; intro a w hs
  refine st_stBA hs rfl rfl (.s (.s .z)) (.z (.c (.c (.c (.c (.c (.c (.c (.c (.c .n)))))))))) (ones_c rfl (ones_c rfl (ones_c rfl (ones_c rfl (ones_c rfl (ones_c rfl (ones_c rfl (ones_c rfl (ones_c rfl ones_n))))))))) Try.sizeOf25 rfl ?_; clear hs w a; intro a w hs
  refine st_as hs rfl rfl ?_; clear hs w a; intro a w hs
  refine wpList_nil ?_
  refine then_n (hK88 _ _ ?_)
  refine wp_ret ?_
  have hq_ : rdRec bs last R = (rr, 0, RR) := by first | exact rdRec_rng (by omega) | exact rdRec_end (by omega) | exact rdRec_bad (by omega) (by omega) hraw (by omega) | exact rdRec_ok (by omega) (by omega) hraw (by omega)
  exact finC2 hs rfl rfl rfl .z (.z (.c (.c (.c (.c (.c (.c (.c (.c (.c .n)))))))))) Try.isAgg25 Try.sizeOf25 (.c (.s (.s .z)) (.c .z .n)) (by rw [hq_]; exact ⟨_, rfl, rfl, (Tr.trans Tr.refl hJ78)⟩)
end Go.Proofs.Ytkobgcoegajfcaa
