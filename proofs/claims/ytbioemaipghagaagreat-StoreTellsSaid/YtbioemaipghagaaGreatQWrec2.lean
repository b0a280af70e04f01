/- Walks of records off bytes: what each function does, over the program of this seat. Printed by a program of this session. -/
import Derived.Test.YtbioemaipghagaaGreatQWrec
import Derived.Test.YtbioemaipghagaaGreatQSxBasB
namespace Go.Proofs.YtbioemaipghagaaGreat
open Go Go.Sx Go.RowKit
set_option linter.unusedVariables false
set_option linter.unusedSimpArgs false
set_option maxRecDepth 4000
set_option maxHeartbeats 1000000

theorem readAll_ok (g h : Nat) (v : Value) (m : Nat) (bs : List Byte) (R : Rs) (k id : Int) (w0 : World) (hb : Rd w0 [g, h] v 1 m (bytesV bs)) (hg : (blk g [v, .int .i64 (((R).p : Nat) : Int), .int .i64 (((R).e : Nat) : Int)] 127).p w0) (hh : (blk h [.int .i64 (k), .int .i64 (id), .int .i64 (0), .int .i64 (0), .int .i64 (0), .int .i64 (0), .int .i64 (0), .int .i64 (0), .int .u16 (0)] 78).p w0) (hle : R.p ≤ bs.length) : Calls Tryz.prog 140 #[.pointer (some ⟨g, 0, none⟩), .pointer (some ⟨h, 0, none⟩)] w0 (Ret w0 [g, h] fun u N => u = .tuple #[] ∧ N = [blk g [v, .int .i64 ((((rdAll bs k id R).2).p : Nat) : Int), .int .i64 ((((rdAll bs k id R).2).e : Nat) : Int)] 127, blk h [.int .i64 (((rdAll bs k id R).1).k), .int .i64 (((rdAll bs k id R).1).id), .int .i64 (((rdAll bs k id R).1).p0), .int .i64 (((rdAll bs k id R).1).p1), .int .i64 (((rdAll bs k id R).1).p2), .int .i64 (((rdAll bs k id R).1).v0), .int .i64 (((rdAll bs k id R).1).v1), .int .i64 (((rdAll bs k id R).1).v2), .int .u16 ((((((rdAll bs k id R).1).a).toNat : Nat) : Int))] 78]) := by
 have hbl : bs.length = m := by have := hb.len; simpa [bytesV] using this
 have hbe : m ≤ maxLen := hb.le
 simp only [maxLen] at hbe
 refine enterG (F0 := [(0, .pointer (some ⟨g, 0, none⟩)), (1, .pointer (some ⟨h, 0, none⟩))]) Tryz.func140 rfl rfl rfl (.c (.c .n)) (mem_two hg hh (by simp [feet, blk, blk_ne hg hh (by decide)])) fun a w hs => ?_
 refine go 3 [] [6, 5, 4, 0, 1] hs .n ?_; clear hs w a; intro a w hs
 refine st_call hs (.c rfl .n) Tryz.call163 (.c .z .n) (rvec_ok  g _ _ bs R _ (hs.mem.rd1 hb (.c .z .n)) (hs.mem.del .z) (by omega)) rfl ?_; clear hs w a; rintro _ _ a w ⟨rfl, rfl⟩ hs; simp only [List.cons_append, List.nil_append] at hs
 have hk1 := rVec_le' (bs := bs) (R := R) (by omega)
 refine goL 1 [] [8, 7, 5, 4, 0, 1] hs .n ?_; clear hs w a; intro a w hs
 refine st_call hs (.c rfl .n) Tryz.call163 (.c .z .n) (rvec_ok  g _ _ bs (((rInt bs (rInt bs (rInt bs R).2).2).2)) _ (hs.mem.rd1 hb (.c .z .n)) (hs.mem.del .z) (by omega)) rfl ?_; clear hs w a; rintro _ _ a w ⟨rfl, rfl⟩ hs; simp only [List.cons_append, List.nil_append] at hs
 have hk2 := rVec_le' (bs := bs) (R := ((rInt bs (rInt bs (rInt bs R).2).2).2)) (by omega)
 refine goL 8 [0, 0] [15, 14] hs (.c (.s .z) .n) ⟨rfl, rfl, ?_⟩; clear hs w a; intro a w hs
 refine st_call hs (.c rfl (.c rfl .n)) Tryz.call71 (.c (.s .z) .n) (ruint_ok (65535#64) g _ _ bs (((rInt bs (rInt bs (rInt bs ((((rInt bs (rInt bs (rInt bs R).2).2).2)))).2).2).2)) _ (hs.mem.rd1 hb (.c (.s .z) .n)) (hs.mem.del (.s .z)) (by omega)) rfl ?_; clear hs w a; rintro _ _ a w ⟨rfl, rfl⟩ hs; simp only [List.cons_append, List.nil_append] at hs
 have hk3 := rUint_le (X := 65535#64) (bs := bs) (R := ((rInt bs (rInt bs (rInt bs ((((rInt bs (rInt bs (rInt bs R).2).2).2)))).2).2).2)) (by omega)
 refine st_cv_u64_u16 (X := (rUint bs (65535#64) (((rInt bs (rInt bs (rInt bs ((((rInt bs (rInt bs (rInt bs R).2).2).2)))).2).2).2))).1) hs rfl rfl Tryz.underlying129 Tryz.underlying70 rfl ?_; clear hs w a; intro a w hs
 refine goL 3 [0] [] hs (.c (.s .z) .n) ⟨rfl, ?_⟩; clear hs w a; intro a w hs
 replace hs := hs.reorder (.c (.s .z) (.c .z .n))
 exact fin0 hs rfl ⟨rfl, by simp only [rdAll, nX, nS]⟩
theorem readSome_ok (g h : Nat) (v : Value) (m : Nat) (bs : List Byte) (R : Rs) (k id : Int) (w0 : World) (hb : Rd w0 [g, h] v 1 m (bytesV bs)) (hg : (blk g [v, .int .i64 (((R).p : Nat) : Int), .int .i64 (((R).e : Nat) : Int)] 127).p w0) (hh : (blk h [.int .i64 (k), .int .i64 (id), .int .i64 (0), .int .i64 (0), .int .i64 (0), .int .i64 (0), .int .i64 (0), .int .i64 (0), .int .u16 (0)] 78).p w0) (hle : R.p ≤ bs.length) : Calls Tryz.prog 142 #[.pointer (some ⟨g, 0, none⟩), .pointer (some ⟨h, 0, none⟩)] w0 (Ret w0 [g, h] fun u N => u = .tuple #[] ∧ N = [blk g [v, .int .i64 ((((rdSome bs k id R).2).p : Nat) : Int), .int .i64 ((((rdSome bs k id R).2).e : Nat) : Int)] 127, blk h [.int .i64 (((rdSome bs k id R).1).k), .int .i64 (((rdSome bs k id R).1).id), .int .i64 (((rdSome bs k id R).1).p0), .int .i64 (((rdSome bs k id R).1).p1), .int .i64 (((rdSome bs k id R).1).p2), .int .i64 (((rdSome bs k id R).1).v0), .int .i64 (((rdSome bs k id R).1).v1), .int .i64 (((rdSome bs k id R).1).v2), .int .u16 ((((((rdSome bs k id R).1).a).toNat : Nat) : Int))] 78]) := by
 have hbl : bs.length = m := by have := hb.len; simpa [bytesV] using this
 have hbe : m ≤ maxLen := hb.le
 simp only [maxLen] at hbe
 refine enterG (F0 := [(0, .pointer (some ⟨g, 0, none⟩)), (1, .pointer (some ⟨h, 0, none⟩))]) Tryz.func142 rfl rfl rfl (.c (.c .n)) (mem_two hg hh (by simp [feet, blk, blk_ne hg hh (by decide)])) fun a w hs => ?_
 refine go 1 [] [7, 0, 1] hs .n ?_; clear hs w a; intro a w hs
 refine st_call hs (.c rfl .n) Tryz.call95 (.c .z .n) (rbyte_ok  g _ _ bs R _ (hs.mem.rd1 hb (.c .z .n)) (hs.mem.del .z) (by omega)) rfl ?_; clear hs w a; rintro _ _ a w ⟨rfl, rfl⟩ hs; simp only [List.cons_append, List.nil_append] at hs
 have hk1 := rByte_le (bs := bs) (R := R) (by omega)
 refine goL 4 [] [11, 4, 0, 1] hs .n ?_; clear hs w a; intro a w hs
 refine st_part (b := (((((rByte bs R).1).toNat : Nat) : Int) : Int) == 0) (fun c_2 => ?_) (fun c_2 => ?_)
 ·
  rw [c_2] at hs
  replace c_2 := eq_of_beq c_2
  refine go 5 [] [15] hs .n ?_; clear hs w a; intro a w hs
  refine st_call hs (.c rfl (.c rfl .n)) Tryz.call74 (.c .z .n) (rfail_ok 7 g _ _ bs (((rByte bs R).2)) _ (hs.mem.rd1 hb (.c .z .n)) (hs.mem.del .z) (by omega)) rfl ?_; clear hs w a; rintro _ _ a w ⟨rfl, rfl⟩ hs; simp only [List.cons_append, List.nil_append] at hs
  have hk3 := rFail_le (e := 7) (bs := bs) (R := ((rByte bs R).2)) (by omega)
  refine goL 0 [] [] hs .n ?_; clear hs w a; intro a w hs
  exact fin0r hs rfl (by rw [rdSome_bad (by omega)]; exact ⟨rfl, rfl⟩)
 rw [c_2] at hs
 replace c_2 := ne_of_beq_f c_2
 refine go 3 [] [14, 4, 0, 1] hs .n ?_; clear hs w a; intro a w hs
 refine ifG hs rfl (fun c_4 => ?_) (fun c_4 => ?_)
 ·
  replace c_4 := of_decide_eq_true c_4
  refine go 1 [] [15] hs .n ?_; clear hs w a; intro a w hs
  refine st_call hs (.c rfl (.c rfl .n)) Tryz.call74 (.c .z .n) (rfail_ok 7 g _ _ bs (((rByte bs R).2)) _ (hs.mem.rd1 hb (.c .z .n)) (hs.mem.del .z) (by omega)) rfl ?_; clear hs w a; rintro _ _ a w ⟨rfl, rfl⟩ hs; simp only [List.cons_append, List.nil_append] at hs
  have hk5 := rFail_le (e := 7) (bs := bs) (R := ((rByte bs R).2)) (by omega)
  refine goL 0 [] [] hs .n ?_; clear hs w a; intro a w hs
  exact fin0r hs rfl (by rw [rdSome_bad (by omega)]; exact ⟨rfl, rfl⟩)
 replace c_4 := of_decide_eq_false c_4
 refine go 1 [] [17, 4, 0, 1] hs .n ?_; clear hs w a; intro a w hs
 replace hs := hs.reblk .z (cs' := [v, .int .i64 ((((upS bs (rByte bs R).1 (rByte bs R).2 0).p : Nat) : Int)), .int .i64 ((((upS bs (rByte bs R).1 (rByte bs R).2 0).e : Nat) : Int))]) rfl
 have hu0 : (upS bs (rByte bs R).1 (rByte bs R).2 0).p = (rByte bs R).2.p := rfl
 refine st_callP (v := .agg #[.pointer (some ⟨h, 2, none⟩), .pointer (some ⟨h, 3, none⟩), .pointer (some ⟨h, 4, none⟩), .pointer (some ⟨h, 5, none⟩), .pointer (some ⟨h, 6, none⟩), .pointer (some ⟨h, 7, none⟩)]) hs (.c rfl .n) Tryz.call87 (nums_ok h _) rfl ?_; clear hs w a; intro a w hs
 refine goL 1 [] [19, 18, 4, 0, 1] hs .n ?_; clear hs w a; intro a w hs
 refine roundsG 6 ?_
 refine cutG (fun a w => St 55 [(0, .pointer (some ⟨g, 0, none⟩)), (1, .pointer (some ⟨h, 0, none⟩)), (4, .int .u8 (((((rByte bs R).1).toNat : Nat) : Int))), (18, .agg #[.pointer (some ⟨h, 2, none⟩), .pointer (some ⟨h, 3, none⟩), .pointer (some ⟨h, 4, none⟩), .pointer (some ⟨h, 5, none⟩), .pointer (some ⟨h, 6, none⟩), .pointer (some ⟨h, 7, none⟩)]), (19, .int .i64 (1))] w0 [g, h] [blk g [v, .int .i64 (((((upS bs (rByte bs R).1 (rByte bs R).2 1)).p : Nat) : Int)), .int .i64 (((((upS bs (rByte bs R).1 (rByte bs R).2 1)).e : Nat) : Int))] 127, blk h [.int .i64 (k), .int .i64 (id), .int .i64 (upX bs (rByte bs R).1 (rByte bs R).2 0), .int .i64 (0), .int .i64 (0), .int .i64 (0), .int .i64 (0), .int .i64 (0), .int .u16 (0)] 78] a w ∧ (upS bs (rByte bs R).1 (rByte bs R).2 1).p ≤ bs.length) ?_ ?_
 ·
  refine go 8 [] [24, 23, 6, 19, 18, 4, 0, 1] hs .n ?_; clear hs w a; intro a w hs
  refine st_shr_u8 (X := (rByte bs R).1) (m := 0) hs rfl rfl rfl (by decide) rfl ?_; clear hs w a; intro a w hs
  refine st_and_u8 (X := ((rByte bs R).1) >>> 0) (Y := 1#8) hs rfl rfl rfl (by decide) rfl ?_; clear hs w a; intro a w hs
  refine goL 1 [] [27, 6, 19, 18, 4, 0, 1] hs .n ?_; clear hs w a; intro a w hs
  refine ifG hs rfl (fun c_6 => ?_) (fun c_6 => ?_)
  ·
   replace c_6 := eq_of_beq c_6
   have hz_ := upBit_f (m := (rByte bs R).1) (i := 0) (by assumption)
   refine go 2 [] [19, 18, 4, 0, 1] hs .n ⟨by decide, ?_⟩; clear hs w a; intro a w hs
   have hS_ : upS bs (rByte bs R).1 (rByte bs R).2 1 = (upS bs (rByte bs R).1 (rByte bs R).2 0) := upS_f hz_
   have hX_ : upX bs (rByte bs R).1 (rByte bs R).2 0 = 0 := upX_f hz_
   replace hs := hs.reblk .z (cs' := [v, .int .i64 ((((upS bs (rByte bs R).1 (rByte bs R).2 1).p : Nat) : Int)), .int .i64 ((((upS bs (rByte bs R).1 (rByte bs R).2 1).e : Nat) : Int))]) (by rw [hS_])
   replace hs := hs.reblk (.s .z) (cs' := [.int .i64 (k), .int .i64 (id), .int .i64 (upX bs (rByte bs R).1 (rByte bs R).2 0), .int .i64 (0), .int .i64 (0), .int .i64 (0), .int .i64 (0), .int .i64 (0), .int .u16 (0)]) (by rw [hX_])
   replace hs := hs.reorder (.c (.s .z) (.c .z .n))
   exact ⟨hs.sub (.c rfl (.c rfl (.c rfl (.c rfl (.c rfl .n))))), (upS_le (m := (rByte bs R).1) (R := (rByte bs R).2) (bs := bs) (by omega) 1).1⟩
  replace c_6 := ne_of_beq_f c_6
  have hz_ := upBit_t (m := (rByte bs R).1) (i := 0) (by assumption)
  refine go 2 [] [29, 28, 6, 19, 18, 4, 0, 1] hs .n ?_; clear hs w a; intro a w hs
  refine st_call hs (.c rfl .n) Tryz.call72 (.c .z .n) (rint_ok  g _ _ bs ((upS bs (rByte bs R).1 (rByte bs R).2 0)) _ (hs.mem.rd1 hb (.c .z .n)) (hs.mem.del .z) (by omega)) rfl ?_; clear hs w a; rintro _ _ a w ⟨rfl, rfl⟩ hs; simp only [List.cons_append, List.nil_append] at hs
  have hk7 := rInt_le (bs := bs) (R := (upS bs (rByte bs R).1 (rByte bs R).2 0)) (by omega)
  refine goL 6 [0, 0] [35, 19, 18, 4, 0, 1] hs (.c (.s .z) .n) ⟨rfl, rfl, ?_⟩; clear hs w a; intro a w hs
  refine ifG hs rfl (fun c_8 => ?_) (fun c_8 => ?_)
  ·
   replace c_8 := eq_of_beq c_8
   refine go 1 [] [36, 19, 18, 4, 0, 1] hs .n ?_; clear hs w a; intro a w hs
   refine st_call hs (.c rfl (.c rfl .n)) Tryz.call74 (.c (.s .z) .n) (rfail_ok 7 g _ _ bs (((rInt bs ((upS bs (rByte bs R).1 (rByte bs R).2 0))).2)) _ (hs.mem.rd1 hb (.c (.s .z) .n)) (hs.mem.del (.s .z)) (by omega)) rfl ?_; clear hs w a; rintro _ _ a w ⟨rfl, rfl⟩ hs; simp only [List.cons_append, List.nil_append] at hs
   have hk9 := rFail_le (e := 7) (bs := bs) (R := ((rInt bs ((upS bs (rByte bs R).1 (rByte bs R).2 0))).2)) (by omega)
   refine goL 2 [] [19, 18, 4, 0, 1] hs .n ⟨by decide, ?_⟩; clear hs w a; intro a w hs
   have hS_ : upS bs (rByte bs R).1 (rByte bs R).2 1 = ((rFail 7 (((rInt bs ((upS bs (rByte bs R).1 (rByte bs R).2 0))).2)))) := upSZ hz_ (by assumption)
   have hX_ : upX bs (rByte bs R).1 (rByte bs R).2 0 = (rInt bs ((upS bs (rByte bs R).1 (rByte bs R).2 0))).1 := upX_t hz_
   replace hs := hs.reblk .z (cs' := [v, .int .i64 ((((upS bs (rByte bs R).1 (rByte bs R).2 1).p : Nat) : Int)), .int .i64 ((((upS bs (rByte bs R).1 (rByte bs R).2 1).e : Nat) : Int))]) (by rw [hS_])
   replace hs := hs.reblk (.s .z) (cs' := [.int .i64 (k), .int .i64 (id), .int .i64 (upX bs (rByte bs R).1 (rByte bs R).2 0), .int .i64 (0), .int .i64 (0), .int .i64 (0), .int .i64 (0), .int .i64 (0), .int .u16 (0)]) (by rw [hX_])
   replace hs := hs.reorder (.c (.s .z) (.c .z .n))
   exact ⟨hs.sub (.c rfl (.c rfl (.c rfl (.c rfl (.c rfl .n))))), (upS_le (m := (rByte bs R).1) (R := (rByte bs R).2) (bs := bs) (by omega) 1).1⟩
  replace c_8 := ne_of_beq_f c_8
  refine go 2 [] [19, 18, 4, 0, 1] hs .n ⟨by decide, ?_⟩; clear hs w a; intro a w hs
  have hS_ : upS bs (rByte bs R).1 (rByte bs R).2 1 = ((rInt bs ((upS bs (rByte bs R).1 (rByte bs R).2 0))).2) := upSN hz_ (by assumption)
  have hX_ : upX bs (rByte bs R).1 (rByte bs R).2 0 = (rInt bs ((upS bs (rByte bs R).1 (rByte bs R).2 0))).1 := upX_t hz_
  replace hs := hs.reblk (.s .z) (cs' := [v, .int .i64 ((((upS bs (rByte bs R).1 (rByte bs R).2 1).p : Nat) : Int)), .int .i64 ((((upS bs (rByte bs R).1 (rByte bs R).2 1).e : Nat) : Int))]) (by rw [hS_])
  replace hs := hs.reblk (.s .z) (cs' := [.int .i64 (k), .int .i64 (id), .int .i64 (upX bs (rByte bs R).1 (rByte bs R).2 0), .int .i64 (0), .int .i64 (0), .int .i64 (0), .int .i64 (0), .int .i64 (0), .int .u16 (0)]) (by rw [hX_])
  replace hs := hs.reorder (.c (.s .z) (.c .z .n))
  exact ⟨hs.sub (.c rfl (.c rfl (.c rfl (.c rfl (.c rfl .n))))), (upS_le (m := (rByte bs R).1) (R := (rByte bs R).2) (bs := bs) (by omega) 1).1⟩
 clear hs w a; rintro a w ⟨hs, hJ10⟩
 refine againG ?_
 refine cutG (fun a w => St 55 [(0, .pointer (some ⟨g, 0, none⟩)), (1, .pointer (some ⟨h, 0, none⟩)), (4, .int .u8 (((((rByte bs R).1).toNat : Nat) : Int))), (18, .agg #[.pointer (some ⟨h, 2, none⟩), .pointer (some ⟨h, 3, none⟩), .pointer (some ⟨h, 4, none⟩), .pointer (some ⟨h, 5, none⟩), .pointer (some ⟨h, 6, none⟩), .pointer (some ⟨h, 7, none⟩)]), (19, .int .i64 (2))] w0 [g, h] [blk g [v, .int .i64 (((((upS bs (rByte bs R).1 (rByte bs R).2 2)).p : Nat) : Int)), .int .i64 (((((upS bs (rByte bs R).1 (rByte bs R).2 2)).e : Nat) : Int))] 127, blk h [.int .i64 (k), .int .i64 (id), .int .i64 (upX bs (rByte bs R).1 (rByte bs R).2 0), .int .i64 (upX bs (rByte bs R).1 (rByte bs R).2 1), .int .i64 (0), .int .i64 (0), .int .i64 (0), .int .i64 (0), .int .u16 (0)] 78] a w ∧ (upS bs (rByte bs R).1 (rByte bs R).2 2).p ≤ bs.length) ?_ ?_
 ·
  refine go 8 [] [24, 23, 6, 0, 1, 4, 18, 19] hs .n ?_; clear hs w a; intro a w hs
  refine st_shr_u8 (X := (rByte bs R).1) (m := 1) hs rfl rfl rfl (by decide) rfl ?_; clear hs w a; intro a w hs
  refine st_and_u8 (X := ((rByte bs R).1) >>> 1) (Y := 1#8) hs rfl rfl rfl (by decide) rfl ?_; clear hs w a; intro a w hs
  refine goL 1 [] [27, 6, 0, 1, 4, 18, 19] hs .n ?_; clear hs w a; intro a w hs
  refine ifG hs rfl (fun c_11 => ?_) (fun c_11 => ?_)
  ·
   replace c_11 := eq_of_beq c_11
   have hz_ := upBit_f (m := (rByte bs R).1) (i := 1) (by assumption)
   refine go 2 [] [19, 0, 1, 4, 18] hs .n ⟨by decide, ?_⟩; clear hs w a; intro a w hs
   have hS_ : upS bs (rByte bs R).1 (rByte bs R).2 2 = ((upS bs (rByte bs R).1 (rByte bs R).2 1)) := upS_f hz_
   have hX_ : upX bs (rByte bs R).1 (rByte bs R).2 1 = 0 := upX_f hz_
   replace hs := hs.reblk .z (cs' := [v, .int .i64 ((((upS bs (rByte bs R).1 (rByte bs R).2 2).p : Nat) : Int)), .int .i64 ((((upS bs (rByte bs R).1 (rByte bs R).2 2).e : Nat) : Int))]) (by rw [hS_])
   replace hs := hs.reblk (.s .z) (cs' := [.int .i64 (k), .int .i64 (id), .int .i64 (upX bs (rByte bs R).1 (rByte bs R).2 0), .int .i64 (upX bs (rByte bs R).1 (rByte bs R).2 1), .int .i64 (0), .int .i64 (0), .int .i64 (0), .int .i64 (0), .int .u16 (0)]) (by rw [hX_])
   replace hs := hs.reorder (.c (.s .z) (.c .z .n))
   exact ⟨hs.sub (.c rfl (.c rfl (.c rfl (.c rfl (.c rfl .n))))), (upS_le (m := (rByte bs R).1) (R := (rByte bs R).2) (bs := bs) (by omega) 2).1⟩
  replace c_11 := ne_of_beq_f c_11
  have hz_ := upBit_t (m := (rByte bs R).1) (i := 1) (by assumption)
  refine go 2 [] [29, 28, 6, 0, 1, 4, 18, 19] hs .n ?_; clear hs w a; intro a w hs
  refine st_call hs (.c rfl .n) Tryz.call72 (.c .z .n) (rint_ok  g _ _ bs (((upS bs (rByte bs R).1 (rByte bs R).2 1))) _ (hs.mem.rd1 hb (.c .z .n)) (hs.mem.del .z) (by omega)) rfl ?_; clear hs w a; rintro _ _ a w ⟨rfl, rfl⟩ hs; simp only [List.cons_append, List.nil_append] at hs
  have hk12 := rInt_le (bs := bs) (R := ((upS bs (rByte bs R).1 (rByte bs R).2 1))) (by omega)
  refine goL 6 [0, 0] [35, 0, 1, 4, 18, 19] hs (.c (.s .z) .n) ⟨rfl, rfl, ?_⟩; clear hs w a; intro a w hs
  refine ifG hs rfl (fun c_13 => ?_) (fun c_13 => ?_)
  ·
   replace c_13 := eq_of_beq c_13
   refine go 1 [] [36, 0, 1, 4, 18, 19] hs .n ?_; clear hs w a; intro a w hs
   refine st_call hs (.c rfl (.c rfl .n)) Tryz.call74 (.c (.s .z) .n) (rfail_ok 7 g _ _ bs (((rInt bs (((upS bs (rByte bs R).1 (rByte bs R).2 1)))).2)) _ (hs.mem.rd1 hb (.c (.s .z) .n)) (hs.mem.del (.s .z)) (by omega)) rfl ?_; clear hs w a; rintro _ _ a w ⟨rfl, rfl⟩ hs; simp only [List.cons_append, List.nil_append] at hs
   have hk14 := rFail_le (e := 7) (bs := bs) (R := ((rInt bs (((upS bs (rByte bs R).1 (rByte bs R).2 1)))).2)) (by omega)
   refine goL 2 [] [19, 0, 1, 4, 18] hs .n ⟨by decide, ?_⟩; clear hs w a; intro a w hs
   have hS_ : upS bs (rByte bs R).1 (rByte bs R).2 2 = ((rFail 7 (((rInt bs (((upS bs (rByte bs R).1 (rByte bs R).2 1)))).2)))) := upSZ hz_ (by assumption)
   have hX_ : upX bs (rByte bs R).1 (rByte bs R).2 1 = (rInt bs (((upS bs (rByte bs R).1 (rByte bs R).2 1)))).1 := upX_t hz_
   replace hs := hs.reblk .z (cs' := [v, .int .i64 ((((upS bs (rByte bs R).1 (rByte bs R).2 2).p : Nat) : Int)), .int .i64 ((((upS bs (rByte bs R).1 (rByte bs R).2 2).e : Nat) : Int))]) (by rw [hS_])
   replace hs := hs.reblk (.s .z) (cs' := [.int .i64 (k), .int .i64 (id), .int .i64 (upX bs (rByte bs R).1 (rByte bs R).2 0), .int .i64 (upX bs (rByte bs R).1 (rByte bs R).2 1), .int .i64 (0), .int .i64 (0), .int .i64 (0), .int .i64 (0), .int .u16 (0)]) (by rw [hX_])
   replace hs := hs.reorder (.c (.s .z) (.c .z .n))
   exact ⟨hs.sub (.c rfl (.c rfl (.c rfl (.c rfl (.c rfl .n))))), (upS_le (m := (rByte bs R).1) (R := (rByte bs R).2) (bs := bs) (by omega) 2).1⟩
  replace c_13 := ne_of_beq_f c_13
  refine go 2 [] [19, 0, 1, 4, 18] hs .n ⟨by decide, ?_⟩; clear hs w a; intro a w hs
  have hS_ : upS bs (rByte bs R).1 (rByte bs R).2 2 = ((rInt bs (((upS bs (rByte bs R).1 (rByte bs R).2 1)))).2) := upSN hz_ (by assumption)
  have hX_ : upX bs (rByte bs R).1 (rByte bs R).2 1 = (rInt bs (((upS bs (rByte bs R).1 (rByte bs R).2 1)))).1 := upX_t hz_
  replace hs := hs.reblk (.s .z) (cs' := [v, .int .i64 ((((upS bs (rByte bs R).1 (rByte bs R).2 2).p : Nat) : Int)), .int .i64 ((((upS bs (rByte bs R).1 (rByte bs R).2 2).e : Nat) : Int))]) (by rw [hS_])
  replace hs := hs.reblk (.s .z) (cs' := [.int .i64 (k), .int .i64 (id), .int .i64 (upX bs (rByte bs R).1 (rByte bs R).2 0), .int .i64 (upX bs (rByte bs R).1 (rByte bs R).2 1), .int .i64 (0), .int .i64 (0), .int .i64 (0), .int .i64 (0), .int .u16 (0)]) (by rw [hX_])
  replace hs := hs.reorder (.c (.s .z) (.c .z .n))
  exact ⟨hs.sub (.c rfl (.c rfl (.c rfl (.c rfl (.c rfl .n))))), (upS_le (m := (rByte bs R).1) (R := (rByte bs R).2) (bs := bs) (by omega) 2).1⟩
 clear hs w a; rintro a w ⟨hs, hJ15⟩
 refine againG ?_
 refine cutG (fun a w => St 55 [(0, .pointer (some ⟨g, 0, none⟩)), (1, .pointer (some ⟨h, 0, none⟩)), (4, .int .u8 (((((rByte bs R).1).toNat : Nat) : Int))), (18, .agg #[.pointer (some ⟨h, 2, none⟩), .pointer (some ⟨h, 3, none⟩), .pointer (some ⟨h, 4, none⟩), .pointer (some ⟨h, 5, none⟩), .pointer (some ⟨h, 6, none⟩), .pointer (some ⟨h, 7, none⟩)]), (19, .int .i64 (3))] w0 [g, h] [blk g [v, .int .i64 (((((upS bs (rByte bs R).1 (rByte bs R).2 3)).p : Nat) : Int)), .int .i64 (((((upS bs (rByte bs R).1 (rByte bs R).2 3)).e : Nat) : Int))] 127, blk h [.int .i64 (k), .int .i64 (id), .int .i64 (upX bs (rByte bs R).1 (rByte bs R).2 0), .int .i64 (upX bs (rByte bs R).1 (rByte bs R).2 1), .int .i64 (upX bs (rByte bs R).1 (rByte bs R).2 2), .int .i64 (0), .int .i64 (0), .int .i64 (0), .int .u16 (0)] 78] a w ∧ (upS bs (rByte bs R).1 (rByte bs R).2 3).p ≤ bs.length) ?_ ?_
 ·
  refine go 8 [] [24, 23, 6, 0, 1, 4, 18, 19] hs .n ?_; clear hs w a; intro a w hs
  refine st_shr_u8 (X := (rByte bs R).1) (m := 2) hs rfl rfl rfl (by decide) rfl ?_; clear hs w a; intro a w hs
  refine st_and_u8 (X := ((rByte bs R).1) >>> 2) (Y := 1#8) hs rfl rfl rfl (by decide) rfl ?_; clear hs w a; intro a w hs
  refine goL 1 [] [27, 6, 0, 1, 4, 18, 19] hs .n ?_; clear hs w a; intro a w hs
  refine ifG hs rfl (fun c_16 => ?_) (fun c_16 => ?_)
  ·
   replace c_16 := eq_of_beq c_16
   have hz_ := upBit_f (m := (rByte bs R).1) (i := 2) (by assumption)
   refine go 2 [] [19, 0, 1, 4, 18] hs .n ⟨by decide, ?_⟩; clear hs w a; intro a w hs
   have hS_ : upS bs (rByte bs R).1 (rByte bs R).2 3 = ((upS bs (rByte bs R).1 (rByte bs R).2 2)) := upS_f hz_
   have hX_ : upX bs (rByte bs R).1 (rByte bs R).2 2 = 0 := upX_f hz_
   replace hs := hs.reblk .z (cs' := [v, .int .i64 ((((upS bs (rByte bs R).1 (rByte bs R).2 3).p : Nat) : Int)), .int .i64 ((((upS bs (rByte bs R).1 (rByte bs R).2 3).e : Nat) : Int))]) (by rw [hS_])
   replace hs := hs.reblk (.s .z) (cs' := [.int .i64 (k), .int .i64 (id), .int .i64 (upX bs (rByte bs R).1 (rByte bs R).2 0), .int .i64 (upX bs (rByte bs R).1 (rByte bs R).2 1), .int .i64 (upX bs (rByte bs R).1 (rByte bs R).2 2), .int .i64 (0), .int .i64 (0), .int .i64 (0), .int .u16 (0)]) (by rw [hX_])
   replace hs := hs.reorder (.c (.s .z) (.c .z .n))
   exact ⟨hs.sub (.c rfl (.c rfl (.c rfl (.c rfl (.c rfl .n))))), (upS_le (m := (rByte bs R).1) (R := (rByte bs R).2) (bs := bs) (by omega) 3).1⟩
  replace c_16 := ne_of_beq_f c_16
  have hz_ := upBit_t (m := (rByte bs R).1) (i := 2) (by assumption)
  refine go 2 [] [29, 28, 6, 0, 1, 4, 18, 19] hs .n ?_; clear hs w a; intro a w hs
  refine st_call hs (.c rfl .n) Tryz.call72 (.c .z .n) (rint_ok  g _ _ bs (((upS bs (rByte bs R).1 (rByte bs R).2 2))) _ (hs.mem.rd1 hb (.c .z .n)) (hs.mem.del .z) (by omega)) rfl ?_; clear hs w a; rintro _ _ a w ⟨rfl, rfl⟩ hs; simp only [List.cons_append, List.nil_append] at hs
  have hk17 := rInt_le (bs := bs) (R := ((upS bs (rByte bs R).1 (rByte bs R).2 2))) (by omega)
  refine goL 6 [0, 0] [35, 0, 1, 4, 18, 19] hs (.c (.s .z) .n) ⟨rfl, rfl, ?_⟩; clear hs w a; intro a w hs
  refine ifG hs rfl (fun c_18 => ?_) (fun c_18 => ?_)
  ·
   replace c_18 := eq_of_beq c_18
   refine go 1 [] [36, 0, 1, 4, 18, 19] hs .n ?_; clear hs w a; intro a w hs
   refine st_call hs (.c rfl (.c rfl .n)) Tryz.call74 (.c (.s .z) .n) (rfail_ok 7 g _ _ bs (((rInt bs (((upS bs (rByte bs R).1 (rByte bs R).2 2)))).2)) _ (hs.mem.rd1 hb (.c (.s .z) .n)) (hs.mem.del (.s .z)) (by omega)) rfl ?_; clear hs w a; rintro _ _ a w ⟨rfl, rfl⟩ hs; simp only [List.cons_append, List.nil_append] at hs
   have hk19 := rFail_le (e := 7) (bs := bs) (R := ((rInt bs (((upS bs (rByte bs R).1 (rByte bs R).2 2)))).2)) (by omega)
   refine goL 2 [] [19, 0, 1, 4, 18] hs .n ⟨by decide, ?_⟩; clear hs w a; intro a w hs
   have hS_ : upS bs (rByte bs R).1 (rByte bs R).2 3 = ((rFail 7 (((rInt bs (((upS bs (rByte bs R).1 (rByte bs R).2 2)))).2)))) := upSZ hz_ (by assumption)
   have hX_ : upX bs (rByte bs R).1 (rByte bs R).2 2 = (rInt bs (((upS bs (rByte bs R).1 (rByte bs R).2 2)))).1 := upX_t hz_
   replace hs := hs.reblk .z (cs' := [v, .int .i64 ((((upS bs (rByte bs R).1 (rByte bs R).2 3).p : Nat) : Int)), .int .i64 ((((upS bs (rByte bs R).1 (rByte bs R).2 3).e : Nat) : Int))]) (by rw [hS_])
   replace hs := hs.reblk (.s .z) (cs' := [.int .i64 (k), .int .i64 (id), .int .i64 (upX bs (rByte bs R).1 (rByte bs R).2 0), .int .i64 (upX bs (rByte bs R).1 (rByte bs R).2 1), .int .i64 (upX bs (rByte bs R).1 (rByte bs R).2 2), .int .i64 (0), .int .i64 (0), .int .i64 (0), .int .u16 (0)]) (by rw [hX_])
   replace hs := hs.reorder (.c (.s .z) (.c .z .n))
   exact ⟨hs.sub (.c rfl (.c rfl (.c rfl (.c rfl (.c rfl .n))))), (upS_le (m := (rByte bs R).1) (R := (rByte bs R).2) (bs := bs) (by omega) 3).1⟩
  replace c_18 := ne_of_beq_f c_18
  refine go 2 [] [19, 0, 1, 4, 18] hs .n ⟨by decide, ?_⟩; clear hs w a; intro a w hs
  have hS_ : upS bs (rByte bs R).1 (rByte bs R).2 3 = ((rInt bs (((upS bs (rByte bs R).1 (rByte bs R).2 2)))).2) := upSN hz_ (by assumption)
  have hX_ : upX bs (rByte bs R).1 (rByte bs R).2 2 = (rInt bs (((upS bs (rByte bs R).1 (rByte bs R).2 2)))).1 := upX_t hz_
  replace hs := hs.reblk (.s .z) (cs' := [v, .int .i64 ((((upS bs (rByte bs R).1 (rByte bs R).2 3).p : Nat) : Int)), .int .i64 ((((upS bs (rByte bs R).1 (rByte bs R).2 3).e : Nat) : Int))]) (by rw [hS_])
  replace hs := hs.reblk (.s .z) (cs' := [.int .i64 (k), .int .i64 (id), .int .i64 (upX bs (rByte bs R).1 (rByte bs R).2 0), .int .i64 (upX bs (rByte bs R).1 (rByte bs R).2 1), .int .i64 (upX bs (rByte bs R).1 (rByte bs R).2 2), .int .i64 (0), .int .i64 (0), .int .i64 (0), .int .u16 (0)]) (by rw [hX_])
  replace hs := hs.reorder (.c (.s .z) (.c .z .n))
  exact ⟨hs.sub (.c rfl (.c rfl (.c rfl (.c rfl (.c rfl .n))))), (upS_le (m := (rByte bs R).1) (R := (rByte bs R).2) (bs := bs) (by omega) 3).1⟩
 clear hs w a; rintro a w ⟨hs, hJ20⟩
 refine againG ?_
 refine cutG (fun a w => St 55 [(0, .pointer (some ⟨g, 0, none⟩)), (1, .pointer (some ⟨h, 0, none⟩)), (4, .int .u8 (((((rByte bs R).1).toNat : Nat) : Int))), (18, .agg #[.pointer (some ⟨h, 2, none⟩), .pointer (some ⟨h, 3, none⟩), .pointer (some ⟨h, 4, none⟩), .pointer (some ⟨h, 5, none⟩), .pointer (some ⟨h, 6, none⟩), .pointer (some ⟨h, 7, none⟩)]), (19, .int .i64 (4))] w0 [g, h] [blk g [v, .int .i64 (((((upS bs (rByte bs R).1 (rByte bs R).2 4)).p : Nat) : Int)), .int .i64 (((((upS bs (rByte bs R).1 (rByte bs R).2 4)).e : Nat) : Int))] 127, blk h [.int .i64 (k), .int .i64 (id), .int .i64 (upX bs (rByte bs R).1 (rByte bs R).2 0), .int .i64 (upX bs (rByte bs R).1 (rByte bs R).2 1), .int .i64 (upX bs (rByte bs R).1 (rByte bs R).2 2), .int .i64 (upX bs (rByte bs R).1 (rByte bs R).2 3), .int .i64 (0), .int .i64 (0), .int .u16 (0)] 78] a w ∧ (upS bs (rByte bs R).1 (rByte bs R).2 4).p ≤ bs.length) ?_ ?_
 ·
  refine go 8 [] [24, 23, 6, 0, 1, 4, 18, 19] hs .n ?_; clear hs w a; intro a w hs
  refine st_shr_u8 (X := (rByte bs R).1) (m := 3) hs rfl rfl rfl (by decide) rfl ?_; clear hs w a; intro a w hs
  refine st_and_u8 (X := ((rByte bs R).1) >>> 3) (Y := 1#8) hs rfl rfl rfl (by decide) rfl ?_; clear hs w a; intro a w hs
  refine goL 1 [] [27, 6, 0, 1, 4, 18, 19] hs .n ?_; clear hs w a; intro a w hs
  refine ifG hs rfl (fun c_21 => ?_) (fun c_21 => ?_)
  ·
   replace c_21 := eq_of_beq c_21
   have hz_ := upBit_f (m := (rByte bs R).1) (i := 3) (by assumption)
   refine go 2 [] [19, 0, 1, 4, 18] hs .n ⟨by decide, ?_⟩; clear hs w a; intro a w hs
   have hS_ : upS bs (rByte bs R).1 (rByte bs R).2 4 = ((upS bs (rByte bs R).1 (rByte bs R).2 3)) := upS_f hz_
   have hX_ : upX bs (rByte bs R).1 (rByte bs R).2 3 = 0 := upX_f hz_
   replace hs := hs.reblk .z (cs' := [v, .int .i64 ((((upS bs (rByte bs R).1 (rByte bs R).2 4).p : Nat) : Int)), .int .i64 ((((upS bs (rByte bs R).1 (rByte bs R).2 4).e : Nat) : Int))]) (by rw [hS_])
   replace hs := hs.reblk (.s .z) (cs' := [.int .i64 (k), .int .i64 (id), .int .i64 (upX bs (rByte bs R).1 (rByte bs R).2 0), .int .i64 (upX bs (rByte bs R).1 (rByte bs R).2 1), .int .i64 (upX bs (rByte bs R).1 (rByte bs R).2 2), .int .i64 (upX bs (rByte bs R).1 (rByte bs R).2 3), .int .i64 (0), .int .i64 (0), .int .u16 (0)]) (by rw [hX_])
   replace hs := hs.reorder (.c (.s .z) (.c .z .n))
   exact ⟨hs.sub (.c rfl (.c rfl (.c rfl (.c rfl (.c rfl .n))))), (upS_le (m := (rByte bs R).1) (R := (rByte bs R).2) (bs := bs) (by omega) 4).1⟩
  replace c_21 := ne_of_beq_f c_21
  have hz_ := upBit_t (m := (rByte bs R).1) (i := 3) (by assumption)
  refine go 2 [] [29, 28, 6, 0, 1, 4, 18, 19] hs .n ?_; clear hs w a; intro a w hs
  refine st_call hs (.c rfl .n) Tryz.call72 (.c .z .n) (rint_ok  g _ _ bs (((upS bs (rByte bs R).1 (rByte bs R).2 3))) _ (hs.mem.rd1 hb (.c .z .n)) (hs.mem.del .z) (by omega)) rfl ?_; clear hs w a; rintro _ _ a w ⟨rfl, rfl⟩ hs; simp only [List.cons_append, List.nil_append] at hs
  have hk22 := rInt_le (bs := bs) (R := ((upS bs (rByte bs R).1 (rByte bs R).2 3))) (by omega)
  refine goL 6 [0, 0] [35, 0, 1, 4, 18, 19] hs (.c (.s .z) .n) ⟨rfl, rfl, ?_⟩; clear hs w a; intro a w hs
  refine ifG hs rfl (fun c_23 => ?_) (fun c_23 => ?_)
  ·
   replace c_23 := eq_of_beq c_23
   refine go 1 [] [36, 0, 1, 4, 18, 19] hs .n ?_; clear hs w a; intro a w hs
   refine st_call hs (.c rfl (.c rfl .n)) Tryz.call74 (.c (.s .z) .n) (rfail_ok 7 g _ _ bs (((rInt bs (((upS bs (rByte bs R).1 (rByte bs R).2 3)))).2)) _ (hs.mem.rd1 hb (.c (.s .z) .n)) (hs.mem.del (.s .z)) (by omega)) rfl ?_; clear hs w a; rintro _ _ a w ⟨rfl, rfl⟩ hs; simp only [List.cons_append, List.nil_append] at hs
   have hk24 := rFail_le (e := 7) (bs := bs) (R := ((rInt bs (((upS bs (rByte bs R).1 (rByte bs R).2 3)))).2)) (by omega)
   refine goL 2 [] [19, 0, 1, 4, 18] hs .n ⟨by decide, ?_⟩; clear hs w a; intro a w hs
   have hS_ : upS bs (rByte bs R).1 (rByte bs R).2 4 = ((rFail 7 (((rInt bs (((upS bs (rByte bs R).1 (rByte bs R).2 3)))).2)))) := upSZ hz_ (by assumption)
   have hX_ : upX bs (rByte bs R).1 (rByte bs R).2 3 = (rInt bs (((upS bs (rByte bs R).1 (rByte bs R).2 3)))).1 := upX_t hz_
   replace hs := hs.reblk .z (cs' := [v, .int .i64 ((((upS bs (rByte bs R).1 (rByte bs R).2 4).p : Nat) : Int)), .int .i64 ((((upS bs (rByte bs R).1 (rByte bs R).2 4).e : Nat) : Int))]) (by rw [hS_])
   replace hs := hs.reblk (.s .z) (cs' := [.int .i64 (k), .int .i64 (id), .int .i64 (upX bs (rByte bs R).1 (rByte bs R).2 0), .int .i64 (upX bs (rByte bs R).1 (rByte bs R).2 1), .int .i64 (upX bs (rByte bs R).1 (rByte bs R).2 2), .int .i64 (upX bs (rByte bs R).1 (rByte bs R).2 3), .int .i64 (0), .int .i64 (0), .int .u16 (0)]) (by rw [hX_])
   replace hs := hs.reorder (.c (.s .z) (.c .z .n))
   exact ⟨hs.sub (.c rfl (.c rfl (.c rfl (.c rfl (.c rfl .n))))), (upS_le (m := (rByte bs R).1) (R := (rByte bs R).2) (bs := bs) (by omega) 4).1⟩
  replace c_23 := ne_of_beq_f c_23
  refine go 2 [] [19, 0, 1, 4, 18] hs .n ⟨by decide, ?_⟩; clear hs w a; intro a w hs
  have hS_ : upS bs (rByte bs R).1 (rByte bs R).2 4 = ((rInt bs (((upS bs (rByte bs R).1 (rByte bs R).2 3)))).2) := upSN hz_ (by assumption)
  have hX_ : upX bs (rByte bs R).1 (rByte bs R).2 3 = (rInt bs (((upS bs (rByte bs R).1 (rByte bs R).2 3)))).1 := upX_t hz_
  replace hs := hs.reblk (.s .z) (cs' := [v, .int .i64 ((((upS bs (rByte bs R).1 (rByte bs R).2 4).p : Nat) : Int)), .int .i64 ((((upS bs (rByte bs R).1 (rByte bs R).2 4).e : Nat) : Int))]) (by rw [hS_])
  replace hs := hs.reblk (.s .z) (cs' := [.int .i64 (k), .int .i64 (id), .int .i64 (upX bs (rByte bs R).1 (rByte bs R).2 0), .int .i64 (upX bs (rByte bs R).1 (rByte bs R).2 1), .int .i64 (upX bs (rByte bs R).1 (rByte bs R).2 2), .int .i64 (upX bs (rByte bs R).1 (rByte bs R).2 3), .int .i64 (0), .int .i64 (0), .int .u16 (0)]) (by rw [hX_])
  replace hs := hs.reorder (.c (.s .z) (.c .z .n))
  exact ⟨hs.sub (.c rfl (.c rfl (.c rfl (.c rfl (.c rfl .n))))), (upS_le (m := (rByte bs R).1) (R := (rByte bs R).2) (bs := bs) (by omega) 4).1⟩
 clear hs w a; rintro a w ⟨hs, hJ25⟩
 refine againG ?_
 refine cutG (fun a w => St 55 [(0, .pointer (some ⟨g, 0, none⟩)), (1, .pointer (some ⟨h, 0, none⟩)), (4, .int .u8 (((((rByte bs R).1).toNat : Nat) : Int))), (18, .agg #[.pointer (some ⟨h, 2, none⟩), .pointer (some ⟨h, 3, none⟩), .pointer (some ⟨h, 4, none⟩), .pointer (some ⟨h, 5, none⟩), .pointer (some ⟨h, 6, none⟩), .pointer (some ⟨h, 7, none⟩)]), (19, .int .i64 (5))] w0 [g, h] [blk g [v, .int .i64 (((((upS bs (rByte bs R).1 (rByte bs R).2 5)).p : Nat) : Int)), .int .i64 (((((upS bs (rByte bs R).1 (rByte bs R).2 5)).e : Nat) : Int))] 127, blk h [.int .i64 (k), .int .i64 (id), .int .i64 (upX bs (rByte bs R).1 (rByte bs R).2 0), .int .i64 (upX bs (rByte bs R).1 (rByte bs R).2 1), .int .i64 (upX bs (rByte bs R).1 (rByte bs R).2 2), .int .i64 (upX bs (rByte bs R).1 (rByte bs R).2 3), .int .i64 (upX bs (rByte bs R).1 (rByte bs R).2 4), .int .i64 (0), .int .u16 (0)] 78] a w ∧ (upS bs (rByte bs R).1 (rByte bs R).2 5).p ≤ bs.length) ?_ ?_
 ·
  refine go 8 [] [24, 23, 6, 0, 1, 4, 18, 19] hs .n ?_; clear hs w a; intro a w hs
  refine st_shr_u8 (X := (rByte bs R).1) (m := 4) hs rfl rfl rfl (by decide) rfl ?_; clear hs w a; intro a w hs
  refine st_and_u8 (X := ((rByte bs R).1) >>> 4) (Y := 1#8) hs rfl rfl rfl (by decide) rfl ?_; clear hs w a; intro a w hs
  refine goL 1 [] [27, 6, 0, 1, 4, 18, 19] hs .n ?_; clear hs w a; intro a w hs
  refine ifG hs rfl (fun c_26 => ?_) (fun c_26 => ?_)
  ·
   replace c_26 := eq_of_beq c_26
   have hz_ := upBit_f (m := (rByte bs R).1) (i := 4) (by assumption)
   refine go 2 [] [19, 0, 1, 4, 18] hs .n ⟨by decide, ?_⟩; clear hs w a; intro a w hs
   have hS_ : upS bs (rByte bs R).1 (rByte bs R).2 5 = ((upS bs (rByte bs R).1 (rByte bs R).2 4)) := upS_f hz_
   have hX_ : upX bs (rByte bs R).1 (rByte bs R).2 4 = 0 := upX_f hz_
   replace hs := hs.reblk .z (cs' := [v, .int .i64 ((((upS bs (rByte bs R).1 (rByte bs R).2 5).p : Nat) : Int)), .int .i64 ((((upS bs (rByte bs R).1 (rByte bs R).2 5).e : Nat) : Int))]) (by rw [hS_])
   replace hs := hs.reblk (.s .z) (cs' := [.int .i64 (k), .int .i64 (id), .int .i64 (upX bs (rByte bs R).1 (rByte bs R).2 0), .int .i64 (upX bs (rByte bs R).1 (rByte bs R).2 1), .int .i64 (upX bs (rByte bs R).1 (rByte bs R).2 2), .int .i64 (upX bs (rByte bs R).1 (rByte bs R).2 3), .int .i64 (upX bs (rByte bs R).1 (rByte bs R).2 4), .int .i64 (0), .int .u16 (0)]) (by rw [hX_])
   replace hs := hs.reorder (.c (.s .z) (.c .z .n))
   exact ⟨hs.sub (.c rfl (.c rfl (.c rfl (.c rfl (.c rfl .n))))), (upS_le (m := (rByte bs R).1) (R := (rByte bs R).2) (bs := bs) (by omega) 5).1⟩
  replace c_26 := ne_of_beq_f c_26
  have hz_ := upBit_t (m := (rByte bs R).1) (i := 4) (by assumption)
  refine go 2 [] [29, 28, 6, 0, 1, 4, 18, 19] hs .n ?_; clear hs w a; intro a w hs
  refine st_call hs (.c rfl .n) Tryz.call72 (.c .z .n) (rint_ok  g _ _ bs (((upS bs (rByte bs R).1 (rByte bs R).2 4))) _ (hs.mem.rd1 hb (.c .z .n)) (hs.mem.del .z) (by omega)) rfl ?_; clear hs w a; rintro _ _ a w ⟨rfl, rfl⟩ hs; simp only [List.cons_append, List.nil_append] at hs
  have hk27 := rInt_le (bs := bs) (R := ((upS bs (rByte bs R).1 (rByte bs R).2 4))) (by omega)
  refine goL 6 [0, 0] [35, 0, 1, 4, 18, 19] hs (.c (.s .z) .n) ⟨rfl, rfl, ?_⟩; clear hs w a; intro a w hs
  refine ifG hs rfl (fun c_28 => ?_) (fun c_28 => ?_)
  ·
   replace c_28 := eq_of_beq c_28
   refine go 1 [] [36, 0, 1, 4, 18, 19] hs .n ?_; clear hs w a; intro a w hs
   refine st_call hs (.c rfl (.c rfl .n)) Tryz.call74 (.c (.s .z) .n) (rfail_ok 7 g _ _ bs (((rInt bs (((upS bs (rByte bs R).1 (rByte bs R).2 4)))).2)) _ (hs.mem.rd1 hb (.c (.s .z) .n)) (hs.mem.del (.s .z)) (by omega)) rfl ?_; clear hs w a; rintro _ _ a w ⟨rfl, rfl⟩ hs; simp only [List.cons_append, List.nil_append] at hs
   have hk29 := rFail_le (e := 7) (bs := bs) (R := ((rInt bs (((upS bs (rByte bs R).1 (rByte bs R).2 4)))).2)) (by omega)
   refine goL 2 [] [19, 0, 1, 4, 18] hs .n ⟨by decide, ?_⟩; clear hs w a; intro a w hs
   have hS_ : upS bs (rByte bs R).1 (rByte bs R).2 5 = ((rFail 7 (((rInt bs (((upS bs (rByte bs R).1 (rByte bs R).2 4)))).2)))) := upSZ hz_ (by assumption)
   have hX_ : upX bs (rByte bs R).1 (rByte bs R).2 4 = (rInt bs (((upS bs (rByte bs R).1 (rByte bs R).2 4)))).1 := upX_t hz_
   replace hs := hs.reblk .z (cs' := [v, .int .i64 ((((upS bs (rByte bs R).1 (rByte bs R).2 5).p : Nat) : Int)), .int .i64 ((((upS bs (rByte bs R).1 (rByte bs R).2 5).e : Nat) : Int))]) (by rw [hS_])
   replace hs := hs.reblk (.s .z) (cs' := [.int .i64 (k), .int .i64 (id), .int .i64 (upX bs (rByte bs R).1 (rByte bs R).2 0), .int .i64 (upX bs (rByte bs R).1 (rByte bs R).2 1), .int .i64 (upX bs (rByte bs R).1 (rByte bs R).2 2), .int .i64 (upX bs (rByte bs R).1 (rByte bs R).2 3), .int .i64 (upX bs (rByte bs R).1 (rByte bs R).2 4), .int .i64 (0), .int .u16 (0)]) (by rw [hX_])
   replace hs := hs.reorder (.c (.s .z) (.c .z .n))
   exact ⟨hs.sub (.c rfl (.c rfl (.c rfl (.c rfl (.c rfl .n))))), (upS_le (m := (rByte bs R).1) (R := (rByte bs R).2) (bs := bs) (by omega) 5).1⟩
  replace c_28 := ne_of_beq_f c_28
  refine go 2 [] [19, 0, 1, 4, 18] hs .n ⟨by decide, ?_⟩; clear hs w a; intro a w hs
  have hS_ : upS bs (rByte bs R).1 (rByte bs R).2 5 = ((rInt bs (((upS bs (rByte bs R).1 (rByte bs R).2 4)))).2) := upSN hz_ (by assumption)
  have hX_ : upX bs (rByte bs R).1 (rByte bs R).2 4 = (rInt bs (((upS bs (rByte bs R).1 (rByte bs R).2 4)))).1 := upX_t hz_
  replace hs := hs.reblk (.s .z) (cs' := [v, .int .i64 ((((upS bs (rByte bs R).1 (rByte bs R).2 5).p : Nat) : Int)), .int .i64 ((((upS bs (rByte bs R).1 (rByte bs R).2 5).e : Nat) : Int))]) (by rw [hS_])
  replace hs := hs.reblk (.s .z) (cs' := [.int .i64 (k), .int .i64 (id), .int .i64 (upX bs (rByte bs R).1 (rByte bs R).2 0), .int .i64 (upX bs (rByte bs R).1 (rByte bs R).2 1), .int .i64 (upX bs (rByte bs R).1 (rByte bs R).2 2), .int .i64 (upX bs (rByte bs R).1 (rByte bs R).2 3), .int .i64 (upX bs (rByte bs R).1 (rByte bs R).2 4), .int .i64 (0), .int .u16 (0)]) (by rw [hX_])
  replace hs := hs.reorder (.c (.s .z) (.c .z .n))
  exact ⟨hs.sub (.c rfl (.c rfl (.c rfl (.c rfl (.c rfl .n))))), (upS_le (m := (rByte bs R).1) (R := (rByte bs R).2) (bs := bs) (by omega) 5).1⟩
 clear hs w a; rintro a w ⟨hs, hJ30⟩
 refine againG ?_
 refine cutG (fun a w => St 55 [(0, .pointer (some ⟨g, 0, none⟩)), (1, .pointer (some ⟨h, 0, none⟩)), (4, .int .u8 (((((rByte bs R).1).toNat : Nat) : Int))), (18, .agg #[.pointer (some ⟨h, 2, none⟩), .pointer (some ⟨h, 3, none⟩), .pointer (some ⟨h, 4, none⟩), .pointer (some ⟨h, 5, none⟩), .pointer (some ⟨h, 6, none⟩), .pointer (some ⟨h, 7, none⟩)]), (19, .int .i64 (6))] w0 [g, h] [blk g [v, .int .i64 (((((upS bs (rByte bs R).1 (rByte bs R).2 6)).p : Nat) : Int)), .int .i64 (((((upS bs (rByte bs R).1 (rByte bs R).2 6)).e : Nat) : Int))] 127, blk h [.int .i64 (k), .int .i64 (id), .int .i64 (upX bs (rByte bs R).1 (rByte bs R).2 0), .int .i64 (upX bs (rByte bs R).1 (rByte bs R).2 1), .int .i64 (upX bs (rByte bs R).1 (rByte bs R).2 2), .int .i64 (upX bs (rByte bs R).1 (rByte bs R).2 3), .int .i64 (upX bs (rByte bs R).1 (rByte bs R).2 4), .int .i64 (upX bs (rByte bs R).1 (rByte bs R).2 5), .int .u16 (0)] 78] a w ∧ (upS bs (rByte bs R).1 (rByte bs R).2 6).p ≤ bs.length) ?_ ?_
 ·
  refine go 8 [] [24, 23, 6, 0, 1, 4, 18, 19] hs .n ?_; clear hs w a; intro a w hs
  refine st_shr_u8 (X := (rByte bs R).1) (m := 5) hs rfl rfl rfl (by decide) rfl ?_; clear hs w a; intro a w hs
  refine st_and_u8 (X := ((rByte bs R).1) >>> 5) (Y := 1#8) hs rfl rfl rfl (by decide) rfl ?_; clear hs w a; intro a w hs
  refine goL 1 [] [27, 6, 0, 1, 4, 18, 19] hs .n ?_; clear hs w a; intro a w hs
  refine ifG hs rfl (fun c_31 => ?_) (fun c_31 => ?_)
  ·
   replace c_31 := eq_of_beq c_31
   have hz_ := upBit_f (m := (rByte bs R).1) (i := 5) (by assumption)
   refine go 2 [] [19, 0, 1, 4, 18] hs .n ⟨by decide, ?_⟩; clear hs w a; intro a w hs
   have hS_ : upS bs (rByte bs R).1 (rByte bs R).2 6 = ((upS bs (rByte bs R).1 (rByte bs R).2 5)) := upS_f hz_
   have hX_ : upX bs (rByte bs R).1 (rByte bs R).2 5 = 0 := upX_f hz_
   replace hs := hs.reblk .z (cs' := [v, .int .i64 ((((upS bs (rByte bs R).1 (rByte bs R).2 6).p : Nat) : Int)), .int .i64 ((((upS bs (rByte bs R).1 (rByte bs R).2 6).e : Nat) : Int))]) (by rw [hS_])
   replace hs := hs.reblk (.s .z) (cs' := [.int .i64 (k), .int .i64 (id), .int .i64 (upX bs (rByte bs R).1 (rByte bs R).2 0), .int .i64 (upX bs (rByte bs R).1 (rByte bs R).2 1), .int .i64 (upX bs (rByte bs R).1 (rByte bs R).2 2), .int .i64 (upX bs (rByte bs R).1 (rByte bs R).2 3), .int .i64 (upX bs (rByte bs R).1 (rByte bs R).2 4), .int .i64 (upX bs (rByte bs R).1 (rByte bs R).2 5), .int .u16 (0)]) (by rw [hX_])
   replace hs := hs.reorder (.c (.s .z) (.c .z .n))
   exact ⟨hs.sub (.c rfl (.c rfl (.c rfl (.c rfl (.c rfl .n))))), (upS_le (m := (rByte bs R).1) (R := (rByte bs R).2) (bs := bs) (by omega) 6).1⟩
  replace c_31 := ne_of_beq_f c_31
  have hz_ := upBit_t (m := (rByte bs R).1) (i := 5) (by assumption)
  refine go 2 [] [29, 28, 6, 0, 1, 4, 18, 19] hs .n ?_; clear hs w a; intro a w hs
  refine st_call hs (.c rfl .n) Tryz.call72 (.c .z .n) (rint_ok  g _ _ bs (((upS bs (rByte bs R).1 (rByte bs R).2 5))) _ (hs.mem.rd1 hb (.c .z .n)) (hs.mem.del .z) (by omega)) rfl ?_; clear hs w a; rintro _ _ a w ⟨rfl, rfl⟩ hs; simp only [List.cons_append, List.nil_append] at hs
  have hk32 := rInt_le (bs := bs) (R := ((upS bs (rByte bs R).1 (rByte bs R).2 5))) (by omega)
  refine goL 6 [0, 0] [35, 0, 1, 4, 18, 19] hs (.c (.s .z) .n) ⟨rfl, rfl, ?_⟩; clear hs w a; intro a w hs
  refine ifG hs rfl (fun c_33 => ?_) (fun c_33 => ?_)
  ·
   replace c_33 := eq_of_beq c_33
   refine go 1 [] [36, 0, 1, 4, 18, 19] hs .n ?_; clear hs w a; intro a w hs
   refine st_call hs (.c rfl (.c rfl .n)) Tryz.call74 (.c (.s .z) .n) (rfail_ok 7 g _ _ bs (((rInt bs (((upS bs (rByte bs R).1 (rByte bs R).2 5)))).2)) _ (hs.mem.rd1 hb (.c (.s .z) .n)) (hs.mem.del (.s .z)) (by omega)) rfl ?_; clear hs w a; rintro _ _ a w ⟨rfl, rfl⟩ hs; simp only [List.cons_append, List.nil_append] at hs
   have hk34 := rFail_le (e := 7) (bs := bs) (R := ((rInt bs (((upS bs (rByte bs R).1 (rByte bs R).2 5)))).2)) (by omega)
   refine goL 2 [] [19, 0, 1, 4, 18] hs .n ⟨by decide, ?_⟩; clear hs w a; intro a w hs
   have hS_ : upS bs (rByte bs R).1 (rByte bs R).2 6 = ((rFail 7 (((rInt bs (((upS bs (rByte bs R).1 (rByte bs R).2 5)))).2)))) := upSZ hz_ (by assumption)
   have hX_ : upX bs (rByte bs R).1 (rByte bs R).2 5 = (rInt bs (((upS bs (rByte bs R).1 (rByte bs R).2 5)))).1 := upX_t hz_
   replace hs := hs.reblk .z (cs' := [v, .int .i64 ((((upS bs (rByte bs R).1 (rByte bs R).2 6).p : Nat) : Int)), .int .i64 ((((upS bs (rByte bs R).1 (rByte bs R).2 6).e : Nat) : Int))]) (by rw [hS_])
   replace hs := hs.reblk (.s .z) (cs' := [.int .i64 (k), .int .i64 (id), .int .i64 (upX bs (rByte bs R).1 (rByte bs R).2 0), .int .i64 (upX bs (rByte bs R).1 (rByte bs R).2 1), .int .i64 (upX bs (rByte bs R).1 (rByte bs R).2 2), .int .i64 (upX bs (rByte bs R).1 (rByte bs R).2 3), .int .i64 (upX bs (rByte bs R).1 (rByte bs R).2 4), .int .i64 (upX bs (rByte bs R).1 (rByte bs R).2 5), .int .u16 (0)]) (by rw [hX_])
   replace hs := hs.reorder (.c (.s .z) (.c .z .n))
   exact ⟨hs.sub (.c rfl (.c rfl (.c rfl (.c rfl (.c rfl .n))))), (upS_le (m := (rByte bs R).1) (R := (rByte bs R).2) (bs := bs) (by omega) 6).1⟩
  replace c_33 := ne_of_beq_f c_33
  refine go 2 [] [19, 0, 1, 4, 18] hs .n ⟨by decide, ?_⟩; clear hs w a; intro a w hs
  have hS_ : upS bs (rByte bs R).1 (rByte bs R).2 6 = ((rInt bs (((upS bs (rByte bs R).1 (rByte bs R).2 5)))).2) := upSN hz_ (by assumption)
  have hX_ : upX bs (rByte bs R).1 (rByte bs R).2 5 = (rInt bs (((upS bs (rByte bs R).1 (rByte bs R).2 5)))).1 := upX_t hz_
  replace hs := hs.reblk (.s .z) (cs' := [v, .int .i64 ((((upS bs (rByte bs R).1 (rByte bs R).2 6).p : Nat) : Int)), .int .i64 ((((upS bs (rByte bs R).1 (rByte bs R).2 6).e : Nat) : Int))]) (by rw [hS_])
  replace hs := hs.reblk (.s .z) (cs' := [.int .i64 (k), .int .i64 (id), .int .i64 (upX bs (rByte bs R).1 (rByte bs R).2 0), .int .i64 (upX bs (rByte bs R).1 (rByte bs R).2 1), .int .i64 (upX bs (rByte bs R).1 (rByte bs R).2 2), .int .i64 (upX bs (rByte bs R).1 (rByte bs R).2 3), .int .i64 (upX bs (rByte bs R).1 (rByte bs R).2 4), .int .i64 (upX bs (rByte bs R).1 (rByte bs R).2 5), .int .u16 (0)]) (by rw [hX_])
  replace hs := hs.reorder (.c (.s .z) (.c .z .n))
  exact ⟨hs.sub (.c rfl (.c rfl (.c rfl (.c rfl (.c rfl .n))))), (upS_le (m := (rByte bs R).1) (R := (rByte bs R).2) (bs := bs) (by omega) 6).1⟩
 clear hs w a; rintro a w ⟨hs, hJ35⟩
 refine againG ?_
 refine go 3 [] [39, 0, 1] hs .n ?_; clear hs w a; intro a w hs
 refine st_and_u8 (X := (rByte bs R).1) (Y := 64#8) hs rfl rfl rfl (by decide) rfl ?_; clear hs w a; intro a w hs
 refine goFL 1 1 [] [41, 0, 1] hs .n ?_; clear hs w a; intro a w hs
 have hua := rUint_le (X := 65535#64) (bs := bs) (R := (upS bs (rByte bs R).1 (rByte bs R).2 6)) (by omega)
 refine go 0 [] [41, 0, 1] hs .n ?_; clear hs w a; intro a w hs
 refine ifG hs rfl (fun c_36 => ?_) (fun c_36 => ?_)
 ·
  replace c_36 := not_t c_36
  replace c_36 := ne_of_beq_f c_36
  have hz6 := upBit6_t (by assumption)
  refine go 2 [] [43, 42, 0, 1] hs .n ?_; clear hs w a; intro a w hs
  refine st_call hs (.c rfl (.c rfl .n)) Tryz.call71 (.c .z .n) (ruint_ok (65535#64) g _ _ bs (((upS bs (rByte bs R).1 (rByte bs R).2 6))) _ (hs.mem.rd1 hb (.c .z .n)) (hs.mem.del .z) (by omega)) rfl ?_; clear hs w a; rintro _ _ a w ⟨rfl, rfl⟩ hs; simp only [List.cons_append, List.nil_append] at hs
  have hk37 := rUint_le (X := 65535#64) (bs := bs) (R := ((upS bs (rByte bs R).1 (rByte bs R).2 6))) (by omega)
  refine st_cv_u64_u16 (X := (rUint bs (65535#64) (((upS bs (rByte bs R).1 (rByte bs R).2 6)))).1) hs rfl rfl Tryz.underlying129 Tryz.underlying70 rfl ?_; clear hs w a; intro a w hs
  refine goFL 12 8 [0, 0] [52, 0] hs (.c (.s .z) .n) ⟨rfl, rfl, ?_⟩; clear hs w a; intro a w hs
  have hsw := sw16 (X := (rUint bs 65535#64 (upS bs (rByte bs R).1 (rByte bs R).2 6)).1) (by have : (65535#64).toNat = 65535 := rfl; omega)
  refine go 0 [] [52, 0] hs .n ?_; clear hs w a; intro a w hs
  refine ifG hs rfl (fun c_38 => ?_) (fun c_38 => ?_)
  ·
   replace c_38 := eq_of_beq c_38
   refine go 1 [] [53] hs .n ?_; clear hs w a; intro a w hs
   refine st_call hs (.c rfl (.c rfl .n)) Tryz.call74 (.c (.s .z) .n) (rfail_ok 7 g _ _ bs (((rUint bs (65535#64) (((upS bs (rByte bs R).1 (rByte bs R).2 6)))).2)) _ (hs.mem.rd1 hb (.c (.s .z) .n)) (hs.mem.del (.s .z)) (by omega)) rfl ?_; clear hs w a; rintro _ _ a w ⟨rfl, rfl⟩ hs; simp only [List.cons_append, List.nil_append] at hs
   have hk39 := rFail_le (e := 7) (bs := bs) (R := ((rUint bs (65535#64) (((upS bs (rByte bs R).1 (rByte bs R).2 6)))).2)) (by omega)
   refine goL 0 [] [] hs .n ?_; clear hs w a; intro a w hs
   exact fin0 hs rfl (by rw [rdSome_ok (by omega) (by first | exact upA_f hz6 | exact upA_z hz6 (by omega) | exact upA_n hz6 (by omega))]; exact ⟨rfl, rfl⟩)
  replace c_38 := ne_of_beq_f c_38
  refine go 0 [] [] hs .n ?_; clear hs w a; intro a w hs
  replace hs := hs.reorder (.c (.s .z) (.c .z .n))
  exact fin0 hs rfl (by rw [rdSome_ok (by omega) (by first | exact upA_f hz6 | exact upA_z hz6 (by omega) | exact upA_n hz6 (by omega))]; exact ⟨rfl, rfl⟩)
 replace c_36 := not_f c_36
 replace c_36 := eq_of_beq c_36
 have hz6 := upBit6_f (by assumption)
 refine go 0 [] [] hs .n ?_; clear hs w a; intro a w hs
 exact fin0 hs rfl (by rw [rdSome_ok (by omega) (by first | exact upA_f hz6 | exact upA_z hz6 (by omega) | exact upA_n hz6 (by omega))]; exact ⟨rfl, rfl⟩)
theorem kinds2_ok (x y : Value) (w0 : World) : Calls Tryz.prog 138 #[x, y] w0 (RetV w0 (.tuple #[])) := by
 refine enterG (F0 := [(0, x), (1, y)]) Tryz.func138 rfl rfl rfl (.c (.c .n)) (Mem.nil _) fun a w hs => ?_
 refine go 0 [] [] hs .n ?_; clear hs w a; intro a w hs
 exact fin0 hs rfl ⟨rfl, rfl⟩
theorem read_ok (g : Nat) (v : Value) (m : Nat) (bs : List Byte) (R : Rs) (last : Int) (w0 : World) (hb : Rd w0 [g] v 1 m (bytesV bs)) (hg : (blk g [v, .int .i64 (((R).p : Nat) : Int), .int .i64 (((R).e : Nat) : Int)] 127).p w0) (hle : R.p ≤ bs.length) (hl : -9223372036854775808 ≤ last ∧ last ≤ 9223372036854775807) : Calls Tryz.prog 75 #[.pointer (some ⟨g, 0, none⟩), .int .i64 last] w0 (Ret w0 [g] fun u N => u = Value.tuple #[.agg #[.int .i64 (((rdRec bs last R).1).k), .int .i64 (((rdRec bs last R).1).id), .int .i64 (((rdRec bs last R).1).p0), .int .i64 (((rdRec bs last R).1).p1), .int .i64 (((rdRec bs last R).1).p2), .int .i64 (((rdRec bs last R).1).v0), .int .i64 (((rdRec bs last R).1).v1), .int .i64 (((rdRec bs last R).1).v2), .int .u16 ((((((rdRec bs last R).1).a).toNat : Nat) : Int))], .int .i64 (((rdRec bs last R).2.1 : Nat) : Int)] ∧ N = [blk g [v, .int .i64 ((((rdRec bs last R).2.2).p : Nat) : Int), .int .i64 ((((rdRec bs last R).2.2).e : Nat) : Int)] 127]) := by
 have hbl : bs.length = m := by have := hb.len; simpa [bytesV] using this
 have hbe : m ≤ maxLen := hb.le
 simp only [maxLen] at hbe
 refine enterG (F0 := [(0, .pointer (some ⟨g, 0, none⟩)), (1, .int .i64 (last))]) Tryz.func75 rfl rfl rfl (.c (.c .n)) (mem_one hg) fun a w hs => ?_
 refine go 9 [] [16, 4, 0, 1] hs .n (fun g1 => ?_); clear hs w a; intro a w hs
 refine st_part (b := decide (last < (-1))) (fun c_2 => ?_) (fun c_2 => ?_)
 ·
  rw [c_2] at hs
  replace c_2 := of_decide_eq_true c_2
  refine go 8 [0] [5, 4] hs (.c .z .n) ⟨rfl, ?_⟩; clear hs w a; intro a w hs
  have hq_ : rdRec bs last R = (recZ, 3, R) := by first | exact rdRec_rng (by omega) | exact rdRec_end (by omega) | exact rdRec_bad (by omega) (by omega) hraw (by omega) | exact rdRec_ok (by omega) (by omega) hraw (by omega)
  exact finC2 hs rfl rfl rfl .z (.z (.c (.c (.c (.c (.c (.c (.c (.c (.c .n)))))))))) Tryz.isAgg78 Tryz.sizeOf78 (.c .z .n) (by rw [hq_]; exact ⟨rfl, rfl⟩)
 rw [c_2] at hs
 replace c_2 := of_decide_eq_false c_2
 refine go 4 [] [13, 4, 0, 1] hs .n ?_; clear hs w a; intro a w hs
 refine ifG hs rfl (fun c_3 => ?_) (fun c_3 => ?_)
 ·
  replace c_3 := of_decide_eq_true c_3
  refine go 3 [0] [5, 4] hs (.c .z .n) ⟨rfl, ?_⟩; clear hs w a; intro a w hs
  have hq_ : rdRec bs last R = (recZ, 3, R) := by first | exact rdRec_rng (by omega) | exact rdRec_end (by omega) | exact rdRec_bad (by omega) (by omega) hraw (by omega) | exact rdRec_ok (by omega) (by omega) hraw (by omega)
  exact finC2 hs rfl rfl rfl .z (.z (.c (.c (.c (.c (.c (.c (.c (.c (.c .n)))))))))) Tryz.isAgg78 Tryz.sizeOf78 (.c .z .n) (by rw [hq_]; exact ⟨rfl, rfl⟩)
 replace c_3 := of_decide_eq_false c_3
 refine go 3 [] [21, 4, 0, 1] hs .n ?_; clear hs w a; intro a w hs
 refine ifG hs rfl (fun c_4 => ?_) (fun c_4 => ?_)
 ·
  replace c_4 := eq_of_beq c_4
  refine go 1 [] [24, 4, 0] hs .n ?_; clear hs w a; intro a w hs
  refine st_call hs (.c rfl (.c rfl .n)) Tryz.call74 (.c (.s .z) .n) (rfail_ok 10 g _ _ bs R _ (hs.mem.rd1 hb (.c (.s .z) .n)) (hs.mem.del (.s .z)) (by omega)) rfl ?_; clear hs w a; rintro _ _ a w ⟨rfl, rfl⟩ hs; simp only [List.cons_append, List.nil_append] at hs
  have hk5 := rFail_le (e := 10) (bs := bs) (R := R) (by omega)
  refine goL 2 [] [27, 26, 4] hs .n ?_; clear hs w a; intro a w hs
  refine st_callP (v := .int .i64 ((((rFail 10 R).e : Nat) : Int))) hs (.c rfl .n) Tryz.call76 (rerr_ok g _ _ bs (rFail 10 R) _ (hs.rd0 hb) (hs.mem.del .z) (by omega)) rfl ?_; clear hs w a; intro a w hs
  refine goL 2 [0] [5, 4] hs (.c (.s .z) .n) ⟨rfl, ?_⟩; clear hs w a; intro a w hs
  have hq_ : rdRec bs last R = (recZ, (rFail 10 R).e, (rFail 10 R)) := by first | exact rdRec_rng (by omega) | exact rdRec_end (by omega) | exact rdRec_bad (by omega) (by omega) hraw (by omega) | exact rdRec_ok (by omega) (by omega) hraw (by omega)
  exact finC2 hs rfl rfl rfl .z (.z (.c (.c (.c (.c (.c (.c (.c (.c (.c .n)))))))))) Tryz.isAgg78 Tryz.sizeOf78 (.c .z .n) (by rw [hq_]; exact ⟨rfl, rfl⟩)
 replace c_4 := ne_of_beq_f c_4
 refine go 5 [0] [6, 4, 0] hs .n ⟨(by omega), fun g6 => ⟨rfl, ?_⟩⟩; clear hs w a; intro a w hs
 have hk8 := rUint_le (X := BitVec.ofInt 64 (65534 - last)) (bs := bs) (R := R) (by omega)
 refine wp_drawS [.p [] [], .x [0] ⟨[], [], [], fun vs7 => vs7 1 = .int .i64 (last + 1), fun vs7 => [], none⟩, .p [] [], .p [] [], .x [3] ⟨[], [], [], fun vs7 => vs7 4 = .int .i64 (last + 1), fun vs7 => [], none⟩, .x [] ⟨[], [], [], fun vs7 => vs7 5 = .int .i64 (65534 - last), fun vs7 => [], none⟩, .x [] ⟨[], [], [], fun vs7 => vs7 6 = .int .u64 ((((BitVec.ofInt 64 (65534 - last)).toNat : Nat) : Int)), fun vs7 => [], none⟩, .x [2] ⟨[blk g [v, .int .i64 (((R.p : Nat) : Int)), .int .i64 (((R.e : Nat) : Int))] 127], [], [], fun vs7 => vs7 7 = .int .u64 (((((rUint bs (BitVec.ofInt 64 (65534 - last)) R).1).toNat : Nat) : Int)), fun vs7 => [blk g [v, .int .i64 (((((rUint bs (BitVec.ofInt 64 (65534 - last)) R).2).p : Nat) : Int)), .int .i64 (((((rUint bs (BitVec.ofInt 64 (65534 - last)) R).2).e : Nat) : Int))] 127], none⟩, .x [] ⟨[], [], [], fun vs7 => vs7 8 = .int .i64 ((((rUint bs (BitVec.ofInt 64 (65534 - last)) R).1.toNat : Nat) : Int)), fun vs7 => [], none⟩, .x [] ⟨[], [], [], fun vs7 => vs7 9 = .int .i64 ((last + 1) + ((((rUint bs (BitVec.ofInt 64 (65534 - last)) R).1.toNat : Nat) : Int))), fun vs7 => [], none⟩, .p [] [], .x [10] ⟨[blk g6 [.int .i64 (0), .int .i64 (last + 1), .int .i64 (0), .int .i64 (0), .int .i64 (0), .int .i64 (0), .int .i64 (0), .int .i64 (0), .int .u16 (0)] 78], [], [], fun vs7 => True, fun vs7 => [blk g6 [.int .i64 (0), .int .i64 ((last + 1) + ((((rUint bs (BitVec.ofInt 64 (65534 - last)) R).1.toNat : Nat) : Int))), .int .i64 (0), .int .i64 (0), .int .i64 (0), .int .i64 (0), .int .i64 (0), .int .i64 (0), .int .u16 (0)] 78], none⟩] [] hs (.c (.s (.s .z)) (.c .z .n)) .n (by kernel_rfl) ⟨⟨rfl, by kernel_rfl, fun _ => rfl⟩, ⟨?_, ?_, ?_, ?_, ?_, ?_, ?_, ?_, trivial⟩, ?_⟩
 ·
  intro a_ w_ R_ rest_ vs7 hm hs ht hx
  have hs0 := hs.bare
  refine st_ldE hs rfl (hm.own (List.mem_append.2 (.inr ((hx 11 (twB_spec 12 _ (by kernel_rfl))).1 _ (List.Mem.head _))))) (.s .z) Tryz.isAgg3 rfl ?_; clear hs; intro a w hs
  exact wpList_nil ⟨rfl, _, _, hs0, (.c .r), hs, rfl⟩
 ·
  intro a_ w_ R_ rest_ vs7 hm hs ht hx
  have hs0 := hs.bare
  refine st_ldE hs rfl (hm.own (List.mem_append.2 (.inr ((hx 11 (twB_spec 12 _ (by kernel_rfl))).1 _ (List.Mem.head _))))) (.s .z) Tryz.isAgg3 rfl ?_; clear hs; intro a w hs
  exact wpList_nil ⟨rfl, _, _, hs0, (.c .r), hs, rfl⟩
 ·
  intro a_ w_ R_ rest_ vs7 hm hs ht hx
  have t4 := ht 4 (twB_spec 12 _ (by kernel_rfl))
  have e4 : _ = some (vs7 4) := t4.val rfl
  rw [show vs7 4 = .int .i64 (last + 1) from t4.2.1] at e4
  replace hs := hs.learn e4
  have hs0 := hs.bare
  refine st_subR hs rfl rfl (by omega) rfl ?_; clear hs; intro a w hs
  replace hs := hs.recell (v' := .int .i64 (65534 - last)) (Option.some.inj (congrArg (fun z => some (Value.int .i64 z)) (show 65535 - (last + 1) = 65534 - last by omega)))
  exact wpList_nil ⟨rfl, _, _, hs0, (.c .r), hs, rfl⟩
 ·
  intro a_ w_ R_ rest_ vs7 hm hs ht hx
  have t5 := ht 5 (twB_spec 12 _ (by kernel_rfl))
  have e5 : _ = some (vs7 5) := t5.val rfl
  rw [show vs7 5 = .int .i64 (65534 - last) from t5.2.1] at e5
  replace hs := hs.learn e5
  have hs0 := hs.bare
  refine st_cv_u64 hs rfl Tryz.underlying3 Tryz.underlying129 rfl ?_; clear hs; intro a w hs
  exact wpList_nil ⟨rfl, _, _, hs0, (.c .r), hs, rfl⟩
 ·
  intro a_ w_ R_ rest_ vs7 hm hs ht hx
  have t6 := ht 6 (twB_spec 12 _ (by kernel_rfl))
  have e6 : _ = some (vs7 6) := t6.val rfl
  rw [show vs7 6 = .int .u64 ((((BitVec.ofInt 64 (65534 - last)).toNat : Nat) : Int)) from t6.2.1] at e6
  replace hs := hs.learn e6
  have hs0 := hs.bare
  refine st_call hs (.c rfl (.c rfl .n)) Tryz.call71 (.c .z .n) (ruint_ok (BitVec.ofInt 64 (65534 - last)) g _ _ bs R _ (hm.rd1 hb (Dels.app _ _)) (hs.mem.del .z) (by omega)) rfl ?_; clear hs; rintro _ _ a w ⟨rfl, rfl⟩ hs; simp only [List.cons_append, List.nil_append] at hs
  have hk8 := rUint_le (X := BitVec.ofInt 64 (65534 - last)) (bs := bs) (R := R) (by omega)
  exact wpList_nil ⟨rfl, _, _, hs0, (.c (.c .r)), hs, rfl⟩
 ·
  intro a_ w_ R_ rest_ vs7 hm hs ht hx
  have t7 := ht 7 (twB_spec 12 _ (by kernel_rfl))
  have e7 : _ = some (vs7 7) := t7.val rfl
  rw [show vs7 7 = .int .u64 (((((rUint bs (BitVec.ofInt 64 (65534 - last)) R).1).toNat : Nat) : Int)) from t7.2.1] at e7
  replace hs := hs.learn e7
  have hs0 := hs.bare
  refine st_cv_u64_i64 (X := (rUint bs (BitVec.ofInt 64 (65534 - last)) R).1) hs rfl rfl Tryz.underlying129 Tryz.underlying3 rfl ?_; clear hs; intro a w hs
  replace hs := hs.recell (v' := .int .i64 ((((rUint bs (BitVec.ofInt 64 (65534 - last)) R).1.toNat : Nat) : Int))) (Option.some.inj (congrArg (fun z => some (Value.int .i64 z)) (toInt_id (bs := bs) (R := R) (by omega) (by omega) (by omega))))
  exact wpList_nil ⟨rfl, _, _, hs0, (.c .r), hs, rfl⟩
 ·
  intro a_ w_ R_ rest_ vs7 hm hs ht hx
  have t1 := ht 1 (twB_spec 12 _ (by kernel_rfl))
  have e1 : _ = some (vs7 1) := t1.val rfl
  rw [show vs7 1 = .int .i64 (last + 1) from t1.2.1] at e1
  replace hs := hs.learn e1
  have t8 := ht 8 (twB_spec 12 _ (by kernel_rfl))
  have e8 : _ = some (vs7 8) := t8.val rfl
  rw [show vs7 8 = .int .i64 ((((rUint bs (BitVec.ofInt 64 (65534 - last)) R).1.toNat : Nat) : Int)) from t8.2.1] at e8
  replace hs := hs.learn e8
  have hs0 := hs.bare
  refine st_addR hs rfl rfl (by have := rId_le (bs := bs) (last := last) (R := R) (by omega) (by omega) (by omega); omega) rfl ?_; clear hs; intro a w hs
  exact wpList_nil ⟨rfl, _, _, hs0, (.c (.c .r)), hs, rfl⟩
 ·
  intro a_ w_ R_ rest_ vs7 hm hs ht hx
  have t9 := ht 9 (twB_spec 12 _ (by kernel_rfl))
  have e9 : _ = some (vs7 9) := t9.val rfl
  rw [show vs7 9 = .int .i64 ((last + 1) + ((((rUint bs (BitVec.ofInt 64 (65534 - last)) R).1.toNat : Nat) : Int))) from t9.2.1] at e9
  replace hs := hs.learn e9
  have hs0 := hs.bare
  refine st_stB hs rfl rfl .z (.s .z) rfl Tryz.sizeOf3 ?_; clear hs; intro a w hs
  exact wpList_nil ⟨rfl, .tuple #[], _, hs0, (.c (.c .r)), hs, trivial⟩
 clear hs w a; intro vs7 a w hs hf
 clear hf
 refine goE 1 [] [43, 6, 4, 0] hs .n ?_; clear hs w a; intro a w hs
 refine st_call hs (.c rfl .n) Tryz.call95 (.c (.s .z) .n) (rbyte_ok  g _ _ bs (((rUint bs (BitVec.ofInt 64 (65534 - last)) R).2)) _ (hs.mem.rd1 hb (.c (.s .z) .n)) (hs.mem.del (.s .z)) (by omega)) rfl ?_; clear hs w a; rintro _ _ a w ⟨rfl, rfl⟩ hs; simp only [List.cons_append, List.nil_append] at hs
 have hk9 := rByte_le (bs := bs) (R := ((rUint bs (BitVec.ofInt 64 (65534 - last)) R).2)) (by omega)
 refine st_cv_i64 hs rfl (bvr ((rByte bs (((rUint bs (BitVec.ofInt 64 (65534 - last)) R).2))).1)) Tryz.underlying5 Tryz.underlying3 rfl ?_; clear hs w a; intro a w hs
 refine goL 2 [0] [6, 4, 0] hs (.c (.s (.s .z)) .n) ⟨rfl, ?_⟩; clear hs w a; intro a w hs
 refine st_callP (v := .agg #[.func (.func 139) #[] #[], .func (.func 140) #[] #[], .func (.func 141) #[] #[], .func (.func 142) #[] #[], .func (.func 137) #[] #[], .func (.func 138) #[] #[], .func (.func 139) #[] #[], .func (.func 140) #[] #[]]) hs .n Tryz.call94 (kinds_ok _) rfl ?_; clear hs w a; intro a w hs
 refine goFL 11 5 [0, 1] [50, 7, 6, 4, 0] hs (.c .z .n) (fun g10 => ⟨rfl, rfl, ?_⟩); clear hs w a; intro a w hs
 refine cutG (fun a w => ∃ rr : RecR, ∃ RR : Rs, St 67 [(0, .pointer (some ⟨g, 0, none⟩)), (4, .pointer (some ⟨g1, 0, none⟩)), (6, .pointer (some ⟨g6, 0, none⟩))] w0 [g] [blk g [v, .int .i64 (((RR.p : Nat) : Int)), .int .i64 (((RR.e : Nat) : Int))] 127, blk g6 [.int .i64 (rr.k), .int .i64 (rr.id), .int .i64 (rr.p0), .int .i64 (rr.p1), .int .i64 (rr.p2), .int .i64 (rr.v0), .int .i64 (rr.v1), .int .i64 (rr.v2), .int .u16 ((((rr.a).toNat : Nat) : Int))] 78, blk g1 [.int .i64 (0), .int .i64 (0), .int .i64 (0), .int .i64 (0), .int .i64 (0), .int .i64 (0), .int .i64 (0), .int .i64 (0), .int .u16 (0)] 78] a w ∧ rdRaw bs last R = (rr, RR) ∧ RR.p ≤ bs.length) ?_ ?_
 ·
  refine ifG hs rfl (fun c_11 => ?_) (fun c_11 => ?_)
  ·
   replace c_11 := of_decide_eq_true c_11
   rcases (show (((rByte bs (rUint bs (BitVec.ofInt 64 (65534 - last)) R).2).1.toNat : Nat) : Int) = 0 ∨ (((rByte bs (rUint bs (BitVec.ofInt 64 (65534 - last)) R).2).1.toNat : Nat) : Int) = 1 ∨ (((rByte bs (rUint bs (BitVec.ofInt 64 (65534 - last)) R).2).1.toNat : Nat) : Int) = 2 ∨ (((rByte bs (rUint bs (BitVec.ofInt 64 (65534 - last)) R).2).1.toNat : Nat) : Int) = 3 from by omega) with hk12 | hk12 | hk12 | hk12
   ·
    refine go 2 [0] [52, 7, 6, 4, 0] hs (.c (.s .z) .n) ⟨rfl, ?_⟩; clear hs w a; intro a w hs
    replace hs := hs.recell (v' := .int .i64 (0)) (Option.some.inj (congrArg (fun z => some (Value.int .i64 z)) hk12))
    refine go 4 [0] [56, 55, 6, 4, 0] hs (.c (.s .z) .n) ⟨rfl, ?_⟩; clear hs w a; intro a w hs
    refine st_callV (us := []) hs rfl (.c rfl (.c rfl .n)) rfl Tryz.call140 (.c (.s (.s .z)) (.c (.s .z) .n)) (readAll_ok g g6 _ _ bs (((rByte bs (((rUint bs (BitVec.ofInt 64 (65534 - last)) R).2))).2)) (((((rByte bs (((rUint bs (BitVec.ofInt 64 (65534 - last)) R).2))).1).toNat : Nat) : Int)) ((last + 1) + ((((rUint bs (BitVec.ofInt 64 (65534 - last)) R).1.toNat : Nat) : Int))) _ (hs.mem.rd1 hb (.c (.s (.s .z)) (.c (.s .z) .n))) (hs.mem.del (.s (.s .z))) (hs.mem.del (.s .z)) (by omega)) rfl ?_; clear hs w a; rintro _ _ a w ⟨rfl, rfl⟩ hs; simp only [List.cons_append, List.nil_append] at hs
    have hk13 := rdAll_le (bs := bs) (k := ((((rByte bs (((rUint bs (BitVec.ofInt 64 (65534 - last)) R).2))).1).toNat : Nat) : Int)) (id := (last + 1) + ((((rUint bs (BitVec.ofInt 64 (65534 - last)) R).1.toNat : Nat) : Int))) (R := ((rByte bs (((rUint bs (BitVec.ofInt 64 (65534 - last)) R).2))).2)) (by omega)
    refine goL 0 [] [6, 4, 0] hs .n ?_; clear hs w a; intro a w hs
    replace hs := hs.drop (.c (.s (.s .z)) .n)
    exact ⟨((rdAll bs (((((rByte bs (((rUint bs (BitVec.ofInt 64 (65534 - last)) R).2))).1).toNat : Nat) : Int)) ((last + 1) + ((((rUint bs (BitVec.ofInt 64 (65534 - last)) R).1.toNat : Nat) : Int))) (((rByte bs (((rUint bs (BitVec.ofInt 64 (65534 - last)) R).2))).2))).1), ((rdAll bs (((((rByte bs (((rUint bs (BitVec.ofInt 64 (65534 - last)) R).2))).1).toNat : Nat) : Int)) ((last + 1) + ((((rUint bs (BitVec.ofInt 64 (65534 - last)) R).1.toNat : Nat) : Int))) (((rByte bs (((rUint bs (BitVec.ofInt 64 (65534 - last)) R).2))).2))).2), hs.sub (.c rfl (.c rfl (.c rfl .n))), pair_eq ((rdRaw_eq _ _ _).trans (rdBody_all (by omega))), by omega⟩
   ·
    refine go 2 [0] [52, 7, 6, 4, 0] hs (.c (.s .z) .n) ⟨rfl, ?_⟩; clear hs w a; intro a w hs
    replace hs := hs.recell (v' := .int .i64 (1)) (Option.some.inj (congrArg (fun z => some (Value.int .i64 z)) hk12))
    refine go 4 [0] [56, 55, 6, 4, 0] hs (.c (.s .z) .n) ⟨rfl, ?_⟩; clear hs w a; intro a w hs
    refine st_callV (us := []) hs rfl (.c rfl (.c rfl .n)) rfl Tryz.call142 (.c (.s (.s .z)) (.c (.s .z) .n)) (readSome_ok g g6 _ _ bs (((rByte bs (((rUint bs (BitVec.ofInt 64 (65534 - last)) R).2))).2)) (((((rByte bs (((rUint bs (BitVec.ofInt 64 (65534 - last)) R).2))).1).toNat : Nat) : Int)) ((last + 1) + ((((rUint bs (BitVec.ofInt 64 (65534 - last)) R).1.toNat : Nat) : Int))) _ (hs.mem.rd1 hb (.c (.s (.s .z)) (.c (.s .z) .n))) (hs.mem.del (.s (.s .z))) (hs.mem.del (.s .z)) (by omega)) rfl ?_; clear hs w a; rintro _ _ a w ⟨rfl, rfl⟩ hs; simp only [List.cons_append, List.nil_append] at hs
    have hk14 := rdSome_le (bs := bs) (k := ((((rByte bs (((rUint bs (BitVec.ofInt 64 (65534 - last)) R).2))).1).toNat : Nat) : Int)) (id := (last + 1) + ((((rUint bs (BitVec.ofInt 64 (65534 - last)) R).1.toNat : Nat) : Int))) (R := ((rByte bs (((rUint bs (BitVec.ofInt 64 (65534 - last)) R).2))).2)) (by omega)
    refine goL 0 [] [6, 4, 0] hs .n ?_; clear hs w a; intro a w hs
    replace hs := hs.drop (.c (.s (.s .z)) .n)
    exact ⟨((rdSome bs (((((rByte bs (((rUint bs (BitVec.ofInt 64 (65534 - last)) R).2))).1).toNat : Nat) : Int)) ((last + 1) + ((((rUint bs (BitVec.ofInt 64 (65534 - last)) R).1.toNat : Nat) : Int))) (((rByte bs (((rUint bs (BitVec.ofInt 64 (65534 - last)) R).2))).2))).1), ((rdSome bs (((((rByte bs (((rUint bs (BitVec.ofInt 64 (65534 - last)) R).2))).1).toNat : Nat) : Int)) ((last + 1) + ((((rUint bs (BitVec.ofInt 64 (65534 - last)) R).1.toNat : Nat) : Int))) (((rByte bs (((rUint bs (BitVec.ofInt 64 (65534 - last)) R).2))).2))).2), hs.sub (.c rfl (.c rfl (.c rfl .n))), pair_eq ((rdRaw_eq _ _ _).trans (rdBody_some (by omega))), by omega⟩
   ·
    refine go 2 [0] [52, 7, 6, 4, 0] hs (.c (.s .z) .n) ⟨rfl, ?_⟩; clear hs w a; intro a w hs
    replace hs := hs.recell (v' := .int .i64 (2)) (Option.some.inj (congrArg (fun z => some (Value.int .i64 z)) hk12))
    refine go 4 [0] [56, 55, 6, 4, 0] hs (.c (.s .z) .n) ⟨rfl, ?_⟩; clear hs w a; intro a w hs
    refine st_callPV (us := []) (v := .tuple #[]) hs rfl (.c rfl (.c rfl .n)) rfl Tryz.call138 (kinds2_ok _ _ _) rfl ?_; clear hs w a; intro a w hs
    refine goL 0 [] [6, 4, 0] hs .n ?_; clear hs w a; intro a w hs
    replace hs := hs.drop (.c .z .n)
    replace hs := hs.reorder (.c (.s .z) (.c .z (.c .z .n)))
    exact ⟨(⟨((((rByte bs (((rUint bs (BitVec.ofInt 64 (65534 - last)) R).2))).1).toNat : Nat) : Int), (last + 1) + ((((rUint bs (BitVec.ofInt 64 (65534 - last)) R).1.toNat : Nat) : Int)), 0, 0, 0, 0, 0, 0, 0#16⟩ : RecR), ((rByte bs (((rUint bs (BitVec.ofInt 64 (65534 - last)) R).2))).2), hs.sub (.c rfl (.c rfl (.c rfl .n))), (rdRaw_eq _ _ _).trans (rdBody_none (by omega)), by omega⟩
   refine go 2 [0] [52, 7, 6, 4, 0] hs (.c (.s .z) .n) ⟨rfl, ?_⟩; clear hs w a; intro a w hs
   replace hs := hs.recell (v' := .int .i64 (3)) (Option.some.inj (congrArg (fun z => some (Value.int .i64 z)) hk12))
   refine go 4 [0] [56, 55, 6, 4, 0] hs (.c (.s .z) .n) ⟨rfl, ?_⟩; clear hs w a; intro a w hs
   refine st_callV (us := []) hs rfl (.c rfl (.c rfl .n)) rfl Tryz.call140 (.c (.s (.s .z)) (.c (.s .z) .n)) (readAll_ok g g6 _ _ bs (((rByte bs (((rUint bs (BitVec.ofInt 64 (65534 - last)) R).2))).2)) (((((rByte bs (((rUint bs (BitVec.ofInt 64 (65534 - last)) R).2))).1).toNat : Nat) : Int)) ((last + 1) + ((((rUint bs (BitVec.ofInt 64 (65534 - last)) R).1.toNat : Nat) : Int))) _ (hs.mem.rd1 hb (.c (.s (.s .z)) (.c (.s .z) .n))) (hs.mem.del (.s (.s .z))) (hs.mem.del (.s .z)) (by omega)) rfl ?_; clear hs w a; rintro _ _ a w ⟨rfl, rfl⟩ hs; simp only [List.cons_append, List.nil_append] at hs
   have hk15 := rdAll_le (bs := bs) (k := ((((rByte bs (((rUint bs (BitVec.ofInt 64 (65534 - last)) R).2))).1).toNat : Nat) : Int)) (id := (last + 1) + ((((rUint bs (BitVec.ofInt 64 (65534 - last)) R).1.toNat : Nat) : Int))) (R := ((rByte bs (((rUint bs (BitVec.ofInt 64 (65534 - last)) R).2))).2)) (by omega)
   refine goL 0 [] [6, 4, 0] hs .n ?_; clear hs w a; intro a w hs
   replace hs := hs.drop (.c (.s (.s .z)) .n)
   exact ⟨((rdAll bs (((((rByte bs (((rUint bs (BitVec.ofInt 64 (65534 - last)) R).2))).1).toNat : Nat) : Int)) ((last + 1) + ((((rUint bs (BitVec.ofInt 64 (65534 - last)) R).1.toNat : Nat) : Int))) (((rByte bs (((rUint bs (BitVec.ofInt 64 (65534 - last)) R).2))).2))).1), ((rdAll bs (((((rByte bs (((rUint bs (BitVec.ofInt 64 (65534 - last)) R).2))).1).toNat : Nat) : Int)) ((last + 1) + ((((rUint bs (BitVec.ofInt 64 (65534 - last)) R).1.toNat : Nat) : Int))) (((rByte bs (((rUint bs (BitVec.ofInt 64 (65534 - last)) R).2))).2))).2), hs.sub (.c rfl (.c rfl (.c rfl .n))), pair_eq ((rdRaw_eq _ _ _).trans (rdBody_all (by omega))), by omega⟩
  replace c_11 := of_decide_eq_false c_11
  refine go 1 [] [58, 6, 4, 0] hs .n ?_; clear hs w a; intro a w hs
  refine st_call hs (.c rfl (.c rfl .n)) Tryz.call74 (.c (.s (.s .z)) .n) (rfail_ok 11 g _ _ bs (((rByte bs (((rUint bs (BitVec.ofInt 64 (65534 - last)) R).2))).2)) _ (hs.mem.rd1 hb (.c (.s (.s .z)) .n)) (hs.mem.del (.s (.s .z))) (by omega)) rfl ?_; clear hs w a; rintro _ _ a w ⟨rfl, rfl⟩ hs; simp only [List.cons_append, List.nil_append] at hs
  have hk16 := rFail_le (e := 11) (bs := bs) (R := ((rByte bs (((rUint bs (BitVec.ofInt 64 (65534 - last)) R).2))).2)) (by omega)
  refine goL 0 [] [6, 4, 0] hs .n ?_; clear hs w a; intro a w hs
  replace hs := hs.drop (.c (.s .z) .n)
  exact ⟨(⟨((((rByte bs (((rUint bs (BitVec.ofInt 64 (65534 - last)) R).2))).1).toNat : Nat) : Int), (last + 1) + ((((rUint bs (BitVec.ofInt 64 (65534 - last)) R).1.toNat : Nat) : Int)), 0, 0, 0, 0, 0, 0, 0#16⟩ : RecR), ((rFail 11 (((rByte bs (((rUint bs (BitVec.ofInt 64 (65534 - last)) R).2))).2)))), hs.sub (.c rfl (.c rfl (.c rfl .n))), (rdRaw_eq _ _ _).trans (rdBody_bad (by omega)), by omega⟩
 clear hs w a; rintro a w ⟨rr, RR, hs, hJ17, hJ18⟩
 have hraw := hJ17
 refine go 1 [] [60, 4, 6] hs .n ?_; clear hs w a; intro a w hs
 refine st_callP (v := .int .i64 (((RR.e : Nat) : Int))) hs (.c rfl .n) Tryz.call76 (rerr_ok g _ _ bs RR _ (hs.rd0 hb) (hs.mem.del .z) (by omega)) rfl ?_; clear hs w a; intro a w hs
 refine goL 3 [] [63, 8, 4, 6] hs .n ?_; clear hs w a; intro a w hs
 refine ifG hs rfl (fun c_19 => ?_) (fun c_19 => ?_)
 ·
  replace c_19 := not_t c_19
  replace c_19 := ne_of_beq_f c_19
  refine go 4 [0] [5, 4] hs (.c (.s (.s .z)) .n) ⟨rfl, ?_⟩; clear hs w a; intro a w hs
  have hq_ : rdRec bs last R = (recZ, RR.e, RR) := by first | exact rdRec_rng (by omega) | exact rdRec_end (by omega) | exact rdRec_bad (by omega) (by omega) hraw (by omega) | exact rdRec_ok (by omega) (by omega) hraw (by omega)
  exact finC2 hs rfl rfl rfl .z (.z (.c (.c (.c (.c (.c (.c (.c (.c (.c .n)))))))))) Tryz.isAgg78 Tryz.sizeOf78 (.c (.s (.s .z)) (.c .z .n)) (by rw [hq_]; exact ⟨rfl, rfl⟩)
 replace c_19 := not_f c_19
 replace c_19 := eq_of_beq c_19
 refine go 3 [0, 1] [5, 4] hs (.c (.s .z) (.c (.s .z) .n)) ⟨rfl, rfl, ?_⟩; clear hs w a; intro a w hs
 have hq_ : rdRec bs last R = (rr, 0, RR) := by first | exact rdRec_rng (by omega) | exact rdRec_end (by omega) | exact rdRec_bad (by omega) (by omega) hraw (by omega) | exact rdRec_ok (by omega) (by omega) hraw (by omega)
 exact finC2 hs rfl rfl rfl (.s .z) (.z (.c (.c (.c (.c (.c (.c (.c (.c (.c .n)))))))))) Tryz.isAgg78 Tryz.sizeOf78 (.c (.s .z) (.c .z .n)) (by rw [hq_]; exact ⟨rfl, rfl⟩)
end Go.Proofs.YtbioemaipghagaaGreat
