/- Walks of reader: New, the document's, the example: what each function does, over the program of this seat. Printed by a program of this session. -/
import Derived.Test.YtkobgcoegajfcaaWrd
import Derived.Test.YtkobgcoegajfcaaSxRrd
namespace Go.Proofs.Ytkobgcoegajfcaa
open Go Go.Sx Go.RowKit
set_option linter.unusedVariables false
set_option linter.unusedSimpArgs false
set_option maxRecDepth 4000
set_option maxHeartbeats 1000000

theorem new_ok (v : Value) (m : Nat) (bs : List Byte) (w0 : World) (hb : Rd w0 [] v 1 m (bytesV bs)) : Calls Try.prog 25 #[v] w0 (Ret w0 [] fun u N => ∃ g, u = .pointer (some ⟨g, 0, none⟩) ∧ N = [blk g [v, .int .i64 (((⟨0, 0⟩ : Rs).p : Nat) : Int), .int .i64 (((⟨0, 0⟩ : Rs).e : Nat) : Int)] 100]) := by
  have hbl : bs.length = m := by have := hb.len; simpa [bytesV] using this
  have hbe : m ≤ maxLen := hb.le
  simp only [maxLen] at hbe
  refine enter (F0 := [(0, v)]) Try.func25 rfl rfl rfl (.c .n) (Mem.nil _) fun a w hs => ?_
  refine wp_seq_k fun K1 hK2 => ?_
  refine wp_region_lit ?_
  refine st_as hs rfl rfl ?_; clear hs w a; intro a w hs
  refine wpList_nil ?_
  refine then_n (hK2 _ _ ?_)
  refine wp_seq_k fun K3 hK4 => ?_
  refine wp_region_lit ?_
  refine st_mv hs rfl rfl ?_; clear hs w a; intro a w hs
  refine st_build (it := Try.t100) (zs := [.slice none 0 0, .int .i64 (0), .int .i64 (0)]) (places := [(0, 1), (1, 1), (2, 1)]) hs (.c rfl .n) Try.underlying100 rfl rfl rfl rfl (.c rfl (hs.rd0 hb).isSl.lcells (.z (.c .n)) .n) rfl ?_; clear hs w a; intro a w hs
  refine st_box (cs := [v, .int .i64 (0), .int .i64 (0)]) hs rfl rfl rfl ?_; clear hs w a; intro g5 a w hs
  refine st_as hs rfl rfl ?_; clear hs w a; intro a w hs
  refine wpList_nil ?_
  refine then_n (hK4 _ _ ?_)
  refine wp_ret ?_
  exact fin hs rfl rfl ⟨_, rfl, rfl⟩
theorem mbyte_ok  (g : Nat) (u : Value) (bs : List Byte) (R : Rs) (w0 : World) (hb : Rd w0 [g] u 1 (bs.length - R.p) (bytesV (bs.drop R.p))) (hg : (blk g [u, .int .i64 ((R.p : Nat) : Int), .int .i64 ((R.e : Nat) : Int)] 44).p w0) (hle : R.p ≤ bs.length) (hlm : bs.length ≤ maxLen) : Calls Try.prog 58 #[.pointer (some ⟨g, 0, none⟩)] w0 (Ret w0 [g] fun x N => x = .int .u8 (((rByte bs R).1.toNat : Nat) : Int) ∧ N = [blk g [(uNext u bs.length R.p ((rByte bs R).2).p), .int .i64 ((((rByte bs R).2).p : Nat) : Int), .int .i64 ((((rByte bs R).2).e : Nat) : Int)] 44]) := by
  simp only [maxLen] at hlm
  refine enter (F0 := [(0, .pointer (some ⟨g, 0, none⟩))]) Try.func58 rfl rfl rfl (.c .n) (mem_one hg) fun a w hs => ?_
  refine wp_seq_k fun K1 hK2 => ?_
  refine wp_region_lit ?_
  refine st_as hs rfl rfl ?_; clear hs w a; intro a w hs
  refine wpList_nil ?_
  refine then_n (hK2 _ _ ?_)
  refine wp_seq_k fun K3 hK4 => ?_
  refine wp_seq_k fun K5 hK6 => ?_
  refine wp_region_lit ?_
  refine st_run 5 [(8, .bool (!((((R.e : Nat) : Int) : Int) == 0)))] hs (.c (hs.mem.del .z) .n) (by kernel_rfl) (by kernel_rfl) (by kernel_rfl) ?_; clear hs a; intro a hs
  refine wpList_nil ?_
  refine then_n (hK6 _ _ ?_)
  refine wp_if hs rfl (fun hc7 => ?_) (fun hc7 => ?_)
  ·
   replace hc7 := not_t hc7
   replace hc7 := ne_of_beq_f hc7
   refine wp_seq_k fun K8 hK9 => ?_
   refine wp_region_lit ?_
   refine st_as hs rfl rfl ?_; clear hs w a; intro a w hs
   refine wpList_nil ?_
   refine then_n (hK9 _ _ ?_)
   refine wp_ret ?_
   refine th_r ?_
   exact fin hs rfl rfl (by first | (rw [rByte_err (by omega)]; exact ⟨rfl, by simp only [uNext_same] <;> rfl⟩) | (rw [rByte_short (by omega) (by omega)]; exact ⟨rfl, by simp only [uNext_same] <;> rfl⟩) | (have he0 : R.e = 0 := (by omega); rw [rByte_good he0 (by omega)]; exact ⟨congrArg (fun b : BitVec 8 => Value.int .u8 ((b.toNat : Nat) : Int)) (getD_drop0 (bs := bs) (k := R.p)), by rw [he0, uNext_cut (by omega)]; rfl⟩))
  replace hc7 := not_f hc7
  replace hc7 := eq_of_beq hc7
  refine wp_skip ?_
  refine then_n (hK4 _ _ ?_)
  refine wp_seq_k fun K10 hK11 => ?_
  refine wp_seq_k fun K12 hK13 => ?_
  refine wp_region_lit ?_
  refine st_run 4 [(12, u)] hs (.c (hs.mem.del .z) .n) (by kernel_rfl) (by kernel_rfl) (by kernel_rfl) ?_; clear hs a; intro a hs
  refine st_len hs rfl (hs.rd0 hb).isSl Try.underlying26 rfl ?_; clear hs w a; intro a w hs
  refine st_eql hs rfl rfl rfl ?_; clear hs w a; intro a w hs
  refine wpList_nil ?_
  refine then_n (hK13 _ _ ?_)
  refine wp_if hs rfl (fun hc14 => ?_) (fun hc14 => ?_)
  ·
   replace hc14 := eq_of_beq hc14
   refine wp_seq_k fun K15 hK16 => ?_
   refine wp_region_lit ?_
   refine st_run 3 [(17, .pointer (some ⟨g, 2, none⟩))] hs .n (by kernel_rfl) (by kernel_rfl) (by kernel_rfl) ?_; clear hs a; intro a hs
   refine st_stB hs rfl rfl .z (.s (.s .z)) rfl Try.sizeOf3 ?_; clear hs w a; intro a w hs
   refine wpList_nil ?_
   refine then_n (hK16 _ _ ?_)
   refine wp_seq_k fun K17 hK18 => ?_
   refine wp_region_lit ?_
   refine st_as hs rfl rfl ?_; clear hs w a; intro a w hs
   refine wpList_nil ?_
   refine then_n (hK18 _ _ ?_)
   refine wp_ret ?_
   refine th_r ?_
   exact fin hs rfl rfl (by first | (rw [rByte_err (by omega)]; exact ⟨rfl, by simp only [uNext_same] <;> rfl⟩) | (rw [rByte_short (by omega) (by omega)]; exact ⟨rfl, by simp only [uNext_same] <;> rfl⟩) | (have he0 : R.e = 0 := (by omega); rw [rByte_good he0 (by omega)]; exact ⟨congrArg (fun b : BitVec 8 => Value.int .u8 ((b.toNat : Nat) : Int)) (getD_drop0 (bs := bs) (k := R.p)), by rw [he0, uNext_cut (by omega)]; rfl⟩))
  replace hc14 := ne_of_beq_f hc14
  refine wp_skip ?_
  refine then_n (hK11 _ _ ?_)
  refine wp_seq_k fun K19 hK20 => ?_
  refine wp_region_lit ?_
  refine st_run 4 [(21, u)] hs (.c (hs.mem.del .z) .n) (by kernel_rfl) (by kernel_rfl) (by kernel_rfl) ?_; clear hs a; intro a hs
  refine st_ia1 (j := 0) hs rfl rfl (hs.rd0 hb) (by decide) (by omega) Try.underlying26 Try.sizeOf5 rfl ?_; clear hs w a; intro a w hs
  refine st_ld hs rfl (hs.rd0 hb) (bytesV_getD (bs.drop R.p) (by first | omega | (simp; omega))) Try.isAgg5 rfl ?_; clear hs w a; intro a w hs
  refine st_as hs rfl rfl ?_; clear hs w a; intro a w hs
  refine wpList_nil ?_
  refine then_n (hK20 _ _ ?_)
  refine wp_seq_k fun K21 hK22 => ?_
  refine wp_region_lit ?_
  refine st_run 5 [(28, u), (24, .pointer (some ⟨g, 0, none⟩))] hs (.c (hs.mem.del .z) .n) (by kernel_rfl) (by kernel_rfl) (by kernel_rfl) ?_; clear hs a; intro a hs
  refine st_slcL (j := 1) hs rfl rfl (by decide) (hs.rd0 hb).isSl (by omega) Try.underlying26 Try.sizeOf5 rfl ?_; clear hs w a; intro a w hs
  refine st_run 2 [(31, .pointer (some ⟨g, 0, none⟩))] hs .n (by kernel_rfl) (by kernel_rfl) (by kernel_rfl) ?_; clear hs a; intro a hs
  refine st_stB hs rfl rfl .z .z ((hs.rd0 hb).slcL (l := 1) (by omega)).isSl.one Try.sizeOf26 ?_; clear hs w a; intro a w hs
  refine wpList_nil ?_
  refine then_n (hK22 _ _ ?_)
  refine wp_seq_k fun K23 hK24 => ?_
  refine wp_region_lit ?_
  refine st_run 4 [(35, .int .i64 (((R.p : Nat) : Int))), (32, .pointer (some ⟨g, 0, none⟩))] hs (.c (hs.mem.del .z) .n) (by kernel_rfl) (by kernel_rfl) (by kernel_rfl) ?_; clear hs a; intro a hs
  refine st_addR hs rfl rfl (by omega) rfl ?_; clear hs w a; intro a w hs
  refine st_run 2 [(38, .pointer (some ⟨g, 1, none⟩))] hs .n (by kernel_rfl) (by kernel_rfl) (by kernel_rfl) ?_; clear hs a; intro a hs
  refine st_stB hs rfl rfl .z (.s .z) rfl Try.sizeOf3 ?_; clear hs w a; intro a w hs
  refine wpList_nil ?_
  refine then_n (hK24 _ _ ?_)
  refine wp_seq_k fun K25 hK26 => ?_
  refine wp_region_lit ?_
  refine st_run 2 [(2, .int .u8 (((((bs.drop R.p).getD 0 0).toNat : Nat) : Int)))] hs .n (by kernel_rfl) (by kernel_rfl) (by kernel_rfl) ?_; clear hs a; intro a hs
  refine wpList_nil ?_
  refine then_n (hK26 _ _ ?_)
  refine wp_ret ?_
  exact fin hs rfl rfl (by first | (rw [rByte_err (by omega)]; exact ⟨rfl, by simp only [uNext_same] <;> rfl⟩) | (rw [rByte_short (by omega) (by omega)]; exact ⟨rfl, by simp only [uNext_same] <;> rfl⟩) | (have he0 : R.e = 0 := (by omega); rw [rByte_good he0 (by omega)]; exact ⟨congrArg (fun b : BitVec 8 => Value.int .u8 ((b.toNat : Nat) : Int)) (getD_drop0 (bs := bs) (k := R.p)), by rw [he0, uNext_cut (by omega)]; rfl⟩))
theorem muint_ok (X : BitVec 64) (g : Nat) (u : Value) (bs : List Byte) (R : Rs) (w0 : World) (hb : Rd w0 [g] u 1 (bs.length - R.p) (bytesV (bs.drop R.p))) (hg : (blk g [u, .int .i64 ((R.p : Nat) : Int), .int .i64 ((R.e : Nat) : Int)] 44).p w0) (hle : R.p ≤ bs.length) (hlm : bs.length ≤ maxLen) : Calls Try.prog 57 #[.pointer (some ⟨g, 0, none⟩), .int .u64 (X.toNat : Int)] w0 (Ret w0 [g] fun x N => x = .int .u64 (((rUint bs X R).1.toNat : Nat) : Int) ∧ N = [blk g [(uNext u bs.length R.p ((rUint bs X R).2).p), .int .i64 ((((rUint bs X R).2).p : Nat) : Int), .int .i64 ((((rUint bs X R).2).e : Nat) : Int)] 44]) := by
  simp only [maxLen] at hlm
  refine enter (F0 := [(0, .pointer (some ⟨g, 0, none⟩)), (1, .int .u64 ((((X).toNat : Nat) : Int)))]) Try.func57 rfl rfl rfl (.c (.c .n)) (mem_one hg) fun a w hs => ?_
  refine wp_seq_k fun K1 hK2 => ?_
  refine wp_region_lit ?_
  refine st_as hs rfl rfl ?_; clear hs w a; intro a w hs
  refine wpList_nil ?_
  refine then_n (hK2 _ _ ?_)
  refine wp_seq_k fun K3 hK4 => ?_
  refine wp_seq_k fun K5 hK6 => ?_
  refine wp_region_lit ?_
  refine st_run 5 [(12, .bool (!((((R.e : Nat) : Int) : Int) == 0)))] hs (.c (hs.mem.del .z) .n) (by kernel_rfl) (by kernel_rfl) (by kernel_rfl) ?_; clear hs a; intro a hs
  refine wpList_nil ?_
  refine then_n (hK6 _ _ ?_)
  refine wp_if hs rfl (fun hc7 => ?_) (fun hc7 => ?_)
  ·
   replace hc7 := not_t hc7
   replace hc7 := ne_of_beq_f hc7
   refine wp_seq_k fun K8 hK9 => ?_
   refine wp_region_lit ?_
   refine st_as hs rfl rfl ?_; clear hs w a; intro a w hs
   refine wpList_nil ?_
   refine then_n (hK9 _ _ ?_)
   refine wp_ret ?_
   refine th_r ?_
   exact fin hs rfl rfl (by first | (exfalso; omega) | (rw [rUint_err (by omega)]; exact ⟨rfl, by simp only [uNext_same] <;> rfl⟩) | (rw [rUint_short (by omega) (len_of_five (by omega))]; exact ⟨rfl, by simp only [uNext_same] <;> rfl⟩) | (rw [rUint_bad3 (by omega) (by omega) (by omega)]; exact ⟨rfl, by simp only [uNext_same] <;> rfl⟩) | (rw [rUint_bade (by omega) (by omega) (by omega)]; exact ⟨rfl, by simp only [uNext_same] <;> rfl⟩) | (have he0 : R.e = 0 := (by omega); rw [rUint_fine he0 (by omega) (by omega)]; exact ⟨rfl, by rw [he0, uNext_cut (fine_pos (by omega))]; rfl⟩))
  replace hc7 := not_f hc7
  replace hc7 := eq_of_beq hc7
  refine wp_skip ?_
  refine then_n (hK4 _ _ ?_)
  refine wp_seq_k fun K10 hK11 => ?_
  refine wp_region_lit ?_
  refine st_run 4 [(17, u)] hs (.c (hs.mem.del .z) .n) (by kernel_rfl) (by kernel_rfl) (by kernel_rfl) ?_; clear hs a; intro a hs
  refine st_callP (v := .tuple #[.int .u64 (((((vget (bs.drop R.p)).1).toNat : Nat) : Int)), .int .i64 ((((vget (bs.drop R.p)).2.1 : Nat) : Int)), .int .i64 ((((vget (bs.drop R.p)).2.2 : Nat) : Int))]) hs (.c rfl .n) Try.call87 (rget_ok _ _ (bs.drop R.p) _ (hs.rd0 hb)) rfl ?_; clear hs w a; intro a w hs
  refine st_run 7 [(7, .int .i64 ((((vget (bs.drop R.p)).2.2 : Nat) : Int))), (6, .int .i64 ((((vget (bs.drop R.p)).2.1 : Nat) : Int))), (5, .int .u64 (((((vget (bs.drop R.p)).1).toNat : Nat) : Int)))] hs .n (by kernel_rfl) (by kernel_rfl) (by kernel_rfl) ?_; clear hs a; intro a hs
  refine wpList_nil ?_
  refine then_n (hK11 _ _ ?_)
  refine wp_seq_k fun K12 hK13 => ?_
  refine wp_seq_k fun K14 hK15 => ?_
  refine wp_region_lit ?_
  refine st_run 2 [(23, .bool (((((vget (bs.drop R.p)).2.2 : Nat) : Int) : Int) == 5))] hs .n (by kernel_rfl) (by kernel_rfl) (by kernel_rfl) ?_; clear hs a; intro a hs
  refine wpList_nil ?_
  refine then_n (hK15 _ _ ?_)
  refine wp_if hs rfl (fun hc16 => ?_) (fun hc16 => ?_)
  ·
   replace hc16 := eq_of_beq hc16
   refine wp_region_lit ?_
   refine st_as hs rfl rfl ?_; clear hs w a; intro a w hs
   refine wpList_nil ?_
   refine then_n (hK13 _ _ ?_)
   refine wp_seq_k fun K17 hK18 => ?_
   refine wp_seq_k fun K19 hK20 => ?_
   refine wp_region_lit ?_
   refine st_run 7 [(30, .bool (false))] hs .n (by kernel_rfl) (by kernel_rfl) (by kernel_rfl) ?_; clear hs a; intro a hs
   refine wpList_nil ?_
   refine then_n (hK20 _ _ ?_)
   refine wp_cond_false (hs.ev rfl) ?_
   refine wp_skip ?_
   refine then_n (hK18 _ _ ?_)
   refine wp_seq_k fun K21 hK22 => ?_
   refine wp_seq_k fun K23 hK24 => ?_
   refine wp_region_lit ?_
   refine st_run 2 [(32, .bool (true))] hs .n (by kernel_rfl) (by kernel_rfl) (by kernel_rfl) ?_; clear hs a; intro a hs
   refine wpList_nil ?_
   refine then_n (hK24 _ _ ?_)
   refine wp_cond_true (hs.ev rfl) ?_
   refine wp_seq_k fun K25 hK26 => ?_
   refine wp_region_lit ?_
   refine st_run 4 [(36, .pointer (some ⟨g, 2, none⟩)), (34, .int .i64 (6))] hs .n (by kernel_rfl) (by kernel_rfl) (by kernel_rfl) ?_; clear hs a; intro a hs
   refine st_stB hs rfl rfl .z (.s (.s .z)) rfl Try.sizeOf3 ?_; clear hs w a; intro a w hs
   refine wpList_nil ?_
   refine then_n (hK26 _ _ ?_)
   refine wp_seq_k fun K27 hK28 => ?_
   refine wp_region_lit ?_
   refine st_as hs rfl rfl ?_; clear hs w a; intro a w hs
   refine wpList_nil ?_
   refine then_n (hK28 _ _ ?_)
   refine wp_ret ?_
   refine th_r ?_
   exact fin hs rfl rfl (by first | (exfalso; omega) | (rw [rUint_err (by omega)]; exact ⟨rfl, by simp only [uNext_same] <;> rfl⟩) | (rw [rUint_short (by omega) (len_of_five (by omega))]; exact ⟨rfl, by simp only [uNext_same] <;> rfl⟩) | (rw [rUint_bad3 (by omega) (by omega) (by omega)]; exact ⟨rfl, by simp only [uNext_same] <;> rfl⟩) | (rw [rUint_bade (by omega) (by omega) (by omega)]; exact ⟨rfl, by simp only [uNext_same] <;> rfl⟩) | (have he0 : R.e = 0 := (by omega); rw [rUint_fine he0 (by omega) (by omega)]; exact ⟨rfl, by rw [he0, uNext_cut (fine_pos (by omega))]; rfl⟩))
  replace hc16 := ne_of_beq_f hc16
  refine wp_skip ?_
  refine then_n (hK13 _ _ ?_)
  refine wp_seq_k fun K29 hK30 => ?_
  refine wp_seq_k fun K31 hK32 => ?_
  refine wp_region_lit ?_
  refine st_run 3 [(26, .bool (((((vget (bs.drop R.p)).2.2 : Nat) : Int) : Int) == 0))] hs .n (by kernel_rfl) (by kernel_rfl) (by kernel_rfl) ?_; clear hs a; intro a hs
  refine st_part (b := ((((vget (bs.drop R.p)).2.2 : Nat) : Int) : Int) == 0) (fun hc33 => ?_) (fun hc33 => ?_)
  ·
   rw [hc33] at hs
   replace hc33 := eq_of_beq hc33
   refine st_run 4 [(30, .bool (decide (((((X).toNat : Nat) : Int)) < (((((vget (bs.drop R.p)).1).toNat : Nat) : Int)))))] hs .n (by kernel_rfl) (by kernel_rfl) (by kernel_rfl) ?_; clear hs a; intro a hs
   refine wpList_nil ?_
   refine then_n (hK32 _ _ ?_)
   refine wp_if hs rfl (fun hc34 => ?_) (fun hc34 => ?_)
   ·
    replace hc34 := of_decide_eq_true hc34
    refine wp_region_lit ?_
    refine st_as hs rfl rfl ?_; clear hs w a; intro a w hs
    refine wpList_nil ?_
    refine then_n (hK30 _ _ ?_)
    refine wp_seq_k fun K35 hK36 => ?_
    refine wp_seq_k fun K37 hK38 => ?_
    refine wp_region_lit ?_
    refine st_run 2 [(32, .bool (true))] hs .n (by kernel_rfl) (by kernel_rfl) (by kernel_rfl) ?_; clear hs a; intro a hs
    refine wpList_nil ?_
    refine then_n (hK38 _ _ ?_)
    refine wp_cond_true (hs.ev rfl) ?_
    refine wp_seq_k fun K39 hK40 => ?_
    refine wp_region_lit ?_
    refine st_run 4 [(36, .pointer (some ⟨g, 2, none⟩)), (34, .int .i64 (3))] hs .n (by kernel_rfl) (by kernel_rfl) (by kernel_rfl) ?_; clear hs a; intro a hs
    refine st_stB hs rfl rfl .z (.s (.s .z)) rfl Try.sizeOf3 ?_; clear hs w a; intro a w hs
    refine wpList_nil ?_
    refine then_n (hK40 _ _ ?_)
    refine wp_seq_k fun K41 hK42 => ?_
    refine wp_region_lit ?_
    refine st_as hs rfl rfl ?_; clear hs w a; intro a w hs
    refine wpList_nil ?_
    refine then_n (hK42 _ _ ?_)
    refine wp_ret ?_
    refine th_r ?_
    exact fin hs rfl rfl (by first | (exfalso; omega) | (rw [rUint_err (by omega)]; exact ⟨rfl, by simp only [uNext_same] <;> rfl⟩) | (rw [rUint_short (by omega) (len_of_five (by omega))]; exact ⟨rfl, by simp only [uNext_same] <;> rfl⟩) | (rw [rUint_bad3 (by omega) (by omega) (by omega)]; exact ⟨rfl, by simp only [uNext_same] <;> rfl⟩) | (rw [rUint_bade (by omega) (by omega) (by omega)]; exact ⟨rfl, by simp only [uNext_same] <;> rfl⟩) | (have he0 : R.e = 0 := (by omega); rw [rUint_fine he0 (by omega) (by omega)]; exact ⟨rfl, by rw [he0, uNext_cut (fine_pos (by omega))]; rfl⟩))
   replace hc34 := of_decide_eq_false hc34
   refine wp_skip ?_
   refine then_n (hK30 _ _ ?_)
   refine wp_seq_k fun K43 hK44 => ?_
   refine wp_seq_k fun K45 hK46 => ?_
   refine wp_region_lit ?_
   refine st_run 2 [(32, .bool (!(((((vget (bs.drop R.p)).2.2 : Nat) : Int) : Int) == 0)))] hs .n (by kernel_rfl) (by kernel_rfl) (by kernel_rfl) ?_; clear hs a; intro a hs
   refine wpList_nil ?_
   refine then_n (hK46 _ _ ?_)
   refine wp_if hs rfl (fun hc47 => ?_) (fun hc47 => ?_)
   ·
    replace hc47 := not_t hc47
    replace hc47 := ne_of_beq_f hc47
    refine wp_seq_k fun K48 hK49 => ?_
    refine wp_region_lit ?_
    refine st_run 4 [(36, .pointer (some ⟨g, 2, none⟩)), (34, .int .i64 ((((vget (bs.drop R.p)).2.2 : Nat) : Int)))] hs .n (by kernel_rfl) (by kernel_rfl) (by kernel_rfl) ?_; clear hs a; intro a hs
    refine st_stB hs rfl rfl .z (.s (.s .z)) rfl Try.sizeOf3 ?_; clear hs w a; intro a w hs
    refine wpList_nil ?_
    refine then_n (hK49 _ _ ?_)
    refine wp_seq_k fun K50 hK51 => ?_
    refine wp_region_lit ?_
    refine st_as hs rfl rfl ?_; clear hs w a; intro a w hs
    refine wpList_nil ?_
    refine then_n (hK51 _ _ ?_)
    refine wp_ret ?_
    refine th_r ?_
    exact fin hs rfl rfl (by first | (exfalso; omega) | (rw [rUint_err (by omega)]; exact ⟨rfl, by simp only [uNext_same] <;> rfl⟩) | (rw [rUint_short (by omega) (len_of_five (by omega))]; exact ⟨rfl, by simp only [uNext_same] <;> rfl⟩) | (rw [rUint_bad3 (by omega) (by omega) (by omega)]; exact ⟨rfl, by simp only [uNext_same] <;> rfl⟩) | (rw [rUint_bade (by omega) (by omega) (by omega)]; exact ⟨rfl, by simp only [uNext_same] <;> rfl⟩) | (have he0 : R.e = 0 := (by omega); rw [rUint_fine he0 (by omega) (by omega)]; exact ⟨rfl, by rw [he0, uNext_cut (fine_pos (by omega))]; rfl⟩))
   replace hc47 := not_f hc47
   replace hc47 := eq_of_beq hc47
   have hfl := fine_le (bs := bs) (k := R.p) (by omega)
   refine wp_skip ?_
   refine then_n (hK44 _ _ ?_)
   refine wp_seq_k fun K52 hK53 => ?_
   refine wp_region_lit ?_
   refine st_run 6 [(42, .int .i64 ((((vget (bs.drop R.p)).2.1 : Nat) : Int))), (41, u), (37, .pointer (some ⟨g, 0, none⟩))] hs (.c (hs.mem.del .z) .n) (by kernel_rfl) (by kernel_rfl) (by kernel_rfl) ?_; clear hs a; intro a hs
   refine st_slcL (j := (vget (bs.drop R.p)).2.1) hs rfl rfl rfl (hs.rd0 hb).isSl (by omega) Try.underlying26 Try.sizeOf5 rfl ?_; clear hs w a; intro a w hs
   refine st_run 2 [(45, .pointer (some ⟨g, 0, none⟩))] hs .n (by kernel_rfl) (by kernel_rfl) (by kernel_rfl) ?_; clear hs a; intro a hs
   refine st_stB hs rfl rfl .z .z ((hs.rd0 hb).slcL (l := ((vget (bs.drop R.p)).2.1)) (by omega)).isSl.one Try.sizeOf26 ?_; clear hs w a; intro a w hs
   refine wpList_nil ?_
   refine then_n (hK53 _ _ ?_)
   refine wp_seq_k fun K54 hK55 => ?_
   refine wp_region_lit ?_
   refine st_run 5 [(50, .int .i64 ((((vget (bs.drop R.p)).2.1 : Nat) : Int))), (49, .int .i64 (((R.p : Nat) : Int))), (46, .pointer (some ⟨g, 0, none⟩))] hs (.c (hs.mem.del .z) .n) (by kernel_rfl) (by kernel_rfl) (by kernel_rfl) ?_; clear hs a; intro a hs
   refine st_addR hs rfl rfl (by omega) rfl ?_; clear hs w a; intro a w hs
   refine st_run 2 [(53, .pointer (some ⟨g, 1, none⟩))] hs .n (by kernel_rfl) (by kernel_rfl) (by kernel_rfl) ?_; clear hs a; intro a hs
   refine st_stB hs rfl rfl .z (.s .z) rfl Try.sizeOf3 ?_; clear hs w a; intro a w hs
   refine wpList_nil ?_
   refine then_n (hK55 _ _ ?_)
   refine wp_seq_k fun K56 hK57 => ?_
   refine wp_region_lit ?_
   refine st_run 2 [(4, .int .u64 (((((vget (bs.drop R.p)).1).toNat : Nat) : Int)))] hs .n (by kernel_rfl) (by kernel_rfl) (by kernel_rfl) ?_; clear hs a; intro a hs
   refine wpList_nil ?_
   refine then_n (hK57 _ _ ?_)
   refine wp_ret ?_
   exact fin hs rfl rfl (by first | (exfalso; omega) | (rw [rUint_err (by omega)]; exact ⟨rfl, by simp only [uNext_same] <;> rfl⟩) | (rw [rUint_short (by omega) (len_of_five (by omega))]; exact ⟨rfl, by simp only [uNext_same] <;> rfl⟩) | (rw [rUint_bad3 (by omega) (by omega) (by omega)]; exact ⟨rfl, by simp only [uNext_same] <;> rfl⟩) | (rw [rUint_bade (by omega) (by omega) (by omega)]; exact ⟨rfl, by simp only [uNext_same] <;> rfl⟩) | (have he0 : R.e = 0 := (by omega); rw [rUint_fine he0 (by omega) (by omega)]; exact ⟨rfl, by rw [he0, uNext_cut (fine_pos (by omega))]; rfl⟩))
  rw [hc33] at hs
  replace hc33 := ne_of_beq_f hc33
  refine st_run 4 [(30, .bool (false))] hs .n (by kernel_rfl) (by kernel_rfl) (by kernel_rfl) ?_; clear hs a; intro a hs
  refine wpList_nil ?_
  refine then_n (hK32 _ _ ?_)
  refine wp_cond_false (hs.ev rfl) ?_
  refine wp_skip ?_
  refine then_n (hK30 _ _ ?_)
  refine wp_seq_k fun K58 hK59 => ?_
  refine wp_seq_k fun K60 hK61 => ?_
  refine wp_region_lit ?_
  refine st_run 2 [(32, .bool (!(((((vget (bs.drop R.p)).2.2 : Nat) : Int) : Int) == 0)))] hs .n (by kernel_rfl) (by kernel_rfl) (by kernel_rfl) ?_; clear hs a; intro a hs
  refine wpList_nil ?_
  refine then_n (hK61 _ _ ?_)
  refine wp_if hs rfl (fun hc62 => ?_) (fun hc62 => ?_)
  ·
   replace hc62 := not_t hc62
   replace hc62 := ne_of_beq_f hc62
   refine wp_seq_k fun K63 hK64 => ?_
   refine wp_region_lit ?_
   refine st_run 4 [(36, .pointer (some ⟨g, 2, none⟩)), (34, .int .i64 ((((vget (bs.drop R.p)).2.2 : Nat) : Int)))] hs .n (by kernel_rfl) (by kernel_rfl) (by kernel_rfl) ?_; clear hs a; intro a hs
   refine st_stB hs rfl rfl .z (.s (.s .z)) rfl Try.sizeOf3 ?_; clear hs w a; intro a w hs
   refine wpList_nil ?_
   refine then_n (hK64 _ _ ?_)
   refine wp_seq_k fun K65 hK66 => ?_
   refine wp_region_lit ?_
   refine st_as hs rfl rfl ?_; clear hs w a; intro a w hs
   refine wpList_nil ?_
   refine then_n (hK66 _ _ ?_)
   refine wp_ret ?_
   refine th_r ?_
   exact fin hs rfl rfl (by first | (exfalso; omega) | (rw [rUint_err (by omega)]; exact ⟨rfl, by simp only [uNext_same] <;> rfl⟩) | (rw [rUint_short (by omega) (len_of_five (by omega))]; exact ⟨rfl, by simp only [uNext_same] <;> rfl⟩) | (rw [rUint_bad3 (by omega) (by omega) (by omega)]; exact ⟨rfl, by simp only [uNext_same] <;> rfl⟩) | (rw [rUint_bade (by omega) (by omega) (by omega)]; exact ⟨rfl, by simp only [uNext_same] <;> rfl⟩) | (have he0 : R.e = 0 := (by omega); rw [rUint_fine he0 (by omega) (by omega)]; exact ⟨rfl, by rw [he0, uNext_cut (fine_pos (by omega))]; rfl⟩))
  replace hc62 := not_f hc62
  replace hc62 := eq_of_beq hc62
  have hfl := fine_le (bs := bs) (k := R.p) (by omega)
  refine wp_skip ?_
  refine then_n (hK59 _ _ ?_)
  refine wp_seq_k fun K67 hK68 => ?_
  refine wp_region_lit ?_
  refine st_run 6 [(42, .int .i64 ((((vget (bs.drop R.p)).2.1 : Nat) : Int))), (41, u), (37, .pointer (some ⟨g, 0, none⟩))] hs (.c (hs.mem.del .z) .n) (by kernel_rfl) (by kernel_rfl) (by kernel_rfl) ?_; clear hs a; intro a hs
  refine st_slcL (j := (vget (bs.drop R.p)).2.1) hs rfl rfl rfl (hs.rd0 hb).isSl (by omega) Try.underlying26 Try.sizeOf5 rfl ?_; clear hs w a; intro a w hs
  refine st_run 2 [(45, .pointer (some ⟨g, 0, none⟩))] hs .n (by kernel_rfl) (by kernel_rfl) (by kernel_rfl) ?_; clear hs a; intro a hs
  refine st_stB hs rfl rfl .z .z ((hs.rd0 hb).slcL (l := ((vget (bs.drop R.p)).2.1)) (by omega)).isSl.one Try.sizeOf26 ?_; clear hs w a; intro a w hs
  refine wpList_nil ?_
  refine then_n (hK68 _ _ ?_)
  refine wp_seq_k fun K69 hK70 => ?_
  refine wp_region_lit ?_
  refine st_run 5 [(50, .int .i64 ((((vget (bs.drop R.p)).2.1 : Nat) : Int))), (49, .int .i64 (((R.p : Nat) : Int))), (46, .pointer (some ⟨g, 0, none⟩))] hs (.c (hs.mem.del .z) .n) (by kernel_rfl) (by kernel_rfl) (by kernel_rfl) ?_; clear hs a; intro a hs
  refine st_addR hs rfl rfl (by omega) rfl ?_; clear hs w a; intro a w hs
  refine st_run 2 [(53, .pointer (some ⟨g, 1, none⟩))] hs .n (by kernel_rfl) (by kernel_rfl) (by kernel_rfl) ?_; clear hs a; intro a hs
  refine st_stB hs rfl rfl .z (.s .z) rfl Try.sizeOf3 ?_; clear hs w a; intro a w hs
  refine wpList_nil ?_
  refine then_n (hK70 _ _ ?_)
  refine wp_seq_k fun K71 hK72 => ?_
  refine wp_region_lit ?_
  refine st_run 2 [(4, .int .u64 (((((vget (bs.drop R.p)).1).toNat : Nat) : Int)))] hs .n (by kernel_rfl) (by kernel_rfl) (by kernel_rfl) ?_; clear hs a; intro a hs
  refine wpList_nil ?_
  refine then_n (hK72 _ _ ?_)
  refine wp_ret ?_
  exact fin hs rfl rfl (by first | (exfalso; omega) | (rw [rUint_err (by omega)]; exact ⟨rfl, by simp only [uNext_same] <;> rfl⟩) | (rw [rUint_short (by omega) (len_of_five (by omega))]; exact ⟨rfl, by simp only [uNext_same] <;> rfl⟩) | (rw [rUint_bad3 (by omega) (by omega) (by omega)]; exact ⟨rfl, by simp only [uNext_same] <;> rfl⟩) | (rw [rUint_bade (by omega) (by omega) (by omega)]; exact ⟨rfl, by simp only [uNext_same] <;> rfl⟩) | (have he0 : R.e = 0 := (by omega); rw [rUint_fine he0 (by omega) (by omega)]; exact ⟨rfl, by rw [he0, uNext_cut (fine_pos (by omega))]; rfl⟩))
theorem mint_ok  (g : Nat) (u : Value) (bs : List Byte) (R : Rs) (w0 : World) (hb : Rd w0 [g] u 1 (bs.length - R.p) (bytesV (bs.drop R.p))) (hg : (blk g [u, .int .i64 ((R.p : Nat) : Int), .int .i64 ((R.e : Nat) : Int)] 44).p w0) (hle : R.p ≤ bs.length) (hlm : bs.length ≤ maxLen) : Calls Try.prog 73 #[.pointer (some ⟨g, 0, none⟩)] w0 (Ret w0 [g] fun x N => x = .int .i64 (rInt bs R).1 ∧ N = [blk g [(uNext u bs.length R.p ((rInt bs R).2).p), .int .i64 ((((rInt bs R).2).p : Nat) : Int), .int .i64 ((((rInt bs R).2).e : Nat) : Int)] 44]) := by
  simp only [maxLen] at hlm
  refine enter (F0 := [(0, .pointer (some ⟨g, 0, none⟩))]) Try.func73 rfl rfl rfl (.c .n) (mem_one hg) fun a w hs => ?_
  refine wp_seq_k fun K1 hK2 => ?_
  refine wp_region_lit ?_
  refine st_as hs rfl rfl ?_; clear hs w a; intro a w hs
  refine wpList_nil ?_
  refine then_n (hK2 _ _ ?_)
  refine wp_seq_k fun K3 hK4 => ?_
  refine wp_region_lit ?_
  refine st_mv hs rfl rfl ?_; clear hs w a; intro a w hs
  refine st_call hs (.c rfl (.c rfl .n)) Try.call57 (.c .z .n) (muint_ok (18446744073709551615#64) g _ bs R _ (hs.mem.rd1 hb (.c .z .n)) (hs.mem.del .z) (by omega) (by simp only [maxLen]; omega)) rfl ?_; clear hs w a; rintro _ _ a w ⟨rfl, rfl⟩ hs; simp only [List.cons_append, List.nil_append] at hs
  have hk5 := rUint_le (X := 18446744073709551615#64) (bs := bs) (R := R) (by omega)
  refine st_as hs rfl rfl ?_; clear hs w a; intro a w hs
  refine wpList_nil ?_
  refine then_n (hK4 _ _ ?_)
  refine wp_seq_k fun K6 hK7 => ?_
  refine wp_region_lit ?_
  refine st_mv hs rfl rfl ?_; clear hs w a; intro a w hs
  refine st_callP (v := .int .i64 (zagI ((rUint bs (18446744073709551615#64) R).1))) hs (.c rfl .n) Try.call94 (rzag_ok ((rUint bs (18446744073709551615#64) R).1) _) rfl ?_; clear hs w a; intro a w hs
  have := zag_range ((rUint bs (18446744073709551615#64) R).1)
  refine st_as hs rfl rfl ?_; clear hs w a; intro a w hs
  refine wpList_nil ?_
  refine then_n (hK7 _ _ ?_)
  refine wp_ret ?_
  exact fin hs rfl rfl (by first | exact ⟨rfl, rfl⟩)
theorem mvec_ok  (g : Nat) (u : Value) (bs : List Byte) (R : Rs) (w0 : World) (hb : Rd w0 [g] u 1 (bs.length - R.p) (bytesV (bs.drop R.p))) (hg : (blk g [u, .int .i64 ((R.p : Nat) : Int), .int .i64 ((R.e : Nat) : Int)] 44).p w0) (hle : R.p ≤ bs.length) (hlm : bs.length ≤ maxLen) : Calls Try.prog 59 #[.pointer (some ⟨g, 0, none⟩)] w0 (Ret w0 [g] fun x N => x = (.agg #[.int .i64 (rInt bs R).1, .int .i64 (rInt bs (rInt bs R).2).1, .int .i64 (rInt bs (rInt bs (rInt bs R).2).2).1]) ∧ N = [blk g [(uNext ((uNext ((uNext u bs.length R.p ((rInt bs R).2).p)) bs.length ((rInt bs R).2).p ((rInt bs (rInt bs R).2).2).p)) bs.length ((rInt bs (rInt bs R).2).2).p ((rInt bs (rInt bs (rInt bs R).2).2).2).p), .int .i64 ((((rInt bs (rInt bs (rInt bs R).2).2).2).p : Nat) : Int), .int .i64 ((((rInt bs (rInt bs (rInt bs R).2).2).2).e : Nat) : Int)] 44]) := by
  simp only [maxLen] at hlm
  refine enter (F0 := [(0, .pointer (some ⟨g, 0, none⟩))]) Try.func59 rfl rfl rfl (.c .n) (mem_one hg) fun a w hs => ?_
  refine wp_seq_k fun K1 hK2 => ?_
  refine wp_region_lit ?_
  refine st_alloc (cs := [.int .i64 (0), .int .i64 (0), .int .i64 (0)]) hs Try.zeroValue22 rfl rfl ?_; clear hs w a; intro g3 a w hs
  refine wpList_nil ?_
  refine then_n (hK2 _ _ ?_)
  refine wp_seq_k fun K4 hK5 => ?_
  refine wp_region_lit ?_
  refine st_mv hs rfl rfl ?_; clear hs w a; intro a w hs
  refine st_call hs (.c rfl .n) Try.call73 (.c (.s .z) .n) (mint_ok  g _ bs R _ (hs.mem.rd1 hb (.c (.s .z) .n)) (hs.mem.del (.s .z)) (by omega) (by simp only [maxLen]; omega)) rfl ?_; clear hs w a; rintro _ _ a w ⟨rfl, rfl⟩ hs; simp only [List.cons_append, List.nil_append] at hs
  have hk6 := rInt_le (bs := bs) (R := R) (by omega)
  refine st_as hs rfl rfl ?_; clear hs w a; intro a w hs
  refine wpList_nil ?_
  refine then_n (hK5 _ _ ?_)
  refine wp_seq_k fun K7 hK8 => ?_
  refine wp_region_lit ?_
  refine st_mv hs rfl rfl ?_; clear hs w a; intro a w hs
  refine st_call hs (.c rfl .n) Try.call73 (.c .z .n) (mint_ok  g _ bs (((rInt bs R).2)) _ ((uNext_tr (p := R.p) (p' := ((rInt bs R).2).p) (by omega) (by omega)) _ _ (hs.mem.rd1 hb (.c .z .n))) (hs.mem.del .z) (by omega) (by simp only [maxLen]; omega)) rfl ?_; clear hs w a; rintro _ _ a w ⟨rfl, rfl⟩ hs; simp only [List.cons_append, List.nil_append] at hs
  have hk9 := rInt_le (bs := bs) (R := ((rInt bs R).2)) (by omega)
  refine st_as hs rfl rfl ?_; clear hs w a; intro a w hs
  refine wpList_nil ?_
  refine then_n (hK8 _ _ ?_)
  refine wp_seq_k fun K10 hK11 => ?_
  refine wp_region_lit ?_
  refine st_mv hs rfl rfl ?_; clear hs w a; intro a w hs
  refine st_call hs (.c rfl .n) Try.call73 (.c .z .n) (mint_ok  g _ bs (((rInt bs (((rInt bs R).2))).2)) _ ((uNext_tr (p := (((rInt bs R).2)).p) (p' := ((rInt bs (((rInt bs R).2))).2).p) (by omega) (by omega)) _ _ ((uNext_tr (p := R.p) (p' := ((rInt bs R).2).p) (by omega) (by omega)) _ _ (hs.mem.rd1 hb (.c .z .n)))) (hs.mem.del .z) (by omega) (by simp only [maxLen]; omega)) rfl ?_; clear hs w a; rintro _ _ a w ⟨rfl, rfl⟩ hs; simp only [List.cons_append, List.nil_append] at hs
  have hk12 := rInt_le (bs := bs) (R := ((rInt bs (((rInt bs R).2))).2)) (by omega)
  refine st_as hs rfl rfl ?_; clear hs w a; intro a w hs
  refine wpList_nil ?_
  refine then_n (hK11 _ _ ?_)
  refine wp_seq_k fun K13 hK14 => ?_
  refine wp_region_lit ?_
  refine st_run 3 [(14, .int .i64 ((rInt bs (((rInt bs (((rInt bs R).2))).2))).1)), (13, .int .i64 ((rInt bs (((rInt bs R).2))).1)), (12, .int .i64 ((rInt bs R).1))] hs .n (by kernel_rfl) (by kernel_rfl) (by kernel_rfl) ?_; clear hs a; intro a hs
  refine st_buildA (it := Try.t22) (ie := Try.t2) (zs := [.int .i64 (0), .int .i64 (0), .int .i64 (0)]) (sz := 1) hs (.c rfl (.c rfl (.c rfl .n))) Try.underlying22 rfl rfl rfl rfl rfl (.c rfl rfl (.z (.c .n)) (.c rfl rfl (.s (.z (.c .n))) (.c rfl rfl (.s (.s (.z (.c .n)))) .n))) rfl ?_; clear hs w a; intro a w hs
  refine st_stBA hs rfl rfl (.s .z) (.z (.c (.c (.c .n)))) (ones_c rfl (ones_c rfl (ones_c rfl ones_n))) Try.sizeOf22 rfl ?_; clear hs w a; intro a w hs
  refine wpList_nil ?_
  refine then_n (hK14 _ _ ?_)
  refine wp_ret ?_
  exact finC hs rfl rfl .z (.z (.c (.c (.c .n)))) Try.isAgg22 Try.sizeOf22 (.c .z .n) (by first | exact ⟨rfl, rfl⟩)
theorem mfail_ok (e : Nat) (g : Nat) (u : Value) (bs : List Byte) (R : Rs) (w0 : World) (hb : Rd w0 [g] u 1 (bs.length - R.p) (bytesV (bs.drop R.p))) (hg : (blk g [u, .int .i64 ((R.p : Nat) : Int), .int .i64 ((R.e : Nat) : Int)] 44).p w0) (hle : R.p ≤ bs.length) (hlm : bs.length ≤ maxLen) : Calls Try.prog 56 #[.pointer (some ⟨g, 0, none⟩), .int .i64 ((e : Nat) : Int)] w0 (Ret w0 [g] fun x N => x = .tuple #[] ∧ N = [blk g [(id u), .int .i64 (((rFail e R).p : Nat) : Int), .int .i64 (((rFail e R).e : Nat) : Int)] 44]) := by
  simp only [maxLen] at hlm
  refine enter (F0 := [(0, .pointer (some ⟨g, 0, none⟩)), (1, .int .i64 (((e : Nat) : Int)))]) Try.func56 rfl rfl rfl (.c (.c .n)) (mem_one hg) fun a w hs => ?_
  refine wp_seq_k fun K1 hK2 => ?_
  refine wp_region_lit ?_
  refine st_run 5 [(8, .bool ((((R.e : Nat) : Int) : Int) == 0))] hs (.c (hs.mem.del .z) .n) (by kernel_rfl) (by kernel_rfl) (by kernel_rfl) ?_; clear hs a; intro a hs
  refine wpList_nil ?_
  refine then_n (hK2 _ _ ?_)
  refine wp_if hs rfl (fun hc3 => ?_) (fun hc3 => ?_)
  ·
   replace hc3 := eq_of_beq hc3
   refine wp_region_lit ?_
   refine st_run 4 [(12, .pointer (some ⟨g, 2, none⟩)), (10, .int .i64 (((e : Nat) : Int)))] hs .n (by kernel_rfl) (by kernel_rfl) (by kernel_rfl) ?_; clear hs a; intro a hs
   refine st_stB hs rfl rfl .z (.s (.s .z)) rfl Try.sizeOf3 ?_; clear hs w a; intro a w hs
   refine wpList_nil ?_
   exact fin0 hs rfl (by first | (rw [show rFail e R = ⟨R.p, e⟩ by unfold rFail; rw [if_pos (by omega)]]; exact ⟨rfl, rfl⟩) | (rw [show rFail e R = R by unfold rFail; rw [if_neg (by omega)]]; exact ⟨rfl, rfl⟩))
  replace hc3 := ne_of_beq_f hc3
  refine wp_skip ?_
  exact fin0 hs rfl (by first | (rw [show rFail e R = ⟨R.p, e⟩ by unfold rFail; rw [if_pos (by omega)]]; exact ⟨rfl, rfl⟩) | (rw [show rFail e R = R by unfold rFail; rw [if_neg (by omega)]]; exact ⟨rfl, rfl⟩))
theorem mdone_ok (g : Nat) (u : Value) (bs : List Byte) (R : Rs) (w0 : World) (hb : Rd w0 [] u 1 (bs.length - R.p) (bytesV (bs.drop R.p))) (hg : (blk g [u, .int .i64 ((R.p : Nat) : Int), .int .i64 ((R.e : Nat) : Int)] 44).p w0) (hle : R.p ≤ bs.length) (hlm : bs.length ≤ maxLen) : Calls Try.prog 74 #[.pointer (some ⟨g, 0, none⟩)] w0 (RetV w0 (.int .i64 ((rDone bs R : Nat) : Int))) := by
  simp only [maxLen] at hlm
  refine enter (F0 := [(0, .pointer (some ⟨g, 0, none⟩))]) Try.func74 rfl rfl rfl (.c .n) (Mem.nil _) fun a w hs => ?_
  refine wp_seq_k fun K1 hK2 => ?_
  refine wp_region_lit ?_
  refine st_as hs rfl rfl ?_; clear hs w a; intro a w hs
  refine wpList_nil ?_
  refine then_n (hK2 _ _ ?_)
  refine wp_seq_k fun K3 hK4 => ?_
  refine wp_seq_k fun K5 hK6 => ?_
  refine wp_region_lit ?_
  refine st_run 6 [(8, .bool ((((R.e : Nat) : Int) : Int) == 0))] hs (.c (hs.mem.keep hg (by simp [feet, blk])) .n) (by kernel_rfl) (by kernel_rfl) (by kernel_rfl) ?_; clear hs a; intro a hs
  refine st_part (b := (((R.e : Nat) : Int) : Int) == 0) (fun hc7 => ?_) (fun hc7 => ?_)
  ·
   rw [hc7] at hs
   replace hc7 := eq_of_beq hc7
   refine st_run 4 [(12, u)] hs (.c (hs.mem.keep hg (by simp [feet, blk])) .n) (by kernel_rfl) (by kernel_rfl) (by kernel_rfl) ?_; clear hs a; intro a hs
   refine st_guardT hs rfl rfl rfl ?_
   refine st_len hs rfl (hs.rd0 hb).isSl Try.underlying26 rfl ?_; clear hs w a; intro a w hs
   refine st_run 2 [(15, .bool (decide (0 < ((((bs.length - R.p) : Nat) : Int)))))] hs .n (by kernel_rfl) (by kernel_rfl) (by kernel_rfl) ?_; clear hs a; intro a hs
   refine wpList_nil ?_
   refine then_n (hK6 _ _ ?_)
   refine wp_if hs rfl (fun hc8 => ?_) (fun hc8 => ?_)
   ·
    replace hc8 := of_decide_eq_true hc8
    refine wp_seq_k fun K9 hK10 => ?_
    refine wp_region_lit ?_
    refine st_as hs rfl rfl ?_; clear hs w a; intro a w hs
    refine wpList_nil ?_
    refine then_n (hK10 _ _ ?_)
    refine wp_ret ?_
    refine th_r ?_
    exact fin hs rfl rfl ⟨congrArg (Value.int .i64) (by unfold rDone; first | rw [if_pos (by omega)] | rw [if_neg (by omega)]; rfl), rfl⟩
   replace hc8 := of_decide_eq_false hc8
   refine wp_skip ?_
   refine then_n (hK4 _ _ ?_)
   refine wp_seq_k fun K11 hK12 => ?_
   refine wp_region_lit ?_
   refine st_run 5 [(2, .int .i64 (((R.e : Nat) : Int)))] hs (.c (hs.mem.keep hg (by simp [feet, blk])) .n) (by kernel_rfl) (by kernel_rfl) (by kernel_rfl) ?_; clear hs a; intro a hs
   refine wpList_nil ?_
   refine then_n (hK12 _ _ ?_)
   refine wp_ret ?_
   exact fin hs rfl rfl ⟨congrArg (Value.int .i64) (by unfold rDone; first | rw [if_pos (by omega)] | rw [if_neg (by omega)]; rfl), rfl⟩
  rw [hc7] at hs
  replace hc7 := ne_of_beq_f hc7
  refine st_run 7 [(15, .bool (false))] hs .n (by kernel_rfl) (by kernel_rfl) (by kernel_rfl) ?_; clear hs a; intro a hs
  refine wpList_nil ?_
  refine then_n (hK6 _ _ ?_)
  refine wp_cond_false (hs.ev rfl) ?_
  refine wp_skip ?_
  refine then_n (hK4 _ _ ?_)
  refine wp_seq_k fun K13 hK14 => ?_
  refine wp_region_lit ?_
  refine st_run 5 [(2, .int .i64 (((R.e : Nat) : Int)))] hs (.c (hs.mem.keep hg (by simp [feet, blk])) .n) (by kernel_rfl) (by kernel_rfl) (by kernel_rfl) ?_; clear hs a; intro a hs
  refine wpList_nil ?_
  refine then_n (hK14 _ _ ?_)
  refine wp_ret ?_
  exact fin hs rfl rfl ⟨congrArg (Value.int .i64) (by unfold rDone; first | rw [if_pos (by omega)] | rw [if_neg (by omega)]; rfl), rfl⟩
end Go.Proofs.Ytkobgcoegajfcaa
