/- Walks of reader: what each function does, over the program of this seat. Printed by a program of this session. -/
import Derived.Test.YtbioemaipghagaaGreatQWvar
import Derived.Test.YtbioemaipghagaaGreatQSxBasB
import Derived.Test.YtbioemaipghagaaGreatQSxRecs
namespace Go.Proofs.YtbioemaipghagaaGreat
open Go Go.Sx Go.RowKit
set_option linter.unusedVariables false
set_option linter.unusedSimpArgs false
set_option maxRecDepth 4000
set_option maxHeartbeats 1000000

theorem rerr_ok (g : Nat) (v : Value) (m : Nat) (bs : List Byte) (R : Rs) (w0 : World) (hb : Rd w0 [] v 1 m (bytesV bs)) (hg : (blk g [v, .int .i64 ((R.p : Nat) : Int), .int .i64 ((R.e : Nat) : Int)] 127).p w0) (hle : R.p ≤ bs.length) : Calls Tryz.prog 76 #[.pointer (some ⟨g, 0, none⟩)] w0 (RetV w0 (.int .i64 ((R.e : Nat) : Int))) := by
 have hbl : bs.length = m := by have := hb.len; simpa [bytesV] using this
 have hbe : m ≤ maxLen := hb.le
 simp only [maxLen] at hbe
 refine enterG (F0 := [(0, .pointer (some ⟨g, 0, none⟩))]) Tryz.func76 rfl rfl rfl (.c .n) (Mem.nil _) fun a w hs => ?_
 refine go 7 [] [7] hs .n ?_; clear hs w a; intro a w hs
 refine st_ldE hs rfl (hs.mem.keep hg (by simp [feet, blk])) (.s (.s .z)) Tryz.isAgg30 rfl ?_; clear hs w a; intro a w hs
 refine goL 1 [] [2] hs .n ?_; clear hs w a; intro a w hs
 exact fin hs rfl rfl ⟨rfl, rfl⟩
theorem rleft_ok (g : Nat) (v : Value) (m : Nat) (bs : List Byte) (R : Rs) (w0 : World) (hb : Rd w0 [] v 1 m (bytesV bs)) (hg : (blk g [v, .int .i64 ((R.p : Nat) : Int), .int .i64 ((R.e : Nat) : Int)] 127).p w0) (hle : R.p ≤ bs.length) : Calls Tryz.prog 77 #[.pointer (some ⟨g, 0, none⟩)] w0 (RetV w0 (.int .i64 (((bs.length - R.p) : Nat) : Int))) := by
 have hbl : bs.length = m := by have := hb.len; simpa [bytesV] using this
 have hbe : m ≤ maxLen := hb.le
 simp only [maxLen] at hbe
 refine enterG (F0 := [(0, .pointer (some ⟨g, 0, none⟩))]) Tryz.func77 rfl rfl rfl (.c .n) (Mem.nil _) fun a w hs => ?_
 refine go 4 [] [0] hs .n ?_; clear hs w a; intro a w hs
 refine wp_drawN [.p [] [], .p [0] [], .p [1] [], .v [2] v, .v [3] (.int .i64 ((m : Int))), .p [] [], .p [5] [], .p [6] [], .v [7] (.int .i64 (((R.p : Nat) : Int))), .p [8, 4] [], .p [9] []] [10] hs .n (by kernel_rfl) ⟨?_, ?_, ?_, (by omega), ⟨rfl, by kernel_rfl, fun _ => rfl, trivial⟩, ?_⟩
 ·
  intro a_ w_ R_ Q_ hm hs K_
  refine st_ldE hs rfl (hm.keep hg (by simp [feet, blk])) .z Tryz.isAgg37 rfl ?_; clear hs; intro a w hs
  exact wpList_nil (K_ _ _ hs)
 ·
  intro a_ w_ R_ Q_ hm hs K_
  refine st_len hs rfl (hm.rd0 hb).isSl Tryz.underlying37 rfl ?_; clear hs; intro a w hs
  exact wpList_nil (K_ _ _ hs)
 ·
  intro a_ w_ R_ Q_ hm hs K_
  refine st_ldE hs rfl (hm.keep hg (by simp [feet, blk])) (.s .z) Tryz.isAgg3 rfl ?_; clear hs; intro a w hs
  exact wpList_nil (K_ _ _ hs)
 clear hs w a; intro a w hs
 refine goE 0 [] [2] hs .n ?_; clear hs w a; intro a w hs
 exact fin hs rfl rfl ⟨congrArg (Value.int .i64) (by omega), rfl⟩
theorem rdone_ok (g : Nat) (v : Value) (m : Nat) (bs : List Byte) (R : Rs) (w0 : World) (hb : Rd w0 [] v 1 m (bytesV bs)) (hg : (blk g [v, .int .i64 ((R.p : Nat) : Int), .int .i64 ((R.e : Nat) : Int)] 127).p w0) (hle : R.p ≤ bs.length) : Calls Tryz.prog 49 #[.pointer (some ⟨g, 0, none⟩)] w0 (RetV w0 (.int .i64 (((rDone bs R) : Nat) : Int))) := by
 have hbl : bs.length = m := by have := hb.len; simpa [bytesV] using this
 have hbe : m ≤ maxLen := hb.le
 simp only [maxLen] at hbe
 refine enterG (F0 := [(0, .pointer (some ⟨g, 0, none⟩))]) Tryz.func49 rfl rfl rfl (.c .n) (Mem.nil _) fun a w hs => ?_
 refine go 2 [] [4, 0] hs .n ?_; clear hs w a; intro a w hs
 refine st_callP (v := .int .i64 (((R.e : Nat) : Int))) hs (.c rfl .n) Tryz.call76 (rerr_ok g _ _ bs R _ (hs.rd0 hb) (hs.mem.keep hg (by simp [feet, blk])) (by omega)) rfl ?_; clear hs w a; intro a w hs
 refine goL 4 [] [8, 3, 0] hs .n ?_; clear hs w a; intro a w hs
 refine st_part (b := !((((R.e : Nat) : Int) : Int) == 0)) (fun c_1 => ?_) (fun c_1 => ?_)
 ·
  rw [c_1] at hs
  replace c_1 := not_t c_1
  replace c_1 := ne_of_beq_f c_1
  refine go 7 [] [2] hs .n ?_; clear hs w a; intro a w hs
  exact fin hs rfl rfl ⟨congrArg (Value.int .i64) (by unfold rDone; first | rw [if_pos (by omega)] | rw [if_neg (by omega)]; rfl), rfl⟩
 rw [c_1] at hs
 replace c_1 := not_f c_1
 replace c_1 := eq_of_beq c_1
 refine go 1 [] [9, 8, 3] hs .n ?_; clear hs w a; intro a w hs
 refine st_guardT hs rfl rfl rfl ?_
 refine st_callP (v := .int .i64 ((((bs.length - R.p) : Nat) : Int))) hs (.c rfl .n) Tryz.call77 (rleft_ok g _ _ bs R _ (hs.rd0 hb) (hs.mem.keep hg (by simp [feet, blk])) (by omega)) rfl ?_; clear hs w a; intro a w hs
 refine goL 2 [] [12, 3] hs .n ?_; clear hs w a; intro a w hs
 refine ifG hs rfl (fun c_2 => ?_) (fun c_2 => ?_)
 ·
  replace c_2 := eq_of_beq c_2
  refine go 2 [] [2] hs .n ?_; clear hs w a; intro a w hs
  exact fin hs rfl rfl ⟨congrArg (Value.int .i64) (by unfold rDone; first | rw [if_pos (by omega)] | rw [if_neg (by omega)]; rfl), rfl⟩
 replace c_2 := ne_of_beq_f c_2
 refine go 1 [] [2] hs .n ?_; clear hs w a; intro a w hs
 exact fin hs rfl rfl ⟨congrArg (Value.int .i64) (by unfold rDone; first | rw [if_pos (by omega)] | rw [if_neg (by omega)]; rfl), rfl⟩
theorem byte1_ok (v : Value) (m : Nat) (bs : List Byte) (w0 : World) (hb : Rd w0 [] v 1 m (bytesV bs)) (h0 : 0 < m) : Calls Tryz.prog 144 #[v] w0 (RetV w0 (.tuple #[.int .u8 (((bs.getD 0 0).toNat : Nat) : Int), .int .i64 1, .int .i64 0])) := by
 have hbl : bs.length = m := by have := hb.len; simpa [bytesV] using this
 have hbe : m ≤ maxLen := hb.le
 simp only [maxLen] at hbe
 refine enterG (F0 := [(0, v)]) Tryz.func144 rfl rfl rfl (.c .n) (Mem.nil _) fun a w hs => ?_
 refine go 4 [] [5] hs .n ?_; clear hs w a; intro a w hs
 refine st_ia1 (j := 0) hs rfl rfl (hs.rd0 hb) (by decide) (by omega) Tryz.underlying37 Tryz.sizeOf5 rfl ?_; clear hs w a; intro a w hs
 refine st_ld hs rfl (hs.rd0 hb) (bytesV_getD bs (by first | omega | (simp; omega))) Tryz.isAgg5 rfl ?_; clear hs w a; intro a w hs
 refine goL 3 [] [4, 3, 2] hs .n ?_; clear hs w a; intro a w hs
 exact fin3 hs rfl rfl rfl rfl ⟨rfl, rfl⟩
theorem uint1_ok (v : Value) (m : Nat) (bs : List Byte) (gl : Nat) (X : BitVec 64) (w0 : World) (hb : Rd w0 [] v 1 m (bytesV bs)) {tl : TypeId} (hl : (blk gl [.int .u64 (X.toNat : Int)] tl).p w0) : Calls Tryz.prog 97 #[v, .pointer (some ⟨gl, 0, none⟩)] w0 (RetV w0 (.tuple #[.int .u64 (((vget bs).1.toNat : Nat) : Int), .int .i64 (((vget bs).2.1 : Nat) : Int), .int .i64 ((uerr bs X : Nat) : Int)])) := by
 have hbl : bs.length = m := by have := hb.len; simpa [bytesV] using this
 have hbe : m ≤ maxLen := hb.le
 simp only [maxLen] at hbe
 refine enterG (F0 := [(0, v), (1, .pointer (some ⟨gl, 0, none⟩))]) Tryz.func97 rfl rfl rfl (.c (.c .n)) (Mem.nil _) fun a w hs => ?_
 refine go 4 [] [10, 1] hs .n ?_; clear hs w a; intro a w hs
 refine st_callP (v := .tuple #[.int .u64 (((((vget bs).1).toNat : Nat) : Int)), .int .i64 ((((vget bs).2.1 : Nat) : Int)), .int .i64 ((((vget bs).2.2 : Nat) : Int))]) hs (.c rfl .n) Tryz.call98 (get_ok _ _ bs _ (hs.rd0 hb)) rfl ?_; clear hs w a; intro a w hs
 refine goL 10 [] [17, 8, 7, 6, 1] hs .n ?_; clear hs w a; intro a w hs
 refine st_part (b := ((((vget bs).2.2 : Nat) : Int) : Int) == 0) (fun c_1 => ?_) (fun c_1 => ?_)
 ·
  rw [c_1] at hs
  replace c_1 := eq_of_beq c_1
  refine go 1 [] [18, 17, 8, 7, 6, 1] hs .n ?_; clear hs w a; intro a w hs
  refine st_guardT hs rfl rfl rfl ?_
  refine st_ldE hs rfl (hs.mem.keep hl (by simp [feet, blk])) .z Tryz.isAgg129 rfl ?_; clear hs w a; intro a w hs
  refine goL 2 [] [21, 8, 7, 6] hs .n ?_; clear hs w a; intro a w hs
  refine ifG hs rfl (fun c_2 => ?_) (fun c_2 => ?_)
  ·
   replace c_2 := of_decide_eq_true c_2
   refine go 7 [] [5, 4, 3] hs .n ?_; clear hs w a; intro a w hs
   exact fin3 hs rfl rfl rfl rfl ⟨by unfold uerr; first | (rw [if_pos (by omega)]; rfl) | (rw [if_neg (by omega)]), rfl⟩
  replace c_2 := of_decide_eq_false c_2
  refine go 6 [] [5, 4, 3] hs .n ?_; clear hs w a; intro a w hs
  exact fin3 hs rfl rfl rfl rfl ⟨by unfold uerr; first | (rw [if_pos (by omega)]; rfl) | (rw [if_neg (by omega)]), rfl⟩
 rw [c_1] at hs
 replace c_1 := ne_of_beq_f c_1
 refine go 11 [] [5, 4, 3] hs .n ?_; clear hs w a; intro a w hs
 exact fin3 hs rfl rfl rfl rfl ⟨by unfold uerr; first | (rw [if_pos (by omega)]; rfl) | (rw [if_neg (by omega)]), rfl⟩
theorem takeb_ok (g : Nat) (v : Value) (m : Nat) (bs : List Byte) (R : Rs) (w0 : World) (hb : Rd w0 [g] v 1 m (bytesV bs)) (hg : (blk g [v, .int .i64 ((R.p : Nat) : Int), .int .i64 ((R.e : Nat) : Int)] 127).p w0) (hle : R.p ≤ bs.length) : Calls Tryz.prog 143 #[.pointer (some ⟨g, 0, none⟩), .func (.func 144) #[] #[]] w0 (Ret w0 [g] fun u N => u = .int .u8 (((rByte bs R).1.toNat : Nat) : Int) ∧ N = [blk g [v, .int .i64 ((((rByte bs R).2).p : Nat) : Int), .int .i64 ((((rByte bs R).2).e : Nat) : Int)] 127]) := by
 have hbl : bs.length = m := by have := hb.len; simpa [bytesV] using this
 have hbe : m ≤ maxLen := hb.le
 simp only [maxLen] at hbe
 refine enterG (F0 := [(0, .pointer (some ⟨g, 0, none⟩)), (1, .func (.func 144) #[] #[])]) Tryz.func143 rfl rfl rfl (.c (.c .n)) (mem_one hg) fun a w hs => ?_
 refine go 3 [] [9, 5, 0, 1] hs .n ?_; clear hs w a; intro a w hs
 refine st_callP (v := .int .i64 (((R.e : Nat) : Int))) hs (.c rfl .n) Tryz.call76 (rerr_ok g _ _ bs R _ (hs.rd0 hb) (hs.mem.del .z) (by omega)) rfl ?_; clear hs w a; intro a w hs
 refine goL 1 [] [11, 5, 0, 1] hs .n ?_; clear hs w a; intro a w hs
 refine ifG hs rfl (fun c_1 => ?_) (fun c_1 => ?_)
 ·
  replace c_1 := not_t c_1
  replace c_1 := ne_of_beq_f c_1
  refine go 2 [] [4] hs .n ?_; clear hs w a; intro a w hs
  exact fin hs rfl rfl (by first | (rw [rByte_err (by omega)]; exact ⟨rfl, rfl⟩) | (rw [rByte_short (by omega) (by omega)]; exact ⟨rfl, rfl⟩) | (have he0 : R.e = 0 := (by omega); rw [rByte_good he0 (by omega)]; simp [he0]))
 replace c_1 := not_f c_1
 replace c_1 := eq_of_beq c_1
 refine go 1 [] [13, 5, 0, 1] hs .n ?_; clear hs w a; intro a w hs
 refine st_callP (v := .int .i64 ((((bs.length - R.p) : Nat) : Int))) hs (.c rfl .n) Tryz.call77 (rleft_ok g _ _ bs R _ (hs.rd0 hb) (hs.mem.del .z) (by omega)) rfl ?_; clear hs w a; intro a w hs
 refine goL 1 [] [15, 5, 0, 1] hs .n ?_; clear hs w a; intro a w hs
 refine ifG hs rfl (fun c_2 => ?_) (fun c_2 => ?_)
 ·
  replace c_2 := eq_of_beq c_2
  refine go 6 [0] [4] hs (.c .z .n) ⟨rfl, ?_⟩; clear hs w a; intro a w hs
  exact fin hs rfl rfl (by first | (rw [rByte_err (by omega)]; exact ⟨rfl, rfl⟩) | (rw [rByte_short (by omega) (by omega)]; exact ⟨rfl, rfl⟩) | (have he0 : R.e = 0 := (by omega); rw [rByte_good he0 (by omega)]; simp [he0]))
 replace c_2 := ne_of_beq_f c_2
 refine go 0 [] [5, 0, 1] hs .n ?_; clear hs w a; intro a w hs
 refine wp_drawN [.p [] [], .p [] [], .p [1] [], .p [2] [], .p [3] [0], .p [] [], .p [5] [], .p [6] [], .p [7] [0], .v [8, 4] (slcV v 1 R.p m), .v [9, 0] (.tuple #[.int .u8 (((((bs.drop R.p).getD 0 0).toNat : Nat) : Int)), .int .i64 (1), .int .i64 (0)]), .p [10] [], .p [11] [], .p [11] [], .p [11] [], .p [12] [], .p [13] [], .p [14] []] [15, 16, 17] hs (.c .z .n) (by kernel_rfl) ⟨rfl, rfl, ?_, ?_, ⟨rfl, by kernel_rfl, fun _ => rfl, trivial⟩, ?_⟩
 ·
  intro a_ w_ R_ Q_ hm hs K_
  refine st_slcL (j := R.p) hs rfl rfl rfl (hm.rd0 hb).isSl (by omega) Tryz.underlying37 Tryz.sizeOf5 rfl ?_; clear hs; intro a w hs
  exact wpList_nil (K_ _ _ hs)
 ·
  intro a_ w_ R_ Q_ hm hs K_
  refine st_callPV (us := []) (v := .tuple #[.int .u8 (((((bs.drop R.p).getD 0 0).toNat : Nat) : Int)), .int .i64 (1), .int .i64 (0)]) hs rfl (.c rfl .n) rfl Tryz.call144 (byte1_ok _ _ (bs.drop R.p) _ ((hm.rd0 hb).slcL (l := R.p) (by omega)) (by omega)) rfl ?_; clear hs; intro a w hs
  exact wpList_nil (K_ _ _ hs)
 clear hs w a; intro a w hs
 refine goE 14 [0, 0] [4] hs (.c .z .n) ⟨rfl, (by omega), rfl, ?_⟩; clear hs w a; intro a w hs
 exact fin hs rfl rfl (by first | (rw [rByte_err (by omega)]; exact ⟨rfl, rfl⟩) | (rw [rByte_short (by omega) (by omega)]; exact ⟨rfl, rfl⟩) | (have he0 : R.e = 0 := (by omega); rw [rByte_good he0 (by omega)]; simp [he0]))
theorem rbyte_ok (g : Nat) (v : Value) (m : Nat) (bs : List Byte) (R : Rs) (w0 : World) (hb : Rd w0 [g] v 1 m (bytesV bs)) (hg : (blk g [v, .int .i64 ((R.p : Nat) : Int), .int .i64 ((R.e : Nat) : Int)] 127).p w0) (hle : R.p ≤ bs.length) : Calls Tryz.prog 95 #[.pointer (some ⟨g, 0, none⟩)] w0 (Ret w0 [g] fun u N => u = .int .u8 (((rByte bs R).1.toNat : Nat) : Int) ∧ N = [blk g [v, .int .i64 ((((rByte bs R).2).p : Nat) : Int), .int .i64 ((((rByte bs R).2).e : Nat) : Int)] 127]) := by
 have hbl : bs.length = m := by have := hb.len; simpa [bytesV] using this
 have hbe : m ≤ maxLen := hb.le
 simp only [maxLen] at hbe
 refine enterG (F0 := [(0, .pointer (some ⟨g, 0, none⟩))]) Tryz.func95 rfl rfl rfl (.c .n) (mem_one hg) fun a w hs => ?_
 refine go 2 [] [3] hs .n ?_; clear hs w a; intro a w hs
 refine st_call hs (.c rfl (.c rfl .n)) Tryz.call143 (.c .z .n) (takeb_ok  g _ _ bs R _ (hs.mem.rd1 hb (.c .z .n)) (hs.mem.del .z) (by omega)) rfl ?_; clear hs w a; rintro _ _ a w ⟨rfl, rfl⟩ hs; simp only [List.cons_append, List.nil_append] at hs
 have hk1 := rByte_le (bs := bs) (R := R) (by omega)
 refine goL 1 [] [2] hs .n ?_; clear hs w a; intro a w hs
 exact fin hs rfl rfl ⟨rfl, rfl⟩
theorem takeu_ok (gl : Nat) (X : BitVec 64) (g : Nat) (v : Value) (m : Nat) (bs : List Byte) (R : Rs) (w0 : World) (hb : Rd w0 [g] v 1 m (bytesV bs)) (hg : (blk g [v, .int .i64 ((R.p : Nat) : Int), .int .i64 ((R.e : Nat) : Int)] 127).p w0) (hle : R.p ≤ bs.length) {tl : TypeId} (hl : (blk gl [.int .u64 (X.toNat : Int)] tl).p w0) (hgl : gl ≠ g) : Calls Tryz.prog 96 #[.pointer (some ⟨g, 0, none⟩), .func (.func 97) #[] #[.pointer (some ⟨gl, 0, none⟩)]] w0 (Ret w0 [g] fun u N => u = .int .u64 (((rUint bs X R).1.toNat : Nat) : Int) ∧ N = [blk g [v, .int .i64 ((((rUint bs X R).2).p : Nat) : Int), .int .i64 ((((rUint bs X R).2).e : Nat) : Int)] 127]) := by
 have hbl : bs.length = m := by have := hb.len; simpa [bytesV] using this
 have hbe : m ≤ maxLen := hb.le
 simp only [maxLen] at hbe
 refine enterG (F0 := [(0, .pointer (some ⟨g, 0, none⟩)), (1, .func (.func 97) #[] #[.pointer (some ⟨gl, 0, none⟩)])]) Tryz.func96 rfl rfl rfl (.c (.c .n)) (mem_one hg) fun a w hs => ?_
 refine go 3 [] [9, 5, 0, 1] hs .n ?_; clear hs w a; intro a w hs
 refine st_callP (v := .int .i64 (((R.e : Nat) : Int))) hs (.c rfl .n) Tryz.call76 (rerr_ok g _ _ bs R _ (hs.rd0 hb) (hs.mem.del .z) (by omega)) rfl ?_; clear hs w a; intro a w hs
 refine goL 1 [] [11, 5, 0, 1] hs .n ?_; clear hs w a; intro a w hs
 refine ifG hs rfl (fun c_1 => ?_) (fun c_1 => ?_)
 ·
  replace c_1 := not_t c_1
  replace c_1 := ne_of_beq_f c_1
  refine go 2 [] [4] hs .n ?_; clear hs w a; intro a w hs
  exact fin hs rfl rfl (by first | (rw [rUint_err (by omega)]; exact ⟨rfl, rfl⟩) | (rw [rUint_short (by omega) (by omega)]; exact ⟨rfl, rfl⟩) | (rw [rUint_bad (by omega) (by omega) (by omega)]; exact ⟨rfl, rfl⟩) | (have he0 : R.e = 0 := (by omega); rw [rUint_good he0 (by omega) (by omega)]; simp [he0]))
 replace c_1 := not_f c_1
 replace c_1 := eq_of_beq c_1
 refine go 1 [] [13, 5, 0, 1] hs .n ?_; clear hs w a; intro a w hs
 refine st_callP (v := .int .i64 ((((bs.length - R.p) : Nat) : Int))) hs (.c rfl .n) Tryz.call77 (rleft_ok g _ _ bs R _ (hs.rd0 hb) (hs.mem.del .z) (by omega)) rfl ?_; clear hs w a; intro a w hs
 refine goL 1 [] [15, 5, 0, 1] hs .n ?_; clear hs w a; intro a w hs
 refine ifG hs rfl (fun c_2 => ?_) (fun c_2 => ?_)
 ·
  replace c_2 := eq_of_beq c_2
  refine go 6 [0] [4] hs (.c .z .n) ⟨rfl, ?_⟩; clear hs w a; intro a w hs
  exact fin hs rfl rfl (by first | (rw [rUint_err (by omega)]; exact ⟨rfl, rfl⟩) | (rw [rUint_short (by omega) (by omega)]; exact ⟨rfl, rfl⟩) | (rw [rUint_bad (by omega) (by omega) (by omega)]; exact ⟨rfl, rfl⟩) | (have he0 : R.e = 0 := (by omega); rw [rUint_good he0 (by omega) (by omega)]; simp [he0]))
 replace c_2 := ne_of_beq_f c_2
 refine go 0 [] [5, 0, 1] hs .n ?_; clear hs w a; intro a w hs
 refine wp_drawN [.p [] [], .p [] [], .p [1] [], .p [2] [], .p [3] [0], .p [] [], .p [5] [], .p [6] [], .p [7] [0], .v [8, 4] (slcV v 1 R.p m), .v [9, 0] (.tuple #[.int .u64 (((((vget (bs.drop R.p)).1).toNat : Nat) : Int)), .int .i64 ((((vget (bs.drop R.p)).2.1 : Nat) : Int)), .int .i64 (((uerr (bs.drop R.p) X : Nat) : Int))]), .p [10] [], .p [11] [], .p [11] [], .p [11] [], .p [12] [], .p [13] [], .p [14] []] [15, 16, 17] hs (.c .z .n) (by kernel_rfl) ⟨rfl, rfl, ?_, ?_, ⟨rfl, by kernel_rfl, fun _ => rfl, trivial⟩, ?_⟩
 ·
  intro a_ w_ R_ Q_ hm hs K_
  refine st_slcL (j := R.p) hs rfl rfl rfl (hm.rd0 hb).isSl (by omega) Tryz.underlying37 Tryz.sizeOf5 rfl ?_; clear hs; intro a w hs
  exact wpList_nil (K_ _ _ hs)
 ·
  intro a_ w_ R_ Q_ hm hs K_
  refine st_callPV (us := [.pointer (some ⟨gl, 0, none⟩)]) (v := .tuple #[.int .u64 (((((vget (bs.drop R.p)).1).toNat : Nat) : Int)), .int .i64 ((((vget (bs.drop R.p)).2.1 : Nat) : Int)), .int .i64 (((uerr (bs.drop R.p) X : Nat) : Int))]) hs rfl (.c rfl .n) rfl Tryz.call97 (uint1_ok _ _ (bs.drop R.p) gl X _ ((hm.rd0 hb).slcL (l := R.p) (by omega)) (hm.keep hl (by simpa [feet, blk] using hgl))) rfl ?_; clear hs; intro a w hs
  exact wpList_nil (K_ _ _ hs)
 clear hs w a; intro a w hs
 refine goE 2 [] [36, 8, 7, 6, 5, 0] hs .n ?_; clear hs w a; intro a w hs
 refine ifG hs rfl (fun c_4 => ?_) (fun c_4 => ?_)
 ·
  replace c_4 := not_t c_4
  replace c_4 := ne_of_beq_f c_4
  refine go 7 [0] [4] hs (.c .z .n) ⟨rfl, ?_⟩; clear hs w a; intro a w hs
  exact fin hs rfl rfl (by first | (rw [rUint_err (by omega)]; exact ⟨rfl, rfl⟩) | (rw [rUint_short (by omega) (by omega)]; exact ⟨rfl, rfl⟩) | (rw [rUint_bad (by omega) (by omega) (by omega)]; exact ⟨rfl, rfl⟩) | (have he0 : R.e = 0 := (by omega); rw [rUint_good he0 (by omega) (by omega)]; simp [he0]))
 replace c_4 := not_f c_4
 replace c_4 := eq_of_beq c_4
 have hul := @uerr_le (bs.drop R.p) X
 rw [List.length_drop] at hul
 have hul2 := hul (by omega)
 refine go 11 [0, 0] [4] hs (.c .z .n) ⟨rfl, (by omega), rfl, ?_⟩; clear hs w a; intro a w hs
 exact fin hs rfl rfl (by first | (rw [rUint_err (by omega)]; exact ⟨rfl, rfl⟩) | (rw [rUint_short (by omega) (by omega)]; exact ⟨rfl, rfl⟩) | (rw [rUint_bad (by omega) (by omega) (by omega)]; exact ⟨rfl, rfl⟩) | (have he0 : R.e = 0 := (by omega); rw [rUint_good he0 (by omega) (by omega)]; simp [he0]))
theorem ruint_ok (X : BitVec 64) (g : Nat) (v : Value) (m : Nat) (bs : List Byte) (R : Rs) (w0 : World) (hb : Rd w0 [g] v 1 m (bytesV bs)) (hg : (blk g [v, .int .i64 ((R.p : Nat) : Int), .int .i64 ((R.e : Nat) : Int)] 127).p w0) (hle : R.p ≤ bs.length) : Calls Tryz.prog 71 #[.pointer (some ⟨g, 0, none⟩), .int .u64 (X.toNat : Int)] w0 (Ret w0 [g] fun u N => u = .int .u64 (((rUint bs X R).1.toNat : Nat) : Int) ∧ N = [blk g [v, .int .i64 ((((rUint bs X R).2).p : Nat) : Int), .int .i64 ((((rUint bs X R).2).e : Nat) : Int)] 127]) := by
 have hbl : bs.length = m := by have := hb.len; simpa [bytesV] using this
 have hbe : m ≤ maxLen := hb.le
 simp only [maxLen] at hbe
 refine enterG (F0 := [(0, .pointer (some ⟨g, 0, none⟩)), (1, .int .u64 ((((X).toNat : Nat) : Int)))]) Tryz.func71 rfl rfl rfl (.c (.c .n)) (mem_one hg) fun a w hs => ?_
 refine go 4 [0] [6, 5] hs .n (fun g1 => ?_); clear hs w a; intro a w hs
 have hgn := hs.mem.apart .z (.c .z .n)
 refine st_call hs (.c rfl (.c rfl .n)) Tryz.call96 (.c (.s .z) .n) (takeu_ok g1 X g _ _ bs R _ (hs.mem.rd1 hb (.c (.s .z) .n)) (hs.mem.del (.s .z)) (by omega) (hs.mem.del .z) hgn) rfl ?_; clear hs w a hgn; rintro _ _ a w ⟨rfl, rfl⟩ hs; simp only [List.cons_append, List.nil_append] at hs
 refine goL 1 [] [4] hs .n ?_; clear hs w a; intro a w hs
 replace hs := hs.drop (.c (.s .z) .n)
 exact fin hs rfl rfl ⟨rfl, rfl⟩
theorem rint_ok (g : Nat) (v : Value) (m : Nat) (bs : List Byte) (R : Rs) (w0 : World) (hb : Rd w0 [g] v 1 m (bytesV bs)) (hg : (blk g [v, .int .i64 ((R.p : Nat) : Int), .int .i64 ((R.e : Nat) : Int)] 127).p w0) (hle : R.p ≤ bs.length) : Calls Tryz.prog 72 #[.pointer (some ⟨g, 0, none⟩)] w0 (Ret w0 [g] fun u N => u = .int .i64 (rInt bs R).1 ∧ N = [blk g [v, .int .i64 ((((rInt bs R).2).p : Nat) : Int), .int .i64 ((((rInt bs R).2).e : Nat) : Int)] 127]) := by
 have hbl : bs.length = m := by have := hb.len; simpa [bytesV] using this
 have hbe : m ≤ maxLen := hb.le
 simp only [maxLen] at hbe
 refine enterG (F0 := [(0, .pointer (some ⟨g, 0, none⟩))]) Tryz.func72 rfl rfl rfl (.c .n) (mem_one hg) fun a w hs => ?_
 refine go 2 [] [3] hs .n ?_; clear hs w a; intro a w hs
 refine st_call hs (.c rfl (.c rfl .n)) Tryz.call71 (.c .z .n) (ruint_ok (18446744073709551615#64) g _ _ bs R _ (hs.mem.rd1 hb (.c .z .n)) (hs.mem.del .z) (by omega)) rfl ?_; clear hs w a; rintro _ _ a w ⟨rfl, rfl⟩ hs; simp only [List.cons_append, List.nil_append] at hs
 have hk1 := rUint_le (X := 18446744073709551615#64) (bs := bs) (R := R) (by omega)
 refine st_callP (v := .int .i64 (zagI ((rUint bs (18446744073709551615#64) R).1))) hs (.c rfl .n) Tryz.call99 (zag_ok ((rUint bs (18446744073709551615#64) R).1) _) rfl ?_; clear hs w a; intro a w hs
 have := zag_range ((rUint bs (18446744073709551615#64) R).1)
 refine goL 1 [] [2] hs .n ?_; clear hs w a; intro a w hs
 exact fin hs rfl rfl ⟨rfl, rfl⟩
theorem rvec_ok (g : Nat) (v : Value) (m : Nat) (bs : List Byte) (R : Rs) (w0 : World) (hb : Rd w0 [g] v 1 m (bytesV bs)) (hg : (blk g [v, .int .i64 ((R.p : Nat) : Int), .int .i64 ((R.e : Nat) : Int)] 127).p w0) (hle : R.p ≤ bs.length) : Calls Tryz.prog 163 #[.pointer (some ⟨g, 0, none⟩)] w0 (Ret w0 [g] fun u N => u = (.agg #[.int .i64 (rInt bs R).1, .int .i64 (rInt bs (rInt bs R).2).1, .int .i64 (rInt bs (rInt bs (rInt bs R).2).2).1]) ∧ N = [blk g [v, .int .i64 (((rVec bs R).p : Nat) : Int), .int .i64 (((rVec bs R).e : Nat) : Int)] 127]) := by
 have hbl : bs.length = m := by have := hb.len; simpa [bytesV] using this
 have hbe : m ≤ maxLen := hb.le
 simp only [maxLen] at hbe
 refine enterG (F0 := [(0, .pointer (some ⟨g, 0, none⟩))]) Tryz.func163 rfl rfl rfl (.c .n) (mem_one hg) fun a w hs => ?_
 refine go 3 [] [5, 3, 2, 0] hs .n (fun g1 => fun g2 => ?_); clear hs w a; intro a w hs
 refine roundsG 3 ?_
 refine go 6 [] [9, 8, 5, 3, 2, 0] hs .n ?_; clear hs w a; intro a w hs
 refine st_call hs (.c rfl .n) Tryz.call72 (.c (.s (.s .z)) .n) (rint_ok  g _ _ bs R _ (hs.mem.rd1 hb (.c (.s (.s .z)) .n)) (hs.mem.del (.s (.s .z))) (by omega)) rfl ?_; clear hs w a; rintro _ _ a w ⟨rfl, rfl⟩ hs; simp only [List.cons_append, List.nil_append] at hs
 have hk3 := rInt_le (bs := bs) (R := R) (by omega)
 refine goL 4 [0] [5, 3, 2, 0] hs (.c (.s .z) .n) ⟨rfl, by decide, ?_⟩; clear hs w a; intro a w hs
 refine againG ?_
 refine go 6 [] [9, 8, 5, 3, 2, 0] hs .n ?_; clear hs w a; intro a w hs
 refine st_call hs (.c rfl .n) Tryz.call72 (.c (.s .z) .n) (rint_ok  g _ _ bs (((rInt bs R).2)) _ (hs.mem.rd1 hb (.c (.s .z) .n)) (hs.mem.del (.s .z)) (by omega)) rfl ?_; clear hs w a; rintro _ _ a w ⟨rfl, rfl⟩ hs; simp only [List.cons_append, List.nil_append] at hs
 have hk4 := rInt_le (bs := bs) (R := ((rInt bs R).2)) (by omega)
 refine goL 4 [0] [5, 3, 2, 0] hs (.c (.s .z) .n) ⟨rfl, by decide, ?_⟩; clear hs w a; intro a w hs
 refine againG ?_
 refine go 6 [] [9, 8, 5, 3, 2, 0] hs .n ?_; clear hs w a; intro a w hs
 refine st_call hs (.c rfl .n) Tryz.call72 (.c (.s .z) .n) (rint_ok  g _ _ bs (((rInt bs (((rInt bs R).2))).2)) _ (hs.mem.rd1 hb (.c (.s .z) .n)) (hs.mem.del (.s .z)) (by omega)) rfl ?_; clear hs w a; rintro _ _ a w ⟨rfl, rfl⟩ hs; simp only [List.cons_append, List.nil_append] at hs
 have hk5 := rInt_le (bs := bs) (R := ((rInt bs (((rInt bs R).2))).2)) (by omega)
 refine goL 4 [0] [5, 3, 2, 0] hs (.c (.s .z) .n) ⟨rfl, by decide, ?_⟩; clear hs w a; intro a w hs
 refine againG ?_
 refine go 4 [0, 1] [2] hs (.c .z (.c (.s .z) .n)) ⟨rfl, rfl, ?_⟩; clear hs w a; intro a w hs
 exact finC hs rfl rfl (.s .z) (.z (.c (.c (.c .n)))) Tryz.isAgg71 Tryz.sizeOf71 (.c (.s .z) (.c .z .n)) ⟨rfl, rfl⟩
theorem rfail_ok (e : Nat) (g : Nat) (v : Value) (m : Nat) (bs : List Byte) (R : Rs) (w0 : World) (hb : Rd w0 [g] v 1 m (bytesV bs)) (hg : (blk g [v, .int .i64 ((R.p : Nat) : Int), .int .i64 ((R.e : Nat) : Int)] 127).p w0) (hle : R.p ≤ bs.length) : Calls Tryz.prog 74 #[.pointer (some ⟨g, 0, none⟩), .int .i64 ((e : Nat) : Int)] w0 (Ret w0 [g] fun u N => u = .tuple #[] ∧ N = [blk g [v, .int .i64 (((rFail e R).p : Nat) : Int), .int .i64 (((rFail e R).e : Nat) : Int)] 127]) := by
 have hbl : bs.length = m := by have := hb.len; simpa [bytesV] using this
 have hbe : m ≤ maxLen := hb.le
 simp only [maxLen] at hbe
 refine enterG (F0 := [(0, .pointer (some ⟨g, 0, none⟩)), (1, .int .i64 (((e : Nat) : Int)))]) Tryz.func74 rfl rfl rfl (.c (.c .n)) (mem_one hg) fun a w hs => ?_
 refine go 1 [] [4, 0, 1] hs .n ?_; clear hs w a; intro a w hs
 refine st_callP (v := .int .i64 (((R.e : Nat) : Int))) hs (.c rfl .n) Tryz.call76 (rerr_ok g _ _ bs R _ (hs.rd0 hb) (hs.mem.del .z) (by omega)) rfl ?_; clear hs w a; intro a w hs
 refine goL 1 [] [6, 0, 1] hs .n ?_; clear hs w a; intro a w hs
 refine ifG hs rfl (fun c_1 => ?_) (fun c_1 => ?_)
 ·
  replace c_1 := eq_of_beq c_1
  refine go 5 [0] [] hs (.c .z .n) ⟨rfl, ?_⟩; clear hs w a; intro a w hs
  exact fin0 hs rfl ⟨rfl, by unfold rFail; first | rw [if_pos (by omega)] | rw [if_neg (by omega)]⟩
 replace c_1 := ne_of_beq_f c_1
 refine go 0 [] [] hs .n ?_; clear hs w a; intro a w hs
 exact fin0 hs rfl ⟨rfl, by unfold rFail; first | rw [if_pos (by omega)] | rw [if_neg (by omega)]⟩
end Go.Proofs.YtbioemaipghagaaGreat
