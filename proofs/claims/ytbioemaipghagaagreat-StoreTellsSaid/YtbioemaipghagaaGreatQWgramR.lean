/- Walks of datagrams off bytes: what each function does, over the program of this seat. Printed by a program of this session. -/
import Derived.Test.YtbioemaipghagaaGreatQWgramT
import Derived.Test.YtbioemaipghagaaGreatQWrec2
import Derived.Test.YtbioemaipghagaaGreatQWcrc
import Derived.Test.YtbioemaipghagaaGreatQSxGrams
import Derived.Test.YtbioemaipghagaaGreatQSxRecs
import Derived.Test.YtbioemaipghagaaGreatQSxBasB
namespace Go.Proofs.YtbioemaipghagaaGreat
open Go Go.Sx Go.RowKit
set_option linter.unusedVariables false
set_option linter.unusedSimpArgs false
set_option maxRecDepth 4000
set_option maxHeartbeats 1000000

theorem pmust_ok (c : Byte) (g h : Nat) (v : Value) (m : Nat) (bs : List Byte) (R : Rs) (t tm b : Int) (q : Value) (w0 : World) (hb : Rd w0 [g] v 1 m (bytesV bs)) (hg : (blk g [v, .int .i64 (((R).p : Nat) : Int), .int .i64 (((R).e : Nat) : Int)] 127).p w0) (hh : (blk h [.pointer (some ⟨g, 0, none⟩), .int .i64 (t), .int .i64 (tm), .int .i64 (b), q] 98).p w0) (hle : R.p ≤ bs.length) : Calls Tryz.prog 70 #[.pointer (some ⟨h, 0, none⟩), .int .u8 (((c.toNat : Nat) : Int))] w0 (Ret w0 [g] fun u N => u = .tuple #[] ∧ N = [blk g [v, .int .i64 ((((mustB c bs R)).p : Nat) : Int), .int .i64 ((((mustB c bs R)).e : Nat) : Int)] 127]) := by
 have hbl : bs.length = m := by have := hb.len; simpa [bytesV] using this
 have hbe : m ≤ maxLen := hb.le
 simp only [maxLen] at hbe
 refine enterG (F0 := [(0, .pointer (some ⟨h, 0, none⟩)), (1, .int .u8 ((((c).toNat : Nat) : Int)))]) Tryz.func70 rfl rfl rfl (.c (.c .n)) (mem_one hg) fun a w hs => ?_
 refine go 3 [] [6, 0, 1] hs .n ?_; clear hs w a; intro a w hs
 refine st_ldE hs rfl (hs.mem.keep hh (by simp [feet, blk, blk_ne hh hg (by decide)])) .z Tryz.isAgg95 rfl ?_; clear hs w a; intro a w hs
 refine st_call hs (.c rfl .n) Tryz.call95 (.c .z .n) (rbyte_ok  g _ _ bs R _ (hs.mem.rd1 hb (.c .z .n)) (hs.mem.del .z) (by omega)) rfl ?_; clear hs w a; rintro _ _ a w ⟨rfl, rfl⟩ hs; simp only [List.cons_append, List.nil_append] at hs
 have hk1 := rByte_le (bs := bs) (R := R) (by omega)
 refine goL 2 [] [10, 0] hs .n ?_; clear hs w a; intro a w hs
 refine ifG hs rfl (fun c_2 => ?_) (fun c_2 => ?_)
 ·
  replace c_2 := not_t c_2
  replace c_2 := ne_of_beq_f c_2
  refine go 3 [] [13] hs .n ?_; clear hs w a; intro a w hs
  refine st_ldE hs rfl (hs.mem.keep hh (by simp [feet, blk, blk_ne hh hg (by decide)])) .z Tryz.isAgg95 rfl ?_; clear hs w a; intro a w hs
  refine st_call hs (.c rfl (.c rfl .n)) Tryz.call74 (.c .z .n) (rfail_ok 7 g _ _ bs (((rByte bs R).2)) _ (hs.mem.rd1 hb (.c .z .n)) (hs.mem.del .z) (by omega)) rfl ?_; clear hs w a; rintro _ _ a w ⟨rfl, rfl⟩ hs; simp only [List.cons_append, List.nil_append] at hs
  have hk3 := rFail_le (e := 7) (bs := bs) (R := ((rByte bs R).2)) (by omega)
  refine goL 0 [] [] hs .n ?_; clear hs w a; intro a w hs
  exact fin0 hs rfl ⟨rfl, by unfold mustB; first | rw [if_neg (by omega)] | rw [if_pos (by omega)]⟩
 replace c_2 := not_f c_2
 replace c_2 := eq_of_beq c_2
 refine go 0 [] [] hs .n ?_; clear hs w a; intro a w hs
 exact fin0 hs rfl ⟨rfl, by unfold mustB; first | rw [if_neg (by omega)] | rw [if_pos (by omega)]⟩
theorem psigns_ok (g h : Nat) (v : Value) (m : Nat) (bs : List Byte) (R : Rs) (t tm b : Int) (q : Value) (w0 : World) (hb : Rd w0 [g] v 1 m (bytesV bs)) (hg : (blk g [v, .int .i64 (((R).p : Nat) : Int), .int .i64 (((R).e : Nat) : Int)] 127).p w0) (hh : (blk h [.pointer (some ⟨g, 0, none⟩), .int .i64 (t), .int .i64 (tm), .int .i64 (b), q] 98).p w0) (hle : R.p ≤ bs.length) : Calls Tryz.prog 45 #[.pointer (some ⟨h, 0, none⟩)] w0 (Ret w0 [g] fun u N => u = .tuple #[] ∧ N = [blk g [v, .int .i64 ((((gSigns bs R)).p : Nat) : Int), .int .i64 ((((gSigns bs R)).e : Nat) : Int)] 127]) := by
 have hbl : bs.length = m := by have := hb.len; simpa [bytesV] using this
 have hbe : m ≤ maxLen := hb.le
 simp only [maxLen] at hbe
 refine enterG (F0 := [(0, .pointer (some ⟨h, 0, none⟩))]) Tryz.func45 rfl rfl rfl (.c .n) (mem_one hg) fun a w hs => ?_
 refine go 1 [] [2, 0] hs .n ?_; clear hs w a; intro a w hs
 refine st_call hs (.c rfl (.c rfl .n)) Tryz.call70 (.c .z .n) (pmust_ok (71#8) g h _ _ bs R t tm b q _ (hs.mem.rd1 hb (.c .z .n)) (hs.mem.del .z) (hs.mem.keep hh (by simp [feet, blk, blk_ne hh hg (by decide)])) (by omega)) rfl ?_; clear hs w a; rintro _ _ a w ⟨rfl, rfl⟩ hs; simp only [List.cons_append, List.nil_append] at hs
 have hk1 := mustB_le (c := 71#8) (bs := bs) (R := R) (by omega)
 refine goL 1 [] [4] hs .n ?_; clear hs w a; intro a w hs
 refine st_call hs (.c rfl (.c rfl .n)) Tryz.call70 (.c .z .n) (pmust_ok (1#8) g h _ _ bs (((mustB (71#8) bs R))) t tm b q _ (hs.mem.rd1 hb (.c .z .n)) (hs.mem.del .z) (hs.mem.keep hh (by simp [feet, blk, blk_ne hh hg (by decide)])) (by omega)) rfl ?_; clear hs w a; rintro _ _ a w ⟨rfl, rfl⟩ hs; simp only [List.cons_append, List.nil_append] at hs
 have hk2 := mustB_le (c := 1#8) (bs := bs) (R := ((mustB (71#8) bs R))) (by omega)
 refine goL 0 [] [] hs .n ?_; clear hs w a; intro a w hs
 exact fin0 hs rfl ⟨rfl, rfl⟩
theorem pwhen_ok (g h : Nat) (v : Value) (m : Nat) (bs : List Byte) (R : Rs) (t tm b : Int) (q : Value) (w0 : World) (hb : Rd w0 [g, h] v 1 m (bytesV bs)) (hg : (blk g [v, .int .i64 (((R).p : Nat) : Int), .int .i64 (((R).e : Nat) : Int)] 127).p w0) (hh : (blk h [.pointer (some ⟨g, 0, none⟩), .int .i64 (t), .int .i64 (tm), .int .i64 (b), q] 98).p w0) (hle : R.p ≤ bs.length) : Calls Tryz.prog 46 #[.pointer (some ⟨h, 0, none⟩)] w0 (Ret w0 [g, h] fun u N => u = .tuple #[] ∧ N = [blk g [v, .int .i64 ((((gTm bs (gT bs R).2).2).p : Nat) : Int), .int .i64 ((((gTm bs (gT bs R).2).2).e : Nat) : Int)] 127, blk h [.pointer (some ⟨g, 0, none⟩), .int .i64 ((gT bs R).1), .int .i64 ((gTm bs (gT bs R).2).1), .int .i64 (b), q] 98]) := by
 have hbl : bs.length = m := by have := hb.len; simpa [bytesV] using this
 have hbe : m ≤ maxLen := hb.le
 simp only [maxLen] at hbe
 have hlim : (4294967295#64).toNat = 4294967295 := rfl
 refine enterG (F0 := [(0, .pointer (some ⟨h, 0, none⟩))]) Tryz.func46 rfl rfl rfl (.c .n) (mem_two hg hh (by simp [feet, blk, blk_ne hg hh (by decide)])) fun a w hs => ?_
 refine go 5 [0] [6, 2, 0] hs (.c (.s .z) .n) ⟨rfl, ?_⟩; clear hs w a; intro a w hs
 refine st_call hs (.c rfl (.c rfl .n)) Tryz.call71 (.c (.s .z) .n) (ruint_ok (4294967295#64) g _ _ bs R _ (hs.mem.rd1 hb (.c (.s .z) .n)) (hs.mem.del (.s .z)) (by omega)) rfl ?_; clear hs w a; rintro _ _ a w ⟨rfl, rfl⟩ hs; simp only [List.cons_append, List.nil_append] at hs
 have hk1 := rUint_le (X := 4294967295#64) (bs := bs) (R := R) (by omega)
 refine st_cv_u64_i64 (X := (rUint bs (4294967295#64) R).1) hs rfl rfl Tryz.underlying129 Tryz.underlying2 rfl ?_; clear hs w a; intro a w hs
 replace hs := hs.recell (v' := .int .i64 ((((rUint bs 4294967295#64 R).1.toNat : Nat) : Int))) (Option.some.inj (congrArg (fun z => some (Value.int .i64 z)) (toInt_lim (by omega))))
 refine goL 9 [0, 0] [16, 12, 0] hs (.c (.s .z) .n) ⟨rfl, rfl, ?_⟩; clear hs w a; intro a w hs
 refine st_call hs (.c rfl .n) Tryz.call72 (.c (.s .z) .n) (rint_ok  g _ _ bs (((rUint bs (4294967295#64) R).2)) _ (hs.mem.rd1 hb (.c (.s .z) .n)) (hs.mem.del (.s .z)) (by omega)) rfl ?_; clear hs w a; rintro _ _ a w ⟨rfl, rfl⟩ hs; simp only [List.cons_append, List.nil_append] at hs
 have hk2 := rInt_le (bs := bs) (R := ((rUint bs (4294967295#64) R).2)) (by omega)
 refine goL 9 [0, 0] [25, 0] hs (.c (.s .z) .n) ⟨rfl, rfl, ?_⟩; clear hs w a; intro a w hs
 refine st_callP (v := .bool (decide (-2305843009213693952 ≤ ((rInt bs (((rUint bs (4294967295#64) R).2))).1) ∧ ((rInt bs (((rUint bs (4294967295#64) R).2))).1) ≤ 2305843009213693952))) hs (.c rfl .n) Tryz.call73 (timely_ok ((rInt bs (((rUint bs (4294967295#64) R).2))).1) _) rfl ?_; clear hs w a; intro a w hs
 refine goL 1 [] [27, 0] hs .n ?_; clear hs w a; intro a w hs
 refine ifG hs rfl (fun c_3 => ?_) (fun c_3 => ?_)
 ·
  replace c_3 := not_t c_3
  replace c_3 := of_decide_eq_false c_3
  refine go 4 [0] [31] hs (.c .z .n) ⟨rfl, ?_⟩; clear hs w a; intro a w hs
  refine st_call hs (.c rfl (.c rfl .n)) Tryz.call74 (.c (.s .z) .n) (rfail_ok 3 g _ _ bs (((rInt bs (((rUint bs (4294967295#64) R).2))).2)) _ (hs.mem.rd1 hb (.c (.s .z) .n)) (hs.mem.del (.s .z)) (by omega)) rfl ?_; clear hs w a; rintro _ _ a w ⟨rfl, rfl⟩ hs; simp only [List.cons_append, List.nil_append] at hs
  have hk4 := rFail_le (e := 3) (bs := bs) (R := ((rInt bs (((rUint bs (4294967295#64) R).2))).2)) (by omega)
  refine goL 0 [] [] hs .n ?_; clear hs w a; intro a w hs
  have hT_ : gTm bs (gT bs R).2 = ((rInt bs (((rUint bs (4294967295#64) R).2))).1, ((rFail 3 (((rInt bs (((rUint bs (4294967295#64) R).2))).2))))) := by unfold gTm gT; dsimp only; first | rw [if_pos (by omega)] | rw [if_neg (by omega)]
  exact fin0 hs rfl ⟨rfl, by rw [hT_]; rfl⟩
 replace c_3 := not_f c_3
 replace c_3 := of_decide_eq_true c_3
 refine go 0 [] [] hs .n ?_; clear hs w a; intro a w hs
 replace hs := hs.reorder (.c (.s .z) (.c .z .n))
 have hT_ : gTm bs (gT bs R).2 = ((rInt bs (((rUint bs (4294967295#64) R).2))).1, ((rInt bs (((rUint bs (4294967295#64) R).2))).2)) := by unfold gTm gT; dsimp only; first | rw [if_pos (by omega)] | rw [if_neg (by omega)]
 exact fin0 hs rfl ⟨rfl, by rw [hT_]; rfl⟩
theorem pbase_ok (g h : Nat) (v : Value) (m : Nat) (bs : List Byte) (R : Rs) (t tm b : Int) (q : Value) (w0 : World) (hb : Rd w0 [g, h] v 1 m (bytesV bs)) (hg : (blk g [v, .int .i64 (((R).p : Nat) : Int), .int .i64 (((R).e : Nat) : Int)] 127).p w0) (hh : (blk h [.pointer (some ⟨g, 0, none⟩), .int .i64 (t), .int .i64 (tm), .int .i64 (b), q] 98).p w0) (hle : R.p ≤ bs.length) (ht : 0 ≤ t ∧ t ≤ 4294967295) : Calls Tryz.prog 47 #[.pointer (some ⟨h, 0, none⟩)] w0 (Ret w0 [g, h] fun u N => u = .tuple #[] ∧ N = [blk g [v, .int .i64 ((((gB bs t R).2).p : Nat) : Int), .int .i64 ((((gB bs t R).2).e : Nat) : Int)] 127, blk h [.pointer (some ⟨g, 0, none⟩), .int .i64 (t), .int .i64 (tm), .int .i64 ((gB bs t R).1), q] 98]) := by
 have hbl : bs.length = m := by have := hb.len; simpa [bytesV] using this
 have hbe : m ≤ maxLen := hb.le
 simp only [maxLen] at hbe
 have hot := ofInt64 (x := t) (by omega) (by omega)
 refine enterG (F0 := [(0, .pointer (some ⟨h, 0, none⟩))]) Tryz.func47 rfl rfl rfl (.c .n) (mem_two hg hh (by simp [feet, blk, blk_ne hg hh (by decide)])) fun a w hs => ?_
 refine go 5 [0] [0] hs (.c (.s .z) .n) ⟨rfl, ?_⟩; clear hs w a; intro a w hs
 have hk2 := rUint_le (X := BitVec.ofInt 64 t) (bs := bs) (R := R) (by omega)
 refine wp_drawS [.p [] [], .p [0] [], .p [1] [], .p [2] [0], .p [] [], .p [4] [], .p [5] [], .p [6] [], .p [7] [0], .v [8] (.int .u64 ((((BitVec.ofInt 64 t).toNat : Nat) : Int))), .x [9, 3] ⟨[blk g [v, .int .i64 (((R.p : Nat) : Int)), .int .i64 (((R.e : Nat) : Int))] 127], [], [], fun vs1 => vs1 10 = .int .u64 (((((rUint bs (BitVec.ofInt 64 t) R).1).toNat : Nat) : Int)), fun vs1 => [blk g [v, .int .i64 (((((rUint bs (BitVec.ofInt 64 t) R).2).p : Nat) : Int)), .int .i64 (((((rUint bs (BitVec.ofInt 64 t) R).2).e : Nat) : Int))] 127], none⟩, .x [] ⟨[], [], [], fun vs1 => vs1 11 = .int .i64 ((((rUint bs (BitVec.ofInt 64 t) R).1.toNat : Nat) : Int)), fun vs1 => [], none⟩, .x [] ⟨[], [], [], fun vs1 => vs1 12 = .int .i64 ((((rUint bs (BitVec.ofInt 64 t) R).1.toNat : Nat) : Int)), fun vs1 => [], none⟩] [] hs (.c (.s .z) .n) (.c .z .n) (by kernel_rfl) ⟨rfl, rfl, ?_, ⟨rfl, by kernel_rfl, fun _ => rfl⟩, ⟨?_, ?_, ?_, trivial⟩, ?_⟩
 ·
  intro a_ w_ R_ Q_ hm hs K_
  refine st_cv_u64 hs rfl Tryz.underlying2 Tryz.underlying129 rfl ?_; clear hs; intro a w hs
  exact wpList_nil (K_ _ _ hs)
 ·
  intro a_ w_ R_ rest_ vs1 hm hs ht hx
  have hs0 := hs.bare
  refine st_call hs (.c rfl (.c rfl .n)) Tryz.call71 (.c .z .n) (ruint_ok (BitVec.ofInt 64 t) g _ _ bs R _ (hm.rd1 hb (Dels.app _ _)) (hs.mem.del .z) (by omega)) rfl ?_; clear hs; rintro _ _ a w ⟨rfl, rfl⟩ hs; simp only [List.cons_append, List.nil_append] at hs
  have hk2 := rUint_le (X := BitVec.ofInt 64 t) (bs := bs) (R := R) (by omega)
  exact wpList_nil ⟨rfl, _, _, hs0, (.c (.c .r)), hs, rfl⟩
 ·
  intro a_ w_ R_ rest_ vs1 hm hs ht hx
  have t10 := ht 10 (twB_spec 13 _ (by kernel_rfl))
  have e10 : _ = some (vs1 10) := t10.val rfl
  rw [show vs1 10 = .int .u64 (((((rUint bs (BitVec.ofInt 64 t) R).1).toNat : Nat) : Int)) from t10.2.1] at e10
  replace hs := hs.learn e10
  have hs0 := hs.bare
  refine st_cv_u64_i64 (X := (rUint bs (BitVec.ofInt 64 t) R).1) hs rfl rfl Tryz.underlying129 Tryz.underlying2 rfl ?_; clear hs; intro a w hs
  replace hs := hs.recell (v' := .int .i64 ((((rUint bs (BitVec.ofInt 64 t) R).1.toNat : Nat) : Int))) (Option.some.inj (congrArg (fun z => some (Value.int .i64 z)) (toInt_lim (by omega))))
  exact wpList_nil ⟨rfl, _, _, hs0, (.c .r), hs, rfl⟩
 ·
  intro a_ w_ R_ rest_ vs1 hm hs ht hx
  have t11 := ht 11 (twB_spec 13 _ (by kernel_rfl))
  have e11 : _ = some (vs1 11) := t11.val rfl
  rw [show vs1 11 = .int .i64 ((((rUint bs (BitVec.ofInt 64 t) R).1.toNat : Nat) : Int)) from t11.2.1] at e11
  replace hs := hs.learn e11
  have hs0 := hs.bare
  refine st_as hs rfl rfl ?_; clear hs; intro a w hs
  exact wpList_nil ⟨rfl, _, _, hs0, (.c .r), hs, rfl⟩
 clear hs w a; intro vs1 a w hs hf
 obtain ⟨e12, q12⟩ := hf 12 (by decide)
 replace e12 : _ = some (vs1 12) := e12.val rfl
 rw [show vs1 12 = .int .i64 ((((rUint bs (BitVec.ofInt 64 t) R).1.toNat : Nat) : Int)) from q12] at e12
 replace hs := hs.learn e12; clear e12 q12
 clear hf
 refine goE 2 [] [20, 2, 0] hs .n ?_; clear hs w a; intro a w hs
 refine ifG hs rfl (fun c_3 => ?_) (fun c_3 => ?_)
 ·
  replace c_3 := of_decide_eq_true c_3
  refine go 12 [0, 0] [] hs (.c .z .n) ⟨rfl, (by omega), rfl, ?_⟩; clear hs w a; intro a w hs
  replace hs := hs.reorder (.c (.s .z) (.c .z .n))
  exact fin0 hs rfl ⟨rfl, by unfold gB; first | rw [if_pos (by omega)] | rw [if_neg (by omega)]⟩
 replace c_3 := of_decide_eq_false c_3
 refine go 0 [] [] hs .n ?_; clear hs w a; intro a w hs
 replace hs := hs.reorder (.c (.s .z) (.c .z .n))
 exact fin0 hs rfl ⟨rfl, by unfold gB; first | rw [if_pos (by omega)] | rw [if_neg (by omega)]⟩
theorem precs_ok (g h : Nat) (v : Value) (m : Nat) (bs : List Byte) (R : Rs) (t tm b : Int) (w0 : World) (hb : Rd w0 [g, h] v 1 m (bytesV bs)) (hg : (blk g [v, .int .i64 (((R).p : Nat) : Int), .int .i64 (((R).e : Nat) : Int)] 127).p w0) (hh : (blk h [.pointer (some ⟨g, 0, none⟩), .int .i64 (t), .int .i64 (tm), .int .i64 (b), .slice none 0 0] 98).p w0) (hle : R.p ≤ bs.length) : Calls Tryz.prog 48 #[.pointer (some ⟨h, 0, none⟩)] w0 (Ret w0 [g, h] fun u N => u = .tuple #[] ∧ ∃ v', N = [blk g [v, .int .i64 ((((gRecs bs R (gN bs R)).2.2).p : Nat) : Int), .int .i64 ((((gRecs bs R (gN bs R)).2.2).e : Nat) : Int)] 127, blk h [.pointer (some ⟨g, 0, none⟩), .int .i64 (t), .int .i64 (tm), .int .i64 (b), v'] 98, row v' 78 9 (gRecs bs R (gN bs R)).1.length ((gRecs bs R (gN bs R)).1.flatMap recV)]) := by
 have hbl : bs.length = m := by have := hb.len; simpa [bytesV] using this
 have hbe : m ≤ maxLen := hb.le
 simp only [maxLen] at hbe
 have hgn : gN bs R = (rUint bs 128#64 R).1.toNat := rfl
 have hgm := gN_le bs R
 refine enterG (F0 := [(0, .pointer (some ⟨h, 0, none⟩))]) Tryz.func48 rfl rfl rfl (.c .n) (mem_two hg hh (by simp [feet, blk, blk_ne hg hh (by decide)])) fun a w hs => ?_
 refine go 5 [0] [8, 2, 0] hs (.c (.s .z) .n) ⟨rfl, ?_⟩; clear hs w a; intro a w hs
 refine st_call hs (.c rfl (.c rfl .n)) Tryz.call71 (.c (.s .z) .n) (ruint_ok (128#64) g _ _ bs R _ (hs.mem.rd1 hb (.c (.s .z) .n)) (hs.mem.del (.s .z)) (by omega)) rfl ?_; clear hs w a; rintro _ _ a w ⟨rfl, rfl⟩ hs; simp only [List.cons_append, List.nil_append] at hs
 have hk1 := rUint_le (X := 128#64) (bs := bs) (R := R) (by omega)
 refine goL 1 [] [10, 9, 2, 0] hs .n ?_; clear hs w a; intro a w hs
 replace hs := hs.addNil 78 9
 replace hs := hs.rerow .z (m' := (gRecs bs R 0).1.length) (xs' := ((gRecs bs R 0).1.flatMap recV)) (rfl) (rfl)
 replace hs := hs.reblk (.s .z) (cs' := [v, .int .i64 ((((gRecs bs R 0).2.2.p : Nat) : Int)), .int .i64 ((((gRecs bs R 0).2.2.e : Nat) : Int))]) rfl
 replace hs := hs.reorder (.c .z (.c (.s .z) (.c .z .n)))
 refine loopG (fun mm_ a w => ∃ i : Nat, ∃ p : Value, mm_ = gN bs R - i ∧ St 38 [(0, .pointer (some ⟨h, 0, none⟩)), (2, .int .i64 ((gRecs bs R i).2.1)), (9, .int .u64 (((((rUint bs (128#64) R).1).toNat : Nat) : Int))), (10, .int .u64 ((((BitVec.ofNat 64 i).toNat : Nat) : Int)))] w0 [g, h] [blk g [v, .int .i64 (((((gRecs bs R i).2.2).p : Nat) : Int)), .int .i64 (((((gRecs bs R i).2.2).e : Nat) : Int))] 127, blk h [.pointer (some ⟨g, 0, none⟩), .int .i64 (t), .int .i64 (tm), .int .i64 (b), p] 98, row p 78 9 ((gRecs bs R i).1.length) (((gRecs bs R i).1.flatMap recV))] a w ∧ i ≤ gN bs R ∧ GInv bs i (gRecs bs R i) ∧ (gN bs R ≤ i ∨ (gRecs bs R i).2.2.e = 0)) ⟨0, .slice none 0 0, rfl, hs.sub (.c rfl (.c rfl (.c rfl (.c rfl .n)))), by omega, gRecs_inv hle 0, gRecs_e0⟩ ?_
 clear hs w a; rintro mm_ a w ⟨i, p, rfl, hs, hI1_0, hI1_1, hI1_2⟩
 have hip := hI1_1.p
 have hil := hI1_1.lo
 have hih := hI1_1.hi
 have hin := hI1_1.len
 have hit : (BitVec.ofNat 64 i).toNat = i := by rw [BitVec.toNat_ofNat]; omega
 refine go 1 [] [11, 0, 2, 9, 10] hs .n ?_; clear hs w a; intro a w hs
 refine ifG hs rfl (fun c_2 => ?_) (fun c_2 => ?_)
 ·
  replace c_2 := of_decide_eq_true c_2
  refine go 5 [0] [17, 16, 0, 9, 10] hs (.c (.s .z) .n) ⟨rfl, ?_⟩; clear hs w a; intro a w hs
  refine st_call hs (.c rfl (.c rfl .n)) Tryz.call75 (.c (.s .z) .n) (read_ok g _ _ bs (((gRecs bs R i).2.2)) ((gRecs bs R i).2.1) _ (hs.mem.rd1 hb (.c (.s .z) .n)) (hs.mem.del (.s .z)) (by omega) (by omega)) rfl ?_; clear hs w a; rintro _ _ a w ⟨rfl, rfl⟩ hs; simp only [List.cons_append, List.nil_append] at hs
  have hk3 := rdRec_le (bs := bs) (last := ((gRecs bs R i).2.1)) (R := ((gRecs bs R i).2.2)) (by omega)
  refine goL 8 [0] [22, 3, 0, 9, 10] hs .n (fun g4 => ⟨rfl, ?_⟩); clear hs w a; intro a w hs
  refine ifG hs rfl (fun c_5 => ?_) (fun c_5 => ?_)
  ·
   replace c_5 := not_t c_5
   replace c_5 := ne_of_beq_f c_5
   refine go 0 [] [] hs .n ?_; clear hs w a; intro a w hs
   replace hs := hs.drop (.c .z .n)
   have hE_ := gRecs_end (bs := bs) (R := R) (i := i) hle (by omega) (by omega) (by omega)
   exact fin0r hs rfl ⟨rfl, p, by rw [hE_]⟩
  replace c_5 := not_f c_5
  replace c_5 := eq_of_beq c_5
  refine go 0 [] [3, 0, 9, 10] hs .n ?_; clear hs w a; intro a w hs
  refine wp_drawS [.p [] [], .p [] [], .p [1] [], .p [2] [], .p [3] [], .x [4] ⟨[], [], [], fun vs6 => vs6 5 = p, fun vs6 => [], none⟩, .p [] [0], .x [6] ⟨[], [], [], fun vs6 => vs6 7 = .slice (some ⟨(ptrG (vs6 7)), 0, none⟩) 1 1, fun vs6 => [blk (ptrG (vs6 7)) [.int .i64 (((rdRec bs ((gRecs bs R i).2.1) (((gRecs bs R i).2.2))).1).k), .int .i64 (((rdRec bs ((gRecs bs R i).2.1) (((gRecs bs R i).2.2))).1).id), .int .i64 (((rdRec bs ((gRecs bs R i).2.1) (((gRecs bs R i).2.2))).1).p0), .int .i64 (((rdRec bs ((gRecs bs R i).2.1) (((gRecs bs R i).2.2))).1).p1), .int .i64 (((rdRec bs ((gRecs bs R i).2.1) (((gRecs bs R i).2.2))).1).p2), .int .i64 (((rdRec bs ((gRecs bs R i).2.1) (((gRecs bs R i).2.2))).1).v0), .int .i64 (((rdRec bs ((gRecs bs R i).2.1) (((gRecs bs R i).2.2))).1).v1), .int .i64 (((rdRec bs ((gRecs bs R i).2.1) (((gRecs bs R i).2.2))).1).v2), .int .u16 ((((((rdRec bs ((gRecs bs R i).2.1) (((gRecs bs R i).2.2))).1).a).toNat : Nat) : Int))] 78], none⟩, .x [] ⟨[row p 78 9 ((gRecs bs R i).1.length) (((gRecs bs R i).1.flatMap recV))], [], [], fun vs6 => True, fun vs6 => [row (vs6 8) 78 9 (((gRecs bs R i).1.length) + 1) ((((gRecs bs R i).1.flatMap recV)) ++ ([.int .i64 (((rdRec bs ((gRecs bs R i).2.1) (((gRecs bs R i).2.2))).1).k), .int .i64 (((rdRec bs ((gRecs bs R i).2.1) (((gRecs bs R i).2.2))).1).id), .int .i64 (((rdRec bs ((gRecs bs R i).2.1) (((gRecs bs R i).2.2))).1).p0), .int .i64 (((rdRec bs ((gRecs bs R i).2.1) (((gRecs bs R i).2.2))).1).p1), .int .i64 (((rdRec bs ((gRecs bs R i).2.1) (((gRecs bs R i).2.2))).1).p2), .int .i64 (((rdRec bs ((gRecs bs R i).2.1) (((gRecs bs R i).2.2))).1).v0), .int .i64 (((rdRec bs ((gRecs bs R i).2.1) (((gRecs bs R i).2.2))).1).v1), .int .i64 (((rdRec bs ((gRecs bs R i).2.1) (((gRecs bs R i).2.2))).1).v2), .int .u16 ((((((rdRec bs ((gRecs bs R i).2.1) (((gRecs bs R i).2.2))).1).a).toNat : Nat) : Int))]))], none⟩, .p [] [], .p [9] [0], .p [0] [], .p [11] [], .p [12] [], .x [13] ⟨[blk h [.pointer (some ⟨g, 0, none⟩), .int .i64 (t), .int .i64 (tm), .int .i64 (b), p] 98], [], [8], fun vs6 => True, fun vs6 => [blk h [.pointer (some ⟨g, 0, none⟩), .int .i64 (t), .int .i64 (tm), .int .i64 (b), (vs6 8)] 98], none⟩, .p [10] []] [15] hs (.c (.s (.s (.s .z))) (.c (.s (.s .z)) .n)) (.c .z .n) (by kernel_rfl) ⟨rfl, rfl, ⟨rfl, by kernel_rfl, fun _ => rfl⟩, ⟨?_, ?_, ?_, ?_, trivial⟩, ?_⟩
  ·
   intro a_ w_ R_ rest_ vs6 hm hs ht hx
   have hs0 := hs.bare
   refine st_ldE hs rfl (hm.own (List.mem_append.2 (.inr ((hx 14 (twB_spec 16 _ (by kernel_rfl))).1 _ (List.Mem.head _))))) (.s (.s (.s (.s .z)))) Tryz.isAgg27 rfl ?_; clear hs; intro a w hs
   exact wpList_nil ⟨rfl, _, _, hs0, (.c .r), hs, rfl⟩
  ·
   intro a_ w_ R_ rest_ vs6 hm hs ht hx
   have hs0 := hs.bare
   refine st_bs (cs := [.int .i64 (((rdRec bs ((gRecs bs R i).2.1) (((gRecs bs R i).2.2))).1).k), .int .i64 (((rdRec bs ((gRecs bs R i).2.1) (((gRecs bs R i).2.2))).1).id), .int .i64 (((rdRec bs ((gRecs bs R i).2.1) (((gRecs bs R i).2.2))).1).p0), .int .i64 (((rdRec bs ((gRecs bs R i).2.1) (((gRecs bs R i).2.2))).1).p1), .int .i64 (((rdRec bs ((gRecs bs R i).2.1) (((gRecs bs R i).2.2))).1).p2), .int .i64 (((rdRec bs ((gRecs bs R i).2.1) (((gRecs bs R i).2.2))).1).v0), .int .i64 (((rdRec bs ((gRecs bs R i).2.1) (((gRecs bs R i).2.2))).1).v1), .int .i64 (((rdRec bs ((gRecs bs R i).2.1) (((gRecs bs R i).2.2))).1).v2), .int .u16 ((((((rdRec bs ((gRecs bs R i).2.1) (((gRecs bs R i).2.2))).1).a).toNat : Nat) : Int))]) hs (.c .n) (.c rfl .n) Tryz.underlying27 (ie := Tryz.t78) rfl rfl rfl rfl (by decide) (by decide) rfl (by decide) rfl rfl rfl ?_; clear hs; intro g7 a w hs
   exact wpList_nil ⟨rfl, _, _, hs0, (.c .r), hs, rfl⟩
  ·
   intro a_ w_ R_ rest_ vs6 hm hs ht hx
   have t5 := ht 5 (twB_spec 16 _ (by kernel_rfl))
   have e5 : _ = some (vs6 5) := t5.val rfl
   rw [show vs6 5 = p from t5.2.1] at e5
   replace hs := hs.learn e5
   have t7 := ht 7 (twB_spec 16 _ (by kernel_rfl))
   have e7 : _ = some (vs6 7) := t7.val rfl
   rw [show vs6 7 = .slice (some ⟨(ptrG (vs6 7)), 0, none⟩) 1 1 from t7.2.1] at e7
   replace hs := hs.learn e7
   have hs0 := hs.bare
   refine st_app (size := 9) (bytes := 72) hs rfl rfl .z (rd_blk (m := 1) (size := 9) (hm.own (List.mem_append.2 (.inr ((ht 7 (twB_spec 16 _ (by kernel_rfl))).2.2 (later (n := 16) (by kernel_rfl)) _ (List.Mem.head _))))) rfl (by decide)) (by simp [Value.oneCell']) Tryz.underlying27 (i := Tryz.t78) rfl rfl rfl rfl rfl (by decide) (by omega) (by simp only [maxLen]; omega) rfl ?_; clear hs; intro v8 a w hs
   exact wpList_nil ⟨rfl, _, _, hs0, (.c (.c .r)), hs, trivial⟩
  ·
   intro a_ w_ R_ rest_ vs6 hm hs ht hx
   have t8 := ht 8 (twB_spec 16 _ (by kernel_rfl))
   have e8 : _ = some (vs6 8) := t8.val rfl
   replace hs := hs.learn e8
   have hs0 := hs.bare
   refine st_stB hs rfl rfl .z (.s (.s (.s (.s .z)))) (rd_row (hm.own (List.mem_append.2 (.inr ((ht 8 (twB_spec 16 _ (by kernel_rfl))).2.2 (later (n := 16) (by kernel_rfl)) _ (List.Mem.head _)))))).isSl.one Tryz.sizeOf27 ?_; clear hs; intro a w hs
   exact wpList_nil ⟨rfl, .tuple #[], _, hs0, (.c (.c .r)), hs, trivial⟩
  clear hs w a; intro vs6 a w hs hf
  generalize ptrG (vs6 7) = g9 at hs
  generalize vs6 8 = v10 at hs
  clear hf
  refine goE 0 [] [2, 0, 9, 10] hs .n ?_; clear hs w a; intro a w hs
  refine st_add_u64 (X := BitVec.ofNat 64 i) (Y := 1#64) hs rfl rfl rfl (by decide) rfl ?_; clear hs w a; intro a w hs
  refine goL 1 [] [10, 2, 0, 9] hs .n ?_; clear hs w a; intro a w hs
  have hO_ := gRecs_ok (bs := bs) (R := R) (i := i) (by omega) (by omega)
  replace hs := hs.rerow (.s (.s (.s .z))) (m' := (gRecs bs R (i + 1)).1.length) (xs' := ((gRecs bs R (i + 1)).1.flatMap recV)) (by rw [hO_]; simp only [List.length_append, List.length_singleton]) (by rw [hO_]; dsimp only; rw [List.flatMap_append]; rfl)
  replace hs := hs.reblk (.s (.s .z)) (cs' := [v, .int .i64 ((((gRecs bs R (i + 1)).2.2.p : Nat) : Int)), .int .i64 ((((gRecs bs R (i + 1)).2.2.e : Nat) : Int))]) (by rw [hO_])
  replace hs := hs.reslot (d := 2) (v := .int .i64 (((rdRec bs ((gRecs bs R i).2.1) (((gRecs bs R i).2.2))).1).id)) (v' := .int .i64 ((gRecs bs R (i + 1)).2.1)) rfl (Option.some.inj (by rw [hO_]))
  replace hs := hs.reslot (d := 10) (v := .int .u64 (((((BitVec.ofNat 64 i) + (1#64)).toNat : Nat) : Int))) (v' := .int .u64 ((((BitVec.ofNat 64 (i + 1)).toNat : Nat) : Int))) rfl (Option.some.inj (by rw [ofNat_succ64]))
  replace hs := hs.drop (.c (.s (.s (.s .z))) (.c (.s (.s .z)) .n))
  replace hs := hs.reorder (.c .z (.c (.s .z) (.c .z .n)))
  refine ⟨_, ?_, i + 1, v10, rfl, hs.sub (.c rfl (.c rfl (.c rfl (.c rfl .n)))), by omega, gRecs_inv hle (i + 1), .inr (gRecs_next hle (by omega) (by omega))⟩
  omega
 replace c_2 := of_decide_eq_false c_2
 refine go 0 [] [] hs .n ?_; clear hs w a; intro a w hs
 have hE_ : i = gN bs R := by omega
 exact fin0 hs rfl ⟨rfl, p, by rw [← hE_]⟩
end Go.Proofs.YtbioemaipghagaaGreat
