/- Walks of the document's datagrams off bytes: what each function does, over the program of this seat. Printed by a program of this session. -/
import Derived.Test.YtkobgcoegajfcaaWrec3
import Derived.Test.YtkobgcoegajfcaaWcrc
import Derived.Test.YtkobgcoegajfcaaSxPgramR
import Derived.Test.YtkobgcoegajfcaaSxRrd
namespace Go.Proofs.Ytkobgcoegajfcaa
open Go Go.Sx Go.RowKit
set_option linter.unusedVariables false
set_option linter.unusedSimpArgs false
set_option maxRecDepth 4000
set_option maxHeartbeats 1000000

theorem msign_ok (c : Byte) (g : Nat) (u : Value) (bs : List Byte) (R : Rs) (w0 : World) (hb : Rd w0 [g] u 1 (bs.length - R.p) (bytesV (bs.drop R.p))) (hg : (blk g [u, .int .i64 (((R).p : Nat) : Int), .int .i64 (((R).e : Nat) : Int)] 44).p w0) (hle : R.p ≤ bs.length) (hlm : bs.length ≤ maxLen) : Calls Try.prog 72 #[.pointer (some ⟨g, 0, none⟩), .int .u8 (((c.toNat : Nat) : Int))] w0 (Ret w0 [g] fun x N => ∃ u', x = .tuple #[] ∧ N = [blk g [u', .int .i64 ((((mustB c bs R)).p : Nat) : Int), .int .i64 ((((mustB c bs R)).e : Nat) : Int)] 44] ∧ Tr bs u R.p u' (mustB c bs R).p) := by
  simp only [maxLen] at hlm
  refine enter (F0 := [(0, .pointer (some ⟨g, 0, none⟩)), (1, .int .u8 ((((c).toNat : Nat) : Int)))]) Try.func72 rfl rfl rfl (.c (.c .n)) (mem_one hg) fun a w hs => ?_
  refine wp_seq_k fun K1 hK2 => ?_
  refine wp_region_lit ?_
  refine st_mv hs rfl rfl ?_; clear hs w a; intro a w hs
  refine st_call hs (.c rfl .n) Try.call58 (.c .z .n) (mbyte_ok  g _ bs R _ (hs.mem.rd1 hb (.c .z .n)) (hs.mem.del .z) (by omega) (by simp only [maxLen]; omega)) rfl ?_; clear hs w a; rintro _ _ a w ⟨rfl, rfl⟩ hs; simp only [List.cons_append, List.nil_append] at hs
  have hk3 := rByte_le (bs := bs) (R := R) (by omega)
  refine st_run 2 [(7, .bool (!((((((rByte bs R).1).toNat : Nat) : Int) : Int) == ((((c).toNat : Nat) : Int)))))] hs .n (by kernel_rfl) (by kernel_rfl) (by kernel_rfl) ?_; clear hs a; intro a hs
  refine wpList_nil ?_
  refine then_n (hK2 _ _ ?_)
  refine wp_if hs rfl (fun hc4 => ?_) (fun hc4 => ?_)
  ·
   replace hc4 := not_t hc4
   replace hc4 := ne_of_beq_f hc4
   refine wp_region_lit ?_
   refine st_mv hs rfl rfl ?_; clear hs w a; intro a w hs
   refine st_call hs (.c rfl (.c rfl .n)) Try.call56 (.c .z .n) (mfail_ok 7 g _ bs (((rByte bs R).2)) _ ((uNext_tr (p := R.p) (p' := ((rByte bs R).2).p) (by omega) (by omega)) _ _ (hs.mem.rd1 hb (.c .z .n))) (hs.mem.del .z) (by omega) (by simp only [maxLen]; omega)) rfl ?_; clear hs w a; rintro _ _ a w ⟨rfl, rfl⟩ hs; simp only [List.cons_append, List.nil_append] at hs
   have hk5 := rFail_le (bs := bs) (R := ((rByte bs R).2)) (e := 7) (by omega)
   refine wpList_nil ?_
   have hM_ : mustB c bs R = ((rFail 7 (((rByte bs R).2)))) := by unfold mustB; rw [if_neg (by omega)]
   exact fin0 hs rfl (by rw [hM_]; exact ⟨_, rfl, rfl, (fun w T h => (fail_tr (bs := bs) (R := ((rByte bs R).2)) (e := 7)) w T ((fun w T h => (uNext_tr (p := R.p) (p' := ((rByte bs R).2).p) (by omega) (by omega)) w T (Tr.refl w T h)) w T h))⟩)
  replace hc4 := not_f hc4
  replace hc4 := eq_of_beq hc4
  refine wp_skip ?_
  have hM_ : mustB c bs R = ((rByte bs R).2) := by unfold mustB; rw [if_pos (by omega)]
  exact fin0 hs rfl (by rw [hM_]; exact ⟨_, rfl, rfl, (fun w T h => (uNext_tr (p := R.p) (p' := ((rByte bs R).2).p) (by omega) (by omega)) w T (Tr.refl w T h))⟩)
theorem gmread_long (v : Value) (m : Nat) (bs : List Byte) (w0 : World) (hb : Rd w0 [] v 1 m (bytesV bs)) (hm : 4096 < m) : Calls Try.prog 42 #[v] w0 (Ret w0 [] fun u N => ∃ v', u = .tuple #[.agg #[.int .i64 ((gRead bs).t), .int .i64 ((gRead bs).tm), .int .i64 ((gRead bs).b), v'], .int .i64 (((gRead bs).e : Nat) : Int)] ∧ N = [row v' 25 9 (gRead bs).l.length ((gRead bs).l.flatMap recV)]) := by
  have hbl : bs.length = m := by have := hb.len; simpa [bytesV] using this
  have hbe : m ≤ maxLen := hb.le
  simp only [maxLen] at hbe
  refine enter (F0 := [(0, v)]) Try.func42 rfl rfl rfl (.c .n) (Mem.nil _) fun a w hs => ?_
  refine wp_seq_k fun K1 hK2 => ?_
  refine wp_region_lit ?_
  refine st_alloc (cs := [.int .i64 (0), .int .i64 (0), .int .i64 (0), .slice none 0 0]) hs Try.zeroValue69 rfl rfl ?_; clear hs w a; intro g3 a w hs
  refine st_as hs rfl rfl ?_; clear hs w a; intro a w hs
  refine wpList_nil ?_
  refine then_n (hK2 _ _ ?_)
  refine wp_seq_k fun K4 hK5 => ?_
  refine wp_seq_k fun K6 hK7 => ?_
  refine wp_region_lit ?_
  refine st_mv hs rfl rfl ?_; clear hs w a; intro a w hs
  refine st_len hs rfl (hs.rd0 hb).isSl Try.underlying26 rfl ?_; clear hs w a; intro a w hs
  refine st_gtr hs rfl rfl rfl ?_; clear hs w a; intro a w hs
  refine wpList_nil ?_
  refine then_n (hK7 _ _ ?_)
  refine wp_if hs rfl (fun hc8 => ?_) (fun hc8 => ?_)
  ·
   replace hc8 := of_decide_eq_true hc8
   refine wp_seq_k fun K9 hK10 => ?_
   refine wp_region_lit ?_
   refine st_build (it := Try.t69) (zs := [.int .i64 (0), .int .i64 (0), .int .i64 (0), .slice none 0 0]) (places := [(0, 1), (1, 1), (2, 1), (3, 1)]) hs .n Try.underlying69 rfl rfl rfl rfl .n rfl ?_; clear hs w a; intro a w hs
   refine st_stBA hs rfl rfl .z (.z (.c (.c (.c (.c .n))))) (ones_c rfl (ones_c rfl (ones_c rfl (ones_c rfl ones_n)))) Try.sizeOf69 rfl ?_; clear hs w a; intro a w hs
   refine st_as hs rfl rfl ?_; clear hs w a; intro a w hs
   refine wpList_nil ?_
   refine then_n (hK10 _ _ ?_)
   refine wp_ret ?_
   refine th_r ?_
   replace hs := hs.addNil 25 9
   have hG_ := gRead_long (bs := bs) (by omega)
   exact finC2 hs rfl rfl rfl (.s .z) (.z (.c (.c (.c (.c .n))))) Try.isAgg69 Try.sizeOf69 (.c (.s .z) .n) (by rw [hG_]; dsimp only; exact ⟨.slice none 0 0, rfl, rfl⟩)
  replace hc8 := of_decide_eq_false hc8
  exfalso; omega
theorem gmread_none (v : Value) (m : Nat) (bs : List Byte) (w0 : World) (hb : Rd w0 [] v 1 m (bytesV bs)) (hm : m ≤ 4096) (ho : open_ bs = none) : Calls Try.prog 42 #[v] w0 (Ret w0 [] fun u N => ∃ v', u = .tuple #[.agg #[.int .i64 ((gRead bs).t), .int .i64 ((gRead bs).tm), .int .i64 ((gRead bs).b), v'], .int .i64 (((gRead bs).e : Nat) : Int)] ∧ N = [row v' 25 9 (gRead bs).l.length ((gRead bs).l.flatMap recV)]) := by
  have hbl : bs.length = m := by have := hb.len; simpa [bytesV] using this
  have hbe : m ≤ maxLen := hb.le
  simp only [maxLen] at hbe
  refine enter (F0 := [(0, v)]) Try.func42 rfl rfl rfl (.c .n) (Mem.nil _) fun a w hs => ?_
  refine wp_seq_k fun K1 hK2 => ?_
  refine wp_region_lit ?_
  refine st_alloc (cs := [.int .i64 (0), .int .i64 (0), .int .i64 (0), .slice none 0 0]) hs Try.zeroValue69 rfl rfl ?_; clear hs w a; intro g3 a w hs
  refine st_as hs rfl rfl ?_; clear hs w a; intro a w hs
  refine wpList_nil ?_
  refine then_n (hK2 _ _ ?_)
  refine wp_seq_k fun K4 hK5 => ?_
  refine wp_seq_k fun K6 hK7 => ?_
  refine wp_region_lit ?_
  refine st_mv hs rfl rfl ?_; clear hs w a; intro a w hs
  refine st_len hs rfl (hs.rd0 hb).isSl Try.underlying26 rfl ?_; clear hs w a; intro a w hs
  refine st_gtr hs rfl rfl rfl ?_; clear hs w a; intro a w hs
  refine wpList_nil ?_
  refine then_n (hK7 _ _ ?_)
  refine wp_if hs rfl (fun hc8 => ?_) (fun hc8 => ?_)
  ·
   replace hc8 := of_decide_eq_true hc8
   exfalso; omega
  replace hc8 := of_decide_eq_false hc8
  refine wp_skip ?_
  refine then_n (hK5 _ _ ?_)
  refine wp_seq_k fun K9 hK10 => ?_
  refine wp_region_lit ?_
  refine st_mv hs rfl rfl ?_; clear hs w a; intro a w hs
  refine st_callP hs (.c rfl .n) Try.call71 (ropen_none _ _ bs _ (hs.rd0 hb) (by omega) ho) rfl ?_; clear hs w a; intro a w hs
  refine st_run 5 [(5, .bool (false)), (4, .slice none 0 0)] hs .n (by kernel_rfl) (by kernel_rfl) (by kernel_rfl) ?_; clear hs a; intro a hs
  refine wpList_nil ?_
  refine then_n (hK10 _ _ ?_)
  refine wp_seq_k fun K11 hK12 => ?_
  refine wp_seq_k fun K13 hK14 => ?_
  refine wp_region_lit ?_
  refine st_run 2 [(25, .bool (true))] hs .n (by kernel_rfl) (by kernel_rfl) (by kernel_rfl) ?_; clear hs a; intro a hs
  refine wpList_nil ?_
  refine then_n (hK14 _ _ ?_)
  refine wp_cond_true (hs.ev rfl) ?_
  refine wp_seq_k fun K15 hK16 => ?_
  refine wp_region_lit ?_
  refine st_build (it := Try.t69) (zs := [.int .i64 (0), .int .i64 (0), .int .i64 (0), .slice none 0 0]) (places := [(0, 1), (1, 1), (2, 1), (3, 1)]) hs .n Try.underlying69 rfl rfl rfl rfl .n rfl ?_; clear hs w a; intro a w hs
  refine st_stBA hs rfl rfl .z (.z (.c (.c (.c (.c .n))))) (ones_c rfl (ones_c rfl (ones_c rfl (ones_c rfl ones_n)))) Try.sizeOf69 rfl ?_; clear hs w a; intro a w hs
  refine st_as hs rfl rfl ?_; clear hs w a; intro a w hs
  refine wpList_nil ?_
  refine then_n (hK16 _ _ ?_)
  refine wp_ret ?_
  refine th_r ?_
  replace hs := hs.addNil 25 9
  have hG_ := gRead_none (bs := bs) (by omega) ho
  exact finC2 hs rfl rfl rfl (.s .z) (.z (.c (.c (.c (.c .n))))) Try.isAgg69 Try.sizeOf69 (.c (.s .z) .n) (by rw [hG_]; dsimp only; exact ⟨.slice none 0 0, rfl, rfl⟩)
set_option maxHeartbeats 600000 in
theorem gmread_some (v : Value) (m : Nat) (bs : List Byte) (w0 : World) (hb : Rd w0 [] v 1 m (bytesV bs)) (x : List Byte) (hm : m ≤ 4096) (ho : open_ bs = some x) : Calls Try.prog 42 #[v] w0 (Ret w0 [] fun u N => ∃ v', u = .tuple #[.agg #[.int .i64 ((gRead bs).t), .int .i64 ((gRead bs).tm), .int .i64 ((gRead bs).b), v'], .int .i64 (((gRead bs).e : Nat) : Int)] ∧ N = [row v' 25 9 (gRead bs).l.length ((gRead bs).l.flatMap recV)]) := by
  have hbl : bs.length = m := by have := hb.len; simpa [bytesV] using this
  have hbe : m ≤ maxLen := hb.le
  simp only [maxLen] at hbe
  have hxl : x.length ≤ bs.length := by have := length_seal x; rw [← (open_spec bs x).1 ho] at this; omega
  have hR0 : (⟨0, 0⟩ : Rs).p ≤ x.length := Nat.zero_le _
  have hlim32 : (4294967295#64).toNat = 4294967295 := rfl
  refine enter (F0 := [(0, v)]) Try.func42 rfl rfl rfl (.c .n) (Mem.nil _) fun a w hs => ?_
  refine wp_seq_k fun K1 hK2 => ?_
  refine wp_region_lit ?_
  refine st_alloc (cs := [.int .i64 (0), .int .i64 (0), .int .i64 (0), .slice none 0 0]) hs Try.zeroValue69 rfl rfl ?_; clear hs w a; intro g3 a w hs
  refine st_as hs rfl rfl ?_; clear hs w a; intro a w hs
  refine wpList_nil ?_
  refine then_n (hK2 _ _ ?_)
  refine wp_seq_k fun K4 hK5 => ?_
  refine wp_seq_k fun K6 hK7 => ?_
  refine wp_region_lit ?_
  refine st_mv hs rfl rfl ?_; clear hs w a; intro a w hs
  refine st_len hs rfl (hs.rd0 hb).isSl Try.underlying26 rfl ?_; clear hs w a; intro a w hs
  refine st_gtr hs rfl rfl rfl ?_; clear hs w a; intro a w hs
  refine wpList_nil ?_
  refine then_n (hK7 _ _ ?_)
  refine wp_if hs rfl (fun hc8 => ?_) (fun hc8 => ?_)
  ·
   replace hc8 := of_decide_eq_true hc8
   exfalso; omega
  replace hc8 := of_decide_eq_false hc8
  refine wp_skip ?_
  refine then_n (hK5 _ _ ?_)
  refine wp_seq_k fun K9 hK10 => ?_
  refine wp_region_lit ?_
  refine st_mv hs rfl rfl ?_; clear hs w a; intro a w hs
  refine st_call hs (.c rfl .n) Try.call71 .n (ropen_some _ _ bs _ (hs.rd0 hb) _ (by omega) ho) rfl ?_; clear hs w a; rintro _ _ a w ⟨v11, rfl, rfl⟩ hs; simp only [List.cons_append, List.nil_append] at hs
  refine st_run 5 [(5, .bool (true)), (4, v11)] hs .n (by kernel_rfl) (by kernel_rfl) (by kernel_rfl) ?_; clear hs a; intro a hs
  refine wpList_nil ?_
  refine then_n (hK10 _ _ ?_)
  refine wp_seq_k fun K12 hK13 => ?_
  refine wp_seq_k fun K14 hK15 => ?_
  refine wp_region_lit ?_
  refine st_run 2 [(25, .bool (false))] hs .n (by kernel_rfl) (by kernel_rfl) (by kernel_rfl) ?_; clear hs a; intro a hs
  refine wpList_nil ?_
  refine then_n (hK15 _ _ ?_)
  refine wp_cond_false (hs.ev rfl) ?_
  refine wp_skip ?_
  refine then_n (hK13 _ _ ?_)
  refine wp_seq_k fun K16 hK17 => ?_
  refine wp_region_lit ?_
  refine st_mv hs rfl rfl ?_; clear hs w a; intro a w hs
  refine st_build (it := Try.t44) (zs := [.slice none 0 0, .int .i64 (0), .int .i64 (0)]) (places := [(0, 1), (1, 1), (2, 1)]) hs (.c rfl .n) Try.underlying44 rfl rfl rfl rfl (.c rfl (rd_row (hs.mem.del .z)).isSl.lcells (.z (.c .n)) .n) rfl ?_; clear hs w a; intro a w hs
  refine st_box (cs := [v11, .int .i64 (0), .int .i64 (0)]) hs rfl rfl rfl ?_; clear hs w a; intro g18 a w hs
  replace hs := hs.reblk .z (cs' := [(id v11), .int .i64 ((((⟨0, 0⟩ : Rs).p : Nat) : Int)), .int .i64 ((((⟨0, 0⟩ : Rs).e : Nat) : Int))]) rfl
  have hid_ : ∀ w' T, Rd w' T v11 1 x.length (bytesV x) → Rd w' T (id v11) 1 (x.length - (⟨0, 0⟩ : Rs).p) (bytesV (x.drop (⟨0, 0⟩ : Rs).p)) := fun w' T h => by simpa using h
  refine st_as hs rfl rfl ?_; clear hs w a; intro a w hs
  refine wpList_nil ?_
  refine then_n (hK17 _ _ ?_)
  refine wp_seq_k fun K19 hK20 => ?_
  refine wp_region_lit ?_
  refine st_mv hs rfl rfl ?_; clear hs w a; intro a w hs
  refine st_call hs (.c rfl (.c rfl .n)) Try.call72 (.c .z .n) (msign_ok (71#8) g18 _ x (⟨0, 0⟩ : Rs) _ (hid_ _ _ (hs.mem.rdrow (.s .z) (.c .z .n))) (hs.mem.del .z) (by omega) (by simp only [maxLen]; omega)) rfl ?_; clear hs w a; rintro _ _ a w ⟨u21, rfl, rfl, ht22⟩ hs; simp only [List.cons_append, List.nil_append] at hs
  have hk23 := mustB_le (c := (71#8)) (bs := x) (R := (⟨0, 0⟩ : Rs)) (by omega)
  refine wpList_nil ?_
  refine then_n (hK20 _ _ ?_)
  refine wp_seq_k fun K24 hK25 => ?_
  refine wp_region_lit ?_
  refine st_mv hs rfl rfl ?_; clear hs w a; intro a w hs
  refine st_call hs (.c rfl (.c rfl .n)) Try.call72 (.c .z .n) (msign_ok (1#8) g18 _ x (((mustB (71#8) x (⟨0, 0⟩ : Rs)))) _ (ht22 _ _ (hid_ _ _ (hs.mem.rdrow (.s .z) (.c .z .n)))) (hs.mem.del .z) (by omega) (by simp only [maxLen]; omega)) rfl ?_; clear hs w a; rintro _ _ a w ⟨u26, rfl, rfl, ht27⟩ hs; simp only [List.cons_append, List.nil_append] at hs
  have hk28 := mustB_le (c := (1#8)) (bs := x) (R := (((mustB (71#8) x (⟨0, 0⟩ : Rs))))) (by omega)
  have ht29 : ∀ w' T, Rd w' T u21 1 ((x.length - (mustB (71#8) x (⟨0, 0⟩ : Rs)).p)) (bytesV (x.drop (mustB (71#8) x (⟨0, 0⟩ : Rs)).p)) → Rd w' T u26 1 (x.length - (gR1 x).p) (bytesV (x.drop (gR1 x).p)) := by rw [← gR1_eq]; exact ht27
  replace hs := hs.reblk .z (cs' := [u26, .int .i64 ((((gR1 x).p : Nat) : Int)), .int .i64 ((((gR1 x).e : Nat) : Int))]) (by rw [← gR1_eq])
  have hr1 := gR1_le x
  refine wpList_nil ?_
  refine then_n (hK25 _ _ ?_)
  refine wp_seq_k fun K30 hK31 => ?_
  refine wp_region_lit ?_
  refine st_build (it := Try.t69) (zs := [.int .i64 (0), .int .i64 (0), .int .i64 (0), .slice none 0 0]) (places := [(0, 1), (1, 1), (2, 1), (3, 1)]) hs (.c rfl .n) Try.underlying69 rfl rfl rfl rfl (.c rfl rfl (.s (.s (.z (.c .n)))) .n) rfl ?_; clear hs w a; intro a w hs
  refine st_alloc (cs := [.int .i64 (0), .int .i64 (0), .int .i64 (0), .slice none 0 0]) hs Try.zeroValue69 rfl rfl ?_; clear hs w a; intro g32 a w hs
  refine st_stBA hs rfl rfl .z (.z (.c (.c (.c (.c .n))))) (ones_c rfl (ones_c rfl (ones_c rfl (ones_c rfl ones_n)))) Try.sizeOf69 rfl ?_; clear hs w a; intro a w hs
  refine wpList_nil ?_
  refine then_n (hK31 _ _ ?_)
  refine wp_seq_k fun K33 hK34 => ?_
  refine wp_region_lit ?_
  refine st_mv hs rfl rfl ?_; clear hs w a; intro a w hs
  refine st_call hs (.c rfl (.c rfl .n)) Try.call57 (.c (.s .z) .n) (muint_ok (4294967295#64) g18 _ x (gR1 x) _ (ht29 _ _ (ht22 _ _ (hid_ _ _ (hs.mem.rdrow (.s (.s .z)) (.c (.s .z) .n))))) (hs.mem.del (.s .z)) (by omega) (by simp only [maxLen]; omega)) rfl ?_; clear hs w a; rintro _ _ a w ⟨rfl, rfl⟩ hs; simp only [List.cons_append, List.nil_append] at hs
  have hk35 := rUint_le (X := 4294967295#64) (bs := x) (R := (gR1 x)) (by omega)
  refine st_cv_u64_i64 (X := (rUint x (4294967295#64) (gR1 x)).1) hs rfl rfl Try.underlying37 Try.underlying2 rfl ?_; clear hs w a; intro a w hs
  replace hs := hs.recell (v' := .int .i64 ((gTx x).1)) (Option.some.inj (by rw [gTx_eq]; exact congrArg (fun z => some (Value.int .i64 z)) (toInt_lim (by omega))))
  have ht36 : ∀ w' T, Rd w' T u26 1 ((x.length - (gR1 x).p)) (bytesV (x.drop (gR1 x).p)) → Rd w' T ((uNext u26 x.length (gR1 x).p ((rUint x (4294967295#64) (gR1 x)).2).p)) 1 (x.length - (gTx x).2.p) (bytesV (x.drop (gTx x).2.p)) := by rw [gTx_eq]; exact (uNext_tr (p := (gR1 x).p) (p' := ((rUint x (4294967295#64) (gR1 x)).2).p) (by omega) (by omega))
  replace hs := hs.reblk .z (cs' := [(uNext u26 x.length (gR1 x).p ((rUint x (4294967295#64) (gR1 x)).2).p), .int .i64 ((((gTx x).2.p : Nat) : Int)), .int .i64 ((((gTx x).2.e : Nat) : Int))]) (by rw [gTx_eq])
  have hr2 := gTx_le x
  refine st_fa hs rfl Try.underlying69 rfl Try.sizeOf2 (by decide) (o := 0) rfl rfl ?_; clear hs w a; intro a w hs
  refine st_stB hs rfl rfl (.s .z) .z rfl Try.sizeOf2 ?_; clear hs w a; intro a w hs
  refine wpList_nil ?_
  refine then_n (hK34 _ _ ?_)
  refine wp_seq_k fun K37 hK38 => ?_
  refine wp_region_lit ?_
  refine st_mv hs rfl rfl ?_; clear hs w a; intro a w hs
  refine st_call hs (.c rfl .n) Try.call73 (.c (.s .z) .n) (mint_ok  g18 _ x ((gTx x).2) _ (ht36 _ _ (ht29 _ _ (ht22 _ _ (hid_ _ _ (hs.mem.rdrow (.s (.s .z)) (.c (.s .z) .n)))))) (hs.mem.del (.s .z)) (by omega) (by simp only [maxLen]; omega)) rfl ?_; clear hs w a; rintro _ _ a w ⟨rfl, rfl⟩ hs; simp only [List.cons_append, List.nil_append] at hs
  have hk39 := rInt_le (bs := x) (R := (gTx x).2) (by omega)
  refine st_fa hs rfl Try.underlying69 rfl Try.sizeOf2 (by decide) (o := 1) rfl rfl ?_; clear hs w a; intro a w hs
  refine st_stB hs rfl rfl (.s .z) (.s .z) rfl Try.sizeOf2 ?_; clear hs w a; intro a w hs
  refine wpList_nil ?_
  refine then_n (hK38 _ _ ?_)
  refine wp_seq_k fun K40 hK41 => ?_
  refine wp_seq_k fun K42 hK43 => ?_
  refine wp_region_lit ?_
  refine st_run 4 [(45, .bool (decide (((rInt x ((gTx x).2)).1) < (-2305843009213693952))))] hs (.c (hs.mem.del .z) .n) (by kernel_rfl) (by kernel_rfl) (by kernel_rfl) ?_; clear hs a; intro a hs
  refine st_part (b := decide (((rInt x ((gTx x).2)).1) < (-2305843009213693952))) (fun hc44 => ?_) (fun hc44 => ?_)
  ·
   rw [hc44] at hs
   replace hc44 := of_decide_eq_true hc44
   refine st_run 4 [(49, .bool (true))] hs .n (by kernel_rfl) (by kernel_rfl) (by kernel_rfl) ?_; clear hs a; intro a hs
   refine wpList_nil ?_
   refine then_n (hK43 _ _ ?_)
   refine wp_cut (fun a w => ∃ q3 : Value, St 101 [(2, .pointer (some ⟨g3, 0, none⟩)), (6, .pointer (some ⟨g18, 0, none⟩)), (7, .pointer (some ⟨g32, 0, none⟩))] w0 [] [blk g18 [q3, .int .i64 (((((gTmx x).2).p : Nat) : Int)), .int .i64 (((((gTmx x).2).e : Nat) : Int))] 44, blk g32 [.int .i64 ((gTx x).1), .int .i64 ((gTmx x).1), .int .i64 (-1), .slice none 0 0] 69, row v11 5 1 x.length (bytesV x), blk g3 [.int .i64 (0), .int .i64 (0), .int .i64 (0), .slice none 0 0] 69] a w ∧ Tr x (id v11) (⟨0, 0⟩ : Rs).p q3 (gTmx x).2.p) ?_ ?_
   ·
    refine wp_cond_true (hs.ev rfl) ?_
    refine wp_region_lit ?_
    refine st_mv hs rfl rfl ?_; clear hs w a; intro a w hs
    refine st_call hs (.c rfl (.c rfl .n)) Try.call56 (.c (.s .z) .n) (mfail_ok 3 g18 _ x (((rInt x ((gTx x).2)).2)) _ ((uNext_tr (p := ((gTx x).2).p) (p' := ((rInt x ((gTx x).2)).2).p) (by omega) (by omega)) _ _ (ht36 _ _ (ht29 _ _ (ht22 _ _ (hid_ _ _ (hs.mem.rdrow (.s (.s .z)) (.c (.s .z) .n))))))) (hs.mem.del (.s .z)) (by omega) (by simp only [maxLen]; omega)) rfl ?_; clear hs w a; rintro _ _ a w ⟨rfl, rfl⟩ hs; simp only [List.cons_append, List.nil_append] at hs
    have hk45 := rFail_le (bs := x) (R := ((rInt x ((gTx x).2)).2)) (e := 3) (by omega)
    refine wpList_nil ?_
    refine then_n ?_
    have hQ_ := gTmx_bad (x := x) (by omega)
    have hT_ : Tr x (id v11) (⟨0, 0⟩ : Rs).p ((id ((uNext ((uNext u26 x.length (gR1 x).p ((rUint x (4294967295#64) (gR1 x)).2).p)) x.length ((gTx x).2).p ((rInt x ((gTx x).2)).2).p)))) (gTmx x).2.p := by rw [hQ_]; dsimp only; exact (fun w T h => (fail_tr (bs := x) (R := ((rInt x ((gTx x).2)).2)) (e := 3)) w T ((fun w T h => (uNext_tr (p := ((gTx x).2).p) (p' := ((rInt x ((gTx x).2)).2).p) (by omega) (by omega)) w T ((fun w T h => ht36 w T ((fun w T h => ht29 w T ((fun w T h => ht22 w T (Tr.refl w T h)) w T h)) w T h)) w T h)) w T h))
    replace hs := hs.reblk .z (cs' := [(id ((uNext ((uNext u26 x.length (gR1 x).p ((rUint x (4294967295#64) (gR1 x)).2).p)) x.length ((gTx x).2).p ((rInt x ((gTx x).2)).2).p))), .int .i64 ((((gTmx x).2.p : Nat) : Int)), .int .i64 ((((gTmx x).2.e : Nat) : Int))]) (by rw [hQ_])
    replace hs := hs.reblk (.s .z) (cs' := [.int .i64 ((gTx x).1), .int .i64 ((gTmx x).1), .int .i64 (-1), .slice none 0 0]) (by rw [hQ_])
    replace hs := hs.reorder (.c (.s .z) (.c .z (.c .z (.c .z .n))))
    exact ⟨(id ((uNext ((uNext u26 x.length (gR1 x).p ((rUint x (4294967295#64) (gR1 x)).2).p)) x.length ((gTx x).2).p ((rInt x ((gTx x).2)).2).p))), hs.sub (.c rfl (.c rfl (.c rfl .n))), hT_⟩
   clear hs w a; rintro a w ⟨q3, hs, hJ46⟩
   have hr_q3 := gTmx_le x
   refine then_n (hK41 _ _ ?_)
   refine wp_seq_k fun K47 hK48 => ?_
   refine wp_region_lit ?_
   refine st_run 3 [(54, .int .i64 ((gTx x).1)), (52, .pointer (some ⟨g18, 0, none⟩))] hs (.c (hs.mem.del (.s .z)) .n) (by kernel_rfl) (by kernel_rfl) (by kernel_rfl) ?_; clear hs a; intro a hs
   refine st_cv_u64 hs rfl Try.underlying2 Try.underlying37 rfl ?_; clear hs w a; intro a w hs
   refine st_call hs (.c rfl (.c rfl .n)) Try.call57 (.c .z .n) (muint_ok (BitVec.ofInt 64 ((gTx x).1)) g18 _ x (((gTmx x).2)) _ (hJ46 _ _ (hid_ _ _ (hs.mem.rdrow (.s (.s .z)) (.c .z .n)))) (hs.mem.del .z) (by omega) (by simp only [maxLen]; omega)) rfl ?_; clear hs w a; rintro _ _ a w ⟨rfl, rfl⟩ hs; simp only [List.cons_append, List.nil_append] at hs
   have hk49 := rUint_le (X := BitVec.ofInt 64 ((gTx x).1)) (bs := x) (R := ((gTmx x).2)) (by omega)
   refine st_cv_u64_i64 (X := (rUint x (BitVec.ofInt 64 ((gTx x).1)) (((gTmx x).2))).1) hs rfl rfl Try.underlying37 Try.underlying2 rfl ?_; clear hs w a; intro a w hs
   have hot := ofInt64 (x := (gTx x).1) (by omega) (by omega)
   replace hs := hs.recell (v' := .int .i64 ((((rUint x (BitVec.ofInt 64 (gTx x).1) (gTmx x).2).1.toNat : Nat) : Int))) (Option.some.inj (congrArg (fun z => some (Value.int .i64 z)) (toInt_lim (by omega))))
   refine st_as hs rfl rfl ?_; clear hs w a; intro a w hs
   refine wpList_nil ?_
   refine then_n (hK48 _ _ ?_)
   refine wp_seq_k fun K50 hK51 => ?_
   refine wp_seq_k fun K52 hK53 => ?_
   refine wp_region_lit ?_
   refine st_run 2 [(59, .bool (decide (0 < ((((rUint x (BitVec.ofInt 64 (gTx x).1) (gTmx x).2).1.toNat : Nat) : Int)))))] hs .n (by kernel_rfl) (by kernel_rfl) (by kernel_rfl) ?_; clear hs a; intro a hs
   refine wpList_nil ?_
   refine then_n (hK53 _ _ ?_)
   refine wp_cut (fun a w => ∃ q4 : Value, St 101 [(2, .pointer (some ⟨g3, 0, none⟩)), (6, .pointer (some ⟨g18, 0, none⟩)), (7, .pointer (some ⟨g32, 0, none⟩))] w0 [] [blk g18 [q4, .int .i64 (((((gBx x).2).p : Nat) : Int)), .int .i64 (((((gBx x).2).e : Nat) : Int))] 44, blk g32 [.int .i64 ((gTx x).1), .int .i64 ((gTmx x).1), .int .i64 ((gBx x).1), .slice none 0 0] 69, row v11 5 1 x.length (bytesV x), blk g3 [.int .i64 (0), .int .i64 (0), .int .i64 (0), .slice none 0 0] 69] a w ∧ Tr x (id v11) (⟨0, 0⟩ : Rs).p q4 (gBx x).2.p) ?_ ?_
   ·
    refine wp_if hs rfl (fun hc54 => ?_) (fun hc54 => ?_)
    ·
     replace hc54 := of_decide_eq_true hc54
     refine wp_region_lit ?_
     refine st_run 3 [(62, .int .i64 ((((rUint x (BitVec.ofInt 64 (gTx x).1) (gTmx x).2).1.toNat : Nat) : Int))), (61, .int .i64 ((gTx x).1))] hs (.c (hs.mem.del (.s .z)) .n) (by kernel_rfl) (by kernel_rfl) (by kernel_rfl) ?_; clear hs a; intro a hs
     refine st_subR hs rfl rfl (by omega) rfl ?_; clear hs w a; intro a w hs
     refine st_fa hs rfl Try.underlying69 rfl Try.sizeOf2 (by decide) (o := 2) rfl rfl ?_; clear hs w a; intro a w hs
     refine st_stB hs rfl rfl (.s .z) (.s (.s .z)) rfl Try.sizeOf2 ?_; clear hs w a; intro a w hs
     refine wpList_nil ?_
     refine then_n ?_
     have hQ_ := gBx_pos (x := x) (by omega)
     have hT_ : Tr x (id v11) (⟨0, 0⟩ : Rs).p ((uNext q3 x.length (((gTmx x).2)).p ((rUint x (BitVec.ofInt 64 ((gTx x).1)) (((gTmx x).2))).2).p)) (gBx x).2.p := by rw [hQ_]; dsimp only; exact (fun w T h => (uNext_tr (p := (((gTmx x).2)).p) (p' := ((rUint x (BitVec.ofInt 64 ((gTx x).1)) (((gTmx x).2))).2).p) (by omega) (by omega)) w T ((fun w T h => hJ46 w T (Tr.refl w T h)) w T h))
     replace hs := hs.reblk (.s .z) (cs' := [(uNext q3 x.length (((gTmx x).2)).p ((rUint x (BitVec.ofInt 64 ((gTx x).1)) (((gTmx x).2))).2).p), .int .i64 ((((gBx x).2.p : Nat) : Int)), .int .i64 ((((gBx x).2.e : Nat) : Int))]) (by rw [hQ_])
     replace hs := hs.reblk (.s .z) (cs' := [.int .i64 ((gTx x).1), .int .i64 ((gTmx x).1), .int .i64 ((gBx x).1), .slice none 0 0]) (by rw [hQ_])
     replace hs := hs.reorder (.c (.s .z) (.c .z (.c .z (.c .z .n))))
     exact ⟨(uNext q3 x.length (((gTmx x).2)).p ((rUint x (BitVec.ofInt 64 ((gTx x).1)) (((gTmx x).2))).2).p), hs.sub (.c rfl (.c rfl (.c rfl .n))), hT_⟩
    replace hc54 := of_decide_eq_false hc54
    refine wp_skip ?_
    refine then_n ?_
    have hQ_ := gBx_neg (x := x) (by omega)
    have hT_ : Tr x (id v11) (⟨0, 0⟩ : Rs).p ((uNext q3 x.length (((gTmx x).2)).p ((rUint x (BitVec.ofInt 64 ((gTx x).1)) (((gTmx x).2))).2).p)) (gBx x).2.p := by rw [hQ_]; dsimp only; exact (fun w T h => (uNext_tr (p := (((gTmx x).2)).p) (p' := ((rUint x (BitVec.ofInt 64 ((gTx x).1)) (((gTmx x).2))).2).p) (by omega) (by omega)) w T ((fun w T h => hJ46 w T (Tr.refl w T h)) w T h))
    replace hs := hs.reblk .z (cs' := [(uNext q3 x.length (((gTmx x).2)).p ((rUint x (BitVec.ofInt 64 ((gTx x).1)) (((gTmx x).2))).2).p), .int .i64 ((((gBx x).2.p : Nat) : Int)), .int .i64 ((((gBx x).2.e : Nat) : Int))]) (by rw [hQ_])
    replace hs := hs.reblk (.s .z) (cs' := [.int .i64 ((gTx x).1), .int .i64 ((gTmx x).1), .int .i64 ((gBx x).1), .slice none 0 0]) (by rw [hQ_])
    replace hs := hs.reorder (.c (.s .z) (.c .z (.c .z (.c .z .n))))
    exact ⟨(uNext q3 x.length (((gTmx x).2)).p ((rUint x (BitVec.ofInt 64 ((gTx x).1)) (((gTmx x).2))).2).p), hs.sub (.c rfl (.c rfl (.c rfl .n))), hT_⟩
   clear hs w a; rintro a w ⟨q4, hs, hJ55⟩
   have hr_q4 := gBx_le x
   refine then_n (hK51 _ _ ?_)
   refine wp_seq_k fun K56 hK57 => ?_
   refine wp_region_lit ?_
   refine st_mv hs rfl rfl ?_; clear hs w a; intro a w hs
   refine st_call hs (.c rfl (.c rfl .n)) Try.call57 (.c .z .n) (muint_ok (128#64) g18 _ x (((gBx x).2)) _ (hJ55 _ _ (hid_ _ _ (hs.mem.rdrow (.s (.s .z)) (.c .z .n)))) (hs.mem.del .z) (by omega) (by simp only [maxLen]; omega)) rfl ?_; clear hs w a; rintro _ _ a w ⟨rfl, rfl⟩ hs; simp only [List.cons_append, List.nil_append] at hs
   have hk58 := rUint_le (X := 128#64) (bs := x) (R := ((gBx x).2)) (by omega)
   refine st_cv_u64_i64 (X := (rUint x (128#64) (((gBx x).2))).1) hs rfl rfl Try.underlying37 Try.underlying3 rfl ?_; clear hs w a; intro a w hs
   have hnm := gN_le x (gBx x).2
   replace hs := hs.recell (v' := .int .i64 ((((gN x (gBx x).2) : Nat) : Int))) (Option.some.inj (congrArg (fun z => some (Value.int .i64 z)) (toInt_lim (show (gN x (gBx x).2) ≤ _ by omega))))
   refine st_as hs rfl rfl ?_; clear hs w a; intro a w hs
   refine wpList_nil ?_
   refine then_n (hK57 _ _ ?_)
   refine wp_seq_k fun K59 hK60 => ?_
   refine wp_region_lit ?_
   refine st_as hs rfl rfl ?_; clear hs w a; intro a w hs
   refine wpList_nil ?_
   refine then_n (hK60 _ _ ?_)
   refine wp_seq_k fun K61 hK62 => ?_
   refine wp_seq_k fun K63 hK64 => ?_
   refine wp_region_lit ?_
   refine st_as hs rfl rfl ?_; clear hs w a; intro a w hs
   refine wpList_nil ?_
   refine then_n (hK64 _ _ ?_)
   refine wp_block ?_
   have ht65 : ∀ w' T, Rd w' T q4 1 ((x.length - (gBx x).2.p)) (bytesV (x.drop (gBx x).2.p)) → Rd w' T ((uNext q4 x.length (((gBx x).2)).p ((rUint x (128#64) (((gBx x).2))).2).p)) 1 (x.length - (gD x (gBx x).2 0).2.2.p) (bytesV (x.drop (gD x (gBx x).2 0).2.2.p)) := by rw [gD_zero]; try dsimp only; exact (uNext_tr (p := (((gBx x).2)).p) (p' := ((rUint x (128#64) (((gBx x).2))).2).p) (by omega) (by omega))
   replace hs := hs.reblk .z (cs' := [(uNext q4 x.length (((gBx x).2)).p ((rUint x (128#64) (((gBx x).2))).2).p), .int .i64 ((((gD x (gBx x).2 0).2.2.p : Nat) : Int)), .int .i64 ((((gD x (gBx x).2 0).2.2.e : Nat) : Int))]) (by rw [gD_zero]; try dsimp only)
   replace hs := hs.reslot (d := 10) (v := .int .i64 (-1)) (v' := .int .i64 ((gD x (gBx x).2 0).2.1)) rfl (Option.some.inj (by rw [gD_zero]))
   replace hs := hs.addNil 25 9
   replace hs := hs.rerow .z (m' := (gD x (gBx x).2 0).1.length) (xs' := ((gD x (gBx x).2 0).1.flatMap recV)) (by rw [gD_zero]; rfl) (by rw [gD_zero]; rfl)
   replace hs := hs.reorder (.c (.s .z) (.c (.s .z) (.c .z (.c .z (.c .z .n)))))
   have hT0 : Tr x (id v11) (⟨0, 0⟩ : Rs).p ((uNext q4 x.length (((gBx x).2)).p ((rUint x (128#64) (((gBx x).2))).2).p)) (gD x (gBx x).2 0).2.2.p := (fun w T h => ht65 w T ((fun w T h => hJ55 w T (Tr.refl w T h)) w T h))
   refine wp_loopI (fun mm_ a w => ∃ i : Nat, ∃ q : Value, ∃ p : Value, mm_ = (gN x (gBx x).2) - i ∧ St 101 [(2, .pointer (some ⟨g3, 0, none⟩)), (6, .pointer (some ⟨g18, 0, none⟩)), (7, .pointer (some ⟨g32, 0, none⟩)), (9, .int .i64 ((((gN x (gBx x).2) : Nat) : Int))), (10, .int .i64 ((gD x (gBx x).2 i).2.1)), (11, .int .i64 ((i : Int)))] w0 [] [blk g18 [q, .int .i64 (((((gD x (gBx x).2 i).2.2).p : Nat) : Int)), .int .i64 (((((gD x (gBx x).2 i).2.2).e : Nat) : Int))] 44, blk g32 [.int .i64 ((gTx x).1), .int .i64 ((gTmx x).1), .int .i64 ((gBx x).1), p] 69, row p 25 9 ((gD x (gBx x).2 i).1.length) (((gD x (gBx x).2 i).1.flatMap recV)), row v11 5 1 x.length (bytesV x), blk g3 [.int .i64 (0), .int .i64 (0), .int .i64 (0), .slice none 0 0] 69] a w ∧ i ≤ (gN x (gBx x).2) ∧ Tr x (id v11) (⟨0, 0⟩ : Rs).p q (gD x (gBx x).2 i).2.2.p) ⟨0, (uNext q4 x.length (((gBx x).2)).p ((rUint x (128#64) (((gBx x).2))).2).p), .slice none 0 0, rfl, hs.sub (.c rfl (.c rfl (.c rfl (.c rfl (.c rfl (.c rfl .n)))))), by omega, hT0⟩ ?_
   clear hs w a; rintro mm_ a w ⟨i, q, p, rfl, hs, hI1_0, hI1_1⟩
   have hDi := gD_inv (gBx_le x).1 i
   refine wp_seq_k fun K66 hK67 => ?_
   refine wp_seq_k fun K68 hK69 => ?_
   refine wp_region_lit ?_
   refine st_run 4 [(71, .bool (decide ((i : Int) < ((((gN x (gBx x).2) : Nat) : Int))))), (70, .bool (decide ((i : Int) < ((((gN x (gBx x).2) : Nat) : Int))))), (69, .int .i64 ((((gN x (gBx x).2) : Nat) : Int))), (68, .int .i64 ((i : Int)))] hs .n (by kernel_rfl) (by kernel_rfl) (by kernel_rfl) ?_; clear hs a; intro a hs
   refine st_part (b := decide ((i : Int) < ((((gN x (gBx x).2) : Nat) : Int)))) (fun hc70 => ?_) (fun hc70 => ?_)
   ·
    rw [hc70] at hs
    replace hc70 := of_decide_eq_true hc70
    refine st_run 6 [(77, .bool ((((((gD x (gBx x).2 i).2.2).e : Nat) : Int) : Int) == 0)), (76, .bool ((((((gD x (gBx x).2 i).2.2).e : Nat) : Int) : Int) == 0)), (75, .int .i64 (((((gD x (gBx x).2 i).2.2).e : Nat) : Int))), (74, .pointer (some ⟨g18, 2, none⟩)), (73, .pointer (some ⟨g18, 0, none⟩)), (72, .pointer (some ⟨g18, 0, none⟩))] hs (.c (hs.mem.del .z) .n) (by kernel_rfl) (by kernel_rfl) (by kernel_rfl) ?_; clear hs a; intro a hs
    refine wpList_nil ?_
    refine then_n (hK69 _ _ ?_)
    refine wp_if hs rfl (fun hc71 => ?_) (fun hc71 => ?_)
    ·
     replace hc71 := eq_of_beq hc71
     have hdl := gD_last (gBx_le x).1 (i := i) (by omega)
     refine wp_skip ?_
     refine then_n (hK67 _ _ ?_)
     refine wp_seq_k fun K72 hK73 => ?_
     refine wp_block ?_
     refine wp_seq_k fun K74 hK75 => ?_
     refine wp_region_lit ?_
     refine st_run 2 [(82, .int .i64 ((gD x (gBx x).2 i).2.1)), (81, .pointer (some ⟨g18, 0, none⟩))] hs .n (by kernel_rfl) (by kernel_rfl) (by kernel_rfl) ?_; clear hs a; intro a hs
     refine st_call hs (.c rfl (.c rfl .n)) Try.call27 (.c .z .n) (mread_ok g18 _ x (((gD x (gBx x).2 i).2.2)) ((gD x (gBx x).2 i).2.1) _ (hI1_1 _ _ (hid_ _ _ (hs.mem.rdrow (.s (.s (.s .z))) (.c .z .n)))) (hs.mem.del .z) (by omega) (by simp only [maxLen]; omega) (by omega)) rfl ?_; clear hs w a; rintro _ _ a w ⟨u76, rfl, rfl, ht77⟩ hs; simp only [List.cons_append, List.nil_append] at hs
     have hk78 := rdRec_le (bs := x) (last := ((gD x (gBx x).2 i).2.1)) (R := ((gD x (gBx x).2 i).2.2)) (by omega)
     refine st_run 3 [(85, .int .i64 ((((rdRec x ((gD x (gBx x).2 i).2.1) (((gD x (gBx x).2 i).2.2))).2.1 : Nat) : Int))), (84, .agg #[.int .i64 (((rdRec x ((gD x (gBx x).2 i).2.1) (((gD x (gBx x).2 i).2.2))).1).k), .int .i64 (((rdRec x ((gD x (gBx x).2 i).2.1) (((gD x (gBx x).2 i).2.2))).1).id), .int .i64 (((rdRec x ((gD x (gBx x).2 i).2.1) (((gD x (gBx x).2 i).2.2))).1).p0), .int .i64 (((rdRec x ((gD x (gBx x).2 i).2.1) (((gD x (gBx x).2 i).2.2))).1).p1), .int .i64 (((rdRec x ((gD x (gBx x).2 i).2.1) (((gD x (gBx x).2 i).2.2))).1).p2), .int .i64 (((rdRec x ((gD x (gBx x).2 i).2.1) (((gD x (gBx x).2 i).2.2))).1).v0), .int .i64 (((rdRec x ((gD x (gBx x).2 i).2.1) (((gD x (gBx x).2 i).2.2))).1).v1), .int .i64 (((rdRec x ((gD x (gBx x).2 i).2.1) (((gD x (gBx x).2 i).2.2))).1).v2), .int .u16 ((((((rdRec x ((gD x (gBx x).2 i).2.1) (((gD x (gBx x).2 i).2.2))).1).a).toNat : Nat) : Int))]), (80, .tuple #[.agg #[.int .i64 (((rdRec x ((gD x (gBx x).2 i).2.1) (((gD x (gBx x).2 i).2.2))).1).k), .int .i64 (((rdRec x ((gD x (gBx x).2 i).2.1) (((gD x (gBx x).2 i).2.2))).1).id), .int .i64 (((rdRec x ((gD x (gBx x).2 i).2.1) (((gD x (gBx x).2 i).2.2))).1).p0), .int .i64 (((rdRec x ((gD x (gBx x).2 i).2.1) (((gD x (gBx x).2 i).2.2))).1).p1), .int .i64 (((rdRec x ((gD x (gBx x).2 i).2.1) (((gD x (gBx x).2 i).2.2))).1).p2), .int .i64 (((rdRec x ((gD x (gBx x).2 i).2.1) (((gD x (gBx x).2 i).2.2))).1).v0), .int .i64 (((rdRec x ((gD x (gBx x).2 i).2.1) (((gD x (gBx x).2 i).2.2))).1).v1), .int .i64 (((rdRec x ((gD x (gBx x).2 i).2.1) (((gD x (gBx x).2 i).2.2))).1).v2), .int .u16 ((((((rdRec x ((gD x (gBx x).2 i).2.1) (((gD x (gBx x).2 i).2.2))).1).a).toNat : Nat) : Int))], .int .i64 ((((rdRec x ((gD x (gBx x).2 i).2.1) (((gD x (gBx x).2 i).2.2))).2.1 : Nat) : Int))])] hs .n (by kernel_rfl) (by kernel_rfl) (by kernel_rfl) ?_; clear hs a; intro a hs
     refine st_alloc (cs := [.int .i64 (0), .int .i64 (0), .int .i64 (0), .int .i64 (0), .int .i64 (0), .int .i64 (0), .int .i64 (0), .int .i64 (0), .int .u16 (0)]) hs Try.zeroValue25 rfl rfl ?_; clear hs w a; intro g79 a w hs
     refine st_stBA hs rfl rfl .z (.z (.c (.c (.c (.c (.c (.c (.c (.c (.c .n)))))))))) (ones_c rfl (ones_c rfl (ones_c rfl (ones_c rfl (ones_c rfl (ones_c rfl (ones_c rfl (ones_c rfl (ones_c rfl ones_n))))))))) Try.sizeOf25 rfl ?_; clear hs w a; intro a w hs
     refine st_as hs rfl rfl ?_; clear hs w a; intro a w hs
     refine wpList_nil ?_
     refine then_n (hK75 _ _ ?_)
     refine wp_seq_k fun K80 hK81 => ?_
     refine wp_region_lit ?_
     refine st_run 3 [(88, .agg #[.int .i64 (((rdRec x ((gD x (gBx x).2 i).2.1) (((gD x (gBx x).2 i).2.2))).1).k), .int .i64 (((rdRec x ((gD x (gBx x).2 i).2.1) (((gD x (gBx x).2 i).2.2))).1).id), .int .i64 (((rdRec x ((gD x (gBx x).2 i).2.1) (((gD x (gBx x).2 i).2.2))).1).p0), .int .i64 (((rdRec x ((gD x (gBx x).2 i).2.1) (((gD x (gBx x).2 i).2.2))).1).p1), .int .i64 (((rdRec x ((gD x (gBx x).2 i).2.1) (((gD x (gBx x).2 i).2.2))).1).p2), .int .i64 (((rdRec x ((gD x (gBx x).2 i).2.1) (((gD x (gBx x).2 i).2.2))).1).v0), .int .i64 (((rdRec x ((gD x (gBx x).2 i).2.1) (((gD x (gBx x).2 i).2.2))).1).v1), .int .i64 (((rdRec x ((gD x (gBx x).2 i).2.1) (((gD x (gBx x).2 i).2.2))).1).v2), .int .u16 ((((((rdRec x ((gD x (gBx x).2 i).2.1) (((gD x (gBx x).2 i).2.2))).1).a).toNat : Nat) : Int))]), (87, p), (86, .pointer (some ⟨g32, 3, none⟩))] hs (.c (hs.mem.del (.s (.s .z))) (.c (hs.mem.del .z) .n)) (by kernel_rfl) (by kernel_rfl) (by kernel_rfl) ?_; clear hs a; intro a hs
     refine st_bs (cs := [.int .i64 (((rdRec x ((gD x (gBx x).2 i).2.1) (((gD x (gBx x).2 i).2.2))).1).k), .int .i64 (((rdRec x ((gD x (gBx x).2 i).2.1) (((gD x (gBx x).2 i).2.2))).1).id), .int .i64 (((rdRec x ((gD x (gBx x).2 i).2.1) (((gD x (gBx x).2 i).2.2))).1).p0), .int .i64 (((rdRec x ((gD x (gBx x).2 i).2.1) (((gD x (gBx x).2 i).2.2))).1).p1), .int .i64 (((rdRec x ((gD x (gBx x).2 i).2.1) (((gD x (gBx x).2 i).2.2))).1).p2), .int .i64 (((rdRec x ((gD x (gBx x).2 i).2.1) (((gD x (gBx x).2 i).2.2))).1).v0), .int .i64 (((rdRec x ((gD x (gBx x).2 i).2.1) (((gD x (gBx x).2 i).2.2))).1).v1), .int .i64 (((rdRec x ((gD x (gBx x).2 i).2.1) (((gD x (gBx x).2 i).2.2))).1).v2), .int .u16 ((((((rdRec x ((gD x (gBx x).2 i).2.1) (((gD x (gBx x).2 i).2.2))).1).a).toNat : Nat) : Int))]) hs (.c .n) (.c rfl .n) Try.underlying66 (ie := Try.t25) rfl rfl rfl rfl (by decide) (by decide) rfl (by decide) rfl rfl rfl ?_; clear hs w a; intro g82 a w hs
     refine st_app (size := 9) (bytes := 72) hs rfl rfl (.s (.s (.s (.s .z)))) (rd_blk (m := 1) (size := 9) (hs.mem.del .z) rfl (by decide)) (by simp [Value.oneCell']) Try.underlying66 (i := Try.t25) rfl rfl rfl rfl rfl (by decide) (by omega) (by simp only [maxLen]; omega) rfl ?_; clear hs w a; intro v83 a w hs
     replace hs := hs.drop (.c (.s .z) .n)
     refine st_fa hs rfl Try.underlying69 rfl Try.sizeOf66 (by decide) (o := 3) rfl rfl ?_; clear hs w a; intro a w hs
     refine st_stB hs rfl rfl (.s (.s (.s .z))) (.s (.s (.s .z))) (rd_row (hs.mem.del .z)).isSl.one Try.sizeOf66 ?_; clear hs w a; intro a w hs
     refine wpList_nil ?_
     refine then_n (hK81 _ _ ?_)
     refine wp_region_lit ?_
     refine st_run 3 [(10, .int .i64 (((rdRec x ((gD x (gBx x).2 i).2.1) (((gD x (gBx x).2 i).2.2))).1).id)), (93, .int .i64 (((rdRec x ((gD x (gBx x).2 i).2.1) (((gD x (gBx x).2 i).2.2))).1).id)), (92, .pointer (some ⟨g79, 1, none⟩))] hs (.c (hs.mem.del (.s (.s .z))) .n) (by kernel_rfl) (by kernel_rfl) (by kernel_rfl) ?_; clear hs a; intro a hs
     refine wpList_nil ?_
     refine in_n ?_
     refine then_n (hK73 _ _ ?_)
     refine wp_region_lit ?_
     refine st_mv hs rfl rfl ?_; clear hs w a; intro a w hs
     refine st_addR hs rfl rfl (by omega) rfl ?_; clear hs w a; intro a w hs
     refine st_as hs rfl rfl ?_; clear hs w a; intro a w hs
     refine wpList_nil ?_
     refine then_n ?_
     have hN_ := gD_next (bs := x) (R := (gBx x).2) (i := i) (by omega)
     have hT_ : Tr x (id v11) (⟨0, 0⟩ : Rs).p u76 (gD x (gBx x).2 (i + 1)).2.2.p := by rw [hN_]; dsimp only; exact (fun w T h => ht77 w T ((fun w T h => hI1_1 w T (Tr.refl w T h)) w T h))
     replace hs := hs.rerow (.s .z) (m' := (gD x (gBx x).2 (i + 1)).1.length) (xs' := ((gD x (gBx x).2 (i + 1)).1.flatMap recV)) (by rw [hN_]; simp only [List.length_append, List.length_singleton]) (by rw [hN_]; dsimp only; rw [List.flatMap_append]; rfl)
     replace hs := hs.reblk (.s (.s (.s .z))) (cs' := [u76, .int .i64 ((((gD x (gBx x).2 (i + 1)).2.2.p : Nat) : Int)), .int .i64 ((((gD x (gBx x).2 (i + 1)).2.2.e : Nat) : Int))]) (by rw [hN_])
     replace hs := hs.reslot (d := 10) (v := .int .i64 (((rdRec x ((gD x (gBx x).2 i).2.1) (((gD x (gBx x).2 i).2.2))).1).id)) (v' := .int .i64 ((gD x (gBx x).2 (i + 1)).2.1)) rfl (Option.some.inj (by rw [hN_]))
     replace hs := hs.drop (.c (.s (.s (.s .z))) .n)
     replace hs := hs.reorder (.c .z (.c (.s .z) (.c .z (.c .z (.c .z .n)))))
     refine ⟨_, ?_, i + 1, u76, v83, rfl, hs.sub (.c rfl (.c rfl (.c rfl (.c rfl (.c rfl (.c rfl .n)))))), by omega, hT_⟩
     omega
    replace hc71 := ne_of_beq_f hc71
    refine wp_exit ?_
    refine th_e ?_
    refine th_e ?_
    refine in_hit ?_
    refine then_n (hK62 _ _ ?_)
    refine wp_seq_k fun K84 hK85 => ?_
    refine wp_region_lit ?_
    refine st_mv hs rfl rfl ?_; clear hs w a; intro a w hs
    have hE_ := gD_end (bs := x) (R := (gBx x).2) (i := i) (gBx_le x).1 (by omega) (by omega)
    refine st_callP (v := .int .i64 ((((rDone x (((gD x (gBx x).2 i).2.2))) : Nat) : Int))) hs (.c rfl .n) Try.call74 (mdone_ok g18 _ x (((gD x (gBx x).2 i).2.2)) _ (hI1_1 _ _ (hid_ _ _ (rd_row (hs.mem.del (.s (.s (.s .z))))))) (hs.mem.del .z) (by omega) (by simp only [maxLen]; omega)) rfl ?_; clear hs w a; intro a w hs
    replace hs := hs.recell (v' := .int .i64 (((gEx x : Nat) : Int))) (Option.some.inj (by rw [gEx_D hE_.1]))
    refine st_as hs rfl rfl ?_; clear hs w a; intro a w hs
    refine wpList_nil ?_
    refine then_n (hK85 _ _ ?_)
    refine wp_seq_k fun K86 hK87 => ?_
    refine wp_seq_k fun K88 hK89 => ?_
    refine wp_region_lit ?_
    refine st_run 2 [(97, .bool (!((((gEx x : Nat) : Int) : Int) == 0)))] hs .n (by kernel_rfl) (by kernel_rfl) (by kernel_rfl) ?_; clear hs a; intro a hs
    refine wpList_nil ?_
    refine then_n (hK89 _ _ ?_)
    refine wp_if hs rfl (fun hc90 => ?_) (fun hc90 => ?_)
    ·
     replace hc90 := not_t hc90
     replace hc90 := ne_of_beq_f hc90
     refine wp_seq_k fun K91 hK92 => ?_
     refine wp_region_lit ?_
     refine st_build (it := Try.t69) (zs := [.int .i64 (0), .int .i64 (0), .int .i64 (0), .slice none 0 0]) (places := [(0, 1), (1, 1), (2, 1), (3, 1)]) hs .n Try.underlying69 rfl rfl rfl rfl .n rfl ?_; clear hs w a; intro a w hs
     refine st_mv hs rfl rfl ?_; clear hs w a; intro a w hs
     refine st_stBA hs rfl rfl (.s (.s (.s (.s .z)))) (.z (.c (.c (.c (.c .n))))) (ones_c rfl (ones_c rfl (ones_c rfl (ones_c rfl ones_n)))) Try.sizeOf69 rfl ?_; clear hs w a; intro a w hs
     refine st_as hs rfl rfl ?_; clear hs w a; intro a w hs
     refine wpList_nil ?_
     refine then_n (hK92 _ _ ?_)
     refine wp_ret ?_
     refine th_r ?_
     replace hs := hs.addNil 25 9
     have hG_ := gRead_err (bs := bs) (by omega) ho (by omega)
     exact finC2 hs rfl rfl rfl (.s .z) (.z (.c (.c (.c (.c .n))))) Try.isAgg69 Try.sizeOf69 (.c (.s (.s (.s (.s (.s .z))))) (.c (.s (.s (.s (.s .z)))) (.c (.s (.s (.s .z))) (.c (.s (.s .z)) (.c (.s .z) .n))))) (by rw [hG_]; dsimp only; exact ⟨.slice none 0 0, rfl, rfl⟩)
    replace hc90 := not_f hc90
    replace hc90 := eq_of_beq hc90
    have hS_ := hE_.2 (rDone_e ((gEx_D hE_.1).trans (by omega)))
    rw [gSx_def] at hS_
    replace hs := hs.rerow (.s (.s .z)) (m' := (gSx x).1.length) (xs' := ((gSx x).1.flatMap recV)) (by rw [hS_]) (by rw [hS_])
    refine wp_skip ?_
    refine then_n (hK87 _ _ ?_)
    refine wp_seq_k fun K93 hK94 => ?_
    refine wp_region_lit ?_
    refine st_ldBA hs rfl (.s (.s .z)) (.z (.c (.c (.c (.c .n))))) Try.isAgg69 Try.sizeOf69 rfl ?_; clear hs w a; intro a w hs
    refine st_stBA hs rfl rfl (.s (.s (.s (.s .z)))) (.z (.c (.c (.c (.c .n))))) (ones_c rfl (ones_c rfl (ones_c rfl (ones_c (rd_row (hs.mem.del .z)).isSl.one ones_n)))) Try.sizeOf69 rfl ?_; clear hs w a; intro a w hs
    refine st_as hs rfl rfl ?_; clear hs w a; intro a w hs
    refine wpList_nil ?_
    refine then_n (hK94 _ _ ?_)
    refine wp_ret ?_
    have hG_ := gRead_ok (bs := bs) (by omega) ho (by omega)
    exact finC2 hs rfl rfl rfl .z (.z (.c (.c (.c (.c .n))))) Try.isAgg69 Try.sizeOf69 (.c (.s (.s (.s (.s .z)))) (.c (.s (.s (.s .z))) (.c (.s (.s .z)) (.c .z .n)))) (by rw [hG_]; dsimp only; exact ⟨p, rfl, rfl⟩)
   rw [hc70] at hs
   replace hc70 := of_decide_eq_false hc70
   refine st_run 6 [(77, .bool (false)), (76, undef), (75, undef), (74, undef), (73, undef), (72, undef)] hs .n (by kernel_rfl) (by kernel_rfl) (by kernel_rfl) ?_; clear hs a; intro a hs
   refine wpList_nil ?_
   refine then_n (hK69 _ _ ?_)
   refine wp_cond_false (hs.ev rfl) ?_
   refine wp_exit ?_
   refine th_e ?_
   refine th_e ?_
   refine in_hit ?_
   refine then_n (hK62 _ _ ?_)
   refine wp_seq_k fun K95 hK96 => ?_
   refine wp_region_lit ?_
   refine st_mv hs rfl rfl ?_; clear hs w a; intro a w hs
   have hE_ := gD_end (bs := x) (R := (gBx x).2) (i := i) (gBx_le x).1 (by omega) (by omega)
   refine st_callP (v := .int .i64 ((((rDone x (((gD x (gBx x).2 i).2.2))) : Nat) : Int))) hs (.c rfl .n) Try.call74 (mdone_ok g18 _ x (((gD x (gBx x).2 i).2.2)) _ (hI1_1 _ _ (hid_ _ _ (rd_row (hs.mem.del (.s (.s (.s .z))))))) (hs.mem.del .z) (by omega) (by simp only [maxLen]; omega)) rfl ?_; clear hs w a; intro a w hs
   replace hs := hs.recell (v' := .int .i64 (((gEx x : Nat) : Int))) (Option.some.inj (by rw [gEx_D hE_.1]))
   refine st_as hs rfl rfl ?_; clear hs w a; intro a w hs
   refine wpList_nil ?_
   refine then_n (hK96 _ _ ?_)
   refine wp_seq_k fun K97 hK98 => ?_
   refine wp_seq_k fun K99 hK100 => ?_
   refine wp_region_lit ?_
   refine st_run 2 [(97, .bool (!((((gEx x : Nat) : Int) : Int) == 0)))] hs .n (by kernel_rfl) (by kernel_rfl) (by kernel_rfl) ?_; clear hs a; intro a hs
   refine wpList_nil ?_
   refine then_n (hK100 _ _ ?_)
   refine wp_if hs rfl (fun hc101 => ?_) (fun hc101 => ?_)
   ·
    replace hc101 := not_t hc101
    replace hc101 := ne_of_beq_f hc101
    refine wp_seq_k fun K102 hK103 => ?_
    refine wp_region_lit ?_
    refine st_build (it := Try.t69) (zs := [.int .i64 (0), .int .i64 (0), .int .i64 (0), .slice none 0 0]) (places := [(0, 1), (1, 1), (2, 1), (3, 1)]) hs .n Try.underlying69 rfl rfl rfl rfl .n rfl ?_; clear hs w a; intro a w hs
    refine st_mv hs rfl rfl ?_; clear hs w a; intro a w hs
    refine st_stBA hs rfl rfl (.s (.s (.s (.s .z)))) (.z (.c (.c (.c (.c .n))))) (ones_c rfl (ones_c rfl (ones_c rfl (ones_c rfl ones_n)))) Try.sizeOf69 rfl ?_; clear hs w a; intro a w hs
    refine st_as hs rfl rfl ?_; clear hs w a; intro a w hs
    refine wpList_nil ?_
    refine then_n (hK103 _ _ ?_)
    refine wp_ret ?_
    refine th_r ?_
    replace hs := hs.addNil 25 9
    have hG_ := gRead_err (bs := bs) (by omega) ho (by omega)
    exact finC2 hs rfl rfl rfl (.s .z) (.z (.c (.c (.c (.c .n))))) Try.isAgg69 Try.sizeOf69 (.c (.s (.s (.s (.s (.s .z))))) (.c (.s (.s (.s (.s .z)))) (.c (.s (.s (.s .z))) (.c (.s (.s .z)) (.c (.s .z) .n))))) (by rw [hG_]; dsimp only; exact ⟨.slice none 0 0, rfl, rfl⟩)
   replace hc101 := not_f hc101
   replace hc101 := eq_of_beq hc101
   have hS_ := hE_.2 (rDone_e ((gEx_D hE_.1).trans (by omega)))
   rw [gSx_def] at hS_
   replace hs := hs.rerow (.s (.s .z)) (m' := (gSx x).1.length) (xs' := ((gSx x).1.flatMap recV)) (by rw [hS_]) (by rw [hS_])
   refine wp_skip ?_
   refine then_n (hK98 _ _ ?_)
   refine wp_seq_k fun K104 hK105 => ?_
   refine wp_region_lit ?_
   refine st_ldBA hs rfl (.s (.s .z)) (.z (.c (.c (.c (.c .n))))) Try.isAgg69 Try.sizeOf69 rfl ?_; clear hs w a; intro a w hs
   refine st_stBA hs rfl rfl (.s (.s (.s (.s .z)))) (.z (.c (.c (.c (.c .n))))) (ones_c rfl (ones_c rfl (ones_c rfl (ones_c (rd_row (hs.mem.del .z)).isSl.one ones_n)))) Try.sizeOf69 rfl ?_; clear hs w a; intro a w hs
   refine st_as hs rfl rfl ?_; clear hs w a; intro a w hs
   refine wpList_nil ?_
   refine then_n (hK105 _ _ ?_)
   refine wp_ret ?_
   have hG_ := gRead_ok (bs := bs) (by omega) ho (by omega)
   exact finC2 hs rfl rfl rfl .z (.z (.c (.c (.c (.c .n))))) Try.isAgg69 Try.sizeOf69 (.c (.s (.s (.s (.s .z)))) (.c (.s (.s (.s .z))) (.c (.s (.s .z)) (.c .z .n)))) (by rw [hG_]; dsimp only; exact ⟨p, rfl, rfl⟩)
  rw [hc44] at hs
  replace hc44 := of_decide_eq_false hc44
  refine st_run 4 [(49, .bool (decide (2305843009213693952 < ((rInt x ((gTx x).2)).1))))] hs (.c (hs.mem.del .z) .n) (by kernel_rfl) (by kernel_rfl) (by kernel_rfl) ?_; clear hs a; intro a hs
  refine wpList_nil ?_
  refine then_n (hK43 _ _ ?_)
  refine wp_cut (fun a w => ∃ q3 : Value, St 101 [(2, .pointer (some ⟨g3, 0, none⟩)), (6, .pointer (some ⟨g18, 0, none⟩)), (7, .pointer (some ⟨g32, 0, none⟩))] w0 [] [blk g18 [q3, .int .i64 (((((gTmx x).2).p : Nat) : Int)), .int .i64 (((((gTmx x).2).e : Nat) : Int))] 44, blk g32 [.int .i64 ((gTx x).1), .int .i64 ((gTmx x).1), .int .i64 (-1), .slice none 0 0] 69, row v11 5 1 x.length (bytesV x), blk g3 [.int .i64 (0), .int .i64 (0), .int .i64 (0), .slice none 0 0] 69] a w ∧ Tr x (id v11) (⟨0, 0⟩ : Rs).p q3 (gTmx x).2.p) ?_ ?_
  ·
   refine wp_if hs rfl (fun hc106 => ?_) (fun hc106 => ?_)
   ·
    replace hc106 := of_decide_eq_true hc106
    refine wp_region_lit ?_
    refine st_mv hs rfl rfl ?_; clear hs w a; intro a w hs
    refine st_call hs (.c rfl (.c rfl .n)) Try.call56 (.c (.s .z) .n) (mfail_ok 3 g18 _ x (((rInt x ((gTx x).2)).2)) _ ((uNext_tr (p := ((gTx x).2).p) (p' := ((rInt x ((gTx x).2)).2).p) (by omega) (by omega)) _ _ (ht36 _ _ (ht29 _ _ (ht22 _ _ (hid_ _ _ (hs.mem.rdrow (.s (.s .z)) (.c (.s .z) .n))))))) (hs.mem.del (.s .z)) (by omega) (by simp only [maxLen]; omega)) rfl ?_; clear hs w a; rintro _ _ a w ⟨rfl, rfl⟩ hs; simp only [List.cons_append, List.nil_append] at hs
    have hk107 := rFail_le (bs := x) (R := ((rInt x ((gTx x).2)).2)) (e := 3) (by omega)
    refine wpList_nil ?_
    refine then_n ?_
    have hQ_ := gTmx_bad (x := x) (by omega)
    have hT_ : Tr x (id v11) (⟨0, 0⟩ : Rs).p ((id ((uNext ((uNext u26 x.length (gR1 x).p ((rUint x (4294967295#64) (gR1 x)).2).p)) x.length ((gTx x).2).p ((rInt x ((gTx x).2)).2).p)))) (gTmx x).2.p := by rw [hQ_]; dsimp only; exact (fun w T h => (fail_tr (bs := x) (R := ((rInt x ((gTx x).2)).2)) (e := 3)) w T ((fun w T h => (uNext_tr (p := ((gTx x).2).p) (p' := ((rInt x ((gTx x).2)).2).p) (by omega) (by omega)) w T ((fun w T h => ht36 w T ((fun w T h => ht29 w T ((fun w T h => ht22 w T (Tr.refl w T h)) w T h)) w T h)) w T h)) w T h))
    replace hs := hs.reblk .z (cs' := [(id ((uNext ((uNext u26 x.length (gR1 x).p ((rUint x (4294967295#64) (gR1 x)).2).p)) x.length ((gTx x).2).p ((rInt x ((gTx x).2)).2).p))), .int .i64 ((((gTmx x).2.p : Nat) : Int)), .int .i64 ((((gTmx x).2.e : Nat) : Int))]) (by rw [hQ_])
    replace hs := hs.reblk (.s .z) (cs' := [.int .i64 ((gTx x).1), .int .i64 ((gTmx x).1), .int .i64 (-1), .slice none 0 0]) (by rw [hQ_])
    replace hs := hs.reorder (.c (.s .z) (.c .z (.c .z (.c .z .n))))
    exact ⟨(id ((uNext ((uNext u26 x.length (gR1 x).p ((rUint x (4294967295#64) (gR1 x)).2).p)) x.length ((gTx x).2).p ((rInt x ((gTx x).2)).2).p))), hs.sub (.c rfl (.c rfl (.c rfl .n))), hT_⟩
   replace hc106 := of_decide_eq_false hc106
   refine wp_skip ?_
   refine then_n ?_
   have hQ_ := gTmx_ok (x := x) (by omega)
   have hT_ : Tr x (id v11) (⟨0, 0⟩ : Rs).p ((uNext ((uNext u26 x.length (gR1 x).p ((rUint x (4294967295#64) (gR1 x)).2).p)) x.length ((gTx x).2).p ((rInt x ((gTx x).2)).2).p)) (gTmx x).2.p := by rw [hQ_]; dsimp only; exact (fun w T h => (uNext_tr (p := ((gTx x).2).p) (p' := ((rInt x ((gTx x).2)).2).p) (by omega) (by omega)) w T ((fun w T h => ht36 w T ((fun w T h => ht29 w T ((fun w T h => ht22 w T (Tr.refl w T h)) w T h)) w T h)) w T h))
   replace hs := hs.reblk (.s .z) (cs' := [(uNext ((uNext u26 x.length (gR1 x).p ((rUint x (4294967295#64) (gR1 x)).2).p)) x.length ((gTx x).2).p ((rInt x ((gTx x).2)).2).p), .int .i64 ((((gTmx x).2.p : Nat) : Int)), .int .i64 ((((gTmx x).2.e : Nat) : Int))]) (by rw [hQ_])
   replace hs := hs.reblk (.s .z) (cs' := [.int .i64 ((gTx x).1), .int .i64 ((gTmx x).1), .int .i64 (-1), .slice none 0 0]) (by rw [hQ_])
   replace hs := hs.reorder (.c (.s .z) (.c .z (.c .z (.c .z .n))))
   exact ⟨(uNext ((uNext u26 x.length (gR1 x).p ((rUint x (4294967295#64) (gR1 x)).2).p)) x.length ((gTx x).2).p ((rInt x ((gTx x).2)).2).p), hs.sub (.c rfl (.c rfl (.c rfl .n))), hT_⟩
  clear hs w a; rintro a w ⟨q3, hs, hJ108⟩
  have hr_q3 := gTmx_le x
  refine then_n (hK41 _ _ ?_)
  refine wp_seq_k fun K109 hK110 => ?_
  refine wp_region_lit ?_
  refine st_run 3 [(54, .int .i64 ((gTx x).1)), (52, .pointer (some ⟨g18, 0, none⟩))] hs (.c (hs.mem.del (.s .z)) .n) (by kernel_rfl) (by kernel_rfl) (by kernel_rfl) ?_; clear hs a; intro a hs
  refine st_cv_u64 hs rfl Try.underlying2 Try.underlying37 rfl ?_; clear hs w a; intro a w hs
  refine st_call hs (.c rfl (.c rfl .n)) Try.call57 (.c .z .n) (muint_ok (BitVec.ofInt 64 ((gTx x).1)) g18 _ x (((gTmx x).2)) _ (hJ108 _ _ (hid_ _ _ (hs.mem.rdrow (.s (.s .z)) (.c .z .n)))) (hs.mem.del .z) (by omega) (by simp only [maxLen]; omega)) rfl ?_; clear hs w a; rintro _ _ a w ⟨rfl, rfl⟩ hs; simp only [List.cons_append, List.nil_append] at hs
  have hk111 := rUint_le (X := BitVec.ofInt 64 ((gTx x).1)) (bs := x) (R := ((gTmx x).2)) (by omega)
  refine st_cv_u64_i64 (X := (rUint x (BitVec.ofInt 64 ((gTx x).1)) (((gTmx x).2))).1) hs rfl rfl Try.underlying37 Try.underlying2 rfl ?_; clear hs w a; intro a w hs
  have hot := ofInt64 (x := (gTx x).1) (by omega) (by omega)
  replace hs := hs.recell (v' := .int .i64 ((((rUint x (BitVec.ofInt 64 (gTx x).1) (gTmx x).2).1.toNat : Nat) : Int))) (Option.some.inj (congrArg (fun z => some (Value.int .i64 z)) (toInt_lim (by omega))))
  refine st_as hs rfl rfl ?_; clear hs w a; intro a w hs
  refine wpList_nil ?_
  refine then_n (hK110 _ _ ?_)
  refine wp_seq_k fun K112 hK113 => ?_
  refine wp_seq_k fun K114 hK115 => ?_
  refine wp_region_lit ?_
  refine st_run 2 [(59, .bool (decide (0 < ((((rUint x (BitVec.ofInt 64 (gTx x).1) (gTmx x).2).1.toNat : Nat) : Int)))))] hs .n (by kernel_rfl) (by kernel_rfl) (by kernel_rfl) ?_; clear hs a; intro a hs
  refine wpList_nil ?_
  refine then_n (hK115 _ _ ?_)
  refine wp_cut (fun a w => ∃ q4 : Value, St 101 [(2, .pointer (some ⟨g3, 0, none⟩)), (6, .pointer (some ⟨g18, 0, none⟩)), (7, .pointer (some ⟨g32, 0, none⟩))] w0 [] [blk g18 [q4, .int .i64 (((((gBx x).2).p : Nat) : Int)), .int .i64 (((((gBx x).2).e : Nat) : Int))] 44, blk g32 [.int .i64 ((gTx x).1), .int .i64 ((gTmx x).1), .int .i64 ((gBx x).1), .slice none 0 0] 69, row v11 5 1 x.length (bytesV x), blk g3 [.int .i64 (0), .int .i64 (0), .int .i64 (0), .slice none 0 0] 69] a w ∧ Tr x (id v11) (⟨0, 0⟩ : Rs).p q4 (gBx x).2.p) ?_ ?_
  ·
   refine wp_if hs rfl (fun hc116 => ?_) (fun hc116 => ?_)
   ·
    replace hc116 := of_decide_eq_true hc116
    refine wp_region_lit ?_
    refine st_run 3 [(62, .int .i64 ((((rUint x (BitVec.ofInt 64 (gTx x).1) (gTmx x).2).1.toNat : Nat) : Int))), (61, .int .i64 ((gTx x).1))] hs (.c (hs.mem.del (.s .z)) .n) (by kernel_rfl) (by kernel_rfl) (by kernel_rfl) ?_; clear hs a; intro a hs
    refine st_subR hs rfl rfl (by omega) rfl ?_; clear hs w a; intro a w hs
    refine st_fa hs rfl Try.underlying69 rfl Try.sizeOf2 (by decide) (o := 2) rfl rfl ?_; clear hs w a; intro a w hs
    refine st_stB hs rfl rfl (.s .z) (.s (.s .z)) rfl Try.sizeOf2 ?_; clear hs w a; intro a w hs
    refine wpList_nil ?_
    refine then_n ?_
    have hQ_ := gBx_pos (x := x) (by omega)
    have hT_ : Tr x (id v11) (⟨0, 0⟩ : Rs).p ((uNext q3 x.length (((gTmx x).2)).p ((rUint x (BitVec.ofInt 64 ((gTx x).1)) (((gTmx x).2))).2).p)) (gBx x).2.p := by rw [hQ_]; dsimp only; exact (fun w T h => (uNext_tr (p := (((gTmx x).2)).p) (p' := ((rUint x (BitVec.ofInt 64 ((gTx x).1)) (((gTmx x).2))).2).p) (by omega) (by omega)) w T ((fun w T h => hJ108 w T (Tr.refl w T h)) w T h))
    replace hs := hs.reblk (.s .z) (cs' := [(uNext q3 x.length (((gTmx x).2)).p ((rUint x (BitVec.ofInt 64 ((gTx x).1)) (((gTmx x).2))).2).p), .int .i64 ((((gBx x).2.p : Nat) : Int)), .int .i64 ((((gBx x).2.e : Nat) : Int))]) (by rw [hQ_])
    replace hs := hs.reblk (.s .z) (cs' := [.int .i64 ((gTx x).1), .int .i64 ((gTmx x).1), .int .i64 ((gBx x).1), .slice none 0 0]) (by rw [hQ_])
    replace hs := hs.reorder (.c (.s .z) (.c .z (.c .z (.c .z .n))))
    exact ⟨(uNext q3 x.length (((gTmx x).2)).p ((rUint x (BitVec.ofInt 64 ((gTx x).1)) (((gTmx x).2))).2).p), hs.sub (.c rfl (.c rfl (.c rfl .n))), hT_⟩
   replace hc116 := of_decide_eq_false hc116
   refine wp_skip ?_
   refine then_n ?_
   have hQ_ := gBx_neg (x := x) (by omega)
   have hT_ : Tr x (id v11) (⟨0, 0⟩ : Rs).p ((uNext q3 x.length (((gTmx x).2)).p ((rUint x (BitVec.ofInt 64 ((gTx x).1)) (((gTmx x).2))).2).p)) (gBx x).2.p := by rw [hQ_]; dsimp only; exact (fun w T h => (uNext_tr (p := (((gTmx x).2)).p) (p' := ((rUint x (BitVec.ofInt 64 ((gTx x).1)) (((gTmx x).2))).2).p) (by omega) (by omega)) w T ((fun w T h => hJ108 w T (Tr.refl w T h)) w T h))
   replace hs := hs.reblk .z (cs' := [(uNext q3 x.length (((gTmx x).2)).p ((rUint x (BitVec.ofInt 64 ((gTx x).1)) (((gTmx x).2))).2).p), .int .i64 ((((gBx x).2.p : Nat) : Int)), .int .i64 ((((gBx x).2.e : Nat) : Int))]) (by rw [hQ_])
   replace hs := hs.reblk (.s .z) (cs' := [.int .i64 ((gTx x).1), .int .i64 ((gTmx x).1), .int .i64 ((gBx x).1), .slice none 0 0]) (by rw [hQ_])
   replace hs := hs.reorder (.c (.s .z) (.c .z (.c .z (.c .z .n))))
   exact ⟨(uNext q3 x.length (((gTmx x).2)).p ((rUint x (BitVec.ofInt 64 ((gTx x).1)) (((gTmx x).2))).2).p), hs.sub (.c rfl (.c rfl (.c rfl .n))), hT_⟩
  clear hs w a; rintro a w ⟨q4, hs, hJ117⟩
  have hr_q4 := gBx_le x
  refine then_n (hK113 _ _ ?_)
  refine wp_seq_k fun K118 hK119 => ?_
  refine wp_region_lit ?_
  refine st_mv hs rfl rfl ?_; clear hs w a; intro a w hs
  refine st_call hs (.c rfl (.c rfl .n)) Try.call57 (.c .z .n) (muint_ok (128#64) g18 _ x (((gBx x).2)) _ (hJ117 _ _ (hid_ _ _ (hs.mem.rdrow (.s (.s .z)) (.c .z .n)))) (hs.mem.del .z) (by omega) (by simp only [maxLen]; omega)) rfl ?_; clear hs w a; rintro _ _ a w ⟨rfl, rfl⟩ hs; simp only [List.cons_append, List.nil_append] at hs
  have hk120 := rUint_le (X := 128#64) (bs := x) (R := ((gBx x).2)) (by omega)
  refine st_cv_u64_i64 (X := (rUint x (128#64) (((gBx x).2))).1) hs rfl rfl Try.underlying37 Try.underlying3 rfl ?_; clear hs w a; intro a w hs
  have hnm := gN_le x (gBx x).2
  replace hs := hs.recell (v' := .int .i64 ((((gN x (gBx x).2) : Nat) : Int))) (Option.some.inj (congrArg (fun z => some (Value.int .i64 z)) (toInt_lim (show (gN x (gBx x).2) ≤ _ by omega))))
  refine st_as hs rfl rfl ?_; clear hs w a; intro a w hs
  refine wpList_nil ?_
  refine then_n (hK119 _ _ ?_)
  refine wp_seq_k fun K121 hK122 => ?_
  refine wp_region_lit ?_
  refine st_as hs rfl rfl ?_; clear hs w a; intro a w hs
  refine wpList_nil ?_
  refine then_n (hK122 _ _ ?_)
  refine wp_seq_k fun K123 hK124 => ?_
  refine wp_seq_k fun K125 hK126 => ?_
  refine wp_region_lit ?_
  refine st_as hs rfl rfl ?_; clear hs w a; intro a w hs
  refine wpList_nil ?_
  refine then_n (hK126 _ _ ?_)
  refine wp_block ?_
  have ht127 : ∀ w' T, Rd w' T q4 1 ((x.length - (gBx x).2.p)) (bytesV (x.drop (gBx x).2.p)) → Rd w' T ((uNext q4 x.length (((gBx x).2)).p ((rUint x (128#64) (((gBx x).2))).2).p)) 1 (x.length - (gD x (gBx x).2 0).2.2.p) (bytesV (x.drop (gD x (gBx x).2 0).2.2.p)) := by rw [gD_zero]; try dsimp only; exact (uNext_tr (p := (((gBx x).2)).p) (p' := ((rUint x (128#64) (((gBx x).2))).2).p) (by omega) (by omega))
  replace hs := hs.reblk .z (cs' := [(uNext q4 x.length (((gBx x).2)).p ((rUint x (128#64) (((gBx x).2))).2).p), .int .i64 ((((gD x (gBx x).2 0).2.2.p : Nat) : Int)), .int .i64 ((((gD x (gBx x).2 0).2.2.e : Nat) : Int))]) (by rw [gD_zero]; try dsimp only)
  replace hs := hs.reslot (d := 10) (v := .int .i64 (-1)) (v' := .int .i64 ((gD x (gBx x).2 0).2.1)) rfl (Option.some.inj (by rw [gD_zero]))
  replace hs := hs.addNil 25 9
  replace hs := hs.rerow .z (m' := (gD x (gBx x).2 0).1.length) (xs' := ((gD x (gBx x).2 0).1.flatMap recV)) (by rw [gD_zero]; rfl) (by rw [gD_zero]; rfl)
  replace hs := hs.reorder (.c (.s .z) (.c (.s .z) (.c .z (.c .z (.c .z .n)))))
  have hT0 : Tr x (id v11) (⟨0, 0⟩ : Rs).p ((uNext q4 x.length (((gBx x).2)).p ((rUint x (128#64) (((gBx x).2))).2).p)) (gD x (gBx x).2 0).2.2.p := (fun w T h => ht127 w T ((fun w T h => hJ117 w T (Tr.refl w T h)) w T h))
  refine wp_loopI (fun mm_ a w => ∃ i : Nat, ∃ q : Value, ∃ p : Value, mm_ = (gN x (gBx x).2) - i ∧ St 101 [(2, .pointer (some ⟨g3, 0, none⟩)), (6, .pointer (some ⟨g18, 0, none⟩)), (7, .pointer (some ⟨g32, 0, none⟩)), (9, .int .i64 ((((gN x (gBx x).2) : Nat) : Int))), (10, .int .i64 ((gD x (gBx x).2 i).2.1)), (11, .int .i64 ((i : Int)))] w0 [] [blk g18 [q, .int .i64 (((((gD x (gBx x).2 i).2.2).p : Nat) : Int)), .int .i64 (((((gD x (gBx x).2 i).2.2).e : Nat) : Int))] 44, blk g32 [.int .i64 ((gTx x).1), .int .i64 ((gTmx x).1), .int .i64 ((gBx x).1), p] 69, row p 25 9 ((gD x (gBx x).2 i).1.length) (((gD x (gBx x).2 i).1.flatMap recV)), row v11 5 1 x.length (bytesV x), blk g3 [.int .i64 (0), .int .i64 (0), .int .i64 (0), .slice none 0 0] 69] a w ∧ i ≤ (gN x (gBx x).2) ∧ Tr x (id v11) (⟨0, 0⟩ : Rs).p q (gD x (gBx x).2 i).2.2.p) ⟨0, (uNext q4 x.length (((gBx x).2)).p ((rUint x (128#64) (((gBx x).2))).2).p), .slice none 0 0, rfl, hs.sub (.c rfl (.c rfl (.c rfl (.c rfl (.c rfl (.c rfl .n)))))), by omega, hT0⟩ ?_
  clear hs w a; rintro mm_ a w ⟨i, q, p, rfl, hs, hI1_0, hI1_1⟩
  have hDi := gD_inv (gBx_le x).1 i
  refine wp_seq_k fun K128 hK129 => ?_
  refine wp_seq_k fun K130 hK131 => ?_
  refine wp_region_lit ?_
  refine st_run 4 [(71, .bool (decide ((i : Int) < ((((gN x (gBx x).2) : Nat) : Int))))), (70, .bool (decide ((i : Int) < ((((gN x (gBx x).2) : Nat) : Int))))), (69, .int .i64 ((((gN x (gBx x).2) : Nat) : Int))), (68, .int .i64 ((i : Int)))] hs .n (by kernel_rfl) (by kernel_rfl) (by kernel_rfl) ?_; clear hs a; intro a hs
  refine st_part (b := decide ((i : Int) < ((((gN x (gBx x).2) : Nat) : Int)))) (fun hc132 => ?_) (fun hc132 => ?_)
  ·
   rw [hc132] at hs
   replace hc132 := of_decide_eq_true hc132
   refine st_run 6 [(77, .bool ((((((gD x (gBx x).2 i).2.2).e : Nat) : Int) : Int) == 0)), (76, .bool ((((((gD x (gBx x).2 i).2.2).e : Nat) : Int) : Int) == 0)), (75, .int .i64 (((((gD x (gBx x).2 i).2.2).e : Nat) : Int))), (74, .pointer (some ⟨g18, 2, none⟩)), (73, .pointer (some ⟨g18, 0, none⟩)), (72, .pointer (some ⟨g18, 0, none⟩))] hs (.c (hs.mem.del .z) .n) (by kernel_rfl) (by kernel_rfl) (by kernel_rfl) ?_; clear hs a; intro a hs
   refine wpList_nil ?_
   refine then_n (hK131 _ _ ?_)
   refine wp_if hs rfl (fun hc133 => ?_) (fun hc133 => ?_)
   ·
    replace hc133 := eq_of_beq hc133
    have hdl := gD_last (gBx_le x).1 (i := i) (by omega)
    refine wp_skip ?_
    refine then_n (hK129 _ _ ?_)
    refine wp_seq_k fun K134 hK135 => ?_
    refine wp_block ?_
    refine wp_seq_k fun K136 hK137 => ?_
    refine wp_region_lit ?_
    refine st_run 2 [(82, .int .i64 ((gD x (gBx x).2 i).2.1)), (81, .pointer (some ⟨g18, 0, none⟩))] hs .n (by kernel_rfl) (by kernel_rfl) (by kernel_rfl) ?_; clear hs a; intro a hs
    refine st_call hs (.c rfl (.c rfl .n)) Try.call27 (.c .z .n) (mread_ok g18 _ x (((gD x (gBx x).2 i).2.2)) ((gD x (gBx x).2 i).2.1) _ (hI1_1 _ _ (hid_ _ _ (hs.mem.rdrow (.s (.s (.s .z))) (.c .z .n)))) (hs.mem.del .z) (by omega) (by simp only [maxLen]; omega) (by omega)) rfl ?_; clear hs w a; rintro _ _ a w ⟨u138, rfl, rfl, ht139⟩ hs; simp only [List.cons_append, List.nil_append] at hs
    have hk140 := rdRec_le (bs := x) (last := ((gD x (gBx x).2 i).2.1)) (R := ((gD x (gBx x).2 i).2.2)) (by omega)
    refine st_run 3 [(85, .int .i64 ((((rdRec x ((gD x (gBx x).2 i).2.1) (((gD x (gBx x).2 i).2.2))).2.1 : Nat) : Int))), (84, .agg #[.int .i64 (((rdRec x ((gD x (gBx x).2 i).2.1) (((gD x (gBx x).2 i).2.2))).1).k), .int .i64 (((rdRec x ((gD x (gBx x).2 i).2.1) (((gD x (gBx x).2 i).2.2))).1).id), .int .i64 (((rdRec x ((gD x (gBx x).2 i).2.1) (((gD x (gBx x).2 i).2.2))).1).p0), .int .i64 (((rdRec x ((gD x (gBx x).2 i).2.1) (((gD x (gBx x).2 i).2.2))).1).p1), .int .i64 (((rdRec x ((gD x (gBx x).2 i).2.1) (((gD x (gBx x).2 i).2.2))).1).p2), .int .i64 (((rdRec x ((gD x (gBx x).2 i).2.1) (((gD x (gBx x).2 i).2.2))).1).v0), .int .i64 (((rdRec x ((gD x (gBx x).2 i).2.1) (((gD x (gBx x).2 i).2.2))).1).v1), .int .i64 (((rdRec x ((gD x (gBx x).2 i).2.1) (((gD x (gBx x).2 i).2.2))).1).v2), .int .u16 ((((((rdRec x ((gD x (gBx x).2 i).2.1) (((gD x (gBx x).2 i).2.2))).1).a).toNat : Nat) : Int))]), (80, .tuple #[.agg #[.int .i64 (((rdRec x ((gD x (gBx x).2 i).2.1) (((gD x (gBx x).2 i).2.2))).1).k), .int .i64 (((rdRec x ((gD x (gBx x).2 i).2.1) (((gD x (gBx x).2 i).2.2))).1).id), .int .i64 (((rdRec x ((gD x (gBx x).2 i).2.1) (((gD x (gBx x).2 i).2.2))).1).p0), .int .i64 (((rdRec x ((gD x (gBx x).2 i).2.1) (((gD x (gBx x).2 i).2.2))).1).p1), .int .i64 (((rdRec x ((gD x (gBx x).2 i).2.1) (((gD x (gBx x).2 i).2.2))).1).p2), .int .i64 (((rdRec x ((gD x (gBx x).2 i).2.1) (((gD x (gBx x).2 i).2.2))).1).v0), .int .i64 (((rdRec x ((gD x (gBx x).2 i).2.1) (((gD x (gBx x).2 i).2.2))).1).v1), .int .i64 (((rdRec x ((gD x (gBx x).2 i).2.1) (((gD x (gBx x).2 i).2.2))).1).v2), .int .u16 ((((((rdRec x ((gD x (gBx x).2 i).2.1) (((gD x (gBx x).2 i).2.2))).1).a).toNat : Nat) : Int))], .int .i64 ((((rdRec x ((gD x (gBx x).2 i).2.1) (((gD x (gBx x).2 i).2.2))).2.1 : Nat) : Int))])] hs .n (by kernel_rfl) (by kernel_rfl) (by kernel_rfl) ?_; clear hs a; intro a hs
    refine st_alloc (cs := [.int .i64 (0), .int .i64 (0), .int .i64 (0), .int .i64 (0), .int .i64 (0), .int .i64 (0), .int .i64 (0), .int .i64 (0), .int .u16 (0)]) hs Try.zeroValue25 rfl rfl ?_; clear hs w a; intro g141 a w hs
    refine st_stBA hs rfl rfl .z (.z (.c (.c (.c (.c (.c (.c (.c (.c (.c .n)))))))))) (ones_c rfl (ones_c rfl (ones_c rfl (ones_c rfl (ones_c rfl (ones_c rfl (ones_c rfl (ones_c rfl (ones_c rfl ones_n))))))))) Try.sizeOf25 rfl ?_; clear hs w a; intro a w hs
    refine st_as hs rfl rfl ?_; clear hs w a; intro a w hs
    refine wpList_nil ?_
    refine then_n (hK137 _ _ ?_)
    refine wp_seq_k fun K142 hK143 => ?_
    refine wp_region_lit ?_
    refine st_run 3 [(88, .agg #[.int .i64 (((rdRec x ((gD x (gBx x).2 i).2.1) (((gD x (gBx x).2 i).2.2))).1).k), .int .i64 (((rdRec x ((gD x (gBx x).2 i).2.1) (((gD x (gBx x).2 i).2.2))).1).id), .int .i64 (((rdRec x ((gD x (gBx x).2 i).2.1) (((gD x (gBx x).2 i).2.2))).1).p0), .int .i64 (((rdRec x ((gD x (gBx x).2 i).2.1) (((gD x (gBx x).2 i).2.2))).1).p1), .int .i64 (((rdRec x ((gD x (gBx x).2 i).2.1) (((gD x (gBx x).2 i).2.2))).1).p2), .int .i64 (((rdRec x ((gD x (gBx x).2 i).2.1) (((gD x (gBx x).2 i).2.2))).1).v0), .int .i64 (((rdRec x ((gD x (gBx x).2 i).2.1) (((gD x (gBx x).2 i).2.2))).1).v1), .int .i64 (((rdRec x ((gD x (gBx x).2 i).2.1) (((gD x (gBx x).2 i).2.2))).1).v2), .int .u16 ((((((rdRec x ((gD x (gBx x).2 i).2.1) (((gD x (gBx x).2 i).2.2))).1).a).toNat : Nat) : Int))]), (87, p), (86, .pointer (some ⟨g32, 3, none⟩))] hs (.c (hs.mem.del (.s (.s .z))) (.c (hs.mem.del .z) .n)) (by kernel_rfl) (by kernel_rfl) (by kernel_rfl) ?_; clear hs a; intro a hs
    refine st_bs (cs := [.int .i64 (((rdRec x ((gD x (gBx x).2 i).2.1) (((gD x (gBx x).2 i).2.2))).1).k), .int .i64 (((rdRec x ((gD x (gBx x).2 i).2.1) (((gD x (gBx x).2 i).2.2))).1).id), .int .i64 (((rdRec x ((gD x (gBx x).2 i).2.1) (((gD x (gBx x).2 i).2.2))).1).p0), .int .i64 (((rdRec x ((gD x (gBx x).2 i).2.1) (((gD x (gBx x).2 i).2.2))).1).p1), .int .i64 (((rdRec x ((gD x (gBx x).2 i).2.1) (((gD x (gBx x).2 i).2.2))).1).p2), .int .i64 (((rdRec x ((gD x (gBx x).2 i).2.1) (((gD x (gBx x).2 i).2.2))).1).v0), .int .i64 (((rdRec x ((gD x (gBx x).2 i).2.1) (((gD x (gBx x).2 i).2.2))).1).v1), .int .i64 (((rdRec x ((gD x (gBx x).2 i).2.1) (((gD x (gBx x).2 i).2.2))).1).v2), .int .u16 ((((((rdRec x ((gD x (gBx x).2 i).2.1) (((gD x (gBx x).2 i).2.2))).1).a).toNat : Nat) : Int))]) hs (.c .n) (.c rfl .n) Try.underlying66 (ie := Try.t25) rfl rfl rfl rfl (by decide) (by decide) rfl (by decide) rfl rfl rfl ?_; clear hs w a; intro g144 a w hs
    refine st_app (size := 9) (bytes := 72) hs rfl rfl (.s (.s (.s (.s .z)))) (rd_blk (m := 1) (size := 9) (hs.mem.del .z) rfl (by decide)) (by simp [Value.oneCell']) Try.underlying66 (i := Try.t25) rfl rfl rfl rfl rfl (by decide) (by omega) (by simp only [maxLen]; omega) rfl ?_; clear hs w a; intro v145 a w hs
    replace hs := hs.drop (.c (.s .z) .n)
    refine st_fa hs rfl Try.underlying69 rfl Try.sizeOf66 (by decide) (o := 3) rfl rfl ?_; clear hs w a; intro a w hs
    refine st_stB hs rfl rfl (.s (.s (.s .z))) (.s (.s (.s .z))) (rd_row (hs.mem.del .z)).isSl.one Try.sizeOf66 ?_; clear hs w a; intro a w hs
    refine wpList_nil ?_
    refine then_n (hK143 _ _ ?_)
    refine wp_region_lit ?_
    refine st_run 3 [(10, .int .i64 (((rdRec x ((gD x (gBx x).2 i).2.1) (((gD x (gBx x).2 i).2.2))).1).id)), (93, .int .i64 (((rdRec x ((gD x (gBx x).2 i).2.1) (((gD x (gBx x).2 i).2.2))).1).id)), (92, .pointer (some ⟨g141, 1, none⟩))] hs (.c (hs.mem.del (.s (.s .z))) .n) (by kernel_rfl) (by kernel_rfl) (by kernel_rfl) ?_; clear hs a; intro a hs
    refine wpList_nil ?_
    refine in_n ?_
    refine then_n (hK135 _ _ ?_)
    refine wp_region_lit ?_
    refine st_mv hs rfl rfl ?_; clear hs w a; intro a w hs
    refine st_addR hs rfl rfl (by omega) rfl ?_; clear hs w a; intro a w hs
    refine st_as hs rfl rfl ?_; clear hs w a; intro a w hs
    refine wpList_nil ?_
    refine then_n ?_
    have hN_ := gD_next (bs := x) (R := (gBx x).2) (i := i) (by omega)
    have hT_ : Tr x (id v11) (⟨0, 0⟩ : Rs).p u138 (gD x (gBx x).2 (i + 1)).2.2.p := by rw [hN_]; dsimp only; exact (fun w T h => ht139 w T ((fun w T h => hI1_1 w T (Tr.refl w T h)) w T h))
    replace hs := hs.rerow (.s .z) (m' := (gD x (gBx x).2 (i + 1)).1.length) (xs' := ((gD x (gBx x).2 (i + 1)).1.flatMap recV)) (by rw [hN_]; simp only [List.length_append, List.length_singleton]) (by rw [hN_]; dsimp only; rw [List.flatMap_append]; rfl)
    replace hs := hs.reblk (.s (.s (.s .z))) (cs' := [u138, .int .i64 ((((gD x (gBx x).2 (i + 1)).2.2.p : Nat) : Int)), .int .i64 ((((gD x (gBx x).2 (i + 1)).2.2.e : Nat) : Int))]) (by rw [hN_])
    replace hs := hs.reslot (d := 10) (v := .int .i64 (((rdRec x ((gD x (gBx x).2 i).2.1) (((gD x (gBx x).2 i).2.2))).1).id)) (v' := .int .i64 ((gD x (gBx x).2 (i + 1)).2.1)) rfl (Option.some.inj (by rw [hN_]))
    replace hs := hs.drop (.c (.s (.s (.s .z))) .n)
    replace hs := hs.reorder (.c .z (.c (.s .z) (.c .z (.c .z (.c .z .n)))))
    refine ⟨_, ?_, i + 1, u138, v145, rfl, hs.sub (.c rfl (.c rfl (.c rfl (.c rfl (.c rfl (.c rfl .n)))))), by omega, hT_⟩
    omega
   replace hc133 := ne_of_beq_f hc133
   refine wp_exit ?_
   refine th_e ?_
   refine th_e ?_
   refine in_hit ?_
   refine then_n (hK124 _ _ ?_)
   refine wp_seq_k fun K146 hK147 => ?_
   refine wp_region_lit ?_
   refine st_mv hs rfl rfl ?_; clear hs w a; intro a w hs
   have hE_ := gD_end (bs := x) (R := (gBx x).2) (i := i) (gBx_le x).1 (by omega) (by omega)
   refine st_callP (v := .int .i64 ((((rDone x (((gD x (gBx x).2 i).2.2))) : Nat) : Int))) hs (.c rfl .n) Try.call74 (mdone_ok g18 _ x (((gD x (gBx x).2 i).2.2)) _ (hI1_1 _ _ (hid_ _ _ (rd_row (hs.mem.del (.s (.s (.s .z))))))) (hs.mem.del .z) (by omega) (by simp only [maxLen]; omega)) rfl ?_; clear hs w a; intro a w hs
   replace hs := hs.recell (v' := .int .i64 (((gEx x : Nat) : Int))) (Option.some.inj (by rw [gEx_D hE_.1]))
   refine st_as hs rfl rfl ?_; clear hs w a; intro a w hs
   refine wpList_nil ?_
   refine then_n (hK147 _ _ ?_)
   refine wp_seq_k fun K148 hK149 => ?_
   refine wp_seq_k fun K150 hK151 => ?_
   refine wp_region_lit ?_
   refine st_run 2 [(97, .bool (!((((gEx x : Nat) : Int) : Int) == 0)))] hs .n (by kernel_rfl) (by kernel_rfl) (by kernel_rfl) ?_; clear hs a; intro a hs
   refine wpList_nil ?_
   refine then_n (hK151 _ _ ?_)
   refine wp_if hs rfl (fun hc152 => ?_) (fun hc152 => ?_)
   ·
    replace hc152 := not_t hc152
    replace hc152 := ne_of_beq_f hc152
    refine wp_seq_k fun K153 hK154 => ?_
    refine wp_region_lit ?_
    refine st_build (it := Try.t69) (zs := [.int .i64 (0), .int .i64 (0), .int .i64 (0), .slice none 0 0]) (places := [(0, 1), (1, 1), (2, 1), (3, 1)]) hs .n Try.underlying69 rfl rfl rfl rfl .n rfl ?_; clear hs w a; intro a w hs
    refine st_mv hs rfl rfl ?_; clear hs w a; intro a w hs
    refine st_stBA hs rfl rfl (.s (.s (.s (.s .z)))) (.z (.c (.c (.c (.c .n))))) (ones_c rfl (ones_c rfl (ones_c rfl (ones_c rfl ones_n)))) Try.sizeOf69 rfl ?_; clear hs w a; intro a w hs
    refine st_as hs rfl rfl ?_; clear hs w a; intro a w hs
    refine wpList_nil ?_
    refine then_n (hK154 _ _ ?_)
    refine wp_ret ?_
    refine th_r ?_
    replace hs := hs.addNil 25 9
    have hG_ := gRead_err (bs := bs) (by omega) ho (by omega)
    exact finC2 hs rfl rfl rfl (.s .z) (.z (.c (.c (.c (.c .n))))) Try.isAgg69 Try.sizeOf69 (.c (.s (.s (.s (.s (.s .z))))) (.c (.s (.s (.s (.s .z)))) (.c (.s (.s (.s .z))) (.c (.s (.s .z)) (.c (.s .z) .n))))) (by rw [hG_]; dsimp only; exact ⟨.slice none 0 0, rfl, rfl⟩)
   replace hc152 := not_f hc152
   replace hc152 := eq_of_beq hc152
   have hS_ := hE_.2 (rDone_e ((gEx_D hE_.1).trans (by omega)))
   rw [gSx_def] at hS_
   replace hs := hs.rerow (.s (.s .z)) (m' := (gSx x).1.length) (xs' := ((gSx x).1.flatMap recV)) (by rw [hS_]) (by rw [hS_])
   refine wp_skip ?_
   refine then_n (hK149 _ _ ?_)
   refine wp_seq_k fun K155 hK156 => ?_
   refine wp_region_lit ?_
   refine st_ldBA hs rfl (.s (.s .z)) (.z (.c (.c (.c (.c .n))))) Try.isAgg69 Try.sizeOf69 rfl ?_; clear hs w a; intro a w hs
   refine st_stBA hs rfl rfl (.s (.s (.s (.s .z)))) (.z (.c (.c (.c (.c .n))))) (ones_c rfl (ones_c rfl (ones_c rfl (ones_c (rd_row (hs.mem.del .z)).isSl.one ones_n)))) Try.sizeOf69 rfl ?_; clear hs w a; intro a w hs
   refine st_as hs rfl rfl ?_; clear hs w a; intro a w hs
   refine wpList_nil ?_
   refine then_n (hK156 _ _ ?_)
   refine wp_ret ?_
   have hG_ := gRead_ok (bs := bs) (by omega) ho (by omega)
   exact finC2 hs rfl rfl rfl .z (.z (.c (.c (.c (.c .n))))) Try.isAgg69 Try.sizeOf69 (.c (.s (.s (.s (.s .z)))) (.c (.s (.s (.s .z))) (.c (.s (.s .z)) (.c .z .n)))) (by rw [hG_]; dsimp only; exact ⟨p, rfl, rfl⟩)
  rw [hc132] at hs
  replace hc132 := of_decide_eq_false hc132
  refine st_run 6 [(77, .bool (false)), (76, undef), (75, undef), (74, undef), (73, undef), (72, undef)] hs .n (by kernel_rfl) (by kernel_rfl) (by kernel_rfl) ?_; clear hs a; intro a hs
  refine wpList_nil ?_
  refine then_n (hK131 _ _ ?_)
  refine wp_cond_false (hs.ev rfl) ?_
  refine wp_exit ?_
  refine th_e ?_
  refine th_e ?_
  refine in_hit ?_
  refine then_n (hK124 _ _ ?_)
  refine wp_seq_k fun K157 hK158 => ?_
  refine wp_region_lit ?_
  refine st_mv hs rfl rfl ?_; clear hs w a; intro a w hs
  have hE_ := gD_end (bs := x) (R := (gBx x).2) (i := i) (gBx_le x).1 (by omega) (by omega)
  refine st_callP (v := .int .i64 ((((rDone x (((gD x (gBx x).2 i).2.2))) : Nat) : Int))) hs (.c rfl .n) Try.call74 (mdone_ok g18 _ x (((gD x (gBx x).2 i).2.2)) _ (hI1_1 _ _ (hid_ _ _ (rd_row (hs.mem.del (.s (.s (.s .z))))))) (hs.mem.del .z) (by omega) (by simp only [maxLen]; omega)) rfl ?_; clear hs w a; intro a w hs
  replace hs := hs.recell (v' := .int .i64 (((gEx x : Nat) : Int))) (Option.some.inj (by rw [gEx_D hE_.1]))
  refine st_as hs rfl rfl ?_; clear hs w a; intro a w hs
  refine wpList_nil ?_
  refine then_n (hK158 _ _ ?_)
  refine wp_seq_k fun K159 hK160 => ?_
  refine wp_seq_k fun K161 hK162 => ?_
  refine wp_region_lit ?_
  refine st_run 2 [(97, .bool (!((((gEx x : Nat) : Int) : Int) == 0)))] hs .n (by kernel_rfl) (by kernel_rfl) (by kernel_rfl) ?_; clear hs a; intro a hs
  refine wpList_nil ?_
  refine then_n (hK162 _ _ ?_)
  refine wp_if hs rfl (fun hc163 => ?_) (fun hc163 => ?_)
  ·
   replace hc163 := not_t hc163
   replace hc163 := ne_of_beq_f hc163
   refine wp_seq_k fun K164 hK165 => ?_
   refine wp_region_lit ?_
   refine st_build (it := Try.t69) (zs := [.int .i64 (0), .int .i64 (0), .int .i64 (0), .slice none 0 0]) (places := [(0, 1), (1, 1), (2, 1), (3, 1)]) hs .n Try.underlying69 rfl rfl rfl rfl .n rfl ?_; clear hs w a; intro a w hs
   refine st_mv hs rfl rfl ?_; clear hs w a; intro a w hs
   refine st_stBA hs rfl rfl (.s (.s (.s (.s .z)))) (.z (.c (.c (.c (.c .n))))) (ones_c rfl (ones_c rfl (ones_c rfl (ones_c rfl ones_n)))) Try.sizeOf69 rfl ?_; clear hs w a; intro a w hs
   refine st_as hs rfl rfl ?_; clear hs w a; intro a w hs
   refine wpList_nil ?_
   refine then_n (hK165 _ _ ?_)
   refine wp_ret ?_
   refine th_r ?_
   replace hs := hs.addNil 25 9
   have hG_ := gRead_err (bs := bs) (by omega) ho (by omega)
   exact finC2 hs rfl rfl rfl (.s .z) (.z (.c (.c (.c (.c .n))))) Try.isAgg69 Try.sizeOf69 (.c (.s (.s (.s (.s (.s .z))))) (.c (.s (.s (.s (.s .z)))) (.c (.s (.s (.s .z))) (.c (.s (.s .z)) (.c (.s .z) .n))))) (by rw [hG_]; dsimp only; exact ⟨.slice none 0 0, rfl, rfl⟩)
  replace hc163 := not_f hc163
  replace hc163 := eq_of_beq hc163
  have hS_ := hE_.2 (rDone_e ((gEx_D hE_.1).trans (by omega)))
  rw [gSx_def] at hS_
  replace hs := hs.rerow (.s (.s .z)) (m' := (gSx x).1.length) (xs' := ((gSx x).1.flatMap recV)) (by rw [hS_]) (by rw [hS_])
  refine wp_skip ?_
  refine then_n (hK160 _ _ ?_)
  refine wp_seq_k fun K166 hK167 => ?_
  refine wp_region_lit ?_
  refine st_ldBA hs rfl (.s (.s .z)) (.z (.c (.c (.c (.c .n))))) Try.isAgg69 Try.sizeOf69 rfl ?_; clear hs w a; intro a w hs
  refine st_stBA hs rfl rfl (.s (.s (.s (.s .z)))) (.z (.c (.c (.c (.c .n))))) (ones_c rfl (ones_c rfl (ones_c rfl (ones_c (rd_row (hs.mem.del .z)).isSl.one ones_n)))) Try.sizeOf69 rfl ?_; clear hs w a; intro a w hs
  refine st_as hs rfl rfl ?_; clear hs w a; intro a w hs
  refine wpList_nil ?_
  refine then_n (hK167 _ _ ?_)
  refine wp_ret ?_
  have hG_ := gRead_ok (bs := bs) (by omega) ho (by omega)
  exact finC2 hs rfl rfl rfl .z (.z (.c (.c (.c (.c .n))))) Try.isAgg69 Try.sizeOf69 (.c (.s (.s (.s (.s .z)))) (.c (.s (.s (.s .z))) (.c (.s (.s .z)) (.c .z .n)))) (by rw [hG_]; dsimp only; exact ⟨p, rfl, rfl⟩)
theorem gmread_ok (v : Value) (m : Nat) (bs : List Byte) (w0 : World) (hb : Rd w0 [] v 1 m (bytesV bs)) : Calls Try.prog 42 #[v] w0 (Ret w0 [] fun u N => ∃ v', u = .tuple #[.agg #[.int .i64 ((gRead bs).t), .int .i64 ((gRead bs).tm), .int .i64 ((gRead bs).b), v'], .int .i64 (((gRead bs).e : Nat) : Int)] ∧ N = [row v' 25 9 (gRead bs).l.length ((gRead bs).l.flatMap recV)]) := by
  by_cases hm : 4096 < m
  · exact gmread_long v m bs w0 hb hm
  · cases ho : open_ bs with
    | none => exact gmread_none v m bs w0 hb (by omega) ho
    | some x => exact gmread_some v m bs w0 hb x (by omega) ho
theorem gsame_ok (t tm b : Int) (u u2 : Value) (l : List RecR) (w0 : World) (hc : Rd w0 [] u 9 l.length (l.flatMap recV)) (hc2 : Rd w0 [] u2 9 l.length (l.flatMap recV)) : Calls Try.prog 44 #[.agg #[.int .i64 t, .int .i64 tm, .int .i64 b, u], .agg #[.int .i64 t, .int .i64 tm, .int .i64 b, u2]] w0 (RetV w0 (.bool true)) := by
  have hce := hc.le
  simp only [maxLen] at hce
  refine enter (F0 := [(0, .agg #[.int .i64 (t), .int .i64 (tm), .int .i64 (b), u]), (1, .agg #[.int .i64 (t), .int .i64 (tm), .int .i64 (b), u2])]) Try.func44 rfl rfl rfl (.c (.c .n)) (Mem.nil _) fun a w hs => ?_
  refine wp_seq_k fun K1 hK2 => ?_
  refine wp_region_lit ?_
  refine st_box (cs := [.int .i64 (t), .int .i64 (tm), .int .i64 (b), u]) hs rfl rfl rfl ?_; clear hs w a; intro g3 a w hs
  refine st_box (cs := [.int .i64 (t), .int .i64 (tm), .int .i64 (b), u2]) hs rfl rfl rfl ?_; clear hs w a; intro g4 a w hs
  refine st_as hs rfl rfl ?_; clear hs w a; intro a w hs
  refine wpList_nil ?_
  refine then_n (hK2 _ _ ?_)
  refine wp_seq_k fun K5 hK6 => ?_
  refine wp_seq_k fun K7 hK8 => ?_
  refine wp_region_lit ?_
  refine st_run 5 [(10, .bool (!((t : Int) == t)))] hs (.c (hs.mem.del (.s .z)) (.c (hs.mem.del .z) .n)) (by kernel_rfl) (by kernel_rfl) (by kernel_rfl) ?_; clear hs a; intro a hs
  have hb_ : (!((t : Int) == t)) = false := by simp
  rw [hb_] at hs; clear hb_
  refine st_run 6 [(16, .bool (!((tm : Int) == tm))), (11, .bool (false))] hs (.c (hs.mem.del (.s .z)) (.c (hs.mem.del .z) .n)) (by kernel_rfl) (by kernel_rfl) (by kernel_rfl) ?_; clear hs a; intro a hs
  have hb_ : (!((tm : Int) == tm)) = false := by simp
  rw [hb_] at hs; clear hb_
  refine st_run 7 [(23, .bool (!((b : Int) == b))), (18, .bool (false))] hs (.c (hs.mem.del (.s .z)) (.c (hs.mem.del .z) .n)) (by kernel_rfl) (by kernel_rfl) (by kernel_rfl) ?_; clear hs a; intro a hs
  have hb_ : (!((b : Int) == b)) = false := by simp
  rw [hb_] at hs; clear hb_
  refine st_run 4 [(27, u), (25, .bool (false))] hs (.c (hs.mem.del (.s .z)) .n) (by kernel_rfl) (by kernel_rfl) (by kernel_rfl) ?_; clear hs a; intro a hs
  refine st_guardT hs rfl rfl rfl ?_
  refine st_len hs rfl (hs.rd0 hc).isSl Try.underlying66 rfl ?_; clear hs w a; intro a w hs
  refine st_run 2 [(30, u2)] hs (.c (hs.mem.del .z) .n) (by kernel_rfl) (by kernel_rfl) (by kernel_rfl) ?_; clear hs a; intro a hs
  refine st_guardT hs rfl rfl rfl ?_
  refine st_len hs rfl (hs.rd0 hc2).isSl Try.underlying66 rfl ?_; clear hs w a; intro a w hs
  refine st_guardT hs rfl rfl rfl ?_
  refine st_neq hs rfl rfl rfl ?_; clear hs w a; intro a w hs
  have hb_ : (!((((l.length : Nat) : Int) : Int) == (((l.length : Nat) : Int)))) = false := by simp
  rw [hb_] at hs; clear hb_
  refine st_pickF hs rfl rfl rfl ?_; clear hs w a; intro a w hs
  refine wpList_nil ?_
  refine then_n (hK8 _ _ ?_)
  refine wp_cond_false (hs.ev rfl) ?_
  refine wp_skip ?_
  refine then_n (hK6 _ _ ?_)
  refine wp_seq_k fun K9 hK10 => ?_
  refine wp_seq_k fun K11 hK12 => ?_
  refine wp_region_lit ?_
  refine st_as hs rfl rfl ?_; clear hs w a; intro a w hs
  refine wpList_nil ?_
  refine then_n (hK12 _ _ ?_)
  refine wp_block ?_
  refine wp_loopI (fun mm_ a w => ∃ i : Nat, mm_ = l.length - i ∧ St 52 [(2, .pointer (some ⟨g3, 0, none⟩)), (3, .pointer (some ⟨g4, 0, none⟩)), (5, .int .i64 ((i : Int)))] w0 [] [blk g4 [.int .i64 (t), .int .i64 (tm), .int .i64 (b), u2] 69, blk g3 [.int .i64 (t), .int .i64 (tm), .int .i64 (b), u] 69] a w ∧ i ≤ l.length) ⟨0, rfl, hs.sub (.c rfl (.c rfl (.c rfl .n))), by omega⟩ ?_
  clear hs w a; rintro mm_ a w ⟨i, rfl, hs, hI1_0⟩
  refine wp_seq_k fun K13 hK14 => ?_
  refine wp_seq_k fun K15 hK16 => ?_
  refine wp_region_lit ?_
  refine st_run 3 [(36, u), (35, .pointer (some ⟨g3, 3, none⟩)), (34, .int .i64 ((i : Int)))] hs (.c (hs.mem.del (.s .z)) .n) (by kernel_rfl) (by kernel_rfl) (by kernel_rfl) ?_; clear hs a; intro a hs
  refine st_len hs rfl (hs.rd0 hc).isSl Try.underlying66 rfl ?_; clear hs w a; intro a w hs
  refine st_lss hs rfl rfl rfl ?_; clear hs w a; intro a w hs
  refine wpList_nil ?_
  refine then_n (hK16 _ _ ?_)
  refine wp_if hs rfl (fun hc17 => ?_) (fun hc17 => ?_)
  ·
   replace hc17 := of_decide_eq_true hc17
   refine wp_skip ?_
   refine then_n (hK14 _ _ ?_)
   refine wp_seq_k fun K18 hK19 => ?_
   refine wp_block ?_
   refine wp_seq_k fun K20 hK21 => ?_
   replace hs := hs.sub (F' := [(38, .bool (decide ((i : Int) < (((l.length : Nat) : Int))))), (37, .int .i64 (((l.length : Nat) : Int))), (36, u), (35, .pointer (some ⟨g3, 3, none⟩)), (34, .int .i64 ((i : Int))), (2, .pointer (some ⟨g3, 0, none⟩)), (3, .pointer (some ⟨g4, 0, none⟩)), (5, .int .i64 ((i : Int)))]) (.c rfl (.c rfl (.c rfl (.c rfl (.c rfl (.c rfl (.c rfl (.c rfl .n))))))))
   refine wp_drawG (M0 := [blk g4 [.int .i64 (t), .int .i64 (tm), .int .i64 (b), u2] 69, blk g3 [.int .i64 (t), .int .i64 (tm), .int .i64 (b), u] 69]) (Ds := [Pv 0 (.pointer (some ⟨g3, 3, none⟩)), Pv 1 u, Pv 2 (.int .i64 ((i : Int))), Pv 3 (.pointer (some (adr u (i * 9)))), Pv 4 (.agg #[.int .i64 ((l.getD i default).k), .int .i64 ((l.getD i default).id), .int .i64 ((l.getD i default).p0), .int .i64 ((l.getD i default).p1), .int .i64 ((l.getD i default).p2), .int .i64 ((l.getD i default).v0), .int .i64 ((l.getD i default).v1), .int .i64 ((l.getD i default).v2), .int .u16 (((((l.getD i default).a).toNat : Nat) : Int))]), Pv 5 (.pointer (some ⟨g4, 3, none⟩)), Pv 6 u2, Pv 7 (.int .i64 ((i : Int))), Pv 8 (.pointer (some (adr u2 (i * 9)))), Pv 9 (.agg #[.int .i64 ((l.getD i default).k), .int .i64 ((l.getD i default).id), .int .i64 ((l.getD i default).p0), .int .i64 ((l.getD i default).p1), .int .i64 ((l.getD i default).p2), .int .i64 ((l.getD i default).v0), .int .i64 ((l.getD i default).v1), .int .i64 ((l.getD i default).v2), .int .u16 (((((l.getD i default).a).toNat : Nat) : Int))]), Pv 10 (.bool (false))]) (by kernel_rfl) hs rfl .n (by kernel_rfl) (by kernel_rfl) (by kernel_rfl) ?_ ?_
   ·
    refine (.c ?_ (.c ?_ (.c ?_ (.c ?_ (.c ?_ (.c ?_ (.c ?_ (.c ?_ (.c ?_ (.c ?_ (.c ?_ .n)))))))))))
    · exact trip_pv (m := 11) .n (fun hm0 hm hx => .n) (by kernel_rfl) (by kernel_rfl) rfl
    · exact trip_pv (m := 11) (.c (k := 0) (by kernel_rfl) rfl rfl .n) (fun hm0 hm hx => (.c (hm0.del (.s .z)))) (by kernel_rfl) (by kernel_rfl) rfl
    · exact trip_pv (m := 11) .n (fun hm0 hm hx => .n) (by kernel_rfl) (by kernel_rfl) rfl
    ·
     intro a_ w_ R_ rest_ vs22 hm hs ht hx
     have hm0 := hm.mid
     replace hs := hs.lrn (ht 1 (twB_spec 11 _ (by kernel_rfl))) rfl rfl
     replace hs := hs.lrn (ht 2 (twB_spec 11 _ (by kernel_rfl))) rfl rfl
     have hs0 := hs.bare
     refine st_ia (j := i) hs rfl rfl (hm.rd0 hc) rfl (by omega) Try.underlying66 Try.sizeOf25 rfl ?_; clear hs; intro a w hs
     exact wpList_nil ⟨rfl, _, _, hs0, (.c (.c .r)), hs, rfl⟩
    ·
     intro a_ w_ R_ rest_ vs22 hm hs ht hx
     have hm0 := hm.mid
     replace hs := hs.lrn (ht 3 (twB_spec 11 _ (by kernel_rfl))) rfl rfl
     have hs0 := hs.bare
     refine st_ldA (cs := recV (l.getD i default)) hs rfl (hm.rd0 hc) (flat_get recV_len l i (by omega)) (by rw [flat_len recV_len]; omega) (by omega) Try.isAgg25 Try.sizeOf25 rfl ?_; clear hs; intro a w hs
     exact wpList_nil ⟨rfl, _, _, hs0, (.c .r), hs, rfl⟩
    · exact trip_pv (m := 11) .n (fun hm0 hm hx => .n) (by kernel_rfl) (by kernel_rfl) rfl
    · exact trip_pv (m := 11) (.c (k := 5) (by kernel_rfl) rfl rfl .n) (fun hm0 hm hx => (.c (hm0.del .z))) (by kernel_rfl) (by kernel_rfl) rfl
    · exact trip_pv (m := 11) .n (fun hm0 hm hx => .n) (by kernel_rfl) (by kernel_rfl) rfl
    ·
     intro a_ w_ R_ rest_ vs22 hm hs ht hx
     have hm0 := hm.mid
     replace hs := hs.lrn (ht 6 (twB_spec 11 _ (by kernel_rfl))) rfl rfl
     replace hs := hs.lrn (ht 7 (twB_spec 11 _ (by kernel_rfl))) rfl rfl
     have hs0 := hs.bare
     refine st_ia (j := i) hs rfl rfl (hm.rd0 hc2) rfl (by omega) Try.underlying66 Try.sizeOf25 rfl ?_; clear hs; intro a w hs
     exact wpList_nil ⟨rfl, _, _, hs0, (.c (.c .r)), hs, rfl⟩
    ·
     intro a_ w_ R_ rest_ vs22 hm hs ht hx
     have hm0 := hm.mid
     replace hs := hs.lrn (ht 8 (twB_spec 11 _ (by kernel_rfl))) rfl rfl
     have hs0 := hs.bare
     refine st_ldA (cs := recV (l.getD i default)) hs rfl (hm.rd0 hc2) (flat_get recV_len l i (by omega)) (by rw [flat_len recV_len]; omega) (by omega) Try.isAgg25 Try.sizeOf25 rfl ?_; clear hs; intro a w hs
     exact wpList_nil ⟨rfl, _, _, hs0, (.c .r), hs, rfl⟩
    intro a_ w_ R_ rest_ vs22 hm hs ht hx
    have hm0 := hm.mid
    replace hs := hs.lrn (ht 4 (twB_spec 11 _ (by kernel_rfl))) rfl rfl
    replace hs := hs.lrn (ht 9 (twB_spec 11 _ (by kernel_rfl))) rfl rfl
    have hs0 := hs.bare
    refine st_neqF (xs := [.int .i64 ((l.getD i default).k), .int .i64 ((l.getD i default).id), .int .i64 ((l.getD i default).p0), .int .i64 ((l.getD i default).p1), .int .i64 ((l.getD i default).p2), .int .i64 ((l.getD i default).v0), .int .i64 ((l.getD i default).v1), .int .i64 ((l.getD i default).v2), .int .u16 (((((l.getD i default).a).toNat : Nat) : Int))]) (ys := [.int .i64 ((l.getD i default).k), .int .i64 ((l.getD i default).id), .int .i64 ((l.getD i default).p0), .int .i64 ((l.getD i default).p1), .int .i64 ((l.getD i default).p2), .int .i64 ((l.getD i default).v0), .int .i64 ((l.getD i default).v1), .int .i64 ((l.getD i default).v2), .int .u16 (((((l.getD i default).a).toNat : Nat) : Int))]) (ks := [.i .i64, .i .i64, .i .i64, .i .i64, .i .i64, .i .i64, .i .i64, .i .i64, .i .u16]) 6 hs rfl rfl (by kernel_rfl) (by kernel_rfl) (by kernel_rfl) (by decide) (.i (.i (.i (.i (.i (.i (.i (.i (.i .n))))))))) (.i (.i (.i (.i (.i (.i (.i (.i (.i .n))))))))) rfl ?_; clear hs; intro a w hs
    have hb_ : (!(eqCells [.int .i64 ((l.getD i default).k), .int .i64 ((l.getD i default).id), .int .i64 ((l.getD i default).p0), .int .i64 ((l.getD i default).p1), .int .i64 ((l.getD i default).p2), .int .i64 ((l.getD i default).v0), .int .i64 ((l.getD i default).v1), .int .i64 ((l.getD i default).v2), .int .u16 (((((l.getD i default).a).toNat : Nat) : Int))] [.int .i64 ((l.getD i default).k), .int .i64 ((l.getD i default).id), .int .i64 ((l.getD i default).p0), .int .i64 ((l.getD i default).p1), .int .i64 ((l.getD i default).p2), .int .i64 ((l.getD i default).v0), .int .i64 ((l.getD i default).v1), .int .i64 ((l.getD i default).v2), .int .u16 (((((l.getD i default).a).toNat : Nat) : Int))])) = false := congrArg (!·) (recW_refl _)
    rw [hb_] at hs; clear hb_
    exact wpList_nil ⟨rfl, _, _, hs0, (.c (.c .r)), hs, rfl⟩
   clear hs w a; intro a w vs22 hs hf
   replace hs : St _ _ _ _ [blk g4 [.int .i64 (t), .int .i64 (tm), .int .i64 (b), u2] 69, blk g3 [.int .i64 (t), .int .i64 (tm), .int .i64 (b), u] 69] _ _ := hs
   obtain ⟨e10, q10⟩ := hf 10 (by decide)
   replace e10 : _ = some (vs22 10) := e10.val rfl
   rw [show vs22 10 = .bool (false) from q10] at e10
   replace hs := hs.learn e10; clear e10 q10
   clear hf
   refine then_n (hK21 _ _ ?_)
   refine wp_cond_false (hs.ev rfl) ?_
   refine wp_skip ?_
   refine in_n ?_
   refine then_n (hK19 _ _ ?_)
   refine wp_region_lit ?_
   refine st_mv hs rfl rfl ?_; clear hs w a; intro a w hs
   refine st_addR hs rfl rfl (by omega) rfl ?_; clear hs w a; intro a w hs
   refine st_as hs rfl rfl ?_; clear hs w a; intro a w hs
   refine wpList_nil ?_
   refine then_n ?_
   refine ⟨_, ?_, i + 1, rfl, hs.sub (.c rfl (.c rfl (.c rfl .n))), by omega⟩
   omega
  replace hc17 := of_decide_eq_false hc17
  refine wp_exit ?_
  refine th_e ?_
  refine th_e ?_
  refine in_hit ?_
  refine then_n (hK10 _ _ ?_)
  refine wp_seq_k fun K23 hK24 => ?_
  refine wp_region_lit ?_
  refine st_as hs rfl rfl ?_; clear hs w a; intro a w hs
  refine wpList_nil ?_
  refine then_n (hK24 _ _ ?_)
  refine wp_ret ?_
  replace hs := hs.drop (.c (.s .z) (.c .z .n))
  exact fin hs rfl rfl ⟨rfl, rfl⟩
end Go.Proofs.Ytkobgcoegajfcaa
