/- Walks of a datagram off bytes: what each function does, over the program of this seat. Printed by a program of this session. -/
import Derived.Test.YtbioemaipghagaaGreatQWgramR
namespace Go.Proofs.YtbioemaipghagaaGreat
open Go Go.Sx Go.RowKit
set_option linter.unusedVariables false
set_option linter.unusedSimpArgs false
set_option maxRecDepth 4000
set_option maxHeartbeats 1000000

theorem gread_long (v : Value) (m : Nat) (bs : List Byte) (w0 : World) (hb : Rd w0 [] v 1 m (bytesV bs)) (hm : 4096 < m) : Calls Tryz.prog 18 #[v] w0 (Ret w0 [] fun u N => ∃ v', u = .tuple #[.agg #[.int .i64 ((gRead bs).t), .int .i64 ((gRead bs).tm), .int .i64 ((gRead bs).b), v'], .int .i64 (((gRead bs).e : Nat) : Int)] ∧ N = [row v' 78 9 (gRead bs).l.length ((gRead bs).l.flatMap recV)]) := by
  have hbl : bs.length = m := by have := hb.len; simpa [bytesV] using this
  have hbe : m ≤ maxLen := hb.le
  simp only [maxLen] at hbe
  refine enter (F0 := [(0, v)]) Tryz.func18 rfl rfl rfl (.c .n) (Mem.nil _) fun a w hs => ?_
  refine wp_seq_k fun K1 hK2 => ?_
  refine wp_region_lit ?_
  refine st_alloc (cs := [.int .i64 (0), .int .i64 (0), .int .i64 (0), .slice none 0 0]) hs Tryz.zeroValue29 rfl rfl ?_; clear hs w a; intro g3 a w hs
  refine st_as hs rfl rfl ?_; clear hs w a; intro a w hs
  refine wpList_nil ?_
  refine then_n (hK2 _ _ ?_)
  refine wp_seq_k fun K4 hK5 => ?_
  refine wp_seq_k fun K6 hK7 => ?_
  refine wp_region_lit ?_
  refine st_mv hs rfl rfl ?_; clear hs w a; intro a w hs
  refine st_len hs rfl (hs.rd0 hb).isSl Tryz.underlying37 rfl ?_; clear hs w a; intro a w hs
  refine st_gtr hs rfl rfl rfl ?_; clear hs w a; intro a w hs
  refine wpList_nil ?_
  refine then_n (hK7 _ _ ?_)
  refine wp_if hs rfl (fun hc8 => ?_) (fun hc8 => ?_)
  ·
   replace hc8 := of_decide_eq_true hc8
   refine wp_seq_k fun K9 hK10 => ?_
   refine wp_region_lit ?_
   refine st_build (it := Tryz.t29) (zs := [.int .i64 (0), .int .i64 (0), .int .i64 (0), .slice none 0 0]) (places := [(0, 1), (1, 1), (2, 1), (3, 1)]) hs .n Tryz.underlying29 rfl rfl rfl rfl .n rfl ?_; clear hs w a; intro a w hs
   refine st_stBA hs rfl rfl .z (.z (.c (.c (.c (.c .n))))) (ones_c rfl (ones_c rfl (ones_c rfl (ones_c rfl ones_n)))) Tryz.sizeOf29 rfl ?_; clear hs w a; intro a w hs
   refine st_as hs rfl rfl ?_; clear hs w a; intro a w hs
   refine wpList_nil ?_
   refine then_n (hK10 _ _ ?_)
   refine wp_ret ?_
   refine th_r ?_
   replace hs := hs.addNil 78 9
   have hG_ := gRead_long (bs := bs) (by omega)
   exact finC2 hs rfl rfl rfl (.s .z) (.z (.c (.c (.c (.c .n))))) Tryz.isAgg29 Tryz.sizeOf29 (.c (.s .z) .n) (by rw [hG_]; dsimp only; exact ⟨.slice none 0 0, rfl, rfl⟩)
  replace hc8 := of_decide_eq_false hc8
  exfalso; omega
theorem gread_none (v : Value) (m : Nat) (bs : List Byte) (w0 : World) (hb : Rd w0 [] v 1 m (bytesV bs)) (hm : m ≤ 4096) (ho : open_ bs = none) : Calls Tryz.prog 18 #[v] w0 (Ret w0 [] fun u N => ∃ v', u = .tuple #[.agg #[.int .i64 ((gRead bs).t), .int .i64 ((gRead bs).tm), .int .i64 ((gRead bs).b), v'], .int .i64 (((gRead bs).e : Nat) : Int)] ∧ N = [row v' 78 9 (gRead bs).l.length ((gRead bs).l.flatMap recV)]) := by
  have hbl : bs.length = m := by have := hb.len; simpa [bytesV] using this
  have hbe : m ≤ maxLen := hb.le
  simp only [maxLen] at hbe
  refine enter (F0 := [(0, v)]) Tryz.func18 rfl rfl rfl (.c .n) (Mem.nil _) fun a w hs => ?_
  refine wp_seq_k fun K1 hK2 => ?_
  refine wp_region_lit ?_
  refine st_alloc (cs := [.int .i64 (0), .int .i64 (0), .int .i64 (0), .slice none 0 0]) hs Tryz.zeroValue29 rfl rfl ?_; clear hs w a; intro g3 a w hs
  refine st_as hs rfl rfl ?_; clear hs w a; intro a w hs
  refine wpList_nil ?_
  refine then_n (hK2 _ _ ?_)
  refine wp_seq_k fun K4 hK5 => ?_
  refine wp_seq_k fun K6 hK7 => ?_
  refine wp_region_lit ?_
  refine st_mv hs rfl rfl ?_; clear hs w a; intro a w hs
  refine st_len hs rfl (hs.rd0 hb).isSl Tryz.underlying37 rfl ?_; clear hs w a; intro a w hs
  refine st_gtr hs rfl rfl rfl ?_; clear hs w a; intro a w hs
  refine wpList_nil ?_
  refine then_n (hK7 _ _ ?_)
  refine wp_if hs rfl (fun hc8 => ?_) (fun hc8 => ?_)
  ·
   replace hc8 := of_decide_eq_true hc8
   exfalso; omega
  replace hc8 := of_decide_eq_false hc8
  refine wp_skip ?_
  refine then_n (hK5 _ _ ?_)
  refine wp_seq_k fun K9 hK10 => ?_
  refine wp_region_lit ?_
  refine st_mv hs rfl rfl ?_; clear hs w a; intro a w hs
  refine st_callP hs (.c rfl .n) Tryz.call28 (open_none _ _ bs _ (hs.rd0 hb) (by omega) ho) rfl ?_; clear hs w a; intro a w hs
  refine st_run 5 [(5, .bool (false)), (4, .slice none 0 0)] hs .n (by kernel_rfl) (by kernel_rfl) (by kernel_rfl) ?_; clear hs a; intro a hs
  refine wpList_nil ?_
  refine then_n (hK10 _ _ ?_)
  refine wp_seq_k fun K11 hK12 => ?_
  refine wp_seq_k fun K13 hK14 => ?_
  refine wp_region_lit ?_
  refine st_run 2 [(20, .bool (true))] hs .n (by kernel_rfl) (by kernel_rfl) (by kernel_rfl) ?_; clear hs a; intro a hs
  refine wpList_nil ?_
  refine then_n (hK14 _ _ ?_)
  refine wp_cond_true (hs.ev rfl) ?_
  refine wp_seq_k fun K15 hK16 => ?_
  refine wp_region_lit ?_
  refine st_build (it := Tryz.t29) (zs := [.int .i64 (0), .int .i64 (0), .int .i64 (0), .slice none 0 0]) (places := [(0, 1), (1, 1), (2, 1), (3, 1)]) hs .n Tryz.underlying29 rfl rfl rfl rfl .n rfl ?_; clear hs w a; intro a w hs
  refine st_stBA hs rfl rfl .z (.z (.c (.c (.c (.c .n))))) (ones_c rfl (ones_c rfl (ones_c rfl (ones_c rfl ones_n)))) Tryz.sizeOf29 rfl ?_; clear hs w a; intro a w hs
  refine st_as hs rfl rfl ?_; clear hs w a; intro a w hs
  refine wpList_nil ?_
  refine then_n (hK16 _ _ ?_)
  refine wp_ret ?_
  refine th_r ?_
  replace hs := hs.addNil 78 9
  have hG_ := gRead_none (bs := bs) (by omega) ho
  exact finC2 hs rfl rfl rfl (.s .z) (.z (.c (.c (.c (.c .n))))) Tryz.isAgg29 Tryz.sizeOf29 (.c (.s .z) .n) (by rw [hG_]; dsimp only; exact ⟨.slice none 0 0, rfl, rfl⟩)
set_option maxHeartbeats 600000 in
theorem gread_some (v : Value) (m : Nat) (bs : List Byte) (w0 : World) (hb : Rd w0 [] v 1 m (bytesV bs)) (x : List Byte) (hm : m ≤ 4096) (ho : open_ bs = some x) : Calls Tryz.prog 18 #[v] w0 (Ret w0 [] fun u N => ∃ v', u = .tuple #[.agg #[.int .i64 ((gRead bs).t), .int .i64 ((gRead bs).tm), .int .i64 ((gRead bs).b), v'], .int .i64 (((gRead bs).e : Nat) : Int)] ∧ N = [row v' 78 9 (gRead bs).l.length ((gRead bs).l.flatMap recV)]) := by
  have hbl : bs.length = m := by have := hb.len; simpa [bytesV] using this
  have hbe : m ≤ maxLen := hb.le
  simp only [maxLen] at hbe
  have hxl : x.length ≤ bs.length := by have := length_seal x; rw [← (open_spec bs x).1 ho] at this; omega
  have hR0 : (⟨0, 0⟩ : Rs).p ≤ x.length := Nat.zero_le _
  have hlim32 : (4294967295#64).toNat = 4294967295 := rfl
  refine enter (F0 := [(0, v)]) Tryz.func18 rfl rfl rfl (.c .n) (Mem.nil _) fun a w hs => ?_
  refine wp_seq_k fun K1 hK2 => ?_
  refine wp_region_lit ?_
  refine st_alloc (cs := [.int .i64 (0), .int .i64 (0), .int .i64 (0), .slice none 0 0]) hs Tryz.zeroValue29 rfl rfl ?_; clear hs w a; intro g3 a w hs
  refine st_as hs rfl rfl ?_; clear hs w a; intro a w hs
  refine wpList_nil ?_
  refine then_n (hK2 _ _ ?_)
  refine wp_seq_k fun K4 hK5 => ?_
  refine wp_seq_k fun K6 hK7 => ?_
  refine wp_region_lit ?_
  refine st_mv hs rfl rfl ?_; clear hs w a; intro a w hs
  refine st_len hs rfl (hs.rd0 hb).isSl Tryz.underlying37 rfl ?_; clear hs w a; intro a w hs
  refine st_gtr hs rfl rfl rfl ?_; clear hs w a; intro a w hs
  refine wpList_nil ?_
  refine then_n (hK7 _ _ ?_)
  refine wp_if hs rfl (fun hc8 => ?_) (fun hc8 => ?_)
  ·
   replace hc8 := of_decide_eq_true hc8
   exfalso; omega
  replace hc8 := of_decide_eq_false hc8
  refine wp_skip ?_
  refine then_n (hK5 _ _ ?_)
  refine wp_seq_k fun K9 hK10 => ?_
  refine wp_region_lit ?_
  refine st_mv hs rfl rfl ?_; clear hs w a; intro a w hs
  refine st_call hs (.c rfl .n) Tryz.call28 .n (open_some _ _ bs _ (hs.rd0 hb) _ (by omega) ho) rfl ?_; clear hs w a; rintro _ _ a w ⟨v11, rfl, rfl⟩ hs; simp only [List.cons_append, List.nil_append] at hs
  refine st_run 5 [(5, .bool (true)), (4, v11)] hs .n (by kernel_rfl) (by kernel_rfl) (by kernel_rfl) ?_; clear hs a; intro a hs
  refine wpList_nil ?_
  refine then_n (hK10 _ _ ?_)
  refine wp_seq_k fun K12 hK13 => ?_
  refine wp_seq_k fun K14 hK15 => ?_
  refine wp_region_lit ?_
  refine st_run 2 [(20, .bool (false))] hs .n (by kernel_rfl) (by kernel_rfl) (by kernel_rfl) ?_; clear hs a; intro a hs
  refine wpList_nil ?_
  refine then_n (hK15 _ _ ?_)
  refine wp_cond_false (hs.ev rfl) ?_
  refine wp_skip ?_
  refine then_n (hK13 _ _ ?_)
  refine wp_seq_k fun K16 hK17 => ?_
  refine wp_region_lit ?_
  refine st_mv hs rfl rfl ?_; clear hs w a; intro a w hs
  refine st_call hs (.c rfl .n) Tryz.call44 .n (new_ok _ _ x _ (rd_row (hs.mem.del .z))) rfl ?_; clear hs w a; rintro _ _ a w ⟨g18, rfl, rfl⟩ hs; simp only [List.cons_append, List.nil_append] at hs
  have hleg18 : (⟨0, 0⟩ : Rs).p ≤ x.length := Nat.zero_le _
  refine st_build (it := Tryz.t98) (zs := [.pointer (none), .int .i64 (0), .int .i64 (0), .int .i64 (0), .slice none 0 0]) (places := [(0, 1), (1, 4)]) hs (.c rfl .n) Tryz.underlying98 rfl rfl rfl rfl (.c rfl rfl (.z (.c .n)) .n) rfl ?_; clear hs w a; intro a w hs
  refine st_box (cs := [.pointer (some ⟨g18, 0, none⟩), .int .i64 (0), .int .i64 (0), .int .i64 (0), .slice none 0 0]) hs rfl rfl rfl ?_; clear hs w a; intro g19 a w hs
  refine st_as hs rfl rfl ?_; clear hs w a; intro a w hs
  refine wpList_nil ?_
  refine then_n (hK17 _ _ ?_)
  refine wp_seq_k fun K20 hK21 => ?_
  refine wp_seq_k fun K22 hK23 => ?_
  refine wp_region_lit ?_
  refine st_mv hs rfl rfl ?_; clear hs w a; intro a w hs
  refine st_mf hs (.c rfl .n) .n rfl ?_; clear hs w a; intro a w hs
  refine st_mv hs rfl rfl ?_; clear hs w a; intro a w hs
  refine st_mf hs (.c rfl .n) .n rfl ?_; clear hs w a; intro a w hs
  refine st_mv hs rfl rfl ?_; clear hs w a; intro a w hs
  refine st_mf hs (.c rfl .n) .n rfl ?_; clear hs w a; intro a w hs
  refine st_mv hs rfl rfl ?_; clear hs w a; intro a w hs
  refine st_mf hs (.c rfl .n) .n rfl ?_; clear hs w a; intro a w hs
  refine st_bs (cs := [.func (.func 45) #[.pointer (some ⟨g19, 0, none⟩)] #[], .func (.func 46) #[.pointer (some ⟨g19, 0, none⟩)] #[], .func (.func 47) #[.pointer (some ⟨g19, 0, none⟩)] #[], .func (.func 48) #[.pointer (some ⟨g19, 0, none⟩)] #[]]) hs (.c (.c (.c (.c .n)))) (.c rfl (.c rfl (.c rfl (.c rfl .n)))) Tryz.underlying99 (ie := Tryz.t1) rfl rfl rfl rfl (by decide) (by decide) rfl (by decide) rfl rfl rfl ?_; clear hs w a; intro g24 a w hs
  refine st_len hs rfl (rd_blk (m := 4) (size := 1) (hs.mem.del .z) rfl (by decide)).isSl Tryz.underlying99 rfl ?_; clear hs w a; intro a w hs
  replace hs := hs.recell (v' := .int .i64 (4)) (Option.some.inj rfl)
  refine st_mv hs rfl rfl ?_; clear hs w a; intro a w hs
  refine wpList_nil ?_
  refine then_n (hK23 _ _ ?_)
  refine wp_block ?_
  refine wp_loop_rounds 5 ?_
  refine rounds_in ?_
  refine wp_seq_k fun K25 hK26 => ?_
  refine wp_region_lit ?_
  refine st_lss hs rfl rfl rfl ?_; clear hs w a; intro a w hs
  rw [show (decide ((0 : Int) < 4)) = true from by decide] at hs
  refine wpList_nil ?_
  refine then_n (hK26 _ _ ?_)
  refine wp_seq_k fun K27 hK28 => ?_
  refine wp_cond_true (hs.ev rfl) ?_
  refine wp_skip ?_
  refine then_n (hK28 _ _ ?_)
  refine wp_seq_k fun K29 hK30 => ?_
  refine wp_block ?_
  refine wp_seq_k fun K31 hK32 => ?_
  refine wp_region_lit ?_
  refine st_ia1 (j := 0) hs rfl rfl (rd_blk (m := 4) (size := 1) (hs.mem.del .z) rfl (by decide)) (by decide) (by omega) Tryz.underlying99 Tryz.sizeOf1 rfl ?_; clear hs w a; intro a w hs
  refine st_ld (u := .func (.func 45) #[.pointer (some ⟨g19, 0, none⟩)] #[]) hs rfl (rd_blk (m := 4) (size := 1) (hs.mem.del .z) rfl (by decide)) (by rfl) Tryz.isAgg1 rfl ?_; clear hs w a; intro a w hs
  refine st_as hs rfl rfl ?_; clear hs w a; intro a w hs
  refine wpList_nil ?_
  refine then_n (hK32 _ _ ?_)
  refine wp_region_lit ?_
  refine st_mv hs rfl rfl ?_; clear hs w a; intro a w hs
  refine st_callM (fs := [.pointer (some ⟨g19, 0, none⟩)]) (us := []) hs rfl .n rfl Tryz.call45 (.c (.s (.s .z)) .n) (psigns_ok  g18 g19 _ _ x (⟨0, 0⟩ : Rs) 0 0 0 (.slice none 0 0) _ (hs.mem.rdrow (.s (.s (.s .z))) (.c (.s (.s .z)) .n)) (hs.mem.del (.s (.s .z))) (hs.mem.del (.s .z)) (by omega)) rfl ?_; clear hs w a; rintro _ _ a w ⟨rfl, rfl⟩ hs; simp only [List.cons_append, List.nil_append] at hs
  have hk33 := gSigns_le (bs := x) (R := (⟨0, 0⟩ : Rs)) (by omega)
  replace hs := hs.reblk .z (cs' := [v11, .int .i64 ((((gR1 x).p : Nat) : Int)), .int .i64 ((((gR1 x).e : Nat) : Int))]) rfl
  have hk34 := gR1_le x
  refine wpList_nil ?_
  refine in_n ?_
  refine then_n (hK30 _ _ ?_)
  refine wp_region_lit ?_
  refine st_run 2 [(36, .int .i64 (1)), (42, .int .i64 (1))] hs .n (by kernel_rfl) (by kernel_rfl) (by kernel_rfl) ?_; clear hs a; intro a hs
  refine wpList_nil ?_
  refine then_n ?_
  refine rounds_in ?_
  refine wp_seq_k fun K35 hK36 => ?_
  refine wp_region_lit ?_
  refine st_lss hs rfl rfl rfl ?_; clear hs w a; intro a w hs
  rw [show (decide ((1 : Int) < 4)) = true from by decide] at hs
  refine wpList_nil ?_
  refine then_n (hK36 _ _ ?_)
  refine wp_seq_k fun K37 hK38 => ?_
  refine wp_cond_true (hs.ev rfl) ?_
  refine wp_skip ?_
  refine then_n (hK38 _ _ ?_)
  refine wp_seq_k fun K39 hK40 => ?_
  refine wp_block ?_
  refine wp_seq_k fun K41 hK42 => ?_
  refine wp_region_lit ?_
  refine st_ia1 (j := 1) hs rfl rfl (rd_blk (m := 4) (size := 1) (hs.mem.del (.s .z)) rfl (by decide)) (by decide) (by omega) Tryz.underlying99 Tryz.sizeOf1 rfl ?_; clear hs w a; intro a w hs
  refine st_ld (u := .func (.func 46) #[.pointer (some ⟨g19, 0, none⟩)] #[]) hs rfl (rd_blk (m := 4) (size := 1) (hs.mem.del (.s .z)) rfl (by decide)) (by rfl) Tryz.isAgg1 rfl ?_; clear hs w a; intro a w hs
  refine st_as hs rfl rfl ?_; clear hs w a; intro a w hs
  refine wpList_nil ?_
  refine then_n (hK42 _ _ ?_)
  refine wp_region_lit ?_
  refine st_mv hs rfl rfl ?_; clear hs w a; intro a w hs
  refine st_callM (fs := [.pointer (some ⟨g19, 0, none⟩)]) (us := []) hs rfl .n rfl Tryz.call46 (.c .z (.c (.s .z) .n)) (pwhen_ok g18 g19 _ _ x (gR1 x) 0 0 0 (.slice none 0 0) _ (hs.mem.rdrow (.s (.s (.s .z))) (.c .z (.c (.s .z) .n))) (hs.mem.del .z) (hs.mem.del (.s (.s .z))) (by omega)) rfl ?_; clear hs w a; rintro _ _ a w ⟨rfl, rfl⟩ hs; simp only [List.cons_append, List.nil_append] at hs
  have hk43 := gT_le (bs := x) (R := (gR1 x)) (by omega)
  have hk44 := gTm_le (bs := x) (R := (gT x (gR1 x)).2) (by omega)
  replace hs := hs.reblk .z (cs' := [v11, .int .i64 ((((gTmx x).2.p : Nat) : Int)), .int .i64 ((((gTmx x).2.e : Nat) : Int))]) rfl
  replace hs := hs.reblk (.s .z) (cs' := [.pointer (some ⟨g18, 0, none⟩), .int .i64 ((gTx x).1), .int .i64 ((gTmx x).1), .int .i64 (0), .slice none 0 0]) rfl
  have hk45 := gTx_le x
  have hk46 := gTmx_le x
  refine wpList_nil ?_
  refine in_n ?_
  refine then_n (hK40 _ _ ?_)
  refine wp_region_lit ?_
  refine st_run 2 [(36, .int .i64 (2)), (42, .int .i64 (2))] hs .n (by kernel_rfl) (by kernel_rfl) (by kernel_rfl) ?_; clear hs a; intro a hs
  refine wpList_nil ?_
  refine then_n ?_
  refine rounds_in ?_
  refine wp_seq_k fun K47 hK48 => ?_
  refine wp_region_lit ?_
  refine st_lss hs rfl rfl rfl ?_; clear hs w a; intro a w hs
  rw [show (decide ((2 : Int) < 4)) = true from by decide] at hs
  refine wpList_nil ?_
  refine then_n (hK48 _ _ ?_)
  refine wp_seq_k fun K49 hK50 => ?_
  refine wp_cond_true (hs.ev rfl) ?_
  refine wp_skip ?_
  refine then_n (hK50 _ _ ?_)
  refine wp_seq_k fun K51 hK52 => ?_
  refine wp_block ?_
  refine wp_seq_k fun K53 hK54 => ?_
  refine wp_region_lit ?_
  refine st_ia1 (j := 2) hs rfl rfl (rd_blk (m := 4) (size := 1) (hs.mem.del (.s (.s .z))) rfl (by decide)) (by decide) (by omega) Tryz.underlying99 Tryz.sizeOf1 rfl ?_; clear hs w a; intro a w hs
  refine st_ld (u := .func (.func 47) #[.pointer (some ⟨g19, 0, none⟩)] #[]) hs rfl (rd_blk (m := 4) (size := 1) (hs.mem.del (.s (.s .z))) rfl (by decide)) (by rfl) Tryz.isAgg1 rfl ?_; clear hs w a; intro a w hs
  refine st_as hs rfl rfl ?_; clear hs w a; intro a w hs
  refine wpList_nil ?_
  refine then_n (hK54 _ _ ?_)
  refine wp_region_lit ?_
  refine st_mv hs rfl rfl ?_; clear hs w a; intro a w hs
  refine st_callM (fs := [.pointer (some ⟨g19, 0, none⟩)]) (us := []) hs rfl .n rfl Tryz.call47 (.c (.s .z) (.c .z .n)) (pbase_ok g18 g19 _ _ x ((gTmx x).2) ((gTx x).1) ((gTmx x).1) 0 (.slice none 0 0) _ (hs.mem.rdrow (.s (.s (.s .z))) (.c (.s .z) (.c .z .n))) (hs.mem.del (.s .z)) (hs.mem.del .z) (by omega) (by omega)) rfl ?_; clear hs w a; rintro _ _ a w ⟨rfl, rfl⟩ hs; simp only [List.cons_append, List.nil_append] at hs
  have hk55 := gB_le (bs := x) (t := ((gTx x).1)) (R := ((gTmx x).2)) (by omega) (by omega)
  replace hs := hs.reblk .z (cs' := [v11, .int .i64 ((((gBx x).2.p : Nat) : Int)), .int .i64 ((((gBx x).2.e : Nat) : Int))]) rfl
  replace hs := hs.reblk (.s .z) (cs' := [.pointer (some ⟨g18, 0, none⟩), .int .i64 ((gTx x).1), .int .i64 ((gTmx x).1), .int .i64 ((gBx x).1), .slice none 0 0]) rfl
  have hk56 := gBx_le x
  refine wpList_nil ?_
  refine in_n ?_
  refine then_n (hK52 _ _ ?_)
  refine wp_region_lit ?_
  refine st_run 2 [(36, .int .i64 (3)), (42, .int .i64 (3))] hs .n (by kernel_rfl) (by kernel_rfl) (by kernel_rfl) ?_; clear hs a; intro a hs
  refine wpList_nil ?_
  refine then_n ?_
  refine rounds_in ?_
  refine wp_seq_k fun K57 hK58 => ?_
  refine wp_region_lit ?_
  refine st_lss hs rfl rfl rfl ?_; clear hs w a; intro a w hs
  rw [show (decide ((3 : Int) < 4)) = true from by decide] at hs
  refine wpList_nil ?_
  refine then_n (hK58 _ _ ?_)
  refine wp_seq_k fun K59 hK60 => ?_
  refine wp_cond_true (hs.ev rfl) ?_
  refine wp_skip ?_
  refine then_n (hK60 _ _ ?_)
  refine wp_seq_k fun K61 hK62 => ?_
  refine wp_block ?_
  refine wp_seq_k fun K63 hK64 => ?_
  refine wp_region_lit ?_
  refine st_ia1 (j := 3) hs rfl rfl (rd_blk (m := 4) (size := 1) (hs.mem.del (.s (.s .z))) rfl (by decide)) (by decide) (by omega) Tryz.underlying99 Tryz.sizeOf1 rfl ?_; clear hs w a; intro a w hs
  refine st_ld (u := .func (.func 48) #[.pointer (some ⟨g19, 0, none⟩)] #[]) hs rfl (rd_blk (m := 4) (size := 1) (hs.mem.del (.s (.s .z))) rfl (by decide)) (by rfl) Tryz.isAgg1 rfl ?_; clear hs w a; intro a w hs
  refine st_as hs rfl rfl ?_; clear hs w a; intro a w hs
  refine wpList_nil ?_
  refine then_n (hK64 _ _ ?_)
  refine wp_region_lit ?_
  refine st_mv hs rfl rfl ?_; clear hs w a; intro a w hs
  refine st_callM (fs := [.pointer (some ⟨g19, 0, none⟩)]) (us := []) hs rfl .n rfl Tryz.call48 (.c (.s .z) (.c .z .n)) (precs_ok g18 g19 _ _ x ((gBx x).2) ((gTx x).1) ((gTmx x).1) ((gBx x).1)  _ (hs.mem.rdrow (.s (.s (.s .z))) (.c (.s .z) (.c .z .n))) (hs.mem.del (.s .z)) (hs.mem.del .z) (by omega)) rfl ?_; clear hs w a; rintro _ _ a w ⟨rfl, v65, rfl⟩ hs; simp only [List.cons_append, List.nil_append] at hs
  have hk66 := (gRecs_inv (bs := x) (R := ((gBx x).2)) (by omega) (gN x ((gBx x).2))).p
  have hk67 := (gRecs_inv (bs := x) (R := ((gBx x).2)) (by omega) (gN x ((gBx x).2))).len
  have hk68 := gN_le x ((gBx x).2)
  replace hs := hs.reblk .z (cs' := [v11, .int .i64 ((((gSx x).2.2.p : Nat) : Int)), .int .i64 ((((gSx x).2.2.e : Nat) : Int))]) (by rw [gSx_def])
  replace hs := hs.rerow (.s (.s .z)) (m' := (gSx x).1.length) (xs' := ((gSx x).1.flatMap recV)) (by rw [gSx_def]) (by rw [gSx_def])
  have hk69 := gSx_len x
  have hgs := gSx_p x
  refine wpList_nil ?_
  refine in_n ?_
  refine then_n (hK62 _ _ ?_)
  refine wp_region_lit ?_
  refine st_run 2 [(36, .int .i64 (4)), (42, .int .i64 (4))] hs .n (by kernel_rfl) (by kernel_rfl) (by kernel_rfl) ?_; clear hs a; intro a hs
  refine wpList_nil ?_
  refine then_n ?_
  refine rounds_in ?_
  refine wp_seq_k fun K70 hK71 => ?_
  refine wp_region_lit ?_
  refine st_lss hs rfl rfl rfl ?_; clear hs w a; intro a w hs
  rw [show (decide ((4 : Int) < 4)) = false from by decide] at hs
  refine wpList_nil ?_
  refine then_n (hK71 _ _ ?_)
  refine wp_seq_k fun K72 hK73 => ?_
  refine wp_cond_false (hs.ev rfl) ?_
  refine wp_exit ?_
  refine th_e ?_
  refine th_e ?_
  refine in_hit ?_
  refine then_n (hK21 _ _ ?_)
  refine wp_seq_k fun K74 hK75 => ?_
  refine wp_seq_k fun K76 hK77 => ?_
  refine wp_region_lit ?_
  refine st_run 4 [(46, .pointer (some ⟨g18, 0, none⟩))] hs (.c (hs.mem.del (.s (.s .z))) .n) (by kernel_rfl) (by kernel_rfl) (by kernel_rfl) ?_; clear hs a; intro a hs
  refine st_callP (v := .int .i64 ((((rDone x ((gSx x).2.2)) : Nat) : Int))) hs (.c rfl .n) Tryz.call49 (rdone_ok g18 _ _ x ((gSx x).2.2) _ (rd_row (hs.mem.del (.s (.s (.s (.s .z)))))) (hs.mem.del (.s .z)) (by omega)) rfl ?_; clear hs w a; intro a w hs
  replace hs := hs.recell (v' := .int .i64 (((gEx x : Nat) : Int))) (Option.some.inj (by rw [gEx_def]))
  refine st_as hs rfl rfl ?_; clear hs w a; intro a w hs
  refine wpList_nil ?_
  refine then_n (hK77 _ _ ?_)
  refine wp_seq_k fun K78 hK79 => ?_
  refine wp_region_lit ?_
  refine st_run 2 [(49, .bool (!((((gEx x : Nat) : Int) : Int) == 0)))] hs .n (by kernel_rfl) (by kernel_rfl) (by kernel_rfl) ?_; clear hs a; intro a hs
  refine wpList_nil ?_
  refine then_n (hK79 _ _ ?_)
  refine wp_if hs rfl (fun hc80 => ?_) (fun hc80 => ?_)
  ·
   replace hc80 := not_t hc80
   replace hc80 := ne_of_beq_f hc80
   refine wp_seq_k fun K81 hK82 => ?_
   refine wp_region_lit ?_
   refine st_build (it := Tryz.t29) (zs := [.int .i64 (0), .int .i64 (0), .int .i64 (0), .slice none 0 0]) (places := [(0, 1), (1, 1), (2, 1), (3, 1)]) hs .n Tryz.underlying29 rfl rfl rfl rfl .n rfl ?_; clear hs w a; intro a w hs
   refine st_mv hs rfl rfl ?_; clear hs w a; intro a w hs
   refine st_stBA hs rfl rfl (.s (.s (.s (.s (.s .z))))) (.z (.c (.c (.c (.c .n))))) (ones_c rfl (ones_c rfl (ones_c rfl (ones_c rfl ones_n)))) Tryz.sizeOf29 rfl ?_; clear hs w a; intro a w hs
   refine st_as hs rfl rfl ?_; clear hs w a; intro a w hs
   refine wpList_nil ?_
   refine then_n (hK82 _ _ ?_)
   refine wp_ret ?_
   refine th_r ?_
   replace hs := hs.addNil 78 9
   have hG_ := gRead_err (bs := bs) (by omega) ho (by omega)
   exact finC2 hs rfl rfl rfl (.s .z) (.z (.c (.c (.c (.c .n))))) Tryz.isAgg29 Tryz.sizeOf29 (.c (.s (.s (.s (.s (.s (.s .z)))))) (.c (.s (.s (.s (.s (.s .z))))) (.c (.s (.s (.s (.s .z)))) (.c (.s (.s (.s .z))) (.c (.s (.s .z)) (.c (.s .z) .n)))))) (by rw [hG_]; dsimp only; exact ⟨.slice none 0 0, rfl, rfl⟩)
  replace hc80 := not_f hc80
  replace hc80 := eq_of_beq hc80
  refine wp_skip ?_
  refine then_n (hK75 _ _ ?_)
  refine wp_seq_k fun K83 hK84 => ?_
  refine wp_region_lit ?_
  refine st_run 4 [(55, .agg #[.int .i64 (((gTx x).1)), .int .i64 (((gTmx x).1)), .int .i64 (((gBx x).1)), v65])] hs (.c (hs.mem.del (.s (.s .z))) .n) (by kernel_rfl) (by kernel_rfl) (by kernel_rfl) ?_; clear hs a; intro a hs
  refine st_stBA hs rfl rfl (.s (.s (.s (.s (.s .z))))) (.z (.c (.c (.c (.c .n))))) (ones_c rfl (ones_c rfl (ones_c rfl (ones_c (rd_row (hs.mem.del .z)).isSl.one ones_n)))) Tryz.sizeOf29 rfl ?_; clear hs w a; intro a w hs
  refine st_as hs rfl rfl ?_; clear hs w a; intro a w hs
  refine wpList_nil ?_
  refine then_n (hK84 _ _ ?_)
  refine wp_ret ?_
  have hG_ := gRead_ok (bs := bs) (by omega) ho (by omega)
  exact finC2 hs rfl rfl rfl .z (.z (.c (.c (.c (.c .n))))) Tryz.isAgg29 Tryz.sizeOf29 (.c (.s (.s (.s (.s (.s .z))))) (.c (.s (.s (.s (.s .z)))) (.c (.s (.s (.s .z))) (.c (.s (.s .z)) (.c .z .n))))) (by rw [hG_]; dsimp only; exact ⟨v65, rfl, rfl⟩)
theorem gread_ok (v : Value) (m : Nat) (bs : List Byte) (w0 : World) (hb : Rd w0 [] v 1 m (bytesV bs)) : Calls Tryz.prog 18 #[v] w0 (Ret w0 [] fun u N => ∃ v', u = .tuple #[.agg #[.int .i64 ((gRead bs).t), .int .i64 ((gRead bs).tm), .int .i64 ((gRead bs).b), v'], .int .i64 (((gRead bs).e : Nat) : Int)] ∧ N = [row v' 78 9 (gRead bs).l.length ((gRead bs).l.flatMap recV)]) := by
  by_cases hm : 4096 < m
  · exact gread_long v m bs w0 hb hm
  · cases ho : open_ bs with
    | none => exact gread_none v m bs w0 hb (by omega) ho
    | some x => exact gread_some v m bs w0 hb x (by omega) ho
end Go.Proofs.YtbioemaipghagaaGreat
