/- Walks of a datagram off bytes: what each function does, over the program of this seat. Printed by a program of this session. -/
import Derived.Test.YtbioemaipghagaaGreatQWgramR
import Derived.Test.YtbioemaipghagaaGreatQSxBasB
namespace Go.Proofs.YtbioemaipghagaaGreat
open Go Go.Sx Go.RowKit
set_option linter.unusedVariables false
set_option linter.unusedSimpArgs false
set_option maxRecDepth 4000
set_option maxHeartbeats 1000000

theorem gread_long (v : Value) (m : Nat) (bs : List Byte) (w0 : World) (hb : Rd w0 [] v 1 m (bytesV bs)) (hm : 4096 < m) : Calls Tryz.prog 18 #[v] w0 (Ret w0 [] fun u N => ∃ v', u = .tuple #[.agg #[.int .i64 ((gRead bs).t), .int .i64 ((gRead bs).tm), .int .i64 ((gRead bs).b), v'], .int .i64 (((gRead bs).e : Nat) : Int)] ∧ N = [row v' 78 9 (gRead bs).l.length ((gRead bs).l.flatMap recV)]) := by
 have hbl : bs.length = m := by have := hb.len; simpa [bytesV] using this
 have hbe : m ≤ maxLen := hb.le
 simp only [maxLen] at hbe
 refine enterG (F0 := [(0, v)]) Tryz.func18 rfl rfl rfl (.c .n) (Mem.nil _) fun a w hs => ?_
 refine go 3 [] [10, 2, 0] hs .n (fun g1 => ?_); clear hs w a; intro a w hs
 refine st_len hs rfl (hs.rd0 hb).isSl Tryz.underlying37 rfl ?_; clear hs w a; intro a w hs
 refine goL 1 [] [12, 2, 0] hs .n ?_; clear hs w a; intro a w hs
 refine ifG hs rfl (fun c_2 => ?_) (fun c_2 => ?_)
 ·
  replace c_2 := of_decide_eq_true c_2
  refine go 3 [0] [3, 2] hs (.c .z .n) ⟨rfl, ?_⟩; clear hs w a; intro a w hs
  replace hs := hs.addNil 78 9
  have hG_ := gRead_long (bs := bs) (by omega)
  exact finC2 hs rfl rfl rfl (.s .z) (.z (.c (.c (.c (.c .n))))) Tryz.isAgg29 Tryz.sizeOf29 (.c (.s .z) .n) (by rw [hG_]; dsimp only; exact ⟨.slice none 0 0, rfl, rfl⟩)
 replace c_2 := of_decide_eq_false c_2
 exfalso; omega
theorem gread_none (v : Value) (m : Nat) (bs : List Byte) (w0 : World) (hb : Rd w0 [] v 1 m (bytesV bs)) (hm : m ≤ 4096) (ho : open_ bs = none) : Calls Tryz.prog 18 #[v] w0 (Ret w0 [] fun u N => ∃ v', u = .tuple #[.agg #[.int .i64 ((gRead bs).t), .int .i64 ((gRead bs).tm), .int .i64 ((gRead bs).b), v'], .int .i64 (((gRead bs).e : Nat) : Int)] ∧ N = [row v' 78 9 (gRead bs).l.length ((gRead bs).l.flatMap recV)]) := by
 have hbl : bs.length = m := by have := hb.len; simpa [bytesV] using this
 have hbe : m ≤ maxLen := hb.le
 simp only [maxLen] at hbe
 refine enterG (F0 := [(0, v)]) Tryz.func18 rfl rfl rfl (.c .n) (Mem.nil _) fun a w hs => ?_
 refine go 3 [] [10, 2, 0] hs .n (fun g1 => ?_); clear hs w a; intro a w hs
 refine st_len hs rfl (hs.rd0 hb).isSl Tryz.underlying37 rfl ?_; clear hs w a; intro a w hs
 refine goL 1 [] [12, 2, 0] hs .n ?_; clear hs w a; intro a w hs
 refine ifG hs rfl (fun c_2 => ?_) (fun c_2 => ?_)
 ·
  replace c_2 := of_decide_eq_true c_2
  exfalso; omega
 replace c_2 := of_decide_eq_false c_2
 refine go 1 [] [15, 2] hs .n ?_; clear hs w a; intro a w hs
 refine st_callP hs (.c rfl .n) Tryz.call28 (open_none _ _ bs _ (hs.rd0 hb) (by omega) ho) rfl ?_; clear hs w a; intro a w hs
 refine goL 11 [0] [3, 2] hs (.c .z .n) ⟨rfl, ?_⟩; clear hs w a; intro a w hs
 replace hs := hs.addNil 78 9
 have hG_ := gRead_none (bs := bs) (by omega) ho
 exact finC2 hs rfl rfl rfl (.s .z) (.z (.c (.c (.c (.c .n))))) Tryz.isAgg29 Tryz.sizeOf29 (.c (.s .z) .n) (by rw [hG_]; dsimp only; exact ⟨.slice none 0 0, rfl, rfl⟩)
set_option maxHeartbeats 600000 in
theorem gread_some (v : Value) (m : Nat) (bs : List Byte) (w0 : World) (hb : Rd w0 [] v 1 m (bytesV bs)) (x : List Byte) (hm : m ≤ 4096) (ho : open_ bs = some x) : Calls Tryz.prog 18 #[v] w0 (Ret w0 [] fun u N => ∃ v', u = .tuple #[.agg #[.int .i64 ((gRead bs).t), .int .i64 ((gRead bs).tm), .int .i64 ((gRead bs).b), v'], .int .i64 (((gRead bs).e : Nat) : Int)] ∧ N = [row v' 78 9 (gRead bs).l.length ((gRead bs).l.flatMap recV)]) := by
 have hbl : bs.length = m := by have := hb.len; simpa [bytesV] using this
 have hbe : m ≤ maxLen := hb.le
 simp only [maxLen] at hbe
 have hxl : x.length ≤ bs.length := by have := length_seal x; rw [← (open_spec bs x).1 ho] at this; omega
 have hR0 : (⟨0, 0⟩ : Rs).p ≤ x.length := Nat.zero_le _
 have hlim32 : (4294967295#64).toNat = 4294967295 := rfl
 refine enterG (F0 := [(0, v)]) Tryz.func18 rfl rfl rfl (.c .n) (Mem.nil _) fun a w hs => ?_
 refine go 3 [] [10, 2, 0] hs .n (fun g1 => ?_); clear hs w a; intro a w hs
 refine st_len hs rfl (hs.rd0 hb).isSl Tryz.underlying37 rfl ?_; clear hs w a; intro a w hs
 refine goL 1 [] [12, 2, 0] hs .n ?_; clear hs w a; intro a w hs
 refine ifG hs rfl (fun c_2 => ?_) (fun c_2 => ?_)
 ·
  replace c_2 := of_decide_eq_true c_2
  exfalso; omega
 replace c_2 := of_decide_eq_false c_2
 refine go 1 [] [15, 2] hs .n ?_; clear hs w a; intro a w hs
 refine st_call hs (.c rfl .n) Tryz.call28 .n (open_some _ _ bs _ (hs.rd0 hb) _ (by omega) ho) rfl ?_; clear hs w a; rintro _ _ a w ⟨v3, rfl, rfl⟩ hs; simp only [List.cons_append, List.nil_append] at hs
 refine goL 9 [] [22, 2] hs .n ?_; clear hs w a; intro a w hs
 refine st_call hs (.c rfl .n) Tryz.call44 .n (new_ok _ _ x _ (rd_row (hs.mem.del .z))) rfl ?_; clear hs w a; rintro _ _ a w ⟨g4, rfl, rfl⟩ hs; simp only [List.cons_append, List.nil_append] at hs
 have hleg4 : (⟨0, 0⟩ : Rs).p ≤ x.length := Nat.zero_le _
 refine goL 14 [0] [36, 35, 34, 6, 2] hs .n (fun g5 => fun g6 => ?_); clear hs w a; intro a w hs
 refine roundsG 4 ?_
 refine go 2 [] [36, 35, 34, 6, 2] hs .n ?_; clear hs w a; intro a w hs
 refine st_ia1 (j := 0) hs rfl rfl (rd_blk (m := 4) (size := 1) (hs.mem.del .z) rfl (by decide)) (by decide) (by omega) Tryz.underlying99 Tryz.sizeOf1 rfl ?_; clear hs w a; intro a w hs
 refine st_ld (u := .func (.func 45) #[.pointer (some ⟨g5, 0, none⟩)] #[]) hs rfl (rd_blk (m := 4) (size := 1) (hs.mem.del .z) rfl (by decide)) (by rfl) Tryz.isAgg1 rfl ?_; clear hs w a; intro a w hs
 refine goL 2 [] [40, 36, 35, 34, 6, 2] hs .n ?_; clear hs w a; intro a w hs
 refine st_callM (fs := [.pointer (some ⟨g5, 0, none⟩)]) (us := []) hs rfl .n rfl Tryz.call45 (.c (.s (.s .z)) .n) (psigns_ok  g4 g5 _ _ x (⟨0, 0⟩ : Rs) 0 0 0 (.slice none 0 0) _ (hs.mem.rdrow (.s (.s (.s .z))) (.c (.s (.s .z)) .n)) (hs.mem.del (.s (.s .z))) (hs.mem.del (.s .z)) (by omega)) rfl ?_; clear hs w a; rintro _ _ a w ⟨rfl, rfl⟩ hs; simp only [List.cons_append, List.nil_append] at hs
 have hk7 := gSigns_le (bs := x) (R := (⟨0, 0⟩ : Rs)) (by omega)
 replace hs := hs.reblk .z (cs' := [v3, .int .i64 ((((gR1 x).p : Nat) : Int)), .int .i64 ((((gR1 x).e : Nat) : Int))]) rfl
 have hk8 := gR1_le x
 refine goL 2 [] [36, 35, 34, 6, 2] hs .n ⟨by decide, ?_⟩; clear hs w a; intro a w hs
 refine againG ?_
 refine go 2 [] [36, 35, 34, 6, 2] hs .n ?_; clear hs w a; intro a w hs
 refine st_ia1 (j := 1) hs rfl rfl (rd_blk (m := 4) (size := 1) (hs.mem.del (.s .z)) rfl (by decide)) (by decide) (by omega) Tryz.underlying99 Tryz.sizeOf1 rfl ?_; clear hs w a; intro a w hs
 refine st_ld (u := .func (.func 46) #[.pointer (some ⟨g5, 0, none⟩)] #[]) hs rfl (rd_blk (m := 4) (size := 1) (hs.mem.del (.s .z)) rfl (by decide)) (by rfl) Tryz.isAgg1 rfl ?_; clear hs w a; intro a w hs
 refine goL 2 [] [40, 36, 35, 34, 6, 2] hs .n ?_; clear hs w a; intro a w hs
 refine st_callM (fs := [.pointer (some ⟨g5, 0, none⟩)]) (us := []) hs rfl .n rfl Tryz.call46 (.c .z (.c (.s .z) .n)) (pwhen_ok g4 g5 _ _ x (gR1 x) 0 0 0 (.slice none 0 0) _ (hs.mem.rdrow (.s (.s (.s .z))) (.c .z (.c (.s .z) .n))) (hs.mem.del .z) (hs.mem.del (.s (.s .z))) (by omega)) rfl ?_; clear hs w a; rintro _ _ a w ⟨rfl, rfl⟩ hs; simp only [List.cons_append, List.nil_append] at hs
 have hk9 := gT_le (bs := x) (R := (gR1 x)) (by omega)
 have hk10 := gTm_le (bs := x) (R := (gT x (gR1 x)).2) (by omega)
 replace hs := hs.reblk .z (cs' := [v3, .int .i64 ((((gTmx x).2.p : Nat) : Int)), .int .i64 ((((gTmx x).2.e : Nat) : Int))]) rfl
 replace hs := hs.reblk (.s .z) (cs' := [.pointer (some ⟨g4, 0, none⟩), .int .i64 ((gTx x).1), .int .i64 ((gTmx x).1), .int .i64 (0), .slice none 0 0]) rfl
 have hk11 := gTx_le x
 have hk12 := gTmx_le x
 refine goL 2 [] [36, 35, 34, 6, 2] hs .n ⟨by decide, ?_⟩; clear hs w a; intro a w hs
 refine againG ?_
 refine go 2 [] [36, 35, 34, 6, 2] hs .n ?_; clear hs w a; intro a w hs
 refine st_ia1 (j := 2) hs rfl rfl (rd_blk (m := 4) (size := 1) (hs.mem.del (.s (.s .z))) rfl (by decide)) (by decide) (by omega) Tryz.underlying99 Tryz.sizeOf1 rfl ?_; clear hs w a; intro a w hs
 refine st_ld (u := .func (.func 47) #[.pointer (some ⟨g5, 0, none⟩)] #[]) hs rfl (rd_blk (m := 4) (size := 1) (hs.mem.del (.s (.s .z))) rfl (by decide)) (by rfl) Tryz.isAgg1 rfl ?_; clear hs w a; intro a w hs
 refine goL 2 [] [40, 36, 35, 34, 6, 2] hs .n ?_; clear hs w a; intro a w hs
 refine st_callM (fs := [.pointer (some ⟨g5, 0, none⟩)]) (us := []) hs rfl .n rfl Tryz.call47 (.c (.s .z) (.c .z .n)) (pbase_ok g4 g5 _ _ x ((gTmx x).2) ((gTx x).1) ((gTmx x).1) 0 (.slice none 0 0) _ (hs.mem.rdrow (.s (.s (.s .z))) (.c (.s .z) (.c .z .n))) (hs.mem.del (.s .z)) (hs.mem.del .z) (by omega) (by omega)) rfl ?_; clear hs w a; rintro _ _ a w ⟨rfl, rfl⟩ hs; simp only [List.cons_append, List.nil_append] at hs
 have hk13 := gB_le (bs := x) (t := ((gTx x).1)) (R := ((gTmx x).2)) (by omega) (by omega)
 replace hs := hs.reblk .z (cs' := [v3, .int .i64 ((((gBx x).2.p : Nat) : Int)), .int .i64 ((((gBx x).2.e : Nat) : Int))]) rfl
 replace hs := hs.reblk (.s .z) (cs' := [.pointer (some ⟨g4, 0, none⟩), .int .i64 ((gTx x).1), .int .i64 ((gTmx x).1), .int .i64 ((gBx x).1), .slice none 0 0]) rfl
 have hk14 := gBx_le x
 refine goL 2 [] [36, 35, 34, 6, 2] hs .n ⟨by decide, ?_⟩; clear hs w a; intro a w hs
 refine againG ?_
 refine go 2 [] [36, 35, 34, 6, 2] hs .n ?_; clear hs w a; intro a w hs
 refine st_ia1 (j := 3) hs rfl rfl (rd_blk (m := 4) (size := 1) (hs.mem.del (.s (.s .z))) rfl (by decide)) (by decide) (by omega) Tryz.underlying99 Tryz.sizeOf1 rfl ?_; clear hs w a; intro a w hs
 refine st_ld (u := .func (.func 48) #[.pointer (some ⟨g5, 0, none⟩)] #[]) hs rfl (rd_blk (m := 4) (size := 1) (hs.mem.del (.s (.s .z))) rfl (by decide)) (by rfl) Tryz.isAgg1 rfl ?_; clear hs w a; intro a w hs
 refine goL 2 [] [40, 36, 35, 34, 6, 2] hs .n ?_; clear hs w a; intro a w hs
 refine st_callM (fs := [.pointer (some ⟨g5, 0, none⟩)]) (us := []) hs rfl .n rfl Tryz.call48 (.c (.s .z) (.c .z .n)) (precs_ok g4 g5 _ _ x ((gBx x).2) ((gTx x).1) ((gTmx x).1) ((gBx x).1)  _ (hs.mem.rdrow (.s (.s (.s .z))) (.c (.s .z) (.c .z .n))) (hs.mem.del (.s .z)) (hs.mem.del .z) (by omega)) rfl ?_; clear hs w a; rintro _ _ a w ⟨rfl, v15, rfl⟩ hs; simp only [List.cons_append, List.nil_append] at hs
 have hk16 := (gRecs_inv (bs := x) (R := ((gBx x).2)) (by omega) (gN x ((gBx x).2))).p
 have hk17 := (gRecs_inv (bs := x) (R := ((gBx x).2)) (by omega) (gN x ((gBx x).2))).len
 have hk18 := gN_le x ((gBx x).2)
 replace hs := hs.reblk .z (cs' := [v3, .int .i64 ((((gSx x).2.2.p : Nat) : Int)), .int .i64 ((((gSx x).2.2.e : Nat) : Int))]) (by rw [gSx_def])
 replace hs := hs.rerow (.s (.s .z)) (m' := (gSx x).1.length) (xs' := ((gSx x).1.flatMap recV)) (by rw [gSx_def]) (by rw [gSx_def])
 have hk19 := gSx_len x
 have hgs := gSx_p x
 refine goL 2 [] [36, 35, 34, 6, 2] hs .n ⟨by decide, ?_⟩; clear hs w a; intro a w hs
 refine againG ?_
 refine go 6 [0] [46, 6, 2] hs (.c (.s (.s .z)) .n) ⟨rfl, ?_⟩; clear hs w a; intro a w hs
 refine st_callP (v := .int .i64 ((((rDone x ((gSx x).2.2)) : Nat) : Int))) hs (.c rfl .n) Tryz.call49 (rdone_ok g4 _ _ x ((gSx x).2.2) _ (rd_row (hs.mem.del (.s (.s (.s (.s .z)))))) (hs.mem.del (.s (.s .z))) (by omega)) rfl ?_; clear hs w a; intro a w hs
 replace hs := hs.recell (v' := .int .i64 (((gEx x : Nat) : Int))) (Option.some.inj (by rw [gEx_def]))
 refine goL 3 [] [49, 9, 6, 2] hs .n ?_; clear hs w a; intro a w hs
 refine ifG hs rfl (fun c_20 => ?_) (fun c_20 => ?_)
 ·
  replace c_20 := not_t c_20
  replace c_20 := ne_of_beq_f c_20
  refine go 4 [0] [3, 2] hs (.c (.s (.s (.s (.s (.s .z))))) .n) ⟨rfl, ?_⟩; clear hs w a; intro a w hs
  replace hs := hs.addNil 78 9
  have hG_ := gRead_err (bs := bs) (by omega) ho (by omega)
  exact finC2 hs rfl rfl rfl (.s .z) (.z (.c (.c (.c (.c .n))))) Tryz.isAgg29 Tryz.sizeOf29 (.c (.s (.s (.s (.s (.s (.s .z)))))) (.c (.s (.s (.s (.s (.s .z))))) (.c (.s (.s (.s (.s .z)))) (.c (.s (.s (.s .z))) (.c (.s (.s .z)) (.c (.s .z) .n)))))) (by rw [hG_]; dsimp only; exact ⟨.slice none 0 0, rfl, rfl⟩)
 replace c_20 := not_f c_20
 replace c_20 := eq_of_beq c_20
 refine go 4 [0] [55, 2] hs (.c .z .n) ⟨rfl, ?_⟩; clear hs w a; intro a w hs
 refine st_stBA hs rfl rfl (.s (.s (.s (.s (.s .z))))) (.z (.c (.c (.c (.c .n))))) (ones_c rfl (ones_c rfl (ones_c rfl (ones_c (rd_row (hs.mem.del (.s .z))).isSl.one ones_n)))) Tryz.sizeOf29 rfl ?_; clear hs w a; intro a w hs
 refine goL 1 [] [3, 2] hs .n ?_; clear hs w a; intro a w hs
 have hG_ := gRead_ok (bs := bs) (by omega) ho (by omega)
 exact finC2 hs rfl rfl rfl .z (.z (.c (.c (.c (.c .n))))) Tryz.isAgg29 Tryz.sizeOf29 (.c (.s (.s (.s (.s (.s .z))))) (.c (.s (.s (.s (.s .z)))) (.c (.s (.s (.s .z))) (.c (.s .z) (.c .z .n))))) (by rw [hG_]; dsimp only; exact ⟨v15, rfl, rfl⟩)
theorem gread_ok (v : Value) (m : Nat) (bs : List Byte) (w0 : World) (hb : Rd w0 [] v 1 m (bytesV bs)) : Calls Tryz.prog 18 #[v] w0 (Ret w0 [] fun u N => ∃ v', u = .tuple #[.agg #[.int .i64 ((gRead bs).t), .int .i64 ((gRead bs).tm), .int .i64 ((gRead bs).b), v'], .int .i64 (((gRead bs).e : Nat) : Int)] ∧ N = [row v' 78 9 (gRead bs).l.length ((gRead bs).l.flatMap recV)]) := by
 by_cases hm : 4096 < m
 · exact gread_long v m bs w0 hb hm
 · cases ho : open_ bs with
   | none => exact gread_none v m bs w0 hb (by omega) ho
   | some x => exact gread_some v m bs w0 hb x (by omega) ho
end Go.Proofs.YtbioemaipghagaaGreat
