/- Walks of the example of stores: what each function does, over the program of this seat. Printed by a program of this session. -/
import Derived.Test.YtbioemaipghagaaGreatQWsto5
import Derived.Test.YtbioemaipghagaaGreatQWgramS
import Derived.Test.YtbioemaipghagaaGreatQSxPsto
import Derived.Test.YtbioemaipghagaaGreatQWgram
import Derived.Test.YtbioemaipghagaaGreatQSxBasB
namespace Go.Proofs.YtbioemaipghagaaGreat
open Go Go.Sx Go.RowKit
set_option linter.unusedVariables false
set_option linter.unusedSimpArgs false
set_option maxRecDepth 4000
set_option maxHeartbeats 1000000

theorem lbytes_ok (t tm b : Int) (u : Value) (l : List RecR) (w0 : World) (ht : R64 t) (hm : R64 tm) (hb : R64 b) (hc : Rd w0 [] u 9 l.length (l.flatMap recV)) (hl : ∀ x ∈ l, x.wf) : Calls Tryz.prog 51 #[.agg #[.int .i64 (t), .int .i64 (tm), .int .i64 (b), u]] w0 (Ret w0 [] fun v N => N = [row v 5 1 (gwB t tm b l).length (bytesV (gwB t tm b l))]) := by
 have hce := hc.le
 simp only [maxLen] at hce
 refine enterG (F0 := [(0, .agg #[.int .i64 (t), .int .i64 (tm), .int .i64 (b), u])]) Tryz.func51 rfl rfl rfl (.c .n) (Mem.nil _) fun a w hs => ?_
 refine go 3 [0, 0] [6] hs .n (fun g1 => ⟨rfl, ?_⟩); clear hs w a; intro a w hs
 refine st_call hs (.c rfl .n) Tryz.call17 .n (gwrite_ok t tm b _ l _ (by omega) (by omega) (by omega) (hs.rd0 hc) hl) rfl ?_; clear hs w a; rintro _ _ a w ⟨v2, rfl, rfl⟩ hs; simp only [List.cons_append, List.nil_append] at hs
 have hk3 := length_gwB t tm b l
 refine goL 7 [] [2] hs .n ?_; clear hs w a; intro a w hs
 replace hs := hs.drop (.c (.s .z) .n)
 exact fin hs rfl rfl rfl
theorem alive12_ok (w0 : World) : Calls Tryz.prog 23 #[] w0 (RetV w0 (.bool true)) := by
 have a1 := al_1
 have a2 := al_2
 have a3 := al_3
 have a4 := al_4
 have a5 := al_5
 unfold als4 at a5
 unfold als3 at a4 a5
 unfold als2 at a3 a4 a5
 unfold als1 at a2 a3 a4 a5
 refine enterG (F0 := []) Tryz.func23 rfl rfl rfl .n (Mem.nil _) fun a w hs => ?_
 refine go 1 [] [] hs .n ?_; clear hs w a; intro a w hs
 refine st_call hs (.c rfl .n) Tryz.call21 .n (new_st 4 _ ⟨by decide, by decide⟩) rfl ?_; clear hs w a; rintro _ _ a w ⟨g1, X2, rfl, rfl, hX3⟩ hs; simp only [List.cons_append, List.nil_append] at hs
 refine goL 13 [] [22, 1] hs .n ?_; clear hs w a; intro a w hs
 refine st_call hs (.c rfl .n) Tryz.call51 .n (lbytes_ok 1 10 (-1) _ ([]) _ (by omega) (by omega) (by omega) (rd_nil _ [] 9) rnone_wf) rfl ?_; clear hs w a; rintro v4 _ a w rfl hs; simp only [List.cons_append, List.nil_append] at hs
 refine goL 1 [] [24, 23, 1] hs .n ?_; clear hs w a; intro a w hs
 refine st_call hs (.c rfl .n) Tryz.call51 .n (lbytes_ok 3 30 1 _ ([]) _ (by omega) (by omega) (by omega) (rd_nil _ [] 9) rnone_wf) rfl ?_; clear hs w a; rintro v5 _ a w rfl hs; simp only [List.cons_append, List.nil_append] at hs
 refine goL 1 [] [26, 25, 23, 1] hs .n ?_; clear hs w a; intro a w hs
 refine st_call hs (.c rfl .n) Tryz.call51 .n (lbytes_ok 2 20 1 _ ([]) _ (by omega) (by omega) (by omega) (rd_nil _ [] 9) rnone_wf) rfl ?_; clear hs w a; rintro v6 _ a w rfl hs; simp only [List.cons_append, List.nil_append] at hs
 refine st_bs (cs := [v4, v5, v6]) hs (.c (.c (.c .n))) (.c rfl (.c rfl (.c rfl .n))) Tryz.underlying43 (ie := Tryz.t37) rfl rfl rfl rfl (by decide) (by decide) rfl (by decide) (by simp only [List.all_cons, List.all_nil, ← Array.length_toList, (rd_row (hs.mem.del (.s (.s .z)))).isSl.lcells, (rd_row (hs.mem.del (.s .z))).isSl.lcells, (rd_row (hs.mem.del .z)).isSl.lcells]; rfl) (by simp [(rd_row (hs.mem.del (.s (.s .z)))).isSl.lcells, (rd_row (hs.mem.del (.s .z))).isSl.lcells, (rd_row (hs.mem.del .z)).isSl.lcells]) rfl ?_; clear hs w a; intro g7 a w hs
 refine goL 4 [] [31, 30, 29, 3, 1] hs .n ?_; clear hs w a; intro a w hs
 refine roundsG 3 ?_
 refine go 3 [] [33, 31, 30, 29, 3, 1] hs .n ?_; clear hs w a; intro a w hs
 refine st_ia1 (j := 0) hs rfl rfl (rd_blk (m := 3) (size := 1) (hs.mem.del .z) rfl (by decide)) (by decide) (by omega) Tryz.underlying43 Tryz.sizeOf37 rfl ?_; clear hs w a; intro a w hs
 refine st_ld (u := v4) hs rfl (rd_blk (m := 3) (size := 1) (hs.mem.del .z) rfl (by decide)) (by rfl) Tryz.isAgg37 rfl ?_; clear hs w a; intro a w hs
 refine goL 4 [] [38, 37, 4, 31, 30, 29, 3, 1] hs .n ?_; clear hs w a; intro a w hs
 refine st_call hs (.c rfl (.c rfl .n)) Tryz.call27 (.c (.s (.s (.s (.s .z)))) .n) (accept_st hX3 (fun i => Nat.le_trans ((fun _ => Nat.le_refl 0) i) (by decide)) _ (hs.mem.del (.s (.s (.s (.s .z))))) (hs.mem.rdrow (.s (.s (.s .z))) (.c (.s (.s (.s .z))) .n))) rfl ?_; clear hs w a; rintro _ _ a w ⟨rfl, X8, rfl, hX9⟩ hs; simp only [List.cons_append, List.nil_append] at hs
 refine goL 7 [] [43, 6, 4, 31, 30, 29, 3, 1] hs .n ?_; clear hs w a; intro a w hs
 have hb_ : (!((((accE stt0.l 4 stt0.floor stt0.gone (gRead ((gwB 1 10 (-1) ([])))) : Nat) : Int) : Int) == 0)) = false := by rw [a1.1]; rfl
 rw [hb_] at hs; clear hb_
 refine go 4 [] [47, 46, 45, 44, 31, 30, 29, 3, 1] hs .n (fun g10 => ?_); clear hs w a; intro a w hs
 refine st_guardT hs rfl rfl rfl ?_
 refine st_ia1 (j := 0) hs rfl rfl (rd_blk (m := 3) (size := 1) (hs.mem.del .z) rfl (by decide)) (by decide) (by omega) Tryz.underlying107 Tryz.sizeOf2 rfl ?_; clear hs w a; intro a w hs
 refine st_guardT hs rfl rfl rfl ?_
 refine st_ld (u := .int .i64 (1)) hs rfl (rd_blk (m := 3) (size := 1) (hs.mem.del .z) rfl (by decide)) (by rfl) Tryz.isAgg2 rfl ?_; clear hs w a; intro a w hs
 refine goL 1 [] [50, 44, 31, 30, 29, 3, 1] hs .n ?_; clear hs w a; intro a w hs
 have hb_ : (!((accT stt0.l 4 stt0.floor stt0.gone (gRead ((gwB 1 10 (-1) ([])))) : Int) == 1)) = false := by rw [a1.2]; rfl
 rw [hb_] at hs; clear hb_
 refine go 4 [] [31, 30, 29, 3, 1] hs .n ⟨by decide, ?_⟩; clear hs w a; intro a w hs
 refine againG ?_
 refine go 3 [] [33, 31, 30, 29, 3, 1] hs .n ?_; clear hs w a; intro a w hs
 refine st_ia1 (j := 1) hs rfl rfl (rd_blk (m := 3) (size := 1) (hs.mem.del (.s (.s .z))) rfl (by decide)) (by decide) (by omega) Tryz.underlying43 Tryz.sizeOf37 rfl ?_; clear hs w a; intro a w hs
 refine st_ld (u := v5) hs rfl (rd_blk (m := 3) (size := 1) (hs.mem.del (.s (.s .z))) rfl (by decide)) (by rfl) Tryz.isAgg37 rfl ?_; clear hs w a; intro a w hs
 refine goL 4 [] [38, 37, 4, 31, 30, 29, 3, 1] hs .n ?_; clear hs w a; intro a w hs
 refine st_call hs (.c rfl (.c rfl .n)) Tryz.call27 (.c (.s .z) .n) (accept_st hX9 (fun i => Nat.le_trans ((accS_k (fun _ => Nat.le_refl 0)) i) (by decide)) _ (hs.mem.del (.s .z)) (hs.mem.rdrow (.s (.s (.s (.s .z)))) (.c (.s .z) .n))) rfl ?_; clear hs w a; rintro _ _ a w ⟨rfl, X11, rfl, hX12⟩ hs; simp only [List.cons_append, List.nil_append] at hs
 refine goL 7 [] [43, 6, 4, 31, 30, 29, 3, 1] hs .n ?_; clear hs w a; intro a w hs
 have hb_ : (!((((accE ((accS 4 stt0 (gRead ((gwB 1 10 (-1) ([])))))).l 4 ((accS 4 stt0 (gRead ((gwB 1 10 (-1) ([])))))).floor ((accS 4 stt0 (gRead ((gwB 1 10 (-1) ([])))))).gone (gRead ((gwB 3 30 1 ([])))) : Nat) : Int) : Int) == 0)) = false := by rw [a2.1]; rfl
 rw [hb_] at hs; clear hb_
 refine go 4 [] [47, 46, 45, 44, 31, 30, 29, 3, 1] hs .n (fun g13 => ?_); clear hs w a; intro a w hs
 refine st_guardT hs rfl rfl rfl ?_
 refine st_ia1 (j := 1) hs rfl rfl (rd_blk (m := 3) (size := 1) (hs.mem.del .z) rfl (by decide)) (by decide) (by omega) Tryz.underlying107 Tryz.sizeOf2 rfl ?_; clear hs w a; intro a w hs
 refine st_guardT hs rfl rfl rfl ?_
 refine st_ld (u := .int .i64 (3)) hs rfl (rd_blk (m := 3) (size := 1) (hs.mem.del .z) rfl (by decide)) (by rfl) Tryz.isAgg2 rfl ?_; clear hs w a; intro a w hs
 refine goL 1 [] [50, 44, 31, 30, 29, 3, 1] hs .n ?_; clear hs w a; intro a w hs
 have hb_ : (!((accT ((accS 4 stt0 (gRead ((gwB 1 10 (-1) ([])))))).l 4 ((accS 4 stt0 (gRead ((gwB 1 10 (-1) ([])))))).floor ((accS 4 stt0 (gRead ((gwB 1 10 (-1) ([])))))).gone (gRead ((gwB 3 30 1 ([])))) : Int) == 3)) = false := by rw [a2.2]; rfl
 rw [hb_] at hs; clear hb_
 refine go 4 [] [31, 30, 29, 3, 1] hs .n ⟨by decide, ?_⟩; clear hs w a; intro a w hs
 refine againG ?_
 refine go 3 [] [33, 31, 30, 29, 3, 1] hs .n ?_; clear hs w a; intro a w hs
 refine st_ia1 (j := 2) hs rfl rfl (rd_blk (m := 3) (size := 1) (hs.mem.del (.s (.s (.s .z)))) rfl (by decide)) (by decide) (by omega) Tryz.underlying43 Tryz.sizeOf37 rfl ?_; clear hs w a; intro a w hs
 refine st_ld (u := v6) hs rfl (rd_blk (m := 3) (size := 1) (hs.mem.del (.s (.s (.s .z)))) rfl (by decide)) (by rfl) Tryz.isAgg37 rfl ?_; clear hs w a; intro a w hs
 refine goL 4 [] [38, 37, 4, 31, 30, 29, 3, 1] hs .n ?_; clear hs w a; intro a w hs
 refine st_call hs (.c rfl (.c rfl .n)) Tryz.call27 (.c (.s .z) .n) (accept_st hX12 (fun i => Nat.le_trans ((accS_k (accS_k (fun _ => Nat.le_refl 0))) i) (by decide)) _ (hs.mem.del (.s .z)) (hs.mem.rdrow (.s (.s (.s (.s .z)))) (.c (.s .z) .n))) rfl ?_; clear hs w a; rintro _ _ a w ⟨rfl, X14, rfl, hX15⟩ hs; simp only [List.cons_append, List.nil_append] at hs
 refine goL 7 [] [43, 6, 4, 31, 30, 29, 3, 1] hs .n ?_; clear hs w a; intro a w hs
 have hb_ : (!((((accE ((accS 4 ((accS 4 stt0 (gRead ((gwB 1 10 (-1) ([])))))) (gRead ((gwB 3 30 1 ([])))))).l 4 ((accS 4 ((accS 4 stt0 (gRead ((gwB 1 10 (-1) ([])))))) (gRead ((gwB 3 30 1 ([])))))).floor ((accS 4 ((accS 4 stt0 (gRead ((gwB 1 10 (-1) ([])))))) (gRead ((gwB 3 30 1 ([])))))).gone (gRead ((gwB 2 20 1 ([])))) : Nat) : Int) : Int) == 0)) = false := by rw [a3.1]; rfl
 rw [hb_] at hs; clear hb_
 refine go 4 [] [47, 46, 45, 44, 31, 30, 29, 3, 1] hs .n (fun g16 => ?_); clear hs w a; intro a w hs
 refine st_guardT hs rfl rfl rfl ?_
 refine st_ia1 (j := 2) hs rfl rfl (rd_blk (m := 3) (size := 1) (hs.mem.del .z) rfl (by decide)) (by decide) (by omega) Tryz.underlying107 Tryz.sizeOf2 rfl ?_; clear hs w a; intro a w hs
 refine st_guardT hs rfl rfl rfl ?_
 refine st_ld (u := .int .i64 (2)) hs rfl (rd_blk (m := 3) (size := 1) (hs.mem.del .z) rfl (by decide)) (by rfl) Tryz.isAgg2 rfl ?_; clear hs w a; intro a w hs
 refine goL 1 [] [50, 44, 31, 30, 29, 3, 1] hs .n ?_; clear hs w a; intro a w hs
 have hb_ : (!((accT ((accS 4 ((accS 4 stt0 (gRead ((gwB 1 10 (-1) ([])))))) (gRead ((gwB 3 30 1 ([])))))).l 4 ((accS 4 ((accS 4 stt0 (gRead ((gwB 1 10 (-1) ([])))))) (gRead ((gwB 3 30 1 ([])))))).floor ((accS 4 ((accS 4 stt0 (gRead ((gwB 1 10 (-1) ([])))))) (gRead ((gwB 3 30 1 ([])))))).gone (gRead ((gwB 2 20 1 ([])))) : Int) == 2)) = false := by rw [a3.2]; rfl
 rw [hb_] at hs; clear hb_
 refine go 4 [] [31, 30, 29, 3, 1] hs .n ⟨by decide, ?_⟩; clear hs w a; intro a w hs
 refine againG ?_
 refine go 4 [] [55, 54, 1] hs .n ?_; clear hs w a; intro a w hs
 refine st_ia1 (j := 1) hs rfl rfl (rd_blk (m := 3) (size := 1) (hs.mem.del (.s (.s (.s (.s .z))))) rfl (by decide)) (by decide) (by omega) Tryz.underlying43 Tryz.sizeOf37 rfl ?_; clear hs w a; intro a w hs
 refine st_ld (u := v5) hs rfl (rd_blk (m := 3) (size := 1) (hs.mem.del (.s (.s (.s (.s .z))))) rfl (by decide)) (by rfl) Tryz.isAgg37 rfl ?_; clear hs w a; intro a w hs
 refine st_call hs (.c rfl (.c rfl .n)) Tryz.call27 (.c (.s .z) .n) (accept_st hX15 (fun i => Nat.le_trans ((accS_k (accS_k (accS_k (fun _ => Nat.le_refl 0)))) i) (by decide)) _ (hs.mem.del (.s .z)) (hs.mem.rdrow (.s (.s (.s (.s (.s (.s .z)))))) (.c (.s .z) .n))) rfl ?_; clear hs w a; rintro _ _ a w ⟨rfl, X17, rfl, hX18⟩ hs; simp only [List.cons_append, List.nil_append] at hs
 refine goL 6 [] [62, 9, 1] hs .n ?_; clear hs w a; intro a w hs
 refine st_call hs (.c rfl (.c rfl .n)) Tryz.call26 .n (at_st hX18 1 _ (hs.mem.del .z)) rfl ?_; clear hs w a; rintro _ _ a w ⟨v19, rfl, rfl⟩ hs; simp only [List.cons_append, List.nil_append] at hs
 refine goL 4 [] [10, 65, 64, 9, 1] hs .n (fun g20 => ?_); clear hs w a; intro a w hs
 refine st_stBA hs rfl rfl .z (.z (.c (.c (.c .n)))) (ones_c rfl (ones_c rfl (ones_c (rd_row (hs.mem.del (.s .z))).isSl.one ones_n))) Tryz.sizeOf24 rfl ?_; clear hs w a; intro a w hs
 refine goL 3 [] [67, 11, 10, 1] hs .n ?_; clear hs w a; intro a w hs
 have hb_ : ((((accE ((accS 4 ((accS 4 ((accS 4 stt0 (gRead ((gwB 1 10 (-1) ([])))))) (gRead ((gwB 3 30 1 ([])))))) (gRead ((gwB 2 20 1 ([])))))).l 4 ((accS 4 ((accS 4 ((accS 4 stt0 (gRead ((gwB 1 10 (-1) ([])))))) (gRead ((gwB 3 30 1 ([])))))) (gRead ((gwB 2 20 1 ([])))))).floor ((accS 4 ((accS 4 ((accS 4 stt0 (gRead ((gwB 1 10 (-1) ([])))))) (gRead ((gwB 3 30 1 ([])))))) (gRead ((gwB 2 20 1 ([])))))).gone (gRead ((gwB 3 30 1 ([])))) : Nat) : Int) : Int) == 12) = true := by rw [a4] <;> rfl
 rw [hb_] at hs; clear hb_
 refine go 3 [] [70, 68, 10, 1] hs .n ?_; clear hs w a; intro a w hs
 have hb_ : ((((ratE ((accS 4 ((accS 4 ((accS 4 ((accS 4 stt0 (gRead ((gwB 1 10 (-1) ([])))))) (gRead ((gwB 3 30 1 ([])))))) (gRead ((gwB 2 20 1 ([])))))) (gRead ((gwB 3 30 1 ([])))))).l 1 : Nat) : Int) : Int) == 0) = true := by rw [a5.1] <;> rfl
 rw [hb_] at hs; clear hb_
 refine go 5 [0] [75, 72, 1] hs (.c .z .n) ⟨rfl, ?_⟩; clear hs w a; intro a w hs
 have hb_ : (((sat ((accS 4 ((accS 4 ((accS 4 ((accS 4 stt0 (gRead ((gwB 1 10 (-1) ([])))))) (gRead ((gwB 3 30 1 ([])))))) (gRead ((gwB 2 20 1 ([])))))) (gRead ((gwB 3 30 1 ([])))))).l 1).t : Int) == 2) = true := by rw [a5.2.1] <;> rfl
 rw [hb_] at hs; clear hb_
 refine go 3 [] [78, 77, 1] hs .n ?_; clear hs w a; intro a w hs
 refine st_guardT hs rfl rfl rfl ?_
 refine st_callP (v := .int .i64 (((((accS 4 ((accS 4 ((accS 4 ((accS 4 stt0 (gRead ((gwB 1 10 (-1) ([])))))) (gRead ((gwB 3 30 1 ([])))))) (gRead ((gwB 2 20 1 ([])))))) (gRead ((gwB 3 30 1 ([])))))).l.length : Nat) : Int))) hs (.c rfl .n) Tryz.call25 (len_st hX18 _ (hs.mem.del (.s (.s .z)))) rfl ?_; clear hs w a; intro a w hs
 refine goL 1 [] [80, 77, 1] hs .n ?_; clear hs w a; intro a w hs
 have hb_ : ((((((accS 4 ((accS 4 ((accS 4 ((accS 4 stt0 (gRead ((gwB 1 10 (-1) ([])))))) (gRead ((gwB 3 30 1 ([])))))) (gRead ((gwB 2 20 1 ([])))))) (gRead ((gwB 3 30 1 ([])))))).l.length : Nat) : Int) : Int) == 3) = true := by rw [a5.2.2.1] <;> rfl
 rw [hb_] at hs; clear hb_
 refine go 3 [] [83, 82, 1] hs .n ?_; clear hs w a; intro a w hs
 refine st_guardT hs rfl rfl rfl ?_
 refine st_callP (v := .int .i64 (((((accS 4 ((accS 4 ((accS 4 ((accS 4 stt0 (gRead ((gwB 1 10 (-1) ([])))))) (gRead ((gwB 3 30 1 ([])))))) (gRead ((gwB 2 20 1 ([])))))) (gRead ((gwB 3 30 1 ([])))))).n 0 : Nat) : Int))) hs (.c rfl .n) Tryz.call30 (taken_st hX18 _ (hs.mem.del (.s (.s .z)))) rfl ?_; clear hs w a; intro a w hs
 refine goL 1 [] [85, 82, 1] hs .n ?_; clear hs w a; intro a w hs
 have hb_ : ((((((accS 4 ((accS 4 ((accS 4 ((accS 4 stt0 (gRead ((gwB 1 10 (-1) ([])))))) (gRead ((gwB 3 30 1 ([])))))) (gRead ((gwB 2 20 1 ([])))))) (gRead ((gwB 3 30 1 ([])))))).n 0 : Nat) : Int) : Int) == 3) = true := by rw [a5.2.2.2.1] <;> rfl
 rw [hb_] at hs; clear hb_
 refine go 3 [] [88, 87] hs .n ?_; clear hs w a; intro a w hs
 refine st_guardT hs rfl rfl rfl ?_
 refine st_callP (v := .int .i64 (((nref ((accS 4 ((accS 4 ((accS 4 ((accS 4 stt0 (gRead ((gwB 1 10 (-1) ([])))))) (gRead ((gwB 3 30 1 ([])))))) (gRead ((gwB 2 20 1 ([])))))) (gRead ((gwB 3 30 1 ([])))))).n 12 : Nat) : Int))) hs (.c rfl (.c rfl .n)) Tryz.call29 (refused_st hX18 12 _ (hs.mem.del (.s (.s .z))) (by omega)) rfl ?_; clear hs w a; intro a w hs
 refine goL 1 [] [90, 87] hs .n ?_; clear hs w a; intro a w hs
 have hb_ : ((((nref ((accS 4 ((accS 4 ((accS 4 ((accS 4 stt0 (gRead ((gwB 1 10 (-1) ([])))))) (gRead ((gwB 3 30 1 ([])))))) (gRead ((gwB 2 20 1 ([])))))) (gRead ((gwB 3 30 1 ([])))))).n 12 : Nat) : Int) : Int) == 1) = true := by rw [a5.2.2.2.2] <;> rfl
 rw [hb_] at hs; clear hb_
 refine go 2 [] [0] hs .n ?_; clear hs w a; intro a w hs
 replace hs := hs.drop (.c (.s (.s (.s (.s (.s (.s (.s (.s (.s .z))))))))) (.c (.s (.s (.s (.s (.s (.s (.s (.s .z)))))))) (.c (.s (.s (.s (.s (.s (.s (.s .z))))))) (.c (.s (.s (.s (.s (.s (.s .z)))))) (.c (.s (.s (.s (.s (.s .z))))) (.c (.s (.s (.s (.s .z)))) (.c (.s (.s (.s .z))) (.c (.s (.s .z)) (.c (.s .z) (.c .z .n))))))))))
 exact fin hs rfl rfl ⟨rfl, rfl⟩
end Go.Proofs.YtbioemaipghagaaGreat
