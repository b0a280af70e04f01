/- Walks of datagrams: what each function does, over the program of this seat. Printed by a program of this session. -/
import Derived.Test.YtbioemaipghagaaGreatQWgramT
import Derived.Test.YtbioemaipghagaaGreatQWrec
import Derived.Test.YtbioemaipghagaaGreatQWcrc
import Derived.Test.YtbioemaipghagaaGreatQSxGrams
import Derived.Test.YtbioemaipghagaaGreatQSxRecs
import Derived.Test.YtbioemaipghagaaGreatQSxBasB
namespace Go.Proofs.YtbioemaipghagaaGreat
open Go Go.Sx Go.RowKit
set_option linter.unusedVariables false
set_option linter.unusedSimpArgs false
set_option maxRecDepth 4000
set_option maxHeartbeats 1000000

theorem ghead_ok (t tm b : Int) (u : Value) (l : List RecR) (w0 : World) (ht_ : -9223372036854775808 ≤ t ∧ t ≤ 9223372036854775807) (htm_ : -9223372036854775808 ≤ tm ∧ tm ≤ 9223372036854775807) (hb_ : -9223372036854775808 ≤ b ∧ b ≤ 9223372036854775807) (hc : Rd w0 [] u 9 l.length (l.flatMap recV)) : Calls Tryz.prog 68 #[.agg #[.int .i64 t, .int .i64 tm, .int .i64 b, u]] w0 (Ret w0 [] fun x N => ∃ v, x = .tuple #[v, .int .i64 (((gErr t tm b l.length : Nat)) : Int)] ∧ N = [row v 5 1 (gHead t tm b l.length).length (bytesV (gHead t tm b l.length))]) := by
 have hce := hc.le
 simp only [maxLen] at hce
 have hv1 := vlen_le (BitVec.ofInt 64 t).toNat
 have hv2 := vlen_le (zigI tm).toNat
 have hv3 := vlen_le (BitVec.ofInt 64 (t - b)).toNat
 have hv4 := vlen_le (BitVec.ofInt 64 (l.length : Int)).toNat
 have hv5 := vlen_le (0#64).toNat
 refine enterG (F0 := [(0, .agg #[.int .i64 (t), .int .i64 (tm), .int .i64 (b), u])]) Tryz.func68 rfl rfl rfl (.c .n) (Mem.nil _) fun a w hs => ?_
 refine go 7 [0, 0] [12, 1] hs .n (fun g1 => ⟨rfl, ?_⟩); clear hs w a; intro a w hs
 refine st_part (b := decide (t < 0)) (fun c_2 => ?_) (fun c_2 => ?_)
 ·
  rw [c_2] at hs
  replace c_2 := of_decide_eq_true c_2
  refine go 19 [] [3, 2] hs .n ?_; clear hs w a; intro a w hs
  have hge : gErr t tm b l.length = 3 := by first | exact gErr_3 (by omega) | exact gErr_10 (by omega) (by omega) | exact gErr_8 (by omega) (by omega) (by omega) | exact gErr_0 (by omega) (by omega) (by omega)
  replace hs := hs.drop (.c .z .n)
  replace hs := hs.addNil 5 1
  replace hs := hs.rerow .z (m' := (gHead t tm b l.length).length) (xs' := bytesV (gHead t tm b l.length)) (by rw [gHead, if_pos (by omega)]; rfl) (by rw [gHead, if_pos (by omega)]; rfl)
  exact fin2 hs rfl rfl rfl ⟨_, congrArg (fun z : Nat => Value.tuple #[.slice none 0 0, .int .i64 (z : Int)]) hge.symm, rfl⟩
 rw [c_2] at hs
 replace c_2 := of_decide_eq_false c_2
 refine go 5 [0] [17, 1] hs (.c .z .n) ⟨rfl, ?_⟩; clear hs w a; intro a w hs
 refine st_part (b := decide (4294967295 < t)) (fun c_3 => ?_) (fun c_3 => ?_)
 ·
  rw [c_3] at hs
  replace c_3 := of_decide_eq_true c_3
  refine go 14 [] [3, 2] hs .n ?_; clear hs w a; intro a w hs
  have hge : gErr t tm b l.length = 3 := by first | exact gErr_3 (by omega) | exact gErr_10 (by omega) (by omega) | exact gErr_8 (by omega) (by omega) (by omega) | exact gErr_0 (by omega) (by omega) (by omega)
  replace hs := hs.drop (.c .z .n)
  replace hs := hs.addNil 5 1
  replace hs := hs.rerow .z (m' := (gHead t tm b l.length).length) (xs' := bytesV (gHead t tm b l.length)) (by rw [gHead, if_pos (by omega)]; rfl) (by rw [gHead, if_pos (by omega)]; rfl)
  exact fin2 hs rfl rfl rfl ⟨_, congrArg (fun z : Nat => Value.tuple #[.slice none 0 0, .int .i64 (z : Int)]) hge.symm, rfl⟩
 rw [c_3] at hs
 replace c_3 := of_decide_eq_false c_3
 refine go 2 [0] [19, 17, 1] hs (.c .z .n) ⟨rfl, ?_⟩; clear hs w a; intro a w hs
 refine st_guardT hs rfl rfl rfl ?_
 refine st_callP (v := .bool (decide (-2305843009213693952 ≤ tm ∧ tm ≤ 2305843009213693952))) hs (.c rfl .n) Tryz.call73 (timely_ok tm _) rfl ?_; clear hs w a; intro a w hs
 refine goL 3 [] [23, 1] hs .n ?_; clear hs w a; intro a w hs
 refine st_part (b := !(decide (-2305843009213693952 ≤ tm ∧ tm ≤ 2305843009213693952))) (fun c_4 => ?_) (fun c_4 => ?_)
 ·
  rw [c_4] at hs
  replace c_4 := not_t c_4
  replace c_4 := of_decide_eq_false c_4
  refine go 8 [] [3, 2] hs .n ?_; clear hs w a; intro a w hs
  have hge : gErr t tm b l.length = 3 := by first | exact gErr_3 (by omega) | exact gErr_10 (by omega) (by omega) | exact gErr_8 (by omega) (by omega) (by omega) | exact gErr_0 (by omega) (by omega) (by omega)
  replace hs := hs.drop (.c .z .n)
  replace hs := hs.addNil 5 1
  replace hs := hs.rerow .z (m' := (gHead t tm b l.length).length) (xs' := bytesV (gHead t tm b l.length)) (by rw [gHead, if_pos (by omega)]; rfl) (by rw [gHead, if_pos (by omega)]; rfl)
  exact fin2 hs rfl rfl rfl ⟨_, congrArg (fun z : Nat => Value.tuple #[.slice none 0 0, .int .i64 (z : Int)]) hge.symm, rfl⟩
 rw [c_4] at hs
 replace c_4 := not_f c_4
 replace c_4 := of_decide_eq_true c_4
 refine go 5 [0] [8, 1] hs (.c .z .n) ⟨rfl, ?_⟩; clear hs w a; intro a w hs
 refine ifG hs rfl (fun c_5 => ?_) (fun c_5 => ?_)
 ·
  replace c_5 := of_decide_eq_true c_5
  refine go 2 [] [3, 2] hs .n ?_; clear hs w a; intro a w hs
  have hge : gErr t tm b l.length = 3 := by first | exact gErr_3 (by omega) | exact gErr_10 (by omega) (by omega) | exact gErr_8 (by omega) (by omega) (by omega) | exact gErr_0 (by omega) (by omega) (by omega)
  replace hs := hs.drop (.c .z .n)
  replace hs := hs.addNil 5 1
  replace hs := hs.rerow .z (m' := (gHead t tm b l.length).length) (xs' := bytesV (gHead t tm b l.length)) (by rw [gHead, if_pos (by omega)]; rfl) (by rw [gHead, if_pos (by omega)]; rfl)
  exact fin2 hs rfl rfl rfl ⟨_, congrArg (fun z : Nat => Value.tuple #[.slice none 0 0, .int .i64 (z : Int)]) hge.symm, rfl⟩
 replace c_5 := of_decide_eq_false c_5
 refine go 6 [0, 0] [28, 1] hs (.c .z .n) ⟨rfl, rfl, ?_⟩; clear hs w a; intro a w hs
 refine ifG hs rfl (fun c_6 => ?_) (fun c_6 => ?_)
 ·
  replace c_6 := of_decide_eq_true c_6
  refine go 2 [] [3, 2] hs .n ?_; clear hs w a; intro a w hs
  have hge : gErr t tm b l.length = 10 := by first | exact gErr_3 (by omega) | exact gErr_10 (by omega) (by omega) | exact gErr_8 (by omega) (by omega) (by omega) | exact gErr_0 (by omega) (by omega) (by omega)
  replace hs := hs.drop (.c .z .n)
  replace hs := hs.addNil 5 1
  replace hs := hs.rerow .z (m' := (gHead t tm b l.length).length) (xs' := bytesV (gHead t tm b l.length)) (by rw [gHead, if_pos (by omega)]; rfl) (by rw [gHead, if_pos (by omega)]; rfl)
  exact fin2 hs rfl rfl rfl ⟨_, congrArg (fun z : Nat => Value.tuple #[.slice none 0 0, .int .i64 (z : Int)]) hge.symm, rfl⟩
 replace c_6 := of_decide_eq_false c_6
 refine go 2 [0] [36, 1] hs (.c .z .n) ⟨rfl, ?_⟩; clear hs w a; intro a w hs
 refine st_len hs rfl (hs.rd0 hc).isSl Tryz.underlying27 rfl ?_; clear hs w a; intro a w hs
 refine goL 2 [] [34, 1] hs .n ?_; clear hs w a; intro a w hs
 refine ifG hs rfl (fun c_7 => ?_) (fun c_7 => ?_)
 ·
  replace c_7 := of_decide_eq_true c_7
  refine go 2 [] [3, 2] hs .n ?_; clear hs w a; intro a w hs
  have hge : gErr t tm b l.length = 8 := by first | exact gErr_3 (by omega) | exact gErr_10 (by omega) (by omega) | exact gErr_8 (by omega) (by omega) (by omega) | exact gErr_0 (by omega) (by omega) (by omega)
  replace hs := hs.drop (.c .z .n)
  replace hs := hs.addNil 5 1
  replace hs := hs.rerow .z (m' := (gHead t tm b l.length).length) (xs' := bytesV (gHead t tm b l.length)) (by rw [gHead, if_pos (by omega)]; rfl) (by rw [gHead, if_pos (by omega)]; rfl)
  exact fin2 hs rfl rfl rfl ⟨_, congrArg (fun z : Nat => Value.tuple #[.slice none 0 0, .int .i64 (z : Int)]) hge.symm, rfl⟩
 replace c_7 := of_decide_eq_false c_7
 refine go 4 [0] [41, 4, 1] hs (.c .z .n) ⟨rfl, ?_⟩; clear hs w a; intro a w hs
 refine ifG hs rfl (fun c_8 => ?_) (fun c_8 => ?_)
 ·
  replace c_8 := of_decide_eq_true c_8
  refine go 5 [0, 0] [46, 1] hs (.c .z .n) ⟨rfl, rfl, (by omega), ?_⟩; clear hs w a; intro a w hs
  refine st_cv_u64 hs rfl Tryz.underlying2 Tryz.underlying129 rfl ?_; clear hs w a; intro a w hs
  refine goL 3 [] [5, 4, 1] hs .n (fun g9 => ?_); clear hs w a; intro a w hs
  refine wp_drawS [.p [] [], .p [0] [0], .v [1] (.int .u64 ((((BitVec.ofInt 64 t).toNat : Nat) : Int))), .p [] [], .p [3] [0], .v [4] (.int .u64 ((((zigI tm).toNat : Nat) : Int))), .p [] [], .p [] [], .p [7] [0], .v [8] (.int .i64 (((l.length : Nat) : Int))), .v [9] (.int .u64 ((((BitVec.ofInt 64 (((l.length : Nat) : Int))).toNat : Nat) : Int))), .x [10, 6, 5, 2] ⟨[], [], [], fun vs10 => vs10 11 = .slice (some ⟨(ptrG (vs10 11)), 0, none⟩) 4 4, fun vs10 => [blk (ptrG (vs10 11)) [.int .u64 ((((BitVec.ofInt 64 t).toNat : Nat) : Int)), .int .u64 ((((zigI tm).toNat : Nat) : Int)), .int .u64 ((((BitVec.ofInt 64 (t - b)).toNat : Nat) : Int)), .int .u64 ((((BitVec.ofInt 64 (((l.length : Nat) : Int))).toNat : Nat) : Int))] 129], none⟩, .x [] ⟨[], [], [], fun vs10 => vs10 12 = .int .i64 (4), fun vs10 => [], none⟩, .p [] []] [13] hs .n (.c (.s .z) .n) (by kernel_rfl) ⟨rfl, ?_, rfl, ?_, rfl, ?_, ?_, ⟨rfl, by kernel_rfl, fun _ => rfl⟩, ⟨?_, ?_, trivial⟩, ?_⟩
  ·
   intro a_ w_ R_ Q_ hm hs K_
   refine st_cv_u64 hs rfl Tryz.underlying2 Tryz.underlying129 rfl ?_; clear hs; intro a w hs
   exact wpList_nil (K_ _ _ hs)
  ·
   intro a_ w_ R_ Q_ hm hs K_
   refine st_callP (v := .int .u64 ((((zigI tm).toNat : Nat) : Int))) hs (.c rfl .n) Tryz.call92 (zig_ok tm _ (by omega)) rfl ?_; clear hs; intro a w hs
   exact wpList_nil (K_ _ _ hs)
  ·
   intro a_ w_ R_ Q_ hm hs K_
   refine st_len hs rfl (hm.rd0 hc).isSl Tryz.underlying27 rfl ?_; clear hs; intro a w hs
   exact wpList_nil (K_ _ _ hs)
  ·
   intro a_ w_ R_ Q_ hm hs K_
   refine st_cv_u64 hs rfl Tryz.underlying3 Tryz.underlying129 rfl ?_; clear hs; intro a w hs
   exact wpList_nil (K_ _ _ hs)
  ·
   intro a_ w_ R_ rest_ vs10 hm hs ht hx
   have hs0 := hs.bare
   refine st_bs (cs := [.int .u64 ((((BitVec.ofInt 64 t).toNat : Nat) : Int)), .int .u64 ((((zigI tm).toNat : Nat) : Int)), .int .u64 ((((BitVec.ofInt 64 (t - b)).toNat : Nat) : Int)), .int .u64 ((((BitVec.ofInt 64 (((l.length : Nat) : Int))).toNat : Nat) : Int))]) hs (.c (.c (.c (.c .n)))) (.c rfl (.c rfl (.c rfl (.c rfl .n)))) Tryz.underlying161 (ie := Tryz.t129) rfl rfl rfl rfl (by decide) (by decide) rfl (by decide) rfl rfl rfl ?_; clear hs; intro g11 a w hs
   exact wpList_nil ⟨rfl, _, _, hs0, (.c (.c (.c (.c .r)))), hs, rfl⟩
  ·
   intro a_ w_ R_ rest_ vs10 hm hs ht hx
   have t11 := ht 11 (twB_spec 14 _ (by kernel_rfl))
   have e11 : _ = some (vs10 11) := t11.val rfl
   rw [show vs10 11 = .slice (some ⟨(ptrG (vs10 11)), 0, none⟩) 4 4 from t11.2.1] at e11
   replace hs := hs.learn e11
   have hs0 := hs.bare
   refine st_len hs rfl (rd_blk (m := 4) (size := 1) (hm.own (List.mem_append.2 (.inr ((ht 11 (twB_spec 14 _ (by kernel_rfl))).2.2 (later (n := 14) (by kernel_rfl)) _ (List.Mem.head _))))) rfl (by decide)).isSl Tryz.underlying161 rfl ?_; clear hs; intro a w hs
   replace hs := hs.recell (v' := .int .i64 (4)) (Option.some.inj rfl)
   exact wpList_nil ⟨rfl, _, _, hs0, (.c .r), hs, rfl⟩
  clear hs w a; intro vs10 a w hs hf
  obtain ⟨e11, q11⟩ := hf 11 (by decide)
  replace e11 : _ = some (vs10 11) := e11.val rfl
  rw [show vs10 11 = .slice (some ⟨(ptrG (vs10 11)), 0, none⟩) 4 4 from q11] at e11
  replace hs := hs.learn e11; clear e11 q11
  obtain ⟨e12, q12⟩ := hf 12 (by decide)
  replace e12 : _ = some (vs10 12) := e12.val rfl
  rw [show vs10 12 = .int .i64 (4) from q12] at e12
  replace hs := hs.learn e12; clear e12 q12
  generalize ptrG (vs10 11) = g12 at hs
  clear hf
  refine goE 0 [] [61, 60, 62, 5] hs .n ?_; clear hs w a; intro a w hs
  refine roundsG 4 ?_
  refine go 2 [] [61, 60, 62, 5] hs .n ?_; clear hs w a; intro a w hs
  refine st_ia1 (j := 0) hs rfl rfl (rd_blk (m := 4) (size := 1) (hs.mem.del (.s (.s .z))) rfl (by decide)) (by decide) (by omega) Tryz.underlying161 Tryz.sizeOf129 rfl ?_; clear hs w a; intro a w hs
  refine st_ld (u := .int .u64 ((((BitVec.ofInt 64 t).toNat : Nat) : Int))) hs rfl (rd_blk (m := 4) (size := 1) (hs.mem.del (.s (.s .z))) rfl (by decide)) (by rfl) Tryz.isAgg129 rfl ?_; clear hs w a; intro a w hs
  refine goL 3 [] [67, 66, 61, 60, 62] hs .n ?_; clear hs w a; intro a w hs
  refine st_call hs (.c rfl .n) Tryz.call93 .n (put_ok (BitVec.ofInt 64 t) _) rfl ?_; clear hs w a; rintro v13 _ a w rfl hs; simp only [List.cons_append, List.nil_append] at hs
  replace hs := hs.toRow (size := 1) (m := 2) (.s .z) rfl (by decide)
  refine st_app (size := 1) (bytes := 1) hs rfl rfl .z (rd_row (hs.mem.del (.s .z))) (oneCell_bytesV _) Tryz.underlying37 (i := Tryz.t5) rfl rfl rfl rfl rfl (by decide) (by omega) (by simp only [maxLen]; omega) rfl ?_; clear hs w a; intro v14 a w hs
  refine goL 3 [] [62, 5, 61, 60] hs .n ⟨by decide, ?_⟩; clear hs w a; intro a w hs
  refine againG ?_
  refine go 2 [] [62, 5, 61, 60] hs .n ?_; clear hs w a; intro a w hs
  refine st_ia1 (j := 1) hs rfl rfl (rd_blk (m := 4) (size := 1) (hs.mem.del (.s (.s (.s .z)))) rfl (by decide)) (by decide) (by omega) Tryz.underlying161 Tryz.sizeOf129 rfl ?_; clear hs w a; intro a w hs
  refine st_ld (u := .int .u64 ((((zigI tm).toNat : Nat) : Int))) hs rfl (rd_blk (m := 4) (size := 1) (hs.mem.del (.s (.s (.s .z)))) rfl (by decide)) (by rfl) Tryz.isAgg129 rfl ?_; clear hs w a; intro a w hs
  refine goL 3 [] [67, 66, 62, 61, 60] hs .n ?_; clear hs w a; intro a w hs
  refine st_call hs (.c rfl .n) Tryz.call93 .n (put_ok (zigI tm) _) rfl ?_; clear hs w a; rintro v15 _ a w rfl hs; simp only [List.cons_append, List.nil_append] at hs
  refine st_app (size := 1) (bytes := 1) hs rfl rfl (.s .z) (rd_row (hs.mem.del .z)) (oneCell_bytesV _) Tryz.underlying37 (i := Tryz.t5) rfl rfl rfl rfl rfl (by decide) (by omega) (by simp only [maxLen]; omega) rfl ?_; clear hs w a; intro v16 a w hs
  refine goL 3 [] [62, 5, 61, 60] hs .n ⟨by decide, ?_⟩; clear hs w a; intro a w hs
  refine againG ?_
  refine go 2 [] [62, 5, 61, 60] hs .n ?_; clear hs w a; intro a w hs
  refine st_ia1 (j := 2) hs rfl rfl (rd_blk (m := 4) (size := 1) (hs.mem.del (.s (.s (.s (.s .z))))) rfl (by decide)) (by decide) (by omega) Tryz.underlying161 Tryz.sizeOf129 rfl ?_; clear hs w a; intro a w hs
  refine st_ld (u := .int .u64 ((((BitVec.ofInt 64 (t - b)).toNat : Nat) : Int))) hs rfl (rd_blk (m := 4) (size := 1) (hs.mem.del (.s (.s (.s (.s .z))))) rfl (by decide)) (by rfl) Tryz.isAgg129 rfl ?_; clear hs w a; intro a w hs
  refine goL 3 [] [67, 66, 62, 61, 60] hs .n ?_; clear hs w a; intro a w hs
  refine st_call hs (.c rfl .n) Tryz.call93 .n (put_ok (BitVec.ofInt 64 (t - b)) _) rfl ?_; clear hs w a; rintro v17 _ a w rfl hs; simp only [List.cons_append, List.nil_append] at hs
  refine st_app (size := 1) (bytes := 1) hs rfl rfl (.s .z) (rd_row (hs.mem.del .z)) (oneCell_bytesV _) Tryz.underlying37 (i := Tryz.t5) rfl rfl rfl rfl rfl (by decide) (by omega) (by simp only [maxLen]; omega) rfl ?_; clear hs w a; intro v18 a w hs
  refine goL 3 [] [62, 5, 61, 60] hs .n ⟨by decide, ?_⟩; clear hs w a; intro a w hs
  refine againG ?_
  refine go 2 [] [62, 5, 61, 60] hs .n ?_; clear hs w a; intro a w hs
  refine st_ia1 (j := 3) hs rfl rfl (rd_blk (m := 4) (size := 1) (hs.mem.del (.s (.s (.s (.s (.s .z)))))) rfl (by decide)) (by decide) (by omega) Tryz.underlying161 Tryz.sizeOf129 rfl ?_; clear hs w a; intro a w hs
  refine st_ld (u := .int .u64 ((((BitVec.ofInt 64 (((l.length : Nat) : Int))).toNat : Nat) : Int))) hs rfl (rd_blk (m := 4) (size := 1) (hs.mem.del (.s (.s (.s (.s (.s .z)))))) rfl (by decide)) (by rfl) Tryz.isAgg129 rfl ?_; clear hs w a; intro a w hs
  refine goL 3 [] [67, 66, 62, 61, 60] hs .n ?_; clear hs w a; intro a w hs
  refine st_call hs (.c rfl .n) Tryz.call93 .n (put_ok (BitVec.ofInt 64 (((l.length : Nat) : Int))) _) rfl ?_; clear hs w a; rintro v19 _ a w rfl hs; simp only [List.cons_append, List.nil_append] at hs
  refine st_app (size := 1) (bytes := 1) hs rfl rfl (.s .z) (rd_row (hs.mem.del .z)) (oneCell_bytesV _) Tryz.underlying37 (i := Tryz.t5) rfl rfl rfl rfl rfl (by decide) (by omega) (by simp only [maxLen]; omega) rfl ?_; clear hs w a; intro v20 a w hs
  refine goL 3 [] [62, 5, 61, 60] hs .n ⟨by decide, ?_⟩; clear hs w a; intro a w hs
  refine againG ?_
  refine go 5 [] [3, 2] hs .n ?_; clear hs w a; intro a w hs
  have hge : gErr t tm b l.length = 0 := by first | exact gErr_3 (by omega) | exact gErr_10 (by omega) (by omega) | exact gErr_8 (by omega) (by omega) (by omega) | exact gErr_0 (by omega) (by omega) (by omega)
  replace hs := hs.drop (.c (.s (.s (.s (.s (.s (.s .z)))))) (.c (.s (.s (.s (.s (.s .z))))) (.c (.s (.s (.s (.s .z)))) (.c (.s (.s (.s .z))) (.c (.s (.s .z)) (.c (.s .z) .n))))))
  replace hs := hs.rerow .z (m' := (gHead t tm b l.length).length) (xs' := bytesV (gHead t tm b l.length)) (by rw [gHead, if_neg (by omega), gHeadB, gBack]; (first | rw [if_pos (by omega)] | rw [if_neg (by omega)]); simp only [List.length_append, List.length_cons, List.length_nil, vlen]) (by rw [gHead, if_neg (by omega), gHeadB, gBack]; (first | rw [if_pos (by omega)] | rw [if_neg (by omega)]); simp [bytesV, byteV])
  exact fin2 hs rfl rfl rfl ⟨_, congrArg (fun z : Nat => Value.tuple #[v20, .int .i64 (z : Int)]) hge.symm, rfl⟩
 replace c_8 := of_decide_eq_false c_8
 refine go 2 [] [5, 4, 1] hs .n (fun g21 => ?_); clear hs w a; intro a w hs
 refine wp_drawS [.p [] [], .p [0] [0], .v [1] (.int .u64 ((((BitVec.ofInt 64 t).toNat : Nat) : Int))), .p [] [], .p [3] [0], .v [4] (.int .u64 ((((zigI tm).toNat : Nat) : Int))), .p [] [], .p [] [], .p [7] [0], .v [8] (.int .i64 (((l.length : Nat) : Int))), .v [9] (.int .u64 ((((BitVec.ofInt 64 (((l.length : Nat) : Int))).toNat : Nat) : Int))), .x [10, 6, 5, 2] ⟨[], [], [], fun vs22 => vs22 11 = .slice (some ⟨(ptrG (vs22 11)), 0, none⟩) 4 4, fun vs22 => [blk (ptrG (vs22 11)) [.int .u64 ((((BitVec.ofInt 64 t).toNat : Nat) : Int)), .int .u64 ((((zigI tm).toNat : Nat) : Int)), .int .u64 (0), .int .u64 ((((BitVec.ofInt 64 (((l.length : Nat) : Int))).toNat : Nat) : Int))] 129], none⟩, .x [] ⟨[], [], [], fun vs22 => vs22 12 = .int .i64 (4), fun vs22 => [], none⟩, .p [] []] [13] hs .n (.c (.s .z) .n) (by kernel_rfl) ⟨rfl, ?_, rfl, ?_, rfl, ?_, ?_, ⟨rfl, by kernel_rfl, fun _ => rfl⟩, ⟨?_, ?_, trivial⟩, ?_⟩
 ·
  intro a_ w_ R_ Q_ hm hs K_
  refine st_cv_u64 hs rfl Tryz.underlying2 Tryz.underlying129 rfl ?_; clear hs; intro a w hs
  exact wpList_nil (K_ _ _ hs)
 ·
  intro a_ w_ R_ Q_ hm hs K_
  refine st_callP (v := .int .u64 ((((zigI tm).toNat : Nat) : Int))) hs (.c rfl .n) Tryz.call92 (zig_ok tm _ (by omega)) rfl ?_; clear hs; intro a w hs
  exact wpList_nil (K_ _ _ hs)
 ·
  intro a_ w_ R_ Q_ hm hs K_
  refine st_len hs rfl (hm.rd0 hc).isSl Tryz.underlying27 rfl ?_; clear hs; intro a w hs
  exact wpList_nil (K_ _ _ hs)
 ·
  intro a_ w_ R_ Q_ hm hs K_
  refine st_cv_u64 hs rfl Tryz.underlying3 Tryz.underlying129 rfl ?_; clear hs; intro a w hs
  exact wpList_nil (K_ _ _ hs)
 ·
  intro a_ w_ R_ rest_ vs22 hm hs ht hx
  have hs0 := hs.bare
  refine st_bs (cs := [.int .u64 ((((BitVec.ofInt 64 t).toNat : Nat) : Int)), .int .u64 ((((zigI tm).toNat : Nat) : Int)), .int .u64 (0), .int .u64 ((((BitVec.ofInt 64 (((l.length : Nat) : Int))).toNat : Nat) : Int))]) hs (.c (.c (.c (.c .n)))) (.c rfl (.c rfl (.c rfl (.c rfl .n)))) Tryz.underlying161 (ie := Tryz.t129) rfl rfl rfl rfl (by decide) (by decide) rfl (by decide) rfl rfl rfl ?_; clear hs; intro g23 a w hs
  exact wpList_nil ⟨rfl, _, _, hs0, (.c (.c (.c (.c .r)))), hs, rfl⟩
 ·
  intro a_ w_ R_ rest_ vs22 hm hs ht hx
  have t11 := ht 11 (twB_spec 14 _ (by kernel_rfl))
  have e11 : _ = some (vs22 11) := t11.val rfl
  rw [show vs22 11 = .slice (some ⟨(ptrG (vs22 11)), 0, none⟩) 4 4 from t11.2.1] at e11
  replace hs := hs.learn e11
  have hs0 := hs.bare
  refine st_len hs rfl (rd_blk (m := 4) (size := 1) (hm.own (List.mem_append.2 (.inr ((ht 11 (twB_spec 14 _ (by kernel_rfl))).2.2 (later (n := 14) (by kernel_rfl)) _ (List.Mem.head _))))) rfl (by decide)).isSl Tryz.underlying161 rfl ?_; clear hs; intro a w hs
  replace hs := hs.recell (v' := .int .i64 (4)) (Option.some.inj rfl)
  exact wpList_nil ⟨rfl, _, _, hs0, (.c .r), hs, rfl⟩
 clear hs w a; intro vs22 a w hs hf
 obtain ⟨e11, q11⟩ := hf 11 (by decide)
 replace e11 : _ = some (vs22 11) := e11.val rfl
 rw [show vs22 11 = .slice (some ⟨(ptrG (vs22 11)), 0, none⟩) 4 4 from q11] at e11
 replace hs := hs.learn e11; clear e11 q11
 obtain ⟨e12, q12⟩ := hf 12 (by decide)
 replace e12 : _ = some (vs22 12) := e12.val rfl
 rw [show vs22 12 = .int .i64 (4) from q12] at e12
 replace hs := hs.learn e12; clear e12 q12
 generalize ptrG (vs22 11) = g24 at hs
 clear hf
 refine goE 0 [] [61, 60, 62, 5] hs .n ?_; clear hs w a; intro a w hs
 refine roundsG 4 ?_
 refine go 2 [] [61, 60, 62, 5] hs .n ?_; clear hs w a; intro a w hs
 refine st_ia1 (j := 0) hs rfl rfl (rd_blk (m := 4) (size := 1) (hs.mem.del (.s (.s .z))) rfl (by decide)) (by decide) (by omega) Tryz.underlying161 Tryz.sizeOf129 rfl ?_; clear hs w a; intro a w hs
 refine st_ld (u := .int .u64 ((((BitVec.ofInt 64 t).toNat : Nat) : Int))) hs rfl (rd_blk (m := 4) (size := 1) (hs.mem.del (.s (.s .z))) rfl (by decide)) (by rfl) Tryz.isAgg129 rfl ?_; clear hs w a; intro a w hs
 refine goL 3 [] [67, 66, 61, 60, 62] hs .n ?_; clear hs w a; intro a w hs
 refine st_call hs (.c rfl .n) Tryz.call93 .n (put_ok (BitVec.ofInt 64 t) _) rfl ?_; clear hs w a; rintro v25 _ a w rfl hs; simp only [List.cons_append, List.nil_append] at hs
 replace hs := hs.toRow (size := 1) (m := 2) (.s .z) rfl (by decide)
 refine st_app (size := 1) (bytes := 1) hs rfl rfl .z (rd_row (hs.mem.del (.s .z))) (oneCell_bytesV _) Tryz.underlying37 (i := Tryz.t5) rfl rfl rfl rfl rfl (by decide) (by omega) (by simp only [maxLen]; omega) rfl ?_; clear hs w a; intro v26 a w hs
 refine goL 3 [] [62, 5, 61, 60] hs .n ⟨by decide, ?_⟩; clear hs w a; intro a w hs
 refine againG ?_
 refine go 2 [] [62, 5, 61, 60] hs .n ?_; clear hs w a; intro a w hs
 refine st_ia1 (j := 1) hs rfl rfl (rd_blk (m := 4) (size := 1) (hs.mem.del (.s (.s (.s .z)))) rfl (by decide)) (by decide) (by omega) Tryz.underlying161 Tryz.sizeOf129 rfl ?_; clear hs w a; intro a w hs
 refine st_ld (u := .int .u64 ((((zigI tm).toNat : Nat) : Int))) hs rfl (rd_blk (m := 4) (size := 1) (hs.mem.del (.s (.s (.s .z)))) rfl (by decide)) (by rfl) Tryz.isAgg129 rfl ?_; clear hs w a; intro a w hs
 refine goL 3 [] [67, 66, 62, 61, 60] hs .n ?_; clear hs w a; intro a w hs
 refine st_call hs (.c rfl .n) Tryz.call93 .n (put_ok (zigI tm) _) rfl ?_; clear hs w a; rintro v27 _ a w rfl hs; simp only [List.cons_append, List.nil_append] at hs
 refine st_app (size := 1) (bytes := 1) hs rfl rfl (.s .z) (rd_row (hs.mem.del .z)) (oneCell_bytesV _) Tryz.underlying37 (i := Tryz.t5) rfl rfl rfl rfl rfl (by decide) (by omega) (by simp only [maxLen]; omega) rfl ?_; clear hs w a; intro v28 a w hs
 refine goL 3 [] [62, 5, 61, 60] hs .n ⟨by decide, ?_⟩; clear hs w a; intro a w hs
 refine againG ?_
 refine go 2 [] [62, 5, 61, 60] hs .n ?_; clear hs w a; intro a w hs
 refine st_ia1 (j := 2) hs rfl rfl (rd_blk (m := 4) (size := 1) (hs.mem.del (.s (.s (.s (.s .z))))) rfl (by decide)) (by decide) (by omega) Tryz.underlying161 Tryz.sizeOf129 rfl ?_; clear hs w a; intro a w hs
 refine st_ld (u := .int .u64 (0)) hs rfl (rd_blk (m := 4) (size := 1) (hs.mem.del (.s (.s (.s (.s .z))))) rfl (by decide)) (by rfl) Tryz.isAgg129 rfl ?_; clear hs w a; intro a w hs
 refine goL 3 [] [67, 66, 62, 61, 60] hs .n ?_; clear hs w a; intro a w hs
 refine st_call hs (.c rfl .n) Tryz.call93 .n (put_ok (0#64) _) rfl ?_; clear hs w a; rintro v29 _ a w rfl hs; simp only [List.cons_append, List.nil_append] at hs
 refine st_app (size := 1) (bytes := 1) hs rfl rfl (.s .z) (rd_row (hs.mem.del .z)) (oneCell_bytesV _) Tryz.underlying37 (i := Tryz.t5) rfl rfl rfl rfl rfl (by decide) (by omega) (by simp only [maxLen]; omega) rfl ?_; clear hs w a; intro v30 a w hs
 refine goL 3 [] [62, 5, 61, 60] hs .n ⟨by decide, ?_⟩; clear hs w a; intro a w hs
 refine againG ?_
 refine go 2 [] [62, 5, 61, 60] hs .n ?_; clear hs w a; intro a w hs
 refine st_ia1 (j := 3) hs rfl rfl (rd_blk (m := 4) (size := 1) (hs.mem.del (.s (.s (.s (.s (.s .z)))))) rfl (by decide)) (by decide) (by omega) Tryz.underlying161 Tryz.sizeOf129 rfl ?_; clear hs w a; intro a w hs
 refine st_ld (u := .int .u64 ((((BitVec.ofInt 64 (((l.length : Nat) : Int))).toNat : Nat) : Int))) hs rfl (rd_blk (m := 4) (size := 1) (hs.mem.del (.s (.s (.s (.s (.s .z)))))) rfl (by decide)) (by rfl) Tryz.isAgg129 rfl ?_; clear hs w a; intro a w hs
 refine goL 3 [] [67, 66, 62, 61, 60] hs .n ?_; clear hs w a; intro a w hs
 refine st_call hs (.c rfl .n) Tryz.call93 .n (put_ok (BitVec.ofInt 64 (((l.length : Nat) : Int))) _) rfl ?_; clear hs w a; rintro v31 _ a w rfl hs; simp only [List.cons_append, List.nil_append] at hs
 refine st_app (size := 1) (bytes := 1) hs rfl rfl (.s .z) (rd_row (hs.mem.del .z)) (oneCell_bytesV _) Tryz.underlying37 (i := Tryz.t5) rfl rfl rfl rfl rfl (by decide) (by omega) (by simp only [maxLen]; omega) rfl ?_; clear hs w a; intro v32 a w hs
 refine goL 3 [] [62, 5, 61, 60] hs .n ⟨by decide, ?_⟩; clear hs w a; intro a w hs
 refine againG ?_
 refine go 5 [] [3, 2] hs .n ?_; clear hs w a; intro a w hs
 have hge : gErr t tm b l.length = 0 := by first | exact gErr_3 (by omega) | exact gErr_10 (by omega) (by omega) | exact gErr_8 (by omega) (by omega) (by omega) | exact gErr_0 (by omega) (by omega) (by omega)
 replace hs := hs.drop (.c (.s (.s (.s (.s (.s (.s .z)))))) (.c (.s (.s (.s (.s (.s .z))))) (.c (.s (.s (.s (.s .z)))) (.c (.s (.s (.s .z))) (.c (.s (.s .z)) (.c (.s .z) .n))))))
 replace hs := hs.rerow .z (m' := (gHead t tm b l.length).length) (xs' := bytesV (gHead t tm b l.length)) (by rw [gHead, if_neg (by omega), gHeadB, gBack]; (first | rw [if_pos (by omega)] | rw [if_neg (by omega)]); simp only [List.length_append, List.length_cons, List.length_nil, vlen]) (by rw [gHead, if_neg (by omega), gHeadB, gBack]; (first | rw [if_pos (by omega)] | rw [if_neg (by omega)]); simp [bytesV, byteV])
 exact fin2 hs rfl rfl rfl ⟨_, congrArg (fun z : Nat => Value.tuple #[v32, .int .i64 (z : Int)]) hge.symm, rfl⟩
theorem gbody_ok (t tm b : Int) (u : Value) (l : List RecR) (w0 : World) (ht_ : -9223372036854775808 ≤ t ∧ t ≤ 9223372036854775807) (htm_ : -9223372036854775808 ≤ tm ∧ tm ≤ 9223372036854775807) (hb_ : -9223372036854775808 ≤ b ∧ b ≤ 9223372036854775807) (hc : Rd w0 [] u 9 l.length (l.flatMap recV)) (hl : ∀ x ∈ l, x.wf) : Calls Tryz.prog 42 #[.agg #[.int .i64 t, .int .i64 tm, .int .i64 b, u]] w0 (Ret w0 [] fun x N => ∃ v, x = .tuple #[v, .int .i64 (((bodyErr t tm b l : Nat)) : Int)] ∧ N = [row v 5 1 (bodyB t tm b l).length (bytesV (bodyB t tm b l))]) := by
 have hce := hc.le
 simp only [maxLen] at hce
 refine enterG (F0 := [(0, .agg #[.int .i64 (t), .int .i64 (tm), .int .i64 (b), u])]) Tryz.func42 rfl rfl rfl (.c .n) (Mem.nil _) fun a w hs => ?_
 refine go 4 [0, 0] [12, 1] hs .n (fun g1 => ⟨rfl, ?_⟩); clear hs w a; intro a w hs
 refine st_call hs (.c rfl .n) Tryz.call68 .n (ghead_ok t tm b _ l _ (by omega) (by omega) (by omega) (hs.rd0 hc)) rfl ?_; clear hs w a; rintro _ _ a w ⟨v2, rfl, rfl⟩ hs; simp only [List.cons_append, List.nil_append] at hs
 have hk3 := length_gHeadB t tm b l.length
 refine goL 7 [] [17, 5, 4, 1] hs .n ?_; clear hs w a; intro a w hs
 refine ifG hs rfl (fun c_4 => ?_) (fun c_4 => ?_)
 ·
  replace c_4 := not_t c_4
  replace c_4 := ne_of_beq_f c_4
  refine go 3 [] [3, 2] hs .n ?_; clear hs w a; intro a w hs
  have hbe : bodyErr t tm b l = gErr t tm b l.length := by first | exact bodyErr_head (by omega) | exact (bodyErr_head (by rw [(show gErr t tm b l.length = _ by first | exact gErr_3 (by omega) | exact gErr_10 (by omega) (by omega) | exact gErr_8 (by omega) (by omega) (by omega))]; decide)).trans (show gErr t tm b l.length = _ by first | exact gErr_3 (by omega) | exact gErr_10 (by omega) (by omega) | exact gErr_8 (by omega) (by omega) (by omega)) | (rw [bodyErr_recs (by omega)]; exact recsErr_at (by omega) hI1_1 (by unfold errAt; omega)) | (rw [bodyErr_recs (by omega)]; unfold recsErr; rw [← show j = l.length by omega]; exact hI1_1)
  replace hs := hs.drop (.c (.s .z) (.c .z .n))
  replace hs := hs.addNil 5 1
  replace hs := hs.rerow .z (m' := (bodyB t tm b l).length) (xs' := bytesV (bodyB t tm b l)) (by rw [bodyB_err (by omega)]; rfl) (by rw [bodyB_err (by omega)]; rfl)
  exact fin2 hs rfl rfl rfl ⟨_, congrArg (fun z : Nat => Value.tuple #[.slice none 0 0, .int .i64 (z : Int)]) hbe.symm, rfl⟩
 replace c_4 := not_f c_4
 replace c_4 := eq_of_beq c_4
 have hgp := gErr_parts (t := t) (tm := tm) (b := b) (m := l.length) (by omega)
 replace hs := hs.rerow .z (m' := (gHeadB t tm b l.length).length) (xs' := bytesV (gHeadB t tm b l.length)) (by rw [gHead, if_neg (by omega)]) (by rw [gHead, if_neg (by omega)])
 refine go 3 [0] [20, 6, 4] hs (.c (.s .z) .n) ⟨rfl, ?_⟩; clear hs w a; intro a w hs
 refine st_len hs rfl (hs.rd0 hc).isSl Tryz.underlying27 rfl ?_; clear hs w a; intro a w hs
 refine goL 1 [] [22, 21, 20, 6, 4] hs .n ?_; clear hs w a; intro a w hs
 replace hs := hs.drop (.c .z .n)
 replace hs := hs.rerow .z (m' := (gHeadB t tm b l.length).length + (rowE (l.take 0)).1.length) (xs' := bytesV (gHeadB t tm b l.length ++ (rowE (l.take 0)).1)) (by show _ = _ + 0; first | rfl | (simp only [vlen, gHeadB, List.length_append, List.length_cons, List.length_nil]; omega)) (by show _ = bytesV (_ ++ []); rw [List.append_nil])
 refine loopG (fun mm_ a w => ∃ j : Nat, ∃ p : Value, mm_ = l.length - j ∧ St 42 [(4, p), (6, .int .i64 ((rowE (l.take j)).2)), (20, u), (21, .int .i64 (((l.length : Nat) : Int))), (22, .int .i64 ((j : Int)))] w0 [] [row p 5 1 ((gHeadB t tm b l.length).length + (rowE (l.take j)).1.length) (bytesV (gHeadB t tm b l.length ++ (rowE (l.take j)).1))] a w ∧ j ≤ l.length ∧ recsTo l j = 0) ⟨0, v2, rfl, hs.sub (.c rfl (.c rfl (.c rfl (.c rfl (.c rfl .n))))), by omega, rfl⟩ ?_
 clear hs w a; rintro mm_ a w ⟨j, p, rfl, hs, hI1_0, hI1_1⟩
 have hll := recsTo_last hI1_0 hI1_1
 have hrl := rowE_len (l.take j)
 have htl : (l.take j).length ≤ j := by rw [List.length_take]; omega
 refine go 1 [] [23, 4, 6, 20, 21, 22] hs .n ?_; clear hs w a; intro a w hs
 refine ifG hs rfl (fun c_5 => ?_) (fun c_5 => ?_)
 ·
  replace c_5 := of_decide_eq_true c_5
  refine go 0 [] [4, 6, 20, 21, 22] hs .n ?_; clear hs w a; intro a w hs
  refine st_ia (j := j) hs rfl rfl (hs.rd0 hc) rfl (by omega) Tryz.underlying27 Tryz.sizeOf78 rfl ?_; clear hs w a; intro a w hs
  refine st_ldA (cs := recV (l.getD j default)) hs rfl (hs.rd0 hc) (flat_get recV_len l j (by omega)) (by rw [flat_len recV_len]; omega) (by omega) Tryz.isAgg78 Tryz.sizeOf78 rfl ?_; clear hs w a; intro a w hs
  refine goL 4 [0, 0] [28, 27, 8, 4, 20, 21, 22] hs .n (fun g6 => ⟨rfl, rfl, ?_⟩); clear hs w a; intro a w hs
  refine st_call hs (.c rfl (.c rfl .n)) Tryz.call69 .n (write_ok (l.getD j default) ((rowE (l.take j)).2) _ (recs_getD hl (by omega)) (by omega)) rfl ?_; clear hs w a; rintro _ _ a w ⟨v7, rfl, rfl⟩ hs; simp only [List.cons_append, List.nil_append] at hs
  have hk8 := length_recB (l.getD j default) ((rowE (l.take j)).2)
  refine goL 7 [] [33, 10, 9, 8, 4, 20, 21, 22] hs .n ?_; clear hs w a; intro a w hs
  refine ifG hs rfl (fun c_9 => ?_) (fun c_9 => ?_)
  ·
   replace c_9 := not_t c_9
   replace c_9 := ne_of_beq_f c_9
   refine go 3 [] [3, 2] hs .n ?_; clear hs w a; intro a w hs
   have hbe : bodyErr t tm b l = recErr (l.getD j default) ((rowE (l.take j)).2) := by first | exact bodyErr_head (by omega) | exact (bodyErr_head (by rw [(show gErr t tm b l.length = _ by first | exact gErr_3 (by omega) | exact gErr_10 (by omega) (by omega) | exact gErr_8 (by omega) (by omega) (by omega))]; decide)).trans (show gErr t tm b l.length = _ by first | exact gErr_3 (by omega) | exact gErr_10 (by omega) (by omega) | exact gErr_8 (by omega) (by omega) (by omega)) | (rw [bodyErr_recs (by omega)]; exact recsErr_at (by omega) hI1_1 (by unfold errAt; omega)) | (rw [bodyErr_recs (by omega)]; unfold recsErr; rw [← show j = l.length by omega]; exact hI1_1)
   replace hs := hs.drop (.c (.s (.s .z)) (.c (.s .z) (.c .z .n)))
   replace hs := hs.addNil 5 1
   replace hs := hs.rerow .z (m' := (bodyB t tm b l).length) (xs' := bytesV (bodyB t tm b l)) (by rw [bodyB_err (by omega)]; rfl) (by rw [bodyB_err (by omega)]; rfl)
   exact fin2 hs rfl rfl rfl ⟨_, congrArg (fun z : Nat => Value.tuple #[.slice none 0 0, .int .i64 (z : Int)]) hbe.symm, rfl⟩
  replace c_9 := not_f c_9
  replace c_9 := eq_of_beq c_9
  refine go 0 [] [9, 8, 4, 20, 21, 22] hs .n ?_; clear hs w a; intro a w hs
  replace hs := hs.sub (F' := [(9, v7), (8, .pointer (some ⟨g6, 0, none⟩)), (4, p), (20, u), (21, .int .i64 (((l.length : Nat) : Int))), (22, .int .i64 ((j : Int)))]) (.c rfl (.c rfl (.c rfl (.c rfl (.c rfl (.c rfl .n))))))
  have hs1 := hs
  replace hs := hs.sub (F' := [(9, v7), (8, .pointer (some ⟨g6, 0, none⟩)), (20, u), (21, .int .i64 (((l.length : Nat) : Int))), (22, .int .i64 ((j : Int)))]) (.c rfl (.c rfl (.c rfl (.c rfl (.c rfl .n)))))
  refine wp_drawGw (M0 := [row v7 5 1 ((recB (l.getD j default) ((rowE (l.take j)).2)).length) (bytesV (recB (l.getD j default) ((rowE (l.take j)).2))), blk g6 [.int .i64 ((l.getD j default).k), .int .i64 ((l.getD j default).id), .int .i64 ((l.getD j default).p0), .int .i64 ((l.getD j default).p1), .int .i64 ((l.getD j default).p2), .int .i64 ((l.getD j default).v0), .int .i64 ((l.getD j default).v1), .int .i64 ((l.getD j default).v2), .int .u16 (((((l.getD j default).a).toNat : Nat) : Int))] 78]) (Ds := [Pv 0 p, Pv 1 v7, ⟨[row p 5 1 ((gHeadB t tm b l.length).length + (rowE (l.take j)).1.length) (bytesV (gHeadB t tm b l.length ++ (rowE (l.take j)).1))], [], [], fun vs10 => True, fun vs10 => [row (vs10 2) 5 1 (((gHeadB t tm b l.length).length + (rowE (l.take j)).1.length) + ((recB (l.getD j default) ((rowE (l.take j)).2)).length)) ((bytesV (gHeadB t tm b l.length ++ (rowE (l.take j)).1)) ++ (bytesV (recB (l.getD j default) ((rowE (l.take j)).2))))], none⟩, Pv 3 (.pointer (some ⟨g6, 1, none⟩)), Pv 4 (.int .i64 ((l.getD j default).id)), ⟨[], [], [2], fun vs10 => vs10 5 = (vs10 2), fun vs10 => [], some (p)⟩, Pv 6 (.int .i64 ((l.getD j default).id))]) (by kernel_rfl) hs rfl (.c (.s (.s .z)) .n) (by kernel_rfl) (by kernel_rfl) ?_ (WasL.get (.z rfl (.z rfl (.z rfl (.z rfl (.z rfl (.s rfl rfl rfl (.z rfl .n))))))) hs1) ?_
  all_goals clear hs1
  ·
   refine (.c ?_ (.c ?_ (.c ?_ (.c ?_ (.c ?_ (.c ?_ (.c ?_ .n)))))))
   · exact trip_pv (m := 7) (.o (j := 5) (by kernel_rfl) rfl rfl .n) (fun hm0 hm hx => .n) (by kernel_rfl) (by kernel_rfl) rfl
   · exact trip_pv (m := 7) .n (fun hm0 hm hx => .n) (by kernel_rfl) (by kernel_rfl) rfl
   ·
    intro a_ w_ R_ rest_ vs10 hm hs ht hx
    replace hs : St _ _ _ (feet [row p 5 1 ((gHeadB t tm b l.length).length + (rowE (l.take j)).1.length) (bytesV (gHeadB t tm b l.length ++ (rowE (l.take j)).1))]) [row p 5 1 ((gHeadB t tm b l.length).length + (rowE (l.take j)).1.length) (bytesV (gHeadB t tm b l.length ++ (rowE (l.take j)).1))] _ _ := hs
    have hm0 := hm.mid
    replace hs := hs.lrn (ht 0 (twB_spec 7 _ (by kernel_rfl))) rfl rfl
    replace hs := hs.lrn (ht 1 (twB_spec 7 _ (by kernel_rfl))) rfl rfl
    have hs0 := hs.bare
    refine st_app (size := 1) (bytes := 1) hs rfl rfl .z (rd_row (hm0.del .z)) (oneCell_bytesV _) Tryz.underlying37 (i := Tryz.t5) rfl rfl rfl rfl rfl (by decide) (by omega) (by simp only [maxLen]; omega) rfl ?_; clear hs; intro v11 a w hs
    exact wpList_nil ⟨rfl, _, _, hs0, (.c (.c .r)), hs, trivial⟩
   · exact trip_pv (m := 7) .n (fun hm0 hm hx => .n) (by kernel_rfl) (by kernel_rfl) rfl
   · exact trip_pv (m := 7) (.c (k := 3) (by kernel_rfl) rfl rfl .n) (fun hm0 hm hx => (.c (hm0.del (.s .z)))) (by kernel_rfl) (by kernel_rfl) rfl
   ·
    intro a_ w_ R_ rest_ vs10 hm hs ht hx
    have hm0 := hm.mid
    have t2 := ht 2 (twB_spec 7 _ (by kernel_rfl))
    have e2 : _ = some (vs10 2) := t2.val rfl
    replace hs := hs.learn e2
    have hs0 := hs.bare
    refine st_as hs rfl rfl ?_; clear hs; intro a w hs
    exact wpList_nil ⟨rfl, _, _, hs0, (.c .r), hs, rfl⟩
   exact trip_pv (m := 7) (.c (k := 4) (by kernel_rfl) rfl rfl .n) (fun hm0 hm hx => .n) (by kernel_rfl) (by kernel_rfl) rfl
  clear hs w a; intro a w vs10 hs hf
  replace hs : St _ _ _ _ [row v7 5 1 ((recB (l.getD j default) ((rowE (l.take j)).2)).length) (bytesV (recB (l.getD j default) ((rowE (l.take j)).2))), blk g6 [.int .i64 ((l.getD j default).k), .int .i64 ((l.getD j default).id), .int .i64 ((l.getD j default).p0), .int .i64 ((l.getD j default).p1), .int .i64 ((l.getD j default).p2), .int .i64 ((l.getD j default).v0), .int .i64 ((l.getD j default).v1), .int .i64 ((l.getD j default).v2), .int .u16 (((((l.getD j default).a).toNat : Nat) : Int))] 78, row (vs10 2) 5 1 (((gHeadB t tm b l.length).length + (rowE (l.take j)).1.length) + ((recB (l.getD j default) ((rowE (l.take j)).2)).length)) ((bytesV (gHeadB t tm b l.length ++ (rowE (l.take j)).1)) ++ (bytesV (recB (l.getD j default) ((rowE (l.take j)).2))))] _ _ := hs
  obtain ⟨e5, q5⟩ := hf 5 (by decide)
  replace e5 : _ = some (vs10 5) := e5.val rfl
  rw [show vs10 5 = (vs10 2) from q5] at e5
  replace hs := hs.learn e5; clear e5 q5
  obtain ⟨e6, q6⟩ := hf 6 (by decide)
  replace e6 : _ = some (vs10 6) := e6.val rfl
  rw [show vs10 6 = .int .i64 ((l.getD j default).id) from q6] at e6
  replace hs := hs.learn e6; clear e6 q6
  generalize vs10 2 = v12 at hs
  clear hf
  refine goE 2 [] [22, 6, 4, 20, 21] hs .n ⟨(by omega), ?_⟩; clear hs w a; intro a w hs
  have he0 : errAt l j = 0 := by unfold errAt; omega
  replace hs := hs.rerow (.s (.s .z)) (m' := (gHeadB t tm b l.length).length + (rowE (l.take (j + 1))).1.length) (xs' := bytesV (gHeadB t tm b l.length ++ (rowE (l.take (j + 1))).1)) (by rw [rowE_next (by omega)]; simp only [List.length_append]; omega) (by rw [rowE_next (by omega)]; simp [bytesV])
  replace hs := hs.reslot (d := 6) (v := .int .i64 ((l.getD j default).id)) (v' := .int .i64 ((rowE (l.take (j + 1))).2)) rfl (Option.some.inj (by rw [rowE_next (by omega)]))
  replace hs := hs.drop (.c (.s (.s .z)) (.c (.s .z) .n))
  refine ⟨_, ?_, j + 1, v12, rfl, hs.sub (.c rfl (.c rfl (.c rfl (.c rfl (.c rfl .n))))), by omega, recsTo_ok hI1_1 he0⟩
  omega
 replace c_5 := of_decide_eq_false c_5
 refine go 3 [] [3, 2] hs .n ?_; clear hs w a; intro a w hs
 have hbe : bodyErr t tm b l = 0 := by first | exact bodyErr_head (by omega) | exact (bodyErr_head (by rw [(show gErr t tm b l.length = _ by first | exact gErr_3 (by omega) | exact gErr_10 (by omega) (by omega) | exact gErr_8 (by omega) (by omega) (by omega))]; decide)).trans (show gErr t tm b l.length = _ by first | exact gErr_3 (by omega) | exact gErr_10 (by omega) (by omega) | exact gErr_8 (by omega) (by omega) (by omega)) | (rw [bodyErr_recs (by omega)]; exact recsErr_at (by omega) hI1_1 (by unfold errAt; omega)) | (rw [bodyErr_recs (by omega)]; unfold recsErr; rw [← show j = l.length by omega]; exact hI1_1)
 have hta : l.take j = l := List.take_of_length_le (by omega)
 replace hs := hs.rerow .z (m' := (bodyB t tm b l).length) (xs' := bytesV (bodyB t tm b l)) (by rw [bodyB_ok hbe, hta]; simp only [List.length_append]) (by rw [bodyB_ok hbe, hta])
 exact fin2 hs rfl rfl rfl ⟨_, congrArg (fun z : Nat => Value.tuple #[p, .int .i64 (z : Int)]) hbe.symm, rfl⟩
theorem gwrite_ok (t tm b : Int) (u : Value) (l : List RecR) (w0 : World) (ht_ : -9223372036854775808 ≤ t ∧ t ≤ 9223372036854775807) (htm_ : -9223372036854775808 ≤ tm ∧ tm ≤ 9223372036854775807) (hb_ : -9223372036854775808 ≤ b ∧ b ≤ 9223372036854775807) (hc : Rd w0 [] u 9 l.length (l.flatMap recV)) (hl : ∀ x ∈ l, x.wf) : Calls Tryz.prog 17 #[.agg #[.int .i64 t, .int .i64 tm, .int .i64 b, u]] w0 (Ret w0 [] fun x N => ∃ v, x = .tuple #[v, .int .i64 (((gwErr t tm b l : Nat)) : Int)] ∧ N = [row v 5 1 (gwB t tm b l).length (bytesV (gwB t tm b l))]) := by
 have hce := hc.le
 simp only [maxLen] at hce
 refine enterG (F0 := [(0, .agg #[.int .i64 (t), .int .i64 (tm), .int .i64 (b), u])]) Tryz.func17 rfl rfl rfl (.c .n) (Mem.nil _) fun a w hs => ?_
 refine go 4 [0, 0] [7] hs .n (fun g1 => ⟨rfl, ?_⟩); clear hs w a; intro a w hs
 refine st_call hs (.c rfl .n) Tryz.call42 .n (gbody_ok t tm b _ l _ (by omega) (by omega) (by omega) (hs.rd0 hc) hl) rfl ?_; clear hs w a; rintro _ _ a w ⟨v2, rfl, rfl⟩ hs; simp only [List.cons_append, List.nil_append] at hs
 have hk3 := length_bodyB t tm b l
 refine goL 8 [] [11, 5, 4] hs .n ?_; clear hs w a; intro a w hs
 refine ifG hs rfl (fun c_4 => ?_) (fun c_4 => ?_)
 ·
  replace c_4 := not_t c_4
  replace c_4 := ne_of_beq_f c_4
  refine go 3 [] [3, 2] hs .n ?_; clear hs w a; intro a w hs
  have hwe : gwErr t tm b l = bodyErr t tm b l := by unfold gwErr; (repeat' split) <;> omega
  replace hs := hs.drop (.c (.s .z) (.c .z .n))
  replace hs := hs.addNil 5 1
  replace hs := hs.rerow .z (m' := (gwB t tm b l).length) (xs' := bytesV (gwB t tm b l)) (by rw [gwB, if_pos (by omega)]; rfl) (by rw [gwB, if_pos (by omega)]; rfl)
  exact fin2 hs rfl rfl rfl ⟨_, congrArg (fun z : Nat => Value.tuple #[.slice none 0 0, .int .i64 (z : Int)]) hwe.symm, rfl⟩
 replace c_4 := not_f c_4
 replace c_4 := eq_of_beq c_4
 refine go 1 [] [16, 4] hs .n ?_; clear hs w a; intro a w hs
 refine st_len hs rfl (rd_row (hs.mem.del .z)).isSl Tryz.underlying37 rfl ?_; clear hs w a; intro a w hs
 refine goL 2 [] [15, 4] hs .n ?_; clear hs w a; intro a w hs
 refine ifG hs rfl (fun c_5 => ?_) (fun c_5 => ?_)
 ·
  replace c_5 := of_decide_eq_true c_5
  refine go 2 [] [3, 2] hs .n ?_; clear hs w a; intro a w hs
  have hwe : gwErr t tm b l = 8 := by unfold gwErr; (repeat' split) <;> omega
  replace hs := hs.drop (.c (.s .z) (.c .z .n))
  replace hs := hs.addNil 5 1
  replace hs := hs.rerow .z (m' := (gwB t tm b l).length) (xs' := bytesV (gwB t tm b l)) (by rw [gwB, if_pos (by omega)]; rfl) (by rw [gwB, if_pos (by omega)]; rfl)
  exact fin2 hs rfl rfl rfl ⟨_, congrArg (fun z : Nat => Value.tuple #[.slice none 0 0, .int .i64 (z : Int)]) hwe.symm, rfl⟩
 replace c_5 := of_decide_eq_false c_5
 refine go 1 [] [19] hs .n ?_; clear hs w a; intro a w hs
 refine st_call hs (.c rfl .n) Tryz.call43 .n (seal_ok _ _ (bodyB t tm b l) _ (rd_row (hs.mem.del .z)) (by omega)) rfl ?_; clear hs w a; rintro v6 _ a w rfl hs; simp only [List.cons_append, List.nil_append] at hs
 refine goL 2 [] [3, 2] hs .n ?_; clear hs w a; intro a w hs
 have hwe : gwErr t tm b l = 0 := by unfold gwErr; (repeat' split) <;> omega
 replace hs := hs.drop (.c (.s (.s .z)) (.c (.s .z) .n))
 replace hs := hs.rerow .z (m' := (gwB t tm b l).length) (xs' := bytesV (gwB t tm b l)) (by rw [gwB, if_neg (by omega), length_seal]) (by rw [gwB, if_neg (by omega)])
 exact fin2 hs rfl rfl rfl ⟨_, congrArg (fun z : Nat => Value.tuple #[v6, .int .i64 (z : Int)]) hwe.symm, rfl⟩
theorem gcheck_ok (t tm b : Int) (u : Value) (l : List RecR) (w0 : World) (ht_ : -9223372036854775808 ≤ t ∧ t ≤ 9223372036854775807) (htm_ : -9223372036854775808 ≤ tm ∧ tm ≤ 9223372036854775807) (hb_ : -9223372036854775808 ≤ b ∧ b ≤ 9223372036854775807) (hc : Rd w0 [] u 9 l.length (l.flatMap recV)) (hl : ∀ x ∈ l, x.wf) : Calls Tryz.prog 36 #[.agg #[.int .i64 t, .int .i64 tm, .int .i64 b, u]] w0 (RetV w0 (.int .i64 ((bodyErr t tm b l : Nat) : Int))) := by
 have hce := hc.le
 simp only [maxLen] at hce
 refine enterG (F0 := [(0, .agg #[.int .i64 (t), .int .i64 (tm), .int .i64 (b), u])]) Tryz.func36 rfl rfl rfl (.c .n) (Mem.nil _) fun a w hs => ?_
 refine go 3 [0, 0] [6] hs .n (fun g1 => ⟨rfl, ?_⟩); clear hs w a; intro a w hs
 refine st_call hs (.c rfl .n) Tryz.call42 .n (gbody_ok t tm b _ l _ (by omega) (by omega) (by omega) (hs.rd0 hc) hl) rfl ?_; clear hs w a; rintro _ _ a w ⟨v2, rfl, rfl⟩ hs; simp only [List.cons_append, List.nil_append] at hs
 have hk3 := length_bodyB t tm b l
 refine goL 7 [] [2] hs .n ?_; clear hs w a; intro a w hs
 replace hs := hs.drop (.c (.s .z) (.c .z .n))
 exact fin hs rfl rfl ⟨rfl, rfl⟩
end Go.Proofs.YtbioemaipghagaaGreat
