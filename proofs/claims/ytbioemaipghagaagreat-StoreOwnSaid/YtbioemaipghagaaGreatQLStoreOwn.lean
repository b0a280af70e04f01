/- Walks of StoreOwn: what each function does, over the program of this seat. Printed by a program of this session. -/
import Derived.Test.YtbioemaipghagaaGreatQWstoA
import Derived.Test.YtbioemaipghagaaGreatQWdelm
import Derived.Test.YtbioemaipghagaaGreatQWdel2
import Derived.Test.YtbioemaipghagaaGreatQSxPtell
import Derived.Test.YtbioemaipghagaaGreatQSxBasB
namespace Go.Proofs.YtbioemaipghagaaGreat
open Go Go.Sx Go.RowKit
set_option linter.unusedVariables false
set_option linter.unusedSimpArgs false
set_option maxRecDepth 4000
set_option maxHeartbeats 1000000

theorem storeOwn_ok (t tm : Int) (u : Value) (l : List EntR) (by_ : BitVec 16) (w0 : World) (ht : R64 t) (hm : R64 tm) (hc : Rd w0 [] u 9 l.length (l.flatMap entV)) (hw : ∀ x ∈ l, x.wf) : Calls Tryz.prog 9 #[.agg #[.int .i64 (t), .int .i64 (tm), u], .int .u16 ((by_.toNat : Nat) : Int)] w0 (RetV w0 (.bool true)) := by
  have hce := hc.le
  simp only [maxLen] at hce
  refine enterG (F0 := [(0, .agg #[.int .i64 (t), .int .i64 (tm), u]), (1, .int .u16 ((((by_).toNat : Nat) : Int)))]) Tryz.func9 rfl rfl rfl (.c (.c .n)) (Mem.nil _) fun a w hs => ?_
  refine go 3 [0, 0] [22, 2, 1] hs .n (fun g1 => ⟨rfl, ?_⟩); clear hs w a; intro a w hs
  refine st_call hs (.c rfl .n) Tryz.call20 .n (full_ok t tm _ l _ (by omega) (by omega) (hs.rd0 hc) hw) rfl ?_; clear hs w a; rintro _ _ a w ⟨v2, rfl, rfl⟩ hs; simp only [List.cons_append, List.nil_append] at hs
  have hk3 := fG_rng (bt := t) (btm := tm) (b := l)
  refine goL 4 [] [5, 25, 24, 2, 1] hs .n (fun g4 => ?_); clear hs w a; intro a w hs
  refine st_stBA hs rfl rfl .z (.z (.c (.c (.c (.c .n))))) (ones_c rfl (ones_c rfl (ones_c rfl (ones_c (rd_row (hs.mem.del (.s .z))).isSl.one ones_n)))) Tryz.sizeOf29 rfl ?_; clear hs w a; intro a w hs
  refine goL 2 [0] [27, 6, 2, 1] hs (.c .z .n) ⟨rfl, ?_⟩; clear hs w a; intro a w hs
  refine st_call hs (.c rfl .n) Tryz.call17 .n (gwrite_ok ((fG t tm l).t) ((fG t tm l).tm) ((fG t tm l).b) _ ((fG t tm l).l) _ (by omega) (by omega) (by omega) (rd_row (hs.mem.del (.s .z))) (fG_wf hw)) rfl ?_; clear hs w a; rintro _ _ a w ⟨v5, rfl, rfl⟩ hs; simp only [List.cons_append, List.nil_append] at hs
  have hk6 := length_gwB ((fG t tm l).t) ((fG t tm l).tm) ((fG t tm l).b) ((fG t tm l).l)
  refine goL 5 [] [8, 7, 6, 2, 1] hs .n ?_; clear hs w a; intro a w hs
  refine st_call hs (.c rfl .n) Tryz.call21 .n (new_st 2 _ ⟨by decide, by decide⟩) rfl ?_; clear hs w a; rintro _ _ a w ⟨g7, X8, rfl, rfl, hX9⟩ hs; simp only [List.cons_append, List.nil_append] at hs
  refine goL 8 [] [37, 10, 9, 8, 7, 2, 1] hs .n ?_; clear hs w a; intro a w hs
  refine st_part (b := !((((fErr t tm l : Nat) : Int) : Int) == 0)) (fun c_10 => ?_) (fun c_10 => ?_)
  ·
   rw [c_10] at hs
   replace c_10 := not_t c_10
   replace c_10 := ne_of_beq_f c_10
   refine go 21 [] [] hs .n ?_; clear hs w a; intro a w hs
   refine st_callP (v := .bool (true)) hs .n Tryz.call23 (alive12_ok _) rfl ?_; clear hs w a; intro a w hs
   refine goL 1 [] [4] hs .n ?_; clear hs w a; intro a w hs
   replace hs := hs.drop (.c (.s (.s (.s (.s .z)))) (.c (.s (.s (.s .z))) (.c (.s (.s .z)) (.c (.s .z) (.c .z .n)))))
   exact fin hs rfl rfl ⟨rfl, rfl⟩
  rw [c_10] at hs
  replace c_10 := not_f c_10
  replace c_10 := eq_of_beq c_10
  refine go 4 [] [41, 10, 9, 7, 2, 1] hs .n ?_; clear hs w a; intro a w hs
  refine st_part (b := !((((gwErr ((fG t tm l).t) ((fG t tm l).tm) ((fG t tm l).b) ((fG t tm l).l) : Nat) : Int) : Int) == 0)) (fun c_11 => ?_) (fun c_11 => ?_)
  ·
   rw [c_11] at hs
   replace c_11 := not_t c_11
   replace c_11 := ne_of_beq_f c_11
   refine go 17 [] [] hs .n ?_; clear hs w a; intro a w hs
   refine st_callP (v := .bool (true)) hs .n Tryz.call23 (alive12_ok _) rfl ?_; clear hs w a; intro a w hs
   refine goL 1 [] [4] hs .n ?_; clear hs w a; intro a w hs
   replace hs := hs.drop (.c (.s (.s (.s (.s .z)))) (.c (.s (.s (.s .z))) (.c (.s (.s .z)) (.c (.s .z) (.c .z .n)))))
   exact fin hs rfl rfl ⟨rfl, rfl⟩
  rw [c_11] at hs
  replace c_11 := not_f c_11
  replace c_11 := eq_of_beq c_11
  refine st_guardT hs rfl rfl rfl ?_
  refine st_callP (v := .bool (true)) hs .n Tryz.call23 (alive12_ok _) rfl ?_; clear hs w a; intro a w hs
  refine goL 12 [] [54, 53, 9, 7, 2, 1] hs .n ?_; clear hs w a; intro a w hs
  refine st_guardT hs rfl rfl rfl ?_
  refine st_len hs rfl (rd_row (hs.mem.del (.s .z))).isSl Tryz.underlying37 rfl ?_; clear hs w a; intro a w hs
  refine goL 1 [] [56, 53, 9, 7, 2, 1] hs .n ?_; clear hs w a; intro a w hs
  have hb_ : (((((gwB ((fG t tm l).t) ((fG t tm l).tm) ((fG t tm l).b) ((fG t tm l).l)).length : Nat) : Int) : Int) == 0) = false := by have := gw_long (by omega : gwErr (fG t tm l).t (fG t tm l).tm (fG t tm l).b (fG t tm l).l = 0); rw [beq_eq_false_iff_ne]; omega
  rw [hb_] at hs; clear hb_
  refine go 4 [] [61, 60, 9, 7, 2, 1] hs .n ?_; clear hs w a; intro a w hs
  refine st_call hs (.c rfl (.c rfl .n)) Tryz.call27 (.c .z .n) (accept_st hX9 (fun i => Nat.le_trans ((fun _ => Nat.le_refl 0) i) (by decide)) _ (hs.mem.del .z) (hs.mem.rdrow (.s .z) (.c .z .n))) rfl ?_; clear hs w a; rintro _ _ a w ⟨rfl, X12, rfl, hX13⟩ hs; simp only [List.cons_append, List.nil_append] at hs
  have T := (Tells.start (most := 2) ⟨by decide, by decide⟩).full (x := ⟨t, tm, l⟩) (fun y hy => by cases hy) (by omega : fErr t tm l = 0) hw (by omega : gwErr (fG t tm l).t (fG t tm l).tm (fG t tm l).b (fG t tm l).l = 0)
  dsimp only at T
  have hg := one_get (t := t) (show (accS 2 stt0 (gRead (gwB (fG t tm l).t (fG t tm l).tm (fG t tm l).b (fG t tm l).l))).l = [⟨t, tm, l⟩] by rw [T.2.2.l]; rfl) rfl
  refine goL 7 [] [66, 11, 9, 7, 2, 1] hs .n ?_; clear hs w a; intro a w hs
  have hb_ : (!((((accE stt0.l 2 stt0.floor stt0.gone (gRead ((gwB ((fG t tm l).t) ((fG t tm l).tm) ((fG t tm l).b) ((fG t tm l).l)))) : Nat) : Int) : Int) == 0)) = false := by rw [T.1]; rfl
  rw [hb_] at hs; clear hb_
  refine go 5 [0] [71, 67, 9, 7, 2, 1] hs (.c (.s (.s (.s (.s .z)))) .n) ⟨rfl, ?_⟩; clear hs w a; intro a w hs
  have hb_ : (!((accT stt0.l 2 stt0.floor stt0.gone (gRead ((gwB ((fG t tm l).t) ((fG t tm l).tm) ((fG t tm l).b) ((fG t tm l).l)))) : Int) == t)) = false := by rw [T.2.1]; exact congrArg (!·) (beq_self_eq_true _)
  rw [hb_] at hs; clear hb_
  refine go 3 [] [73, 9, 7, 2, 1] hs .n ?_; clear hs w a; intro a w hs
  refine st_len hs rfl (rd_row (hs.mem.del (.s (.s .z)))).isSl Tryz.underlying37 rfl ?_; clear hs w a; intro a w hs
  refine goL 1 [] [75, 74, 9, 7, 2, 1] hs .n ?_; clear hs w a; intro a w hs
  replace hs := hs.drop (.c (.s (.s (.s (.s .z)))) .n)
  replace hs := hs.reorder (.c .z (.c .z (.c (.s .z) (.c .z .n))))
  refine loopG (fun mm_ a w => ∃ j : Nat, ∃ cs : List Byte, mm_ = (gwB (fG t tm l).t (fG t tm l).tm (fG t tm l).b (fG t tm l).l).length - j ∧ St 148 [(1, .int .u16 ((((by_).toNat : Nat) : Int))), (2, .pointer (some ⟨g1, 0, none⟩)), (7, v5), (9, .pointer (some ⟨g7, 0, none⟩)), (74, .int .i64 ((((gwB ((fG t tm l).t) ((fG t tm l).tm) ((fG t tm l).b) ((fG t tm l).l)).length : Nat) : Int))), (75, .int .i64 (((j : Nat) : Int)))] w0 [] [blk g1 [.int .i64 (t), .int .i64 (tm), u] 24, X12, blk g4 [.int .i64 ((fG t tm l).t), .int .i64 ((fG t tm l).tm), .int .i64 ((fG t tm l).b), v2] 29, row v5 5 1 ((gwB (fG t tm l).t (fG t tm l).tm (fG t tm l).b (fG t tm l).l).length) (bytesV cs)] a w ∧ j ≤ (gwB (fG t tm l).t (fG t tm l).tm (fG t tm l).b (fG t tm l).l).length ∧ cs.length = (gwB (fG t tm l).t (fG t tm l).tm (fG t tm l).b (fG t tm l).l).length) ⟨0, (gwB (fG t tm l).t (fG t tm l).tm (fG t tm l).b (fG t tm l).l), rfl, hs.sub (.c rfl (.c rfl (.c rfl (.c rfl (.c rfl (.c rfl .n)))))), by omega, rfl⟩ ?_
  clear hs w a; rintro mm_ a w ⟨j, cs, rfl, hs, hI1_0, hI1_1⟩
  refine go 1 [] [76, 1, 2, 7, 9, 74, 75] hs .n ?_; clear hs w a; intro a w hs
  refine ifG hs rfl (fun c_14 => ?_) (fun c_14 => ?_)
  ·
   replace c_14 := of_decide_eq_true c_14
   refine go 4 [] [79, 78, 1, 2, 7, 9, 74, 75] hs .n ?_; clear hs w a; intro a w hs
   refine st_ia1 (j := j) hs rfl rfl (rd_row (hs.mem.del (.s (.s (.s .z))))) rfl (by omega) Tryz.underlying37 Tryz.sizeOf5 rfl ?_; clear hs w a; intro a w hs
   refine st_ld hs rfl (rd_row (hs.mem.del (.s (.s (.s .z))))) (bytesV_getD cs (by first | omega | (simp; omega))) Tryz.isAgg5 rfl ?_; clear hs w a; intro a w hs
   refine st_xor_u8 (X := cs.getD j 0) (Y := 255#8) hs rfl rfl rfl (by decide) rfl ?_; clear hs w a; intro a w hs
   refine st_ia1 (j := j) hs rfl rfl (rd_row (hs.mem.del (.s (.s (.s .z))))) rfl (by omega) Tryz.underlying37 Tryz.sizeOf5 rfl ?_; clear hs w a; intro a w hs
   refine st_stR hs rfl rfl (.s (.s (.s .z))) (by omega) rfl Tryz.sizeOf5 ?_; clear hs w a; intro a w hs
   replace hs := hs.rerow .z (m' := (gwB (fG t tm l).t (fG t tm l).tm (fG t tm l).b (fG t tm l).l).length) (xs' := bytesV (cs.set j ((cs.getD j 0) ^^^ (255#8)))) (rfl) ((bytesV_set _ _ _).symm)
   refine goL 2 [] [75, 1, 2, 7, 9, 74] hs .n ⟨(by omega), ?_⟩; clear hs w a; intro a w hs
   replace hs := hs.reorder (.c (.s .z) (.c (.s .z) (.c (.s .z) (.c .z .n))))
   refine ⟨_, ?_, j + 1, ((cs.set j ((cs.getD j 0) ^^^ (255#8)))), rfl, hs.sub (.c rfl (.c rfl (.c rfl (.c rfl (.c rfl (.c rfl .n)))))), by omega, (by rw [List.length_set]; exact hI1_1)⟩
   omega
  replace c_14 := of_decide_eq_false c_14
  refine go 3 [0] [88, 86, 1, 2, 9] hs (.c .z .n) ⟨rfl, ?_⟩; clear hs w a; intro a w hs
  refine st_call hs (.c rfl (.c rfl .n)) Tryz.call33 .n (get_st hX13 t _ (hs.mem.del (.s .z))) rfl ?_; clear hs w a; rintro _ _ a w ⟨v15, rfl, rfl⟩ hs; simp only [List.cons_append, List.nil_append] at hs
  have hk16 := sget_rng (l := ((accS 2 stt0 (gRead ((gwB ((fG t tm l).t) ((fG t tm l).tm) ((fG t tm l).b) ((fG t tm l).l)))))).l) T.2.2.ok t
  replace hs := hs.rerow .z (m' := l.length) (xs' := (l.flatMap entV)) (by rw [hg.1]) (by rw [hg.1])
  refine goL 4 [] [14, 91, 90, 1, 2, 9] hs .n (fun g17 => ?_); clear hs w a; intro a w hs
  refine st_stBA hs rfl rfl .z (.z (.c (.c (.c .n)))) (ones_c rfl (ones_c rfl (ones_c (rd_row (hs.mem.del (.s .z))).isSl.one ones_n))) Tryz.sizeOf24 rfl ?_; clear hs w a; intro a w hs
  refine goL 2 [] [93, 15, 14, 1, 2, 9] hs .n ?_; clear hs w a; intro a w hs
  refine st_call hs (.c rfl (.c rfl .n)) Tryz.call26 .n (at_st hX13 0 _ (hs.mem.del (.s (.s (.s .z))))) rfl ?_; clear hs w a; rintro _ _ a w ⟨v18, rfl, rfl⟩ hs; simp only [List.cons_append, List.nil_append] at hs
  have hk19 := sat_rng (l := ((accS 2 stt0 (gRead ((gwB ((fG t tm l).t) ((fG t tm l).tm) ((fG t tm l).b) ((fG t tm l).l)))))).l) T.2.2.ok 0
  replace hs := hs.rerow .z (m' := l.length) (xs' := (l.flatMap entV)) (by rw [hg.2.2.1]) (by rw [hg.2.2.1])
  refine goL 4 [] [16, 96, 95, 15, 14, 1, 2, 9] hs .n (fun g20 => ?_); clear hs w a; intro a w hs
  refine st_stBA hs rfl rfl .z (.z (.c (.c (.c .n)))) (ones_c rfl (ones_c rfl (ones_c (rd_row (hs.mem.del (.s .z))).isSl.one ones_n))) Tryz.sizeOf24 rfl ?_; clear hs w a; intro a w hs
  refine goL 3 [] [98, 17, 16, 14, 1, 2, 9] hs .n ?_; clear hs w a; intro a w hs
  have hb_ : (!(khas ((accS 2 stt0 (gRead ((gwB ((fG t tm l).t) ((fG t tm l).tm) ((fG t tm l).b) ((fG t tm l).l)))))).l t)) = false := by rw [hg.2.1]; rfl
  rw [hb_] at hs; clear hb_
  refine go 3 [] [101, 99, 16, 14, 1, 2, 9] hs .n ?_; clear hs w a; intro a w hs
  have hb_ : (!((((ratE ((accS 2 stt0 (gRead ((gwB ((fG t tm l).t) ((fG t tm l).tm) ((fG t tm l).b) ((fG t tm l).l)))))).l 0 : Nat) : Int) : Int) == 0)) = false := by rw [hg.2.2.2]; rfl
  rw [hb_] at hs; clear hb_
  refine go 4 [0, 1] [105, 104, 103, 16, 14, 1, 2, 9] hs (.c (.s (.s (.s (.s .z)))) (.c (.s (.s .z)) .n)) ⟨rfl, rfl, ?_⟩; clear hs w a; intro a w hs
  refine st_guardT hs rfl rfl rfl ?_
  refine st_callP (v := .bool (sSame t tm l ((sget ((accS 2 stt0 (gRead ((gwB ((fG t tm l).t) ((fG t tm l).tm) ((fG t tm l).b) ((fG t tm l).l)))))).l t).t) ((sget ((accS 2 stt0 (gRead ((gwB ((fG t tm l).t) ((fG t tm l).tm) ((fG t tm l).b) ((fG t tm l).l)))))).l t).tm) l)) hs (.c rfl (.c rfl .n)) Tryz.call15 (ssame_ok t tm _ l ((sget ((accS 2 stt0 (gRead ((gwB ((fG t tm l).t) ((fG t tm l).tm) ((fG t tm l).b) ((fG t tm l).l)))))).l t).t) ((sget ((accS 2 stt0 (gRead ((gwB ((fG t tm l).t) ((fG t tm l).tm) ((fG t tm l).b) ((fG t tm l).l)))))).l t).tm) _ l _ (hs.rd0 hc) (rd_row (hs.mem.del (.s (.s (.s (.s .z))))))) rfl ?_; clear hs w a; intro a w hs
  refine goL 1 [] [107, 103, 16, 14, 1, 2, 9] hs .n ?_; clear hs w a; intro a w hs
  have hb_ : (!(sSame t tm l ((sget ((accS 2 stt0 (gRead ((gwB ((fG t tm l).t) ((fG t tm l).tm) ((fG t tm l).b) ((fG t tm l).l)))))).l t).t) ((sget ((accS 2 stt0 (gRead ((gwB ((fG t tm l).t) ((fG t tm l).tm) ((fG t tm l).b) ((fG t tm l).l)))))).l t).tm) l)) = false := by rw [hg.1]; exact congrArg (!·) (sSame_refl _ _ _)
  rw [hb_] at hs; clear hb_
  refine go 4 [0, 1] [111, 110, 109, 16, 14, 1, 2, 9] hs (.c .z (.c (.s .z) .n)) ⟨rfl, rfl, ?_⟩; clear hs w a; intro a w hs
  refine st_guardT hs rfl rfl rfl ?_
  refine st_callP (v := .bool (sSame t tm l ((sat ((accS 2 stt0 (gRead ((gwB ((fG t tm l).t) ((fG t tm l).tm) ((fG t tm l).b) ((fG t tm l).l)))))).l 0).t) ((sat ((accS 2 stt0 (gRead ((gwB ((fG t tm l).t) ((fG t tm l).tm) ((fG t tm l).b) ((fG t tm l).l)))))).l 0).tm) l)) hs (.c rfl (.c rfl .n)) Tryz.call15 (ssame_ok t tm _ l ((sat ((accS 2 stt0 (gRead ((gwB ((fG t tm l).t) ((fG t tm l).tm) ((fG t tm l).b) ((fG t tm l).l)))))).l 0).t) ((sat ((accS 2 stt0 (gRead ((gwB ((fG t tm l).t) ((fG t tm l).tm) ((fG t tm l).b) ((fG t tm l).l)))))).l 0).tm) _ l _ (hs.rd0 hc) (rd_row (hs.mem.del (.s (.s (.s .z)))))) rfl ?_; clear hs w a; intro a w hs
  refine goL 1 [] [113, 109, 16, 14, 1, 2, 9] hs .n ?_; clear hs w a; intro a w hs
  have hb_ : (!(sSame t tm l ((sat ((accS 2 stt0 (gRead ((gwB ((fG t tm l).t) ((fG t tm l).tm) ((fG t tm l).b) ((fG t tm l).l)))))).l 0).t) ((sat ((accS 2 stt0 (gRead ((gwB ((fG t tm l).t) ((fG t tm l).tm) ((fG t tm l).b) ((fG t tm l).l)))))).l 0).tm) l)) = false := by rw [hg.2.2.1]; exact congrArg (!·) (sSame_refl _ _ _)
  rw [hb_] at hs; clear hb_
  refine go 4 [0] [116, 16, 14, 1, 2, 9] hs (.c (.s (.s .z)) .n) ⟨rfl, ?_⟩; clear hs w a; intro a w hs
  refine st_len hs rfl (rd_row (hs.mem.del (.s (.s (.s (.s .z)))))).isSl Tryz.underlying22 rfl ?_; clear hs w a; intro a w hs
  refine goL 1 [] [118, 117, 16, 14, 1, 2, 9] hs .n ?_; clear hs w a; intro a w hs
  replace hs := hs.drop (.c (.s (.s (.s (.s (.s (.s (.s .z))))))) .n)
  replace hs := hs.reorder (.c .z (.c .z (.c .z (.c (.s (.s .z)) (.c (.s (.s .z)) (.c (.s .z) (.c .z .n)))))))
  refine loopG (fun mm_ a w => ∃ i : Nat, ∃ la : List EntR, ∃ lc : List EntR, mm_ = l.length - i ∧ St 148 [(1, .int .u16 ((((by_).toNat : Nat) : Int))), (2, .pointer (some ⟨g1, 0, none⟩)), (9, .pointer (some ⟨g7, 0, none⟩)), (14, .pointer (some ⟨g17, 0, none⟩)), (16, .pointer (some ⟨g20, 0, none⟩)), (117, .int .i64 (((l.length : Nat) : Int))), (118, .int .i64 (((i : Nat) : Int)))] w0 [] [blk g17 [.int .i64 ((sget ((accS 2 stt0 (gRead ((gwB ((fG t tm l).t) ((fG t tm l).tm) ((fG t tm l).b) ((fG t tm l).l)))))).l t).t), .int .i64 ((sget ((accS 2 stt0 (gRead ((gwB ((fG t tm l).t) ((fG t tm l).tm) ((fG t tm l).b) ((fG t tm l).l)))))).l t).tm), v15] 24, blk g1 [.int .i64 (t), .int .i64 (tm), u] 24, blk g20 [.int .i64 ((sat ((accS 2 stt0 (gRead ((gwB ((fG t tm l).t) ((fG t tm l).tm) ((fG t tm l).b) ((fG t tm l).l)))))).l 0).t), .int .i64 ((sat ((accS 2 stt0 (gRead ((gwB ((fG t tm l).t) ((fG t tm l).tm) ((fG t tm l).b) ((fG t tm l).l)))))).l 0).tm), v18] 24, X12, blk g4 [.int .i64 ((fG t tm l).t), .int .i64 ((fG t tm l).tm), .int .i64 ((fG t tm l).b), v2] 29, row v15 73 9 l.length (la.flatMap entV), row v18 73 9 l.length (lc.flatMap entV)] a w ∧ i ≤ l.length ∧ la.length = l.length ∧ lc.length = l.length) ⟨0, l, l, rfl, hs.sub (.c rfl (.c rfl (.c rfl (.c rfl (.c rfl (.c rfl (.c rfl .n))))))), by omega, rfl, rfl⟩ ?_
  clear hs w a; rintro mm_ a w ⟨i, la, lc, rfl, hs, hI2_0, hI2_1, hI2_2⟩
  refine go 1 [] [119, 1, 2, 9, 14, 16, 117, 118] hs .n ?_; clear hs w a; intro a w hs
  refine ifG hs rfl (fun c_21 => ?_) (fun c_21 => ?_)
  ·
   replace c_21 := of_decide_eq_true c_21
   refine go 5 [0] [123, 122, 18, 1, 2, 9, 14, 16, 117, 118] hs (.c .z .n) ⟨rfl, ?_⟩; clear hs w a; intro a w hs
   refine st_ia (j := i) hs rfl rfl (rd_row (hs.mem.del (.s (.s (.s (.s (.s .z))))))) rfl (by omega) Tryz.underlying22 Tryz.sizeOf73 rfl ?_; clear hs w a; intro a w hs
   refine st_faV hs rfl (rd_row (hs.mem.del (.s (.s (.s (.s (.s .z))))))) (by omega) Tryz.underlying73 rfl Tryz.sizeOf70 (by decide) (o := i * 9 + 7) rfl rfl ?_; clear hs w a; intro a w hs
   refine st_ld (u := .int .u16 (((((la.getD i default).a).toNat : Nat) : Int))) hs rfl (rd_row (hs.mem.del (.s (.s (.s (.s (.s .z))))))) ((flat_get1 entV_len la i 7 (by omega) (by decide)).trans rfl) Tryz.isAgg70 rfl ?_; clear hs w a; intro a w hs
   refine goL 1 [] [127, 126, 123, 122, 18, 1, 2, 9, 14, 16, 117, 118] hs .n ?_; clear hs w a; intro a w hs
   refine st_or_u16 (X := by_) (Y := 1#16) hs rfl rfl rfl (by decide) rfl ?_; clear hs w a; intro a w hs
   refine st_add_u16 (X := (la.getD i default).a) (Y := by_ ||| (1#16)) hs rfl rfl rfl rfl rfl ?_; clear hs w a; intro a w hs
   refine st_ia (j := i) hs rfl rfl (rd_row (hs.mem.del (.s (.s (.s (.s (.s .z))))))) rfl (by omega) Tryz.underlying22 Tryz.sizeOf73 rfl ?_; clear hs w a; intro a w hs
   refine st_faV hs rfl (rd_row (hs.mem.del (.s (.s (.s (.s (.s .z))))))) (by omega) Tryz.underlying73 rfl Tryz.sizeOf70 (by decide) (o := i * 9 + 7) rfl rfl ?_; clear hs w a; intro a w hs
   refine st_stRn hs rfl rfl (.s (.s (.s (.s (.s .z))))) (by omega) rfl Tryz.sizeOf70 ?_; clear hs w a; intro a w hs
   replace hs := hs.rerow .z (m' := l.length) (xs' := ((la.set i { la.getD i default with a := ((la.getD i default).a) + (by_ ||| (1#16)) }).flatMap entV)) (rfl) (flat_set entV_len _ i 7 _ _ (by omega) (by decide) rfl)
   refine goL 3 [0] [134, 133, 1, 2, 9, 14, 16, 117, 118] hs (.c (.s (.s (.s .z))) .n) ⟨rfl, ?_⟩; clear hs w a; intro a w hs
   refine st_ia (j := i) hs rfl rfl (rd_row (hs.mem.del (.s (.s (.s (.s (.s (.s .z)))))))) rfl (by omega) Tryz.underlying22 Tryz.sizeOf73 rfl ?_; clear hs w a; intro a w hs
   refine st_faV hs rfl (rd_row (hs.mem.del (.s (.s (.s (.s (.s (.s .z)))))))) (by omega) Tryz.underlying73 rfl Tryz.sizeOf3 (by decide) (o := i * 9 + 0) rfl rfl ?_; clear hs w a; intro a w hs
   refine st_stRn hs rfl rfl (.s (.s (.s (.s (.s (.s .z)))))) (by omega) rfl Tryz.sizeOf3 ?_; clear hs w a; intro a w hs
   replace hs := hs.rerow .z (m' := l.length) (xs' := ((lc.set i { lc.getD i default with id := -1 }).flatMap entV)) (rfl) (flat_set entV_len _ i 0 _ _ (by omega) (by decide) rfl)
   refine goL 2 [] [118, 1, 2, 9, 14, 16, 117] hs .n ⟨(by omega), ?_⟩; clear hs w a; intro a w hs
   replace hs := hs.reorder (.c (.s (.s (.s .z))) (.c (.s (.s (.s .z))) (.c (.s .z) (.c (.s (.s .z)) (.c (.s (.s .z)) (.c (.s .z) (.c .z .n)))))))
   refine ⟨_, ?_, i + 1, (la.set i { la.getD i default with a := ((la.getD i default).a) + (by_ ||| (1#16)) }), (lc.set i { lc.getD i default with id := -1 }), rfl, hs.sub (.c rfl (.c rfl (.c rfl (.c rfl (.c rfl (.c rfl (.c rfl .n))))))), by omega, (by rw [List.length_set]; exact hI2_1), (by rw [List.length_set]; exact hI2_2)⟩
   omega
  replace c_21 := of_decide_eq_false c_21
  refine go 3 [0] [141, 139, 2] hs (.c (.s .z) .n) ⟨rfl, ?_⟩; clear hs w a; intro a w hs
  refine st_call hs (.c rfl (.c rfl .n)) Tryz.call33 .n (get_st hX13 t _ (hs.mem.del (.s (.s (.s .z))))) rfl ?_; clear hs w a; rintro _ _ a w ⟨v22, rfl, rfl⟩ hs; simp only [List.cons_append, List.nil_append] at hs
  have hk23 := sget_rng (l := ((accS 2 stt0 (gRead ((gwB ((fG t tm l).t) ((fG t tm l).tm) ((fG t tm l).b) ((fG t tm l).l)))))).l) T.2.2.ok t
  refine goL 4 [] [19, 144, 143, 2] hs .n (fun g24 => ?_); clear hs w a; intro a w hs
  refine st_stBA hs rfl rfl .z (.z (.c (.c (.c .n)))) (ones_c rfl (ones_c rfl (ones_c (rd_row (hs.mem.del (.s .z))).isSl.one ones_n))) Tryz.sizeOf24 rfl ?_; clear hs w a; intro a w hs
  refine goL 3 [0, 1] [146, 145] hs (.c (.s (.s .z)) (.c .z .n)) ⟨rfl, rfl, ?_⟩; clear hs w a; intro a w hs
  refine st_callP (v := .bool (sSame t tm l ((sget ((accS 2 stt0 (gRead ((gwB ((fG t tm l).t) ((fG t tm l).tm) ((fG t tm l).b) ((fG t tm l).l)))))).l t).t) ((sget ((accS 2 stt0 (gRead ((gwB ((fG t tm l).t) ((fG t tm l).tm) ((fG t tm l).b) ((fG t tm l).l)))))).l t).tm) ((sget ((accS 2 stt0 (gRead ((gwB ((fG t tm l).t) ((fG t tm l).tm) ((fG t tm l).b) ((fG t tm l).l)))))).l t).l))) hs (.c rfl (.c rfl .n)) Tryz.call15 (ssame_ok t tm _ l ((sget ((accS 2 stt0 (gRead ((gwB ((fG t tm l).t) ((fG t tm l).tm) ((fG t tm l).b) ((fG t tm l).l)))))).l t).t) ((sget ((accS 2 stt0 (gRead ((gwB ((fG t tm l).t) ((fG t tm l).tm) ((fG t tm l).b) ((fG t tm l).l)))))).l t).tm) _ ((sget ((accS 2 stt0 (gRead ((gwB ((fG t tm l).t) ((fG t tm l).tm) ((fG t tm l).b) ((fG t tm l).l)))))).l t).l) _ (hs.rd0 hc) (rd_row (hs.mem.del (.s (.s .z))))) rfl ?_; clear hs w a; intro a w hs
  have hb_ : (sSame t tm l ((sget ((accS 2 stt0 (gRead ((gwB ((fG t tm l).t) ((fG t tm l).tm) ((fG t tm l).b) ((fG t tm l).l)))))).l t).t) ((sget ((accS 2 stt0 (gRead ((gwB ((fG t tm l).t) ((fG t tm l).tm) ((fG t tm l).b) ((fG t tm l).l)))))).l t).tm) ((sget ((accS 2 stt0 (gRead ((gwB ((fG t tm l).t) ((fG t tm l).tm) ((fG t tm l).b) ((fG t tm l).l)))))).l t).l)) = true := by rw [hg.1]; exact sSame_refl _ _ _
  rw [hb_] at hs; clear hb_
  refine goL 1 [] [4] hs .n ?_; clear hs w a; intro a w hs
  replace hs := hs.drop (.c (.s (.s (.s (.s (.s (.s (.s (.s .z)))))))) (.c (.s (.s (.s (.s (.s (.s (.s .z))))))) (.c (.s (.s (.s (.s (.s (.s .z)))))) (.c (.s (.s (.s (.s (.s .z))))) (.c (.s (.s (.s (.s .z)))) (.c (.s (.s (.s .z))) (.c (.s (.s .z)) (.c (.s .z) (.c .z .n)))))))))
  exact fin hs rfl rfl ⟨rfl, rfl⟩
end Go.Proofs.YtbioemaipghagaaGreat
