/- Walks of CrcTurns: what each function does, over the program of this seat. Printed by a program of this session. -/
import Derived.Test.YtmhkekdhijnnbaaWcrc
namespace Go.Proofs.Ytmhkekdhijnnbaa
open Go Go.Sx Go.RowKit
set_option linter.unusedVariables false
set_option linter.unusedSimpArgs false
set_option maxRecDepth 4000

theorem crcTurns_ok (v : Value) (m : Nat) (bs : List Byte) (w0 : World) (hb : Rd w0 [] v 1 m (bytesV bs)) (hm : m ≤ 140737488351232) (at_ : Int) : Calls Try.prog 7 #[v, .int .i64 at_] w0 (RetV w0 (.bool true)) := by
  have hbl : bs.length = m := by have := hb.len; simpa [bytesV] using this
  have hbe : m ≤ maxLen := hb.le
  simp only [maxLen] at hbe
  have hls := length_seal bs
  refine enter (F0 := [(0, v), (1, .int .i64 (at_))]) Try.func7 rfl rfl rfl (.c (.c .n)) (Mem.nil _) fun a w hs => ?_
  refine wp_seq_k fun K1 hK2 => ?_
  refine wp_region_lit ?_
  refine st_as hs rfl rfl ?_; clear hs w a; intro a w hs
  refine wpList_nil ?_
  refine then_n (hK2 _ _ ?_)
  refine wp_seq_k fun K3 hK4 => ?_
  refine wp_region_lit ?_
  refine st_mv hs rfl rfl ?_; clear hs w a; intro a w hs
  refine st_call hs (.c rfl .n) Try.call23 .n (seal_ok _ _ bs _ (hs.rd0 hb) (by omega)) rfl ?_; clear hs w a; rintro v5 _ a w rfl hs; simp only [List.cons_append, List.nil_append] at hs
  refine st_as hs rfl rfl ?_; clear hs w a; intro a w hs
  refine wpList_nil ?_
  refine then_n (hK4 _ _ ?_)
  refine wp_seq_k fun K6 hK7 => ?_
  refine wp_seq_k fun K8 hK9 => ?_
  refine wp_region_lit ?_
  refine st_mv hs rfl rfl ?_; clear hs w a; intro a w hs
  refine st_len hs rfl (hs.rd0 hb).isSl Try.underlying22 rfl ?_; clear hs w a; intro a w hs
  refine st_gtr hs rfl rfl rfl ?_; clear hs w a; intro a w hs
  refine st_mv hs rfl rfl ?_; clear hs w a; intro a w hs
  refine st_part (b := decide (3000 < (m : Int))) (fun hc10 => ?_) (fun hc10 => ?_)
  · rw [hc10] at hs
    replace hc10 := of_decide_eq_true hc10
    refine st_guardF hs rfl rfl rfl rfl rfl ?_; clear hs w a; intro a w hs
    refine st_guardF hs rfl rfl rfl rfl rfl ?_; clear hs w a; intro a w hs
    refine st_guardF hs rfl rfl rfl rfl rfl ?_; clear hs w a; intro a w hs
    refine st_guardF hs rfl rfl rfl rfl rfl ?_; clear hs w a; intro a w hs
    refine st_guardF hs rfl rfl rfl rfl rfl ?_; clear hs w a; intro a w hs
    refine st_guardF hs rfl rfl rfl rfl rfl ?_; clear hs w a; intro a w hs
    refine st_pickT hs rfl rfl rfl ?_; clear hs w a; intro a w hs
    refine wpList_nil ?_
    refine then_n (hK9 _ _ ?_)
    refine wp_cond_true (hs.ev rfl) ?_
    refine wp_seq_k fun K11 hK12 => ?_
    refine wp_region_lit ?_
    refine st_mv hs rfl rfl ?_; clear hs w a; intro a w hs
    refine st_len hs rfl (hs.rd0 hb).isSl Try.underlying22 rfl ?_; clear hs w a; intro a w hs
    refine st_gtr hs rfl rfl rfl ?_; clear hs w a; intro a w hs
    have hb_ : (decide (3000 < (m : Int))) = true := decide_eq_true (by omega)
    rw [hb_] at hs; clear hb_
    refine st_mv hs rfl rfl ?_; clear hs w a; intro a w hs
    refine st_guardT hs rfl rfl rfl ?_
    refine st_callP (v := .bool (true)) hs .n Try.call19 (alive06_ok _) rfl ?_; clear hs w a; intro a w hs
    refine st_pickT hs rfl rfl rfl ?_; clear hs w a; intro a w hs
    refine st_as hs rfl rfl ?_; clear hs w a; intro a w hs
    refine wpList_nil ?_
    refine then_n (hK12 _ _ ?_)
    refine wp_ret ?_
    refine th_r ?_
    replace hs := hs.drop (.c .z .n)
    exact fin hs rfl rfl ⟨rfl, rfl⟩
  · rw [hc10] at hs
    replace hc10 := of_decide_eq_false hc10
    refine st_guardT hs rfl rfl rfl ?_
    refine st_mv hs rfl rfl ?_; clear hs w a; intro a w hs
    refine st_guardT hs rfl rfl rfl ?_
    refine st_len hs rfl (rd_row (hs.mem.del .z)).isSl Try.underlying22 rfl ?_; clear hs w a; intro a w hs
    refine st_guardT hs rfl rfl rfl ?_
    refine st_mv hs rfl rfl ?_; clear hs w a; intro a w hs
    refine st_guardT hs rfl rfl rfl ?_
    refine st_len hs rfl (hs.rd0 hb).isSl Try.underlying22 rfl ?_; clear hs w a; intro a w hs
    refine st_guardT hs rfl rfl rfl ?_
    refine st_addR hs rfl rfl (by omega) rfl ?_; clear hs w a; intro a w hs
    refine st_guardT hs rfl rfl rfl ?_
    refine st_neq hs rfl rfl rfl ?_; clear hs w a; intro a w hs
    have hb_ : (!((((m + 4 : Nat) : Int) : Int) == ((m : Int) + 4))) = false := by simp
    rw [hb_] at hs; clear hb_
    refine st_pickF hs rfl rfl rfl ?_; clear hs w a; intro a w hs
    refine wpList_nil ?_
    refine then_n (hK9 _ _ ?_)
    refine wp_cond_false (hs.ev rfl) ?_
    refine wp_skip ?_
    refine then_n (hK7 _ _ ?_)
    refine wp_seq_k fun K13 hK14 => ?_
    refine wp_region_lit ?_
    refine st_mv hs rfl rfl ?_; clear hs w a; intro a w hs
    refine st_call hs (.c rfl .n) Try.call25 .n (open_some _ _ (seal_ bs) _ (rd_row (hs.mem.del .z)) _ (by omega) (open_seal bs)) rfl ?_; clear hs w a; rintro _ _ a w ⟨v15, rfl, rfl⟩ hs; simp only [List.cons_append, List.nil_append] at hs
    refine st_mv hs rfl rfl ?_; clear hs w a; intro a w hs
    refine st_ex hs rfl .z rfl ?_; clear hs w a; intro a w hs
    refine st_ex hs rfl (.s .z) rfl ?_; clear hs w a; intro a w hs
    refine st_as hs rfl rfl ?_; clear hs w a; intro a w hs
    refine st_as hs rfl rfl ?_; clear hs w a; intro a w hs
    refine wpList_nil ?_
    refine then_n (hK14 _ _ ?_)
    refine wp_seq_k fun K16 hK17 => ?_
    refine wp_region_lit ?_
    refine st_mv hs rfl rfl ?_; clear hs w a; intro a w hs
    refine st_cv_u64 hs rfl Try.underlying3 Try.underlying28 rfl ?_; clear hs w a; intro a w hs
    refine st_mv hs rfl rfl ?_; clear hs w a; intro a w hs
    refine st_len hs rfl (rd_row (hs.mem.del (.s .z))).isSl Try.underlying22 rfl ?_; clear hs w a; intro a w hs
    refine st_mulR hs rfl rfl (by omega) rfl ?_; clear hs w a; intro a w hs
    have hv_ : (8 * (((m + 4 : Nat) : Int)) : Int) = (((8 * (m + 4) : Nat) : Int) : Int) := by omega
    rw [hv_] at hs; clear hv_
    refine st_cv_u64 hs rfl Try.underlying3 Try.underlying28 rfl ?_; clear hs w a; intro a w hs
    refine st_rem_u64 (X := BitVec.ofInt 64 at_) (Y := BitVec.ofInt 64 (((8 * (m + 4) : Nat) : Int))) hs rfl rfl rfl rfl (ofInt_ne _ (by omega) (by omega)) rfl ?_; clear hs w a; intro a w hs
    refine st_cv_u64_i64 (X := (BitVec.ofInt 64 at_) % (BitVec.ofInt 64 (((8 * (m + 4) : Nat) : Int)))) hs rfl rfl Try.underlying28 Try.underlying3 rfl ?_; clear hs w a; intro a w hs
    obtain ⟨kk, hkb, hkk⟩ := idx_mod (BitVec.ofInt 64 at_) (8 * (m + 4)) (by omega) (by omega)
    rw [hkk] at hs; clear hkk
    refine st_as hs rfl rfl ?_; clear hs w a; intro a w hs
    refine wpList_nil ?_
    refine then_n (hK17 _ _ ?_)
    refine wp_seq_k fun K18 hK19 => ?_
    refine wp_region_lit ?_
    refine st_bs0 hs Try.underlying22 rfl ?_ ⟨_, Try.sizeOf5⟩; clear hs w a; intro g20 a w hs
    refine st_mv hs rfl rfl ?_; clear hs w a; intro a w hs
    replace hs := hs.toRow (size := 1) (m := 0) .z rfl (by decide)
    refine st_app (size := 1) (bytes := 1) hs rfl rfl .z (rd_row (hs.mem.del (.s (.s .z)))) (oneCell_bytesV _) Try.underlying22 (i := Try.t5) rfl rfl rfl rfl rfl (by decide) (by omega) (by simp only [maxLen]; omega) rfl ?_; clear hs w a; intro v21 a w hs
    refine st_as hs rfl rfl ?_; clear hs w a; intro a w hs
    replace hs := hs.rerow .z (m' := m + 4) (xs' := bytesV (seal_ bs)) (by omega) (by rw [List.nil_append])
    refine wpList_nil ?_
    refine then_n (hK19 _ _ ?_)
    refine wp_seq_k fun K22 hK23 => ?_
    replace hs := hs.sub (F' := [(9, v21), (46, v21), (45, v5), (44, .slice (some ⟨g20, 0, none⟩) 0 0), (8, .int .i64 ((kk : Int))), (43, .int .i64 ((kk : Int))), (42, .int .u64 (((((BitVec.ofInt 64 at_) % (BitVec.ofInt 64 (((8 * (m + 4) : Nat) : Int)))).toNat : Nat) : Int))), (41, .int .u64 ((((BitVec.ofInt 64 (((8 * (m + 4) : Nat) : Int))).toNat : Nat) : Int))), (40, .int .i64 (((8 * (m + 4) : Nat) : Int))), (39, .int .i64 (((m + 4 : Nat) : Int))), (38, v5), (37, .int .u64 ((((BitVec.ofInt 64 at_).toNat : Nat) : Int))), (36, .int .i64 (at_)), (7, .bool (true)), (6, v15), (35, .bool (true)), (34, v15), (31, .tuple #[v15, .bool (true)]), (33, .tuple #[v15, .bool (true)]), (32, v5), (24, .bool (false)), (23, .bool (false)), (22, .int .i64 ((m : Int) + 4)), (21, .int .i64 ((m : Int))), (20, v), (19, .int .i64 (((m + 4 : Nat) : Int))), (18, v5), (17, .bool (false)), (16, .bool (false)), (15, .int .i64 ((m : Int))), (14, v), (5, v5), (13, v5), (12, v), (4, .bool (false)), (0, v), (1, .int .i64 (at_))]) (.c rfl (.c rfl (.c rfl (.c rfl (.c rfl (.c rfl (.c rfl (.c rfl (.c rfl (.c rfl (.c rfl (.c rfl (.c rfl (.c rfl (.c rfl (.c rfl (.c rfl (.c rfl (.c rfl (.c rfl (.c rfl (.c rfl (.c rfl (.c rfl (.c rfl (.c rfl (.c rfl (.c rfl (.c rfl (.c rfl (.c rfl (.c rfl (.c rfl (.c rfl (.c rfl (.c rfl (.c rfl .n)))))))))))))))))))))))))))))))))))))
    refine wp_drawT (l0 := [_, _, _, _, _, _, _, _, _, _]) (Ps := [eqv (v21), eqv (.int .i64 ((kk : Int))), eqv (.int .i64 (((kk / 8 : Nat) : Int))), eqv (.pointer (some (adr v21 (kk / 8)))), eqv (.int .u8 (((((seal_ bs).getD (kk / 8) 0).toNat : Nat) : Int))), eqv (.int .i64 ((kk : Int))), eqv (.int .i64 (((kk % 8 : Nat) : Int))), eqv (.int .u8 (((((1#8) <<< (kk % 8)).toNat : Nat) : Int))), eqv (.int .u8 ((((((seal_ bs).getD (kk / 8) 0) ^^^ ((1#8) <<< (kk % 8))).toNat : Nat) : Int))), eqv (.pointer (some (adr v21 (kk / 8))))]) (by kernel_rfl) hs (by kernel_rfl) (by kernel_rfl) (by kernel_rfl) ?_ ?_
    · refine (.c ?_ (.c ?_ (.c ?_ (.c ?_ (.c ?_ (.c ?_ (.c ?_ (.c ?_ (.c ?_ (.c ?_ .n))))))))))
      · intro a_ w_ R hm hs hp
        have hs0 := hs
        refine st_mv hs rfl rfl ?_; clear hs; intro a w hs
        exact wpList_nil ⟨rfl, _, _, _, _, rfl, hs0, .r, hs, rfl⟩
      · intro a_ w_ R hm hs hp
        have hs0 := hs
        refine st_mv hs rfl rfl ?_; clear hs; intro a w hs
        exact wpList_nil ⟨rfl, _, _, _, _, rfl, hs0, .r, hs, rfl⟩
      · intro a_ w_ R hm hs hp
        obtain ⟨v48, h48, p48⟩ := (hp 1 ⟨⟨1, .data⟩, mem_arr (.head _), rfl, rfl⟩).get rfl rfl
        rw [show v48 = .int .i64 ((kk : Int)) from p48] at h48; clear p48
        replace hs := hs.learn h48
        have hs0 := hs
        refine st_quoN hs rfl rfl (by omega) rfl ?_; clear hs; intro a w hs
        have hv_ : ((kk : Int) / 8 : Int) = (((kk / 8 : Nat) : Int) : Int) := by omega
        rw [hv_] at hs; clear hv_
        exact wpList_nil ⟨rfl, _, _, _, _, rfl, hs0, (.c .r), hs, rfl⟩
      · intro a_ w_ R hm hs hp
        obtain ⟨v47, h47, p47⟩ := (hp 0 ⟨⟨0, .data⟩, mem_arr (.head _), rfl, rfl⟩).get rfl rfl
        rw [show v47 = v21 from p47] at h47; clear p47
        replace hs := hs.learn h47
        obtain ⟨v49, h49, p49⟩ := (hp 2 ⟨⟨2, .data⟩, mem_arr (.tail _ (.head _)), rfl, rfl⟩).get rfl rfl
        rw [show v49 = .int .i64 (((kk / 8 : Nat) : Int)) from p49] at h49; clear p49
        replace hs := hs.learn h49
        have hs0 := hs
        refine st_ia1 (j := (kk / 8)) hs rfl rfl (rd_row (hm.del .z)) rfl (by omega) Try.underlying22 Try.sizeOf5 rfl ?_; clear hs; intro a w hs
        exact wpList_nil ⟨rfl, _, _, _, _, rfl, hs0, (.c (.c .r)), hs, rfl⟩
      · intro a_ w_ R hm hs hp
        obtain ⟨v50, h50, p50⟩ := (hp 3 ⟨⟨3, .data⟩, mem_arr (.head _), rfl, rfl⟩).get rfl rfl
        rw [show v50 = .pointer (some (adr v21 (kk / 8))) from p50] at h50; clear p50
        replace hs := hs.learn h50
        have hs0 := hs
        refine st_ld hs rfl (rd_row (hm.del .z)) (bytesV_getD (seal_ bs) (by first | omega | (simp; omega))) Try.isAgg5 rfl ?_; clear hs; intro a w hs
        exact wpList_nil ⟨rfl, _, _, _, _, rfl, hs0, (.c .r), hs, rfl⟩
      · intro a_ w_ R hm hs hp
        have hs0 := hs
        refine st_mv hs rfl rfl ?_; clear hs; intro a w hs
        exact wpList_nil ⟨rfl, _, _, _, _, rfl, hs0, .r, hs, rfl⟩
      · intro a_ w_ R hm hs hp
        obtain ⟨v52, h52, p52⟩ := (hp 5 ⟨⟨5, .data⟩, mem_arr (.head _), rfl, rfl⟩).get rfl rfl
        rw [show v52 = .int .i64 ((kk : Int)) from p52] at h52; clear p52
        replace hs := hs.learn h52
        have hs0 := hs
        refine st_remN hs rfl rfl (by omega) rfl ?_; clear hs; intro a w hs
        have hv_ : ((kk : Int) % 8 : Int) = (((kk % 8 : Nat) : Int) : Int) := by omega
        rw [hv_] at hs; clear hv_
        exact wpList_nil ⟨rfl, _, _, _, _, rfl, hs0, (.c .r), hs, rfl⟩
      · intro a_ w_ R hm hs hp
        obtain ⟨v53, h53, p53⟩ := (hp 6 ⟨⟨6, .data⟩, mem_arr (.head _), rfl, rfl⟩).get rfl rfl
        rw [show v53 = .int .i64 (((kk % 8 : Nat) : Int)) from p53] at h53; clear p53
        replace hs := hs.learn h53
        have hs0 := hs
        refine st_shl_u8 (X := 1#8) (m := (kk % 8)) hs rfl (by decide) rfl rfl rfl ?_; clear hs; intro a w hs
        exact wpList_nil ⟨rfl, _, _, _, _, rfl, hs0, (.c .r), hs, rfl⟩
      · intro a_ w_ R hm hs hp
        obtain ⟨v51, h51, p51⟩ := (hp 4 ⟨⟨4, .data⟩, mem_arr (.head _), rfl, rfl⟩).get rfl rfl
        rw [show v51 = .int .u8 (((((seal_ bs).getD (kk / 8) 0).toNat : Nat) : Int)) from p51] at h51; clear p51
        replace hs := hs.learn h51
        obtain ⟨v54, h54, p54⟩ := (hp 7 ⟨⟨7, .data⟩, mem_arr (.tail _ (.head _)), rfl, rfl⟩).get rfl rfl
        rw [show v54 = .int .u8 (((((1#8) <<< (kk % 8)).toNat : Nat) : Int)) from p54] at h54; clear p54
        replace hs := hs.learn h54
        have hs0 := hs
        refine st_xor_u8 (X := (seal_ bs).getD (kk / 8) 0) (Y := (1#8) <<< (kk % 8)) hs rfl rfl rfl rfl rfl ?_; clear hs; intro a w hs
        exact wpList_nil ⟨rfl, _, _, _, _, rfl, hs0, (.c (.c .r)), hs, rfl⟩
      · intro a_ w_ R hm hs hp
        obtain ⟨v47, h47, p47⟩ := (hp 0 ⟨⟨0, .data⟩, mem_arr (.head _), rfl, rfl⟩).get rfl rfl
        rw [show v47 = v21 from p47] at h47; clear p47
        replace hs := hs.learn h47
        obtain ⟨v49, h49, p49⟩ := (hp 2 ⟨⟨2, .data⟩, mem_arr (.tail _ (.head _)), rfl, rfl⟩).get rfl rfl
        rw [show v49 = .int .i64 (((kk / 8 : Nat) : Int)) from p49] at h49; clear p49
        replace hs := hs.learn h49
        have hs0 := hs
        refine st_ia1 (j := (kk / 8)) hs rfl rfl (rd_row (hm.del .z)) rfl (by omega) Try.underlying22 Try.sizeOf5 rfl ?_; clear hs; intro a w hs
        exact wpList_nil ⟨rfl, _, _, _, _, rfl, hs0, (.c (.c .r)), hs, rfl⟩
    · clear hs w a; intro a w hs hf
      obtain ⟨v47, h47, p47⟩ := (hf 0 (by decide)).get rfl rfl
      rw [show v47 = v21 from p47] at h47; clear p47
      replace hs := hs.learn h47; clear h47
      obtain ⟨v48, h48, p48⟩ := (hf 1 (by decide)).get rfl rfl
      rw [show v48 = .int .i64 ((kk : Int)) from p48] at h48; clear p48
      replace hs := hs.learn h48; clear h48
      obtain ⟨v49, h49, p49⟩ := (hf 2 (by decide)).get rfl rfl
      rw [show v49 = .int .i64 (((kk / 8 : Nat) : Int)) from p49] at h49; clear p49
      replace hs := hs.learn h49; clear h49
      obtain ⟨v50, h50, p50⟩ := (hf 3 (by decide)).get rfl rfl
      rw [show v50 = .pointer (some (adr v21 (kk / 8))) from p50] at h50; clear p50
      replace hs := hs.learn h50; clear h50
      obtain ⟨v51, h51, p51⟩ := (hf 4 (by decide)).get rfl rfl
      rw [show v51 = .int .u8 (((((seal_ bs).getD (kk / 8) 0).toNat : Nat) : Int)) from p51] at h51; clear p51
      replace hs := hs.learn h51; clear h51
      obtain ⟨v52, h52, p52⟩ := (hf 5 (by decide)).get rfl rfl
      rw [show v52 = .int .i64 ((kk : Int)) from p52] at h52; clear p52
      replace hs := hs.learn h52; clear h52
      obtain ⟨v53, h53, p53⟩ := (hf 6 (by decide)).get rfl rfl
      rw [show v53 = .int .i64 (((kk % 8 : Nat) : Int)) from p53] at h53; clear p53
      replace hs := hs.learn h53; clear h53
      obtain ⟨v54, h54, p54⟩ := (hf 7 (by decide)).get rfl rfl
      rw [show v54 = .int .u8 (((((1#8) <<< (kk % 8)).toNat : Nat) : Int)) from p54] at h54; clear p54
      replace hs := hs.learn h54; clear h54
      obtain ⟨v55, h55, p55⟩ := (hf 8 (by decide)).get rfl rfl
      rw [show v55 = .int .u8 ((((((seal_ bs).getD (kk / 8) 0) ^^^ ((1#8) <<< (kk % 8))).toNat : Nat) : Int)) from p55] at h55; clear p55
      replace hs := hs.learn h55; clear h55
      obtain ⟨v56, h56, p56⟩ := (hf 9 (by decide)).get rfl rfl
      rw [show v56 = .pointer (some (adr v21 (kk / 8))) from p56] at h56; clear p56
      replace hs := hs.learn h56; clear h56
      clear hf
      refine st_stR hs rfl rfl .z (by omega) rfl Try.sizeOf5 ?_; clear hs w a; intro a w hs
      replace hs := hs.rerow .z (m' := m + 4) (xs' := bytesV ((seal_ bs).set (kk / 8) (((seal_ bs).getD (kk / 8) 0) ^^^ ((1#8) <<< (kk % 8))))) (rfl) ((bytesV_set _ _ _).symm)
      refine wpList_nil ?_
      refine then_n (hK23 _ _ ?_)
      refine wp_seq_k fun K24 hK25 => ?_
      refine wp_region_lit ?_
      refine st_mv hs rfl rfl ?_; clear hs w a; intro a w hs
      refine st_callP hs (.c rfl .n) Try.call25 (open_none _ _ (((seal_ bs).set (kk / 8) (((seal_ bs).getD (kk / 8) 0) ^^^ ((1#8) <<< (kk % 8))))) _ (rd_row (hs.mem.del .z)) (by omega) (open_turned bs (kk / 8) _ (by rw [length_seal]; omega) (bit_ne _ (by omega)))) rfl ?_; clear hs w a; intro a w hs
      refine st_mv hs rfl rfl ?_; clear hs w a; intro a w hs
      refine st_ex hs rfl .z rfl ?_; clear hs w a; intro a w hs
      refine st_ex hs rfl (.s .z) rfl ?_; clear hs w a; intro a w hs
      refine st_as hs rfl rfl ?_; clear hs w a; intro a w hs
      refine st_as hs rfl rfl ?_; clear hs w a; intro a w hs
      refine wpList_nil ?_
      refine then_n (hK25 _ _ ?_)
      refine wp_seq_k fun K26 hK27 => ?_
      refine wp_region_lit ?_
      refine st_callP (v := .bool (true)) hs .n Try.call19 (alive06_ok _) rfl ?_; clear hs w a; intro a w hs
      refine st_mv hs rfl rfl ?_; clear hs w a; intro a w hs
      refine st_guardT hs rfl rfl rfl ?_
      refine st_mv hs rfl rfl ?_; clear hs w a; intro a w hs
      refine st_pickT hs rfl rfl rfl ?_; clear hs w a; intro a w hs
      refine st_mv hs rfl rfl ?_; clear hs w a; intro a w hs
      refine st_guardT hs rfl rfl rfl ?_
      refine st_mv hs rfl rfl ?_; clear hs w a; intro a w hs
      refine st_guardT hs rfl rfl rfl ?_
      refine st_str (bs := bs) hs rfl (rd_row (hs.mem.del (.s .z))) Try.underlying22 Try.underlying5 Try.underlying9 rfl ?_; clear hs w a; intro a w hs
      refine st_guardT hs rfl rfl rfl ?_
      refine st_mv hs rfl rfl ?_; clear hs w a; intro a w hs
      refine st_guardT hs rfl rfl rfl ?_
      refine st_str (bs := bs) hs rfl (hs.rd0 hb) Try.underlying22 Try.underlying5 Try.underlying9 rfl ?_; clear hs w a; intro a w hs
      refine st_guardT hs rfl rfl rfl ?_
      refine st_eqs hs rfl rfl rfl ?_; clear hs w a; intro a w hs
      have hb_ : ((strB bs).toList == (strB bs).toList) = true := beq_self_eq_true _
      rw [hb_] at hs; clear hb_
      refine st_pickT hs rfl rfl rfl ?_; clear hs w a; intro a w hs
      refine st_mv hs rfl rfl ?_; clear hs w a; intro a w hs
      refine st_guardT hs rfl rfl rfl ?_
      refine st_mv hs rfl rfl ?_; clear hs w a; intro a w hs
      refine st_guardT hs rfl rfl rfl ?_
      refine st_not hs rfl rfl ?_; clear hs w a; intro a w hs
      have hb_ : (!(false)) = true := rfl
      rw [hb_] at hs; clear hb_
      refine st_pickT hs rfl rfl rfl ?_; clear hs w a; intro a w hs
      refine st_mv hs rfl rfl ?_; clear hs w a; intro a w hs
      refine st_guardT hs rfl rfl rfl ?_
      refine st_mv hs rfl rfl ?_; clear hs w a; intro a w hs
      refine st_guardT hs rfl rfl rfl ?_
      refine st_len hs rfl (rd_nilB w []).isSl Try.underlying22 rfl ?_; clear hs w a; intro a w hs
      refine st_guardT hs rfl rfl rfl ?_
      refine st_eql hs rfl rfl rfl ?_; clear hs w a; intro a w hs
      have hb_ : ((((0 : Nat) : Int) : Int) == 0) = true := by decide
      rw [hb_] at hs; clear hb_
      refine st_pickT hs rfl rfl rfl ?_; clear hs w a; intro a w hs
      refine st_as hs rfl rfl ?_; clear hs w a; intro a w hs
      refine wpList_nil ?_
      refine then_n (hK27 _ _ ?_)
      refine wp_ret ?_
      replace hs := hs.drop (.c (.s (.s .z)) (.c (.s .z) (.c .z .n)))
      exact fin hs rfl rfl ⟨rfl, rfl⟩
end Go.Proofs.Ytmhkekdhijnnbaa
