/- Walks of CrcUnlike: what each function does, over the program of this seat. Printed by a program of this session. -/
import Derived.Test.YtmhkekdhijnnbaaWcrc
namespace Go.Proofs.Ytmhkekdhijnnbaa
open Go Go.Sx Go.RowKit
set_option linter.unusedVariables false
set_option linter.unusedSimpArgs false
set_option maxRecDepth 4000

theorem crcUnlike_ok (v : Value) (m : Nat) (bs : List Byte) (w0 : World) (hb : Rd w0 [] v 1 m (bytesV bs)) (at_ : Int) (x : BitVec 32) : Calls Try.prog 4 #[v, .int .i64 at_, .int .u32 (x.toNat : Int)] w0 (RetV w0 (.bool true)) := by
  have hbl : bs.length = m := by have := hb.len; simpa [bytesV] using this
  have hbe : m ≤ maxLen := hb.le
  simp only [maxLen] at hbe
  refine enter (F0 := [(0, v), (1, .int .i64 (at_)), (2, .int .u32 ((((x).toNat : Nat) : Int)))]) Try.func4 rfl rfl rfl (.c (.c (.c .n))) (Mem.nil _) fun a w hs => ?_
  refine wp_seq_k fun K1 hK2 => ?_
  refine wp_region_lit ?_
  refine st_as hs rfl rfl ?_; clear hs w a; intro a w hs
  refine wpList_nil ?_
  refine then_n (hK2 _ _ ?_)
  refine wp_seq_k fun K3 hK4 => ?_
  refine wp_seq_k fun K5 hK6 => ?_
  refine wp_region_lit ?_
  refine st_mv hs rfl rfl ?_; clear hs w a; intro a w hs
  refine st_len hs rfl (hs.rd0 hb).isSl Try.underlying22 rfl ?_; clear hs w a; intro a w hs
  refine st_lss hs rfl rfl rfl ?_; clear hs w a; intro a w hs
  refine st_mv hs rfl rfl ?_; clear hs w a; intro a w hs
  refine st_part (b := decide ((m : Int) < 4)) (fun hc7 => ?_) (fun hc7 => ?_)
  · rw [hc7] at hs
    replace hc7 := of_decide_eq_true hc7
    refine st_guardF hs rfl rfl rfl rfl rfl ?_; clear hs w a; intro a w hs
    refine st_guardF hs rfl rfl rfl rfl rfl ?_; clear hs w a; intro a w hs
    refine st_guardF hs rfl rfl rfl rfl rfl ?_; clear hs w a; intro a w hs
    refine st_pickT hs rfl rfl rfl ?_; clear hs w a; intro a w hs
    refine st_mv hs rfl rfl ?_; clear hs w a; intro a w hs
    refine st_guardF hs rfl rfl rfl rfl rfl ?_; clear hs w a; intro a w hs
    refine st_guardF hs rfl rfl rfl rfl rfl ?_; clear hs w a; intro a w hs
    refine st_pickT hs rfl rfl rfl ?_; clear hs w a; intro a w hs
    refine wpList_nil ?_
    refine then_n (hK6 _ _ ?_)
    refine wp_cond_true (hs.ev rfl) ?_
    refine wp_seq_k fun K8 hK9 => ?_
    refine wp_region_lit ?_
    refine st_callP (v := .bool (true)) hs .n Try.call19 (alive06_ok _) rfl ?_; clear hs w a; intro a w hs
    refine st_as hs rfl rfl ?_; clear hs w a; intro a w hs
    refine wpList_nil ?_
    refine then_n (hK9 _ _ ?_)
    refine wp_ret ?_
    refine th_r ?_
    exact fin hs rfl rfl ⟨rfl, rfl⟩
  · rw [hc7] at hs
    replace hc7 := of_decide_eq_false hc7
    refine st_guardT hs rfl rfl rfl ?_
    refine st_mv hs rfl rfl ?_; clear hs w a; intro a w hs
    refine st_guardT hs rfl rfl rfl ?_
    refine st_len hs rfl (hs.rd0 hb).isSl Try.underlying22 rfl ?_; clear hs w a; intro a w hs
    refine st_guardT hs rfl rfl rfl ?_
    refine st_gtr hs rfl rfl rfl ?_; clear hs w a; intro a w hs
    refine st_pickF hs rfl rfl rfl ?_; clear hs w a; intro a w hs
    refine st_mv hs rfl rfl ?_; clear hs w a; intro a w hs
    refine st_part (b := decide (2000 < (m : Int))) (fun hc10 => ?_) (fun hc10 => ?_)
    · rw [hc10] at hs
      replace hc10 := of_decide_eq_true hc10
      refine st_guardF hs rfl rfl rfl rfl rfl ?_; clear hs w a; intro a w hs
      refine st_guardF hs rfl rfl rfl rfl rfl ?_; clear hs w a; intro a w hs
      refine st_pickT hs rfl rfl rfl ?_; clear hs w a; intro a w hs
      refine wpList_nil ?_
      refine then_n (hK6 _ _ ?_)
      refine wp_cond_true (hs.ev rfl) ?_
      refine wp_seq_k fun K11 hK12 => ?_
      refine wp_region_lit ?_
      refine st_callP (v := .bool (true)) hs .n Try.call19 (alive06_ok _) rfl ?_; clear hs w a; intro a w hs
      refine st_as hs rfl rfl ?_; clear hs w a; intro a w hs
      refine wpList_nil ?_
      refine then_n (hK12 _ _ ?_)
      refine wp_ret ?_
      refine th_r ?_
      exact fin hs rfl rfl ⟨rfl, rfl⟩
    · rw [hc10] at hs
      replace hc10 := of_decide_eq_false hc10
      refine st_guardT hs rfl rfl rfl ?_
      refine st_mv hs rfl rfl ?_; clear hs w a; intro a w hs
      refine st_guardT hs rfl rfl rfl ?_
      refine st_eql hs rfl rfl rfl ?_; clear hs w a; intro a w hs
      refine st_pickF hs rfl rfl rfl ?_; clear hs w a; intro a w hs
      refine wpList_nil ?_
      refine then_n (hK6 _ _ ?_)
      refine wp_if hs rfl (fun hc13 => ?_) (fun hc13 => ?_)
      ·
        replace hc13 := eq_of_beq hc13
        refine wp_seq_k fun K14 hK15 => ?_
        refine wp_region_lit ?_
        refine st_callP (v := .bool (true)) hs .n Try.call19 (alive06_ok _) rfl ?_; clear hs w a; intro a w hs
        refine st_as hs rfl rfl ?_; clear hs w a; intro a w hs
        refine wpList_nil ?_
        refine then_n (hK15 _ _ ?_)
        refine wp_ret ?_
        refine th_r ?_
        exact fin hs rfl rfl ⟨rfl, rfl⟩
      ·
        replace hc13 := ne_of_beq_f hc13
        have hx0 : x ≠ 0#32 := fun e => absurd (show ((x.toNat : Nat) : Int) = 0 by rw [e]; rfl) (by assumption)
        refine wp_skip ?_
        refine then_n (hK4 _ _ ?_)
        refine wp_seq_k fun K16 hK17 => ?_
        refine wp_region_lit ?_
        refine st_mv hs rfl rfl ?_; clear hs w a; intro a w hs
        refine st_cv_u64 hs rfl Try.underlying3 Try.underlying28 rfl ?_; clear hs w a; intro a w hs
        refine st_mv hs rfl rfl ?_; clear hs w a; intro a w hs
        refine st_len hs rfl (hs.rd0 hb).isSl Try.underlying22 rfl ?_; clear hs w a; intro a w hs
        refine st_subR hs rfl rfl (by omega) rfl ?_; clear hs w a; intro a w hs
        have hv_ : ((m : Int) - 3 : Int) = (((m - 3 : Nat) : Int) : Int) := by omega
        rw [hv_] at hs; clear hv_
        refine st_cv_u64 hs rfl Try.underlying3 Try.underlying28 rfl ?_; clear hs w a; intro a w hs
        refine st_rem_u64 (X := BitVec.ofInt 64 at_) (Y := BitVec.ofInt 64 (((m - 3 : Nat) : Int))) hs rfl rfl rfl rfl (ofInt_ne _ (by omega) (by omega)) rfl ?_; clear hs w a; intro a w hs
        refine st_cv_u64_i64 (X := (BitVec.ofInt 64 at_) % (BitVec.ofInt 64 (((m - 3 : Nat) : Int)))) hs rfl rfl Try.underlying28 Try.underlying3 rfl ?_; clear hs w a; intro a w hs
        obtain ⟨kk, hkb, hkk⟩ := idx_mod (BitVec.ofInt 64 at_) (m - 3) (by omega) (by omega)
        rw [hkk] at hs; clear hkk
        refine st_as hs rfl rfl ?_; clear hs w a; intro a w hs
        refine wpList_nil ?_
        refine then_n (hK17 _ _ ?_)
        refine wp_seq_k fun K18 hK19 => ?_
        refine wp_region_lit ?_
        refine st_bs0 hs Try.underlying22 rfl ?_ ⟨_, Try.sizeOf5⟩; clear hs w a; intro g20 a w hs
        refine st_mv hs rfl rfl ?_; clear hs w a; intro a w hs
        replace hs := hs.toRow (size := 1) (m := 0) .z rfl (by decide)
        refine st_app (size := 1) (bytes := 1) hs rfl rfl .z (hs.rd0 hb) (oneCell_bytesV _) Try.underlying22 (i := Try.t5) rfl rfl rfl rfl rfl (by decide) (by omega) (by simp only [maxLen]; omega) rfl ?_; clear hs w a; intro v21 a w hs
        refine st_as hs rfl rfl ?_; clear hs w a; intro a w hs
        replace hs := hs.rerow .z (m' := m) (xs' := bytesV bs) (by omega) (by rw [List.nil_append])
        refine wpList_nil ?_
        refine then_n (hK19 _ _ ?_)
        refine wp_seq_k fun K22 hK23 => ?_
        refine wp_seq_k fun K24 hK25 => ?_
        refine wp_region_lit ?_
        refine st_mv hs rfl rfl ?_; clear hs w a; intro a w hs
        refine wpList_nil ?_
        refine then_n (hK25 _ _ ?_)
        refine wp_block ?_
        refine wp_loopI (fun mm_ a w => ∃ k : Nat, mm_ = 4 - k ∧ St 70 [(0, v), (2, .int .u32 ((((x).toNat : Nat) : Int))), (7, .int .i64 ((kk : Int))), (8, v21), (34, .int .i64 ((k : Int)))] w0 [] [row v21 5 1 m (bytesV (updK bs kk x k))] a w ∧ k ≤ 4) ⟨0, rfl, hs.sub (.c rfl (.c rfl (.c rfl (.c rfl (.c rfl .n))))), by omega⟩ ?_
        clear hs w a; rintro mm_ a w ⟨k, rfl, hs, hI1_0⟩
        have hlu := length_updK bs kk x k
        refine wp_seq_k fun K26 hK27 => ?_
        refine wp_region_lit ?_
        refine st_lss hs rfl rfl rfl ?_; clear hs w a; intro a w hs
        refine wpList_nil ?_
        refine then_n (hK27 _ _ ?_)
        refine wp_seq_k fun K28 hK29 => ?_
        refine wp_if hs rfl (fun hc30 => ?_) (fun hc30 => ?_)
        ·
          replace hc30 := of_decide_eq_true hc30
          refine wp_skip ?_
          refine then_n (hK29 _ _ ?_)
          refine wp_seq_k fun K31 hK32 => ?_
          refine wp_block ?_
          refine wp_seq_k fun K33 hK34 => ?_
          refine wp_region_lit ?_
          refine st_mv hs rfl rfl ?_; clear hs w a; intro a w hs
          refine st_as hs rfl rfl ?_; clear hs w a; intro a w hs
          refine wpList_nil ?_
          refine then_n (hK34 _ _ ?_)
          replace hs := hs.sub (F' := [(9, .int .i64 ((k : Int))), (36, .int .i64 ((k : Int))), (35, .bool (decide ((k : Int) < 4))), (0, v), (2, .int .u32 ((((x).toNat : Nat) : Int))), (7, .int .i64 ((kk : Int))), (8, v21), (34, .int .i64 ((k : Int)))]) (.c rfl (.c rfl (.c rfl (.c rfl (.c rfl (.c rfl (.c rfl (.c rfl .n))))))))
          refine wp_drawT (l0 := [_, _, _, _, _, _, _, _, _, _, _, _, _]) (Ps := [eqv (v21), eqv (.int .i64 ((kk : Int))), eqv (.int .i64 ((k : Int))), eqv (.int .i64 (((kk + k : Nat) : Int))), eqv (.pointer (some (adr v21 (kk + k)))), eqv (.int .u8 (((((updK bs kk x k).getD (kk + k) 0).toNat : Nat) : Int))), eqv (.int .u32 ((((x).toNat : Nat) : Int))), eqv (.int .i64 ((k : Int))), eqv (.int .i64 (((8 * k : Nat) : Int))), eqv (.int .u32 ((((x >>> (8 * k)).toNat : Nat) : Int))), eqv (.int .u8 (((((x >>> (8 * k)).setWidth 8).toNat : Nat) : Int))), eqv (.int .u8 ((((((updK bs kk x k).getD (kk + k) 0) ^^^ ((x >>> (8 * k)).setWidth 8)).toNat : Nat) : Int))), eqv (.pointer (some (adr v21 (kk + k))))]) (by kernel_rfl) hs (by kernel_rfl) (by kernel_rfl) (by kernel_rfl) ?_ ?_
          · refine (.c ?_ (.c ?_ (.c ?_ (.c ?_ (.c ?_ (.c ?_ (.c ?_ (.c ?_ (.c ?_ (.c ?_ (.c ?_ (.c ?_ (.c ?_ .n)))))))))))))
            · intro a_ w_ R hm hs hp
              have hs0 := hs
              refine st_mv hs rfl rfl ?_; clear hs; intro a w hs
              exact wpList_nil ⟨rfl, _, _, _, _, rfl, hs0, .r, hs, rfl⟩
            · intro a_ w_ R hm hs hp
              have hs0 := hs
              refine st_mv hs rfl rfl ?_; clear hs; intro a w hs
              exact wpList_nil ⟨rfl, _, _, _, _, rfl, hs0, .r, hs, rfl⟩
            · intro a_ w_ R hm hs hp
              have hs0 := hs
              refine st_mv hs rfl rfl ?_; clear hs; intro a w hs
              exact wpList_nil ⟨rfl, _, _, _, _, rfl, hs0, .r, hs, rfl⟩
            · intro a_ w_ R hm hs hp
              obtain ⟨v38, h38, p38⟩ := (hp 1 ⟨⟨1, .data⟩, mem_arr (.head _), rfl, rfl⟩).get rfl rfl
              rw [show v38 = .int .i64 ((kk : Int)) from p38] at h38; clear p38
              replace hs := hs.learn h38
              obtain ⟨v39, h39, p39⟩ := (hp 2 ⟨⟨2, .data⟩, mem_arr (.tail _ (.head _)), rfl, rfl⟩).get rfl rfl
              rw [show v39 = .int .i64 ((k : Int)) from p39] at h39; clear p39
              replace hs := hs.learn h39
              have hs0 := hs
              refine st_addR hs rfl rfl (by omega) rfl ?_; clear hs; intro a w hs
              have hv_ : ((kk : Int) + (k : Int) : Int) = (((kk + k : Nat) : Int) : Int) := by omega
              rw [hv_] at hs; clear hv_
              exact wpList_nil ⟨rfl, _, _, _, _, rfl, hs0, (.c (.c .r)), hs, rfl⟩
            · intro a_ w_ R hm hs hp
              obtain ⟨v37, h37, p37⟩ := (hp 0 ⟨⟨0, .data⟩, mem_arr (.head _), rfl, rfl⟩).get rfl rfl
              rw [show v37 = v21 from p37] at h37; clear p37
              replace hs := hs.learn h37
              obtain ⟨v40, h40, p40⟩ := (hp 3 ⟨⟨3, .data⟩, mem_arr (.tail _ (.head _)), rfl, rfl⟩).get rfl rfl
              rw [show v40 = .int .i64 (((kk + k : Nat) : Int)) from p40] at h40; clear p40
              replace hs := hs.learn h40
              have hs0 := hs
              refine st_ia1 (j := (kk + k)) hs rfl rfl (rd_row (hm.del .z)) rfl (by omega) Try.underlying22 Try.sizeOf5 rfl ?_; clear hs; intro a w hs
              exact wpList_nil ⟨rfl, _, _, _, _, rfl, hs0, (.c (.c .r)), hs, rfl⟩
            · intro a_ w_ R hm hs hp
              obtain ⟨v41, h41, p41⟩ := (hp 4 ⟨⟨4, .data⟩, mem_arr (.head _), rfl, rfl⟩).get rfl rfl
              rw [show v41 = .pointer (some (adr v21 (kk + k))) from p41] at h41; clear p41
              replace hs := hs.learn h41
              have hs0 := hs
              refine st_ld hs rfl (rd_row (hm.del .z)) (bytesV_getD (updK bs kk x k) (by first | omega | (simp; omega))) Try.isAgg5 rfl ?_; clear hs; intro a w hs
              exact wpList_nil ⟨rfl, _, _, _, _, rfl, hs0, (.c .r), hs, rfl⟩
            · intro a_ w_ R hm hs hp
              have hs0 := hs
              refine st_mv hs rfl rfl ?_; clear hs; intro a w hs
              exact wpList_nil ⟨rfl, _, _, _, _, rfl, hs0, .r, hs, rfl⟩
            · intro a_ w_ R hm hs hp
              have hs0 := hs
              refine st_mv hs rfl rfl ?_; clear hs; intro a w hs
              exact wpList_nil ⟨rfl, _, _, _, _, rfl, hs0, .r, hs, rfl⟩
            · intro a_ w_ R hm hs hp
              obtain ⟨v44, h44, p44⟩ := (hp 7 ⟨⟨7, .data⟩, mem_arr (.head _), rfl, rfl⟩).get rfl rfl
              rw [show v44 = .int .i64 ((k : Int)) from p44] at h44; clear p44
              replace hs := hs.learn h44
              have hs0 := hs
              refine st_mulR hs rfl rfl (by omega) rfl ?_; clear hs; intro a w hs
              have hv_ : (8 * (k : Int) : Int) = (((8 * k : Nat) : Int) : Int) := by omega
              rw [hv_] at hs; clear hv_
              exact wpList_nil ⟨rfl, _, _, _, _, rfl, hs0, (.c .r), hs, rfl⟩
            · intro a_ w_ R hm hs hp
              obtain ⟨v43, h43, p43⟩ := (hp 6 ⟨⟨6, .data⟩, mem_arr (.head _), rfl, rfl⟩).get rfl rfl
              rw [show v43 = .int .u32 ((((x).toNat : Nat) : Int)) from p43] at h43; clear p43
              replace hs := hs.learn h43
              obtain ⟨v45, h45, p45⟩ := (hp 8 ⟨⟨8, .data⟩, mem_arr (.tail _ (.head _)), rfl, rfl⟩).get rfl rfl
              rw [show v45 = .int .i64 (((8 * k : Nat) : Int)) from p45] at h45; clear p45
              replace hs := hs.learn h45
              have hs0 := hs
              refine st_shr_u32 (X := x) (m := (8 * k)) hs rfl rfl rfl rfl rfl ?_; clear hs; intro a w hs
              exact wpList_nil ⟨rfl, _, _, _, _, rfl, hs0, (.c (.c .r)), hs, rfl⟩
            · intro a_ w_ R hm hs hp
              obtain ⟨v46, h46, p46⟩ := (hp 9 ⟨⟨9, .data⟩, mem_arr (.head _), rfl, rfl⟩).get rfl rfl
              rw [show v46 = .int .u32 ((((x >>> (8 * k)).toNat : Nat) : Int)) from p46] at h46; clear p46
              replace hs := hs.learn h46
              have hs0 := hs
              refine st_cv_u32_u8 (X := x >>> (8 * k)) hs rfl rfl Try.underlying24 Try.underlying5 rfl ?_; clear hs; intro a w hs
              exact wpList_nil ⟨rfl, _, _, _, _, rfl, hs0, (.c .r), hs, rfl⟩
            · intro a_ w_ R hm hs hp
              obtain ⟨v42, h42, p42⟩ := (hp 5 ⟨⟨5, .data⟩, mem_arr (.head _), rfl, rfl⟩).get rfl rfl
              rw [show v42 = .int .u8 (((((updK bs kk x k).getD (kk + k) 0).toNat : Nat) : Int)) from p42] at h42; clear p42
              replace hs := hs.learn h42
              obtain ⟨v47, h47, p47⟩ := (hp 10 ⟨⟨10, .data⟩, mem_arr (.tail _ (.head _)), rfl, rfl⟩).get rfl rfl
              rw [show v47 = .int .u8 (((((x >>> (8 * k)).setWidth 8).toNat : Nat) : Int)) from p47] at h47; clear p47
              replace hs := hs.learn h47
              have hs0 := hs
              refine st_xor_u8 (X := (updK bs kk x k).getD (kk + k) 0) (Y := (x >>> (8 * k)).setWidth 8) hs rfl rfl rfl rfl rfl ?_; clear hs; intro a w hs
              exact wpList_nil ⟨rfl, _, _, _, _, rfl, hs0, (.c (.c .r)), hs, rfl⟩
            · intro a_ w_ R hm hs hp
              obtain ⟨v37, h37, p37⟩ := (hp 0 ⟨⟨0, .data⟩, mem_arr (.head _), rfl, rfl⟩).get rfl rfl
              rw [show v37 = v21 from p37] at h37; clear p37
              replace hs := hs.learn h37
              obtain ⟨v40, h40, p40⟩ := (hp 3 ⟨⟨3, .data⟩, mem_arr (.tail _ (.head _)), rfl, rfl⟩).get rfl rfl
              rw [show v40 = .int .i64 (((kk + k : Nat) : Int)) from p40] at h40; clear p40
              replace hs := hs.learn h40
              have hs0 := hs
              refine st_ia1 (j := (kk + k)) hs rfl rfl (rd_row (hm.del .z)) rfl (by omega) Try.underlying22 Try.sizeOf5 rfl ?_; clear hs; intro a w hs
              exact wpList_nil ⟨rfl, _, _, _, _, rfl, hs0, (.c (.c .r)), hs, rfl⟩
          · clear hs w a; intro a w hs hf
            obtain ⟨v37, h37, p37⟩ := (hf 0 (by decide)).get rfl rfl
            rw [show v37 = v21 from p37] at h37; clear p37
            replace hs := hs.learn h37; clear h37
            obtain ⟨v38, h38, p38⟩ := (hf 1 (by decide)).get rfl rfl
            rw [show v38 = .int .i64 ((kk : Int)) from p38] at h38; clear p38
            replace hs := hs.learn h38; clear h38
            obtain ⟨v39, h39, p39⟩ := (hf 2 (by decide)).get rfl rfl
            rw [show v39 = .int .i64 ((k : Int)) from p39] at h39; clear p39
            replace hs := hs.learn h39; clear h39
            obtain ⟨v40, h40, p40⟩ := (hf 3 (by decide)).get rfl rfl
            rw [show v40 = .int .i64 (((kk + k : Nat) : Int)) from p40] at h40; clear p40
            replace hs := hs.learn h40; clear h40
            obtain ⟨v41, h41, p41⟩ := (hf 4 (by decide)).get rfl rfl
            rw [show v41 = .pointer (some (adr v21 (kk + k))) from p41] at h41; clear p41
            replace hs := hs.learn h41; clear h41
            obtain ⟨v42, h42, p42⟩ := (hf 5 (by decide)).get rfl rfl
            rw [show v42 = .int .u8 (((((updK bs kk x k).getD (kk + k) 0).toNat : Nat) : Int)) from p42] at h42; clear p42
            replace hs := hs.learn h42; clear h42
            obtain ⟨v43, h43, p43⟩ := (hf 6 (by decide)).get rfl rfl
            rw [show v43 = .int .u32 ((((x).toNat : Nat) : Int)) from p43] at h43; clear p43
            replace hs := hs.learn h43; clear h43
            obtain ⟨v44, h44, p44⟩ := (hf 7 (by decide)).get rfl rfl
            rw [show v44 = .int .i64 ((k : Int)) from p44] at h44; clear p44
            replace hs := hs.learn h44; clear h44
            obtain ⟨v45, h45, p45⟩ := (hf 8 (by decide)).get rfl rfl
            rw [show v45 = .int .i64 (((8 * k : Nat) : Int)) from p45] at h45; clear p45
            replace hs := hs.learn h45; clear h45
            obtain ⟨v46, h46, p46⟩ := (hf 9 (by decide)).get rfl rfl
            rw [show v46 = .int .u32 ((((x >>> (8 * k)).toNat : Nat) : Int)) from p46] at h46; clear p46
            replace hs := hs.learn h46; clear h46
            obtain ⟨v47, h47, p47⟩ := (hf 10 (by decide)).get rfl rfl
            rw [show v47 = .int .u8 (((((x >>> (8 * k)).setWidth 8).toNat : Nat) : Int)) from p47] at h47; clear p47
            replace hs := hs.learn h47; clear h47
            obtain ⟨v48, h48, p48⟩ := (hf 11 (by decide)).get rfl rfl
            rw [show v48 = .int .u8 ((((((updK bs kk x k).getD (kk + k) 0) ^^^ ((x >>> (8 * k)).setWidth 8)).toNat : Nat) : Int)) from p48] at h48; clear p48
            replace hs := hs.learn h48; clear h48
            obtain ⟨v49, h49, p49⟩ := (hf 12 (by decide)).get rfl rfl
            rw [show v49 = .pointer (some (adr v21 (kk + k))) from p49] at h49; clear p49
            replace hs := hs.learn h49; clear h49
            clear hf
            refine st_stR hs rfl rfl .z (by omega) rfl Try.sizeOf5 ?_; clear hs w a; intro a w hs
            replace hs := hs.rerow .z (m' := m) (xs' := bytesV ((updK bs kk x k).set (kk + k) (((updK bs kk x k).getD (kk + k) 0) ^^^ ((x >>> (8 * k)).setWidth 8)))) (rfl) ((bytesV_set _ _ _).symm)
            refine wpList_nil ?_
            refine in_n ?_
            refine then_n (hK32 _ _ ?_)
            refine wp_region_lit ?_
            refine st_addR hs rfl rfl (by omega) rfl ?_; clear hs w a; intro a w hs
            refine st_mv hs rfl rfl ?_; clear hs w a; intro a w hs
            refine wpList_nil ?_
            refine then_n ?_
            refine ⟨_, ?_, k + 1, rfl, hs.sub (.c rfl (.c rfl (.c rfl (.c rfl (.c rfl .n))))), by omega⟩
            omega
        ·
          replace hc30 := of_decide_eq_false hc30
          refine wp_exit ?_
          refine th_e ?_
          refine th_e ?_
          refine in_hit ?_
          refine then_n (hK23 _ _ ?_)
          refine wp_seq_k fun K35 hK36 => ?_
          refine wp_region_lit ?_
          refine st_callP (v := .bool (true)) hs .n Try.call19 (alive06_ok _) rfl ?_; clear hs w a; intro a w hs
          refine st_mv hs rfl rfl ?_; clear hs w a; intro a w hs
          refine st_guardT hs rfl rfl rfl ?_
          refine st_mv hs rfl rfl ?_; clear hs w a; intro a w hs
          refine st_guardT hs rfl rfl rfl ?_
          refine st_callP (v := .int .u32 ((((crcSum (updK bs kk x k)).toNat : Nat) : Int))) hs (.c rfl .n) Try.call21 (sum_ok _ _ (updK bs kk x k) _ (rd_row (hs.mem.del .z))) rfl ?_; clear hs w a; intro a w hs
          refine st_guardT hs rfl rfl rfl ?_
          refine st_mv hs rfl rfl ?_; clear hs w a; intro a w hs
          refine st_guardT hs rfl rfl rfl ?_
          refine st_callP (v := .int .u32 ((((crcSum bs).toNat : Nat) : Int))) hs (.c rfl .n) Try.call21 (sum_ok _ _ bs _ (hs.rd0 hb)) rfl ?_; clear hs w a; intro a w hs
          refine st_guardT hs rfl rfl rfl ?_
          refine st_neq hs rfl rfl rfl ?_; clear hs w a; intro a w hs
          have hb_ : (!(((((crcSum (updK bs kk x k)).toNat : Nat) : Int) : Int) == ((((crcSum bs).toNat : Nat) : Int)))) = true := by have hk4 : k = 4 := (by omega); subst hk4; exact bne_of_ne (sum_unlike bs kk x (by omega) hx0)
          rw [hb_] at hs; clear hb_
          refine st_pickT hs rfl rfl rfl ?_; clear hs w a; intro a w hs
          refine st_mv hs rfl rfl ?_; clear hs w a; intro a w hs
          refine st_guardT hs rfl rfl rfl ?_
          refine st_mv hs rfl rfl ?_; clear hs w a; intro a w hs
          refine st_guardT hs rfl rfl rfl ?_
          refine st_callP (v := .int .u32 ((((crcSum (updK bs kk x k)).toNat : Nat) : Int))) hs (.c rfl .n) Try.call21 (sum_ok _ _ (updK bs kk x k) _ (rd_row (hs.mem.del .z))) rfl ?_; clear hs w a; intro a w hs
          refine st_guardT hs rfl rfl rfl ?_
          refine st_bs (cs := [.int .u8 (1), .int .u8 (2), .int .u8 (3)]) hs (.c (.c (.c .n))) (.c rfl (.c rfl (.c rfl .n))) Try.underlying22 (ie := Try.t5) rfl rfl rfl rfl (by decide) (by decide) rfl (by decide) rfl rfl rfl ?_; clear hs w a; intro g37 a w hs
          refine st_guardT hs rfl rfl rfl ?_
          refine st_callP (v := .int .u32 ((((crcMore (crcSum (updK bs kk x k)) ([1#8, 2#8, 3#8] : List Byte)).toNat : Nat) : Int))) hs (.c rfl (.c rfl .n)) Try.call20 (more_ok (crcSum (updK bs kk x k)) _ _ ([1#8, 2#8, 3#8] : List Byte) _ (rd_blk (m := 3) (hs.mem.del .z) rfl (by decide))) rfl ?_; clear hs w a; intro a w hs
          refine st_guardT hs rfl rfl rfl ?_
          refine st_mv hs rfl rfl ?_; clear hs w a; intro a w hs
          refine st_guardT hs rfl rfl rfl ?_
          refine st_callP (v := .int .u32 ((((crcSum bs).toNat : Nat) : Int))) hs (.c rfl .n) Try.call21 (sum_ok _ _ bs _ (hs.rd0 hb)) rfl ?_; clear hs w a; intro a w hs
          refine st_guardT hs rfl rfl rfl ?_
          refine st_bs (cs := [.int .u8 (1), .int .u8 (2), .int .u8 (3)]) hs (.c (.c (.c .n))) (.c rfl (.c rfl (.c rfl .n))) Try.underlying22 (ie := Try.t5) rfl rfl rfl rfl (by decide) (by decide) rfl (by decide) rfl rfl rfl ?_; clear hs w a; intro g38 a w hs
          refine st_guardT hs rfl rfl rfl ?_
          refine st_callP (v := .int .u32 ((((crcMore (crcSum bs) ([1#8, 2#8, 3#8] : List Byte)).toNat : Nat) : Int))) hs (.c rfl (.c rfl .n)) Try.call20 (more_ok (crcSum bs) _ _ ([1#8, 2#8, 3#8] : List Byte) _ (rd_blk (m := 3) (hs.mem.del .z) rfl (by decide))) rfl ?_; clear hs w a; intro a w hs
          refine st_guardT hs rfl rfl rfl ?_
          refine st_neq hs rfl rfl rfl ?_; clear hs w a; intro a w hs
          have hb_ : (!(((((crcMore (crcSum (updK bs kk x k)) ([1#8, 2#8, 3#8] : List Byte)).toNat : Nat) : Int) : Int) == ((((crcMore (crcSum bs) ([1#8, 2#8, 3#8] : List Byte)).toNat : Nat) : Int)))) = true := by have hk4 : k = 4 := (by omega); subst hk4; exact bne_of_ne (sum_unlike' bs kk x _ (by omega) hx0)
          rw [hb_] at hs; clear hb_
          refine st_pickT hs rfl rfl rfl ?_; clear hs w a; intro a w hs
          refine st_as hs rfl rfl ?_; clear hs w a; intro a w hs
          refine wpList_nil ?_
          refine then_n (hK36 _ _ ?_)
          refine wp_ret ?_
          replace hs := hs.drop (.c (.s (.s .z)) (.c (.s .z) (.c .z .n)))
          exact fin hs rfl rfl ⟨rfl, rfl⟩
end Go.Proofs.Ytmhkekdhijnnbaa
