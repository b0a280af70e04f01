/- Walks of CrcSums: what each function does, over the program of this seat. Printed by a program of this session. -/
import Derived.Test.YtmhkekdhijnnbaaWcrc
namespace Go.Proofs.Ytmhkekdhijnnbaa
open Go Go.Sx Go.RowKit
set_option linter.unusedVariables false
set_option linter.unusedSimpArgs false
set_option maxRecDepth 4000

theorem crcSums_ok (v : Value) (m : Nat) (bs : List Byte) (u : Value) (m2 : Nat) (cs : List Byte) (w0 : World) (hb : Rd w0 [] v 1 m (bytesV bs)) (hc : Rd w0 [] u 1 m2 (bytesV cs)) : Calls Try.prog 5 #[v, u] w0 (RetV w0 (.bool true)) := by
  have hbl : bs.length = m := by have := hb.len; simpa [bytesV] using this
  have hbe : m ≤ maxLen := hb.le
  simp only [maxLen] at hbe
  have hcl : cs.length = m2 := by have := hc.len; simpa [bytesV] using this
  have hce : m2 ≤ maxLen := hc.le
  simp only [maxLen] at hce
  refine enter (F0 := [(0, v), (1, u)]) Try.func5 rfl rfl rfl (.c (.c .n)) (Mem.nil _) fun a w hs => ?_
  refine wp_seq_k fun K1 hK2 => ?_
  refine wp_region_lit ?_
  refine st_as hs rfl rfl ?_; clear hs w a; intro a w hs
  refine wpList_nil ?_
  refine then_n (hK2 _ _ ?_)
  refine wp_seq_k fun K3 hK4 => ?_
  refine wp_seq_k fun K5 hK6 => ?_
  refine wp_region_lit ?_
  refine st_mv hs rfl rfl ?_; clear hs w a; intro a w hs
  refine st_len hs rfl (hs.rd0 hb).isSl Try.underlying22 rfl ?_; clear hs w a; intro a w hs
  refine st_gtr hs rfl rfl rfl ?_; clear hs w a; intro a w hs
  refine st_mv hs rfl rfl ?_; clear hs w a; intro a w hs
  refine st_part (b := decide (3000 < (m : Int))) (fun hc7 => ?_) (fun hc7 => ?_)
  · rw [hc7] at hs
    replace hc7 := of_decide_eq_true hc7
    refine st_guardF hs rfl rfl rfl rfl rfl ?_; clear hs w a; intro a w hs
    refine st_guardF hs rfl rfl rfl rfl rfl ?_; clear hs w a; intro a w hs
    refine st_guardF hs rfl rfl rfl rfl rfl ?_; clear hs w a; intro a w hs
    refine st_pickT hs rfl rfl rfl ?_; clear hs w a; intro a w hs
    refine wpList_nil ?_
    refine then_n (hK6 _ _ ?_)
    refine wp_cond_true (hs.ev rfl) ?_
    refine wp_seq_k fun K8 hK9 => ?_
    refine wp_region_lit ?_
    refine st_callP (v := .bool (true)) hs .n Try.call19 (alive06_ok _) rfl ?_; clear hs w a; intro a w hs
    refine st_as hs rfl rfl ?_; clear hs w a; intro a w hs
    refine wpList_nil ?_
    refine then_n (hK9 _ _ ?_)
    refine wp_ret ?_
    refine th_r ?_
    exact fin hs rfl rfl ⟨rfl, rfl⟩
  · rw [hc7] at hs
    replace hc7 := of_decide_eq_false hc7
    refine st_guardT hs rfl rfl rfl ?_
    refine st_mv hs rfl rfl ?_; clear hs w a; intro a w hs
    refine st_guardT hs rfl rfl rfl ?_
    refine st_len hs rfl (hs.rd0 hc).isSl Try.underlying22 rfl ?_; clear hs w a; intro a w hs
    refine st_guardT hs rfl rfl rfl ?_
    refine st_gtr hs rfl rfl rfl ?_; clear hs w a; intro a w hs
    refine st_pickF hs rfl rfl rfl ?_; clear hs w a; intro a w hs
    refine wpList_nil ?_
    refine then_n (hK6 _ _ ?_)
    refine wp_if hs rfl (fun hc10 => ?_) (fun hc10 => ?_)
    ·
      replace hc10 := of_decide_eq_true hc10
      refine wp_seq_k fun K11 hK12 => ?_
      refine wp_region_lit ?_
      refine st_callP (v := .bool (true)) hs .n Try.call19 (alive06_ok _) rfl ?_; clear hs w a; intro a w hs
      refine st_as hs rfl rfl ?_; clear hs w a; intro a w hs
      refine wpList_nil ?_
      refine then_n (hK12 _ _ ?_)
      refine wp_ret ?_
      refine th_r ?_
      exact fin hs rfl rfl ⟨rfl, rfl⟩
    ·
      replace hc10 := of_decide_eq_false hc10
      refine wp_skip ?_
      refine then_n (hK4 _ _ ?_)
      refine wp_seq_k fun K13 hK14 => ?_
      refine wp_region_lit ?_
      refine st_bs0 hs Try.underlying22 rfl ?_ ⟨_, Try.sizeOf5⟩; clear hs w a; intro g15 a w hs
      refine st_mv hs rfl rfl ?_; clear hs w a; intro a w hs
      replace hs := hs.toRow (size := 1) (m := 0) .z rfl (by decide)
      refine st_app (size := 1) (bytes := 1) hs rfl rfl .z (hs.rd0 hb) (oneCell_bytesV _) Try.underlying22 (i := Try.t5) rfl rfl rfl rfl rfl (by decide) (by omega) (by simp only [maxLen]; omega) rfl ?_; clear hs w a; intro v16 a w hs
      refine st_mv hs rfl rfl ?_; clear hs w a; intro a w hs
      refine st_app (size := 1) (bytes := 1) hs rfl rfl .z (hs.rd0 hc) (oneCell_bytesV _) Try.underlying22 (i := Try.t5) rfl rfl rfl rfl rfl (by decide) (by omega) (by simp only [maxLen]; omega) rfl ?_; clear hs w a; intro v17 a w hs
      refine st_as hs rfl rfl ?_; clear hs w a; intro a w hs
      replace hs := hs.rerow .z (m' := m + m2) (xs' := bytesV (bs ++ cs)) (by omega) (by rw [List.nil_append, bytesV_append])
      refine wpList_nil ?_
      refine then_n (hK14 _ _ ?_)
      refine wp_seq_k fun K18 hK19 => ?_
      replace hs := hs.sub (F' := [(5, v17), (19, v17), (18, u), (17, v16), (16, v), (15, .slice (some ⟨g15, 0, none⟩) 0 0), (13, .bool (decide (3000 < (m2 : Int)))), (12, .bool (decide (3000 < (m2 : Int)))), (11, .int .i64 ((m2 : Int))), (10, u), (9, .bool (false)), (8, .bool (false)), (7, .int .i64 ((m : Int))), (6, v), (0, v), (1, u)]) (.c rfl (.c rfl (.c rfl (.c rfl (.c rfl (.c rfl (.c rfl (.c rfl (.c rfl (.c rfl (.c rfl (.c rfl (.c rfl (.c rfl (.c rfl (.c rfl .n))))))))))))))))
      refine wp_draw (Ps := [eqv (.bool (true)), eqv (.bool (true)), eqv (v), eqv (.int .u32 ((((crcSum bs).toNat : Nat) : Int))), eqv (v), eqv (.int .u32 ((((crcSum bs).toNat : Nat) : Int))), eqv (.bool (true)), eqv (.bool (true)), eqv (.bool (true)), eqv (v), eqv (.int .u32 ((((crcSum bs).toNat : Nat) : Int))), eqv (u), eqv (.int .u32 ((((crcMore (crcSum bs) cs).toNat : Nat) : Int))), eqv (v17), eqv (.int .u32 ((((crcSum (bs ++ cs)).toNat : Nat) : Int))), eqv (.bool (true)), eqv (.bool (true)), eqv (.bool (true)), eqv (u), eqv (.int .u32 ((((crcMore (0#32) cs).toNat : Nat) : Int))), eqv (u), eqv (.int .u32 ((((crcSum cs).toNat : Nat) : Int))), eqv (.bool (true)), eqv (.bool (true)), eqv (.bool (true)), eqv (v), rdv 1 (m + 4) (bytesV (seal_ bs)), eqv (.string (strB (seal_ bs))), eqv (v), rdv 1 (m + 4) (bytesV (seal_ bs)), eqv (.string (strB (seal_ bs))), eqv (.bool (true)), eqv (.bool (true)), eqv (.bool (true))]) (by kernel_rfl) hs (by kernel_rfl) ?_ ?_
      · refine (.c ?_ (.c ?_ (.c ?_ (.c ?_ (.c ?_ (.c ?_ (.c ?_ (.c ?_ (.c ?_ (.c ?_ (.c ?_ (.c ?_ (.c ?_ (.c ?_ (.c ?_ (.c ?_ (.c ?_ (.c ?_ (.c ?_ (.c ?_ (.c ?_ (.c ?_ (.c ?_ (.c ?_ (.c ?_ (.c ?_ (.c ?_ (.c ?_ (.c ?_ (.c ?_ (.c ?_ (.c ?_ (.c ?_ (.c ?_ .n))))))))))))))))))))))))))))))))))
        · intro a_ w_ R hm hs hp
          have hs0 := hs
          refine st_callP (v := .bool (true)) hs .n Try.call19 (alive06_ok _) rfl ?_; clear hs; intro a w hs
          exact wpList_nil ⟨rfl, _, _, _, _, rfl, hs0, .r, hs, rfl⟩
        · intro a_ w_ R hm hs hp
          obtain ⟨v20, h20, p20⟩ := (hp 0 ⟨⟨0, .data⟩, mem_arr (.head _), rfl, rfl⟩).get rfl rfl
          rw [show v20 = .bool (true) from p20] at h20; clear p20
          replace hs := hs.learn h20
          have hs0 := hs
          refine st_mv hs rfl rfl ?_; clear hs; intro a w hs
          exact wpList_nil ⟨rfl, _, _, _, _, rfl, hs0, (.c .r), hs, rfl⟩
        · intro a_ w_ R hm hs hp
          obtain ⟨v21, h21, p21⟩ := (hp 1 ⟨⟨1, .guard⟩, mem_arr (.head _), rfl, rfl⟩).get rfl rfl
          rw [show v21 = .bool (true) from p21] at h21; clear p21
          replace hs := hs.learn h21
          have hs0 := hs
          refine st_guardT hs rfl rfl rfl ?_
          refine st_mv hs rfl rfl ?_; clear hs; intro a w hs
          exact wpList_nil ⟨rfl, _, _, _, _, rfl, hs0, (.c .r), hs, rfl⟩
        · intro a_ w_ R hm hs hp
          obtain ⟨v22, h22, p22⟩ := (hp 2 ⟨⟨2, .data⟩, mem_arr (.head _), rfl, rfl⟩).get rfl rfl
          rw [show v22 = v from p22] at h22; clear p22
          replace hs := hs.learn h22
          obtain ⟨v21, h21, p21⟩ := (hp 1 ⟨⟨1, .chain⟩, mem_arr (.tail _ (.head _)), rfl, rfl⟩).get rfl rfl
          rw [show v21 = .bool (true) from p21] at h21; clear p21
          replace hs := hs.learn h21
          have hs0 := hs
          refine st_guardT hs rfl rfl rfl ?_
          refine st_callP (v := .int .u32 ((((crcSum bs).toNat : Nat) : Int))) hs (.c rfl .n) Try.call21 (sum_ok _ _ bs _ (hm.rd0 hb)) rfl ?_; clear hs; intro a w hs
          exact wpList_nil ⟨rfl, _, _, _, _, rfl, hs0, (.c (.c .r)), hs, rfl⟩
        · intro a_ w_ R hm hs hp
          obtain ⟨v21, h21, p21⟩ := (hp 1 ⟨⟨1, .guard⟩, mem_arr (.head _), rfl, rfl⟩).get rfl rfl
          rw [show v21 = .bool (true) from p21] at h21; clear p21
          replace hs := hs.learn h21
          have hs0 := hs
          refine st_guardT hs rfl rfl rfl ?_
          refine st_mv hs rfl rfl ?_; clear hs; intro a w hs
          exact wpList_nil ⟨rfl, _, _, _, _, rfl, hs0, (.c .r), hs, rfl⟩
        · intro a_ w_ R hm hs hp
          obtain ⟨v24, h24, p24⟩ := (hp 4 ⟨⟨4, .data⟩, mem_arr (.head _), rfl, rfl⟩).get rfl rfl
          rw [show v24 = v from p24] at h24; clear p24
          replace hs := hs.learn h24
          obtain ⟨v21, h21, p21⟩ := (hp 1 ⟨⟨1, .guard⟩, mem_arr (.tail _ (.tail _ (.head _))), rfl, rfl⟩).get rfl rfl
          rw [show v21 = .bool (true) from p21] at h21; clear p21
          replace hs := hs.learn h21
          have hs0 := hs
          refine st_guardT hs rfl rfl rfl ?_
          refine st_callP (v := .int .u32 ((((crcSum bs).toNat : Nat) : Int))) hs (.c rfl .n) Try.call22 (rsum_ok _ _ bs _ (hm.rd0 hb)) rfl ?_; clear hs; intro a w hs
          exact wpList_nil ⟨rfl, _, _, _, _, rfl, hs0, (.c (.c .r)), hs, rfl⟩
        · intro a_ w_ R hm hs hp
          obtain ⟨v23, h23, p23⟩ := (hp 3 ⟨⟨3, .data⟩, mem_arr (.head _), rfl, rfl⟩).get rfl rfl
          rw [show v23 = .int .u32 ((((crcSum bs).toNat : Nat) : Int)) from p23] at h23; clear p23
          replace hs := hs.learn h23
          obtain ⟨v25, h25, p25⟩ := (hp 5 ⟨⟨5, .data⟩, mem_arr (.tail _ (.head _)), rfl, rfl⟩).get rfl rfl
          rw [show v25 = .int .u32 ((((crcSum bs).toNat : Nat) : Int)) from p25] at h25; clear p25
          replace hs := hs.learn h25
          obtain ⟨v21, h21, p21⟩ := (hp 1 ⟨⟨1, .guard⟩, mem_arr (.tail _ (.tail _ (.head _))), rfl, rfl⟩).get rfl rfl
          rw [show v21 = .bool (true) from p21] at h21; clear p21
          replace hs := hs.learn h21
          have hs0 := hs
          refine st_guardT hs rfl rfl rfl ?_
          refine st_eql hs rfl rfl rfl ?_; clear hs; intro a w hs
          have hb_ : (((((crcSum bs).toNat : Nat) : Int) : Int) == ((((crcSum bs).toNat : Nat) : Int))) = true := beq_self_eq_true _
          rw [hb_] at hs; clear hb_
          exact wpList_nil ⟨rfl, _, _, _, _, rfl, hs0, (.c (.c (.c .r))), hs, rfl⟩
        · intro a_ w_ R hm hs hp
          obtain ⟨v21, h21, p21⟩ := (hp 1 ⟨⟨1, .data⟩, mem_arr (.head _), rfl, rfl⟩).get rfl rfl
          rw [show v21 = .bool (true) from p21] at h21; clear p21
          replace hs := hs.learn h21
          obtain ⟨v26, h26, p26⟩ := (hp 6 ⟨⟨6, .data⟩, mem_arr (.tail _ (.head _)), rfl, rfl⟩).get rfl rfl
          rw [show v26 = .bool (true) from p26] at h26; clear p26
          replace hs := hs.learn h26
          have hs0 := hs
          refine st_pickT hs rfl rfl rfl ?_; clear hs; intro a w hs
          exact wpList_nil ⟨rfl, _, _, _, _, rfl, hs0, (.c (.c .r)), hs, rfl⟩
        · intro a_ w_ R hm hs hp
          obtain ⟨v27, h27, p27⟩ := (hp 7 ⟨⟨7, .data⟩, mem_arr (.head _), rfl, rfl⟩).get rfl rfl
          rw [show v27 = .bool (true) from p27] at h27; clear p27
          replace hs := hs.learn h27
          have hs0 := hs
          refine st_mv hs rfl rfl ?_; clear hs; intro a w hs
          exact wpList_nil ⟨rfl, _, _, _, _, rfl, hs0, (.c .r), hs, rfl⟩
        · intro a_ w_ R hm hs hp
          obtain ⟨v28, h28, p28⟩ := (hp 8 ⟨⟨8, .guard⟩, mem_arr (.head _), rfl, rfl⟩).get rfl rfl
          rw [show v28 = .bool (true) from p28] at h28; clear p28
          replace hs := hs.learn h28
          have hs0 := hs
          refine st_guardT hs rfl rfl rfl ?_
          refine st_mv hs rfl rfl ?_; clear hs; intro a w hs
          exact wpList_nil ⟨rfl, _, _, _, _, rfl, hs0, (.c .r), hs, rfl⟩
        · intro a_ w_ R hm hs hp
          obtain ⟨v29, h29, p29⟩ := (hp 9 ⟨⟨9, .data⟩, mem_arr (.head _), rfl, rfl⟩).get rfl rfl
          rw [show v29 = v from p29] at h29; clear p29
          replace hs := hs.learn h29
          obtain ⟨v28, h28, p28⟩ := (hp 8 ⟨⟨8, .chain⟩, mem_arr (.tail _ (.head _)), rfl, rfl⟩).get rfl rfl
          rw [show v28 = .bool (true) from p28] at h28; clear p28
          replace hs := hs.learn h28
          have hs0 := hs
          refine st_guardT hs rfl rfl rfl ?_
          refine st_callP (v := .int .u32 ((((crcSum bs).toNat : Nat) : Int))) hs (.c rfl .n) Try.call21 (sum_ok _ _ bs _ (hm.rd0 hb)) rfl ?_; clear hs; intro a w hs
          exact wpList_nil ⟨rfl, _, _, _, _, rfl, hs0, (.c (.c .r)), hs, rfl⟩
        · intro a_ w_ R hm hs hp
          obtain ⟨v28, h28, p28⟩ := (hp 8 ⟨⟨8, .guard⟩, mem_arr (.head _), rfl, rfl⟩).get rfl rfl
          rw [show v28 = .bool (true) from p28] at h28; clear p28
          replace hs := hs.learn h28
          have hs0 := hs
          refine st_guardT hs rfl rfl rfl ?_
          refine st_mv hs rfl rfl ?_; clear hs; intro a w hs
          exact wpList_nil ⟨rfl, _, _, _, _, rfl, hs0, (.c .r), hs, rfl⟩
        · intro a_ w_ R hm hs hp
          obtain ⟨v30, h30, p30⟩ := (hp 10 ⟨⟨10, .data⟩, mem_arr (.head _), rfl, rfl⟩).get rfl rfl
          rw [show v30 = .int .u32 ((((crcSum bs).toNat : Nat) : Int)) from p30] at h30; clear p30
          replace hs := hs.learn h30
          obtain ⟨v31, h31, p31⟩ := (hp 11 ⟨⟨11, .data⟩, mem_arr (.tail _ (.head _)), rfl, rfl⟩).get rfl rfl
          rw [show v31 = u from p31] at h31; clear p31
          replace hs := hs.learn h31
          obtain ⟨v28, h28, p28⟩ := (hp 8 ⟨⟨8, .guard⟩, mem_arr (.tail _ (.tail _ (.tail _ (.head _)))), rfl, rfl⟩).get rfl rfl
          rw [show v28 = .bool (true) from p28] at h28; clear p28
          replace hs := hs.learn h28
          have hs0 := hs
          refine st_guardT hs rfl rfl rfl ?_
          refine st_callP (v := .int .u32 ((((crcMore (crcSum bs) cs).toNat : Nat) : Int))) hs (.c rfl (.c rfl .n)) Try.call20 (more_ok (crcSum bs) _ _ cs _ (hm.rd0 hc)) rfl ?_; clear hs; intro a w hs
          exact wpList_nil ⟨rfl, _, _, _, _, rfl, hs0, (.c (.c (.c .r))), hs, rfl⟩
        · intro a_ w_ R hm hs hp
          obtain ⟨v28, h28, p28⟩ := (hp 8 ⟨⟨8, .guard⟩, mem_arr (.head _), rfl, rfl⟩).get rfl rfl
          rw [show v28 = .bool (true) from p28] at h28; clear p28
          replace hs := hs.learn h28
          have hs0 := hs
          refine st_guardT hs rfl rfl rfl ?_
          refine st_mv hs rfl rfl ?_; clear hs; intro a w hs
          exact wpList_nil ⟨rfl, _, _, _, _, rfl, hs0, (.c .r), hs, rfl⟩
        · intro a_ w_ R hm hs hp
          obtain ⟨v33, h33, p33⟩ := (hp 13 ⟨⟨13, .data⟩, mem_arr (.head _), rfl, rfl⟩).get rfl rfl
          rw [show v33 = v17 from p33] at h33; clear p33
          replace hs := hs.learn h33
          obtain ⟨v28, h28, p28⟩ := (hp 8 ⟨⟨8, .guard⟩, mem_arr (.tail _ (.tail _ (.head _))), rfl, rfl⟩).get rfl rfl
          rw [show v28 = .bool (true) from p28] at h28; clear p28
          replace hs := hs.learn h28
          have hs0 := hs
          refine st_guardT hs rfl rfl rfl ?_
          refine st_callP (v := .int .u32 ((((crcSum (bs ++ cs)).toNat : Nat) : Int))) hs (.c rfl .n) Try.call22 (rsum_ok _ _ (bs ++ cs) _ (rd_row (hm.del .z))) rfl ?_; clear hs; intro a w hs
          exact wpList_nil ⟨rfl, _, _, _, _, rfl, hs0, (.c (.c .r)), hs, rfl⟩
        · intro a_ w_ R hm hs hp
          obtain ⟨v32, h32, p32⟩ := (hp 12 ⟨⟨12, .data⟩, mem_arr (.head _), rfl, rfl⟩).get rfl rfl
          rw [show v32 = .int .u32 ((((crcMore (crcSum bs) cs).toNat : Nat) : Int)) from p32] at h32; clear p32
          replace hs := hs.learn h32
          obtain ⟨v34, h34, p34⟩ := (hp 14 ⟨⟨14, .data⟩, mem_arr (.tail _ (.head _)), rfl, rfl⟩).get rfl rfl
          rw [show v34 = .int .u32 ((((crcSum (bs ++ cs)).toNat : Nat) : Int)) from p34] at h34; clear p34
          replace hs := hs.learn h34
          obtain ⟨v28, h28, p28⟩ := (hp 8 ⟨⟨8, .guard⟩, mem_arr (.tail _ (.tail _ (.head _))), rfl, rfl⟩).get rfl rfl
          rw [show v28 = .bool (true) from p28] at h28; clear p28
          replace hs := hs.learn h28
          have hs0 := hs
          refine st_guardT hs rfl rfl rfl ?_
          refine st_eql hs rfl rfl rfl ?_; clear hs; intro a w hs
          have hb_ : (((((crcMore (crcSum bs) cs).toNat : Nat) : Int) : Int) == ((((crcSum (bs ++ cs)).toNat : Nat) : Int))) = true := by rw [crcMore_sum]; exact beq_self_eq_true _
          rw [hb_] at hs; clear hb_
          exact wpList_nil ⟨rfl, _, _, _, _, rfl, hs0, (.c (.c (.c .r))), hs, rfl⟩
        · intro a_ w_ R hm hs hp
          obtain ⟨v28, h28, p28⟩ := (hp 8 ⟨⟨8, .data⟩, mem_arr (.head _), rfl, rfl⟩).get rfl rfl
          rw [show v28 = .bool (true) from p28] at h28; clear p28
          replace hs := hs.learn h28
          obtain ⟨v35, h35, p35⟩ := (hp 15 ⟨⟨15, .data⟩, mem_arr (.tail _ (.head _)), rfl, rfl⟩).get rfl rfl
          rw [show v35 = .bool (true) from p35] at h35; clear p35
          replace hs := hs.learn h35
          have hs0 := hs
          refine st_pickT hs rfl rfl rfl ?_; clear hs; intro a w hs
          exact wpList_nil ⟨rfl, _, _, _, _, rfl, hs0, (.c (.c .r)), hs, rfl⟩
        · intro a_ w_ R hm hs hp
          obtain ⟨v36, h36, p36⟩ := (hp 16 ⟨⟨16, .data⟩, mem_arr (.head _), rfl, rfl⟩).get rfl rfl
          rw [show v36 = .bool (true) from p36] at h36; clear p36
          replace hs := hs.learn h36
          have hs0 := hs
          refine st_mv hs rfl rfl ?_; clear hs; intro a w hs
          exact wpList_nil ⟨rfl, _, _, _, _, rfl, hs0, (.c .r), hs, rfl⟩
        · intro a_ w_ R hm hs hp
          obtain ⟨v37, h37, p37⟩ := (hp 17 ⟨⟨17, .guard⟩, mem_arr (.head _), rfl, rfl⟩).get rfl rfl
          rw [show v37 = .bool (true) from p37] at h37; clear p37
          replace hs := hs.learn h37
          have hs0 := hs
          refine st_guardT hs rfl rfl rfl ?_
          refine st_mv hs rfl rfl ?_; clear hs; intro a w hs
          exact wpList_nil ⟨rfl, _, _, _, _, rfl, hs0, (.c .r), hs, rfl⟩
        · intro a_ w_ R hm hs hp
          obtain ⟨v38, h38, p38⟩ := (hp 18 ⟨⟨18, .data⟩, mem_arr (.head _), rfl, rfl⟩).get rfl rfl
          rw [show v38 = u from p38] at h38; clear p38
          replace hs := hs.learn h38
          obtain ⟨v37, h37, p37⟩ := (hp 17 ⟨⟨17, .chain⟩, mem_arr (.tail _ (.head _)), rfl, rfl⟩).get rfl rfl
          rw [show v37 = .bool (true) from p37] at h37; clear p37
          replace hs := hs.learn h37
          have hs0 := hs
          refine st_guardT hs rfl rfl rfl ?_
          refine st_callP (v := .int .u32 ((((crcMore (0#32) cs).toNat : Nat) : Int))) hs (.c rfl (.c rfl .n)) Try.call20 (more_ok (0#32) _ _ cs _ (hm.rd0 hc)) rfl ?_; clear hs; intro a w hs
          exact wpList_nil ⟨rfl, _, _, _, _, rfl, hs0, (.c (.c .r)), hs, rfl⟩
        · intro a_ w_ R hm hs hp
          obtain ⟨v37, h37, p37⟩ := (hp 17 ⟨⟨17, .guard⟩, mem_arr (.head _), rfl, rfl⟩).get rfl rfl
          rw [show v37 = .bool (true) from p37] at h37; clear p37
          replace hs := hs.learn h37
          have hs0 := hs
          refine st_guardT hs rfl rfl rfl ?_
          refine st_mv hs rfl rfl ?_; clear hs; intro a w hs
          exact wpList_nil ⟨rfl, _, _, _, _, rfl, hs0, (.c .r), hs, rfl⟩
        · intro a_ w_ R hm hs hp
          obtain ⟨v40, h40, p40⟩ := (hp 20 ⟨⟨20, .data⟩, mem_arr (.head _), rfl, rfl⟩).get rfl rfl
          rw [show v40 = u from p40] at h40; clear p40
          replace hs := hs.learn h40
          obtain ⟨v37, h37, p37⟩ := (hp 17 ⟨⟨17, .guard⟩, mem_arr (.tail _ (.tail _ (.head _))), rfl, rfl⟩).get rfl rfl
          rw [show v37 = .bool (true) from p37] at h37; clear p37
          replace hs := hs.learn h37
          have hs0 := hs
          refine st_guardT hs rfl rfl rfl ?_
          refine st_callP (v := .int .u32 ((((crcSum cs).toNat : Nat) : Int))) hs (.c rfl .n) Try.call21 (sum_ok _ _ cs _ (hm.rd0 hc)) rfl ?_; clear hs; intro a w hs
          exact wpList_nil ⟨rfl, _, _, _, _, rfl, hs0, (.c (.c .r)), hs, rfl⟩
        · intro a_ w_ R hm hs hp
          obtain ⟨v39, h39, p39⟩ := (hp 19 ⟨⟨19, .data⟩, mem_arr (.head _), rfl, rfl⟩).get rfl rfl
          rw [show v39 = .int .u32 ((((crcMore (0#32) cs).toNat : Nat) : Int)) from p39] at h39; clear p39
          replace hs := hs.learn h39
          obtain ⟨v41, h41, p41⟩ := (hp 21 ⟨⟨21, .data⟩, mem_arr (.tail _ (.head _)), rfl, rfl⟩).get rfl rfl
          rw [show v41 = .int .u32 ((((crcSum cs).toNat : Nat) : Int)) from p41] at h41; clear p41
          replace hs := hs.learn h41
          obtain ⟨v37, h37, p37⟩ := (hp 17 ⟨⟨17, .guard⟩, mem_arr (.tail _ (.tail _ (.head _))), rfl, rfl⟩).get rfl rfl
          rw [show v37 = .bool (true) from p37] at h37; clear p37
          replace hs := hs.learn h37
          have hs0 := hs
          refine st_guardT hs rfl rfl rfl ?_
          refine st_eql hs rfl rfl rfl ?_; clear hs; intro a w hs
          have hb_ : (((((crcMore (0#32) cs).toNat : Nat) : Int) : Int) == ((((crcSum cs).toNat : Nat) : Int))) = true := beq_self_eq_true _
          rw [hb_] at hs; clear hb_
          exact wpList_nil ⟨rfl, _, _, _, _, rfl, hs0, (.c (.c (.c .r))), hs, rfl⟩
        · intro a_ w_ R hm hs hp
          obtain ⟨v37, h37, p37⟩ := (hp 17 ⟨⟨17, .data⟩, mem_arr (.head _), rfl, rfl⟩).get rfl rfl
          rw [show v37 = .bool (true) from p37] at h37; clear p37
          replace hs := hs.learn h37
          obtain ⟨v42, h42, p42⟩ := (hp 22 ⟨⟨22, .data⟩, mem_arr (.tail _ (.head _)), rfl, rfl⟩).get rfl rfl
          rw [show v42 = .bool (true) from p42] at h42; clear p42
          replace hs := hs.learn h42
          have hs0 := hs
          refine st_pickT hs rfl rfl rfl ?_; clear hs; intro a w hs
          exact wpList_nil ⟨rfl, _, _, _, _, rfl, hs0, (.c (.c .r)), hs, rfl⟩
        · intro a_ w_ R hm hs hp
          obtain ⟨v43, h43, p43⟩ := (hp 23 ⟨⟨23, .data⟩, mem_arr (.head _), rfl, rfl⟩).get rfl rfl
          rw [show v43 = .bool (true) from p43] at h43; clear p43
          replace hs := hs.learn h43
          have hs0 := hs
          refine st_mv hs rfl rfl ?_; clear hs; intro a w hs
          exact wpList_nil ⟨rfl, _, _, _, _, rfl, hs0, (.c .r), hs, rfl⟩
        · intro a_ w_ R hm hs hp
          obtain ⟨v44, h44, p44⟩ := (hp 24 ⟨⟨24, .guard⟩, mem_arr (.head _), rfl, rfl⟩).get rfl rfl
          rw [show v44 = .bool (true) from p44] at h44; clear p44
          replace hs := hs.learn h44
          have hs0 := hs
          refine st_guardT hs rfl rfl rfl ?_
          refine st_mv hs rfl rfl ?_; clear hs; intro a w hs
          exact wpList_nil ⟨rfl, _, _, _, _, rfl, hs0, (.c .r), hs, rfl⟩
        · intro a_ w_ R hm hs hp
          obtain ⟨v45, h45, p45⟩ := (hp 25 ⟨⟨25, .data⟩, mem_arr (.head _), rfl, rfl⟩).get rfl rfl
          rw [show v45 = v from p45] at h45; clear p45
          replace hs := hs.learn h45
          obtain ⟨v44, h44, p44⟩ := (hp 24 ⟨⟨24, .chain⟩, mem_arr (.tail _ (.head _)), rfl, rfl⟩).get rfl rfl
          rw [show v44 = .bool (true) from p44] at h44; clear p44
          replace hs := hs.learn h44
          have hs0 := hs
          refine st_guardT hs rfl rfl rfl ?_
          refine st_call hs (.c rfl .n) Try.call23 .n (seal_ok _ _ bs _ (hm.rd0 hb) (by omega)) rfl ?_; clear hs; rintro v20 _ a w rfl hs; simp only [List.cons_append, List.nil_append] at hs
          exact wpList_nil ⟨rfl, _, _, _, _, rfl, hs0, (.c (.c .r)), hs, rd_row (hs.mem.del .z)⟩
        · intro a_ w_ R hm hs hp
          obtain ⟨v46, h46, p46⟩ := (hp 26 ⟨⟨26, .data⟩, mem_arr (.head _), rfl, rfl⟩).get rfl rfl
          replace hs := hs.learn h46
          obtain ⟨v44, h44, p44⟩ := (hp 24 ⟨⟨24, .guard⟩, mem_arr (.tail _ (.head _)), rfl, rfl⟩).get rfl rfl
          rw [show v44 = .bool (true) from p44] at h44; clear p44
          replace hs := hs.learn h44
          have hs0 := hs
          refine st_guardT hs rfl rfl rfl ?_
          refine st_str (bs := (seal_ bs)) hs rfl (p46) Try.underlying22 Try.underlying5 Try.underlying9 rfl ?_; clear hs; intro a w hs
          exact wpList_nil ⟨rfl, _, _, _, _, rfl, hs0, (.c (.c .r)), hs, rfl⟩
        · intro a_ w_ R hm hs hp
          obtain ⟨v44, h44, p44⟩ := (hp 24 ⟨⟨24, .guard⟩, mem_arr (.head _), rfl, rfl⟩).get rfl rfl
          rw [show v44 = .bool (true) from p44] at h44; clear p44
          replace hs := hs.learn h44
          have hs0 := hs
          refine st_guardT hs rfl rfl rfl ?_
          refine st_mv hs rfl rfl ?_; clear hs; intro a w hs
          exact wpList_nil ⟨rfl, _, _, _, _, rfl, hs0, (.c .r), hs, rfl⟩
        · intro a_ w_ R hm hs hp
          obtain ⟨v48, h48, p48⟩ := (hp 28 ⟨⟨28, .data⟩, mem_arr (.head _), rfl, rfl⟩).get rfl rfl
          rw [show v48 = v from p48] at h48; clear p48
          replace hs := hs.learn h48
          obtain ⟨v44, h44, p44⟩ := (hp 24 ⟨⟨24, .guard⟩, mem_arr (.tail _ (.tail _ (.head _))), rfl, rfl⟩).get rfl rfl
          rw [show v44 = .bool (true) from p44] at h44; clear p44
          replace hs := hs.learn h44
          have hs0 := hs
          refine st_guardT hs rfl rfl rfl ?_
          refine st_call hs (.c rfl .n) Try.call24 .n (rseal_ok _ _ bs _ (hm.rd0 hb) (by omega)) rfl ?_; clear hs; rintro v21 _ a w rfl hs; simp only [List.cons_append, List.nil_append] at hs
          exact wpList_nil ⟨rfl, _, _, _, _, rfl, hs0, (.c (.c .r)), hs, rd_row (hs.mem.del .z)⟩
        · intro a_ w_ R hm hs hp
          obtain ⟨v49, h49, p49⟩ := (hp 29 ⟨⟨29, .data⟩, mem_arr (.head _), rfl, rfl⟩).get rfl rfl
          replace hs := hs.learn h49
          obtain ⟨v44, h44, p44⟩ := (hp 24 ⟨⟨24, .guard⟩, mem_arr (.tail _ (.head _)), rfl, rfl⟩).get rfl rfl
          rw [show v44 = .bool (true) from p44] at h44; clear p44
          replace hs := hs.learn h44
          have hs0 := hs
          refine st_guardT hs rfl rfl rfl ?_
          refine st_str (bs := (seal_ bs)) hs rfl (p49) Try.underlying22 Try.underlying5 Try.underlying9 rfl ?_; clear hs; intro a w hs
          exact wpList_nil ⟨rfl, _, _, _, _, rfl, hs0, (.c (.c .r)), hs, rfl⟩
        · intro a_ w_ R hm hs hp
          obtain ⟨v47, h47, p47⟩ := (hp 27 ⟨⟨27, .data⟩, mem_arr (.head _), rfl, rfl⟩).get rfl rfl
          rw [show v47 = .string (strB (seal_ bs)) from p47] at h47; clear p47
          replace hs := hs.learn h47
          obtain ⟨v50, h50, p50⟩ := (hp 30 ⟨⟨30, .data⟩, mem_arr (.tail _ (.head _)), rfl, rfl⟩).get rfl rfl
          rw [show v50 = .string (strB (seal_ bs)) from p50] at h50; clear p50
          replace hs := hs.learn h50
          obtain ⟨v44, h44, p44⟩ := (hp 24 ⟨⟨24, .guard⟩, mem_arr (.tail _ (.tail _ (.head _))), rfl, rfl⟩).get rfl rfl
          rw [show v44 = .bool (true) from p44] at h44; clear p44
          replace hs := hs.learn h44
          have hs0 := hs
          refine st_guardT hs rfl rfl rfl ?_
          refine st_eqs hs rfl rfl rfl ?_; clear hs; intro a w hs
          have hb_ : ((strB (seal_ bs)).toList == (strB (seal_ bs)).toList) = true := beq_self_eq_true _
          rw [hb_] at hs; clear hb_
          exact wpList_nil ⟨rfl, _, _, _, _, rfl, hs0, (.c (.c (.c .r))), hs, rfl⟩
        · intro a_ w_ R hm hs hp
          obtain ⟨v44, h44, p44⟩ := (hp 24 ⟨⟨24, .data⟩, mem_arr (.head _), rfl, rfl⟩).get rfl rfl
          rw [show v44 = .bool (true) from p44] at h44; clear p44
          replace hs := hs.learn h44
          obtain ⟨v51, h51, p51⟩ := (hp 31 ⟨⟨31, .data⟩, mem_arr (.tail _ (.head _)), rfl, rfl⟩).get rfl rfl
          rw [show v51 = .bool (true) from p51] at h51; clear p51
          replace hs := hs.learn h51
          have hs0 := hs
          refine st_pickT hs rfl rfl rfl ?_; clear hs; intro a w hs
          exact wpList_nil ⟨rfl, _, _, _, _, rfl, hs0, (.c (.c .r)), hs, rfl⟩
        · intro a_ w_ R hm hs hp
          obtain ⟨v52, h52, p52⟩ := (hp 32 ⟨⟨32, .data⟩, mem_arr (.head _), rfl, rfl⟩).get rfl rfl
          rw [show v52 = .bool (true) from p52] at h52; clear p52
          replace hs := hs.learn h52
          have hs0 := hs
          refine st_as hs rfl rfl ?_; clear hs; intro a w hs
          exact wpList_nil ⟨rfl, _, _, _, _, rfl, hs0, (.c .r), hs, rfl⟩
      · clear hs w a; intro a w hs hf
        obtain ⟨v4, h4, p4⟩ := (hf 33 (by decide)).get rfl rfl
        rw [show v4 = .bool (true) from p4] at h4; clear p4
        replace hs := hs.learn h4; clear h4
        clear hf
        refine then_n (hK19 _ _ ?_)
        refine wp_ret ?_
        replace hs := hs.drop (.c .z .n)
        exact fin hs rfl rfl ⟨rfl, rfl⟩
end Go.Proofs.Ytmhkekdhijnnbaa
