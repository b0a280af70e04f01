/- Walks of VarintBack: what each function does, over the program of this seat. Printed by a program of this session. -/
import Derived.Test.YtmhkekdhijnnbaaWvar
namespace Go.Proofs.Ytmhkekdhijnnbaa
open Go Go.Sx Go.RowKit
set_option linter.unusedVariables false
set_option linter.unusedSimpArgs false
set_option maxRecDepth 4000

theorem varintBack_ok (X : BitVec 64) (v : Value) (m : Nat) (bs : List Byte) (w0 : World) (hb : Rd w0 [] v 1 m (bytesV bs)) : Calls Try.prog 10 #[.int .u64 (X.toNat : Int), v] w0 (RetV w0 (.bool true)) := by
  have hbl : bs.length = m := by have := hb.len; simpa [bytesV] using this
  have hbe : m ≤ maxLen := hb.le
  simp only [maxLen] at hbe
  have hvl := vlen_le X.toNat
  have hvp := vlen_pos X.toNat
  have hvln : (vput X.toNat).length = vlen X.toNat := rfl
  have hgp := vget_put X bs
  refine enter (F0 := [(0, .int .u64 ((((X).toNat : Nat) : Int))), (1, v)]) Try.func10 rfl rfl rfl (.c (.c .n)) (Mem.nil _) fun a w hs => ?_
  refine wp_seq_k fun K1 hK2 => ?_
  refine wp_region_lit ?_
  refine st_as hs rfl rfl ?_; clear hs w a; intro a w hs
  refine wpList_nil ?_
  refine then_n (hK2 _ _ ?_)
  refine wp_seq_k fun K3 hK4 => ?_
  refine wp_seq_k fun K5 hK6 => ?_
  refine wp_region_lit ?_
  refine st_mv hs rfl rfl ?_; clear hs w a; intro a w hs
  refine st_len hs rfl (hs.rd0 hb).isSl Try.underlying22 rfl ?_; clear hs w a; intro a w hs
  refine st_gtr hs rfl rfl rfl ?_; clear hs w a; intro a w hs
  refine wpList_nil ?_
  refine then_n (hK6 _ _ ?_)
  refine wp_if hs rfl (fun hc7 => ?_) (fun hc7 => ?_)
  ·
    replace hc7 := of_decide_eq_true hc7
    refine wp_seq_k fun K8 hK9 => ?_
    refine wp_region_lit ?_
    refine st_callP (v := .bool (true)) hs .n Try.call28 (alive05_ok _) rfl ?_; clear hs w a; intro a w hs
    refine st_as hs rfl rfl ?_; clear hs w a; intro a w hs
    refine wpList_nil ?_
    refine then_n (hK9 _ _ ?_)
    refine wp_ret ?_
    refine th_r ?_
    exact fin hs rfl rfl ⟨rfl, rfl⟩
  ·
    replace hc7 := of_decide_eq_false hc7
    refine wp_skip ?_
    refine then_n (hK4 _ _ ?_)
    refine wp_seq_k fun K10 hK11 => ?_
    refine wp_region_lit ?_
    refine st_mv hs rfl rfl ?_; clear hs w a; intro a w hs
    refine st_call hs (.c rfl .n) Try.call27 .n (put_ok X _) rfl ?_; clear hs w a; rintro v12 _ a w rfl hs; simp only [List.cons_append, List.nil_append] at hs
    refine st_as hs rfl rfl ?_; clear hs w a; intro a w hs
    refine wpList_nil ?_
    refine then_n (hK11 _ _ ?_)
    refine wp_seq_k fun K13 hK14 => ?_
    refine wp_region_lit ?_
    refine st_bs0 hs Try.underlying22 rfl ?_ ⟨_, Try.sizeOf5⟩; clear hs w a; intro g15 a w hs
    refine st_mv hs rfl rfl ?_; clear hs w a; intro a w hs
    replace hs := hs.toRow (size := 1) (m := 0) .z rfl (by decide)
    refine st_app (size := 1) (bytes := 1) hs rfl rfl .z (rd_row (hs.mem.del (.s .z))) (oneCell_bytesV _) Try.underlying22 (i := Try.t5) rfl rfl rfl rfl rfl (by decide) (by omega) (by simp only [maxLen]; omega) rfl ?_; clear hs w a; intro v16 a w hs
    refine st_mv hs rfl rfl ?_; clear hs w a; intro a w hs
    refine st_app (size := 1) (bytes := 1) hs rfl rfl .z (hs.rd0 hb) (oneCell_bytesV _) Try.underlying22 (i := Try.t5) rfl rfl rfl rfl rfl (by decide) (by omega) (by simp only [maxLen]; omega) rfl ?_; clear hs w a; intro v17 a w hs
    replace hs := hs.rerow .z (m' := vlen X.toNat + m) (xs' := bytesV (vput X.toNat ++ bs)) (by omega) (by rw [List.nil_append, bytesV_append])
    refine st_callP (v := .tuple #[.int .u64 (((((vget (vput X.toNat ++ bs)).1).toNat : Nat) : Int)), .int .i64 ((((vget (vput X.toNat ++ bs)).2.1 : Nat) : Int)), .int .i64 ((((vget (vput X.toNat ++ bs)).2.2 : Nat) : Int))]) hs (.c rfl .n) Try.call31 (get_ok _ _ (vput X.toNat ++ bs) _ (rd_row (hs.mem.del .z))) rfl ?_; clear hs w a; intro a w hs
    rw [hgp] at hs
    refine st_mv hs rfl rfl ?_; clear hs w a; intro a w hs
    refine st_ex hs rfl .z rfl ?_; clear hs w a; intro a w hs
    refine st_ex hs rfl (.s .z) rfl ?_; clear hs w a; intro a w hs
    refine st_ex hs rfl (.s (.s .z)) rfl ?_; clear hs w a; intro a w hs
    refine st_as hs rfl rfl ?_; clear hs w a; intro a w hs
    refine st_as hs rfl rfl ?_; clear hs w a; intro a w hs
    refine st_as hs rfl rfl ?_; clear hs w a; intro a w hs
    refine wpList_nil ?_
    refine then_n (hK14 _ _ ?_)
    refine wp_seq_k fun K18 hK19 => ?_
    refine wp_seq_k fun K20 hK21 => ?_
    refine wp_region_lit ?_
    refine st_mv hs rfl rfl ?_; clear hs w a; intro a w hs
    refine st_neq hs rfl rfl rfl ?_; clear hs w a; intro a w hs
    have hb_ : (!((((0 : Nat) : Int) : Int) == 0)) = false := by first | (simp; done) | (simp; omega)
    rw [hb_] at hs; clear hb_
    refine st_mv hs rfl rfl ?_; clear hs w a; intro a w hs
    refine st_guardT hs rfl rfl rfl ?_
    refine st_mv hs rfl rfl ?_; clear hs w a; intro a w hs
    refine st_guardT hs rfl rfl rfl ?_
    refine st_mv hs rfl rfl ?_; clear hs w a; intro a w hs
    refine st_guardT hs rfl rfl rfl ?_
    refine st_neq hs rfl rfl rfl ?_; clear hs w a; intro a w hs
    have hb_ : (!(((((X).toNat : Nat) : Int) : Int) == ((((X).toNat : Nat) : Int)))) = false := by first | (simp; done) | (simp; omega)
    rw [hb_] at hs; clear hb_
    refine st_pickF hs rfl rfl rfl ?_; clear hs w a; intro a w hs
    refine st_mv hs rfl rfl ?_; clear hs w a; intro a w hs
    refine st_guardT hs rfl rfl rfl ?_
    refine st_mv hs rfl rfl ?_; clear hs w a; intro a w hs
    refine st_guardT hs rfl rfl rfl ?_
    refine st_mv hs rfl rfl ?_; clear hs w a; intro a w hs
    refine st_guardT hs rfl rfl rfl ?_
    refine st_len hs rfl (rd_row (hs.mem.del (.s .z))).isSl Try.underlying22 rfl ?_; clear hs w a; intro a w hs
    refine st_guardT hs rfl rfl rfl ?_
    refine st_neq hs rfl rfl rfl ?_; clear hs w a; intro a w hs
    have hb_ : (!((((vlen X.toNat : Nat) : Int) : Int) == (((vlen X.toNat : Nat) : Int)))) = false := by first | (simp; done) | (simp; omega)
    rw [hb_] at hs; clear hb_
    refine st_pickF hs rfl rfl rfl ?_; clear hs w a; intro a w hs
    refine st_mv hs rfl rfl ?_; clear hs w a; intro a w hs
    refine st_guardT hs rfl rfl rfl ?_
    refine st_mv hs rfl rfl ?_; clear hs w a; intro a w hs
    refine st_guardT hs rfl rfl rfl ?_
    refine st_len hs rfl (rd_row (hs.mem.del (.s .z))).isSl Try.underlying22 rfl ?_; clear hs w a; intro a w hs
    refine st_guardT hs rfl rfl rfl ?_
    refine st_eql hs rfl rfl rfl ?_; clear hs w a; intro a w hs
    have hb_ : ((((vlen X.toNat : Nat) : Int) : Int) == 0) = false := by first | (simp; done) | (simp; omega)
    rw [hb_] at hs; clear hb_
    refine st_pickF hs rfl rfl rfl ?_; clear hs w a; intro a w hs
    refine st_mv hs rfl rfl ?_; clear hs w a; intro a w hs
    refine st_guardT hs rfl rfl rfl ?_
    refine st_mv hs rfl rfl ?_; clear hs w a; intro a w hs
    refine st_guardT hs rfl rfl rfl ?_
    refine st_len hs rfl (rd_row (hs.mem.del (.s .z))).isSl Try.underlying22 rfl ?_; clear hs w a; intro a w hs
    refine st_guardT hs rfl rfl rfl ?_
    refine st_gtr hs rfl rfl rfl ?_; clear hs w a; intro a w hs
    have hb_ : (decide (10 < (((vlen X.toNat : Nat) : Int)))) = false := by first | (simp; done) | (simp; omega)
    rw [hb_] at hs; clear hb_
    refine st_pickF hs rfl rfl rfl ?_; clear hs w a; intro a w hs
    refine wpList_nil ?_
    refine then_n (hK21 _ _ ?_)
    refine wp_cond_false (hs.ev rfl) ?_
    refine wp_skip ?_
    refine then_n (hK19 _ _ ?_)
    refine wp_seq_k fun K22 hK23 => ?_
    refine wp_seq_k fun K24 hK25 => ?_
    refine wp_region_lit ?_
    refine st_as hs rfl rfl ?_; clear hs w a; intro a w hs
    refine wpList_nil ?_
    refine then_n (hK25 _ _ ?_)
    refine wp_block ?_
    refine wp_loopI (fun mm_ a w => ∃ i : Nat, mm_ = vlen X.toNat - i ∧ St 108 [(0, .int .u64 ((((X).toNat : Nat) : Int))), (1, v), (5, v12), (9, .int .i64 ((i : Int)))] w0 [] [row v17 5 1 (vlen X.toNat + m) (bytesV (vput X.toNat ++ bs)), row v12 5 1 (vlen X.toNat) (bytesV (vput X.toNat))] a w ∧ 1 ≤ i ∧ i ≤ vlen X.toNat) ⟨1, rfl, hs.sub (.c rfl (.c rfl (.c rfl (.c rfl .n)))), by omega, by omega⟩ ?_
    clear hs w a; rintro mm_ a w ⟨i, rfl, hs, hI1_0, hI1_1⟩
    refine wp_seq_k fun K26 hK27 => ?_
    refine wp_seq_k fun K28 hK29 => ?_
    refine wp_region_lit ?_
    refine st_mv hs rfl rfl ?_; clear hs w a; intro a w hs
    refine st_mv hs rfl rfl ?_; clear hs w a; intro a w hs
    refine st_len hs rfl (rd_row (hs.mem.del (.s .z))).isSl Try.underlying22 rfl ?_; clear hs w a; intro a w hs
    refine st_lss hs rfl rfl rfl ?_; clear hs w a; intro a w hs
    refine wpList_nil ?_
    refine then_n (hK29 _ _ ?_)
    refine wp_if hs rfl (fun hc30 => ?_) (fun hc30 => ?_)
    ·
      replace hc30 := of_decide_eq_true hc30
      refine wp_skip ?_
      refine then_n (hK27 _ _ ?_)
      refine wp_seq_k fun K31 hK32 => ?_
      refine wp_block ?_
      refine wp_seq_k fun K33 hK34 => ?_
      refine wp_region_lit ?_
      refine st_mv hs rfl rfl ?_; clear hs w a; intro a w hs
      refine st_mv hs rfl rfl ?_; clear hs w a; intro a w hs
      refine st_slcH (j := i) hs rfl rfl rfl (rd_row (hs.mem.del (.s .z))) (by omega) Try.underlying22 Try.sizeOf5 rfl ?_; clear hs w a; intro a w hs
      refine st_callP (v := .tuple #[.int .u64 (((((vget (((vput X.toNat).take i))).1).toNat : Nat) : Int)), .int .i64 ((((vget (((vput X.toNat).take i))).2.1 : Nat) : Int)), .int .i64 ((((vget (((vput X.toNat).take i))).2.2 : Nat) : Int))]) hs (.c rfl .n) Try.call31 (get_ok _ _ (((vput X.toNat).take i)) _ ((rd_row (hs.mem.del (.s .z))).slcT (h := i) (by omega))) rfl ?_; clear hs w a; intro a w hs
      rw [vget_part X i (by omega) (by omega)] at hs
      refine st_mv hs rfl rfl ?_; clear hs w a; intro a w hs
      refine st_ex hs rfl .z rfl ?_; clear hs w a; intro a w hs
      refine st_ex hs rfl (.s .z) rfl ?_; clear hs w a; intro a w hs
      refine st_ex hs rfl (.s (.s .z)) rfl ?_; clear hs w a; intro a w hs
      refine st_as hs rfl rfl ?_; clear hs w a; intro a w hs
      refine st_as hs rfl rfl ?_; clear hs w a; intro a w hs
      refine st_as hs rfl rfl ?_; clear hs w a; intro a w hs
      refine wpList_nil ?_
      refine then_n (hK34 _ _ ?_)
      refine wp_seq_k fun K35 hK36 => ?_
      refine wp_region_lit ?_
      refine st_mv hs rfl rfl ?_; clear hs w a; intro a w hs
      refine st_neq hs rfl rfl rfl ?_; clear hs w a; intro a w hs
      have hb_ : (!(((((0#64).toNat : Nat) : Int) : Int) == 0)) = false := by first | (simp; done) | (simp; omega)
      rw [hb_] at hs; clear hb_
      refine st_mv hs rfl rfl ?_; clear hs w a; intro a w hs
      refine st_guardT hs rfl rfl rfl ?_
      refine st_mv hs rfl rfl ?_; clear hs w a; intro a w hs
      refine st_guardT hs rfl rfl rfl ?_
      refine st_neq hs rfl rfl rfl ?_; clear hs w a; intro a w hs
      have hb_ : (!((((0 : Nat) : Int) : Int) == 0)) = false := by first | (simp; done) | (simp; omega)
      rw [hb_] at hs; clear hb_
      refine st_pickF hs rfl rfl rfl ?_; clear hs w a; intro a w hs
      refine st_mv hs rfl rfl ?_; clear hs w a; intro a w hs
      refine st_guardT hs rfl rfl rfl ?_
      refine st_mv hs rfl rfl ?_; clear hs w a; intro a w hs
      refine st_guardT hs rfl rfl rfl ?_
      refine st_neq hs rfl rfl rfl ?_; clear hs w a; intro a w hs
      have hb_ : (!((((6 : Nat) : Int) : Int) == 6)) = false := by first | (simp; done) | (simp; omega)
      rw [hb_] at hs; clear hb_
      refine st_pickF hs rfl rfl rfl ?_; clear hs w a; intro a w hs
      refine wpList_nil ?_
      refine then_n (hK36 _ _ ?_)
      refine wp_cond_false (hs.ev rfl) ?_
      refine wp_skip ?_
      refine in_n ?_
      refine then_n (hK32 _ _ ?_)
      refine wp_region_lit ?_
      refine st_mv hs rfl rfl ?_; clear hs w a; intro a w hs
      refine st_addR hs rfl rfl (by omega) rfl ?_; clear hs w a; intro a w hs
      refine st_as hs rfl rfl ?_; clear hs w a; intro a w hs
      refine wpList_nil ?_
      refine then_n ?_
      refine ⟨_, ?_, i + 1, rfl, hs.sub (.c rfl (.c rfl (.c rfl (.c rfl .n)))), by omega, by omega⟩
      omega
    ·
      replace hc30 := of_decide_eq_false hc30
      refine wp_exit ?_
      refine th_e ?_
      refine th_e ?_
      refine in_hit ?_
      refine then_n (hK23 _ _ ?_)
      refine wp_seq_k fun K37 hK38 => ?_
      refine wp_seq_k fun K39 hK40 => ?_
      refine wp_region_lit ?_
      refine st_mv hs rfl rfl ?_; clear hs w a; intro a w hs
      refine st_callP (v := .tuple #[.int .u64 (((((vget bs).1).toNat : Nat) : Int)), .int .i64 ((((vget bs).2.1 : Nat) : Int)), .int .i64 ((((vget bs).2.2 : Nat) : Int))]) hs (.c rfl .n) Try.call31 (get_ok _ _ bs _ (hs.rd0 hb)) rfl ?_; clear hs w a; intro a w hs
      refine st_mv hs rfl rfl ?_; clear hs w a; intro a w hs
      refine st_ex hs rfl .z rfl ?_; clear hs w a; intro a w hs
      refine st_ex hs rfl (.s .z) rfl ?_; clear hs w a; intro a w hs
      refine st_ex hs rfl (.s (.s .z)) rfl ?_; clear hs w a; intro a w hs
      refine st_as hs rfl rfl ?_; clear hs w a; intro a w hs
      refine st_as hs rfl rfl ?_; clear hs w a; intro a w hs
      refine st_as hs rfl rfl ?_; clear hs w a; intro a w hs
      refine wpList_nil ?_
      refine then_n (hK40 _ _ ?_)
      refine wp_seq_k fun K41 hK42 => ?_
      by_cases hz : (vget bs).2.2 = 0
      ·
        have hzb := vget_back_part hz
        have hzl := vget_le bs
        replace hs := hs.sub (F' := [(15, .int .i64 ((((vget bs).2.2 : Nat) : Int))), (14, .int .i64 ((((vget bs).2.1 : Nat) : Int))), (13, .int .u64 (((((vget bs).1).toNat : Nat) : Int))), (84, .int .i64 ((((vget bs).2.2 : Nat) : Int))), (83, .int .i64 ((((vget bs).2.1 : Nat) : Int))), (82, .int .u64 (((((vget bs).1).toNat : Nat) : Int))), (79, .tuple #[.int .u64 (((((vget bs).1).toNat : Nat) : Int)), .int .i64 ((((vget bs).2.1 : Nat) : Int)), .int .i64 ((((vget bs).2.2 : Nat) : Int))]), (81, .tuple #[.int .u64 (((((vget bs).1).toNat : Nat) : Int)), .int .i64 ((((vget bs).2.1 : Nat) : Int)), .int .i64 ((((vget bs).2.2 : Nat) : Int))]), (80, v), (58, .bool (decide ((i : Int) < (((vlen X.toNat : Nat) : Int))))), (57, .int .i64 (((vlen X.toNat : Nat) : Int))), (56, v12), (55, .int .i64 ((i : Int))), (0, .int .u64 ((((X).toNat : Nat) : Int))), (1, v), (5, v12), (9, .int .i64 ((i : Int)))]) (.c rfl (.c rfl (.c rfl (.c rfl (.c rfl (.c rfl (.c rfl (.c rfl (.c rfl (.c rfl (.c rfl (.c rfl (.c rfl (.c rfl (.c rfl (.c rfl (.c rfl .n)))))))))))))))))
        refine wp_draw (Ps := [eqv (.int .i64 ((((vget bs).2.2 : Nat) : Int))), eqv (.bool (true)), eqv (.bool (true)), eqv (.int .i64 ((((vget bs).2.1 : Nat) : Int))), eqv (.bool (false)), eqv (.bool (false)), eqv (.int .i64 ((((vget bs).2.1 : Nat) : Int))), eqv (v), eqv (.int .i64 ((m : Int))), eqv (.bool (false)), eqv (.bool (false)), eqv (.bool (false)), eqv (.int .u64 (((((vget bs).1).toNat : Nat) : Int))), rdv 1 (vlen ((vget bs).1).toNat) (bytesV (vput ((vget bs).1).toNat)), eqv (.string (strB ((vput ((vget bs).1).toNat)))), eqv (v), eqv (.int .i64 ((((vget bs).2.1 : Nat) : Int))), eqv (slcV v 1 0 ((vget bs).2.1)), eqv (.string (strB ((bs.take ((vget bs).2.1))))), eqv (.bool (false)), eqv (.bool (false)), eqv (.bool (false))]) (by kernel_rfl) hs (by kernel_rfl) ?_ ?_
        · refine (.c ?_ (.c ?_ (.c ?_ (.c ?_ (.c ?_ (.c ?_ (.c ?_ (.c ?_ (.c ?_ (.c ?_ (.c ?_ (.c ?_ (.c ?_ (.c ?_ (.c ?_ (.c ?_ (.c ?_ (.c ?_ (.c ?_ (.c ?_ (.c ?_ (.c ?_ .n))))))))))))))))))))))
          · intro a_ w_ R hm hs hp
            have hs0 := hs
            refine st_mv hs rfl rfl ?_; clear hs; intro a w hs
            exact wpList_nil ⟨rfl, _, _, _, _, rfl, hs0, .r, hs, rfl⟩
          · intro a_ w_ R hm hs hp
            obtain ⟨v85, h85, p85⟩ := (hp 0 ⟨⟨0, .data⟩, mem_arr (.head _), rfl, rfl⟩).get rfl rfl
            rw [show v85 = .int .i64 ((((vget bs).2.2 : Nat) : Int)) from p85] at h85; clear p85
            replace hs := hs.learn h85
            have hs0 := hs
            refine st_eql hs rfl rfl rfl ?_; clear hs; intro a w hs
            have hb_ : (((((vget bs).2.2 : Nat) : Int) : Int) == 0) = true := by rw [hz]; rfl
            rw [hb_] at hs; clear hb_
            exact wpList_nil ⟨rfl, _, _, _, _, rfl, hs0, (.c .r), hs, rfl⟩
          · intro a_ w_ R hm hs hp
            obtain ⟨v86, h86, p86⟩ := (hp 1 ⟨⟨1, .data⟩, mem_arr (.head _), rfl, rfl⟩).get rfl rfl
            rw [show v86 = .bool (true) from p86] at h86; clear p86
            replace hs := hs.learn h86
            have hs0 := hs
            refine st_mv hs rfl rfl ?_; clear hs; intro a w hs
            exact wpList_nil ⟨rfl, _, _, _, _, rfl, hs0, (.c .r), hs, rfl⟩
          · intro a_ w_ R hm hs hp
            obtain ⟨v87, h87, p87⟩ := (hp 2 ⟨⟨2, .guard⟩, mem_arr (.head _), rfl, rfl⟩).get rfl rfl
            rw [show v87 = .bool (true) from p87] at h87; clear p87
            replace hs := hs.learn h87
            have hs0 := hs
            refine st_guardT hs rfl rfl rfl ?_
            refine st_mv hs rfl rfl ?_; clear hs; intro a w hs
            exact wpList_nil ⟨rfl, _, _, _, _, rfl, hs0, (.c .r), hs, rfl⟩
          · intro a_ w_ R hm hs hp
            obtain ⟨v88, h88, p88⟩ := (hp 3 ⟨⟨3, .data⟩, mem_arr (.head _), rfl, rfl⟩).get rfl rfl
            rw [show v88 = .int .i64 ((((vget bs).2.1 : Nat) : Int)) from p88] at h88; clear p88
            replace hs := hs.learn h88
            obtain ⟨v87, h87, p87⟩ := (hp 2 ⟨⟨2, .guard⟩, mem_arr (.tail _ (.head _)), rfl, rfl⟩).get rfl rfl
            rw [show v87 = .bool (true) from p87] at h87; clear p87
            replace hs := hs.learn h87
            have hs0 := hs
            refine st_guardT hs rfl rfl rfl ?_
            refine st_lss hs rfl rfl rfl ?_; clear hs; intro a w hs
            have hb_ : (decide (((((vget bs).2.1 : Nat) : Int)) < 1)) = false := decide_eq_false (by omega)
            rw [hb_] at hs; clear hb_
            exact wpList_nil ⟨rfl, _, _, _, _, rfl, hs0, (.c (.c .r)), hs, rfl⟩
          · intro a_ w_ R hm hs hp
            obtain ⟨v89, h89, p89⟩ := (hp 4 ⟨⟨4, .data⟩, mem_arr (.head _), rfl, rfl⟩).get rfl rfl
            rw [show v89 = .bool (false) from p89] at h89; clear p89
            replace hs := hs.learn h89
            obtain ⟨v87, h87, p87⟩ := (hp 2 ⟨⟨2, .chain⟩, mem_arr (.tail _ (.head _)), rfl, rfl⟩).get rfl rfl
            rw [show v87 = .bool (true) from p87] at h87; clear p87
            replace hs := hs.learn h87
            have hs0 := hs
            refine st_guardT hs rfl rfl rfl ?_
            refine st_mv hs rfl rfl ?_; clear hs; intro a w hs
            exact wpList_nil ⟨rfl, _, _, _, _, rfl, hs0, (.c (.c .r)), hs, rfl⟩
          · intro a_ w_ R hm hs hp
            obtain ⟨v90, h90, p90⟩ := (hp 5 ⟨⟨5, .guard⟩, mem_arr (.head _), rfl, rfl⟩).get rfl rfl
            rw [show v90 = .bool (false) from p90] at h90; clear p90
            replace hs := hs.learn h90
            have hs0 := hs
            refine st_guardT hs rfl rfl rfl ?_
            refine st_mv hs rfl rfl ?_; clear hs; intro a w hs
            exact wpList_nil ⟨rfl, _, _, _, _, rfl, hs0, (.c .r), hs, rfl⟩
          · intro a_ w_ R hm hs hp
            obtain ⟨v90, h90, p90⟩ := (hp 5 ⟨⟨5, .guard⟩, mem_arr (.head _), rfl, rfl⟩).get rfl rfl
            rw [show v90 = .bool (false) from p90] at h90; clear p90
            replace hs := hs.learn h90
            have hs0 := hs
            refine st_guardT hs rfl rfl rfl ?_
            refine st_mv hs rfl rfl ?_; clear hs; intro a w hs
            exact wpList_nil ⟨rfl, _, _, _, _, rfl, hs0, (.c .r), hs, rfl⟩
          · intro a_ w_ R hm hs hp
            obtain ⟨v92, h92, p92⟩ := (hp 7 ⟨⟨7, .data⟩, mem_arr (.head _), rfl, rfl⟩).get rfl rfl
            rw [show v92 = v from p92] at h92; clear p92
            replace hs := hs.learn h92
            obtain ⟨v90, h90, p90⟩ := (hp 5 ⟨⟨5, .guard⟩, mem_arr (.tail _ (.head _)), rfl, rfl⟩).get rfl rfl
            rw [show v90 = .bool (false) from p90] at h90; clear p90
            replace hs := hs.learn h90
            have hs0 := hs
            refine st_guardT hs rfl rfl rfl ?_
            refine st_len hs rfl (hm.rd0 hb).isSl Try.underlying22 rfl ?_; clear hs; intro a w hs
            exact wpList_nil ⟨rfl, _, _, _, _, rfl, hs0, (.c (.c .r)), hs, rfl⟩
          · intro a_ w_ R hm hs hp
            obtain ⟨v91, h91, p91⟩ := (hp 6 ⟨⟨6, .data⟩, mem_arr (.head _), rfl, rfl⟩).get rfl rfl
            rw [show v91 = .int .i64 ((((vget bs).2.1 : Nat) : Int)) from p91] at h91; clear p91
            replace hs := hs.learn h91
            obtain ⟨v93, h93, p93⟩ := (hp 8 ⟨⟨8, .data⟩, mem_arr (.tail _ (.head _)), rfl, rfl⟩).get rfl rfl
            rw [show v93 = .int .i64 ((m : Int)) from p93] at h93; clear p93
            replace hs := hs.learn h93
            obtain ⟨v90, h90, p90⟩ := (hp 5 ⟨⟨5, .guard⟩, mem_arr (.tail _ (.tail _ (.head _))), rfl, rfl⟩).get rfl rfl
            rw [show v90 = .bool (false) from p90] at h90; clear p90
            replace hs := hs.learn h90
            have hs0 := hs
            refine st_guardT hs rfl rfl rfl ?_
            refine st_gtr hs rfl rfl rfl ?_; clear hs; intro a w hs
            have hb_ : (decide ((m : Int) < ((((vget bs).2.1 : Nat) : Int)))) = false := decide_eq_false (by omega)
            rw [hb_] at hs; clear hb_
            exact wpList_nil ⟨rfl, _, _, _, _, rfl, hs0, (.c (.c (.c .r))), hs, rfl⟩
          · intro a_ w_ R hm hs hp
            obtain ⟨v90, h90, p90⟩ := (hp 5 ⟨⟨5, .data⟩, mem_arr (.head _), rfl, rfl⟩).get rfl rfl
            rw [show v90 = .bool (false) from p90] at h90; clear p90
            replace hs := hs.learn h90
            obtain ⟨v94, h94, p94⟩ := (hp 9 ⟨⟨9, .data⟩, mem_arr (.tail _ (.head _)), rfl, rfl⟩).get rfl rfl
            rw [show v94 = .bool (false) from p94] at h94; clear p94
            replace hs := hs.learn h94
            obtain ⟨v87, h87, p87⟩ := (hp 2 ⟨⟨2, .guard⟩, mem_arr (.tail _ (.tail _ (.head _))), rfl, rfl⟩).get rfl rfl
            rw [show v87 = .bool (true) from p87] at h87; clear p87
            replace hs := hs.learn h87
            have hs0 := hs
            refine st_guardT hs rfl rfl rfl ?_
            refine st_pickF hs rfl rfl rfl ?_; clear hs; intro a w hs
            exact wpList_nil ⟨rfl, _, _, _, _, rfl, hs0, (.c (.c (.c .r))), hs, rfl⟩
          · intro a_ w_ R hm hs hp
            obtain ⟨v95, h95, p95⟩ := (hp 10 ⟨⟨10, .data⟩, mem_arr (.head _), rfl, rfl⟩).get rfl rfl
            rw [show v95 = .bool (false) from p95] at h95; clear p95
            replace hs := hs.learn h95
            obtain ⟨v87, h87, p87⟩ := (hp 2 ⟨⟨2, .guard⟩, mem_arr (.tail _ (.tail _ (.head _))), rfl, rfl⟩).get rfl rfl
            rw [show v87 = .bool (true) from p87] at h87; clear p87
            replace hs := hs.learn h87
            have hs0 := hs
            refine st_guardT hs rfl rfl rfl ?_
            refine st_mv hs rfl rfl ?_; clear hs; intro a w hs
            exact wpList_nil ⟨rfl, _, _, _, _, rfl, hs0, (.c (.c .r)), hs, rfl⟩
          · intro a_ w_ R hm hs hp
            obtain ⟨v96, h96, p96⟩ := (hp 11 ⟨⟨11, .guard⟩, mem_arr (.head _), rfl, rfl⟩).get rfl rfl
            rw [show v96 = .bool (false) from p96] at h96; clear p96
            replace hs := hs.learn h96
            have hs0 := hs
            refine st_guardT hs rfl rfl rfl ?_
            refine st_mv hs rfl rfl ?_; clear hs; intro a w hs
            exact wpList_nil ⟨rfl, _, _, _, _, rfl, hs0, (.c .r), hs, rfl⟩
          · intro a_ w_ R hm hs hp
            obtain ⟨v97, h97, p97⟩ := (hp 12 ⟨⟨12, .data⟩, mem_arr (.head _), rfl, rfl⟩).get rfl rfl
            rw [show v97 = .int .u64 (((((vget bs).1).toNat : Nat) : Int)) from p97] at h97; clear p97
            replace hs := hs.learn h97
            obtain ⟨v96, h96, p96⟩ := (hp 11 ⟨⟨11, .chain⟩, mem_arr (.tail _ (.head _)), rfl, rfl⟩).get rfl rfl
            rw [show v96 = .bool (false) from p96] at h96; clear p96
            replace hs := hs.learn h96
            have hs0 := hs
            refine st_guardT hs rfl rfl rfl ?_
            refine st_call hs (.c rfl .n) Try.call27 .n (put_ok ((vget bs).1) _) rfl ?_; clear hs; rintro v43 _ a w rfl hs; simp only [List.cons_append, List.nil_append] at hs
            exact wpList_nil ⟨rfl, _, _, _, _, rfl, hs0, (.c (.c .r)), hs, rd_row (hs.mem.del .z)⟩
          · intro a_ w_ R hm hs hp
            obtain ⟨v98, h98, p98⟩ := (hp 13 ⟨⟨13, .data⟩, mem_arr (.head _), rfl, rfl⟩).get rfl rfl
            replace hs := hs.learn h98
            obtain ⟨v96, h96, p96⟩ := (hp 11 ⟨⟨11, .guard⟩, mem_arr (.tail _ (.head _)), rfl, rfl⟩).get rfl rfl
            rw [show v96 = .bool (false) from p96] at h96; clear p96
            replace hs := hs.learn h96
            have hs0 := hs
            refine st_guardT hs rfl rfl rfl ?_
            refine st_str (bs := (vput ((vget bs).1).toNat)) hs rfl (p98) Try.underlying22 Try.underlying5 Try.underlying9 rfl ?_; clear hs; intro a w hs
            exact wpList_nil ⟨rfl, _, _, _, _, rfl, hs0, (.c (.c .r)), hs, rfl⟩
          · intro a_ w_ R hm hs hp
            obtain ⟨v96, h96, p96⟩ := (hp 11 ⟨⟨11, .guard⟩, mem_arr (.head _), rfl, rfl⟩).get rfl rfl
            rw [show v96 = .bool (false) from p96] at h96; clear p96
            replace hs := hs.learn h96
            have hs0 := hs
            refine st_guardT hs rfl rfl rfl ?_
            refine st_mv hs rfl rfl ?_; clear hs; intro a w hs
            exact wpList_nil ⟨rfl, _, _, _, _, rfl, hs0, (.c .r), hs, rfl⟩
          · intro a_ w_ R hm hs hp
            obtain ⟨v96, h96, p96⟩ := (hp 11 ⟨⟨11, .guard⟩, mem_arr (.head _), rfl, rfl⟩).get rfl rfl
            rw [show v96 = .bool (false) from p96] at h96; clear p96
            replace hs := hs.learn h96
            have hs0 := hs
            refine st_guardT hs rfl rfl rfl ?_
            refine st_mv hs rfl rfl ?_; clear hs; intro a w hs
            exact wpList_nil ⟨rfl, _, _, _, _, rfl, hs0, (.c .r), hs, rfl⟩
          · intro a_ w_ R hm hs hp
            obtain ⟨v100, h100, p100⟩ := (hp 15 ⟨⟨15, .data⟩, mem_arr (.head _), rfl, rfl⟩).get rfl rfl
            rw [show v100 = v from p100] at h100; clear p100
            replace hs := hs.learn h100
            obtain ⟨v101, h101, p101⟩ := (hp 16 ⟨⟨16, .data⟩, mem_arr (.tail _ (.head _)), rfl, rfl⟩).get rfl rfl
            rw [show v101 = .int .i64 ((((vget bs).2.1 : Nat) : Int)) from p101] at h101; clear p101
            replace hs := hs.learn h101
            obtain ⟨v96, h96, p96⟩ := (hp 11 ⟨⟨11, .guard⟩, mem_arr (.tail _ (.tail _ (.head _))), rfl, rfl⟩).get rfl rfl
            rw [show v96 = .bool (false) from p96] at h96; clear p96
            replace hs := hs.learn h96
            have hs0 := hs
            refine st_guardT hs rfl rfl rfl ?_
            refine st_slcH (j := (vget bs).2.1) hs rfl rfl rfl (hm.rd0 hb) (by omega) Try.underlying22 Try.sizeOf5 rfl ?_; clear hs; intro a w hs
            exact wpList_nil ⟨rfl, _, _, _, _, rfl, hs0, (.c (.c (.c .r))), hs, rfl⟩
          · intro a_ w_ R hm hs hp
            obtain ⟨v102, h102, p102⟩ := (hp 17 ⟨⟨17, .data⟩, mem_arr (.head _), rfl, rfl⟩).get rfl rfl
            rw [show v102 = slcV v 1 0 ((vget bs).2.1) from p102] at h102; clear p102
            replace hs := hs.learn h102
            obtain ⟨v96, h96, p96⟩ := (hp 11 ⟨⟨11, .guard⟩, mem_arr (.tail _ (.head _)), rfl, rfl⟩).get rfl rfl
            rw [show v96 = .bool (false) from p96] at h96; clear p96
            replace hs := hs.learn h96
            have hs0 := hs
            refine st_guardT hs rfl rfl rfl ?_
            refine st_str (bs := (bs.take ((vget bs).2.1))) hs rfl ((hm.rd0 hb).slcT (h := ((vget bs).2.1)) (by omega)) Try.underlying22 Try.underlying5 Try.underlying9 rfl ?_; clear hs; intro a w hs
            exact wpList_nil ⟨rfl, _, _, _, _, rfl, hs0, (.c (.c .r)), hs, rfl⟩
          · intro a_ w_ R hm hs hp
            obtain ⟨v99, h99, p99⟩ := (hp 14 ⟨⟨14, .data⟩, mem_arr (.head _), rfl, rfl⟩).get rfl rfl
            rw [show v99 = .string (strB ((vput ((vget bs).1).toNat))) from p99] at h99; clear p99
            replace hs := hs.learn h99
            obtain ⟨v103, h103, p103⟩ := (hp 18 ⟨⟨18, .data⟩, mem_arr (.tail _ (.head _)), rfl, rfl⟩).get rfl rfl
            rw [show v103 = .string (strB ((bs.take ((vget bs).2.1)))) from p103] at h103; clear p103
            replace hs := hs.learn h103
            obtain ⟨v96, h96, p96⟩ := (hp 11 ⟨⟨11, .guard⟩, mem_arr (.tail _ (.tail _ (.head _))), rfl, rfl⟩).get rfl rfl
            rw [show v96 = .bool (false) from p96] at h96; clear p96
            replace hs := hs.learn h96
            have hs0 := hs
            refine st_guardT hs rfl rfl rfl ?_
            refine st_nes (p := strB ((vput ((vget bs).1).toNat))) (q := strB ((bs.take ((vget bs).2.1)))) hs rfl rfl rfl ?_; clear hs; intro a w hs
            have hb_ : (!((strB ((vput ((vget bs).1).toNat))).toList == (strB ((bs.take ((vget bs).2.1)))).toList)) = false := by rw [strB_eq, hzb.2.2]; simp
            rw [hb_] at hs; clear hb_
            exact wpList_nil ⟨rfl, _, _, _, _, rfl, hs0, (.c (.c (.c .r))), hs, rfl⟩
          · intro a_ w_ R hm hs hp
            obtain ⟨v96, h96, p96⟩ := (hp 11 ⟨⟨11, .data⟩, mem_arr (.head _), rfl, rfl⟩).get rfl rfl
            rw [show v96 = .bool (false) from p96] at h96; clear p96
            replace hs := hs.learn h96
            obtain ⟨v104, h104, p104⟩ := (hp 19 ⟨⟨19, .data⟩, mem_arr (.tail _ (.head _)), rfl, rfl⟩).get rfl rfl
            rw [show v104 = .bool (false) from p104] at h104; clear p104
            replace hs := hs.learn h104
            obtain ⟨v87, h87, p87⟩ := (hp 2 ⟨⟨2, .guard⟩, mem_arr (.tail _ (.tail _ (.head _))), rfl, rfl⟩).get rfl rfl
            rw [show v87 = .bool (true) from p87] at h87; clear p87
            replace hs := hs.learn h87
            have hs0 := hs
            refine st_guardT hs rfl rfl rfl ?_
            refine st_pickF hs rfl rfl rfl ?_; clear hs; intro a w hs
            exact wpList_nil ⟨rfl, _, _, _, _, rfl, hs0, (.c (.c (.c .r))), hs, rfl⟩
          · intro a_ w_ R hm hs hp
            obtain ⟨v87, h87, p87⟩ := (hp 2 ⟨⟨2, .data⟩, mem_arr (.head _), rfl, rfl⟩).get rfl rfl
            rw [show v87 = .bool (true) from p87] at h87; clear p87
            replace hs := hs.learn h87
            obtain ⟨v105, h105, p105⟩ := (hp 20 ⟨⟨20, .data⟩, mem_arr (.tail _ (.head _)), rfl, rfl⟩).get rfl rfl
            rw [show v105 = .bool (false) from p105] at h105; clear p105
            replace hs := hs.learn h105
            have hs0 := hs
            refine st_pickT hs rfl rfl rfl ?_; clear hs; intro a w hs
            exact wpList_nil ⟨rfl, _, _, _, _, rfl, hs0, (.c (.c .r)), hs, rfl⟩
        · clear hs w a; intro a w hs hf
          obtain ⟨v106, h106, p106⟩ := (hf 21 (by decide)).get rfl rfl
          rw [show v106 = .bool (false) from p106] at h106; clear p106
          replace hs := hs.learn h106; clear h106
          clear hf
          refine then_n (hK42 _ _ ?_)
          refine wp_cond_false (hs.ev rfl) ?_
          refine wp_skip ?_
          refine then_n (hK38 _ _ ?_)
          refine wp_seq_k fun K44 hK45 => ?_
          refine wp_region_lit ?_
          refine st_callP (v := .bool (true)) hs .n Try.call28 (alive05_ok _) rfl ?_; clear hs w a; intro a w hs
          refine st_as hs rfl rfl ?_; clear hs w a; intro a w hs
          refine wpList_nil ?_
          refine then_n (hK45 _ _ ?_)
          refine wp_ret ?_
          replace hs := hs.drop (.c (.s .z) (.c .z .n))
          exact fin hs rfl rfl ⟨rfl, rfl⟩
      ·
        have hzl := vget_le bs
        replace hs := hs.sub (F' := [(15, .int .i64 ((((vget bs).2.2 : Nat) : Int))), (14, .int .i64 ((((vget bs).2.1 : Nat) : Int))), (13, .int .u64 (((((vget bs).1).toNat : Nat) : Int))), (84, .int .i64 ((((vget bs).2.2 : Nat) : Int))), (83, .int .i64 ((((vget bs).2.1 : Nat) : Int))), (82, .int .u64 (((((vget bs).1).toNat : Nat) : Int))), (79, .tuple #[.int .u64 (((((vget bs).1).toNat : Nat) : Int)), .int .i64 ((((vget bs).2.1 : Nat) : Int)), .int .i64 ((((vget bs).2.2 : Nat) : Int))]), (81, .tuple #[.int .u64 (((((vget bs).1).toNat : Nat) : Int)), .int .i64 ((((vget bs).2.1 : Nat) : Int)), .int .i64 ((((vget bs).2.2 : Nat) : Int))]), (80, v), (58, .bool (decide ((i : Int) < (((vlen X.toNat : Nat) : Int))))), (57, .int .i64 (((vlen X.toNat : Nat) : Int))), (56, v12), (55, .int .i64 ((i : Int))), (0, .int .u64 ((((X).toNat : Nat) : Int))), (1, v), (5, v12), (9, .int .i64 ((i : Int)))]) (.c rfl (.c rfl (.c rfl (.c rfl (.c rfl (.c rfl (.c rfl (.c rfl (.c rfl (.c rfl (.c rfl (.c rfl (.c rfl (.c rfl (.c rfl (.c rfl (.c rfl .n)))))))))))))))))
        refine wp_draw (Ps := [eqv (.int .i64 ((((vget bs).2.2 : Nat) : Int))), eqv (.bool (false)), eqv (.bool (false)), eqv (undef), eqv (undef), eqv (undef), eqv (undef), eqv (undef), eqv (undef), eqv (undef), eqv (undef), eqv (undef), eqv (undef), eqv (undef), eqv (undef), eqv (undef), eqv (undef), eqv (undef), eqv (undef), eqv (undef), eqv (undef), eqv (.bool (false))]) (by kernel_rfl) hs (by kernel_rfl) ?_ ?_
        · refine (.c ?_ (.c ?_ (.c ?_ (.c ?_ (.c ?_ (.c ?_ (.c ?_ (.c ?_ (.c ?_ (.c ?_ (.c ?_ (.c ?_ (.c ?_ (.c ?_ (.c ?_ (.c ?_ (.c ?_ (.c ?_ (.c ?_ (.c ?_ (.c ?_ (.c ?_ .n))))))))))))))))))))))
          · intro a_ w_ R hm hs hp
            have hs0 := hs
            refine st_mv hs rfl rfl ?_; clear hs; intro a w hs
            exact wpList_nil ⟨rfl, _, _, _, _, rfl, hs0, .r, hs, rfl⟩
          · intro a_ w_ R hm hs hp
            obtain ⟨v85, h85, p85⟩ := (hp 0 ⟨⟨0, .data⟩, mem_arr (.head _), rfl, rfl⟩).get rfl rfl
            rw [show v85 = .int .i64 ((((vget bs).2.2 : Nat) : Int)) from p85] at h85; clear p85
            replace hs := hs.learn h85
            have hs0 := hs
            refine st_eql hs rfl rfl rfl ?_; clear hs; intro a w hs
            have hb_ : (((((vget bs).2.2 : Nat) : Int) : Int) == 0) = false := by simp; omega
            rw [hb_] at hs; clear hb_
            exact wpList_nil ⟨rfl, _, _, _, _, rfl, hs0, (.c .r), hs, rfl⟩
          · intro a_ w_ R hm hs hp
            obtain ⟨v86, h86, p86⟩ := (hp 1 ⟨⟨1, .data⟩, mem_arr (.head _), rfl, rfl⟩).get rfl rfl
            rw [show v86 = .bool (false) from p86] at h86; clear p86
            replace hs := hs.learn h86
            have hs0 := hs
            refine st_mv hs rfl rfl ?_; clear hs; intro a w hs
            exact wpList_nil ⟨rfl, _, _, _, _, rfl, hs0, (.c .r), hs, rfl⟩
          · intro a_ w_ R hm hs hp
            obtain ⟨v87, h87, p87⟩ := (hp 2 ⟨⟨2, .guard⟩, mem_arr (.head _), rfl, rfl⟩).get rfl rfl
            rw [show v87 = .bool (false) from p87] at h87; clear p87
            replace hs := hs.learn h87
            have hs0 := hs
            refine st_guardF hs rfl rfl rfl rfl rfl ?_; clear hs; intro a w hs
            exact wpList_nil ⟨rfl, _, _, _, _, rfl, hs0, (.c .r), hs, rfl⟩
          · intro a_ w_ R hm hs hp
            obtain ⟨v88, h88, p88⟩ := (hp 3 ⟨⟨3, .data⟩, mem_arr (.head _), rfl, rfl⟩).get rfl rfl
            rw [show v88 = undef from p88] at h88; clear p88
            replace hs := hs.learn h88
            obtain ⟨v87, h87, p87⟩ := (hp 2 ⟨⟨2, .guard⟩, mem_arr (.tail _ (.head _)), rfl, rfl⟩).get rfl rfl
            rw [show v87 = .bool (false) from p87] at h87; clear p87
            replace hs := hs.learn h87
            have hs0 := hs
            refine st_guardF hs rfl rfl rfl rfl rfl ?_; clear hs; intro a w hs
            exact wpList_nil ⟨rfl, _, _, _, _, rfl, hs0, (.c (.c .r)), hs, rfl⟩
          · intro a_ w_ R hm hs hp
            obtain ⟨v89, h89, p89⟩ := (hp 4 ⟨⟨4, .data⟩, mem_arr (.head _), rfl, rfl⟩).get rfl rfl
            rw [show v89 = undef from p89] at h89; clear p89
            replace hs := hs.learn h89
            obtain ⟨v87, h87, p87⟩ := (hp 2 ⟨⟨2, .chain⟩, mem_arr (.tail _ (.head _)), rfl, rfl⟩).get rfl rfl
            rw [show v87 = .bool (false) from p87] at h87; clear p87
            replace hs := hs.learn h87
            have hs0 := hs
            refine st_guardF hs rfl rfl rfl rfl rfl ?_; clear hs; intro a w hs
            exact wpList_nil ⟨rfl, _, _, _, _, rfl, hs0, (.c (.c .r)), hs, rfl⟩
          · intro a_ w_ R hm hs hp
            obtain ⟨v90, h90, p90⟩ := (hp 5 ⟨⟨5, .guard⟩, mem_arr (.head _), rfl, rfl⟩).get rfl rfl
            rw [show v90 = undef from p90] at h90; clear p90
            replace hs := hs.learn h90
            have hs0 := hs
            refine st_guardU hs rfl rfl rfl rfl ?_; clear hs; intro a w hs
            exact wpList_nil ⟨rfl, _, _, _, _, rfl, hs0, (.c .r), hs, rfl⟩
          · intro a_ w_ R hm hs hp
            obtain ⟨v90, h90, p90⟩ := (hp 5 ⟨⟨5, .guard⟩, mem_arr (.head _), rfl, rfl⟩).get rfl rfl
            rw [show v90 = undef from p90] at h90; clear p90
            replace hs := hs.learn h90
            have hs0 := hs
            refine st_guardU hs rfl rfl rfl rfl ?_; clear hs; intro a w hs
            exact wpList_nil ⟨rfl, _, _, _, _, rfl, hs0, (.c .r), hs, rfl⟩
          · intro a_ w_ R hm hs hp
            obtain ⟨v92, h92, p92⟩ := (hp 7 ⟨⟨7, .data⟩, mem_arr (.head _), rfl, rfl⟩).get rfl rfl
            rw [show v92 = undef from p92] at h92; clear p92
            replace hs := hs.learn h92
            obtain ⟨v90, h90, p90⟩ := (hp 5 ⟨⟨5, .guard⟩, mem_arr (.tail _ (.head _)), rfl, rfl⟩).get rfl rfl
            rw [show v90 = undef from p90] at h90; clear p90
            replace hs := hs.learn h90
            have hs0 := hs
            refine st_guardU hs rfl rfl rfl rfl ?_; clear hs; intro a w hs
            exact wpList_nil ⟨rfl, _, _, _, _, rfl, hs0, (.c (.c .r)), hs, rfl⟩
          · intro a_ w_ R hm hs hp
            obtain ⟨v91, h91, p91⟩ := (hp 6 ⟨⟨6, .data⟩, mem_arr (.head _), rfl, rfl⟩).get rfl rfl
            rw [show v91 = undef from p91] at h91; clear p91
            replace hs := hs.learn h91
            obtain ⟨v93, h93, p93⟩ := (hp 8 ⟨⟨8, .data⟩, mem_arr (.tail _ (.head _)), rfl, rfl⟩).get rfl rfl
            rw [show v93 = undef from p93] at h93; clear p93
            replace hs := hs.learn h93
            obtain ⟨v90, h90, p90⟩ := (hp 5 ⟨⟨5, .guard⟩, mem_arr (.tail _ (.tail _ (.head _))), rfl, rfl⟩).get rfl rfl
            rw [show v90 = undef from p90] at h90; clear p90
            replace hs := hs.learn h90
            have hs0 := hs
            refine st_guardU hs rfl rfl rfl rfl ?_; clear hs; intro a w hs
            exact wpList_nil ⟨rfl, _, _, _, _, rfl, hs0, (.c (.c (.c .r))), hs, rfl⟩
          · intro a_ w_ R hm hs hp
            obtain ⟨v90, h90, p90⟩ := (hp 5 ⟨⟨5, .data⟩, mem_arr (.head _), rfl, rfl⟩).get rfl rfl
            rw [show v90 = undef from p90] at h90; clear p90
            replace hs := hs.learn h90
            obtain ⟨v94, h94, p94⟩ := (hp 9 ⟨⟨9, .data⟩, mem_arr (.tail _ (.head _)), rfl, rfl⟩).get rfl rfl
            rw [show v94 = undef from p94] at h94; clear p94
            replace hs := hs.learn h94
            obtain ⟨v87, h87, p87⟩ := (hp 2 ⟨⟨2, .guard⟩, mem_arr (.tail _ (.tail _ (.head _))), rfl, rfl⟩).get rfl rfl
            rw [show v87 = .bool (false) from p87] at h87; clear p87
            replace hs := hs.learn h87
            have hs0 := hs
            refine st_guardF hs rfl rfl rfl rfl rfl ?_; clear hs; intro a w hs
            exact wpList_nil ⟨rfl, _, _, _, _, rfl, hs0, (.c (.c (.c .r))), hs, rfl⟩
          · intro a_ w_ R hm hs hp
            obtain ⟨v95, h95, p95⟩ := (hp 10 ⟨⟨10, .data⟩, mem_arr (.head _), rfl, rfl⟩).get rfl rfl
            rw [show v95 = undef from p95] at h95; clear p95
            replace hs := hs.learn h95
            obtain ⟨v87, h87, p87⟩ := (hp 2 ⟨⟨2, .guard⟩, mem_arr (.tail _ (.tail _ (.head _))), rfl, rfl⟩).get rfl rfl
            rw [show v87 = .bool (false) from p87] at h87; clear p87
            replace hs := hs.learn h87
            have hs0 := hs
            refine st_guardF hs rfl rfl rfl rfl rfl ?_; clear hs; intro a w hs
            exact wpList_nil ⟨rfl, _, _, _, _, rfl, hs0, (.c (.c .r)), hs, rfl⟩
          · intro a_ w_ R hm hs hp
            obtain ⟨v96, h96, p96⟩ := (hp 11 ⟨⟨11, .guard⟩, mem_arr (.head _), rfl, rfl⟩).get rfl rfl
            rw [show v96 = undef from p96] at h96; clear p96
            replace hs := hs.learn h96
            have hs0 := hs
            refine st_guardU hs rfl rfl rfl rfl ?_; clear hs; intro a w hs
            exact wpList_nil ⟨rfl, _, _, _, _, rfl, hs0, (.c .r), hs, rfl⟩
          · intro a_ w_ R hm hs hp
            obtain ⟨v97, h97, p97⟩ := (hp 12 ⟨⟨12, .data⟩, mem_arr (.head _), rfl, rfl⟩).get rfl rfl
            rw [show v97 = undef from p97] at h97; clear p97
            replace hs := hs.learn h97
            obtain ⟨v96, h96, p96⟩ := (hp 11 ⟨⟨11, .chain⟩, mem_arr (.tail _ (.head _)), rfl, rfl⟩).get rfl rfl
            rw [show v96 = undef from p96] at h96; clear p96
            replace hs := hs.learn h96
            have hs0 := hs
            refine st_guardU hs rfl rfl rfl rfl ?_; clear hs; intro a w hs
            exact wpList_nil ⟨rfl, _, _, _, _, rfl, hs0, (.c (.c .r)), hs, rfl⟩
          · intro a_ w_ R hm hs hp
            obtain ⟨v98, h98, p98⟩ := (hp 13 ⟨⟨13, .data⟩, mem_arr (.head _), rfl, rfl⟩).get rfl rfl
            rw [show v98 = undef from p98] at h98; clear p98
            replace hs := hs.learn h98
            obtain ⟨v96, h96, p96⟩ := (hp 11 ⟨⟨11, .guard⟩, mem_arr (.tail _ (.head _)), rfl, rfl⟩).get rfl rfl
            rw [show v96 = undef from p96] at h96; clear p96
            replace hs := hs.learn h96
            have hs0 := hs
            refine st_guardU hs rfl rfl rfl rfl ?_; clear hs; intro a w hs
            exact wpList_nil ⟨rfl, _, _, _, _, rfl, hs0, (.c (.c .r)), hs, rfl⟩
          · intro a_ w_ R hm hs hp
            obtain ⟨v96, h96, p96⟩ := (hp 11 ⟨⟨11, .guard⟩, mem_arr (.head _), rfl, rfl⟩).get rfl rfl
            rw [show v96 = undef from p96] at h96; clear p96
            replace hs := hs.learn h96
            have hs0 := hs
            refine st_guardU hs rfl rfl rfl rfl ?_; clear hs; intro a w hs
            exact wpList_nil ⟨rfl, _, _, _, _, rfl, hs0, (.c .r), hs, rfl⟩
          · intro a_ w_ R hm hs hp
            obtain ⟨v96, h96, p96⟩ := (hp 11 ⟨⟨11, .guard⟩, mem_arr (.head _), rfl, rfl⟩).get rfl rfl
            rw [show v96 = undef from p96] at h96; clear p96
            replace hs := hs.learn h96
            have hs0 := hs
            refine st_guardU hs rfl rfl rfl rfl ?_; clear hs; intro a w hs
            exact wpList_nil ⟨rfl, _, _, _, _, rfl, hs0, (.c .r), hs, rfl⟩
          · intro a_ w_ R hm hs hp
            obtain ⟨v100, h100, p100⟩ := (hp 15 ⟨⟨15, .data⟩, mem_arr (.head _), rfl, rfl⟩).get rfl rfl
            rw [show v100 = undef from p100] at h100; clear p100
            replace hs := hs.learn h100
            obtain ⟨v101, h101, p101⟩ := (hp 16 ⟨⟨16, .data⟩, mem_arr (.tail _ (.head _)), rfl, rfl⟩).get rfl rfl
            rw [show v101 = undef from p101] at h101; clear p101
            replace hs := hs.learn h101
            obtain ⟨v96, h96, p96⟩ := (hp 11 ⟨⟨11, .guard⟩, mem_arr (.tail _ (.tail _ (.head _))), rfl, rfl⟩).get rfl rfl
            rw [show v96 = undef from p96] at h96; clear p96
            replace hs := hs.learn h96
            have hs0 := hs
            refine st_guardU hs rfl rfl rfl rfl ?_; clear hs; intro a w hs
            exact wpList_nil ⟨rfl, _, _, _, _, rfl, hs0, (.c (.c (.c .r))), hs, rfl⟩
          · intro a_ w_ R hm hs hp
            obtain ⟨v102, h102, p102⟩ := (hp 17 ⟨⟨17, .data⟩, mem_arr (.head _), rfl, rfl⟩).get rfl rfl
            rw [show v102 = undef from p102] at h102; clear p102
            replace hs := hs.learn h102
            obtain ⟨v96, h96, p96⟩ := (hp 11 ⟨⟨11, .guard⟩, mem_arr (.tail _ (.head _)), rfl, rfl⟩).get rfl rfl
            rw [show v96 = undef from p96] at h96; clear p96
            replace hs := hs.learn h96
            have hs0 := hs
            refine st_guardU hs rfl rfl rfl rfl ?_; clear hs; intro a w hs
            exact wpList_nil ⟨rfl, _, _, _, _, rfl, hs0, (.c (.c .r)), hs, rfl⟩
          · intro a_ w_ R hm hs hp
            obtain ⟨v99, h99, p99⟩ := (hp 14 ⟨⟨14, .data⟩, mem_arr (.head _), rfl, rfl⟩).get rfl rfl
            rw [show v99 = undef from p99] at h99; clear p99
            replace hs := hs.learn h99
            obtain ⟨v103, h103, p103⟩ := (hp 18 ⟨⟨18, .data⟩, mem_arr (.tail _ (.head _)), rfl, rfl⟩).get rfl rfl
            rw [show v103 = undef from p103] at h103; clear p103
            replace hs := hs.learn h103
            obtain ⟨v96, h96, p96⟩ := (hp 11 ⟨⟨11, .guard⟩, mem_arr (.tail _ (.tail _ (.head _))), rfl, rfl⟩).get rfl rfl
            rw [show v96 = undef from p96] at h96; clear p96
            replace hs := hs.learn h96
            have hs0 := hs
            refine st_guardU hs rfl rfl rfl rfl ?_; clear hs; intro a w hs
            exact wpList_nil ⟨rfl, _, _, _, _, rfl, hs0, (.c (.c (.c .r))), hs, rfl⟩
          · intro a_ w_ R hm hs hp
            obtain ⟨v96, h96, p96⟩ := (hp 11 ⟨⟨11, .data⟩, mem_arr (.head _), rfl, rfl⟩).get rfl rfl
            rw [show v96 = undef from p96] at h96; clear p96
            replace hs := hs.learn h96
            obtain ⟨v104, h104, p104⟩ := (hp 19 ⟨⟨19, .data⟩, mem_arr (.tail _ (.head _)), rfl, rfl⟩).get rfl rfl
            rw [show v104 = undef from p104] at h104; clear p104
            replace hs := hs.learn h104
            obtain ⟨v87, h87, p87⟩ := (hp 2 ⟨⟨2, .guard⟩, mem_arr (.tail _ (.tail _ (.head _))), rfl, rfl⟩).get rfl rfl
            rw [show v87 = .bool (false) from p87] at h87; clear p87
            replace hs := hs.learn h87
            have hs0 := hs
            refine st_guardF hs rfl rfl rfl rfl rfl ?_; clear hs; intro a w hs
            exact wpList_nil ⟨rfl, _, _, _, _, rfl, hs0, (.c (.c (.c .r))), hs, rfl⟩
          · intro a_ w_ R hm hs hp
            obtain ⟨v87, h87, p87⟩ := (hp 2 ⟨⟨2, .data⟩, mem_arr (.head _), rfl, rfl⟩).get rfl rfl
            rw [show v87 = .bool (false) from p87] at h87; clear p87
            replace hs := hs.learn h87
            obtain ⟨v105, h105, p105⟩ := (hp 20 ⟨⟨20, .data⟩, mem_arr (.tail _ (.head _)), rfl, rfl⟩).get rfl rfl
            rw [show v105 = undef from p105] at h105; clear p105
            replace hs := hs.learn h105
            have hs0 := hs
            refine st_pickF hs rfl rfl rfl ?_; clear hs; intro a w hs
            exact wpList_nil ⟨rfl, _, _, _, _, rfl, hs0, (.c (.c .r)), hs, rfl⟩
        · clear hs w a; intro a w hs hf
          obtain ⟨v106, h106, p106⟩ := (hf 21 (by decide)).get rfl rfl
          rw [show v106 = .bool (false) from p106] at h106; clear p106
          replace hs := hs.learn h106; clear h106
          clear hf
          refine then_n (hK42 _ _ ?_)
          refine wp_cond_false (hs.ev rfl) ?_
          refine wp_skip ?_
          refine then_n (hK38 _ _ ?_)
          refine wp_seq_k fun K46 hK47 => ?_
          refine wp_region_lit ?_
          refine st_callP (v := .bool (true)) hs .n Try.call28 (alive05_ok _) rfl ?_; clear hs w a; intro a w hs
          refine st_as hs rfl rfl ?_; clear hs w a; intro a w hs
          refine wpList_nil ?_
          refine then_n (hK47 _ _ ?_)
          refine wp_ret ?_
          replace hs := hs.drop (.c (.s .z) (.c .z .n))
          exact fin hs rfl rfl ⟨rfl, rfl⟩
end Go.Proofs.Ytmhkekdhijnnbaa
