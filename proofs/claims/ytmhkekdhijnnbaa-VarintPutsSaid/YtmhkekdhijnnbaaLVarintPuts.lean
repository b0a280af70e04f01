/- Walks of VarintPuts: what each function does, over the program of this seat. Printed by a program of this session. -/
import Derived.Test.YtmhkekdhijnnbaaWvar
namespace Go.Proofs.Ytmhkekdhijnnbaa
open Go Go.Sx Go.RowKit
set_option linter.unusedVariables false
set_option linter.unusedSimpArgs false
set_option maxRecDepth 4000

theorem varintPuts_ok (X : BitVec 64) (w0 : World) : Calls Try.prog 8 #[.int .u64 (X.toNat : Int)] w0 (RetV w0 (.bool true)) := by
  refine enter (F0 := [(0, .int .u64 ((((X).toNat : Nat) : Int)))]) Try.func8 rfl rfl rfl (.c .n) (Mem.nil _) fun a w hs => ?_
  refine wp_seq_k fun K1 hK2 => ?_
  refine wp_region_lit ?_
  refine st_as hs rfl rfl ?_; clear hs w a; intro a w hs
  refine wpList_nil ?_
  refine then_n (hK2 _ _ ?_)
  refine wp_seq_k fun K3 hK4 => ?_
  refine wp_region_lit ?_
  refine st_mv hs rfl rfl ?_; clear hs w a; intro a w hs
  refine st_call hs (.c rfl .n) Try.call27 .n (put_ok X _) rfl ?_; clear hs w a; rintro v5 _ a w rfl hs; simp only [List.cons_append, List.nil_append] at hs
  refine st_as hs rfl rfl ?_; clear hs w a; intro a w hs
  refine wpList_nil ?_
  refine then_n (hK4 _ _ ?_)
  refine wp_seq_k fun K6 hK7 => ?_
  replace hs := hs.sub (F' := [(3, v5), (5, v5), (4, .int .u64 ((((X).toNat : Nat) : Int))), (0, .int .u64 ((((X).toNat : Nat) : Int)))]) (.c rfl (.c rfl (.c rfl (.c rfl .n))))
  refine wp_draw (Ps := [eqv (.bool (true)), eqv (.bool (true)), eqv (v5), eqv (.string (strB (vput X.toNat))), eqv (.int .u64 ((((X).toNat : Nat) : Int))), rdv 1 (vlen X.toNat) (bytesV (vput X.toNat)), eqv (.string (strB (vput X.toNat))), eqv (.bool (true)), eqv (.bool (true)), eqv (.bool (true)), eqv (.int .u64 ((((X).toNat : Nat) : Int))), eqv (.int .i64 (((vlen X.toNat : Nat) : Int))), eqv (v5), eqv (.int .i64 (((vlen X.toNat : Nat) : Int))), eqv (.bool (true)), eqv (.bool (true)), eqv (.bool (true))]) (by kernel_rfl) hs (by kernel_rfl) ?_ ?_
  · refine (.c ?_ (.c ?_ (.c ?_ (.c ?_ (.c ?_ (.c ?_ (.c ?_ (.c ?_ (.c ?_ (.c ?_ (.c ?_ (.c ?_ (.c ?_ (.c ?_ (.c ?_ (.c ?_ (.c ?_ .n)))))))))))))))))
    · intro a_ w_ R hm hs hp
      have hs0 := hs
      refine st_callP (v := .bool (true)) hs .n Try.call28 (alive05_ok _) rfl ?_; clear hs; intro a w hs
      exact wpList_nil ⟨rfl, _, _, _, _, rfl, hs0, .r, hs, rfl⟩
    · intro a_ w_ R hm hs hp
      obtain ⟨v6, h6, p6⟩ := (hp 0 ⟨⟨0, .data⟩, mem_arr (.head _), rfl, rfl⟩).get rfl rfl
      rw [show v6 = .bool (true) from p6] at h6; clear p6
      replace hs := hs.learn h6
      have hs0 := hs
      refine st_mv hs rfl rfl ?_; clear hs; intro a w hs
      exact wpList_nil ⟨rfl, _, _, _, _, rfl, hs0, (.c .r), hs, rfl⟩
    · intro a_ w_ R hm hs hp
      obtain ⟨v7, h7, p7⟩ := (hp 1 ⟨⟨1, .guard⟩, mem_arr (.head _), rfl, rfl⟩).get rfl rfl
      rw [show v7 = .bool (true) from p7] at h7; clear p7
      replace hs := hs.learn h7
      have hs0 := hs
      refine st_guardT hs rfl rfl rfl ?_
      refine st_mv hs rfl rfl ?_; clear hs; intro a w hs
      exact wpList_nil ⟨rfl, _, _, _, _, rfl, hs0, (.c .r), hs, rfl⟩
    · intro a_ w_ R hm hs hp
      obtain ⟨v8, h8, p8⟩ := (hp 2 ⟨⟨2, .data⟩, mem_arr (.head _), rfl, rfl⟩).get rfl rfl
      rw [show v8 = v5 from p8] at h8; clear p8
      replace hs := hs.learn h8
      obtain ⟨v7, h7, p7⟩ := (hp 1 ⟨⟨1, .guard⟩, mem_arr (.tail _ (.head _)), rfl, rfl⟩).get rfl rfl
      rw [show v7 = .bool (true) from p7] at h7; clear p7
      replace hs := hs.learn h7
      have hs0 := hs
      refine st_guardT hs rfl rfl rfl ?_
      refine st_str (bs := (vput X.toNat)) hs rfl (rd_row (hm.del .z)) Try.underlying22 Try.underlying5 Try.underlying9 rfl ?_; clear hs; intro a w hs
      exact wpList_nil ⟨rfl, _, _, _, _, rfl, hs0, (.c (.c .r)), hs, rfl⟩
    · intro a_ w_ R hm hs hp
      obtain ⟨v7, h7, p7⟩ := (hp 1 ⟨⟨1, .guard⟩, mem_arr (.head _), rfl, rfl⟩).get rfl rfl
      rw [show v7 = .bool (true) from p7] at h7; clear p7
      replace hs := hs.learn h7
      have hs0 := hs
      refine st_guardT hs rfl rfl rfl ?_
      refine st_mv hs rfl rfl ?_; clear hs; intro a w hs
      exact wpList_nil ⟨rfl, _, _, _, _, rfl, hs0, (.c .r), hs, rfl⟩
    · intro a_ w_ R hm hs hp
      obtain ⟨v10, h10, p10⟩ := (hp 4 ⟨⟨4, .data⟩, mem_arr (.head _), rfl, rfl⟩).get rfl rfl
      rw [show v10 = .int .u64 ((((X).toNat : Nat) : Int)) from p10] at h10; clear p10
      replace hs := hs.learn h10
      obtain ⟨v7, h7, p7⟩ := (hp 1 ⟨⟨1, .chain⟩, mem_arr (.tail _ (.head _)), rfl, rfl⟩).get rfl rfl
      rw [show v7 = .bool (true) from p7] at h7; clear p7
      replace hs := hs.learn h7
      have hs0 := hs
      refine st_guardT hs rfl rfl rfl ?_
      refine st_call hs (.c rfl .n) Try.call29 .n (rput_ok X _) rfl ?_; clear hs; rintro v8 _ a w rfl hs; simp only [List.cons_append, List.nil_append] at hs
      exact wpList_nil ⟨rfl, _, _, _, _, rfl, hs0, (.c (.c .r)), hs, rd_row (hs.mem.del .z)⟩
    · intro a_ w_ R hm hs hp
      obtain ⟨v11, h11, p11⟩ := (hp 5 ⟨⟨5, .data⟩, mem_arr (.head _), rfl, rfl⟩).get rfl rfl
      replace hs := hs.learn h11
      obtain ⟨v7, h7, p7⟩ := (hp 1 ⟨⟨1, .guard⟩, mem_arr (.tail _ (.head _)), rfl, rfl⟩).get rfl rfl
      rw [show v7 = .bool (true) from p7] at h7; clear p7
      replace hs := hs.learn h7
      have hs0 := hs
      refine st_guardT hs rfl rfl rfl ?_
      refine st_str (bs := (vput X.toNat)) hs rfl (p11) Try.underlying22 Try.underlying5 Try.underlying9 rfl ?_; clear hs; intro a w hs
      exact wpList_nil ⟨rfl, _, _, _, _, rfl, hs0, (.c (.c .r)), hs, rfl⟩
    · intro a_ w_ R hm hs hp
      obtain ⟨v9, h9, p9⟩ := (hp 3 ⟨⟨3, .data⟩, mem_arr (.head _), rfl, rfl⟩).get rfl rfl
      rw [show v9 = .string (strB (vput X.toNat)) from p9] at h9; clear p9
      replace hs := hs.learn h9
      obtain ⟨v12, h12, p12⟩ := (hp 6 ⟨⟨6, .data⟩, mem_arr (.tail _ (.head _)), rfl, rfl⟩).get rfl rfl
      rw [show v12 = .string (strB (vput X.toNat)) from p12] at h12; clear p12
      replace hs := hs.learn h12
      obtain ⟨v7, h7, p7⟩ := (hp 1 ⟨⟨1, .guard⟩, mem_arr (.tail _ (.tail _ (.head _))), rfl, rfl⟩).get rfl rfl
      rw [show v7 = .bool (true) from p7] at h7; clear p7
      replace hs := hs.learn h7
      have hs0 := hs
      refine st_guardT hs rfl rfl rfl ?_
      refine st_eqs (p := strB (vput X.toNat)) (q := strB (vput X.toNat)) hs rfl rfl rfl ?_; clear hs; intro a w hs
      have hb_ : ((strB (vput X.toNat)).toList == (strB (vput X.toNat)).toList) = true := beq_self_eq_true _
      rw [hb_] at hs; clear hb_
      exact wpList_nil ⟨rfl, _, _, _, _, rfl, hs0, (.c (.c (.c .r))), hs, rfl⟩
    · intro a_ w_ R hm hs hp
      obtain ⟨v7, h7, p7⟩ := (hp 1 ⟨⟨1, .data⟩, mem_arr (.head _), rfl, rfl⟩).get rfl rfl
      rw [show v7 = .bool (true) from p7] at h7; clear p7
      replace hs := hs.learn h7
      obtain ⟨v13, h13, p13⟩ := (hp 7 ⟨⟨7, .data⟩, mem_arr (.tail _ (.head _)), rfl, rfl⟩).get rfl rfl
      rw [show v13 = .bool (true) from p13] at h13; clear p13
      replace hs := hs.learn h13
      have hs0 := hs
      refine st_pickT hs rfl rfl rfl ?_; clear hs; intro a w hs
      exact wpList_nil ⟨rfl, _, _, _, _, rfl, hs0, (.c (.c .r)), hs, rfl⟩
    · intro a_ w_ R hm hs hp
      obtain ⟨v14, h14, p14⟩ := (hp 8 ⟨⟨8, .data⟩, mem_arr (.head _), rfl, rfl⟩).get rfl rfl
      rw [show v14 = .bool (true) from p14] at h14; clear p14
      replace hs := hs.learn h14
      have hs0 := hs
      refine st_mv hs rfl rfl ?_; clear hs; intro a w hs
      exact wpList_nil ⟨rfl, _, _, _, _, rfl, hs0, (.c .r), hs, rfl⟩
    · intro a_ w_ R hm hs hp
      obtain ⟨v15, h15, p15⟩ := (hp 9 ⟨⟨9, .guard⟩, mem_arr (.head _), rfl, rfl⟩).get rfl rfl
      rw [show v15 = .bool (true) from p15] at h15; clear p15
      replace hs := hs.learn h15
      have hs0 := hs
      refine st_guardT hs rfl rfl rfl ?_
      refine st_mv hs rfl rfl ?_; clear hs; intro a w hs
      exact wpList_nil ⟨rfl, _, _, _, _, rfl, hs0, (.c .r), hs, rfl⟩
    · intro a_ w_ R hm hs hp
      obtain ⟨v16, h16, p16⟩ := (hp 10 ⟨⟨10, .data⟩, mem_arr (.head _), rfl, rfl⟩).get rfl rfl
      rw [show v16 = .int .u64 ((((X).toNat : Nat) : Int)) from p16] at h16; clear p16
      replace hs := hs.learn h16
      obtain ⟨v15, h15, p15⟩ := (hp 9 ⟨⟨9, .chain⟩, mem_arr (.tail _ (.head _)), rfl, rfl⟩).get rfl rfl
      rw [show v15 = .bool (true) from p15] at h15; clear p15
      replace hs := hs.learn h15
      have hs0 := hs
      refine st_guardT hs rfl rfl rfl ?_
      refine st_callP (v := .int .i64 (((vlen X.toNat : Nat) : Int))) hs (.c rfl .n) Try.call30 (size_ok X _) rfl ?_; clear hs; intro a w hs
      exact wpList_nil ⟨rfl, _, _, _, _, rfl, hs0, (.c (.c .r)), hs, rfl⟩
    · intro a_ w_ R hm hs hp
      obtain ⟨v15, h15, p15⟩ := (hp 9 ⟨⟨9, .guard⟩, mem_arr (.head _), rfl, rfl⟩).get rfl rfl
      rw [show v15 = .bool (true) from p15] at h15; clear p15
      replace hs := hs.learn h15
      have hs0 := hs
      refine st_guardT hs rfl rfl rfl ?_
      refine st_mv hs rfl rfl ?_; clear hs; intro a w hs
      exact wpList_nil ⟨rfl, _, _, _, _, rfl, hs0, (.c .r), hs, rfl⟩
    · intro a_ w_ R hm hs hp
      obtain ⟨v18, h18, p18⟩ := (hp 12 ⟨⟨12, .data⟩, mem_arr (.head _), rfl, rfl⟩).get rfl rfl
      rw [show v18 = v5 from p18] at h18; clear p18
      replace hs := hs.learn h18
      obtain ⟨v15, h15, p15⟩ := (hp 9 ⟨⟨9, .guard⟩, mem_arr (.tail _ (.head _)), rfl, rfl⟩).get rfl rfl
      rw [show v15 = .bool (true) from p15] at h15; clear p15
      replace hs := hs.learn h15
      have hs0 := hs
      refine st_guardT hs rfl rfl rfl ?_
      refine st_len hs rfl (rd_row (hm.del .z)).isSl Try.underlying22 rfl ?_; clear hs; intro a w hs
      exact wpList_nil ⟨rfl, _, _, _, _, rfl, hs0, (.c (.c .r)), hs, rfl⟩
    · intro a_ w_ R hm hs hp
      obtain ⟨v17, h17, p17⟩ := (hp 11 ⟨⟨11, .data⟩, mem_arr (.head _), rfl, rfl⟩).get rfl rfl
      rw [show v17 = .int .i64 (((vlen X.toNat : Nat) : Int)) from p17] at h17; clear p17
      replace hs := hs.learn h17
      obtain ⟨v19, h19, p19⟩ := (hp 13 ⟨⟨13, .data⟩, mem_arr (.tail _ (.head _)), rfl, rfl⟩).get rfl rfl
      rw [show v19 = .int .i64 (((vlen X.toNat : Nat) : Int)) from p19] at h19; clear p19
      replace hs := hs.learn h19
      obtain ⟨v15, h15, p15⟩ := (hp 9 ⟨⟨9, .guard⟩, mem_arr (.tail _ (.tail _ (.head _))), rfl, rfl⟩).get rfl rfl
      rw [show v15 = .bool (true) from p15] at h15; clear p15
      replace hs := hs.learn h15
      have hs0 := hs
      refine st_guardT hs rfl rfl rfl ?_
      refine st_eql hs rfl rfl rfl ?_; clear hs; intro a w hs
      have hb_ : ((((vlen X.toNat : Nat) : Int) : Int) == (((vlen X.toNat : Nat) : Int))) = true := beq_self_eq_true _
      rw [hb_] at hs; clear hb_
      exact wpList_nil ⟨rfl, _, _, _, _, rfl, hs0, (.c (.c (.c .r))), hs, rfl⟩
    · intro a_ w_ R hm hs hp
      obtain ⟨v15, h15, p15⟩ := (hp 9 ⟨⟨9, .data⟩, mem_arr (.head _), rfl, rfl⟩).get rfl rfl
      rw [show v15 = .bool (true) from p15] at h15; clear p15
      replace hs := hs.learn h15
      obtain ⟨v20, h20, p20⟩ := (hp 14 ⟨⟨14, .data⟩, mem_arr (.tail _ (.head _)), rfl, rfl⟩).get rfl rfl
      rw [show v20 = .bool (true) from p20] at h20; clear p20
      replace hs := hs.learn h20
      have hs0 := hs
      refine st_pickT hs rfl rfl rfl ?_; clear hs; intro a w hs
      exact wpList_nil ⟨rfl, _, _, _, _, rfl, hs0, (.c (.c .r)), hs, rfl⟩
    · intro a_ w_ R hm hs hp
      obtain ⟨v21, h21, p21⟩ := (hp 15 ⟨⟨15, .data⟩, mem_arr (.head _), rfl, rfl⟩).get rfl rfl
      rw [show v21 = .bool (true) from p21] at h21; clear p21
      replace hs := hs.learn h21
      have hs0 := hs
      refine st_as hs rfl rfl ?_; clear hs; intro a w hs
      exact wpList_nil ⟨rfl, _, _, _, _, rfl, hs0, (.c .r), hs, rfl⟩
  · clear hs w a; intro a w hs hf
    obtain ⟨v2, h2, p2⟩ := (hf 16 (by decide)).get rfl rfl
    rw [show v2 = .bool (true) from p2] at h2; clear p2
    replace hs := hs.learn h2; clear h2
    clear hf
    refine then_n (hK7 _ _ ?_)
    refine wp_ret ?_
    replace hs := hs.drop (.c .z .n)
    exact fin hs rfl rfl ⟨rfl, rfl⟩
end Go.Proofs.Ytmhkekdhijnnbaa
