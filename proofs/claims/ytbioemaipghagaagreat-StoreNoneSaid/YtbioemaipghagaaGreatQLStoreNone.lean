/- Walks of StoreNone: what each function does, over the program of this seat. Printed by a program of this session. -/
import Derived.Test.YtbioemaipghagaaGreatQWstoA
import Derived.Test.YtbioemaipghagaaGreatQSxBasB
namespace Go.Proofs.YtbioemaipghagaaGreat
open Go Go.Sx Go.RowKit
set_option linter.unusedVariables false
set_option linter.unusedSimpArgs false
set_option maxRecDepth 4000
set_option maxHeartbeats 1000000

theorem storeNone_bad (n : Int) (hn : n < 1 ∨ 64 < n) (i tick : Int) (w0 : World) (hi : R64 i) (htk : R64 tick) : Calls Tryz.prog 7 #[.int .i64 (n), .int .i64 i, .int .i64 tick] w0 (RetV w0 (.bool true)) := by
  obtain ⟨a1, a2, a3⟩ := none_all i tick
  refine enterG (F0 := [(0, .int .i64 (n)), (1, .int .i64 (i)), (2, .int .i64 (tick))]) Tryz.func7 rfl rfl rfl (.c (.c (.c .n))) (Mem.nil _) fun a w hs => ?_
  refine go 3 [] [21, 7, 0, 1, 2] hs .n ?_; clear hs w a; intro a w hs
  refine st_callP (v := .tuple #[.int .i64 (0), .int .i64 (1)]) hs (.c rfl (.c rfl .n)) Tryz.call27 (saccept_nil _ _) rfl ?_; clear hs w a; intro a w hs
  refine goL 7 [] [27, 26, 9, 8, 7, 0, 1, 2] hs .n ?_; clear hs w a; intro a w hs
  refine st_callP (v := .tuple #[.agg #[.int .i64 (0), .int .i64 (0), .slice none 0 0], .int .i64 (1)]) hs (.c rfl (.c rfl .n)) Tryz.call26 (sat_nil i _) rfl ?_; clear hs w a; intro a w hs
  refine goL 8 [0] [33, 32, 11, 10, 9, 8, 7, 0, 1, 2] hs .n (fun g1 => ⟨rfl, ?_⟩); clear hs w a; intro a w hs
  refine st_callP (v := .tuple #[.agg #[.int .i64 (0), .int .i64 (0), .slice none 0 0], .bool (false)]) hs (.c rfl (.c rfl .n)) Tryz.call33 (sget_nil tick _) rfl ?_; clear hs w a; intro a w hs
  refine goL 34 [0, 1, 0] [64, 63, 7, 0, 1, 2] hs (.c .z .n) (fun g2 => ⟨rfl, rfl, rfl, ?_⟩); clear hs w a; intro a w hs
  refine st_guardT hs rfl rfl rfl ?_
  refine st_callP (v := .int .i64 (0)) hs (.c rfl .n) Tryz.call25 (slen_nil _) rfl ?_; clear hs w a; intro a w hs
  refine goL 4 [] [69, 68, 7, 0, 1, 2] hs .n ?_; clear hs w a; intro a w hs
  refine st_guardT hs rfl rfl rfl ?_
  refine st_callP (v := .int .i64 (0)) hs (.c rfl .n) Tryz.call30 (staken_nil _) rfl ?_; clear hs w a; intro a w hs
  refine goL 4 [] [74, 73, 0, 1, 2] hs .n ?_; clear hs w a; intro a w hs
  refine st_guardT hs rfl rfl rfl ?_
  refine st_callP (v := .int .i64 (0)) hs (.c rfl (.c rfl .n)) Tryz.call29 (srefused_nil 9 _) rfl ?_; clear hs w a; intro a w hs
  refine goL 4 [] [79, 0, 1, 2] hs .n ?_; clear hs w a; intro a w hs
  refine st_callP (v := .tuple #[.pointer none, .int .i64 3]) hs (.c rfl .n) Tryz.call21 (snew_bad n _ hn) rfl ?_; clear hs w a; intro a w hs
  refine goL 8 [] [85, 15, 14, 0, 1, 2] hs .n ?_; clear hs w a; intro a w hs
  refine st_part (b := decide (n < 1)) (fun c_3 => ?_) (fun c_3 => ?_)
  ·
   rw [c_3] at hs
   replace c_3 := of_decide_eq_true c_3
   refine go 4 [] [15, 14] hs .n ?_; clear hs w a; intro a w hs
   refine st_callP (v := .bool (true)) hs .n Tryz.call23 (alive12_ok _) rfl ?_; clear hs w a; intro a w hs
   refine goL 9 [] [6] hs .n ?_; clear hs w a; intro a w hs
   replace hs := hs.drop (.c (.s .z) (.c .z .n))
   exact fin hs rfl rfl ⟨rfl, rfl⟩
  rw [c_3] at hs
  replace c_3 := of_decide_eq_false c_3
  refine go 2 [] [87, 85, 15, 14, 1, 2] hs .n ?_; clear hs w a; intro a w hs
  have hb_ : (decide (64 < n)) = true := decide_eq_true (by omega)
  rw [hb_] at hs; clear hb_
  refine go 2 [] [15, 14] hs .n ?_; clear hs w a; intro a w hs
  refine st_callP (v := .bool (true)) hs .n Tryz.call23 (alive12_ok _) rfl ?_; clear hs w a; intro a w hs
  refine goL 9 [] [6] hs .n ?_; clear hs w a; intro a w hs
  replace hs := hs.drop (.c (.s .z) (.c .z .n))
  exact fin hs rfl rfl ⟨rfl, rfl⟩
theorem storeNone_good (n : Nat) (hn : 1 ≤ n ∧ n ≤ 64) (i tick : Int) (w0 : World) (hi : R64 i) (htk : R64 tick) : Calls Tryz.prog 7 #[.int .i64 (((n : Nat) : Int)), .int .i64 i, .int .i64 tick] w0 (RetV w0 (.bool true)) := by
  obtain ⟨a1, a2, a3⟩ := none_all i tick
  refine enterG (F0 := [(0, .int .i64 (((n : Nat) : Int))), (1, .int .i64 (i)), (2, .int .i64 (tick))]) Tryz.func7 rfl rfl rfl (.c (.c (.c .n))) (Mem.nil _) fun a w hs => ?_
  refine go 3 [] [21, 7, 0, 1, 2] hs .n ?_; clear hs w a; intro a w hs
  refine st_callP (v := .tuple #[.int .i64 (0), .int .i64 (1)]) hs (.c rfl (.c rfl .n)) Tryz.call27 (saccept_nil _ _) rfl ?_; clear hs w a; intro a w hs
  refine goL 7 [] [27, 26, 9, 8, 7, 0, 1, 2] hs .n ?_; clear hs w a; intro a w hs
  refine st_callP (v := .tuple #[.agg #[.int .i64 (0), .int .i64 (0), .slice none 0 0], .int .i64 (1)]) hs (.c rfl (.c rfl .n)) Tryz.call26 (sat_nil i _) rfl ?_; clear hs w a; intro a w hs
  refine goL 8 [0] [33, 32, 11, 10, 9, 8, 7, 0, 1, 2] hs .n (fun g1 => ⟨rfl, ?_⟩); clear hs w a; intro a w hs
  refine st_callP (v := .tuple #[.agg #[.int .i64 (0), .int .i64 (0), .slice none 0 0], .bool (false)]) hs (.c rfl (.c rfl .n)) Tryz.call33 (sget_nil tick _) rfl ?_; clear hs w a; intro a w hs
  refine goL 34 [0, 1, 0] [64, 63, 7, 0, 1, 2] hs (.c .z .n) (fun g2 => ⟨rfl, rfl, rfl, ?_⟩); clear hs w a; intro a w hs
  refine st_guardT hs rfl rfl rfl ?_
  refine st_callP (v := .int .i64 (0)) hs (.c rfl .n) Tryz.call25 (slen_nil _) rfl ?_; clear hs w a; intro a w hs
  refine goL 4 [] [69, 68, 7, 0, 1, 2] hs .n ?_; clear hs w a; intro a w hs
  refine st_guardT hs rfl rfl rfl ?_
  refine st_callP (v := .int .i64 (0)) hs (.c rfl .n) Tryz.call30 (staken_nil _) rfl ?_; clear hs w a; intro a w hs
  refine goL 4 [] [74, 73, 0, 1, 2] hs .n ?_; clear hs w a; intro a w hs
  refine st_guardT hs rfl rfl rfl ?_
  refine st_callP (v := .int .i64 (0)) hs (.c rfl (.c rfl .n)) Tryz.call29 (srefused_nil 9 _) rfl ?_; clear hs w a; intro a w hs
  refine goL 4 [] [79, 0, 1, 2] hs .n ?_; clear hs w a; intro a w hs
  refine st_call hs (.c rfl .n) Tryz.call21 .n (new_st n _ hn) rfl ?_; clear hs w a; rintro _ _ a w ⟨g3, X4, rfl, rfl, hX5⟩ hs; simp only [List.cons_append, List.nil_append] at hs
  refine goL 7 [] [84, 15, 14, 0, 1, 2] hs .n ?_; clear hs w a; intro a w hs
  have hb_ : (decide ((((n : Nat) : Int)) < 1)) = false := decide_eq_false (by omega)
  rw [hb_] at hs; clear hb_
  refine go 3 [] [87, 85, 15, 14, 1, 2] hs .n ?_; clear hs w a; intro a w hs
  have hb_ : (decide (64 < (((n : Nat) : Int)))) = false := decide_eq_false (by omega)
  rw [hb_] at hs; clear hb_
  refine go 11 [] [106, 105, 14, 1, 2] hs .n ?_; clear hs w a; intro a w hs
  refine st_call hs (.c rfl (.c rfl .n)) Tryz.call26 .n (at_st hX5 i _ (hs.mem.del .z)) rfl ?_; clear hs w a; rintro _ _ a w ⟨v6, rfl, rfl⟩ hs; simp only [List.cons_append, List.nil_append] at hs
  refine goL 4 [] [16, 109, 108, 14, 1, 2] hs .n (fun g7 => ?_); clear hs w a; intro a w hs
  refine st_stBA hs rfl rfl .z (.z (.c (.c (.c .n)))) (ones_c rfl (ones_c rfl (ones_c (rd_row (hs.mem.del (.s .z))).isSl.one ones_n))) Tryz.sizeOf24 rfl ?_; clear hs w a; intro a w hs
  refine goL 3 [] [112, 111, 17, 14, 1] hs .n ?_; clear hs w a; intro a w hs
  refine st_call hs (.c rfl (.c rfl .n)) Tryz.call33 .n (get_st hX5 tick _ (hs.mem.del (.s (.s .z)))) rfl ?_; clear hs w a; rintro _ _ a w ⟨v8, rfl, rfl⟩ hs; simp only [List.cons_append, List.nil_append] at hs
  refine goL 4 [] [18, 115, 114, 17, 14, 1] hs .n (fun g9 => ?_); clear hs w a; intro a w hs
  refine st_stBA hs rfl rfl .z (.z (.c (.c (.c .n)))) (ones_c rfl (ones_c rfl (ones_c (rd_row (hs.mem.del (.s .z))).isSl.one ones_n))) Tryz.sizeOf24 rfl ?_; clear hs w a; intro a w hs
  refine goL 1 [] [19, 17, 14, 1] hs .n ?_; clear hs w a; intro a w hs
  refine st_callP (v := .bool (true)) hs .n Tryz.call23 (alive12_ok _) rfl ?_; clear hs w a; intro a w hs
  refine goL 3 [] [119, 117, 19, 14, 1] hs .n ?_; clear hs w a; intro a w hs
  have hb_ : ((((ratE stt0.l i : Nat) : Int) : Int) == 3) = true := by rw [a1] <;> rfl
  rw [hb_] at hs; clear hb_
  refine go 4 [] [123, 121, 14, 1] hs .n ?_; clear hs w a; intro a w hs
  have hb_ : (!(khas stt0.l tick)) = true := by rw [a2] <;> rfl
  rw [hb_] at hs; clear hb_
  refine go 6 [] [129, 126, 125, 14] hs .n ?_; clear hs w a; intro a w hs
  refine st_guardT hs rfl rfl rfl ?_
  refine st_callP (v := .int .i64 (((nref stt0.n (max 0 (min i 999)) : Nat) : Int))) hs (.c rfl (.c rfl .n)) Tryz.call29 (refused_st hX5 (max 0 (min i 999)) _ (hs.mem.del (.s (.s (.s (.s .z))))) (by omega)) rfl ?_; clear hs w a; intro a w hs
  refine goL 1 [] [131, 125, 14] hs .n ?_; clear hs w a; intro a w hs
  have hb_ : ((((nref stt0.n (max 0 (min i 999)) : Nat) : Int) : Int) == 0) = true := by rw [a3] <;> rfl
  rw [hb_] at hs; clear hb_
  refine go 3 [] [134, 133] hs .n ?_; clear hs w a; intro a w hs
  refine st_guardT hs rfl rfl rfl ?_
  refine st_callP (v := .int .i64 (((nref stt0.n (-1) : Nat) : Int))) hs (.c rfl (.c rfl .n)) Tryz.call29 (refused_st hX5 (-1) _ (hs.mem.del (.s (.s (.s (.s .z))))) (by omega)) rfl ?_; clear hs w a; intro a w hs
  refine goL 1 [] [136, 133] hs .n ?_; clear hs w a; intro a w hs
  have hb_ : ((((nref stt0.n (-1) : Nat) : Int) : Int) == 0) = true := by rw [a3] <;> rfl
  rw [hb_] at hs; clear hb_
  refine go 2 [] [6] hs .n ?_; clear hs w a; intro a w hs
  replace hs := hs.drop (.c (.s (.s (.s (.s (.s (.s .z)))))) (.c (.s (.s (.s (.s (.s .z))))) (.c (.s (.s (.s (.s .z)))) (.c (.s (.s (.s .z))) (.c (.s (.s .z)) (.c (.s .z) (.c .z .n)))))))
  exact fin hs rfl rfl ⟨rfl, rfl⟩
theorem storeNone_ok (n i tick : Int) (w0 : World) (hi : R64 i) (htk : R64 tick) : Calls Tryz.prog 7 #[.int .i64 n, .int .i64 i, .int .i64 tick] w0 (RetV w0 (.bool true)) := by
  by_cases h : n < 1 ∨ 64 < n
  · exact storeNone_bad n h i tick w0 hi htk
  · have := storeNone_good n.toNat (by omega) i tick w0 hi htk
    rwa [show ((n.toNat : Nat) : Int) = n by omega] at this
end Go.Proofs.YtbioemaipghagaaGreat
