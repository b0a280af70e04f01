/- Walks of the document's snapshots: what each function does, over the program of this seat. Printed by a program of this session. -/
import Derived.Test.YtbioemaipghagaaGreatQSxStos
import Derived.Test.YtbioemaipghagaaGreatQSxRecs
import Derived.Test.YtbioemaipghagaaGreatQSxBasB
import Derived.Test.YtbioemaipghagaaGreatProg
namespace Go.Proofs.YtbioemaipghagaaGreat
open Go Go.Sx Go.RowKit
set_option linter.unusedVariables false
set_option linter.unusedSimpArgs false
set_option maxRecDepth 4000
set_option maxHeartbeats 1000000

theorem ssame_ok (t tm : Int) (u : Value) (l : List EntR) (t2 tm2 : Int) (u2 : Value) (l2 : List EntR) (w0 : World) (hc : Rd w0 [] u 9 l.length (l.flatMap entV)) (hc2 : Rd w0 [] u2 9 l2.length (l2.flatMap entV)) : Calls Tryz.prog 15 #[.agg #[.int .i64 (t), .int .i64 (tm), u], .agg #[.int .i64 (t2), .int .i64 (tm2), u2]] w0 (RetV w0 (.bool (sSame t tm l t2 tm2 l2))) := by
 have hce := hc.le
 simp only [maxLen] at hce
 have hce2 := hc2.le
 simp only [maxLen] at hce2
 refine enterG (F0 := [(0, .agg #[.int .i64 (t), .int .i64 (tm), u]), (1, .agg #[.int .i64 (t2), .int .i64 (tm2), u2])]) Tryz.func15 rfl rfl rfl (.c (.c .n)) (Mem.nil _) fun a w hs => ?_
 refine go 9 [0, 0, 1, 0] [11, 3, 2] hs .n (fun g1 => fun g2 => ⟨rfl, rfl, ?_⟩); clear hs w a; intro a w hs
 refine st_part (b := !((t : Int) == t2)) (fun c_3 => ?_) (fun c_3 => ?_)
 ·
  rw [c_3] at hs
  replace c_3 := not_t c_3
  replace c_3 := ne_of_beq_f c_3
  refine go 17 [] [4] hs .n ?_; clear hs w a; intro a w hs
  replace hs := hs.drop (.c (.s .z) (.c .z .n))
  exact fin hs rfl rfl ⟨congrArg Value.bool (show false = sSame t tm l t2 tm2 l2 from (by first | exact (sSame_t (by omega) (by omega) (ents_eq (by omega) fun i hi => hI1_1 i (by omega))).symm | exact (sSame_f fun ⟨_, _, e⟩ => by first | omega | (exact getD_ne (by assumption) e) | (have := congrArg List.length e; omega)).symm)), rfl⟩
 rw [c_3] at hs
 replace c_3 := not_f c_3
 replace c_3 := eq_of_beq c_3
 refine go 7 [0, 1] [18, 3, 2] hs (.c (.s .z) (.c .z .n)) ⟨rfl, rfl, ?_⟩; clear hs w a; intro a w hs
 refine st_part (b := !((tm : Int) == tm2)) (fun c_4 => ?_) (fun c_4 => ?_)
 ·
  rw [c_4] at hs
  replace c_4 := not_t c_4
  replace c_4 := ne_of_beq_f c_4
  refine go 10 [] [4] hs .n ?_; clear hs w a; intro a w hs
  replace hs := hs.drop (.c (.s .z) (.c .z .n))
  exact fin hs rfl rfl ⟨congrArg Value.bool (show false = sSame t tm l t2 tm2 l2 from (by first | exact (sSame_t (by omega) (by omega) (ents_eq (by omega) fun i hi => hI1_1 i (by omega))).symm | exact (sSame_f fun ⟨_, _, e⟩ => by first | omega | (exact getD_ne (by assumption) e) | (have := congrArg List.length e; omega)).symm)), rfl⟩
 rw [c_4] at hs
 replace c_4 := not_f c_4
 replace c_4 := eq_of_beq c_4
 refine go 2 [0] [20, 18, 3, 2] hs (.c .z .n) ⟨rfl, ?_⟩; clear hs w a; intro a w hs
 refine st_guardT hs rfl rfl rfl ?_
 refine st_len hs rfl (hs.rd0 hc).isSl Tryz.underlying22 rfl ?_; clear hs w a; intro a w hs
 refine goL 2 [0] [23, 21, 18, 3, 2] hs (.c (.s .z) .n) ⟨rfl, ?_⟩; clear hs w a; intro a w hs
 refine st_guardT hs rfl rfl rfl ?_
 refine st_len hs rfl (hs.rd0 hc2).isSl Tryz.underlying22 rfl ?_; clear hs w a; intro a w hs
 refine goL 2 [] [26, 3, 2] hs .n ?_; clear hs w a; intro a w hs
 refine ifG hs rfl (fun c_5 => ?_) (fun c_5 => ?_)
 ·
  replace c_5 := not_t c_5
  replace c_5 := ne_of_beq_f c_5
  refine go 1 [] [4] hs .n ?_; clear hs w a; intro a w hs
  replace hs := hs.drop (.c (.s .z) (.c .z .n))
  exact fin hs rfl rfl ⟨congrArg Value.bool (show false = sSame t tm l t2 tm2 l2 from (by first | exact (sSame_t (by omega) (by omega) (ents_eq (by omega) fun i hi => hI1_1 i (by omega))).symm | exact (sSame_f fun ⟨_, _, e⟩ => by first | omega | (exact getD_ne (by assumption) e) | (have := congrArg List.length e; omega)).symm)), rfl⟩
 replace c_5 := not_f c_5
 replace c_5 := eq_of_beq c_5
 refine go 1 [] [5, 3, 2] hs .n ?_; clear hs w a; intro a w hs
 refine loopG (fun mm_ a w => ∃ j : Nat, mm_ = l.length - j ∧ St 45 [(2, .pointer (some ⟨g1, 0, none⟩)), (3, .pointer (some ⟨g2, 0, none⟩)), (5, .int .i64 ((j : Int)))] w0 [] [blk g2 [.int .i64 (t2), .int .i64 (tm2), u2] 24, blk g1 [.int .i64 (t), .int .i64 (tm), u] 24] a w ∧ j ≤ l.length ∧ ∀ i, i < j → l.getD i default = l2.getD i default) ⟨0, rfl, hs.sub (.c rfl (.c rfl (.c rfl .n))), by omega, fun i hi => absurd hi (Nat.not_lt_zero i)⟩ ?_
 clear hs w a; rintro mm_ a w ⟨j, rfl, hs, hI1_0, hI1_1⟩
 refine go 3 [0] [29, 27, 2, 3, 5] hs (.c (.s .z) .n) ⟨rfl, ?_⟩; clear hs w a; intro a w hs
 refine st_len hs rfl (hs.rd0 hc).isSl Tryz.underlying22 rfl ?_; clear hs w a; intro a w hs
 refine goL 1 [] [31, 2, 3, 5] hs .n ?_; clear hs w a; intro a w hs
 refine ifG hs rfl (fun c_6 => ?_) (fun c_6 => ?_)
 ·
  replace c_6 := of_decide_eq_true c_6
  refine go 0 [] [2, 3, 5] hs .n ?_; clear hs w a; intro a w hs
  refine wp_drawN [.p [] [], .p [0] [0], .p [] [], .v [2, 1] (.pointer (some (adr u (j * 9)))), .v [3] (.agg #[.int .i64 ((l.getD j default).id), .int .i64 ((l.getD j default).p0), .int .i64 ((l.getD j default).p1), .int .i64 ((l.getD j default).p2), .int .i64 ((l.getD j default).v0), .int .i64 ((l.getD j default).v1), .int .i64 ((l.getD j default).v2), .int .u16 (((((l.getD j default).a).toNat : Nat) : Int)), .int .u8 (((((l.getD j default).g).toNat : Nat) : Int))]), .p [] [], .p [5] [1], .p [] [], .v [7, 6] (.pointer (some (adr u2 (j * 9)))), .v [8] (.agg #[.int .i64 ((l2.getD j default).id), .int .i64 ((l2.getD j default).p0), .int .i64 ((l2.getD j default).p1), .int .i64 ((l2.getD j default).p2), .int .i64 ((l2.getD j default).v0), .int .i64 ((l2.getD j default).v1), .int .i64 ((l2.getD j default).v2), .int .u16 (((((l2.getD j default).a).toNat : Nat) : Int)), .int .u8 (((((l2.getD j default).g).toNat : Nat) : Int))]), .p [9, 4] []] [10] hs (.c .z (.c .z .n)) (by kernel_rfl) ⟨rfl, ?_, ?_, rfl, ?_, ?_, by kernel_rfl, ⟨rfl, by kernel_rfl, fun _ => rfl, trivial⟩, ?_⟩
  ·
   intro a_ w_ R_ Q_ hm hs K_
   refine st_ia (j := j) hs rfl rfl (hm.rd0 hc) rfl (by omega) Tryz.underlying22 Tryz.sizeOf73 rfl ?_; clear hs; intro a w hs
   exact wpList_nil (K_ _ _ hs)
  ·
   intro a_ w_ R_ Q_ hm hs K_
   refine st_ldA (cs := entV (l.getD j default)) hs rfl (hm.rd0 hc) (flat_get entV_len l j (by omega)) (by rw [flat_len entV_len]; omega) (by omega) Tryz.isAgg73 Tryz.sizeOf73 rfl ?_; clear hs; intro a w hs
   exact wpList_nil (K_ _ _ hs)
  ·
   intro a_ w_ R_ Q_ hm hs K_
   refine st_ia (j := j) hs rfl rfl (hm.rd0 hc2) rfl (by omega) Tryz.underlying22 Tryz.sizeOf73 rfl ?_; clear hs; intro a w hs
   exact wpList_nil (K_ _ _ hs)
  ·
   intro a_ w_ R_ Q_ hm hs K_
   refine st_ldA (cs := entV (l2.getD j default)) hs rfl (hm.rd0 hc2) (flat_get entV_len l2 j (by omega)) (by rw [flat_len entV_len]; omega) (by omega) Tryz.isAgg73 Tryz.sizeOf73 rfl ?_; clear hs; intro a w hs
   exact wpList_nil (K_ _ _ hs)
  clear hs w a; intro a w hs
  refine goE 0 [] [44, 2, 3, 5] hs .n ?_; clear hs w a; intro a w hs
  refine ifG hs rfl (fun c_8 => ?_) (fun c_8 => ?_)
  ·
   replace c_8 := not_t c_8
   have hne_ : l.getD j default ≠ l2.getD j default := fun e => by have h1 := entV_eq.2 e; rw [show eqCells (entV (l.getD j default)) (entV (l2.getD j default)) = false by assumption] at h1; cases h1
   refine go 1 [] [4] hs .n ?_; clear hs w a; intro a w hs
   replace hs := hs.drop (.c (.s .z) (.c .z .n))
   exact fin hs rfl rfl ⟨congrArg Value.bool (show false = sSame t tm l t2 tm2 l2 from (by first | exact (sSame_t (by omega) (by omega) (ents_eq (by omega) fun i hi => hI1_1 i (by omega))).symm | exact (sSame_f fun ⟨_, _, e⟩ => by first | omega | (exact getD_ne (by assumption) e) | (have := congrArg List.length e; omega)).symm)), rfl⟩
  replace c_8 := not_f c_8
  have heq_ : l.getD j default = l2.getD j default := entV_eq.1 (by assumption)
  refine go 3 [] [5, 2, 3] hs .n ⟨(by omega), ?_⟩; clear hs w a; intro a w hs
  replace hs := hs.reorder (.c (.s .z) (.c .z .n))
  refine ⟨_, ?_, j + 1, rfl, hs.sub (.c rfl (.c rfl (.c rfl .n))), by omega, all_next hI1_1 heq_⟩
  omega
 replace c_6 := of_decide_eq_false c_6
 refine go 1 [] [4] hs .n ?_; clear hs w a; intro a w hs
 replace hs := hs.drop (.c (.s .z) (.c .z .n))
 exact fin hs rfl rfl ⟨congrArg Value.bool (show true = sSame t tm l t2 tm2 l2 from (by first | exact (sSame_t (by omega) (by omega) (ents_eq (by omega) fun i hi => hI1_1 i (by omega))).symm | exact (sSame_f fun ⟨_, _, e⟩ => by first | omega | (exact getD_ne (by assumption) e) | (have := congrArg List.length e; omega)).symm)), rfl⟩
end Go.Proofs.YtbioemaipghagaaGreat
