/- Walks of the document's snapshots: what each function does, over the program of this seat. Printed by a program of this session. -/
import Derived.Test.YtbioemaipghagaaGreatQSxPdeltaM
import Derived.Test.YtbioemaipghagaaGreatQSxRrd
import Derived.Test.YtbioemaipghagaaGreatQSxS
import Derived.Test.YtbioemaipghagaaGreatQSxBasB
import Derived.Test.YtbioemaipghagaaGreatProg
namespace Go.Proofs.YtbioemaipghagaaGreat
open Go Go.Sx Go.RowKit
set_option linter.unusedVariables false
set_option linter.unusedSimpArgs false
set_option maxRecDepth 4000
set_option maxHeartbeats 1000000

theorem ssame_ok (t tm : Int) (u : Value) (l : List EntR) (t2 tm2 : Int) (u2 : Value) (l2 : List EntR) (w0 : World) (hc : Rd w0 [] u 9 l.length (l.flatMap entV)) (hc2 : Rd w0 [] u2 9 l2.length (l2.flatMap entV)) : Calls Tryz.prog 15 #[.agg #[.int .i64 (t), .int .i64 (tm), u], .agg #[.int .i64 (t2), .int .i64 (tm2), u2]] w0 (RetV w0 (.bool (sSame t tm l t2 tm2 l2))) := by
  have hce := hc.le
  simp only [maxLen] at hce
  have hce2 := hc2.le
  simp only [maxLen] at hce2
  refine enter (F0 := [(0, .agg #[.int .i64 (t), .int .i64 (tm), u]), (1, .agg #[.int .i64 (t2), .int .i64 (tm2), u2])]) Tryz.func15 rfl rfl rfl (.c (.c .n)) (Mem.nil _) fun a w hs => ?_
  refine wp_seq_k fun K1 hK2 => ?_
  refine wp_region_lit ?_
  refine st_box (cs := [.int .i64 (t), .int .i64 (tm), u]) hs rfl rfl rfl ?_; clear hs w a; intro g3 a w hs
  refine st_box (cs := [.int .i64 (t2), .int .i64 (tm2), u2]) hs rfl rfl rfl ?_; clear hs w a; intro g4 a w hs
  refine st_as hs rfl rfl ?_; clear hs w a; intro a w hs
  refine wpList_nil ?_
  refine then_n (hK2 _ _ ?_)
  refine wp_seq_k fun K5 hK6 => ?_
  refine wp_seq_k fun K7 hK8 => ?_
  refine wp_region_lit ?_
  refine st_run 6 [(11, .bool (!((t : Int) == t2)))] hs (.c (hs.mem.del (.s .z)) (.c (hs.mem.del .z) .n)) (by kernel_rfl) (by kernel_rfl) (by kernel_rfl) ?_; clear hs a; intro a hs
  refine st_part (b := !((t : Int) == t2)) (fun hc9 => ?_) (fun hc9 => ?_)
  ·
   rw [hc9] at hs
   replace hc9 := not_t hc9
   replace hc9 := ne_of_beq_f hc9
   refine st_run 15 [(26, .bool (true))] hs .n (by kernel_rfl) (by kernel_rfl) (by kernel_rfl) ?_; clear hs a; intro a hs
   refine wpList_nil ?_
   refine then_n (hK8 _ _ ?_)
   refine wp_cond_true (hs.ev rfl) ?_
   refine wp_seq_k fun K10 hK11 => ?_
   refine wp_region_lit ?_
   refine st_as hs rfl rfl ?_; clear hs w a; intro a w hs
   refine wpList_nil ?_
   refine then_n (hK11 _ _ ?_)
   refine wp_ret ?_
   refine th_r ?_
   replace hs := hs.drop (.c (.s .z) (.c .z .n))
   exact fin hs rfl rfl ⟨congrArg Value.bool (show false = sSame t tm l t2 tm2 l2 from (by first | exact (sSame_t (by omega) (by omega) (ents_eq (by omega) fun i hi => hI1_1 i (by omega))).symm | exact (sSame_f fun ⟨_, _, e⟩ => by first | omega | (exact getD_ne (by assumption) e) | (have := congrArg List.length e; omega)).symm)), rfl⟩
  rw [hc9] at hs
  replace hc9 := not_f hc9
  replace hc9 := eq_of_beq hc9
  refine st_run 7 [(18, .bool (!((tm : Int) == tm2)))] hs (.c (hs.mem.del (.s .z)) (.c (hs.mem.del .z) .n)) (by kernel_rfl) (by kernel_rfl) (by kernel_rfl) ?_; clear hs a; intro a hs
  refine st_part (b := !((tm : Int) == tm2)) (fun hc12 => ?_) (fun hc12 => ?_)
  ·
   rw [hc12] at hs
   replace hc12 := not_t hc12
   replace hc12 := ne_of_beq_f hc12
   refine st_run 8 [(26, .bool (true))] hs .n (by kernel_rfl) (by kernel_rfl) (by kernel_rfl) ?_; clear hs a; intro a hs
   refine wpList_nil ?_
   refine then_n (hK8 _ _ ?_)
   refine wp_cond_true (hs.ev rfl) ?_
   refine wp_seq_k fun K13 hK14 => ?_
   refine wp_region_lit ?_
   refine st_as hs rfl rfl ?_; clear hs w a; intro a w hs
   refine wpList_nil ?_
   refine then_n (hK14 _ _ ?_)
   refine wp_ret ?_
   refine th_r ?_
   replace hs := hs.drop (.c (.s .z) (.c .z .n))
   exact fin hs rfl rfl ⟨congrArg Value.bool (show false = sSame t tm l t2 tm2 l2 from (by first | exact (sSame_t (by omega) (by omega) (ents_eq (by omega) fun i hi => hI1_1 i (by omega))).symm | exact (sSame_f fun ⟨_, _, e⟩ => by first | omega | (exact getD_ne (by assumption) e) | (have := congrArg List.length e; omega)).symm)), rfl⟩
  rw [hc12] at hs
  replace hc12 := not_f hc12
  replace hc12 := eq_of_beq hc12
  refine st_run 2 [(20, u)] hs (.c (hs.mem.del (.s .z)) .n) (by kernel_rfl) (by kernel_rfl) (by kernel_rfl) ?_; clear hs a; intro a hs
  refine st_guardT hs rfl rfl rfl ?_
  refine st_len hs rfl (hs.rd0 hc).isSl Tryz.underlying22 rfl ?_; clear hs w a; intro a w hs
  refine st_run 2 [(23, u2)] hs (.c (hs.mem.del .z) .n) (by kernel_rfl) (by kernel_rfl) (by kernel_rfl) ?_; clear hs a; intro a hs
  refine st_guardT hs rfl rfl rfl ?_
  refine st_len hs rfl (hs.rd0 hc2).isSl Tryz.underlying22 rfl ?_; clear hs w a; intro a w hs
  refine st_run 2 [(26, .bool (!((((l.length : Nat) : Int) : Int) == (((l2.length : Nat) : Int)))))] hs .n (by kernel_rfl) (by kernel_rfl) (by kernel_rfl) ?_; clear hs a; intro a hs
  refine wpList_nil ?_
  refine then_n (hK8 _ _ ?_)
  refine wp_if hs rfl (fun hc15 => ?_) (fun hc15 => ?_)
  ·
   replace hc15 := not_t hc15
   replace hc15 := ne_of_beq_f hc15
   refine wp_seq_k fun K16 hK17 => ?_
   refine wp_region_lit ?_
   refine st_as hs rfl rfl ?_; clear hs w a; intro a w hs
   refine wpList_nil ?_
   refine then_n (hK17 _ _ ?_)
   refine wp_ret ?_
   refine th_r ?_
   replace hs := hs.drop (.c (.s .z) (.c .z .n))
   exact fin hs rfl rfl ⟨congrArg Value.bool (show false = sSame t tm l t2 tm2 l2 from (by first | exact (sSame_t (by omega) (by omega) (ents_eq (by omega) fun i hi => hI1_1 i (by omega))).symm | exact (sSame_f fun ⟨_, _, e⟩ => by first | omega | (exact getD_ne (by assumption) e) | (have := congrArg List.length e; omega)).symm)), rfl⟩
  replace hc15 := not_f hc15
  replace hc15 := eq_of_beq hc15
  refine wp_skip ?_
  refine then_n (hK6 _ _ ?_)
  refine wp_seq_k fun K18 hK19 => ?_
  refine wp_seq_k fun K20 hK21 => ?_
  refine wp_region_lit ?_
  refine st_as hs rfl rfl ?_; clear hs w a; intro a w hs
  refine wpList_nil ?_
  refine then_n (hK21 _ _ ?_)
  refine wp_block ?_
  refine wp_loopI (fun mm_ a w => ∃ j : Nat, mm_ = l.length - j ∧ St 45 [(2, .pointer (some ⟨g3, 0, none⟩)), (3, .pointer (some ⟨g4, 0, none⟩)), (5, .int .i64 ((j : Int)))] w0 [] [blk g4 [.int .i64 (t2), .int .i64 (tm2), u2] 24, blk g3 [.int .i64 (t), .int .i64 (tm), u] 24] a w ∧ j ≤ l.length ∧ ∀ i, i < j → l.getD i default = l2.getD i default) ⟨0, rfl, hs.sub (.c rfl (.c rfl (.c rfl .n))), by omega, fun i hi => absurd hi (Nat.not_lt_zero i)⟩ ?_
  clear hs w a; rintro mm_ a w ⟨j, rfl, hs, hI1_0, hI1_1⟩
  refine wp_seq_k fun K22 hK23 => ?_
  refine wp_seq_k fun K24 hK25 => ?_
  refine wp_region_lit ?_
  refine st_run 3 [(29, u), (28, .pointer (some ⟨g3, 2, none⟩)), (27, .int .i64 ((j : Int)))] hs (.c (hs.mem.del (.s .z)) .n) (by kernel_rfl) (by kernel_rfl) (by kernel_rfl) ?_; clear hs a; intro a hs
  refine st_len hs rfl (hs.rd0 hc).isSl Tryz.underlying22 rfl ?_; clear hs w a; intro a w hs
  refine st_lss hs rfl rfl rfl ?_; clear hs w a; intro a w hs
  refine wpList_nil ?_
  refine then_n (hK25 _ _ ?_)
  refine wp_if hs rfl (fun hc26 => ?_) (fun hc26 => ?_)
  ·
   replace hc26 := of_decide_eq_true hc26
   refine wp_skip ?_
   refine then_n (hK23 _ _ ?_)
   refine wp_seq_k fun K27 hK28 => ?_
   refine wp_block ?_
   refine wp_seq_k fun K29 hK30 => ?_
   replace hs := hs.sub (F' := [(31, .bool (decide ((j : Int) < (((l.length : Nat) : Int))))), (30, .int .i64 (((l.length : Nat) : Int))), (29, u), (28, .pointer (some ⟨g3, 2, none⟩)), (27, .int .i64 ((j : Int))), (2, .pointer (some ⟨g3, 0, none⟩)), (3, .pointer (some ⟨g4, 0, none⟩)), (5, .int .i64 ((j : Int)))]) (.c rfl (.c rfl (.c rfl (.c rfl (.c rfl (.c rfl (.c rfl (.c rfl .n))))))))
   refine wp_drawG (M0 := [blk g4 [.int .i64 (t2), .int .i64 (tm2), u2] 24, blk g3 [.int .i64 (t), .int .i64 (tm), u] 24]) (Ds := [Pv 0 (.pointer (some ⟨g3, 2, none⟩)), Pv 1 u, Pv 2 (.int .i64 ((j : Int))), Pv 3 (.pointer (some (adr u (j * 9)))), Pv 4 (.agg #[.int .i64 ((l.getD j default).id), .int .i64 ((l.getD j default).p0), .int .i64 ((l.getD j default).p1), .int .i64 ((l.getD j default).p2), .int .i64 ((l.getD j default).v0), .int .i64 ((l.getD j default).v1), .int .i64 ((l.getD j default).v2), .int .u16 (((((l.getD j default).a).toNat : Nat) : Int)), .int .u8 (((((l.getD j default).g).toNat : Nat) : Int))]), Pv 5 (.pointer (some ⟨g4, 2, none⟩)), Pv 6 u2, Pv 7 (.int .i64 ((j : Int))), Pv 8 (.pointer (some (adr u2 (j * 9)))), Pv 9 (.agg #[.int .i64 ((l2.getD j default).id), .int .i64 ((l2.getD j default).p0), .int .i64 ((l2.getD j default).p1), .int .i64 ((l2.getD j default).p2), .int .i64 ((l2.getD j default).v0), .int .i64 ((l2.getD j default).v1), .int .i64 ((l2.getD j default).v2), .int .u16 (((((l2.getD j default).a).toNat : Nat) : Int)), .int .u8 (((((l2.getD j default).g).toNat : Nat) : Int))]), Pv 10 (.bool (!(eqCells [.int .i64 ((l.getD j default).id), .int .i64 ((l.getD j default).p0), .int .i64 ((l.getD j default).p1), .int .i64 ((l.getD j default).p2), .int .i64 ((l.getD j default).v0), .int .i64 ((l.getD j default).v1), .int .i64 ((l.getD j default).v2), .int .u16 (((((l.getD j default).a).toNat : Nat) : Int)), .int .u8 (((((l.getD j default).g).toNat : Nat) : Int))] [.int .i64 ((l2.getD j default).id), .int .i64 ((l2.getD j default).p0), .int .i64 ((l2.getD j default).p1), .int .i64 ((l2.getD j default).p2), .int .i64 ((l2.getD j default).v0), .int .i64 ((l2.getD j default).v1), .int .i64 ((l2.getD j default).v2), .int .u16 (((((l2.getD j default).a).toNat : Nat) : Int)), .int .u8 (((((l2.getD j default).g).toNat : Nat) : Int))])))]) (by kernel_rfl) hs rfl .n (by kernel_rfl) (by kernel_rfl) (by kernel_rfl) ?_ ?_
   ·
    refine (.c ?_ (.c ?_ (.c ?_ (.c ?_ (.c ?_ (.c ?_ (.c ?_ (.c ?_ (.c ?_ (.c ?_ (.c ?_ .n)))))))))))
    · exact trip_pv (m := 11) .n (fun hm0 hm hx => .n) (by kernel_rfl) (by kernel_rfl) rfl
    · exact trip_pv (m := 11) (.c (k := 0) (by kernel_rfl) rfl rfl .n) (fun hm0 hm hx => (.c (hm0.del (.s .z)))) (by kernel_rfl) (by kernel_rfl) rfl
    · exact trip_pv (m := 11) .n (fun hm0 hm hx => .n) (by kernel_rfl) (by kernel_rfl) rfl
    ·
     intro a_ w_ R_ rest_ vs31 hm hs ht hx
     have hm0 := hm.mid
     replace hs := hs.lrn (ht 1 (twB_spec 11 _ (by kernel_rfl))) rfl rfl
     replace hs := hs.lrn (ht 2 (twB_spec 11 _ (by kernel_rfl))) rfl rfl
     have hs0 := hs.bare
     refine st_ia (j := j) hs rfl rfl (hm.rd0 hc) rfl (by omega) Tryz.underlying22 Tryz.sizeOf73 rfl ?_; clear hs; intro a w hs
     exact wpList_nil ⟨rfl, _, _, hs0, (.c (.c .r)), hs, rfl⟩
    ·
     intro a_ w_ R_ rest_ vs31 hm hs ht hx
     have hm0 := hm.mid
     replace hs := hs.lrn (ht 3 (twB_spec 11 _ (by kernel_rfl))) rfl rfl
     have hs0 := hs.bare
     refine st_ldA (cs := entV (l.getD j default)) hs rfl (hm.rd0 hc) (flat_get entV_len l j (by omega)) (by rw [flat_len entV_len]; omega) (by omega) Tryz.isAgg73 Tryz.sizeOf73 rfl ?_; clear hs; intro a w hs
     exact wpList_nil ⟨rfl, _, _, hs0, (.c .r), hs, rfl⟩
    · exact trip_pv (m := 11) .n (fun hm0 hm hx => .n) (by kernel_rfl) (by kernel_rfl) rfl
    · exact trip_pv (m := 11) (.c (k := 5) (by kernel_rfl) rfl rfl .n) (fun hm0 hm hx => (.c (hm0.del .z))) (by kernel_rfl) (by kernel_rfl) rfl
    · exact trip_pv (m := 11) .n (fun hm0 hm hx => .n) (by kernel_rfl) (by kernel_rfl) rfl
    ·
     intro a_ w_ R_ rest_ vs31 hm hs ht hx
     have hm0 := hm.mid
     replace hs := hs.lrn (ht 6 (twB_spec 11 _ (by kernel_rfl))) rfl rfl
     replace hs := hs.lrn (ht 7 (twB_spec 11 _ (by kernel_rfl))) rfl rfl
     have hs0 := hs.bare
     refine st_ia (j := j) hs rfl rfl (hm.rd0 hc2) rfl (by omega) Tryz.underlying22 Tryz.sizeOf73 rfl ?_; clear hs; intro a w hs
     exact wpList_nil ⟨rfl, _, _, hs0, (.c (.c .r)), hs, rfl⟩
    ·
     intro a_ w_ R_ rest_ vs31 hm hs ht hx
     have hm0 := hm.mid
     replace hs := hs.lrn (ht 8 (twB_spec 11 _ (by kernel_rfl))) rfl rfl
     have hs0 := hs.bare
     refine st_ldA (cs := entV (l2.getD j default)) hs rfl (hm.rd0 hc2) (flat_get entV_len l2 j (by omega)) (by rw [flat_len entV_len]; omega) (by omega) Tryz.isAgg73 Tryz.sizeOf73 rfl ?_; clear hs; intro a w hs
     exact wpList_nil ⟨rfl, _, _, hs0, (.c .r), hs, rfl⟩
    intro a_ w_ R_ rest_ vs31 hm hs ht hx
    have hm0 := hm.mid
    replace hs := hs.lrn (ht 4 (twB_spec 11 _ (by kernel_rfl))) rfl rfl
    replace hs := hs.lrn (ht 9 (twB_spec 11 _ (by kernel_rfl))) rfl rfl
    have hs0 := hs.bare
    refine st_neqF (xs := [.int .i64 ((l.getD j default).id), .int .i64 ((l.getD j default).p0), .int .i64 ((l.getD j default).p1), .int .i64 ((l.getD j default).p2), .int .i64 ((l.getD j default).v0), .int .i64 ((l.getD j default).v1), .int .i64 ((l.getD j default).v2), .int .u16 (((((l.getD j default).a).toNat : Nat) : Int)), .int .u8 (((((l.getD j default).g).toNat : Nat) : Int))]) (ys := [.int .i64 ((l2.getD j default).id), .int .i64 ((l2.getD j default).p0), .int .i64 ((l2.getD j default).p1), .int .i64 ((l2.getD j default).p2), .int .i64 ((l2.getD j default).v0), .int .i64 ((l2.getD j default).v1), .int .i64 ((l2.getD j default).v2), .int .u16 (((((l2.getD j default).a).toNat : Nat) : Int)), .int .u8 (((((l2.getD j default).g).toNat : Nat) : Int))]) (ks := [.i .i64, .i .i64, .i .i64, .i .i64, .i .i64, .i .i64, .i .i64, .i .u16, .i .u8]) 6 hs rfl rfl (by kernel_rfl) (by kernel_rfl) (by kernel_rfl) (by decide) (.i (.i (.i (.i (.i (.i (.i (.i (.i .n))))))))) (.i (.i (.i (.i (.i (.i (.i (.i (.i .n))))))))) rfl ?_; clear hs; intro a w hs
    exact wpList_nil ⟨rfl, _, _, hs0, (.c (.c .r)), hs, rfl⟩
   clear hs w a; intro a w vs31 hs hf
   replace hs : St _ _ _ _ [blk g4 [.int .i64 (t2), .int .i64 (tm2), u2] 24, blk g3 [.int .i64 (t), .int .i64 (tm), u] 24] _ _ := hs
   obtain ⟨e10, q10⟩ := hf 10 (by decide)
   replace e10 : _ = some (vs31 10) := e10.val rfl
   rw [show vs31 10 = .bool (!(eqCells [.int .i64 ((l.getD j default).id), .int .i64 ((l.getD j default).p0), .int .i64 ((l.getD j default).p1), .int .i64 ((l.getD j default).p2), .int .i64 ((l.getD j default).v0), .int .i64 ((l.getD j default).v1), .int .i64 ((l.getD j default).v2), .int .u16 (((((l.getD j default).a).toNat : Nat) : Int)), .int .u8 (((((l.getD j default).g).toNat : Nat) : Int))] [.int .i64 ((l2.getD j default).id), .int .i64 ((l2.getD j default).p0), .int .i64 ((l2.getD j default).p1), .int .i64 ((l2.getD j default).p2), .int .i64 ((l2.getD j default).v0), .int .i64 ((l2.getD j default).v1), .int .i64 ((l2.getD j default).v2), .int .u16 (((((l2.getD j default).a).toNat : Nat) : Int)), .int .u8 (((((l2.getD j default).g).toNat : Nat) : Int))])) from q10] at e10
   replace hs := hs.learn e10; clear e10 q10
   clear hf
   refine then_n (hK30 _ _ ?_)
   refine wp_if hs rfl (fun hc32 => ?_) (fun hc32 => ?_)
   ·
    replace hc32 := not_t hc32
    have hne_ : l.getD j default ≠ l2.getD j default := fun e => by have h1 := entV_eq.2 e; rw [show eqCells (entV (l.getD j default)) (entV (l2.getD j default)) = false by assumption] at h1; cases h1
    refine wp_seq_k fun K33 hK34 => ?_
    refine wp_region_lit ?_
    refine st_as hs rfl rfl ?_; clear hs w a; intro a w hs
    refine wpList_nil ?_
    refine then_n (hK34 _ _ ?_)
    refine wp_ret ?_
    refine in_r ?_
    refine th_r ?_
    refine th_r ?_
    refine in_r ?_
    refine th_r ?_
    replace hs := hs.drop (.c (.s .z) (.c .z .n))
    exact fin hs rfl rfl ⟨congrArg Value.bool (show false = sSame t tm l t2 tm2 l2 from (by first | exact (sSame_t (by omega) (by omega) (ents_eq (by omega) fun i hi => hI1_1 i (by omega))).symm | exact (sSame_f fun ⟨_, _, e⟩ => by first | omega | (exact getD_ne (by assumption) e) | (have := congrArg List.length e; omega)).symm)), rfl⟩
   replace hc32 := not_f hc32
   have heq_ : l.getD j default = l2.getD j default := entV_eq.1 (by assumption)
   refine wp_skip ?_
   refine in_n ?_
   refine then_n (hK28 _ _ ?_)
   refine wp_region_lit ?_
   refine st_mv hs rfl rfl ?_; clear hs w a; intro a w hs
   refine st_addR hs rfl rfl (by omega) rfl ?_; clear hs w a; intro a w hs
   refine st_as hs rfl rfl ?_; clear hs w a; intro a w hs
   refine wpList_nil ?_
   refine then_n ?_
   refine ⟨_, ?_, j + 1, rfl, hs.sub (.c rfl (.c rfl (.c rfl .n))), by omega, all_next hI1_1 heq_⟩
   omega
  replace hc26 := of_decide_eq_false hc26
  refine wp_exit ?_
  refine th_e ?_
  refine th_e ?_
  refine in_hit ?_
  refine then_n (hK19 _ _ ?_)
  refine wp_seq_k fun K35 hK36 => ?_
  refine wp_region_lit ?_
  refine st_as hs rfl rfl ?_; clear hs w a; intro a w hs
  refine wpList_nil ?_
  refine then_n (hK36 _ _ ?_)
  refine wp_ret ?_
  replace hs := hs.drop (.c (.s .z) (.c .z .n))
  exact fin hs rfl rfl ⟨congrArg Value.bool (show true = sSame t tm l t2 tm2 l2 from (by first | exact (sSame_t (by omega) (by omega) (ents_eq (by omega) fun i hi => hI1_1 i (by omega))).symm | exact (sSame_f fun ⟨_, _, e⟩ => by first | omega | (exact getD_ne (by assumption) e) | (have := congrArg List.length e; omega)).symm)), rfl⟩
end Go.Proofs.YtbioemaipghagaaGreat
