/- Walks of two datagrams alike: what each function does, over the program of this seat. Printed by a program of this session. -/
import Derived.Test.YtbioemaipghagaaGreatQWrec
import Derived.Test.YtbioemaipghagaaGreatQSxPgramR
namespace Go.Proofs.YtbioemaipghagaaGreat
open Go Go.Sx Go.RowKit
set_option linter.unusedVariables false
set_option linter.unusedSimpArgs false
set_option maxRecDepth 4000
set_option maxHeartbeats 1000000

theorem gsame_ok (t tm b : Int) (u u2 : Value) (l : List RecR) (w0 : World) (hc : Rd w0 [] u 9 l.length (l.flatMap recV)) (hc2 : Rd w0 [] u2 9 l.length (l.flatMap recV)) : Calls Tryz.prog 19 #[.agg #[.int .i64 t, .int .i64 tm, .int .i64 b, u], .agg #[.int .i64 t, .int .i64 tm, .int .i64 b, u2]] w0 (RetV w0 (.bool true)) := by
  have hce := hc.le
  simp only [maxLen] at hce
  refine enter (F0 := [(0, .agg #[.int .i64 (t), .int .i64 (tm), .int .i64 (b), u]), (1, .agg #[.int .i64 (t), .int .i64 (tm), .int .i64 (b), u2])]) Tryz.func19 rfl rfl rfl (.c (.c .n)) (Mem.nil _) fun a w hs => ?_
  refine wp_seq_k fun K1 hK2 => ?_
  refine wp_region_lit ?_
  refine st_box (cs := [.int .i64 (t), .int .i64 (tm), .int .i64 (b), u]) hs rfl rfl rfl ?_; clear hs w a; intro g3 a w hs
  refine st_box (cs := [.int .i64 (t), .int .i64 (tm), .int .i64 (b), u2]) hs rfl rfl rfl ?_; clear hs w a; intro g4 a w hs
  refine st_as hs rfl rfl ?_; clear hs w a; intro a w hs
  refine wpList_nil ?_
  refine then_n (hK2 _ _ ?_)
  refine wp_seq_k fun K5 hK6 => ?_
  refine wp_seq_k fun K7 hK8 => ?_
  refine wp_region_lit ?_
  refine st_run 5 [(10, .bool (!((t : Int) == t)))] hs (.c (hs.mem.del (.s .z)) (.c (hs.mem.del .z) .n)) (by kernel_rfl) (by kernel_rfl) (by kernel_rfl) ?_; clear hs a; intro a hs
  have hb_ : (!((t : Int) == t)) = false := by simp
  rw [hb_] at hs; clear hb_
  refine st_run 6 [(16, .bool (!((tm : Int) == tm))), (11, .bool (false))] hs (.c (hs.mem.del (.s .z)) (.c (hs.mem.del .z) .n)) (by kernel_rfl) (by kernel_rfl) (by kernel_rfl) ?_; clear hs a; intro a hs
  have hb_ : (!((tm : Int) == tm)) = false := by simp
  rw [hb_] at hs; clear hb_
  refine st_run 7 [(23, .bool (!((b : Int) == b))), (18, .bool (false))] hs (.c (hs.mem.del (.s .z)) (.c (hs.mem.del .z) .n)) (by kernel_rfl) (by kernel_rfl) (by kernel_rfl) ?_; clear hs a; intro a hs
  have hb_ : (!((b : Int) == b)) = false := by simp
  rw [hb_] at hs; clear hb_
  refine st_run 4 [(27, u), (25, .bool (false))] hs (.c (hs.mem.del (.s .z)) .n) (by kernel_rfl) (by kernel_rfl) (by kernel_rfl) ?_; clear hs a; intro a hs
  refine st_guardT hs rfl rfl rfl ?_
  refine st_len hs rfl (hs.rd0 hc).isSl Tryz.underlying27 rfl ?_; clear hs w a; intro a w hs
  refine st_run 2 [(30, u2)] hs (.c (hs.mem.del .z) .n) (by kernel_rfl) (by kernel_rfl) (by kernel_rfl) ?_; clear hs a; intro a hs
  refine st_guardT hs rfl rfl rfl ?_
  refine st_len hs rfl (hs.rd0 hc2).isSl Tryz.underlying27 rfl ?_; clear hs w a; intro a w hs
  refine st_guardT hs rfl rfl rfl ?_
  refine st_neq hs rfl rfl rfl ?_; clear hs w a; intro a w hs
  have hb_ : (!((((l.length : Nat) : Int) : Int) == (((l.length : Nat) : Int)))) = false := by simp
  rw [hb_] at hs; clear hb_
  refine st_pickF hs rfl rfl rfl ?_; clear hs w a; intro a w hs
  refine wpList_nil ?_
  refine then_n (hK8 _ _ ?_)
  refine wp_cond_false (hs.ev rfl) ?_
  refine wp_skip ?_
  refine then_n (hK6 _ _ ?_)
  refine wp_seq_k fun K9 hK10 => ?_
  refine wp_seq_k fun K11 hK12 => ?_
  refine wp_region_lit ?_
  refine st_as hs rfl rfl ?_; clear hs w a; intro a w hs
  refine wpList_nil ?_
  refine then_n (hK12 _ _ ?_)
  refine wp_block ?_
  refine wp_loopI (fun mm_ a w => ∃ i : Nat, mm_ = l.length - i ∧ St 52 [(2, .pointer (some ⟨g3, 0, none⟩)), (3, .pointer (some ⟨g4, 0, none⟩)), (5, .int .i64 ((i : Int)))] w0 [] [blk g4 [.int .i64 (t), .int .i64 (tm), .int .i64 (b), u2] 29, blk g3 [.int .i64 (t), .int .i64 (tm), .int .i64 (b), u] 29] a w ∧ i ≤ l.length) ⟨0, rfl, hs.sub (.c rfl (.c rfl (.c rfl .n))), by omega⟩ ?_
  clear hs w a; rintro mm_ a w ⟨i, rfl, hs, hI1_0⟩
  refine wp_seq_k fun K13 hK14 => ?_
  refine wp_seq_k fun K15 hK16 => ?_
  refine wp_region_lit ?_
  refine st_run 3 [(36, u), (35, .pointer (some ⟨g3, 3, none⟩)), (34, .int .i64 ((i : Int)))] hs (.c (hs.mem.del (.s .z)) .n) (by kernel_rfl) (by kernel_rfl) (by kernel_rfl) ?_; clear hs a; intro a hs
  refine st_len hs rfl (hs.rd0 hc).isSl Tryz.underlying27 rfl ?_; clear hs w a; intro a w hs
  refine st_lss hs rfl rfl rfl ?_; clear hs w a; intro a w hs
  refine wpList_nil ?_
  refine then_n (hK16 _ _ ?_)
  refine wp_if hs rfl (fun hc17 => ?_) (fun hc17 => ?_)
  ·
   replace hc17 := of_decide_eq_true hc17
   refine wp_skip ?_
   refine then_n (hK14 _ _ ?_)
   refine wp_seq_k fun K18 hK19 => ?_
   refine wp_block ?_
   refine wp_seq_k fun K20 hK21 => ?_
   replace hs := hs.sub (F' := [(38, .bool (decide ((i : Int) < (((l.length : Nat) : Int))))), (37, .int .i64 (((l.length : Nat) : Int))), (36, u), (35, .pointer (some ⟨g3, 3, none⟩)), (34, .int .i64 ((i : Int))), (2, .pointer (some ⟨g3, 0, none⟩)), (3, .pointer (some ⟨g4, 0, none⟩)), (5, .int .i64 ((i : Int)))]) (.c rfl (.c rfl (.c rfl (.c rfl (.c rfl (.c rfl (.c rfl (.c rfl .n))))))))
   refine wp_drawG (M0 := [blk g4 [.int .i64 (t), .int .i64 (tm), .int .i64 (b), u2] 29, blk g3 [.int .i64 (t), .int .i64 (tm), .int .i64 (b), u] 29]) (Ds := [Pv 0 (.pointer (some ⟨g3, 3, none⟩)), Pv 1 u, Pv 2 (.int .i64 ((i : Int))), Pv 3 (.pointer (some (adr u (i * 9)))), Pv 4 (.agg #[.int .i64 ((l.getD i default).k), .int .i64 ((l.getD i default).id), .int .i64 ((l.getD i default).p0), .int .i64 ((l.getD i default).p1), .int .i64 ((l.getD i default).p2), .int .i64 ((l.getD i default).v0), .int .i64 ((l.getD i default).v1), .int .i64 ((l.getD i default).v2), .int .u16 (((((l.getD i default).a).toNat : Nat) : Int))]), Pv 5 (.pointer (some ⟨g4, 3, none⟩)), Pv 6 u2, Pv 7 (.int .i64 ((i : Int))), Pv 8 (.pointer (some (adr u2 (i * 9)))), Pv 9 (.agg #[.int .i64 ((l.getD i default).k), .int .i64 ((l.getD i default).id), .int .i64 ((l.getD i default).p0), .int .i64 ((l.getD i default).p1), .int .i64 ((l.getD i default).p2), .int .i64 ((l.getD i default).v0), .int .i64 ((l.getD i default).v1), .int .i64 ((l.getD i default).v2), .int .u16 (((((l.getD i default).a).toNat : Nat) : Int))]), Pv 10 (.bool (false))]) (by kernel_rfl) hs rfl .n (by kernel_rfl) (by kernel_rfl) (by kernel_rfl) ?_ ?_
   ·
    refine (.c ?_ (.c ?_ (.c ?_ (.c ?_ (.c ?_ (.c ?_ (.c ?_ (.c ?_ (.c ?_ (.c ?_ (.c ?_ .n)))))))))))
    · exact trip_pv (m := 11) .n (fun hm0 hm hx => .n) (by kernel_rfl) (by kernel_rfl) rfl
    · exact trip_pv (m := 11) (.c (k := 0) (by kernel_rfl) rfl rfl .n) (fun hm0 hm hx => (.c (hm0.del (.s .z)))) (by kernel_rfl) (by kernel_rfl) rfl
    · exact trip_pv (m := 11) .n (fun hm0 hm hx => .n) (by kernel_rfl) (by kernel_rfl) rfl
    ·
     intro a_ w_ R_ rest_ vs22 hm hs ht hx
     have hm0 := hm.mid
     replace hs := hs.lrn (ht 1 (twB_spec 11 _ (by kernel_rfl))) rfl rfl
     replace hs := hs.lrn (ht 2 (twB_spec 11 _ (by kernel_rfl))) rfl rfl
     have hs0 := hs.bare
     refine st_ia (j := i) hs rfl rfl (hm.rd0 hc) rfl (by omega) Tryz.underlying27 Tryz.sizeOf78 rfl ?_; clear hs; intro a w hs
     exact wpList_nil ⟨rfl, _, _, hs0, (.c (.c .r)), hs, rfl⟩
    ·
     intro a_ w_ R_ rest_ vs22 hm hs ht hx
     have hm0 := hm.mid
     replace hs := hs.lrn (ht 3 (twB_spec 11 _ (by kernel_rfl))) rfl rfl
     have hs0 := hs.bare
     refine st_ldA (cs := recV (l.getD i default)) hs rfl (hm.rd0 hc) (flat_get recV_len l i (by omega)) (by rw [flat_len recV_len]; omega) (by omega) Tryz.isAgg78 Tryz.sizeOf78 rfl ?_; clear hs; intro a w hs
     exact wpList_nil ⟨rfl, _, _, hs0, (.c .r), hs, rfl⟩
    · exact trip_pv (m := 11) .n (fun hm0 hm hx => .n) (by kernel_rfl) (by kernel_rfl) rfl
    · exact trip_pv (m := 11) (.c (k := 5) (by kernel_rfl) rfl rfl .n) (fun hm0 hm hx => (.c (hm0.del .z))) (by kernel_rfl) (by kernel_rfl) rfl
    · exact trip_pv (m := 11) .n (fun hm0 hm hx => .n) (by kernel_rfl) (by kernel_rfl) rfl
    ·
     intro a_ w_ R_ rest_ vs22 hm hs ht hx
     have hm0 := hm.mid
     replace hs := hs.lrn (ht 6 (twB_spec 11 _ (by kernel_rfl))) rfl rfl
     replace hs := hs.lrn (ht 7 (twB_spec 11 _ (by kernel_rfl))) rfl rfl
     have hs0 := hs.bare
     refine st_ia (j := i) hs rfl rfl (hm.rd0 hc2) rfl (by omega) Tryz.underlying27 Tryz.sizeOf78 rfl ?_; clear hs; intro a w hs
     exact wpList_nil ⟨rfl, _, _, hs0, (.c (.c .r)), hs, rfl⟩
    ·
     intro a_ w_ R_ rest_ vs22 hm hs ht hx
     have hm0 := hm.mid
     replace hs := hs.lrn (ht 8 (twB_spec 11 _ (by kernel_rfl))) rfl rfl
     have hs0 := hs.bare
     refine st_ldA (cs := recV (l.getD i default)) hs rfl (hm.rd0 hc2) (flat_get recV_len l i (by omega)) (by rw [flat_len recV_len]; omega) (by omega) Tryz.isAgg78 Tryz.sizeOf78 rfl ?_; clear hs; intro a w hs
     exact wpList_nil ⟨rfl, _, _, hs0, (.c .r), hs, rfl⟩
    intro a_ w_ R_ rest_ vs22 hm hs ht hx
    have hm0 := hm.mid
    replace hs := hs.lrn (ht 4 (twB_spec 11 _ (by kernel_rfl))) rfl rfl
    replace hs := hs.lrn (ht 9 (twB_spec 11 _ (by kernel_rfl))) rfl rfl
    have hs0 := hs.bare
    refine st_neqF (xs := [.int .i64 ((l.getD i default).k), .int .i64 ((l.getD i default).id), .int .i64 ((l.getD i default).p0), .int .i64 ((l.getD i default).p1), .int .i64 ((l.getD i default).p2), .int .i64 ((l.getD i default).v0), .int .i64 ((l.getD i default).v1), .int .i64 ((l.getD i default).v2), .int .u16 (((((l.getD i default).a).toNat : Nat) : Int))]) (ys := [.int .i64 ((l.getD i default).k), .int .i64 ((l.getD i default).id), .int .i64 ((l.getD i default).p0), .int .i64 ((l.getD i default).p1), .int .i64 ((l.getD i default).p2), .int .i64 ((l.getD i default).v0), .int .i64 ((l.getD i default).v1), .int .i64 ((l.getD i default).v2), .int .u16 (((((l.getD i default).a).toNat : Nat) : Int))]) (ks := [.i .i64, .i .i64, .i .i64, .i .i64, .i .i64, .i .i64, .i .i64, .i .i64, .i .u16]) 6 hs rfl rfl (by kernel_rfl) (by kernel_rfl) (by kernel_rfl) (by decide) (.i (.i (.i (.i (.i (.i (.i (.i (.i .n))))))))) (.i (.i (.i (.i (.i (.i (.i (.i (.i .n))))))))) rfl ?_; clear hs; intro a w hs
    have hb_ : (!(eqCells [.int .i64 ((l.getD i default).k), .int .i64 ((l.getD i default).id), .int .i64 ((l.getD i default).p0), .int .i64 ((l.getD i default).p1), .int .i64 ((l.getD i default).p2), .int .i64 ((l.getD i default).v0), .int .i64 ((l.getD i default).v1), .int .i64 ((l.getD i default).v2), .int .u16 (((((l.getD i default).a).toNat : Nat) : Int))] [.int .i64 ((l.getD i default).k), .int .i64 ((l.getD i default).id), .int .i64 ((l.getD i default).p0), .int .i64 ((l.getD i default).p1), .int .i64 ((l.getD i default).p2), .int .i64 ((l.getD i default).v0), .int .i64 ((l.getD i default).v1), .int .i64 ((l.getD i default).v2), .int .u16 (((((l.getD i default).a).toNat : Nat) : Int))])) = false := congrArg (!·) (recW_refl _)
    rw [hb_] at hs; clear hb_
    exact wpList_nil ⟨rfl, _, _, hs0, (.c (.c .r)), hs, rfl⟩
   clear hs w a; intro a w vs22 hs hf
   replace hs : St _ _ _ _ [blk g4 [.int .i64 (t), .int .i64 (tm), .int .i64 (b), u2] 29, blk g3 [.int .i64 (t), .int .i64 (tm), .int .i64 (b), u] 29] _ _ := hs
   obtain ⟨e10, q10⟩ := hf 10 (by decide)
   replace e10 : _ = some (vs22 10) := e10.val rfl
   rw [show vs22 10 = .bool (false) from q10] at e10
   replace hs := hs.learn e10; clear e10 q10
   clear hf
   refine then_n (hK21 _ _ ?_)
   refine wp_cond_false (hs.ev rfl) ?_
   refine wp_skip ?_
   refine in_n ?_
   refine then_n (hK19 _ _ ?_)
   refine wp_region_lit ?_
   refine st_mv hs rfl rfl ?_; clear hs w a; intro a w hs
   refine st_addR hs rfl rfl (by omega) rfl ?_; clear hs w a; intro a w hs
   refine st_as hs rfl rfl ?_; clear hs w a; intro a w hs
   refine wpList_nil ?_
   refine then_n ?_
   refine ⟨_, ?_, i + 1, rfl, hs.sub (.c rfl (.c rfl (.c rfl .n))), by omega⟩
   omega
  replace hc17 := of_decide_eq_false hc17
  refine wp_exit ?_
  refine th_e ?_
  refine th_e ?_
  refine in_hit ?_
  refine then_n (hK10 _ _ ?_)
  refine wp_seq_k fun K23 hK24 => ?_
  refine wp_region_lit ?_
  refine st_as hs rfl rfl ?_; clear hs w a; intro a w hs
  refine wpList_nil ?_
  refine then_n (hK24 _ _ ?_)
  refine wp_ret ?_
  replace hs := hs.drop (.c (.s .z) (.c .z .n))
  exact fin hs rfl rfl ⟨rfl, rfl⟩
end Go.Proofs.YtbioemaipghagaaGreat
