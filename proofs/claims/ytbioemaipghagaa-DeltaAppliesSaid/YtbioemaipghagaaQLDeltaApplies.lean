/- Walks of DeltaApplies: what each function does, over the program of this seat. Printed by a program of this session. -/
import Derived.Test.YtbioemaipghagaaQWdelA
import Derived.Test.YtbioemaipghagaaQWdelm3
namespace Go.Proofs.Ytbioemaipghagaa
open Go Go.Sx Go.RowKit
set_option linter.unusedVariables false
set_option linter.unusedSimpArgs false
set_option maxRecDepth 4000
set_option maxHeartbeats 1000000

theorem deltaApplies_ok (t tm : Int) (u : Value) (l : List EntR) (gt gtm gb : Int) (gu : Value) (rl : List RecR) (w0 : World) (ht_ : -9223372036854775808 ≤ t ∧ t ≤ 9223372036854775807) (htm_ : -9223372036854775808 ≤ tm ∧ tm ≤ 9223372036854775807) (hgt_ : -9223372036854775808 ≤ gt ∧ gt ≤ 9223372036854775807) (hgtm_ : -9223372036854775808 ≤ gtm ∧ gtm ≤ 9223372036854775807) (hgb_ : -9223372036854775808 ≤ gb ∧ gb ≤ 9223372036854775807) (hc : Rd w0 [] u 9 l.length (l.flatMap entV)) (hcg : Rd w0 [] gu 9 rl.length (rl.flatMap recV)) (hw : ∀ x ∈ rl, x.wf) : Calls Try.prog 3 #[.agg #[.int .i64 (t), .int .i64 (tm), u], .agg #[.int .i64 (gt), .int .i64 (gtm), .int .i64 (gb), gu]] w0 (RetV w0 (.bool true)) := by
  have hce := hc.le
  simp only [maxLen] at hce
  have hcge := hcg.le
  simp only [maxLen] at hcge
  refine enter (F0 := [(0, .agg #[.int .i64 (t), .int .i64 (tm), u]), (1, .agg #[.int .i64 (gt), .int .i64 (gtm), .int .i64 (gb), gu])]) Try.func3 rfl rfl rfl (.c (.c .n)) (Mem.nil _) fun a w hs => ?_
  refine wp_seq_k fun K1 hK2 => ?_
  refine wp_region_lit ?_
  refine st_box (cs := [.int .i64 (t), .int .i64 (tm), u]) hs rfl rfl rfl ?_; clear hs w a; intro g3 a w hs
  refine st_box (cs := [.int .i64 (gt), .int .i64 (gtm), .int .i64 (gb), gu]) hs rfl rfl rfl ?_; clear hs w a; intro g4 a w hs
  refine st_as hs rfl rfl ?_; clear hs w a; intro a w hs
  refine wpList_nil ?_
  refine then_n (hK2 _ _ ?_)
  refine wp_seq_k fun K5 hK6 => ?_
  refine wp_seq_k fun K7 hK8 => ?_
  refine wp_region_lit ?_
  refine st_ldBA hs rfl (.s .z) (.z (.c (.c (.c .n)))) Try.isAgg24 Try.sizeOf24 rfl ?_; clear hs w a; intro a w hs
  refine st_bs (cs := [.int .i64 (t), .int .i64 (tm), u]) hs (.c .n) (.c rfl .n) Try.underlying61 (ie := Try.t24) rfl rfl rfl rfl (by decide) (by decide) rfl (by decide) rfl rfl rfl ?_; clear hs w a; intro g9 a w hs
  refine st_callP (v := .bool (decide (100 < l.length))) hs (.c rfl .n) Try.call9 (great1_ok g9 _ _ _ l _ (hs.mem.del .z) (hs.rd0 hc)) rfl ?_; clear hs w a; intro a w hs
  refine st_mv hs rfl rfl ?_; clear hs w a; intro a w hs
  refine st_part (b := decide (100 < l.length)) (fun hc10 => ?_) (fun hc10 => ?_)
  ·
   rw [hc10] at hs
   replace hc10 := of_decide_eq_true hc10
   refine st_run 5 [(17, .bool (true))] hs .n (by kernel_rfl) (by kernel_rfl) (by kernel_rfl) ?_; clear hs a; intro a hs
   refine wpList_nil ?_
   refine then_n (hK8 _ _ ?_)
   refine wp_cond_true (hs.ev rfl) ?_
   refine wp_seq_k fun K11 hK12 => ?_
   refine wp_region_lit ?_
   refine st_callP (v := .bool (true)) hs .n Try.call10 (alive10_ok _) rfl ?_; clear hs w a; intro a w hs
   refine st_as hs rfl rfl ?_; clear hs w a; intro a w hs
   refine wpList_nil ?_
   refine then_n (hK12 _ _ ?_)
   refine wp_ret ?_
   refine th_r ?_
   replace hs := hs.drop (.c (.s (.s .z)) (.c (.s .z) (.c .z .n)))
   exact fin hs rfl rfl ⟨rfl, rfl⟩
  rw [hc10] at hs
  replace hc10 := of_decide_eq_false hc10
  refine st_run 2 [(14, gu)] hs (.c (hs.mem.del (.s .z)) .n) (by kernel_rfl) (by kernel_rfl) (by kernel_rfl) ?_; clear hs a; intro a hs
  refine st_guardT hs rfl rfl rfl ?_
  refine st_len hs rfl (hs.rd0 hcg).isSl Try.underlying25 rfl ?_; clear hs w a; intro a w hs
  refine st_run 2 [(17, .bool (decide (200 < (((rl.length : Nat) : Int)))))] hs .n (by kernel_rfl) (by kernel_rfl) (by kernel_rfl) ?_; clear hs a; intro a hs
  refine wpList_nil ?_
  refine then_n (hK8 _ _ ?_)
  refine wp_if hs rfl (fun hc13 => ?_) (fun hc13 => ?_)
  ·
   replace hc13 := of_decide_eq_true hc13
   refine wp_seq_k fun K14 hK15 => ?_
   refine wp_region_lit ?_
   refine st_callP (v := .bool (true)) hs .n Try.call10 (alive10_ok _) rfl ?_; clear hs w a; intro a w hs
   refine st_as hs rfl rfl ?_; clear hs w a; intro a w hs
   refine wpList_nil ?_
   refine then_n (hK15 _ _ ?_)
   refine wp_ret ?_
   refine th_r ?_
   replace hs := hs.drop (.c (.s (.s .z)) (.c (.s .z) (.c .z .n)))
   exact fin hs rfl rfl ⟨rfl, rfl⟩
  replace hc13 := of_decide_eq_false hc13
  refine wp_skip ?_
  refine then_n (hK6 _ _ ?_)
  refine wp_seq_k fun K16 hK17 => ?_
  refine wp_region_lit ?_
  refine st_run 2 [(21, .agg #[.int .i64 (gt), .int .i64 (gtm), .int .i64 (gb), gu]), (20, .agg #[.int .i64 (t), .int .i64 (tm), u])] hs (.c (hs.mem.del (.s (.s .z))) (.c (hs.mem.del (.s .z)) .n)) (by kernel_rfl) (by kernel_rfl) (by kernel_rfl) ?_; clear hs a; intro a hs
  refine st_call hs (.c rfl (.c rfl .n)) Try.call11 .n (dapply_ok t tm _ l gt gtm gb _ rl _ (by omega) (by omega) (by omega) (by omega) (by omega) (hs.rd0 hc) (hs.rd0 hcg) hw) rfl ?_; clear hs w a; rintro _ _ a w ⟨v18, rfl, rfl⟩ hs; simp only [List.cons_append, List.nil_append] at hs
  have hk19 := aS_rng (at_ := t) (atm := tm) (a := l) (gt := gt) (gtm := gtm) (gb := gb) (rl := rl)
  refine st_run 3 [(24, .int .i64 (((aE t tm l gt gtm gb rl : Nat) : Int))), (23, .agg #[.int .i64 ((aS t tm l gt gtm gb rl).t), .int .i64 ((aS t tm l gt gtm gb rl).tm), v18])] hs .n (by kernel_rfl) (by kernel_rfl) (by kernel_rfl) ?_; clear hs a; intro a hs
  refine st_alloc (cs := [.int .i64 (0), .int .i64 (0), .slice none 0 0]) hs Try.zeroValue24 rfl rfl ?_; clear hs w a; intro g20 a w hs
  refine st_stBA hs rfl rfl .z (.z (.c (.c (.c .n)))) (ones_c rfl (ones_c rfl (ones_c (rd_row (hs.mem.del (.s .z))).isSl.one ones_n))) Try.sizeOf24 rfl ?_; clear hs w a; intro a w hs
  refine st_as hs rfl rfl ?_; clear hs w a; intro a w hs
  refine wpList_nil ?_
  refine then_n (hK17 _ _ ?_)
  refine wp_seq_k fun K21 hK22 => ?_
  refine wp_region_lit ?_
  refine st_run 2 [(27, .agg #[.int .i64 (gt), .int .i64 (gtm), .int .i64 (gb), gu]), (26, .agg #[.int .i64 (t), .int .i64 (tm), u])] hs (.c (hs.mem.del (.s (.s (.s (.s .z))))) (.c (hs.mem.del (.s (.s (.s .z)))) .n)) (by kernel_rfl) (by kernel_rfl) (by kernel_rfl) ?_; clear hs a; intro a hs
  refine st_call hs (.c rfl (.c rfl .n)) Try.call12 .n (mapply10_ok t tm _ l gt gtm gb _ rl _ (by omega) (by omega) (by omega) (by omega) (by omega) (hs.rd0 hc) (hs.rd0 hcg) hw) rfl ?_; clear hs w a; rintro _ _ a w ⟨v23, rfl, rfl⟩ hs; simp only [List.cons_append, List.nil_append] at hs
  have hk24 := aS_rng (at_ := t) (atm := tm) (a := l) (gt := gt) (gtm := gtm) (gb := gb) (rl := rl)
  refine st_run 3 [(30, .int .i64 (((aE t tm l gt gtm gb rl : Nat) : Int))), (29, .agg #[.int .i64 ((aS t tm l gt gtm gb rl).t), .int .i64 ((aS t tm l gt gtm gb rl).tm), v23])] hs .n (by kernel_rfl) (by kernel_rfl) (by kernel_rfl) ?_; clear hs a; intro a hs
  refine st_alloc (cs := [.int .i64 (0), .int .i64 (0), .slice none 0 0]) hs Try.zeroValue24 rfl rfl ?_; clear hs w a; intro g25 a w hs
  refine st_stBA hs rfl rfl .z (.z (.c (.c (.c .n)))) (ones_c rfl (ones_c rfl (ones_c (rd_row (hs.mem.del (.s .z))).isSl.one ones_n))) Try.sizeOf24 rfl ?_; clear hs w a; intro a w hs
  refine st_as hs rfl rfl ?_; clear hs w a; intro a w hs
  refine wpList_nil ?_
  refine then_n (hK22 _ _ ?_)
  refine wp_seq_k fun K26 hK27 => ?_
  refine wp_region_lit ?_
  refine st_callP (v := .bool (true)) hs .n Try.call10 (alive10_ok _) rfl ?_; clear hs w a; intro a w hs
  refine st_run 3 [(34, .agg #[.int .i64 ((aS t tm l gt gtm gb rl).t), .int .i64 ((aS t tm l gt gtm gb rl).tm), v23]), (33, .agg #[.int .i64 ((aS t tm l gt gtm gb rl).t), .int .i64 ((aS t tm l gt gtm gb rl).tm), v18]), (32, .bool (true))] hs (.c (hs.mem.del (.s (.s .z))) (.c (hs.mem.del .z) .n)) (by kernel_rfl) (by kernel_rfl) (by kernel_rfl) ?_; clear hs a; intro a hs
  refine st_guardT hs rfl rfl rfl ?_
  refine st_callP (v := .bool (sSame ((aS t tm l gt gtm gb rl).t) ((aS t tm l gt gtm gb rl).tm) ((aS t tm l gt gtm gb rl).l) ((aS t tm l gt gtm gb rl).t) ((aS t tm l gt gtm gb rl).tm) ((aS t tm l gt gtm gb rl).l))) hs (.c rfl (.c rfl .n)) Try.call13 (ssame_ok ((aS t tm l gt gtm gb rl).t) ((aS t tm l gt gtm gb rl).tm) _ ((aS t tm l gt gtm gb rl).l) ((aS t tm l gt gtm gb rl).t) ((aS t tm l gt gtm gb rl).tm) _ ((aS t tm l gt gtm gb rl).l) _ (rd_row (hs.mem.del (.s (.s (.s .z))))) (rd_row (hs.mem.del (.s .z)))) rfl ?_; clear hs w a; intro a w hs
  have hb_ : (sSame ((aS t tm l gt gtm gb rl).t) ((aS t tm l gt gtm gb rl).tm) ((aS t tm l gt gtm gb rl).l) ((aS t tm l gt gtm gb rl).t) ((aS t tm l gt gtm gb rl).tm) ((aS t tm l gt gtm gb rl).l)) = true := sSame_refl _ _ _
  rw [hb_] at hs; clear hb_
  refine st_run 5 [(40, .bool ((((aE t tm l gt gtm gb rl : Nat) : Int) : Int) == (((aE t tm l gt gtm gb rl : Nat) : Int)))), (37, .bool (true))] hs .n (by kernel_rfl) (by kernel_rfl) (by kernel_rfl) ?_; clear hs a; intro a hs
  have hb_ : ((((aE t tm l gt gtm gb rl : Nat) : Int) : Int) == (((aE t tm l gt gtm gb rl : Nat) : Int))) = true := beq_self_eq_true _
  rw [hb_] at hs; clear hb_
  refine st_run 2 [(4, .bool (true))] hs .n (by kernel_rfl) (by kernel_rfl) (by kernel_rfl) ?_; clear hs a; intro a hs
  refine wpList_nil ?_
  refine then_n (hK27 _ _ ?_)
  refine wp_ret ?_
  replace hs := hs.drop (.c (.s (.s (.s (.s (.s (.s .z)))))) (.c (.s (.s (.s (.s (.s .z))))) (.c (.s (.s (.s (.s .z)))) (.c (.s (.s (.s .z))) (.c (.s (.s .z)) (.c (.s .z) (.c .z .n)))))))
  exact fin hs rfl rfl ⟨rfl, rfl⟩
end Go.Proofs.Ytbioemaipghagaa
