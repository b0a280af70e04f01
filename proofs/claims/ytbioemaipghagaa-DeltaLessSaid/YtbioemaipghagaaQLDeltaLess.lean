/- Walks of DeltaLess: what each function does, over the program of this seat. Printed by a program of this session. -/
import Derived.Test.YtbioemaipghagaaQWdelA
import Derived.Test.YtbioemaipghagaaQWdelm
import Derived.Test.YtbioemaipghagaaQSxPdeltaN
import Derived.Test.YtbioemaipghagaaQSxPrecR
namespace Go.Proofs.Ytbioemaipghagaa
open Go Go.Sx Go.RowKit
set_option linter.unusedVariables false
set_option linter.unusedSimpArgs false
set_option maxRecDepth 4000
set_option maxHeartbeats 1000000

theorem deltaLess_ok (t tm : Int) (u : Value) (l : List EntR) (time id : Int) (w0 : World) (ht_ : -9223372036854775808 ≤ t ∧ t ≤ 9223372036854775807) (htm_ : -9223372036854775808 ≤ tm ∧ tm ≤ 9223372036854775807) (htime_ : -9223372036854775808 ≤ time ∧ time ≤ 9223372036854775807) (hc : Rd w0 [] u 9 l.length (l.flatMap entV)) (hw : ∀ x ∈ l, x.wf) (hi : -9223372036854775808 ≤ id ∧ id ≤ 9223372036854775807) : Calls Try.prog 6 #[.agg #[.int .i64 (t), .int .i64 (tm), u], .int .i64 time, .int .i64 id] w0 (RetV w0 (.bool true)) := by
  have hce := hc.le
  simp only [maxLen] at hce
  refine enter (F0 := [(0, .agg #[.int .i64 (t), .int .i64 (tm), u]), (1, .int .i64 (time)), (2, .int .i64 (id))]) Try.func6 rfl rfl rfl (.c (.c (.c .n))) (Mem.nil _) fun a w hs => ?_
  refine wp_seq_k fun K1 hK2 => ?_
  refine wp_region_lit ?_
  refine st_box (cs := [.int .i64 (t), .int .i64 (tm), u]) hs rfl rfl rfl ?_; clear hs w a; intro g3 a w hs
  refine st_as hs rfl rfl ?_; clear hs w a; intro a w hs
  refine wpList_nil ?_
  refine then_n (hK2 _ _ ?_)
  refine wp_seq_k fun K4 hK5 => ?_
  refine wp_seq_k fun K6 hK7 => ?_
  refine wp_region_lit ?_
  refine st_ldBA hs rfl .z (.z (.c (.c (.c .n)))) Try.isAgg24 Try.sizeOf24 rfl ?_; clear hs w a; intro a w hs
  refine st_bs (cs := [.int .i64 (t), .int .i64 (tm), u]) hs (.c .n) (.c rfl .n) Try.underlying61 (ie := Try.t24) rfl rfl rfl rfl (by decide) (by decide) rfl (by decide) rfl rfl rfl ?_; clear hs w a; intro g8 a w hs
  refine st_callP (v := .bool (decide (100 < l.length))) hs (.c rfl .n) Try.call9 (great1_ok g8 _ _ _ l _ (hs.mem.del .z) (hs.rd0 hc)) rfl ?_; clear hs w a; intro a w hs
  refine st_mv hs rfl rfl ?_; clear hs w a; intro a w hs
  refine st_part (b := decide (100 < l.length)) (fun hc9 => ?_) (fun hc9 => ?_)
  ·
   rw [hc9] at hs
   replace hc9 := of_decide_eq_true hc9
   refine st_run 17 [(38, .bool (true))] hs .n (by kernel_rfl) (by kernel_rfl) (by kernel_rfl) ?_; clear hs a; intro a hs
   refine wpList_nil ?_
   refine then_n (hK7 _ _ ?_)
   refine wp_cond_true (hs.ev rfl) ?_
   refine wp_seq_k fun K10 hK11 => ?_
   refine wp_region_lit ?_
   refine st_callP (v := .bool (true)) hs .n Try.call10 (alive10_ok _) rfl ?_; clear hs w a; intro a w hs
   refine st_as hs rfl rfl ?_; clear hs w a; intro a w hs
   refine wpList_nil ?_
   refine then_n (hK11 _ _ ?_)
   refine wp_ret ?_
   refine th_r ?_
   replace hs := hs.drop (.c (.s .z) (.c .z .n))
   exact fin hs rfl rfl ⟨rfl, rfl⟩
  rw [hc9] at hs
  replace hc9 := of_decide_eq_false hc9
  refine st_guardT hs rfl rfl rfl ?_
  refine st_ldBA hs rfl (.s .z) (.z (.c (.c (.c .n)))) Try.isAgg24 Try.sizeOf24 rfl ?_; clear hs w a; intro a w hs
  refine st_guardT hs rfl rfl rfl ?_
  refine st_callP (v := .int .i64 (((snapErr t tm l : Nat) : Int))) hs (.c rfl .n) Try.call15 (scheck_ok t tm _ l _ (by omega) (by omega) (hs.rd0 hc)) rfl ?_; clear hs w a; intro a w hs
  refine st_run 3 [(26, .bool (!((((snapErr t tm l : Nat) : Int) : Int) == 0)))] hs .n (by kernel_rfl) (by kernel_rfl) (by kernel_rfl) ?_; clear hs a; intro a hs
  refine st_part (b := !((((snapErr t tm l : Nat) : Int) : Int) == 0)) (fun hc12 => ?_) (fun hc12 => ?_)
  ·
   rw [hc12] at hs
   replace hc12 := not_t hc12
   replace hc12 := ne_of_beq_f hc12
   refine st_run 12 [(38, .bool (true))] hs .n (by kernel_rfl) (by kernel_rfl) (by kernel_rfl) ?_; clear hs a; intro a hs
   refine wpList_nil ?_
   refine then_n (hK7 _ _ ?_)
   refine wp_cond_true (hs.ev rfl) ?_
   refine wp_seq_k fun K13 hK14 => ?_
   refine wp_region_lit ?_
   refine st_callP (v := .bool (true)) hs .n Try.call10 (alive10_ok _) rfl ?_; clear hs w a; intro a w hs
   refine st_as hs rfl rfl ?_; clear hs w a; intro a w hs
   refine wpList_nil ?_
   refine then_n (hK14 _ _ ?_)
   refine wp_ret ?_
   refine th_r ?_
   replace hs := hs.drop (.c (.s .z) (.c .z .n))
   exact fin hs rfl rfl ⟨rfl, rfl⟩
  rw [hc12] at hs
  replace hc12 := not_f hc12
  replace hc12 := eq_of_beq hc12
  refine st_run 5 [(31, .bool (decide (4294967295 ≤ t)))] hs (.c (hs.mem.del (.s .z)) .n) (by kernel_rfl) (by kernel_rfl) (by kernel_rfl) ?_; clear hs a; intro a hs
  refine st_part (b := decide (4294967295 ≤ t)) (fun hc15 => ?_) (fun hc15 => ?_)
  ·
   rw [hc15] at hs
   replace hc15 := of_decide_eq_true hc15
   refine st_run 7 [(38, .bool (true))] hs .n (by kernel_rfl) (by kernel_rfl) (by kernel_rfl) ?_; clear hs a; intro a hs
   refine wpList_nil ?_
   refine then_n (hK7 _ _ ?_)
   refine wp_cond_true (hs.ev rfl) ?_
   refine wp_seq_k fun K16 hK17 => ?_
   refine wp_region_lit ?_
   refine st_callP (v := .bool (true)) hs .n Try.call10 (alive10_ok _) rfl ?_; clear hs w a; intro a w hs
   refine st_as hs rfl rfl ?_; clear hs w a; intro a w hs
   refine wpList_nil ?_
   refine then_n (hK17 _ _ ?_)
   refine wp_ret ?_
   refine th_r ?_
   replace hs := hs.drop (.c (.s .z) (.c .z .n))
   exact fin hs rfl rfl ⟨rfl, rfl⟩
  rw [hc15] at hs
  replace hc15 := of_decide_eq_false hc15
  refine st_run 4 [(35, .bool (decide (time < (-2305843009213693952))))] hs .n (by kernel_rfl) (by kernel_rfl) (by kernel_rfl) ?_; clear hs a; intro a hs
  refine st_part (b := decide (time < (-2305843009213693952))) (fun hc18 => ?_) (fun hc18 => ?_)
  ·
   rw [hc18] at hs
   replace hc18 := of_decide_eq_true hc18
   refine st_run 3 [(38, .bool (true))] hs .n (by kernel_rfl) (by kernel_rfl) (by kernel_rfl) ?_; clear hs a; intro a hs
   refine wpList_nil ?_
   refine then_n (hK7 _ _ ?_)
   refine wp_cond_true (hs.ev rfl) ?_
   refine wp_seq_k fun K19 hK20 => ?_
   refine wp_region_lit ?_
   refine st_callP (v := .bool (true)) hs .n Try.call10 (alive10_ok _) rfl ?_; clear hs w a; intro a w hs
   refine st_as hs rfl rfl ?_; clear hs w a; intro a w hs
   refine wpList_nil ?_
   refine then_n (hK20 _ _ ?_)
   refine wp_ret ?_
   refine th_r ?_
   replace hs := hs.drop (.c (.s .z) (.c .z .n))
   exact fin hs rfl rfl ⟨rfl, rfl⟩
  rw [hc18] at hs
  replace hc18 := of_decide_eq_false hc18
  refine st_run 3 [(38, .bool (decide (2305843009213693952 < time)))] hs .n (by kernel_rfl) (by kernel_rfl) (by kernel_rfl) ?_; clear hs a; intro a hs
  refine wpList_nil ?_
  refine then_n (hK7 _ _ ?_)
  refine wp_if hs rfl (fun hc21 => ?_) (fun hc21 => ?_)
  ·
   replace hc21 := of_decide_eq_true hc21
   refine wp_seq_k fun K22 hK23 => ?_
   refine wp_region_lit ?_
   refine st_callP (v := .bool (true)) hs .n Try.call10 (alive10_ok _) rfl ?_; clear hs w a; intro a w hs
   refine st_as hs rfl rfl ?_; clear hs w a; intro a w hs
   refine wpList_nil ?_
   refine then_n (hK23 _ _ ?_)
   refine wp_ret ?_
   refine th_r ?_
   replace hs := hs.drop (.c (.s .z) (.c .z .n))
   exact fin hs rfl rfl ⟨rfl, rfl⟩
  replace hc21 := of_decide_eq_false hc21
  have hs0_ : snapErr t tm l = 0 := by omega
  have hsp := snapErr_parts hs0_
  obtain ⟨z1, z2⟩ := less_0 (time := time) hs0_ (by omega) (by omega) (by omega)
  refine wp_skip ?_
  refine then_n (hK5 _ _ ?_)
  refine wp_seq_k fun K24 hK25 => ?_
  refine wp_region_lit ?_
  refine st_run 2 [(41, .int .i64 (t))] hs (.c (hs.mem.del (.s .z)) .n) (by kernel_rfl) (by kernel_rfl) (by kernel_rfl) ?_; clear hs a; intro a hs
  refine st_addR hs rfl rfl (by omega) rfl ?_; clear hs w a; intro a w hs
  refine st_run 3 [(45, .int .i64 (t)), (43, .int .i64 (time))] hs (.c (hs.mem.del (.s .z)) .n) (by kernel_rfl) (by kernel_rfl) (by kernel_rfl) ?_; clear hs a; intro a hs
  refine st_build (it := Try.t27) (zs := [.int .i64 (0), .int .i64 (0), .int .i64 (0), .slice none 0 0]) (places := [(0, 1), (1, 1), (2, 1), (3, 1)]) hs (.c rfl (.c rfl (.c rfl .n))) Try.underlying27 rfl rfl rfl rfl (.c rfl rfl (.z (.c .n)) (.c rfl rfl (.s (.z (.c .n))) (.c rfl rfl (.s (.s (.z (.c .n)))) .n))) rfl ?_; clear hs w a; intro a w hs
  refine st_alloc (cs := [.int .i64 (0), .int .i64 (0), .int .i64 (0), .slice none 0 0]) hs Try.zeroValue27 rfl rfl ?_; clear hs w a; intro g26 a w hs
  refine st_stBA hs rfl rfl .z (.z (.c (.c (.c (.c .n))))) (ones_c rfl (ones_c rfl (ones_c rfl (ones_c rfl ones_n)))) Try.sizeOf27 rfl ?_; clear hs w a; intro a w hs
  refine wpList_nil ?_
  refine then_n (hK25 _ _ ?_)
  refine wp_seq_k fun K27 hK28 => ?_
  refine wp_region_lit ?_
  refine st_run 2 [(49, .agg #[.int .i64 (t + 1), .int .i64 (time), .int .i64 (t), .slice none 0 0]), (48, .agg #[.int .i64 (t), .int .i64 (tm), u])] hs (.c (hs.mem.del (.s (.s .z))) (.c (hs.mem.del .z) .n)) (by kernel_rfl) (by kernel_rfl) (by kernel_rfl) ?_; clear hs a; intro a hs
  refine st_call hs (.c rfl (.c rfl .n)) Try.call11 .n (dapply_ok t tm _ l (t + 1) time t _ ([] : List RecR) _ (by omega) (by omega) (by omega) (by omega) (by omega) (hs.rd0 hc) (rd_nil _ [] 9) (by simp)) rfl ?_; clear hs w a; rintro _ _ a w ⟨v29, rfl, rfl⟩ hs; simp only [List.cons_append, List.nil_append] at hs
  have hk30 := aS_rng (at_ := t) (atm := tm) (a := l) (gt := (t + 1)) (gtm := time) (gb := t) (rl := ([] : List RecR))
  refine st_run 3 [(52, .int .i64 (((aE t tm l (t + 1) time t ([] : List RecR) : Nat) : Int))), (51, .agg #[.int .i64 ((aS t tm l (t + 1) time t ([] : List RecR)).t), .int .i64 ((aS t tm l (t + 1) time t ([] : List RecR)).tm), v29])] hs .n (by kernel_rfl) (by kernel_rfl) (by kernel_rfl) ?_; clear hs a; intro a hs
  refine st_alloc (cs := [.int .i64 (0), .int .i64 (0), .slice none 0 0]) hs Try.zeroValue24 rfl rfl ?_; clear hs w a; intro g31 a w hs
  refine st_stBA hs rfl rfl .z (.z (.c (.c (.c .n)))) (ones_c rfl (ones_c rfl (ones_c (rd_row (hs.mem.del (.s .z))).isSl.one ones_n))) Try.sizeOf24 rfl ?_; clear hs w a; intro a w hs
  refine st_as hs rfl rfl ?_; clear hs w a; intro a w hs
  refine wpList_nil ?_
  refine then_n (hK28 _ _ ?_)
  refine wp_seq_k fun K32 hK33 => ?_
  refine wp_region_lit ?_
  refine st_ldBA hs rfl (.s (.s (.s (.s .z)))) (.z (.c (.c (.c .n)))) Try.isAgg24 Try.sizeOf24 rfl ?_; clear hs w a; intro a w hs
  refine st_alloc (cs := [.int .i64 (0), .int .i64 (0), .slice none 0 0]) hs Try.zeroValue24 rfl rfl ?_; clear hs w a; intro g34 a w hs
  refine st_stBA hs rfl rfl .z (.z (.c (.c (.c .n)))) (ones_c rfl (ones_c rfl (ones_c (hs.rd0 hc).isSl.one ones_n))) Try.sizeOf24 rfl ?_; clear hs w a; intro a w hs
  refine wpList_nil ?_
  refine then_n (hK33 _ _ ?_)
  refine wp_seq_k fun K35 hK36 => ?_
  refine wp_region_lit ?_
  refine st_run 4 [(57, .pointer (some ⟨g34, 0, none⟩)), (56, .int .i64 (time)), (55, .int .i64 (t + 1))] hs (.c (hs.mem.del (.s (.s (.s .z)))) .n) (by kernel_rfl) (by kernel_rfl) (by kernel_rfl) ?_; clear hs a; intro a hs
  refine st_stB hs rfl rfl .z .z rfl Try.sizeOf2 ?_; clear hs w a; intro a w hs
  refine st_fa hs rfl Try.underlying24 rfl Try.sizeOf2 (by decide) (o := 1) rfl rfl ?_; clear hs w a; intro a w hs
  refine st_stB hs rfl rfl .z (.s .z) rfl Try.sizeOf2 ?_; clear hs w a; intro a w hs
  refine wpList_nil ?_
  refine then_n (hK36 _ _ ?_)
  refine wp_seq_k fun K37 hK38 => ?_
  refine wp_seq_k fun K39 hK40 => ?_
  refine wp_region_lit ?_
  refine st_run 2 [(60, .bool (!((((aE t tm l (t + 1) time t ([] : List RecR) : Nat) : Int) : Int) == 0)))] hs .n (by kernel_rfl) (by kernel_rfl) (by kernel_rfl) ?_; clear hs a; intro a hs
  have hb_ : (!((((aE t tm l (t + 1) time t ([] : List RecR) : Nat) : Int) : Int) == 0)) = false := by rw [z1]; rfl
  rw [hb_] at hs; clear hb_
  refine st_run 3 [(63, .agg #[.int .i64 (t + 1), .int .i64 (time), u]), (62, .agg #[.int .i64 ((aS t tm l (t + 1) time t ([] : List RecR)).t), .int .i64 ((aS t tm l (t + 1) time t ([] : List RecR)).tm), v29]), (61, .bool (false))] hs (.c (hs.mem.del (.s .z)) (.c (hs.mem.del .z) .n)) (by kernel_rfl) (by kernel_rfl) (by kernel_rfl) ?_; clear hs a; intro a hs
  refine st_guardT hs rfl rfl rfl ?_
  refine st_callP (v := .bool (sSame ((aS t tm l (t + 1) time t ([] : List RecR)).t) ((aS t tm l (t + 1) time t ([] : List RecR)).tm) ((aS t tm l (t + 1) time t ([] : List RecR)).l) (t + 1) time l)) hs (.c rfl (.c rfl .n)) Try.call13 (ssame_ok ((aS t tm l (t + 1) time t ([] : List RecR)).t) ((aS t tm l (t + 1) time t ([] : List RecR)).tm) _ ((aS t tm l (t + 1) time t ([] : List RecR)).l) (t + 1) time _ l _ (rd_row (hs.mem.del (.s (.s .z)))) (hs.rd0 hc)) rfl ?_; clear hs w a; intro a w hs
  refine st_guardT hs rfl rfl rfl ?_
  refine st_not hs rfl rfl ?_; clear hs w a; intro a w hs
  have hb_ : (!(sSame ((aS t tm l (t + 1) time t ([] : List RecR)).t) ((aS t tm l (t + 1) time t ([] : List RecR)).tm) ((aS t tm l (t + 1) time t ([] : List RecR)).l) (t + 1) time l)) = false := by rw [z2]; exact congrArg (!·) (sSame_refl _ _ _)
  rw [hb_] at hs; clear hb_
  refine st_pickF hs rfl rfl rfl ?_; clear hs w a; intro a w hs
  refine wpList_nil ?_
  refine then_n (hK40 _ _ ?_)
  refine wp_cond_false (hs.ev rfl) ?_
  refine wp_skip ?_
  refine then_n (hK38 _ _ ?_)
  refine wp_seq_k fun K41 hK42 => ?_
  refine wp_region_lit ?_
  refine st_mv hs rfl rfl ?_; clear hs w a; intro a w hs
  refine st_cv_u64 hs rfl Try.underlying3 Try.underlying41 rfl ?_; clear hs w a; intro a w hs
  refine st_rem_u64 (X := BitVec.ofInt 64 id) (Y := 65536#64) hs rfl rfl rfl (by decide) (by decide) rfl ?_; clear hs w a; intro a w hs
  refine st_cv_u64_i64 (X := (BitVec.ofInt 64 id) % (65536#64)) hs rfl rfl Try.underlying41 Try.underlying3 rfl ?_; clear hs w a; intro a w hs
  replace hs := hs.recell (v' := .int .i64 (idm id)) (Option.some.inj rfl)
  have hid := idm_rng id
  refine st_as hs rfl rfl ?_; clear hs w a; intro a w hs
  refine wpList_nil ?_
  refine then_n (hK42 _ _ ?_)
  refine wp_seq_k fun K43 hK44 => ?_
  refine wp_region_lit ?_
  refine st_run 2 [(73, .int .i64 (idm id)), (72, .agg #[.int .i64 (t), .int .i64 (tm), u])] hs (.c (hs.mem.del (.s (.s (.s (.s (.s .z)))))) .n) (by kernel_rfl) (by kernel_rfl) (by kernel_rfl) ?_; clear hs a; intro a hs
  refine st_callP (v := .tuple #[.agg #[.int .i64 ((((eget (idm id) l).getD entZ)).id), .int .i64 ((((eget (idm id) l).getD entZ)).p0), .int .i64 ((((eget (idm id) l).getD entZ)).p1), .int .i64 ((((eget (idm id) l).getD entZ)).p2), .int .i64 ((((eget (idm id) l).getD entZ)).v0), .int .i64 ((((eget (idm id) l).getD entZ)).v1), .int .i64 ((((eget (idm id) l).getD entZ)).v2), .int .u16 (((((((eget (idm id) l).getD entZ)).a).toNat : Nat) : Int)), .int .u8 (((((((eget (idm id) l).getD entZ)).g).toNat : Nat) : Int))], .bool ((eget (idm id) l).isSome)]) hs (.c rfl (.c rfl .n)) Try.call16 (find_ok t tm _ l (idm id) _ (hs.rd0 hc)) rfl ?_; clear hs w a; intro a w hs
  refine st_run 3 [(76, .bool ((eget (idm id) l).isSome)), (75, .agg #[.int .i64 ((((eget (idm id) l).getD entZ)).id), .int .i64 ((((eget (idm id) l).getD entZ)).p0), .int .i64 ((((eget (idm id) l).getD entZ)).p1), .int .i64 ((((eget (idm id) l).getD entZ)).p2), .int .i64 ((((eget (idm id) l).getD entZ)).v0), .int .i64 ((((eget (idm id) l).getD entZ)).v1), .int .i64 ((((eget (idm id) l).getD entZ)).v2), .int .u16 (((((((eget (idm id) l).getD entZ)).a).toNat : Nat) : Int)), .int .u8 (((((((eget (idm id) l).getD entZ)).g).toNat : Nat) : Int))])] hs .n (by kernel_rfl) (by kernel_rfl) (by kernel_rfl) ?_; clear hs a; intro a hs
  refine st_alloc (cs := [.int .i64 (0), .int .i64 (0), .int .i64 (0), .int .i64 (0), .int .i64 (0), .int .i64 (0), .int .i64 (0), .int .u16 (0), .int .u8 (0)]) hs Try.zeroValue47 rfl rfl ?_; clear hs w a; intro g45 a w hs
  refine st_stBA hs rfl rfl .z (.z (.c (.c (.c (.c (.c (.c (.c (.c (.c .n)))))))))) (ones_c rfl (ones_c rfl (ones_c rfl (ones_c rfl (ones_c rfl (ones_c rfl (ones_c rfl (ones_c rfl (ones_c rfl ones_n))))))))) Try.sizeOf47 rfl ?_; clear hs w a; intro a w hs
  refine st_as hs rfl rfl ?_; clear hs w a; intro a w hs
  refine wpList_nil ?_
  refine then_n (hK44 _ _ ?_)
  refine wp_seq_k fun K46 hK47 => ?_
  refine wp_seq_k fun K48 hK49 => ?_
  refine wp_region_lit ?_
  refine st_mv hs rfl rfl ?_; clear hs w a; intro a w hs
  refine st_build (it := Try.t45) (zs := [.int .i64 (0), .int .i64 (0), .int .i64 (0), .int .i64 (0), .int .i64 (0), .int .i64 (0), .int .i64 (0), .int .i64 (0), .int .u16 (0)]) (places := [(0, 1), (1, 1), (2, 3), (5, 3), (8, 1)]) hs (.c rfl (.c rfl .n)) Try.underlying45 rfl rfl rfl rfl (.c rfl rfl (.z (.c .n)) (.c rfl rfl (.s (.z (.c .n))) .n)) rfl ?_; clear hs w a; intro a w hs
  refine st_mv hs rfl rfl ?_; clear hs w a; intro a w hs
  refine st_build (it := Try.t45) (zs := [.int .i64 (0), .int .i64 (0), .int .i64 (0), .int .i64 (0), .int .i64 (0), .int .i64 (0), .int .i64 (0), .int .i64 (0), .int .u16 (0)]) (places := [(0, 1), (1, 1), (2, 3), (5, 3), (8, 1)]) hs (.c rfl (.c rfl (.c rfl .n))) Try.underlying45 rfl rfl rfl rfl (.c rfl rfl (.z (.c .n)) (.c rfl rfl (.s (.z (.c .n))) (.c rfl rfl (.s (.s (.s (.s (.s (.s (.s (.s (.z (.c .n)))))))))) .n))) rfl ?_; clear hs w a; intro a w hs
  refine st_mv hs rfl rfl ?_; clear hs w a; intro a w hs
  refine st_build (it := Try.t45) (zs := [.int .i64 (0), .int .i64 (0), .int .i64 (0), .int .i64 (0), .int .i64 (0), .int .i64 (0), .int .i64 (0), .int .i64 (0), .int .u16 (0)]) (places := [(0, 1), (1, 1), (2, 3), (5, 3), (8, 1)]) hs (.c rfl (.c rfl .n)) Try.underlying45 rfl rfl rfl rfl (.c rfl rfl (.z (.c .n)) (.c rfl rfl (.s (.z (.c .n))) .n)) rfl ?_; clear hs w a; intro a w hs
  refine st_mv hs rfl rfl ?_; clear hs w a; intro a w hs
  refine st_build (it := Try.t45) (zs := [.int .i64 (0), .int .i64 (0), .int .i64 (0), .int .i64 (0), .int .i64 (0), .int .i64 (0), .int .i64 (0), .int .i64 (0), .int .u16 (0)]) (places := [(0, 1), (1, 1), (2, 3), (5, 3), (8, 1)]) hs (.c rfl (.c rfl .n)) Try.underlying45 rfl rfl rfl rfl (.c rfl rfl (.z (.c .n)) (.c rfl rfl (.s (.z (.c .n))) .n)) rfl ?_; clear hs w a; intro a w hs
  refine st_bs (cs := [.int .i64 (0), .int .i64 (idm id), .int .i64 (0), .int .i64 (0), .int .i64 (0), .int .i64 (0), .int .i64 (0), .int .i64 (0), .int .u16 (0), .int .i64 (1), .int .i64 (idm id), .int .i64 (0), .int .i64 (0), .int .i64 (0), .int .i64 (0), .int .i64 (0), .int .i64 (0), .int .u16 (1), .int .i64 (2), .int .i64 (idm id), .int .i64 (0), .int .i64 (0), .int .i64 (0), .int .i64 (0), .int .i64 (0), .int .i64 (0), .int .u16 (0), .int .i64 (3), .int .i64 (idm id), .int .i64 (0), .int .i64 (0), .int .i64 (0), .int .i64 (0), .int .i64 (0), .int .i64 (0), .int .u16 (0)]) hs (.c (.c (.c (.c .n)))) (.c rfl (.c rfl (.c rfl (.c rfl .n)))) Try.underlying25 (ie := Try.t45) rfl rfl rfl rfl (by decide) (by decide) rfl (by decide) rfl rfl rfl ?_; clear hs w a; intro g50 a w hs
  refine st_len hs rfl (rd_blk (m := 4) (size := 9) (hs.mem.del .z) rfl (by decide)).isSl Try.underlying25 rfl ?_; clear hs w a; intro a w hs
  replace hs := hs.recell (v' := .int .i64 (4)) (Option.some.inj rfl)
  refine st_mv hs rfl rfl ?_; clear hs w a; intro a w hs
  refine wpList_nil ?_
  refine then_n (hK49 _ _ ?_)
  refine wp_block ?_
  refine wp_loop_rounds 5 ?_
  refine rounds_in ?_
  refine wp_seq_k fun K51 hK52 => ?_
  refine wp_region_lit ?_
  refine st_lss hs rfl rfl rfl ?_; clear hs w a; intro a w hs
  rw [show (decide ((0 : Int) < 4)) = true from by decide] at hs
  refine wpList_nil ?_
  refine then_n (hK52 _ _ ?_)
  refine wp_seq_k fun K53 hK54 => ?_
  refine wp_cond_true (hs.ev rfl) ?_
  refine wp_skip ?_
  refine then_n (hK54 _ _ ?_)
  refine wp_seq_k fun K55 hK56 => ?_
  refine wp_block ?_
  refine wp_seq_k fun K57 hK58 => ?_
  refine wp_region_lit ?_
  refine st_ia (j := 0) hs rfl rfl (rd_blk (m := 4) (size := 9) (hs.mem.del .z) rfl (by decide)) (by decide) (by omega) Try.underlying25 Try.sizeOf45 rfl ?_; clear hs w a; intro a w hs
  refine st_ldA (cs := [.int .i64 (0), .int .i64 (idm id), .int .i64 (0), .int .i64 (0), .int .i64 (0), .int .i64 (0), .int .i64 (0), .int .i64 (0), .int .u16 (0)]) hs rfl (rd_blk (m := 4) (size := 9) (hs.mem.del .z) rfl (by decide)) (by rfl) (by simp) (by decide) Try.isAgg45 Try.sizeOf45 rfl ?_; clear hs w a; intro a w hs
  refine st_alloc (cs := [.int .i64 (0), .int .i64 (0), .int .i64 (0), .int .i64 (0), .int .i64 (0), .int .i64 (0), .int .i64 (0), .int .i64 (0), .int .u16 (0)]) hs Try.zeroValue45 rfl rfl ?_; clear hs w a; intro g59 a w hs
  refine st_stBA hs rfl rfl .z (.z (.c (.c (.c (.c (.c (.c (.c (.c (.c .n)))))))))) (ones_c rfl (ones_c rfl (ones_c rfl (ones_c rfl (ones_c rfl (ones_c rfl (ones_c rfl (ones_c rfl (ones_c rfl ones_n))))))))) Try.sizeOf45 rfl ?_; clear hs w a; intro a w hs
  refine wpList_nil ?_
  refine then_n (hK58 _ _ ?_)
  refine wp_seq_k fun K60 hK61 => ?_
  refine wp_region_lit ?_
  refine st_ldBA hs rfl .z (.z (.c (.c (.c (.c (.c (.c (.c (.c (.c .n)))))))))) Try.isAgg45 Try.sizeOf45 rfl ?_; clear hs w a; intro a w hs
  refine st_bs (cs := [.int .i64 (0), .int .i64 (idm id), .int .i64 (0), .int .i64 (0), .int .i64 (0), .int .i64 (0), .int .i64 (0), .int .i64 (0), .int .u16 (0)]) hs (.c .n) (.c rfl .n) Try.underlying25 (ie := Try.t45) rfl rfl rfl rfl (by decide) (by decide) rfl (by decide) rfl rfl rfl ?_; clear hs w a; intro g62 a w hs
  refine st_fa hs rfl Try.underlying27 rfl Try.sizeOf25 (by decide) (o := 3) rfl rfl ?_; clear hs w a; intro a w hs
  refine st_stB hs rfl rfl (.s (.s (.s (.s (.s (.s (.s .z))))))) (.s (.s (.s .z))) rfl Try.sizeOf25 ?_; clear hs w a; intro a w hs
  refine wpList_nil ?_
  refine then_n (hK61 _ _ ?_)
  refine wp_seq_k fun K63 hK64 => ?_
  refine wp_region_lit ?_
  refine st_run 2 [(96, .agg #[.int .i64 (t + 1), .int .i64 (time), .int .i64 (t), .slice (some ⟨g62, 0, none⟩) 1 1]), (95, .agg #[.int .i64 (t), .int .i64 (tm), u])] hs (.c (hs.mem.del (.s (.s (.s (.s (.s (.s (.s (.s (.s .z)))))))))) (.c (hs.mem.del .z) .n)) (by kernel_rfl) (by kernel_rfl) (by kernel_rfl) ?_; clear hs a; intro a hs
  refine st_call hs (.c rfl (.c rfl .n)) Try.call11 .n (dapply_ok t tm _ l (t + 1) time t _ (([(⟨0, idm id, 0, 0, 0, 0, 0, 0, 0#16⟩ : RecR)] : List RecR)) _ (by omega) (by omega) (by omega) (by omega) (by omega) (hs.rd0 hc) (rd_blk (m := 1) (size := 9) (hs.mem.del (.s .z)) rfl (by decide)) (one_rwf (wf_mk (by omega) (by omega) (by omega) (by omega) (by omega) (by omega) (by omega) (by omega)))) rfl ?_; clear hs w a; rintro _ _ a w ⟨v65, rfl, rfl⟩ hs; simp only [List.cons_append, List.nil_append] at hs
  have hk66 := aS_rng (at_ := t) (atm := tm) (a := l) (gt := (t + 1)) (gtm := time) (gb := t) (rl := ([(⟨0, idm id, 0, 0, 0, 0, 0, 0, 0#16⟩ : RecR)] : List RecR))
  refine st_run 3 [(99, .int .i64 (((aE t tm l (t + 1) time t (([(⟨0, idm id, 0, 0, 0, 0, 0, 0, 0#16⟩ : RecR)] : List RecR)) : Nat) : Int))), (98, .agg #[.int .i64 ((aS t tm l (t + 1) time t (([(⟨0, idm id, 0, 0, 0, 0, 0, 0, 0#16⟩ : RecR)] : List RecR))).t), .int .i64 ((aS t tm l (t + 1) time t (([(⟨0, idm id, 0, 0, 0, 0, 0, 0, 0#16⟩ : RecR)] : List RecR))).tm), v65]), (94, .tuple #[.agg #[.int .i64 ((aS t tm l (t + 1) time t (([(⟨0, idm id, 0, 0, 0, 0, 0, 0, 0#16⟩ : RecR)] : List RecR))).t), .int .i64 ((aS t tm l (t + 1) time t (([(⟨0, idm id, 0, 0, 0, 0, 0, 0, 0#16⟩ : RecR)] : List RecR))).tm), v65], .int .i64 (((aE t tm l (t + 1) time t (([(⟨0, idm id, 0, 0, 0, 0, 0, 0, 0#16⟩ : RecR)] : List RecR)) : Nat) : Int))])] hs .n (by kernel_rfl) (by kernel_rfl) (by kernel_rfl) ?_; clear hs a; intro a hs
  refine st_alloc (cs := [.int .i64 (0), .int .i64 (0), .slice none 0 0]) hs Try.zeroValue24 rfl rfl ?_; clear hs w a; intro g67 a w hs
  refine st_stBA hs rfl rfl .z (.z (.c (.c (.c .n)))) (ones_c rfl (ones_c rfl (ones_c (rd_row (hs.mem.del (.s .z))).isSl.one ones_n))) Try.sizeOf24 rfl ?_; clear hs w a; intro a w hs
  refine st_as hs rfl rfl ?_; clear hs w a; intro a w hs
  refine wpList_nil ?_
  refine then_n (hK64 _ _ ?_)
  refine wp_seq_k fun K68 hK69 => ?_
  refine wp_region_lit ?_
  refine st_run 4 [(103, .bool (true)), (102, .int .i64 (0)), (101, .pointer (some ⟨g59, 0, none⟩)), (100, .bool ((eget (idm id) l).isSome))] hs (.c (hs.mem.del (.s (.s (.s (.s .z))))) .n) (by kernel_rfl) (by kernel_rfl) (by kernel_rfl) ?_; clear hs a; intro a hs
  refine st_eqb hs rfl rfl Try.underlying4 rfl ?_; clear hs w a; intro a w hs
  refine wpList_nil ?_
  refine then_n (hK69 _ _ ?_)
  refine wp_if hs rfl (fun hc70 => ?_) (fun hc70 => ?_)
  ·
   have hth : (eget (idm id) l).isSome = true := by simpa using (by assumption : ((eget (idm id) l).isSome == true) = true)
   have hz := (aM_one (r := (⟨0, idm id, 0, 0, 0, 0, 0, 0, 0#16⟩ : RecR)) (ents_srt hsp.2.2.2.2.2) (by omega) (chk_put _ hid)).1 hth (by first | rfl | (dsimp only; omega))
   rw [← less_1 (t := t) (tm := tm) (time := time) hs0_ (by omega) (by omega) (by omega) (chk_put _ hid)] at hz
   refine wp_seq_k fun K71 hK72 => ?_
   refine wp_region_lit ?_
   refine st_run 2 [(106, .bool (!((((aE t tm l (t + 1) time t (([(⟨0, idm id, 0, 0, 0, 0, 0, 0, 0#16⟩ : RecR)] : List RecR)) : Nat) : Int) : Int) == 15))), (105, .int .i64 (((aE t tm l (t + 1) time t (([(⟨0, idm id, 0, 0, 0, 0, 0, 0, 0#16⟩ : RecR)] : List RecR)) : Nat) : Int)))] hs .n (by kernel_rfl) (by kernel_rfl) (by kernel_rfl) ?_; clear hs a; intro a hs
   have hb_ : (!((((aE t tm l (t + 1) time t (([(⟨0, idm id, 0, 0, 0, 0, 0, 0, 0#16⟩ : RecR)] : List RecR)) : Nat) : Int) : Int) == 15)) = false := by rw [hz]; rfl
   rw [hb_] at hs; clear hb_
   refine wpList_nil ?_
   refine then_n (hK72 _ _ ?_)
   refine wp_cond_false (hs.ev rfl) ?_
   refine wp_skip ?_
   refine in_n ?_
   refine then_n (hK56 _ _ ?_)
   refine wp_region_lit ?_
   refine st_run 2 [(87, .int .i64 (1)), (118, .int .i64 (1))] hs .n (by kernel_rfl) (by kernel_rfl) (by kernel_rfl) ?_; clear hs a; intro a hs
   refine wpList_nil ?_
   refine then_n ?_
   refine rounds_in ?_
   refine wp_seq_k fun K73 hK74 => ?_
   refine wp_region_lit ?_
   refine st_lss hs rfl rfl rfl ?_; clear hs w a; intro a w hs
   rw [show (decide ((1 : Int) < 4)) = true from by decide] at hs
   refine wpList_nil ?_
   refine then_n (hK74 _ _ ?_)
   refine wp_seq_k fun K75 hK76 => ?_
   refine wp_cond_true (hs.ev rfl) ?_
   refine wp_skip ?_
   refine then_n (hK76 _ _ ?_)
   refine wp_seq_k fun K77 hK78 => ?_
   refine wp_block ?_
   refine wp_seq_k fun K79 hK80 => ?_
   refine wp_region_lit ?_
   refine st_ia (j := 1) hs rfl rfl (rd_blk (m := 4) (size := 9) (hs.mem.del (.s (.s (.s (.s (.s .z)))))) rfl (by decide)) (by decide) (by omega) Try.underlying25 Try.sizeOf45 rfl ?_; clear hs w a; intro a w hs
   refine st_ldA (cs := [.int .i64 (1), .int .i64 (idm id), .int .i64 (0), .int .i64 (0), .int .i64 (0), .int .i64 (0), .int .i64 (0), .int .i64 (0), .int .u16 (1)]) hs rfl (rd_blk (m := 4) (size := 9) (hs.mem.del (.s (.s (.s (.s (.s .z)))))) rfl (by decide)) (by rfl) (by simp) (by decide) Try.isAgg45 Try.sizeOf45 rfl ?_; clear hs w a; intro a w hs
   refine st_alloc (cs := [.int .i64 (0), .int .i64 (0), .int .i64 (0), .int .i64 (0), .int .i64 (0), .int .i64 (0), .int .i64 (0), .int .i64 (0), .int .u16 (0)]) hs Try.zeroValue45 rfl rfl ?_; clear hs w a; intro g81 a w hs
   refine st_stBA hs rfl rfl .z (.z (.c (.c (.c (.c (.c (.c (.c (.c (.c .n)))))))))) (ones_c rfl (ones_c rfl (ones_c rfl (ones_c rfl (ones_c rfl (ones_c rfl (ones_c rfl (ones_c rfl (ones_c rfl ones_n))))))))) Try.sizeOf45 rfl ?_; clear hs w a; intro a w hs
   refine wpList_nil ?_
   refine then_n (hK80 _ _ ?_)
   refine wp_seq_k fun K82 hK83 => ?_
   refine wp_region_lit ?_
   refine st_ldBA hs rfl .z (.z (.c (.c (.c (.c (.c (.c (.c (.c (.c .n)))))))))) Try.isAgg45 Try.sizeOf45 rfl ?_; clear hs w a; intro a w hs
   refine st_bs (cs := [.int .i64 (1), .int .i64 (idm id), .int .i64 (0), .int .i64 (0), .int .i64 (0), .int .i64 (0), .int .i64 (0), .int .i64 (0), .int .u16 (1)]) hs (.c .n) (.c rfl .n) Try.underlying25 (ie := Try.t45) rfl rfl rfl rfl (by decide) (by decide) rfl (by decide) rfl rfl rfl ?_; clear hs w a; intro g84 a w hs
   refine st_fa hs rfl Try.underlying27 rfl Try.sizeOf25 (by decide) (o := 3) rfl rfl ?_; clear hs w a; intro a w hs
   refine st_stB hs rfl rfl (.s (.s (.s (.s .z)))) (.s (.s (.s .z))) rfl Try.sizeOf25 ?_; clear hs w a; intro a w hs
   refine wpList_nil ?_
   refine then_n (hK83 _ _ ?_)
   refine wp_seq_k fun K85 hK86 => ?_
   refine wp_region_lit ?_
   refine st_run 2 [(96, .agg #[.int .i64 (t + 1), .int .i64 (time), .int .i64 (t), .slice (some ⟨g84, 0, none⟩) 1 1]), (95, .agg #[.int .i64 (t), .int .i64 (tm), u])] hs (.c (hs.mem.del (.s (.s (.s (.s (.s (.s (.s (.s (.s (.s (.s (.s (.s .z)))))))))))))) (.c (hs.mem.del .z) .n)) (by kernel_rfl) (by kernel_rfl) (by kernel_rfl) ?_; clear hs a; intro a hs
   refine st_call hs (.c rfl (.c rfl .n)) Try.call11 .n (dapply_ok t tm _ l (t + 1) time t _ (([(⟨1, idm id, 0, 0, 0, 0, 0, 0, 1#16⟩ : RecR)] : List RecR)) _ (by omega) (by omega) (by omega) (by omega) (by omega) (hs.rd0 hc) (rd_blk (m := 1) (size := 9) (hs.mem.del (.s .z)) rfl (by decide)) (one_rwf (wf_mk (by omega) (by omega) (by omega) (by omega) (by omega) (by omega) (by omega) (by omega)))) rfl ?_; clear hs w a; rintro _ _ a w ⟨v87, rfl, rfl⟩ hs; simp only [List.cons_append, List.nil_append] at hs
   have hk88 := aS_rng (at_ := t) (atm := tm) (a := l) (gt := (t + 1)) (gtm := time) (gb := t) (rl := ([(⟨1, idm id, 0, 0, 0, 0, 0, 0, 1#16⟩ : RecR)] : List RecR))
   refine st_run 3 [(99, .int .i64 (((aE t tm l (t + 1) time t (([(⟨1, idm id, 0, 0, 0, 0, 0, 0, 1#16⟩ : RecR)] : List RecR)) : Nat) : Int))), (98, .agg #[.int .i64 ((aS t tm l (t + 1) time t (([(⟨1, idm id, 0, 0, 0, 0, 0, 0, 1#16⟩ : RecR)] : List RecR))).t), .int .i64 ((aS t tm l (t + 1) time t (([(⟨1, idm id, 0, 0, 0, 0, 0, 0, 1#16⟩ : RecR)] : List RecR))).tm), v87]), (94, .tuple #[.agg #[.int .i64 ((aS t tm l (t + 1) time t (([(⟨1, idm id, 0, 0, 0, 0, 0, 0, 1#16⟩ : RecR)] : List RecR))).t), .int .i64 ((aS t tm l (t + 1) time t (([(⟨1, idm id, 0, 0, 0, 0, 0, 0, 1#16⟩ : RecR)] : List RecR))).tm), v87], .int .i64 (((aE t tm l (t + 1) time t (([(⟨1, idm id, 0, 0, 0, 0, 0, 0, 1#16⟩ : RecR)] : List RecR)) : Nat) : Int))])] hs .n (by kernel_rfl) (by kernel_rfl) (by kernel_rfl) ?_; clear hs a; intro a hs
   refine st_alloc (cs := [.int .i64 (0), .int .i64 (0), .slice none 0 0]) hs Try.zeroValue24 rfl rfl ?_; clear hs w a; intro g89 a w hs
   refine st_stBA hs rfl rfl .z (.z (.c (.c (.c .n)))) (ones_c rfl (ones_c rfl (ones_c (rd_row (hs.mem.del (.s .z))).isSl.one ones_n))) Try.sizeOf24 rfl ?_; clear hs w a; intro a w hs
   refine st_as hs rfl rfl ?_; clear hs w a; intro a w hs
   refine wpList_nil ?_
   refine then_n (hK86 _ _ ?_)
   refine wp_seq_k fun K90 hK91 => ?_
   refine wp_region_lit ?_
   refine st_run 4 [(103, .bool (false)), (102, .int .i64 (1)), (101, .pointer (some ⟨g81, 0, none⟩)), (100, .bool ((eget (idm id) l).isSome))] hs (.c (hs.mem.del (.s (.s (.s (.s .z))))) .n) (by kernel_rfl) (by kernel_rfl) (by kernel_rfl) ?_; clear hs a; intro a hs
   refine st_eqb hs rfl rfl Try.underlying4 rfl ?_; clear hs w a; intro a w hs
   refine wpList_nil ?_
   refine then_n (hK91 _ _ ?_)
   refine wp_if hs rfl (fun hc92 => ?_) (fun hc92 => ?_)
   ·
    have hth : (eget (idm id) l).isSome = false := by simpa using (by assumption : ((eget (idm id) l).isSome == false) = true)
    have hz := (aM_one (r := (⟨1, idm id, 0, 0, 0, 0, 0, 0, 1#16⟩ : RecR)) (ents_srt hsp.2.2.2.2.2) (by omega) (chk_upd _ hid)).2.2.2 hth (by first | rfl | (dsimp only; omega))
    rw [← less_1 (t := t) (tm := tm) (time := time) hs0_ (by omega) (by omega) (by omega) (chk_upd _ hid)] at hz
    refine wp_seq_k fun K93 hK94 => ?_
    refine wp_region_lit ?_
    refine st_run 2 [(106, .bool (!((((aE t tm l (t + 1) time t (([(⟨1, idm id, 0, 0, 0, 0, 0, 0, 1#16⟩ : RecR)] : List RecR)) : Nat) : Int) : Int) == 15))), (105, .int .i64 (((aE t tm l (t + 1) time t (([(⟨1, idm id, 0, 0, 0, 0, 0, 0, 1#16⟩ : RecR)] : List RecR)) : Nat) : Int)))] hs .n (by kernel_rfl) (by kernel_rfl) (by kernel_rfl) ?_; clear hs a; intro a hs
    have hb_ : (!((((aE t tm l (t + 1) time t (([(⟨1, idm id, 0, 0, 0, 0, 0, 0, 1#16⟩ : RecR)] : List RecR)) : Nat) : Int) : Int) == 15)) = false := by rw [hz]; rfl
    rw [hb_] at hs; clear hb_
    refine wpList_nil ?_
    refine then_n (hK94 _ _ ?_)
    refine wp_cond_false (hs.ev rfl) ?_
    refine wp_skip ?_
    refine in_n ?_
    refine then_n (hK78 _ _ ?_)
    refine wp_region_lit ?_
    refine st_run 2 [(87, .int .i64 (2)), (118, .int .i64 (2))] hs .n (by kernel_rfl) (by kernel_rfl) (by kernel_rfl) ?_; clear hs a; intro a hs
    refine wpList_nil ?_
    refine then_n ?_
    refine rounds_in ?_
    refine wp_seq_k fun K95 hK96 => ?_
    refine wp_region_lit ?_
    refine st_lss hs rfl rfl rfl ?_; clear hs w a; intro a w hs
    rw [show (decide ((2 : Int) < 4)) = true from by decide] at hs
    refine wpList_nil ?_
    refine then_n (hK96 _ _ ?_)
    refine wp_seq_k fun K97 hK98 => ?_
    refine wp_cond_true (hs.ev rfl) ?_
    refine wp_skip ?_
    refine then_n (hK98 _ _ ?_)
    refine wp_seq_k fun K99 hK100 => ?_
    refine wp_block ?_
    refine wp_seq_k fun K101 hK102 => ?_
    refine wp_region_lit ?_
    refine st_ia (j := 2) hs rfl rfl (rd_blk (m := 4) (size := 9) (hs.mem.del (.s (.s (.s (.s (.s (.s (.s (.s (.s .z)))))))))) rfl (by decide)) (by decide) (by omega) Try.underlying25 Try.sizeOf45 rfl ?_; clear hs w a; intro a w hs
    refine st_ldA (cs := [.int .i64 (2), .int .i64 (idm id), .int .i64 (0), .int .i64 (0), .int .i64 (0), .int .i64 (0), .int .i64 (0), .int .i64 (0), .int .u16 (0)]) hs rfl (rd_blk (m := 4) (size := 9) (hs.mem.del (.s (.s (.s (.s (.s (.s (.s (.s (.s .z)))))))))) rfl (by decide)) (by rfl) (by simp) (by decide) Try.isAgg45 Try.sizeOf45 rfl ?_; clear hs w a; intro a w hs
    refine st_alloc (cs := [.int .i64 (0), .int .i64 (0), .int .i64 (0), .int .i64 (0), .int .i64 (0), .int .i64 (0), .int .i64 (0), .int .i64 (0), .int .u16 (0)]) hs Try.zeroValue45 rfl rfl ?_; clear hs w a; intro g103 a w hs
    refine st_stBA hs rfl rfl .z (.z (.c (.c (.c (.c (.c (.c (.c (.c (.c .n)))))))))) (ones_c rfl (ones_c rfl (ones_c rfl (ones_c rfl (ones_c rfl (ones_c rfl (ones_c rfl (ones_c rfl (ones_c rfl ones_n))))))))) Try.sizeOf45 rfl ?_; clear hs w a; intro a w hs
    refine wpList_nil ?_
    refine then_n (hK102 _ _ ?_)
    refine wp_seq_k fun K104 hK105 => ?_
    refine wp_region_lit ?_
    refine st_ldBA hs rfl .z (.z (.c (.c (.c (.c (.c (.c (.c (.c (.c .n)))))))))) Try.isAgg45 Try.sizeOf45 rfl ?_; clear hs w a; intro a w hs
    refine st_bs (cs := [.int .i64 (2), .int .i64 (idm id), .int .i64 (0), .int .i64 (0), .int .i64 (0), .int .i64 (0), .int .i64 (0), .int .i64 (0), .int .u16 (0)]) hs (.c .n) (.c rfl .n) Try.underlying25 (ie := Try.t45) rfl rfl rfl rfl (by decide) (by decide) rfl (by decide) rfl rfl rfl ?_; clear hs w a; intro g106 a w hs
    refine st_fa hs rfl Try.underlying27 rfl Try.sizeOf25 (by decide) (o := 3) rfl rfl ?_; clear hs w a; intro a w hs
    refine st_stB hs rfl rfl (.s (.s (.s (.s .z)))) (.s (.s (.s .z))) rfl Try.sizeOf25 ?_; clear hs w a; intro a w hs
    refine wpList_nil ?_
    refine then_n (hK105 _ _ ?_)
    refine wp_seq_k fun K107 hK108 => ?_
    refine wp_region_lit ?_
    refine st_run 2 [(96, .agg #[.int .i64 (t + 1), .int .i64 (time), .int .i64 (t), .slice (some ⟨g106, 0, none⟩) 1 1]), (95, .agg #[.int .i64 (t), .int .i64 (tm), u])] hs (.c (hs.mem.del (.s (.s (.s (.s (.s (.s (.s (.s (.s (.s (.s (.s (.s (.s (.s (.s (.s .z)))))))))))))))))) (.c (hs.mem.del .z) .n)) (by kernel_rfl) (by kernel_rfl) (by kernel_rfl) ?_; clear hs a; intro a hs
    refine st_call hs (.c rfl (.c rfl .n)) Try.call11 .n (dapply_ok t tm _ l (t + 1) time t _ (([(⟨2, idm id, 0, 0, 0, 0, 0, 0, 0#16⟩ : RecR)] : List RecR)) _ (by omega) (by omega) (by omega) (by omega) (by omega) (hs.rd0 hc) (rd_blk (m := 1) (size := 9) (hs.mem.del (.s .z)) rfl (by decide)) (one_rwf (wf_mk (by omega) (by omega) (by omega) (by omega) (by omega) (by omega) (by omega) (by omega)))) rfl ?_; clear hs w a; rintro _ _ a w ⟨v109, rfl, rfl⟩ hs; simp only [List.cons_append, List.nil_append] at hs
    have hk110 := aS_rng (at_ := t) (atm := tm) (a := l) (gt := (t + 1)) (gtm := time) (gb := t) (rl := ([(⟨2, idm id, 0, 0, 0, 0, 0, 0, 0#16⟩ : RecR)] : List RecR))
    refine st_run 3 [(99, .int .i64 (((aE t tm l (t + 1) time t (([(⟨2, idm id, 0, 0, 0, 0, 0, 0, 0#16⟩ : RecR)] : List RecR)) : Nat) : Int))), (98, .agg #[.int .i64 ((aS t tm l (t + 1) time t (([(⟨2, idm id, 0, 0, 0, 0, 0, 0, 0#16⟩ : RecR)] : List RecR))).t), .int .i64 ((aS t tm l (t + 1) time t (([(⟨2, idm id, 0, 0, 0, 0, 0, 0, 0#16⟩ : RecR)] : List RecR))).tm), v109]), (94, .tuple #[.agg #[.int .i64 ((aS t tm l (t + 1) time t (([(⟨2, idm id, 0, 0, 0, 0, 0, 0, 0#16⟩ : RecR)] : List RecR))).t), .int .i64 ((aS t tm l (t + 1) time t (([(⟨2, idm id, 0, 0, 0, 0, 0, 0, 0#16⟩ : RecR)] : List RecR))).tm), v109], .int .i64 (((aE t tm l (t + 1) time t (([(⟨2, idm id, 0, 0, 0, 0, 0, 0, 0#16⟩ : RecR)] : List RecR)) : Nat) : Int))])] hs .n (by kernel_rfl) (by kernel_rfl) (by kernel_rfl) ?_; clear hs a; intro a hs
    refine st_alloc (cs := [.int .i64 (0), .int .i64 (0), .slice none 0 0]) hs Try.zeroValue24 rfl rfl ?_; clear hs w a; intro g111 a w hs
    refine st_stBA hs rfl rfl .z (.z (.c (.c (.c .n)))) (ones_c rfl (ones_c rfl (ones_c (rd_row (hs.mem.del (.s .z))).isSl.one ones_n))) Try.sizeOf24 rfl ?_; clear hs w a; intro a w hs
    refine st_as hs rfl rfl ?_; clear hs w a; intro a w hs
    refine wpList_nil ?_
    refine then_n (hK108 _ _ ?_)
    refine wp_seq_k fun K112 hK113 => ?_
    refine wp_region_lit ?_
    refine st_run 4 [(103, .bool (false)), (102, .int .i64 (2)), (101, .pointer (some ⟨g103, 0, none⟩)), (100, .bool ((eget (idm id) l).isSome))] hs (.c (hs.mem.del (.s (.s (.s (.s .z))))) .n) (by kernel_rfl) (by kernel_rfl) (by kernel_rfl) ?_; clear hs a; intro a hs
    refine st_eqb hs rfl rfl Try.underlying4 rfl ?_; clear hs w a; intro a w hs
    refine wpList_nil ?_
    refine then_n (hK113 _ _ ?_)
    refine wp_if hs rfl (fun hc114 => ?_) (fun hc114 => ?_)
    ·
     have hth : (eget (idm id) l).isSome = false := by simpa using (by assumption : ((eget (idm id) l).isSome == false) = true)
     have hz := (aM_one (r := (⟨2, idm id, 0, 0, 0, 0, 0, 0, 0#16⟩ : RecR)) (ents_srt hsp.2.2.2.2.2) (by omega) (chk_rem _ hid)).2.2.2 hth (by first | rfl | (dsimp only; omega))
     rw [← less_1 (t := t) (tm := tm) (time := time) hs0_ (by omega) (by omega) (by omega) (chk_rem _ hid)] at hz
     refine wp_seq_k fun K115 hK116 => ?_
     refine wp_region_lit ?_
     refine st_run 2 [(106, .bool (!((((aE t tm l (t + 1) time t (([(⟨2, idm id, 0, 0, 0, 0, 0, 0, 0#16⟩ : RecR)] : List RecR)) : Nat) : Int) : Int) == 15))), (105, .int .i64 (((aE t tm l (t + 1) time t (([(⟨2, idm id, 0, 0, 0, 0, 0, 0, 0#16⟩ : RecR)] : List RecR)) : Nat) : Int)))] hs .n (by kernel_rfl) (by kernel_rfl) (by kernel_rfl) ?_; clear hs a; intro a hs
     have hb_ : (!((((aE t tm l (t + 1) time t (([(⟨2, idm id, 0, 0, 0, 0, 0, 0, 0#16⟩ : RecR)] : List RecR)) : Nat) : Int) : Int) == 15)) = false := by rw [hz]; rfl
     rw [hb_] at hs; clear hb_
     refine wpList_nil ?_
     refine then_n (hK116 _ _ ?_)
     refine wp_cond_false (hs.ev rfl) ?_
     refine wp_skip ?_
     refine in_n ?_
     refine then_n (hK100 _ _ ?_)
     refine wp_region_lit ?_
     refine st_run 2 [(87, .int .i64 (3)), (118, .int .i64 (3))] hs .n (by kernel_rfl) (by kernel_rfl) (by kernel_rfl) ?_; clear hs a; intro a hs
     refine wpList_nil ?_
     refine then_n ?_
     refine rounds_in ?_
     refine wp_seq_k fun K117 hK118 => ?_
     refine wp_region_lit ?_
     refine st_lss hs rfl rfl rfl ?_; clear hs w a; intro a w hs
     rw [show (decide ((3 : Int) < 4)) = true from by decide] at hs
     refine wpList_nil ?_
     refine then_n (hK118 _ _ ?_)
     refine wp_seq_k fun K119 hK120 => ?_
     refine wp_cond_true (hs.ev rfl) ?_
     refine wp_skip ?_
     refine then_n (hK120 _ _ ?_)
     refine wp_seq_k fun K121 hK122 => ?_
     refine wp_block ?_
     refine wp_seq_k fun K123 hK124 => ?_
     refine wp_region_lit ?_
     refine st_ia (j := 3) hs rfl rfl (rd_blk (m := 4) (size := 9) (hs.mem.del (.s (.s (.s (.s (.s (.s (.s (.s (.s (.s (.s (.s (.s .z)))))))))))))) rfl (by decide)) (by decide) (by omega) Try.underlying25 Try.sizeOf45 rfl ?_; clear hs w a; intro a w hs
     refine st_ldA (cs := [.int .i64 (3), .int .i64 (idm id), .int .i64 (0), .int .i64 (0), .int .i64 (0), .int .i64 (0), .int .i64 (0), .int .i64 (0), .int .u16 (0)]) hs rfl (rd_blk (m := 4) (size := 9) (hs.mem.del (.s (.s (.s (.s (.s (.s (.s (.s (.s (.s (.s (.s (.s .z)))))))))))))) rfl (by decide)) (by rfl) (by simp) (by decide) Try.isAgg45 Try.sizeOf45 rfl ?_; clear hs w a; intro a w hs
     refine st_alloc (cs := [.int .i64 (0), .int .i64 (0), .int .i64 (0), .int .i64 (0), .int .i64 (0), .int .i64 (0), .int .i64 (0), .int .i64 (0), .int .u16 (0)]) hs Try.zeroValue45 rfl rfl ?_; clear hs w a; intro g125 a w hs
     refine st_stBA hs rfl rfl .z (.z (.c (.c (.c (.c (.c (.c (.c (.c (.c .n)))))))))) (ones_c rfl (ones_c rfl (ones_c rfl (ones_c rfl (ones_c rfl (ones_c rfl (ones_c rfl (ones_c rfl (ones_c rfl ones_n))))))))) Try.sizeOf45 rfl ?_; clear hs w a; intro a w hs
     refine wpList_nil ?_
     refine then_n (hK124 _ _ ?_)
     refine wp_seq_k fun K126 hK127 => ?_
     refine wp_region_lit ?_
     refine st_ldBA hs rfl .z (.z (.c (.c (.c (.c (.c (.c (.c (.c (.c .n)))))))))) Try.isAgg45 Try.sizeOf45 rfl ?_; clear hs w a; intro a w hs
     refine st_bs (cs := [.int .i64 (3), .int .i64 (idm id), .int .i64 (0), .int .i64 (0), .int .i64 (0), .int .i64 (0), .int .i64 (0), .int .i64 (0), .int .u16 (0)]) hs (.c .n) (.c rfl .n) Try.underlying25 (ie := Try.t45) rfl rfl rfl rfl (by decide) (by decide) rfl (by decide) rfl rfl rfl ?_; clear hs w a; intro g128 a w hs
     refine st_fa hs rfl Try.underlying27 rfl Try.sizeOf25 (by decide) (o := 3) rfl rfl ?_; clear hs w a; intro a w hs
     refine st_stB hs rfl rfl (.s (.s (.s (.s .z)))) (.s (.s (.s .z))) rfl Try.sizeOf25 ?_; clear hs w a; intro a w hs
     refine wpList_nil ?_
     refine then_n (hK127 _ _ ?_)
     refine wp_seq_k fun K129 hK130 => ?_
     refine wp_region_lit ?_
     refine st_run 2 [(96, .agg #[.int .i64 (t + 1), .int .i64 (time), .int .i64 (t), .slice (some ⟨g128, 0, none⟩) 1 1]), (95, .agg #[.int .i64 (t), .int .i64 (tm), u])] hs (.c (hs.mem.del (.s (.s (.s (.s (.s (.s (.s (.s (.s (.s (.s (.s (.s (.s (.s (.s (.s (.s (.s (.s (.s .z)))))))))))))))))))))) (.c (hs.mem.del .z) .n)) (by kernel_rfl) (by kernel_rfl) (by kernel_rfl) ?_; clear hs a; intro a hs
     refine st_call hs (.c rfl (.c rfl .n)) Try.call11 .n (dapply_ok t tm _ l (t + 1) time t _ (([(⟨3, idm id, 0, 0, 0, 0, 0, 0, 0#16⟩ : RecR)] : List RecR)) _ (by omega) (by omega) (by omega) (by omega) (by omega) (hs.rd0 hc) (rd_blk (m := 1) (size := 9) (hs.mem.del (.s .z)) rfl (by decide)) (one_rwf (wf_mk (by omega) (by omega) (by omega) (by omega) (by omega) (by omega) (by omega) (by omega)))) rfl ?_; clear hs w a; rintro _ _ a w ⟨v131, rfl, rfl⟩ hs; simp only [List.cons_append, List.nil_append] at hs
     have hk132 := aS_rng (at_ := t) (atm := tm) (a := l) (gt := (t + 1)) (gtm := time) (gb := t) (rl := ([(⟨3, idm id, 0, 0, 0, 0, 0, 0, 0#16⟩ : RecR)] : List RecR))
     refine st_run 3 [(99, .int .i64 (((aE t tm l (t + 1) time t (([(⟨3, idm id, 0, 0, 0, 0, 0, 0, 0#16⟩ : RecR)] : List RecR)) : Nat) : Int))), (98, .agg #[.int .i64 ((aS t tm l (t + 1) time t (([(⟨3, idm id, 0, 0, 0, 0, 0, 0, 0#16⟩ : RecR)] : List RecR))).t), .int .i64 ((aS t tm l (t + 1) time t (([(⟨3, idm id, 0, 0, 0, 0, 0, 0, 0#16⟩ : RecR)] : List RecR))).tm), v131]), (94, .tuple #[.agg #[.int .i64 ((aS t tm l (t + 1) time t (([(⟨3, idm id, 0, 0, 0, 0, 0, 0, 0#16⟩ : RecR)] : List RecR))).t), .int .i64 ((aS t tm l (t + 1) time t (([(⟨3, idm id, 0, 0, 0, 0, 0, 0, 0#16⟩ : RecR)] : List RecR))).tm), v131], .int .i64 (((aE t tm l (t + 1) time t (([(⟨3, idm id, 0, 0, 0, 0, 0, 0, 0#16⟩ : RecR)] : List RecR)) : Nat) : Int))])] hs .n (by kernel_rfl) (by kernel_rfl) (by kernel_rfl) ?_; clear hs a; intro a hs
     refine st_alloc (cs := [.int .i64 (0), .int .i64 (0), .slice none 0 0]) hs Try.zeroValue24 rfl rfl ?_; clear hs w a; intro g133 a w hs
     refine st_stBA hs rfl rfl .z (.z (.c (.c (.c .n)))) (ones_c rfl (ones_c rfl (ones_c (rd_row (hs.mem.del (.s .z))).isSl.one ones_n))) Try.sizeOf24 rfl ?_; clear hs w a; intro a w hs
     refine st_as hs rfl rfl ?_; clear hs w a; intro a w hs
     refine wpList_nil ?_
     refine then_n (hK130 _ _ ?_)
     refine wp_seq_k fun K134 hK135 => ?_
     refine wp_region_lit ?_
     refine st_run 4 [(103, .bool (false)), (102, .int .i64 (3)), (101, .pointer (some ⟨g125, 0, none⟩)), (100, .bool ((eget (idm id) l).isSome))] hs (.c (hs.mem.del (.s (.s (.s (.s .z))))) .n) (by kernel_rfl) (by kernel_rfl) (by kernel_rfl) ?_; clear hs a; intro a hs
     refine st_eqb hs rfl rfl Try.underlying4 rfl ?_; clear hs w a; intro a w hs
     refine wpList_nil ?_
     refine then_n (hK135 _ _ ?_)
     refine wp_if hs rfl (fun hc136 => ?_) (fun hc136 => ?_)
     ·
      have hth : (eget (idm id) l).isSome = false := by simpa using (by assumption : ((eget (idm id) l).isSome == false) = true)
      have hz := (aM_one (r := (⟨3, idm id, 0, 0, 0, 0, 0, 0, 0#16⟩ : RecR)) (ents_srt hsp.2.2.2.2.2) (by omega) (chk_tel _ hid)).2.2.2 hth (by first | rfl | (dsimp only; omega))
      rw [← less_1 (t := t) (tm := tm) (time := time) hs0_ (by omega) (by omega) (by omega) (chk_tel _ hid)] at hz
      refine wp_seq_k fun K137 hK138 => ?_
      refine wp_region_lit ?_
      refine st_run 2 [(106, .bool (!((((aE t tm l (t + 1) time t (([(⟨3, idm id, 0, 0, 0, 0, 0, 0, 0#16⟩ : RecR)] : List RecR)) : Nat) : Int) : Int) == 15))), (105, .int .i64 (((aE t tm l (t + 1) time t (([(⟨3, idm id, 0, 0, 0, 0, 0, 0, 0#16⟩ : RecR)] : List RecR)) : Nat) : Int)))] hs .n (by kernel_rfl) (by kernel_rfl) (by kernel_rfl) ?_; clear hs a; intro a hs
      have hb_ : (!((((aE t tm l (t + 1) time t (([(⟨3, idm id, 0, 0, 0, 0, 0, 0, 0#16⟩ : RecR)] : List RecR)) : Nat) : Int) : Int) == 15)) = false := by rw [hz]; rfl
      rw [hb_] at hs; clear hb_
      refine wpList_nil ?_
      refine then_n (hK138 _ _ ?_)
      refine wp_cond_false (hs.ev rfl) ?_
      refine wp_skip ?_
      refine in_n ?_
      refine then_n (hK122 _ _ ?_)
      refine wp_region_lit ?_
      refine st_run 2 [(87, .int .i64 (4)), (118, .int .i64 (4))] hs .n (by kernel_rfl) (by kernel_rfl) (by kernel_rfl) ?_; clear hs a; intro a hs
      refine wpList_nil ?_
      refine then_n ?_
      refine rounds_in ?_
      refine wp_seq_k fun K139 hK140 => ?_
      refine wp_region_lit ?_
      refine st_lss hs rfl rfl rfl ?_; clear hs w a; intro a w hs
      rw [show (decide ((4 : Int) < 4)) = false from by decide] at hs
      refine wpList_nil ?_
      refine then_n (hK140 _ _ ?_)
      refine wp_seq_k fun K141 hK142 => ?_
      refine wp_cond_false (hs.ev rfl) ?_
      refine wp_exit ?_
      refine th_e ?_
      refine th_e ?_
      refine in_hit ?_
      refine then_n (hK47 _ _ ?_)
      refine wp_seq_k fun K143 hK144 => ?_
      refine wp_region_lit ?_
      refine st_callP (v := .bool (true)) hs .n Try.call10 (alive10_ok _) rfl ?_; clear hs w a; intro a w hs
      refine st_as hs rfl rfl ?_; clear hs w a; intro a w hs
      refine wpList_nil ?_
      refine then_n (hK144 _ _ ?_)
      refine wp_ret ?_
      replace hs := hs.drop (.c (.s (.s (.s (.s (.s (.s (.s (.s (.s (.s (.s (.s (.s (.s (.s (.s (.s (.s (.s (.s (.s (.s (.s .z))))))))))))))))))))))) (.c (.s (.s (.s (.s (.s (.s (.s (.s (.s (.s (.s (.s (.s (.s (.s (.s (.s (.s (.s (.s (.s (.s .z)))))))))))))))))))))) (.c (.s (.s (.s (.s (.s (.s (.s (.s (.s (.s (.s (.s (.s (.s (.s (.s (.s (.s (.s (.s (.s .z))))))))))))))))))))) (.c (.s (.s (.s (.s (.s (.s (.s (.s (.s (.s (.s (.s (.s (.s (.s (.s (.s (.s (.s (.s .z)))))))))))))))))))) (.c (.s (.s (.s (.s (.s (.s (.s (.s (.s (.s (.s (.s (.s (.s (.s (.s (.s (.s (.s .z))))))))))))))))))) (.c (.s (.s (.s (.s (.s (.s (.s (.s (.s (.s (.s (.s (.s (.s (.s (.s (.s (.s .z)))))))))))))))))) (.c (.s (.s (.s (.s (.s (.s (.s (.s (.s (.s (.s (.s (.s (.s (.s (.s (.s .z))))))))))))))))) (.c (.s (.s (.s (.s (.s (.s (.s (.s (.s (.s (.s (.s (.s (.s (.s (.s .z)))))))))))))))) (.c (.s (.s (.s (.s (.s (.s (.s (.s (.s (.s (.s (.s (.s (.s (.s .z))))))))))))))) (.c (.s (.s (.s (.s (.s (.s (.s (.s (.s (.s (.s (.s (.s (.s .z)))))))))))))) (.c (.s (.s (.s (.s (.s (.s (.s (.s (.s (.s (.s (.s (.s .z))))))))))))) (.c (.s (.s (.s (.s (.s (.s (.s (.s (.s (.s (.s (.s .z)))))))))))) (.c (.s (.s (.s (.s (.s (.s (.s (.s (.s (.s (.s .z))))))))))) (.c (.s (.s (.s (.s (.s (.s (.s (.s (.s (.s .z)))))))))) (.c (.s (.s (.s (.s (.s (.s (.s (.s (.s .z))))))))) (.c (.s (.s (.s (.s (.s (.s (.s (.s .z)))))))) (.c (.s (.s (.s (.s (.s (.s (.s .z))))))) (.c (.s (.s (.s (.s (.s (.s .z)))))) (.c (.s (.s (.s (.s (.s .z))))) (.c (.s (.s (.s (.s .z)))) (.c (.s (.s (.s .z))) (.c (.s (.s .z)) (.c (.s .z) (.c .z .n))))))))))))))))))))))))
      exact fin hs rfl rfl ⟨rfl, rfl⟩
     have hth : (eget (idm id) l).isSome = true := by simpa using (by assumption : ((eget (idm id) l).isSome == false) = false)
     have hz := (aM_one (r := (⟨3, idm id, 0, 0, 0, 0, 0, 0, 0#16⟩ : RecR)) (ents_srt hsp.2.2.2.2.2) (by omega) (chk_tel _ hid)).2.1 hth (by first | rfl | (dsimp only; omega))
     rw [← less_1 (t := t) (tm := tm) (time := time) hs0_ (by omega) (by omega) (by omega) (chk_tel _ hid)] at hz
     refine wp_seq_k fun K145 hK146 => ?_
     refine wp_region_lit ?_
     refine st_run 2 [(108, .bool (!((((aE t tm l (t + 1) time t (([(⟨3, idm id, 0, 0, 0, 0, 0, 0, 0#16⟩ : RecR)] : List RecR)) : Nat) : Int) : Int) == 0))), (107, .int .i64 (((aE t tm l (t + 1) time t (([(⟨3, idm id, 0, 0, 0, 0, 0, 0, 0#16⟩ : RecR)] : List RecR)) : Nat) : Int)))] hs .n (by kernel_rfl) (by kernel_rfl) (by kernel_rfl) ?_; clear hs a; intro a hs
     have hb_ : (!((((aE t tm l (t + 1) time t (([(⟨3, idm id, 0, 0, 0, 0, 0, 0, 0#16⟩ : RecR)] : List RecR)) : Nat) : Int) : Int) == 0)) = false := by rw [hz]; rfl
     rw [hb_] at hs; clear hb_
     refine st_run 9 [(117, .bool (false)), (116, undef), (115, undef), (114, undef), (113, undef), (112, undef), (111, undef), (110, undef), (109, .bool (false))] hs .n (by kernel_rfl) (by kernel_rfl) (by kernel_rfl) ?_; clear hs a; intro a hs
     refine wpList_nil ?_
     refine then_n (hK146 _ _ ?_)
     refine wp_cond_false (hs.ev rfl) ?_
     refine wp_skip ?_
     refine in_n ?_
     refine then_n (hK122 _ _ ?_)
     refine wp_region_lit ?_
     refine st_run 2 [(87, .int .i64 (4)), (118, .int .i64 (4))] hs .n (by kernel_rfl) (by kernel_rfl) (by kernel_rfl) ?_; clear hs a; intro a hs
     refine wpList_nil ?_
     refine then_n ?_
     refine rounds_in ?_
     refine wp_seq_k fun K147 hK148 => ?_
     refine wp_region_lit ?_
     refine st_lss hs rfl rfl rfl ?_; clear hs w a; intro a w hs
     rw [show (decide ((4 : Int) < 4)) = false from by decide] at hs
     refine wpList_nil ?_
     refine then_n (hK148 _ _ ?_)
     refine wp_seq_k fun K149 hK150 => ?_
     refine wp_cond_false (hs.ev rfl) ?_
     refine wp_exit ?_
     refine th_e ?_
     refine th_e ?_
     refine in_hit ?_
     refine then_n (hK47 _ _ ?_)
     refine wp_seq_k fun K151 hK152 => ?_
     refine wp_region_lit ?_
     refine st_callP (v := .bool (true)) hs .n Try.call10 (alive10_ok _) rfl ?_; clear hs w a; intro a w hs
     refine st_as hs rfl rfl ?_; clear hs w a; intro a w hs
     refine wpList_nil ?_
     refine then_n (hK152 _ _ ?_)
     refine wp_ret ?_
     replace hs := hs.drop (.c (.s (.s (.s (.s (.s (.s (.s (.s (.s (.s (.s (.s (.s (.s (.s (.s (.s (.s (.s (.s (.s (.s (.s .z))))))))))))))))))))))) (.c (.s (.s (.s (.s (.s (.s (.s (.s (.s (.s (.s (.s (.s (.s (.s (.s (.s (.s (.s (.s (.s (.s .z)))))))))))))))))))))) (.c (.s (.s (.s (.s (.s (.s (.s (.s (.s (.s (.s (.s (.s (.s (.s (.s (.s (.s (.s (.s (.s .z))))))))))))))))))))) (.c (.s (.s (.s (.s (.s (.s (.s (.s (.s (.s (.s (.s (.s (.s (.s (.s (.s (.s (.s (.s .z)))))))))))))))))))) (.c (.s (.s (.s (.s (.s (.s (.s (.s (.s (.s (.s (.s (.s (.s (.s (.s (.s (.s (.s .z))))))))))))))))))) (.c (.s (.s (.s (.s (.s (.s (.s (.s (.s (.s (.s (.s (.s (.s (.s (.s (.s (.s .z)))))))))))))))))) (.c (.s (.s (.s (.s (.s (.s (.s (.s (.s (.s (.s (.s (.s (.s (.s (.s (.s .z))))))))))))))))) (.c (.s (.s (.s (.s (.s (.s (.s (.s (.s (.s (.s (.s (.s (.s (.s (.s .z)))))))))))))))) (.c (.s (.s (.s (.s (.s (.s (.s (.s (.s (.s (.s (.s (.s (.s (.s .z))))))))))))))) (.c (.s (.s (.s (.s (.s (.s (.s (.s (.s (.s (.s (.s (.s (.s .z)))))))))))))) (.c (.s (.s (.s (.s (.s (.s (.s (.s (.s (.s (.s (.s (.s .z))))))))))))) (.c (.s (.s (.s (.s (.s (.s (.s (.s (.s (.s (.s (.s .z)))))))))))) (.c (.s (.s (.s (.s (.s (.s (.s (.s (.s (.s (.s .z))))))))))) (.c (.s (.s (.s (.s (.s (.s (.s (.s (.s (.s .z)))))))))) (.c (.s (.s (.s (.s (.s (.s (.s (.s (.s .z))))))))) (.c (.s (.s (.s (.s (.s (.s (.s (.s .z)))))))) (.c (.s (.s (.s (.s (.s (.s (.s .z))))))) (.c (.s (.s (.s (.s (.s (.s .z)))))) (.c (.s (.s (.s (.s (.s .z))))) (.c (.s (.s (.s (.s .z)))) (.c (.s (.s (.s .z))) (.c (.s (.s .z)) (.c (.s .z) (.c .z .n))))))))))))))))))))))))
     exact fin hs rfl rfl ⟨rfl, rfl⟩
    have hth : (eget (idm id) l).isSome = true := by simpa using (by assumption : ((eget (idm id) l).isSome == false) = false)
    have hz := (aM_one (r := (⟨2, idm id, 0, 0, 0, 0, 0, 0, 0#16⟩ : RecR)) (ents_srt hsp.2.2.2.2.2) (by omega) (chk_rem _ hid)).2.1 hth (by first | rfl | (dsimp only; omega))
    rw [← less_1 (t := t) (tm := tm) (time := time) hs0_ (by omega) (by omega) (by omega) (chk_rem _ hid)] at hz
    refine wp_seq_k fun K153 hK154 => ?_
    refine wp_region_lit ?_
    refine st_run 2 [(108, .bool (!((((aE t tm l (t + 1) time t (([(⟨2, idm id, 0, 0, 0, 0, 0, 0, 0#16⟩ : RecR)] : List RecR)) : Nat) : Int) : Int) == 0))), (107, .int .i64 (((aE t tm l (t + 1) time t (([(⟨2, idm id, 0, 0, 0, 0, 0, 0, 0#16⟩ : RecR)] : List RecR)) : Nat) : Int)))] hs .n (by kernel_rfl) (by kernel_rfl) (by kernel_rfl) ?_; clear hs a; intro a hs
    have hb_ : (!((((aE t tm l (t + 1) time t (([(⟨2, idm id, 0, 0, 0, 0, 0, 0, 0#16⟩ : RecR)] : List RecR)) : Nat) : Int) : Int) == 0)) = false := by rw [hz]; rfl
    rw [hb_] at hs; clear hb_
    refine st_run 9 [(117, .bool (false)), (116, undef), (115, undef), (114, undef), (113, undef), (112, undef), (111, undef), (110, undef), (109, .bool (false))] hs .n (by kernel_rfl) (by kernel_rfl) (by kernel_rfl) ?_; clear hs a; intro a hs
    refine wpList_nil ?_
    refine then_n (hK154 _ _ ?_)
    refine wp_cond_false (hs.ev rfl) ?_
    refine wp_skip ?_
    refine in_n ?_
    refine then_n (hK100 _ _ ?_)
    refine wp_region_lit ?_
    refine st_run 2 [(87, .int .i64 (3)), (118, .int .i64 (3))] hs .n (by kernel_rfl) (by kernel_rfl) (by kernel_rfl) ?_; clear hs a; intro a hs
    refine wpList_nil ?_
    refine then_n ?_
    refine rounds_in ?_
    refine wp_seq_k fun K155 hK156 => ?_
    refine wp_region_lit ?_
    refine st_lss hs rfl rfl rfl ?_; clear hs w a; intro a w hs
    rw [show (decide ((3 : Int) < 4)) = true from by decide] at hs
    refine wpList_nil ?_
    refine then_n (hK156 _ _ ?_)
    refine wp_seq_k fun K157 hK158 => ?_
    refine wp_cond_true (hs.ev rfl) ?_
    refine wp_skip ?_
    refine then_n (hK158 _ _ ?_)
    refine wp_seq_k fun K159 hK160 => ?_
    refine wp_block ?_
    refine wp_seq_k fun K161 hK162 => ?_
    refine wp_region_lit ?_
    refine st_ia (j := 3) hs rfl rfl (rd_blk (m := 4) (size := 9) (hs.mem.del (.s (.s (.s (.s (.s (.s (.s (.s (.s (.s (.s (.s (.s .z)))))))))))))) rfl (by decide)) (by decide) (by omega) Try.underlying25 Try.sizeOf45 rfl ?_; clear hs w a; intro a w hs
    refine st_ldA (cs := [.int .i64 (3), .int .i64 (idm id), .int .i64 (0), .int .i64 (0), .int .i64 (0), .int .i64 (0), .int .i64 (0), .int .i64 (0), .int .u16 (0)]) hs rfl (rd_blk (m := 4) (size := 9) (hs.mem.del (.s (.s (.s (.s (.s (.s (.s (.s (.s (.s (.s (.s (.s .z)))))))))))))) rfl (by decide)) (by rfl) (by simp) (by decide) Try.isAgg45 Try.sizeOf45 rfl ?_; clear hs w a; intro a w hs
    refine st_alloc (cs := [.int .i64 (0), .int .i64 (0), .int .i64 (0), .int .i64 (0), .int .i64 (0), .int .i64 (0), .int .i64 (0), .int .i64 (0), .int .u16 (0)]) hs Try.zeroValue45 rfl rfl ?_; clear hs w a; intro g163 a w hs
    refine st_stBA hs rfl rfl .z (.z (.c (.c (.c (.c (.c (.c (.c (.c (.c .n)))))))))) (ones_c rfl (ones_c rfl (ones_c rfl (ones_c rfl (ones_c rfl (ones_c rfl (ones_c rfl (ones_c rfl (ones_c rfl ones_n))))))))) Try.sizeOf45 rfl ?_; clear hs w a; intro a w hs
    refine wpList_nil ?_
    refine then_n (hK162 _ _ ?_)
    refine wp_seq_k fun K164 hK165 => ?_
    refine wp_region_lit ?_
    refine st_ldBA hs rfl .z (.z (.c (.c (.c (.c (.c (.c (.c (.c (.c .n)))))))))) Try.isAgg45 Try.sizeOf45 rfl ?_; clear hs w a; intro a w hs
    refine st_bs (cs := [.int .i64 (3), .int .i64 (idm id), .int .i64 (0), .int .i64 (0), .int .i64 (0), .int .i64 (0), .int .i64 (0), .int .i64 (0), .int .u16 (0)]) hs (.c .n) (.c rfl .n) Try.underlying25 (ie := Try.t45) rfl rfl rfl rfl (by decide) (by decide) rfl (by decide) rfl rfl rfl ?_; clear hs w a; intro g166 a w hs
    refine st_fa hs rfl Try.underlying27 rfl Try.sizeOf25 (by decide) (o := 3) rfl rfl ?_; clear hs w a; intro a w hs
    refine st_stB hs rfl rfl (.s (.s (.s (.s .z)))) (.s (.s (.s .z))) rfl Try.sizeOf25 ?_; clear hs w a; intro a w hs
    refine wpList_nil ?_
    refine then_n (hK165 _ _ ?_)
    refine wp_seq_k fun K167 hK168 => ?_
    refine wp_region_lit ?_
    refine st_run 2 [(96, .agg #[.int .i64 (t + 1), .int .i64 (time), .int .i64 (t), .slice (some ⟨g166, 0, none⟩) 1 1]), (95, .agg #[.int .i64 (t), .int .i64 (tm), u])] hs (.c (hs.mem.del (.s (.s (.s (.s (.s (.s (.s (.s (.s (.s (.s (.s (.s (.s (.s (.s (.s (.s (.s (.s (.s .z)))))))))))))))))))))) (.c (hs.mem.del .z) .n)) (by kernel_rfl) (by kernel_rfl) (by kernel_rfl) ?_; clear hs a; intro a hs
    refine st_call hs (.c rfl (.c rfl .n)) Try.call11 .n (dapply_ok t tm _ l (t + 1) time t _ (([(⟨3, idm id, 0, 0, 0, 0, 0, 0, 0#16⟩ : RecR)] : List RecR)) _ (by omega) (by omega) (by omega) (by omega) (by omega) (hs.rd0 hc) (rd_blk (m := 1) (size := 9) (hs.mem.del (.s .z)) rfl (by decide)) (one_rwf (wf_mk (by omega) (by omega) (by omega) (by omega) (by omega) (by omega) (by omega) (by omega)))) rfl ?_; clear hs w a; rintro _ _ a w ⟨v169, rfl, rfl⟩ hs; simp only [List.cons_append, List.nil_append] at hs
    have hk170 := aS_rng (at_ := t) (atm := tm) (a := l) (gt := (t + 1)) (gtm := time) (gb := t) (rl := ([(⟨3, idm id, 0, 0, 0, 0, 0, 0, 0#16⟩ : RecR)] : List RecR))
    refine st_run 3 [(99, .int .i64 (((aE t tm l (t + 1) time t (([(⟨3, idm id, 0, 0, 0, 0, 0, 0, 0#16⟩ : RecR)] : List RecR)) : Nat) : Int))), (98, .agg #[.int .i64 ((aS t tm l (t + 1) time t (([(⟨3, idm id, 0, 0, 0, 0, 0, 0, 0#16⟩ : RecR)] : List RecR))).t), .int .i64 ((aS t tm l (t + 1) time t (([(⟨3, idm id, 0, 0, 0, 0, 0, 0, 0#16⟩ : RecR)] : List RecR))).tm), v169]), (94, .tuple #[.agg #[.int .i64 ((aS t tm l (t + 1) time t (([(⟨3, idm id, 0, 0, 0, 0, 0, 0, 0#16⟩ : RecR)] : List RecR))).t), .int .i64 ((aS t tm l (t + 1) time t (([(⟨3, idm id, 0, 0, 0, 0, 0, 0, 0#16⟩ : RecR)] : List RecR))).tm), v169], .int .i64 (((aE t tm l (t + 1) time t (([(⟨3, idm id, 0, 0, 0, 0, 0, 0, 0#16⟩ : RecR)] : List RecR)) : Nat) : Int))])] hs .n (by kernel_rfl) (by kernel_rfl) (by kernel_rfl) ?_; clear hs a; intro a hs
    refine st_alloc (cs := [.int .i64 (0), .int .i64 (0), .slice none 0 0]) hs Try.zeroValue24 rfl rfl ?_; clear hs w a; intro g171 a w hs
    refine st_stBA hs rfl rfl .z (.z (.c (.c (.c .n)))) (ones_c rfl (ones_c rfl (ones_c (rd_row (hs.mem.del (.s .z))).isSl.one ones_n))) Try.sizeOf24 rfl ?_; clear hs w a; intro a w hs
    refine st_as hs rfl rfl ?_; clear hs w a; intro a w hs
    refine wpList_nil ?_
    refine then_n (hK168 _ _ ?_)
    refine wp_seq_k fun K172 hK173 => ?_
    refine wp_region_lit ?_
    refine st_run 4 [(103, .bool (false)), (102, .int .i64 (3)), (101, .pointer (some ⟨g163, 0, none⟩)), (100, .bool ((eget (idm id) l).isSome))] hs (.c (hs.mem.del (.s (.s (.s (.s .z))))) .n) (by kernel_rfl) (by kernel_rfl) (by kernel_rfl) ?_; clear hs a; intro a hs
    refine st_eqb hs rfl rfl Try.underlying4 rfl ?_; clear hs w a; intro a w hs
    refine wpList_nil ?_
    refine then_n (hK173 _ _ ?_)
    refine wp_if hs rfl (fun hc174 => ?_) (fun hc174 => ?_)
    ·
     have hth : (eget (idm id) l).isSome = false := by simpa using (by assumption : ((eget (idm id) l).isSome == false) = true)
     have hz := (aM_one (r := (⟨3, idm id, 0, 0, 0, 0, 0, 0, 0#16⟩ : RecR)) (ents_srt hsp.2.2.2.2.2) (by omega) (chk_tel _ hid)).2.2.2 hth (by first | rfl | (dsimp only; omega))
     rw [← less_1 (t := t) (tm := tm) (time := time) hs0_ (by omega) (by omega) (by omega) (chk_tel _ hid)] at hz
     refine wp_seq_k fun K175 hK176 => ?_
     refine wp_region_lit ?_
     refine st_run 2 [(106, .bool (!((((aE t tm l (t + 1) time t (([(⟨3, idm id, 0, 0, 0, 0, 0, 0, 0#16⟩ : RecR)] : List RecR)) : Nat) : Int) : Int) == 15))), (105, .int .i64 (((aE t tm l (t + 1) time t (([(⟨3, idm id, 0, 0, 0, 0, 0, 0, 0#16⟩ : RecR)] : List RecR)) : Nat) : Int)))] hs .n (by kernel_rfl) (by kernel_rfl) (by kernel_rfl) ?_; clear hs a; intro a hs
     have hb_ : (!((((aE t tm l (t + 1) time t (([(⟨3, idm id, 0, 0, 0, 0, 0, 0, 0#16⟩ : RecR)] : List RecR)) : Nat) : Int) : Int) == 15)) = false := by rw [hz]; rfl
     rw [hb_] at hs; clear hb_
     refine wpList_nil ?_
     refine then_n (hK176 _ _ ?_)
     refine wp_cond_false (hs.ev rfl) ?_
     refine wp_skip ?_
     refine in_n ?_
     refine then_n (hK160 _ _ ?_)
     refine wp_region_lit ?_
     refine st_run 2 [(87, .int .i64 (4)), (118, .int .i64 (4))] hs .n (by kernel_rfl) (by kernel_rfl) (by kernel_rfl) ?_; clear hs a; intro a hs
     refine wpList_nil ?_
     refine then_n ?_
     refine rounds_in ?_
     refine wp_seq_k fun K177 hK178 => ?_
     refine wp_region_lit ?_
     refine st_lss hs rfl rfl rfl ?_; clear hs w a; intro a w hs
     rw [show (decide ((4 : Int) < 4)) = false from by decide] at hs
     refine wpList_nil ?_
     refine then_n (hK178 _ _ ?_)
     refine wp_seq_k fun K179 hK180 => ?_
     refine wp_cond_false (hs.ev rfl) ?_
     refine wp_exit ?_
     refine th_e ?_
     refine th_e ?_
     refine in_hit ?_
     refine then_n (hK47 _ _ ?_)
     refine wp_seq_k fun K181 hK182 => ?_
     refine wp_region_lit ?_
     refine st_callP (v := .bool (true)) hs .n Try.call10 (alive10_ok _) rfl ?_; clear hs w a; intro a w hs
     refine st_as hs rfl rfl ?_; clear hs w a; intro a w hs
     refine wpList_nil ?_
     refine then_n (hK182 _ _ ?_)
     refine wp_ret ?_
     replace hs := hs.drop (.c (.s (.s (.s (.s (.s (.s (.s (.s (.s (.s (.s (.s (.s (.s (.s (.s (.s (.s (.s (.s (.s (.s (.s .z))))))))))))))))))))))) (.c (.s (.s (.s (.s (.s (.s (.s (.s (.s (.s (.s (.s (.s (.s (.s (.s (.s (.s (.s (.s (.s (.s .z)))))))))))))))))))))) (.c (.s (.s (.s (.s (.s (.s (.s (.s (.s (.s (.s (.s (.s (.s (.s (.s (.s (.s (.s (.s (.s .z))))))))))))))))))))) (.c (.s (.s (.s (.s (.s (.s (.s (.s (.s (.s (.s (.s (.s (.s (.s (.s (.s (.s (.s (.s .z)))))))))))))))))))) (.c (.s (.s (.s (.s (.s (.s (.s (.s (.s (.s (.s (.s (.s (.s (.s (.s (.s (.s (.s .z))))))))))))))))))) (.c (.s (.s (.s (.s (.s (.s (.s (.s (.s (.s (.s (.s (.s (.s (.s (.s (.s (.s .z)))))))))))))))))) (.c (.s (.s (.s (.s (.s (.s (.s (.s (.s (.s (.s (.s (.s (.s (.s (.s (.s .z))))))))))))))))) (.c (.s (.s (.s (.s (.s (.s (.s (.s (.s (.s (.s (.s (.s (.s (.s (.s .z)))))))))))))))) (.c (.s (.s (.s (.s (.s (.s (.s (.s (.s (.s (.s (.s (.s (.s (.s .z))))))))))))))) (.c (.s (.s (.s (.s (.s (.s (.s (.s (.s (.s (.s (.s (.s (.s .z)))))))))))))) (.c (.s (.s (.s (.s (.s (.s (.s (.s (.s (.s (.s (.s (.s .z))))))))))))) (.c (.s (.s (.s (.s (.s (.s (.s (.s (.s (.s (.s (.s .z)))))))))))) (.c (.s (.s (.s (.s (.s (.s (.s (.s (.s (.s (.s .z))))))))))) (.c (.s (.s (.s (.s (.s (.s (.s (.s (.s (.s .z)))))))))) (.c (.s (.s (.s (.s (.s (.s (.s (.s (.s .z))))))))) (.c (.s (.s (.s (.s (.s (.s (.s (.s .z)))))))) (.c (.s (.s (.s (.s (.s (.s (.s .z))))))) (.c (.s (.s (.s (.s (.s (.s .z)))))) (.c (.s (.s (.s (.s (.s .z))))) (.c (.s (.s (.s (.s .z)))) (.c (.s (.s (.s .z))) (.c (.s (.s .z)) (.c (.s .z) (.c .z .n))))))))))))))))))))))))
     exact fin hs rfl rfl ⟨rfl, rfl⟩
    have hth : (eget (idm id) l).isSome = true := by simpa using (by assumption : ((eget (idm id) l).isSome == false) = false)
    have hz := (aM_one (r := (⟨3, idm id, 0, 0, 0, 0, 0, 0, 0#16⟩ : RecR)) (ents_srt hsp.2.2.2.2.2) (by omega) (chk_tel _ hid)).2.1 hth (by first | rfl | (dsimp only; omega))
    rw [← less_1 (t := t) (tm := tm) (time := time) hs0_ (by omega) (by omega) (by omega) (chk_tel _ hid)] at hz
    refine wp_seq_k fun K183 hK184 => ?_
    refine wp_region_lit ?_
    refine st_run 2 [(108, .bool (!((((aE t tm l (t + 1) time t (([(⟨3, idm id, 0, 0, 0, 0, 0, 0, 0#16⟩ : RecR)] : List RecR)) : Nat) : Int) : Int) == 0))), (107, .int .i64 (((aE t tm l (t + 1) time t (([(⟨3, idm id, 0, 0, 0, 0, 0, 0, 0#16⟩ : RecR)] : List RecR)) : Nat) : Int)))] hs .n (by kernel_rfl) (by kernel_rfl) (by kernel_rfl) ?_; clear hs a; intro a hs
    have hb_ : (!((((aE t tm l (t + 1) time t (([(⟨3, idm id, 0, 0, 0, 0, 0, 0, 0#16⟩ : RecR)] : List RecR)) : Nat) : Int) : Int) == 0)) = false := by rw [hz]; rfl
    rw [hb_] at hs; clear hb_
    refine st_run 9 [(117, .bool (false)), (116, undef), (115, undef), (114, undef), (113, undef), (112, undef), (111, undef), (110, undef), (109, .bool (false))] hs .n (by kernel_rfl) (by kernel_rfl) (by kernel_rfl) ?_; clear hs a; intro a hs
    refine wpList_nil ?_
    refine then_n (hK184 _ _ ?_)
    refine wp_cond_false (hs.ev rfl) ?_
    refine wp_skip ?_
    refine in_n ?_
    refine then_n (hK160 _ _ ?_)
    refine wp_region_lit ?_
    refine st_run 2 [(87, .int .i64 (4)), (118, .int .i64 (4))] hs .n (by kernel_rfl) (by kernel_rfl) (by kernel_rfl) ?_; clear hs a; intro a hs
    refine wpList_nil ?_
    refine then_n ?_
    refine rounds_in ?_
    refine wp_seq_k fun K185 hK186 => ?_
    refine wp_region_lit ?_
    refine st_lss hs rfl rfl rfl ?_; clear hs w a; intro a w hs
    rw [show (decide ((4 : Int) < 4)) = false from by decide] at hs
    refine wpList_nil ?_
    refine then_n (hK186 _ _ ?_)
    refine wp_seq_k fun K187 hK188 => ?_
    refine wp_cond_false (hs.ev rfl) ?_
    refine wp_exit ?_
    refine th_e ?_
    refine th_e ?_
    refine in_hit ?_
    refine then_n (hK47 _ _ ?_)
    refine wp_seq_k fun K189 hK190 => ?_
    refine wp_region_lit ?_
    refine st_callP (v := .bool (true)) hs .n Try.call10 (alive10_ok _) rfl ?_; clear hs w a; intro a w hs
    refine st_as hs rfl rfl ?_; clear hs w a; intro a w hs
    refine wpList_nil ?_
    refine then_n (hK190 _ _ ?_)
    refine wp_ret ?_
    replace hs := hs.drop (.c (.s (.s (.s (.s (.s (.s (.s (.s (.s (.s (.s (.s (.s (.s (.s (.s (.s (.s (.s (.s (.s (.s (.s .z))))))))))))))))))))))) (.c (.s (.s (.s (.s (.s (.s (.s (.s (.s (.s (.s (.s (.s (.s (.s (.s (.s (.s (.s (.s (.s (.s .z)))))))))))))))))))))) (.c (.s (.s (.s (.s (.s (.s (.s (.s (.s (.s (.s (.s (.s (.s (.s (.s (.s (.s (.s (.s (.s .z))))))))))))))))))))) (.c (.s (.s (.s (.s (.s (.s (.s (.s (.s (.s (.s (.s (.s (.s (.s (.s (.s (.s (.s (.s .z)))))))))))))))))))) (.c (.s (.s (.s (.s (.s (.s (.s (.s (.s (.s (.s (.s (.s (.s (.s (.s (.s (.s (.s .z))))))))))))))))))) (.c (.s (.s (.s (.s (.s (.s (.s (.s (.s (.s (.s (.s (.s (.s (.s (.s (.s (.s .z)))))))))))))))))) (.c (.s (.s (.s (.s (.s (.s (.s (.s (.s (.s (.s (.s (.s (.s (.s (.s (.s .z))))))))))))))))) (.c (.s (.s (.s (.s (.s (.s (.s (.s (.s (.s (.s (.s (.s (.s (.s (.s .z)))))))))))))))) (.c (.s (.s (.s (.s (.s (.s (.s (.s (.s (.s (.s (.s (.s (.s (.s .z))))))))))))))) (.c (.s (.s (.s (.s (.s (.s (.s (.s (.s (.s (.s (.s (.s (.s .z)))))))))))))) (.c (.s (.s (.s (.s (.s (.s (.s (.s (.s (.s (.s (.s (.s .z))))))))))))) (.c (.s (.s (.s (.s (.s (.s (.s (.s (.s (.s (.s (.s .z)))))))))))) (.c (.s (.s (.s (.s (.s (.s (.s (.s (.s (.s (.s .z))))))))))) (.c (.s (.s (.s (.s (.s (.s (.s (.s (.s (.s .z)))))))))) (.c (.s (.s (.s (.s (.s (.s (.s (.s (.s .z))))))))) (.c (.s (.s (.s (.s (.s (.s (.s (.s .z)))))))) (.c (.s (.s (.s (.s (.s (.s (.s .z))))))) (.c (.s (.s (.s (.s (.s (.s .z)))))) (.c (.s (.s (.s (.s (.s .z))))) (.c (.s (.s (.s (.s .z)))) (.c (.s (.s (.s .z))) (.c (.s (.s .z)) (.c (.s .z) (.c .z .n))))))))))))))))))))))))
    exact fin hs rfl rfl ⟨rfl, rfl⟩
   have hth : (eget (idm id) l).isSome = true := by simpa using (by assumption : ((eget (idm id) l).isSome == false) = false)
   have hz := (aM_one (r := (⟨1, idm id, 0, 0, 0, 0, 0, 0, 1#16⟩ : RecR)) (ents_srt hsp.2.2.2.2.2) (by omega) (chk_upd _ hid)).2.1 hth (by first | rfl | (dsimp only; omega))
   rw [← less_1 (t := t) (tm := tm) (time := time) hs0_ (by omega) (by omega) (by omega) (chk_upd _ hid)] at hz
   refine wp_seq_k fun K191 hK192 => ?_
   refine wp_region_lit ?_
   refine st_run 2 [(108, .bool (!((((aE t tm l (t + 1) time t (([(⟨1, idm id, 0, 0, 0, 0, 0, 0, 1#16⟩ : RecR)] : List RecR)) : Nat) : Int) : Int) == 0))), (107, .int .i64 (((aE t tm l (t + 1) time t (([(⟨1, idm id, 0, 0, 0, 0, 0, 0, 1#16⟩ : RecR)] : List RecR)) : Nat) : Int)))] hs .n (by kernel_rfl) (by kernel_rfl) (by kernel_rfl) ?_; clear hs a; intro a hs
   have hb_ : (!((((aE t tm l (t + 1) time t (([(⟨1, idm id, 0, 0, 0, 0, 0, 0, 1#16⟩ : RecR)] : List RecR)) : Nat) : Int) : Int) == 0)) = false := by rw [hz]; rfl
   rw [hb_] at hs; clear hb_
   refine st_run 9 [(117, .bool (false)), (116, undef), (115, undef), (114, undef), (113, undef), (112, undef), (111, undef), (110, undef), (109, .bool (false))] hs .n (by kernel_rfl) (by kernel_rfl) (by kernel_rfl) ?_; clear hs a; intro a hs
   refine wpList_nil ?_
   refine then_n (hK192 _ _ ?_)
   refine wp_cond_false (hs.ev rfl) ?_
   refine wp_skip ?_
   refine in_n ?_
   refine then_n (hK78 _ _ ?_)
   refine wp_region_lit ?_
   refine st_run 2 [(87, .int .i64 (2)), (118, .int .i64 (2))] hs .n (by kernel_rfl) (by kernel_rfl) (by kernel_rfl) ?_; clear hs a; intro a hs
   refine wpList_nil ?_
   refine then_n ?_
   refine rounds_in ?_
   refine wp_seq_k fun K193 hK194 => ?_
   refine wp_region_lit ?_
   refine st_lss hs rfl rfl rfl ?_; clear hs w a; intro a w hs
   rw [show (decide ((2 : Int) < 4)) = true from by decide] at hs
   refine wpList_nil ?_
   refine then_n (hK194 _ _ ?_)
   refine wp_seq_k fun K195 hK196 => ?_
   refine wp_cond_true (hs.ev rfl) ?_
   refine wp_skip ?_
   refine then_n (hK196 _ _ ?_)
   refine wp_seq_k fun K197 hK198 => ?_
   refine wp_block ?_
   refine wp_seq_k fun K199 hK200 => ?_
   refine wp_region_lit ?_
   refine st_ia (j := 2) hs rfl rfl (rd_blk (m := 4) (size := 9) (hs.mem.del (.s (.s (.s (.s (.s (.s (.s (.s (.s .z)))))))))) rfl (by decide)) (by decide) (by omega) Try.underlying25 Try.sizeOf45 rfl ?_; clear hs w a; intro a w hs
   refine st_ldA (cs := [.int .i64 (2), .int .i64 (idm id), .int .i64 (0), .int .i64 (0), .int .i64 (0), .int .i64 (0), .int .i64 (0), .int .i64 (0), .int .u16 (0)]) hs rfl (rd_blk (m := 4) (size := 9) (hs.mem.del (.s (.s (.s (.s (.s (.s (.s (.s (.s .z)))))))))) rfl (by decide)) (by rfl) (by simp) (by decide) Try.isAgg45 Try.sizeOf45 rfl ?_; clear hs w a; intro a w hs
   refine st_alloc (cs := [.int .i64 (0), .int .i64 (0), .int .i64 (0), .int .i64 (0), .int .i64 (0), .int .i64 (0), .int .i64 (0), .int .i64 (0), .int .u16 (0)]) hs Try.zeroValue45 rfl rfl ?_; clear hs w a; intro g201 a w hs
   refine st_stBA hs rfl rfl .z (.z (.c (.c (.c (.c (.c (.c (.c (.c (.c .n)))))))))) (ones_c rfl (ones_c rfl (ones_c rfl (ones_c rfl (ones_c rfl (ones_c rfl (ones_c rfl (ones_c rfl (ones_c rfl ones_n))))))))) Try.sizeOf45 rfl ?_; clear hs w a; intro a w hs
   refine wpList_nil ?_
   refine then_n (hK200 _ _ ?_)
   refine wp_seq_k fun K202 hK203 => ?_
   refine wp_region_lit ?_
   refine st_ldBA hs rfl .z (.z (.c (.c (.c (.c (.c (.c (.c (.c (.c .n)))))))))) Try.isAgg45 Try.sizeOf45 rfl ?_; clear hs w a; intro a w hs
   refine st_bs (cs := [.int .i64 (2), .int .i64 (idm id), .int .i64 (0), .int .i64 (0), .int .i64 (0), .int .i64 (0), .int .i64 (0), .int .i64 (0), .int .u16 (0)]) hs (.c .n) (.c rfl .n) Try.underlying25 (ie := Try.t45) rfl rfl rfl rfl (by decide) (by decide) rfl (by decide) rfl rfl rfl ?_; clear hs w a; intro g204 a w hs
   refine st_fa hs rfl Try.underlying27 rfl Try.sizeOf25 (by decide) (o := 3) rfl rfl ?_; clear hs w a; intro a w hs
   refine st_stB hs rfl rfl (.s (.s (.s (.s .z)))) (.s (.s (.s .z))) rfl Try.sizeOf25 ?_; clear hs w a; intro a w hs
   refine wpList_nil ?_
   refine then_n (hK203 _ _ ?_)
   refine wp_seq_k fun K205 hK206 => ?_
   refine wp_region_lit ?_
   refine st_run 2 [(96, .agg #[.int .i64 (t + 1), .int .i64 (time), .int .i64 (t), .slice (some ⟨g204, 0, none⟩) 1 1]), (95, .agg #[.int .i64 (t), .int .i64 (tm), u])] hs (.c (hs.mem.del (.s (.s (.s (.s (.s (.s (.s (.s (.s (.s (.s (.s (.s (.s (.s (.s (.s .z)))))))))))))))))) (.c (hs.mem.del .z) .n)) (by kernel_rfl) (by kernel_rfl) (by kernel_rfl) ?_; clear hs a; intro a hs
   refine st_call hs (.c rfl (.c rfl .n)) Try.call11 .n (dapply_ok t tm _ l (t + 1) time t _ (([(⟨2, idm id, 0, 0, 0, 0, 0, 0, 0#16⟩ : RecR)] : List RecR)) _ (by omega) (by omega) (by omega) (by omega) (by omega) (hs.rd0 hc) (rd_blk (m := 1) (size := 9) (hs.mem.del (.s .z)) rfl (by decide)) (one_rwf (wf_mk (by omega) (by omega) (by omega) (by omega) (by omega) (by omega) (by omega) (by omega)))) rfl ?_; clear hs w a; rintro _ _ a w ⟨v207, rfl, rfl⟩ hs; simp only [List.cons_append, List.nil_append] at hs
   have hk208 := aS_rng (at_ := t) (atm := tm) (a := l) (gt := (t + 1)) (gtm := time) (gb := t) (rl := ([(⟨2, idm id, 0, 0, 0, 0, 0, 0, 0#16⟩ : RecR)] : List RecR))
   refine st_run 3 [(99, .int .i64 (((aE t tm l (t + 1) time t (([(⟨2, idm id, 0, 0, 0, 0, 0, 0, 0#16⟩ : RecR)] : List RecR)) : Nat) : Int))), (98, .agg #[.int .i64 ((aS t tm l (t + 1) time t (([(⟨2, idm id, 0, 0, 0, 0, 0, 0, 0#16⟩ : RecR)] : List RecR))).t), .int .i64 ((aS t tm l (t + 1) time t (([(⟨2, idm id, 0, 0, 0, 0, 0, 0, 0#16⟩ : RecR)] : List RecR))).tm), v207]), (94, .tuple #[.agg #[.int .i64 ((aS t tm l (t + 1) time t (([(⟨2, idm id, 0, 0, 0, 0, 0, 0, 0#16⟩ : RecR)] : List RecR))).t), .int .i64 ((aS t tm l (t + 1) time t (([(⟨2, idm id, 0, 0, 0, 0, 0, 0, 0#16⟩ : RecR)] : List RecR))).tm), v207], .int .i64 (((aE t tm l (t + 1) time t (([(⟨2, idm id, 0, 0, 0, 0, 0, 0, 0#16⟩ : RecR)] : List RecR)) : Nat) : Int))])] hs .n (by kernel_rfl) (by kernel_rfl) (by kernel_rfl) ?_; clear hs a; intro a hs
   refine st_alloc (cs := [.int .i64 (0), .int .i64 (0), .slice none 0 0]) hs Try.zeroValue24 rfl rfl ?_; clear hs w a; intro g209 a w hs
   refine st_stBA hs rfl rfl .z (.z (.c (.c (.c .n)))) (ones_c rfl (ones_c rfl (ones_c (rd_row (hs.mem.del (.s .z))).isSl.one ones_n))) Try.sizeOf24 rfl ?_; clear hs w a; intro a w hs
   refine st_as hs rfl rfl ?_; clear hs w a; intro a w hs
   refine wpList_nil ?_
   refine then_n (hK206 _ _ ?_)
   refine wp_seq_k fun K210 hK211 => ?_
   refine wp_region_lit ?_
   refine st_run 4 [(103, .bool (false)), (102, .int .i64 (2)), (101, .pointer (some ⟨g201, 0, none⟩)), (100, .bool ((eget (idm id) l).isSome))] hs (.c (hs.mem.del (.s (.s (.s (.s .z))))) .n) (by kernel_rfl) (by kernel_rfl) (by kernel_rfl) ?_; clear hs a; intro a hs
   refine st_eqb hs rfl rfl Try.underlying4 rfl ?_; clear hs w a; intro a w hs
   refine wpList_nil ?_
   refine then_n (hK211 _ _ ?_)
   refine wp_if hs rfl (fun hc212 => ?_) (fun hc212 => ?_)
   ·
    have hth : (eget (idm id) l).isSome = false := by simpa using (by assumption : ((eget (idm id) l).isSome == false) = true)
    have hz := (aM_one (r := (⟨2, idm id, 0, 0, 0, 0, 0, 0, 0#16⟩ : RecR)) (ents_srt hsp.2.2.2.2.2) (by omega) (chk_rem _ hid)).2.2.2 hth (by first | rfl | (dsimp only; omega))
    rw [← less_1 (t := t) (tm := tm) (time := time) hs0_ (by omega) (by omega) (by omega) (chk_rem _ hid)] at hz
    refine wp_seq_k fun K213 hK214 => ?_
    refine wp_region_lit ?_
    refine st_run 2 [(106, .bool (!((((aE t tm l (t + 1) time t (([(⟨2, idm id, 0, 0, 0, 0, 0, 0, 0#16⟩ : RecR)] : List RecR)) : Nat) : Int) : Int) == 15))), (105, .int .i64 (((aE t tm l (t + 1) time t (([(⟨2, idm id, 0, 0, 0, 0, 0, 0, 0#16⟩ : RecR)] : List RecR)) : Nat) : Int)))] hs .n (by kernel_rfl) (by kernel_rfl) (by kernel_rfl) ?_; clear hs a; intro a hs
    have hb_ : (!((((aE t tm l (t + 1) time t (([(⟨2, idm id, 0, 0, 0, 0, 0, 0, 0#16⟩ : RecR)] : List RecR)) : Nat) : Int) : Int) == 15)) = false := by rw [hz]; rfl
    rw [hb_] at hs; clear hb_
    refine wpList_nil ?_
    refine then_n (hK214 _ _ ?_)
    refine wp_cond_false (hs.ev rfl) ?_
    refine wp_skip ?_
    refine in_n ?_
    refine then_n (hK198 _ _ ?_)
    refine wp_region_lit ?_
    refine st_run 2 [(87, .int .i64 (3)), (118, .int .i64 (3))] hs .n (by kernel_rfl) (by kernel_rfl) (by kernel_rfl) ?_; clear hs a; intro a hs
    refine wpList_nil ?_
    refine then_n ?_
    refine rounds_in ?_
    refine wp_seq_k fun K215 hK216 => ?_
    refine wp_region_lit ?_
    refine st_lss hs rfl rfl rfl ?_; clear hs w a; intro a w hs
    rw [show (decide ((3 : Int) < 4)) = true from by decide] at hs
    refine wpList_nil ?_
    refine then_n (hK216 _ _ ?_)
    refine wp_seq_k fun K217 hK218 => ?_
    refine wp_cond_true (hs.ev rfl) ?_
    refine wp_skip ?_
    refine then_n (hK218 _ _ ?_)
    refine wp_seq_k fun K219 hK220 => ?_
    refine wp_block ?_
    refine wp_seq_k fun K221 hK222 => ?_
    refine wp_region_lit ?_
    refine st_ia (j := 3) hs rfl rfl (rd_blk (m := 4) (size := 9) (hs.mem.del (.s (.s (.s (.s (.s (.s (.s (.s (.s (.s (.s (.s (.s .z)))))))))))))) rfl (by decide)) (by decide) (by omega) Try.underlying25 Try.sizeOf45 rfl ?_; clear hs w a; intro a w hs
    refine st_ldA (cs := [.int .i64 (3), .int .i64 (idm id), .int .i64 (0), .int .i64 (0), .int .i64 (0), .int .i64 (0), .int .i64 (0), .int .i64 (0), .int .u16 (0)]) hs rfl (rd_blk (m := 4) (size := 9) (hs.mem.del (.s (.s (.s (.s (.s (.s (.s (.s (.s (.s (.s (.s (.s .z)))))))))))))) rfl (by decide)) (by rfl) (by simp) (by decide) Try.isAgg45 Try.sizeOf45 rfl ?_; clear hs w a; intro a w hs
    refine st_alloc (cs := [.int .i64 (0), .int .i64 (0), .int .i64 (0), .int .i64 (0), .int .i64 (0), .int .i64 (0), .int .i64 (0), .int .i64 (0), .int .u16 (0)]) hs Try.zeroValue45 rfl rfl ?_; clear hs w a; intro g223 a w hs
    refine st_stBA hs rfl rfl .z (.z (.c (.c (.c (.c (.c (.c (.c (.c (.c .n)))))))))) (ones_c rfl (ones_c rfl (ones_c rfl (ones_c rfl (ones_c rfl (ones_c rfl (ones_c rfl (ones_c rfl (ones_c rfl ones_n))))))))) Try.sizeOf45 rfl ?_; clear hs w a; intro a w hs
    refine wpList_nil ?_
    refine then_n (hK222 _ _ ?_)
    refine wp_seq_k fun K224 hK225 => ?_
    refine wp_region_lit ?_
    refine st_ldBA hs rfl .z (.z (.c (.c (.c (.c (.c (.c (.c (.c (.c .n)))))))))) Try.isAgg45 Try.sizeOf45 rfl ?_; clear hs w a; intro a w hs
    refine st_bs (cs := [.int .i64 (3), .int .i64 (idm id), .int .i64 (0), .int .i64 (0), .int .i64 (0), .int .i64 (0), .int .i64 (0), .int .i64 (0), .int .u16 (0)]) hs (.c .n) (.c rfl .n) Try.underlying25 (ie := Try.t45) rfl rfl rfl rfl (by decide) (by decide) rfl (by decide) rfl rfl rfl ?_; clear hs w a; intro g226 a w hs
    refine st_fa hs rfl Try.underlying27 rfl Try.sizeOf25 (by decide) (o := 3) rfl rfl ?_; clear hs w a; intro a w hs
    refine st_stB hs rfl rfl (.s (.s (.s (.s .z)))) (.s (.s (.s .z))) rfl Try.sizeOf25 ?_; clear hs w a; intro a w hs
    refine wpList_nil ?_
    refine then_n (hK225 _ _ ?_)
    refine wp_seq_k fun K227 hK228 => ?_
    refine wp_region_lit ?_
    refine st_run 2 [(96, .agg #[.int .i64 (t + 1), .int .i64 (time), .int .i64 (t), .slice (some ⟨g226, 0, none⟩) 1 1]), (95, .agg #[.int .i64 (t), .int .i64 (tm), u])] hs (.c (hs.mem.del (.s (.s (.s (.s (.s (.s (.s (.s (.s (.s (.s (.s (.s (.s (.s (.s (.s (.s (.s (.s (.s .z)))))))))))))))))))))) (.c (hs.mem.del .z) .n)) (by kernel_rfl) (by kernel_rfl) (by kernel_rfl) ?_; clear hs a; intro a hs
    refine st_call hs (.c rfl (.c rfl .n)) Try.call11 .n (dapply_ok t tm _ l (t + 1) time t _ (([(⟨3, idm id, 0, 0, 0, 0, 0, 0, 0#16⟩ : RecR)] : List RecR)) _ (by omega) (by omega) (by omega) (by omega) (by omega) (hs.rd0 hc) (rd_blk (m := 1) (size := 9) (hs.mem.del (.s .z)) rfl (by decide)) (one_rwf (wf_mk (by omega) (by omega) (by omega) (by omega) (by omega) (by omega) (by omega) (by omega)))) rfl ?_; clear hs w a; rintro _ _ a w ⟨v229, rfl, rfl⟩ hs; simp only [List.cons_append, List.nil_append] at hs
    have hk230 := aS_rng (at_ := t) (atm := tm) (a := l) (gt := (t + 1)) (gtm := time) (gb := t) (rl := ([(⟨3, idm id, 0, 0, 0, 0, 0, 0, 0#16⟩ : RecR)] : List RecR))
    refine st_run 3 [(99, .int .i64 (((aE t tm l (t + 1) time t (([(⟨3, idm id, 0, 0, 0, 0, 0, 0, 0#16⟩ : RecR)] : List RecR)) : Nat) : Int))), (98, .agg #[.int .i64 ((aS t tm l (t + 1) time t (([(⟨3, idm id, 0, 0, 0, 0, 0, 0, 0#16⟩ : RecR)] : List RecR))).t), .int .i64 ((aS t tm l (t + 1) time t (([(⟨3, idm id, 0, 0, 0, 0, 0, 0, 0#16⟩ : RecR)] : List RecR))).tm), v229]), (94, .tuple #[.agg #[.int .i64 ((aS t tm l (t + 1) time t (([(⟨3, idm id, 0, 0, 0, 0, 0, 0, 0#16⟩ : RecR)] : List RecR))).t), .int .i64 ((aS t tm l (t + 1) time t (([(⟨3, idm id, 0, 0, 0, 0, 0, 0, 0#16⟩ : RecR)] : List RecR))).tm), v229], .int .i64 (((aE t tm l (t + 1) time t (([(⟨3, idm id, 0, 0, 0, 0, 0, 0, 0#16⟩ : RecR)] : List RecR)) : Nat) : Int))])] hs .n (by kernel_rfl) (by kernel_rfl) (by kernel_rfl) ?_; clear hs a; intro a hs
    refine st_alloc (cs := [.int .i64 (0), .int .i64 (0), .slice none 0 0]) hs Try.zeroValue24 rfl rfl ?_; clear hs w a; intro g231 a w hs
    refine st_stBA hs rfl rfl .z (.z (.c (.c (.c .n)))) (ones_c rfl (ones_c rfl (ones_c (rd_row (hs.mem.del (.s .z))).isSl.one ones_n))) Try.sizeOf24 rfl ?_; clear hs w a; intro a w hs
    refine st_as hs rfl rfl ?_; clear hs w a; intro a w hs
    refine wpList_nil ?_
    refine then_n (hK228 _ _ ?_)
    refine wp_seq_k fun K232 hK233 => ?_
    refine wp_region_lit ?_
    refine st_run 4 [(103, .bool (false)), (102, .int .i64 (3)), (101, .pointer (some ⟨g223, 0, none⟩)), (100, .bool ((eget (idm id) l).isSome))] hs (.c (hs.mem.del (.s (.s (.s (.s .z))))) .n) (by kernel_rfl) (by kernel_rfl) (by kernel_rfl) ?_; clear hs a; intro a hs
    refine st_eqb hs rfl rfl Try.underlying4 rfl ?_; clear hs w a; intro a w hs
    refine wpList_nil ?_
    refine then_n (hK233 _ _ ?_)
    refine wp_if hs rfl (fun hc234 => ?_) (fun hc234 => ?_)
    ·
     have hth : (eget (idm id) l).isSome = false := by simpa using (by assumption : ((eget (idm id) l).isSome == false) = true)
     have hz := (aM_one (r := (⟨3, idm id, 0, 0, 0, 0, 0, 0, 0#16⟩ : RecR)) (ents_srt hsp.2.2.2.2.2) (by omega) (chk_tel _ hid)).2.2.2 hth (by first | rfl | (dsimp only; omega))
     rw [← less_1 (t := t) (tm := tm) (time := time) hs0_ (by omega) (by omega) (by omega) (chk_tel _ hid)] at hz
     refine wp_seq_k fun K235 hK236 => ?_
     refine wp_region_lit ?_
     refine st_run 2 [(106, .bool (!((((aE t tm l (t + 1) time t (([(⟨3, idm id, 0, 0, 0, 0, 0, 0, 0#16⟩ : RecR)] : List RecR)) : Nat) : Int) : Int) == 15))), (105, .int .i64 (((aE t tm l (t + 1) time t (([(⟨3, idm id, 0, 0, 0, 0, 0, 0, 0#16⟩ : RecR)] : List RecR)) : Nat) : Int)))] hs .n (by kernel_rfl) (by kernel_rfl) (by kernel_rfl) ?_; clear hs a; intro a hs
     have hb_ : (!((((aE t tm l (t + 1) time t (([(⟨3, idm id, 0, 0, 0, 0, 0, 0, 0#16⟩ : RecR)] : List RecR)) : Nat) : Int) : Int) == 15)) = false := by rw [hz]; rfl
     rw [hb_] at hs; clear hb_
     refine wpList_nil ?_
     refine then_n (hK236 _ _ ?_)
     refine wp_cond_false (hs.ev rfl) ?_
     refine wp_skip ?_
     refine in_n ?_
     refine then_n (hK220 _ _ ?_)
     refine wp_region_lit ?_
     refine st_run 2 [(87, .int .i64 (4)), (118, .int .i64 (4))] hs .n (by kernel_rfl) (by kernel_rfl) (by kernel_rfl) ?_; clear hs a; intro a hs
     refine wpList_nil ?_
     refine then_n ?_
     refine rounds_in ?_
     refine wp_seq_k fun K237 hK238 => ?_
     refine wp_region_lit ?_
     refine st_lss hs rfl rfl rfl ?_; clear hs w a; intro a w hs
     rw [show (decide ((4 : Int) < 4)) = false from by decide] at hs
     refine wpList_nil ?_
     refine then_n (hK238 _ _ ?_)
     refine wp_seq_k fun K239 hK240 => ?_
     refine wp_cond_false (hs.ev rfl) ?_
     refine wp_exit ?_
     refine th_e ?_
     refine th_e ?_
     refine in_hit ?_
     refine then_n (hK47 _ _ ?_)
     refine wp_seq_k fun K241 hK242 => ?_
     refine wp_region_lit ?_
     refine st_callP (v := .bool (true)) hs .n Try.call10 (alive10_ok _) rfl ?_; clear hs w a; intro a w hs
     refine st_as hs rfl rfl ?_; clear hs w a; intro a w hs
     refine wpList_nil ?_
     refine then_n (hK242 _ _ ?_)
     refine wp_ret ?_
     replace hs := hs.drop (.c (.s (.s (.s (.s (.s (.s (.s (.s (.s (.s (.s (.s (.s (.s (.s (.s (.s (.s (.s (.s (.s (.s (.s .z))))))))))))))))))))))) (.c (.s (.s (.s (.s (.s (.s (.s (.s (.s (.s (.s (.s (.s (.s (.s (.s (.s (.s (.s (.s (.s (.s .z)))))))))))))))))))))) (.c (.s (.s (.s (.s (.s (.s (.s (.s (.s (.s (.s (.s (.s (.s (.s (.s (.s (.s (.s (.s (.s .z))))))))))))))))))))) (.c (.s (.s (.s (.s (.s (.s (.s (.s (.s (.s (.s (.s (.s (.s (.s (.s (.s (.s (.s (.s .z)))))))))))))))))))) (.c (.s (.s (.s (.s (.s (.s (.s (.s (.s (.s (.s (.s (.s (.s (.s (.s (.s (.s (.s .z))))))))))))))))))) (.c (.s (.s (.s (.s (.s (.s (.s (.s (.s (.s (.s (.s (.s (.s (.s (.s (.s (.s .z)))))))))))))))))) (.c (.s (.s (.s (.s (.s (.s (.s (.s (.s (.s (.s (.s (.s (.s (.s (.s (.s .z))))))))))))))))) (.c (.s (.s (.s (.s (.s (.s (.s (.s (.s (.s (.s (.s (.s (.s (.s (.s .z)))))))))))))))) (.c (.s (.s (.s (.s (.s (.s (.s (.s (.s (.s (.s (.s (.s (.s (.s .z))))))))))))))) (.c (.s (.s (.s (.s (.s (.s (.s (.s (.s (.s (.s (.s (.s (.s .z)))))))))))))) (.c (.s (.s (.s (.s (.s (.s (.s (.s (.s (.s (.s (.s (.s .z))))))))))))) (.c (.s (.s (.s (.s (.s (.s (.s (.s (.s (.s (.s (.s .z)))))))))))) (.c (.s (.s (.s (.s (.s (.s (.s (.s (.s (.s (.s .z))))))))))) (.c (.s (.s (.s (.s (.s (.s (.s (.s (.s (.s .z)))))))))) (.c (.s (.s (.s (.s (.s (.s (.s (.s (.s .z))))))))) (.c (.s (.s (.s (.s (.s (.s (.s (.s .z)))))))) (.c (.s (.s (.s (.s (.s (.s (.s .z))))))) (.c (.s (.s (.s (.s (.s (.s .z)))))) (.c (.s (.s (.s (.s (.s .z))))) (.c (.s (.s (.s (.s .z)))) (.c (.s (.s (.s .z))) (.c (.s (.s .z)) (.c (.s .z) (.c .z .n))))))))))))))))))))))))
     exact fin hs rfl rfl ⟨rfl, rfl⟩
    have hth : (eget (idm id) l).isSome = true := by simpa using (by assumption : ((eget (idm id) l).isSome == false) = false)
    have hz := (aM_one (r := (⟨3, idm id, 0, 0, 0, 0, 0, 0, 0#16⟩ : RecR)) (ents_srt hsp.2.2.2.2.2) (by omega) (chk_tel _ hid)).2.1 hth (by first | rfl | (dsimp only; omega))
    rw [← less_1 (t := t) (tm := tm) (time := time) hs0_ (by omega) (by omega) (by omega) (chk_tel _ hid)] at hz
    refine wp_seq_k fun K243 hK244 => ?_
    refine wp_region_lit ?_
    refine st_run 2 [(108, .bool (!((((aE t tm l (t + 1) time t (([(⟨3, idm id, 0, 0, 0, 0, 0, 0, 0#16⟩ : RecR)] : List RecR)) : Nat) : Int) : Int) == 0))), (107, .int .i64 (((aE t tm l (t + 1) time t (([(⟨3, idm id, 0, 0, 0, 0, 0, 0, 0#16⟩ : RecR)] : List RecR)) : Nat) : Int)))] hs .n (by kernel_rfl) (by kernel_rfl) (by kernel_rfl) ?_; clear hs a; intro a hs
    have hb_ : (!((((aE t tm l (t + 1) time t (([(⟨3, idm id, 0, 0, 0, 0, 0, 0, 0#16⟩ : RecR)] : List RecR)) : Nat) : Int) : Int) == 0)) = false := by rw [hz]; rfl
    rw [hb_] at hs; clear hb_
    refine st_run 9 [(117, .bool (false)), (116, undef), (115, undef), (114, undef), (113, undef), (112, undef), (111, undef), (110, undef), (109, .bool (false))] hs .n (by kernel_rfl) (by kernel_rfl) (by kernel_rfl) ?_; clear hs a; intro a hs
    refine wpList_nil ?_
    refine then_n (hK244 _ _ ?_)
    refine wp_cond_false (hs.ev rfl) ?_
    refine wp_skip ?_
    refine in_n ?_
    refine then_n (hK220 _ _ ?_)
    refine wp_region_lit ?_
    refine st_run 2 [(87, .int .i64 (4)), (118, .int .i64 (4))] hs .n (by kernel_rfl) (by kernel_rfl) (by kernel_rfl) ?_; clear hs a; intro a hs
    refine wpList_nil ?_
    refine then_n ?_
    refine rounds_in ?_
    refine wp_seq_k fun K245 hK246 => ?_
    refine wp_region_lit ?_
    refine st_lss hs rfl rfl rfl ?_; clear hs w a; intro a w hs
    rw [show (decide ((4 : Int) < 4)) = false from by decide] at hs
    refine wpList_nil ?_
    refine then_n (hK246 _ _ ?_)
    refine wp_seq_k fun K247 hK248 => ?_
    refine wp_cond_false (hs.ev rfl) ?_
    refine wp_exit ?_
    refine th_e ?_
    refine th_e ?_
    refine in_hit ?_
    refine then_n (hK47 _ _ ?_)
    refine wp_seq_k fun K249 hK250 => ?_
    refine wp_region_lit ?_
    refine st_callP (v := .bool (true)) hs .n Try.call10 (alive10_ok _) rfl ?_; clear hs w a; intro a w hs
    refine st_as hs rfl rfl ?_; clear hs w a; intro a w hs
    refine wpList_nil ?_
    refine then_n (hK250 _ _ ?_)
    refine wp_ret ?_
    replace hs := hs.drop (.c (.s (.s (.s (.s (.s (.s (.s (.s (.s (.s (.s (.s (.s (.s (.s (.s (.s (.s (.s (.s (.s (.s (.s .z))))))))))))))))))))))) (.c (.s (.s (.s (.s (.s (.s (.s (.s (.s (.s (.s (.s (.s (.s (.s (.s (.s (.s (.s (.s (.s (.s .z)))))))))))))))))))))) (.c (.s (.s (.s (.s (.s (.s (.s (.s (.s (.s (.s (.s (.s (.s (.s (.s (.s (.s (.s (.s (.s .z))))))))))))))))))))) (.c (.s (.s (.s (.s (.s (.s (.s (.s (.s (.s (.s (.s (.s (.s (.s (.s (.s (.s (.s (.s .z)))))))))))))))))))) (.c (.s (.s (.s (.s (.s (.s (.s (.s (.s (.s (.s (.s (.s (.s (.s (.s (.s (.s (.s .z))))))))))))))))))) (.c (.s (.s (.s (.s (.s (.s (.s (.s (.s (.s (.s (.s (.s (.s (.s (.s (.s (.s .z)))))))))))))))))) (.c (.s (.s (.s (.s (.s (.s (.s (.s (.s (.s (.s (.s (.s (.s (.s (.s (.s .z))))))))))))))))) (.c (.s (.s (.s (.s (.s (.s (.s (.s (.s (.s (.s (.s (.s (.s (.s (.s .z)))))))))))))))) (.c (.s (.s (.s (.s (.s (.s (.s (.s (.s (.s (.s (.s (.s (.s (.s .z))))))))))))))) (.c (.s (.s (.s (.s (.s (.s (.s (.s (.s (.s (.s (.s (.s (.s .z)))))))))))))) (.c (.s (.s (.s (.s (.s (.s (.s (.s (.s (.s (.s (.s (.s .z))))))))))))) (.c (.s (.s (.s (.s (.s (.s (.s (.s (.s (.s (.s (.s .z)))))))))))) (.c (.s (.s (.s (.s (.s (.s (.s (.s (.s (.s (.s .z))))))))))) (.c (.s (.s (.s (.s (.s (.s (.s (.s (.s (.s .z)))))))))) (.c (.s (.s (.s (.s (.s (.s (.s (.s (.s .z))))))))) (.c (.s (.s (.s (.s (.s (.s (.s (.s .z)))))))) (.c (.s (.s (.s (.s (.s (.s (.s .z))))))) (.c (.s (.s (.s (.s (.s (.s .z)))))) (.c (.s (.s (.s (.s (.s .z))))) (.c (.s (.s (.s (.s .z)))) (.c (.s (.s (.s .z))) (.c (.s (.s .z)) (.c (.s .z) (.c .z .n))))))))))))))))))))))))
    exact fin hs rfl rfl ⟨rfl, rfl⟩
   have hth : (eget (idm id) l).isSome = true := by simpa using (by assumption : ((eget (idm id) l).isSome == false) = false)
   have hz := (aM_one (r := (⟨2, idm id, 0, 0, 0, 0, 0, 0, 0#16⟩ : RecR)) (ents_srt hsp.2.2.2.2.2) (by omega) (chk_rem _ hid)).2.1 hth (by first | rfl | (dsimp only; omega))
   rw [← less_1 (t := t) (tm := tm) (time := time) hs0_ (by omega) (by omega) (by omega) (chk_rem _ hid)] at hz
   refine wp_seq_k fun K251 hK252 => ?_
   refine wp_region_lit ?_
   refine st_run 2 [(108, .bool (!((((aE t tm l (t + 1) time t (([(⟨2, idm id, 0, 0, 0, 0, 0, 0, 0#16⟩ : RecR)] : List RecR)) : Nat) : Int) : Int) == 0))), (107, .int .i64 (((aE t tm l (t + 1) time t (([(⟨2, idm id, 0, 0, 0, 0, 0, 0, 0#16⟩ : RecR)] : List RecR)) : Nat) : Int)))] hs .n (by kernel_rfl) (by kernel_rfl) (by kernel_rfl) ?_; clear hs a; intro a hs
   have hb_ : (!((((aE t tm l (t + 1) time t (([(⟨2, idm id, 0, 0, 0, 0, 0, 0, 0#16⟩ : RecR)] : List RecR)) : Nat) : Int) : Int) == 0)) = false := by rw [hz]; rfl
   rw [hb_] at hs; clear hb_
   refine st_run 9 [(117, .bool (false)), (116, undef), (115, undef), (114, undef), (113, undef), (112, undef), (111, undef), (110, undef), (109, .bool (false))] hs .n (by kernel_rfl) (by kernel_rfl) (by kernel_rfl) ?_; clear hs a; intro a hs
   refine wpList_nil ?_
   refine then_n (hK252 _ _ ?_)
   refine wp_cond_false (hs.ev rfl) ?_
   refine wp_skip ?_
   refine in_n ?_
   refine then_n (hK198 _ _ ?_)
   refine wp_region_lit ?_
   refine st_run 2 [(87, .int .i64 (3)), (118, .int .i64 (3))] hs .n (by kernel_rfl) (by kernel_rfl) (by kernel_rfl) ?_; clear hs a; intro a hs
   refine wpList_nil ?_
   refine then_n ?_
   refine rounds_in ?_
   refine wp_seq_k fun K253 hK254 => ?_
   refine wp_region_lit ?_
   refine st_lss hs rfl rfl rfl ?_; clear hs w a; intro a w hs
   rw [show (decide ((3 : Int) < 4)) = true from by decide] at hs
   refine wpList_nil ?_
   refine then_n (hK254 _ _ ?_)
   refine wp_seq_k fun K255 hK256 => ?_
   refine wp_cond_true (hs.ev rfl) ?_
   refine wp_skip ?_
   refine then_n (hK256 _ _ ?_)
   refine wp_seq_k fun K257 hK258 => ?_
   refine wp_block ?_
   refine wp_seq_k fun K259 hK260 => ?_
   refine wp_region_lit ?_
   refine st_ia (j := 3) hs rfl rfl (rd_blk (m := 4) (size := 9) (hs.mem.del (.s (.s (.s (.s (.s (.s (.s (.s (.s (.s (.s (.s (.s .z)))))))))))))) rfl (by decide)) (by decide) (by omega) Try.underlying25 Try.sizeOf45 rfl ?_; clear hs w a; intro a w hs
   refine st_ldA (cs := [.int .i64 (3), .int .i64 (idm id), .int .i64 (0), .int .i64 (0), .int .i64 (0), .int .i64 (0), .int .i64 (0), .int .i64 (0), .int .u16 (0)]) hs rfl (rd_blk (m := 4) (size := 9) (hs.mem.del (.s (.s (.s (.s (.s (.s (.s (.s (.s (.s (.s (.s (.s .z)))))))))))))) rfl (by decide)) (by rfl) (by simp) (by decide) Try.isAgg45 Try.sizeOf45 rfl ?_; clear hs w a; intro a w hs
   refine st_alloc (cs := [.int .i64 (0), .int .i64 (0), .int .i64 (0), .int .i64 (0), .int .i64 (0), .int .i64 (0), .int .i64 (0), .int .i64 (0), .int .u16 (0)]) hs Try.zeroValue45 rfl rfl ?_; clear hs w a; intro g261 a w hs
   refine st_stBA hs rfl rfl .z (.z (.c (.c (.c (.c (.c (.c (.c (.c (.c .n)))))))))) (ones_c rfl (ones_c rfl (ones_c rfl (ones_c rfl (ones_c rfl (ones_c rfl (ones_c rfl (ones_c rfl (ones_c rfl ones_n))))))))) Try.sizeOf45 rfl ?_; clear hs w a; intro a w hs
   refine wpList_nil ?_
   refine then_n (hK260 _ _ ?_)
   refine wp_seq_k fun K262 hK263 => ?_
   refine wp_region_lit ?_
   refine st_ldBA hs rfl .z (.z (.c (.c (.c (.c (.c (.c (.c (.c (.c .n)))))))))) Try.isAgg45 Try.sizeOf45 rfl ?_; clear hs w a; intro a w hs
   refine st_bs (cs := [.int .i64 (3), .int .i64 (idm id), .int .i64 (0), .int .i64 (0), .int .i64 (0), .int .i64 (0), .int .i64 (0), .int .i64 (0), .int .u16 (0)]) hs (.c .n) (.c rfl .n) Try.underlying25 (ie := Try.t45) rfl rfl rfl rfl (by decide) (by decide) rfl (by decide) rfl rfl rfl ?_; clear hs w a; intro g264 a w hs
   refine st_fa hs rfl Try.underlying27 rfl Try.sizeOf25 (by decide) (o := 3) rfl rfl ?_; clear hs w a; intro a w hs
   refine st_stB hs rfl rfl (.s (.s (.s (.s .z)))) (.s (.s (.s .z))) rfl Try.sizeOf25 ?_; clear hs w a; intro a w hs
   refine wpList_nil ?_
   refine then_n (hK263 _ _ ?_)
   refine wp_seq_k fun K265 hK266 => ?_
   refine wp_region_lit ?_
   refine st_run 2 [(96, .agg #[.int .i64 (t + 1), .int .i64 (time), .int .i64 (t), .slice (some ⟨g264, 0, none⟩) 1 1]), (95, .agg #[.int .i64 (t), .int .i64 (tm), u])] hs (.c (hs.mem.del (.s (.s (.s (.s (.s (.s (.s (.s (.s (.s (.s (.s (.s (.s (.s (.s (.s (.s (.s (.s (.s .z)))))))))))))))))))))) (.c (hs.mem.del .z) .n)) (by kernel_rfl) (by kernel_rfl) (by kernel_rfl) ?_; clear hs a; intro a hs
   refine st_call hs (.c rfl (.c rfl .n)) Try.call11 .n (dapply_ok t tm _ l (t + 1) time t _ (([(⟨3, idm id, 0, 0, 0, 0, 0, 0, 0#16⟩ : RecR)] : List RecR)) _ (by omega) (by omega) (by omega) (by omega) (by omega) (hs.rd0 hc) (rd_blk (m := 1) (size := 9) (hs.mem.del (.s .z)) rfl (by decide)) (one_rwf (wf_mk (by omega) (by omega) (by omega) (by omega) (by omega) (by omega) (by omega) (by omega)))) rfl ?_; clear hs w a; rintro _ _ a w ⟨v267, rfl, rfl⟩ hs; simp only [List.cons_append, List.nil_append] at hs
   have hk268 := aS_rng (at_ := t) (atm := tm) (a := l) (gt := (t + 1)) (gtm := time) (gb := t) (rl := ([(⟨3, idm id, 0, 0, 0, 0, 0, 0, 0#16⟩ : RecR)] : List RecR))
   refine st_run 3 [(99, .int .i64 (((aE t tm l (t + 1) time t (([(⟨3, idm id, 0, 0, 0, 0, 0, 0, 0#16⟩ : RecR)] : List RecR)) : Nat) : Int))), (98, .agg #[.int .i64 ((aS t tm l (t + 1) time t (([(⟨3, idm id, 0, 0, 0, 0, 0, 0, 0#16⟩ : RecR)] : List RecR))).t), .int .i64 ((aS t tm l (t + 1) time t (([(⟨3, idm id, 0, 0, 0, 0, 0, 0, 0#16⟩ : RecR)] : List RecR))).tm), v267]), (94, .tuple #[.agg #[.int .i64 ((aS t tm l (t + 1) time t (([(⟨3, idm id, 0, 0, 0, 0, 0, 0, 0#16⟩ : RecR)] : List RecR))).t), .int .i64 ((aS t tm l (t + 1) time t (([(⟨3, idm id, 0, 0, 0, 0, 0, 0, 0#16⟩ : RecR)] : List RecR))).tm), v267], .int .i64 (((aE t tm l (t + 1) time t (([(⟨3, idm id, 0, 0, 0, 0, 0, 0, 0#16⟩ : RecR)] : List RecR)) : Nat) : Int))])] hs .n (by kernel_rfl) (by kernel_rfl) (by kernel_rfl) ?_; clear hs a; intro a hs
   refine st_alloc (cs := [.int .i64 (0), .int .i64 (0), .slice none 0 0]) hs Try.zeroValue24 rfl rfl ?_; clear hs w a; intro g269 a w hs
   refine st_stBA hs rfl rfl .z (.z (.c (.c (.c .n)))) (ones_c rfl (ones_c rfl (ones_c (rd_row (hs.mem.del (.s .z))).isSl.one ones_n))) Try.sizeOf24 rfl ?_; clear hs w a; intro a w hs
   refine st_as hs rfl rfl ?_; clear hs w a; intro a w hs
   refine wpList_nil ?_
   refine then_n (hK266 _ _ ?_)
   refine wp_seq_k fun K270 hK271 => ?_
   refine wp_region_lit ?_
   refine st_run 4 [(103, .bool (false)), (102, .int .i64 (3)), (101, .pointer (some ⟨g261, 0, none⟩)), (100, .bool ((eget (idm id) l).isSome))] hs (.c (hs.mem.del (.s (.s (.s (.s .z))))) .n) (by kernel_rfl) (by kernel_rfl) (by kernel_rfl) ?_; clear hs a; intro a hs
   refine st_eqb hs rfl rfl Try.underlying4 rfl ?_; clear hs w a; intro a w hs
   refine wpList_nil ?_
   refine then_n (hK271 _ _ ?_)
   refine wp_if hs rfl (fun hc272 => ?_) (fun hc272 => ?_)
   ·
    have hth : (eget (idm id) l).isSome = false := by simpa using (by assumption : ((eget (idm id) l).isSome == false) = true)
    have hz := (aM_one (r := (⟨3, idm id, 0, 0, 0, 0, 0, 0, 0#16⟩ : RecR)) (ents_srt hsp.2.2.2.2.2) (by omega) (chk_tel _ hid)).2.2.2 hth (by first | rfl | (dsimp only; omega))
    rw [← less_1 (t := t) (tm := tm) (time := time) hs0_ (by omega) (by omega) (by omega) (chk_tel _ hid)] at hz
    refine wp_seq_k fun K273 hK274 => ?_
    refine wp_region_lit ?_
    refine st_run 2 [(106, .bool (!((((aE t tm l (t + 1) time t (([(⟨3, idm id, 0, 0, 0, 0, 0, 0, 0#16⟩ : RecR)] : List RecR)) : Nat) : Int) : Int) == 15))), (105, .int .i64 (((aE t tm l (t + 1) time t (([(⟨3, idm id, 0, 0, 0, 0, 0, 0, 0#16⟩ : RecR)] : List RecR)) : Nat) : Int)))] hs .n (by kernel_rfl) (by kernel_rfl) (by kernel_rfl) ?_; clear hs a; intro a hs
    have hb_ : (!((((aE t tm l (t + 1) time t (([(⟨3, idm id, 0, 0, 0, 0, 0, 0, 0#16⟩ : RecR)] : List RecR)) : Nat) : Int) : Int) == 15)) = false := by rw [hz]; rfl
    rw [hb_] at hs; clear hb_
    refine wpList_nil ?_
    refine then_n (hK274 _ _ ?_)
    refine wp_cond_false (hs.ev rfl) ?_
    refine wp_skip ?_
    refine in_n ?_
    refine then_n (hK258 _ _ ?_)
    refine wp_region_lit ?_
    refine st_run 2 [(87, .int .i64 (4)), (118, .int .i64 (4))] hs .n (by kernel_rfl) (by kernel_rfl) (by kernel_rfl) ?_; clear hs a; intro a hs
    refine wpList_nil ?_
    refine then_n ?_
    refine rounds_in ?_
    refine wp_seq_k fun K275 hK276 => ?_
    refine wp_region_lit ?_
    refine st_lss hs rfl rfl rfl ?_; clear hs w a; intro a w hs
    rw [show (decide ((4 : Int) < 4)) = false from by decide] at hs
    refine wpList_nil ?_
    refine then_n (hK276 _ _ ?_)
    refine wp_seq_k fun K277 hK278 => ?_
    refine wp_cond_false (hs.ev rfl) ?_
    refine wp_exit ?_
    refine th_e ?_
    refine th_e ?_
    refine in_hit ?_
    refine then_n (hK47 _ _ ?_)
    refine wp_seq_k fun K279 hK280 => ?_
    refine wp_region_lit ?_
    refine st_callP (v := .bool (true)) hs .n Try.call10 (alive10_ok _) rfl ?_; clear hs w a; intro a w hs
    refine st_as hs rfl rfl ?_; clear hs w a; intro a w hs
    refine wpList_nil ?_
    refine then_n (hK280 _ _ ?_)
    refine wp_ret ?_
    replace hs := hs.drop (.c (.s (.s (.s (.s (.s (.s (.s (.s (.s (.s (.s (.s (.s (.s (.s (.s (.s (.s (.s (.s (.s (.s (.s .z))))))))))))))))))))))) (.c (.s (.s (.s (.s (.s (.s (.s (.s (.s (.s (.s (.s (.s (.s (.s (.s (.s (.s (.s (.s (.s (.s .z)))))))))))))))))))))) (.c (.s (.s (.s (.s (.s (.s (.s (.s (.s (.s (.s (.s (.s (.s (.s (.s (.s (.s (.s (.s (.s .z))))))))))))))))))))) (.c (.s (.s (.s (.s (.s (.s (.s (.s (.s (.s (.s (.s (.s (.s (.s (.s (.s (.s (.s (.s .z)))))))))))))))))))) (.c (.s (.s (.s (.s (.s (.s (.s (.s (.s (.s (.s (.s (.s (.s (.s (.s (.s (.s (.s .z))))))))))))))))))) (.c (.s (.s (.s (.s (.s (.s (.s (.s (.s (.s (.s (.s (.s (.s (.s (.s (.s (.s .z)))))))))))))))))) (.c (.s (.s (.s (.s (.s (.s (.s (.s (.s (.s (.s (.s (.s (.s (.s (.s (.s .z))))))))))))))))) (.c (.s (.s (.s (.s (.s (.s (.s (.s (.s (.s (.s (.s (.s (.s (.s (.s .z)))))))))))))))) (.c (.s (.s (.s (.s (.s (.s (.s (.s (.s (.s (.s (.s (.s (.s (.s .z))))))))))))))) (.c (.s (.s (.s (.s (.s (.s (.s (.s (.s (.s (.s (.s (.s (.s .z)))))))))))))) (.c (.s (.s (.s (.s (.s (.s (.s (.s (.s (.s (.s (.s (.s .z))))))))))))) (.c (.s (.s (.s (.s (.s (.s (.s (.s (.s (.s (.s (.s .z)))))))))))) (.c (.s (.s (.s (.s (.s (.s (.s (.s (.s (.s (.s .z))))))))))) (.c (.s (.s (.s (.s (.s (.s (.s (.s (.s (.s .z)))))))))) (.c (.s (.s (.s (.s (.s (.s (.s (.s (.s .z))))))))) (.c (.s (.s (.s (.s (.s (.s (.s (.s .z)))))))) (.c (.s (.s (.s (.s (.s (.s (.s .z))))))) (.c (.s (.s (.s (.s (.s (.s .z)))))) (.c (.s (.s (.s (.s (.s .z))))) (.c (.s (.s (.s (.s .z)))) (.c (.s (.s (.s .z))) (.c (.s (.s .z)) (.c (.s .z) (.c .z .n))))))))))))))))))))))))
    exact fin hs rfl rfl ⟨rfl, rfl⟩
   have hth : (eget (idm id) l).isSome = true := by simpa using (by assumption : ((eget (idm id) l).isSome == false) = false)
   have hz := (aM_one (r := (⟨3, idm id, 0, 0, 0, 0, 0, 0, 0#16⟩ : RecR)) (ents_srt hsp.2.2.2.2.2) (by omega) (chk_tel _ hid)).2.1 hth (by first | rfl | (dsimp only; omega))
   rw [← less_1 (t := t) (tm := tm) (time := time) hs0_ (by omega) (by omega) (by omega) (chk_tel _ hid)] at hz
   refine wp_seq_k fun K281 hK282 => ?_
   refine wp_region_lit ?_
   refine st_run 2 [(108, .bool (!((((aE t tm l (t + 1) time t (([(⟨3, idm id, 0, 0, 0, 0, 0, 0, 0#16⟩ : RecR)] : List RecR)) : Nat) : Int) : Int) == 0))), (107, .int .i64 (((aE t tm l (t + 1) time t (([(⟨3, idm id, 0, 0, 0, 0, 0, 0, 0#16⟩ : RecR)] : List RecR)) : Nat) : Int)))] hs .n (by kernel_rfl) (by kernel_rfl) (by kernel_rfl) ?_; clear hs a; intro a hs
   have hb_ : (!((((aE t tm l (t + 1) time t (([(⟨3, idm id, 0, 0, 0, 0, 0, 0, 0#16⟩ : RecR)] : List RecR)) : Nat) : Int) : Int) == 0)) = false := by rw [hz]; rfl
   rw [hb_] at hs; clear hb_
   refine st_run 9 [(117, .bool (false)), (116, undef), (115, undef), (114, undef), (113, undef), (112, undef), (111, undef), (110, undef), (109, .bool (false))] hs .n (by kernel_rfl) (by kernel_rfl) (by kernel_rfl) ?_; clear hs a; intro a hs
   refine wpList_nil ?_
   refine then_n (hK282 _ _ ?_)
   refine wp_cond_false (hs.ev rfl) ?_
   refine wp_skip ?_
   refine in_n ?_
   refine then_n (hK258 _ _ ?_)
   refine wp_region_lit ?_
   refine st_run 2 [(87, .int .i64 (4)), (118, .int .i64 (4))] hs .n (by kernel_rfl) (by kernel_rfl) (by kernel_rfl) ?_; clear hs a; intro a hs
   refine wpList_nil ?_
   refine then_n ?_
   refine rounds_in ?_
   refine wp_seq_k fun K283 hK284 => ?_
   refine wp_region_lit ?_
   refine st_lss hs rfl rfl rfl ?_; clear hs w a; intro a w hs
   rw [show (decide ((4 : Int) < 4)) = false from by decide] at hs
   refine wpList_nil ?_
   refine then_n (hK284 _ _ ?_)
   refine wp_seq_k fun K285 hK286 => ?_
   refine wp_cond_false (hs.ev rfl) ?_
   refine wp_exit ?_
   refine th_e ?_
   refine th_e ?_
   refine in_hit ?_
   refine then_n (hK47 _ _ ?_)
   refine wp_seq_k fun K287 hK288 => ?_
   refine wp_region_lit ?_
   refine st_callP (v := .bool (true)) hs .n Try.call10 (alive10_ok _) rfl ?_; clear hs w a; intro a w hs
   refine st_as hs rfl rfl ?_; clear hs w a; intro a w hs
   refine wpList_nil ?_
   refine then_n (hK288 _ _ ?_)
   refine wp_ret ?_
   replace hs := hs.drop (.c (.s (.s (.s (.s (.s (.s (.s (.s (.s (.s (.s (.s (.s (.s (.s (.s (.s (.s (.s (.s (.s (.s (.s .z))))))))))))))))))))))) (.c (.s (.s (.s (.s (.s (.s (.s (.s (.s (.s (.s (.s (.s (.s (.s (.s (.s (.s (.s (.s (.s (.s .z)))))))))))))))))))))) (.c (.s (.s (.s (.s (.s (.s (.s (.s (.s (.s (.s (.s (.s (.s (.s (.s (.s (.s (.s (.s (.s .z))))))))))))))))))))) (.c (.s (.s (.s (.s (.s (.s (.s (.s (.s (.s (.s (.s (.s (.s (.s (.s (.s (.s (.s (.s .z)))))))))))))))))))) (.c (.s (.s (.s (.s (.s (.s (.s (.s (.s (.s (.s (.s (.s (.s (.s (.s (.s (.s (.s .z))))))))))))))))))) (.c (.s (.s (.s (.s (.s (.s (.s (.s (.s (.s (.s (.s (.s (.s (.s (.s (.s (.s .z)))))))))))))))))) (.c (.s (.s (.s (.s (.s (.s (.s (.s (.s (.s (.s (.s (.s (.s (.s (.s (.s .z))))))))))))))))) (.c (.s (.s (.s (.s (.s (.s (.s (.s (.s (.s (.s (.s (.s (.s (.s (.s .z)))))))))))))))) (.c (.s (.s (.s (.s (.s (.s (.s (.s (.s (.s (.s (.s (.s (.s (.s .z))))))))))))))) (.c (.s (.s (.s (.s (.s (.s (.s (.s (.s (.s (.s (.s (.s (.s .z)))))))))))))) (.c (.s (.s (.s (.s (.s (.s (.s (.s (.s (.s (.s (.s (.s .z))))))))))))) (.c (.s (.s (.s (.s (.s (.s (.s (.s (.s (.s (.s (.s .z)))))))))))) (.c (.s (.s (.s (.s (.s (.s (.s (.s (.s (.s (.s .z))))))))))) (.c (.s (.s (.s (.s (.s (.s (.s (.s (.s (.s .z)))))))))) (.c (.s (.s (.s (.s (.s (.s (.s (.s (.s .z))))))))) (.c (.s (.s (.s (.s (.s (.s (.s (.s .z)))))))) (.c (.s (.s (.s (.s (.s (.s (.s .z))))))) (.c (.s (.s (.s (.s (.s (.s .z)))))) (.c (.s (.s (.s (.s (.s .z))))) (.c (.s (.s (.s (.s .z)))) (.c (.s (.s (.s .z))) (.c (.s (.s .z)) (.c (.s .z) (.c .z .n))))))))))))))))))))))))
   exact fin hs rfl rfl ⟨rfl, rfl⟩
  have hth : (eget (idm id) l).isSome = false := by simpa using (by assumption : ((eget (idm id) l).isSome == true) = false)
  have hz := (aM_one (r := (⟨0, idm id, 0, 0, 0, 0, 0, 0, 0#16⟩ : RecR)) (ents_srt hsp.2.2.2.2.2) (by omega) (chk_put _ hid)).2.2.1 hth (by first | rfl | (dsimp only; omega))
  rw [← less_1 (t := t) (tm := tm) (time := time) hs0_ (by omega) (by omega) (by omega) (chk_put _ hid)] at hz
  refine wp_seq_k fun K289 hK290 => ?_
  refine wp_region_lit ?_
  refine st_run 2 [(108, .bool (!((((aE t tm l (t + 1) time t (([(⟨0, idm id, 0, 0, 0, 0, 0, 0, 0#16⟩ : RecR)] : List RecR)) : Nat) : Int) : Int) == 0))), (107, .int .i64 (((aE t tm l (t + 1) time t (([(⟨0, idm id, 0, 0, 0, 0, 0, 0, 0#16⟩ : RecR)] : List RecR)) : Nat) : Int)))] hs .n (by kernel_rfl) (by kernel_rfl) (by kernel_rfl) ?_; clear hs a; intro a hs
  refine st_mv hs rfl rfl ?_; clear hs w a; intro a w hs
  refine st_part (b := !((((aE t tm l (t + 1) time t (([(⟨0, idm id, 0, 0, 0, 0, 0, 0, 0#16⟩ : RecR)] : List RecR)) : Nat) : Int) : Int) == 0)) (fun hc291 => ?_) (fun hc291 => ?_)
  ·
   rw [hc291] at hs
   replace hc291 := not_t hc291
   replace hc291 := ne_of_beq_f hc291
   refine st_run 2 [(111, .bool (!((((aE t tm l (t + 1) time t (([(⟨0, idm id, 0, 0, 0, 0, 0, 0, 0#16⟩ : RecR)] : List RecR)) : Nat) : Int) : Int) == 4))), (110, .int .i64 (((aE t tm l (t + 1) time t (([(⟨0, idm id, 0, 0, 0, 0, 0, 0, 0#16⟩ : RecR)] : List RecR)) : Nat) : Int)))] hs .n (by kernel_rfl) (by kernel_rfl) (by kernel_rfl) ?_; clear hs a; intro a hs
   have hb_ : (!((((aE t tm l (t + 1) time t (([(⟨0, idm id, 0, 0, 0, 0, 0, 0, 0#16⟩ : RecR)] : List RecR)) : Nat) : Int) : Int) == 4)) = false := by rw [Bool.not_eq_false', beq_iff_eq]; omega
   rw [hb_] at hs; clear hb_
   refine st_run 6 [(117, .bool (false)), (116, .bool (false)), (115, .bool (false)), (114, .int .i64 (0)), (113, .pointer (some ⟨g59, 0, none⟩)), (112, .bool (false))] hs (.c (hs.mem.del (.s (.s (.s (.s .z))))) .n) (by kernel_rfl) (by kernel_rfl) (by kernel_rfl) ?_; clear hs a; intro a hs
   refine wpList_nil ?_
   refine then_n (hK290 _ _ ?_)
   refine wp_cond_false (hs.ev rfl) ?_
   refine wp_skip ?_
   refine in_n ?_
   refine then_n (hK56 _ _ ?_)
   refine wp_region_lit ?_
   refine st_run 2 [(87, .int .i64 (1)), (118, .int .i64 (1))] hs .n (by kernel_rfl) (by kernel_rfl) (by kernel_rfl) ?_; clear hs a; intro a hs
   refine wpList_nil ?_
   refine then_n ?_
   refine rounds_in ?_
   refine wp_seq_k fun K292 hK293 => ?_
   refine wp_region_lit ?_
   refine st_lss hs rfl rfl rfl ?_; clear hs w a; intro a w hs
   rw [show (decide ((1 : Int) < 4)) = true from by decide] at hs
   refine wpList_nil ?_
   refine then_n (hK293 _ _ ?_)
   refine wp_seq_k fun K294 hK295 => ?_
   refine wp_cond_true (hs.ev rfl) ?_
   refine wp_skip ?_
   refine then_n (hK295 _ _ ?_)
   refine wp_seq_k fun K296 hK297 => ?_
   refine wp_block ?_
   refine wp_seq_k fun K298 hK299 => ?_
   refine wp_region_lit ?_
   refine st_ia (j := 1) hs rfl rfl (rd_blk (m := 4) (size := 9) (hs.mem.del (.s (.s (.s (.s (.s .z)))))) rfl (by decide)) (by decide) (by omega) Try.underlying25 Try.sizeOf45 rfl ?_; clear hs w a; intro a w hs
   refine st_ldA (cs := [.int .i64 (1), .int .i64 (idm id), .int .i64 (0), .int .i64 (0), .int .i64 (0), .int .i64 (0), .int .i64 (0), .int .i64 (0), .int .u16 (1)]) hs rfl (rd_blk (m := 4) (size := 9) (hs.mem.del (.s (.s (.s (.s (.s .z)))))) rfl (by decide)) (by rfl) (by simp) (by decide) Try.isAgg45 Try.sizeOf45 rfl ?_; clear hs w a; intro a w hs
   refine st_alloc (cs := [.int .i64 (0), .int .i64 (0), .int .i64 (0), .int .i64 (0), .int .i64 (0), .int .i64 (0), .int .i64 (0), .int .i64 (0), .int .u16 (0)]) hs Try.zeroValue45 rfl rfl ?_; clear hs w a; intro g300 a w hs
   refine st_stBA hs rfl rfl .z (.z (.c (.c (.c (.c (.c (.c (.c (.c (.c .n)))))))))) (ones_c rfl (ones_c rfl (ones_c rfl (ones_c rfl (ones_c rfl (ones_c rfl (ones_c rfl (ones_c rfl (ones_c rfl ones_n))))))))) Try.sizeOf45 rfl ?_; clear hs w a; intro a w hs
   refine wpList_nil ?_
   refine then_n (hK299 _ _ ?_)
   refine wp_seq_k fun K301 hK302 => ?_
   refine wp_region_lit ?_
   refine st_ldBA hs rfl .z (.z (.c (.c (.c (.c (.c (.c (.c (.c (.c .n)))))))))) Try.isAgg45 Try.sizeOf45 rfl ?_; clear hs w a; intro a w hs
   refine st_bs (cs := [.int .i64 (1), .int .i64 (idm id), .int .i64 (0), .int .i64 (0), .int .i64 (0), .int .i64 (0), .int .i64 (0), .int .i64 (0), .int .u16 (1)]) hs (.c .n) (.c rfl .n) Try.underlying25 (ie := Try.t45) rfl rfl rfl rfl (by decide) (by decide) rfl (by decide) rfl rfl rfl ?_; clear hs w a; intro g303 a w hs
   refine st_fa hs rfl Try.underlying27 rfl Try.sizeOf25 (by decide) (o := 3) rfl rfl ?_; clear hs w a; intro a w hs
   refine st_stB hs rfl rfl (.s (.s (.s (.s .z)))) (.s (.s (.s .z))) rfl Try.sizeOf25 ?_; clear hs w a; intro a w hs
   refine wpList_nil ?_
   refine then_n (hK302 _ _ ?_)
   refine wp_seq_k fun K304 hK305 => ?_
   refine wp_region_lit ?_
   refine st_run 2 [(96, .agg #[.int .i64 (t + 1), .int .i64 (time), .int .i64 (t), .slice (some ⟨g303, 0, none⟩) 1 1]), (95, .agg #[.int .i64 (t), .int .i64 (tm), u])] hs (.c (hs.mem.del (.s (.s (.s (.s (.s (.s (.s (.s (.s (.s (.s (.s (.s .z)))))))))))))) (.c (hs.mem.del .z) .n)) (by kernel_rfl) (by kernel_rfl) (by kernel_rfl) ?_; clear hs a; intro a hs
   refine st_call hs (.c rfl (.c rfl .n)) Try.call11 .n (dapply_ok t tm _ l (t + 1) time t _ (([(⟨1, idm id, 0, 0, 0, 0, 0, 0, 1#16⟩ : RecR)] : List RecR)) _ (by omega) (by omega) (by omega) (by omega) (by omega) (hs.rd0 hc) (rd_blk (m := 1) (size := 9) (hs.mem.del (.s .z)) rfl (by decide)) (one_rwf (wf_mk (by omega) (by omega) (by omega) (by omega) (by omega) (by omega) (by omega) (by omega)))) rfl ?_; clear hs w a; rintro _ _ a w ⟨v306, rfl, rfl⟩ hs; simp only [List.cons_append, List.nil_append] at hs
   have hk307 := aS_rng (at_ := t) (atm := tm) (a := l) (gt := (t + 1)) (gtm := time) (gb := t) (rl := ([(⟨1, idm id, 0, 0, 0, 0, 0, 0, 1#16⟩ : RecR)] : List RecR))
   refine st_run 3 [(99, .int .i64 (((aE t tm l (t + 1) time t (([(⟨1, idm id, 0, 0, 0, 0, 0, 0, 1#16⟩ : RecR)] : List RecR)) : Nat) : Int))), (98, .agg #[.int .i64 ((aS t tm l (t + 1) time t (([(⟨1, idm id, 0, 0, 0, 0, 0, 0, 1#16⟩ : RecR)] : List RecR))).t), .int .i64 ((aS t tm l (t + 1) time t (([(⟨1, idm id, 0, 0, 0, 0, 0, 0, 1#16⟩ : RecR)] : List RecR))).tm), v306]), (94, .tuple #[.agg #[.int .i64 ((aS t tm l (t + 1) time t (([(⟨1, idm id, 0, 0, 0, 0, 0, 0, 1#16⟩ : RecR)] : List RecR))).t), .int .i64 ((aS t tm l (t + 1) time t (([(⟨1, idm id, 0, 0, 0, 0, 0, 0, 1#16⟩ : RecR)] : List RecR))).tm), v306], .int .i64 (((aE t tm l (t + 1) time t (([(⟨1, idm id, 0, 0, 0, 0, 0, 0, 1#16⟩ : RecR)] : List RecR)) : Nat) : Int))])] hs .n (by kernel_rfl) (by kernel_rfl) (by kernel_rfl) ?_; clear hs a; intro a hs
   refine st_alloc (cs := [.int .i64 (0), .int .i64 (0), .slice none 0 0]) hs Try.zeroValue24 rfl rfl ?_; clear hs w a; intro g308 a w hs
   refine st_stBA hs rfl rfl .z (.z (.c (.c (.c .n)))) (ones_c rfl (ones_c rfl (ones_c (rd_row (hs.mem.del (.s .z))).isSl.one ones_n))) Try.sizeOf24 rfl ?_; clear hs w a; intro a w hs
   refine st_as hs rfl rfl ?_; clear hs w a; intro a w hs
   refine wpList_nil ?_
   refine then_n (hK305 _ _ ?_)
   refine wp_seq_k fun K309 hK310 => ?_
   refine wp_region_lit ?_
   refine st_run 4 [(103, .bool (false)), (102, .int .i64 (1)), (101, .pointer (some ⟨g300, 0, none⟩)), (100, .bool ((eget (idm id) l).isSome))] hs (.c (hs.mem.del (.s (.s (.s (.s .z))))) .n) (by kernel_rfl) (by kernel_rfl) (by kernel_rfl) ?_; clear hs a; intro a hs
   refine st_eqb hs rfl rfl Try.underlying4 rfl ?_; clear hs w a; intro a w hs
   refine wpList_nil ?_
   refine then_n (hK310 _ _ ?_)
   refine wp_if hs rfl (fun hc311 => ?_) (fun hc311 => ?_)
   ·
    have hth : (eget (idm id) l).isSome = false := by simpa using (by assumption : ((eget (idm id) l).isSome == false) = true)
    have hz := (aM_one (r := (⟨1, idm id, 0, 0, 0, 0, 0, 0, 1#16⟩ : RecR)) (ents_srt hsp.2.2.2.2.2) (by omega) (chk_upd _ hid)).2.2.2 hth (by first | rfl | (dsimp only; omega))
    rw [← less_1 (t := t) (tm := tm) (time := time) hs0_ (by omega) (by omega) (by omega) (chk_upd _ hid)] at hz
    refine wp_seq_k fun K312 hK313 => ?_
    refine wp_region_lit ?_
    refine st_run 2 [(106, .bool (!((((aE t tm l (t + 1) time t (([(⟨1, idm id, 0, 0, 0, 0, 0, 0, 1#16⟩ : RecR)] : List RecR)) : Nat) : Int) : Int) == 15))), (105, .int .i64 (((aE t tm l (t + 1) time t (([(⟨1, idm id, 0, 0, 0, 0, 0, 0, 1#16⟩ : RecR)] : List RecR)) : Nat) : Int)))] hs .n (by kernel_rfl) (by kernel_rfl) (by kernel_rfl) ?_; clear hs a; intro a hs
    have hb_ : (!((((aE t tm l (t + 1) time t (([(⟨1, idm id, 0, 0, 0, 0, 0, 0, 1#16⟩ : RecR)] : List RecR)) : Nat) : Int) : Int) == 15)) = false := by rw [hz]; rfl
    rw [hb_] at hs; clear hb_
    refine wpList_nil ?_
    refine then_n (hK313 _ _ ?_)
    refine wp_cond_false (hs.ev rfl) ?_
    refine wp_skip ?_
    refine in_n ?_
    refine then_n (hK297 _ _ ?_)
    refine wp_region_lit ?_
    refine st_run 2 [(87, .int .i64 (2)), (118, .int .i64 (2))] hs .n (by kernel_rfl) (by kernel_rfl) (by kernel_rfl) ?_; clear hs a; intro a hs
    refine wpList_nil ?_
    refine then_n ?_
    refine rounds_in ?_
    refine wp_seq_k fun K314 hK315 => ?_
    refine wp_region_lit ?_
    refine st_lss hs rfl rfl rfl ?_; clear hs w a; intro a w hs
    rw [show (decide ((2 : Int) < 4)) = true from by decide] at hs
    refine wpList_nil ?_
    refine then_n (hK315 _ _ ?_)
    refine wp_seq_k fun K316 hK317 => ?_
    refine wp_cond_true (hs.ev rfl) ?_
    refine wp_skip ?_
    refine then_n (hK317 _ _ ?_)
    refine wp_seq_k fun K318 hK319 => ?_
    refine wp_block ?_
    refine wp_seq_k fun K320 hK321 => ?_
    refine wp_region_lit ?_
    refine st_ia (j := 2) hs rfl rfl (rd_blk (m := 4) (size := 9) (hs.mem.del (.s (.s (.s (.s (.s (.s (.s (.s (.s .z)))))))))) rfl (by decide)) (by decide) (by omega) Try.underlying25 Try.sizeOf45 rfl ?_; clear hs w a; intro a w hs
    refine st_ldA (cs := [.int .i64 (2), .int .i64 (idm id), .int .i64 (0), .int .i64 (0), .int .i64 (0), .int .i64 (0), .int .i64 (0), .int .i64 (0), .int .u16 (0)]) hs rfl (rd_blk (m := 4) (size := 9) (hs.mem.del (.s (.s (.s (.s (.s (.s (.s (.s (.s .z)))))))))) rfl (by decide)) (by rfl) (by simp) (by decide) Try.isAgg45 Try.sizeOf45 rfl ?_; clear hs w a; intro a w hs
    refine st_alloc (cs := [.int .i64 (0), .int .i64 (0), .int .i64 (0), .int .i64 (0), .int .i64 (0), .int .i64 (0), .int .i64 (0), .int .i64 (0), .int .u16 (0)]) hs Try.zeroValue45 rfl rfl ?_; clear hs w a; intro g322 a w hs
    refine st_stBA hs rfl rfl .z (.z (.c (.c (.c (.c (.c (.c (.c (.c (.c .n)))))))))) (ones_c rfl (ones_c rfl (ones_c rfl (ones_c rfl (ones_c rfl (ones_c rfl (ones_c rfl (ones_c rfl (ones_c rfl ones_n))))))))) Try.sizeOf45 rfl ?_; clear hs w a; intro a w hs
    refine wpList_nil ?_
    refine then_n (hK321 _ _ ?_)
    refine wp_seq_k fun K323 hK324 => ?_
    refine wp_region_lit ?_
    refine st_ldBA hs rfl .z (.z (.c (.c (.c (.c (.c (.c (.c (.c (.c .n)))))))))) Try.isAgg45 Try.sizeOf45 rfl ?_; clear hs w a; intro a w hs
    refine st_bs (cs := [.int .i64 (2), .int .i64 (idm id), .int .i64 (0), .int .i64 (0), .int .i64 (0), .int .i64 (0), .int .i64 (0), .int .i64 (0), .int .u16 (0)]) hs (.c .n) (.c rfl .n) Try.underlying25 (ie := Try.t45) rfl rfl rfl rfl (by decide) (by decide) rfl (by decide) rfl rfl rfl ?_; clear hs w a; intro g325 a w hs
    refine st_fa hs rfl Try.underlying27 rfl Try.sizeOf25 (by decide) (o := 3) rfl rfl ?_; clear hs w a; intro a w hs
    refine st_stB hs rfl rfl (.s (.s (.s (.s .z)))) (.s (.s (.s .z))) rfl Try.sizeOf25 ?_; clear hs w a; intro a w hs
    refine wpList_nil ?_
    refine then_n (hK324 _ _ ?_)
    refine wp_seq_k fun K326 hK327 => ?_
    refine wp_region_lit ?_
    refine st_run 2 [(96, .agg #[.int .i64 (t + 1), .int .i64 (time), .int .i64 (t), .slice (some ⟨g325, 0, none⟩) 1 1]), (95, .agg #[.int .i64 (t), .int .i64 (tm), u])] hs (.c (hs.mem.del (.s (.s (.s (.s (.s (.s (.s (.s (.s (.s (.s (.s (.s (.s (.s (.s (.s .z)))))))))))))))))) (.c (hs.mem.del .z) .n)) (by kernel_rfl) (by kernel_rfl) (by kernel_rfl) ?_; clear hs a; intro a hs
    refine st_call hs (.c rfl (.c rfl .n)) Try.call11 .n (dapply_ok t tm _ l (t + 1) time t _ (([(⟨2, idm id, 0, 0, 0, 0, 0, 0, 0#16⟩ : RecR)] : List RecR)) _ (by omega) (by omega) (by omega) (by omega) (by omega) (hs.rd0 hc) (rd_blk (m := 1) (size := 9) (hs.mem.del (.s .z)) rfl (by decide)) (one_rwf (wf_mk (by omega) (by omega) (by omega) (by omega) (by omega) (by omega) (by omega) (by omega)))) rfl ?_; clear hs w a; rintro _ _ a w ⟨v328, rfl, rfl⟩ hs; simp only [List.cons_append, List.nil_append] at hs
    have hk329 := aS_rng (at_ := t) (atm := tm) (a := l) (gt := (t + 1)) (gtm := time) (gb := t) (rl := ([(⟨2, idm id, 0, 0, 0, 0, 0, 0, 0#16⟩ : RecR)] : List RecR))
    refine st_run 3 [(99, .int .i64 (((aE t tm l (t + 1) time t (([(⟨2, idm id, 0, 0, 0, 0, 0, 0, 0#16⟩ : RecR)] : List RecR)) : Nat) : Int))), (98, .agg #[.int .i64 ((aS t tm l (t + 1) time t (([(⟨2, idm id, 0, 0, 0, 0, 0, 0, 0#16⟩ : RecR)] : List RecR))).t), .int .i64 ((aS t tm l (t + 1) time t (([(⟨2, idm id, 0, 0, 0, 0, 0, 0, 0#16⟩ : RecR)] : List RecR))).tm), v328]), (94, .tuple #[.agg #[.int .i64 ((aS t tm l (t + 1) time t (([(⟨2, idm id, 0, 0, 0, 0, 0, 0, 0#16⟩ : RecR)] : List RecR))).t), .int .i64 ((aS t tm l (t + 1) time t (([(⟨2, idm id, 0, 0, 0, 0, 0, 0, 0#16⟩ : RecR)] : List RecR))).tm), v328], .int .i64 (((aE t tm l (t + 1) time t (([(⟨2, idm id, 0, 0, 0, 0, 0, 0, 0#16⟩ : RecR)] : List RecR)) : Nat) : Int))])] hs .n (by kernel_rfl) (by kernel_rfl) (by kernel_rfl) ?_; clear hs a; intro a hs
    refine st_alloc (cs := [.int .i64 (0), .int .i64 (0), .slice none 0 0]) hs Try.zeroValue24 rfl rfl ?_; clear hs w a; intro g330 a w hs
    refine st_stBA hs rfl rfl .z (.z (.c (.c (.c .n)))) (ones_c rfl (ones_c rfl (ones_c (rd_row (hs.mem.del (.s .z))).isSl.one ones_n))) Try.sizeOf24 rfl ?_; clear hs w a; intro a w hs
    refine st_as hs rfl rfl ?_; clear hs w a; intro a w hs
    refine wpList_nil ?_
    refine then_n (hK327 _ _ ?_)
    refine wp_seq_k fun K331 hK332 => ?_
    refine wp_region_lit ?_
    refine st_run 4 [(103, .bool (false)), (102, .int .i64 (2)), (101, .pointer (some ⟨g322, 0, none⟩)), (100, .bool ((eget (idm id) l).isSome))] hs (.c (hs.mem.del (.s (.s (.s (.s .z))))) .n) (by kernel_rfl) (by kernel_rfl) (by kernel_rfl) ?_; clear hs a; intro a hs
    refine st_eqb hs rfl rfl Try.underlying4 rfl ?_; clear hs w a; intro a w hs
    refine wpList_nil ?_
    refine then_n (hK332 _ _ ?_)
    refine wp_if hs rfl (fun hc333 => ?_) (fun hc333 => ?_)
    ·
     have hth : (eget (idm id) l).isSome = false := by simpa using (by assumption : ((eget (idm id) l).isSome == false) = true)
     have hz := (aM_one (r := (⟨2, idm id, 0, 0, 0, 0, 0, 0, 0#16⟩ : RecR)) (ents_srt hsp.2.2.2.2.2) (by omega) (chk_rem _ hid)).2.2.2 hth (by first | rfl | (dsimp only; omega))
     rw [← less_1 (t := t) (tm := tm) (time := time) hs0_ (by omega) (by omega) (by omega) (chk_rem _ hid)] at hz
     refine wp_seq_k fun K334 hK335 => ?_
     refine wp_region_lit ?_
     refine st_run 2 [(106, .bool (!((((aE t tm l (t + 1) time t (([(⟨2, idm id, 0, 0, 0, 0, 0, 0, 0#16⟩ : RecR)] : List RecR)) : Nat) : Int) : Int) == 15))), (105, .int .i64 (((aE t tm l (t + 1) time t (([(⟨2, idm id, 0, 0, 0, 0, 0, 0, 0#16⟩ : RecR)] : List RecR)) : Nat) : Int)))] hs .n (by kernel_rfl) (by kernel_rfl) (by kernel_rfl) ?_; clear hs a; intro a hs
     have hb_ : (!((((aE t tm l (t + 1) time t (([(⟨2, idm id, 0, 0, 0, 0, 0, 0, 0#16⟩ : RecR)] : List RecR)) : Nat) : Int) : Int) == 15)) = false := by rw [hz]; rfl
     rw [hb_] at hs; clear hb_
     refine wpList_nil ?_
     refine then_n (hK335 _ _ ?_)
     refine wp_cond_false (hs.ev rfl) ?_
     refine wp_skip ?_
     refine in_n ?_
     refine then_n (hK319 _ _ ?_)
     refine wp_region_lit ?_
     refine st_run 2 [(87, .int .i64 (3)), (118, .int .i64 (3))] hs .n (by kernel_rfl) (by kernel_rfl) (by kernel_rfl) ?_; clear hs a; intro a hs
     refine wpList_nil ?_
     refine then_n ?_
     refine rounds_in ?_
     refine wp_seq_k fun K336 hK337 => ?_
     refine wp_region_lit ?_
     refine st_lss hs rfl rfl rfl ?_; clear hs w a; intro a w hs
     rw [show (decide ((3 : Int) < 4)) = true from by decide] at hs
     refine wpList_nil ?_
     refine then_n (hK337 _ _ ?_)
     refine wp_seq_k fun K338 hK339 => ?_
     refine wp_cond_true (hs.ev rfl) ?_
     refine wp_skip ?_
     refine then_n (hK339 _ _ ?_)
     refine wp_seq_k fun K340 hK341 => ?_
     refine wp_block ?_
     refine wp_seq_k fun K342 hK343 => ?_
     refine wp_region_lit ?_
     refine st_ia (j := 3) hs rfl rfl (rd_blk (m := 4) (size := 9) (hs.mem.del (.s (.s (.s (.s (.s (.s (.s (.s (.s (.s (.s (.s (.s .z)))))))))))))) rfl (by decide)) (by decide) (by omega) Try.underlying25 Try.sizeOf45 rfl ?_; clear hs w a; intro a w hs
     refine st_ldA (cs := [.int .i64 (3), .int .i64 (idm id), .int .i64 (0), .int .i64 (0), .int .i64 (0), .int .i64 (0), .int .i64 (0), .int .i64 (0), .int .u16 (0)]) hs rfl (rd_blk (m := 4) (size := 9) (hs.mem.del (.s (.s (.s (.s (.s (.s (.s (.s (.s (.s (.s (.s (.s .z)))))))))))))) rfl (by decide)) (by rfl) (by simp) (by decide) Try.isAgg45 Try.sizeOf45 rfl ?_; clear hs w a; intro a w hs
     refine st_alloc (cs := [.int .i64 (0), .int .i64 (0), .int .i64 (0), .int .i64 (0), .int .i64 (0), .int .i64 (0), .int .i64 (0), .int .i64 (0), .int .u16 (0)]) hs Try.zeroValue45 rfl rfl ?_; clear hs w a; intro g344 a w hs
     refine st_stBA hs rfl rfl .z (.z (.c (.c (.c (.c (.c (.c (.c (.c (.c .n)))))))))) (ones_c rfl (ones_c rfl (ones_c rfl (ones_c rfl (ones_c rfl (ones_c rfl (ones_c rfl (ones_c rfl (ones_c rfl ones_n))))))))) Try.sizeOf45 rfl ?_; clear hs w a; intro a w hs
     refine wpList_nil ?_
     refine then_n (hK343 _ _ ?_)
     refine wp_seq_k fun K345 hK346 => ?_
     refine wp_region_lit ?_
     refine st_ldBA hs rfl .z (.z (.c (.c (.c (.c (.c (.c (.c (.c (.c .n)))))))))) Try.isAgg45 Try.sizeOf45 rfl ?_; clear hs w a; intro a w hs
     refine st_bs (cs := [.int .i64 (3), .int .i64 (idm id), .int .i64 (0), .int .i64 (0), .int .i64 (0), .int .i64 (0), .int .i64 (0), .int .i64 (0), .int .u16 (0)]) hs (.c .n) (.c rfl .n) Try.underlying25 (ie := Try.t45) rfl rfl rfl rfl (by decide) (by decide) rfl (by decide) rfl rfl rfl ?_; clear hs w a; intro g347 a w hs
     refine st_fa hs rfl Try.underlying27 rfl Try.sizeOf25 (by decide) (o := 3) rfl rfl ?_; clear hs w a; intro a w hs
     refine st_stB hs rfl rfl (.s (.s (.s (.s .z)))) (.s (.s (.s .z))) rfl Try.sizeOf25 ?_; clear hs w a; intro a w hs
     refine wpList_nil ?_
     refine then_n (hK346 _ _ ?_)
     refine wp_seq_k fun K348 hK349 => ?_
     refine wp_region_lit ?_
     refine st_run 2 [(96, .agg #[.int .i64 (t + 1), .int .i64 (time), .int .i64 (t), .slice (some ⟨g347, 0, none⟩) 1 1]), (95, .agg #[.int .i64 (t), .int .i64 (tm), u])] hs (.c (hs.mem.del (.s (.s (.s (.s (.s (.s (.s (.s (.s (.s (.s (.s (.s (.s (.s (.s (.s (.s (.s (.s (.s .z)))))))))))))))))))))) (.c (hs.mem.del .z) .n)) (by kernel_rfl) (by kernel_rfl) (by kernel_rfl) ?_; clear hs a; intro a hs
     refine st_call hs (.c rfl (.c rfl .n)) Try.call11 .n (dapply_ok t tm _ l (t + 1) time t _ (([(⟨3, idm id, 0, 0, 0, 0, 0, 0, 0#16⟩ : RecR)] : List RecR)) _ (by omega) (by omega) (by omega) (by omega) (by omega) (hs.rd0 hc) (rd_blk (m := 1) (size := 9) (hs.mem.del (.s .z)) rfl (by decide)) (one_rwf (wf_mk (by omega) (by omega) (by omega) (by omega) (by omega) (by omega) (by omega) (by omega)))) rfl ?_; clear hs w a; rintro _ _ a w ⟨v350, rfl, rfl⟩ hs; simp only [List.cons_append, List.nil_append] at hs
     have hk351 := aS_rng (at_ := t) (atm := tm) (a := l) (gt := (t + 1)) (gtm := time) (gb := t) (rl := ([(⟨3, idm id, 0, 0, 0, 0, 0, 0, 0#16⟩ : RecR)] : List RecR))
     refine st_run 3 [(99, .int .i64 (((aE t tm l (t + 1) time t (([(⟨3, idm id, 0, 0, 0, 0, 0, 0, 0#16⟩ : RecR)] : List RecR)) : Nat) : Int))), (98, .agg #[.int .i64 ((aS t tm l (t + 1) time t (([(⟨3, idm id, 0, 0, 0, 0, 0, 0, 0#16⟩ : RecR)] : List RecR))).t), .int .i64 ((aS t tm l (t + 1) time t (([(⟨3, idm id, 0, 0, 0, 0, 0, 0, 0#16⟩ : RecR)] : List RecR))).tm), v350]), (94, .tuple #[.agg #[.int .i64 ((aS t tm l (t + 1) time t (([(⟨3, idm id, 0, 0, 0, 0, 0, 0, 0#16⟩ : RecR)] : List RecR))).t), .int .i64 ((aS t tm l (t + 1) time t (([(⟨3, idm id, 0, 0, 0, 0, 0, 0, 0#16⟩ : RecR)] : List RecR))).tm), v350], .int .i64 (((aE t tm l (t + 1) time t (([(⟨3, idm id, 0, 0, 0, 0, 0, 0, 0#16⟩ : RecR)] : List RecR)) : Nat) : Int))])] hs .n (by kernel_rfl) (by kernel_rfl) (by kernel_rfl) ?_; clear hs a; intro a hs
     refine st_alloc (cs := [.int .i64 (0), .int .i64 (0), .slice none 0 0]) hs Try.zeroValue24 rfl rfl ?_; clear hs w a; intro g352 a w hs
     refine st_stBA hs rfl rfl .z (.z (.c (.c (.c .n)))) (ones_c rfl (ones_c rfl (ones_c (rd_row (hs.mem.del (.s .z))).isSl.one ones_n))) Try.sizeOf24 rfl ?_; clear hs w a; intro a w hs
     refine st_as hs rfl rfl ?_; clear hs w a; intro a w hs
     refine wpList_nil ?_
     refine then_n (hK349 _ _ ?_)
     refine wp_seq_k fun K353 hK354 => ?_
     refine wp_region_lit ?_
     refine st_run 4 [(103, .bool (false)), (102, .int .i64 (3)), (101, .pointer (some ⟨g344, 0, none⟩)), (100, .bool ((eget (idm id) l).isSome))] hs (.c (hs.mem.del (.s (.s (.s (.s .z))))) .n) (by kernel_rfl) (by kernel_rfl) (by kernel_rfl) ?_; clear hs a; intro a hs
     refine st_eqb hs rfl rfl Try.underlying4 rfl ?_; clear hs w a; intro a w hs
     refine wpList_nil ?_
     refine then_n (hK354 _ _ ?_)
     refine wp_if hs rfl (fun hc355 => ?_) (fun hc355 => ?_)
     ·
      have hth : (eget (idm id) l).isSome = false := by simpa using (by assumption : ((eget (idm id) l).isSome == false) = true)
      have hz := (aM_one (r := (⟨3, idm id, 0, 0, 0, 0, 0, 0, 0#16⟩ : RecR)) (ents_srt hsp.2.2.2.2.2) (by omega) (chk_tel _ hid)).2.2.2 hth (by first | rfl | (dsimp only; omega))
      rw [← less_1 (t := t) (tm := tm) (time := time) hs0_ (by omega) (by omega) (by omega) (chk_tel _ hid)] at hz
      refine wp_seq_k fun K356 hK357 => ?_
      refine wp_region_lit ?_
      refine st_run 2 [(106, .bool (!((((aE t tm l (t + 1) time t (([(⟨3, idm id, 0, 0, 0, 0, 0, 0, 0#16⟩ : RecR)] : List RecR)) : Nat) : Int) : Int) == 15))), (105, .int .i64 (((aE t tm l (t + 1) time t (([(⟨3, idm id, 0, 0, 0, 0, 0, 0, 0#16⟩ : RecR)] : List RecR)) : Nat) : Int)))] hs .n (by kernel_rfl) (by kernel_rfl) (by kernel_rfl) ?_; clear hs a; intro a hs
      have hb_ : (!((((aE t tm l (t + 1) time t (([(⟨3, idm id, 0, 0, 0, 0, 0, 0, 0#16⟩ : RecR)] : List RecR)) : Nat) : Int) : Int) == 15)) = false := by rw [hz]; rfl
      rw [hb_] at hs; clear hb_
      refine wpList_nil ?_
      refine then_n (hK357 _ _ ?_)
      refine wp_cond_false (hs.ev rfl) ?_
      refine wp_skip ?_
      refine in_n ?_
      refine then_n (hK341 _ _ ?_)
      refine wp_region_lit ?_
      refine st_run 2 [(87, .int .i64 (4)), (118, .int .i64 (4))] hs .n (by kernel_rfl) (by kernel_rfl) (by kernel_rfl) ?_; clear hs a; intro a hs
      refine wpList_nil ?_
      refine then_n ?_
      refine rounds_in ?_
      refine wp_seq_k fun K358 hK359 => ?_
      refine wp_region_lit ?_
      refine st_lss hs rfl rfl rfl ?_; clear hs w a; intro a w hs
      rw [show (decide ((4 : Int) < 4)) = false from by decide] at hs
      refine wpList_nil ?_
      refine then_n (hK359 _ _ ?_)
      refine wp_seq_k fun K360 hK361 => ?_
      refine wp_cond_false (hs.ev rfl) ?_
      refine wp_exit ?_
      refine th_e ?_
      refine th_e ?_
      refine in_hit ?_
      refine then_n (hK47 _ _ ?_)
      refine wp_seq_k fun K362 hK363 => ?_
      refine wp_region_lit ?_
      refine st_callP (v := .bool (true)) hs .n Try.call10 (alive10_ok _) rfl ?_; clear hs w a; intro a w hs
      refine st_as hs rfl rfl ?_; clear hs w a; intro a w hs
      refine wpList_nil ?_
      refine then_n (hK363 _ _ ?_)
      refine wp_ret ?_
      replace hs := hs.drop (.c (.s (.s (.s (.s (.s (.s (.s (.s (.s (.s (.s (.s (.s (.s (.s (.s (.s (.s (.s (.s (.s (.s (.s .z))))))))))))))))))))))) (.c (.s (.s (.s (.s (.s (.s (.s (.s (.s (.s (.s (.s (.s (.s (.s (.s (.s (.s (.s (.s (.s (.s .z)))))))))))))))))))))) (.c (.s (.s (.s (.s (.s (.s (.s (.s (.s (.s (.s (.s (.s (.s (.s (.s (.s (.s (.s (.s (.s .z))))))))))))))))))))) (.c (.s (.s (.s (.s (.s (.s (.s (.s (.s (.s (.s (.s (.s (.s (.s (.s (.s (.s (.s (.s .z)))))))))))))))))))) (.c (.s (.s (.s (.s (.s (.s (.s (.s (.s (.s (.s (.s (.s (.s (.s (.s (.s (.s (.s .z))))))))))))))))))) (.c (.s (.s (.s (.s (.s (.s (.s (.s (.s (.s (.s (.s (.s (.s (.s (.s (.s (.s .z)))))))))))))))))) (.c (.s (.s (.s (.s (.s (.s (.s (.s (.s (.s (.s (.s (.s (.s (.s (.s (.s .z))))))))))))))))) (.c (.s (.s (.s (.s (.s (.s (.s (.s (.s (.s (.s (.s (.s (.s (.s (.s .z)))))))))))))))) (.c (.s (.s (.s (.s (.s (.s (.s (.s (.s (.s (.s (.s (.s (.s (.s .z))))))))))))))) (.c (.s (.s (.s (.s (.s (.s (.s (.s (.s (.s (.s (.s (.s (.s .z)))))))))))))) (.c (.s (.s (.s (.s (.s (.s (.s (.s (.s (.s (.s (.s (.s .z))))))))))))) (.c (.s (.s (.s (.s (.s (.s (.s (.s (.s (.s (.s (.s .z)))))))))))) (.c (.s (.s (.s (.s (.s (.s (.s (.s (.s (.s (.s .z))))))))))) (.c (.s (.s (.s (.s (.s (.s (.s (.s (.s (.s .z)))))))))) (.c (.s (.s (.s (.s (.s (.s (.s (.s (.s .z))))))))) (.c (.s (.s (.s (.s (.s (.s (.s (.s .z)))))))) (.c (.s (.s (.s (.s (.s (.s (.s .z))))))) (.c (.s (.s (.s (.s (.s (.s .z)))))) (.c (.s (.s (.s (.s (.s .z))))) (.c (.s (.s (.s (.s .z)))) (.c (.s (.s (.s .z))) (.c (.s (.s .z)) (.c (.s .z) (.c .z .n))))))))))))))))))))))))
      exact fin hs rfl rfl ⟨rfl, rfl⟩
     have hth : (eget (idm id) l).isSome = true := by simpa using (by assumption : ((eget (idm id) l).isSome == false) = false)
     have hz := (aM_one (r := (⟨3, idm id, 0, 0, 0, 0, 0, 0, 0#16⟩ : RecR)) (ents_srt hsp.2.2.2.2.2) (by omega) (chk_tel _ hid)).2.1 hth (by first | rfl | (dsimp only; omega))
     rw [← less_1 (t := t) (tm := tm) (time := time) hs0_ (by omega) (by omega) (by omega) (chk_tel _ hid)] at hz
     refine wp_seq_k fun K364 hK365 => ?_
     refine wp_region_lit ?_
     refine st_run 2 [(108, .bool (!((((aE t tm l (t + 1) time t (([(⟨3, idm id, 0, 0, 0, 0, 0, 0, 0#16⟩ : RecR)] : List RecR)) : Nat) : Int) : Int) == 0))), (107, .int .i64 (((aE t tm l (t + 1) time t (([(⟨3, idm id, 0, 0, 0, 0, 0, 0, 0#16⟩ : RecR)] : List RecR)) : Nat) : Int)))] hs .n (by kernel_rfl) (by kernel_rfl) (by kernel_rfl) ?_; clear hs a; intro a hs
     have hb_ : (!((((aE t tm l (t + 1) time t (([(⟨3, idm id, 0, 0, 0, 0, 0, 0, 0#16⟩ : RecR)] : List RecR)) : Nat) : Int) : Int) == 0)) = false := by rw [hz]; rfl
     rw [hb_] at hs; clear hb_
     refine st_run 9 [(117, .bool (false)), (116, undef), (115, undef), (114, undef), (113, undef), (112, undef), (111, undef), (110, undef), (109, .bool (false))] hs .n (by kernel_rfl) (by kernel_rfl) (by kernel_rfl) ?_; clear hs a; intro a hs
     refine wpList_nil ?_
     refine then_n (hK365 _ _ ?_)
     refine wp_cond_false (hs.ev rfl) ?_
     refine wp_skip ?_
     refine in_n ?_
     refine then_n (hK341 _ _ ?_)
     refine wp_region_lit ?_
     refine st_run 2 [(87, .int .i64 (4)), (118, .int .i64 (4))] hs .n (by kernel_rfl) (by kernel_rfl) (by kernel_rfl) ?_; clear hs a; intro a hs
     refine wpList_nil ?_
     refine then_n ?_
     refine rounds_in ?_
     refine wp_seq_k fun K366 hK367 => ?_
     refine wp_region_lit ?_
     refine st_lss hs rfl rfl rfl ?_; clear hs w a; intro a w hs
     rw [show (decide ((4 : Int) < 4)) = false from by decide] at hs
     refine wpList_nil ?_
     refine then_n (hK367 _ _ ?_)
     refine wp_seq_k fun K368 hK369 => ?_
     refine wp_cond_false (hs.ev rfl) ?_
     refine wp_exit ?_
     refine th_e ?_
     refine th_e ?_
     refine in_hit ?_
     refine then_n (hK47 _ _ ?_)
     refine wp_seq_k fun K370 hK371 => ?_
     refine wp_region_lit ?_
     refine st_callP (v := .bool (true)) hs .n Try.call10 (alive10_ok _) rfl ?_; clear hs w a; intro a w hs
     refine st_as hs rfl rfl ?_; clear hs w a; intro a w hs
     refine wpList_nil ?_
     refine then_n (hK371 _ _ ?_)
     refine wp_ret ?_
     replace hs := hs.drop (.c (.s (.s (.s (.s (.s (.s (.s (.s (.s (.s (.s (.s (.s (.s (.s (.s (.s (.s (.s (.s (.s (.s (.s .z))))))))))))))))))))))) (.c (.s (.s (.s (.s (.s (.s (.s (.s (.s (.s (.s (.s (.s (.s (.s (.s (.s (.s (.s (.s (.s (.s .z)))))))))))))))))))))) (.c (.s (.s (.s (.s (.s (.s (.s (.s (.s (.s (.s (.s (.s (.s (.s (.s (.s (.s (.s (.s (.s .z))))))))))))))))))))) (.c (.s (.s (.s (.s (.s (.s (.s (.s (.s (.s (.s (.s (.s (.s (.s (.s (.s (.s (.s (.s .z)))))))))))))))))))) (.c (.s (.s (.s (.s (.s (.s (.s (.s (.s (.s (.s (.s (.s (.s (.s (.s (.s (.s (.s .z))))))))))))))))))) (.c (.s (.s (.s (.s (.s (.s (.s (.s (.s (.s (.s (.s (.s (.s (.s (.s (.s (.s .z)))))))))))))))))) (.c (.s (.s (.s (.s (.s (.s (.s (.s (.s (.s (.s (.s (.s (.s (.s (.s (.s .z))))))))))))))))) (.c (.s (.s (.s (.s (.s (.s (.s (.s (.s (.s (.s (.s (.s (.s (.s (.s .z)))))))))))))))) (.c (.s (.s (.s (.s (.s (.s (.s (.s (.s (.s (.s (.s (.s (.s (.s .z))))))))))))))) (.c (.s (.s (.s (.s (.s (.s (.s (.s (.s (.s (.s (.s (.s (.s .z)))))))))))))) (.c (.s (.s (.s (.s (.s (.s (.s (.s (.s (.s (.s (.s (.s .z))))))))))))) (.c (.s (.s (.s (.s (.s (.s (.s (.s (.s (.s (.s (.s .z)))))))))))) (.c (.s (.s (.s (.s (.s (.s (.s (.s (.s (.s (.s .z))))))))))) (.c (.s (.s (.s (.s (.s (.s (.s (.s (.s (.s .z)))))))))) (.c (.s (.s (.s (.s (.s (.s (.s (.s (.s .z))))))))) (.c (.s (.s (.s (.s (.s (.s (.s (.s .z)))))))) (.c (.s (.s (.s (.s (.s (.s (.s .z))))))) (.c (.s (.s (.s (.s (.s (.s .z)))))) (.c (.s (.s (.s (.s (.s .z))))) (.c (.s (.s (.s (.s .z)))) (.c (.s (.s (.s .z))) (.c (.s (.s .z)) (.c (.s .z) (.c .z .n))))))))))))))))))))))))
     exact fin hs rfl rfl ⟨rfl, rfl⟩
    have hth : (eget (idm id) l).isSome = true := by simpa using (by assumption : ((eget (idm id) l).isSome == false) = false)
    have hz := (aM_one (r := (⟨2, idm id, 0, 0, 0, 0, 0, 0, 0#16⟩ : RecR)) (ents_srt hsp.2.2.2.2.2) (by omega) (chk_rem _ hid)).2.1 hth (by first | rfl | (dsimp only; omega))
    rw [← less_1 (t := t) (tm := tm) (time := time) hs0_ (by omega) (by omega) (by omega) (chk_rem _ hid)] at hz
    refine wp_seq_k fun K372 hK373 => ?_
    refine wp_region_lit ?_
    refine st_run 2 [(108, .bool (!((((aE t tm l (t + 1) time t (([(⟨2, idm id, 0, 0, 0, 0, 0, 0, 0#16⟩ : RecR)] : List RecR)) : Nat) : Int) : Int) == 0))), (107, .int .i64 (((aE t tm l (t + 1) time t (([(⟨2, idm id, 0, 0, 0, 0, 0, 0, 0#16⟩ : RecR)] : List RecR)) : Nat) : Int)))] hs .n (by kernel_rfl) (by kernel_rfl) (by kernel_rfl) ?_; clear hs a; intro a hs
    have hb_ : (!((((aE t tm l (t + 1) time t (([(⟨2, idm id, 0, 0, 0, 0, 0, 0, 0#16⟩ : RecR)] : List RecR)) : Nat) : Int) : Int) == 0)) = false := by rw [hz]; rfl
    rw [hb_] at hs; clear hb_
    refine st_run 9 [(117, .bool (false)), (116, undef), (115, undef), (114, undef), (113, undef), (112, undef), (111, undef), (110, undef), (109, .bool (false))] hs .n (by kernel_rfl) (by kernel_rfl) (by kernel_rfl) ?_; clear hs a; intro a hs
    refine wpList_nil ?_
    refine then_n (hK373 _ _ ?_)
    refine wp_cond_false (hs.ev rfl) ?_
    refine wp_skip ?_
    refine in_n ?_
    refine then_n (hK319 _ _ ?_)
    refine wp_region_lit ?_
    refine st_run 2 [(87, .int .i64 (3)), (118, .int .i64 (3))] hs .n (by kernel_rfl) (by kernel_rfl) (by kernel_rfl) ?_; clear hs a; intro a hs
    refine wpList_nil ?_
    refine then_n ?_
    refine rounds_in ?_
    refine wp_seq_k fun K374 hK375 => ?_
    refine wp_region_lit ?_
    refine st_lss hs rfl rfl rfl ?_; clear hs w a; intro a w hs
    rw [show (decide ((3 : Int) < 4)) = true from by decide] at hs
    refine wpList_nil ?_
    refine then_n (hK375 _ _ ?_)
    refine wp_seq_k fun K376 hK377 => ?_
    refine wp_cond_true (hs.ev rfl) ?_
    refine wp_skip ?_
    refine then_n (hK377 _ _ ?_)
    refine wp_seq_k fun K378 hK379 => ?_
    refine wp_block ?_
    refine wp_seq_k fun K380 hK381 => ?_
    refine wp_region_lit ?_
    refine st_ia (j := 3) hs rfl rfl (rd_blk (m := 4) (size := 9) (hs.mem.del (.s (.s (.s (.s (.s (.s (.s (.s (.s (.s (.s (.s (.s .z)))))))))))))) rfl (by decide)) (by decide) (by omega) Try.underlying25 Try.sizeOf45 rfl ?_; clear hs w a; intro a w hs
    refine st_ldA (cs := [.int .i64 (3), .int .i64 (idm id), .int .i64 (0), .int .i64 (0), .int .i64 (0), .int .i64 (0), .int .i64 (0), .int .i64 (0), .int .u16 (0)]) hs rfl (rd_blk (m := 4) (size := 9) (hs.mem.del (.s (.s (.s (.s (.s (.s (.s (.s (.s (.s (.s (.s (.s .z)))))))))))))) rfl (by decide)) (by rfl) (by simp) (by decide) Try.isAgg45 Try.sizeOf45 rfl ?_; clear hs w a; intro a w hs
    refine st_alloc (cs := [.int .i64 (0), .int .i64 (0), .int .i64 (0), .int .i64 (0), .int .i64 (0), .int .i64 (0), .int .i64 (0), .int .i64 (0), .int .u16 (0)]) hs Try.zeroValue45 rfl rfl ?_; clear hs w a; intro g382 a w hs
    refine st_stBA hs rfl rfl .z (.z (.c (.c (.c (.c (.c (.c (.c (.c (.c .n)))))))))) (ones_c rfl (ones_c rfl (ones_c rfl (ones_c rfl (ones_c rfl (ones_c rfl (ones_c rfl (ones_c rfl (ones_c rfl ones_n))))))))) Try.sizeOf45 rfl ?_; clear hs w a; intro a w hs
    refine wpList_nil ?_
    refine then_n (hK381 _ _ ?_)
    refine wp_seq_k fun K383 hK384 => ?_
    refine wp_region_lit ?_
    refine st_ldBA hs rfl .z (.z (.c (.c (.c (.c (.c (.c (.c (.c (.c .n)))))))))) Try.isAgg45 Try.sizeOf45 rfl ?_; clear hs w a; intro a w hs
    refine st_bs (cs := [.int .i64 (3), .int .i64 (idm id), .int .i64 (0), .int .i64 (0), .int .i64 (0), .int .i64 (0), .int .i64 (0), .int .i64 (0), .int .u16 (0)]) hs (.c .n) (.c rfl .n) Try.underlying25 (ie := Try.t45) rfl rfl rfl rfl (by decide) (by decide) rfl (by decide) rfl rfl rfl ?_; clear hs w a; intro g385 a w hs
    refine st_fa hs rfl Try.underlying27 rfl Try.sizeOf25 (by decide) (o := 3) rfl rfl ?_; clear hs w a; intro a w hs
    refine st_stB hs rfl rfl (.s (.s (.s (.s .z)))) (.s (.s (.s .z))) rfl Try.sizeOf25 ?_; clear hs w a; intro a w hs
    refine wpList_nil ?_
    refine then_n (hK384 _ _ ?_)
    refine wp_seq_k fun K386 hK387 => ?_
    refine wp_region_lit ?_
    refine st_run 2 [(96, .agg #[.int .i64 (t + 1), .int .i64 (time), .int .i64 (t), .slice (some ⟨g385, 0, none⟩) 1 1]), (95, .agg #[.int .i64 (t), .int .i64 (tm), u])] hs (.c (hs.mem.del (.s (.s (.s (.s (.s (.s (.s (.s (.s (.s (.s (.s (.s (.s (.s (.s (.s (.s (.s (.s (.s .z)))))))))))))))))))))) (.c (hs.mem.del .z) .n)) (by kernel_rfl) (by kernel_rfl) (by kernel_rfl) ?_; clear hs a; intro a hs
    refine st_call hs (.c rfl (.c rfl .n)) Try.call11 .n (dapply_ok t tm _ l (t + 1) time t _ (([(⟨3, idm id, 0, 0, 0, 0, 0, 0, 0#16⟩ : RecR)] : List RecR)) _ (by omega) (by omega) (by omega) (by omega) (by omega) (hs.rd0 hc) (rd_blk (m := 1) (size := 9) (hs.mem.del (.s .z)) rfl (by decide)) (one_rwf (wf_mk (by omega) (by omega) (by omega) (by omega) (by omega) (by omega) (by omega) (by omega)))) rfl ?_; clear hs w a; rintro _ _ a w ⟨v388, rfl, rfl⟩ hs; simp only [List.cons_append, List.nil_append] at hs
    have hk389 := aS_rng (at_ := t) (atm := tm) (a := l) (gt := (t + 1)) (gtm := time) (gb := t) (rl := ([(⟨3, idm id, 0, 0, 0, 0, 0, 0, 0#16⟩ : RecR)] : List RecR))
    refine st_run 3 [(99, .int .i64 (((aE t tm l (t + 1) time t (([(⟨3, idm id, 0, 0, 0, 0, 0, 0, 0#16⟩ : RecR)] : List RecR)) : Nat) : Int))), (98, .agg #[.int .i64 ((aS t tm l (t + 1) time t (([(⟨3, idm id, 0, 0, 0, 0, 0, 0, 0#16⟩ : RecR)] : List RecR))).t), .int .i64 ((aS t tm l (t + 1) time t (([(⟨3, idm id, 0, 0, 0, 0, 0, 0, 0#16⟩ : RecR)] : List RecR))).tm), v388]), (94, .tuple #[.agg #[.int .i64 ((aS t tm l (t + 1) time t (([(⟨3, idm id, 0, 0, 0, 0, 0, 0, 0#16⟩ : RecR)] : List RecR))).t), .int .i64 ((aS t tm l (t + 1) time t (([(⟨3, idm id, 0, 0, 0, 0, 0, 0, 0#16⟩ : RecR)] : List RecR))).tm), v388], .int .i64 (((aE t tm l (t + 1) time t (([(⟨3, idm id, 0, 0, 0, 0, 0, 0, 0#16⟩ : RecR)] : List RecR)) : Nat) : Int))])] hs .n (by kernel_rfl) (by kernel_rfl) (by kernel_rfl) ?_; clear hs a; intro a hs
    refine st_alloc (cs := [.int .i64 (0), .int .i64 (0), .slice none 0 0]) hs Try.zeroValue24 rfl rfl ?_; clear hs w a; intro g390 a w hs
    refine st_stBA hs rfl rfl .z (.z (.c (.c (.c .n)))) (ones_c rfl (ones_c rfl (ones_c (rd_row (hs.mem.del (.s .z))).isSl.one ones_n))) Try.sizeOf24 rfl ?_; clear hs w a; intro a w hs
    refine st_as hs rfl rfl ?_; clear hs w a; intro a w hs
    refine wpList_nil ?_
    refine then_n (hK387 _ _ ?_)
    refine wp_seq_k fun K391 hK392 => ?_
    refine wp_region_lit ?_
    refine st_run 4 [(103, .bool (false)), (102, .int .i64 (3)), (101, .pointer (some ⟨g382, 0, none⟩)), (100, .bool ((eget (idm id) l).isSome))] hs (.c (hs.mem.del (.s (.s (.s (.s .z))))) .n) (by kernel_rfl) (by kernel_rfl) (by kernel_rfl) ?_; clear hs a; intro a hs
    refine st_eqb hs rfl rfl Try.underlying4 rfl ?_; clear hs w a; intro a w hs
    refine wpList_nil ?_
    refine then_n (hK392 _ _ ?_)
    refine wp_if hs rfl (fun hc393 => ?_) (fun hc393 => ?_)
    ·
     have hth : (eget (idm id) l).isSome = false := by simpa using (by assumption : ((eget (idm id) l).isSome == false) = true)
     have hz := (aM_one (r := (⟨3, idm id, 0, 0, 0, 0, 0, 0, 0#16⟩ : RecR)) (ents_srt hsp.2.2.2.2.2) (by omega) (chk_tel _ hid)).2.2.2 hth (by first | rfl | (dsimp only; omega))
     rw [← less_1 (t := t) (tm := tm) (time := time) hs0_ (by omega) (by omega) (by omega) (chk_tel _ hid)] at hz
     refine wp_seq_k fun K394 hK395 => ?_
     refine wp_region_lit ?_
     refine st_run 2 [(106, .bool (!((((aE t tm l (t + 1) time t (([(⟨3, idm id, 0, 0, 0, 0, 0, 0, 0#16⟩ : RecR)] : List RecR)) : Nat) : Int) : Int) == 15))), (105, .int .i64 (((aE t tm l (t + 1) time t (([(⟨3, idm id, 0, 0, 0, 0, 0, 0, 0#16⟩ : RecR)] : List RecR)) : Nat) : Int)))] hs .n (by kernel_rfl) (by kernel_rfl) (by kernel_rfl) ?_; clear hs a; intro a hs
     have hb_ : (!((((aE t tm l (t + 1) time t (([(⟨3, idm id, 0, 0, 0, 0, 0, 0, 0#16⟩ : RecR)] : List RecR)) : Nat) : Int) : Int) == 15)) = false := by rw [hz]; rfl
     rw [hb_] at hs; clear hb_
     refine wpList_nil ?_
     refine then_n (hK395 _ _ ?_)
     refine wp_cond_false (hs.ev rfl) ?_
     refine wp_skip ?_
     refine in_n ?_
     refine then_n (hK379 _ _ ?_)
     refine wp_region_lit ?_
     refine st_run 2 [(87, .int .i64 (4)), (118, .int .i64 (4))] hs .n (by kernel_rfl) (by kernel_rfl) (by kernel_rfl) ?_; clear hs a; intro a hs
     refine wpList_nil ?_
     refine then_n ?_
     refine rounds_in ?_
     refine wp_seq_k fun K396 hK397 => ?_
     refine wp_region_lit ?_
     refine st_lss hs rfl rfl rfl ?_; clear hs w a; intro a w hs
     rw [show (decide ((4 : Int) < 4)) = false from by decide] at hs
     refine wpList_nil ?_
     refine then_n (hK397 _ _ ?_)
     refine wp_seq_k fun K398 hK399 => ?_
     refine wp_cond_false (hs.ev rfl) ?_
     refine wp_exit ?_
     refine th_e ?_
     refine th_e ?_
     refine in_hit ?_
     refine then_n (hK47 _ _ ?_)
     refine wp_seq_k fun K400 hK401 => ?_
     refine wp_region_lit ?_
     refine st_callP (v := .bool (true)) hs .n Try.call10 (alive10_ok _) rfl ?_; clear hs w a; intro a w hs
     refine st_as hs rfl rfl ?_; clear hs w a; intro a w hs
     refine wpList_nil ?_
     refine then_n (hK401 _ _ ?_)
     refine wp_ret ?_
     replace hs := hs.drop (.c (.s (.s (.s (.s (.s (.s (.s (.s (.s (.s (.s (.s (.s (.s (.s (.s (.s (.s (.s (.s (.s (.s (.s .z))))))))))))))))))))))) (.c (.s (.s (.s (.s (.s (.s (.s (.s (.s (.s (.s (.s (.s (.s (.s (.s (.s (.s (.s (.s (.s (.s .z)))))))))))))))))))))) (.c (.s (.s (.s (.s (.s (.s (.s (.s (.s (.s (.s (.s (.s (.s (.s (.s (.s (.s (.s (.s (.s .z))))))))))))))))))))) (.c (.s (.s (.s (.s (.s (.s (.s (.s (.s (.s (.s (.s (.s (.s (.s (.s (.s (.s (.s (.s .z)))))))))))))))))))) (.c (.s (.s (.s (.s (.s (.s (.s (.s (.s (.s (.s (.s (.s (.s (.s (.s (.s (.s (.s .z))))))))))))))))))) (.c (.s (.s (.s (.s (.s (.s (.s (.s (.s (.s (.s (.s (.s (.s (.s (.s (.s (.s .z)))))))))))))))))) (.c (.s (.s (.s (.s (.s (.s (.s (.s (.s (.s (.s (.s (.s (.s (.s (.s (.s .z))))))))))))))))) (.c (.s (.s (.s (.s (.s (.s (.s (.s (.s (.s (.s (.s (.s (.s (.s (.s .z)))))))))))))))) (.c (.s (.s (.s (.s (.s (.s (.s (.s (.s (.s (.s (.s (.s (.s (.s .z))))))))))))))) (.c (.s (.s (.s (.s (.s (.s (.s (.s (.s (.s (.s (.s (.s (.s .z)))))))))))))) (.c (.s (.s (.s (.s (.s (.s (.s (.s (.s (.s (.s (.s (.s .z))))))))))))) (.c (.s (.s (.s (.s (.s (.s (.s (.s (.s (.s (.s (.s .z)))))))))))) (.c (.s (.s (.s (.s (.s (.s (.s (.s (.s (.s (.s .z))))))))))) (.c (.s (.s (.s (.s (.s (.s (.s (.s (.s (.s .z)))))))))) (.c (.s (.s (.s (.s (.s (.s (.s (.s (.s .z))))))))) (.c (.s (.s (.s (.s (.s (.s (.s (.s .z)))))))) (.c (.s (.s (.s (.s (.s (.s (.s .z))))))) (.c (.s (.s (.s (.s (.s (.s .z)))))) (.c (.s (.s (.s (.s (.s .z))))) (.c (.s (.s (.s (.s .z)))) (.c (.s (.s (.s .z))) (.c (.s (.s .z)) (.c (.s .z) (.c .z .n))))))))))))))))))))))))
     exact fin hs rfl rfl ⟨rfl, rfl⟩
    have hth : (eget (idm id) l).isSome = true := by simpa using (by assumption : ((eget (idm id) l).isSome == false) = false)
    have hz := (aM_one (r := (⟨3, idm id, 0, 0, 0, 0, 0, 0, 0#16⟩ : RecR)) (ents_srt hsp.2.2.2.2.2) (by omega) (chk_tel _ hid)).2.1 hth (by first | rfl | (dsimp only; omega))
    rw [← less_1 (t := t) (tm := tm) (time := time) hs0_ (by omega) (by omega) (by omega) (chk_tel _ hid)] at hz
    refine wp_seq_k fun K402 hK403 => ?_
    refine wp_region_lit ?_
    refine st_run 2 [(108, .bool (!((((aE t tm l (t + 1) time t (([(⟨3, idm id, 0, 0, 0, 0, 0, 0, 0#16⟩ : RecR)] : List RecR)) : Nat) : Int) : Int) == 0))), (107, .int .i64 (((aE t tm l (t + 1) time t (([(⟨3, idm id, 0, 0, 0, 0, 0, 0, 0#16⟩ : RecR)] : List RecR)) : Nat) : Int)))] hs .n (by kernel_rfl) (by kernel_rfl) (by kernel_rfl) ?_; clear hs a; intro a hs
    have hb_ : (!((((aE t tm l (t + 1) time t (([(⟨3, idm id, 0, 0, 0, 0, 0, 0, 0#16⟩ : RecR)] : List RecR)) : Nat) : Int) : Int) == 0)) = false := by rw [hz]; rfl
    rw [hb_] at hs; clear hb_
    refine st_run 9 [(117, .bool (false)), (116, undef), (115, undef), (114, undef), (113, undef), (112, undef), (111, undef), (110, undef), (109, .bool (false))] hs .n (by kernel_rfl) (by kernel_rfl) (by kernel_rfl) ?_; clear hs a; intro a hs
    refine wpList_nil ?_
    refine then_n (hK403 _ _ ?_)
    refine wp_cond_false (hs.ev rfl) ?_
    refine wp_skip ?_
    refine in_n ?_
    refine then_n (hK379 _ _ ?_)
    refine wp_region_lit ?_
    refine st_run 2 [(87, .int .i64 (4)), (118, .int .i64 (4))] hs .n (by kernel_rfl) (by kernel_rfl) (by kernel_rfl) ?_; clear hs a; intro a hs
    refine wpList_nil ?_
    refine then_n ?_
    refine rounds_in ?_
    refine wp_seq_k fun K404 hK405 => ?_
    refine wp_region_lit ?_
    refine st_lss hs rfl rfl rfl ?_; clear hs w a; intro a w hs
    rw [show (decide ((4 : Int) < 4)) = false from by decide] at hs
    refine wpList_nil ?_
    refine then_n (hK405 _ _ ?_)
    refine wp_seq_k fun K406 hK407 => ?_
    refine wp_cond_false (hs.ev rfl) ?_
    refine wp_exit ?_
    refine th_e ?_
    refine th_e ?_
    refine in_hit ?_
    refine then_n (hK47 _ _ ?_)
    refine wp_seq_k fun K408 hK409 => ?_
    refine wp_region_lit ?_
    refine st_callP (v := .bool (true)) hs .n Try.call10 (alive10_ok _) rfl ?_; clear hs w a; intro a w hs
    refine st_as hs rfl rfl ?_; clear hs w a; intro a w hs
    refine wpList_nil ?_
    refine then_n (hK409 _ _ ?_)
    refine wp_ret ?_
    replace hs := hs.drop (.c (.s (.s (.s (.s (.s (.s (.s (.s (.s (.s (.s (.s (.s (.s (.s (.s (.s (.s (.s (.s (.s (.s (.s .z))))))))))))))))))))))) (.c (.s (.s (.s (.s (.s (.s (.s (.s (.s (.s (.s (.s (.s (.s (.s (.s (.s (.s (.s (.s (.s (.s .z)))))))))))))))))))))) (.c (.s (.s (.s (.s (.s (.s (.s (.s (.s (.s (.s (.s (.s (.s (.s (.s (.s (.s (.s (.s (.s .z))))))))))))))))))))) (.c (.s (.s (.s (.s (.s (.s (.s (.s (.s (.s (.s (.s (.s (.s (.s (.s (.s (.s (.s (.s .z)))))))))))))))))))) (.c (.s (.s (.s (.s (.s (.s (.s (.s (.s (.s (.s (.s (.s (.s (.s (.s (.s (.s (.s .z))))))))))))))))))) (.c (.s (.s (.s (.s (.s (.s (.s (.s (.s (.s (.s (.s (.s (.s (.s (.s (.s (.s .z)))))))))))))))))) (.c (.s (.s (.s (.s (.s (.s (.s (.s (.s (.s (.s (.s (.s (.s (.s (.s (.s .z))))))))))))))))) (.c (.s (.s (.s (.s (.s (.s (.s (.s (.s (.s (.s (.s (.s (.s (.s (.s .z)))))))))))))))) (.c (.s (.s (.s (.s (.s (.s (.s (.s (.s (.s (.s (.s (.s (.s (.s .z))))))))))))))) (.c (.s (.s (.s (.s (.s (.s (.s (.s (.s (.s (.s (.s (.s (.s .z)))))))))))))) (.c (.s (.s (.s (.s (.s (.s (.s (.s (.s (.s (.s (.s (.s .z))))))))))))) (.c (.s (.s (.s (.s (.s (.s (.s (.s (.s (.s (.s (.s .z)))))))))))) (.c (.s (.s (.s (.s (.s (.s (.s (.s (.s (.s (.s .z))))))))))) (.c (.s (.s (.s (.s (.s (.s (.s (.s (.s (.s .z)))))))))) (.c (.s (.s (.s (.s (.s (.s (.s (.s (.s .z))))))))) (.c (.s (.s (.s (.s (.s (.s (.s (.s .z)))))))) (.c (.s (.s (.s (.s (.s (.s (.s .z))))))) (.c (.s (.s (.s (.s (.s (.s .z)))))) (.c (.s (.s (.s (.s (.s .z))))) (.c (.s (.s (.s (.s .z)))) (.c (.s (.s (.s .z))) (.c (.s (.s .z)) (.c (.s .z) (.c .z .n))))))))))))))))))))))))
    exact fin hs rfl rfl ⟨rfl, rfl⟩
   have hth : (eget (idm id) l).isSome = true := by simpa using (by assumption : ((eget (idm id) l).isSome == false) = false)
   have hz := (aM_one (r := (⟨1, idm id, 0, 0, 0, 0, 0, 0, 1#16⟩ : RecR)) (ents_srt hsp.2.2.2.2.2) (by omega) (chk_upd _ hid)).2.1 hth (by first | rfl | (dsimp only; omega))
   rw [← less_1 (t := t) (tm := tm) (time := time) hs0_ (by omega) (by omega) (by omega) (chk_upd _ hid)] at hz
   refine wp_seq_k fun K410 hK411 => ?_
   refine wp_region_lit ?_
   refine st_run 2 [(108, .bool (!((((aE t tm l (t + 1) time t (([(⟨1, idm id, 0, 0, 0, 0, 0, 0, 1#16⟩ : RecR)] : List RecR)) : Nat) : Int) : Int) == 0))), (107, .int .i64 (((aE t tm l (t + 1) time t (([(⟨1, idm id, 0, 0, 0, 0, 0, 0, 1#16⟩ : RecR)] : List RecR)) : Nat) : Int)))] hs .n (by kernel_rfl) (by kernel_rfl) (by kernel_rfl) ?_; clear hs a; intro a hs
   have hb_ : (!((((aE t tm l (t + 1) time t (([(⟨1, idm id, 0, 0, 0, 0, 0, 0, 1#16⟩ : RecR)] : List RecR)) : Nat) : Int) : Int) == 0)) = false := by rw [hz]; rfl
   rw [hb_] at hs; clear hb_
   refine st_run 9 [(117, .bool (false)), (116, undef), (115, undef), (114, undef), (113, undef), (112, undef), (111, undef), (110, undef), (109, .bool (false))] hs .n (by kernel_rfl) (by kernel_rfl) (by kernel_rfl) ?_; clear hs a; intro a hs
   refine wpList_nil ?_
   refine then_n (hK411 _ _ ?_)
   refine wp_cond_false (hs.ev rfl) ?_
   refine wp_skip ?_
   refine in_n ?_
   refine then_n (hK297 _ _ ?_)
   refine wp_region_lit ?_
   refine st_run 2 [(87, .int .i64 (2)), (118, .int .i64 (2))] hs .n (by kernel_rfl) (by kernel_rfl) (by kernel_rfl) ?_; clear hs a; intro a hs
   refine wpList_nil ?_
   refine then_n ?_
   refine rounds_in ?_
   refine wp_seq_k fun K412 hK413 => ?_
   refine wp_region_lit ?_
   refine st_lss hs rfl rfl rfl ?_; clear hs w a; intro a w hs
   rw [show (decide ((2 : Int) < 4)) = true from by decide] at hs
   refine wpList_nil ?_
   refine then_n (hK413 _ _ ?_)
   refine wp_seq_k fun K414 hK415 => ?_
   refine wp_cond_true (hs.ev rfl) ?_
   refine wp_skip ?_
   refine then_n (hK415 _ _ ?_)
   refine wp_seq_k fun K416 hK417 => ?_
   refine wp_block ?_
   refine wp_seq_k fun K418 hK419 => ?_
   refine wp_region_lit ?_
   refine st_ia (j := 2) hs rfl rfl (rd_blk (m := 4) (size := 9) (hs.mem.del (.s (.s (.s (.s (.s (.s (.s (.s (.s .z)))))))))) rfl (by decide)) (by decide) (by omega) Try.underlying25 Try.sizeOf45 rfl ?_; clear hs w a; intro a w hs
   refine st_ldA (cs := [.int .i64 (2), .int .i64 (idm id), .int .i64 (0), .int .i64 (0), .int .i64 (0), .int .i64 (0), .int .i64 (0), .int .i64 (0), .int .u16 (0)]) hs rfl (rd_blk (m := 4) (size := 9) (hs.mem.del (.s (.s (.s (.s (.s (.s (.s (.s (.s .z)))))))))) rfl (by decide)) (by rfl) (by simp) (by decide) Try.isAgg45 Try.sizeOf45 rfl ?_; clear hs w a; intro a w hs
   refine st_alloc (cs := [.int .i64 (0), .int .i64 (0), .int .i64 (0), .int .i64 (0), .int .i64 (0), .int .i64 (0), .int .i64 (0), .int .i64 (0), .int .u16 (0)]) hs Try.zeroValue45 rfl rfl ?_; clear hs w a; intro g420 a w hs
   refine st_stBA hs rfl rfl .z (.z (.c (.c (.c (.c (.c (.c (.c (.c (.c .n)))))))))) (ones_c rfl (ones_c rfl (ones_c rfl (ones_c rfl (ones_c rfl (ones_c rfl (ones_c rfl (ones_c rfl (ones_c rfl ones_n))))))))) Try.sizeOf45 rfl ?_; clear hs w a; intro a w hs
   refine wpList_nil ?_
   refine then_n (hK419 _ _ ?_)
   refine wp_seq_k fun K421 hK422 => ?_
   refine wp_region_lit ?_
   refine st_ldBA hs rfl .z (.z (.c (.c (.c (.c (.c (.c (.c (.c (.c .n)))))))))) Try.isAgg45 Try.sizeOf45 rfl ?_; clear hs w a; intro a w hs
   refine st_bs (cs := [.int .i64 (2), .int .i64 (idm id), .int .i64 (0), .int .i64 (0), .int .i64 (0), .int .i64 (0), .int .i64 (0), .int .i64 (0), .int .u16 (0)]) hs (.c .n) (.c rfl .n) Try.underlying25 (ie := Try.t45) rfl rfl rfl rfl (by decide) (by decide) rfl (by decide) rfl rfl rfl ?_; clear hs w a; intro g423 a w hs
   refine st_fa hs rfl Try.underlying27 rfl Try.sizeOf25 (by decide) (o := 3) rfl rfl ?_; clear hs w a; intro a w hs
   refine st_stB hs rfl rfl (.s (.s (.s (.s .z)))) (.s (.s (.s .z))) rfl Try.sizeOf25 ?_; clear hs w a; intro a w hs
   refine wpList_nil ?_
   refine then_n (hK422 _ _ ?_)
   refine wp_seq_k fun K424 hK425 => ?_
   refine wp_region_lit ?_
   refine st_run 2 [(96, .agg #[.int .i64 (t + 1), .int .i64 (time), .int .i64 (t), .slice (some ⟨g423, 0, none⟩) 1 1]), (95, .agg #[.int .i64 (t), .int .i64 (tm), u])] hs (.c (hs.mem.del (.s (.s (.s (.s (.s (.s (.s (.s (.s (.s (.s (.s (.s (.s (.s (.s (.s .z)))))))))))))))))) (.c (hs.mem.del .z) .n)) (by kernel_rfl) (by kernel_rfl) (by kernel_rfl) ?_; clear hs a; intro a hs
   refine st_call hs (.c rfl (.c rfl .n)) Try.call11 .n (dapply_ok t tm _ l (t + 1) time t _ (([(⟨2, idm id, 0, 0, 0, 0, 0, 0, 0#16⟩ : RecR)] : List RecR)) _ (by omega) (by omega) (by omega) (by omega) (by omega) (hs.rd0 hc) (rd_blk (m := 1) (size := 9) (hs.mem.del (.s .z)) rfl (by decide)) (one_rwf (wf_mk (by omega) (by omega) (by omega) (by omega) (by omega) (by omega) (by omega) (by omega)))) rfl ?_; clear hs w a; rintro _ _ a w ⟨v426, rfl, rfl⟩ hs; simp only [List.cons_append, List.nil_append] at hs
   have hk427 := aS_rng (at_ := t) (atm := tm) (a := l) (gt := (t + 1)) (gtm := time) (gb := t) (rl := ([(⟨2, idm id, 0, 0, 0, 0, 0, 0, 0#16⟩ : RecR)] : List RecR))
   refine st_run 3 [(99, .int .i64 (((aE t tm l (t + 1) time t (([(⟨2, idm id, 0, 0, 0, 0, 0, 0, 0#16⟩ : RecR)] : List RecR)) : Nat) : Int))), (98, .agg #[.int .i64 ((aS t tm l (t + 1) time t (([(⟨2, idm id, 0, 0, 0, 0, 0, 0, 0#16⟩ : RecR)] : List RecR))).t), .int .i64 ((aS t tm l (t + 1) time t (([(⟨2, idm id, 0, 0, 0, 0, 0, 0, 0#16⟩ : RecR)] : List RecR))).tm), v426]), (94, .tuple #[.agg #[.int .i64 ((aS t tm l (t + 1) time t (([(⟨2, idm id, 0, 0, 0, 0, 0, 0, 0#16⟩ : RecR)] : List RecR))).t), .int .i64 ((aS t tm l (t + 1) time t (([(⟨2, idm id, 0, 0, 0, 0, 0, 0, 0#16⟩ : RecR)] : List RecR))).tm), v426], .int .i64 (((aE t tm l (t + 1) time t (([(⟨2, idm id, 0, 0, 0, 0, 0, 0, 0#16⟩ : RecR)] : List RecR)) : Nat) : Int))])] hs .n (by kernel_rfl) (by kernel_rfl) (by kernel_rfl) ?_; clear hs a; intro a hs
   refine st_alloc (cs := [.int .i64 (0), .int .i64 (0), .slice none 0 0]) hs Try.zeroValue24 rfl rfl ?_; clear hs w a; intro g428 a w hs
   refine st_stBA hs rfl rfl .z (.z (.c (.c (.c .n)))) (ones_c rfl (ones_c rfl (ones_c (rd_row (hs.mem.del (.s .z))).isSl.one ones_n))) Try.sizeOf24 rfl ?_; clear hs w a; intro a w hs
   refine st_as hs rfl rfl ?_; clear hs w a; intro a w hs
   refine wpList_nil ?_
   refine then_n (hK425 _ _ ?_)
   refine wp_seq_k fun K429 hK430 => ?_
   refine wp_region_lit ?_
   refine st_run 4 [(103, .bool (false)), (102, .int .i64 (2)), (101, .pointer (some ⟨g420, 0, none⟩)), (100, .bool ((eget (idm id) l).isSome))] hs (.c (hs.mem.del (.s (.s (.s (.s .z))))) .n) (by kernel_rfl) (by kernel_rfl) (by kernel_rfl) ?_; clear hs a; intro a hs
   refine st_eqb hs rfl rfl Try.underlying4 rfl ?_; clear hs w a; intro a w hs
   refine wpList_nil ?_
   refine then_n (hK430 _ _ ?_)
   refine wp_if hs rfl (fun hc431 => ?_) (fun hc431 => ?_)
   ·
    have hth : (eget (idm id) l).isSome = false := by simpa using (by assumption : ((eget (idm id) l).isSome == false) = true)
    have hz := (aM_one (r := (⟨2, idm id, 0, 0, 0, 0, 0, 0, 0#16⟩ : RecR)) (ents_srt hsp.2.2.2.2.2) (by omega) (chk_rem _ hid)).2.2.2 hth (by first | rfl | (dsimp only; omega))
    rw [← less_1 (t := t) (tm := tm) (time := time) hs0_ (by omega) (by omega) (by omega) (chk_rem _ hid)] at hz
    refine wp_seq_k fun K432 hK433 => ?_
    refine wp_region_lit ?_
    refine st_run 2 [(106, .bool (!((((aE t tm l (t + 1) time t (([(⟨2, idm id, 0, 0, 0, 0, 0, 0, 0#16⟩ : RecR)] : List RecR)) : Nat) : Int) : Int) == 15))), (105, .int .i64 (((aE t tm l (t + 1) time t (([(⟨2, idm id, 0, 0, 0, 0, 0, 0, 0#16⟩ : RecR)] : List RecR)) : Nat) : Int)))] hs .n (by kernel_rfl) (by kernel_rfl) (by kernel_rfl) ?_; clear hs a; intro a hs
    have hb_ : (!((((aE t tm l (t + 1) time t (([(⟨2, idm id, 0, 0, 0, 0, 0, 0, 0#16⟩ : RecR)] : List RecR)) : Nat) : Int) : Int) == 15)) = false := by rw [hz]; rfl
    rw [hb_] at hs; clear hb_
    refine wpList_nil ?_
    refine then_n (hK433 _ _ ?_)
    refine wp_cond_false (hs.ev rfl) ?_
    refine wp_skip ?_
    refine in_n ?_
    refine then_n (hK417 _ _ ?_)
    refine wp_region_lit ?_
    refine st_run 2 [(87, .int .i64 (3)), (118, .int .i64 (3))] hs .n (by kernel_rfl) (by kernel_rfl) (by kernel_rfl) ?_; clear hs a; intro a hs
    refine wpList_nil ?_
    refine then_n ?_
    refine rounds_in ?_
    refine wp_seq_k fun K434 hK435 => ?_
    refine wp_region_lit ?_
    refine st_lss hs rfl rfl rfl ?_; clear hs w a; intro a w hs
    rw [show (decide ((3 : Int) < 4)) = true from by decide] at hs
    refine wpList_nil ?_
    refine then_n (hK435 _ _ ?_)
    refine wp_seq_k fun K436 hK437 => ?_
    refine wp_cond_true (hs.ev rfl) ?_
    refine wp_skip ?_
    refine then_n (hK437 _ _ ?_)
    refine wp_seq_k fun K438 hK439 => ?_
    refine wp_block ?_
    refine wp_seq_k fun K440 hK441 => ?_
    refine wp_region_lit ?_
    refine st_ia (j := 3) hs rfl rfl (rd_blk (m := 4) (size := 9) (hs.mem.del (.s (.s (.s (.s (.s (.s (.s (.s (.s (.s (.s (.s (.s .z)))))))))))))) rfl (by decide)) (by decide) (by omega) Try.underlying25 Try.sizeOf45 rfl ?_; clear hs w a; intro a w hs
    refine st_ldA (cs := [.int .i64 (3), .int .i64 (idm id), .int .i64 (0), .int .i64 (0), .int .i64 (0), .int .i64 (0), .int .i64 (0), .int .i64 (0), .int .u16 (0)]) hs rfl (rd_blk (m := 4) (size := 9) (hs.mem.del (.s (.s (.s (.s (.s (.s (.s (.s (.s (.s (.s (.s (.s .z)))))))))))))) rfl (by decide)) (by rfl) (by simp) (by decide) Try.isAgg45 Try.sizeOf45 rfl ?_; clear hs w a; intro a w hs
    refine st_alloc (cs := [.int .i64 (0), .int .i64 (0), .int .i64 (0), .int .i64 (0), .int .i64 (0), .int .i64 (0), .int .i64 (0), .int .i64 (0), .int .u16 (0)]) hs Try.zeroValue45 rfl rfl ?_; clear hs w a; intro g442 a w hs
    refine st_stBA hs rfl rfl .z (.z (.c (.c (.c (.c (.c (.c (.c (.c (.c .n)))))))))) (ones_c rfl (ones_c rfl (ones_c rfl (ones_c rfl (ones_c rfl (ones_c rfl (ones_c rfl (ones_c rfl (ones_c rfl ones_n))))))))) Try.sizeOf45 rfl ?_; clear hs w a; intro a w hs
    refine wpList_nil ?_
    refine then_n (hK441 _ _ ?_)
    refine wp_seq_k fun K443 hK444 => ?_
    refine wp_region_lit ?_
    refine st_ldBA hs rfl .z (.z (.c (.c (.c (.c (.c (.c (.c (.c (.c .n)))))))))) Try.isAgg45 Try.sizeOf45 rfl ?_; clear hs w a; intro a w hs
    refine st_bs (cs := [.int .i64 (3), .int .i64 (idm id), .int .i64 (0), .int .i64 (0), .int .i64 (0), .int .i64 (0), .int .i64 (0), .int .i64 (0), .int .u16 (0)]) hs (.c .n) (.c rfl .n) Try.underlying25 (ie := Try.t45) rfl rfl rfl rfl (by decide) (by decide) rfl (by decide) rfl rfl rfl ?_; clear hs w a; intro g445 a w hs
    refine st_fa hs rfl Try.underlying27 rfl Try.sizeOf25 (by decide) (o := 3) rfl rfl ?_; clear hs w a; intro a w hs
    refine st_stB hs rfl rfl (.s (.s (.s (.s .z)))) (.s (.s (.s .z))) rfl Try.sizeOf25 ?_; clear hs w a; intro a w hs
    refine wpList_nil ?_
    refine then_n (hK444 _ _ ?_)
    refine wp_seq_k fun K446 hK447 => ?_
    refine wp_region_lit ?_
    refine st_run 2 [(96, .agg #[.int .i64 (t + 1), .int .i64 (time), .int .i64 (t), .slice (some ⟨g445, 0, none⟩) 1 1]), (95, .agg #[.int .i64 (t), .int .i64 (tm), u])] hs (.c (hs.mem.del (.s (.s (.s (.s (.s (.s (.s (.s (.s (.s (.s (.s (.s (.s (.s (.s (.s (.s (.s (.s (.s .z)))))))))))))))))))))) (.c (hs.mem.del .z) .n)) (by kernel_rfl) (by kernel_rfl) (by kernel_rfl) ?_; clear hs a; intro a hs
    refine st_call hs (.c rfl (.c rfl .n)) Try.call11 .n (dapply_ok t tm _ l (t + 1) time t _ (([(⟨3, idm id, 0, 0, 0, 0, 0, 0, 0#16⟩ : RecR)] : List RecR)) _ (by omega) (by omega) (by omega) (by omega) (by omega) (hs.rd0 hc) (rd_blk (m := 1) (size := 9) (hs.mem.del (.s .z)) rfl (by decide)) (one_rwf (wf_mk (by omega) (by omega) (by omega) (by omega) (by omega) (by omega) (by omega) (by omega)))) rfl ?_; clear hs w a; rintro _ _ a w ⟨v448, rfl, rfl⟩ hs; simp only [List.cons_append, List.nil_append] at hs
    have hk449 := aS_rng (at_ := t) (atm := tm) (a := l) (gt := (t + 1)) (gtm := time) (gb := t) (rl := ([(⟨3, idm id, 0, 0, 0, 0, 0, 0, 0#16⟩ : RecR)] : List RecR))
    refine st_run 3 [(99, .int .i64 (((aE t tm l (t + 1) time t (([(⟨3, idm id, 0, 0, 0, 0, 0, 0, 0#16⟩ : RecR)] : List RecR)) : Nat) : Int))), (98, .agg #[.int .i64 ((aS t tm l (t + 1) time t (([(⟨3, idm id, 0, 0, 0, 0, 0, 0, 0#16⟩ : RecR)] : List RecR))).t), .int .i64 ((aS t tm l (t + 1) time t (([(⟨3, idm id, 0, 0, 0, 0, 0, 0, 0#16⟩ : RecR)] : List RecR))).tm), v448]), (94, .tuple #[.agg #[.int .i64 ((aS t tm l (t + 1) time t (([(⟨3, idm id, 0, 0, 0, 0, 0, 0, 0#16⟩ : RecR)] : List RecR))).t), .int .i64 ((aS t tm l (t + 1) time t (([(⟨3, idm id, 0, 0, 0, 0, 0, 0, 0#16⟩ : RecR)] : List RecR))).tm), v448], .int .i64 (((aE t tm l (t + 1) time t (([(⟨3, idm id, 0, 0, 0, 0, 0, 0, 0#16⟩ : RecR)] : List RecR)) : Nat) : Int))])] hs .n (by kernel_rfl) (by kernel_rfl) (by kernel_rfl) ?_; clear hs a; intro a hs
    refine st_alloc (cs := [.int .i64 (0), .int .i64 (0), .slice none 0 0]) hs Try.zeroValue24 rfl rfl ?_; clear hs w a; intro g450 a w hs
    refine st_stBA hs rfl rfl .z (.z (.c (.c (.c .n)))) (ones_c rfl (ones_c rfl (ones_c (rd_row (hs.mem.del (.s .z))).isSl.one ones_n))) Try.sizeOf24 rfl ?_; clear hs w a; intro a w hs
    refine st_as hs rfl rfl ?_; clear hs w a; intro a w hs
    refine wpList_nil ?_
    refine then_n (hK447 _ _ ?_)
    refine wp_seq_k fun K451 hK452 => ?_
    refine wp_region_lit ?_
    refine st_run 4 [(103, .bool (false)), (102, .int .i64 (3)), (101, .pointer (some ⟨g442, 0, none⟩)), (100, .bool ((eget (idm id) l).isSome))] hs (.c (hs.mem.del (.s (.s (.s (.s .z))))) .n) (by kernel_rfl) (by kernel_rfl) (by kernel_rfl) ?_; clear hs a; intro a hs
    refine st_eqb hs rfl rfl Try.underlying4 rfl ?_; clear hs w a; intro a w hs
    refine wpList_nil ?_
    refine then_n (hK452 _ _ ?_)
    refine wp_if hs rfl (fun hc453 => ?_) (fun hc453 => ?_)
    ·
     have hth : (eget (idm id) l).isSome = false := by simpa using (by assumption : ((eget (idm id) l).isSome == false) = true)
     have hz := (aM_one (r := (⟨3, idm id, 0, 0, 0, 0, 0, 0, 0#16⟩ : RecR)) (ents_srt hsp.2.2.2.2.2) (by omega) (chk_tel _ hid)).2.2.2 hth (by first | rfl | (dsimp only; omega))
     rw [← less_1 (t := t) (tm := tm) (time := time) hs0_ (by omega) (by omega) (by omega) (chk_tel _ hid)] at hz
     refine wp_seq_k fun K454 hK455 => ?_
     refine wp_region_lit ?_
     refine st_run 2 [(106, .bool (!((((aE t tm l (t + 1) time t (([(⟨3, idm id, 0, 0, 0, 0, 0, 0, 0#16⟩ : RecR)] : List RecR)) : Nat) : Int) : Int) == 15))), (105, .int .i64 (((aE t tm l (t + 1) time t (([(⟨3, idm id, 0, 0, 0, 0, 0, 0, 0#16⟩ : RecR)] : List RecR)) : Nat) : Int)))] hs .n (by kernel_rfl) (by kernel_rfl) (by kernel_rfl) ?_; clear hs a; intro a hs
     have hb_ : (!((((aE t tm l (t + 1) time t (([(⟨3, idm id, 0, 0, 0, 0, 0, 0, 0#16⟩ : RecR)] : List RecR)) : Nat) : Int) : Int) == 15)) = false := by rw [hz]; rfl
     rw [hb_] at hs; clear hb_
     refine wpList_nil ?_
     refine then_n (hK455 _ _ ?_)
     refine wp_cond_false (hs.ev rfl) ?_
     refine wp_skip ?_
     refine in_n ?_
     refine then_n (hK439 _ _ ?_)
     refine wp_region_lit ?_
     refine st_run 2 [(87, .int .i64 (4)), (118, .int .i64 (4))] hs .n (by kernel_rfl) (by kernel_rfl) (by kernel_rfl) ?_; clear hs a; intro a hs
     refine wpList_nil ?_
     refine then_n ?_
     refine rounds_in ?_
     refine wp_seq_k fun K456 hK457 => ?_
     refine wp_region_lit ?_
     refine st_lss hs rfl rfl rfl ?_; clear hs w a; intro a w hs
     rw [show (decide ((4 : Int) < 4)) = false from by decide] at hs
     refine wpList_nil ?_
     refine then_n (hK457 _ _ ?_)
     refine wp_seq_k fun K458 hK459 => ?_
     refine wp_cond_false (hs.ev rfl) ?_
     refine wp_exit ?_
     refine th_e ?_
     refine th_e ?_
     refine in_hit ?_
     refine then_n (hK47 _ _ ?_)
     refine wp_seq_k fun K460 hK461 => ?_
     refine wp_region_lit ?_
     refine st_callP (v := .bool (true)) hs .n Try.call10 (alive10_ok _) rfl ?_; clear hs w a; intro a w hs
     refine st_as hs rfl rfl ?_; clear hs w a; intro a w hs
     refine wpList_nil ?_
     refine then_n (hK461 _ _ ?_)
     refine wp_ret ?_
     replace hs := hs.drop (.c (.s (.s (.s (.s (.s (.s (.s (.s (.s (.s (.s (.s (.s (.s (.s (.s (.s (.s (.s (.s (.s (.s (.s .z))))))))))))))))))))))) (.c (.s (.s (.s (.s (.s (.s (.s (.s (.s (.s (.s (.s (.s (.s (.s (.s (.s (.s (.s (.s (.s (.s .z)))))))))))))))))))))) (.c (.s (.s (.s (.s (.s (.s (.s (.s (.s (.s (.s (.s (.s (.s (.s (.s (.s (.s (.s (.s (.s .z))))))))))))))))))))) (.c (.s (.s (.s (.s (.s (.s (.s (.s (.s (.s (.s (.s (.s (.s (.s (.s (.s (.s (.s (.s .z)))))))))))))))))))) (.c (.s (.s (.s (.s (.s (.s (.s (.s (.s (.s (.s (.s (.s (.s (.s (.s (.s (.s (.s .z))))))))))))))))))) (.c (.s (.s (.s (.s (.s (.s (.s (.s (.s (.s (.s (.s (.s (.s (.s (.s (.s (.s .z)))))))))))))))))) (.c (.s (.s (.s (.s (.s (.s (.s (.s (.s (.s (.s (.s (.s (.s (.s (.s (.s .z))))))))))))))))) (.c (.s (.s (.s (.s (.s (.s (.s (.s (.s (.s (.s (.s (.s (.s (.s (.s .z)))))))))))))))) (.c (.s (.s (.s (.s (.s (.s (.s (.s (.s (.s (.s (.s (.s (.s (.s .z))))))))))))))) (.c (.s (.s (.s (.s (.s (.s (.s (.s (.s (.s (.s (.s (.s (.s .z)))))))))))))) (.c (.s (.s (.s (.s (.s (.s (.s (.s (.s (.s (.s (.s (.s .z))))))))))))) (.c (.s (.s (.s (.s (.s (.s (.s (.s (.s (.s (.s (.s .z)))))))))))) (.c (.s (.s (.s (.s (.s (.s (.s (.s (.s (.s (.s .z))))))))))) (.c (.s (.s (.s (.s (.s (.s (.s (.s (.s (.s .z)))))))))) (.c (.s (.s (.s (.s (.s (.s (.s (.s (.s .z))))))))) (.c (.s (.s (.s (.s (.s (.s (.s (.s .z)))))))) (.c (.s (.s (.s (.s (.s (.s (.s .z))))))) (.c (.s (.s (.s (.s (.s (.s .z)))))) (.c (.s (.s (.s (.s (.s .z))))) (.c (.s (.s (.s (.s .z)))) (.c (.s (.s (.s .z))) (.c (.s (.s .z)) (.c (.s .z) (.c .z .n))))))))))))))))))))))))
     exact fin hs rfl rfl ⟨rfl, rfl⟩
    have hth : (eget (idm id) l).isSome = true := by simpa using (by assumption : ((eget (idm id) l).isSome == false) = false)
    have hz := (aM_one (r := (⟨3, idm id, 0, 0, 0, 0, 0, 0, 0#16⟩ : RecR)) (ents_srt hsp.2.2.2.2.2) (by omega) (chk_tel _ hid)).2.1 hth (by first | rfl | (dsimp only; omega))
    rw [← less_1 (t := t) (tm := tm) (time := time) hs0_ (by omega) (by omega) (by omega) (chk_tel _ hid)] at hz
    refine wp_seq_k fun K462 hK463 => ?_
    refine wp_region_lit ?_
    refine st_run 2 [(108, .bool (!((((aE t tm l (t + 1) time t (([(⟨3, idm id, 0, 0, 0, 0, 0, 0, 0#16⟩ : RecR)] : List RecR)) : Nat) : Int) : Int) == 0))), (107, .int .i64 (((aE t tm l (t + 1) time t (([(⟨3, idm id, 0, 0, 0, 0, 0, 0, 0#16⟩ : RecR)] : List RecR)) : Nat) : Int)))] hs .n (by kernel_rfl) (by kernel_rfl) (by kernel_rfl) ?_; clear hs a; intro a hs
    have hb_ : (!((((aE t tm l (t + 1) time t (([(⟨3, idm id, 0, 0, 0, 0, 0, 0, 0#16⟩ : RecR)] : List RecR)) : Nat) : Int) : Int) == 0)) = false := by rw [hz]; rfl
    rw [hb_] at hs; clear hb_
    refine st_run 9 [(117, .bool (false)), (116, undef), (115, undef), (114, undef), (113, undef), (112, undef), (111, undef), (110, undef), (109, .bool (false))] hs .n (by kernel_rfl) (by kernel_rfl) (by kernel_rfl) ?_; clear hs a; intro a hs
    refine wpList_nil ?_
    refine then_n (hK463 _ _ ?_)
    refine wp_cond_false (hs.ev rfl) ?_
    refine wp_skip ?_
    refine in_n ?_
    refine then_n (hK439 _ _ ?_)
    refine wp_region_lit ?_
    refine st_run 2 [(87, .int .i64 (4)), (118, .int .i64 (4))] hs .n (by kernel_rfl) (by kernel_rfl) (by kernel_rfl) ?_; clear hs a; intro a hs
    refine wpList_nil ?_
    refine then_n ?_
    refine rounds_in ?_
    refine wp_seq_k fun K464 hK465 => ?_
    refine wp_region_lit ?_
    refine st_lss hs rfl rfl rfl ?_; clear hs w a; intro a w hs
    rw [show (decide ((4 : Int) < 4)) = false from by decide] at hs
    refine wpList_nil ?_
    refine then_n (hK465 _ _ ?_)
    refine wp_seq_k fun K466 hK467 => ?_
    refine wp_cond_false (hs.ev rfl) ?_
    refine wp_exit ?_
    refine th_e ?_
    refine th_e ?_
    refine in_hit ?_
    refine then_n (hK47 _ _ ?_)
    refine wp_seq_k fun K468 hK469 => ?_
    refine wp_region_lit ?_
    refine st_callP (v := .bool (true)) hs .n Try.call10 (alive10_ok _) rfl ?_; clear hs w a; intro a w hs
    refine st_as hs rfl rfl ?_; clear hs w a; intro a w hs
    refine wpList_nil ?_
    refine then_n (hK469 _ _ ?_)
    refine wp_ret ?_
    replace hs := hs.drop (.c (.s (.s (.s (.s (.s (.s (.s (.s (.s (.s (.s (.s (.s (.s (.s (.s (.s (.s (.s (.s (.s (.s (.s .z))))))))))))))))))))))) (.c (.s (.s (.s (.s (.s (.s (.s (.s (.s (.s (.s (.s (.s (.s (.s (.s (.s (.s (.s (.s (.s (.s .z)))))))))))))))))))))) (.c (.s (.s (.s (.s (.s (.s (.s (.s (.s (.s (.s (.s (.s (.s (.s (.s (.s (.s (.s (.s (.s .z))))))))))))))))))))) (.c (.s (.s (.s (.s (.s (.s (.s (.s (.s (.s (.s (.s (.s (.s (.s (.s (.s (.s (.s (.s .z)))))))))))))))))))) (.c (.s (.s (.s (.s (.s (.s (.s (.s (.s (.s (.s (.s (.s (.s (.s (.s (.s (.s (.s .z))))))))))))))))))) (.c (.s (.s (.s (.s (.s (.s (.s (.s (.s (.s (.s (.s (.s (.s (.s (.s (.s (.s .z)))))))))))))))))) (.c (.s (.s (.s (.s (.s (.s (.s (.s (.s (.s (.s (.s (.s (.s (.s (.s (.s .z))))))))))))))))) (.c (.s (.s (.s (.s (.s (.s (.s (.s (.s (.s (.s (.s (.s (.s (.s (.s .z)))))))))))))))) (.c (.s (.s (.s (.s (.s (.s (.s (.s (.s (.s (.s (.s (.s (.s (.s .z))))))))))))))) (.c (.s (.s (.s (.s (.s (.s (.s (.s (.s (.s (.s (.s (.s (.s .z)))))))))))))) (.c (.s (.s (.s (.s (.s (.s (.s (.s (.s (.s (.s (.s (.s .z))))))))))))) (.c (.s (.s (.s (.s (.s (.s (.s (.s (.s (.s (.s (.s .z)))))))))))) (.c (.s (.s (.s (.s (.s (.s (.s (.s (.s (.s (.s .z))))))))))) (.c (.s (.s (.s (.s (.s (.s (.s (.s (.s (.s .z)))))))))) (.c (.s (.s (.s (.s (.s (.s (.s (.s (.s .z))))))))) (.c (.s (.s (.s (.s (.s (.s (.s (.s .z)))))))) (.c (.s (.s (.s (.s (.s (.s (.s .z))))))) (.c (.s (.s (.s (.s (.s (.s .z)))))) (.c (.s (.s (.s (.s (.s .z))))) (.c (.s (.s (.s (.s .z)))) (.c (.s (.s (.s .z))) (.c (.s (.s .z)) (.c (.s .z) (.c .z .n))))))))))))))))))))))))
    exact fin hs rfl rfl ⟨rfl, rfl⟩
   have hth : (eget (idm id) l).isSome = true := by simpa using (by assumption : ((eget (idm id) l).isSome == false) = false)
   have hz := (aM_one (r := (⟨2, idm id, 0, 0, 0, 0, 0, 0, 0#16⟩ : RecR)) (ents_srt hsp.2.2.2.2.2) (by omega) (chk_rem _ hid)).2.1 hth (by first | rfl | (dsimp only; omega))
   rw [← less_1 (t := t) (tm := tm) (time := time) hs0_ (by omega) (by omega) (by omega) (chk_rem _ hid)] at hz
   refine wp_seq_k fun K470 hK471 => ?_
   refine wp_region_lit ?_
   refine st_run 2 [(108, .bool (!((((aE t tm l (t + 1) time t (([(⟨2, idm id, 0, 0, 0, 0, 0, 0, 0#16⟩ : RecR)] : List RecR)) : Nat) : Int) : Int) == 0))), (107, .int .i64 (((aE t tm l (t + 1) time t (([(⟨2, idm id, 0, 0, 0, 0, 0, 0, 0#16⟩ : RecR)] : List RecR)) : Nat) : Int)))] hs .n (by kernel_rfl) (by kernel_rfl) (by kernel_rfl) ?_; clear hs a; intro a hs
   have hb_ : (!((((aE t tm l (t + 1) time t (([(⟨2, idm id, 0, 0, 0, 0, 0, 0, 0#16⟩ : RecR)] : List RecR)) : Nat) : Int) : Int) == 0)) = false := by rw [hz]; rfl
   rw [hb_] at hs; clear hb_
   refine st_run 9 [(117, .bool (false)), (116, undef), (115, undef), (114, undef), (113, undef), (112, undef), (111, undef), (110, undef), (109, .bool (false))] hs .n (by kernel_rfl) (by kernel_rfl) (by kernel_rfl) ?_; clear hs a; intro a hs
   refine wpList_nil ?_
   refine then_n (hK471 _ _ ?_)
   refine wp_cond_false (hs.ev rfl) ?_
   refine wp_skip ?_
   refine in_n ?_
   refine then_n (hK417 _ _ ?_)
   refine wp_region_lit ?_
   refine st_run 2 [(87, .int .i64 (3)), (118, .int .i64 (3))] hs .n (by kernel_rfl) (by kernel_rfl) (by kernel_rfl) ?_; clear hs a; intro a hs
   refine wpList_nil ?_
   refine then_n ?_
   refine rounds_in ?_
   refine wp_seq_k fun K472 hK473 => ?_
   refine wp_region_lit ?_
   refine st_lss hs rfl rfl rfl ?_; clear hs w a; intro a w hs
   rw [show (decide ((3 : Int) < 4)) = true from by decide] at hs
   refine wpList_nil ?_
   refine then_n (hK473 _ _ ?_)
   refine wp_seq_k fun K474 hK475 => ?_
   refine wp_cond_true (hs.ev rfl) ?_
   refine wp_skip ?_
   refine then_n (hK475 _ _ ?_)
   refine wp_seq_k fun K476 hK477 => ?_
   refine wp_block ?_
   refine wp_seq_k fun K478 hK479 => ?_
   refine wp_region_lit ?_
   refine st_ia (j := 3) hs rfl rfl (rd_blk (m := 4) (size := 9) (hs.mem.del (.s (.s (.s (.s (.s (.s (.s (.s (.s (.s (.s (.s (.s .z)))))))))))))) rfl (by decide)) (by decide) (by omega) Try.underlying25 Try.sizeOf45 rfl ?_; clear hs w a; intro a w hs
   refine st_ldA (cs := [.int .i64 (3), .int .i64 (idm id), .int .i64 (0), .int .i64 (0), .int .i64 (0), .int .i64 (0), .int .i64 (0), .int .i64 (0), .int .u16 (0)]) hs rfl (rd_blk (m := 4) (size := 9) (hs.mem.del (.s (.s (.s (.s (.s (.s (.s (.s (.s (.s (.s (.s (.s .z)))))))))))))) rfl (by decide)) (by rfl) (by simp) (by decide) Try.isAgg45 Try.sizeOf45 rfl ?_; clear hs w a; intro a w hs
   refine st_alloc (cs := [.int .i64 (0), .int .i64 (0), .int .i64 (0), .int .i64 (0), .int .i64 (0), .int .i64 (0), .int .i64 (0), .int .i64 (0), .int .u16 (0)]) hs Try.zeroValue45 rfl rfl ?_; clear hs w a; intro g480 a w hs
   refine st_stBA hs rfl rfl .z (.z (.c (.c (.c (.c (.c (.c (.c (.c (.c .n)))))))))) (ones_c rfl (ones_c rfl (ones_c rfl (ones_c rfl (ones_c rfl (ones_c rfl (ones_c rfl (ones_c rfl (ones_c rfl ones_n))))))))) Try.sizeOf45 rfl ?_; clear hs w a; intro a w hs
   refine wpList_nil ?_
   refine then_n (hK479 _ _ ?_)
   refine wp_seq_k fun K481 hK482 => ?_
   refine wp_region_lit ?_
   refine st_ldBA hs rfl .z (.z (.c (.c (.c (.c (.c (.c (.c (.c (.c .n)))))))))) Try.isAgg45 Try.sizeOf45 rfl ?_; clear hs w a; intro a w hs
   refine st_bs (cs := [.int .i64 (3), .int .i64 (idm id), .int .i64 (0), .int .i64 (0), .int .i64 (0), .int .i64 (0), .int .i64 (0), .int .i64 (0), .int .u16 (0)]) hs (.c .n) (.c rfl .n) Try.underlying25 (ie := Try.t45) rfl rfl rfl rfl (by decide) (by decide) rfl (by decide) rfl rfl rfl ?_; clear hs w a; intro g483 a w hs
   refine st_fa hs rfl Try.underlying27 rfl Try.sizeOf25 (by decide) (o := 3) rfl rfl ?_; clear hs w a; intro a w hs
   refine st_stB hs rfl rfl (.s (.s (.s (.s .z)))) (.s (.s (.s .z))) rfl Try.sizeOf25 ?_; clear hs w a; intro a w hs
   refine wpList_nil ?_
   refine then_n (hK482 _ _ ?_)
   refine wp_seq_k fun K484 hK485 => ?_
   refine wp_region_lit ?_
   refine st_run 2 [(96, .agg #[.int .i64 (t + 1), .int .i64 (time), .int .i64 (t), .slice (some ⟨g483, 0, none⟩) 1 1]), (95, .agg #[.int .i64 (t), .int .i64 (tm), u])] hs (.c (hs.mem.del (.s (.s (.s (.s (.s (.s (.s (.s (.s (.s (.s (.s (.s (.s (.s (.s (.s (.s (.s (.s (.s .z)))))))))))))))))))))) (.c (hs.mem.del .z) .n)) (by kernel_rfl) (by kernel_rfl) (by kernel_rfl) ?_; clear hs a; intro a hs
   refine st_call hs (.c rfl (.c rfl .n)) Try.call11 .n (dapply_ok t tm _ l (t + 1) time t _ (([(⟨3, idm id, 0, 0, 0, 0, 0, 0, 0#16⟩ : RecR)] : List RecR)) _ (by omega) (by omega) (by omega) (by omega) (by omega) (hs.rd0 hc) (rd_blk (m := 1) (size := 9) (hs.mem.del (.s .z)) rfl (by decide)) (one_rwf (wf_mk (by omega) (by omega) (by omega) (by omega) (by omega) (by omega) (by omega) (by omega)))) rfl ?_; clear hs w a; rintro _ _ a w ⟨v486, rfl, rfl⟩ hs; simp only [List.cons_append, List.nil_append] at hs
   have hk487 := aS_rng (at_ := t) (atm := tm) (a := l) (gt := (t + 1)) (gtm := time) (gb := t) (rl := ([(⟨3, idm id, 0, 0, 0, 0, 0, 0, 0#16⟩ : RecR)] : List RecR))
   refine st_run 3 [(99, .int .i64 (((aE t tm l (t + 1) time t (([(⟨3, idm id, 0, 0, 0, 0, 0, 0, 0#16⟩ : RecR)] : List RecR)) : Nat) : Int))), (98, .agg #[.int .i64 ((aS t tm l (t + 1) time t (([(⟨3, idm id, 0, 0, 0, 0, 0, 0, 0#16⟩ : RecR)] : List RecR))).t), .int .i64 ((aS t tm l (t + 1) time t (([(⟨3, idm id, 0, 0, 0, 0, 0, 0, 0#16⟩ : RecR)] : List RecR))).tm), v486]), (94, .tuple #[.agg #[.int .i64 ((aS t tm l (t + 1) time t (([(⟨3, idm id, 0, 0, 0, 0, 0, 0, 0#16⟩ : RecR)] : List RecR))).t), .int .i64 ((aS t tm l (t + 1) time t (([(⟨3, idm id, 0, 0, 0, 0, 0, 0, 0#16⟩ : RecR)] : List RecR))).tm), v486], .int .i64 (((aE t tm l (t + 1) time t (([(⟨3, idm id, 0, 0, 0, 0, 0, 0, 0#16⟩ : RecR)] : List RecR)) : Nat) : Int))])] hs .n (by kernel_rfl) (by kernel_rfl) (by kernel_rfl) ?_; clear hs a; intro a hs
   refine st_alloc (cs := [.int .i64 (0), .int .i64 (0), .slice none 0 0]) hs Try.zeroValue24 rfl rfl ?_; clear hs w a; intro g488 a w hs
   refine st_stBA hs rfl rfl .z (.z (.c (.c (.c .n)))) (ones_c rfl (ones_c rfl (ones_c (rd_row (hs.mem.del (.s .z))).isSl.one ones_n))) Try.sizeOf24 rfl ?_; clear hs w a; intro a w hs
   refine st_as hs rfl rfl ?_; clear hs w a; intro a w hs
   refine wpList_nil ?_
   refine then_n (hK485 _ _ ?_)
   refine wp_seq_k fun K489 hK490 => ?_
   refine wp_region_lit ?_
   refine st_run 4 [(103, .bool (false)), (102, .int .i64 (3)), (101, .pointer (some ⟨g480, 0, none⟩)), (100, .bool ((eget (idm id) l).isSome))] hs (.c (hs.mem.del (.s (.s (.s (.s .z))))) .n) (by kernel_rfl) (by kernel_rfl) (by kernel_rfl) ?_; clear hs a; intro a hs
   refine st_eqb hs rfl rfl Try.underlying4 rfl ?_; clear hs w a; intro a w hs
   refine wpList_nil ?_
   refine then_n (hK490 _ _ ?_)
   refine wp_if hs rfl (fun hc491 => ?_) (fun hc491 => ?_)
   ·
    have hth : (eget (idm id) l).isSome = false := by simpa using (by assumption : ((eget (idm id) l).isSome == false) = true)
    have hz := (aM_one (r := (⟨3, idm id, 0, 0, 0, 0, 0, 0, 0#16⟩ : RecR)) (ents_srt hsp.2.2.2.2.2) (by omega) (chk_tel _ hid)).2.2.2 hth (by first | rfl | (dsimp only; omega))
    rw [← less_1 (t := t) (tm := tm) (time := time) hs0_ (by omega) (by omega) (by omega) (chk_tel _ hid)] at hz
    refine wp_seq_k fun K492 hK493 => ?_
    refine wp_region_lit ?_
    refine st_run 2 [(106, .bool (!((((aE t tm l (t + 1) time t (([(⟨3, idm id, 0, 0, 0, 0, 0, 0, 0#16⟩ : RecR)] : List RecR)) : Nat) : Int) : Int) == 15))), (105, .int .i64 (((aE t tm l (t + 1) time t (([(⟨3, idm id, 0, 0, 0, 0, 0, 0, 0#16⟩ : RecR)] : List RecR)) : Nat) : Int)))] hs .n (by kernel_rfl) (by kernel_rfl) (by kernel_rfl) ?_; clear hs a; intro a hs
    have hb_ : (!((((aE t tm l (t + 1) time t (([(⟨3, idm id, 0, 0, 0, 0, 0, 0, 0#16⟩ : RecR)] : List RecR)) : Nat) : Int) : Int) == 15)) = false := by rw [hz]; rfl
    rw [hb_] at hs; clear hb_
    refine wpList_nil ?_
    refine then_n (hK493 _ _ ?_)
    refine wp_cond_false (hs.ev rfl) ?_
    refine wp_skip ?_
    refine in_n ?_
    refine then_n (hK477 _ _ ?_)
    refine wp_region_lit ?_
    refine st_run 2 [(87, .int .i64 (4)), (118, .int .i64 (4))] hs .n (by kernel_rfl) (by kernel_rfl) (by kernel_rfl) ?_; clear hs a; intro a hs
    refine wpList_nil ?_
    refine then_n ?_
    refine rounds_in ?_
    refine wp_seq_k fun K494 hK495 => ?_
    refine wp_region_lit ?_
    refine st_lss hs rfl rfl rfl ?_; clear hs w a; intro a w hs
    rw [show (decide ((4 : Int) < 4)) = false from by decide] at hs
    refine wpList_nil ?_
    refine then_n (hK495 _ _ ?_)
    refine wp_seq_k fun K496 hK497 => ?_
    refine wp_cond_false (hs.ev rfl) ?_
    refine wp_exit ?_
    refine th_e ?_
    refine th_e ?_
    refine in_hit ?_
    refine then_n (hK47 _ _ ?_)
    refine wp_seq_k fun K498 hK499 => ?_
    refine wp_region_lit ?_
    refine st_callP (v := .bool (true)) hs .n Try.call10 (alive10_ok _) rfl ?_; clear hs w a; intro a w hs
    refine st_as hs rfl rfl ?_; clear hs w a; intro a w hs
    refine wpList_nil ?_
    refine then_n (hK499 _ _ ?_)
    refine wp_ret ?_
    replace hs := hs.drop (.c (.s (.s (.s (.s (.s (.s (.s (.s (.s (.s (.s (.s (.s (.s (.s (.s (.s (.s (.s (.s (.s (.s (.s .z))))))))))))))))))))))) (.c (.s (.s (.s (.s (.s (.s (.s (.s (.s (.s (.s (.s (.s (.s (.s (.s (.s (.s (.s (.s (.s (.s .z)))))))))))))))))))))) (.c (.s (.s (.s (.s (.s (.s (.s (.s (.s (.s (.s (.s (.s (.s (.s (.s (.s (.s (.s (.s (.s .z))))))))))))))))))))) (.c (.s (.s (.s (.s (.s (.s (.s (.s (.s (.s (.s (.s (.s (.s (.s (.s (.s (.s (.s (.s .z)))))))))))))))))))) (.c (.s (.s (.s (.s (.s (.s (.s (.s (.s (.s (.s (.s (.s (.s (.s (.s (.s (.s (.s .z))))))))))))))))))) (.c (.s (.s (.s (.s (.s (.s (.s (.s (.s (.s (.s (.s (.s (.s (.s (.s (.s (.s .z)))))))))))))))))) (.c (.s (.s (.s (.s (.s (.s (.s (.s (.s (.s (.s (.s (.s (.s (.s (.s (.s .z))))))))))))))))) (.c (.s (.s (.s (.s (.s (.s (.s (.s (.s (.s (.s (.s (.s (.s (.s (.s .z)))))))))))))))) (.c (.s (.s (.s (.s (.s (.s (.s (.s (.s (.s (.s (.s (.s (.s (.s .z))))))))))))))) (.c (.s (.s (.s (.s (.s (.s (.s (.s (.s (.s (.s (.s (.s (.s .z)))))))))))))) (.c (.s (.s (.s (.s (.s (.s (.s (.s (.s (.s (.s (.s (.s .z))))))))))))) (.c (.s (.s (.s (.s (.s (.s (.s (.s (.s (.s (.s (.s .z)))))))))))) (.c (.s (.s (.s (.s (.s (.s (.s (.s (.s (.s (.s .z))))))))))) (.c (.s (.s (.s (.s (.s (.s (.s (.s (.s (.s .z)))))))))) (.c (.s (.s (.s (.s (.s (.s (.s (.s (.s .z))))))))) (.c (.s (.s (.s (.s (.s (.s (.s (.s .z)))))))) (.c (.s (.s (.s (.s (.s (.s (.s .z))))))) (.c (.s (.s (.s (.s (.s (.s .z)))))) (.c (.s (.s (.s (.s (.s .z))))) (.c (.s (.s (.s (.s .z)))) (.c (.s (.s (.s .z))) (.c (.s (.s .z)) (.c (.s .z) (.c .z .n))))))))))))))))))))))))
    exact fin hs rfl rfl ⟨rfl, rfl⟩
   have hth : (eget (idm id) l).isSome = true := by simpa using (by assumption : ((eget (idm id) l).isSome == false) = false)
   have hz := (aM_one (r := (⟨3, idm id, 0, 0, 0, 0, 0, 0, 0#16⟩ : RecR)) (ents_srt hsp.2.2.2.2.2) (by omega) (chk_tel _ hid)).2.1 hth (by first | rfl | (dsimp only; omega))
   rw [← less_1 (t := t) (tm := tm) (time := time) hs0_ (by omega) (by omega) (by omega) (chk_tel _ hid)] at hz
   refine wp_seq_k fun K500 hK501 => ?_
   refine wp_region_lit ?_
   refine st_run 2 [(108, .bool (!((((aE t tm l (t + 1) time t (([(⟨3, idm id, 0, 0, 0, 0, 0, 0, 0#16⟩ : RecR)] : List RecR)) : Nat) : Int) : Int) == 0))), (107, .int .i64 (((aE t tm l (t + 1) time t (([(⟨3, idm id, 0, 0, 0, 0, 0, 0, 0#16⟩ : RecR)] : List RecR)) : Nat) : Int)))] hs .n (by kernel_rfl) (by kernel_rfl) (by kernel_rfl) ?_; clear hs a; intro a hs
   have hb_ : (!((((aE t tm l (t + 1) time t (([(⟨3, idm id, 0, 0, 0, 0, 0, 0, 0#16⟩ : RecR)] : List RecR)) : Nat) : Int) : Int) == 0)) = false := by rw [hz]; rfl
   rw [hb_] at hs; clear hb_
   refine st_run 9 [(117, .bool (false)), (116, undef), (115, undef), (114, undef), (113, undef), (112, undef), (111, undef), (110, undef), (109, .bool (false))] hs .n (by kernel_rfl) (by kernel_rfl) (by kernel_rfl) ?_; clear hs a; intro a hs
   refine wpList_nil ?_
   refine then_n (hK501 _ _ ?_)
   refine wp_cond_false (hs.ev rfl) ?_
   refine wp_skip ?_
   refine in_n ?_
   refine then_n (hK477 _ _ ?_)
   refine wp_region_lit ?_
   refine st_run 2 [(87, .int .i64 (4)), (118, .int .i64 (4))] hs .n (by kernel_rfl) (by kernel_rfl) (by kernel_rfl) ?_; clear hs a; intro a hs
   refine wpList_nil ?_
   refine then_n ?_
   refine rounds_in ?_
   refine wp_seq_k fun K502 hK503 => ?_
   refine wp_region_lit ?_
   refine st_lss hs rfl rfl rfl ?_; clear hs w a; intro a w hs
   rw [show (decide ((4 : Int) < 4)) = false from by decide] at hs
   refine wpList_nil ?_
   refine then_n (hK503 _ _ ?_)
   refine wp_seq_k fun K504 hK505 => ?_
   refine wp_cond_false (hs.ev rfl) ?_
   refine wp_exit ?_
   refine th_e ?_
   refine th_e ?_
   refine in_hit ?_
   refine then_n (hK47 _ _ ?_)
   refine wp_seq_k fun K506 hK507 => ?_
   refine wp_region_lit ?_
   refine st_callP (v := .bool (true)) hs .n Try.call10 (alive10_ok _) rfl ?_; clear hs w a; intro a w hs
   refine st_as hs rfl rfl ?_; clear hs w a; intro a w hs
   refine wpList_nil ?_
   refine then_n (hK507 _ _ ?_)
   refine wp_ret ?_
   replace hs := hs.drop (.c (.s (.s (.s (.s (.s (.s (.s (.s (.s (.s (.s (.s (.s (.s (.s (.s (.s (.s (.s (.s (.s (.s (.s .z))))))))))))))))))))))) (.c (.s (.s (.s (.s (.s (.s (.s (.s (.s (.s (.s (.s (.s (.s (.s (.s (.s (.s (.s (.s (.s (.s .z)))))))))))))))))))))) (.c (.s (.s (.s (.s (.s (.s (.s (.s (.s (.s (.s (.s (.s (.s (.s (.s (.s (.s (.s (.s (.s .z))))))))))))))))))))) (.c (.s (.s (.s (.s (.s (.s (.s (.s (.s (.s (.s (.s (.s (.s (.s (.s (.s (.s (.s (.s .z)))))))))))))))))))) (.c (.s (.s (.s (.s (.s (.s (.s (.s (.s (.s (.s (.s (.s (.s (.s (.s (.s (.s (.s .z))))))))))))))))))) (.c (.s (.s (.s (.s (.s (.s (.s (.s (.s (.s (.s (.s (.s (.s (.s (.s (.s (.s .z)))))))))))))))))) (.c (.s (.s (.s (.s (.s (.s (.s (.s (.s (.s (.s (.s (.s (.s (.s (.s (.s .z))))))))))))))))) (.c (.s (.s (.s (.s (.s (.s (.s (.s (.s (.s (.s (.s (.s (.s (.s (.s .z)))))))))))))))) (.c (.s (.s (.s (.s (.s (.s (.s (.s (.s (.s (.s (.s (.s (.s (.s .z))))))))))))))) (.c (.s (.s (.s (.s (.s (.s (.s (.s (.s (.s (.s (.s (.s (.s .z)))))))))))))) (.c (.s (.s (.s (.s (.s (.s (.s (.s (.s (.s (.s (.s (.s .z))))))))))))) (.c (.s (.s (.s (.s (.s (.s (.s (.s (.s (.s (.s (.s .z)))))))))))) (.c (.s (.s (.s (.s (.s (.s (.s (.s (.s (.s (.s .z))))))))))) (.c (.s (.s (.s (.s (.s (.s (.s (.s (.s (.s .z)))))))))) (.c (.s (.s (.s (.s (.s (.s (.s (.s (.s .z))))))))) (.c (.s (.s (.s (.s (.s (.s (.s (.s .z)))))))) (.c (.s (.s (.s (.s (.s (.s (.s .z))))))) (.c (.s (.s (.s (.s (.s (.s .z)))))) (.c (.s (.s (.s (.s (.s .z))))) (.c (.s (.s (.s (.s .z)))) (.c (.s (.s (.s .z))) (.c (.s (.s .z)) (.c (.s .z) (.c .z .n))))))))))))))))))))))))
   exact fin hs rfl rfl ⟨rfl, rfl⟩
  rw [hc291] at hs
  replace hc291 := not_f hc291
  replace hc291 := eq_of_beq hc291
  refine st_run 8 [(117, .bool (false)), (116, undef), (115, undef), (114, undef), (113, undef), (112, undef), (111, undef), (110, undef)] hs .n (by kernel_rfl) (by kernel_rfl) (by kernel_rfl) ?_; clear hs a; intro a hs
  refine wpList_nil ?_
  refine then_n (hK290 _ _ ?_)
  refine wp_cond_false (hs.ev rfl) ?_
  refine wp_skip ?_
  refine in_n ?_
  refine then_n (hK56 _ _ ?_)
  refine wp_region_lit ?_
  refine st_run 2 [(87, .int .i64 (1)), (118, .int .i64 (1))] hs .n (by kernel_rfl) (by kernel_rfl) (by kernel_rfl) ?_; clear hs a; intro a hs
  refine wpList_nil ?_
  refine then_n ?_
  refine rounds_in ?_
  refine wp_seq_k fun K508 hK509 => ?_
  refine wp_region_lit ?_
  refine st_lss hs rfl rfl rfl ?_; clear hs w a; intro a w hs
  rw [show (decide ((1 : Int) < 4)) = true from by decide] at hs
  refine wpList_nil ?_
  refine then_n (hK509 _ _ ?_)
  refine wp_seq_k fun K510 hK511 => ?_
  refine wp_cond_true (hs.ev rfl) ?_
  refine wp_skip ?_
  refine then_n (hK511 _ _ ?_)
  refine wp_seq_k fun K512 hK513 => ?_
  refine wp_block ?_
  refine wp_seq_k fun K514 hK515 => ?_
  refine wp_region_lit ?_
  refine st_ia (j := 1) hs rfl rfl (rd_blk (m := 4) (size := 9) (hs.mem.del (.s (.s (.s (.s (.s .z)))))) rfl (by decide)) (by decide) (by omega) Try.underlying25 Try.sizeOf45 rfl ?_; clear hs w a; intro a w hs
  refine st_ldA (cs := [.int .i64 (1), .int .i64 (idm id), .int .i64 (0), .int .i64 (0), .int .i64 (0), .int .i64 (0), .int .i64 (0), .int .i64 (0), .int .u16 (1)]) hs rfl (rd_blk (m := 4) (size := 9) (hs.mem.del (.s (.s (.s (.s (.s .z)))))) rfl (by decide)) (by rfl) (by simp) (by decide) Try.isAgg45 Try.sizeOf45 rfl ?_; clear hs w a; intro a w hs
  refine st_alloc (cs := [.int .i64 (0), .int .i64 (0), .int .i64 (0), .int .i64 (0), .int .i64 (0), .int .i64 (0), .int .i64 (0), .int .i64 (0), .int .u16 (0)]) hs Try.zeroValue45 rfl rfl ?_; clear hs w a; intro g516 a w hs
  refine st_stBA hs rfl rfl .z (.z (.c (.c (.c (.c (.c (.c (.c (.c (.c .n)))))))))) (ones_c rfl (ones_c rfl (ones_c rfl (ones_c rfl (ones_c rfl (ones_c rfl (ones_c rfl (ones_c rfl (ones_c rfl ones_n))))))))) Try.sizeOf45 rfl ?_; clear hs w a; intro a w hs
  refine wpList_nil ?_
  refine then_n (hK515 _ _ ?_)
  refine wp_seq_k fun K517 hK518 => ?_
  refine wp_region_lit ?_
  refine st_ldBA hs rfl .z (.z (.c (.c (.c (.c (.c (.c (.c (.c (.c .n)))))))))) Try.isAgg45 Try.sizeOf45 rfl ?_; clear hs w a; intro a w hs
  refine st_bs (cs := [.int .i64 (1), .int .i64 (idm id), .int .i64 (0), .int .i64 (0), .int .i64 (0), .int .i64 (0), .int .i64 (0), .int .i64 (0), .int .u16 (1)]) hs (.c .n) (.c rfl .n) Try.underlying25 (ie := Try.t45) rfl rfl rfl rfl (by decide) (by decide) rfl (by decide) rfl rfl rfl ?_; clear hs w a; intro g519 a w hs
  refine st_fa hs rfl Try.underlying27 rfl Try.sizeOf25 (by decide) (o := 3) rfl rfl ?_; clear hs w a; intro a w hs
  refine st_stB hs rfl rfl (.s (.s (.s (.s .z)))) (.s (.s (.s .z))) rfl Try.sizeOf25 ?_; clear hs w a; intro a w hs
  refine wpList_nil ?_
  refine then_n (hK518 _ _ ?_)
  refine wp_seq_k fun K520 hK521 => ?_
  refine wp_region_lit ?_
  refine st_run 2 [(96, .agg #[.int .i64 (t + 1), .int .i64 (time), .int .i64 (t), .slice (some ⟨g519, 0, none⟩) 1 1]), (95, .agg #[.int .i64 (t), .int .i64 (tm), u])] hs (.c (hs.mem.del (.s (.s (.s (.s (.s (.s (.s (.s (.s (.s (.s (.s (.s .z)))))))))))))) (.c (hs.mem.del .z) .n)) (by kernel_rfl) (by kernel_rfl) (by kernel_rfl) ?_; clear hs a; intro a hs
  refine st_call hs (.c rfl (.c rfl .n)) Try.call11 .n (dapply_ok t tm _ l (t + 1) time t _ (([(⟨1, idm id, 0, 0, 0, 0, 0, 0, 1#16⟩ : RecR)] : List RecR)) _ (by omega) (by omega) (by omega) (by omega) (by omega) (hs.rd0 hc) (rd_blk (m := 1) (size := 9) (hs.mem.del (.s .z)) rfl (by decide)) (one_rwf (wf_mk (by omega) (by omega) (by omega) (by omega) (by omega) (by omega) (by omega) (by omega)))) rfl ?_; clear hs w a; rintro _ _ a w ⟨v522, rfl, rfl⟩ hs; simp only [List.cons_append, List.nil_append] at hs
  have hk523 := aS_rng (at_ := t) (atm := tm) (a := l) (gt := (t + 1)) (gtm := time) (gb := t) (rl := ([(⟨1, idm id, 0, 0, 0, 0, 0, 0, 1#16⟩ : RecR)] : List RecR))
  refine st_run 3 [(99, .int .i64 (((aE t tm l (t + 1) time t (([(⟨1, idm id, 0, 0, 0, 0, 0, 0, 1#16⟩ : RecR)] : List RecR)) : Nat) : Int))), (98, .agg #[.int .i64 ((aS t tm l (t + 1) time t (([(⟨1, idm id, 0, 0, 0, 0, 0, 0, 1#16⟩ : RecR)] : List RecR))).t), .int .i64 ((aS t tm l (t + 1) time t (([(⟨1, idm id, 0, 0, 0, 0, 0, 0, 1#16⟩ : RecR)] : List RecR))).tm), v522]), (94, .tuple #[.agg #[.int .i64 ((aS t tm l (t + 1) time t (([(⟨1, idm id, 0, 0, 0, 0, 0, 0, 1#16⟩ : RecR)] : List RecR))).t), .int .i64 ((aS t tm l (t + 1) time t (([(⟨1, idm id, 0, 0, 0, 0, 0, 0, 1#16⟩ : RecR)] : List RecR))).tm), v522], .int .i64 (((aE t tm l (t + 1) time t (([(⟨1, idm id, 0, 0, 0, 0, 0, 0, 1#16⟩ : RecR)] : List RecR)) : Nat) : Int))])] hs .n (by kernel_rfl) (by kernel_rfl) (by kernel_rfl) ?_; clear hs a; intro a hs
  refine st_alloc (cs := [.int .i64 (0), .int .i64 (0), .slice none 0 0]) hs Try.zeroValue24 rfl rfl ?_; clear hs w a; intro g524 a w hs
  refine st_stBA hs rfl rfl .z (.z (.c (.c (.c .n)))) (ones_c rfl (ones_c rfl (ones_c (rd_row (hs.mem.del (.s .z))).isSl.one ones_n))) Try.sizeOf24 rfl ?_; clear hs w a; intro a w hs
  refine st_as hs rfl rfl ?_; clear hs w a; intro a w hs
  refine wpList_nil ?_
  refine then_n (hK521 _ _ ?_)
  refine wp_seq_k fun K525 hK526 => ?_
  refine wp_region_lit ?_
  refine st_run 4 [(103, .bool (false)), (102, .int .i64 (1)), (101, .pointer (some ⟨g516, 0, none⟩)), (100, .bool ((eget (idm id) l).isSome))] hs (.c (hs.mem.del (.s (.s (.s (.s .z))))) .n) (by kernel_rfl) (by kernel_rfl) (by kernel_rfl) ?_; clear hs a; intro a hs
  refine st_eqb hs rfl rfl Try.underlying4 rfl ?_; clear hs w a; intro a w hs
  refine wpList_nil ?_
  refine then_n (hK526 _ _ ?_)
  refine wp_if hs rfl (fun hc527 => ?_) (fun hc527 => ?_)
  ·
   have hth : (eget (idm id) l).isSome = false := by simpa using (by assumption : ((eget (idm id) l).isSome == false) = true)
   have hz := (aM_one (r := (⟨1, idm id, 0, 0, 0, 0, 0, 0, 1#16⟩ : RecR)) (ents_srt hsp.2.2.2.2.2) (by omega) (chk_upd _ hid)).2.2.2 hth (by first | rfl | (dsimp only; omega))
   rw [← less_1 (t := t) (tm := tm) (time := time) hs0_ (by omega) (by omega) (by omega) (chk_upd _ hid)] at hz
   refine wp_seq_k fun K528 hK529 => ?_
   refine wp_region_lit ?_
   refine st_run 2 [(106, .bool (!((((aE t tm l (t + 1) time t (([(⟨1, idm id, 0, 0, 0, 0, 0, 0, 1#16⟩ : RecR)] : List RecR)) : Nat) : Int) : Int) == 15))), (105, .int .i64 (((aE t tm l (t + 1) time t (([(⟨1, idm id, 0, 0, 0, 0, 0, 0, 1#16⟩ : RecR)] : List RecR)) : Nat) : Int)))] hs .n (by kernel_rfl) (by kernel_rfl) (by kernel_rfl) ?_; clear hs a; intro a hs
   have hb_ : (!((((aE t tm l (t + 1) time t (([(⟨1, idm id, 0, 0, 0, 0, 0, 0, 1#16⟩ : RecR)] : List RecR)) : Nat) : Int) : Int) == 15)) = false := by rw [hz]; rfl
   rw [hb_] at hs; clear hb_
   refine wpList_nil ?_
   refine then_n (hK529 _ _ ?_)
   refine wp_cond_false (hs.ev rfl) ?_
   refine wp_skip ?_
   refine in_n ?_
   refine then_n (hK513 _ _ ?_)
   refine wp_region_lit ?_
   refine st_run 2 [(87, .int .i64 (2)), (118, .int .i64 (2))] hs .n (by kernel_rfl) (by kernel_rfl) (by kernel_rfl) ?_; clear hs a; intro a hs
   refine wpList_nil ?_
   refine then_n ?_
   refine rounds_in ?_
   refine wp_seq_k fun K530 hK531 => ?_
   refine wp_region_lit ?_
   refine st_lss hs rfl rfl rfl ?_; clear hs w a; intro a w hs
   rw [show (decide ((2 : Int) < 4)) = true from by decide] at hs
   refine wpList_nil ?_
   refine then_n (hK531 _ _ ?_)
   refine wp_seq_k fun K532 hK533 => ?_
   refine wp_cond_true (hs.ev rfl) ?_
   refine wp_skip ?_
   refine then_n (hK533 _ _ ?_)
   refine wp_seq_k fun K534 hK535 => ?_
   refine wp_block ?_
   refine wp_seq_k fun K536 hK537 => ?_
   refine wp_region_lit ?_
   refine st_ia (j := 2) hs rfl rfl (rd_blk (m := 4) (size := 9) (hs.mem.del (.s (.s (.s (.s (.s (.s (.s (.s (.s .z)))))))))) rfl (by decide)) (by decide) (by omega) Try.underlying25 Try.sizeOf45 rfl ?_; clear hs w a; intro a w hs
   refine st_ldA (cs := [.int .i64 (2), .int .i64 (idm id), .int .i64 (0), .int .i64 (0), .int .i64 (0), .int .i64 (0), .int .i64 (0), .int .i64 (0), .int .u16 (0)]) hs rfl (rd_blk (m := 4) (size := 9) (hs.mem.del (.s (.s (.s (.s (.s (.s (.s (.s (.s .z)))))))))) rfl (by decide)) (by rfl) (by simp) (by decide) Try.isAgg45 Try.sizeOf45 rfl ?_; clear hs w a; intro a w hs
   refine st_alloc (cs := [.int .i64 (0), .int .i64 (0), .int .i64 (0), .int .i64 (0), .int .i64 (0), .int .i64 (0), .int .i64 (0), .int .i64 (0), .int .u16 (0)]) hs Try.zeroValue45 rfl rfl ?_; clear hs w a; intro g538 a w hs
   refine st_stBA hs rfl rfl .z (.z (.c (.c (.c (.c (.c (.c (.c (.c (.c .n)))))))))) (ones_c rfl (ones_c rfl (ones_c rfl (ones_c rfl (ones_c rfl (ones_c rfl (ones_c rfl (ones_c rfl (ones_c rfl ones_n))))))))) Try.sizeOf45 rfl ?_; clear hs w a; intro a w hs
   refine wpList_nil ?_
   refine then_n (hK537 _ _ ?_)
   refine wp_seq_k fun K539 hK540 => ?_
   refine wp_region_lit ?_
   refine st_ldBA hs rfl .z (.z (.c (.c (.c (.c (.c (.c (.c (.c (.c .n)))))))))) Try.isAgg45 Try.sizeOf45 rfl ?_; clear hs w a; intro a w hs
   refine st_bs (cs := [.int .i64 (2), .int .i64 (idm id), .int .i64 (0), .int .i64 (0), .int .i64 (0), .int .i64 (0), .int .i64 (0), .int .i64 (0), .int .u16 (0)]) hs (.c .n) (.c rfl .n) Try.underlying25 (ie := Try.t45) rfl rfl rfl rfl (by decide) (by decide) rfl (by decide) rfl rfl rfl ?_; clear hs w a; intro g541 a w hs
   refine st_fa hs rfl Try.underlying27 rfl Try.sizeOf25 (by decide) (o := 3) rfl rfl ?_; clear hs w a; intro a w hs
   refine st_stB hs rfl rfl (.s (.s (.s (.s .z)))) (.s (.s (.s .z))) rfl Try.sizeOf25 ?_; clear hs w a; intro a w hs
   refine wpList_nil ?_
   refine then_n (hK540 _ _ ?_)
   refine wp_seq_k fun K542 hK543 => ?_
   refine wp_region_lit ?_
   refine st_run 2 [(96, .agg #[.int .i64 (t + 1), .int .i64 (time), .int .i64 (t), .slice (some ⟨g541, 0, none⟩) 1 1]), (95, .agg #[.int .i64 (t), .int .i64 (tm), u])] hs (.c (hs.mem.del (.s (.s (.s (.s (.s (.s (.s (.s (.s (.s (.s (.s (.s (.s (.s (.s (.s .z)))))))))))))))))) (.c (hs.mem.del .z) .n)) (by kernel_rfl) (by kernel_rfl) (by kernel_rfl) ?_; clear hs a; intro a hs
   refine st_call hs (.c rfl (.c rfl .n)) Try.call11 .n (dapply_ok t tm _ l (t + 1) time t _ (([(⟨2, idm id, 0, 0, 0, 0, 0, 0, 0#16⟩ : RecR)] : List RecR)) _ (by omega) (by omega) (by omega) (by omega) (by omega) (hs.rd0 hc) (rd_blk (m := 1) (size := 9) (hs.mem.del (.s .z)) rfl (by decide)) (one_rwf (wf_mk (by omega) (by omega) (by omega) (by omega) (by omega) (by omega) (by omega) (by omega)))) rfl ?_; clear hs w a; rintro _ _ a w ⟨v544, rfl, rfl⟩ hs; simp only [List.cons_append, List.nil_append] at hs
   have hk545 := aS_rng (at_ := t) (atm := tm) (a := l) (gt := (t + 1)) (gtm := time) (gb := t) (rl := ([(⟨2, idm id, 0, 0, 0, 0, 0, 0, 0#16⟩ : RecR)] : List RecR))
   refine st_run 3 [(99, .int .i64 (((aE t tm l (t + 1) time t (([(⟨2, idm id, 0, 0, 0, 0, 0, 0, 0#16⟩ : RecR)] : List RecR)) : Nat) : Int))), (98, .agg #[.int .i64 ((aS t tm l (t + 1) time t (([(⟨2, idm id, 0, 0, 0, 0, 0, 0, 0#16⟩ : RecR)] : List RecR))).t), .int .i64 ((aS t tm l (t + 1) time t (([(⟨2, idm id, 0, 0, 0, 0, 0, 0, 0#16⟩ : RecR)] : List RecR))).tm), v544]), (94, .tuple #[.agg #[.int .i64 ((aS t tm l (t + 1) time t (([(⟨2, idm id, 0, 0, 0, 0, 0, 0, 0#16⟩ : RecR)] : List RecR))).t), .int .i64 ((aS t tm l (t + 1) time t (([(⟨2, idm id, 0, 0, 0, 0, 0, 0, 0#16⟩ : RecR)] : List RecR))).tm), v544], .int .i64 (((aE t tm l (t + 1) time t (([(⟨2, idm id, 0, 0, 0, 0, 0, 0, 0#16⟩ : RecR)] : List RecR)) : Nat) : Int))])] hs .n (by kernel_rfl) (by kernel_rfl) (by kernel_rfl) ?_; clear hs a; intro a hs
   refine st_alloc (cs := [.int .i64 (0), .int .i64 (0), .slice none 0 0]) hs Try.zeroValue24 rfl rfl ?_; clear hs w a; intro g546 a w hs
   refine st_stBA hs rfl rfl .z (.z (.c (.c (.c .n)))) (ones_c rfl (ones_c rfl (ones_c (rd_row (hs.mem.del (.s .z))).isSl.one ones_n))) Try.sizeOf24 rfl ?_; clear hs w a; intro a w hs
   refine st_as hs rfl rfl ?_; clear hs w a; intro a w hs
   refine wpList_nil ?_
   refine then_n (hK543 _ _ ?_)
   refine wp_seq_k fun K547 hK548 => ?_
   refine wp_region_lit ?_
   refine st_run 4 [(103, .bool (false)), (102, .int .i64 (2)), (101, .pointer (some ⟨g538, 0, none⟩)), (100, .bool ((eget (idm id) l).isSome))] hs (.c (hs.mem.del (.s (.s (.s (.s .z))))) .n) (by kernel_rfl) (by kernel_rfl) (by kernel_rfl) ?_; clear hs a; intro a hs
   refine st_eqb hs rfl rfl Try.underlying4 rfl ?_; clear hs w a; intro a w hs
   refine wpList_nil ?_
   refine then_n (hK548 _ _ ?_)
   refine wp_if hs rfl (fun hc549 => ?_) (fun hc549 => ?_)
   ·
    have hth : (eget (idm id) l).isSome = false := by simpa using (by assumption : ((eget (idm id) l).isSome == false) = true)
    have hz := (aM_one (r := (⟨2, idm id, 0, 0, 0, 0, 0, 0, 0#16⟩ : RecR)) (ents_srt hsp.2.2.2.2.2) (by omega) (chk_rem _ hid)).2.2.2 hth (by first | rfl | (dsimp only; omega))
    rw [← less_1 (t := t) (tm := tm) (time := time) hs0_ (by omega) (by omega) (by omega) (chk_rem _ hid)] at hz
    refine wp_seq_k fun K550 hK551 => ?_
    refine wp_region_lit ?_
    refine st_run 2 [(106, .bool (!((((aE t tm l (t + 1) time t (([(⟨2, idm id, 0, 0, 0, 0, 0, 0, 0#16⟩ : RecR)] : List RecR)) : Nat) : Int) : Int) == 15))), (105, .int .i64 (((aE t tm l (t + 1) time t (([(⟨2, idm id, 0, 0, 0, 0, 0, 0, 0#16⟩ : RecR)] : List RecR)) : Nat) : Int)))] hs .n (by kernel_rfl) (by kernel_rfl) (by kernel_rfl) ?_; clear hs a; intro a hs
    have hb_ : (!((((aE t tm l (t + 1) time t (([(⟨2, idm id, 0, 0, 0, 0, 0, 0, 0#16⟩ : RecR)] : List RecR)) : Nat) : Int) : Int) == 15)) = false := by rw [hz]; rfl
    rw [hb_] at hs; clear hb_
    refine wpList_nil ?_
    refine then_n (hK551 _ _ ?_)
    refine wp_cond_false (hs.ev rfl) ?_
    refine wp_skip ?_
    refine in_n ?_
    refine then_n (hK535 _ _ ?_)
    refine wp_region_lit ?_
    refine st_run 2 [(87, .int .i64 (3)), (118, .int .i64 (3))] hs .n (by kernel_rfl) (by kernel_rfl) (by kernel_rfl) ?_; clear hs a; intro a hs
    refine wpList_nil ?_
    refine then_n ?_
    refine rounds_in ?_
    refine wp_seq_k fun K552 hK553 => ?_
    refine wp_region_lit ?_
    refine st_lss hs rfl rfl rfl ?_; clear hs w a; intro a w hs
    rw [show (decide ((3 : Int) < 4)) = true from by decide] at hs
    refine wpList_nil ?_
    refine then_n (hK553 _ _ ?_)
    refine wp_seq_k fun K554 hK555 => ?_
    refine wp_cond_true (hs.ev rfl) ?_
    refine wp_skip ?_
    refine then_n (hK555 _ _ ?_)
    refine wp_seq_k fun K556 hK557 => ?_
    refine wp_block ?_
    refine wp_seq_k fun K558 hK559 => ?_
    refine wp_region_lit ?_
    refine st_ia (j := 3) hs rfl rfl (rd_blk (m := 4) (size := 9) (hs.mem.del (.s (.s (.s (.s (.s (.s (.s (.s (.s (.s (.s (.s (.s .z)))))))))))))) rfl (by decide)) (by decide) (by omega) Try.underlying25 Try.sizeOf45 rfl ?_; clear hs w a; intro a w hs
    refine st_ldA (cs := [.int .i64 (3), .int .i64 (idm id), .int .i64 (0), .int .i64 (0), .int .i64 (0), .int .i64 (0), .int .i64 (0), .int .i64 (0), .int .u16 (0)]) hs rfl (rd_blk (m := 4) (size := 9) (hs.mem.del (.s (.s (.s (.s (.s (.s (.s (.s (.s (.s (.s (.s (.s .z)))))))))))))) rfl (by decide)) (by rfl) (by simp) (by decide) Try.isAgg45 Try.sizeOf45 rfl ?_; clear hs w a; intro a w hs
    refine st_alloc (cs := [.int .i64 (0), .int .i64 (0), .int .i64 (0), .int .i64 (0), .int .i64 (0), .int .i64 (0), .int .i64 (0), .int .i64 (0), .int .u16 (0)]) hs Try.zeroValue45 rfl rfl ?_; clear hs w a; intro g560 a w hs
    refine st_stBA hs rfl rfl .z (.z (.c (.c (.c (.c (.c (.c (.c (.c (.c .n)))))))))) (ones_c rfl (ones_c rfl (ones_c rfl (ones_c rfl (ones_c rfl (ones_c rfl (ones_c rfl (ones_c rfl (ones_c rfl ones_n))))))))) Try.sizeOf45 rfl ?_; clear hs w a; intro a w hs
    refine wpList_nil ?_
    refine then_n (hK559 _ _ ?_)
    refine wp_seq_k fun K561 hK562 => ?_
    refine wp_region_lit ?_
    refine st_ldBA hs rfl .z (.z (.c (.c (.c (.c (.c (.c (.c (.c (.c .n)))))))))) Try.isAgg45 Try.sizeOf45 rfl ?_; clear hs w a; intro a w hs
    refine st_bs (cs := [.int .i64 (3), .int .i64 (idm id), .int .i64 (0), .int .i64 (0), .int .i64 (0), .int .i64 (0), .int .i64 (0), .int .i64 (0), .int .u16 (0)]) hs (.c .n) (.c rfl .n) Try.underlying25 (ie := Try.t45) rfl rfl rfl rfl (by decide) (by decide) rfl (by decide) rfl rfl rfl ?_; clear hs w a; intro g563 a w hs
    refine st_fa hs rfl Try.underlying27 rfl Try.sizeOf25 (by decide) (o := 3) rfl rfl ?_; clear hs w a; intro a w hs
    refine st_stB hs rfl rfl (.s (.s (.s (.s .z)))) (.s (.s (.s .z))) rfl Try.sizeOf25 ?_; clear hs w a; intro a w hs
    refine wpList_nil ?_
    refine then_n (hK562 _ _ ?_)
    refine wp_seq_k fun K564 hK565 => ?_
    refine wp_region_lit ?_
    refine st_run 2 [(96, .agg #[.int .i64 (t + 1), .int .i64 (time), .int .i64 (t), .slice (some ⟨g563, 0, none⟩) 1 1]), (95, .agg #[.int .i64 (t), .int .i64 (tm), u])] hs (.c (hs.mem.del (.s (.s (.s (.s (.s (.s (.s (.s (.s (.s (.s (.s (.s (.s (.s (.s (.s (.s (.s (.s (.s .z)))))))))))))))))))))) (.c (hs.mem.del .z) .n)) (by kernel_rfl) (by kernel_rfl) (by kernel_rfl) ?_; clear hs a; intro a hs
    refine st_call hs (.c rfl (.c rfl .n)) Try.call11 .n (dapply_ok t tm _ l (t + 1) time t _ (([(⟨3, idm id, 0, 0, 0, 0, 0, 0, 0#16⟩ : RecR)] : List RecR)) _ (by omega) (by omega) (by omega) (by omega) (by omega) (hs.rd0 hc) (rd_blk (m := 1) (size := 9) (hs.mem.del (.s .z)) rfl (by decide)) (one_rwf (wf_mk (by omega) (by omega) (by omega) (by omega) (by omega) (by omega) (by omega) (by omega)))) rfl ?_; clear hs w a; rintro _ _ a w ⟨v566, rfl, rfl⟩ hs; simp only [List.cons_append, List.nil_append] at hs
    have hk567 := aS_rng (at_ := t) (atm := tm) (a := l) (gt := (t + 1)) (gtm := time) (gb := t) (rl := ([(⟨3, idm id, 0, 0, 0, 0, 0, 0, 0#16⟩ : RecR)] : List RecR))
    refine st_run 3 [(99, .int .i64 (((aE t tm l (t + 1) time t (([(⟨3, idm id, 0, 0, 0, 0, 0, 0, 0#16⟩ : RecR)] : List RecR)) : Nat) : Int))), (98, .agg #[.int .i64 ((aS t tm l (t + 1) time t (([(⟨3, idm id, 0, 0, 0, 0, 0, 0, 0#16⟩ : RecR)] : List RecR))).t), .int .i64 ((aS t tm l (t + 1) time t (([(⟨3, idm id, 0, 0, 0, 0, 0, 0, 0#16⟩ : RecR)] : List RecR))).tm), v566]), (94, .tuple #[.agg #[.int .i64 ((aS t tm l (t + 1) time t (([(⟨3, idm id, 0, 0, 0, 0, 0, 0, 0#16⟩ : RecR)] : List RecR))).t), .int .i64 ((aS t tm l (t + 1) time t (([(⟨3, idm id, 0, 0, 0, 0, 0, 0, 0#16⟩ : RecR)] : List RecR))).tm), v566], .int .i64 (((aE t tm l (t + 1) time t (([(⟨3, idm id, 0, 0, 0, 0, 0, 0, 0#16⟩ : RecR)] : List RecR)) : Nat) : Int))])] hs .n (by kernel_rfl) (by kernel_rfl) (by kernel_rfl) ?_; clear hs a; intro a hs
    refine st_alloc (cs := [.int .i64 (0), .int .i64 (0), .slice none 0 0]) hs Try.zeroValue24 rfl rfl ?_; clear hs w a; intro g568 a w hs
    refine st_stBA hs rfl rfl .z (.z (.c (.c (.c .n)))) (ones_c rfl (ones_c rfl (ones_c (rd_row (hs.mem.del (.s .z))).isSl.one ones_n))) Try.sizeOf24 rfl ?_; clear hs w a; intro a w hs
    refine st_as hs rfl rfl ?_; clear hs w a; intro a w hs
    refine wpList_nil ?_
    refine then_n (hK565 _ _ ?_)
    refine wp_seq_k fun K569 hK570 => ?_
    refine wp_region_lit ?_
    refine st_run 4 [(103, .bool (false)), (102, .int .i64 (3)), (101, .pointer (some ⟨g560, 0, none⟩)), (100, .bool ((eget (idm id) l).isSome))] hs (.c (hs.mem.del (.s (.s (.s (.s .z))))) .n) (by kernel_rfl) (by kernel_rfl) (by kernel_rfl) ?_; clear hs a; intro a hs
    refine st_eqb hs rfl rfl Try.underlying4 rfl ?_; clear hs w a; intro a w hs
    refine wpList_nil ?_
    refine then_n (hK570 _ _ ?_)
    refine wp_if hs rfl (fun hc571 => ?_) (fun hc571 => ?_)
    ·
     have hth : (eget (idm id) l).isSome = false := by simpa using (by assumption : ((eget (idm id) l).isSome == false) = true)
     have hz := (aM_one (r := (⟨3, idm id, 0, 0, 0, 0, 0, 0, 0#16⟩ : RecR)) (ents_srt hsp.2.2.2.2.2) (by omega) (chk_tel _ hid)).2.2.2 hth (by first | rfl | (dsimp only; omega))
     rw [← less_1 (t := t) (tm := tm) (time := time) hs0_ (by omega) (by omega) (by omega) (chk_tel _ hid)] at hz
     refine wp_seq_k fun K572 hK573 => ?_
     refine wp_region_lit ?_
     refine st_run 2 [(106, .bool (!((((aE t tm l (t + 1) time t (([(⟨3, idm id, 0, 0, 0, 0, 0, 0, 0#16⟩ : RecR)] : List RecR)) : Nat) : Int) : Int) == 15))), (105, .int .i64 (((aE t tm l (t + 1) time t (([(⟨3, idm id, 0, 0, 0, 0, 0, 0, 0#16⟩ : RecR)] : List RecR)) : Nat) : Int)))] hs .n (by kernel_rfl) (by kernel_rfl) (by kernel_rfl) ?_; clear hs a; intro a hs
     have hb_ : (!((((aE t tm l (t + 1) time t (([(⟨3, idm id, 0, 0, 0, 0, 0, 0, 0#16⟩ : RecR)] : List RecR)) : Nat) : Int) : Int) == 15)) = false := by rw [hz]; rfl
     rw [hb_] at hs; clear hb_
     refine wpList_nil ?_
     refine then_n (hK573 _ _ ?_)
     refine wp_cond_false (hs.ev rfl) ?_
     refine wp_skip ?_
     refine in_n ?_
     refine then_n (hK557 _ _ ?_)
     refine wp_region_lit ?_
     refine st_run 2 [(87, .int .i64 (4)), (118, .int .i64 (4))] hs .n (by kernel_rfl) (by kernel_rfl) (by kernel_rfl) ?_; clear hs a; intro a hs
     refine wpList_nil ?_
     refine then_n ?_
     refine rounds_in ?_
     refine wp_seq_k fun K574 hK575 => ?_
     refine wp_region_lit ?_
     refine st_lss hs rfl rfl rfl ?_; clear hs w a; intro a w hs
     rw [show (decide ((4 : Int) < 4)) = false from by decide] at hs
     refine wpList_nil ?_
     refine then_n (hK575 _ _ ?_)
     refine wp_seq_k fun K576 hK577 => ?_
     refine wp_cond_false (hs.ev rfl) ?_
     refine wp_exit ?_
     refine th_e ?_
     refine th_e ?_
     refine in_hit ?_
     refine then_n (hK47 _ _ ?_)
     refine wp_seq_k fun K578 hK579 => ?_
     refine wp_region_lit ?_
     refine st_callP (v := .bool (true)) hs .n Try.call10 (alive10_ok _) rfl ?_; clear hs w a; intro a w hs
     refine st_as hs rfl rfl ?_; clear hs w a; intro a w hs
     refine wpList_nil ?_
     refine then_n (hK579 _ _ ?_)
     refine wp_ret ?_
     replace hs := hs.drop (.c (.s (.s (.s (.s (.s (.s (.s (.s (.s (.s (.s (.s (.s (.s (.s (.s (.s (.s (.s (.s (.s (.s (.s .z))))))))))))))))))))))) (.c (.s (.s (.s (.s (.s (.s (.s (.s (.s (.s (.s (.s (.s (.s (.s (.s (.s (.s (.s (.s (.s (.s .z)))))))))))))))))))))) (.c (.s (.s (.s (.s (.s (.s (.s (.s (.s (.s (.s (.s (.s (.s (.s (.s (.s (.s (.s (.s (.s .z))))))))))))))))))))) (.c (.s (.s (.s (.s (.s (.s (.s (.s (.s (.s (.s (.s (.s (.s (.s (.s (.s (.s (.s (.s .z)))))))))))))))))))) (.c (.s (.s (.s (.s (.s (.s (.s (.s (.s (.s (.s (.s (.s (.s (.s (.s (.s (.s (.s .z))))))))))))))))))) (.c (.s (.s (.s (.s (.s (.s (.s (.s (.s (.s (.s (.s (.s (.s (.s (.s (.s (.s .z)))))))))))))))))) (.c (.s (.s (.s (.s (.s (.s (.s (.s (.s (.s (.s (.s (.s (.s (.s (.s (.s .z))))))))))))))))) (.c (.s (.s (.s (.s (.s (.s (.s (.s (.s (.s (.s (.s (.s (.s (.s (.s .z)))))))))))))))) (.c (.s (.s (.s (.s (.s (.s (.s (.s (.s (.s (.s (.s (.s (.s (.s .z))))))))))))))) (.c (.s (.s (.s (.s (.s (.s (.s (.s (.s (.s (.s (.s (.s (.s .z)))))))))))))) (.c (.s (.s (.s (.s (.s (.s (.s (.s (.s (.s (.s (.s (.s .z))))))))))))) (.c (.s (.s (.s (.s (.s (.s (.s (.s (.s (.s (.s (.s .z)))))))))))) (.c (.s (.s (.s (.s (.s (.s (.s (.s (.s (.s (.s .z))))))))))) (.c (.s (.s (.s (.s (.s (.s (.s (.s (.s (.s .z)))))))))) (.c (.s (.s (.s (.s (.s (.s (.s (.s (.s .z))))))))) (.c (.s (.s (.s (.s (.s (.s (.s (.s .z)))))))) (.c (.s (.s (.s (.s (.s (.s (.s .z))))))) (.c (.s (.s (.s (.s (.s (.s .z)))))) (.c (.s (.s (.s (.s (.s .z))))) (.c (.s (.s (.s (.s .z)))) (.c (.s (.s (.s .z))) (.c (.s (.s .z)) (.c (.s .z) (.c .z .n))))))))))))))))))))))))
     exact fin hs rfl rfl ⟨rfl, rfl⟩
    have hth : (eget (idm id) l).isSome = true := by simpa using (by assumption : ((eget (idm id) l).isSome == false) = false)
    have hz := (aM_one (r := (⟨3, idm id, 0, 0, 0, 0, 0, 0, 0#16⟩ : RecR)) (ents_srt hsp.2.2.2.2.2) (by omega) (chk_tel _ hid)).2.1 hth (by first | rfl | (dsimp only; omega))
    rw [← less_1 (t := t) (tm := tm) (time := time) hs0_ (by omega) (by omega) (by omega) (chk_tel _ hid)] at hz
    refine wp_seq_k fun K580 hK581 => ?_
    refine wp_region_lit ?_
    refine st_run 2 [(108, .bool (!((((aE t tm l (t + 1) time t (([(⟨3, idm id, 0, 0, 0, 0, 0, 0, 0#16⟩ : RecR)] : List RecR)) : Nat) : Int) : Int) == 0))), (107, .int .i64 (((aE t tm l (t + 1) time t (([(⟨3, idm id, 0, 0, 0, 0, 0, 0, 0#16⟩ : RecR)] : List RecR)) : Nat) : Int)))] hs .n (by kernel_rfl) (by kernel_rfl) (by kernel_rfl) ?_; clear hs a; intro a hs
    have hb_ : (!((((aE t tm l (t + 1) time t (([(⟨3, idm id, 0, 0, 0, 0, 0, 0, 0#16⟩ : RecR)] : List RecR)) : Nat) : Int) : Int) == 0)) = false := by rw [hz]; rfl
    rw [hb_] at hs; clear hb_
    refine st_run 9 [(117, .bool (false)), (116, undef), (115, undef), (114, undef), (113, undef), (112, undef), (111, undef), (110, undef), (109, .bool (false))] hs .n (by kernel_rfl) (by kernel_rfl) (by kernel_rfl) ?_; clear hs a; intro a hs
    refine wpList_nil ?_
    refine then_n (hK581 _ _ ?_)
    refine wp_cond_false (hs.ev rfl) ?_
    refine wp_skip ?_
    refine in_n ?_
    refine then_n (hK557 _ _ ?_)
    refine wp_region_lit ?_
    refine st_run 2 [(87, .int .i64 (4)), (118, .int .i64 (4))] hs .n (by kernel_rfl) (by kernel_rfl) (by kernel_rfl) ?_; clear hs a; intro a hs
    refine wpList_nil ?_
    refine then_n ?_
    refine rounds_in ?_
    refine wp_seq_k fun K582 hK583 => ?_
    refine wp_region_lit ?_
    refine st_lss hs rfl rfl rfl ?_; clear hs w a; intro a w hs
    rw [show (decide ((4 : Int) < 4)) = false from by decide] at hs
    refine wpList_nil ?_
    refine then_n (hK583 _ _ ?_)
    refine wp_seq_k fun K584 hK585 => ?_
    refine wp_cond_false (hs.ev rfl) ?_
    refine wp_exit ?_
    refine th_e ?_
    refine th_e ?_
    refine in_hit ?_
    refine then_n (hK47 _ _ ?_)
    refine wp_seq_k fun K586 hK587 => ?_
    refine wp_region_lit ?_
    refine st_callP (v := .bool (true)) hs .n Try.call10 (alive10_ok _) rfl ?_; clear hs w a; intro a w hs
    refine st_as hs rfl rfl ?_; clear hs w a; intro a w hs
    refine wpList_nil ?_
    refine then_n (hK587 _ _ ?_)
    refine wp_ret ?_
    replace hs := hs.drop (.c (.s (.s (.s (.s (.s (.s (.s (.s (.s (.s (.s (.s (.s (.s (.s (.s (.s (.s (.s (.s (.s (.s (.s .z))))))))))))))))))))))) (.c (.s (.s (.s (.s (.s (.s (.s (.s (.s (.s (.s (.s (.s (.s (.s (.s (.s (.s (.s (.s (.s (.s .z)))))))))))))))))))))) (.c (.s (.s (.s (.s (.s (.s (.s (.s (.s (.s (.s (.s (.s (.s (.s (.s (.s (.s (.s (.s (.s .z))))))))))))))))))))) (.c (.s (.s (.s (.s (.s (.s (.s (.s (.s (.s (.s (.s (.s (.s (.s (.s (.s (.s (.s (.s .z)))))))))))))))))))) (.c (.s (.s (.s (.s (.s (.s (.s (.s (.s (.s (.s (.s (.s (.s (.s (.s (.s (.s (.s .z))))))))))))))))))) (.c (.s (.s (.s (.s (.s (.s (.s (.s (.s (.s (.s (.s (.s (.s (.s (.s (.s (.s .z)))))))))))))))))) (.c (.s (.s (.s (.s (.s (.s (.s (.s (.s (.s (.s (.s (.s (.s (.s (.s (.s .z))))))))))))))))) (.c (.s (.s (.s (.s (.s (.s (.s (.s (.s (.s (.s (.s (.s (.s (.s (.s .z)))))))))))))))) (.c (.s (.s (.s (.s (.s (.s (.s (.s (.s (.s (.s (.s (.s (.s (.s .z))))))))))))))) (.c (.s (.s (.s (.s (.s (.s (.s (.s (.s (.s (.s (.s (.s (.s .z)))))))))))))) (.c (.s (.s (.s (.s (.s (.s (.s (.s (.s (.s (.s (.s (.s .z))))))))))))) (.c (.s (.s (.s (.s (.s (.s (.s (.s (.s (.s (.s (.s .z)))))))))))) (.c (.s (.s (.s (.s (.s (.s (.s (.s (.s (.s (.s .z))))))))))) (.c (.s (.s (.s (.s (.s (.s (.s (.s (.s (.s .z)))))))))) (.c (.s (.s (.s (.s (.s (.s (.s (.s (.s .z))))))))) (.c (.s (.s (.s (.s (.s (.s (.s (.s .z)))))))) (.c (.s (.s (.s (.s (.s (.s (.s .z))))))) (.c (.s (.s (.s (.s (.s (.s .z)))))) (.c (.s (.s (.s (.s (.s .z))))) (.c (.s (.s (.s (.s .z)))) (.c (.s (.s (.s .z))) (.c (.s (.s .z)) (.c (.s .z) (.c .z .n))))))))))))))))))))))))
    exact fin hs rfl rfl ⟨rfl, rfl⟩
   have hth : (eget (idm id) l).isSome = true := by simpa using (by assumption : ((eget (idm id) l).isSome == false) = false)
   have hz := (aM_one (r := (⟨2, idm id, 0, 0, 0, 0, 0, 0, 0#16⟩ : RecR)) (ents_srt hsp.2.2.2.2.2) (by omega) (chk_rem _ hid)).2.1 hth (by first | rfl | (dsimp only; omega))
   rw [← less_1 (t := t) (tm := tm) (time := time) hs0_ (by omega) (by omega) (by omega) (chk_rem _ hid)] at hz
   refine wp_seq_k fun K588 hK589 => ?_
   refine wp_region_lit ?_
   refine st_run 2 [(108, .bool (!((((aE t tm l (t + 1) time t (([(⟨2, idm id, 0, 0, 0, 0, 0, 0, 0#16⟩ : RecR)] : List RecR)) : Nat) : Int) : Int) == 0))), (107, .int .i64 (((aE t tm l (t + 1) time t (([(⟨2, idm id, 0, 0, 0, 0, 0, 0, 0#16⟩ : RecR)] : List RecR)) : Nat) : Int)))] hs .n (by kernel_rfl) (by kernel_rfl) (by kernel_rfl) ?_; clear hs a; intro a hs
   have hb_ : (!((((aE t tm l (t + 1) time t (([(⟨2, idm id, 0, 0, 0, 0, 0, 0, 0#16⟩ : RecR)] : List RecR)) : Nat) : Int) : Int) == 0)) = false := by rw [hz]; rfl
   rw [hb_] at hs; clear hb_
   refine st_run 9 [(117, .bool (false)), (116, undef), (115, undef), (114, undef), (113, undef), (112, undef), (111, undef), (110, undef), (109, .bool (false))] hs .n (by kernel_rfl) (by kernel_rfl) (by kernel_rfl) ?_; clear hs a; intro a hs
   refine wpList_nil ?_
   refine then_n (hK589 _ _ ?_)
   refine wp_cond_false (hs.ev rfl) ?_
   refine wp_skip ?_
   refine in_n ?_
   refine then_n (hK535 _ _ ?_)
   refine wp_region_lit ?_
   refine st_run 2 [(87, .int .i64 (3)), (118, .int .i64 (3))] hs .n (by kernel_rfl) (by kernel_rfl) (by kernel_rfl) ?_; clear hs a; intro a hs
   refine wpList_nil ?_
   refine then_n ?_
   refine rounds_in ?_
   refine wp_seq_k fun K590 hK591 => ?_
   refine wp_region_lit ?_
   refine st_lss hs rfl rfl rfl ?_; clear hs w a; intro a w hs
   rw [show (decide ((3 : Int) < 4)) = true from by decide] at hs
   refine wpList_nil ?_
   refine then_n (hK591 _ _ ?_)
   refine wp_seq_k fun K592 hK593 => ?_
   refine wp_cond_true (hs.ev rfl) ?_
   refine wp_skip ?_
   refine then_n (hK593 _ _ ?_)
   refine wp_seq_k fun K594 hK595 => ?_
   refine wp_block ?_
   refine wp_seq_k fun K596 hK597 => ?_
   refine wp_region_lit ?_
   refine st_ia (j := 3) hs rfl rfl (rd_blk (m := 4) (size := 9) (hs.mem.del (.s (.s (.s (.s (.s (.s (.s (.s (.s (.s (.s (.s (.s .z)))))))))))))) rfl (by decide)) (by decide) (by omega) Try.underlying25 Try.sizeOf45 rfl ?_; clear hs w a; intro a w hs
   refine st_ldA (cs := [.int .i64 (3), .int .i64 (idm id), .int .i64 (0), .int .i64 (0), .int .i64 (0), .int .i64 (0), .int .i64 (0), .int .i64 (0), .int .u16 (0)]) hs rfl (rd_blk (m := 4) (size := 9) (hs.mem.del (.s (.s (.s (.s (.s (.s (.s (.s (.s (.s (.s (.s (.s .z)))))))))))))) rfl (by decide)) (by rfl) (by simp) (by decide) Try.isAgg45 Try.sizeOf45 rfl ?_; clear hs w a; intro a w hs
   refine st_alloc (cs := [.int .i64 (0), .int .i64 (0), .int .i64 (0), .int .i64 (0), .int .i64 (0), .int .i64 (0), .int .i64 (0), .int .i64 (0), .int .u16 (0)]) hs Try.zeroValue45 rfl rfl ?_; clear hs w a; intro g598 a w hs
   refine st_stBA hs rfl rfl .z (.z (.c (.c (.c (.c (.c (.c (.c (.c (.c .n)))))))))) (ones_c rfl (ones_c rfl (ones_c rfl (ones_c rfl (ones_c rfl (ones_c rfl (ones_c rfl (ones_c rfl (ones_c rfl ones_n))))))))) Try.sizeOf45 rfl ?_; clear hs w a; intro a w hs
   refine wpList_nil ?_
   refine then_n (hK597 _ _ ?_)
   refine wp_seq_k fun K599 hK600 => ?_
   refine wp_region_lit ?_
   refine st_ldBA hs rfl .z (.z (.c (.c (.c (.c (.c (.c (.c (.c (.c .n)))))))))) Try.isAgg45 Try.sizeOf45 rfl ?_; clear hs w a; intro a w hs
   refine st_bs (cs := [.int .i64 (3), .int .i64 (idm id), .int .i64 (0), .int .i64 (0), .int .i64 (0), .int .i64 (0), .int .i64 (0), .int .i64 (0), .int .u16 (0)]) hs (.c .n) (.c rfl .n) Try.underlying25 (ie := Try.t45) rfl rfl rfl rfl (by decide) (by decide) rfl (by decide) rfl rfl rfl ?_; clear hs w a; intro g601 a w hs
   refine st_fa hs rfl Try.underlying27 rfl Try.sizeOf25 (by decide) (o := 3) rfl rfl ?_; clear hs w a; intro a w hs
   refine st_stB hs rfl rfl (.s (.s (.s (.s .z)))) (.s (.s (.s .z))) rfl Try.sizeOf25 ?_; clear hs w a; intro a w hs
   refine wpList_nil ?_
   refine then_n (hK600 _ _ ?_)
   refine wp_seq_k fun K602 hK603 => ?_
   refine wp_region_lit ?_
   refine st_run 2 [(96, .agg #[.int .i64 (t + 1), .int .i64 (time), .int .i64 (t), .slice (some ⟨g601, 0, none⟩) 1 1]), (95, .agg #[.int .i64 (t), .int .i64 (tm), u])] hs (.c (hs.mem.del (.s (.s (.s (.s (.s (.s (.s (.s (.s (.s (.s (.s (.s (.s (.s (.s (.s (.s (.s (.s (.s .z)))))))))))))))))))))) (.c (hs.mem.del .z) .n)) (by kernel_rfl) (by kernel_rfl) (by kernel_rfl) ?_; clear hs a; intro a hs
   refine st_call hs (.c rfl (.c rfl .n)) Try.call11 .n (dapply_ok t tm _ l (t + 1) time t _ (([(⟨3, idm id, 0, 0, 0, 0, 0, 0, 0#16⟩ : RecR)] : List RecR)) _ (by omega) (by omega) (by omega) (by omega) (by omega) (hs.rd0 hc) (rd_blk (m := 1) (size := 9) (hs.mem.del (.s .z)) rfl (by decide)) (one_rwf (wf_mk (by omega) (by omega) (by omega) (by omega) (by omega) (by omega) (by omega) (by omega)))) rfl ?_; clear hs w a; rintro _ _ a w ⟨v604, rfl, rfl⟩ hs; simp only [List.cons_append, List.nil_append] at hs
   have hk605 := aS_rng (at_ := t) (atm := tm) (a := l) (gt := (t + 1)) (gtm := time) (gb := t) (rl := ([(⟨3, idm id, 0, 0, 0, 0, 0, 0, 0#16⟩ : RecR)] : List RecR))
   refine st_run 3 [(99, .int .i64 (((aE t tm l (t + 1) time t (([(⟨3, idm id, 0, 0, 0, 0, 0, 0, 0#16⟩ : RecR)] : List RecR)) : Nat) : Int))), (98, .agg #[.int .i64 ((aS t tm l (t + 1) time t (([(⟨3, idm id, 0, 0, 0, 0, 0, 0, 0#16⟩ : RecR)] : List RecR))).t), .int .i64 ((aS t tm l (t + 1) time t (([(⟨3, idm id, 0, 0, 0, 0, 0, 0, 0#16⟩ : RecR)] : List RecR))).tm), v604]), (94, .tuple #[.agg #[.int .i64 ((aS t tm l (t + 1) time t (([(⟨3, idm id, 0, 0, 0, 0, 0, 0, 0#16⟩ : RecR)] : List RecR))).t), .int .i64 ((aS t tm l (t + 1) time t (([(⟨3, idm id, 0, 0, 0, 0, 0, 0, 0#16⟩ : RecR)] : List RecR))).tm), v604], .int .i64 (((aE t tm l (t + 1) time t (([(⟨3, idm id, 0, 0, 0, 0, 0, 0, 0#16⟩ : RecR)] : List RecR)) : Nat) : Int))])] hs .n (by kernel_rfl) (by kernel_rfl) (by kernel_rfl) ?_; clear hs a; intro a hs
   refine st_alloc (cs := [.int .i64 (0), .int .i64 (0), .slice none 0 0]) hs Try.zeroValue24 rfl rfl ?_; clear hs w a; intro g606 a w hs
   refine st_stBA hs rfl rfl .z (.z (.c (.c (.c .n)))) (ones_c rfl (ones_c rfl (ones_c (rd_row (hs.mem.del (.s .z))).isSl.one ones_n))) Try.sizeOf24 rfl ?_; clear hs w a; intro a w hs
   refine st_as hs rfl rfl ?_; clear hs w a; intro a w hs
   refine wpList_nil ?_
   refine then_n (hK603 _ _ ?_)
   refine wp_seq_k fun K607 hK608 => ?_
   refine wp_region_lit ?_
   refine st_run 4 [(103, .bool (false)), (102, .int .i64 (3)), (101, .pointer (some ⟨g598, 0, none⟩)), (100, .bool ((eget (idm id) l).isSome))] hs (.c (hs.mem.del (.s (.s (.s (.s .z))))) .n) (by kernel_rfl) (by kernel_rfl) (by kernel_rfl) ?_; clear hs a; intro a hs
   refine st_eqb hs rfl rfl Try.underlying4 rfl ?_; clear hs w a; intro a w hs
   refine wpList_nil ?_
   refine then_n (hK608 _ _ ?_)
   refine wp_if hs rfl (fun hc609 => ?_) (fun hc609 => ?_)
   ·
    have hth : (eget (idm id) l).isSome = false := by simpa using (by assumption : ((eget (idm id) l).isSome == false) = true)
    have hz := (aM_one (r := (⟨3, idm id, 0, 0, 0, 0, 0, 0, 0#16⟩ : RecR)) (ents_srt hsp.2.2.2.2.2) (by omega) (chk_tel _ hid)).2.2.2 hth (by first | rfl | (dsimp only; omega))
    rw [← less_1 (t := t) (tm := tm) (time := time) hs0_ (by omega) (by omega) (by omega) (chk_tel _ hid)] at hz
    refine wp_seq_k fun K610 hK611 => ?_
    refine wp_region_lit ?_
    refine st_run 2 [(106, .bool (!((((aE t tm l (t + 1) time t (([(⟨3, idm id, 0, 0, 0, 0, 0, 0, 0#16⟩ : RecR)] : List RecR)) : Nat) : Int) : Int) == 15))), (105, .int .i64 (((aE t tm l (t + 1) time t (([(⟨3, idm id, 0, 0, 0, 0, 0, 0, 0#16⟩ : RecR)] : List RecR)) : Nat) : Int)))] hs .n (by kernel_rfl) (by kernel_rfl) (by kernel_rfl) ?_; clear hs a; intro a hs
    have hb_ : (!((((aE t tm l (t + 1) time t (([(⟨3, idm id, 0, 0, 0, 0, 0, 0, 0#16⟩ : RecR)] : List RecR)) : Nat) : Int) : Int) == 15)) = false := by rw [hz]; rfl
    rw [hb_] at hs; clear hb_
    refine wpList_nil ?_
    refine then_n (hK611 _ _ ?_)
    refine wp_cond_false (hs.ev rfl) ?_
    refine wp_skip ?_
    refine in_n ?_
    refine then_n (hK595 _ _ ?_)
    refine wp_region_lit ?_
    refine st_run 2 [(87, .int .i64 (4)), (118, .int .i64 (4))] hs .n (by kernel_rfl) (by kernel_rfl) (by kernel_rfl) ?_; clear hs a; intro a hs
    refine wpList_nil ?_
    refine then_n ?_
    refine rounds_in ?_
    refine wp_seq_k fun K612 hK613 => ?_
    refine wp_region_lit ?_
    refine st_lss hs rfl rfl rfl ?_; clear hs w a; intro a w hs
    rw [show (decide ((4 : Int) < 4)) = false from by decide] at hs
    refine wpList_nil ?_
    refine then_n (hK613 _ _ ?_)
    refine wp_seq_k fun K614 hK615 => ?_
    refine wp_cond_false (hs.ev rfl) ?_
    refine wp_exit ?_
    refine th_e ?_
    refine th_e ?_
    refine in_hit ?_
    refine then_n (hK47 _ _ ?_)
    refine wp_seq_k fun K616 hK617 => ?_
    refine wp_region_lit ?_
    refine st_callP (v := .bool (true)) hs .n Try.call10 (alive10_ok _) rfl ?_; clear hs w a; intro a w hs
    refine st_as hs rfl rfl ?_; clear hs w a; intro a w hs
    refine wpList_nil ?_
    refine then_n (hK617 _ _ ?_)
    refine wp_ret ?_
    replace hs := hs.drop (.c (.s (.s (.s (.s (.s (.s (.s (.s (.s (.s (.s (.s (.s (.s (.s (.s (.s (.s (.s (.s (.s (.s (.s .z))))))))))))))))))))))) (.c (.s (.s (.s (.s (.s (.s (.s (.s (.s (.s (.s (.s (.s (.s (.s (.s (.s (.s (.s (.s (.s (.s .z)))))))))))))))))))))) (.c (.s (.s (.s (.s (.s (.s (.s (.s (.s (.s (.s (.s (.s (.s (.s (.s (.s (.s (.s (.s (.s .z))))))))))))))))))))) (.c (.s (.s (.s (.s (.s (.s (.s (.s (.s (.s (.s (.s (.s (.s (.s (.s (.s (.s (.s (.s .z)))))))))))))))))))) (.c (.s (.s (.s (.s (.s (.s (.s (.s (.s (.s (.s (.s (.s (.s (.s (.s (.s (.s (.s .z))))))))))))))))))) (.c (.s (.s (.s (.s (.s (.s (.s (.s (.s (.s (.s (.s (.s (.s (.s (.s (.s (.s .z)))))))))))))))))) (.c (.s (.s (.s (.s (.s (.s (.s (.s (.s (.s (.s (.s (.s (.s (.s (.s (.s .z))))))))))))))))) (.c (.s (.s (.s (.s (.s (.s (.s (.s (.s (.s (.s (.s (.s (.s (.s (.s .z)))))))))))))))) (.c (.s (.s (.s (.s (.s (.s (.s (.s (.s (.s (.s (.s (.s (.s (.s .z))))))))))))))) (.c (.s (.s (.s (.s (.s (.s (.s (.s (.s (.s (.s (.s (.s (.s .z)))))))))))))) (.c (.s (.s (.s (.s (.s (.s (.s (.s (.s (.s (.s (.s (.s .z))))))))))))) (.c (.s (.s (.s (.s (.s (.s (.s (.s (.s (.s (.s (.s .z)))))))))))) (.c (.s (.s (.s (.s (.s (.s (.s (.s (.s (.s (.s .z))))))))))) (.c (.s (.s (.s (.s (.s (.s (.s (.s (.s (.s .z)))))))))) (.c (.s (.s (.s (.s (.s (.s (.s (.s (.s .z))))))))) (.c (.s (.s (.s (.s (.s (.s (.s (.s .z)))))))) (.c (.s (.s (.s (.s (.s (.s (.s .z))))))) (.c (.s (.s (.s (.s (.s (.s .z)))))) (.c (.s (.s (.s (.s (.s .z))))) (.c (.s (.s (.s (.s .z)))) (.c (.s (.s (.s .z))) (.c (.s (.s .z)) (.c (.s .z) (.c .z .n))))))))))))))))))))))))
    exact fin hs rfl rfl ⟨rfl, rfl⟩
   have hth : (eget (idm id) l).isSome = true := by simpa using (by assumption : ((eget (idm id) l).isSome == false) = false)
   have hz := (aM_one (r := (⟨3, idm id, 0, 0, 0, 0, 0, 0, 0#16⟩ : RecR)) (ents_srt hsp.2.2.2.2.2) (by omega) (chk_tel _ hid)).2.1 hth (by first | rfl | (dsimp only; omega))
   rw [← less_1 (t := t) (tm := tm) (time := time) hs0_ (by omega) (by omega) (by omega) (chk_tel _ hid)] at hz
   refine wp_seq_k fun K618 hK619 => ?_
   refine wp_region_lit ?_
   refine st_run 2 [(108, .bool (!((((aE t tm l (t + 1) time t (([(⟨3, idm id, 0, 0, 0, 0, 0, 0, 0#16⟩ : RecR)] : List RecR)) : Nat) : Int) : Int) == 0))), (107, .int .i64 (((aE t tm l (t + 1) time t (([(⟨3, idm id, 0, 0, 0, 0, 0, 0, 0#16⟩ : RecR)] : List RecR)) : Nat) : Int)))] hs .n (by kernel_rfl) (by kernel_rfl) (by kernel_rfl) ?_; clear hs a; intro a hs
   have hb_ : (!((((aE t tm l (t + 1) time t (([(⟨3, idm id, 0, 0, 0, 0, 0, 0, 0#16⟩ : RecR)] : List RecR)) : Nat) : Int) : Int) == 0)) = false := by rw [hz]; rfl
   rw [hb_] at hs; clear hb_
   refine st_run 9 [(117, .bool (false)), (116, undef), (115, undef), (114, undef), (113, undef), (112, undef), (111, undef), (110, undef), (109, .bool (false))] hs .n (by kernel_rfl) (by kernel_rfl) (by kernel_rfl) ?_; clear hs a; intro a hs
   refine wpList_nil ?_
   refine then_n (hK619 _ _ ?_)
   refine wp_cond_false (hs.ev rfl) ?_
   refine wp_skip ?_
   refine in_n ?_
   refine then_n (hK595 _ _ ?_)
   refine wp_region_lit ?_
   refine st_run 2 [(87, .int .i64 (4)), (118, .int .i64 (4))] hs .n (by kernel_rfl) (by kernel_rfl) (by kernel_rfl) ?_; clear hs a; intro a hs
   refine wpList_nil ?_
   refine then_n ?_
   refine rounds_in ?_
   refine wp_seq_k fun K620 hK621 => ?_
   refine wp_region_lit ?_
   refine st_lss hs rfl rfl rfl ?_; clear hs w a; intro a w hs
   rw [show (decide ((4 : Int) < 4)) = false from by decide] at hs
   refine wpList_nil ?_
   refine then_n (hK621 _ _ ?_)
   refine wp_seq_k fun K622 hK623 => ?_
   refine wp_cond_false (hs.ev rfl) ?_
   refine wp_exit ?_
   refine th_e ?_
   refine th_e ?_
   refine in_hit ?_
   refine then_n (hK47 _ _ ?_)
   refine wp_seq_k fun K624 hK625 => ?_
   refine wp_region_lit ?_
   refine st_callP (v := .bool (true)) hs .n Try.call10 (alive10_ok _) rfl ?_; clear hs w a; intro a w hs
   refine st_as hs rfl rfl ?_; clear hs w a; intro a w hs
   refine wpList_nil ?_
   refine then_n (hK625 _ _ ?_)
   refine wp_ret ?_
   replace hs := hs.drop (.c (.s (.s (.s (.s (.s (.s (.s (.s (.s (.s (.s (.s (.s (.s (.s (.s (.s (.s (.s (.s (.s (.s (.s .z))))))))))))))))))))))) (.c (.s (.s (.s (.s (.s (.s (.s (.s (.s (.s (.s (.s (.s (.s (.s (.s (.s (.s (.s (.s (.s (.s .z)))))))))))))))))))))) (.c (.s (.s (.s (.s (.s (.s (.s (.s (.s (.s (.s (.s (.s (.s (.s (.s (.s (.s (.s (.s (.s .z))))))))))))))))))))) (.c (.s (.s (.s (.s (.s (.s (.s (.s (.s (.s (.s (.s (.s (.s (.s (.s (.s (.s (.s (.s .z)))))))))))))))))))) (.c (.s (.s (.s (.s (.s (.s (.s (.s (.s (.s (.s (.s (.s (.s (.s (.s (.s (.s (.s .z))))))))))))))))))) (.c (.s (.s (.s (.s (.s (.s (.s (.s (.s (.s (.s (.s (.s (.s (.s (.s (.s (.s .z)))))))))))))))))) (.c (.s (.s (.s (.s (.s (.s (.s (.s (.s (.s (.s (.s (.s (.s (.s (.s (.s .z))))))))))))))))) (.c (.s (.s (.s (.s (.s (.s (.s (.s (.s (.s (.s (.s (.s (.s (.s (.s .z)))))))))))))))) (.c (.s (.s (.s (.s (.s (.s (.s (.s (.s (.s (.s (.s (.s (.s (.s .z))))))))))))))) (.c (.s (.s (.s (.s (.s (.s (.s (.s (.s (.s (.s (.s (.s (.s .z)))))))))))))) (.c (.s (.s (.s (.s (.s (.s (.s (.s (.s (.s (.s (.s (.s .z))))))))))))) (.c (.s (.s (.s (.s (.s (.s (.s (.s (.s (.s (.s (.s .z)))))))))))) (.c (.s (.s (.s (.s (.s (.s (.s (.s (.s (.s (.s .z))))))))))) (.c (.s (.s (.s (.s (.s (.s (.s (.s (.s (.s .z)))))))))) (.c (.s (.s (.s (.s (.s (.s (.s (.s (.s .z))))))))) (.c (.s (.s (.s (.s (.s (.s (.s (.s .z)))))))) (.c (.s (.s (.s (.s (.s (.s (.s .z))))))) (.c (.s (.s (.s (.s (.s (.s .z)))))) (.c (.s (.s (.s (.s (.s .z))))) (.c (.s (.s (.s (.s .z)))) (.c (.s (.s (.s .z))) (.c (.s (.s .z)) (.c (.s .z) (.c .z .n))))))))))))))))))))))))
   exact fin hs rfl rfl ⟨rfl, rfl⟩
  have hth : (eget (idm id) l).isSome = true := by simpa using (by assumption : ((eget (idm id) l).isSome == false) = false)
  have hz := (aM_one (r := (⟨1, idm id, 0, 0, 0, 0, 0, 0, 1#16⟩ : RecR)) (ents_srt hsp.2.2.2.2.2) (by omega) (chk_upd _ hid)).2.1 hth (by first | rfl | (dsimp only; omega))
  rw [← less_1 (t := t) (tm := tm) (time := time) hs0_ (by omega) (by omega) (by omega) (chk_upd _ hid)] at hz
  refine wp_seq_k fun K626 hK627 => ?_
  refine wp_region_lit ?_
  refine st_run 2 [(108, .bool (!((((aE t tm l (t + 1) time t (([(⟨1, idm id, 0, 0, 0, 0, 0, 0, 1#16⟩ : RecR)] : List RecR)) : Nat) : Int) : Int) == 0))), (107, .int .i64 (((aE t tm l (t + 1) time t (([(⟨1, idm id, 0, 0, 0, 0, 0, 0, 1#16⟩ : RecR)] : List RecR)) : Nat) : Int)))] hs .n (by kernel_rfl) (by kernel_rfl) (by kernel_rfl) ?_; clear hs a; intro a hs
  have hb_ : (!((((aE t tm l (t + 1) time t (([(⟨1, idm id, 0, 0, 0, 0, 0, 0, 1#16⟩ : RecR)] : List RecR)) : Nat) : Int) : Int) == 0)) = false := by rw [hz]; rfl
  rw [hb_] at hs; clear hb_
  refine st_run 9 [(117, .bool (false)), (116, undef), (115, undef), (114, undef), (113, undef), (112, undef), (111, undef), (110, undef), (109, .bool (false))] hs .n (by kernel_rfl) (by kernel_rfl) (by kernel_rfl) ?_; clear hs a; intro a hs
  refine wpList_nil ?_
  refine then_n (hK627 _ _ ?_)
  refine wp_cond_false (hs.ev rfl) ?_
  refine wp_skip ?_
  refine in_n ?_
  refine then_n (hK513 _ _ ?_)
  refine wp_region_lit ?_
  refine st_run 2 [(87, .int .i64 (2)), (118, .int .i64 (2))] hs .n (by kernel_rfl) (by kernel_rfl) (by kernel_rfl) ?_; clear hs a; intro a hs
  refine wpList_nil ?_
  refine then_n ?_
  refine rounds_in ?_
  refine wp_seq_k fun K628 hK629 => ?_
  refine wp_region_lit ?_
  refine st_lss hs rfl rfl rfl ?_; clear hs w a; intro a w hs
  rw [show (decide ((2 : Int) < 4)) = true from by decide] at hs
  refine wpList_nil ?_
  refine then_n (hK629 _ _ ?_)
  refine wp_seq_k fun K630 hK631 => ?_
  refine wp_cond_true (hs.ev rfl) ?_
  refine wp_skip ?_
  refine then_n (hK631 _ _ ?_)
  refine wp_seq_k fun K632 hK633 => ?_
  refine wp_block ?_
  refine wp_seq_k fun K634 hK635 => ?_
  refine wp_region_lit ?_
  refine st_ia (j := 2) hs rfl rfl (rd_blk (m := 4) (size := 9) (hs.mem.del (.s (.s (.s (.s (.s (.s (.s (.s (.s .z)))))))))) rfl (by decide)) (by decide) (by omega) Try.underlying25 Try.sizeOf45 rfl ?_; clear hs w a; intro a w hs
  refine st_ldA (cs := [.int .i64 (2), .int .i64 (idm id), .int .i64 (0), .int .i64 (0), .int .i64 (0), .int .i64 (0), .int .i64 (0), .int .i64 (0), .int .u16 (0)]) hs rfl (rd_blk (m := 4) (size := 9) (hs.mem.del (.s (.s (.s (.s (.s (.s (.s (.s (.s .z)))))))))) rfl (by decide)) (by rfl) (by simp) (by decide) Try.isAgg45 Try.sizeOf45 rfl ?_; clear hs w a; intro a w hs
  refine st_alloc (cs := [.int .i64 (0), .int .i64 (0), .int .i64 (0), .int .i64 (0), .int .i64 (0), .int .i64 (0), .int .i64 (0), .int .i64 (0), .int .u16 (0)]) hs Try.zeroValue45 rfl rfl ?_; clear hs w a; intro g636 a w hs
  refine st_stBA hs rfl rfl .z (.z (.c (.c (.c (.c (.c (.c (.c (.c (.c .n)))))))))) (ones_c rfl (ones_c rfl (ones_c rfl (ones_c rfl (ones_c rfl (ones_c rfl (ones_c rfl (ones_c rfl (ones_c rfl ones_n))))))))) Try.sizeOf45 rfl ?_; clear hs w a; intro a w hs
  refine wpList_nil ?_
  refine then_n (hK635 _ _ ?_)
  refine wp_seq_k fun K637 hK638 => ?_
  refine wp_region_lit ?_
  refine st_ldBA hs rfl .z (.z (.c (.c (.c (.c (.c (.c (.c (.c (.c .n)))))))))) Try.isAgg45 Try.sizeOf45 rfl ?_; clear hs w a; intro a w hs
  refine st_bs (cs := [.int .i64 (2), .int .i64 (idm id), .int .i64 (0), .int .i64 (0), .int .i64 (0), .int .i64 (0), .int .i64 (0), .int .i64 (0), .int .u16 (0)]) hs (.c .n) (.c rfl .n) Try.underlying25 (ie := Try.t45) rfl rfl rfl rfl (by decide) (by decide) rfl (by decide) rfl rfl rfl ?_; clear hs w a; intro g639 a w hs
  refine st_fa hs rfl Try.underlying27 rfl Try.sizeOf25 (by decide) (o := 3) rfl rfl ?_; clear hs w a; intro a w hs
  refine st_stB hs rfl rfl (.s (.s (.s (.s .z)))) (.s (.s (.s .z))) rfl Try.sizeOf25 ?_; clear hs w a; intro a w hs
  refine wpList_nil ?_
  refine then_n (hK638 _ _ ?_)
  refine wp_seq_k fun K640 hK641 => ?_
  refine wp_region_lit ?_
  refine st_run 2 [(96, .agg #[.int .i64 (t + 1), .int .i64 (time), .int .i64 (t), .slice (some ⟨g639, 0, none⟩) 1 1]), (95, .agg #[.int .i64 (t), .int .i64 (tm), u])] hs (.c (hs.mem.del (.s (.s (.s (.s (.s (.s (.s (.s (.s (.s (.s (.s (.s (.s (.s (.s (.s .z)))))))))))))))))) (.c (hs.mem.del .z) .n)) (by kernel_rfl) (by kernel_rfl) (by kernel_rfl) ?_; clear hs a; intro a hs
  refine st_call hs (.c rfl (.c rfl .n)) Try.call11 .n (dapply_ok t tm _ l (t + 1) time t _ (([(⟨2, idm id, 0, 0, 0, 0, 0, 0, 0#16⟩ : RecR)] : List RecR)) _ (by omega) (by omega) (by omega) (by omega) (by omega) (hs.rd0 hc) (rd_blk (m := 1) (size := 9) (hs.mem.del (.s .z)) rfl (by decide)) (one_rwf (wf_mk (by omega) (by omega) (by omega) (by omega) (by omega) (by omega) (by omega) (by omega)))) rfl ?_; clear hs w a; rintro _ _ a w ⟨v642, rfl, rfl⟩ hs; simp only [List.cons_append, List.nil_append] at hs
  have hk643 := aS_rng (at_ := t) (atm := tm) (a := l) (gt := (t + 1)) (gtm := time) (gb := t) (rl := ([(⟨2, idm id, 0, 0, 0, 0, 0, 0, 0#16⟩ : RecR)] : List RecR))
  refine st_run 3 [(99, .int .i64 (((aE t tm l (t + 1) time t (([(⟨2, idm id, 0, 0, 0, 0, 0, 0, 0#16⟩ : RecR)] : List RecR)) : Nat) : Int))), (98, .agg #[.int .i64 ((aS t tm l (t + 1) time t (([(⟨2, idm id, 0, 0, 0, 0, 0, 0, 0#16⟩ : RecR)] : List RecR))).t), .int .i64 ((aS t tm l (t + 1) time t (([(⟨2, idm id, 0, 0, 0, 0, 0, 0, 0#16⟩ : RecR)] : List RecR))).tm), v642]), (94, .tuple #[.agg #[.int .i64 ((aS t tm l (t + 1) time t (([(⟨2, idm id, 0, 0, 0, 0, 0, 0, 0#16⟩ : RecR)] : List RecR))).t), .int .i64 ((aS t tm l (t + 1) time t (([(⟨2, idm id, 0, 0, 0, 0, 0, 0, 0#16⟩ : RecR)] : List RecR))).tm), v642], .int .i64 (((aE t tm l (t + 1) time t (([(⟨2, idm id, 0, 0, 0, 0, 0, 0, 0#16⟩ : RecR)] : List RecR)) : Nat) : Int))])] hs .n (by kernel_rfl) (by kernel_rfl) (by kernel_rfl) ?_; clear hs a; intro a hs
  refine st_alloc (cs := [.int .i64 (0), .int .i64 (0), .slice none 0 0]) hs Try.zeroValue24 rfl rfl ?_; clear hs w a; intro g644 a w hs
  refine st_stBA hs rfl rfl .z (.z (.c (.c (.c .n)))) (ones_c rfl (ones_c rfl (ones_c (rd_row (hs.mem.del (.s .z))).isSl.one ones_n))) Try.sizeOf24 rfl ?_; clear hs w a; intro a w hs
  refine st_as hs rfl rfl ?_; clear hs w a; intro a w hs
  refine wpList_nil ?_
  refine then_n (hK641 _ _ ?_)
  refine wp_seq_k fun K645 hK646 => ?_
  refine wp_region_lit ?_
  refine st_run 4 [(103, .bool (false)), (102, .int .i64 (2)), (101, .pointer (some ⟨g636, 0, none⟩)), (100, .bool ((eget (idm id) l).isSome))] hs (.c (hs.mem.del (.s (.s (.s (.s .z))))) .n) (by kernel_rfl) (by kernel_rfl) (by kernel_rfl) ?_; clear hs a; intro a hs
  refine st_eqb hs rfl rfl Try.underlying4 rfl ?_; clear hs w a; intro a w hs
  refine wpList_nil ?_
  refine then_n (hK646 _ _ ?_)
  refine wp_if hs rfl (fun hc647 => ?_) (fun hc647 => ?_)
  ·
   have hth : (eget (idm id) l).isSome = false := by simpa using (by assumption : ((eget (idm id) l).isSome == false) = true)
   have hz := (aM_one (r := (⟨2, idm id, 0, 0, 0, 0, 0, 0, 0#16⟩ : RecR)) (ents_srt hsp.2.2.2.2.2) (by omega) (chk_rem _ hid)).2.2.2 hth (by first | rfl | (dsimp only; omega))
   rw [← less_1 (t := t) (tm := tm) (time := time) hs0_ (by omega) (by omega) (by omega) (chk_rem _ hid)] at hz
   refine wp_seq_k fun K648 hK649 => ?_
   refine wp_region_lit ?_
   refine st_run 2 [(106, .bool (!((((aE t tm l (t + 1) time t (([(⟨2, idm id, 0, 0, 0, 0, 0, 0, 0#16⟩ : RecR)] : List RecR)) : Nat) : Int) : Int) == 15))), (105, .int .i64 (((aE t tm l (t + 1) time t (([(⟨2, idm id, 0, 0, 0, 0, 0, 0, 0#16⟩ : RecR)] : List RecR)) : Nat) : Int)))] hs .n (by kernel_rfl) (by kernel_rfl) (by kernel_rfl) ?_; clear hs a; intro a hs
   have hb_ : (!((((aE t tm l (t + 1) time t (([(⟨2, idm id, 0, 0, 0, 0, 0, 0, 0#16⟩ : RecR)] : List RecR)) : Nat) : Int) : Int) == 15)) = false := by rw [hz]; rfl
   rw [hb_] at hs; clear hb_
   refine wpList_nil ?_
   refine then_n (hK649 _ _ ?_)
   refine wp_cond_false (hs.ev rfl) ?_
   refine wp_skip ?_
   refine in_n ?_
   refine then_n (hK633 _ _ ?_)
   refine wp_region_lit ?_
   refine st_run 2 [(87, .int .i64 (3)), (118, .int .i64 (3))] hs .n (by kernel_rfl) (by kernel_rfl) (by kernel_rfl) ?_; clear hs a; intro a hs
   refine wpList_nil ?_
   refine then_n ?_
   refine rounds_in ?_
   refine wp_seq_k fun K650 hK651 => ?_
   refine wp_region_lit ?_
   refine st_lss hs rfl rfl rfl ?_; clear hs w a; intro a w hs
   rw [show (decide ((3 : Int) < 4)) = true from by decide] at hs
   refine wpList_nil ?_
   refine then_n (hK651 _ _ ?_)
   refine wp_seq_k fun K652 hK653 => ?_
   refine wp_cond_true (hs.ev rfl) ?_
   refine wp_skip ?_
   refine then_n (hK653 _ _ ?_)
   refine wp_seq_k fun K654 hK655 => ?_
   refine wp_block ?_
   refine wp_seq_k fun K656 hK657 => ?_
   refine wp_region_lit ?_
   refine st_ia (j := 3) hs rfl rfl (rd_blk (m := 4) (size := 9) (hs.mem.del (.s (.s (.s (.s (.s (.s (.s (.s (.s (.s (.s (.s (.s .z)))))))))))))) rfl (by decide)) (by decide) (by omega) Try.underlying25 Try.sizeOf45 rfl ?_; clear hs w a; intro a w hs
   refine st_ldA (cs := [.int .i64 (3), .int .i64 (idm id), .int .i64 (0), .int .i64 (0), .int .i64 (0), .int .i64 (0), .int .i64 (0), .int .i64 (0), .int .u16 (0)]) hs rfl (rd_blk (m := 4) (size := 9) (hs.mem.del (.s (.s (.s (.s (.s (.s (.s (.s (.s (.s (.s (.s (.s .z)))))))))))))) rfl (by decide)) (by rfl) (by simp) (by decide) Try.isAgg45 Try.sizeOf45 rfl ?_; clear hs w a; intro a w hs
   refine st_alloc (cs := [.int .i64 (0), .int .i64 (0), .int .i64 (0), .int .i64 (0), .int .i64 (0), .int .i64 (0), .int .i64 (0), .int .i64 (0), .int .u16 (0)]) hs Try.zeroValue45 rfl rfl ?_; clear hs w a; intro g658 a w hs
   refine st_stBA hs rfl rfl .z (.z (.c (.c (.c (.c (.c (.c (.c (.c (.c .n)))))))))) (ones_c rfl (ones_c rfl (ones_c rfl (ones_c rfl (ones_c rfl (ones_c rfl (ones_c rfl (ones_c rfl (ones_c rfl ones_n))))))))) Try.sizeOf45 rfl ?_; clear hs w a; intro a w hs
   refine wpList_nil ?_
   refine then_n (hK657 _ _ ?_)
   refine wp_seq_k fun K659 hK660 => ?_
   refine wp_region_lit ?_
   refine st_ldBA hs rfl .z (.z (.c (.c (.c (.c (.c (.c (.c (.c (.c .n)))))))))) Try.isAgg45 Try.sizeOf45 rfl ?_; clear hs w a; intro a w hs
   refine st_bs (cs := [.int .i64 (3), .int .i64 (idm id), .int .i64 (0), .int .i64 (0), .int .i64 (0), .int .i64 (0), .int .i64 (0), .int .i64 (0), .int .u16 (0)]) hs (.c .n) (.c rfl .n) Try.underlying25 (ie := Try.t45) rfl rfl rfl rfl (by decide) (by decide) rfl (by decide) rfl rfl rfl ?_; clear hs w a; intro g661 a w hs
   refine st_fa hs rfl Try.underlying27 rfl Try.sizeOf25 (by decide) (o := 3) rfl rfl ?_; clear hs w a; intro a w hs
   refine st_stB hs rfl rfl (.s (.s (.s (.s .z)))) (.s (.s (.s .z))) rfl Try.sizeOf25 ?_; clear hs w a; intro a w hs
   refine wpList_nil ?_
   refine then_n (hK660 _ _ ?_)
   refine wp_seq_k fun K662 hK663 => ?_
   refine wp_region_lit ?_
   refine st_run 2 [(96, .agg #[.int .i64 (t + 1), .int .i64 (time), .int .i64 (t), .slice (some ⟨g661, 0, none⟩) 1 1]), (95, .agg #[.int .i64 (t), .int .i64 (tm), u])] hs (.c (hs.mem.del (.s (.s (.s (.s (.s (.s (.s (.s (.s (.s (.s (.s (.s (.s (.s (.s (.s (.s (.s (.s (.s .z)))))))))))))))))))))) (.c (hs.mem.del .z) .n)) (by kernel_rfl) (by kernel_rfl) (by kernel_rfl) ?_; clear hs a; intro a hs
   refine st_call hs (.c rfl (.c rfl .n)) Try.call11 .n (dapply_ok t tm _ l (t + 1) time t _ (([(⟨3, idm id, 0, 0, 0, 0, 0, 0, 0#16⟩ : RecR)] : List RecR)) _ (by omega) (by omega) (by omega) (by omega) (by omega) (hs.rd0 hc) (rd_blk (m := 1) (size := 9) (hs.mem.del (.s .z)) rfl (by decide)) (one_rwf (wf_mk (by omega) (by omega) (by omega) (by omega) (by omega) (by omega) (by omega) (by omega)))) rfl ?_; clear hs w a; rintro _ _ a w ⟨v664, rfl, rfl⟩ hs; simp only [List.cons_append, List.nil_append] at hs
   have hk665 := aS_rng (at_ := t) (atm := tm) (a := l) (gt := (t + 1)) (gtm := time) (gb := t) (rl := ([(⟨3, idm id, 0, 0, 0, 0, 0, 0, 0#16⟩ : RecR)] : List RecR))
   refine st_run 3 [(99, .int .i64 (((aE t tm l (t + 1) time t (([(⟨3, idm id, 0, 0, 0, 0, 0, 0, 0#16⟩ : RecR)] : List RecR)) : Nat) : Int))), (98, .agg #[.int .i64 ((aS t tm l (t + 1) time t (([(⟨3, idm id, 0, 0, 0, 0, 0, 0, 0#16⟩ : RecR)] : List RecR))).t), .int .i64 ((aS t tm l (t + 1) time t (([(⟨3, idm id, 0, 0, 0, 0, 0, 0, 0#16⟩ : RecR)] : List RecR))).tm), v664]), (94, .tuple #[.agg #[.int .i64 ((aS t tm l (t + 1) time t (([(⟨3, idm id, 0, 0, 0, 0, 0, 0, 0#16⟩ : RecR)] : List RecR))).t), .int .i64 ((aS t tm l (t + 1) time t (([(⟨3, idm id, 0, 0, 0, 0, 0, 0, 0#16⟩ : RecR)] : List RecR))).tm), v664], .int .i64 (((aE t tm l (t + 1) time t (([(⟨3, idm id, 0, 0, 0, 0, 0, 0, 0#16⟩ : RecR)] : List RecR)) : Nat) : Int))])] hs .n (by kernel_rfl) (by kernel_rfl) (by kernel_rfl) ?_; clear hs a; intro a hs
   refine st_alloc (cs := [.int .i64 (0), .int .i64 (0), .slice none 0 0]) hs Try.zeroValue24 rfl rfl ?_; clear hs w a; intro g666 a w hs
   refine st_stBA hs rfl rfl .z (.z (.c (.c (.c .n)))) (ones_c rfl (ones_c rfl (ones_c (rd_row (hs.mem.del (.s .z))).isSl.one ones_n))) Try.sizeOf24 rfl ?_; clear hs w a; intro a w hs
   refine st_as hs rfl rfl ?_; clear hs w a; intro a w hs
   refine wpList_nil ?_
   refine then_n (hK663 _ _ ?_)
   refine wp_seq_k fun K667 hK668 => ?_
   refine wp_region_lit ?_
   refine st_run 4 [(103, .bool (false)), (102, .int .i64 (3)), (101, .pointer (some ⟨g658, 0, none⟩)), (100, .bool ((eget (idm id) l).isSome))] hs (.c (hs.mem.del (.s (.s (.s (.s .z))))) .n) (by kernel_rfl) (by kernel_rfl) (by kernel_rfl) ?_; clear hs a; intro a hs
   refine st_eqb hs rfl rfl Try.underlying4 rfl ?_; clear hs w a; intro a w hs
   refine wpList_nil ?_
   refine then_n (hK668 _ _ ?_)
   refine wp_if hs rfl (fun hc669 => ?_) (fun hc669 => ?_)
   ·
    have hth : (eget (idm id) l).isSome = false := by simpa using (by assumption : ((eget (idm id) l).isSome == false) = true)
    have hz := (aM_one (r := (⟨3, idm id, 0, 0, 0, 0, 0, 0, 0#16⟩ : RecR)) (ents_srt hsp.2.2.2.2.2) (by omega) (chk_tel _ hid)).2.2.2 hth (by first | rfl | (dsimp only; omega))
    rw [← less_1 (t := t) (tm := tm) (time := time) hs0_ (by omega) (by omega) (by omega) (chk_tel _ hid)] at hz
    refine wp_seq_k fun K670 hK671 => ?_
    refine wp_region_lit ?_
    refine st_run 2 [(106, .bool (!((((aE t tm l (t + 1) time t (([(⟨3, idm id, 0, 0, 0, 0, 0, 0, 0#16⟩ : RecR)] : List RecR)) : Nat) : Int) : Int) == 15))), (105, .int .i64 (((aE t tm l (t + 1) time t (([(⟨3, idm id, 0, 0, 0, 0, 0, 0, 0#16⟩ : RecR)] : List RecR)) : Nat) : Int)))] hs .n (by kernel_rfl) (by kernel_rfl) (by kernel_rfl) ?_; clear hs a; intro a hs
    have hb_ : (!((((aE t tm l (t + 1) time t (([(⟨3, idm id, 0, 0, 0, 0, 0, 0, 0#16⟩ : RecR)] : List RecR)) : Nat) : Int) : Int) == 15)) = false := by rw [hz]; rfl
    rw [hb_] at hs; clear hb_
    refine wpList_nil ?_
    refine then_n (hK671 _ _ ?_)
    refine wp_cond_false (hs.ev rfl) ?_
    refine wp_skip ?_
    refine in_n ?_
    refine then_n (hK655 _ _ ?_)
    refine wp_region_lit ?_
    refine st_run 2 [(87, .int .i64 (4)), (118, .int .i64 (4))] hs .n (by kernel_rfl) (by kernel_rfl) (by kernel_rfl) ?_; clear hs a; intro a hs
    refine wpList_nil ?_
    refine then_n ?_
    refine rounds_in ?_
    refine wp_seq_k fun K672 hK673 => ?_
    refine wp_region_lit ?_
    refine st_lss hs rfl rfl rfl ?_; clear hs w a; intro a w hs
    rw [show (decide ((4 : Int) < 4)) = false from by decide] at hs
    refine wpList_nil ?_
    refine then_n (hK673 _ _ ?_)
    refine wp_seq_k fun K674 hK675 => ?_
    refine wp_cond_false (hs.ev rfl) ?_
    refine wp_exit ?_
    refine th_e ?_
    refine th_e ?_
    refine in_hit ?_
    refine then_n (hK47 _ _ ?_)
    refine wp_seq_k fun K676 hK677 => ?_
    refine wp_region_lit ?_
    refine st_callP (v := .bool (true)) hs .n Try.call10 (alive10_ok _) rfl ?_; clear hs w a; intro a w hs
    refine st_as hs rfl rfl ?_; clear hs w a; intro a w hs
    refine wpList_nil ?_
    refine then_n (hK677 _ _ ?_)
    refine wp_ret ?_
    replace hs := hs.drop (.c (.s (.s (.s (.s (.s (.s (.s (.s (.s (.s (.s (.s (.s (.s (.s (.s (.s (.s (.s (.s (.s (.s (.s .z))))))))))))))))))))))) (.c (.s (.s (.s (.s (.s (.s (.s (.s (.s (.s (.s (.s (.s (.s (.s (.s (.s (.s (.s (.s (.s (.s .z)))))))))))))))))))))) (.c (.s (.s (.s (.s (.s (.s (.s (.s (.s (.s (.s (.s (.s (.s (.s (.s (.s (.s (.s (.s (.s .z))))))))))))))))))))) (.c (.s (.s (.s (.s (.s (.s (.s (.s (.s (.s (.s (.s (.s (.s (.s (.s (.s (.s (.s (.s .z)))))))))))))))))))) (.c (.s (.s (.s (.s (.s (.s (.s (.s (.s (.s (.s (.s (.s (.s (.s (.s (.s (.s (.s .z))))))))))))))))))) (.c (.s (.s (.s (.s (.s (.s (.s (.s (.s (.s (.s (.s (.s (.s (.s (.s (.s (.s .z)))))))))))))))))) (.c (.s (.s (.s (.s (.s (.s (.s (.s (.s (.s (.s (.s (.s (.s (.s (.s (.s .z))))))))))))))))) (.c (.s (.s (.s (.s (.s (.s (.s (.s (.s (.s (.s (.s (.s (.s (.s (.s .z)))))))))))))))) (.c (.s (.s (.s (.s (.s (.s (.s (.s (.s (.s (.s (.s (.s (.s (.s .z))))))))))))))) (.c (.s (.s (.s (.s (.s (.s (.s (.s (.s (.s (.s (.s (.s (.s .z)))))))))))))) (.c (.s (.s (.s (.s (.s (.s (.s (.s (.s (.s (.s (.s (.s .z))))))))))))) (.c (.s (.s (.s (.s (.s (.s (.s (.s (.s (.s (.s (.s .z)))))))))))) (.c (.s (.s (.s (.s (.s (.s (.s (.s (.s (.s (.s .z))))))))))) (.c (.s (.s (.s (.s (.s (.s (.s (.s (.s (.s .z)))))))))) (.c (.s (.s (.s (.s (.s (.s (.s (.s (.s .z))))))))) (.c (.s (.s (.s (.s (.s (.s (.s (.s .z)))))))) (.c (.s (.s (.s (.s (.s (.s (.s .z))))))) (.c (.s (.s (.s (.s (.s (.s .z)))))) (.c (.s (.s (.s (.s (.s .z))))) (.c (.s (.s (.s (.s .z)))) (.c (.s (.s (.s .z))) (.c (.s (.s .z)) (.c (.s .z) (.c .z .n))))))))))))))))))))))))
    exact fin hs rfl rfl ⟨rfl, rfl⟩
   have hth : (eget (idm id) l).isSome = true := by simpa using (by assumption : ((eget (idm id) l).isSome == false) = false)
   have hz := (aM_one (r := (⟨3, idm id, 0, 0, 0, 0, 0, 0, 0#16⟩ : RecR)) (ents_srt hsp.2.2.2.2.2) (by omega) (chk_tel _ hid)).2.1 hth (by first | rfl | (dsimp only; omega))
   rw [← less_1 (t := t) (tm := tm) (time := time) hs0_ (by omega) (by omega) (by omega) (chk_tel _ hid)] at hz
   refine wp_seq_k fun K678 hK679 => ?_
   refine wp_region_lit ?_
   refine st_run 2 [(108, .bool (!((((aE t tm l (t + 1) time t (([(⟨3, idm id, 0, 0, 0, 0, 0, 0, 0#16⟩ : RecR)] : List RecR)) : Nat) : Int) : Int) == 0))), (107, .int .i64 (((aE t tm l (t + 1) time t (([(⟨3, idm id, 0, 0, 0, 0, 0, 0, 0#16⟩ : RecR)] : List RecR)) : Nat) : Int)))] hs .n (by kernel_rfl) (by kernel_rfl) (by kernel_rfl) ?_; clear hs a; intro a hs
   have hb_ : (!((((aE t tm l (t + 1) time t (([(⟨3, idm id, 0, 0, 0, 0, 0, 0, 0#16⟩ : RecR)] : List RecR)) : Nat) : Int) : Int) == 0)) = false := by rw [hz]; rfl
   rw [hb_] at hs; clear hb_
   refine st_run 9 [(117, .bool (false)), (116, undef), (115, undef), (114, undef), (113, undef), (112, undef), (111, undef), (110, undef), (109, .bool (false))] hs .n (by kernel_rfl) (by kernel_rfl) (by kernel_rfl) ?_; clear hs a; intro a hs
   refine wpList_nil ?_
   refine then_n (hK679 _ _ ?_)
   refine wp_cond_false (hs.ev rfl) ?_
   refine wp_skip ?_
   refine in_n ?_
   refine then_n (hK655 _ _ ?_)
   refine wp_region_lit ?_
   refine st_run 2 [(87, .int .i64 (4)), (118, .int .i64 (4))] hs .n (by kernel_rfl) (by kernel_rfl) (by kernel_rfl) ?_; clear hs a; intro a hs
   refine wpList_nil ?_
   refine then_n ?_
   refine rounds_in ?_
   refine wp_seq_k fun K680 hK681 => ?_
   refine wp_region_lit ?_
   refine st_lss hs rfl rfl rfl ?_; clear hs w a; intro a w hs
   rw [show (decide ((4 : Int) < 4)) = false from by decide] at hs
   refine wpList_nil ?_
   refine then_n (hK681 _ _ ?_)
   refine wp_seq_k fun K682 hK683 => ?_
   refine wp_cond_false (hs.ev rfl) ?_
   refine wp_exit ?_
   refine th_e ?_
   refine th_e ?_
   refine in_hit ?_
   refine then_n (hK47 _ _ ?_)
   refine wp_seq_k fun K684 hK685 => ?_
   refine wp_region_lit ?_
   refine st_callP (v := .bool (true)) hs .n Try.call10 (alive10_ok _) rfl ?_; clear hs w a; intro a w hs
   refine st_as hs rfl rfl ?_; clear hs w a; intro a w hs
   refine wpList_nil ?_
   refine then_n (hK685 _ _ ?_)
   refine wp_ret ?_
   replace hs := hs.drop (.c (.s (.s (.s (.s (.s (.s (.s (.s (.s (.s (.s (.s (.s (.s (.s (.s (.s (.s (.s (.s (.s (.s (.s .z))))))))))))))))))))))) (.c (.s (.s (.s (.s (.s (.s (.s (.s (.s (.s (.s (.s (.s (.s (.s (.s (.s (.s (.s (.s (.s (.s .z)))))))))))))))))))))) (.c (.s (.s (.s (.s (.s (.s (.s (.s (.s (.s (.s (.s (.s (.s (.s (.s (.s (.s (.s (.s (.s .z))))))))))))))))))))) (.c (.s (.s (.s (.s (.s (.s (.s (.s (.s (.s (.s (.s (.s (.s (.s (.s (.s (.s (.s (.s .z)))))))))))))))))))) (.c (.s (.s (.s (.s (.s (.s (.s (.s (.s (.s (.s (.s (.s (.s (.s (.s (.s (.s (.s .z))))))))))))))))))) (.c (.s (.s (.s (.s (.s (.s (.s (.s (.s (.s (.s (.s (.s (.s (.s (.s (.s (.s .z)))))))))))))))))) (.c (.s (.s (.s (.s (.s (.s (.s (.s (.s (.s (.s (.s (.s (.s (.s (.s (.s .z))))))))))))))))) (.c (.s (.s (.s (.s (.s (.s (.s (.s (.s (.s (.s (.s (.s (.s (.s (.s .z)))))))))))))))) (.c (.s (.s (.s (.s (.s (.s (.s (.s (.s (.s (.s (.s (.s (.s (.s .z))))))))))))))) (.c (.s (.s (.s (.s (.s (.s (.s (.s (.s (.s (.s (.s (.s (.s .z)))))))))))))) (.c (.s (.s (.s (.s (.s (.s (.s (.s (.s (.s (.s (.s (.s .z))))))))))))) (.c (.s (.s (.s (.s (.s (.s (.s (.s (.s (.s (.s (.s .z)))))))))))) (.c (.s (.s (.s (.s (.s (.s (.s (.s (.s (.s (.s .z))))))))))) (.c (.s (.s (.s (.s (.s (.s (.s (.s (.s (.s .z)))))))))) (.c (.s (.s (.s (.s (.s (.s (.s (.s (.s .z))))))))) (.c (.s (.s (.s (.s (.s (.s (.s (.s .z)))))))) (.c (.s (.s (.s (.s (.s (.s (.s .z))))))) (.c (.s (.s (.s (.s (.s (.s .z)))))) (.c (.s (.s (.s (.s (.s .z))))) (.c (.s (.s (.s (.s .z)))) (.c (.s (.s (.s .z))) (.c (.s (.s .z)) (.c (.s .z) (.c .z .n))))))))))))))))))))))))
   exact fin hs rfl rfl ⟨rfl, rfl⟩
  have hth : (eget (idm id) l).isSome = true := by simpa using (by assumption : ((eget (idm id) l).isSome == false) = false)
  have hz := (aM_one (r := (⟨2, idm id, 0, 0, 0, 0, 0, 0, 0#16⟩ : RecR)) (ents_srt hsp.2.2.2.2.2) (by omega) (chk_rem _ hid)).2.1 hth (by first | rfl | (dsimp only; omega))
  rw [← less_1 (t := t) (tm := tm) (time := time) hs0_ (by omega) (by omega) (by omega) (chk_rem _ hid)] at hz
  refine wp_seq_k fun K686 hK687 => ?_
  refine wp_region_lit ?_
  refine st_run 2 [(108, .bool (!((((aE t tm l (t + 1) time t (([(⟨2, idm id, 0, 0, 0, 0, 0, 0, 0#16⟩ : RecR)] : List RecR)) : Nat) : Int) : Int) == 0))), (107, .int .i64 (((aE t tm l (t + 1) time t (([(⟨2, idm id, 0, 0, 0, 0, 0, 0, 0#16⟩ : RecR)] : List RecR)) : Nat) : Int)))] hs .n (by kernel_rfl) (by kernel_rfl) (by kernel_rfl) ?_; clear hs a; intro a hs
  have hb_ : (!((((aE t tm l (t + 1) time t (([(⟨2, idm id, 0, 0, 0, 0, 0, 0, 0#16⟩ : RecR)] : List RecR)) : Nat) : Int) : Int) == 0)) = false := by rw [hz]; rfl
  rw [hb_] at hs; clear hb_
  refine st_run 9 [(117, .bool (false)), (116, undef), (115, undef), (114, undef), (113, undef), (112, undef), (111, undef), (110, undef), (109, .bool (false))] hs .n (by kernel_rfl) (by kernel_rfl) (by kernel_rfl) ?_; clear hs a; intro a hs
  refine wpList_nil ?_
  refine then_n (hK687 _ _ ?_)
  refine wp_cond_false (hs.ev rfl) ?_
  refine wp_skip ?_
  refine in_n ?_
  refine then_n (hK633 _ _ ?_)
  refine wp_region_lit ?_
  refine st_run 2 [(87, .int .i64 (3)), (118, .int .i64 (3))] hs .n (by kernel_rfl) (by kernel_rfl) (by kernel_rfl) ?_; clear hs a; intro a hs
  refine wpList_nil ?_
  refine then_n ?_
  refine rounds_in ?_
  refine wp_seq_k fun K688 hK689 => ?_
  refine wp_region_lit ?_
  refine st_lss hs rfl rfl rfl ?_; clear hs w a; intro a w hs
  rw [show (decide ((3 : Int) < 4)) = true from by decide] at hs
  refine wpList_nil ?_
  refine then_n (hK689 _ _ ?_)
  refine wp_seq_k fun K690 hK691 => ?_
  refine wp_cond_true (hs.ev rfl) ?_
  refine wp_skip ?_
  refine then_n (hK691 _ _ ?_)
  refine wp_seq_k fun K692 hK693 => ?_
  refine wp_block ?_
  refine wp_seq_k fun K694 hK695 => ?_
  refine wp_region_lit ?_
  refine st_ia (j := 3) hs rfl rfl (rd_blk (m := 4) (size := 9) (hs.mem.del (.s (.s (.s (.s (.s (.s (.s (.s (.s (.s (.s (.s (.s .z)))))))))))))) rfl (by decide)) (by decide) (by omega) Try.underlying25 Try.sizeOf45 rfl ?_; clear hs w a; intro a w hs
  refine st_ldA (cs := [.int .i64 (3), .int .i64 (idm id), .int .i64 (0), .int .i64 (0), .int .i64 (0), .int .i64 (0), .int .i64 (0), .int .i64 (0), .int .u16 (0)]) hs rfl (rd_blk (m := 4) (size := 9) (hs.mem.del (.s (.s (.s (.s (.s (.s (.s (.s (.s (.s (.s (.s (.s .z)))))))))))))) rfl (by decide)) (by rfl) (by simp) (by decide) Try.isAgg45 Try.sizeOf45 rfl ?_; clear hs w a; intro a w hs
  refine st_alloc (cs := [.int .i64 (0), .int .i64 (0), .int .i64 (0), .int .i64 (0), .int .i64 (0), .int .i64 (0), .int .i64 (0), .int .i64 (0), .int .u16 (0)]) hs Try.zeroValue45 rfl rfl ?_; clear hs w a; intro g696 a w hs
  refine st_stBA hs rfl rfl .z (.z (.c (.c (.c (.c (.c (.c (.c (.c (.c .n)))))))))) (ones_c rfl (ones_c rfl (ones_c rfl (ones_c rfl (ones_c rfl (ones_c rfl (ones_c rfl (ones_c rfl (ones_c rfl ones_n))))))))) Try.sizeOf45 rfl ?_; clear hs w a; intro a w hs
  refine wpList_nil ?_
  refine then_n (hK695 _ _ ?_)
  refine wp_seq_k fun K697 hK698 => ?_
  refine wp_region_lit ?_
  refine st_ldBA hs rfl .z (.z (.c (.c (.c (.c (.c (.c (.c (.c (.c .n)))))))))) Try.isAgg45 Try.sizeOf45 rfl ?_; clear hs w a; intro a w hs
  refine st_bs (cs := [.int .i64 (3), .int .i64 (idm id), .int .i64 (0), .int .i64 (0), .int .i64 (0), .int .i64 (0), .int .i64 (0), .int .i64 (0), .int .u16 (0)]) hs (.c .n) (.c rfl .n) Try.underlying25 (ie := Try.t45) rfl rfl rfl rfl (by decide) (by decide) rfl (by decide) rfl rfl rfl ?_; clear hs w a; intro g699 a w hs
  refine st_fa hs rfl Try.underlying27 rfl Try.sizeOf25 (by decide) (o := 3) rfl rfl ?_; clear hs w a; intro a w hs
  refine st_stB hs rfl rfl (.s (.s (.s (.s .z)))) (.s (.s (.s .z))) rfl Try.sizeOf25 ?_; clear hs w a; intro a w hs
  refine wpList_nil ?_
  refine then_n (hK698 _ _ ?_)
  refine wp_seq_k fun K700 hK701 => ?_
  refine wp_region_lit ?_
  refine st_run 2 [(96, .agg #[.int .i64 (t + 1), .int .i64 (time), .int .i64 (t), .slice (some ⟨g699, 0, none⟩) 1 1]), (95, .agg #[.int .i64 (t), .int .i64 (tm), u])] hs (.c (hs.mem.del (.s (.s (.s (.s (.s (.s (.s (.s (.s (.s (.s (.s (.s (.s (.s (.s (.s (.s (.s (.s (.s .z)))))))))))))))))))))) (.c (hs.mem.del .z) .n)) (by kernel_rfl) (by kernel_rfl) (by kernel_rfl) ?_; clear hs a; intro a hs
  refine st_call hs (.c rfl (.c rfl .n)) Try.call11 .n (dapply_ok t tm _ l (t + 1) time t _ (([(⟨3, idm id, 0, 0, 0, 0, 0, 0, 0#16⟩ : RecR)] : List RecR)) _ (by omega) (by omega) (by omega) (by omega) (by omega) (hs.rd0 hc) (rd_blk (m := 1) (size := 9) (hs.mem.del (.s .z)) rfl (by decide)) (one_rwf (wf_mk (by omega) (by omega) (by omega) (by omega) (by omega) (by omega) (by omega) (by omega)))) rfl ?_; clear hs w a; rintro _ _ a w ⟨v702, rfl, rfl⟩ hs; simp only [List.cons_append, List.nil_append] at hs
  have hk703 := aS_rng (at_ := t) (atm := tm) (a := l) (gt := (t + 1)) (gtm := time) (gb := t) (rl := ([(⟨3, idm id, 0, 0, 0, 0, 0, 0, 0#16⟩ : RecR)] : List RecR))
  refine st_run 3 [(99, .int .i64 (((aE t tm l (t + 1) time t (([(⟨3, idm id, 0, 0, 0, 0, 0, 0, 0#16⟩ : RecR)] : List RecR)) : Nat) : Int))), (98, .agg #[.int .i64 ((aS t tm l (t + 1) time t (([(⟨3, idm id, 0, 0, 0, 0, 0, 0, 0#16⟩ : RecR)] : List RecR))).t), .int .i64 ((aS t tm l (t + 1) time t (([(⟨3, idm id, 0, 0, 0, 0, 0, 0, 0#16⟩ : RecR)] : List RecR))).tm), v702]), (94, .tuple #[.agg #[.int .i64 ((aS t tm l (t + 1) time t (([(⟨3, idm id, 0, 0, 0, 0, 0, 0, 0#16⟩ : RecR)] : List RecR))).t), .int .i64 ((aS t tm l (t + 1) time t (([(⟨3, idm id, 0, 0, 0, 0, 0, 0, 0#16⟩ : RecR)] : List RecR))).tm), v702], .int .i64 (((aE t tm l (t + 1) time t (([(⟨3, idm id, 0, 0, 0, 0, 0, 0, 0#16⟩ : RecR)] : List RecR)) : Nat) : Int))])] hs .n (by kernel_rfl) (by kernel_rfl) (by kernel_rfl) ?_; clear hs a; intro a hs
  refine st_alloc (cs := [.int .i64 (0), .int .i64 (0), .slice none 0 0]) hs Try.zeroValue24 rfl rfl ?_; clear hs w a; intro g704 a w hs
  refine st_stBA hs rfl rfl .z (.z (.c (.c (.c .n)))) (ones_c rfl (ones_c rfl (ones_c (rd_row (hs.mem.del (.s .z))).isSl.one ones_n))) Try.sizeOf24 rfl ?_; clear hs w a; intro a w hs
  refine st_as hs rfl rfl ?_; clear hs w a; intro a w hs
  refine wpList_nil ?_
  refine then_n (hK701 _ _ ?_)
  refine wp_seq_k fun K705 hK706 => ?_
  refine wp_region_lit ?_
  refine st_run 4 [(103, .bool (false)), (102, .int .i64 (3)), (101, .pointer (some ⟨g696, 0, none⟩)), (100, .bool ((eget (idm id) l).isSome))] hs (.c (hs.mem.del (.s (.s (.s (.s .z))))) .n) (by kernel_rfl) (by kernel_rfl) (by kernel_rfl) ?_; clear hs a; intro a hs
  refine st_eqb hs rfl rfl Try.underlying4 rfl ?_; clear hs w a; intro a w hs
  refine wpList_nil ?_
  refine then_n (hK706 _ _ ?_)
  refine wp_if hs rfl (fun hc707 => ?_) (fun hc707 => ?_)
  ·
   have hth : (eget (idm id) l).isSome = false := by simpa using (by assumption : ((eget (idm id) l).isSome == false) = true)
   have hz := (aM_one (r := (⟨3, idm id, 0, 0, 0, 0, 0, 0, 0#16⟩ : RecR)) (ents_srt hsp.2.2.2.2.2) (by omega) (chk_tel _ hid)).2.2.2 hth (by first | rfl | (dsimp only; omega))
   rw [← less_1 (t := t) (tm := tm) (time := time) hs0_ (by omega) (by omega) (by omega) (chk_tel _ hid)] at hz
   refine wp_seq_k fun K708 hK709 => ?_
   refine wp_region_lit ?_
   refine st_run 2 [(106, .bool (!((((aE t tm l (t + 1) time t (([(⟨3, idm id, 0, 0, 0, 0, 0, 0, 0#16⟩ : RecR)] : List RecR)) : Nat) : Int) : Int) == 15))), (105, .int .i64 (((aE t tm l (t + 1) time t (([(⟨3, idm id, 0, 0, 0, 0, 0, 0, 0#16⟩ : RecR)] : List RecR)) : Nat) : Int)))] hs .n (by kernel_rfl) (by kernel_rfl) (by kernel_rfl) ?_; clear hs a; intro a hs
   have hb_ : (!((((aE t tm l (t + 1) time t (([(⟨3, idm id, 0, 0, 0, 0, 0, 0, 0#16⟩ : RecR)] : List RecR)) : Nat) : Int) : Int) == 15)) = false := by rw [hz]; rfl
   rw [hb_] at hs; clear hb_
   refine wpList_nil ?_
   refine then_n (hK709 _ _ ?_)
   refine wp_cond_false (hs.ev rfl) ?_
   refine wp_skip ?_
   refine in_n ?_
   refine then_n (hK693 _ _ ?_)
   refine wp_region_lit ?_
   refine st_run 2 [(87, .int .i64 (4)), (118, .int .i64 (4))] hs .n (by kernel_rfl) (by kernel_rfl) (by kernel_rfl) ?_; clear hs a; intro a hs
   refine wpList_nil ?_
   refine then_n ?_
   refine rounds_in ?_
   refine wp_seq_k fun K710 hK711 => ?_
   refine wp_region_lit ?_
   refine st_lss hs rfl rfl rfl ?_; clear hs w a; intro a w hs
   rw [show (decide ((4 : Int) < 4)) = false from by decide] at hs
   refine wpList_nil ?_
   refine then_n (hK711 _ _ ?_)
   refine wp_seq_k fun K712 hK713 => ?_
   refine wp_cond_false (hs.ev rfl) ?_
   refine wp_exit ?_
   refine th_e ?_
   refine th_e ?_
   refine in_hit ?_
   refine then_n (hK47 _ _ ?_)
   refine wp_seq_k fun K714 hK715 => ?_
   refine wp_region_lit ?_
   refine st_callP (v := .bool (true)) hs .n Try.call10 (alive10_ok _) rfl ?_; clear hs w a; intro a w hs
   refine st_as hs rfl rfl ?_; clear hs w a; intro a w hs
   refine wpList_nil ?_
   refine then_n (hK715 _ _ ?_)
   refine wp_ret ?_
   replace hs := hs.drop (.c (.s (.s (.s (.s (.s (.s (.s (.s (.s (.s (.s (.s (.s (.s (.s (.s (.s (.s (.s (.s (.s (.s (.s .z))))))))))))))))))))))) (.c (.s (.s (.s (.s (.s (.s (.s (.s (.s (.s (.s (.s (.s (.s (.s (.s (.s (.s (.s (.s (.s (.s .z)))))))))))))))))))))) (.c (.s (.s (.s (.s (.s (.s (.s (.s (.s (.s (.s (.s (.s (.s (.s (.s (.s (.s (.s (.s (.s .z))))))))))))))))))))) (.c (.s (.s (.s (.s (.s (.s (.s (.s (.s (.s (.s (.s (.s (.s (.s (.s (.s (.s (.s (.s .z)))))))))))))))))))) (.c (.s (.s (.s (.s (.s (.s (.s (.s (.s (.s (.s (.s (.s (.s (.s (.s (.s (.s (.s .z))))))))))))))))))) (.c (.s (.s (.s (.s (.s (.s (.s (.s (.s (.s (.s (.s (.s (.s (.s (.s (.s (.s .z)))))))))))))))))) (.c (.s (.s (.s (.s (.s (.s (.s (.s (.s (.s (.s (.s (.s (.s (.s (.s (.s .z))))))))))))))))) (.c (.s (.s (.s (.s (.s (.s (.s (.s (.s (.s (.s (.s (.s (.s (.s (.s .z)))))))))))))))) (.c (.s (.s (.s (.s (.s (.s (.s (.s (.s (.s (.s (.s (.s (.s (.s .z))))))))))))))) (.c (.s (.s (.s (.s (.s (.s (.s (.s (.s (.s (.s (.s (.s (.s .z)))))))))))))) (.c (.s (.s (.s (.s (.s (.s (.s (.s (.s (.s (.s (.s (.s .z))))))))))))) (.c (.s (.s (.s (.s (.s (.s (.s (.s (.s (.s (.s (.s .z)))))))))))) (.c (.s (.s (.s (.s (.s (.s (.s (.s (.s (.s (.s .z))))))))))) (.c (.s (.s (.s (.s (.s (.s (.s (.s (.s (.s .z)))))))))) (.c (.s (.s (.s (.s (.s (.s (.s (.s (.s .z))))))))) (.c (.s (.s (.s (.s (.s (.s (.s (.s .z)))))))) (.c (.s (.s (.s (.s (.s (.s (.s .z))))))) (.c (.s (.s (.s (.s (.s (.s .z)))))) (.c (.s (.s (.s (.s (.s .z))))) (.c (.s (.s (.s (.s .z)))) (.c (.s (.s (.s .z))) (.c (.s (.s .z)) (.c (.s .z) (.c .z .n))))))))))))))))))))))))
   exact fin hs rfl rfl ⟨rfl, rfl⟩
  have hth : (eget (idm id) l).isSome = true := by simpa using (by assumption : ((eget (idm id) l).isSome == false) = false)
  have hz := (aM_one (r := (⟨3, idm id, 0, 0, 0, 0, 0, 0, 0#16⟩ : RecR)) (ents_srt hsp.2.2.2.2.2) (by omega) (chk_tel _ hid)).2.1 hth (by first | rfl | (dsimp only; omega))
  rw [← less_1 (t := t) (tm := tm) (time := time) hs0_ (by omega) (by omega) (by omega) (chk_tel _ hid)] at hz
  refine wp_seq_k fun K716 hK717 => ?_
  refine wp_region_lit ?_
  refine st_run 2 [(108, .bool (!((((aE t tm l (t + 1) time t (([(⟨3, idm id, 0, 0, 0, 0, 0, 0, 0#16⟩ : RecR)] : List RecR)) : Nat) : Int) : Int) == 0))), (107, .int .i64 (((aE t tm l (t + 1) time t (([(⟨3, idm id, 0, 0, 0, 0, 0, 0, 0#16⟩ : RecR)] : List RecR)) : Nat) : Int)))] hs .n (by kernel_rfl) (by kernel_rfl) (by kernel_rfl) ?_; clear hs a; intro a hs
  have hb_ : (!((((aE t tm l (t + 1) time t (([(⟨3, idm id, 0, 0, 0, 0, 0, 0, 0#16⟩ : RecR)] : List RecR)) : Nat) : Int) : Int) == 0)) = false := by rw [hz]; rfl
  rw [hb_] at hs; clear hb_
  refine st_run 9 [(117, .bool (false)), (116, undef), (115, undef), (114, undef), (113, undef), (112, undef), (111, undef), (110, undef), (109, .bool (false))] hs .n (by kernel_rfl) (by kernel_rfl) (by kernel_rfl) ?_; clear hs a; intro a hs
  refine wpList_nil ?_
  refine then_n (hK717 _ _ ?_)
  refine wp_cond_false (hs.ev rfl) ?_
  refine wp_skip ?_
  refine in_n ?_
  refine then_n (hK693 _ _ ?_)
  refine wp_region_lit ?_
  refine st_run 2 [(87, .int .i64 (4)), (118, .int .i64 (4))] hs .n (by kernel_rfl) (by kernel_rfl) (by kernel_rfl) ?_; clear hs a; intro a hs
  refine wpList_nil ?_
  refine then_n ?_
  refine rounds_in ?_
  refine wp_seq_k fun K718 hK719 => ?_
  refine wp_region_lit ?_
  refine st_lss hs rfl rfl rfl ?_; clear hs w a; intro a w hs
  rw [show (decide ((4 : Int) < 4)) = false from by decide] at hs
  refine wpList_nil ?_
  refine then_n (hK719 _ _ ?_)
  refine wp_seq_k fun K720 hK721 => ?_
  refine wp_cond_false (hs.ev rfl) ?_
  refine wp_exit ?_
  refine th_e ?_
  refine th_e ?_
  refine in_hit ?_
  refine then_n (hK47 _ _ ?_)
  refine wp_seq_k fun K722 hK723 => ?_
  refine wp_region_lit ?_
  refine st_callP (v := .bool (true)) hs .n Try.call10 (alive10_ok _) rfl ?_; clear hs w a; intro a w hs
  refine st_as hs rfl rfl ?_; clear hs w a; intro a w hs
  refine wpList_nil ?_
  refine then_n (hK723 _ _ ?_)
  refine wp_ret ?_
  replace hs := hs.drop (.c (.s (.s (.s (.s (.s (.s (.s (.s (.s (.s (.s (.s (.s (.s (.s (.s (.s (.s (.s (.s (.s (.s (.s .z))))))))))))))))))))))) (.c (.s (.s (.s (.s (.s (.s (.s (.s (.s (.s (.s (.s (.s (.s (.s (.s (.s (.s (.s (.s (.s (.s .z)))))))))))))))))))))) (.c (.s (.s (.s (.s (.s (.s (.s (.s (.s (.s (.s (.s (.s (.s (.s (.s (.s (.s (.s (.s (.s .z))))))))))))))))))))) (.c (.s (.s (.s (.s (.s (.s (.s (.s (.s (.s (.s (.s (.s (.s (.s (.s (.s (.s (.s (.s .z)))))))))))))))))))) (.c (.s (.s (.s (.s (.s (.s (.s (.s (.s (.s (.s (.s (.s (.s (.s (.s (.s (.s (.s .z))))))))))))))))))) (.c (.s (.s (.s (.s (.s (.s (.s (.s (.s (.s (.s (.s (.s (.s (.s (.s (.s (.s .z)))))))))))))))))) (.c (.s (.s (.s (.s (.s (.s (.s (.s (.s (.s (.s (.s (.s (.s (.s (.s (.s .z))))))))))))))))) (.c (.s (.s (.s (.s (.s (.s (.s (.s (.s (.s (.s (.s (.s (.s (.s (.s .z)))))))))))))))) (.c (.s (.s (.s (.s (.s (.s (.s (.s (.s (.s (.s (.s (.s (.s (.s .z))))))))))))))) (.c (.s (.s (.s (.s (.s (.s (.s (.s (.s (.s (.s (.s (.s (.s .z)))))))))))))) (.c (.s (.s (.s (.s (.s (.s (.s (.s (.s (.s (.s (.s (.s .z))))))))))))) (.c (.s (.s (.s (.s (.s (.s (.s (.s (.s (.s (.s (.s .z)))))))))))) (.c (.s (.s (.s (.s (.s (.s (.s (.s (.s (.s (.s .z))))))))))) (.c (.s (.s (.s (.s (.s (.s (.s (.s (.s (.s .z)))))))))) (.c (.s (.s (.s (.s (.s (.s (.s (.s (.s .z))))))))) (.c (.s (.s (.s (.s (.s (.s (.s (.s .z)))))))) (.c (.s (.s (.s (.s (.s (.s (.s .z))))))) (.c (.s (.s (.s (.s (.s (.s .z)))))) (.c (.s (.s (.s (.s (.s .z))))) (.c (.s (.s (.s (.s .z)))) (.c (.s (.s (.s .z))) (.c (.s (.s .z)) (.c (.s .z) (.c .z .n))))))))))))))))))))))))
  exact fin hs rfl rfl ⟨rfl, rfl⟩
end Go.Proofs.Ytbioemaipghagaa
