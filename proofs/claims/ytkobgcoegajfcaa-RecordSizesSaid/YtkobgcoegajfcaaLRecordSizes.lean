/- Walks of RecordSizes: what each function does, over the program of this seat. Printed by a program of this session. -/
import Derived.Test.YtkobgcoegajfcaaWrec5
import Derived.Test.YtkobgcoegajfcaaSxRrec
namespace Go.Proofs.Ytkobgcoegajfcaa
open Go Go.Sx Go.RowKit
set_option linter.unusedVariables false
set_option linter.unusedSimpArgs false
set_option maxRecDepth 4000
set_option maxHeartbeats 1000000

theorem recordSizes_ok (r : RecR) (last : Int) (w0 : World) (hw : r.wf) (hl : -9223372036854775808 ≤ last ∧ last ≤ 9223372036854775807) : Calls Try.prog 4 #[.agg #[.int .i64 (r.k), .int .i64 (r.id), .int .i64 (r.p0), .int .i64 (r.p1), .int .i64 (r.p2), .int .i64 (r.v0), .int .i64 (r.v1), .int .i64 (r.v2), .int .u16 ((((r.a).toNat : Nat) : Int))], .int .i64 last] w0 (RetV w0 (.bool true)) := by
  have hwf := hw.facts
  have hlb := length_recB r last
  have hva := vlen10 r.a.toNat
  have hva2 : vlen (r.a.setWidth 64).toNat = (vput r.a.toNat).length := by rw [sw64]; rfl
  have hs0 := szN_le r last 0
  have hvX := vlen_le (BitVec.ofInt 64 (r.id - last - 1)).toNat
  have hvp0 := vlen_le (zigI r.p0).toNat
  have hvp1 := vlen_le (zigI r.p1).toNat
  have hvp2 := vlen_le (zigI r.p2).toNat
  have hvv0 := vlen_le (zigI r.v0).toNat
  have hvv1 := vlen_le (zigI r.v1).toNat
  have hvv2 := vlen_le (zigI r.v2).toNat
  refine enter (F0 := [(0, .agg #[.int .i64 (r.k), .int .i64 (r.id), .int .i64 (r.p0), .int .i64 (r.p1), .int .i64 (r.p2), .int .i64 (r.v0), .int .i64 (r.v1), .int .i64 (r.v2), .int .u16 ((((r.a).toNat : Nat) : Int))]), (1, .int .i64 (last))]) Try.func4 rfl rfl rfl (.c (.c .n)) (Mem.nil _) fun a w hs => ?_
  refine wp_seq_k fun K1 hK2 => ?_
  refine wp_region_lit ?_
  refine st_box (cs := [.int .i64 (r.k), .int .i64 (r.id), .int .i64 (r.p0), .int .i64 (r.p1), .int .i64 (r.p2), .int .i64 (r.v0), .int .i64 (r.v1), .int .i64 (r.v2), .int .u16 ((((r.a).toNat : Nat) : Int))]) hs rfl rfl rfl ?_; clear hs w a; intro g3 a w hs
  refine st_as hs rfl rfl ?_; clear hs w a; intro a w hs
  refine wpList_nil ?_
  refine then_n (hK2 _ _ ?_)
  refine wp_seq_k fun K4 hK5 => ?_
  refine wp_region_lit ?_
  refine st_ldBA hs rfl .z (.z (.c (.c (.c (.c (.c (.c (.c (.c (.c .n)))))))))) Try.isAgg25 Try.sizeOf25 rfl ?_; clear hs w a; intro a w hs
  refine st_mv hs rfl rfl ?_; clear hs w a; intro a w hs
  refine st_call hs (.c rfl (.c rfl .n)) Try.call18 .n (write_ok r last _ hw (by omega)) rfl ?_; clear hs w a; rintro _ _ a w ⟨v6, rfl, rfl⟩ hs; simp only [List.cons_append, List.nil_append] at hs
  have hk7 := length_recB r last
  refine st_mv hs rfl rfl ?_; clear hs w a; intro a w hs
  refine st_ex hs rfl .z rfl ?_; clear hs w a; intro a w hs
  refine st_ex hs rfl (.s .z) rfl ?_; clear hs w a; intro a w hs
  refine st_as hs rfl rfl ?_; clear hs w a; intro a w hs
  refine st_as hs rfl rfl ?_; clear hs w a; intro a w hs
  refine wpList_nil ?_
  refine then_n (hK5 _ _ ?_)
  refine wp_seq_k fun K8 hK9 => ?_
  refine wp_seq_k fun K10 hK11 => ?_
  refine wp_region_lit ?_
  refine st_mv hs rfl rfl ?_; clear hs w a; intro a w hs
  refine st_neq hs rfl rfl rfl ?_; clear hs w a; intro a w hs
  refine wpList_nil ?_
  refine then_n (hK11 _ _ ?_)
  refine wp_if hs rfl (fun hc12 => ?_) (fun hc12 => ?_)
  ·
   replace hc12 := not_t hc12
   replace hc12 := ne_of_beq_f hc12
   refine wp_seq_k fun K13 hK14 => ?_
   refine wp_region_lit ?_
   refine st_callP (v := .bool (true)) hs .n Try.call20 (alive08_ok _) rfl ?_; clear hs w a; intro a w hs
   refine st_mv hs rfl rfl ?_; clear hs w a; intro a w hs
   refine st_guardT hs rfl rfl rfl ?_
   refine st_mv hs rfl rfl ?_; clear hs w a; intro a w hs
   refine st_guardT hs rfl rfl rfl ?_
   refine st_len hs rfl (rd_row (hs.mem.del .z)).isSl Try.underlying26 rfl ?_; clear hs w a; intro a w hs
   refine st_guardT hs rfl rfl rfl ?_
   refine st_eql hs rfl rfl rfl ?_; clear hs w a; intro a w hs
   have hb_ : (((((recB r last).length : Nat) : Int) : Int) == 0) = true := by rw [recB_err (by omega)]; rfl
   rw [hb_] at hs; clear hb_
   refine st_pickT hs rfl rfl rfl ?_; clear hs w a; intro a w hs
   refine st_as hs rfl rfl ?_; clear hs w a; intro a w hs
   refine wpList_nil ?_
   refine then_n (hK14 _ _ ?_)
   refine wp_ret ?_
   refine th_r ?_
   replace hs := hs.drop (.c (.s .z) (.c .z .n))
   exact fin hs rfl rfl ⟨rfl, rfl⟩
  replace hc12 := not_f hc12
  replace hc12 := eq_of_beq hc12
  have hre : recErr r last = 0 := by omega
  have hpp := recErr_parts hre
  have hcc := recChk_parts hpp.1
  refine wp_skip ?_
  refine then_n (hK9 _ _ ?_)
  refine wp_seq_k fun K15 hK16 => ?_
  refine wp_region_lit ?_
  refine st_fa hs rfl Try.underlying25 rfl Try.sizeOf3 (by decide) (o := 1) rfl rfl ?_; clear hs w a; intro a w hs
  refine st_ldB hs rfl (.s .z) (.s .z) Try.isAgg3 rfl ?_; clear hs w a; intro a w hs
  refine st_mv hs rfl rfl ?_; clear hs w a; intro a w hs
  refine st_subR hs rfl rfl (by omega) rfl ?_; clear hs w a; intro a w hs
  refine st_subR hs rfl rfl (by omega) rfl ?_; clear hs w a; intro a w hs
  refine st_cv_u64 hs rfl Try.underlying3 Try.underlying37 rfl ?_; clear hs w a; intro a w hs
  refine st_callP (v := .int .i64 (((vlen (BitVec.ofInt 64 ((r.id - last) - 1)).toNat : Nat) : Int))) hs (.c rfl .n) Try.call23 (size_ok (BitVec.ofInt 64 ((r.id - last) - 1)) _) rfl ?_; clear hs w a; intro a w hs
  refine st_addR hs rfl rfl (by omega) rfl ?_; clear hs w a; intro a w hs
  refine st_as hs rfl rfl ?_; clear hs w a; intro a w hs
  replace hs := hs.reslot (d := 7) (v := .int .i64 ((((vlen (BitVec.ofInt 64 ((r.id - last) - 1)).toNat : Nat) : Int)) + 1)) (v' := .int .i64 ((((szN r last 0) : Nat) : Int))) rfl (Option.some.inj rfl)
  refine wpList_nil ?_
  refine then_n (hK16 _ _ ?_)
  refine wp_seq_k fun K17 hK18 => ?_
  refine wp_region_lit ?_
  refine st_fa hs rfl Try.underlying25 rfl Try.sizeOf22 (by decide) (o := 2) rfl rfl ?_; clear hs w a; intro a w hs
  refine st_iaB hs rfl rfl Try.underlying22 (by decide) (by decide) Try.sizeOf2 (o' := 2) rfl rfl ?_; clear hs w a; intro a w hs
  refine st_ldB hs rfl (.s .z) (.s (.s .z)) Try.isAgg2 rfl ?_; clear hs w a; intro a w hs
  refine st_fa hs rfl Try.underlying25 rfl Try.sizeOf22 (by decide) (o := 2) rfl rfl ?_; clear hs w a; intro a w hs
  refine st_iaB hs rfl rfl Try.underlying22 (by decide) (by decide) Try.sizeOf2 (o' := 3) rfl rfl ?_; clear hs w a; intro a w hs
  refine st_ldB hs rfl (.s .z) (.s (.s (.s .z))) Try.isAgg2 rfl ?_; clear hs w a; intro a w hs
  refine st_fa hs rfl Try.underlying25 rfl Try.sizeOf22 (by decide) (o := 2) rfl rfl ?_; clear hs w a; intro a w hs
  refine st_iaB hs rfl rfl Try.underlying22 (by decide) (by decide) Try.sizeOf2 (o' := 4) rfl rfl ?_; clear hs w a; intro a w hs
  refine st_ldB hs rfl (.s .z) (.s (.s (.s (.s .z)))) Try.isAgg2 rfl ?_; clear hs w a; intro a w hs
  refine st_fa hs rfl Try.underlying25 rfl Try.sizeOf22 (by decide) (o := 5) rfl rfl ?_; clear hs w a; intro a w hs
  refine st_iaB hs rfl rfl Try.underlying22 (by decide) (by decide) Try.sizeOf2 (o' := 5) rfl rfl ?_; clear hs w a; intro a w hs
  refine st_ldB hs rfl (.s .z) (.s (.s (.s (.s (.s .z))))) Try.isAgg2 rfl ?_; clear hs w a; intro a w hs
  refine st_fa hs rfl Try.underlying25 rfl Try.sizeOf22 (by decide) (o := 5) rfl rfl ?_; clear hs w a; intro a w hs
  refine st_iaB hs rfl rfl Try.underlying22 (by decide) (by decide) Try.sizeOf2 (o' := 6) rfl rfl ?_; clear hs w a; intro a w hs
  refine st_ldB hs rfl (.s .z) (.s (.s (.s (.s (.s (.s .z)))))) Try.isAgg2 rfl ?_; clear hs w a; intro a w hs
  refine st_fa hs rfl Try.underlying25 rfl Try.sizeOf22 (by decide) (o := 5) rfl rfl ?_; clear hs w a; intro a w hs
  refine st_iaB hs rfl rfl Try.underlying22 (by decide) (by decide) Try.sizeOf2 (o' := 7) rfl rfl ?_; clear hs w a; intro a w hs
  refine st_ldB hs rfl (.s .z) (.s (.s (.s (.s (.s (.s (.s .z))))))) Try.isAgg2 rfl ?_; clear hs w a; intro a w hs
  refine st_bs (cs := [.int .i64 (r.p0), .int .i64 (r.p1), .int .i64 (r.p2), .int .i64 (r.v0), .int .i64 (r.v1), .int .i64 (r.v2)]) hs (.c (.c (.c (.c (.c (.c .n)))))) (.c rfl (.c rfl (.c rfl (.c rfl (.c rfl (.c rfl .n)))))) Try.underlying38 (ie := Try.t2) rfl rfl rfl rfl (by decide) (by decide) rfl (by decide) rfl rfl rfl ?_; clear hs w a; intro g19 a w hs
  refine st_as hs rfl rfl ?_; clear hs w a; intro a w hs
  refine wpList_nil ?_
  refine then_n (hK18 _ _ ?_)
  refine wp_seq_k fun K20 hK21 => ?_
  refine wp_seq_k fun K22 hK23 => ?_
  refine wp_region_lit ?_
  refine st_mv hs rfl rfl ?_; clear hs w a; intro a w hs
  refine st_len hs rfl (rd_blk (m := 6) (size := 1) (hs.mem.del .z) rfl (by decide)).isSl Try.underlying38 rfl ?_; clear hs w a; intro a w hs
  replace hs := hs.recell (v' := .int .i64 (6)) (Option.some.inj rfl)
  refine st_mv hs rfl rfl ?_; clear hs w a; intro a w hs
  refine wpList_nil ?_
  refine then_n (hK23 _ _ ?_)
  refine wp_block ?_
  refine wp_loop_rounds 7 ?_
  refine rounds_in ?_
  refine wp_cut (fun a w => St 120 [(2, .pointer (some ⟨g3, 0, none⟩)), (5, v6), (6, .int .i64 (((recErr r last : Nat) : Int))), (7, .int .i64 ((((szN r last 1) : Nat) : Int))), (8, .slice (some ⟨g19, 0, none⟩) 6 6), (52, .slice (some ⟨g19, 0, none⟩) 6 6), (53, .int .i64 (6)), (54, .int .i64 (1))] w0 [] [blk g19 [.int .i64 (r.p0), .int .i64 (r.p1), .int .i64 (r.p2), .int .i64 (r.v0), .int .i64 (r.v1), .int .i64 (r.v2)] 2, row v6 5 1 ((recB r last).length) (bytesV (recB r last)), blk g3 [.int .i64 (r.k), .int .i64 (r.id), .int .i64 (r.p0), .int .i64 (r.p1), .int .i64 (r.p2), .int .i64 (r.v0), .int .i64 (r.v1), .int .i64 (r.v2), .int .u16 ((((r.a).toNat : Nat) : Int))] 25] a w) ?_ ?_
  ·
   refine wp_seq_k fun K24 hK25 => ?_
   refine wp_region_lit ?_
   refine st_lss hs rfl rfl rfl ?_; clear hs w a; intro a w hs
   rw [show (decide ((0 : Int) < 6)) = true from by decide] at hs
   refine wpList_nil ?_
   refine then_n (hK25 _ _ ?_)
   refine wp_seq_k fun K26 hK27 => ?_
   refine wp_cond_true (hs.ev rfl) ?_
   refine wp_skip ?_
   refine then_n (hK27 _ _ ?_)
   refine wp_seq_k fun K28 hK29 => ?_
   refine wp_block ?_
   refine wp_seq_k fun K30 hK31 => ?_
   refine wp_region_lit ?_
   refine st_ia1 (j := 0) hs rfl rfl (rd_blk (m := 6) (size := 1) (hs.mem.del .z) rfl (by decide)) (by decide) (by omega) Try.underlying38 Try.sizeOf2 rfl ?_; clear hs w a; intro a w hs
   refine st_ld (u := .int .i64 (r.p0)) hs rfl (rd_blk (m := 6) (size := 1) (hs.mem.del .z) rfl (by decide)) (by rfl) Try.isAgg2 rfl ?_; clear hs w a; intro a w hs
   refine st_as hs rfl rfl ?_; clear hs w a; intro a w hs
   refine wpList_nil ?_
   refine then_n (hK31 _ _ ?_)
   refine wp_seq_k fun K32 hK33 => ?_
   refine wp_region_lit ?_
   refine st_fa hs rfl Try.underlying25 rfl Try.sizeOf3 (by decide) (o := 0) rfl rfl ?_; clear hs w a; intro a w hs
   refine st_ldB hs rfl (.s (.s .z)) .z Try.isAgg3 rfl ?_; clear hs w a; intro a w hs
   refine st_eql hs rfl rfl rfl ?_; clear hs w a; intro a w hs
   refine st_mv hs rfl rfl ?_; clear hs w a; intro a w hs
   refine st_part (b := (r.k : Int) == 0) (fun hc34 => ?_) (fun hc34 => ?_)
   ·
    rw [hc34] at hs
    replace hc34 := eq_of_beq hc34
    refine st_guardF hs rfl rfl rfl rfl rfl ?_; clear hs w a; intro a w hs
    refine st_guardF hs rfl rfl rfl rfl rfl ?_; clear hs w a; intro a w hs
    refine st_guardF hs rfl rfl rfl rfl rfl ?_; clear hs w a; intro a w hs
    refine st_pickT hs rfl rfl rfl ?_; clear hs w a; intro a w hs
    refine st_mv hs rfl rfl ?_; clear hs w a; intro a w hs
    refine st_guardF hs rfl rfl rfl rfl rfl ?_; clear hs w a; intro a w hs
    refine st_guardF hs rfl rfl rfl rfl rfl ?_; clear hs w a; intro a w hs
    refine st_guardF hs rfl rfl rfl rfl rfl ?_; clear hs w a; intro a w hs
    refine st_guardF hs rfl rfl rfl rfl rfl ?_; clear hs w a; intro a w hs
    refine st_guardU hs rfl rfl rfl rfl ?_; clear hs w a; intro a w hs
    refine st_guardU hs rfl rfl rfl rfl ?_; clear hs w a; intro a w hs
    refine st_guardF hs rfl rfl rfl rfl rfl ?_; clear hs w a; intro a w hs
    refine st_pickT hs rfl rfl rfl ?_; clear hs w a; intro a w hs
    refine wpList_nil ?_
    refine then_n (hK33 _ _ ?_)
    refine wp_cond_true (hs.ev rfl) ?_
    refine wp_region_lit ?_
    refine st_mv hs rfl rfl ?_; clear hs w a; intro a w hs
    refine st_mv hs rfl rfl ?_; clear hs w a; intro a w hs
    refine st_callP (v := .int .u64 ((((zigI r.p0).toNat : Nat) : Int))) hs (.c rfl .n) Try.call24 (zig_ok r.p0 _ (by omega)) rfl ?_; clear hs w a; intro a w hs
    refine st_callP (v := .int .i64 (((vlen (zigI r.p0).toNat : Nat) : Int))) hs (.c rfl .n) Try.call23 (size_ok (zigI r.p0) _) rfl ?_; clear hs w a; intro a w hs
    refine st_addR hs rfl rfl (by omega) rfl ?_; clear hs w a; intro a w hs
    refine st_as hs rfl rfl ?_; clear hs w a; intro a w hs
    refine wpList_nil ?_
    refine in_n ?_
    refine then_n (hK29 _ _ ?_)
    refine wp_region_lit ?_
    refine st_addR hs rfl rfl (by omega) rfl ?_; clear hs w a; intro a w hs
    rw [show (0 + 1 : Int) = 1 by rfl] at hs
    refine st_mv hs rfl rfl ?_; clear hs w a; intro a w hs
    refine wpList_nil ?_
    refine then_n ?_
    have hs_ : szN r last 1 = _ := szN_y (r := r) (last := last) (i := 0) (x := r.p0) rfl (by omega)
    replace hs := hs.reslot (d := 7) (v := .int .i64 (((((szN r last 0) : Nat) : Int)) + (((vlen (zigI r.p0).toNat : Nat) : Int)))) (v' := .int .i64 ((((szN r last 1) : Nat) : Int))) rfl (Option.some.inj (congrArg (fun z => some (Value.int .i64 z)) (by rw [hs_]; omega)))
    exact hs.sub (.c rfl (.c rfl (.c rfl (.c rfl (.c rfl (.c rfl (.c rfl (.c rfl .n))))))))
   rw [hc34] at hs
   replace hc34 := ne_of_beq_f hc34
   refine st_guardT hs rfl rfl rfl ?_
   refine st_fa hs rfl Try.underlying25 rfl Try.sizeOf3 (by decide) (o := 0) rfl rfl ?_; clear hs w a; intro a w hs
   refine st_guardT hs rfl rfl rfl ?_
   refine st_ldB hs rfl (.s (.s .z)) .z Try.isAgg3 rfl ?_; clear hs w a; intro a w hs
   refine st_guardT hs rfl rfl rfl ?_
   refine st_eql hs rfl rfl rfl ?_; clear hs w a; intro a w hs
   refine st_pickF hs rfl rfl rfl ?_; clear hs w a; intro a w hs
   refine st_mv hs rfl rfl ?_; clear hs w a; intro a w hs
   refine st_part (b := (r.k : Int) == 3) (fun hc35 => ?_) (fun hc35 => ?_)
   ·
    rw [hc35] at hs
    replace hc35 := eq_of_beq hc35
    refine st_guardF hs rfl rfl rfl rfl rfl ?_; clear hs w a; intro a w hs
    refine st_guardF hs rfl rfl rfl rfl rfl ?_; clear hs w a; intro a w hs
    refine st_guardF hs rfl rfl rfl rfl rfl ?_; clear hs w a; intro a w hs
    refine st_guardF hs rfl rfl rfl rfl rfl ?_; clear hs w a; intro a w hs
    refine st_guardU hs rfl rfl rfl rfl ?_; clear hs w a; intro a w hs
    refine st_guardU hs rfl rfl rfl rfl ?_; clear hs w a; intro a w hs
    refine st_guardF hs rfl rfl rfl rfl rfl ?_; clear hs w a; intro a w hs
    refine st_pickT hs rfl rfl rfl ?_; clear hs w a; intro a w hs
    refine wpList_nil ?_
    refine then_n (hK33 _ _ ?_)
    refine wp_cond_true (hs.ev rfl) ?_
    refine wp_region_lit ?_
    refine st_mv hs rfl rfl ?_; clear hs w a; intro a w hs
    refine st_mv hs rfl rfl ?_; clear hs w a; intro a w hs
    refine st_callP (v := .int .u64 ((((zigI r.p0).toNat : Nat) : Int))) hs (.c rfl .n) Try.call24 (zig_ok r.p0 _ (by omega)) rfl ?_; clear hs w a; intro a w hs
    refine st_callP (v := .int .i64 (((vlen (zigI r.p0).toNat : Nat) : Int))) hs (.c rfl .n) Try.call23 (size_ok (zigI r.p0) _) rfl ?_; clear hs w a; intro a w hs
    refine st_addR hs rfl rfl (by omega) rfl ?_; clear hs w a; intro a w hs
    refine st_as hs rfl rfl ?_; clear hs w a; intro a w hs
    refine wpList_nil ?_
    refine in_n ?_
    refine then_n (hK29 _ _ ?_)
    refine wp_region_lit ?_
    refine st_addR hs rfl rfl (by omega) rfl ?_; clear hs w a; intro a w hs
    rw [show (0 + 1 : Int) = 1 by rfl] at hs
    refine st_mv hs rfl rfl ?_; clear hs w a; intro a w hs
    refine wpList_nil ?_
    refine then_n ?_
    have hs_ : szN r last 1 = _ := szN_y (r := r) (last := last) (i := 0) (x := r.p0) rfl (by omega)
    replace hs := hs.reslot (d := 7) (v := .int .i64 (((((szN r last 0) : Nat) : Int)) + (((vlen (zigI r.p0).toNat : Nat) : Int)))) (v' := .int .i64 ((((szN r last 1) : Nat) : Int))) rfl (Option.some.inj (congrArg (fun z => some (Value.int .i64 z)) (by rw [hs_]; omega)))
    exact hs.sub (.c rfl (.c rfl (.c rfl (.c rfl (.c rfl (.c rfl (.c rfl (.c rfl .n))))))))
   rw [hc35] at hs
   replace hc35 := ne_of_beq_f hc35
   refine st_guardT hs rfl rfl rfl ?_
   refine st_fa hs rfl Try.underlying25 rfl Try.sizeOf3 (by decide) (o := 0) rfl rfl ?_; clear hs w a; intro a w hs
   refine st_guardT hs rfl rfl rfl ?_
   refine st_ldB hs rfl (.s (.s .z)) .z Try.isAgg3 rfl ?_; clear hs w a; intro a w hs
   refine st_guardT hs rfl rfl rfl ?_
   refine st_eql hs rfl rfl rfl ?_; clear hs w a; intro a w hs
   refine st_guardT hs rfl rfl rfl ?_
   refine st_mv hs rfl rfl ?_; clear hs w a; intro a w hs
   refine st_part (b := (r.k : Int) == 1) (fun hc36 => ?_) (fun hc36 => ?_)
   ·
    rw [hc36] at hs
    replace hc36 := eq_of_beq hc36
    refine st_guardT hs rfl rfl rfl ?_
    refine st_mv hs rfl rfl ?_; clear hs w a; intro a w hs
    refine st_guardT hs rfl rfl rfl ?_
    refine st_neq hs rfl rfl rfl ?_; clear hs w a; intro a w hs
    refine st_guardT hs rfl rfl rfl ?_
    refine st_pickT hs rfl rfl rfl ?_; clear hs w a; intro a w hs
    refine st_pickF hs rfl rfl rfl ?_; clear hs w a; intro a w hs
    refine wpList_nil ?_
    refine then_n (hK33 _ _ ?_)
    refine wp_if hs rfl (fun hc37 => ?_) (fun hc37 => ?_)
    ·
     replace hc37 := not_t hc37
     replace hc37 := ne_of_beq_f hc37
     refine wp_region_lit ?_
     refine st_mv hs rfl rfl ?_; clear hs w a; intro a w hs
     refine st_mv hs rfl rfl ?_; clear hs w a; intro a w hs
     refine st_callP (v := .int .u64 ((((zigI r.p0).toNat : Nat) : Int))) hs (.c rfl .n) Try.call24 (zig_ok r.p0 _ (by omega)) rfl ?_; clear hs w a; intro a w hs
     refine st_callP (v := .int .i64 (((vlen (zigI r.p0).toNat : Nat) : Int))) hs (.c rfl .n) Try.call23 (size_ok (zigI r.p0) _) rfl ?_; clear hs w a; intro a w hs
     refine st_addR hs rfl rfl (by omega) rfl ?_; clear hs w a; intro a w hs
     refine st_as hs rfl rfl ?_; clear hs w a; intro a w hs
     refine wpList_nil ?_
     refine in_n ?_
     refine then_n (hK29 _ _ ?_)
     refine wp_region_lit ?_
     refine st_addR hs rfl rfl (by omega) rfl ?_; clear hs w a; intro a w hs
     rw [show (0 + 1 : Int) = 1 by rfl] at hs
     refine st_mv hs rfl rfl ?_; clear hs w a; intro a w hs
     refine wpList_nil ?_
     refine then_n ?_
     have hs_ : szN r last 1 = _ := szN_y (r := r) (last := last) (i := 0) (x := r.p0) rfl (by omega)
     replace hs := hs.reslot (d := 7) (v := .int .i64 (((((szN r last 0) : Nat) : Int)) + (((vlen (zigI r.p0).toNat : Nat) : Int)))) (v' := .int .i64 ((((szN r last 1) : Nat) : Int))) rfl (Option.some.inj (congrArg (fun z => some (Value.int .i64 z)) (by rw [hs_]; omega)))
     exact hs.sub (.c rfl (.c rfl (.c rfl (.c rfl (.c rfl (.c rfl (.c rfl (.c rfl .n))))))))
    replace hc37 := not_f hc37
    replace hc37 := eq_of_beq hc37
    refine wp_skip ?_
    refine in_n ?_
    refine then_n (hK29 _ _ ?_)
    refine wp_region_lit ?_
    refine st_addR hs rfl rfl (by omega) rfl ?_; clear hs w a; intro a w hs
    rw [show (0 + 1 : Int) = 1 by rfl] at hs
    refine st_mv hs rfl rfl ?_; clear hs w a; intro a w hs
    refine wpList_nil ?_
    refine then_n ?_
    have hs_ : szN r last 1 = _ := szN_n (r := r) (last := last) (i := 0) (x := r.p0) rfl (by omega)
    replace hs := hs.reslot (d := 7) (v := .int .i64 ((((szN r last 0) : Nat) : Int))) (v' := .int .i64 ((((szN r last 1) : Nat) : Int))) rfl (Option.some.inj (congrArg (fun z => some (Value.int .i64 z)) (by rw [hs_])))
    exact hs.sub (.c rfl (.c rfl (.c rfl (.c rfl (.c rfl (.c rfl (.c rfl (.c rfl .n))))))))
   rw [hc36] at hs
   replace hc36 := ne_of_beq_f hc36
   refine st_guardF hs rfl rfl rfl rfl rfl ?_; clear hs w a; intro a w hs
   refine st_guardF hs rfl rfl rfl rfl rfl ?_; clear hs w a; intro a w hs
   refine st_guardT hs rfl rfl rfl ?_
   refine st_pickF hs rfl rfl rfl ?_; clear hs w a; intro a w hs
   refine st_pickF hs rfl rfl rfl ?_; clear hs w a; intro a w hs
   refine wpList_nil ?_
   refine then_n (hK33 _ _ ?_)
   refine wp_cond_false (hs.ev rfl) ?_
   refine wp_skip ?_
   refine in_n ?_
   refine then_n (hK29 _ _ ?_)
   refine wp_region_lit ?_
   refine st_addR hs rfl rfl (by omega) rfl ?_; clear hs w a; intro a w hs
   rw [show (0 + 1 : Int) = 1 by rfl] at hs
   refine st_mv hs rfl rfl ?_; clear hs w a; intro a w hs
   refine wpList_nil ?_
   refine then_n ?_
   have hs_ : szN r last 1 = _ := szN_n (r := r) (last := last) (i := 0) (x := r.p0) rfl (by omega)
   replace hs := hs.reslot (d := 7) (v := .int .i64 ((((szN r last 0) : Nat) : Int))) (v' := .int .i64 ((((szN r last 1) : Nat) : Int))) rfl (Option.some.inj (congrArg (fun z => some (Value.int .i64 z)) (by rw [hs_])))
   exact hs.sub (.c rfl (.c rfl (.c rfl (.c rfl (.c rfl (.c rfl (.c rfl (.c rfl .n))))))))
  clear hs w a; rintro a w hs
  have hs1 := szN_le r last 1
  refine then_n ?_
  refine rounds_in ?_
  refine wp_cut (fun a w => St 120 [(2, .pointer (some ⟨g3, 0, none⟩)), (5, v6), (6, .int .i64 (((recErr r last : Nat) : Int))), (7, .int .i64 ((((szN r last 2) : Nat) : Int))), (8, .slice (some ⟨g19, 0, none⟩) 6 6), (52, .slice (some ⟨g19, 0, none⟩) 6 6), (53, .int .i64 (6)), (54, .int .i64 (2))] w0 [] [blk g19 [.int .i64 (r.p0), .int .i64 (r.p1), .int .i64 (r.p2), .int .i64 (r.v0), .int .i64 (r.v1), .int .i64 (r.v2)] 2, row v6 5 1 ((recB r last).length) (bytesV (recB r last)), blk g3 [.int .i64 (r.k), .int .i64 (r.id), .int .i64 (r.p0), .int .i64 (r.p1), .int .i64 (r.p2), .int .i64 (r.v0), .int .i64 (r.v1), .int .i64 (r.v2), .int .u16 ((((r.a).toNat : Nat) : Int))] 25] a w) ?_ ?_
  ·
   refine wp_seq_k fun K38 hK39 => ?_
   refine wp_region_lit ?_
   refine st_lss hs rfl rfl rfl ?_; clear hs w a; intro a w hs
   rw [show (decide ((1 : Int) < 6)) = true from by decide] at hs
   refine wpList_nil ?_
   refine then_n (hK39 _ _ ?_)
   refine wp_seq_k fun K40 hK41 => ?_
   refine wp_cond_true (hs.ev rfl) ?_
   refine wp_skip ?_
   refine then_n (hK41 _ _ ?_)
   refine wp_seq_k fun K42 hK43 => ?_
   refine wp_block ?_
   refine wp_seq_k fun K44 hK45 => ?_
   refine wp_region_lit ?_
   refine st_ia1 (j := 1) hs rfl rfl (rd_blk (m := 6) (size := 1) (hs.mem.del .z) rfl (by decide)) (by decide) (by omega) Try.underlying38 Try.sizeOf2 rfl ?_; clear hs w a; intro a w hs
   refine st_ld (u := .int .i64 (r.p1)) hs rfl (rd_blk (m := 6) (size := 1) (hs.mem.del .z) rfl (by decide)) (by rfl) Try.isAgg2 rfl ?_; clear hs w a; intro a w hs
   refine st_as hs rfl rfl ?_; clear hs w a; intro a w hs
   refine wpList_nil ?_
   refine then_n (hK45 _ _ ?_)
   refine wp_seq_k fun K46 hK47 => ?_
   refine wp_region_lit ?_
   refine st_fa hs rfl Try.underlying25 rfl Try.sizeOf3 (by decide) (o := 0) rfl rfl ?_; clear hs w a; intro a w hs
   refine st_ldB hs rfl (.s (.s .z)) .z Try.isAgg3 rfl ?_; clear hs w a; intro a w hs
   refine st_eql hs rfl rfl rfl ?_; clear hs w a; intro a w hs
   refine st_mv hs rfl rfl ?_; clear hs w a; intro a w hs
   refine st_part (b := (r.k : Int) == 0) (fun hc48 => ?_) (fun hc48 => ?_)
   ·
    rw [hc48] at hs
    replace hc48 := eq_of_beq hc48
    refine st_guardF hs rfl rfl rfl rfl rfl ?_; clear hs w a; intro a w hs
    refine st_guardF hs rfl rfl rfl rfl rfl ?_; clear hs w a; intro a w hs
    refine st_guardF hs rfl rfl rfl rfl rfl ?_; clear hs w a; intro a w hs
    refine st_pickT hs rfl rfl rfl ?_; clear hs w a; intro a w hs
    refine st_mv hs rfl rfl ?_; clear hs w a; intro a w hs
    refine st_guardF hs rfl rfl rfl rfl rfl ?_; clear hs w a; intro a w hs
    refine st_guardF hs rfl rfl rfl rfl rfl ?_; clear hs w a; intro a w hs
    refine st_guardF hs rfl rfl rfl rfl rfl ?_; clear hs w a; intro a w hs
    refine st_guardF hs rfl rfl rfl rfl rfl ?_; clear hs w a; intro a w hs
    refine st_guardU hs rfl rfl rfl rfl ?_; clear hs w a; intro a w hs
    refine st_guardU hs rfl rfl rfl rfl ?_; clear hs w a; intro a w hs
    refine st_guardF hs rfl rfl rfl rfl rfl ?_; clear hs w a; intro a w hs
    refine st_pickT hs rfl rfl rfl ?_; clear hs w a; intro a w hs
    refine wpList_nil ?_
    refine then_n (hK47 _ _ ?_)
    refine wp_cond_true (hs.ev rfl) ?_
    refine wp_region_lit ?_
    refine st_mv hs rfl rfl ?_; clear hs w a; intro a w hs
    refine st_mv hs rfl rfl ?_; clear hs w a; intro a w hs
    refine st_callP (v := .int .u64 ((((zigI r.p1).toNat : Nat) : Int))) hs (.c rfl .n) Try.call24 (zig_ok r.p1 _ (by omega)) rfl ?_; clear hs w a; intro a w hs
    refine st_callP (v := .int .i64 (((vlen (zigI r.p1).toNat : Nat) : Int))) hs (.c rfl .n) Try.call23 (size_ok (zigI r.p1) _) rfl ?_; clear hs w a; intro a w hs
    refine st_addR hs rfl rfl (by omega) rfl ?_; clear hs w a; intro a w hs
    refine st_as hs rfl rfl ?_; clear hs w a; intro a w hs
    refine wpList_nil ?_
    refine in_n ?_
    refine then_n (hK43 _ _ ?_)
    refine wp_region_lit ?_
    refine st_addR hs rfl rfl (by omega) rfl ?_; clear hs w a; intro a w hs
    rw [show (1 + 1 : Int) = 2 by rfl] at hs
    refine st_mv hs rfl rfl ?_; clear hs w a; intro a w hs
    refine wpList_nil ?_
    refine then_n ?_
    have hs_ : szN r last 2 = _ := szN_y (r := r) (last := last) (i := 1) (x := r.p1) rfl (by omega)
    replace hs := hs.reslot (d := 7) (v := .int .i64 (((((szN r last 1) : Nat) : Int)) + (((vlen (zigI r.p1).toNat : Nat) : Int)))) (v' := .int .i64 ((((szN r last 2) : Nat) : Int))) rfl (Option.some.inj (congrArg (fun z => some (Value.int .i64 z)) (by rw [hs_]; omega)))
    exact hs.sub (.c rfl (.c rfl (.c rfl (.c rfl (.c rfl (.c rfl (.c rfl (.c rfl .n))))))))
   rw [hc48] at hs
   replace hc48 := ne_of_beq_f hc48
   refine st_guardT hs rfl rfl rfl ?_
   refine st_fa hs rfl Try.underlying25 rfl Try.sizeOf3 (by decide) (o := 0) rfl rfl ?_; clear hs w a; intro a w hs
   refine st_guardT hs rfl rfl rfl ?_
   refine st_ldB hs rfl (.s (.s .z)) .z Try.isAgg3 rfl ?_; clear hs w a; intro a w hs
   refine st_guardT hs rfl rfl rfl ?_
   refine st_eql hs rfl rfl rfl ?_; clear hs w a; intro a w hs
   refine st_pickF hs rfl rfl rfl ?_; clear hs w a; intro a w hs
   refine st_mv hs rfl rfl ?_; clear hs w a; intro a w hs
   refine st_part (b := (r.k : Int) == 3) (fun hc49 => ?_) (fun hc49 => ?_)
   ·
    rw [hc49] at hs
    replace hc49 := eq_of_beq hc49
    refine st_guardF hs rfl rfl rfl rfl rfl ?_; clear hs w a; intro a w hs
    refine st_guardF hs rfl rfl rfl rfl rfl ?_; clear hs w a; intro a w hs
    refine st_guardF hs rfl rfl rfl rfl rfl ?_; clear hs w a; intro a w hs
    refine st_guardF hs rfl rfl rfl rfl rfl ?_; clear hs w a; intro a w hs
    refine st_guardU hs rfl rfl rfl rfl ?_; clear hs w a; intro a w hs
    refine st_guardU hs rfl rfl rfl rfl ?_; clear hs w a; intro a w hs
    refine st_guardF hs rfl rfl rfl rfl rfl ?_; clear hs w a; intro a w hs
    refine st_pickT hs rfl rfl rfl ?_; clear hs w a; intro a w hs
    refine wpList_nil ?_
    refine then_n (hK47 _ _ ?_)
    refine wp_cond_true (hs.ev rfl) ?_
    refine wp_region_lit ?_
    refine st_mv hs rfl rfl ?_; clear hs w a; intro a w hs
    refine st_mv hs rfl rfl ?_; clear hs w a; intro a w hs
    refine st_callP (v := .int .u64 ((((zigI r.p1).toNat : Nat) : Int))) hs (.c rfl .n) Try.call24 (zig_ok r.p1 _ (by omega)) rfl ?_; clear hs w a; intro a w hs
    refine st_callP (v := .int .i64 (((vlen (zigI r.p1).toNat : Nat) : Int))) hs (.c rfl .n) Try.call23 (size_ok (zigI r.p1) _) rfl ?_; clear hs w a; intro a w hs
    refine st_addR hs rfl rfl (by omega) rfl ?_; clear hs w a; intro a w hs
    refine st_as hs rfl rfl ?_; clear hs w a; intro a w hs
    refine wpList_nil ?_
    refine in_n ?_
    refine then_n (hK43 _ _ ?_)
    refine wp_region_lit ?_
    refine st_addR hs rfl rfl (by omega) rfl ?_; clear hs w a; intro a w hs
    rw [show (1 + 1 : Int) = 2 by rfl] at hs
    refine st_mv hs rfl rfl ?_; clear hs w a; intro a w hs
    refine wpList_nil ?_
    refine then_n ?_
    have hs_ : szN r last 2 = _ := szN_y (r := r) (last := last) (i := 1) (x := r.p1) rfl (by omega)
    replace hs := hs.reslot (d := 7) (v := .int .i64 (((((szN r last 1) : Nat) : Int)) + (((vlen (zigI r.p1).toNat : Nat) : Int)))) (v' := .int .i64 ((((szN r last 2) : Nat) : Int))) rfl (Option.some.inj (congrArg (fun z => some (Value.int .i64 z)) (by rw [hs_]; omega)))
    exact hs.sub (.c rfl (.c rfl (.c rfl (.c rfl (.c rfl (.c rfl (.c rfl (.c rfl .n))))))))
   rw [hc49] at hs
   replace hc49 := ne_of_beq_f hc49
   refine st_guardT hs rfl rfl rfl ?_
   refine st_fa hs rfl Try.underlying25 rfl Try.sizeOf3 (by decide) (o := 0) rfl rfl ?_; clear hs w a; intro a w hs
   refine st_guardT hs rfl rfl rfl ?_
   refine st_ldB hs rfl (.s (.s .z)) .z Try.isAgg3 rfl ?_; clear hs w a; intro a w hs
   refine st_guardT hs rfl rfl rfl ?_
   refine st_eql hs rfl rfl rfl ?_; clear hs w a; intro a w hs
   refine st_guardT hs rfl rfl rfl ?_
   refine st_mv hs rfl rfl ?_; clear hs w a; intro a w hs
   refine st_part (b := (r.k : Int) == 1) (fun hc50 => ?_) (fun hc50 => ?_)
   ·
    rw [hc50] at hs
    replace hc50 := eq_of_beq hc50
    refine st_guardT hs rfl rfl rfl ?_
    refine st_mv hs rfl rfl ?_; clear hs w a; intro a w hs
    refine st_guardT hs rfl rfl rfl ?_
    refine st_neq hs rfl rfl rfl ?_; clear hs w a; intro a w hs
    refine st_guardT hs rfl rfl rfl ?_
    refine st_pickT hs rfl rfl rfl ?_; clear hs w a; intro a w hs
    refine st_pickF hs rfl rfl rfl ?_; clear hs w a; intro a w hs
    refine wpList_nil ?_
    refine then_n (hK47 _ _ ?_)
    refine wp_if hs rfl (fun hc51 => ?_) (fun hc51 => ?_)
    ·
     replace hc51 := not_t hc51
     replace hc51 := ne_of_beq_f hc51
     refine wp_region_lit ?_
     refine st_mv hs rfl rfl ?_; clear hs w a; intro a w hs
     refine st_mv hs rfl rfl ?_; clear hs w a; intro a w hs
     refine st_callP (v := .int .u64 ((((zigI r.p1).toNat : Nat) : Int))) hs (.c rfl .n) Try.call24 (zig_ok r.p1 _ (by omega)) rfl ?_; clear hs w a; intro a w hs
     refine st_callP (v := .int .i64 (((vlen (zigI r.p1).toNat : Nat) : Int))) hs (.c rfl .n) Try.call23 (size_ok (zigI r.p1) _) rfl ?_; clear hs w a; intro a w hs
     refine st_addR hs rfl rfl (by omega) rfl ?_; clear hs w a; intro a w hs
     refine st_as hs rfl rfl ?_; clear hs w a; intro a w hs
     refine wpList_nil ?_
     refine in_n ?_
     refine then_n (hK43 _ _ ?_)
     refine wp_region_lit ?_
     refine st_addR hs rfl rfl (by omega) rfl ?_; clear hs w a; intro a w hs
     rw [show (1 + 1 : Int) = 2 by rfl] at hs
     refine st_mv hs rfl rfl ?_; clear hs w a; intro a w hs
     refine wpList_nil ?_
     refine then_n ?_
     have hs_ : szN r last 2 = _ := szN_y (r := r) (last := last) (i := 1) (x := r.p1) rfl (by omega)
     replace hs := hs.reslot (d := 7) (v := .int .i64 (((((szN r last 1) : Nat) : Int)) + (((vlen (zigI r.p1).toNat : Nat) : Int)))) (v' := .int .i64 ((((szN r last 2) : Nat) : Int))) rfl (Option.some.inj (congrArg (fun z => some (Value.int .i64 z)) (by rw [hs_]; omega)))
     exact hs.sub (.c rfl (.c rfl (.c rfl (.c rfl (.c rfl (.c rfl (.c rfl (.c rfl .n))))))))
    replace hc51 := not_f hc51
    replace hc51 := eq_of_beq hc51
    refine wp_skip ?_
    refine in_n ?_
    refine then_n (hK43 _ _ ?_)
    refine wp_region_lit ?_
    refine st_addR hs rfl rfl (by omega) rfl ?_; clear hs w a; intro a w hs
    rw [show (1 + 1 : Int) = 2 by rfl] at hs
    refine st_mv hs rfl rfl ?_; clear hs w a; intro a w hs
    refine wpList_nil ?_
    refine then_n ?_
    have hs_ : szN r last 2 = _ := szN_n (r := r) (last := last) (i := 1) (x := r.p1) rfl (by omega)
    replace hs := hs.reslot (d := 7) (v := .int .i64 ((((szN r last 1) : Nat) : Int))) (v' := .int .i64 ((((szN r last 2) : Nat) : Int))) rfl (Option.some.inj (congrArg (fun z => some (Value.int .i64 z)) (by rw [hs_])))
    exact hs.sub (.c rfl (.c rfl (.c rfl (.c rfl (.c rfl (.c rfl (.c rfl (.c rfl .n))))))))
   rw [hc50] at hs
   replace hc50 := ne_of_beq_f hc50
   refine st_guardF hs rfl rfl rfl rfl rfl ?_; clear hs w a; intro a w hs
   refine st_guardF hs rfl rfl rfl rfl rfl ?_; clear hs w a; intro a w hs
   refine st_guardT hs rfl rfl rfl ?_
   refine st_pickF hs rfl rfl rfl ?_; clear hs w a; intro a w hs
   refine st_pickF hs rfl rfl rfl ?_; clear hs w a; intro a w hs
   refine wpList_nil ?_
   refine then_n (hK47 _ _ ?_)
   refine wp_cond_false (hs.ev rfl) ?_
   refine wp_skip ?_
   refine in_n ?_
   refine then_n (hK43 _ _ ?_)
   refine wp_region_lit ?_
   refine st_addR hs rfl rfl (by omega) rfl ?_; clear hs w a; intro a w hs
   rw [show (1 + 1 : Int) = 2 by rfl] at hs
   refine st_mv hs rfl rfl ?_; clear hs w a; intro a w hs
   refine wpList_nil ?_
   refine then_n ?_
   have hs_ : szN r last 2 = _ := szN_n (r := r) (last := last) (i := 1) (x := r.p1) rfl (by omega)
   replace hs := hs.reslot (d := 7) (v := .int .i64 ((((szN r last 1) : Nat) : Int))) (v' := .int .i64 ((((szN r last 2) : Nat) : Int))) rfl (Option.some.inj (congrArg (fun z => some (Value.int .i64 z)) (by rw [hs_])))
   exact hs.sub (.c rfl (.c rfl (.c rfl (.c rfl (.c rfl (.c rfl (.c rfl (.c rfl .n))))))))
  clear hs w a; rintro a w hs
  have hs2 := szN_le r last 2
  refine then_n ?_
  refine rounds_in ?_
  refine wp_cut (fun a w => St 120 [(2, .pointer (some ⟨g3, 0, none⟩)), (5, v6), (6, .int .i64 (((recErr r last : Nat) : Int))), (7, .int .i64 ((((szN r last 3) : Nat) : Int))), (8, .slice (some ⟨g19, 0, none⟩) 6 6), (52, .slice (some ⟨g19, 0, none⟩) 6 6), (53, .int .i64 (6)), (54, .int .i64 (3))] w0 [] [blk g19 [.int .i64 (r.p0), .int .i64 (r.p1), .int .i64 (r.p2), .int .i64 (r.v0), .int .i64 (r.v1), .int .i64 (r.v2)] 2, row v6 5 1 ((recB r last).length) (bytesV (recB r last)), blk g3 [.int .i64 (r.k), .int .i64 (r.id), .int .i64 (r.p0), .int .i64 (r.p1), .int .i64 (r.p2), .int .i64 (r.v0), .int .i64 (r.v1), .int .i64 (r.v2), .int .u16 ((((r.a).toNat : Nat) : Int))] 25] a w) ?_ ?_
  ·
   refine wp_seq_k fun K52 hK53 => ?_
   refine wp_region_lit ?_
   refine st_lss hs rfl rfl rfl ?_; clear hs w a; intro a w hs
   rw [show (decide ((2 : Int) < 6)) = true from by decide] at hs
   refine wpList_nil ?_
   refine then_n (hK53 _ _ ?_)
   refine wp_seq_k fun K54 hK55 => ?_
   refine wp_cond_true (hs.ev rfl) ?_
   refine wp_skip ?_
   refine then_n (hK55 _ _ ?_)
   refine wp_seq_k fun K56 hK57 => ?_
   refine wp_block ?_
   refine wp_seq_k fun K58 hK59 => ?_
   refine wp_region_lit ?_
   refine st_ia1 (j := 2) hs rfl rfl (rd_blk (m := 6) (size := 1) (hs.mem.del .z) rfl (by decide)) (by decide) (by omega) Try.underlying38 Try.sizeOf2 rfl ?_; clear hs w a; intro a w hs
   refine st_ld (u := .int .i64 (r.p2)) hs rfl (rd_blk (m := 6) (size := 1) (hs.mem.del .z) rfl (by decide)) (by rfl) Try.isAgg2 rfl ?_; clear hs w a; intro a w hs
   refine st_as hs rfl rfl ?_; clear hs w a; intro a w hs
   refine wpList_nil ?_
   refine then_n (hK59 _ _ ?_)
   refine wp_seq_k fun K60 hK61 => ?_
   refine wp_region_lit ?_
   refine st_fa hs rfl Try.underlying25 rfl Try.sizeOf3 (by decide) (o := 0) rfl rfl ?_; clear hs w a; intro a w hs
   refine st_ldB hs rfl (.s (.s .z)) .z Try.isAgg3 rfl ?_; clear hs w a; intro a w hs
   refine st_eql hs rfl rfl rfl ?_; clear hs w a; intro a w hs
   refine st_mv hs rfl rfl ?_; clear hs w a; intro a w hs
   refine st_part (b := (r.k : Int) == 0) (fun hc62 => ?_) (fun hc62 => ?_)
   ·
    rw [hc62] at hs
    replace hc62 := eq_of_beq hc62
    refine st_guardF hs rfl rfl rfl rfl rfl ?_; clear hs w a; intro a w hs
    refine st_guardF hs rfl rfl rfl rfl rfl ?_; clear hs w a; intro a w hs
    refine st_guardF hs rfl rfl rfl rfl rfl ?_; clear hs w a; intro a w hs
    refine st_pickT hs rfl rfl rfl ?_; clear hs w a; intro a w hs
    refine st_mv hs rfl rfl ?_; clear hs w a; intro a w hs
    refine st_guardF hs rfl rfl rfl rfl rfl ?_; clear hs w a; intro a w hs
    refine st_guardF hs rfl rfl rfl rfl rfl ?_; clear hs w a; intro a w hs
    refine st_guardF hs rfl rfl rfl rfl rfl ?_; clear hs w a; intro a w hs
    refine st_guardF hs rfl rfl rfl rfl rfl ?_; clear hs w a; intro a w hs
    refine st_guardU hs rfl rfl rfl rfl ?_; clear hs w a; intro a w hs
    refine st_guardU hs rfl rfl rfl rfl ?_; clear hs w a; intro a w hs
    refine st_guardF hs rfl rfl rfl rfl rfl ?_; clear hs w a; intro a w hs
    refine st_pickT hs rfl rfl rfl ?_; clear hs w a; intro a w hs
    refine wpList_nil ?_
    refine then_n (hK61 _ _ ?_)
    refine wp_cond_true (hs.ev rfl) ?_
    refine wp_region_lit ?_
    refine st_mv hs rfl rfl ?_; clear hs w a; intro a w hs
    refine st_mv hs rfl rfl ?_; clear hs w a; intro a w hs
    refine st_callP (v := .int .u64 ((((zigI r.p2).toNat : Nat) : Int))) hs (.c rfl .n) Try.call24 (zig_ok r.p2 _ (by omega)) rfl ?_; clear hs w a; intro a w hs
    refine st_callP (v := .int .i64 (((vlen (zigI r.p2).toNat : Nat) : Int))) hs (.c rfl .n) Try.call23 (size_ok (zigI r.p2) _) rfl ?_; clear hs w a; intro a w hs
    refine st_addR hs rfl rfl (by omega) rfl ?_; clear hs w a; intro a w hs
    refine st_as hs rfl rfl ?_; clear hs w a; intro a w hs
    refine wpList_nil ?_
    refine in_n ?_
    refine then_n (hK57 _ _ ?_)
    refine wp_region_lit ?_
    refine st_addR hs rfl rfl (by omega) rfl ?_; clear hs w a; intro a w hs
    rw [show (2 + 1 : Int) = 3 by rfl] at hs
    refine st_mv hs rfl rfl ?_; clear hs w a; intro a w hs
    refine wpList_nil ?_
    refine then_n ?_
    have hs_ : szN r last 3 = _ := szN_y (r := r) (last := last) (i := 2) (x := r.p2) rfl (by omega)
    replace hs := hs.reslot (d := 7) (v := .int .i64 (((((szN r last 2) : Nat) : Int)) + (((vlen (zigI r.p2).toNat : Nat) : Int)))) (v' := .int .i64 ((((szN r last 3) : Nat) : Int))) rfl (Option.some.inj (congrArg (fun z => some (Value.int .i64 z)) (by rw [hs_]; omega)))
    exact hs.sub (.c rfl (.c rfl (.c rfl (.c rfl (.c rfl (.c rfl (.c rfl (.c rfl .n))))))))
   rw [hc62] at hs
   replace hc62 := ne_of_beq_f hc62
   refine st_guardT hs rfl rfl rfl ?_
   refine st_fa hs rfl Try.underlying25 rfl Try.sizeOf3 (by decide) (o := 0) rfl rfl ?_; clear hs w a; intro a w hs
   refine st_guardT hs rfl rfl rfl ?_
   refine st_ldB hs rfl (.s (.s .z)) .z Try.isAgg3 rfl ?_; clear hs w a; intro a w hs
   refine st_guardT hs rfl rfl rfl ?_
   refine st_eql hs rfl rfl rfl ?_; clear hs w a; intro a w hs
   refine st_pickF hs rfl rfl rfl ?_; clear hs w a; intro a w hs
   refine st_mv hs rfl rfl ?_; clear hs w a; intro a w hs
   refine st_part (b := (r.k : Int) == 3) (fun hc63 => ?_) (fun hc63 => ?_)
   ·
    rw [hc63] at hs
    replace hc63 := eq_of_beq hc63
    refine st_guardF hs rfl rfl rfl rfl rfl ?_; clear hs w a; intro a w hs
    refine st_guardF hs rfl rfl rfl rfl rfl ?_; clear hs w a; intro a w hs
    refine st_guardF hs rfl rfl rfl rfl rfl ?_; clear hs w a; intro a w hs
    refine st_guardF hs rfl rfl rfl rfl rfl ?_; clear hs w a; intro a w hs
    refine st_guardU hs rfl rfl rfl rfl ?_; clear hs w a; intro a w hs
    refine st_guardU hs rfl rfl rfl rfl ?_; clear hs w a; intro a w hs
    refine st_guardF hs rfl rfl rfl rfl rfl ?_; clear hs w a; intro a w hs
    refine st_pickT hs rfl rfl rfl ?_; clear hs w a; intro a w hs
    refine wpList_nil ?_
    refine then_n (hK61 _ _ ?_)
    refine wp_cond_true (hs.ev rfl) ?_
    refine wp_region_lit ?_
    refine st_mv hs rfl rfl ?_; clear hs w a; intro a w hs
    refine st_mv hs rfl rfl ?_; clear hs w a; intro a w hs
    refine st_callP (v := .int .u64 ((((zigI r.p2).toNat : Nat) : Int))) hs (.c rfl .n) Try.call24 (zig_ok r.p2 _ (by omega)) rfl ?_; clear hs w a; intro a w hs
    refine st_callP (v := .int .i64 (((vlen (zigI r.p2).toNat : Nat) : Int))) hs (.c rfl .n) Try.call23 (size_ok (zigI r.p2) _) rfl ?_; clear hs w a; intro a w hs
    refine st_addR hs rfl rfl (by omega) rfl ?_; clear hs w a; intro a w hs
    refine st_as hs rfl rfl ?_; clear hs w a; intro a w hs
    refine wpList_nil ?_
    refine in_n ?_
    refine then_n (hK57 _ _ ?_)
    refine wp_region_lit ?_
    refine st_addR hs rfl rfl (by omega) rfl ?_; clear hs w a; intro a w hs
    rw [show (2 + 1 : Int) = 3 by rfl] at hs
    refine st_mv hs rfl rfl ?_; clear hs w a; intro a w hs
    refine wpList_nil ?_
    refine then_n ?_
    have hs_ : szN r last 3 = _ := szN_y (r := r) (last := last) (i := 2) (x := r.p2) rfl (by omega)
    replace hs := hs.reslot (d := 7) (v := .int .i64 (((((szN r last 2) : Nat) : Int)) + (((vlen (zigI r.p2).toNat : Nat) : Int)))) (v' := .int .i64 ((((szN r last 3) : Nat) : Int))) rfl (Option.some.inj (congrArg (fun z => some (Value.int .i64 z)) (by rw [hs_]; omega)))
    exact hs.sub (.c rfl (.c rfl (.c rfl (.c rfl (.c rfl (.c rfl (.c rfl (.c rfl .n))))))))
   rw [hc63] at hs
   replace hc63 := ne_of_beq_f hc63
   refine st_guardT hs rfl rfl rfl ?_
   refine st_fa hs rfl Try.underlying25 rfl Try.sizeOf3 (by decide) (o := 0) rfl rfl ?_; clear hs w a; intro a w hs
   refine st_guardT hs rfl rfl rfl ?_
   refine st_ldB hs rfl (.s (.s .z)) .z Try.isAgg3 rfl ?_; clear hs w a; intro a w hs
   refine st_guardT hs rfl rfl rfl ?_
   refine st_eql hs rfl rfl rfl ?_; clear hs w a; intro a w hs
   refine st_guardT hs rfl rfl rfl ?_
   refine st_mv hs rfl rfl ?_; clear hs w a; intro a w hs
   refine st_part (b := (r.k : Int) == 1) (fun hc64 => ?_) (fun hc64 => ?_)
   ·
    rw [hc64] at hs
    replace hc64 := eq_of_beq hc64
    refine st_guardT hs rfl rfl rfl ?_
    refine st_mv hs rfl rfl ?_; clear hs w a; intro a w hs
    refine st_guardT hs rfl rfl rfl ?_
    refine st_neq hs rfl rfl rfl ?_; clear hs w a; intro a w hs
    refine st_guardT hs rfl rfl rfl ?_
    refine st_pickT hs rfl rfl rfl ?_; clear hs w a; intro a w hs
    refine st_pickF hs rfl rfl rfl ?_; clear hs w a; intro a w hs
    refine wpList_nil ?_
    refine then_n (hK61 _ _ ?_)
    refine wp_if hs rfl (fun hc65 => ?_) (fun hc65 => ?_)
    ·
     replace hc65 := not_t hc65
     replace hc65 := ne_of_beq_f hc65
     refine wp_region_lit ?_
     refine st_mv hs rfl rfl ?_; clear hs w a; intro a w hs
     refine st_mv hs rfl rfl ?_; clear hs w a; intro a w hs
     refine st_callP (v := .int .u64 ((((zigI r.p2).toNat : Nat) : Int))) hs (.c rfl .n) Try.call24 (zig_ok r.p2 _ (by omega)) rfl ?_; clear hs w a; intro a w hs
     refine st_callP (v := .int .i64 (((vlen (zigI r.p2).toNat : Nat) : Int))) hs (.c rfl .n) Try.call23 (size_ok (zigI r.p2) _) rfl ?_; clear hs w a; intro a w hs
     refine st_addR hs rfl rfl (by omega) rfl ?_; clear hs w a; intro a w hs
     refine st_as hs rfl rfl ?_; clear hs w a; intro a w hs
     refine wpList_nil ?_
     refine in_n ?_
     refine then_n (hK57 _ _ ?_)
     refine wp_region_lit ?_
     refine st_addR hs rfl rfl (by omega) rfl ?_; clear hs w a; intro a w hs
     rw [show (2 + 1 : Int) = 3 by rfl] at hs
     refine st_mv hs rfl rfl ?_; clear hs w a; intro a w hs
     refine wpList_nil ?_
     refine then_n ?_
     have hs_ : szN r last 3 = _ := szN_y (r := r) (last := last) (i := 2) (x := r.p2) rfl (by omega)
     replace hs := hs.reslot (d := 7) (v := .int .i64 (((((szN r last 2) : Nat) : Int)) + (((vlen (zigI r.p2).toNat : Nat) : Int)))) (v' := .int .i64 ((((szN r last 3) : Nat) : Int))) rfl (Option.some.inj (congrArg (fun z => some (Value.int .i64 z)) (by rw [hs_]; omega)))
     exact hs.sub (.c rfl (.c rfl (.c rfl (.c rfl (.c rfl (.c rfl (.c rfl (.c rfl .n))))))))
    replace hc65 := not_f hc65
    replace hc65 := eq_of_beq hc65
    refine wp_skip ?_
    refine in_n ?_
    refine then_n (hK57 _ _ ?_)
    refine wp_region_lit ?_
    refine st_addR hs rfl rfl (by omega) rfl ?_; clear hs w a; intro a w hs
    rw [show (2 + 1 : Int) = 3 by rfl] at hs
    refine st_mv hs rfl rfl ?_; clear hs w a; intro a w hs
    refine wpList_nil ?_
    refine then_n ?_
    have hs_ : szN r last 3 = _ := szN_n (r := r) (last := last) (i := 2) (x := r.p2) rfl (by omega)
    replace hs := hs.reslot (d := 7) (v := .int .i64 ((((szN r last 2) : Nat) : Int))) (v' := .int .i64 ((((szN r last 3) : Nat) : Int))) rfl (Option.some.inj (congrArg (fun z => some (Value.int .i64 z)) (by rw [hs_])))
    exact hs.sub (.c rfl (.c rfl (.c rfl (.c rfl (.c rfl (.c rfl (.c rfl (.c rfl .n))))))))
   rw [hc64] at hs
   replace hc64 := ne_of_beq_f hc64
   refine st_guardF hs rfl rfl rfl rfl rfl ?_; clear hs w a; intro a w hs
   refine st_guardF hs rfl rfl rfl rfl rfl ?_; clear hs w a; intro a w hs
   refine st_guardT hs rfl rfl rfl ?_
   refine st_pickF hs rfl rfl rfl ?_; clear hs w a; intro a w hs
   refine st_pickF hs rfl rfl rfl ?_; clear hs w a; intro a w hs
   refine wpList_nil ?_
   refine then_n (hK61 _ _ ?_)
   refine wp_cond_false (hs.ev rfl) ?_
   refine wp_skip ?_
   refine in_n ?_
   refine then_n (hK57 _ _ ?_)
   refine wp_region_lit ?_
   refine st_addR hs rfl rfl (by omega) rfl ?_; clear hs w a; intro a w hs
   rw [show (2 + 1 : Int) = 3 by rfl] at hs
   refine st_mv hs rfl rfl ?_; clear hs w a; intro a w hs
   refine wpList_nil ?_
   refine then_n ?_
   have hs_ : szN r last 3 = _ := szN_n (r := r) (last := last) (i := 2) (x := r.p2) rfl (by omega)
   replace hs := hs.reslot (d := 7) (v := .int .i64 ((((szN r last 2) : Nat) : Int))) (v' := .int .i64 ((((szN r last 3) : Nat) : Int))) rfl (Option.some.inj (congrArg (fun z => some (Value.int .i64 z)) (by rw [hs_])))
   exact hs.sub (.c rfl (.c rfl (.c rfl (.c rfl (.c rfl (.c rfl (.c rfl (.c rfl .n))))))))
  clear hs w a; rintro a w hs
  have hs3 := szN_le r last 3
  refine then_n ?_
  refine rounds_in ?_
  refine wp_cut (fun a w => St 120 [(2, .pointer (some ⟨g3, 0, none⟩)), (5, v6), (6, .int .i64 (((recErr r last : Nat) : Int))), (7, .int .i64 ((((szN r last 4) : Nat) : Int))), (8, .slice (some ⟨g19, 0, none⟩) 6 6), (52, .slice (some ⟨g19, 0, none⟩) 6 6), (53, .int .i64 (6)), (54, .int .i64 (4))] w0 [] [blk g19 [.int .i64 (r.p0), .int .i64 (r.p1), .int .i64 (r.p2), .int .i64 (r.v0), .int .i64 (r.v1), .int .i64 (r.v2)] 2, row v6 5 1 ((recB r last).length) (bytesV (recB r last)), blk g3 [.int .i64 (r.k), .int .i64 (r.id), .int .i64 (r.p0), .int .i64 (r.p1), .int .i64 (r.p2), .int .i64 (r.v0), .int .i64 (r.v1), .int .i64 (r.v2), .int .u16 ((((r.a).toNat : Nat) : Int))] 25] a w) ?_ ?_
  ·
   refine wp_seq_k fun K66 hK67 => ?_
   refine wp_region_lit ?_
   refine st_lss hs rfl rfl rfl ?_; clear hs w a; intro a w hs
   rw [show (decide ((3 : Int) < 6)) = true from by decide] at hs
   refine wpList_nil ?_
   refine then_n (hK67 _ _ ?_)
   refine wp_seq_k fun K68 hK69 => ?_
   refine wp_cond_true (hs.ev rfl) ?_
   refine wp_skip ?_
   refine then_n (hK69 _ _ ?_)
   refine wp_seq_k fun K70 hK71 => ?_
   refine wp_block ?_
   refine wp_seq_k fun K72 hK73 => ?_
   refine wp_region_lit ?_
   refine st_ia1 (j := 3) hs rfl rfl (rd_blk (m := 6) (size := 1) (hs.mem.del .z) rfl (by decide)) (by decide) (by omega) Try.underlying38 Try.sizeOf2 rfl ?_; clear hs w a; intro a w hs
   refine st_ld (u := .int .i64 (r.v0)) hs rfl (rd_blk (m := 6) (size := 1) (hs.mem.del .z) rfl (by decide)) (by rfl) Try.isAgg2 rfl ?_; clear hs w a; intro a w hs
   refine st_as hs rfl rfl ?_; clear hs w a; intro a w hs
   refine wpList_nil ?_
   refine then_n (hK73 _ _ ?_)
   refine wp_seq_k fun K74 hK75 => ?_
   refine wp_region_lit ?_
   refine st_fa hs rfl Try.underlying25 rfl Try.sizeOf3 (by decide) (o := 0) rfl rfl ?_; clear hs w a; intro a w hs
   refine st_ldB hs rfl (.s (.s .z)) .z Try.isAgg3 rfl ?_; clear hs w a; intro a w hs
   refine st_eql hs rfl rfl rfl ?_; clear hs w a; intro a w hs
   refine st_mv hs rfl rfl ?_; clear hs w a; intro a w hs
   refine st_part (b := (r.k : Int) == 0) (fun hc76 => ?_) (fun hc76 => ?_)
   ·
    rw [hc76] at hs
    replace hc76 := eq_of_beq hc76
    refine st_guardF hs rfl rfl rfl rfl rfl ?_; clear hs w a; intro a w hs
    refine st_guardF hs rfl rfl rfl rfl rfl ?_; clear hs w a; intro a w hs
    refine st_guardF hs rfl rfl rfl rfl rfl ?_; clear hs w a; intro a w hs
    refine st_pickT hs rfl rfl rfl ?_; clear hs w a; intro a w hs
    refine st_mv hs rfl rfl ?_; clear hs w a; intro a w hs
    refine st_guardF hs rfl rfl rfl rfl rfl ?_; clear hs w a; intro a w hs
    refine st_guardF hs rfl rfl rfl rfl rfl ?_; clear hs w a; intro a w hs
    refine st_guardF hs rfl rfl rfl rfl rfl ?_; clear hs w a; intro a w hs
    refine st_guardF hs rfl rfl rfl rfl rfl ?_; clear hs w a; intro a w hs
    refine st_guardU hs rfl rfl rfl rfl ?_; clear hs w a; intro a w hs
    refine st_guardU hs rfl rfl rfl rfl ?_; clear hs w a; intro a w hs
    refine st_guardF hs rfl rfl rfl rfl rfl ?_; clear hs w a; intro a w hs
    refine st_pickT hs rfl rfl rfl ?_; clear hs w a; intro a w hs
    refine wpList_nil ?_
    refine then_n (hK75 _ _ ?_)
    refine wp_cond_true (hs.ev rfl) ?_
    refine wp_region_lit ?_
    refine st_mv hs rfl rfl ?_; clear hs w a; intro a w hs
    refine st_mv hs rfl rfl ?_; clear hs w a; intro a w hs
    refine st_callP (v := .int .u64 ((((zigI r.v0).toNat : Nat) : Int))) hs (.c rfl .n) Try.call24 (zig_ok r.v0 _ (by omega)) rfl ?_; clear hs w a; intro a w hs
    refine st_callP (v := .int .i64 (((vlen (zigI r.v0).toNat : Nat) : Int))) hs (.c rfl .n) Try.call23 (size_ok (zigI r.v0) _) rfl ?_; clear hs w a; intro a w hs
    refine st_addR hs rfl rfl (by omega) rfl ?_; clear hs w a; intro a w hs
    refine st_as hs rfl rfl ?_; clear hs w a; intro a w hs
    refine wpList_nil ?_
    refine in_n ?_
    refine then_n (hK71 _ _ ?_)
    refine wp_region_lit ?_
    refine st_addR hs rfl rfl (by omega) rfl ?_; clear hs w a; intro a w hs
    rw [show (3 + 1 : Int) = 4 by rfl] at hs
    refine st_mv hs rfl rfl ?_; clear hs w a; intro a w hs
    refine wpList_nil ?_
    refine then_n ?_
    have hs_ : szN r last 4 = _ := szN_y (r := r) (last := last) (i := 3) (x := r.v0) rfl (by omega)
    replace hs := hs.reslot (d := 7) (v := .int .i64 (((((szN r last 3) : Nat) : Int)) + (((vlen (zigI r.v0).toNat : Nat) : Int)))) (v' := .int .i64 ((((szN r last 4) : Nat) : Int))) rfl (Option.some.inj (congrArg (fun z => some (Value.int .i64 z)) (by rw [hs_]; omega)))
    exact hs.sub (.c rfl (.c rfl (.c rfl (.c rfl (.c rfl (.c rfl (.c rfl (.c rfl .n))))))))
   rw [hc76] at hs
   replace hc76 := ne_of_beq_f hc76
   refine st_guardT hs rfl rfl rfl ?_
   refine st_fa hs rfl Try.underlying25 rfl Try.sizeOf3 (by decide) (o := 0) rfl rfl ?_; clear hs w a; intro a w hs
   refine st_guardT hs rfl rfl rfl ?_
   refine st_ldB hs rfl (.s (.s .z)) .z Try.isAgg3 rfl ?_; clear hs w a; intro a w hs
   refine st_guardT hs rfl rfl rfl ?_
   refine st_eql hs rfl rfl rfl ?_; clear hs w a; intro a w hs
   refine st_pickF hs rfl rfl rfl ?_; clear hs w a; intro a w hs
   refine st_mv hs rfl rfl ?_; clear hs w a; intro a w hs
   refine st_part (b := (r.k : Int) == 3) (fun hc77 => ?_) (fun hc77 => ?_)
   ·
    rw [hc77] at hs
    replace hc77 := eq_of_beq hc77
    refine st_guardF hs rfl rfl rfl rfl rfl ?_; clear hs w a; intro a w hs
    refine st_guardF hs rfl rfl rfl rfl rfl ?_; clear hs w a; intro a w hs
    refine st_guardF hs rfl rfl rfl rfl rfl ?_; clear hs w a; intro a w hs
    refine st_guardF hs rfl rfl rfl rfl rfl ?_; clear hs w a; intro a w hs
    refine st_guardU hs rfl rfl rfl rfl ?_; clear hs w a; intro a w hs
    refine st_guardU hs rfl rfl rfl rfl ?_; clear hs w a; intro a w hs
    refine st_guardF hs rfl rfl rfl rfl rfl ?_; clear hs w a; intro a w hs
    refine st_pickT hs rfl rfl rfl ?_; clear hs w a; intro a w hs
    refine wpList_nil ?_
    refine then_n (hK75 _ _ ?_)
    refine wp_cond_true (hs.ev rfl) ?_
    refine wp_region_lit ?_
    refine st_mv hs rfl rfl ?_; clear hs w a; intro a w hs
    refine st_mv hs rfl rfl ?_; clear hs w a; intro a w hs
    refine st_callP (v := .int .u64 ((((zigI r.v0).toNat : Nat) : Int))) hs (.c rfl .n) Try.call24 (zig_ok r.v0 _ (by omega)) rfl ?_; clear hs w a; intro a w hs
    refine st_callP (v := .int .i64 (((vlen (zigI r.v0).toNat : Nat) : Int))) hs (.c rfl .n) Try.call23 (size_ok (zigI r.v0) _) rfl ?_; clear hs w a; intro a w hs
    refine st_addR hs rfl rfl (by omega) rfl ?_; clear hs w a; intro a w hs
    refine st_as hs rfl rfl ?_; clear hs w a; intro a w hs
    refine wpList_nil ?_
    refine in_n ?_
    refine then_n (hK71 _ _ ?_)
    refine wp_region_lit ?_
    refine st_addR hs rfl rfl (by omega) rfl ?_; clear hs w a; intro a w hs
    rw [show (3 + 1 : Int) = 4 by rfl] at hs
    refine st_mv hs rfl rfl ?_; clear hs w a; intro a w hs
    refine wpList_nil ?_
    refine then_n ?_
    have hs_ : szN r last 4 = _ := szN_y (r := r) (last := last) (i := 3) (x := r.v0) rfl (by omega)
    replace hs := hs.reslot (d := 7) (v := .int .i64 (((((szN r last 3) : Nat) : Int)) + (((vlen (zigI r.v0).toNat : Nat) : Int)))) (v' := .int .i64 ((((szN r last 4) : Nat) : Int))) rfl (Option.some.inj (congrArg (fun z => some (Value.int .i64 z)) (by rw [hs_]; omega)))
    exact hs.sub (.c rfl (.c rfl (.c rfl (.c rfl (.c rfl (.c rfl (.c rfl (.c rfl .n))))))))
   rw [hc77] at hs
   replace hc77 := ne_of_beq_f hc77
   refine st_guardT hs rfl rfl rfl ?_
   refine st_fa hs rfl Try.underlying25 rfl Try.sizeOf3 (by decide) (o := 0) rfl rfl ?_; clear hs w a; intro a w hs
   refine st_guardT hs rfl rfl rfl ?_
   refine st_ldB hs rfl (.s (.s .z)) .z Try.isAgg3 rfl ?_; clear hs w a; intro a w hs
   refine st_guardT hs rfl rfl rfl ?_
   refine st_eql hs rfl rfl rfl ?_; clear hs w a; intro a w hs
   refine st_guardT hs rfl rfl rfl ?_
   refine st_mv hs rfl rfl ?_; clear hs w a; intro a w hs
   refine st_part (b := (r.k : Int) == 1) (fun hc78 => ?_) (fun hc78 => ?_)
   ·
    rw [hc78] at hs
    replace hc78 := eq_of_beq hc78
    refine st_guardT hs rfl rfl rfl ?_
    refine st_mv hs rfl rfl ?_; clear hs w a; intro a w hs
    refine st_guardT hs rfl rfl rfl ?_
    refine st_neq hs rfl rfl rfl ?_; clear hs w a; intro a w hs
    refine st_guardT hs rfl rfl rfl ?_
    refine st_pickT hs rfl rfl rfl ?_; clear hs w a; intro a w hs
    refine st_pickF hs rfl rfl rfl ?_; clear hs w a; intro a w hs
    refine wpList_nil ?_
    refine then_n (hK75 _ _ ?_)
    refine wp_if hs rfl (fun hc79 => ?_) (fun hc79 => ?_)
    ·
     replace hc79 := not_t hc79
     replace hc79 := ne_of_beq_f hc79
     refine wp_region_lit ?_
     refine st_mv hs rfl rfl ?_; clear hs w a; intro a w hs
     refine st_mv hs rfl rfl ?_; clear hs w a; intro a w hs
     refine st_callP (v := .int .u64 ((((zigI r.v0).toNat : Nat) : Int))) hs (.c rfl .n) Try.call24 (zig_ok r.v0 _ (by omega)) rfl ?_; clear hs w a; intro a w hs
     refine st_callP (v := .int .i64 (((vlen (zigI r.v0).toNat : Nat) : Int))) hs (.c rfl .n) Try.call23 (size_ok (zigI r.v0) _) rfl ?_; clear hs w a; intro a w hs
     refine st_addR hs rfl rfl (by omega) rfl ?_; clear hs w a; intro a w hs
     refine st_as hs rfl rfl ?_; clear hs w a; intro a w hs
     refine wpList_nil ?_
     refine in_n ?_
     refine then_n (hK71 _ _ ?_)
     refine wp_region_lit ?_
     refine st_addR hs rfl rfl (by omega) rfl ?_; clear hs w a; intro a w hs
     rw [show (3 + 1 : Int) = 4 by rfl] at hs
     refine st_mv hs rfl rfl ?_; clear hs w a; intro a w hs
     refine wpList_nil ?_
     refine then_n ?_
     have hs_ : szN r last 4 = _ := szN_y (r := r) (last := last) (i := 3) (x := r.v0) rfl (by omega)
     replace hs := hs.reslot (d := 7) (v := .int .i64 (((((szN r last 3) : Nat) : Int)) + (((vlen (zigI r.v0).toNat : Nat) : Int)))) (v' := .int .i64 ((((szN r last 4) : Nat) : Int))) rfl (Option.some.inj (congrArg (fun z => some (Value.int .i64 z)) (by rw [hs_]; omega)))
     exact hs.sub (.c rfl (.c rfl (.c rfl (.c rfl (.c rfl (.c rfl (.c rfl (.c rfl .n))))))))
    replace hc79 := not_f hc79
    replace hc79 := eq_of_beq hc79
    refine wp_skip ?_
    refine in_n ?_
    refine then_n (hK71 _ _ ?_)
    refine wp_region_lit ?_
    refine st_addR hs rfl rfl (by omega) rfl ?_; clear hs w a; intro a w hs
    rw [show (3 + 1 : Int) = 4 by rfl] at hs
    refine st_mv hs rfl rfl ?_; clear hs w a; intro a w hs
    refine wpList_nil ?_
    refine then_n ?_
    have hs_ : szN r last 4 = _ := szN_n (r := r) (last := last) (i := 3) (x := r.v0) rfl (by omega)
    replace hs := hs.reslot (d := 7) (v := .int .i64 ((((szN r last 3) : Nat) : Int))) (v' := .int .i64 ((((szN r last 4) : Nat) : Int))) rfl (Option.some.inj (congrArg (fun z => some (Value.int .i64 z)) (by rw [hs_])))
    exact hs.sub (.c rfl (.c rfl (.c rfl (.c rfl (.c rfl (.c rfl (.c rfl (.c rfl .n))))))))
   rw [hc78] at hs
   replace hc78 := ne_of_beq_f hc78
   refine st_guardF hs rfl rfl rfl rfl rfl ?_; clear hs w a; intro a w hs
   refine st_guardF hs rfl rfl rfl rfl rfl ?_; clear hs w a; intro a w hs
   refine st_guardT hs rfl rfl rfl ?_
   refine st_pickF hs rfl rfl rfl ?_; clear hs w a; intro a w hs
   refine st_pickF hs rfl rfl rfl ?_; clear hs w a; intro a w hs
   refine wpList_nil ?_
   refine then_n (hK75 _ _ ?_)
   refine wp_cond_false (hs.ev rfl) ?_
   refine wp_skip ?_
   refine in_n ?_
   refine then_n (hK71 _ _ ?_)
   refine wp_region_lit ?_
   refine st_addR hs rfl rfl (by omega) rfl ?_; clear hs w a; intro a w hs
   rw [show (3 + 1 : Int) = 4 by rfl] at hs
   refine st_mv hs rfl rfl ?_; clear hs w a; intro a w hs
   refine wpList_nil ?_
   refine then_n ?_
   have hs_ : szN r last 4 = _ := szN_n (r := r) (last := last) (i := 3) (x := r.v0) rfl (by omega)
   replace hs := hs.reslot (d := 7) (v := .int .i64 ((((szN r last 3) : Nat) : Int))) (v' := .int .i64 ((((szN r last 4) : Nat) : Int))) rfl (Option.some.inj (congrArg (fun z => some (Value.int .i64 z)) (by rw [hs_])))
   exact hs.sub (.c rfl (.c rfl (.c rfl (.c rfl (.c rfl (.c rfl (.c rfl (.c rfl .n))))))))
  clear hs w a; rintro a w hs
  have hs4 := szN_le r last 4
  refine then_n ?_
  refine rounds_in ?_
  refine wp_cut (fun a w => St 120 [(2, .pointer (some ⟨g3, 0, none⟩)), (5, v6), (6, .int .i64 (((recErr r last : Nat) : Int))), (7, .int .i64 ((((szN r last 5) : Nat) : Int))), (8, .slice (some ⟨g19, 0, none⟩) 6 6), (52, .slice (some ⟨g19, 0, none⟩) 6 6), (53, .int .i64 (6)), (54, .int .i64 (5))] w0 [] [blk g19 [.int .i64 (r.p0), .int .i64 (r.p1), .int .i64 (r.p2), .int .i64 (r.v0), .int .i64 (r.v1), .int .i64 (r.v2)] 2, row v6 5 1 ((recB r last).length) (bytesV (recB r last)), blk g3 [.int .i64 (r.k), .int .i64 (r.id), .int .i64 (r.p0), .int .i64 (r.p1), .int .i64 (r.p2), .int .i64 (r.v0), .int .i64 (r.v1), .int .i64 (r.v2), .int .u16 ((((r.a).toNat : Nat) : Int))] 25] a w) ?_ ?_
  ·
   refine wp_seq_k fun K80 hK81 => ?_
   refine wp_region_lit ?_
   refine st_lss hs rfl rfl rfl ?_; clear hs w a; intro a w hs
   rw [show (decide ((4 : Int) < 6)) = true from by decide] at hs
   refine wpList_nil ?_
   refine then_n (hK81 _ _ ?_)
   refine wp_seq_k fun K82 hK83 => ?_
   refine wp_cond_true (hs.ev rfl) ?_
   refine wp_skip ?_
   refine then_n (hK83 _ _ ?_)
   refine wp_seq_k fun K84 hK85 => ?_
   refine wp_block ?_
   refine wp_seq_k fun K86 hK87 => ?_
   refine wp_region_lit ?_
   refine st_ia1 (j := 4) hs rfl rfl (rd_blk (m := 6) (size := 1) (hs.mem.del .z) rfl (by decide)) (by decide) (by omega) Try.underlying38 Try.sizeOf2 rfl ?_; clear hs w a; intro a w hs
   refine st_ld (u := .int .i64 (r.v1)) hs rfl (rd_blk (m := 6) (size := 1) (hs.mem.del .z) rfl (by decide)) (by rfl) Try.isAgg2 rfl ?_; clear hs w a; intro a w hs
   refine st_as hs rfl rfl ?_; clear hs w a; intro a w hs
   refine wpList_nil ?_
   refine then_n (hK87 _ _ ?_)
   refine wp_seq_k fun K88 hK89 => ?_
   refine wp_region_lit ?_
   refine st_fa hs rfl Try.underlying25 rfl Try.sizeOf3 (by decide) (o := 0) rfl rfl ?_; clear hs w a; intro a w hs
   refine st_ldB hs rfl (.s (.s .z)) .z Try.isAgg3 rfl ?_; clear hs w a; intro a w hs
   refine st_eql hs rfl rfl rfl ?_; clear hs w a; intro a w hs
   refine st_mv hs rfl rfl ?_; clear hs w a; intro a w hs
   refine st_part (b := (r.k : Int) == 0) (fun hc90 => ?_) (fun hc90 => ?_)
   ·
    rw [hc90] at hs
    replace hc90 := eq_of_beq hc90
    refine st_guardF hs rfl rfl rfl rfl rfl ?_; clear hs w a; intro a w hs
    refine st_guardF hs rfl rfl rfl rfl rfl ?_; clear hs w a; intro a w hs
    refine st_guardF hs rfl rfl rfl rfl rfl ?_; clear hs w a; intro a w hs
    refine st_pickT hs rfl rfl rfl ?_; clear hs w a; intro a w hs
    refine st_mv hs rfl rfl ?_; clear hs w a; intro a w hs
    refine st_guardF hs rfl rfl rfl rfl rfl ?_; clear hs w a; intro a w hs
    refine st_guardF hs rfl rfl rfl rfl rfl ?_; clear hs w a; intro a w hs
    refine st_guardF hs rfl rfl rfl rfl rfl ?_; clear hs w a; intro a w hs
    refine st_guardF hs rfl rfl rfl rfl rfl ?_; clear hs w a; intro a w hs
    refine st_guardU hs rfl rfl rfl rfl ?_; clear hs w a; intro a w hs
    refine st_guardU hs rfl rfl rfl rfl ?_; clear hs w a; intro a w hs
    refine st_guardF hs rfl rfl rfl rfl rfl ?_; clear hs w a; intro a w hs
    refine st_pickT hs rfl rfl rfl ?_; clear hs w a; intro a w hs
    refine wpList_nil ?_
    refine then_n (hK89 _ _ ?_)
    refine wp_cond_true (hs.ev rfl) ?_
    refine wp_region_lit ?_
    refine st_mv hs rfl rfl ?_; clear hs w a; intro a w hs
    refine st_mv hs rfl rfl ?_; clear hs w a; intro a w hs
    refine st_callP (v := .int .u64 ((((zigI r.v1).toNat : Nat) : Int))) hs (.c rfl .n) Try.call24 (zig_ok r.v1 _ (by omega)) rfl ?_; clear hs w a; intro a w hs
    refine st_callP (v := .int .i64 (((vlen (zigI r.v1).toNat : Nat) : Int))) hs (.c rfl .n) Try.call23 (size_ok (zigI r.v1) _) rfl ?_; clear hs w a; intro a w hs
    refine st_addR hs rfl rfl (by omega) rfl ?_; clear hs w a; intro a w hs
    refine st_as hs rfl rfl ?_; clear hs w a; intro a w hs
    refine wpList_nil ?_
    refine in_n ?_
    refine then_n (hK85 _ _ ?_)
    refine wp_region_lit ?_
    refine st_addR hs rfl rfl (by omega) rfl ?_; clear hs w a; intro a w hs
    rw [show (4 + 1 : Int) = 5 by rfl] at hs
    refine st_mv hs rfl rfl ?_; clear hs w a; intro a w hs
    refine wpList_nil ?_
    refine then_n ?_
    have hs_ : szN r last 5 = _ := szN_y (r := r) (last := last) (i := 4) (x := r.v1) rfl (by omega)
    replace hs := hs.reslot (d := 7) (v := .int .i64 (((((szN r last 4) : Nat) : Int)) + (((vlen (zigI r.v1).toNat : Nat) : Int)))) (v' := .int .i64 ((((szN r last 5) : Nat) : Int))) rfl (Option.some.inj (congrArg (fun z => some (Value.int .i64 z)) (by rw [hs_]; omega)))
    exact hs.sub (.c rfl (.c rfl (.c rfl (.c rfl (.c rfl (.c rfl (.c rfl (.c rfl .n))))))))
   rw [hc90] at hs
   replace hc90 := ne_of_beq_f hc90
   refine st_guardT hs rfl rfl rfl ?_
   refine st_fa hs rfl Try.underlying25 rfl Try.sizeOf3 (by decide) (o := 0) rfl rfl ?_; clear hs w a; intro a w hs
   refine st_guardT hs rfl rfl rfl ?_
   refine st_ldB hs rfl (.s (.s .z)) .z Try.isAgg3 rfl ?_; clear hs w a; intro a w hs
   refine st_guardT hs rfl rfl rfl ?_
   refine st_eql hs rfl rfl rfl ?_; clear hs w a; intro a w hs
   refine st_pickF hs rfl rfl rfl ?_; clear hs w a; intro a w hs
   refine st_mv hs rfl rfl ?_; clear hs w a; intro a w hs
   refine st_part (b := (r.k : Int) == 3) (fun hc91 => ?_) (fun hc91 => ?_)
   ·
    rw [hc91] at hs
    replace hc91 := eq_of_beq hc91
    refine st_guardF hs rfl rfl rfl rfl rfl ?_; clear hs w a; intro a w hs
    refine st_guardF hs rfl rfl rfl rfl rfl ?_; clear hs w a; intro a w hs
    refine st_guardF hs rfl rfl rfl rfl rfl ?_; clear hs w a; intro a w hs
    refine st_guardF hs rfl rfl rfl rfl rfl ?_; clear hs w a; intro a w hs
    refine st_guardU hs rfl rfl rfl rfl ?_; clear hs w a; intro a w hs
    refine st_guardU hs rfl rfl rfl rfl ?_; clear hs w a; intro a w hs
    refine st_guardF hs rfl rfl rfl rfl rfl ?_; clear hs w a; intro a w hs
    refine st_pickT hs rfl rfl rfl ?_; clear hs w a; intro a w hs
    refine wpList_nil ?_
    refine then_n (hK89 _ _ ?_)
    refine wp_cond_true (hs.ev rfl) ?_
    refine wp_region_lit ?_
    refine st_mv hs rfl rfl ?_; clear hs w a; intro a w hs
    refine st_mv hs rfl rfl ?_; clear hs w a; intro a w hs
    refine st_callP (v := .int .u64 ((((zigI r.v1).toNat : Nat) : Int))) hs (.c rfl .n) Try.call24 (zig_ok r.v1 _ (by omega)) rfl ?_; clear hs w a; intro a w hs
    refine st_callP (v := .int .i64 (((vlen (zigI r.v1).toNat : Nat) : Int))) hs (.c rfl .n) Try.call23 (size_ok (zigI r.v1) _) rfl ?_; clear hs w a; intro a w hs
    refine st_addR hs rfl rfl (by omega) rfl ?_; clear hs w a; intro a w hs
    refine st_as hs rfl rfl ?_; clear hs w a; intro a w hs
    refine wpList_nil ?_
    refine in_n ?_
    refine then_n (hK85 _ _ ?_)
    refine wp_region_lit ?_
    refine st_addR hs rfl rfl (by omega) rfl ?_; clear hs w a; intro a w hs
    rw [show (4 + 1 : Int) = 5 by rfl] at hs
    refine st_mv hs rfl rfl ?_; clear hs w a; intro a w hs
    refine wpList_nil ?_
    refine then_n ?_
    have hs_ : szN r last 5 = _ := szN_y (r := r) (last := last) (i := 4) (x := r.v1) rfl (by omega)
    replace hs := hs.reslot (d := 7) (v := .int .i64 (((((szN r last 4) : Nat) : Int)) + (((vlen (zigI r.v1).toNat : Nat) : Int)))) (v' := .int .i64 ((((szN r last 5) : Nat) : Int))) rfl (Option.some.inj (congrArg (fun z => some (Value.int .i64 z)) (by rw [hs_]; omega)))
    exact hs.sub (.c rfl (.c rfl (.c rfl (.c rfl (.c rfl (.c rfl (.c rfl (.c rfl .n))))))))
   rw [hc91] at hs
   replace hc91 := ne_of_beq_f hc91
   refine st_guardT hs rfl rfl rfl ?_
   refine st_fa hs rfl Try.underlying25 rfl Try.sizeOf3 (by decide) (o := 0) rfl rfl ?_; clear hs w a; intro a w hs
   refine st_guardT hs rfl rfl rfl ?_
   refine st_ldB hs rfl (.s (.s .z)) .z Try.isAgg3 rfl ?_; clear hs w a; intro a w hs
   refine st_guardT hs rfl rfl rfl ?_
   refine st_eql hs rfl rfl rfl ?_; clear hs w a; intro a w hs
   refine st_guardT hs rfl rfl rfl ?_
   refine st_mv hs rfl rfl ?_; clear hs w a; intro a w hs
   refine st_part (b := (r.k : Int) == 1) (fun hc92 => ?_) (fun hc92 => ?_)
   ·
    rw [hc92] at hs
    replace hc92 := eq_of_beq hc92
    refine st_guardT hs rfl rfl rfl ?_
    refine st_mv hs rfl rfl ?_; clear hs w a; intro a w hs
    refine st_guardT hs rfl rfl rfl ?_
    refine st_neq hs rfl rfl rfl ?_; clear hs w a; intro a w hs
    refine st_guardT hs rfl rfl rfl ?_
    refine st_pickT hs rfl rfl rfl ?_; clear hs w a; intro a w hs
    refine st_pickF hs rfl rfl rfl ?_; clear hs w a; intro a w hs
    refine wpList_nil ?_
    refine then_n (hK89 _ _ ?_)
    refine wp_if hs rfl (fun hc93 => ?_) (fun hc93 => ?_)
    ·
     replace hc93 := not_t hc93
     replace hc93 := ne_of_beq_f hc93
     refine wp_region_lit ?_
     refine st_mv hs rfl rfl ?_; clear hs w a; intro a w hs
     refine st_mv hs rfl rfl ?_; clear hs w a; intro a w hs
     refine st_callP (v := .int .u64 ((((zigI r.v1).toNat : Nat) : Int))) hs (.c rfl .n) Try.call24 (zig_ok r.v1 _ (by omega)) rfl ?_; clear hs w a; intro a w hs
     refine st_callP (v := .int .i64 (((vlen (zigI r.v1).toNat : Nat) : Int))) hs (.c rfl .n) Try.call23 (size_ok (zigI r.v1) _) rfl ?_; clear hs w a; intro a w hs
     refine st_addR hs rfl rfl (by omega) rfl ?_; clear hs w a; intro a w hs
     refine st_as hs rfl rfl ?_; clear hs w a; intro a w hs
     refine wpList_nil ?_
     refine in_n ?_
     refine then_n (hK85 _ _ ?_)
     refine wp_region_lit ?_
     refine st_addR hs rfl rfl (by omega) rfl ?_; clear hs w a; intro a w hs
     rw [show (4 + 1 : Int) = 5 by rfl] at hs
     refine st_mv hs rfl rfl ?_; clear hs w a; intro a w hs
     refine wpList_nil ?_
     refine then_n ?_
     have hs_ : szN r last 5 = _ := szN_y (r := r) (last := last) (i := 4) (x := r.v1) rfl (by omega)
     replace hs := hs.reslot (d := 7) (v := .int .i64 (((((szN r last 4) : Nat) : Int)) + (((vlen (zigI r.v1).toNat : Nat) : Int)))) (v' := .int .i64 ((((szN r last 5) : Nat) : Int))) rfl (Option.some.inj (congrArg (fun z => some (Value.int .i64 z)) (by rw [hs_]; omega)))
     exact hs.sub (.c rfl (.c rfl (.c rfl (.c rfl (.c rfl (.c rfl (.c rfl (.c rfl .n))))))))
    replace hc93 := not_f hc93
    replace hc93 := eq_of_beq hc93
    refine wp_skip ?_
    refine in_n ?_
    refine then_n (hK85 _ _ ?_)
    refine wp_region_lit ?_
    refine st_addR hs rfl rfl (by omega) rfl ?_; clear hs w a; intro a w hs
    rw [show (4 + 1 : Int) = 5 by rfl] at hs
    refine st_mv hs rfl rfl ?_; clear hs w a; intro a w hs
    refine wpList_nil ?_
    refine then_n ?_
    have hs_ : szN r last 5 = _ := szN_n (r := r) (last := last) (i := 4) (x := r.v1) rfl (by omega)
    replace hs := hs.reslot (d := 7) (v := .int .i64 ((((szN r last 4) : Nat) : Int))) (v' := .int .i64 ((((szN r last 5) : Nat) : Int))) rfl (Option.some.inj (congrArg (fun z => some (Value.int .i64 z)) (by rw [hs_])))
    exact hs.sub (.c rfl (.c rfl (.c rfl (.c rfl (.c rfl (.c rfl (.c rfl (.c rfl .n))))))))
   rw [hc92] at hs
   replace hc92 := ne_of_beq_f hc92
   refine st_guardF hs rfl rfl rfl rfl rfl ?_; clear hs w a; intro a w hs
   refine st_guardF hs rfl rfl rfl rfl rfl ?_; clear hs w a; intro a w hs
   refine st_guardT hs rfl rfl rfl ?_
   refine st_pickF hs rfl rfl rfl ?_; clear hs w a; intro a w hs
   refine st_pickF hs rfl rfl rfl ?_; clear hs w a; intro a w hs
   refine wpList_nil ?_
   refine then_n (hK89 _ _ ?_)
   refine wp_cond_false (hs.ev rfl) ?_
   refine wp_skip ?_
   refine in_n ?_
   refine then_n (hK85 _ _ ?_)
   refine wp_region_lit ?_
   refine st_addR hs rfl rfl (by omega) rfl ?_; clear hs w a; intro a w hs
   rw [show (4 + 1 : Int) = 5 by rfl] at hs
   refine st_mv hs rfl rfl ?_; clear hs w a; intro a w hs
   refine wpList_nil ?_
   refine then_n ?_
   have hs_ : szN r last 5 = _ := szN_n (r := r) (last := last) (i := 4) (x := r.v1) rfl (by omega)
   replace hs := hs.reslot (d := 7) (v := .int .i64 ((((szN r last 4) : Nat) : Int))) (v' := .int .i64 ((((szN r last 5) : Nat) : Int))) rfl (Option.some.inj (congrArg (fun z => some (Value.int .i64 z)) (by rw [hs_])))
   exact hs.sub (.c rfl (.c rfl (.c rfl (.c rfl (.c rfl (.c rfl (.c rfl (.c rfl .n))))))))
  clear hs w a; rintro a w hs
  have hs5 := szN_le r last 5
  refine then_n ?_
  refine rounds_in ?_
  refine wp_cut (fun a w => St 120 [(2, .pointer (some ⟨g3, 0, none⟩)), (5, v6), (6, .int .i64 (((recErr r last : Nat) : Int))), (7, .int .i64 ((((szN r last 6) : Nat) : Int))), (8, .slice (some ⟨g19, 0, none⟩) 6 6), (52, .slice (some ⟨g19, 0, none⟩) 6 6), (53, .int .i64 (6)), (54, .int .i64 (6))] w0 [] [blk g19 [.int .i64 (r.p0), .int .i64 (r.p1), .int .i64 (r.p2), .int .i64 (r.v0), .int .i64 (r.v1), .int .i64 (r.v2)] 2, row v6 5 1 ((recB r last).length) (bytesV (recB r last)), blk g3 [.int .i64 (r.k), .int .i64 (r.id), .int .i64 (r.p0), .int .i64 (r.p1), .int .i64 (r.p2), .int .i64 (r.v0), .int .i64 (r.v1), .int .i64 (r.v2), .int .u16 ((((r.a).toNat : Nat) : Int))] 25] a w) ?_ ?_
  ·
   refine wp_seq_k fun K94 hK95 => ?_
   refine wp_region_lit ?_
   refine st_lss hs rfl rfl rfl ?_; clear hs w a; intro a w hs
   rw [show (decide ((5 : Int) < 6)) = true from by decide] at hs
   refine wpList_nil ?_
   refine then_n (hK95 _ _ ?_)
   refine wp_seq_k fun K96 hK97 => ?_
   refine wp_cond_true (hs.ev rfl) ?_
   refine wp_skip ?_
   refine then_n (hK97 _ _ ?_)
   refine wp_seq_k fun K98 hK99 => ?_
   refine wp_block ?_
   refine wp_seq_k fun K100 hK101 => ?_
   refine wp_region_lit ?_
   refine st_ia1 (j := 5) hs rfl rfl (rd_blk (m := 6) (size := 1) (hs.mem.del .z) rfl (by decide)) (by decide) (by omega) Try.underlying38 Try.sizeOf2 rfl ?_; clear hs w a; intro a w hs
   refine st_ld (u := .int .i64 (r.v2)) hs rfl (rd_blk (m := 6) (size := 1) (hs.mem.del .z) rfl (by decide)) (by rfl) Try.isAgg2 rfl ?_; clear hs w a; intro a w hs
   refine st_as hs rfl rfl ?_; clear hs w a; intro a w hs
   refine wpList_nil ?_
   refine then_n (hK101 _ _ ?_)
   refine wp_seq_k fun K102 hK103 => ?_
   refine wp_region_lit ?_
   refine st_fa hs rfl Try.underlying25 rfl Try.sizeOf3 (by decide) (o := 0) rfl rfl ?_; clear hs w a; intro a w hs
   refine st_ldB hs rfl (.s (.s .z)) .z Try.isAgg3 rfl ?_; clear hs w a; intro a w hs
   refine st_eql hs rfl rfl rfl ?_; clear hs w a; intro a w hs
   refine st_mv hs rfl rfl ?_; clear hs w a; intro a w hs
   refine st_part (b := (r.k : Int) == 0) (fun hc104 => ?_) (fun hc104 => ?_)
   ·
    rw [hc104] at hs
    replace hc104 := eq_of_beq hc104
    refine st_guardF hs rfl rfl rfl rfl rfl ?_; clear hs w a; intro a w hs
    refine st_guardF hs rfl rfl rfl rfl rfl ?_; clear hs w a; intro a w hs
    refine st_guardF hs rfl rfl rfl rfl rfl ?_; clear hs w a; intro a w hs
    refine st_pickT hs rfl rfl rfl ?_; clear hs w a; intro a w hs
    refine st_mv hs rfl rfl ?_; clear hs w a; intro a w hs
    refine st_guardF hs rfl rfl rfl rfl rfl ?_; clear hs w a; intro a w hs
    refine st_guardF hs rfl rfl rfl rfl rfl ?_; clear hs w a; intro a w hs
    refine st_guardF hs rfl rfl rfl rfl rfl ?_; clear hs w a; intro a w hs
    refine st_guardF hs rfl rfl rfl rfl rfl ?_; clear hs w a; intro a w hs
    refine st_guardU hs rfl rfl rfl rfl ?_; clear hs w a; intro a w hs
    refine st_guardU hs rfl rfl rfl rfl ?_; clear hs w a; intro a w hs
    refine st_guardF hs rfl rfl rfl rfl rfl ?_; clear hs w a; intro a w hs
    refine st_pickT hs rfl rfl rfl ?_; clear hs w a; intro a w hs
    refine wpList_nil ?_
    refine then_n (hK103 _ _ ?_)
    refine wp_cond_true (hs.ev rfl) ?_
    refine wp_region_lit ?_
    refine st_mv hs rfl rfl ?_; clear hs w a; intro a w hs
    refine st_mv hs rfl rfl ?_; clear hs w a; intro a w hs
    refine st_callP (v := .int .u64 ((((zigI r.v2).toNat : Nat) : Int))) hs (.c rfl .n) Try.call24 (zig_ok r.v2 _ (by omega)) rfl ?_; clear hs w a; intro a w hs
    refine st_callP (v := .int .i64 (((vlen (zigI r.v2).toNat : Nat) : Int))) hs (.c rfl .n) Try.call23 (size_ok (zigI r.v2) _) rfl ?_; clear hs w a; intro a w hs
    refine st_addR hs rfl rfl (by omega) rfl ?_; clear hs w a; intro a w hs
    refine st_as hs rfl rfl ?_; clear hs w a; intro a w hs
    refine wpList_nil ?_
    refine in_n ?_
    refine then_n (hK99 _ _ ?_)
    refine wp_region_lit ?_
    refine st_addR hs rfl rfl (by omega) rfl ?_; clear hs w a; intro a w hs
    rw [show (5 + 1 : Int) = 6 by rfl] at hs
    refine st_mv hs rfl rfl ?_; clear hs w a; intro a w hs
    refine wpList_nil ?_
    refine then_n ?_
    have hs_ : szN r last 6 = _ := szN_y (r := r) (last := last) (i := 5) (x := r.v2) rfl (by omega)
    replace hs := hs.reslot (d := 7) (v := .int .i64 (((((szN r last 5) : Nat) : Int)) + (((vlen (zigI r.v2).toNat : Nat) : Int)))) (v' := .int .i64 ((((szN r last 6) : Nat) : Int))) rfl (Option.some.inj (congrArg (fun z => some (Value.int .i64 z)) (by rw [hs_]; omega)))
    exact hs.sub (.c rfl (.c rfl (.c rfl (.c rfl (.c rfl (.c rfl (.c rfl (.c rfl .n))))))))
   rw [hc104] at hs
   replace hc104 := ne_of_beq_f hc104
   refine st_guardT hs rfl rfl rfl ?_
   refine st_fa hs rfl Try.underlying25 rfl Try.sizeOf3 (by decide) (o := 0) rfl rfl ?_; clear hs w a; intro a w hs
   refine st_guardT hs rfl rfl rfl ?_
   refine st_ldB hs rfl (.s (.s .z)) .z Try.isAgg3 rfl ?_; clear hs w a; intro a w hs
   refine st_guardT hs rfl rfl rfl ?_
   refine st_eql hs rfl rfl rfl ?_; clear hs w a; intro a w hs
   refine st_pickF hs rfl rfl rfl ?_; clear hs w a; intro a w hs
   refine st_mv hs rfl rfl ?_; clear hs w a; intro a w hs
   refine st_part (b := (r.k : Int) == 3) (fun hc105 => ?_) (fun hc105 => ?_)
   ·
    rw [hc105] at hs
    replace hc105 := eq_of_beq hc105
    refine st_guardF hs rfl rfl rfl rfl rfl ?_; clear hs w a; intro a w hs
    refine st_guardF hs rfl rfl rfl rfl rfl ?_; clear hs w a; intro a w hs
    refine st_guardF hs rfl rfl rfl rfl rfl ?_; clear hs w a; intro a w hs
    refine st_guardF hs rfl rfl rfl rfl rfl ?_; clear hs w a; intro a w hs
    refine st_guardU hs rfl rfl rfl rfl ?_; clear hs w a; intro a w hs
    refine st_guardU hs rfl rfl rfl rfl ?_; clear hs w a; intro a w hs
    refine st_guardF hs rfl rfl rfl rfl rfl ?_; clear hs w a; intro a w hs
    refine st_pickT hs rfl rfl rfl ?_; clear hs w a; intro a w hs
    refine wpList_nil ?_
    refine then_n (hK103 _ _ ?_)
    refine wp_cond_true (hs.ev rfl) ?_
    refine wp_region_lit ?_
    refine st_mv hs rfl rfl ?_; clear hs w a; intro a w hs
    refine st_mv hs rfl rfl ?_; clear hs w a; intro a w hs
    refine st_callP (v := .int .u64 ((((zigI r.v2).toNat : Nat) : Int))) hs (.c rfl .n) Try.call24 (zig_ok r.v2 _ (by omega)) rfl ?_; clear hs w a; intro a w hs
    refine st_callP (v := .int .i64 (((vlen (zigI r.v2).toNat : Nat) : Int))) hs (.c rfl .n) Try.call23 (size_ok (zigI r.v2) _) rfl ?_; clear hs w a; intro a w hs
    refine st_addR hs rfl rfl (by omega) rfl ?_; clear hs w a; intro a w hs
    refine st_as hs rfl rfl ?_; clear hs w a; intro a w hs
    refine wpList_nil ?_
    refine in_n ?_
    refine then_n (hK99 _ _ ?_)
    refine wp_region_lit ?_
    refine st_addR hs rfl rfl (by omega) rfl ?_; clear hs w a; intro a w hs
    rw [show (5 + 1 : Int) = 6 by rfl] at hs
    refine st_mv hs rfl rfl ?_; clear hs w a; intro a w hs
    refine wpList_nil ?_
    refine then_n ?_
    have hs_ : szN r last 6 = _ := szN_y (r := r) (last := last) (i := 5) (x := r.v2) rfl (by omega)
    replace hs := hs.reslot (d := 7) (v := .int .i64 (((((szN r last 5) : Nat) : Int)) + (((vlen (zigI r.v2).toNat : Nat) : Int)))) (v' := .int .i64 ((((szN r last 6) : Nat) : Int))) rfl (Option.some.inj (congrArg (fun z => some (Value.int .i64 z)) (by rw [hs_]; omega)))
    exact hs.sub (.c rfl (.c rfl (.c rfl (.c rfl (.c rfl (.c rfl (.c rfl (.c rfl .n))))))))
   rw [hc105] at hs
   replace hc105 := ne_of_beq_f hc105
   refine st_guardT hs rfl rfl rfl ?_
   refine st_fa hs rfl Try.underlying25 rfl Try.sizeOf3 (by decide) (o := 0) rfl rfl ?_; clear hs w a; intro a w hs
   refine st_guardT hs rfl rfl rfl ?_
   refine st_ldB hs rfl (.s (.s .z)) .z Try.isAgg3 rfl ?_; clear hs w a; intro a w hs
   refine st_guardT hs rfl rfl rfl ?_
   refine st_eql hs rfl rfl rfl ?_; clear hs w a; intro a w hs
   refine st_guardT hs rfl rfl rfl ?_
   refine st_mv hs rfl rfl ?_; clear hs w a; intro a w hs
   refine st_part (b := (r.k : Int) == 1) (fun hc106 => ?_) (fun hc106 => ?_)
   ·
    rw [hc106] at hs
    replace hc106 := eq_of_beq hc106
    refine st_guardT hs rfl rfl rfl ?_
    refine st_mv hs rfl rfl ?_; clear hs w a; intro a w hs
    refine st_guardT hs rfl rfl rfl ?_
    refine st_neq hs rfl rfl rfl ?_; clear hs w a; intro a w hs
    refine st_guardT hs rfl rfl rfl ?_
    refine st_pickT hs rfl rfl rfl ?_; clear hs w a; intro a w hs
    refine st_pickF hs rfl rfl rfl ?_; clear hs w a; intro a w hs
    refine wpList_nil ?_
    refine then_n (hK103 _ _ ?_)
    refine wp_if hs rfl (fun hc107 => ?_) (fun hc107 => ?_)
    ·
     replace hc107 := not_t hc107
     replace hc107 := ne_of_beq_f hc107
     refine wp_region_lit ?_
     refine st_mv hs rfl rfl ?_; clear hs w a; intro a w hs
     refine st_mv hs rfl rfl ?_; clear hs w a; intro a w hs
     refine st_callP (v := .int .u64 ((((zigI r.v2).toNat : Nat) : Int))) hs (.c rfl .n) Try.call24 (zig_ok r.v2 _ (by omega)) rfl ?_; clear hs w a; intro a w hs
     refine st_callP (v := .int .i64 (((vlen (zigI r.v2).toNat : Nat) : Int))) hs (.c rfl .n) Try.call23 (size_ok (zigI r.v2) _) rfl ?_; clear hs w a; intro a w hs
     refine st_addR hs rfl rfl (by omega) rfl ?_; clear hs w a; intro a w hs
     refine st_as hs rfl rfl ?_; clear hs w a; intro a w hs
     refine wpList_nil ?_
     refine in_n ?_
     refine then_n (hK99 _ _ ?_)
     refine wp_region_lit ?_
     refine st_addR hs rfl rfl (by omega) rfl ?_; clear hs w a; intro a w hs
     rw [show (5 + 1 : Int) = 6 by rfl] at hs
     refine st_mv hs rfl rfl ?_; clear hs w a; intro a w hs
     refine wpList_nil ?_
     refine then_n ?_
     have hs_ : szN r last 6 = _ := szN_y (r := r) (last := last) (i := 5) (x := r.v2) rfl (by omega)
     replace hs := hs.reslot (d := 7) (v := .int .i64 (((((szN r last 5) : Nat) : Int)) + (((vlen (zigI r.v2).toNat : Nat) : Int)))) (v' := .int .i64 ((((szN r last 6) : Nat) : Int))) rfl (Option.some.inj (congrArg (fun z => some (Value.int .i64 z)) (by rw [hs_]; omega)))
     exact hs.sub (.c rfl (.c rfl (.c rfl (.c rfl (.c rfl (.c rfl (.c rfl (.c rfl .n))))))))
    replace hc107 := not_f hc107
    replace hc107 := eq_of_beq hc107
    refine wp_skip ?_
    refine in_n ?_
    refine then_n (hK99 _ _ ?_)
    refine wp_region_lit ?_
    refine st_addR hs rfl rfl (by omega) rfl ?_; clear hs w a; intro a w hs
    rw [show (5 + 1 : Int) = 6 by rfl] at hs
    refine st_mv hs rfl rfl ?_; clear hs w a; intro a w hs
    refine wpList_nil ?_
    refine then_n ?_
    have hs_ : szN r last 6 = _ := szN_n (r := r) (last := last) (i := 5) (x := r.v2) rfl (by omega)
    replace hs := hs.reslot (d := 7) (v := .int .i64 ((((szN r last 5) : Nat) : Int))) (v' := .int .i64 ((((szN r last 6) : Nat) : Int))) rfl (Option.some.inj (congrArg (fun z => some (Value.int .i64 z)) (by rw [hs_])))
    exact hs.sub (.c rfl (.c rfl (.c rfl (.c rfl (.c rfl (.c rfl (.c rfl (.c rfl .n))))))))
   rw [hc106] at hs
   replace hc106 := ne_of_beq_f hc106
   refine st_guardF hs rfl rfl rfl rfl rfl ?_; clear hs w a; intro a w hs
   refine st_guardF hs rfl rfl rfl rfl rfl ?_; clear hs w a; intro a w hs
   refine st_guardT hs rfl rfl rfl ?_
   refine st_pickF hs rfl rfl rfl ?_; clear hs w a; intro a w hs
   refine st_pickF hs rfl rfl rfl ?_; clear hs w a; intro a w hs
   refine wpList_nil ?_
   refine then_n (hK103 _ _ ?_)
   refine wp_cond_false (hs.ev rfl) ?_
   refine wp_skip ?_
   refine in_n ?_
   refine then_n (hK99 _ _ ?_)
   refine wp_region_lit ?_
   refine st_addR hs rfl rfl (by omega) rfl ?_; clear hs w a; intro a w hs
   rw [show (5 + 1 : Int) = 6 by rfl] at hs
   refine st_mv hs rfl rfl ?_; clear hs w a; intro a w hs
   refine wpList_nil ?_
   refine then_n ?_
   have hs_ : szN r last 6 = _ := szN_n (r := r) (last := last) (i := 5) (x := r.v2) rfl (by omega)
   replace hs := hs.reslot (d := 7) (v := .int .i64 ((((szN r last 5) : Nat) : Int))) (v' := .int .i64 ((((szN r last 6) : Nat) : Int))) rfl (Option.some.inj (congrArg (fun z => some (Value.int .i64 z)) (by rw [hs_])))
   exact hs.sub (.c rfl (.c rfl (.c rfl (.c rfl (.c rfl (.c rfl (.c rfl (.c rfl .n))))))))
  clear hs w a; rintro a w hs
  have hs6 := szN_le r last 6
  refine then_n ?_
  refine rounds_in ?_
  refine wp_seq_k fun K108 hK109 => ?_
  refine wp_region_lit ?_
  refine st_lss hs rfl rfl rfl ?_; clear hs w a; intro a w hs
  rw [show (decide ((6 : Int) < 6)) = false from by decide] at hs
  refine wpList_nil ?_
  refine then_n (hK109 _ _ ?_)
  refine wp_seq_k fun K110 hK111 => ?_
  refine wp_cond_false (hs.ev rfl) ?_
  refine wp_exit ?_
  refine th_e ?_
  refine th_e ?_
  refine in_hit ?_
  refine then_n (hK21 _ _ ?_)
  refine wp_seq_k fun K112 hK113 => ?_
  refine wp_block ?_
  refine wp_seq_k fun K114 hK115 => ?_
  refine wp_region_lit ?_
  refine st_fa hs rfl Try.underlying25 rfl Try.sizeOf3 (by decide) (o := 0) rfl rfl ?_; clear hs w a; intro a w hs
  refine st_ldB hs rfl (.s (.s .z)) .z Try.isAgg3 rfl ?_; clear hs w a; intro a w hs
  refine st_eql hs rfl rfl rfl ?_; clear hs w a; intro a w hs
  refine st_mv hs rfl rfl ?_; clear hs w a; intro a w hs
  refine st_part (b := (r.k : Int) == 1) (fun hc116 => ?_) (fun hc116 => ?_)
  ·
   rw [hc116] at hs
   replace hc116 := eq_of_beq hc116
   refine st_guardT hs rfl rfl rfl ?_
   refine st_fa hs rfl Try.underlying25 rfl Try.sizeOf23 (by decide) (o := 8) rfl rfl ?_; clear hs w a; intro a w hs
   refine st_guardT hs rfl rfl rfl ?_
   refine st_ldB hs rfl (.s (.s .z)) (.s (.s (.s (.s (.s (.s (.s (.s .z)))))))) Try.isAgg23 rfl ?_; clear hs w a; intro a w hs
   refine st_guardT hs rfl rfl rfl ?_
   refine st_eql hs rfl rfl rfl ?_; clear hs w a; intro a w hs
   refine st_pickT hs rfl rfl rfl ?_; clear hs w a; intro a w hs
   refine st_as hs rfl rfl ?_; clear hs w a; intro a w hs
   refine wpList_nil ?_
   refine then_n (hK115 _ _ ?_)
   refine wp_if hs rfl (fun hc117 => ?_) (fun hc117 => ?_)
   ·
    replace hc117 := eq_of_beq hc117
    refine wp_region_lit ?_
    refine st_mv hs rfl rfl ?_; clear hs w a; intro a w hs
    refine st_addR hs rfl rfl (by omega) rfl ?_; clear hs w a; intro a w hs
    refine st_as hs rfl rfl ?_; clear hs w a; intro a w hs
    refine wpList_nil ?_
    refine in_n ?_
    refine then_n (hK113 _ _ ?_)
    refine wp_seq_k fun K118 hK119 => ?_
    refine wp_region_lit ?_
    refine st_callP (v := .bool (true)) hs .n Try.call20 (alive08_ok _) rfl ?_; clear hs w a; intro a w hs
    refine st_mv hs rfl rfl ?_; clear hs w a; intro a w hs
    refine st_guardT hs rfl rfl rfl ?_
    refine st_mv hs rfl rfl ?_; clear hs w a; intro a w hs
    refine st_guardT hs rfl rfl rfl ?_
    refine st_len hs rfl (rd_row (hs.mem.del (.s .z))).isSl Try.underlying26 rfl ?_; clear hs w a; intro a w hs
    refine st_guardT hs rfl rfl rfl ?_
    refine st_mv hs rfl rfl ?_; clear hs w a; intro a w hs
    refine st_guardT hs rfl rfl rfl ?_
    refine st_eql hs rfl rfl rfl ?_; clear hs w a; intro a w hs
    have hb_ : (((((recB r last).length : Nat) : Int) : Int) == (((((szN r last 6) : Nat) : Int)) + 1)) = true := by rw [beq_iff_eq]; first | (have := len_all (last := last) hre (by omega); omega) | (have := len_some_z (last := last) hre (by omega) (by omega); omega) | (have := len_some_n (last := last) hre (by omega) (by omega); omega) | (have := len_none (last := last) hre (by omega); omega)
    rw [hb_] at hs; clear hb_
    refine st_pickT hs rfl rfl rfl ?_; clear hs w a; intro a w hs
    refine st_as hs rfl rfl ?_; clear hs w a; intro a w hs
    refine wpList_nil ?_
    refine then_n (hK119 _ _ ?_)
    refine wp_ret ?_
    replace hs := hs.drop (.c (.s (.s .z)) (.c (.s .z) (.c .z .n)))
    exact fin hs rfl rfl ⟨rfl, rfl⟩
   replace hc117 := ne_of_beq_f hc117
   refine wp_seq_k fun K120 hK121 => ?_
   refine wp_region_lit ?_
   refine st_fa hs rfl Try.underlying25 rfl Try.sizeOf3 (by decide) (o := 0) rfl rfl ?_; clear hs w a; intro a w hs
   refine st_ldB hs rfl (.s (.s .z)) .z Try.isAgg3 rfl ?_; clear hs w a; intro a w hs
   refine st_eql hs rfl rfl rfl ?_; clear hs w a; intro a w hs
   refine st_as hs rfl rfl ?_; clear hs w a; intro a w hs
   refine wpList_nil ?_
   refine then_n (hK121 _ _ ?_)
   refine wp_if hs rfl (fun hc122 => ?_) (fun hc122 => ?_)
   ·
    replace hc122 := eq_of_beq hc122
    refine wp_region_lit ?_
    refine st_mv hs rfl rfl ?_; clear hs w a; intro a w hs
    refine st_fa hs rfl Try.underlying25 rfl Try.sizeOf23 (by decide) (o := 8) rfl rfl ?_; clear hs w a; intro a w hs
    refine st_ldB hs rfl (.s (.s .z)) (.s (.s (.s (.s (.s (.s (.s (.s .z)))))))) Try.isAgg23 rfl ?_; clear hs w a; intro a w hs
    refine st_cv_u16_u64 (X := r.a) hs rfl rfl Try.underlying23 Try.underlying37 rfl ?_; clear hs w a; intro a w hs
    refine st_callP (v := .int .i64 (((vlen ((r.a).setWidth 64).toNat : Nat) : Int))) hs (.c rfl .n) Try.call23 (size_ok ((r.a).setWidth 64) _) rfl ?_; clear hs w a; intro a w hs
    refine st_addR hs rfl rfl (by omega) rfl ?_; clear hs w a; intro a w hs
    refine st_addR hs rfl rfl (by omega) rfl ?_; clear hs w a; intro a w hs
    refine st_as hs rfl rfl ?_; clear hs w a; intro a w hs
    refine wpList_nil ?_
    refine in_n ?_
    refine then_n (hK113 _ _ ?_)
    refine wp_seq_k fun K123 hK124 => ?_
    refine wp_region_lit ?_
    refine st_callP (v := .bool (true)) hs .n Try.call20 (alive08_ok _) rfl ?_; clear hs w a; intro a w hs
    refine st_mv hs rfl rfl ?_; clear hs w a; intro a w hs
    refine st_guardT hs rfl rfl rfl ?_
    refine st_mv hs rfl rfl ?_; clear hs w a; intro a w hs
    refine st_guardT hs rfl rfl rfl ?_
    refine st_len hs rfl (rd_row (hs.mem.del (.s .z))).isSl Try.underlying26 rfl ?_; clear hs w a; intro a w hs
    refine st_guardT hs rfl rfl rfl ?_
    refine st_mv hs rfl rfl ?_; clear hs w a; intro a w hs
    refine st_guardT hs rfl rfl rfl ?_
    refine st_eql hs rfl rfl rfl ?_; clear hs w a; intro a w hs
    have hb_ : (((((recB r last).length : Nat) : Int) : Int) == (((((szN r last 6) : Nat) : Int)) + (1 + (((vlen ((r.a).setWidth 64).toNat : Nat) : Int))))) = true := by rw [beq_iff_eq]; first | (have := len_all (last := last) hre (by omega); omega) | (have := len_some_z (last := last) hre (by omega) (by omega); omega) | (have := len_some_n (last := last) hre (by omega) (by omega); omega) | (have := len_none (last := last) hre (by omega); omega)
    rw [hb_] at hs; clear hb_
    refine st_pickT hs rfl rfl rfl ?_; clear hs w a; intro a w hs
    refine st_as hs rfl rfl ?_; clear hs w a; intro a w hs
    refine wpList_nil ?_
    refine then_n (hK124 _ _ ?_)
    refine wp_ret ?_
    replace hs := hs.drop (.c (.s (.s .z)) (.c (.s .z) (.c .z .n)))
    exact fin hs rfl rfl ⟨rfl, rfl⟩
   replace hc122 := ne_of_beq_f hc122
   refine wp_seq_k fun K125 hK126 => ?_
   refine wp_region_lit ?_
   refine st_fa hs rfl Try.underlying25 rfl Try.sizeOf3 (by decide) (o := 0) rfl rfl ?_; clear hs w a; intro a w hs
   refine st_ldB hs rfl (.s (.s .z)) .z Try.isAgg3 rfl ?_; clear hs w a; intro a w hs
   refine st_neq hs rfl rfl rfl ?_; clear hs w a; intro a w hs
   refine st_as hs rfl rfl ?_; clear hs w a; intro a w hs
   refine wpList_nil ?_
   refine then_n (hK126 _ _ ?_)
   refine wp_if hs rfl (fun hc127 => ?_) (fun hc127 => ?_)
   ·
    replace hc127 := not_t hc127
    replace hc127 := ne_of_beq_f hc127
    refine wp_region_lit ?_
    refine st_mv hs rfl rfl ?_; clear hs w a; intro a w hs
    refine st_fa hs rfl Try.underlying25 rfl Try.sizeOf23 (by decide) (o := 8) rfl rfl ?_; clear hs w a; intro a w hs
    refine st_ldB hs rfl (.s (.s .z)) (.s (.s (.s (.s (.s (.s (.s (.s .z)))))))) Try.isAgg23 rfl ?_; clear hs w a; intro a w hs
    refine st_cv_u16_u64 (X := r.a) hs rfl rfl Try.underlying23 Try.underlying37 rfl ?_; clear hs w a; intro a w hs
    refine st_callP (v := .int .i64 (((vlen ((r.a).setWidth 64).toNat : Nat) : Int))) hs (.c rfl .n) Try.call23 (size_ok ((r.a).setWidth 64) _) rfl ?_; clear hs w a; intro a w hs
    refine st_addR hs rfl rfl (by omega) rfl ?_; clear hs w a; intro a w hs
    refine st_as hs rfl rfl ?_; clear hs w a; intro a w hs
    refine wpList_nil ?_
    refine in_n ?_
    refine then_n (hK113 _ _ ?_)
    refine wp_seq_k fun K128 hK129 => ?_
    refine wp_region_lit ?_
    refine st_callP (v := .bool (true)) hs .n Try.call20 (alive08_ok _) rfl ?_; clear hs w a; intro a w hs
    refine st_mv hs rfl rfl ?_; clear hs w a; intro a w hs
    refine st_guardT hs rfl rfl rfl ?_
    refine st_mv hs rfl rfl ?_; clear hs w a; intro a w hs
    refine st_guardT hs rfl rfl rfl ?_
    refine st_len hs rfl (rd_row (hs.mem.del (.s .z))).isSl Try.underlying26 rfl ?_; clear hs w a; intro a w hs
    refine st_guardT hs rfl rfl rfl ?_
    refine st_mv hs rfl rfl ?_; clear hs w a; intro a w hs
    refine st_guardT hs rfl rfl rfl ?_
    refine st_eql hs rfl rfl rfl ?_; clear hs w a; intro a w hs
    have hb_ : (((((recB r last).length : Nat) : Int) : Int) == (((((szN r last 6) : Nat) : Int)) + (((vlen ((r.a).setWidth 64).toNat : Nat) : Int)))) = true := by rw [beq_iff_eq]; first | (have := len_all (last := last) hre (by omega); omega) | (have := len_some_z (last := last) hre (by omega) (by omega); omega) | (have := len_some_n (last := last) hre (by omega) (by omega); omega) | (have := len_none (last := last) hre (by omega); omega)
    rw [hb_] at hs; clear hb_
    refine st_pickT hs rfl rfl rfl ?_; clear hs w a; intro a w hs
    refine st_as hs rfl rfl ?_; clear hs w a; intro a w hs
    refine wpList_nil ?_
    refine then_n (hK129 _ _ ?_)
    refine wp_ret ?_
    replace hs := hs.drop (.c (.s (.s .z)) (.c (.s .z) (.c .z .n)))
    exact fin hs rfl rfl ⟨rfl, rfl⟩
   replace hc127 := not_f hc127
   replace hc127 := eq_of_beq hc127
   refine wp_skip ?_
   refine in_n ?_
   refine then_n (hK113 _ _ ?_)
   refine wp_seq_k fun K130 hK131 => ?_
   refine wp_region_lit ?_
   refine st_callP (v := .bool (true)) hs .n Try.call20 (alive08_ok _) rfl ?_; clear hs w a; intro a w hs
   refine st_mv hs rfl rfl ?_; clear hs w a; intro a w hs
   refine st_guardT hs rfl rfl rfl ?_
   refine st_mv hs rfl rfl ?_; clear hs w a; intro a w hs
   refine st_guardT hs rfl rfl rfl ?_
   refine st_len hs rfl (rd_row (hs.mem.del (.s .z))).isSl Try.underlying26 rfl ?_; clear hs w a; intro a w hs
   refine st_guardT hs rfl rfl rfl ?_
   refine st_mv hs rfl rfl ?_; clear hs w a; intro a w hs
   refine st_guardT hs rfl rfl rfl ?_
   refine st_eql hs rfl rfl rfl ?_; clear hs w a; intro a w hs
   have hb_ : (((((recB r last).length : Nat) : Int) : Int) == ((((szN r last 6) : Nat) : Int))) = true := by rw [beq_iff_eq]; first | (have := len_all (last := last) hre (by omega); omega) | (have := len_some_z (last := last) hre (by omega) (by omega); omega) | (have := len_some_n (last := last) hre (by omega) (by omega); omega) | (have := len_none (last := last) hre (by omega); omega)
   rw [hb_] at hs; clear hb_
   refine st_pickT hs rfl rfl rfl ?_; clear hs w a; intro a w hs
   refine st_as hs rfl rfl ?_; clear hs w a; intro a w hs
   refine wpList_nil ?_
   refine then_n (hK131 _ _ ?_)
   refine wp_ret ?_
   replace hs := hs.drop (.c (.s (.s .z)) (.c (.s .z) (.c .z .n)))
   exact fin hs rfl rfl ⟨rfl, rfl⟩
  rw [hc116] at hs
  replace hc116 := ne_of_beq_f hc116
  refine st_guardF hs rfl rfl rfl rfl rfl ?_; clear hs w a; intro a w hs
  refine st_guardF hs rfl rfl rfl rfl rfl ?_; clear hs w a; intro a w hs
  refine st_guardF hs rfl rfl rfl rfl rfl ?_; clear hs w a; intro a w hs
  refine st_pickF hs rfl rfl rfl ?_; clear hs w a; intro a w hs
  refine st_as hs rfl rfl ?_; clear hs w a; intro a w hs
  refine wpList_nil ?_
  refine then_n (hK115 _ _ ?_)
  refine wp_cond_false (hs.ev rfl) ?_
  refine wp_seq_k fun K132 hK133 => ?_
  refine wp_region_lit ?_
  refine st_fa hs rfl Try.underlying25 rfl Try.sizeOf3 (by decide) (o := 0) rfl rfl ?_; clear hs w a; intro a w hs
  refine st_ldB hs rfl (.s (.s .z)) .z Try.isAgg3 rfl ?_; clear hs w a; intro a w hs
  refine st_eql hs rfl rfl rfl ?_; clear hs w a; intro a w hs
  refine st_as hs rfl rfl ?_; clear hs w a; intro a w hs
  refine wpList_nil ?_
  refine then_n (hK133 _ _ ?_)
  refine wp_if hs rfl (fun hc134 => ?_) (fun hc134 => ?_)
  ·
   replace hc134 := eq_of_beq hc134
   refine wp_region_lit ?_
   refine st_mv hs rfl rfl ?_; clear hs w a; intro a w hs
   refine st_fa hs rfl Try.underlying25 rfl Try.sizeOf23 (by decide) (o := 8) rfl rfl ?_; clear hs w a; intro a w hs
   refine st_ldB hs rfl (.s (.s .z)) (.s (.s (.s (.s (.s (.s (.s (.s .z)))))))) Try.isAgg23 rfl ?_; clear hs w a; intro a w hs
   refine st_cv_u16_u64 (X := r.a) hs rfl rfl Try.underlying23 Try.underlying37 rfl ?_; clear hs w a; intro a w hs
   refine st_callP (v := .int .i64 (((vlen ((r.a).setWidth 64).toNat : Nat) : Int))) hs (.c rfl .n) Try.call23 (size_ok ((r.a).setWidth 64) _) rfl ?_; clear hs w a; intro a w hs
   refine st_addR hs rfl rfl (by omega) rfl ?_; clear hs w a; intro a w hs
   refine st_addR hs rfl rfl (by omega) rfl ?_; clear hs w a; intro a w hs
   refine st_as hs rfl rfl ?_; clear hs w a; intro a w hs
   refine wpList_nil ?_
   refine in_n ?_
   refine then_n (hK113 _ _ ?_)
   refine wp_seq_k fun K135 hK136 => ?_
   refine wp_region_lit ?_
   refine st_callP (v := .bool (true)) hs .n Try.call20 (alive08_ok _) rfl ?_; clear hs w a; intro a w hs
   refine st_mv hs rfl rfl ?_; clear hs w a; intro a w hs
   refine st_guardT hs rfl rfl rfl ?_
   refine st_mv hs rfl rfl ?_; clear hs w a; intro a w hs
   refine st_guardT hs rfl rfl rfl ?_
   refine st_len hs rfl (rd_row (hs.mem.del (.s .z))).isSl Try.underlying26 rfl ?_; clear hs w a; intro a w hs
   refine st_guardT hs rfl rfl rfl ?_
   refine st_mv hs rfl rfl ?_; clear hs w a; intro a w hs
   refine st_guardT hs rfl rfl rfl ?_
   refine st_eql hs rfl rfl rfl ?_; clear hs w a; intro a w hs
   have hb_ : (((((recB r last).length : Nat) : Int) : Int) == (((((szN r last 6) : Nat) : Int)) + (1 + (((vlen ((r.a).setWidth 64).toNat : Nat) : Int))))) = true := by rw [beq_iff_eq]; first | (have := len_all (last := last) hre (by omega); omega) | (have := len_some_z (last := last) hre (by omega) (by omega); omega) | (have := len_some_n (last := last) hre (by omega) (by omega); omega) | (have := len_none (last := last) hre (by omega); omega)
   rw [hb_] at hs; clear hb_
   refine st_pickT hs rfl rfl rfl ?_; clear hs w a; intro a w hs
   refine st_as hs rfl rfl ?_; clear hs w a; intro a w hs
   refine wpList_nil ?_
   refine then_n (hK136 _ _ ?_)
   refine wp_ret ?_
   replace hs := hs.drop (.c (.s (.s .z)) (.c (.s .z) (.c .z .n)))
   exact fin hs rfl rfl ⟨rfl, rfl⟩
  replace hc134 := ne_of_beq_f hc134
  refine wp_seq_k fun K137 hK138 => ?_
  refine wp_region_lit ?_
  refine st_fa hs rfl Try.underlying25 rfl Try.sizeOf3 (by decide) (o := 0) rfl rfl ?_; clear hs w a; intro a w hs
  refine st_ldB hs rfl (.s (.s .z)) .z Try.isAgg3 rfl ?_; clear hs w a; intro a w hs
  refine st_neq hs rfl rfl rfl ?_; clear hs w a; intro a w hs
  refine st_as hs rfl rfl ?_; clear hs w a; intro a w hs
  refine wpList_nil ?_
  refine then_n (hK138 _ _ ?_)
  refine wp_if hs rfl (fun hc139 => ?_) (fun hc139 => ?_)
  ·
   replace hc139 := not_t hc139
   replace hc139 := ne_of_beq_f hc139
   refine wp_region_lit ?_
   refine st_mv hs rfl rfl ?_; clear hs w a; intro a w hs
   refine st_fa hs rfl Try.underlying25 rfl Try.sizeOf23 (by decide) (o := 8) rfl rfl ?_; clear hs w a; intro a w hs
   refine st_ldB hs rfl (.s (.s .z)) (.s (.s (.s (.s (.s (.s (.s (.s .z)))))))) Try.isAgg23 rfl ?_; clear hs w a; intro a w hs
   refine st_cv_u16_u64 (X := r.a) hs rfl rfl Try.underlying23 Try.underlying37 rfl ?_; clear hs w a; intro a w hs
   refine st_callP (v := .int .i64 (((vlen ((r.a).setWidth 64).toNat : Nat) : Int))) hs (.c rfl .n) Try.call23 (size_ok ((r.a).setWidth 64) _) rfl ?_; clear hs w a; intro a w hs
   refine st_addR hs rfl rfl (by omega) rfl ?_; clear hs w a; intro a w hs
   refine st_as hs rfl rfl ?_; clear hs w a; intro a w hs
   refine wpList_nil ?_
   refine in_n ?_
   refine then_n (hK113 _ _ ?_)
   refine wp_seq_k fun K140 hK141 => ?_
   refine wp_region_lit ?_
   refine st_callP (v := .bool (true)) hs .n Try.call20 (alive08_ok _) rfl ?_; clear hs w a; intro a w hs
   refine st_mv hs rfl rfl ?_; clear hs w a; intro a w hs
   refine st_guardT hs rfl rfl rfl ?_
   refine st_mv hs rfl rfl ?_; clear hs w a; intro a w hs
   refine st_guardT hs rfl rfl rfl ?_
   refine st_len hs rfl (rd_row (hs.mem.del (.s .z))).isSl Try.underlying26 rfl ?_; clear hs w a; intro a w hs
   refine st_guardT hs rfl rfl rfl ?_
   refine st_mv hs rfl rfl ?_; clear hs w a; intro a w hs
   refine st_guardT hs rfl rfl rfl ?_
   refine st_eql hs rfl rfl rfl ?_; clear hs w a; intro a w hs
   have hb_ : (((((recB r last).length : Nat) : Int) : Int) == (((((szN r last 6) : Nat) : Int)) + (((vlen ((r.a).setWidth 64).toNat : Nat) : Int)))) = true := by rw [beq_iff_eq]; first | (have := len_all (last := last) hre (by omega); omega) | (have := len_some_z (last := last) hre (by omega) (by omega); omega) | (have := len_some_n (last := last) hre (by omega) (by omega); omega) | (have := len_none (last := last) hre (by omega); omega)
   rw [hb_] at hs; clear hb_
   refine st_pickT hs rfl rfl rfl ?_; clear hs w a; intro a w hs
   refine st_as hs rfl rfl ?_; clear hs w a; intro a w hs
   refine wpList_nil ?_
   refine then_n (hK141 _ _ ?_)
   refine wp_ret ?_
   replace hs := hs.drop (.c (.s (.s .z)) (.c (.s .z) (.c .z .n)))
   exact fin hs rfl rfl ⟨rfl, rfl⟩
  replace hc139 := not_f hc139
  replace hc139 := eq_of_beq hc139
  refine wp_skip ?_
  refine in_n ?_
  refine then_n (hK113 _ _ ?_)
  refine wp_seq_k fun K142 hK143 => ?_
  refine wp_region_lit ?_
  refine st_callP (v := .bool (true)) hs .n Try.call20 (alive08_ok _) rfl ?_; clear hs w a; intro a w hs
  refine st_mv hs rfl rfl ?_; clear hs w a; intro a w hs
  refine st_guardT hs rfl rfl rfl ?_
  refine st_mv hs rfl rfl ?_; clear hs w a; intro a w hs
  refine st_guardT hs rfl rfl rfl ?_
  refine st_len hs rfl (rd_row (hs.mem.del (.s .z))).isSl Try.underlying26 rfl ?_; clear hs w a; intro a w hs
  refine st_guardT hs rfl rfl rfl ?_
  refine st_mv hs rfl rfl ?_; clear hs w a; intro a w hs
  refine st_guardT hs rfl rfl rfl ?_
  refine st_eql hs rfl rfl rfl ?_; clear hs w a; intro a w hs
  have hb_ : (((((recB r last).length : Nat) : Int) : Int) == ((((szN r last 6) : Nat) : Int))) = true := by rw [beq_iff_eq]; first | (have := len_all (last := last) hre (by omega); omega) | (have := len_some_z (last := last) hre (by omega) (by omega); omega) | (have := len_some_n (last := last) hre (by omega) (by omega); omega) | (have := len_none (last := last) hre (by omega); omega)
  rw [hb_] at hs; clear hb_
  refine st_pickT hs rfl rfl rfl ?_; clear hs w a; intro a w hs
  refine st_as hs rfl rfl ?_; clear hs w a; intro a w hs
  refine wpList_nil ?_
  refine then_n (hK143 _ _ ?_)
  refine wp_ret ?_
  replace hs := hs.drop (.c (.s (.s .z)) (.c (.s .z) (.c .z .n)))
  exact fin hs rfl rfl ⟨rfl, rfl⟩
end Go.Proofs.Ytkobgcoegajfcaa
