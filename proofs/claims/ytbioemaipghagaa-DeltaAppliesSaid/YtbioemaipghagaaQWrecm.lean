/- Walks of the document's records: what each function does, over the program of this seat. Printed by a program of this session. -/
import Derived.Test.YtbioemaipghagaaQWrec
namespace Go.Proofs.Ytbioemaipghagaa
open Go Go.Sx Go.RowKit
set_option linter.unusedVariables false
set_option linter.unusedSimpArgs false
set_option maxRecDepth 4000
set_option maxHeartbeats 1000000

theorem rputn_ok (x : Int) (w0 : World) (hx : -9223372036854775808 ≤ x ∧ x ≤ 9223372036854775807) : Calls Try.prog 74 #[.int .i64 x] w0 (Ret w0 [] fun r N => N = [row r 5 1 (numB x).length (bytesV (numB x))]) := by
  refine enter (F0 := [(0, .int .i64 (x))]) Try.func74 rfl rfl rfl (.c .n) (Mem.nil _) fun a w hs => ?_
  refine wp_seq_k fun K1 hK2 => ?_
  refine wp_region_lit ?_
  refine st_as hs rfl rfl ?_; clear hs w a; intro a w hs
  refine wpList_nil ?_
  refine then_n (hK2 _ _ ?_)
  refine wp_seq_k fun K3 hK4 => ?_
  refine wp_region_lit ?_
  refine st_mv hs rfl rfl ?_; clear hs w a; intro a w hs
  refine st_callP (v := .int .u64 ((((zigI x).toNat : Nat) : Int))) hs (.c rfl .n) Try.call54 (rzig_ok x _ (by omega)) rfl ?_; clear hs w a; intro a w hs
  refine st_call hs (.c rfl .n) Try.call53 .n (rput_ok (zigI x) _) rfl ?_; clear hs w a; rintro v5 _ a w rfl hs; simp only [List.cons_append, List.nil_append] at hs
  refine st_as hs rfl rfl ?_; clear hs w a; intro a w hs
  refine wpList_nil ?_
  refine then_n (hK4 _ _ ?_)
  refine wp_ret ?_
  replace hs := hs.rerow .z (m' := (numB x).length) (xs' := bytesV (numB x)) (by rfl) (by rfl)
  exact fin hs rfl rfl rfl
theorem rwrite_ok (r : RecR) (last : Int) (w0 : World) (hw : r.wf) (hl : -9223372036854775808 ≤ last ∧ last ≤ 9223372036854775807) : Calls Try.prog 55 #[.agg #[.int .i64 (r.k), .int .i64 (r.id), .int .i64 (r.p0), .int .i64 (r.p1), .int .i64 (r.p2), .int .i64 (r.v0), .int .i64 (r.v1), .int .i64 (r.v2), .int .u16 ((((r.a).toNat : Nat) : Int))], .int .i64 last] w0 (Ret w0 [] fun u N => ∃ v, u = .tuple #[v, .int .i64 ((recErr r last : Nat) : Int)] ∧ N = [row v 5 1 (recB r last).length (bytesV (recB r last))]) := by
  have hwf := hw.facts
  have hva := vlen10 r.a.toNat
  have hal := length_recAll r
  have hsl := length_recSome r
  have hul := length_upRest r 6
  have hul0 := length_upRest r 0
  have hhl := length_recHead r last
  have hvX := vlen_le (BitVec.ofInt 64 (r.id - last - 1)).toNat
  refine enter (F0 := [(0, .agg #[.int .i64 (r.k), .int .i64 (r.id), .int .i64 (r.p0), .int .i64 (r.p1), .int .i64 (r.p2), .int .i64 (r.v0), .int .i64 (r.v1), .int .i64 (r.v2), .int .u16 ((((r.a).toNat : Nat) : Int))]), (1, .int .i64 (last))]) Try.func55 rfl rfl rfl (.c (.c .n)) (Mem.nil _) fun a w hs => ?_
  refine wp_seq_k fun K1 hK2 => ?_
  refine wp_region_lit ?_
  refine st_box (cs := [.int .i64 (r.k), .int .i64 (r.id), .int .i64 (r.p0), .int .i64 (r.p1), .int .i64 (r.p2), .int .i64 (r.v0), .int .i64 (r.v1), .int .i64 (r.v2), .int .u16 ((((r.a).toNat : Nat) : Int))]) hs rfl rfl rfl ?_; clear hs w a; intro g3 a w hs
  refine st_run 2 [(5, .int .i64 (0)), (4, .slice none 0 0)] hs .n (by kernel_rfl) (by kernel_rfl) (by kernel_rfl) ?_; clear hs a; intro a hs
  refine wpList_nil ?_
  refine then_n (hK2 _ _ ?_)
  refine wp_seq_k fun K4 hK5 => ?_
  refine wp_region_lit ?_
  refine st_ldBA hs rfl .z (.z (.c (.c (.c (.c (.c (.c (.c (.c (.c .n)))))))))) Try.isAgg45 Try.sizeOf45 rfl ?_; clear hs w a; intro a w hs
  refine st_callP (v := .int .i64 (((recChk r : Nat) : Int))) hs (.c rfl .n) Try.call44 (rchk_ok r _) rfl ?_; clear hs w a; intro a w hs
  refine st_as hs rfl rfl ?_; clear hs w a; intro a w hs
  refine wpList_nil ?_
  refine then_n (hK5 _ _ ?_)
  refine wp_seq_k fun K6 hK7 => ?_
  refine wp_seq_k fun K8 hK9 => ?_
  refine wp_region_lit ?_
  refine st_run 2 [(18, .bool (!((((recChk r : Nat) : Int) : Int) == 0)))] hs .n (by kernel_rfl) (by kernel_rfl) (by kernel_rfl) ?_; clear hs a; intro a hs
  refine wpList_nil ?_
  refine then_n (hK9 _ _ ?_)
  refine wp_if hs rfl (fun hc10 => ?_) (fun hc10 => ?_)
  ·
   replace hc10 := not_t hc10
   replace hc10 := ne_of_beq_f hc10
   refine wp_seq_k fun K11 hK12 => ?_
   refine wp_region_lit ?_
   refine st_run 3 [(5, .int .i64 (((recChk r : Nat) : Int))), (4, .slice none 0 0)] hs .n (by kernel_rfl) (by kernel_rfl) (by kernel_rfl) ?_; clear hs a; intro a hs
   refine wpList_nil ?_
   refine then_n (hK12 _ _ ?_)
   refine wp_ret ?_
   refine th_r ?_
   have hre : recErr r last = recChk r := by first | exact recErr_chk (by omega) | exact recErr_rng (by omega) (by omega) | exact recErr_ord (by omega) (by omega) (by omega) | exact recErr_ok (by omega) (by omega) (by omega)
   replace hs := hs.drop (.c .z .n)
   replace hs := hs.addNil 5 1
   replace hs := hs.rerow .z (m' := (recB r last).length) (xs' := bytesV (recB r last)) (by rw [recB_err (by omega)]; rfl) (by rw [recB_err (by omega)]; rfl)
   exact fin2 hs rfl rfl rfl ⟨_, congrArg (fun z : Nat => Value.tuple #[.slice none 0 0, .int .i64 (z : Int)]) hre.symm, rfl⟩
  replace hc10 := not_f hc10
  replace hc10 := eq_of_beq hc10
  have hck := recChk_0 (r := r) (by omega)
  refine wp_skip ?_
  refine then_n (hK7 _ _ ?_)
  refine wp_seq_k fun K13 hK14 => ?_
  refine wp_seq_k fun K15 hK16 => ?_
  refine wp_region_lit ?_
  refine st_run 3 [(22, .bool (decide (last < (-1))))] hs .n (by kernel_rfl) (by kernel_rfl) (by kernel_rfl) ?_; clear hs a; intro a hs
  refine st_part (b := decide (last < (-1))) (fun hc17 => ?_) (fun hc17 => ?_)
  ·
   rw [hc17] at hs
   replace hc17 := of_decide_eq_true hc17
   refine st_run 3 [(25, .bool (true))] hs .n (by kernel_rfl) (by kernel_rfl) (by kernel_rfl) ?_; clear hs a; intro a hs
   refine wpList_nil ?_
   refine then_n (hK16 _ _ ?_)
   refine wp_cond_true (hs.ev rfl) ?_
   refine wp_seq_k fun K18 hK19 => ?_
   refine wp_region_lit ?_
   refine st_run 2 [(5, .int .i64 (3)), (4, .slice none 0 0)] hs .n (by kernel_rfl) (by kernel_rfl) (by kernel_rfl) ?_; clear hs a; intro a hs
   refine wpList_nil ?_
   refine then_n (hK19 _ _ ?_)
   refine wp_ret ?_
   refine th_r ?_
   have hre : recErr r last = 3 := by first | exact recErr_chk (by omega) | exact recErr_rng (by omega) (by omega) | exact recErr_ord (by omega) (by omega) (by omega) | exact recErr_ok (by omega) (by omega) (by omega)
   replace hs := hs.drop (.c .z .n)
   replace hs := hs.addNil 5 1
   replace hs := hs.rerow .z (m' := (recB r last).length) (xs' := bytesV (recB r last)) (by rw [recB_err (by omega)]; rfl) (by rw [recB_err (by omega)]; rfl)
   exact fin2 hs rfl rfl rfl ⟨_, congrArg (fun z : Nat => Value.tuple #[.slice none 0 0, .int .i64 (z : Int)]) hre.symm, rfl⟩
  rw [hc17] at hs
  replace hc17 := of_decide_eq_false hc17
  refine st_run 3 [(25, .bool (decide (65535 < last)))] hs .n (by kernel_rfl) (by kernel_rfl) (by kernel_rfl) ?_; clear hs a; intro a hs
  refine wpList_nil ?_
  refine then_n (hK16 _ _ ?_)
  refine wp_if hs rfl (fun hc20 => ?_) (fun hc20 => ?_)
  ·
   replace hc20 := of_decide_eq_true hc20
   refine wp_seq_k fun K21 hK22 => ?_
   refine wp_region_lit ?_
   refine st_run 2 [(5, .int .i64 (3)), (4, .slice none 0 0)] hs .n (by kernel_rfl) (by kernel_rfl) (by kernel_rfl) ?_; clear hs a; intro a hs
   refine wpList_nil ?_
   refine then_n (hK22 _ _ ?_)
   refine wp_ret ?_
   refine th_r ?_
   have hre : recErr r last = 3 := by first | exact recErr_chk (by omega) | exact recErr_rng (by omega) (by omega) | exact recErr_ord (by omega) (by omega) (by omega) | exact recErr_ok (by omega) (by omega) (by omega)
   replace hs := hs.drop (.c .z .n)
   replace hs := hs.addNil 5 1
   replace hs := hs.rerow .z (m' := (recB r last).length) (xs' := bytesV (recB r last)) (by rw [recB_err (by omega)]; rfl) (by rw [recB_err (by omega)]; rfl)
   exact fin2 hs rfl rfl rfl ⟨_, congrArg (fun z : Nat => Value.tuple #[.slice none 0 0, .int .i64 (z : Int)]) hre.symm, rfl⟩
  replace hc20 := of_decide_eq_false hc20
  refine wp_skip ?_
  refine then_n (hK14 _ _ ?_)
  refine wp_seq_k fun K23 hK24 => ?_
  refine wp_seq_k fun K25 hK26 => ?_
  refine wp_region_lit ?_
  refine st_run 4 [(29, .bool (decide (r.id ≤ last)))] hs (.c (hs.mem.del .z) .n) (by kernel_rfl) (by kernel_rfl) (by kernel_rfl) ?_; clear hs a; intro a hs
  refine wpList_nil ?_
  refine then_n (hK26 _ _ ?_)
  refine wp_if hs rfl (fun hc27 => ?_) (fun hc27 => ?_)
  ·
   replace hc27 := of_decide_eq_true hc27
   refine wp_seq_k fun K28 hK29 => ?_
   refine wp_region_lit ?_
   refine st_run 2 [(5, .int .i64 (10)), (4, .slice none 0 0)] hs .n (by kernel_rfl) (by kernel_rfl) (by kernel_rfl) ?_; clear hs a; intro a hs
   refine wpList_nil ?_
   refine then_n (hK29 _ _ ?_)
   refine wp_ret ?_
   refine th_r ?_
   have hre : recErr r last = 10 := by first | exact recErr_chk (by omega) | exact recErr_rng (by omega) (by omega) | exact recErr_ord (by omega) (by omega) (by omega) | exact recErr_ok (by omega) (by omega) (by omega)
   replace hs := hs.drop (.c .z .n)
   replace hs := hs.addNil 5 1
   replace hs := hs.rerow .z (m' := (recB r last).length) (xs' := bytesV (recB r last)) (by rw [recB_err (by omega)]; rfl) (by rw [recB_err (by omega)]; rfl)
   exact fin2 hs rfl rfl rfl ⟨_, congrArg (fun z : Nat => Value.tuple #[.slice none 0 0, .int .i64 (z : Int)]) hre.symm, rfl⟩
  replace hc27 := of_decide_eq_false hc27
  refine wp_skip ?_
  refine then_n (hK24 _ _ ?_)
  refine wp_seq_k fun K30 hK31 => ?_
  replace hs := hs.sub (F' := [(5, .int .i64 (0)), (4, .slice none 0 0), (2, .pointer (some ⟨g3, 0, none⟩)), (1, .int .i64 (last))]) (.c rfl (.c rfl (.c rfl (.c rfl .n))))
  refine wp_drawG (M0 := [blk g3 [.int .i64 (r.k), .int .i64 (r.id), .int .i64 (r.p0), .int .i64 (r.p1), .int .i64 (r.p2), .int .i64 (r.v0), .int .i64 (r.v1), .int .i64 (r.v2), .int .u16 ((((r.a).toNat : Nat) : Int))] 45]) (Ds := [Pv 0 (.pointer (some ⟨g3, 1, none⟩)), Pv 1 (.int .i64 (r.id)), Pv 2 (.int .i64 (last)), Pv 3 (.int .i64 (r.id - last)), Pv 4 (.int .i64 ((r.id - last) - 1)), Pv 5 (.int .u64 ((((BitVec.ofInt 64 ((r.id - last) - 1)).toNat : Nat) : Int))), ⟨[], [], [], fun vs32 => True, fun vs32 => [row (vs32 6) 5 1 (vlen (BitVec.ofInt 64 ((r.id - last) - 1)).toNat) (bytesV (vput (BitVec.ofInt 64 ((r.id - last) - 1)).toNat))], none⟩, Pv 7 (.pointer (some ⟨g3, 0, none⟩)), Pv 8 (.int .i64 (r.k)), Pv 9 (.int .u8 ((((BitVec.ofInt 8 r.k).toNat : Nat) : Int))), ⟨[], [], [], fun vs32 => vs32 10 = .slice (some ⟨(ptrG (vs32 10)), 0, none⟩) 1 1, fun vs32 => [blk (ptrG (vs32 10)) [.int .u8 ((((BitVec.ofInt 8 r.k).toNat : Nat) : Int))] 5], none⟩, ⟨[], [6], [], fun vs32 => True, fun vs32 => [row (vs32 11) 5 1 ((recHead r last).length) (bytesV (recHead r last))], none⟩, ⟨[], [], [11], fun vs32 => vs32 12 = (vs32 11), fun vs32 => [], none⟩]) (by kernel_rfl) hs rfl .n (by kernel_rfl) (by kernel_rfl) (by kernel_rfl) ?_ ?_
  ·
   refine (.c ?_ (.c ?_ (.c ?_ (.c ?_ (.c ?_ (.c ?_ (.c ?_ (.c ?_ (.c ?_ (.c ?_ (.c ?_ (.c ?_ (.c ?_ .n)))))))))))))
   · exact trip_pv (m := 13) .n (fun hm0 hm hx => .n) (by kernel_rfl) (by kernel_rfl) rfl
   · exact trip_pv (m := 13) (.c (k := 0) (by kernel_rfl) rfl rfl .n) (fun hm0 hm hx => (.c (hm0.del .z))) (by kernel_rfl) (by kernel_rfl) rfl
   · exact trip_pv (m := 13) .n (fun hm0 hm hx => .n) (by kernel_rfl) (by kernel_rfl) rfl
   ·
    intro a_ w_ R_ rest_ vs32 hm hs ht hx
    have hm0 := hm.mid
    replace hs := hs.lrn (ht 1 (twB_spec 13 _ (by kernel_rfl))) rfl rfl
    replace hs := hs.lrn (ht 2 (twB_spec 13 _ (by kernel_rfl))) rfl rfl
    have hs0 := hs.bare
    refine st_subR hs rfl rfl (by omega) rfl ?_; clear hs; intro a w hs
    exact wpList_nil ⟨rfl, _, _, hs0, (.c (.c .r)), hs, rfl⟩
   ·
    intro a_ w_ R_ rest_ vs32 hm hs ht hx
    have hm0 := hm.mid
    replace hs := hs.lrn (ht 3 (twB_spec 13 _ (by kernel_rfl))) rfl rfl
    have hs0 := hs.bare
    refine st_subR hs rfl rfl (by omega) rfl ?_; clear hs; intro a w hs
    exact wpList_nil ⟨rfl, _, _, hs0, (.c .r), hs, rfl⟩
   ·
    intro a_ w_ R_ rest_ vs32 hm hs ht hx
    have hm0 := hm.mid
    replace hs := hs.lrn (ht 4 (twB_spec 13 _ (by kernel_rfl))) rfl rfl
    have hs0 := hs.bare
    refine st_cv_u64 hs rfl Try.underlying3 Try.underlying99 rfl ?_; clear hs; intro a w hs
    exact wpList_nil ⟨rfl, _, _, hs0, (.c .r), hs, rfl⟩
   ·
    intro a_ w_ R_ rest_ vs32 hm hs ht hx
    have hm0 := hm.mid
    replace hs := hs.lrn (ht 5 (twB_spec 13 _ (by kernel_rfl))) rfl rfl
    have hs0 := hs.bare
    refine st_call hs (.c rfl .n) Try.call53 .n (rput_ok (BitVec.ofInt 64 ((r.id - last) - 1)) _) rfl ?_; clear hs; rintro v33 _ a w rfl hs; simp only [List.cons_append, List.nil_append] at hs
    exact wpList_nil ⟨rfl, _, _, hs0, (.c .r), hs, trivial⟩
   · exact trip_pv (m := 13) .n (fun hm0 hm hx => .n) (by kernel_rfl) (by kernel_rfl) rfl
   · exact trip_pv (m := 13) (.c (k := 7) (by kernel_rfl) rfl rfl .n) (fun hm0 hm hx => (.c (hm0.del .z))) (by kernel_rfl) (by kernel_rfl) rfl
   ·
    intro a_ w_ R_ rest_ vs32 hm hs ht hx
    have hm0 := hm.mid
    replace hs := hs.lrn (ht 8 (twB_spec 13 _ (by kernel_rfl))) rfl rfl
    have hs0 := hs.bare
    refine st_cv_u8 hs rfl Try.underlying3 Try.underlying5 rfl ?_; clear hs; intro a w hs
    exact wpList_nil ⟨rfl, _, _, hs0, (.c .r), hs, rfl⟩
   ·
    intro a_ w_ R_ rest_ vs32 hm hs ht hx
    have hm0 := hm.mid
    replace hs := hs.lrn (ht 9 (twB_spec 13 _ (by kernel_rfl))) rfl rfl
    have hs0 := hs.bare
    refine st_bs (cs := [.int .u8 ((((BitVec.ofInt 8 r.k).toNat : Nat) : Int))]) hs (.c .n) (.c rfl .n) Try.underlying79 (ie := Try.t5) rfl rfl rfl rfl (by decide) (by decide) rfl (by decide) rfl rfl rfl ?_; clear hs; intro g34 a w hs
    exact wpList_nil ⟨rfl, _, _, hs0, (.c .r), hs, rfl⟩
   ·
    intro a_ w_ R_ rest_ vs32 hm hs ht hx
    replace hs : St _ _ _ (feet [row (vs32 6) 5 1 (vlen (BitVec.ofInt 64 ((r.id - last) - 1)).toNat) (bytesV (vput (BitVec.ofInt 64 ((r.id - last) - 1)).toNat))]) [row (vs32 6) 5 1 (vlen (BitVec.ofInt 64 ((r.id - last) - 1)).toNat) (bytesV (vput (BitVec.ofInt 64 ((r.id - last) - 1)).toNat))] _ _ := hs
    have hm0 := hm.mid
    have t6 := ht 6 (twB_spec 13 _ (by kernel_rfl))
    have e6 : _ = some (vs32 6) := t6.val rfl
    replace hs := hs.learn e6
    have t10 := ht 10 (twB_spec 13 _ (by kernel_rfl))
    have e10 : _ = some (vs32 10) := t10.val rfl
    rw [show vs32 10 = .slice (some ⟨(ptrG (vs32 10)), 0, none⟩) 1 1 from t10.2.1] at e10
    replace hs := hs.learn e10
    have hs0 := hs.bare
    refine st_app (size := 1) (bytes := 1) hs rfl rfl .z (rd_blk (m := 1) (size := 1) (hm.own (List.mem_append.2 (.inr ((ht 10 (twB_spec 13 _ (by kernel_rfl))).2.2 (later (n := 13) (by kernel_rfl)) _ (List.Mem.head _))))) rfl (by decide)) (by simp [Value.oneCell']) Try.underlying79 (i := Try.t5) rfl rfl rfl rfl rfl (by decide) (by omega) (by simp only [maxLen]; omega) rfl ?_; clear hs; intro v35 a w hs
    replace hs := hs.rerow .z (m' := (recHead r last).length) (xs' := bytesV (recHead r last)) (by unfold recHead; simp only [List.length_append, List.length_cons, List.length_nil, vlen]) (by unfold recHead; rw [bytesV_append]; rfl)
    exact wpList_nil ⟨rfl, _, _, hs0, (.c (.c .r)), hs, trivial⟩
   intro a_ w_ R_ rest_ vs32 hm hs ht hx
   have hm0 := hm.mid
   have t11 := ht 11 (twB_spec 13 _ (by kernel_rfl))
   have e11 : _ = some (vs32 11) := t11.val rfl
   replace hs := hs.learn e11
   have hs0 := hs.bare
   refine st_as hs rfl rfl ?_; clear hs; intro a w hs
   exact wpList_nil ⟨rfl, _, _, hs0, (.c .r), hs, rfl⟩
  clear hs w a; intro a w vs32 hs hf
  replace hs : St _ _ _ _ [blk g3 [.int .i64 (r.k), .int .i64 (r.id), .int .i64 (r.p0), .int .i64 (r.p1), .int .i64 (r.p2), .int .i64 (r.v0), .int .i64 (r.v1), .int .i64 (r.v2), .int .u16 ((((r.a).toNat : Nat) : Int))] 45, blk (ptrG (vs32 10)) [.int .u8 ((((BitVec.ofInt 8 r.k).toNat : Nat) : Int))] 5, row (vs32 11) 5 1 ((recHead r last).length) (bytesV (recHead r last))] _ _ := hs
  obtain ⟨e12, q12⟩ := hf 12 (by decide)
  replace e12 : _ = some (vs32 12) := e12.val rfl
  rw [show vs32 12 = (vs32 11) from q12] at e12
  replace hs := hs.learn e12; clear e12 q12
  generalize ptrG (vs32 10) = g36 at hs
  generalize vs32 11 = v37 at hs
  clear hf
  refine then_n (hK31 _ _ ?_)
  refine wp_seq_k fun K38 hK39 => ?_
  refine wp_region_lit ?_
  refine st_ldBA hs rfl .z (.z (.c (.c (.c (.c (.c (.c (.c (.c (.c .n)))))))))) Try.isAgg45 Try.sizeOf45 rfl ?_; clear hs w a; intro a w hs
  refine st_callP (v := .agg #[.int .i64 (r.p0), .int .i64 (r.p1), .int .i64 (r.p2), .int .i64 (r.v0), .int .i64 (r.v1), .int .i64 (r.v2)]) hs (.c rfl .n) Try.call73 (rnums_ok r _) rfl ?_; clear hs w a; intro a w hs
  refine st_alloc (cs := [.int .i64 (0), .int .i64 (0), .int .i64 (0), .int .i64 (0), .int .i64 (0), .int .i64 (0)]) hs Try.zeroValue127 rfl rfl ?_; clear hs w a; intro g40 a w hs
  refine st_stBA hs rfl rfl .z (.z (.c (.c (.c (.c (.c (.c .n))))))) (ones_c rfl (ones_c rfl (ones_c rfl (ones_c rfl (ones_c rfl (ones_c rfl ones_n)))))) Try.sizeOf127 rfl ?_; clear hs w a; intro a w hs
  refine wpList_nil ?_
  refine then_n (hK39 _ _ ?_)
  refine wp_seq_k fun K41 hK42 => ?_
  refine wp_region_lit ?_
  refine st_run 2 [(45, .int .u16 ((((r.a).toNat : Nat) : Int)))] hs (.c (hs.mem.del (.s .z)) .n) (by kernel_rfl) (by kernel_rfl) (by kernel_rfl) ?_; clear hs a; intro a hs
  refine st_cv_u16_u64 (X := r.a) hs rfl rfl Try.underlying43 Try.underlying99 rfl ?_; clear hs w a; intro a w hs
  refine st_call hs (.c rfl .n) Try.call53 .n (rput_ok ((r.a).setWidth 64) _) rfl ?_; clear hs w a; rintro v43 _ a w rfl hs; simp only [List.cons_append, List.nil_append] at hs
  replace hs := hs.rerow .z (m' := (vput r.a.toNat).length) (xs' := bytesV (vput r.a.toNat)) (by rw [sw64]; rfl) (by rw [sw64])
  refine st_as hs rfl rfl ?_; clear hs w a; intro a w hs
  refine wpList_nil ?_
  refine then_n (hK42 _ _ ?_)
  refine wp_seq_k fun K44 hK45 => ?_
  refine wp_seq_k fun K46 hK47 => ?_
  refine wp_region_lit ?_
  refine st_run 4 [(51, .bool ((r.k : Int) == 0))] hs (.c (hs.mem.del (.s (.s .z))) .n) (by kernel_rfl) (by kernel_rfl) (by kernel_rfl) ?_; clear hs a; intro a hs
  refine st_part (b := (r.k : Int) == 0) (fun hc48 => ?_) (fun hc48 => ?_)
  ·
   rw [hc48] at hs
   replace hc48 := eq_of_beq hc48
   refine st_run 4 [(55, .bool (true))] hs .n (by kernel_rfl) (by kernel_rfl) (by kernel_rfl) ?_; clear hs a; intro a hs
   refine wpList_nil ?_
   refine then_n (hK47 _ _ ?_)
   refine wp_cond_true (hs.ev rfl) ?_
   refine wp_seq_k fun K49 hK50 => ?_
   refine wp_seq_k fun K51 hK52 => ?_
   refine wp_region_lit ?_
   refine st_as hs rfl rfl ?_; clear hs w a; intro a w hs
   refine wpList_nil ?_
   refine then_n (hK52 _ _ ?_)
   refine wp_block ?_
   refine wp_loop_rounds 7 ?_
   refine rounds_in ?_
   refine wp_seq_k fun K53 hK54 => ?_
   refine wp_seq_k fun K55 hK56 => ?_
   refine wp_region_lit ?_
   refine st_run 2 [(57, .bool (true)), (56, .int .i64 (0))] hs .n (by kernel_rfl) (by kernel_rfl) (by kernel_rfl) ?_; clear hs a; intro a hs
   refine wpList_nil ?_
   refine then_n (hK56 _ _ ?_)
   refine wp_cond_true (hs.ev rfl) ?_
   refine wp_skip ?_
   refine then_n (hK54 _ _ ?_)
   refine wp_seq_k fun K57 hK58 => ?_
   refine wp_block ?_
   refine wp_region_lit ?_
   refine st_run 4 [(63, .int .i64 (r.p0)), (62, .pointer (some ⟨g40, 0, none⟩)), (61, .int .i64 (0)), (60, v37)] hs (.c (hs.mem.del (.s .z)) .n) (by kernel_rfl) (by kernel_rfl) (by kernel_rfl) ?_; clear hs a; intro a hs
   refine st_call hs (.c rfl .n) Try.call74 .n (rputn_ok r.p0 _ (by omega)) rfl ?_; clear hs w a; rintro v59 _ a w rfl hs; simp only [List.cons_append, List.nil_append] at hs
   have hk60 := length_numB r.p0
   refine st_app (size := 1) (bytes := 1) hs rfl rfl (.s (.s (.s (.s (.s .z))))) (rd_row (hs.mem.del .z)) (oneCell_bytesV _) Try.underlying79 (i := Try.t5) rfl rfl rfl rfl rfl (by decide) (by omega) (by simp only [maxLen]; omega) rfl ?_; clear hs w a; intro v61 a w hs
   refine st_as hs rfl rfl ?_; clear hs w a; intro a w hs
   refine wpList_nil ?_
   refine in_n ?_
   refine then_n (hK58 _ _ ?_)
   refine wp_region_lit ?_
   refine st_run 3 [(10, .int .i64 (1)), (59, .int .i64 (1)), (58, .int .i64 (0))] hs .n (by kernel_rfl) (by kernel_rfl) (by kernel_rfl) ?_; clear hs a; intro a hs
   refine wpList_nil ?_
   refine then_n ?_
   refine rounds_in ?_
   refine wp_seq_k fun K62 hK63 => ?_
   refine wp_seq_k fun K64 hK65 => ?_
   refine wp_region_lit ?_
   refine st_run 2 [(57, .bool (true)), (56, .int .i64 (1))] hs .n (by kernel_rfl) (by kernel_rfl) (by kernel_rfl) ?_; clear hs a; intro a hs
   refine wpList_nil ?_
   refine then_n (hK65 _ _ ?_)
   refine wp_cond_true (hs.ev rfl) ?_
   refine wp_skip ?_
   refine then_n (hK63 _ _ ?_)
   refine wp_seq_k fun K66 hK67 => ?_
   refine wp_block ?_
   refine wp_region_lit ?_
   refine st_run 4 [(63, .int .i64 (r.p1)), (62, .pointer (some ⟨g40, 1, none⟩)), (61, .int .i64 (1)), (60, v61)] hs (.c (hs.mem.del (.s (.s (.s .z)))) .n) (by kernel_rfl) (by kernel_rfl) (by kernel_rfl) ?_; clear hs a; intro a hs
   refine st_call hs (.c rfl .n) Try.call74 .n (rputn_ok r.p1 _ (by omega)) rfl ?_; clear hs w a; rintro v68 _ a w rfl hs; simp only [List.cons_append, List.nil_append] at hs
   have hk69 := length_numB r.p1
   refine st_app (size := 1) (bytes := 1) hs rfl rfl (.s .z) (rd_row (hs.mem.del .z)) (oneCell_bytesV _) Try.underlying79 (i := Try.t5) rfl rfl rfl rfl rfl (by decide) (by omega) (by simp only [maxLen]; omega) rfl ?_; clear hs w a; intro v70 a w hs
   refine st_as hs rfl rfl ?_; clear hs w a; intro a w hs
   refine wpList_nil ?_
   refine in_n ?_
   refine then_n (hK67 _ _ ?_)
   refine wp_region_lit ?_
   refine st_run 3 [(10, .int .i64 (2)), (59, .int .i64 (2)), (58, .int .i64 (1))] hs .n (by kernel_rfl) (by kernel_rfl) (by kernel_rfl) ?_; clear hs a; intro a hs
   refine wpList_nil ?_
   refine then_n ?_
   refine rounds_in ?_
   refine wp_seq_k fun K71 hK72 => ?_
   refine wp_seq_k fun K73 hK74 => ?_
   refine wp_region_lit ?_
   refine st_run 2 [(57, .bool (true)), (56, .int .i64 (2))] hs .n (by kernel_rfl) (by kernel_rfl) (by kernel_rfl) ?_; clear hs a; intro a hs
   refine wpList_nil ?_
   refine then_n (hK74 _ _ ?_)
   refine wp_cond_true (hs.ev rfl) ?_
   refine wp_skip ?_
   refine then_n (hK72 _ _ ?_)
   refine wp_seq_k fun K75 hK76 => ?_
   refine wp_block ?_
   refine wp_region_lit ?_
   refine st_run 4 [(63, .int .i64 (r.p2)), (62, .pointer (some ⟨g40, 2, none⟩)), (61, .int .i64 (2)), (60, v70)] hs (.c (hs.mem.del (.s (.s (.s (.s .z))))) .n) (by kernel_rfl) (by kernel_rfl) (by kernel_rfl) ?_; clear hs a; intro a hs
   refine st_call hs (.c rfl .n) Try.call74 .n (rputn_ok r.p2 _ (by omega)) rfl ?_; clear hs w a; rintro v77 _ a w rfl hs; simp only [List.cons_append, List.nil_append] at hs
   have hk78 := length_numB r.p2
   refine st_app (size := 1) (bytes := 1) hs rfl rfl (.s .z) (rd_row (hs.mem.del .z)) (oneCell_bytesV _) Try.underlying79 (i := Try.t5) rfl rfl rfl rfl rfl (by decide) (by omega) (by simp only [maxLen]; omega) rfl ?_; clear hs w a; intro v79 a w hs
   refine st_as hs rfl rfl ?_; clear hs w a; intro a w hs
   refine wpList_nil ?_
   refine in_n ?_
   refine then_n (hK76 _ _ ?_)
   refine wp_region_lit ?_
   refine st_run 3 [(10, .int .i64 (3)), (59, .int .i64 (3)), (58, .int .i64 (2))] hs .n (by kernel_rfl) (by kernel_rfl) (by kernel_rfl) ?_; clear hs a; intro a hs
   refine wpList_nil ?_
   refine then_n ?_
   refine rounds_in ?_
   refine wp_seq_k fun K80 hK81 => ?_
   refine wp_seq_k fun K82 hK83 => ?_
   refine wp_region_lit ?_
   refine st_run 2 [(57, .bool (true)), (56, .int .i64 (3))] hs .n (by kernel_rfl) (by kernel_rfl) (by kernel_rfl) ?_; clear hs a; intro a hs
   refine wpList_nil ?_
   refine then_n (hK83 _ _ ?_)
   refine wp_cond_true (hs.ev rfl) ?_
   refine wp_skip ?_
   refine then_n (hK81 _ _ ?_)
   refine wp_seq_k fun K84 hK85 => ?_
   refine wp_block ?_
   refine wp_region_lit ?_
   refine st_run 4 [(63, .int .i64 (r.v0)), (62, .pointer (some ⟨g40, 3, none⟩)), (61, .int .i64 (3)), (60, v79)] hs (.c (hs.mem.del (.s (.s (.s (.s (.s .z)))))) .n) (by kernel_rfl) (by kernel_rfl) (by kernel_rfl) ?_; clear hs a; intro a hs
   refine st_call hs (.c rfl .n) Try.call74 .n (rputn_ok r.v0 _ (by omega)) rfl ?_; clear hs w a; rintro v86 _ a w rfl hs; simp only [List.cons_append, List.nil_append] at hs
   have hk87 := length_numB r.v0
   refine st_app (size := 1) (bytes := 1) hs rfl rfl (.s .z) (rd_row (hs.mem.del .z)) (oneCell_bytesV _) Try.underlying79 (i := Try.t5) rfl rfl rfl rfl rfl (by decide) (by omega) (by simp only [maxLen]; omega) rfl ?_; clear hs w a; intro v88 a w hs
   refine st_as hs rfl rfl ?_; clear hs w a; intro a w hs
   refine wpList_nil ?_
   refine in_n ?_
   refine then_n (hK85 _ _ ?_)
   refine wp_region_lit ?_
   refine st_run 3 [(10, .int .i64 (4)), (59, .int .i64 (4)), (58, .int .i64 (3))] hs .n (by kernel_rfl) (by kernel_rfl) (by kernel_rfl) ?_; clear hs a; intro a hs
   refine wpList_nil ?_
   refine then_n ?_
   refine rounds_in ?_
   refine wp_seq_k fun K89 hK90 => ?_
   refine wp_seq_k fun K91 hK92 => ?_
   refine wp_region_lit ?_
   refine st_run 2 [(57, .bool (true)), (56, .int .i64 (4))] hs .n (by kernel_rfl) (by kernel_rfl) (by kernel_rfl) ?_; clear hs a; intro a hs
   refine wpList_nil ?_
   refine then_n (hK92 _ _ ?_)
   refine wp_cond_true (hs.ev rfl) ?_
   refine wp_skip ?_
   refine then_n (hK90 _ _ ?_)
   refine wp_seq_k fun K93 hK94 => ?_
   refine wp_block ?_
   refine wp_region_lit ?_
   refine st_run 4 [(63, .int .i64 (r.v1)), (62, .pointer (some ⟨g40, 4, none⟩)), (61, .int .i64 (4)), (60, v88)] hs (.c (hs.mem.del (.s (.s (.s (.s (.s (.s .z))))))) .n) (by kernel_rfl) (by kernel_rfl) (by kernel_rfl) ?_; clear hs a; intro a hs
   refine st_call hs (.c rfl .n) Try.call74 .n (rputn_ok r.v1 _ (by omega)) rfl ?_; clear hs w a; rintro v95 _ a w rfl hs; simp only [List.cons_append, List.nil_append] at hs
   have hk96 := length_numB r.v1
   refine st_app (size := 1) (bytes := 1) hs rfl rfl (.s .z) (rd_row (hs.mem.del .z)) (oneCell_bytesV _) Try.underlying79 (i := Try.t5) rfl rfl rfl rfl rfl (by decide) (by omega) (by simp only [maxLen]; omega) rfl ?_; clear hs w a; intro v97 a w hs
   refine st_as hs rfl rfl ?_; clear hs w a; intro a w hs
   refine wpList_nil ?_
   refine in_n ?_
   refine then_n (hK94 _ _ ?_)
   refine wp_region_lit ?_
   refine st_run 3 [(10, .int .i64 (5)), (59, .int .i64 (5)), (58, .int .i64 (4))] hs .n (by kernel_rfl) (by kernel_rfl) (by kernel_rfl) ?_; clear hs a; intro a hs
   refine wpList_nil ?_
   refine then_n ?_
   refine rounds_in ?_
   refine wp_seq_k fun K98 hK99 => ?_
   refine wp_seq_k fun K100 hK101 => ?_
   refine wp_region_lit ?_
   refine st_run 2 [(57, .bool (true)), (56, .int .i64 (5))] hs .n (by kernel_rfl) (by kernel_rfl) (by kernel_rfl) ?_; clear hs a; intro a hs
   refine wpList_nil ?_
   refine then_n (hK101 _ _ ?_)
   refine wp_cond_true (hs.ev rfl) ?_
   refine wp_skip ?_
   refine then_n (hK99 _ _ ?_)
   refine wp_seq_k fun K102 hK103 => ?_
   refine wp_block ?_
   refine wp_region_lit ?_
   refine st_run 4 [(63, .int .i64 (r.v2)), (62, .pointer (some ⟨g40, 5, none⟩)), (61, .int .i64 (5)), (60, v97)] hs (.c (hs.mem.del (.s (.s (.s (.s (.s (.s (.s .z)))))))) .n) (by kernel_rfl) (by kernel_rfl) (by kernel_rfl) ?_; clear hs a; intro a hs
   refine st_call hs (.c rfl .n) Try.call74 .n (rputn_ok r.v2 _ (by omega)) rfl ?_; clear hs w a; rintro v104 _ a w rfl hs; simp only [List.cons_append, List.nil_append] at hs
   have hk105 := length_numB r.v2
   refine st_app (size := 1) (bytes := 1) hs rfl rfl (.s .z) (rd_row (hs.mem.del .z)) (oneCell_bytesV _) Try.underlying79 (i := Try.t5) rfl rfl rfl rfl rfl (by decide) (by omega) (by simp only [maxLen]; omega) rfl ?_; clear hs w a; intro v106 a w hs
   refine st_as hs rfl rfl ?_; clear hs w a; intro a w hs
   refine wpList_nil ?_
   refine in_n ?_
   refine then_n (hK103 _ _ ?_)
   refine wp_region_lit ?_
   refine st_run 3 [(10, .int .i64 (6)), (59, .int .i64 (6)), (58, .int .i64 (5))] hs .n (by kernel_rfl) (by kernel_rfl) (by kernel_rfl) ?_; clear hs a; intro a hs
   refine wpList_nil ?_
   refine then_n ?_
   refine rounds_in ?_
   refine wp_seq_k fun K107 hK108 => ?_
   refine wp_seq_k fun K109 hK110 => ?_
   refine wp_region_lit ?_
   refine st_run 2 [(57, .bool (false)), (56, .int .i64 (6))] hs .n (by kernel_rfl) (by kernel_rfl) (by kernel_rfl) ?_; clear hs a; intro a hs
   refine wpList_nil ?_
   refine then_n (hK110 _ _ ?_)
   refine wp_cond_false (hs.ev rfl) ?_
   refine wp_exit ?_
   refine th_e ?_
   refine th_e ?_
   refine in_hit ?_
   refine then_n (hK50 _ _ ?_)
   refine wp_seq_k fun K111 hK112 => ?_
   refine wp_region_lit ?_
   refine st_run 2 [(67, v43), (66, v106)] hs .n (by kernel_rfl) (by kernel_rfl) (by kernel_rfl) ?_; clear hs a; intro a hs
   refine st_app (size := 1) (bytes := 1) hs rfl rfl .z (rd_row (hs.mem.del (.s (.s (.s (.s (.s (.s (.s .z))))))))) (oneCell_bytesV _) Try.underlying79 (i := Try.t5) rfl rfl rfl rfl rfl (by decide) (by omega) (by simp only [maxLen]; omega) rfl ?_; clear hs w a; intro v113 a w hs
   refine st_run 2 [(5, .int .i64 (0)), (4, v113)] hs .n (by kernel_rfl) (by kernel_rfl) (by kernel_rfl) ?_; clear hs a; intro a hs
   refine wpList_nil ?_
   refine then_n (hK112 _ _ ?_)
   refine wp_ret ?_
   refine th_r ?_
   have hre : recErr r last = 0 := by first | exact recErr_chk (by omega) | exact recErr_rng (by omega) (by omega) | exact recErr_ord (by omega) (by omega) (by omega) | exact recErr_ok (by omega) (by omega) (by omega)
   replace hs := hs.drop (.c (.s (.s (.s (.s (.s (.s (.s (.s (.s (.s .z)))))))))) (.c (.s (.s (.s (.s (.s (.s (.s (.s (.s .z))))))))) (.c (.s (.s (.s (.s (.s (.s (.s (.s .z)))))))) (.c (.s (.s (.s (.s (.s (.s (.s .z))))))) (.c (.s (.s (.s (.s (.s (.s .z)))))) (.c (.s (.s (.s (.s (.s .z))))) (.c (.s (.s (.s (.s .z)))) (.c (.s (.s (.s .z))) (.c (.s (.s .z)) (.c (.s .z) .n))))))))))
   replace hs := hs.rerow .z (m' := (recB r last).length) (xs' := bytesV (recB r last)) (by first | ((first | rw [recB_all hre (by omega)] | rw [recB_some hre (by omega)] | rw [recB_none hre (by omega)]) <;> simp only [List.length_append]; done) | ((first | rw [recB_all hre (by omega)] | rw [recB_some hre (by omega), recSome_z (by omega)] | rw [recB_some hre (by omega), recSome_n (by omega)] | rw [recB_none hre (by omega)]) <;> simp only [List.length_append, List.length_cons, List.length_nil, recAll] <;> omega)) (by first | ((first | rw [recB_all hre (by omega)] | rw [recB_some hre (by omega)] | rw [recB_none hre (by omega)]) <;> rfl) | ((first | rw [recB_all hre (by omega)] | rw [recB_some hre (by omega), recSome_z (by omega)] | rw [recB_some hre (by omega), recSome_n (by omega)] | rw [recB_none hre (by omega)]) <;> simp only [recAll, bytesV, List.map_append, List.map_cons, List.map_nil, List.append_assoc, List.cons_append, List.nil_append] <;> rfl))
   exact fin2 hs rfl rfl rfl ⟨_, congrArg (fun z : Nat => Value.tuple #[v113, .int .i64 (z : Int)]) hre.symm, rfl⟩
  rw [hc48] at hs
  replace hc48 := ne_of_beq_f hc48
  refine st_run 4 [(55, .bool ((r.k : Int) == 3))] hs (.c (hs.mem.del (.s (.s .z))) .n) (by kernel_rfl) (by kernel_rfl) (by kernel_rfl) ?_; clear hs a; intro a hs
  refine wpList_nil ?_
  refine then_n (hK47 _ _ ?_)
  refine wp_if hs rfl (fun hc114 => ?_) (fun hc114 => ?_)
  ·
   replace hc114 := eq_of_beq hc114
   refine wp_seq_k fun K115 hK116 => ?_
   refine wp_seq_k fun K117 hK118 => ?_
   refine wp_region_lit ?_
   refine st_as hs rfl rfl ?_; clear hs w a; intro a w hs
   refine wpList_nil ?_
   refine then_n (hK118 _ _ ?_)
   refine wp_block ?_
   refine wp_loop_rounds 7 ?_
   refine rounds_in ?_
   refine wp_seq_k fun K119 hK120 => ?_
   refine wp_seq_k fun K121 hK122 => ?_
   refine wp_region_lit ?_
   refine st_run 2 [(57, .bool (true)), (56, .int .i64 (0))] hs .n (by kernel_rfl) (by kernel_rfl) (by kernel_rfl) ?_; clear hs a; intro a hs
   refine wpList_nil ?_
   refine then_n (hK122 _ _ ?_)
   refine wp_cond_true (hs.ev rfl) ?_
   refine wp_skip ?_
   refine then_n (hK120 _ _ ?_)
   refine wp_seq_k fun K123 hK124 => ?_
   refine wp_block ?_
   refine wp_region_lit ?_
   refine st_run 4 [(63, .int .i64 (r.p0)), (62, .pointer (some ⟨g40, 0, none⟩)), (61, .int .i64 (0)), (60, v37)] hs (.c (hs.mem.del (.s .z)) .n) (by kernel_rfl) (by kernel_rfl) (by kernel_rfl) ?_; clear hs a; intro a hs
   refine st_call hs (.c rfl .n) Try.call74 .n (rputn_ok r.p0 _ (by omega)) rfl ?_; clear hs w a; rintro v125 _ a w rfl hs; simp only [List.cons_append, List.nil_append] at hs
   have hk126 := length_numB r.p0
   refine st_app (size := 1) (bytes := 1) hs rfl rfl (.s (.s (.s (.s (.s .z))))) (rd_row (hs.mem.del .z)) (oneCell_bytesV _) Try.underlying79 (i := Try.t5) rfl rfl rfl rfl rfl (by decide) (by omega) (by simp only [maxLen]; omega) rfl ?_; clear hs w a; intro v127 a w hs
   refine st_as hs rfl rfl ?_; clear hs w a; intro a w hs
   refine wpList_nil ?_
   refine in_n ?_
   refine then_n (hK124 _ _ ?_)
   refine wp_region_lit ?_
   refine st_run 3 [(10, .int .i64 (1)), (59, .int .i64 (1)), (58, .int .i64 (0))] hs .n (by kernel_rfl) (by kernel_rfl) (by kernel_rfl) ?_; clear hs a; intro a hs
   refine wpList_nil ?_
   refine then_n ?_
   refine rounds_in ?_
   refine wp_seq_k fun K128 hK129 => ?_
   refine wp_seq_k fun K130 hK131 => ?_
   refine wp_region_lit ?_
   refine st_run 2 [(57, .bool (true)), (56, .int .i64 (1))] hs .n (by kernel_rfl) (by kernel_rfl) (by kernel_rfl) ?_; clear hs a; intro a hs
   refine wpList_nil ?_
   refine then_n (hK131 _ _ ?_)
   refine wp_cond_true (hs.ev rfl) ?_
   refine wp_skip ?_
   refine then_n (hK129 _ _ ?_)
   refine wp_seq_k fun K132 hK133 => ?_
   refine wp_block ?_
   refine wp_region_lit ?_
   refine st_run 4 [(63, .int .i64 (r.p1)), (62, .pointer (some ⟨g40, 1, none⟩)), (61, .int .i64 (1)), (60, v127)] hs (.c (hs.mem.del (.s (.s (.s .z)))) .n) (by kernel_rfl) (by kernel_rfl) (by kernel_rfl) ?_; clear hs a; intro a hs
   refine st_call hs (.c rfl .n) Try.call74 .n (rputn_ok r.p1 _ (by omega)) rfl ?_; clear hs w a; rintro v134 _ a w rfl hs; simp only [List.cons_append, List.nil_append] at hs
   have hk135 := length_numB r.p1
   refine st_app (size := 1) (bytes := 1) hs rfl rfl (.s .z) (rd_row (hs.mem.del .z)) (oneCell_bytesV _) Try.underlying79 (i := Try.t5) rfl rfl rfl rfl rfl (by decide) (by omega) (by simp only [maxLen]; omega) rfl ?_; clear hs w a; intro v136 a w hs
   refine st_as hs rfl rfl ?_; clear hs w a; intro a w hs
   refine wpList_nil ?_
   refine in_n ?_
   refine then_n (hK133 _ _ ?_)
   refine wp_region_lit ?_
   refine st_run 3 [(10, .int .i64 (2)), (59, .int .i64 (2)), (58, .int .i64 (1))] hs .n (by kernel_rfl) (by kernel_rfl) (by kernel_rfl) ?_; clear hs a; intro a hs
   refine wpList_nil ?_
   refine then_n ?_
   refine rounds_in ?_
   refine wp_seq_k fun K137 hK138 => ?_
   refine wp_seq_k fun K139 hK140 => ?_
   refine wp_region_lit ?_
   refine st_run 2 [(57, .bool (true)), (56, .int .i64 (2))] hs .n (by kernel_rfl) (by kernel_rfl) (by kernel_rfl) ?_; clear hs a; intro a hs
   refine wpList_nil ?_
   refine then_n (hK140 _ _ ?_)
   refine wp_cond_true (hs.ev rfl) ?_
   refine wp_skip ?_
   refine then_n (hK138 _ _ ?_)
   refine wp_seq_k fun K141 hK142 => ?_
   refine wp_block ?_
   refine wp_region_lit ?_
   refine st_run 4 [(63, .int .i64 (r.p2)), (62, .pointer (some ⟨g40, 2, none⟩)), (61, .int .i64 (2)), (60, v136)] hs (.c (hs.mem.del (.s (.s (.s (.s .z))))) .n) (by kernel_rfl) (by kernel_rfl) (by kernel_rfl) ?_; clear hs a; intro a hs
   refine st_call hs (.c rfl .n) Try.call74 .n (rputn_ok r.p2 _ (by omega)) rfl ?_; clear hs w a; rintro v143 _ a w rfl hs; simp only [List.cons_append, List.nil_append] at hs
   have hk144 := length_numB r.p2
   refine st_app (size := 1) (bytes := 1) hs rfl rfl (.s .z) (rd_row (hs.mem.del .z)) (oneCell_bytesV _) Try.underlying79 (i := Try.t5) rfl rfl rfl rfl rfl (by decide) (by omega) (by simp only [maxLen]; omega) rfl ?_; clear hs w a; intro v145 a w hs
   refine st_as hs rfl rfl ?_; clear hs w a; intro a w hs
   refine wpList_nil ?_
   refine in_n ?_
   refine then_n (hK142 _ _ ?_)
   refine wp_region_lit ?_
   refine st_run 3 [(10, .int .i64 (3)), (59, .int .i64 (3)), (58, .int .i64 (2))] hs .n (by kernel_rfl) (by kernel_rfl) (by kernel_rfl) ?_; clear hs a; intro a hs
   refine wpList_nil ?_
   refine then_n ?_
   refine rounds_in ?_
   refine wp_seq_k fun K146 hK147 => ?_
   refine wp_seq_k fun K148 hK149 => ?_
   refine wp_region_lit ?_
   refine st_run 2 [(57, .bool (true)), (56, .int .i64 (3))] hs .n (by kernel_rfl) (by kernel_rfl) (by kernel_rfl) ?_; clear hs a; intro a hs
   refine wpList_nil ?_
   refine then_n (hK149 _ _ ?_)
   refine wp_cond_true (hs.ev rfl) ?_
   refine wp_skip ?_
   refine then_n (hK147 _ _ ?_)
   refine wp_seq_k fun K150 hK151 => ?_
   refine wp_block ?_
   refine wp_region_lit ?_
   refine st_run 4 [(63, .int .i64 (r.v0)), (62, .pointer (some ⟨g40, 3, none⟩)), (61, .int .i64 (3)), (60, v145)] hs (.c (hs.mem.del (.s (.s (.s (.s (.s .z)))))) .n) (by kernel_rfl) (by kernel_rfl) (by kernel_rfl) ?_; clear hs a; intro a hs
   refine st_call hs (.c rfl .n) Try.call74 .n (rputn_ok r.v0 _ (by omega)) rfl ?_; clear hs w a; rintro v152 _ a w rfl hs; simp only [List.cons_append, List.nil_append] at hs
   have hk153 := length_numB r.v0
   refine st_app (size := 1) (bytes := 1) hs rfl rfl (.s .z) (rd_row (hs.mem.del .z)) (oneCell_bytesV _) Try.underlying79 (i := Try.t5) rfl rfl rfl rfl rfl (by decide) (by omega) (by simp only [maxLen]; omega) rfl ?_; clear hs w a; intro v154 a w hs
   refine st_as hs rfl rfl ?_; clear hs w a; intro a w hs
   refine wpList_nil ?_
   refine in_n ?_
   refine then_n (hK151 _ _ ?_)
   refine wp_region_lit ?_
   refine st_run 3 [(10, .int .i64 (4)), (59, .int .i64 (4)), (58, .int .i64 (3))] hs .n (by kernel_rfl) (by kernel_rfl) (by kernel_rfl) ?_; clear hs a; intro a hs
   refine wpList_nil ?_
   refine then_n ?_
   refine rounds_in ?_
   refine wp_seq_k fun K155 hK156 => ?_
   refine wp_seq_k fun K157 hK158 => ?_
   refine wp_region_lit ?_
   refine st_run 2 [(57, .bool (true)), (56, .int .i64 (4))] hs .n (by kernel_rfl) (by kernel_rfl) (by kernel_rfl) ?_; clear hs a; intro a hs
   refine wpList_nil ?_
   refine then_n (hK158 _ _ ?_)
   refine wp_cond_true (hs.ev rfl) ?_
   refine wp_skip ?_
   refine then_n (hK156 _ _ ?_)
   refine wp_seq_k fun K159 hK160 => ?_
   refine wp_block ?_
   refine wp_region_lit ?_
   refine st_run 4 [(63, .int .i64 (r.v1)), (62, .pointer (some ⟨g40, 4, none⟩)), (61, .int .i64 (4)), (60, v154)] hs (.c (hs.mem.del (.s (.s (.s (.s (.s (.s .z))))))) .n) (by kernel_rfl) (by kernel_rfl) (by kernel_rfl) ?_; clear hs a; intro a hs
   refine st_call hs (.c rfl .n) Try.call74 .n (rputn_ok r.v1 _ (by omega)) rfl ?_; clear hs w a; rintro v161 _ a w rfl hs; simp only [List.cons_append, List.nil_append] at hs
   have hk162 := length_numB r.v1
   refine st_app (size := 1) (bytes := 1) hs rfl rfl (.s .z) (rd_row (hs.mem.del .z)) (oneCell_bytesV _) Try.underlying79 (i := Try.t5) rfl rfl rfl rfl rfl (by decide) (by omega) (by simp only [maxLen]; omega) rfl ?_; clear hs w a; intro v163 a w hs
   refine st_as hs rfl rfl ?_; clear hs w a; intro a w hs
   refine wpList_nil ?_
   refine in_n ?_
   refine then_n (hK160 _ _ ?_)
   refine wp_region_lit ?_
   refine st_run 3 [(10, .int .i64 (5)), (59, .int .i64 (5)), (58, .int .i64 (4))] hs .n (by kernel_rfl) (by kernel_rfl) (by kernel_rfl) ?_; clear hs a; intro a hs
   refine wpList_nil ?_
   refine then_n ?_
   refine rounds_in ?_
   refine wp_seq_k fun K164 hK165 => ?_
   refine wp_seq_k fun K166 hK167 => ?_
   refine wp_region_lit ?_
   refine st_run 2 [(57, .bool (true)), (56, .int .i64 (5))] hs .n (by kernel_rfl) (by kernel_rfl) (by kernel_rfl) ?_; clear hs a; intro a hs
   refine wpList_nil ?_
   refine then_n (hK167 _ _ ?_)
   refine wp_cond_true (hs.ev rfl) ?_
   refine wp_skip ?_
   refine then_n (hK165 _ _ ?_)
   refine wp_seq_k fun K168 hK169 => ?_
   refine wp_block ?_
   refine wp_region_lit ?_
   refine st_run 4 [(63, .int .i64 (r.v2)), (62, .pointer (some ⟨g40, 5, none⟩)), (61, .int .i64 (5)), (60, v163)] hs (.c (hs.mem.del (.s (.s (.s (.s (.s (.s (.s .z)))))))) .n) (by kernel_rfl) (by kernel_rfl) (by kernel_rfl) ?_; clear hs a; intro a hs
   refine st_call hs (.c rfl .n) Try.call74 .n (rputn_ok r.v2 _ (by omega)) rfl ?_; clear hs w a; rintro v170 _ a w rfl hs; simp only [List.cons_append, List.nil_append] at hs
   have hk171 := length_numB r.v2
   refine st_app (size := 1) (bytes := 1) hs rfl rfl (.s .z) (rd_row (hs.mem.del .z)) (oneCell_bytesV _) Try.underlying79 (i := Try.t5) rfl rfl rfl rfl rfl (by decide) (by omega) (by simp only [maxLen]; omega) rfl ?_; clear hs w a; intro v172 a w hs
   refine st_as hs rfl rfl ?_; clear hs w a; intro a w hs
   refine wpList_nil ?_
   refine in_n ?_
   refine then_n (hK169 _ _ ?_)
   refine wp_region_lit ?_
   refine st_run 3 [(10, .int .i64 (6)), (59, .int .i64 (6)), (58, .int .i64 (5))] hs .n (by kernel_rfl) (by kernel_rfl) (by kernel_rfl) ?_; clear hs a; intro a hs
   refine wpList_nil ?_
   refine then_n ?_
   refine rounds_in ?_
   refine wp_seq_k fun K173 hK174 => ?_
   refine wp_seq_k fun K175 hK176 => ?_
   refine wp_region_lit ?_
   refine st_run 2 [(57, .bool (false)), (56, .int .i64 (6))] hs .n (by kernel_rfl) (by kernel_rfl) (by kernel_rfl) ?_; clear hs a; intro a hs
   refine wpList_nil ?_
   refine then_n (hK176 _ _ ?_)
   refine wp_cond_false (hs.ev rfl) ?_
   refine wp_exit ?_
   refine th_e ?_
   refine th_e ?_
   refine in_hit ?_
   refine then_n (hK116 _ _ ?_)
   refine wp_seq_k fun K177 hK178 => ?_
   refine wp_region_lit ?_
   refine st_run 2 [(67, v43), (66, v172)] hs .n (by kernel_rfl) (by kernel_rfl) (by kernel_rfl) ?_; clear hs a; intro a hs
   refine st_app (size := 1) (bytes := 1) hs rfl rfl .z (rd_row (hs.mem.del (.s (.s (.s (.s (.s (.s (.s .z))))))))) (oneCell_bytesV _) Try.underlying79 (i := Try.t5) rfl rfl rfl rfl rfl (by decide) (by omega) (by simp only [maxLen]; omega) rfl ?_; clear hs w a; intro v179 a w hs
   refine st_run 2 [(5, .int .i64 (0)), (4, v179)] hs .n (by kernel_rfl) (by kernel_rfl) (by kernel_rfl) ?_; clear hs a; intro a hs
   refine wpList_nil ?_
   refine then_n (hK178 _ _ ?_)
   refine wp_ret ?_
   refine th_r ?_
   have hre : recErr r last = 0 := by first | exact recErr_chk (by omega) | exact recErr_rng (by omega) (by omega) | exact recErr_ord (by omega) (by omega) (by omega) | exact recErr_ok (by omega) (by omega) (by omega)
   replace hs := hs.drop (.c (.s (.s (.s (.s (.s (.s (.s (.s (.s (.s .z)))))))))) (.c (.s (.s (.s (.s (.s (.s (.s (.s (.s .z))))))))) (.c (.s (.s (.s (.s (.s (.s (.s (.s .z)))))))) (.c (.s (.s (.s (.s (.s (.s (.s .z))))))) (.c (.s (.s (.s (.s (.s (.s .z)))))) (.c (.s (.s (.s (.s (.s .z))))) (.c (.s (.s (.s (.s .z)))) (.c (.s (.s (.s .z))) (.c (.s (.s .z)) (.c (.s .z) .n))))))))))
   replace hs := hs.rerow .z (m' := (recB r last).length) (xs' := bytesV (recB r last)) (by first | ((first | rw [recB_all hre (by omega)] | rw [recB_some hre (by omega)] | rw [recB_none hre (by omega)]) <;> simp only [List.length_append]; done) | ((first | rw [recB_all hre (by omega)] | rw [recB_some hre (by omega), recSome_z (by omega)] | rw [recB_some hre (by omega), recSome_n (by omega)] | rw [recB_none hre (by omega)]) <;> simp only [List.length_append, List.length_cons, List.length_nil, recAll] <;> omega)) (by first | ((first | rw [recB_all hre (by omega)] | rw [recB_some hre (by omega)] | rw [recB_none hre (by omega)]) <;> rfl) | ((first | rw [recB_all hre (by omega)] | rw [recB_some hre (by omega), recSome_z (by omega)] | rw [recB_some hre (by omega), recSome_n (by omega)] | rw [recB_none hre (by omega)]) <;> simp only [recAll, bytesV, List.map_append, List.map_cons, List.map_nil, List.append_assoc, List.cons_append, List.nil_append] <;> rfl))
   exact fin2 hs rfl rfl rfl ⟨_, congrArg (fun z : Nat => Value.tuple #[v179, .int .i64 (z : Int)]) hre.symm, rfl⟩
  replace hc114 := ne_of_beq_f hc114
  refine wp_skip ?_
  refine then_n (hK45 _ _ ?_)
  refine wp_seq_k fun K180 hK181 => ?_
  refine wp_seq_k fun K182 hK183 => ?_
  refine wp_region_lit ?_
  refine st_run 3 [(71, .bool ((r.k : Int) == 2))] hs (.c (hs.mem.del (.s (.s .z))) .n) (by kernel_rfl) (by kernel_rfl) (by kernel_rfl) ?_; clear hs a; intro a hs
  refine wpList_nil ?_
  refine then_n (hK183 _ _ ?_)
  refine wp_if hs rfl (fun hc184 => ?_) (fun hc184 => ?_)
  ·
   replace hc184 := eq_of_beq hc184
   refine wp_seq_k fun K185 hK186 => ?_
   refine wp_region_lit ?_
   refine st_run 3 [(5, .int .i64 (0)), (4, v37)] hs .n (by kernel_rfl) (by kernel_rfl) (by kernel_rfl) ?_; clear hs a; intro a hs
   refine wpList_nil ?_
   refine then_n (hK186 _ _ ?_)
   refine wp_ret ?_
   refine th_r ?_
   have hre : recErr r last = 0 := by first | exact recErr_chk (by omega) | exact recErr_rng (by omega) (by omega) | exact recErr_ord (by omega) (by omega) (by omega) | exact recErr_ok (by omega) (by omega) (by omega)
   replace hs := hs.drop (.c (.s (.s (.s .z))) (.c (.s (.s .z)) (.c (.s .z) (.c .z .n))))
   replace hs := hs.rerow .z (m' := (recB r last).length) (xs' := bytesV (recB r last)) (by first | ((first | rw [recB_all hre (by omega)] | rw [recB_some hre (by omega)] | rw [recB_none hre (by omega)]) <;> simp only [List.length_append]; done) | ((first | rw [recB_all hre (by omega)] | rw [recB_some hre (by omega), recSome_z (by omega)] | rw [recB_some hre (by omega), recSome_n (by omega)] | rw [recB_none hre (by omega)]) <;> simp only [List.length_append, List.length_cons, List.length_nil, recAll] <;> omega)) (by first | ((first | rw [recB_all hre (by omega)] | rw [recB_some hre (by omega)] | rw [recB_none hre (by omega)]) <;> rfl) | ((first | rw [recB_all hre (by omega)] | rw [recB_some hre (by omega), recSome_z (by omega)] | rw [recB_some hre (by omega), recSome_n (by omega)] | rw [recB_none hre (by omega)]) <;> simp only [recAll, bytesV, List.map_append, List.map_cons, List.map_nil, List.append_assoc, List.cons_append, List.nil_append] <;> rfl))
   exact fin2 hs rfl rfl rfl ⟨_, congrArg (fun z : Nat => Value.tuple #[v37, .int .i64 (z : Int)]) hre.symm, rfl⟩
  replace hc184 := ne_of_beq_f hc184
  refine wp_skip ?_
  refine then_n (hK181 _ _ ?_)
  refine wp_seq_k fun K187 hK188 => ?_
  refine wp_region_lit ?_
  refine st_as hs rfl rfl ?_; clear hs w a; intro a w hs
  replace hs := hs.sub (F' := [(11, .int .u8 ((((upMask r 0).toNat : Nat) : Int))), (71, .bool ((r.k : Int) == 2)), (55, .bool ((r.k : Int) == 3)), (51, .bool (false)), (9, v43), (47, v43), (46, .int .u64 (((((r.a).setWidth 64).toNat : Nat) : Int))), (45, .int .u16 ((((r.a).toNat : Nat) : Int))), (8, .pointer (some ⟨g40, 0, none⟩)), (43, .agg #[.int .i64 (r.p0), .int .i64 (r.p1), .int .i64 (r.p2), .int .i64 (r.v0), .int .i64 (r.v1), .int .i64 (r.v2)]), (42, .agg #[.int .i64 (r.k), .int .i64 (r.id), .int .i64 (r.p0), .int .i64 (r.p1), .int .i64 (r.p2), .int .i64 (r.v0), .int .i64 (r.v1), .int .i64 (r.v2), .int .u16 ((((r.a).toNat : Nat) : Int))]), (7, v37), (5, .int .i64 (0)), (4, .slice none 0 0), (2, .pointer (some ⟨g3, 0, none⟩)), (1, .int .i64 (last))]) (.c rfl (.c rfl (.c rfl (.c rfl (.c rfl (.c rfl (.c rfl (.c rfl (.c rfl (.c rfl (.c rfl (.c rfl (.c rfl (.c rfl (.c rfl (.c rfl .n))))))))))))))))
  refine wpList_nil ?_
  refine then_n (hK188 _ _ ?_)
  refine wp_seq_k fun K189 hK190 => ?_
  refine wp_region_lit ?_
  refine st_as hs rfl rfl ?_; clear hs w a; intro a w hs
  replace hs := hs.sub (F' := [(12, .int .u8 ((((upBitv 0).toNat : Nat) : Int))), (11, .int .u8 ((((upMask r 0).toNat : Nat) : Int))), (71, .bool ((r.k : Int) == 2)), (55, .bool ((r.k : Int) == 3)), (51, .bool (false)), (9, v43), (47, v43), (46, .int .u64 (((((r.a).setWidth 64).toNat : Nat) : Int))), (45, .int .u16 ((((r.a).toNat : Nat) : Int))), (8, .pointer (some ⟨g40, 0, none⟩)), (43, .agg #[.int .i64 (r.p0), .int .i64 (r.p1), .int .i64 (r.p2), .int .i64 (r.v0), .int .i64 (r.v1), .int .i64 (r.v2)]), (42, .agg #[.int .i64 (r.k), .int .i64 (r.id), .int .i64 (r.p0), .int .i64 (r.p1), .int .i64 (r.p2), .int .i64 (r.v0), .int .i64 (r.v1), .int .i64 (r.v2), .int .u16 ((((r.a).toNat : Nat) : Int))]), (7, v37), (5, .int .i64 (0)), (4, .slice none 0 0), (2, .pointer (some ⟨g3, 0, none⟩)), (1, .int .i64 (last))]) (.c rfl (.c rfl (.c rfl (.c rfl (.c rfl (.c rfl (.c rfl (.c rfl (.c rfl (.c rfl (.c rfl (.c rfl (.c rfl (.c rfl (.c rfl (.c rfl (.c rfl .n)))))))))))))))))
  refine wpList_nil ?_
  refine then_n (hK190 _ _ ?_)
  refine wp_seq_k fun K191 hK192 => ?_
  refine wp_region_lit ?_
  refine st_as hs rfl rfl ?_; clear hs w a; intro a w hs
  refine wpList_nil ?_
  refine then_n (hK192 _ _ ?_)
  refine wp_seq_k fun K193 hK194 => ?_
  refine wp_seq_k fun K195 hK196 => ?_
  refine wp_region_lit ?_
  refine st_as hs rfl rfl ?_; clear hs w a; intro a w hs
  refine wpList_nil ?_
  refine then_n (hK196 _ _ ?_)
  refine wp_block ?_
  refine wp_loop_rounds 7 ?_
  refine rounds_in ?_
  replace hs := hs.addNil 5 1
  replace hs := hs.rerow .z (m' := (upRest r 0).length) (xs' := bytesV (upRest r 0)) (rfl) (rfl)
  refine wp_cut (fun a w => ∃ q : Value, St 106 [(2, .pointer (some ⟨g3, 0, none⟩)), (7, v37), (8, .pointer (some ⟨g40, 0, none⟩)), (9, v43), (11, .int .u8 ((((upMask r 1).toNat : Nat) : Int))), (12, .int .u8 ((((upBitv 1).toNat : Nat) : Int))), (13, q), (14, .int .i64 (1))] w0 [] [row q 5 1 ((upRest r 1).length) (bytesV (upRest r 1)), row v43 5 1 ((vput r.a.toNat).length) (bytesV (vput r.a.toNat)), blk g40 [.int .i64 (r.p0), .int .i64 (r.p1), .int .i64 (r.p2), .int .i64 (r.v0), .int .i64 (r.v1), .int .i64 (r.v2)] 127, blk g3 [.int .i64 (r.k), .int .i64 (r.id), .int .i64 (r.p0), .int .i64 (r.p1), .int .i64 (r.p2), .int .i64 (r.v0), .int .i64 (r.v1), .int .i64 (r.v2), .int .u16 ((((r.a).toNat : Nat) : Int))] 45, blk g36 [.int .u8 ((((BitVec.ofInt 8 r.k).toNat : Nat) : Int))] 5, row v37 5 1 ((recHead r last).length) (bytesV (recHead r last))] a w) ?_ ?_
  ·
   refine wp_seq_k fun K197 hK198 => ?_
   refine wp_seq_k fun K199 hK200 => ?_
   refine wp_region_lit ?_
   refine st_run 2 [(74, .bool (true)), (73, .int .i64 (0))] hs .n (by kernel_rfl) (by kernel_rfl) (by kernel_rfl) ?_; clear hs a; intro a hs
   refine wpList_nil ?_
   refine then_n (hK200 _ _ ?_)
   refine wp_cond_true (hs.ev rfl) ?_
   refine wp_skip ?_
   refine then_n (hK198 _ _ ?_)
   refine wp_seq_k fun K201 hK202 => ?_
   refine wp_block ?_
   refine wp_seq_k fun K203 hK204 => ?_
   refine wp_seq_k fun K205 hK206 => ?_
   refine wp_region_lit ?_
   refine st_run 4 [(80, .bool (!((r.p0 : Int) == 0))), (79, .int .i64 (r.p0)), (78, .pointer (some ⟨g40, 0, none⟩)), (77, .int .i64 (0))] hs (.c (hs.mem.del (.s (.s .z))) .n) (by kernel_rfl) (by kernel_rfl) (by kernel_rfl) ?_; clear hs a; intro a hs
   refine wpList_nil ?_
   refine then_n (hK206 _ _ ?_)
   refine wp_if hs rfl (fun hc207 => ?_) (fun hc207 => ?_)
   ·
    replace hc207 := not_t hc207
    replace hc207 := ne_of_beq_f hc207
    have hn_ : r.num 0 ≠ 0 := by show r.p0 ≠ 0; assumption
    refine wp_seq_k fun K208 hK209 => ?_
    refine wp_region_lit ?_
    refine st_run 2 [(82, .int .u8 ((((upBitv 0).toNat : Nat) : Int))), (81, .int .u8 ((((upMask r 0).toNat : Nat) : Int)))] hs .n (by kernel_rfl) (by kernel_rfl) (by kernel_rfl) ?_; clear hs a; intro a hs
    refine st_add_u8 (X := upMask r 0) (Y := upBitv 0) hs rfl rfl rfl rfl rfl ?_; clear hs w a; intro a w hs
    refine st_as hs rfl rfl ?_; clear hs w a; intro a w hs
    refine wpList_nil ?_
    refine then_n (hK209 _ _ ?_)
    refine wp_region_lit ?_
    refine st_run 4 [(87, .int .i64 (r.p0)), (86, .pointer (some ⟨g40, 0, none⟩)), (85, .int .i64 (0)), (84, .slice none 0 0)] hs (.c (hs.mem.del (.s (.s .z))) .n) (by kernel_rfl) (by kernel_rfl) (by kernel_rfl) ?_; clear hs a; intro a hs
    refine st_call hs (.c rfl .n) Try.call74 .n (rputn_ok r.p0 _ (by omega)) rfl ?_; clear hs w a; rintro v210 _ a w rfl hs; simp only [List.cons_append, List.nil_append] at hs
    have hk211 := length_numB r.p0
    refine st_app (size := 1) (bytes := 1) hs rfl rfl (.s .z) (rd_row (hs.mem.del .z)) (oneCell_bytesV _) Try.underlying79 (i := Try.t5) rfl rfl rfl rfl rfl (by decide) (by omega) (by simp only [maxLen]; omega) rfl ?_; clear hs w a; intro v212 a w hs
    refine st_as hs rfl rfl ?_; clear hs w a; intro a w hs
    refine wpList_nil ?_
    refine then_n (hK204 _ _ ?_)
    refine wp_region_lit ?_
    refine st_mv hs rfl rfl ?_; clear hs w a; intro a w hs
    refine st_mul_u8 (X := upBitv 0) (Y := 2#8) hs rfl rfl rfl (by decide) rfl ?_; clear hs w a; intro a w hs
    refine st_as hs rfl rfl ?_; clear hs w a; intro a w hs
    refine wpList_nil ?_
    refine in_n ?_
    refine then_n (hK202 _ _ ?_)
    refine wp_region_lit ?_
    refine st_run 3 [(14, .int .i64 (1)), (76, .int .i64 (1)), (75, .int .i64 (0))] hs .n (by kernel_rfl) (by kernel_rfl) (by kernel_rfl) ?_; clear hs a; intro a hs
    refine wpList_nil ?_
    refine then_n ?_
    replace hs := hs.rerow .z (m' := (upRest r 1).length) (xs' := bytesV (upRest r 1)) (by first | rw [upRest_z hz_] | (rw [upRest_n hn_]; simp only [List.length_append, RecR.num])) (by first | rw [upRest_z hz_] | (rw [upRest_n hn_]; simp [bytesV_append, RecR.num]))
    rw [show ((upMask r 0) + (upBitv 0)) = upMask r 1 from by first | (rw [upMask_z hz_]) | (rw [upMask_n hn_]; exact upMask_addv r 0 (by omega))] at hs
    rw [show ((upBitv 0) * (2#8)) = upBitv 1 from upBitv_next 0] at hs
    replace hs := hs.drop (.c (.s .z) .n)
    exact ⟨v212, hs.sub (.c rfl (.c rfl (.c rfl (.c rfl (.c rfl (.c rfl (.c rfl (.c rfl .n))))))))⟩
   replace hc207 := not_f hc207
   replace hc207 := eq_of_beq hc207
   have hz_ : r.num 0 = 0 := by show r.p0 = 0; assumption
   refine wp_skip ?_
   refine then_n (hK204 _ _ ?_)
   refine wp_region_lit ?_
   refine st_mv hs rfl rfl ?_; clear hs w a; intro a w hs
   refine st_mul_u8 (X := upBitv 0) (Y := 2#8) hs rfl rfl rfl (by decide) rfl ?_; clear hs w a; intro a w hs
   refine st_as hs rfl rfl ?_; clear hs w a; intro a w hs
   refine wpList_nil ?_
   refine in_n ?_
   refine then_n (hK202 _ _ ?_)
   refine wp_region_lit ?_
   refine st_run 3 [(14, .int .i64 (1)), (76, .int .i64 (1)), (75, .int .i64 (0))] hs .n (by kernel_rfl) (by kernel_rfl) (by kernel_rfl) ?_; clear hs a; intro a hs
   refine wpList_nil ?_
   refine then_n ?_
   replace hs := hs.rerow .z (m' := (upRest r 1).length) (xs' := bytesV (upRest r 1)) (by first | rw [upRest_z hz_] | (rw [upRest_n hn_]; simp only [List.length_append, RecR.num])) (by first | rw [upRest_z hz_] | (rw [upRest_n hn_]; simp [bytesV_append, RecR.num]))
   rw [show (upMask r 0) = upMask r 1 from by first | (rw [upMask_z hz_]) | (rw [upMask_n hn_]; exact upMask_addv r 0 (by omega))] at hs
   rw [show ((upBitv 0) * (2#8)) = upBitv 1 from upBitv_next 0] at hs
   exact ⟨.slice none 0 0, hs.sub (.c rfl (.c rfl (.c rfl (.c rfl (.c rfl (.c rfl (.c rfl (.c rfl .n))))))))⟩
  clear hs w a; rintro a w ⟨q, hs⟩
  have hlu0 := length_upRest r 1
  refine then_n ?_
  refine rounds_in ?_
  refine wp_cut (fun a w => ∃ q : Value, St 106 [(2, .pointer (some ⟨g3, 0, none⟩)), (7, v37), (8, .pointer (some ⟨g40, 0, none⟩)), (9, v43), (11, .int .u8 ((((upMask r 2).toNat : Nat) : Int))), (12, .int .u8 ((((upBitv 2).toNat : Nat) : Int))), (13, q), (14, .int .i64 (2))] w0 [] [row q 5 1 ((upRest r 2).length) (bytesV (upRest r 2)), row v43 5 1 ((vput r.a.toNat).length) (bytesV (vput r.a.toNat)), blk g40 [.int .i64 (r.p0), .int .i64 (r.p1), .int .i64 (r.p2), .int .i64 (r.v0), .int .i64 (r.v1), .int .i64 (r.v2)] 127, blk g3 [.int .i64 (r.k), .int .i64 (r.id), .int .i64 (r.p0), .int .i64 (r.p1), .int .i64 (r.p2), .int .i64 (r.v0), .int .i64 (r.v1), .int .i64 (r.v2), .int .u16 ((((r.a).toNat : Nat) : Int))] 45, blk g36 [.int .u8 ((((BitVec.ofInt 8 r.k).toNat : Nat) : Int))] 5, row v37 5 1 ((recHead r last).length) (bytesV (recHead r last))] a w) ?_ ?_
  ·
   refine wp_seq_k fun K213 hK214 => ?_
   refine wp_seq_k fun K215 hK216 => ?_
   refine wp_region_lit ?_
   refine st_run 2 [(74, .bool (true)), (73, .int .i64 (1))] hs .n (by kernel_rfl) (by kernel_rfl) (by kernel_rfl) ?_; clear hs a; intro a hs
   refine wpList_nil ?_
   refine then_n (hK216 _ _ ?_)
   refine wp_cond_true (hs.ev rfl) ?_
   refine wp_skip ?_
   refine then_n (hK214 _ _ ?_)
   refine wp_seq_k fun K217 hK218 => ?_
   refine wp_block ?_
   refine wp_seq_k fun K219 hK220 => ?_
   refine wp_seq_k fun K221 hK222 => ?_
   refine wp_region_lit ?_
   refine st_run 4 [(80, .bool (!((r.p1 : Int) == 0))), (79, .int .i64 (r.p1)), (78, .pointer (some ⟨g40, 1, none⟩)), (77, .int .i64 (1))] hs (.c (hs.mem.del (.s (.s .z))) .n) (by kernel_rfl) (by kernel_rfl) (by kernel_rfl) ?_; clear hs a; intro a hs
   refine wpList_nil ?_
   refine then_n (hK222 _ _ ?_)
   refine wp_if hs rfl (fun hc223 => ?_) (fun hc223 => ?_)
   ·
    replace hc223 := not_t hc223
    replace hc223 := ne_of_beq_f hc223
    have hn_ : r.num 1 ≠ 0 := by show r.p1 ≠ 0; assumption
    refine wp_seq_k fun K224 hK225 => ?_
    refine wp_region_lit ?_
    refine st_run 2 [(82, .int .u8 ((((upBitv 1).toNat : Nat) : Int))), (81, .int .u8 ((((upMask r 1).toNat : Nat) : Int)))] hs .n (by kernel_rfl) (by kernel_rfl) (by kernel_rfl) ?_; clear hs a; intro a hs
    refine st_add_u8 (X := upMask r 1) (Y := upBitv 1) hs rfl rfl rfl rfl rfl ?_; clear hs w a; intro a w hs
    refine st_as hs rfl rfl ?_; clear hs w a; intro a w hs
    refine wpList_nil ?_
    refine then_n (hK225 _ _ ?_)
    refine wp_region_lit ?_
    refine st_run 4 [(87, .int .i64 (r.p1)), (86, .pointer (some ⟨g40, 1, none⟩)), (85, .int .i64 (1)), (84, q)] hs (.c (hs.mem.del (.s (.s .z))) .n) (by kernel_rfl) (by kernel_rfl) (by kernel_rfl) ?_; clear hs a; intro a hs
    refine st_call hs (.c rfl .n) Try.call74 .n (rputn_ok r.p1 _ (by omega)) rfl ?_; clear hs w a; rintro v226 _ a w rfl hs; simp only [List.cons_append, List.nil_append] at hs
    have hk227 := length_numB r.p1
    refine st_app (size := 1) (bytes := 1) hs rfl rfl (.s .z) (rd_row (hs.mem.del .z)) (oneCell_bytesV _) Try.underlying79 (i := Try.t5) rfl rfl rfl rfl rfl (by decide) (by omega) (by simp only [maxLen]; omega) rfl ?_; clear hs w a; intro v228 a w hs
    refine st_as hs rfl rfl ?_; clear hs w a; intro a w hs
    refine wpList_nil ?_
    refine then_n (hK220 _ _ ?_)
    refine wp_region_lit ?_
    refine st_mv hs rfl rfl ?_; clear hs w a; intro a w hs
    refine st_mul_u8 (X := upBitv 1) (Y := 2#8) hs rfl rfl rfl (by decide) rfl ?_; clear hs w a; intro a w hs
    refine st_as hs rfl rfl ?_; clear hs w a; intro a w hs
    refine wpList_nil ?_
    refine in_n ?_
    refine then_n (hK218 _ _ ?_)
    refine wp_region_lit ?_
    refine st_run 3 [(14, .int .i64 (2)), (76, .int .i64 (2)), (75, .int .i64 (1))] hs .n (by kernel_rfl) (by kernel_rfl) (by kernel_rfl) ?_; clear hs a; intro a hs
    refine wpList_nil ?_
    refine then_n ?_
    replace hs := hs.rerow .z (m' := (upRest r 2).length) (xs' := bytesV (upRest r 2)) (by first | rw [upRest_z hz_] | (rw [upRest_n hn_]; simp only [List.length_append, RecR.num])) (by first | rw [upRest_z hz_] | (rw [upRest_n hn_]; simp [bytesV_append, RecR.num]))
    rw [show ((upMask r 1) + (upBitv 1)) = upMask r 2 from by first | (rw [upMask_z hz_]) | (rw [upMask_n hn_]; exact upMask_addv r 1 (by omega))] at hs
    rw [show ((upBitv 1) * (2#8)) = upBitv 2 from upBitv_next 1] at hs
    replace hs := hs.drop (.c (.s .z) .n)
    exact ⟨v228, hs.sub (.c rfl (.c rfl (.c rfl (.c rfl (.c rfl (.c rfl (.c rfl (.c rfl .n))))))))⟩
   replace hc223 := not_f hc223
   replace hc223 := eq_of_beq hc223
   have hz_ : r.num 1 = 0 := by show r.p1 = 0; assumption
   refine wp_skip ?_
   refine then_n (hK220 _ _ ?_)
   refine wp_region_lit ?_
   refine st_mv hs rfl rfl ?_; clear hs w a; intro a w hs
   refine st_mul_u8 (X := upBitv 1) (Y := 2#8) hs rfl rfl rfl (by decide) rfl ?_; clear hs w a; intro a w hs
   refine st_as hs rfl rfl ?_; clear hs w a; intro a w hs
   refine wpList_nil ?_
   refine in_n ?_
   refine then_n (hK218 _ _ ?_)
   refine wp_region_lit ?_
   refine st_run 3 [(14, .int .i64 (2)), (76, .int .i64 (2)), (75, .int .i64 (1))] hs .n (by kernel_rfl) (by kernel_rfl) (by kernel_rfl) ?_; clear hs a; intro a hs
   refine wpList_nil ?_
   refine then_n ?_
   replace hs := hs.rerow .z (m' := (upRest r 2).length) (xs' := bytesV (upRest r 2)) (by first | rw [upRest_z hz_] | (rw [upRest_n hn_]; simp only [List.length_append, RecR.num])) (by first | rw [upRest_z hz_] | (rw [upRest_n hn_]; simp [bytesV_append, RecR.num]))
   rw [show (upMask r 1) = upMask r 2 from by first | (rw [upMask_z hz_]) | (rw [upMask_n hn_]; exact upMask_addv r 1 (by omega))] at hs
   rw [show ((upBitv 1) * (2#8)) = upBitv 2 from upBitv_next 1] at hs
   exact ⟨q, hs.sub (.c rfl (.c rfl (.c rfl (.c rfl (.c rfl (.c rfl (.c rfl (.c rfl .n))))))))⟩
  clear hs w a; rintro a w ⟨q, hs⟩
  have hlu1 := length_upRest r 2
  refine then_n ?_
  refine rounds_in ?_
  refine wp_cut (fun a w => ∃ q : Value, St 106 [(2, .pointer (some ⟨g3, 0, none⟩)), (7, v37), (8, .pointer (some ⟨g40, 0, none⟩)), (9, v43), (11, .int .u8 ((((upMask r 3).toNat : Nat) : Int))), (12, .int .u8 ((((upBitv 3).toNat : Nat) : Int))), (13, q), (14, .int .i64 (3))] w0 [] [row q 5 1 ((upRest r 3).length) (bytesV (upRest r 3)), row v43 5 1 ((vput r.a.toNat).length) (bytesV (vput r.a.toNat)), blk g40 [.int .i64 (r.p0), .int .i64 (r.p1), .int .i64 (r.p2), .int .i64 (r.v0), .int .i64 (r.v1), .int .i64 (r.v2)] 127, blk g3 [.int .i64 (r.k), .int .i64 (r.id), .int .i64 (r.p0), .int .i64 (r.p1), .int .i64 (r.p2), .int .i64 (r.v0), .int .i64 (r.v1), .int .i64 (r.v2), .int .u16 ((((r.a).toNat : Nat) : Int))] 45, blk g36 [.int .u8 ((((BitVec.ofInt 8 r.k).toNat : Nat) : Int))] 5, row v37 5 1 ((recHead r last).length) (bytesV (recHead r last))] a w) ?_ ?_
  ·
   refine wp_seq_k fun K229 hK230 => ?_
   refine wp_seq_k fun K231 hK232 => ?_
   refine wp_region_lit ?_
   refine st_run 2 [(74, .bool (true)), (73, .int .i64 (2))] hs .n (by kernel_rfl) (by kernel_rfl) (by kernel_rfl) ?_; clear hs a; intro a hs
   refine wpList_nil ?_
   refine then_n (hK232 _ _ ?_)
   refine wp_cond_true (hs.ev rfl) ?_
   refine wp_skip ?_
   refine then_n (hK230 _ _ ?_)
   refine wp_seq_k fun K233 hK234 => ?_
   refine wp_block ?_
   refine wp_seq_k fun K235 hK236 => ?_
   refine wp_seq_k fun K237 hK238 => ?_
   refine wp_region_lit ?_
   refine st_run 4 [(80, .bool (!((r.p2 : Int) == 0))), (79, .int .i64 (r.p2)), (78, .pointer (some ⟨g40, 2, none⟩)), (77, .int .i64 (2))] hs (.c (hs.mem.del (.s (.s .z))) .n) (by kernel_rfl) (by kernel_rfl) (by kernel_rfl) ?_; clear hs a; intro a hs
   refine wpList_nil ?_
   refine then_n (hK238 _ _ ?_)
   refine wp_if hs rfl (fun hc239 => ?_) (fun hc239 => ?_)
   ·
    replace hc239 := not_t hc239
    replace hc239 := ne_of_beq_f hc239
    have hn_ : r.num 2 ≠ 0 := by show r.p2 ≠ 0; assumption
    refine wp_seq_k fun K240 hK241 => ?_
    refine wp_region_lit ?_
    refine st_run 2 [(82, .int .u8 ((((upBitv 2).toNat : Nat) : Int))), (81, .int .u8 ((((upMask r 2).toNat : Nat) : Int)))] hs .n (by kernel_rfl) (by kernel_rfl) (by kernel_rfl) ?_; clear hs a; intro a hs
    refine st_add_u8 (X := upMask r 2) (Y := upBitv 2) hs rfl rfl rfl rfl rfl ?_; clear hs w a; intro a w hs
    refine st_as hs rfl rfl ?_; clear hs w a; intro a w hs
    refine wpList_nil ?_
    refine then_n (hK241 _ _ ?_)
    refine wp_region_lit ?_
    refine st_run 4 [(87, .int .i64 (r.p2)), (86, .pointer (some ⟨g40, 2, none⟩)), (85, .int .i64 (2)), (84, q)] hs (.c (hs.mem.del (.s (.s .z))) .n) (by kernel_rfl) (by kernel_rfl) (by kernel_rfl) ?_; clear hs a; intro a hs
    refine st_call hs (.c rfl .n) Try.call74 .n (rputn_ok r.p2 _ (by omega)) rfl ?_; clear hs w a; rintro v242 _ a w rfl hs; simp only [List.cons_append, List.nil_append] at hs
    have hk243 := length_numB r.p2
    refine st_app (size := 1) (bytes := 1) hs rfl rfl (.s .z) (rd_row (hs.mem.del .z)) (oneCell_bytesV _) Try.underlying79 (i := Try.t5) rfl rfl rfl rfl rfl (by decide) (by omega) (by simp only [maxLen]; omega) rfl ?_; clear hs w a; intro v244 a w hs
    refine st_as hs rfl rfl ?_; clear hs w a; intro a w hs
    refine wpList_nil ?_
    refine then_n (hK236 _ _ ?_)
    refine wp_region_lit ?_
    refine st_mv hs rfl rfl ?_; clear hs w a; intro a w hs
    refine st_mul_u8 (X := upBitv 2) (Y := 2#8) hs rfl rfl rfl (by decide) rfl ?_; clear hs w a; intro a w hs
    refine st_as hs rfl rfl ?_; clear hs w a; intro a w hs
    refine wpList_nil ?_
    refine in_n ?_
    refine then_n (hK234 _ _ ?_)
    refine wp_region_lit ?_
    refine st_run 3 [(14, .int .i64 (3)), (76, .int .i64 (3)), (75, .int .i64 (2))] hs .n (by kernel_rfl) (by kernel_rfl) (by kernel_rfl) ?_; clear hs a; intro a hs
    refine wpList_nil ?_
    refine then_n ?_
    replace hs := hs.rerow .z (m' := (upRest r 3).length) (xs' := bytesV (upRest r 3)) (by first | rw [upRest_z hz_] | (rw [upRest_n hn_]; simp only [List.length_append, RecR.num])) (by first | rw [upRest_z hz_] | (rw [upRest_n hn_]; simp [bytesV_append, RecR.num]))
    rw [show ((upMask r 2) + (upBitv 2)) = upMask r 3 from by first | (rw [upMask_z hz_]) | (rw [upMask_n hn_]; exact upMask_addv r 2 (by omega))] at hs
    rw [show ((upBitv 2) * (2#8)) = upBitv 3 from upBitv_next 2] at hs
    replace hs := hs.drop (.c (.s .z) .n)
    exact ⟨v244, hs.sub (.c rfl (.c rfl (.c rfl (.c rfl (.c rfl (.c rfl (.c rfl (.c rfl .n))))))))⟩
   replace hc239 := not_f hc239
   replace hc239 := eq_of_beq hc239
   have hz_ : r.num 2 = 0 := by show r.p2 = 0; assumption
   refine wp_skip ?_
   refine then_n (hK236 _ _ ?_)
   refine wp_region_lit ?_
   refine st_mv hs rfl rfl ?_; clear hs w a; intro a w hs
   refine st_mul_u8 (X := upBitv 2) (Y := 2#8) hs rfl rfl rfl (by decide) rfl ?_; clear hs w a; intro a w hs
   refine st_as hs rfl rfl ?_; clear hs w a; intro a w hs
   refine wpList_nil ?_
   refine in_n ?_
   refine then_n (hK234 _ _ ?_)
   refine wp_region_lit ?_
   refine st_run 3 [(14, .int .i64 (3)), (76, .int .i64 (3)), (75, .int .i64 (2))] hs .n (by kernel_rfl) (by kernel_rfl) (by kernel_rfl) ?_; clear hs a; intro a hs
   refine wpList_nil ?_
   refine then_n ?_
   replace hs := hs.rerow .z (m' := (upRest r 3).length) (xs' := bytesV (upRest r 3)) (by first | rw [upRest_z hz_] | (rw [upRest_n hn_]; simp only [List.length_append, RecR.num])) (by first | rw [upRest_z hz_] | (rw [upRest_n hn_]; simp [bytesV_append, RecR.num]))
   rw [show (upMask r 2) = upMask r 3 from by first | (rw [upMask_z hz_]) | (rw [upMask_n hn_]; exact upMask_addv r 2 (by omega))] at hs
   rw [show ((upBitv 2) * (2#8)) = upBitv 3 from upBitv_next 2] at hs
   exact ⟨q, hs.sub (.c rfl (.c rfl (.c rfl (.c rfl (.c rfl (.c rfl (.c rfl (.c rfl .n))))))))⟩
  clear hs w a; rintro a w ⟨q, hs⟩
  have hlu2 := length_upRest r 3
  refine then_n ?_
  refine rounds_in ?_
  refine wp_cut (fun a w => ∃ q : Value, St 106 [(2, .pointer (some ⟨g3, 0, none⟩)), (7, v37), (8, .pointer (some ⟨g40, 0, none⟩)), (9, v43), (11, .int .u8 ((((upMask r 4).toNat : Nat) : Int))), (12, .int .u8 ((((upBitv 4).toNat : Nat) : Int))), (13, q), (14, .int .i64 (4))] w0 [] [row q 5 1 ((upRest r 4).length) (bytesV (upRest r 4)), row v43 5 1 ((vput r.a.toNat).length) (bytesV (vput r.a.toNat)), blk g40 [.int .i64 (r.p0), .int .i64 (r.p1), .int .i64 (r.p2), .int .i64 (r.v0), .int .i64 (r.v1), .int .i64 (r.v2)] 127, blk g3 [.int .i64 (r.k), .int .i64 (r.id), .int .i64 (r.p0), .int .i64 (r.p1), .int .i64 (r.p2), .int .i64 (r.v0), .int .i64 (r.v1), .int .i64 (r.v2), .int .u16 ((((r.a).toNat : Nat) : Int))] 45, blk g36 [.int .u8 ((((BitVec.ofInt 8 r.k).toNat : Nat) : Int))] 5, row v37 5 1 ((recHead r last).length) (bytesV (recHead r last))] a w) ?_ ?_
  ·
   refine wp_seq_k fun K245 hK246 => ?_
   refine wp_seq_k fun K247 hK248 => ?_
   refine wp_region_lit ?_
   refine st_run 2 [(74, .bool (true)), (73, .int .i64 (3))] hs .n (by kernel_rfl) (by kernel_rfl) (by kernel_rfl) ?_; clear hs a; intro a hs
   refine wpList_nil ?_
   refine then_n (hK248 _ _ ?_)
   refine wp_cond_true (hs.ev rfl) ?_
   refine wp_skip ?_
   refine then_n (hK246 _ _ ?_)
   refine wp_seq_k fun K249 hK250 => ?_
   refine wp_block ?_
   refine wp_seq_k fun K251 hK252 => ?_
   refine wp_seq_k fun K253 hK254 => ?_
   refine wp_region_lit ?_
   refine st_run 4 [(80, .bool (!((r.v0 : Int) == 0))), (79, .int .i64 (r.v0)), (78, .pointer (some ⟨g40, 3, none⟩)), (77, .int .i64 (3))] hs (.c (hs.mem.del (.s (.s .z))) .n) (by kernel_rfl) (by kernel_rfl) (by kernel_rfl) ?_; clear hs a; intro a hs
   refine wpList_nil ?_
   refine then_n (hK254 _ _ ?_)
   refine wp_if hs rfl (fun hc255 => ?_) (fun hc255 => ?_)
   ·
    replace hc255 := not_t hc255
    replace hc255 := ne_of_beq_f hc255
    have hn_ : r.num 3 ≠ 0 := by show r.v0 ≠ 0; assumption
    refine wp_seq_k fun K256 hK257 => ?_
    refine wp_region_lit ?_
    refine st_run 2 [(82, .int .u8 ((((upBitv 3).toNat : Nat) : Int))), (81, .int .u8 ((((upMask r 3).toNat : Nat) : Int)))] hs .n (by kernel_rfl) (by kernel_rfl) (by kernel_rfl) ?_; clear hs a; intro a hs
    refine st_add_u8 (X := upMask r 3) (Y := upBitv 3) hs rfl rfl rfl rfl rfl ?_; clear hs w a; intro a w hs
    refine st_as hs rfl rfl ?_; clear hs w a; intro a w hs
    refine wpList_nil ?_
    refine then_n (hK257 _ _ ?_)
    refine wp_region_lit ?_
    refine st_run 4 [(87, .int .i64 (r.v0)), (86, .pointer (some ⟨g40, 3, none⟩)), (85, .int .i64 (3)), (84, q)] hs (.c (hs.mem.del (.s (.s .z))) .n) (by kernel_rfl) (by kernel_rfl) (by kernel_rfl) ?_; clear hs a; intro a hs
    refine st_call hs (.c rfl .n) Try.call74 .n (rputn_ok r.v0 _ (by omega)) rfl ?_; clear hs w a; rintro v258 _ a w rfl hs; simp only [List.cons_append, List.nil_append] at hs
    have hk259 := length_numB r.v0
    refine st_app (size := 1) (bytes := 1) hs rfl rfl (.s .z) (rd_row (hs.mem.del .z)) (oneCell_bytesV _) Try.underlying79 (i := Try.t5) rfl rfl rfl rfl rfl (by decide) (by omega) (by simp only [maxLen]; omega) rfl ?_; clear hs w a; intro v260 a w hs
    refine st_as hs rfl rfl ?_; clear hs w a; intro a w hs
    refine wpList_nil ?_
    refine then_n (hK252 _ _ ?_)
    refine wp_region_lit ?_
    refine st_mv hs rfl rfl ?_; clear hs w a; intro a w hs
    refine st_mul_u8 (X := upBitv 3) (Y := 2#8) hs rfl rfl rfl (by decide) rfl ?_; clear hs w a; intro a w hs
    refine st_as hs rfl rfl ?_; clear hs w a; intro a w hs
    refine wpList_nil ?_
    refine in_n ?_
    refine then_n (hK250 _ _ ?_)
    refine wp_region_lit ?_
    refine st_run 3 [(14, .int .i64 (4)), (76, .int .i64 (4)), (75, .int .i64 (3))] hs .n (by kernel_rfl) (by kernel_rfl) (by kernel_rfl) ?_; clear hs a; intro a hs
    refine wpList_nil ?_
    refine then_n ?_
    replace hs := hs.rerow .z (m' := (upRest r 4).length) (xs' := bytesV (upRest r 4)) (by first | rw [upRest_z hz_] | (rw [upRest_n hn_]; simp only [List.length_append, RecR.num])) (by first | rw [upRest_z hz_] | (rw [upRest_n hn_]; simp [bytesV_append, RecR.num]))
    rw [show ((upMask r 3) + (upBitv 3)) = upMask r 4 from by first | (rw [upMask_z hz_]) | (rw [upMask_n hn_]; exact upMask_addv r 3 (by omega))] at hs
    rw [show ((upBitv 3) * (2#8)) = upBitv 4 from upBitv_next 3] at hs
    replace hs := hs.drop (.c (.s .z) .n)
    exact ⟨v260, hs.sub (.c rfl (.c rfl (.c rfl (.c rfl (.c rfl (.c rfl (.c rfl (.c rfl .n))))))))⟩
   replace hc255 := not_f hc255
   replace hc255 := eq_of_beq hc255
   have hz_ : r.num 3 = 0 := by show r.v0 = 0; assumption
   refine wp_skip ?_
   refine then_n (hK252 _ _ ?_)
   refine wp_region_lit ?_
   refine st_mv hs rfl rfl ?_; clear hs w a; intro a w hs
   refine st_mul_u8 (X := upBitv 3) (Y := 2#8) hs rfl rfl rfl (by decide) rfl ?_; clear hs w a; intro a w hs
   refine st_as hs rfl rfl ?_; clear hs w a; intro a w hs
   refine wpList_nil ?_
   refine in_n ?_
   refine then_n (hK250 _ _ ?_)
   refine wp_region_lit ?_
   refine st_run 3 [(14, .int .i64 (4)), (76, .int .i64 (4)), (75, .int .i64 (3))] hs .n (by kernel_rfl) (by kernel_rfl) (by kernel_rfl) ?_; clear hs a; intro a hs
   refine wpList_nil ?_
   refine then_n ?_
   replace hs := hs.rerow .z (m' := (upRest r 4).length) (xs' := bytesV (upRest r 4)) (by first | rw [upRest_z hz_] | (rw [upRest_n hn_]; simp only [List.length_append, RecR.num])) (by first | rw [upRest_z hz_] | (rw [upRest_n hn_]; simp [bytesV_append, RecR.num]))
   rw [show (upMask r 3) = upMask r 4 from by first | (rw [upMask_z hz_]) | (rw [upMask_n hn_]; exact upMask_addv r 3 (by omega))] at hs
   rw [show ((upBitv 3) * (2#8)) = upBitv 4 from upBitv_next 3] at hs
   exact ⟨q, hs.sub (.c rfl (.c rfl (.c rfl (.c rfl (.c rfl (.c rfl (.c rfl (.c rfl .n))))))))⟩
  clear hs w a; rintro a w ⟨q, hs⟩
  have hlu3 := length_upRest r 4
  refine then_n ?_
  refine rounds_in ?_
  refine wp_cut (fun a w => ∃ q : Value, St 106 [(2, .pointer (some ⟨g3, 0, none⟩)), (7, v37), (8, .pointer (some ⟨g40, 0, none⟩)), (9, v43), (11, .int .u8 ((((upMask r 5).toNat : Nat) : Int))), (12, .int .u8 ((((upBitv 5).toNat : Nat) : Int))), (13, q), (14, .int .i64 (5))] w0 [] [row q 5 1 ((upRest r 5).length) (bytesV (upRest r 5)), row v43 5 1 ((vput r.a.toNat).length) (bytesV (vput r.a.toNat)), blk g40 [.int .i64 (r.p0), .int .i64 (r.p1), .int .i64 (r.p2), .int .i64 (r.v0), .int .i64 (r.v1), .int .i64 (r.v2)] 127, blk g3 [.int .i64 (r.k), .int .i64 (r.id), .int .i64 (r.p0), .int .i64 (r.p1), .int .i64 (r.p2), .int .i64 (r.v0), .int .i64 (r.v1), .int .i64 (r.v2), .int .u16 ((((r.a).toNat : Nat) : Int))] 45, blk g36 [.int .u8 ((((BitVec.ofInt 8 r.k).toNat : Nat) : Int))] 5, row v37 5 1 ((recHead r last).length) (bytesV (recHead r last))] a w) ?_ ?_
  ·
   refine wp_seq_k fun K261 hK262 => ?_
   refine wp_seq_k fun K263 hK264 => ?_
   refine wp_region_lit ?_
   refine st_run 2 [(74, .bool (true)), (73, .int .i64 (4))] hs .n (by kernel_rfl) (by kernel_rfl) (by kernel_rfl) ?_; clear hs a; intro a hs
   refine wpList_nil ?_
   refine then_n (hK264 _ _ ?_)
   refine wp_cond_true (hs.ev rfl) ?_
   refine wp_skip ?_
   refine then_n (hK262 _ _ ?_)
   refine wp_seq_k fun K265 hK266 => ?_
   refine wp_block ?_
   refine wp_seq_k fun K267 hK268 => ?_
   refine wp_seq_k fun K269 hK270 => ?_
   refine wp_region_lit ?_
   refine st_run 4 [(80, .bool (!((r.v1 : Int) == 0))), (79, .int .i64 (r.v1)), (78, .pointer (some ⟨g40, 4, none⟩)), (77, .int .i64 (4))] hs (.c (hs.mem.del (.s (.s .z))) .n) (by kernel_rfl) (by kernel_rfl) (by kernel_rfl) ?_; clear hs a; intro a hs
   refine wpList_nil ?_
   refine then_n (hK270 _ _ ?_)
   refine wp_if hs rfl (fun hc271 => ?_) (fun hc271 => ?_)
   ·
    replace hc271 := not_t hc271
    replace hc271 := ne_of_beq_f hc271
    have hn_ : r.num 4 ≠ 0 := by show r.v1 ≠ 0; assumption
    refine wp_seq_k fun K272 hK273 => ?_
    refine wp_region_lit ?_
    refine st_run 2 [(82, .int .u8 ((((upBitv 4).toNat : Nat) : Int))), (81, .int .u8 ((((upMask r 4).toNat : Nat) : Int)))] hs .n (by kernel_rfl) (by kernel_rfl) (by kernel_rfl) ?_; clear hs a; intro a hs
    refine st_add_u8 (X := upMask r 4) (Y := upBitv 4) hs rfl rfl rfl rfl rfl ?_; clear hs w a; intro a w hs
    refine st_as hs rfl rfl ?_; clear hs w a; intro a w hs
    refine wpList_nil ?_
    refine then_n (hK273 _ _ ?_)
    refine wp_region_lit ?_
    refine st_run 4 [(87, .int .i64 (r.v1)), (86, .pointer (some ⟨g40, 4, none⟩)), (85, .int .i64 (4)), (84, q)] hs (.c (hs.mem.del (.s (.s .z))) .n) (by kernel_rfl) (by kernel_rfl) (by kernel_rfl) ?_; clear hs a; intro a hs
    refine st_call hs (.c rfl .n) Try.call74 .n (rputn_ok r.v1 _ (by omega)) rfl ?_; clear hs w a; rintro v274 _ a w rfl hs; simp only [List.cons_append, List.nil_append] at hs
    have hk275 := length_numB r.v1
    refine st_app (size := 1) (bytes := 1) hs rfl rfl (.s .z) (rd_row (hs.mem.del .z)) (oneCell_bytesV _) Try.underlying79 (i := Try.t5) rfl rfl rfl rfl rfl (by decide) (by omega) (by simp only [maxLen]; omega) rfl ?_; clear hs w a; intro v276 a w hs
    refine st_as hs rfl rfl ?_; clear hs w a; intro a w hs
    refine wpList_nil ?_
    refine then_n (hK268 _ _ ?_)
    refine wp_region_lit ?_
    refine st_mv hs rfl rfl ?_; clear hs w a; intro a w hs
    refine st_mul_u8 (X := upBitv 4) (Y := 2#8) hs rfl rfl rfl (by decide) rfl ?_; clear hs w a; intro a w hs
    refine st_as hs rfl rfl ?_; clear hs w a; intro a w hs
    refine wpList_nil ?_
    refine in_n ?_
    refine then_n (hK266 _ _ ?_)
    refine wp_region_lit ?_
    refine st_run 3 [(14, .int .i64 (5)), (76, .int .i64 (5)), (75, .int .i64 (4))] hs .n (by kernel_rfl) (by kernel_rfl) (by kernel_rfl) ?_; clear hs a; intro a hs
    refine wpList_nil ?_
    refine then_n ?_
    replace hs := hs.rerow .z (m' := (upRest r 5).length) (xs' := bytesV (upRest r 5)) (by first | rw [upRest_z hz_] | (rw [upRest_n hn_]; simp only [List.length_append, RecR.num])) (by first | rw [upRest_z hz_] | (rw [upRest_n hn_]; simp [bytesV_append, RecR.num]))
    rw [show ((upMask r 4) + (upBitv 4)) = upMask r 5 from by first | (rw [upMask_z hz_]) | (rw [upMask_n hn_]; exact upMask_addv r 4 (by omega))] at hs
    rw [show ((upBitv 4) * (2#8)) = upBitv 5 from upBitv_next 4] at hs
    replace hs := hs.drop (.c (.s .z) .n)
    exact ⟨v276, hs.sub (.c rfl (.c rfl (.c rfl (.c rfl (.c rfl (.c rfl (.c rfl (.c rfl .n))))))))⟩
   replace hc271 := not_f hc271
   replace hc271 := eq_of_beq hc271
   have hz_ : r.num 4 = 0 := by show r.v1 = 0; assumption
   refine wp_skip ?_
   refine then_n (hK268 _ _ ?_)
   refine wp_region_lit ?_
   refine st_mv hs rfl rfl ?_; clear hs w a; intro a w hs
   refine st_mul_u8 (X := upBitv 4) (Y := 2#8) hs rfl rfl rfl (by decide) rfl ?_; clear hs w a; intro a w hs
   refine st_as hs rfl rfl ?_; clear hs w a; intro a w hs
   refine wpList_nil ?_
   refine in_n ?_
   refine then_n (hK266 _ _ ?_)
   refine wp_region_lit ?_
   refine st_run 3 [(14, .int .i64 (5)), (76, .int .i64 (5)), (75, .int .i64 (4))] hs .n (by kernel_rfl) (by kernel_rfl) (by kernel_rfl) ?_; clear hs a; intro a hs
   refine wpList_nil ?_
   refine then_n ?_
   replace hs := hs.rerow .z (m' := (upRest r 5).length) (xs' := bytesV (upRest r 5)) (by first | rw [upRest_z hz_] | (rw [upRest_n hn_]; simp only [List.length_append, RecR.num])) (by first | rw [upRest_z hz_] | (rw [upRest_n hn_]; simp [bytesV_append, RecR.num]))
   rw [show (upMask r 4) = upMask r 5 from by first | (rw [upMask_z hz_]) | (rw [upMask_n hn_]; exact upMask_addv r 4 (by omega))] at hs
   rw [show ((upBitv 4) * (2#8)) = upBitv 5 from upBitv_next 4] at hs
   exact ⟨q, hs.sub (.c rfl (.c rfl (.c rfl (.c rfl (.c rfl (.c rfl (.c rfl (.c rfl .n))))))))⟩
  clear hs w a; rintro a w ⟨q, hs⟩
  have hlu4 := length_upRest r 5
  refine then_n ?_
  refine rounds_in ?_
  refine wp_cut (fun a w => ∃ q : Value, St 106 [(2, .pointer (some ⟨g3, 0, none⟩)), (7, v37), (8, .pointer (some ⟨g40, 0, none⟩)), (9, v43), (11, .int .u8 ((((upMask r 6).toNat : Nat) : Int))), (12, .int .u8 ((((upBitv 6).toNat : Nat) : Int))), (13, q), (14, .int .i64 (6))] w0 [] [row q 5 1 ((upRest r 6).length) (bytesV (upRest r 6)), row v43 5 1 ((vput r.a.toNat).length) (bytesV (vput r.a.toNat)), blk g40 [.int .i64 (r.p0), .int .i64 (r.p1), .int .i64 (r.p2), .int .i64 (r.v0), .int .i64 (r.v1), .int .i64 (r.v2)] 127, blk g3 [.int .i64 (r.k), .int .i64 (r.id), .int .i64 (r.p0), .int .i64 (r.p1), .int .i64 (r.p2), .int .i64 (r.v0), .int .i64 (r.v1), .int .i64 (r.v2), .int .u16 ((((r.a).toNat : Nat) : Int))] 45, blk g36 [.int .u8 ((((BitVec.ofInt 8 r.k).toNat : Nat) : Int))] 5, row v37 5 1 ((recHead r last).length) (bytesV (recHead r last))] a w) ?_ ?_
  ·
   refine wp_seq_k fun K277 hK278 => ?_
   refine wp_seq_k fun K279 hK280 => ?_
   refine wp_region_lit ?_
   refine st_run 2 [(74, .bool (true)), (73, .int .i64 (5))] hs .n (by kernel_rfl) (by kernel_rfl) (by kernel_rfl) ?_; clear hs a; intro a hs
   refine wpList_nil ?_
   refine then_n (hK280 _ _ ?_)
   refine wp_cond_true (hs.ev rfl) ?_
   refine wp_skip ?_
   refine then_n (hK278 _ _ ?_)
   refine wp_seq_k fun K281 hK282 => ?_
   refine wp_block ?_
   refine wp_seq_k fun K283 hK284 => ?_
   refine wp_seq_k fun K285 hK286 => ?_
   refine wp_region_lit ?_
   refine st_run 4 [(80, .bool (!((r.v2 : Int) == 0))), (79, .int .i64 (r.v2)), (78, .pointer (some ⟨g40, 5, none⟩)), (77, .int .i64 (5))] hs (.c (hs.mem.del (.s (.s .z))) .n) (by kernel_rfl) (by kernel_rfl) (by kernel_rfl) ?_; clear hs a; intro a hs
   refine wpList_nil ?_
   refine then_n (hK286 _ _ ?_)
   refine wp_if hs rfl (fun hc287 => ?_) (fun hc287 => ?_)
   ·
    replace hc287 := not_t hc287
    replace hc287 := ne_of_beq_f hc287
    have hn_ : r.num 5 ≠ 0 := by show r.v2 ≠ 0; assumption
    refine wp_seq_k fun K288 hK289 => ?_
    refine wp_region_lit ?_
    refine st_run 2 [(82, .int .u8 ((((upBitv 5).toNat : Nat) : Int))), (81, .int .u8 ((((upMask r 5).toNat : Nat) : Int)))] hs .n (by kernel_rfl) (by kernel_rfl) (by kernel_rfl) ?_; clear hs a; intro a hs
    refine st_add_u8 (X := upMask r 5) (Y := upBitv 5) hs rfl rfl rfl rfl rfl ?_; clear hs w a; intro a w hs
    refine st_as hs rfl rfl ?_; clear hs w a; intro a w hs
    refine wpList_nil ?_
    refine then_n (hK289 _ _ ?_)
    refine wp_region_lit ?_
    refine st_run 4 [(87, .int .i64 (r.v2)), (86, .pointer (some ⟨g40, 5, none⟩)), (85, .int .i64 (5)), (84, q)] hs (.c (hs.mem.del (.s (.s .z))) .n) (by kernel_rfl) (by kernel_rfl) (by kernel_rfl) ?_; clear hs a; intro a hs
    refine st_call hs (.c rfl .n) Try.call74 .n (rputn_ok r.v2 _ (by omega)) rfl ?_; clear hs w a; rintro v290 _ a w rfl hs; simp only [List.cons_append, List.nil_append] at hs
    have hk291 := length_numB r.v2
    refine st_app (size := 1) (bytes := 1) hs rfl rfl (.s .z) (rd_row (hs.mem.del .z)) (oneCell_bytesV _) Try.underlying79 (i := Try.t5) rfl rfl rfl rfl rfl (by decide) (by omega) (by simp only [maxLen]; omega) rfl ?_; clear hs w a; intro v292 a w hs
    refine st_as hs rfl rfl ?_; clear hs w a; intro a w hs
    refine wpList_nil ?_
    refine then_n (hK284 _ _ ?_)
    refine wp_region_lit ?_
    refine st_mv hs rfl rfl ?_; clear hs w a; intro a w hs
    refine st_mul_u8 (X := upBitv 5) (Y := 2#8) hs rfl rfl rfl (by decide) rfl ?_; clear hs w a; intro a w hs
    refine st_as hs rfl rfl ?_; clear hs w a; intro a w hs
    refine wpList_nil ?_
    refine in_n ?_
    refine then_n (hK282 _ _ ?_)
    refine wp_region_lit ?_
    refine st_run 3 [(14, .int .i64 (6)), (76, .int .i64 (6)), (75, .int .i64 (5))] hs .n (by kernel_rfl) (by kernel_rfl) (by kernel_rfl) ?_; clear hs a; intro a hs
    refine wpList_nil ?_
    refine then_n ?_
    replace hs := hs.rerow .z (m' := (upRest r 6).length) (xs' := bytesV (upRest r 6)) (by first | rw [upRest_z hz_] | (rw [upRest_n hn_]; simp only [List.length_append, RecR.num])) (by first | rw [upRest_z hz_] | (rw [upRest_n hn_]; simp [bytesV_append, RecR.num]))
    rw [show ((upMask r 5) + (upBitv 5)) = upMask r 6 from by first | (rw [upMask_z hz_]) | (rw [upMask_n hn_]; exact upMask_addv r 5 (by omega))] at hs
    rw [show ((upBitv 5) * (2#8)) = upBitv 6 from upBitv_next 5] at hs
    replace hs := hs.drop (.c (.s .z) .n)
    exact ⟨v292, hs.sub (.c rfl (.c rfl (.c rfl (.c rfl (.c rfl (.c rfl (.c rfl (.c rfl .n))))))))⟩
   replace hc287 := not_f hc287
   replace hc287 := eq_of_beq hc287
   have hz_ : r.num 5 = 0 := by show r.v2 = 0; assumption
   refine wp_skip ?_
   refine then_n (hK284 _ _ ?_)
   refine wp_region_lit ?_
   refine st_mv hs rfl rfl ?_; clear hs w a; intro a w hs
   refine st_mul_u8 (X := upBitv 5) (Y := 2#8) hs rfl rfl rfl (by decide) rfl ?_; clear hs w a; intro a w hs
   refine st_as hs rfl rfl ?_; clear hs w a; intro a w hs
   refine wpList_nil ?_
   refine in_n ?_
   refine then_n (hK282 _ _ ?_)
   refine wp_region_lit ?_
   refine st_run 3 [(14, .int .i64 (6)), (76, .int .i64 (6)), (75, .int .i64 (5))] hs .n (by kernel_rfl) (by kernel_rfl) (by kernel_rfl) ?_; clear hs a; intro a hs
   refine wpList_nil ?_
   refine then_n ?_
   replace hs := hs.rerow .z (m' := (upRest r 6).length) (xs' := bytesV (upRest r 6)) (by first | rw [upRest_z hz_] | (rw [upRest_n hn_]; simp only [List.length_append, RecR.num])) (by first | rw [upRest_z hz_] | (rw [upRest_n hn_]; simp [bytesV_append, RecR.num]))
   rw [show (upMask r 5) = upMask r 6 from by first | (rw [upMask_z hz_]) | (rw [upMask_n hn_]; exact upMask_addv r 5 (by omega))] at hs
   rw [show ((upBitv 5) * (2#8)) = upBitv 6 from upBitv_next 5] at hs
   exact ⟨q, hs.sub (.c rfl (.c rfl (.c rfl (.c rfl (.c rfl (.c rfl (.c rfl (.c rfl .n))))))))⟩
  clear hs w a; rintro a w ⟨q, hs⟩
  have hlu5 := length_upRest r 6
  refine then_n ?_
  refine rounds_in ?_
  refine wp_seq_k fun K293 hK294 => ?_
  refine wp_seq_k fun K295 hK296 => ?_
  refine wp_region_lit ?_
  refine st_run 2 [(74, .bool (false)), (73, .int .i64 (6))] hs .n (by kernel_rfl) (by kernel_rfl) (by kernel_rfl) ?_; clear hs a; intro a hs
  refine wpList_nil ?_
  refine then_n (hK296 _ _ ?_)
  refine wp_cond_false (hs.ev rfl) ?_
  refine wp_exit ?_
  refine th_e ?_
  refine th_e ?_
  refine in_hit ?_
  refine then_n (hK194 _ _ ?_)
  refine wp_seq_k fun K297 hK298 => ?_
  refine wp_seq_k fun K299 hK300 => ?_
  refine wp_region_lit ?_
  refine st_run 3 [(94, .bool (!(((((r.a).toNat : Nat) : Int) : Int) == 0)))] hs (.c (hs.mem.del (.s (.s (.s .z)))) .n) (by kernel_rfl) (by kernel_rfl) (by kernel_rfl) ?_; clear hs a; intro a hs
  refine wpList_nil ?_
  refine then_n (hK300 _ _ ?_)
  refine wp_if hs rfl (fun hc301 => ?_) (fun hc301 => ?_)
  ·
   replace hc301 := not_t hc301
   replace hc301 := ne_of_beq_f hc301
   refine wp_seq_k fun K302 hK303 => ?_
   refine wp_region_lit ?_
   refine st_mv hs rfl rfl ?_; clear hs w a; intro a w hs
   refine st_add_u8 (X := upMask r 6) (Y := 64#8) hs rfl rfl rfl (by decide) rfl ?_; clear hs w a; intro a w hs
   rw [upMask_64] at hs
   refine st_as hs rfl rfl ?_; clear hs w a; intro a w hs
   refine wpList_nil ?_
   refine then_n (hK303 _ _ ?_)
   refine wp_region_lit ?_
   refine st_run 2 [(98, v43), (97, q)] hs .n (by kernel_rfl) (by kernel_rfl) (by kernel_rfl) ?_; clear hs a; intro a hs
   refine st_app (size := 1) (bytes := 1) hs rfl rfl .z (rd_row (hs.mem.del (.s .z))) (oneCell_bytesV _) Try.underlying79 (i := Try.t5) rfl rfl rfl rfl rfl (by decide) (by omega) (by simp only [maxLen]; omega) rfl ?_; clear hs w a; intro v304 a w hs
   replace hs := hs.rerow .z (m' := (upRest r 6).length + (vput r.a.toNat).length) (xs' := bytesV (upRest r 6 ++ vput r.a.toNat)) (rfl) (by rw [bytesV_append])
   refine st_as hs rfl rfl ?_; clear hs w a; intro a w hs
   refine wpList_nil ?_
   refine then_n (hK298 _ _ ?_)
   refine wp_seq_k fun K305 hK306 => ?_
   refine wp_region_lit ?_
   refine st_run 2 [(101, .int .u8 ((((upMask r 6 ||| 64#8).toNat : Nat) : Int))), (100, v37)] hs .n (by kernel_rfl) (by kernel_rfl) (by kernel_rfl) ?_; clear hs a; intro a hs
   refine st_bs (cs := [.int .u8 ((((upMask r 6 ||| 64#8).toNat : Nat) : Int))]) hs (.c .n) (.c rfl .n) Try.underlying79 (ie := Try.t5) rfl rfl rfl rfl (by decide) (by decide) rfl (by decide) rfl rfl rfl ?_; clear hs w a; intro g307 a w hs
   refine st_app (size := 1) (bytes := 1) hs rfl rfl (.s (.s (.s (.s (.s (.s .z)))))) (rd_blk (m := 1) (size := 1) (hs.mem.del .z) rfl (by decide)) (by simp [Value.oneCell']) Try.underlying79 (i := Try.t5) rfl rfl rfl rfl rfl (by decide) (by omega) (by simp only [maxLen]; omega) rfl ?_; clear hs w a; intro v308 a w hs
   replace hs := hs.drop (.c (.s .z) .n)
   refine st_mv hs rfl rfl ?_; clear hs w a; intro a w hs
   refine st_app (size := 1) (bytes := 1) hs rfl rfl .z (rd_row (hs.mem.del (.s .z))) (oneCell_bytesV _) Try.underlying79 (i := Try.t5) rfl rfl rfl rfl rfl (by decide) (by omega) (by simp only [maxLen]; omega) rfl ?_; clear hs w a; intro v309 a w hs
   refine st_run 2 [(5, .int .i64 (0)), (4, v309)] hs .n (by kernel_rfl) (by kernel_rfl) (by kernel_rfl) ?_; clear hs a; intro a hs
   refine wpList_nil ?_
   refine then_n (hK306 _ _ ?_)
   refine wp_ret ?_
   have hre : recErr r last = 0 := by first | exact recErr_chk (by omega) | exact recErr_rng (by omega) (by omega) | exact recErr_ord (by omega) (by omega) (by omega) | exact recErr_ok (by omega) (by omega) (by omega)
   replace hs := hs.drop (.c (.s (.s (.s (.s (.s .z))))) (.c (.s (.s (.s (.s .z)))) (.c (.s (.s (.s .z))) (.c (.s (.s .z)) (.c (.s .z) .n)))))
   replace hs := hs.rerow .z (m' := (recB r last).length) (xs' := bytesV (recB r last)) (by first | ((first | rw [recB_all hre (by omega)] | rw [recB_some hre (by omega)] | rw [recB_none hre (by omega)]) <;> simp only [List.length_append]; done) | ((first | rw [recB_all hre (by omega)] | rw [recB_some hre (by omega), recSome_z (by omega)] | rw [recB_some hre (by omega), recSome_n (by omega)] | rw [recB_none hre (by omega)]) <;> simp only [List.length_append, List.length_cons, List.length_nil, recAll] <;> omega)) (by first | ((first | rw [recB_all hre (by omega)] | rw [recB_some hre (by omega)] | rw [recB_none hre (by omega)]) <;> rfl) | ((first | rw [recB_all hre (by omega)] | rw [recB_some hre (by omega), recSome_z (by omega)] | rw [recB_some hre (by omega), recSome_n (by omega)] | rw [recB_none hre (by omega)]) <;> simp only [recAll, bytesV, List.map_append, List.map_cons, List.map_nil, List.append_assoc, List.cons_append, List.nil_append] <;> rfl))
   exact fin2 hs rfl rfl rfl ⟨_, congrArg (fun z : Nat => Value.tuple #[v309, .int .i64 (z : Int)]) hre.symm, rfl⟩
  replace hc301 := not_f hc301
  replace hc301 := eq_of_beq hc301
  refine wp_skip ?_
  refine then_n (hK298 _ _ ?_)
  refine wp_seq_k fun K310 hK311 => ?_
  refine wp_region_lit ?_
  refine st_run 2 [(101, .int .u8 ((((upMask r 6).toNat : Nat) : Int))), (100, v37)] hs .n (by kernel_rfl) (by kernel_rfl) (by kernel_rfl) ?_; clear hs a; intro a hs
  refine st_bs (cs := [.int .u8 ((((upMask r 6).toNat : Nat) : Int))]) hs (.c .n) (.c rfl .n) Try.underlying79 (ie := Try.t5) rfl rfl rfl rfl (by decide) (by decide) rfl (by decide) rfl rfl rfl ?_; clear hs w a; intro g312 a w hs
  refine st_app (size := 1) (bytes := 1) hs rfl rfl (.s (.s (.s (.s (.s (.s .z)))))) (rd_blk (m := 1) (size := 1) (hs.mem.del .z) rfl (by decide)) (by simp [Value.oneCell']) Try.underlying79 (i := Try.t5) rfl rfl rfl rfl rfl (by decide) (by omega) (by simp only [maxLen]; omega) rfl ?_; clear hs w a; intro v313 a w hs
  replace hs := hs.drop (.c (.s .z) .n)
  refine st_mv hs rfl rfl ?_; clear hs w a; intro a w hs
  refine st_app (size := 1) (bytes := 1) hs rfl rfl .z (rd_row (hs.mem.del (.s .z))) (oneCell_bytesV _) Try.underlying79 (i := Try.t5) rfl rfl rfl rfl rfl (by decide) (by omega) (by simp only [maxLen]; omega) rfl ?_; clear hs w a; intro v314 a w hs
  refine st_run 2 [(5, .int .i64 (0)), (4, v314)] hs .n (by kernel_rfl) (by kernel_rfl) (by kernel_rfl) ?_; clear hs a; intro a hs
  refine wpList_nil ?_
  refine then_n (hK311 _ _ ?_)
  refine wp_ret ?_
  have hre : recErr r last = 0 := by first | exact recErr_chk (by omega) | exact recErr_rng (by omega) (by omega) | exact recErr_ord (by omega) (by omega) (by omega) | exact recErr_ok (by omega) (by omega) (by omega)
  replace hs := hs.drop (.c (.s (.s (.s (.s (.s .z))))) (.c (.s (.s (.s (.s .z)))) (.c (.s (.s (.s .z))) (.c (.s (.s .z)) (.c (.s .z) .n)))))
  replace hs := hs.rerow .z (m' := (recB r last).length) (xs' := bytesV (recB r last)) (by first | ((first | rw [recB_all hre (by omega)] | rw [recB_some hre (by omega)] | rw [recB_none hre (by omega)]) <;> simp only [List.length_append]; done) | ((first | rw [recB_all hre (by omega)] | rw [recB_some hre (by omega), recSome_z (by omega)] | rw [recB_some hre (by omega), recSome_n (by omega)] | rw [recB_none hre (by omega)]) <;> simp only [List.length_append, List.length_cons, List.length_nil, recAll] <;> omega)) (by first | ((first | rw [recB_all hre (by omega)] | rw [recB_some hre (by omega)] | rw [recB_none hre (by omega)]) <;> rfl) | ((first | rw [recB_all hre (by omega)] | rw [recB_some hre (by omega), recSome_z (by omega)] | rw [recB_some hre (by omega), recSome_n (by omega)] | rw [recB_none hre (by omega)]) <;> simp only [recAll, bytesV, List.map_append, List.map_cons, List.map_nil, List.append_assoc, List.cons_append, List.nil_append] <;> rfl))
  exact fin2 hs rfl rfl rfl ⟨_, congrArg (fun z : Nat => Value.tuple #[v314, .int .i64 (z : Int)]) hre.symm, rfl⟩
end Go.Proofs.Ytbioemaipghagaa
