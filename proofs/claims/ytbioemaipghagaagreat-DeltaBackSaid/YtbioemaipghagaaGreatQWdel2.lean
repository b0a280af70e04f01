/- Walks of telling: what each function does, over the program of this seat. Printed by a program of this session. -/
import Derived.Test.YtbioemaipghagaaGreatQWdel
namespace Go.Proofs.YtbioemaipghagaaGreat
open Go Go.Sx Go.RowKit
set_option linter.unusedVariables false
set_option linter.unusedSimpArgs false
set_option maxRecDepth 4000
set_option maxHeartbeats 1000000

theorem tell_ok (g : Nat) (m : List EntR) (u : Value) (l : List EntR) (w0 : World) (hg : (mpr g (ekv m)).p w0) (hc : Rd w0 (feet [mpr g (ekv m)]) u 9 l.length (l.flatMap entV)) (ht : Two m l) (hm : m.length ≤ 100000) (hl : l.length ≤ 100000) : Calls Tryz.prog 34 #[.map (some g), u] w0 (Ret w0 (feet [mpr g (ekv m)]) fun x N => ∃ v, x = .tuple #[v, .int .i64 ((mE m l : Nat) : Int)] ∧ N = [row v 78 9 (mL m l).length ((mL m l).flatMap recV)]) := by
  have hce := hc.le
  simp only [maxLen] at hce
  refine enter (F0 := [(0, .map (some g)), (1, u)]) Tryz.func34 rfl rfl rfl (.c (.c .n)) (mem_one hg (by simp [mpr])) fun a w hs => ?_
  refine wp_seq_k fun K1 hK2 => ?_
  refine wp_region_lit ?_
  refine st_run 2 [(5, .int .i64 (0)), (4, .slice none 0 0)] hs .n (by kernel_rfl) (by kernel_rfl) (by kernel_rfl) ?_; clear hs a; intro a hs
  refine wpList_nil ?_
  refine then_n (hK2 _ _ ?_)
  refine wp_seq_k fun K3 hK4 => ?_
  refine wp_region_lit ?_
  refine st_as hs rfl rfl ?_; clear hs w a; intro a w hs
  refine wpList_nil ?_
  refine then_n (hK4 _ _ ?_)
  refine wp_seq_k fun K5 hK6 => ?_
  refine wp_seq_k fun K7 hK8 => ?_
  refine wp_region_lit ?_
  refine st_mv hs rfl rfl ?_; clear hs w a; intro a w hs
  refine st_len hs rfl (hs.rd0 hc).isSl Tryz.underlying22 rfl ?_; clear hs w a; intro a w hs
  refine st_mv hs rfl rfl ?_; clear hs w a; intro a w hs
  refine wpList_nil ?_
  refine then_n (hK8 _ _ ?_)
  refine wp_block ?_
  replace hs := hs.addNil 78 9
  replace hs := hs.rerow .z (m' := ([] : List RecR).length) (xs' := (([] : List RecR).flatMap recV)) (rfl) (rfl)
  refine wp_loopI (fun mm_ a w => ∃ j : Nat, ∃ p : Value, ∃ out : List RecR, ∃ mm : List EntR, mm_ = l.length - j ∧ St 89 [(0, .map (some g)), (6, p), (15, u), (16, .int .i64 (((l.length : Nat) : Int))), (17, .int .i64 ((j : Int)))] w0 (feet [mpr g (ekv m)]) [row p 78 9 out.length (out.flatMap recV), mpr g (ekv mm)] a w ∧ j ≤ l.length ∧ (tFold m l = (tFold mm (l.drop j)).map (fun s => (out ++ s.1, s.2))) ∧ out.length ≤ j ∧ mm.length ≤ m.length) ⟨0, .slice none 0 0, [], m, rfl, hs.sub (.c rfl (.c rfl (.c rfl (.c rfl (.c rfl .n))))), by omega, tInv0 m l, by simp, Nat.le_refl _⟩ ?_
  clear hs w a; rintro mm_ a w ⟨j, p, out, mm, rfl, hs, hI1_0, hI1_1, hI1_2, hI1_3⟩
  refine wp_seq_k fun K9 hK10 => ?_
  refine wp_region_lit ?_
  refine st_lss hs rfl rfl rfl ?_; clear hs w a; intro a w hs
  refine wpList_nil ?_
  refine then_n (hK10 _ _ ?_)
  refine wp_seq_k fun K11 hK12 => ?_
  refine wp_if hs rfl (fun hc13 => ?_) (fun hc13 => ?_)
  ·
   replace hc13 := of_decide_eq_true hc13
   refine wp_skip ?_
   refine then_n (hK12 _ _ ?_)
   refine wp_seq_k fun K14 hK15 => ?_
   refine wp_block ?_
   refine wp_seq_k fun K16 hK17 => ?_
   refine wp_region_lit ?_
   refine st_ia (j := j) hs rfl rfl (hs.rd0 hc) rfl (by omega) Tryz.underlying22 Tryz.sizeOf73 rfl ?_; clear hs w a; intro a w hs
   refine st_ldA (cs := entV (l.getD j default)) hs rfl (hs.rd0 hc) (flat_get entV_len l j (by omega)) (by rw [flat_len entV_len]; omega) (by omega) Tryz.isAgg73 Tryz.sizeOf73 rfl ?_; clear hs w a; intro a w hs
   refine st_alloc (cs := [.int .i64 (0), .int .i64 (0), .int .i64 (0), .int .i64 (0), .int .i64 (0), .int .i64 (0), .int .i64 (0), .int .u16 (0), .int .u8 (0)]) hs Tryz.zeroValue73 rfl rfl ?_; clear hs w a; intro g18 a w hs
   refine st_stBA hs rfl rfl .z (.z (.c (.c (.c (.c (.c (.c (.c (.c (.c .n)))))))))) (ones_c rfl (ones_c rfl (ones_c rfl (ones_c rfl (ones_c rfl (ones_c rfl (ones_c rfl (ones_c rfl (ones_c rfl ones_n))))))))) Tryz.sizeOf73 rfl ?_; clear hs w a; intro a w hs
   refine wpList_nil ?_
   refine then_n (hK17 _ _ ?_)
   refine wp_seq_k fun K19 hK20 => ?_
   refine wp_region_lit ?_
   refine st_run 3 [(24, .int .i64 ((l.getD j default).id)), (23, .pointer (some ⟨g18, 0, none⟩)), (22, .map (some g))] hs (.c (hs.mem.del .z) .n) (by kernel_rfl) (by kernel_rfl) (by kernel_rfl) ?_; clear hs a; intro a hs
   refine st_lookE hs rfl rfl (.s (.s .z)) Tryz.underlying81 Tryz.underlying3 Tryz.zeroValue73 rfl ?_; clear hs w a; intro a w hs
   refine st_run 3 [(27, .bool ((eget ((l.getD j default).id) mm).isSome)), (26, .agg #[.int .i64 ((((eget ((l.getD j default).id) mm).getD entZ)).id), .int .i64 ((((eget ((l.getD j default).id) mm).getD entZ)).p0), .int .i64 ((((eget ((l.getD j default).id) mm).getD entZ)).p1), .int .i64 ((((eget ((l.getD j default).id) mm).getD entZ)).p2), .int .i64 ((((eget ((l.getD j default).id) mm).getD entZ)).v0), .int .i64 ((((eget ((l.getD j default).id) mm).getD entZ)).v1), .int .i64 ((((eget ((l.getD j default).id) mm).getD entZ)).v2), .int .u16 (((((((eget ((l.getD j default).id) mm).getD entZ)).a).toNat : Nat) : Int)), .int .u8 (((((((eget ((l.getD j default).id) mm).getD entZ)).g).toNat : Nat) : Int))]), (21, .tuple #[.agg #[.int .i64 ((((eget ((l.getD j default).id) mm).getD entZ)).id), .int .i64 ((((eget ((l.getD j default).id) mm).getD entZ)).p0), .int .i64 ((((eget ((l.getD j default).id) mm).getD entZ)).p1), .int .i64 ((((eget ((l.getD j default).id) mm).getD entZ)).p2), .int .i64 ((((eget ((l.getD j default).id) mm).getD entZ)).v0), .int .i64 ((((eget ((l.getD j default).id) mm).getD entZ)).v1), .int .i64 ((((eget ((l.getD j default).id) mm).getD entZ)).v2), .int .u16 (((((((eget ((l.getD j default).id) mm).getD entZ)).a).toNat : Nat) : Int)), .int .u8 (((((((eget ((l.getD j default).id) mm).getD entZ)).g).toNat : Nat) : Int))], .bool ((eget ((l.getD j default).id) mm).isSome)])] hs .n (by kernel_rfl) (by kernel_rfl) (by kernel_rfl) ?_; clear hs a; intro a hs
   refine st_alloc (cs := [.int .i64 (0), .int .i64 (0), .int .i64 (0), .int .i64 (0), .int .i64 (0), .int .i64 (0), .int .i64 (0), .int .u16 (0), .int .u8 (0)]) hs Tryz.zeroValue73 rfl rfl ?_; clear hs w a; intro g21 a w hs
   refine st_stBA hs rfl rfl .z (.z (.c (.c (.c (.c (.c (.c (.c (.c (.c .n)))))))))) (ones_c rfl (ones_c rfl (ones_c rfl (ones_c rfl (ones_c rfl (ones_c rfl (ones_c rfl (ones_c rfl (ones_c rfl ones_n))))))))) Tryz.sizeOf73 rfl ?_; clear hs w a; intro a w hs
   refine st_as hs rfl rfl ?_; clear hs w a; intro a w hs
   refine wpList_nil ?_
   refine then_n (hK20 _ _ ?_)
   refine wp_seq_k fun K22 hK23 => ?_
   refine wp_region_lit ?_
   refine st_run 3 [(30, .int .i64 ((l.getD j default).id)), (29, .pointer (some ⟨g18, 0, none⟩)), (28, .map (some g))] hs (.c (hs.mem.del (.s .z)) .n) (by kernel_rfl) (by kernel_rfl) (by kernel_rfl) ?_; clear hs a; intro a hs
   refine st_delE hs rfl rfl (.s (.s (.s .z))) Tryz.underlying81 Tryz.underlying3 rfl ?_; clear hs w a; intro a w hs
   refine wpList_nil ?_
   refine then_n (hK23 _ _ ?_)
   refine wp_seq_k fun K24 hK25 => ?_
   refine wp_seq_k fun K26 hK27 => ?_
   refine wp_region_lit ?_
   refine st_run 2 [(32, .bool (!((eget ((l.getD j default).id) mm).isSome))), (31, .bool ((eget ((l.getD j default).id) mm).isSome))] hs .n (by kernel_rfl) (by kernel_rfl) (by kernel_rfl) ?_; clear hs a; intro a hs
   refine wpList_nil ?_
   refine then_n (hK27 _ _ ?_)
   refine wp_if hs rfl (fun hc28 => ?_) (fun hc28 => ?_)
   ·
    replace hc28 := not_t hc28
    have hn_ : (eget ((l.getD j default).id) mm) = none := isSome_f (by assumption)
    rw [hn_] at hs
    refine wp_region_lit ?_
    refine st_fa hs rfl Tryz.underlying73 rfl Tryz.sizeOf5 (by decide) (o := 8) rfl rfl ?_; clear hs w a; intro a w hs
    refine st_stB hs rfl rfl (.s .z) (.s (.s (.s (.s (.s (.s (.s (.s .z)))))))) rfl Tryz.sizeOf5 ?_; clear hs w a; intro a w hs
    refine wpList_nil ?_
    refine then_n (hK25 _ _ ?_)
    refine wp_seq_k fun K29 hK30 => ?_
    refine wp_region_lit ?_
    refine st_run 4 [(37, .int .u8 (0)), (36, .pointer (some ⟨g21, 8, none⟩)), (35, .int .u8 (((((l.getD j default).g).toNat : Nat) : Int))), (34, .pointer (some ⟨g18, 8, none⟩))] hs (.c (hs.mem.del (.s (.s .z))) (.c (hs.mem.del .z) .n)) (by kernel_rfl) (by kernel_rfl) (by kernel_rfl) ?_; clear hs a; intro a hs
    refine st_sub_u8 (X := (l.getD j default).g) (Y := 0#8) hs rfl rfl rfl (by decide) rfl ?_; clear hs w a; intro a w hs
    refine st_as hs rfl rfl ?_; clear hs w a; intro a w hs
    refine wpList_nil ?_
    refine then_n (hK30 _ _ ?_)
    refine wp_block ?_
    refine wp_seq_k fun K31 hK32 => ?_
    refine wp_seq_k fun K33 hK34 => ?_
    refine wp_region_lit ?_
    refine st_run 3 [(50, .bool (decide (1 < ((((((l.getD j default).g) - (0#8)).toNat : Nat) : Int))))), (52, .bool (decide (1 < ((((((l.getD j default).g) - (0#8)).toNat : Nat) : Int))))), (51, .int .u8 ((((((l.getD j default).g) - (0#8)).toNat : Nat) : Int)))] hs .n (by kernel_rfl) (by kernel_rfl) (by kernel_rfl) ?_; clear hs a; intro a hs
    refine wpList_nil ?_
    refine then_n (hK34 _ _ ?_)
    refine wp_if hs rfl (fun hc35 => ?_) (fun hc35 => ?_)
    ·
     rw [hc35] at hs
     replace hc35 := of_decide_eq_true hc35
     refine wp_skip ?_
     refine then_n (hK32 _ _ ?_)
     refine wp_cond_true (hs.ev rfl) ?_
     refine wp_seq_k fun K36 hK37 => ?_
     refine wp_region_lit ?_
     refine st_run 2 [(5, .int .i64 (15)), (4, .slice none 0 0)] hs .n (by kernel_rfl) (by kernel_rfl) (by kernel_rfl) ?_; clear hs a; intro a hs
     refine wpList_nil ?_
     refine then_n (hK37 _ _ ?_)
     refine wp_ret ?_
     refine in_r ?_
     refine in_r ?_
     refine th_r ?_
     refine th_r ?_
     refine in_r ?_
     refine th_r ?_
     have hz := tell_none ht (tInv_err (by omega) hI1_1 (tStep_n1 hn_ (by omega)))
     replace hs := hs.addNil 78 9
     replace hs := hs.rerow .z (m' := (mL m l).length) (xs' := ((mL m l).flatMap recV)) (by rw [hz.2]; rfl) (by rw [hz.2]; rfl)
     replace hs := hs.drop (.c (.s (.s (.s (.s .z)))) (.c (.s (.s (.s .z))) (.c (.s (.s .z)) (.c (.s .z) .n))))
     exact fin2 hs rfl rfl rfl ⟨_, congrArg (fun z : Nat => Value.tuple #[.slice none 0 0, .int .i64 (z : Int)]) hz.1.symm, rfl⟩
    rw [hc35] at hs
    replace hc35 := of_decide_eq_false hc35
    refine wp_region_lit ?_
    refine st_run 7 [(50, .bool (decide (0 < ((((((l.getD j default).g) - (0#8)).toNat : Nat) : Int))))), (58, .bool (decide (0 < ((((((l.getD j default).g) - (0#8)).toNat : Nat) : Int))))), (57, .bool (decide (0 < ((((((l.getD j default).g) - (0#8)).toNat : Nat) : Int))))), (56, .int .u8 ((((((l.getD j default).g) - (0#8)).toNat : Nat) : Int))), (55, .bool (true)), (54, .bool (true)), (53, .bool (false))] hs .n (by kernel_rfl) (by kernel_rfl) (by kernel_rfl) ?_; clear hs a; intro a hs
    refine wpList_nil ?_
    refine then_n (hK32 _ _ ?_)
    refine wp_if hs rfl (fun hc38 => ?_) (fun hc38 => ?_)
    ·
     replace hc38 := of_decide_eq_true hc38
     refine wp_seq_k fun K39 hK40 => ?_
     refine wp_region_lit ?_
     refine st_run 2 [(5, .int .i64 (15)), (4, .slice none 0 0)] hs .n (by kernel_rfl) (by kernel_rfl) (by kernel_rfl) ?_; clear hs a; intro a hs
     refine wpList_nil ?_
     refine then_n (hK40 _ _ ?_)
     refine wp_ret ?_
     refine in_r ?_
     refine in_r ?_
     refine th_r ?_
     refine th_r ?_
     refine in_r ?_
     refine th_r ?_
     have hz := tell_none ht (tInv_err (by omega) hI1_1 (tStep_n1 hn_ (by omega)))
     replace hs := hs.addNil 78 9
     replace hs := hs.rerow .z (m' := (mL m l).length) (xs' := ((mL m l).flatMap recV)) (by rw [hz.2]; rfl) (by rw [hz.2]; rfl)
     replace hs := hs.drop (.c (.s (.s (.s (.s .z)))) (.c (.s (.s (.s .z))) (.c (.s (.s .z)) (.c (.s .z) .n))))
     exact fin2 hs rfl rfl rfl ⟨_, congrArg (fun z : Nat => Value.tuple #[.slice none 0 0, .int .i64 (z : Int)]) hz.1.symm, rfl⟩
    replace hc38 := of_decide_eq_false hc38
    refine wp_seq_k fun K41 hK42 => ?_
    refine wp_region_lit ?_
    refine st_run 3 [(59, .bool (true)), (61, .bool (true)), (60, .bool (false))] hs .n (by kernel_rfl) (by kernel_rfl) (by kernel_rfl) ?_; clear hs a; intro a hs
    refine wpList_nil ?_
    refine then_n (hK42 _ _ ?_)
    refine wp_cond_true (hs.ev rfl) ?_
    refine wp_region_lit ?_
    refine st_run 9 [(70, .int .u16 (((((l.getD j default).a).toNat : Nat) : Int))), (69, .pointer (some ⟨g18, 7, none⟩)), (68, .agg #[.int .i64 ((l.getD j default).v0), .int .i64 ((l.getD j default).v1), .int .i64 ((l.getD j default).v2)]), (67, .pointer (some ⟨g18, 4, none⟩)), (66, .agg #[.int .i64 ((l.getD j default).p0), .int .i64 ((l.getD j default).p1), .int .i64 ((l.getD j default).p2)]), (65, .pointer (some ⟨g18, 1, none⟩)), (64, .int .i64 ((l.getD j default).id)), (63, .pointer (some ⟨g18, 0, none⟩)), (62, p)] hs (.c (hs.mem.del (.s (.s .z))) (.c (hs.mem.del (.s (.s .z))) (.c (hs.mem.del (.s (.s .z))) (.c (hs.mem.del (.s (.s .z))) .n)))) (by kernel_rfl) (by kernel_rfl) (by kernel_rfl) ?_; clear hs a; intro a hs
    refine st_build (it := Tryz.t78) (zs := [.int .i64 (0), .int .i64 (0), .int .i64 (0), .int .i64 (0), .int .i64 (0), .int .i64 (0), .int .i64 (0), .int .i64 (0), .int .u16 (0)]) (places := [(0, 1), (1, 1), (2, 3), (5, 3), (8, 1)]) hs (.c rfl (.c rfl (.c rfl (.c rfl (.c rfl .n))))) Tryz.underlying78 rfl rfl rfl rfl (.c rfl rfl (.z (.c .n)) (.c rfl rfl (.s (.z (.c .n))) (.c rfl rfl (.s (.s (.z (.c (.c (.c .n)))))) (.c rfl rfl (.s (.s (.s (.s (.s (.z (.c (.c (.c .n))))))))) (.c rfl rfl (.s (.s (.s (.s (.s (.s (.s (.s (.z (.c .n)))))))))) .n))))) rfl ?_; clear hs w a; intro a w hs
    refine st_bs (cs := [.int .i64 (0), .int .i64 ((l.getD j default).id), .int .i64 ((l.getD j default).p0), .int .i64 ((l.getD j default).p1), .int .i64 ((l.getD j default).p2), .int .i64 ((l.getD j default).v0), .int .i64 ((l.getD j default).v1), .int .i64 ((l.getD j default).v2), .int .u16 (((((l.getD j default).a).toNat : Nat) : Int))]) hs (.c .n) (.c rfl .n) Tryz.underlying27 (ie := Tryz.t78) rfl rfl rfl rfl (by decide) (by decide) rfl (by decide) rfl rfl rfl ?_; clear hs w a; intro g43 a w hs
    refine st_app (size := 9) (bytes := 72) hs rfl rfl (.s (.s (.s (.s .z)))) (rd_blk (m := 1) (size := 9) (hs.mem.del .z) rfl (by decide)) (by simp [Value.oneCell']) Tryz.underlying27 (i := Tryz.t78) rfl rfl rfl rfl rfl (by decide) (by omega) (by simp only [maxLen]; omega) rfl ?_; clear hs w a; intro v44 a w hs
    replace hs := hs.drop (.c (.s .z) .n)
    refine st_as hs rfl rfl ?_; clear hs w a; intro a w hs
    refine wpList_nil ?_
    refine in_n ?_
    refine in_n ?_
    refine then_n (hK15 _ _ ?_)
    refine wp_region_lit ?_
    refine st_addR hs rfl rfl (by omega) rfl ?_; clear hs w a; intro a w hs
    refine st_mv hs rfl rfl ?_; clear hs w a; intro a w hs
    refine wpList_nil ?_
    refine then_n ?_
    have hT := tInv_next (by omega) hI1_1 (tStep_n0 hn_ (by omega))
    have hol : (out ++ [putOf (l.getD j default)]).length ≤ j + 1 := by have := hI1_2; rw [List.length_append]; simp; omega
    have hml := edel_len (l.getD j default).id mm
    replace hs := hs.rerow .z (m' := (out ++ [putOf (l.getD j default)]).length) (xs' := ((out ++ [putOf (l.getD j default)]).flatMap recV)) (by rw [List.length_append]; rfl) (by rw [List.flatMap_append]; rfl)
    replace hs := hs.drop (.c (.s (.s (.s .z))) (.c (.s .z) .n))
    refine ⟨_, ?_, j + 1, v44, out ++ [putOf (l.getD j default)], edel (l.getD j default).id mm, rfl, hs.sub (.c rfl (.c rfl (.c rfl (.c rfl (.c rfl .n))))), by omega, hT, hol, Nat.le_trans hml hI1_3⟩
    omega
   replace hc28 := not_f hc28
   obtain ⟨o, ho⟩ := isSome_t (by assumption : (eget ((l.getD j default).id) mm).isSome = true)
   rw [ho] at hs
   refine wp_skip ?_
   refine then_n (hK25 _ _ ?_)
   refine wp_seq_k fun K45 hK46 => ?_
   refine wp_region_lit ?_
   refine st_run 4 [(37, .int .u8 ((((o.g).toNat : Nat) : Int))), (36, .pointer (some ⟨g21, 8, none⟩)), (35, .int .u8 (((((l.getD j default).g).toNat : Nat) : Int))), (34, .pointer (some ⟨g18, 8, none⟩))] hs (.c (hs.mem.del (.s (.s .z))) (.c (hs.mem.del (.s .z)) .n)) (by kernel_rfl) (by kernel_rfl) (by kernel_rfl) ?_; clear hs a; intro a hs
   refine st_sub_u8 (X := (l.getD j default).g) (Y := o.g) hs rfl rfl rfl rfl rfl ?_; clear hs w a; intro a w hs
   refine st_as hs rfl rfl ?_; clear hs w a; intro a w hs
   refine wpList_nil ?_
   refine then_n (hK46 _ _ ?_)
   refine wp_block ?_
   refine wp_seq_k fun K47 hK48 => ?_
   refine wp_seq_k fun K49 hK50 => ?_
   refine wp_region_lit ?_
   refine st_run 3 [(50, .bool (decide (1 < ((((((l.getD j default).g) - o.g).toNat : Nat) : Int))))), (52, .bool (decide (1 < ((((((l.getD j default).g) - o.g).toNat : Nat) : Int))))), (51, .int .u8 ((((((l.getD j default).g) - o.g).toNat : Nat) : Int)))] hs .n (by kernel_rfl) (by kernel_rfl) (by kernel_rfl) ?_; clear hs a; intro a hs
   refine wpList_nil ?_
   refine then_n (hK50 _ _ ?_)
   refine wp_if hs rfl (fun hc51 => ?_) (fun hc51 => ?_)
   ·
    rw [hc51] at hs
    replace hc51 := of_decide_eq_true hc51
    refine wp_skip ?_
    refine then_n (hK48 _ _ ?_)
    refine wp_cond_true (hs.ev rfl) ?_
    refine wp_seq_k fun K52 hK53 => ?_
    refine wp_region_lit ?_
    refine st_run 2 [(5, .int .i64 (15)), (4, .slice none 0 0)] hs .n (by kernel_rfl) (by kernel_rfl) (by kernel_rfl) ?_; clear hs a; intro a hs
    refine wpList_nil ?_
    refine then_n (hK53 _ _ ?_)
    refine wp_ret ?_
    refine in_r ?_
    refine in_r ?_
    refine th_r ?_
    refine th_r ?_
    refine in_r ?_
    refine th_r ?_
    have hz := tell_none ht (tInv_err (by omega) hI1_1 (tStep_s1 ho (by omega)))
    replace hs := hs.addNil 78 9
    replace hs := hs.rerow .z (m' := (mL m l).length) (xs' := ((mL m l).flatMap recV)) (by rw [hz.2]; rfl) (by rw [hz.2]; rfl)
    replace hs := hs.drop (.c (.s (.s (.s (.s .z)))) (.c (.s (.s (.s .z))) (.c (.s (.s .z)) (.c (.s .z) .n))))
    exact fin2 hs rfl rfl rfl ⟨_, congrArg (fun z : Nat => Value.tuple #[.slice none 0 0, .int .i64 (z : Int)]) hz.1.symm, rfl⟩
   rw [hc51] at hs
   replace hc51 := of_decide_eq_false hc51
   refine wp_region_lit ?_
   refine st_run 7 [(50, .bool (false)), (58, .bool (false)), (57, undef), (56, undef), (55, .bool (false)), (54, .bool (false)), (53, .bool (true))] hs .n (by kernel_rfl) (by kernel_rfl) (by kernel_rfl) ?_; clear hs a; intro a hs
   refine wpList_nil ?_
   refine then_n (hK48 _ _ ?_)
   refine wp_cond_false (hs.ev rfl) ?_
   refine wp_seq_k fun K54 hK55 => ?_
   refine wp_region_lit ?_
   refine st_run 3 [(59, .bool (false)), (61, .bool (false)), (60, .bool (true))] hs .n (by kernel_rfl) (by kernel_rfl) (by kernel_rfl) ?_; clear hs a; intro a hs
   refine wpList_nil ?_
   refine then_n (hK55 _ _ ?_)
   refine wp_cond_false (hs.ev rfl) ?_
   refine wp_seq_k fun K56 hK57 => ?_
   refine wp_region_lit ?_
   refine st_run 2 [(41, .agg #[.int .i64 ((l.getD j default).id), .int .i64 ((l.getD j default).p0), .int .i64 ((l.getD j default).p1), .int .i64 ((l.getD j default).p2), .int .i64 ((l.getD j default).v0), .int .i64 ((l.getD j default).v1), .int .i64 ((l.getD j default).v2), .int .u16 (((((l.getD j default).a).toNat : Nat) : Int)), .int .u8 (((((l.getD j default).g).toNat : Nat) : Int))]), (40, .agg #[.int .i64 (o.id), .int .i64 (o.p0), .int .i64 (o.p1), .int .i64 (o.p2), .int .i64 (o.v0), .int .i64 (o.v1), .int .i64 (o.v2), .int .u16 ((((o.a).toNat : Nat) : Int)), .int .u8 ((((o.g).toNat : Nat) : Int))])] hs (.c (hs.mem.del (.s .z)) (.c (hs.mem.del (.s (.s .z))) .n)) (by kernel_rfl) (by kernel_rfl) (by kernel_rfl) ?_; clear hs a; intro a hs
   refine st_callP (v := .tuple #[.agg #[.int .i64 (((recDiff o (l.getD j default)).1).k), .int .i64 (((recDiff o (l.getD j default)).1).id), .int .i64 (((recDiff o (l.getD j default)).1).p0), .int .i64 (((recDiff o (l.getD j default)).1).p1), .int .i64 (((recDiff o (l.getD j default)).1).p2), .int .i64 (((recDiff o (l.getD j default)).1).v0), .int .i64 (((recDiff o (l.getD j default)).1).v1), .int .i64 (((recDiff o (l.getD j default)).1).v2), .int .u16 ((((((recDiff o (l.getD j default)).1).a).toNat : Nat) : Int))], .bool ((recDiff o (l.getD j default)).2)]) hs (.c rfl (.c rfl .n)) Tryz.call60 (diff_ok o (l.getD j default) _) rfl ?_; clear hs w a; intro a w hs
   refine st_run 3 [(44, .bool ((recDiff o (l.getD j default)).2)), (43, .agg #[.int .i64 (((recDiff o (l.getD j default)).1).k), .int .i64 (((recDiff o (l.getD j default)).1).id), .int .i64 (((recDiff o (l.getD j default)).1).p0), .int .i64 (((recDiff o (l.getD j default)).1).p1), .int .i64 (((recDiff o (l.getD j default)).1).p2), .int .i64 (((recDiff o (l.getD j default)).1).v0), .int .i64 (((recDiff o (l.getD j default)).1).v1), .int .i64 (((recDiff o (l.getD j default)).1).v2), .int .u16 ((((((recDiff o (l.getD j default)).1).a).toNat : Nat) : Int))]), (39, .tuple #[.agg #[.int .i64 (((recDiff o (l.getD j default)).1).k), .int .i64 (((recDiff o (l.getD j default)).1).id), .int .i64 (((recDiff o (l.getD j default)).1).p0), .int .i64 (((recDiff o (l.getD j default)).1).p1), .int .i64 (((recDiff o (l.getD j default)).1).p2), .int .i64 (((recDiff o (l.getD j default)).1).v0), .int .i64 (((recDiff o (l.getD j default)).1).v1), .int .i64 (((recDiff o (l.getD j default)).1).v2), .int .u16 ((((((recDiff o (l.getD j default)).1).a).toNat : Nat) : Int))], .bool ((recDiff o (l.getD j default)).2)])] hs .n (by kernel_rfl) (by kernel_rfl) (by kernel_rfl) ?_; clear hs a; intro a hs
   refine st_alloc (cs := [.int .i64 (0), .int .i64 (0), .int .i64 (0), .int .i64 (0), .int .i64 (0), .int .i64 (0), .int .i64 (0), .int .i64 (0), .int .u16 (0)]) hs Tryz.zeroValue78 rfl rfl ?_; clear hs w a; intro g58 a w hs
   refine st_stBA hs rfl rfl .z (.z (.c (.c (.c (.c (.c (.c (.c (.c (.c .n)))))))))) (ones_c rfl (ones_c rfl (ones_c rfl (ones_c rfl (ones_c rfl (ones_c rfl (ones_c rfl (ones_c rfl (ones_c rfl ones_n))))))))) Tryz.sizeOf78 rfl ?_; clear hs w a; intro a w hs
   refine st_as hs rfl rfl ?_; clear hs w a; intro a w hs
   refine wpList_nil ?_
   refine then_n (hK57 _ _ ?_)
   refine wp_seq_k fun K59 hK60 => ?_
   refine wp_region_lit ?_
   refine st_mv hs rfl rfl ?_; clear hs w a; intro a w hs
   refine wpList_nil ?_
   refine then_n (hK60 _ _ ?_)
   refine wp_if hs rfl (fun hc61 => ?_) (fun hc61 => ?_)
   ·
    refine wp_region_lit ?_
    refine st_run 2 [(47, .agg #[.int .i64 (((recDiff o (l.getD j default)).1).k), .int .i64 (((recDiff o (l.getD j default)).1).id), .int .i64 (((recDiff o (l.getD j default)).1).p0), .int .i64 (((recDiff o (l.getD j default)).1).p1), .int .i64 (((recDiff o (l.getD j default)).1).p2), .int .i64 (((recDiff o (l.getD j default)).1).v0), .int .i64 (((recDiff o (l.getD j default)).1).v1), .int .i64 (((recDiff o (l.getD j default)).1).v2), .int .u16 ((((((recDiff o (l.getD j default)).1).a).toNat : Nat) : Int))]), (46, p)] hs (.c (hs.mem.del .z) .n) (by kernel_rfl) (by kernel_rfl) (by kernel_rfl) ?_; clear hs a; intro a hs
    refine st_bs (cs := [.int .i64 (((recDiff o (l.getD j default)).1).k), .int .i64 (((recDiff o (l.getD j default)).1).id), .int .i64 (((recDiff o (l.getD j default)).1).p0), .int .i64 (((recDiff o (l.getD j default)).1).p1), .int .i64 (((recDiff o (l.getD j default)).1).p2), .int .i64 (((recDiff o (l.getD j default)).1).v0), .int .i64 (((recDiff o (l.getD j default)).1).v1), .int .i64 (((recDiff o (l.getD j default)).1).v2), .int .u16 ((((((recDiff o (l.getD j default)).1).a).toNat : Nat) : Int))]) hs (.c .n) (.c rfl .n) Tryz.underlying27 (ie := Tryz.t78) rfl rfl rfl rfl (by decide) (by decide) rfl (by decide) rfl rfl rfl ?_; clear hs w a; intro g62 a w hs
    refine st_app (size := 9) (bytes := 72) hs rfl rfl (.s (.s (.s (.s (.s .z))))) (rd_blk (m := 1) (size := 9) (hs.mem.del .z) rfl (by decide)) (by simp [Value.oneCell']) Tryz.underlying27 (i := Tryz.t78) rfl rfl rfl rfl rfl (by decide) (by omega) (by simp only [maxLen]; omega) rfl ?_; clear hs w a; intro v63 a w hs
    replace hs := hs.drop (.c (.s .z) .n)
    refine st_as hs rfl rfl ?_; clear hs w a; intro a w hs
    refine wpList_nil ?_
    refine in_n ?_
    refine in_n ?_
    refine then_n (hK15 _ _ ?_)
    refine wp_region_lit ?_
    refine st_addR hs rfl rfl (by omega) rfl ?_; clear hs w a; intro a w hs
    refine st_mv hs rfl rfl ?_; clear hs w a; intro a w hs
    refine wpList_nil ?_
    refine then_n ?_
    have hT := tInv_next (by omega) hI1_1 (tStep_s0 ho (by omega))
    have hol : (out ++ stepR o (l.getD j default)).length ≤ j + 1 := by have := hI1_2; rw [List.length_append]; have := stepR_len o (l.getD j default); omega
    have hml := edel_len (l.getD j default).id mm
    replace hs := hs.rerow .z (m' := (out ++ stepR o (l.getD j default)).length) (xs' := ((out ++ stepR o (l.getD j default)).flatMap recV)) (by rw [stepR_t (by assumption), List.length_append]; rfl) (by rw [stepR_t (by assumption), List.flatMap_append]; rfl)
    replace hs := hs.drop (.c (.s (.s (.s (.s .z)))) (.c (.s (.s (.s .z))) (.c (.s .z) .n)))
    refine ⟨_, ?_, j + 1, v63, out ++ stepR o (l.getD j default), edel (l.getD j default).id mm, rfl, hs.sub (.c rfl (.c rfl (.c rfl (.c rfl (.c rfl .n))))), by omega, hT, hol, Nat.le_trans hml hI1_3⟩
    omega
   refine wp_skip ?_
   refine in_n ?_
   refine in_n ?_
   refine then_n (hK15 _ _ ?_)
   refine wp_region_lit ?_
   refine st_addR hs rfl rfl (by omega) rfl ?_; clear hs w a; intro a w hs
   refine st_mv hs rfl rfl ?_; clear hs w a; intro a w hs
   refine wpList_nil ?_
   refine then_n ?_
   have hT := tInv_next (by omega) hI1_1 (tStep_s0 ho (by omega))
   have hol : (out ++ stepR o (l.getD j default)).length ≤ j + 1 := by have := hI1_2; rw [List.length_append]; have := stepR_len o (l.getD j default); omega
   have hml := edel_len (l.getD j default).id mm
   replace hs := hs.rerow (.s (.s (.s (.s .z)))) (m' := (out ++ stepR o (l.getD j default)).length) (xs' := ((out ++ stepR o (l.getD j default)).flatMap recV)) (by rw [stepR_f (by assumption), List.append_nil]) (by rw [stepR_f (by assumption), List.append_nil])
   replace hs := hs.drop (.c (.s (.s (.s (.s .z)))) (.c (.s (.s (.s .z))) (.c (.s .z) .n)))
   refine ⟨_, ?_, j + 1, p, out ++ stepR o (l.getD j default), edel (l.getD j default).id mm, rfl, hs.sub (.c rfl (.c rfl (.c rfl (.c rfl (.c rfl .n))))), by omega, hT, hol, Nat.le_trans hml hI1_3⟩
   omega
  replace hc13 := of_decide_eq_false hc13
  refine wp_exit ?_
  refine th_e ?_
  refine th_e ?_
  refine in_hit ?_
  refine then_n (hK6 _ _ ?_)
  refine wp_seq_k fun K64 hK65 => ?_
  refine wp_seq_k fun K66 hK67 => ?_
  refine wp_region_lit ?_
  refine st_mv hs rfl rfl ?_; clear hs w a; intro a w hs
  refine st_rangeE hs rfl (.s .z) Tryz.underlying81 rfl ?_; clear hs w a; intro it68 a w hs
  refine wpList_nil ?_
  refine then_n (hK67 _ _ ?_)
  refine wp_block ?_
  replace hs := hs.rerow (.s .z) (m' := out.length + ([] : List EntR).length) (xs' := ((out ++ ([] : List EntR).map remOf).flatMap recV)) (by simp) (by simp)
  refine wp_loopI (fun mm_ a w => ∃ dn : List EntR, ∃ q : Value, mm_ = mm.length - dn.length ∧ St 89 [(6, q), (76, .pointer (some ⟨it68, 0, none⟩))] w0 (feet [mpr g (ekv m)]) [row q 78 9 (out.length + dn.length) (((out ++ dn.map remOf).flatMap recV)), mit g it68 (ekv mm) (ekv dn)] a w ∧ dn.length ≤ mm.length) ⟨[], p, rfl, hs.sub (.c rfl (.c rfl .n)), by simp⟩ ?_
  clear hs w a; rintro mm_ a w ⟨dn, q, rfl, hs, hI2_0⟩
  refine wp_seq_k fun K69 hK70 => ?_
  refine wp_region_lit ?_
  refine st_nextE hs rfl (.s .z) rfl (fun hp71 => ?_) (fun x72 hm73 hl74 => ?_)
  ·
   clear hs w a; intro a w hs
   refine st_ex hs rfl .z rfl ?_; clear hs w a; intro a w hs
   refine wpList_nil ?_
   refine then_n (hK70 _ _ ?_)
   refine wp_seq_k fun K75 hK76 => ?_
   refine wp_cond_false (hs.ev rfl) ?_
   refine wp_exit ?_
   refine th_e ?_
   refine th_e ?_
   refine in_hit ?_
   refine then_n (hK65 _ _ ?_)
   refine wp_seq_k fun K77 hK78 => ?_
   refine wp_region_lit ?_
   refine st_mv hs rfl rfl ?_; clear hs w a; intro a w hs
   refine st_call hs (.c rfl (.c rfl .n)) Tryz.call61 (.c (.s .z) .n) (sortR_ok (hs.mem.del (.s .z)) (by first | omega | (simp; done) | (simp; omega)) (by first | omega | (simp; omega))) rfl ?_; clear hs w a; rintro _ _ a w ⟨rfl, l79, ⟨hp80, hs81⟩, rfl⟩ hs; simp only [List.cons_append, List.nil_append] at hs
   refine wpList_nil ?_
   refine then_n (hK78 _ _ ?_)
   refine wp_seq_k fun K82 hK83 => ?_
   refine wp_region_lit ?_
   refine st_run 3 [(5, .int .i64 (0)), (4, q)] hs .n (by kernel_rfl) (by kernel_rfl) (by kernel_rfl) ?_; clear hs a; intro a hs
   refine wpList_nil ?_
   refine then_n (hK83 _ _ ?_)
   refine wp_ret ?_
   have hz := tell_some ht (tInv_end (by omega) hI1_1) (hp80.trans ((hp71.map remOf).append_left out)) hs81
   replace hs := hs.rerow .z (m' := (mL m l).length) (xs' := ((mL m l).flatMap recV)) (by rw [hz.2, hp80.length_eq]; simp) (by rw [hz.2])
   replace hs := hs.drop (.c (.s .z) .n)
   exact fin2 hs rfl rfl rfl ⟨_, congrArg (fun z : Nat => Value.tuple #[q, .int .i64 (z : Int)]) hz.1.symm, rfl⟩
  clear hs w a; intro a w hs
  refine st_ex hs rfl .z rfl ?_; clear hs w a; intro a w hs
  refine wpList_nil ?_
  refine then_n (hK70 _ _ ?_)
  refine wp_seq_k fun K84 hK85 => ?_
  refine wp_cond_true (hs.ev rfl) ?_
  refine wp_skip ?_
  refine then_n (hK85 _ _ ?_)
  refine wp_block ?_
  refine wp_seq_k fun K86 hK87 => ?_
  refine wp_region_lit ?_
  refine st_entryE hs rfl .z rfl ?_; clear hs w a; intro a w hs
  refine st_run 2 [(14, .int .i64 (x72.id)), (80, .int .i64 (x72.id))] hs .n (by kernel_rfl) (by kernel_rfl) (by kernel_rfl) ?_; clear hs a; intro a hs
  refine wpList_nil ?_
  refine then_n (hK87 _ _ ?_)
  refine wp_region_lit ?_
  refine st_run 2 [(82, .int .i64 (x72.id)), (81, q)] hs .n (by kernel_rfl) (by kernel_rfl) (by kernel_rfl) ?_; clear hs a; intro a hs
  refine st_build (it := Tryz.t78) (zs := [.int .i64 (0), .int .i64 (0), .int .i64 (0), .int .i64 (0), .int .i64 (0), .int .i64 (0), .int .i64 (0), .int .i64 (0), .int .u16 (0)]) (places := [(0, 1), (1, 1), (2, 3), (5, 3), (8, 1)]) hs (.c rfl (.c rfl .n)) Tryz.underlying78 rfl rfl rfl rfl (.c rfl rfl (.z (.c .n)) (.c rfl rfl (.s (.z (.c .n))) .n)) rfl ?_; clear hs w a; intro a w hs
  refine st_bs (cs := [.int .i64 (2), .int .i64 (x72.id), .int .i64 (0), .int .i64 (0), .int .i64 (0), .int .i64 (0), .int .i64 (0), .int .i64 (0), .int .u16 (0)]) hs (.c .n) (.c rfl .n) Tryz.underlying27 (ie := Tryz.t78) rfl rfl rfl rfl (by decide) (by decide) rfl (by decide) rfl rfl rfl ?_; clear hs w a; intro g88 a w hs
  refine st_app (size := 9) (bytes := 72) hs rfl rfl (.s (.s .z)) (rd_blk (m := 1) (size := 9) (hs.mem.del .z) rfl (by decide)) (by simp [Value.oneCell']) Tryz.underlying27 (i := Tryz.t78) rfl rfl rfl rfl rfl (by decide) (by omega) (by simp only [maxLen]; omega) rfl ?_; clear hs w a; intro v89 a w hs
  replace hs := hs.drop (.c (.s .z) .n)
  refine st_as hs rfl rfl ?_; clear hs w a; intro a w hs
  refine wpList_nil ?_
  refine in_n ?_
  refine then_n ?_
  have hal_ : (dn ++ [x72]).length = dn.length + 1 := by simp
  replace hs := hs.rerow .z (m' := out.length + (dn ++ [x72]).length) (xs' := ((out ++ (dn ++ [x72]).map remOf).flatMap recV)) (by rw [hal_]; rfl) (by rw [List.map_append, ← List.append_assoc, List.flatMap_append (xs := out ++ dn.map remOf)]; rfl)
  refine ⟨_, ?_, dn ++ [x72], v89, rfl, hs.sub (.c rfl (.c rfl .n)), by omega⟩
  omega
theorem full_ok (t tm : Int) (u : Value) (l : List EntR) (w0 : World) (ht_ : -9223372036854775808 ≤ t ∧ t ≤ 9223372036854775807) (htm_ : -9223372036854775808 ≤ tm ∧ tm ≤ 9223372036854775807) (hc : Rd w0 [] u 9 l.length (l.flatMap entV)) (hw : ∀ x ∈ l, x.wf) : Calls Tryz.prog 20 #[.agg #[.int .i64 (t), .int .i64 (tm), u]] w0 (Ret w0 [] fun x N => ∃ v, x = .tuple #[.agg #[.int .i64 ((fG t tm l).t), .int .i64 ((fG t tm l).tm), .int .i64 ((fG t tm l).b), v], .int .i64 ((fErr t tm l : Nat) : Int)] ∧ N = [row v 78 9 (fG t tm l).l.length ((fG t tm l).l.flatMap recV)]) := by
  have hce := hc.le
  simp only [maxLen] at hce
  refine enter (F0 := [(0, .agg #[.int .i64 (t), .int .i64 (tm), u])]) Tryz.func20 rfl rfl rfl (.c .n) (Mem.nil _) fun a w hs => ?_
  refine wp_seq_k fun K1 hK2 => ?_
  refine wp_region_lit ?_
  refine st_box (cs := [.int .i64 (t), .int .i64 (tm), u]) hs rfl rfl rfl ?_; clear hs w a; intro g3 a w hs
  refine st_alloc (cs := [.int .i64 (0), .int .i64 (0), .int .i64 (0), .slice none 0 0]) hs Tryz.zeroValue29 rfl rfl ?_; clear hs w a; intro g4 a w hs
  refine st_as hs rfl rfl ?_; clear hs w a; intro a w hs
  refine wpList_nil ?_
  refine then_n (hK2 _ _ ?_)
  refine wp_seq_k fun K5 hK6 => ?_
  refine wp_seq_k fun K7 hK8 => ?_
  refine wp_region_lit ?_
  refine st_ldBA hs rfl (.s .z) (.z (.c (.c (.c .n)))) Tryz.isAgg24 Tryz.sizeOf24 rfl ?_; clear hs w a; intro a w hs
  refine st_callP (v := .int .i64 (((snapErr t tm l : Nat) : Int))) hs (.c rfl .n) Tryz.call16 (scheck_ok t tm _ l _ (by omega) (by omega) (hs.rd0 hc)) rfl ?_; clear hs w a; intro a w hs
  refine st_as hs rfl rfl ?_; clear hs w a; intro a w hs
  refine wpList_nil ?_
  refine then_n (hK8 _ _ ?_)
  refine wp_seq_k fun K9 hK10 => ?_
  refine wp_region_lit ?_
  refine st_run 2 [(10, .bool (!((((snapErr t tm l : Nat) : Int) : Int) == 0)))] hs .n (by kernel_rfl) (by kernel_rfl) (by kernel_rfl) ?_; clear hs a; intro a hs
  refine wpList_nil ?_
  refine then_n (hK10 _ _ ?_)
  refine wp_if hs rfl (fun hc11 => ?_) (fun hc11 => ?_)
  ·
   replace hc11 := not_t hc11
   replace hc11 := ne_of_beq_f hc11
   refine wp_seq_k fun K12 hK13 => ?_
   refine wp_region_lit ?_
   refine st_build (it := Tryz.t29) (zs := [.int .i64 (0), .int .i64 (0), .int .i64 (0), .slice none 0 0]) (places := [(0, 1), (1, 1), (2, 1), (3, 1)]) hs .n Tryz.underlying29 rfl rfl rfl rfl .n rfl ?_; clear hs w a; intro a w hs
   refine st_mv hs rfl rfl ?_; clear hs w a; intro a w hs
   refine st_stBA hs rfl rfl .z (.z (.c (.c (.c (.c .n))))) (ones_c rfl (ones_c rfl (ones_c rfl (ones_c rfl ones_n)))) Tryz.sizeOf29 rfl ?_; clear hs w a; intro a w hs
   refine st_as hs rfl rfl ?_; clear hs w a; intro a w hs
   refine wpList_nil ?_
   refine then_n (hK13 _ _ ?_)
   refine wp_ret ?_
   refine th_r ?_
   have hE : fErr t tm l = snapErr t tm l := by first | exact fErr_1 (by omega) | (rw [fErr_2 (by omega)]) | (rw [fErr_2 (by omega)]; omega)
   have hS : fG t tm l = ⟨0, 0, 0, []⟩ := fG_e (by omega)
   replace hs := hs.addNil 78 9
   replace hs := hs.rerow .z (m' := (fG t tm l).l.length) (xs' := ((fG t tm l).l.flatMap recV)) (by rw [hS]; rfl) (by rw [hS]; rfl)
   exact finC2 hs rfl rfl rfl (.s .z) (.z (.c (.c (.c (.c .n))))) Tryz.isAgg29 Tryz.sizeOf29 (.c (.s (.s .z)) (.c (.s .z) .n)) ⟨_, by rw [hE, hS] <;> rfl, rfl⟩
  replace hc11 := not_f hc11
  replace hc11 := eq_of_beq hc11
  have hsp := snapErr_parts (by omega : snapErr t tm l = 0)
  have ht := two_nil (ents_srt hsp.2.2.2.2.2) (ents_rng hsp.2.2.2.2.2) hw
  refine wp_skip ?_
  refine then_n (hK6 _ _ ?_)
  refine wp_seq_k fun K14 hK15 => ?_
  refine wp_region_lit ?_
  refine st_mkE hs rfl ?_; clear hs w a; intro g16 a w hs
  refine st_run 2 [(16, u)] hs (.c (hs.mem.del (.s (.s .z))) .n) (by kernel_rfl) (by kernel_rfl) (by kernel_rfl) ?_; clear hs a; intro a hs
  refine st_call hs (.c rfl (.c rfl .n)) Tryz.call34 (.c .z .n) (tell_ok g16 ([]) _ l _ (hs.mem.del .z) (hs.mem.rd1 hc (.c .z .n)) (by assumption) (by first | omega | (simp; done)) (by omega)) rfl ?_; clear hs w a; rintro _ _ a w ⟨v17, rfl, rfl⟩ hs; simp only [List.cons_append, List.nil_append] at hs
  have hk18 := mL_len (by assumption : Two ([]) l)
  refine st_run 5 [(6, .int .i64 (((mE ([]) l : Nat) : Int))), (5, v17)] hs .n (by kernel_rfl) (by kernel_rfl) (by kernel_rfl) ?_; clear hs a; intro a hs
  refine wpList_nil ?_
  refine then_n (hK15 _ _ ?_)
  refine wp_seq_k fun K19 hK20 => ?_
  refine wp_seq_k fun K21 hK22 => ?_
  refine wp_region_lit ?_
  refine st_run 2 [(21, .bool (!((((mE ([]) l : Nat) : Int) : Int) == 0)))] hs .n (by kernel_rfl) (by kernel_rfl) (by kernel_rfl) ?_; clear hs a; intro a hs
  refine wpList_nil ?_
  refine then_n (hK22 _ _ ?_)
  refine wp_if hs rfl (fun hc23 => ?_) (fun hc23 => ?_)
  ·
   replace hc23 := not_t hc23
   replace hc23 := ne_of_beq_f hc23
   refine wp_seq_k fun K24 hK25 => ?_
   refine wp_region_lit ?_
   refine st_build (it := Tryz.t29) (zs := [.int .i64 (0), .int .i64 (0), .int .i64 (0), .slice none 0 0]) (places := [(0, 1), (1, 1), (2, 1), (3, 1)]) hs .n Tryz.underlying29 rfl rfl rfl rfl .n rfl ?_; clear hs w a; intro a w hs
   refine st_mv hs rfl rfl ?_; clear hs w a; intro a w hs
   refine st_stBA hs rfl rfl (.s .z) (.z (.c (.c (.c (.c .n))))) (ones_c rfl (ones_c rfl (ones_c rfl (ones_c rfl ones_n)))) Tryz.sizeOf29 rfl ?_; clear hs w a; intro a w hs
   refine st_as hs rfl rfl ?_; clear hs w a; intro a w hs
   refine wpList_nil ?_
   refine then_n (hK25 _ _ ?_)
   refine wp_ret ?_
   refine th_r ?_
   have hE : fErr t tm l = mE ([]) l := by first | exact fErr_1 (by omega) | (rw [fErr_2 (by omega)]) | (rw [fErr_2 (by omega)]; omega)
   have hS : fG t tm l = ⟨0, 0, 0, []⟩ := fG_e (by omega)
   replace hs := hs.addNil 78 9
   replace hs := hs.rerow .z (m' := (fG t tm l).l.length) (xs' := ((fG t tm l).l.flatMap recV)) (by rw [hS]; rfl) (by rw [hS]; rfl)
   exact finC2 hs rfl rfl rfl (.s .z) (.z (.c (.c (.c (.c .n))))) Tryz.isAgg29 Tryz.sizeOf29 (.c (.s (.s (.s .z))) (.c (.s (.s .z)) (.c (.s .z) .n))) ⟨_, by rw [hE, hS] <;> rfl, rfl⟩
  replace hc23 := not_f hc23
  replace hc23 := eq_of_beq hc23
  refine wp_skip ?_
  refine then_n (hK20 _ _ ?_)
  refine wp_seq_k fun K26 hK27 => ?_
  refine wp_region_lit ?_
  refine st_run 5 [(28, v17), (27, .int .i64 (tm)), (25, .int .i64 (t))] hs (.c (hs.mem.del (.s (.s .z))) (.c (hs.mem.del (.s (.s .z))) .n)) (by kernel_rfl) (by kernel_rfl) (by kernel_rfl) ?_; clear hs a; intro a hs
  refine st_build (it := Tryz.t29) (zs := [.int .i64 (0), .int .i64 (0), .int .i64 (0), .slice none 0 0]) (places := [(0, 1), (1, 1), (2, 1), (3, 1)]) hs (.c rfl (.c rfl (.c rfl (.c rfl .n)))) Tryz.underlying29 rfl rfl rfl rfl (.c rfl rfl (.z (.c .n)) (.c rfl rfl (.s (.z (.c .n))) (.c rfl rfl (.s (.s (.z (.c .n)))) (.c rfl (rd_row (hs.mem.del .z)).isSl.lcells (.s (.s (.s (.z (.c .n))))) .n)))) rfl ?_; clear hs w a; intro a w hs
  refine st_stBA hs rfl rfl (.s .z) (.z (.c (.c (.c (.c .n))))) (ones_c rfl (ones_c rfl (ones_c rfl (ones_c (rd_row (hs.mem.del .z)).isSl.one ones_n)))) Tryz.sizeOf29 rfl ?_; clear hs w a; intro a w hs
  refine st_as hs rfl rfl ?_; clear hs w a; intro a w hs
  refine wpList_nil ?_
  refine then_n (hK27 _ _ ?_)
  refine wp_ret ?_
  have hE : fErr t tm l = 0 := by rw [fErr_2 (by omega)]; omega
  have hS : fG t tm l = ⟨t, tm, -1, mL [] l⟩ := fG_0 (by omega)
  replace hs := hs.rerow (.s .z) (m' := (fG t tm l).l.length) (xs' := ((fG t tm l).l.flatMap recV)) (by rw [hS]) (by rw [hS])
  exact finC2 hs rfl rfl rfl (.s .z) (.z (.c (.c (.c (.c .n))))) Tryz.isAgg29 Tryz.sizeOf29 (.c (.s (.s .z)) (.c (.s .z) .n)) ⟨_, by rw [hE, hS] <;> rfl, rfl⟩
theorem ddiff_ok (at_ atm : Int) (ua : Value) (al : List EntR) (bt btm : Int) (ub : Value) (bl : List EntR) (w0 : World) (hat__ : -9223372036854775808 ≤ at_ ∧ at_ ≤ 9223372036854775807) (hatm_ : -9223372036854775808 ≤ atm ∧ atm ≤ 9223372036854775807) (hbt_ : -9223372036854775808 ≤ bt ∧ bt ≤ 9223372036854775807) (hbtm_ : -9223372036854775808 ≤ btm ∧ btm ≤ 9223372036854775807) (hca : Rd w0 [] ua 9 al.length (al.flatMap entV)) (hcb : Rd w0 [] ub 9 bl.length (bl.flatMap entV)) (hwa : ∀ x ∈ al, x.wf) (hwb : ∀ x ∈ bl, x.wf) : Calls Tryz.prog 13 #[.agg #[.int .i64 (at_), .int .i64 (atm), ua], .agg #[.int .i64 (bt), .int .i64 (btm), ub]] w0 (Ret w0 [] fun x N => ∃ v, x = .tuple #[.agg #[.int .i64 ((dG at_ atm al bt btm bl).t), .int .i64 ((dG at_ atm al bt btm bl).tm), .int .i64 ((dG at_ atm al bt btm bl).b), v], .int .i64 ((dErr at_ atm al bt btm bl : Nat) : Int)] ∧ N = [row v 78 9 (dG at_ atm al bt btm bl).l.length ((dG at_ atm al bt btm bl).l.flatMap recV)]) := by
  have hcea := hca.le
  simp only [maxLen] at hcea
  have hceb := hcb.le
  simp only [maxLen] at hceb
  refine enter (F0 := [(0, .agg #[.int .i64 (at_), .int .i64 (atm), ua]), (1, .agg #[.int .i64 (bt), .int .i64 (btm), ub])]) Tryz.func13 rfl rfl rfl (.c (.c .n)) (Mem.nil _) fun a w hs => ?_
  refine wp_seq_k fun K1 hK2 => ?_
  refine wp_region_lit ?_
  refine st_box (cs := [.int .i64 (at_), .int .i64 (atm), ua]) hs rfl rfl rfl ?_; clear hs w a; intro g3 a w hs
  refine st_box (cs := [.int .i64 (bt), .int .i64 (btm), ub]) hs rfl rfl rfl ?_; clear hs w a; intro g4 a w hs
  refine st_alloc (cs := [.int .i64 (0), .int .i64 (0), .int .i64 (0), .slice none 0 0]) hs Tryz.zeroValue29 rfl rfl ?_; clear hs w a; intro g5 a w hs
  refine st_as hs rfl rfl ?_; clear hs w a; intro a w hs
  refine wpList_nil ?_
  refine then_n (hK2 _ _ ?_)
  refine wp_seq_k fun K6 hK7 => ?_
  refine wp_seq_k fun K8 hK9 => ?_
  refine wp_region_lit ?_
  refine st_run 2 [(12, .agg #[.int .i64 (bt), .int .i64 (btm), ub]), (11, .agg #[.int .i64 (at_), .int .i64 (atm), ua])] hs (.c (hs.mem.del (.s (.s .z))) (.c (hs.mem.del (.s .z)) .n)) (by kernel_rfl) (by kernel_rfl) (by kernel_rfl) ?_; clear hs a; intro a hs
  refine st_bs (cs := [.int .i64 (at_), .int .i64 (atm), ua, .int .i64 (bt), .int .i64 (btm), ub]) hs (.c (.c .n)) (.c rfl (.c rfl .n)) Tryz.underlying49 (ie := Tryz.t24) rfl rfl rfl rfl (by decide) (by decide) rfl (by decide) rfl rfl rfl ?_; clear hs w a; intro g10 a w hs
  refine st_len hs rfl (rd_blk (m := 2) (size := 3) (hs.mem.del .z) rfl (by decide)).isSl Tryz.underlying49 rfl ?_; clear hs w a; intro a w hs
  replace hs := hs.recell (v' := .int .i64 (2)) (Option.some.inj rfl)
  refine st_mv hs rfl rfl ?_; clear hs w a; intro a w hs
  refine wpList_nil ?_
  refine then_n (hK9 _ _ ?_)
  refine wp_block ?_
  refine wp_loop_rounds 3 ?_
  refine rounds_in ?_
  refine wp_seq_k fun K11 hK12 => ?_
  refine wp_region_lit ?_
  refine st_lss hs rfl rfl rfl ?_; clear hs w a; intro a w hs
  rw [show (decide ((0 : Int) < 2)) = true from by decide] at hs
  refine wpList_nil ?_
  refine then_n (hK12 _ _ ?_)
  refine wp_seq_k fun K13 hK14 => ?_
  refine wp_cond_true (hs.ev rfl) ?_
  refine wp_skip ?_
  refine then_n (hK14 _ _ ?_)
  refine wp_seq_k fun K15 hK16 => ?_
  refine wp_block ?_
  refine wp_seq_k fun K17 hK18 => ?_
  refine wp_region_lit ?_
  refine st_ia (j := 0) hs rfl rfl (rd_blk (m := 2) (size := 3) (hs.mem.del .z) rfl (by decide)) (by decide) (by omega) Tryz.underlying49 Tryz.sizeOf24 rfl ?_; clear hs w a; intro a w hs
  refine st_ldA (cs := [.int .i64 (at_), .int .i64 (atm), ua]) hs rfl (rd_blk (m := 2) (size := 3) (hs.mem.del .z) rfl (by decide)) (by rfl) (by simp) (by decide) Tryz.isAgg24 Tryz.sizeOf24 rfl ?_; clear hs w a; intro a w hs
  refine st_alloc (cs := [.int .i64 (0), .int .i64 (0), .slice none 0 0]) hs Tryz.zeroValue24 rfl rfl ?_; clear hs w a; intro g19 a w hs
  refine st_stBA hs rfl rfl .z (.z (.c (.c (.c .n)))) (ones_c rfl (ones_c rfl (ones_c (hs.rd0 hca).isSl.one ones_n))) Tryz.sizeOf24 rfl ?_; clear hs w a; intro a w hs
  refine wpList_nil ?_
  refine then_n (hK18 _ _ ?_)
  refine wp_seq_k fun K20 hK21 => ?_
  refine wp_region_lit ?_
  refine st_ldBA hs rfl .z (.z (.c (.c (.c .n)))) Tryz.isAgg24 Tryz.sizeOf24 rfl ?_; clear hs w a; intro a w hs
  refine st_callP (v := .int .i64 (((snapErr at_ atm al : Nat) : Int))) hs (.c rfl .n) Tryz.call16 (scheck_ok at_ atm _ al _ (by omega) (by omega) (hs.rd0 hca)) rfl ?_; clear hs w a; intro a w hs
  refine st_as hs rfl rfl ?_; clear hs w a; intro a w hs
  refine wpList_nil ?_
  refine then_n (hK21 _ _ ?_)
  refine wp_seq_k fun K22 hK23 => ?_
  refine wp_region_lit ?_
  refine st_run 2 [(22, .bool (!((((snapErr at_ atm al : Nat) : Int) : Int) == 0))), (21, .int .i64 (((snapErr at_ atm al : Nat) : Int)))] hs .n (by kernel_rfl) (by kernel_rfl) (by kernel_rfl) ?_; clear hs a; intro a hs
  refine wpList_nil ?_
  refine then_n (hK23 _ _ ?_)
  refine wp_if hs rfl (fun hc24 => ?_) (fun hc24 => ?_)
  ·
   replace hc24 := not_t hc24
   replace hc24 := ne_of_beq_f hc24
   refine wp_seq_k fun K25 hK26 => ?_
   refine wp_region_lit ?_
   refine st_build (it := Tryz.t29) (zs := [.int .i64 (0), .int .i64 (0), .int .i64 (0), .slice none 0 0]) (places := [(0, 1), (1, 1), (2, 1), (3, 1)]) hs .n Tryz.underlying29 rfl rfl rfl rfl .n rfl ?_; clear hs w a; intro a w hs
   refine st_mv hs rfl rfl ?_; clear hs w a; intro a w hs
   refine st_stBA hs rfl rfl (.s (.s .z)) (.z (.c (.c (.c (.c .n))))) (ones_c rfl (ones_c rfl (ones_c rfl (ones_c rfl ones_n)))) Tryz.sizeOf29 rfl ?_; clear hs w a; intro a w hs
   refine st_as hs rfl rfl ?_; clear hs w a; intro a w hs
   refine wpList_nil ?_
   refine then_n (hK26 _ _ ?_)
   refine wp_ret ?_
   refine in_r ?_
   refine th_r ?_
   refine th_r ?_
   refine in_r ?_
   refine th_r ?_
   have hE : dErr at_ atm al bt btm bl = snapErr at_ atm al := by first | exact dErr_1 (by omega) | exact dErr_2 (by omega) (by omega) | exact dErr_3 (by omega) (by omega) (by omega) | (rw [dErr_4 (by omega) (by omega) (by omega)]) | (rw [dErr_4 (by omega) (by omega) (by omega)]; omega)
   have hS : dG at_ atm al bt btm bl = ⟨0, 0, 0, []⟩ := dG_e (by omega)
   replace hs := hs.addNil 78 9
   replace hs := hs.rerow .z (m' := (dG at_ atm al bt btm bl).l.length) (xs' := ((dG at_ atm al bt btm bl).l.flatMap recV)) (by rw [hS]; rfl) (by rw [hS]; rfl)
   exact finC2 hs rfl rfl rfl (.s .z) (.z (.c (.c (.c (.c .n))))) Tryz.isAgg29 Tryz.sizeOf29 (.c (.s (.s (.s (.s (.s .z))))) (.c (.s (.s (.s (.s .z)))) (.c (.s (.s (.s .z))) (.c (.s (.s .z)) (.c (.s .z) .n))))) ⟨_, by rw [hE, hS] <;> rfl, rfl⟩
  replace hc24 := not_f hc24
  replace hc24 := eq_of_beq hc24
  refine wp_skip ?_
  refine in_n ?_
  refine then_n (hK16 _ _ ?_)
  refine wp_region_lit ?_
  refine st_run 2 [(15, .int .i64 (1)), (25, .int .i64 (1))] hs .n (by kernel_rfl) (by kernel_rfl) (by kernel_rfl) ?_; clear hs a; intro a hs
  refine wpList_nil ?_
  refine then_n ?_
  refine rounds_in ?_
  refine wp_seq_k fun K27 hK28 => ?_
  refine wp_region_lit ?_
  refine st_lss hs rfl rfl rfl ?_; clear hs w a; intro a w hs
  rw [show (decide ((1 : Int) < 2)) = true from by decide] at hs
  refine wpList_nil ?_
  refine then_n (hK28 _ _ ?_)
  refine wp_seq_k fun K29 hK30 => ?_
  refine wp_cond_true (hs.ev rfl) ?_
  refine wp_skip ?_
  refine then_n (hK30 _ _ ?_)
  refine wp_seq_k fun K31 hK32 => ?_
  refine wp_block ?_
  refine wp_seq_k fun K33 hK34 => ?_
  refine wp_region_lit ?_
  refine st_ia (j := 1) hs rfl rfl (rd_blk (m := 2) (size := 3) (hs.mem.del (.s .z)) rfl (by decide)) (by decide) (by omega) Tryz.underlying49 Tryz.sizeOf24 rfl ?_; clear hs w a; intro a w hs
  refine st_ldA (cs := [.int .i64 (bt), .int .i64 (btm), ub]) hs rfl (rd_blk (m := 2) (size := 3) (hs.mem.del (.s .z)) rfl (by decide)) (by rfl) (by simp) (by decide) Tryz.isAgg24 Tryz.sizeOf24 rfl ?_; clear hs w a; intro a w hs
  refine st_alloc (cs := [.int .i64 (0), .int .i64 (0), .slice none 0 0]) hs Tryz.zeroValue24 rfl rfl ?_; clear hs w a; intro g35 a w hs
  refine st_stBA hs rfl rfl .z (.z (.c (.c (.c .n)))) (ones_c rfl (ones_c rfl (ones_c (hs.rd0 hcb).isSl.one ones_n))) Tryz.sizeOf24 rfl ?_; clear hs w a; intro a w hs
  refine wpList_nil ?_
  refine then_n (hK34 _ _ ?_)
  refine wp_seq_k fun K36 hK37 => ?_
  refine wp_region_lit ?_
  refine st_ldBA hs rfl .z (.z (.c (.c (.c .n)))) Tryz.isAgg24 Tryz.sizeOf24 rfl ?_; clear hs w a; intro a w hs
  refine st_callP (v := .int .i64 (((snapErr bt btm bl : Nat) : Int))) hs (.c rfl .n) Tryz.call16 (scheck_ok bt btm _ bl _ (by omega) (by omega) (hs.rd0 hcb)) rfl ?_; clear hs w a; intro a w hs
  refine st_as hs rfl rfl ?_; clear hs w a; intro a w hs
  refine wpList_nil ?_
  refine then_n (hK37 _ _ ?_)
  refine wp_seq_k fun K38 hK39 => ?_
  refine wp_region_lit ?_
  refine st_run 2 [(22, .bool (!((((snapErr bt btm bl : Nat) : Int) : Int) == 0))), (21, .int .i64 (((snapErr bt btm bl : Nat) : Int)))] hs .n (by kernel_rfl) (by kernel_rfl) (by kernel_rfl) ?_; clear hs a; intro a hs
  refine wpList_nil ?_
  refine then_n (hK39 _ _ ?_)
  refine wp_if hs rfl (fun hc40 => ?_) (fun hc40 => ?_)
  ·
   replace hc40 := not_t hc40
   replace hc40 := ne_of_beq_f hc40
   refine wp_seq_k fun K41 hK42 => ?_
   refine wp_region_lit ?_
   refine st_build (it := Tryz.t29) (zs := [.int .i64 (0), .int .i64 (0), .int .i64 (0), .slice none 0 0]) (places := [(0, 1), (1, 1), (2, 1), (3, 1)]) hs .n Tryz.underlying29 rfl rfl rfl rfl .n rfl ?_; clear hs w a; intro a w hs
   refine st_mv hs rfl rfl ?_; clear hs w a; intro a w hs
   refine st_stBA hs rfl rfl (.s (.s (.s .z))) (.z (.c (.c (.c (.c .n))))) (ones_c rfl (ones_c rfl (ones_c rfl (ones_c rfl ones_n)))) Tryz.sizeOf29 rfl ?_; clear hs w a; intro a w hs
   refine st_as hs rfl rfl ?_; clear hs w a; intro a w hs
   refine wpList_nil ?_
   refine then_n (hK42 _ _ ?_)
   refine wp_ret ?_
   refine in_r ?_
   refine th_r ?_
   refine th_r ?_
   refine in_r ?_
   refine th_r ?_
   have hE : dErr at_ atm al bt btm bl = snapErr bt btm bl := by first | exact dErr_1 (by omega) | exact dErr_2 (by omega) (by omega) | exact dErr_3 (by omega) (by omega) (by omega) | (rw [dErr_4 (by omega) (by omega) (by omega)]) | (rw [dErr_4 (by omega) (by omega) (by omega)]; omega)
   have hS : dG at_ atm al bt btm bl = ⟨0, 0, 0, []⟩ := dG_e (by omega)
   replace hs := hs.addNil 78 9
   replace hs := hs.rerow .z (m' := (dG at_ atm al bt btm bl).l.length) (xs' := ((dG at_ atm al bt btm bl).l.flatMap recV)) (by rw [hS]; rfl) (by rw [hS]; rfl)
   exact finC2 hs rfl rfl rfl (.s .z) (.z (.c (.c (.c (.c .n))))) Tryz.isAgg29 Tryz.sizeOf29 (.c (.s (.s (.s (.s (.s (.s .z)))))) (.c (.s (.s (.s (.s (.s .z))))) (.c (.s (.s (.s (.s .z)))) (.c (.s (.s (.s .z))) (.c (.s (.s .z)) (.c (.s .z) .n)))))) ⟨_, by rw [hE, hS] <;> rfl, rfl⟩
  replace hc40 := not_f hc40
  replace hc40 := eq_of_beq hc40
  refine wp_skip ?_
  refine in_n ?_
  refine then_n (hK32 _ _ ?_)
  refine wp_region_lit ?_
  refine st_run 2 [(15, .int .i64 (2)), (25, .int .i64 (2))] hs .n (by kernel_rfl) (by kernel_rfl) (by kernel_rfl) ?_; clear hs a; intro a hs
  refine wpList_nil ?_
  refine then_n ?_
  refine rounds_in ?_
  refine wp_seq_k fun K43 hK44 => ?_
  refine wp_region_lit ?_
  refine st_lss hs rfl rfl rfl ?_; clear hs w a; intro a w hs
  rw [show (decide ((2 : Int) < 2)) = false from by decide] at hs
  refine wpList_nil ?_
  refine then_n (hK44 _ _ ?_)
  refine wp_seq_k fun K45 hK46 => ?_
  refine wp_cond_false (hs.ev rfl) ?_
  refine wp_exit ?_
  refine th_e ?_
  refine th_e ?_
  refine in_hit ?_
  refine then_n (hK7 _ _ ?_)
  refine wp_seq_k fun K47 hK48 => ?_
  refine wp_seq_k fun K49 hK50 => ?_
  refine wp_region_lit ?_
  refine st_run 5 [(30, .bool (decide (bt ≤ at_)))] hs (.c (hs.mem.del (.s (.s (.s (.s (.s .z)))))) (.c (hs.mem.del (.s (.s (.s (.s .z))))) .n)) (by kernel_rfl) (by kernel_rfl) (by kernel_rfl) ?_; clear hs a; intro a hs
  refine wpList_nil ?_
  refine then_n (hK50 _ _ ?_)
  refine wp_if hs rfl (fun hc51 => ?_) (fun hc51 => ?_)
  ·
   replace hc51 := of_decide_eq_true hc51
   refine wp_seq_k fun K52 hK53 => ?_
   refine wp_region_lit ?_
   refine st_build (it := Tryz.t29) (zs := [.int .i64 (0), .int .i64 (0), .int .i64 (0), .slice none 0 0]) (places := [(0, 1), (1, 1), (2, 1), (3, 1)]) hs .n Tryz.underlying29 rfl rfl rfl rfl .n rfl ?_; clear hs w a; intro a w hs
   refine st_stBA hs rfl rfl (.s (.s (.s .z))) (.z (.c (.c (.c (.c .n))))) (ones_c rfl (ones_c rfl (ones_c rfl (ones_c rfl ones_n)))) Tryz.sizeOf29 rfl ?_; clear hs w a; intro a w hs
   refine st_as hs rfl rfl ?_; clear hs w a; intro a w hs
   refine wpList_nil ?_
   refine then_n (hK53 _ _ ?_)
   refine wp_ret ?_
   refine th_r ?_
   have hE : dErr at_ atm al bt btm bl = 10 := by first | exact dErr_1 (by omega) | exact dErr_2 (by omega) (by omega) | exact dErr_3 (by omega) (by omega) (by omega) | (rw [dErr_4 (by omega) (by omega) (by omega)]) | (rw [dErr_4 (by omega) (by omega) (by omega)]; omega)
   have hS : dG at_ atm al bt btm bl = ⟨0, 0, 0, []⟩ := dG_e (by omega)
   replace hs := hs.addNil 78 9
   replace hs := hs.rerow .z (m' := (dG at_ atm al bt btm bl).l.length) (xs' := ((dG at_ atm al bt btm bl).l.flatMap recV)) (by rw [hS]; rfl) (by rw [hS]; rfl)
   exact finC2 hs rfl rfl rfl (.s .z) (.z (.c (.c (.c (.c .n))))) Tryz.isAgg29 Tryz.sizeOf29 (.c (.s (.s (.s (.s (.s (.s .z)))))) (.c (.s (.s (.s (.s (.s .z))))) (.c (.s (.s (.s (.s .z)))) (.c (.s (.s (.s .z))) (.c (.s (.s .z)) (.c (.s .z) .n)))))) ⟨_, by rw [hE, hS] <;> rfl, rfl⟩
  replace hc51 := of_decide_eq_false hc51
  have hsa := snapErr_parts (by omega : snapErr at_ atm al = 0)
  have hsb := snapErr_parts (by omega : snapErr bt btm bl = 0)
  have hsrt := ents_srt hsa.2.2.2.2.2
  have ht := two_of hsa.2.2.2.2.2 hsb.2.2.2.2.2 hwa hwb
  refine wp_skip ?_
  refine then_n (hK48 _ _ ?_)
  refine wp_seq_k fun K54 hK55 => ?_
  replace hs := hs.sub (F' := [(16, .bool (false)), (15, .int .i64 (2)), (25, .int .i64 (2)), (22, .bool (!((((snapErr bt btm bl : Nat) : Int) : Int) == 0))), (21, .int .i64 (((snapErr bt btm bl : Nat) : Int))), (8, .int .i64 (((snapErr bt btm bl : Nat) : Int))), (20, .int .i64 (((snapErr bt btm bl : Nat) : Int))), (19, .agg #[.int .i64 (bt), .int .i64 (btm), ub]), (7, .pointer (some ⟨g35, 0, none⟩)), (18, .agg #[.int .i64 (bt), .int .i64 (btm), ub]), (17, .pointer (some (adr (.slice (some ⟨g10, 0, none⟩) 2 2) (1 * 3)))), (14, .int .i64 (2)), (13, .slice (some ⟨g10, 0, none⟩) 2 2), (5, .int .i64 (0)), (4, .pointer (some ⟨g5, 0, none⟩)), (3, .pointer (some ⟨g4, 0, none⟩)), (2, .pointer (some ⟨g3, 0, none⟩))]) (.c rfl (.c rfl (.c rfl (.c rfl (.c rfl (.c rfl (.c rfl (.c rfl (.c rfl (.c rfl (.c rfl (.c rfl (.c rfl (.c rfl (.c rfl (.c rfl (.c rfl .n)))))))))))))))))
  have hk59 := mL_len (by assumption : Two al bl)
  refine wp_drawG (M0 := [blk g35 [.int .i64 (bt), .int .i64 (btm), ub] 24, blk g19 [.int .i64 (at_), .int .i64 (atm), ua] 24, blk g10 [.int .i64 (at_), .int .i64 (atm), ua, .int .i64 (bt), .int .i64 (btm), ub] 24, blk g5 [.int .i64 (0), .int .i64 (0), .int .i64 (0), .slice none 0 0] 29, blk g4 [.int .i64 (bt), .int .i64 (btm), ub] 24, blk g3 [.int .i64 (at_), .int .i64 (atm), ua] 24]) (Ds := [Pv 0 (.pointer (some ⟨g3, 2, none⟩)), Pv 1 ua, ⟨[], [], [], fun vs56 => vs56 2 = .map (some (mapG (vs56 2))), fun vs56 => [mpr (mapG (vs56 2)) (ekv al)], none⟩, Pv 3 (.pointer (some ⟨g4, 2, none⟩)), Pv 4 ub, ⟨[], [2], [], fun vs56 => vs56 5 = .tuple #[(tup0 (vs56 5)), .int .i64 (((mE al bl : Nat) : Int))], fun vs56 => [row ((tup0 (vs56 5))) 78 9 ((mL al bl).length) (((mL al bl).flatMap recV))], none⟩, ⟨[], [], [5], fun vs56 => vs56 6 = .tuple #[(tup0 (vs56 5)), .int .i64 (((mE al bl : Nat) : Int))], fun vs56 => [], none⟩, ⟨[], [], [5], fun vs56 => vs56 7 = (tup0 (vs56 5)), fun vs56 => [], none⟩, Pv 8 (.int .i64 (((mE al bl : Nat) : Int))), ⟨[], [], [5], fun vs56 => vs56 9 = (tup0 (vs56 5)), fun vs56 => [], none⟩, Pv 10 (.int .i64 (((mE al bl : Nat) : Int)))]) (by kernel_rfl) hs rfl .n (by kernel_rfl) (by kernel_rfl) (by kernel_rfl) ?_ ?_
  ·
   refine (.c ?_ (.c ?_ (.c ?_ (.c ?_ (.c ?_ (.c ?_ (.c ?_ (.c ?_ (.c ?_ (.c ?_ (.c ?_ .n)))))))))))
   · exact trip_pv (m := 11) .n (fun hm0 hm hx => .n) (by kernel_rfl) (by kernel_rfl) rfl
   · exact trip_pv (m := 11) (.c (k := 0) (by kernel_rfl) rfl rfl .n) (fun hm0 hm hx => (.c (hm0.del (.s (.s (.s (.s (.s .z)))))))) (by kernel_rfl) (by kernel_rfl) rfl
   ·
    intro a_ w_ R_ rest_ vs56 hm hs ht hx
    have hm0 := hm.mid
    replace hs := hs.lrn (ht 1 (twB_spec 11 _ (by kernel_rfl))) rfl rfl
    have hs0 := hs.bare
    refine st_call hs (.c rfl .n) Tryz.call35 .n (byId_ok _ al _ (hm.rd0 hca) (by assumption)) rfl ?_; clear hs; rintro _ _ a w ⟨g57, rfl, rfl⟩ hs; simp only [List.cons_append, List.nil_append] at hs
    exact wpList_nil ⟨rfl, _, _, hs0, (.c .r), hs, rfl⟩
   · exact trip_pv (m := 11) .n (fun hm0 hm hx => .n) (by kernel_rfl) (by kernel_rfl) rfl
   · exact trip_pv (m := 11) (.c (k := 3) (by kernel_rfl) rfl rfl .n) (fun hm0 hm hx => (.c (hm0.del (.s (.s (.s (.s .z))))))) (by kernel_rfl) (by kernel_rfl) rfl
   ·
    intro a_ w_ R_ rest_ vs56 hm hs ht hx
    replace hs : St _ _ _ (feet [mpr (mapG (vs56 2)) (ekv al)]) [mpr (mapG (vs56 2)) (ekv al)] _ _ := hs
    have hm0 := hm.mid
    have t2 := ht 2 (twB_spec 11 _ (by kernel_rfl))
    have e2 : _ = some (vs56 2) := t2.val rfl
    rw [show vs56 2 = .map (some (mapG (vs56 2))) from t2.2.1] at e2
    replace hs := hs.learn e2
    replace hs := hs.lrn (ht 4 (twB_spec 11 _ (by kernel_rfl))) rfl rfl
    have hs0 := hs.bare
    refine st_call hs (.c rfl (.c rfl .n)) Tryz.call34 (.c .z .n) (tell_ok (mapG (vs56 2)) al _ bl _ (hs.mem.del .z) (hm.rd1 hcb (Dels.app _ _)) (by assumption) (by first | omega | (simp; done)) (by omega)) rfl ?_; clear hs; rintro _ _ a w ⟨v58, rfl, rfl⟩ hs; simp only [List.cons_append, List.nil_append] at hs
    have hk59 := mL_len (by assumption : Two al bl)
    exact wpList_nil ⟨rfl, _, _, hs0, (.c (.c .r)), hs, rfl⟩
   ·
    intro a_ w_ R_ rest_ vs56 hm hs ht hx
    have hm0 := hm.mid
    have t5 := ht 5 (twB_spec 11 _ (by kernel_rfl))
    have e5 : _ = some (vs56 5) := t5.val rfl
    rw [show vs56 5 = .tuple #[(tup0 (vs56 5)), .int .i64 (((mE al bl : Nat) : Int))] from t5.2.1] at e5
    replace hs := hs.learn e5
    have hs0 := hs.bare
    refine st_mv hs rfl rfl ?_; clear hs; intro a w hs
    exact wpList_nil ⟨rfl, _, _, hs0, (.c .r), hs, rfl⟩
   ·
    intro a_ w_ R_ rest_ vs56 hm hs ht hx
    have hm0 := hm.mid
    have t6 := ht 6 (twB_spec 11 _ (by kernel_rfl))
    have e6 : _ = some (vs56 6) := t6.val rfl
    rw [show vs56 6 = .tuple #[(tup0 (vs56 5)), .int .i64 (((mE al bl : Nat) : Int))] from t6.2.1] at e6
    replace hs := hs.learn e6
    have hs0 := hs.bare
    refine st_ex hs rfl .z rfl ?_; clear hs; intro a w hs
    exact wpList_nil ⟨rfl, _, _, hs0, (.c .r), hs, rfl⟩
   ·
    intro a_ w_ R_ rest_ vs56 hm hs ht hx
    have hm0 := hm.mid
    have t6 := ht 6 (twB_spec 11 _ (by kernel_rfl))
    have e6 : _ = some (vs56 6) := t6.val rfl
    rw [show vs56 6 = .tuple #[(tup0 (vs56 5)), .int .i64 (((mE al bl : Nat) : Int))] from t6.2.1] at e6
    replace hs := hs.learn e6
    have hs0 := hs.bare
    refine st_ex hs rfl (.s .z) rfl ?_; clear hs; intro a w hs
    exact wpList_nil ⟨rfl, _, _, hs0, (.c .r), hs, rfl⟩
   ·
    intro a_ w_ R_ rest_ vs56 hm hs ht hx
    have hm0 := hm.mid
    have t7 := ht 7 (twB_spec 11 _ (by kernel_rfl))
    have e7 : _ = some (vs56 7) := t7.val rfl
    rw [show vs56 7 = (tup0 (vs56 5)) from t7.2.1] at e7
    replace hs := hs.learn e7
    have hs0 := hs.bare
    refine st_as hs rfl rfl ?_; clear hs; intro a w hs
    exact wpList_nil ⟨rfl, _, _, hs0, (.c .r), hs, rfl⟩
   exact trip_pv (m := 11) (.c (k := 8) (by kernel_rfl) rfl rfl .n) (fun hm0 hm hx => .n) (by kernel_rfl) (by kernel_rfl) rfl
  clear hs w a; intro a w vs56 hs hf
  replace hs : St _ _ _ _ [blk g35 [.int .i64 (bt), .int .i64 (btm), ub] 24, blk g19 [.int .i64 (at_), .int .i64 (atm), ua] 24, blk g10 [.int .i64 (at_), .int .i64 (atm), ua, .int .i64 (bt), .int .i64 (btm), ub] 24, blk g5 [.int .i64 (0), .int .i64 (0), .int .i64 (0), .slice none 0 0] 29, blk g4 [.int .i64 (bt), .int .i64 (btm), ub] 24, blk g3 [.int .i64 (at_), .int .i64 (atm), ua] 24, row ((tup0 (vs56 5))) 78 9 ((mL al bl).length) (((mL al bl).flatMap recV))] _ _ := hs
  obtain ⟨e9, q9⟩ := hf 9 (by decide)
  replace e9 : _ = some (vs56 9) := e9.val rfl
  rw [show vs56 9 = (tup0 (vs56 5)) from q9] at e9
  replace hs := hs.learn e9; clear e9 q9
  obtain ⟨e10, q10⟩ := hf 10 (by decide)
  replace e10 : _ = some (vs56 10) := e10.val rfl
  rw [show vs56 10 = .int .i64 (((mE al bl : Nat) : Int)) from q10] at e10
  replace hs := hs.learn e10; clear e10 q10
  generalize tup0 (vs56 5) = v60 at hs
  clear hf
  refine then_n (hK55 _ _ ?_)
  refine wp_seq_k fun K61 hK62 => ?_
  refine wp_seq_k fun K63 hK64 => ?_
  refine wp_region_lit ?_
  refine st_run 2 [(42, .bool (!((((mE al bl : Nat) : Int) : Int) == 0)))] hs .n (by kernel_rfl) (by kernel_rfl) (by kernel_rfl) ?_; clear hs a; intro a hs
  refine wpList_nil ?_
  refine then_n (hK64 _ _ ?_)
  refine wp_if hs rfl (fun hc65 => ?_) (fun hc65 => ?_)
  ·
   replace hc65 := not_t hc65
   replace hc65 := ne_of_beq_f hc65
   refine wp_seq_k fun K66 hK67 => ?_
   refine wp_region_lit ?_
   refine st_build (it := Tryz.t29) (zs := [.int .i64 (0), .int .i64 (0), .int .i64 (0), .slice none 0 0]) (places := [(0, 1), (1, 1), (2, 1), (3, 1)]) hs .n Tryz.underlying29 rfl rfl rfl rfl .n rfl ?_; clear hs w a; intro a w hs
   refine st_mv hs rfl rfl ?_; clear hs w a; intro a w hs
   refine st_stBA hs rfl rfl (.s (.s (.s .z))) (.z (.c (.c (.c (.c .n))))) (ones_c rfl (ones_c rfl (ones_c rfl (ones_c rfl ones_n)))) Tryz.sizeOf29 rfl ?_; clear hs w a; intro a w hs
   refine st_as hs rfl rfl ?_; clear hs w a; intro a w hs
   refine wpList_nil ?_
   refine then_n (hK67 _ _ ?_)
   refine wp_ret ?_
   refine th_r ?_
   have hE : dErr at_ atm al bt btm bl = mE al bl := by first | exact dErr_1 (by omega) | exact dErr_2 (by omega) (by omega) | exact dErr_3 (by omega) (by omega) (by omega) | (rw [dErr_4 (by omega) (by omega) (by omega)]) | (rw [dErr_4 (by omega) (by omega) (by omega)]; omega)
   have hS : dG at_ atm al bt btm bl = ⟨0, 0, 0, []⟩ := dG_e (by omega)
   replace hs := hs.addNil 78 9
   replace hs := hs.rerow .z (m' := (dG at_ atm al bt btm bl).l.length) (xs' := ((dG at_ atm al bt btm bl).l.flatMap recV)) (by rw [hS]; rfl) (by rw [hS]; rfl)
   exact finC2 hs rfl rfl rfl (.s .z) (.z (.c (.c (.c (.c .n))))) Tryz.isAgg29 Tryz.sizeOf29 (.c (.s (.s (.s (.s (.s (.s (.s .z))))))) (.c (.s (.s (.s (.s (.s (.s .z)))))) (.c (.s (.s (.s (.s (.s .z))))) (.c (.s (.s (.s (.s .z)))) (.c (.s (.s (.s .z))) (.c (.s (.s .z)) (.c (.s .z) .n))))))) ⟨_, by rw [hE, hS] <;> rfl, rfl⟩
  replace hc65 := not_f hc65
  replace hc65 := eq_of_beq hc65
  refine wp_skip ?_
  refine then_n (hK62 _ _ ?_)
  refine wp_seq_k fun K68 hK69 => ?_
  refine wp_region_lit ?_
  refine st_run 7 [(51, v60), (50, .int .i64 (at_)), (48, .int .i64 (btm)), (46, .int .i64 (bt))] hs (.c (hs.mem.del (.s (.s (.s (.s .z))))) (.c (hs.mem.del (.s (.s (.s (.s .z))))) (.c (hs.mem.del (.s (.s (.s (.s (.s .z)))))) .n))) (by kernel_rfl) (by kernel_rfl) (by kernel_rfl) ?_; clear hs a; intro a hs
  refine st_build (it := Tryz.t29) (zs := [.int .i64 (0), .int .i64 (0), .int .i64 (0), .slice none 0 0]) (places := [(0, 1), (1, 1), (2, 1), (3, 1)]) hs (.c rfl (.c rfl (.c rfl (.c rfl .n)))) Tryz.underlying29 rfl rfl rfl rfl (.c rfl rfl (.z (.c .n)) (.c rfl rfl (.s (.z (.c .n))) (.c rfl rfl (.s (.s (.z (.c .n)))) (.c rfl (rd_row (hs.mem.del (.s (.s (.s (.s (.s (.s .z)))))))).isSl.lcells (.s (.s (.s (.z (.c .n))))) .n)))) rfl ?_; clear hs w a; intro a w hs
  refine st_stBA hs rfl rfl (.s (.s (.s .z))) (.z (.c (.c (.c (.c .n))))) (ones_c rfl (ones_c rfl (ones_c rfl (ones_c (rd_row (hs.mem.del (.s (.s (.s (.s (.s (.s .z)))))))).isSl.one ones_n)))) Tryz.sizeOf29 rfl ?_; clear hs w a; intro a w hs
  refine st_as hs rfl rfl ?_; clear hs w a; intro a w hs
  refine wpList_nil ?_
  refine then_n (hK69 _ _ ?_)
  refine wp_ret ?_
  have hE : dErr at_ atm al bt btm bl = 0 := by rw [dErr_4 (by omega) (by omega) (by omega)]; omega
  have hS : dG at_ atm al bt btm bl = ⟨bt, btm, at_, mL al bl⟩ := dG_0 (by omega)
  replace hs := hs.rerow (.s (.s (.s (.s (.s (.s .z)))))) (m' := (dG at_ atm al bt btm bl).l.length) (xs' := ((dG at_ atm al bt btm bl).l.flatMap recV)) (by rw [hS]) (by rw [hS])
  exact finC2 hs rfl rfl rfl (.s .z) (.z (.c (.c (.c (.c .n))))) Tryz.isAgg29 Tryz.sizeOf29 (.c (.s (.s (.s (.s (.s (.s .z)))))) (.c (.s (.s (.s (.s (.s .z))))) (.c (.s (.s (.s (.s .z)))) (.c (.s (.s (.s .z))) (.c (.s (.s .z)) (.c (.s .z) .n)))))) ⟨_, by rw [hE, hS] <;> rfl, rfl⟩
end Go.Proofs.YtbioemaipghagaaGreat
