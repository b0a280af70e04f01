/- Walks of telling: what each function does, over the program of this seat. Printed by a program of this session. -/
import Derived.Test.YtbioemaipghagaaGreatQWdel
import Derived.Test.YtbioemaipghagaaGreatQSxBasB
namespace Go.Proofs.YtbioemaipghagaaGreat
open Go Go.Sx Go.RowKit
set_option linter.unusedVariables false
set_option linter.unusedSimpArgs false
set_option maxRecDepth 4000
set_option maxHeartbeats 1000000

theorem tell_ok (g : Nat) (m : List EntR) (u : Value) (l : List EntR) (w0 : World) (hg : (mpr g (ekv m)).p w0) (hc : Rd w0 (feet [mpr g (ekv m)]) u 9 l.length (l.flatMap entV)) (ht : Two m l) (hm : m.length ≤ 100000) (hl : l.length ≤ 100000) : Calls Tryz.prog 34 #[.map (some g), u] w0 (Ret w0 (feet [mpr g (ekv m)]) fun x N => ∃ v, x = .tuple #[v, .int .i64 ((mE m l : Nat) : Int)] ∧ N = [row v 78 9 (mL m l).length ((mL m l).flatMap recV)]) := by
 have hce := hc.le
 simp only [maxLen] at hce
 refine enterG (F0 := [(0, .map (some g)), (1, u)]) Tryz.func34 rfl rfl rfl (.c (.c .n)) (mem_one hg (by simp [mpr])) fun a w hs => ?_
 refine go 4 [] [15, 6, 0] hs .n ?_; clear hs w a; intro a w hs
 refine st_len hs rfl (hs.rd0 hc).isSl Tryz.underlying22 rfl ?_; clear hs w a; intro a w hs
 refine goL 1 [] [17, 16, 15, 6, 0] hs .n ?_; clear hs w a; intro a w hs
 replace hs := hs.addNil 78 9
 replace hs := hs.rerow .z (m' := ([] : List RecR).length) (xs' := (([] : List RecR).flatMap recV)) (rfl) (rfl)
 refine loopG (fun mm_ a w => ∃ j : Nat, ∃ p : Value, ∃ out : List RecR, ∃ mm : List EntR, mm_ = l.length - j ∧ St 89 [(0, .map (some g)), (6, p), (15, u), (16, .int .i64 (((l.length : Nat) : Int))), (17, .int .i64 ((j : Int)))] w0 (feet [mpr g (ekv m)]) [row p 78 9 out.length (out.flatMap recV), mpr g (ekv mm)] a w ∧ j ≤ l.length ∧ (tFold m l = (tFold mm (l.drop j)).map (fun s => (out ++ s.1, s.2))) ∧ out.length ≤ j ∧ mm.length ≤ m.length) ⟨0, .slice none 0 0, [], m, rfl, hs.sub (.c rfl (.c rfl (.c rfl (.c rfl (.c rfl .n))))), by omega, tInv0 m l, by simp, Nat.le_refl _⟩ ?_
 clear hs w a; rintro mm_ a w ⟨j, p, out, mm, rfl, hs, hI1_0, hI1_1, hI1_2, hI1_3⟩
 refine go 1 [] [18, 0, 6, 15, 16, 17] hs .n ?_; clear hs w a; intro a w hs
 refine ifG hs rfl (fun c_1 => ?_) (fun c_1 => ?_)
 ·
  replace c_1 := of_decide_eq_true c_1
  refine go 0 [] [0, 6, 15, 16, 17] hs .n ?_; clear hs w a; intro a w hs
  refine st_ia (j := j) hs rfl rfl (hs.rd0 hc) rfl (by omega) Tryz.underlying22 Tryz.sizeOf73 rfl ?_; clear hs w a; intro a w hs
  refine st_ldA (cs := entV (l.getD j default)) hs rfl (hs.rd0 hc) (flat_get entV_len l j (by omega)) (by rw [flat_len entV_len]; omega) (by omega) Tryz.isAgg73 Tryz.sizeOf73 rfl ?_; clear hs w a; intro a w hs
  refine goL 5 [0, 0] [24, 22, 8, 0, 6, 15, 16, 17] hs .n (fun g2 => ⟨rfl, rfl, ?_⟩); clear hs w a; intro a w hs
  refine st_lookE hs rfl rfl (.s (.s .z)) Tryz.underlying81 Tryz.underlying3 Tryz.zeroValue73 rfl ?_; clear hs w a; intro a w hs
  refine goL 9 [0, 1] [30, 28, 10, 9, 8, 0, 6, 15, 16, 17] hs (.c .z .n) (fun g3 => ⟨rfl, rfl, ?_⟩); clear hs w a; intro a w hs
  refine st_delE hs rfl rfl (.s (.s (.s .z))) Tryz.underlying81 Tryz.underlying3 rfl ?_; clear hs w a; intro a w hs
  refine goL 2 [] [32, 10, 9, 8, 0, 6, 15, 16, 17] hs .n ?_; clear hs w a; intro a w hs
  refine ifG hs rfl (fun c_4 => ?_) (fun c_4 => ?_)
  ·
   replace c_4 := not_t c_4
   have hn_ : (eget ((l.getD j default).id) mm) = none := isSome_f (by assumption)
   rw [hn_] at hs
   refine go 6 [0, 1, 0] [37, 35, 10, 9, 8, 0, 6, 15, 16, 17] hs (.c (.s .z) (.c (.s .z) .n)) ⟨rfl, rfl, rfl, ?_⟩; clear hs w a; intro a w hs
   refine st_sub_u8 (X := (l.getD j default).g) (Y := 0#8) hs rfl rfl rfl (by decide) rfl ?_; clear hs w a; intro a w hs
   refine goL 4 [] [50, 11, 10, 9, 8, 0, 6, 15, 16, 17] hs .n ?_; clear hs w a; intro a w hs
   refine ifG hs rfl (fun c_5 => ?_) (fun c_5 => ?_)
   ·
    rw [c_5] at hs
    replace c_5 := of_decide_eq_true c_5
    refine go 3 [] [5, 4] hs .n ?_; clear hs w a; intro a w hs
    have hz := tell_none ht (tInv_err (by omega) hI1_1 (tStep_n1 hn_ (by omega)))
    replace hs := hs.addNil 78 9
    replace hs := hs.rerow .z (m' := (mL m l).length) (xs' := ((mL m l).flatMap recV)) (by rw [hz.2]; rfl) (by rw [hz.2]; rfl)
    replace hs := hs.drop (.c (.s (.s (.s (.s .z)))) (.c (.s (.s (.s .z))) (.c (.s (.s .z)) (.c (.s .z) .n))))
    exact fin2 hs rfl rfl rfl ⟨_, congrArg (fun z : Nat => Value.tuple #[.slice none 0 0, .int .i64 (z : Int)]) hz.1.symm, rfl⟩
   rw [c_5] at hs
   replace c_5 := of_decide_eq_false c_5
   refine go 7 [] [50, 10, 9, 8, 0, 6, 15, 16, 17] hs .n ?_; clear hs w a; intro a w hs
   refine ifG hs rfl (fun c_6 => ?_) (fun c_6 => ?_)
   ·
    replace c_6 := of_decide_eq_true c_6
    refine go 2 [] [5, 4] hs .n ?_; clear hs w a; intro a w hs
    have hz := tell_none ht (tInv_err (by omega) hI1_1 (tStep_n1 hn_ (by omega)))
    replace hs := hs.addNil 78 9
    replace hs := hs.rerow .z (m' := (mL m l).length) (xs' := ((mL m l).flatMap recV)) (by rw [hz.2]; rfl) (by rw [hz.2]; rfl)
    replace hs := hs.drop (.c (.s (.s (.s (.s .z)))) (.c (.s (.s (.s .z))) (.c (.s (.s .z)) (.c (.s .z) .n))))
    exact fin2 hs rfl rfl rfl ⟨_, congrArg (fun z : Nat => Value.tuple #[.slice none 0 0, .int .i64 (z : Int)]) hz.1.symm, rfl⟩
   replace c_6 := of_decide_eq_false c_6
   refine go 15 [0, 0, 0, 0] [72, 62, 0, 15, 16, 17] hs (.c (.s .z) .n) ⟨rfl, rfl, rfl, rfl, fun g7 => ?_⟩; clear hs w a; intro a w hs
   refine st_app (size := 9) (bytes := 72) hs rfl rfl (.s (.s (.s (.s .z)))) (rd_blk (m := 1) (size := 9) (hs.mem.del .z) rfl (by decide)) (by simp [Value.oneCell']) Tryz.underlying27 (i := Tryz.t78) rfl rfl rfl rfl rfl (by decide) (by omega) (by simp only [maxLen]; omega) rfl ?_; clear hs w a; intro v8 a w hs
   replace hs := hs.drop (.c (.s .z) .n)
   refine goL 3 [] [17, 6, 0, 15, 16] hs .n ⟨(by omega), ?_⟩; clear hs w a; intro a w hs
   have hT := tInv_next (by omega) hI1_1 (tStep_n0 hn_ (by omega))
   have hol : (out ++ [putOf (l.getD j default)]).length ≤ j + 1 := by have := hI1_2; rw [List.length_append]; simp; omega
   have hml := edel_len (l.getD j default).id mm
   replace hs := hs.rerow .z (m' := (out ++ [putOf (l.getD j default)]).length) (xs' := ((out ++ [putOf (l.getD j default)]).flatMap recV)) (by rw [List.length_append]; rfl) (by rw [List.flatMap_append]; rfl)
   replace hs := hs.drop (.c (.s (.s .z)) (.c (.s .z) .n))
   refine ⟨_, ?_, j + 1, v8, out ++ [putOf (l.getD j default)], edel (l.getD j default).id mm, rfl, hs.sub (.c rfl (.c rfl (.c rfl (.c rfl (.c rfl .n))))), by omega, hT, hol, Nat.le_trans hml hI1_3⟩
   omega
  replace c_4 := not_f c_4
  obtain ⟨o, ho⟩ := isSome_t (by assumption : (eget ((l.getD j default).id) mm).isSome = true)
  rw [ho] at hs
  refine go 4 [0, 1] [37, 35, 10, 9, 8, 0, 6, 15, 16, 17] hs (.c (.s (.s .z)) (.c (.s .z) .n)) ⟨rfl, rfl, ?_⟩; clear hs w a; intro a w hs
  refine st_sub_u8 (X := (l.getD j default).g) (Y := o.g) hs rfl rfl rfl rfl rfl ?_; clear hs w a; intro a w hs
  refine goL 4 [] [50, 11, 10, 9, 8, 0, 6, 15, 16, 17] hs .n ?_; clear hs w a; intro a w hs
  refine ifG hs rfl (fun c_9 => ?_) (fun c_9 => ?_)
  ·
   rw [c_9] at hs
   replace c_9 := of_decide_eq_true c_9
   refine go 3 [] [5, 4] hs .n ?_; clear hs w a; intro a w hs
   have hz := tell_none ht (tInv_err (by omega) hI1_1 (tStep_s1 ho (by omega)))
   replace hs := hs.addNil 78 9
   replace hs := hs.rerow .z (m' := (mL m l).length) (xs' := ((mL m l).flatMap recV)) (by rw [hz.2]; rfl) (by rw [hz.2]; rfl)
   replace hs := hs.drop (.c (.s (.s (.s (.s .z)))) (.c (.s (.s (.s .z))) (.c (.s (.s .z)) (.c (.s .z) .n))))
   exact fin2 hs rfl rfl rfl ⟨_, congrArg (fun z : Nat => Value.tuple #[.slice none 0 0, .int .i64 (z : Int)]) hz.1.symm, rfl⟩
  rw [c_9] at hs
  replace c_9 := of_decide_eq_false c_9
  refine go 14 [0, 1] [41, 40, 0, 6, 15, 16, 17] hs (.c (.s .z) (.c .z .n)) ⟨rfl, rfl, ?_⟩; clear hs w a; intro a w hs
  refine st_callP (v := .tuple #[.agg #[.int .i64 (((recDiff o (l.getD j default)).1).k), .int .i64 (((recDiff o (l.getD j default)).1).id), .int .i64 (((recDiff o (l.getD j default)).1).p0), .int .i64 (((recDiff o (l.getD j default)).1).p1), .int .i64 (((recDiff o (l.getD j default)).1).p2), .int .i64 (((recDiff o (l.getD j default)).1).v0), .int .i64 (((recDiff o (l.getD j default)).1).v1), .int .i64 (((recDiff o (l.getD j default)).1).v2), .int .u16 ((((((recDiff o (l.getD j default)).1).a).toNat : Nat) : Int))], .bool ((recDiff o (l.getD j default)).2)]) hs (.c rfl (.c rfl .n)) Tryz.call60 (diff_ok o (l.getD j default) _) rfl ?_; clear hs w a; intro a w hs
  refine goL 7 [0] [45, 12, 0, 6, 15, 16, 17] hs .n (fun g10 => ⟨rfl, ?_⟩); clear hs w a; intro a w hs
  refine ifG hs rfl (fun c_11 => ?_) (fun c_11 => ?_)
  ·
   refine go 3 [0] [48, 46, 0, 15, 16, 17] hs (.c .z .n) ⟨rfl, fun g12 => ?_⟩; clear hs w a; intro a w hs
   refine st_app (size := 9) (bytes := 72) hs rfl rfl (.s (.s (.s (.s (.s .z))))) (rd_blk (m := 1) (size := 9) (hs.mem.del .z) rfl (by decide)) (by simp [Value.oneCell']) Tryz.underlying27 (i := Tryz.t78) rfl rfl rfl rfl rfl (by decide) (by omega) (by simp only [maxLen]; omega) rfl ?_; clear hs w a; intro v13 a w hs
   replace hs := hs.drop (.c (.s .z) .n)
   refine goL 3 [] [17, 6, 0, 15, 16] hs .n ⟨(by omega), ?_⟩; clear hs w a; intro a w hs
   have hT := tInv_next (by omega) hI1_1 (tStep_s0 ho (by omega))
   have hol : (out ++ stepR o (l.getD j default)).length ≤ j + 1 := by have := hI1_2; rw [List.length_append]; have := stepR_len o (l.getD j default); omega
   have hml := edel_len (l.getD j default).id mm
   replace hs := hs.rerow .z (m' := (out ++ stepR o (l.getD j default)).length) (xs' := ((out ++ stepR o (l.getD j default)).flatMap recV)) (by rw [stepR_t (by assumption), List.length_append]; rfl) (by rw [stepR_t (by assumption), List.flatMap_append]; rfl)
   replace hs := hs.drop (.c (.s (.s (.s .z))) (.c (.s (.s .z)) (.c (.s .z) .n)))
   refine ⟨_, ?_, j + 1, v13, out ++ stepR o (l.getD j default), edel (l.getD j default).id mm, rfl, hs.sub (.c rfl (.c rfl (.c rfl (.c rfl (.c rfl .n))))), by omega, hT, hol, Nat.le_trans hml hI1_3⟩
   omega
  refine go 2 [] [17, 0, 6, 15, 16] hs .n ⟨(by omega), ?_⟩; clear hs w a; intro a w hs
  have hT := tInv_next (by omega) hI1_1 (tStep_s0 ho (by omega))
  have hol : (out ++ stepR o (l.getD j default)).length ≤ j + 1 := by have := hI1_2; rw [List.length_append]; have := stepR_len o (l.getD j default); omega
  have hml := edel_len (l.getD j default).id mm
  replace hs := hs.rerow (.s (.s (.s (.s .z)))) (m' := (out ++ stepR o (l.getD j default)).length) (xs' := ((out ++ stepR o (l.getD j default)).flatMap recV)) (by rw [stepR_f (by assumption), List.append_nil]) (by rw [stepR_f (by assumption), List.append_nil])
  replace hs := hs.drop (.c (.s (.s (.s .z))) (.c (.s (.s .z)) (.c (.s .z) .n)))
  refine ⟨_, ?_, j + 1, p, out ++ stepR o (l.getD j default), edel (l.getD j default).id mm, rfl, hs.sub (.c rfl (.c rfl (.c rfl (.c rfl (.c rfl .n))))), by omega, hT, hol, Nat.le_trans hml hI1_3⟩
  omega
 replace c_1 := of_decide_eq_false c_1
 refine go 1 [] [75, 6] hs .n ?_; clear hs w a; intro a w hs
 refine st_rangeE hs rfl (.s .z) Tryz.underlying81 rfl ?_; clear hs w a; intro it14 a w hs
 refine goL 0 [] [76, 6] hs .n ?_; clear hs w a; intro a w hs
 replace hs := hs.rerow (.s .z) (m' := out.length + ([] : List EntR).length) (xs' := ((out ++ ([] : List EntR).map remOf).flatMap recV)) (by simp) (by simp)
 refine loopG (fun mm_ a w => ∃ dn : List EntR, ∃ q : Value, mm_ = mm.length - dn.length ∧ St 89 [(6, q), (76, .pointer (some ⟨it14, 0, none⟩))] w0 (feet [mpr g (ekv m)]) [row q 78 9 (out.length + dn.length) (((out ++ dn.map remOf).flatMap recV)), mit g it14 (ekv mm) (ekv dn)] a w ∧ dn.length ≤ mm.length) ⟨[], p, rfl, hs.sub (.c rfl (.c rfl .n)), by simp⟩ ?_
 clear hs w a; rintro mm_ a w ⟨dn, q, rfl, hs, hI2_0⟩
 refine go 0 [] [6, 76] hs .n ?_; clear hs w a; intro a w hs
 refine st_nextE hs rfl (.s .z) rfl (fun hp15 => ?_) (fun x16 hm17 hl18 => ?_)
 ·
  clear hs w a; intro a w hs
  refine goL 3 [] [86, 6] hs .n ?_; clear hs w a; intro a w hs
  refine st_call hs (.c rfl (.c rfl .n)) Tryz.call61 (.c (.s .z) .n) (sortR_ok (hs.mem.del (.s .z)) (by first | omega | (simp; done) | (simp; omega)) (by first | omega | (simp; omega))) rfl ?_; clear hs w a; rintro _ _ a w ⟨rfl, l19, ⟨hp20, hs21⟩, rfl⟩ hs; simp only [List.cons_append, List.nil_append] at hs
  refine goL 3 [] [5, 4] hs .n ?_; clear hs w a; intro a w hs
  have hz := tell_some ht (tInv_end (by omega) hI1_1) (hp20.trans ((hp15.map remOf).append_left out)) hs21
  replace hs := hs.rerow .z (m' := (mL m l).length) (xs' := ((mL m l).flatMap recV)) (by rw [hz.2, hp20.length_eq]; simp) (by rw [hz.2])
  replace hs := hs.drop (.c (.s .z) .n)
  exact fin2 hs rfl rfl rfl ⟨_, congrArg (fun z : Nat => Value.tuple #[q, .int .i64 (z : Int)]) hz.1.symm, rfl⟩
 clear hs w a; intro a w hs
 refine goL 2 [] [6, 76] hs .n ?_; clear hs w a; intro a w hs
 refine st_entryE hs rfl .z rfl ?_; clear hs w a; intro a w hs
 refine goL 6 [] [84, 81, 76] hs .n (fun g22 => ?_); clear hs w a; intro a w hs
 refine st_app (size := 9) (bytes := 72) hs rfl rfl (.s (.s .z)) (rd_blk (m := 1) (size := 9) (hs.mem.del .z) rfl (by decide)) (by simp [Value.oneCell']) Tryz.underlying27 (i := Tryz.t78) rfl rfl rfl rfl rfl (by decide) (by omega) (by simp only [maxLen]; omega) rfl ?_; clear hs w a; intro v23 a w hs
 replace hs := hs.drop (.c (.s .z) .n)
 refine goL 1 [] [6, 76] hs .n ?_; clear hs w a; intro a w hs
 have hal_ : (dn ++ [x16]).length = dn.length + 1 := by simp
 replace hs := hs.rerow .z (m' := out.length + (dn ++ [x16]).length) (xs' := ((out ++ (dn ++ [x16]).map remOf).flatMap recV)) (by rw [hal_]; rfl) (by rw [List.map_append, ← List.append_assoc, List.flatMap_append (xs := out ++ dn.map remOf)]; rfl)
 refine ⟨_, ?_, dn ++ [x16], v23, rfl, hs.sub (.c rfl (.c rfl .n)), by omega⟩
 omega
theorem full_ok (t tm : Int) (u : Value) (l : List EntR) (w0 : World) (ht_ : -9223372036854775808 ≤ t ∧ t ≤ 9223372036854775807) (htm_ : -9223372036854775808 ≤ tm ∧ tm ≤ 9223372036854775807) (hc : Rd w0 [] u 9 l.length (l.flatMap entV)) (hw : ∀ x ∈ l, x.wf) : Calls Tryz.prog 20 #[.agg #[.int .i64 (t), .int .i64 (tm), u]] w0 (Ret w0 [] fun x N => ∃ v, x = .tuple #[.agg #[.int .i64 ((fG t tm l).t), .int .i64 ((fG t tm l).tm), .int .i64 ((fG t tm l).b), v], .int .i64 ((fErr t tm l : Nat) : Int)] ∧ N = [row v 78 9 (fG t tm l).l.length ((fG t tm l).l.flatMap recV)]) := by
 have hce := hc.le
 simp only [maxLen] at hce
 refine enterG (F0 := [(0, .agg #[.int .i64 (t), .int .i64 (tm), u])]) Tryz.func20 rfl rfl rfl (.c .n) (Mem.nil _) fun a w hs => ?_
 refine go 4 [0, 1] [7, 2, 1] hs .n (fun g1 => fun g2 => ⟨rfl, ?_⟩); clear hs w a; intro a w hs
 refine st_callP (v := .int .i64 (((snapErr t tm l : Nat) : Int))) hs (.c rfl .n) Tryz.call16 (scheck_ok t tm _ l _ (by omega) (by omega) (hs.rd0 hc)) rfl ?_; clear hs w a; intro a w hs
 refine goL 3 [] [10, 4, 2, 1] hs .n ?_; clear hs w a; intro a w hs
 refine ifG hs rfl (fun c_3 => ?_) (fun c_3 => ?_)
 ·
  replace c_3 := not_t c_3
  replace c_3 := ne_of_beq_f c_3
  refine go 4 [0] [3, 2] hs (.c .z .n) ⟨rfl, ?_⟩; clear hs w a; intro a w hs
  have hE : fErr t tm l = snapErr t tm l := by first | exact fErr_1 (by omega) | (rw [fErr_2 (by omega)]) | (rw [fErr_2 (by omega)]; omega)
  have hS : fG t tm l = ⟨0, 0, 0, []⟩ := fG_e (by omega)
  replace hs := hs.addNil 78 9
  replace hs := hs.rerow .z (m' := (fG t tm l).l.length) (xs' := ((fG t tm l).l.flatMap recV)) (by rw [hS]; rfl) (by rw [hS]; rfl)
  exact finC2 hs rfl rfl rfl (.s .z) (.z (.c (.c (.c (.c .n))))) Tryz.isAgg29 Tryz.sizeOf29 (.c (.s (.s .z)) (.c (.s .z) .n)) ⟨_, by rw [hE, hS] <;> rfl, rfl⟩
 replace c_3 := not_f c_3
 replace c_3 := eq_of_beq c_3
 have hsp := snapErr_parts (by omega : snapErr t tm l = 0)
 have ht := two_nil (ents_srt hsp.2.2.2.2.2) (ents_rng hsp.2.2.2.2.2) hw
 refine go 0 [] [2, 1] hs .n ?_; clear hs w a; intro a w hs
 refine st_mkE hs rfl ?_; clear hs w a; intro g4 a w hs
 refine goL 2 [0] [16, 14, 2, 1] hs (.c (.s (.s .z)) .n) ⟨rfl, ?_⟩; clear hs w a; intro a w hs
 refine st_call hs (.c rfl (.c rfl .n)) Tryz.call34 (.c (.s .z) .n) (tell_ok g4 ([]) _ l _ (hs.mem.del (.s .z)) (hs.mem.rd1 hc (.c (.s .z) .n)) (by assumption) (by first | omega | (simp; done)) (by omega)) rfl ?_; clear hs w a; rintro _ _ a w ⟨v5, rfl, rfl⟩ hs; simp only [List.cons_append, List.nil_append] at hs
 have hk6 := mL_len (by assumption : Two ([]) l)
 refine goL 7 [] [21, 6, 5, 2, 1] hs .n ?_; clear hs w a; intro a w hs
 refine ifG hs rfl (fun c_7 => ?_) (fun c_7 => ?_)
 ·
  replace c_7 := not_t c_7
  replace c_7 := ne_of_beq_f c_7
  refine go 4 [0] [3, 2] hs (.c (.s (.s .z)) .n) ⟨rfl, ?_⟩; clear hs w a; intro a w hs
  have hE : fErr t tm l = mE ([]) l := by first | exact fErr_1 (by omega) | (rw [fErr_2 (by omega)]) | (rw [fErr_2 (by omega)]; omega)
  have hS : fG t tm l = ⟨0, 0, 0, []⟩ := fG_e (by omega)
  replace hs := hs.addNil 78 9
  replace hs := hs.rerow .z (m' := (fG t tm l).l.length) (xs' := ((fG t tm l).l.flatMap recV)) (by rw [hS]; rfl) (by rw [hS]; rfl)
  exact finC2 hs rfl rfl rfl (.s .z) (.z (.c (.c (.c (.c .n))))) Tryz.isAgg29 Tryz.sizeOf29 (.c (.s (.s (.s .z))) (.c (.s (.s .z)) (.c (.s .z) .n))) ⟨_, by rw [hE, hS] <;> rfl, rfl⟩
 replace c_7 := not_f c_7
 replace c_7 := eq_of_beq c_7
 refine go 5 [0, 0] [28, 27, 25, 2] hs (.c (.s .z) .n) ⟨rfl, rfl, ?_⟩; clear hs w a; intro a w hs
 refine st_build (it := Tryz.t29) (zs := [.int .i64 (0), .int .i64 (0), .int .i64 (0), .slice none 0 0]) (places := [(0, 1), (1, 1), (2, 1), (3, 1)]) hs (.c rfl (.c rfl (.c rfl (.c rfl .n)))) Tryz.underlying29 rfl rfl rfl rfl (.c rfl rfl (.z (.c .n)) (.c rfl rfl (.s (.z (.c .n))) (.c rfl rfl (.s (.s (.z (.c .n)))) (.c rfl (rd_row (hs.mem.del (.s .z))).isSl.lcells (.s (.s (.s (.z (.c .n))))) .n)))) rfl ?_; clear hs w a; intro a w hs
 refine st_stBA hs rfl rfl (.s (.s .z)) (.z (.c (.c (.c (.c .n))))) (ones_c rfl (ones_c rfl (ones_c rfl (ones_c (rd_row (hs.mem.del (.s .z))).isSl.one ones_n)))) Tryz.sizeOf29 rfl ?_; clear hs w a; intro a w hs
 refine goL 1 [] [3, 2] hs .n ?_; clear hs w a; intro a w hs
 have hE : fErr t tm l = 0 := by rw [fErr_2 (by omega)]; omega
 have hS : fG t tm l = ⟨t, tm, -1, mL [] l⟩ := fG_0 (by omega)
 replace hs := hs.rerow (.s (.s .z)) (m' := (fG t tm l).l.length) (xs' := ((fG t tm l).l.flatMap recV)) (by rw [hS]) (by rw [hS])
 exact finC2 hs rfl rfl rfl (.s .z) (.z (.c (.c (.c (.c .n))))) Tryz.isAgg29 Tryz.sizeOf29 (.c (.s (.s .z)) (.c (.s .z) .n)) ⟨_, by rw [hE, hS] <;> rfl, rfl⟩
theorem ddiff_ok (at_ atm : Int) (ua : Value) (al : List EntR) (bt btm : Int) (ub : Value) (bl : List EntR) (w0 : World) (hat__ : -9223372036854775808 ≤ at_ ∧ at_ ≤ 9223372036854775807) (hatm_ : -9223372036854775808 ≤ atm ∧ atm ≤ 9223372036854775807) (hbt_ : -9223372036854775808 ≤ bt ∧ bt ≤ 9223372036854775807) (hbtm_ : -9223372036854775808 ≤ btm ∧ btm ≤ 9223372036854775807) (hca : Rd w0 [] ua 9 al.length (al.flatMap entV)) (hcb : Rd w0 [] ub 9 bl.length (bl.flatMap entV)) (hwa : ∀ x ∈ al, x.wf) (hwb : ∀ x ∈ bl, x.wf) : Calls Tryz.prog 13 #[.agg #[.int .i64 (at_), .int .i64 (atm), ua], .agg #[.int .i64 (bt), .int .i64 (btm), ub]] w0 (Ret w0 [] fun x N => ∃ v, x = .tuple #[.agg #[.int .i64 ((dG at_ atm al bt btm bl).t), .int .i64 ((dG at_ atm al bt btm bl).tm), .int .i64 ((dG at_ atm al bt btm bl).b), v], .int .i64 ((dErr at_ atm al bt btm bl : Nat) : Int)] ∧ N = [row v 78 9 (dG at_ atm al bt btm bl).l.length ((dG at_ atm al bt btm bl).l.flatMap recV)]) := by
 have hcea := hca.le
 simp only [maxLen] at hcea
 have hceb := hcb.le
 simp only [maxLen] at hceb
 refine enterG (F0 := [(0, .agg #[.int .i64 (at_), .int .i64 (atm), ua]), (1, .agg #[.int .i64 (bt), .int .i64 (btm), ub])]) Tryz.func13 rfl rfl rfl (.c (.c .n)) (Mem.nil _) fun a w hs => ?_
 refine go 9 [0, 0, 2, 1] [15, 14, 13, 4, 3, 2] hs .n (fun g1 => fun g2 => fun g3 => ⟨rfl, rfl, fun g4 => ?_⟩); clear hs w a; intro a w hs
 refine roundsG 2 ?_
 refine go 2 [] [15, 14, 13, 4, 3, 2] hs .n ?_; clear hs w a; intro a w hs
 refine st_ia (j := 0) hs rfl rfl (rd_blk (m := 2) (size := 3) (hs.mem.del .z) rfl (by decide)) (by decide) (by omega) Tryz.underlying49 Tryz.sizeOf24 rfl ?_; clear hs w a; intro a w hs
 refine st_ldA (cs := [.int .i64 (at_), .int .i64 (atm), ua]) hs rfl (rd_blk (m := 2) (size := 3) (hs.mem.del .z) rfl (by decide)) (by rfl) (by simp) (by decide) Tryz.isAgg24 Tryz.sizeOf24 rfl ?_; clear hs w a; intro a w hs
 refine goL 1 [] [7, 18, 15, 14, 13, 4, 3, 2] hs .n (fun g5 => ?_); clear hs w a; intro a w hs
 refine st_stBA hs rfl rfl .z (.z (.c (.c (.c .n)))) (ones_c rfl (ones_c rfl (ones_c (hs.rd0 hca).isSl.one ones_n))) Tryz.sizeOf24 rfl ?_; clear hs w a; intro a w hs
 refine goL 1 [0] [19, 15, 14, 13, 4, 3, 2] hs (.c .z .n) ⟨rfl, ?_⟩; clear hs w a; intro a w hs
 refine st_callP (v := .int .i64 (((snapErr at_ atm al : Nat) : Int))) hs (.c rfl .n) Tryz.call16 (scheck_ok at_ atm _ al _ (by omega) (by omega) (hs.rd0 hca)) rfl ?_; clear hs w a; intro a w hs
 refine goL 3 [] [22, 8, 15, 14, 13, 4, 3, 2] hs .n ?_; clear hs w a; intro a w hs
 refine ifG hs rfl (fun c_6 => ?_) (fun c_6 => ?_)
 ·
  replace c_6 := not_t c_6
  replace c_6 := ne_of_beq_f c_6
  refine go 4 [0] [5, 4] hs (.c (.s (.s .z)) .n) ⟨rfl, ?_⟩; clear hs w a; intro a w hs
  have hE : dErr at_ atm al bt btm bl = snapErr at_ atm al := by first | exact dErr_1 (by omega) | exact dErr_2 (by omega) (by omega) | exact dErr_3 (by omega) (by omega) (by omega) | (rw [dErr_4 (by omega) (by omega) (by omega)]) | (rw [dErr_4 (by omega) (by omega) (by omega)]; omega)
  have hS : dG at_ atm al bt btm bl = ⟨0, 0, 0, []⟩ := dG_e (by omega)
  replace hs := hs.addNil 78 9
  replace hs := hs.rerow .z (m' := (dG at_ atm al bt btm bl).l.length) (xs' := ((dG at_ atm al bt btm bl).l.flatMap recV)) (by rw [hS]; rfl) (by rw [hS]; rfl)
  exact finC2 hs rfl rfl rfl (.s .z) (.z (.c (.c (.c (.c .n))))) Tryz.isAgg29 Tryz.sizeOf29 (.c (.s (.s (.s (.s (.s .z))))) (.c (.s (.s (.s (.s .z)))) (.c (.s (.s (.s .z))) (.c (.s (.s .z)) (.c (.s .z) .n))))) ⟨_, by rw [hE, hS] <;> rfl, rfl⟩
 replace c_6 := not_f c_6
 replace c_6 := eq_of_beq c_6
 refine go 2 [] [15, 14, 13, 4, 3, 2] hs .n ⟨by decide, ?_⟩; clear hs w a; intro a w hs
 refine againG ?_
 refine go 2 [] [15, 14, 13, 4, 3, 2] hs .n ?_; clear hs w a; intro a w hs
 refine st_ia (j := 1) hs rfl rfl (rd_blk (m := 2) (size := 3) (hs.mem.del (.s .z)) rfl (by decide)) (by decide) (by omega) Tryz.underlying49 Tryz.sizeOf24 rfl ?_; clear hs w a; intro a w hs
 refine st_ldA (cs := [.int .i64 (bt), .int .i64 (btm), ub]) hs rfl (rd_blk (m := 2) (size := 3) (hs.mem.del (.s .z)) rfl (by decide)) (by rfl) (by simp) (by decide) Tryz.isAgg24 Tryz.sizeOf24 rfl ?_; clear hs w a; intro a w hs
 refine goL 1 [] [7, 18, 15, 14, 13, 4, 3, 2] hs .n (fun g7 => ?_); clear hs w a; intro a w hs
 refine st_stBA hs rfl rfl .z (.z (.c (.c (.c .n)))) (ones_c rfl (ones_c rfl (ones_c (hs.rd0 hcb).isSl.one ones_n))) Tryz.sizeOf24 rfl ?_; clear hs w a; intro a w hs
 refine goL 1 [0] [19, 15, 14, 13, 4, 3, 2] hs (.c .z .n) ⟨rfl, ?_⟩; clear hs w a; intro a w hs
 refine st_callP (v := .int .i64 (((snapErr bt btm bl : Nat) : Int))) hs (.c rfl .n) Tryz.call16 (scheck_ok bt btm _ bl _ (by omega) (by omega) (hs.rd0 hcb)) rfl ?_; clear hs w a; intro a w hs
 refine goL 3 [] [22, 8, 15, 14, 13, 4, 3, 2] hs .n ?_; clear hs w a; intro a w hs
 refine ifG hs rfl (fun c_8 => ?_) (fun c_8 => ?_)
 ·
  replace c_8 := not_t c_8
  replace c_8 := ne_of_beq_f c_8
  refine go 4 [0] [5, 4] hs (.c (.s (.s (.s .z))) .n) ⟨rfl, ?_⟩; clear hs w a; intro a w hs
  have hE : dErr at_ atm al bt btm bl = snapErr bt btm bl := by first | exact dErr_1 (by omega) | exact dErr_2 (by omega) (by omega) | exact dErr_3 (by omega) (by omega) (by omega) | (rw [dErr_4 (by omega) (by omega) (by omega)]) | (rw [dErr_4 (by omega) (by omega) (by omega)]; omega)
  have hS : dG at_ atm al bt btm bl = ⟨0, 0, 0, []⟩ := dG_e (by omega)
  replace hs := hs.addNil 78 9
  replace hs := hs.rerow .z (m' := (dG at_ atm al bt btm bl).l.length) (xs' := ((dG at_ atm al bt btm bl).l.flatMap recV)) (by rw [hS]; rfl) (by rw [hS]; rfl)
  exact finC2 hs rfl rfl rfl (.s .z) (.z (.c (.c (.c (.c .n))))) Tryz.isAgg29 Tryz.sizeOf29 (.c (.s (.s (.s (.s (.s (.s .z)))))) (.c (.s (.s (.s (.s (.s .z))))) (.c (.s (.s (.s (.s .z)))) (.c (.s (.s (.s .z))) (.c (.s (.s .z)) (.c (.s .z) .n)))))) ⟨_, by rw [hE, hS] <;> rfl, rfl⟩
 replace c_8 := not_f c_8
 replace c_8 := eq_of_beq c_8
 refine go 2 [] [15, 14, 13, 4, 3, 2] hs .n ⟨by decide, ?_⟩; clear hs w a; intro a w hs
 refine againG ?_
 refine go 7 [0, 1] [30, 4, 3, 2] hs (.c (.s (.s (.s (.s (.s .z))))) (.c (.s (.s (.s (.s .z)))) .n)) ⟨rfl, rfl, ?_⟩; clear hs w a; intro a w hs
 refine ifG hs rfl (fun c_9 => ?_) (fun c_9 => ?_)
 ·
  replace c_9 := of_decide_eq_true c_9
  refine go 3 [0] [5, 4] hs (.c (.s (.s (.s (.s (.s .z))))) .n) ⟨rfl, ?_⟩; clear hs w a; intro a w hs
  have hE : dErr at_ atm al bt btm bl = 10 := by first | exact dErr_1 (by omega) | exact dErr_2 (by omega) (by omega) | exact dErr_3 (by omega) (by omega) (by omega) | (rw [dErr_4 (by omega) (by omega) (by omega)]) | (rw [dErr_4 (by omega) (by omega) (by omega)]; omega)
  have hS : dG at_ atm al bt btm bl = ⟨0, 0, 0, []⟩ := dG_e (by omega)
  replace hs := hs.addNil 78 9
  replace hs := hs.rerow .z (m' := (dG at_ atm al bt btm bl).l.length) (xs' := ((dG at_ atm al bt btm bl).l.flatMap recV)) (by rw [hS]; rfl) (by rw [hS]; rfl)
  exact finC2 hs rfl rfl rfl (.s .z) (.z (.c (.c (.c (.c .n))))) Tryz.isAgg29 Tryz.sizeOf29 (.c (.s (.s (.s (.s (.s (.s .z)))))) (.c (.s (.s (.s (.s (.s .z))))) (.c (.s (.s (.s (.s .z)))) (.c (.s (.s (.s .z))) (.c (.s (.s .z)) (.c (.s .z) .n)))))) ⟨_, by rw [hE, hS] <;> rfl, rfl⟩
 replace c_9 := of_decide_eq_false c_9
 have hsa := snapErr_parts (by omega : snapErr at_ atm al = 0)
 have hsb := snapErr_parts (by omega : snapErr bt btm bl = 0)
 have hsrt := ents_srt hsa.2.2.2.2.2
 have ht := two_of hsa.2.2.2.2.2 hsb.2.2.2.2.2 hwa hwb
 refine go 0 [] [4, 3, 2] hs .n ?_; clear hs w a; intro a w hs
 have hk13 := mL_len (by assumption : Two al bl)
 refine wp_drawS [.p [] [], .p [0] [0], .x [1] ⟨[], [], [], fun vs10 => vs10 2 = .map (some (mapG (vs10 2))), fun vs10 => [mpr (mapG (vs10 2)) (ekv al)], none⟩, .p [] [], .p [3] [1], .x [4] ⟨[], [2], [], fun vs10 => vs10 5 = .tuple #[(tup0 (vs10 5)), .int .i64 (((mE al bl : Nat) : Int))], fun vs10 => [row ((tup0 (vs10 5))) 78 9 ((mL al bl).length) (((mL al bl).flatMap recV))], none⟩, .x [] ⟨[], [], [5], fun vs10 => vs10 6 = .tuple #[(tup0 (vs10 5)), .int .i64 (((mE al bl : Nat) : Int))], fun vs10 => [], none⟩, .x [] ⟨[], [], [5], fun vs10 => vs10 7 = (tup0 (vs10 5)), fun vs10 => [], none⟩, .x [] ⟨[], [], [], fun vs10 => vs10 8 = .int .i64 (((mE al bl : Nat) : Int)), fun vs10 => [], none⟩, .x [] ⟨[], [], [5], fun vs10 => vs10 9 = (tup0 (vs10 5)), fun vs10 => [], none⟩, .x [] ⟨[], [], [], fun vs10 => vs10 10 = .int .i64 (((mE al bl : Nat) : Int)), fun vs10 => [], none⟩] [] hs .n (.c .z (.c .z .n)) (by kernel_rfl) ⟨rfl, rfl, ⟨rfl, by kernel_rfl, fun _ => rfl⟩, ⟨?_, ?_, ?_, ?_, ?_, ?_, ?_, trivial⟩, ?_⟩
 ·
  intro a_ w_ R_ rest_ vs10 hm hs ht hx
  have hs0 := hs.bare
  refine st_call hs (.c rfl .n) Tryz.call35 .n (byId_ok _ al _ (hm.rd0 hca) (by assumption)) rfl ?_; clear hs; rintro _ _ a w ⟨g11, rfl, rfl⟩ hs; simp only [List.cons_append, List.nil_append] at hs
  exact wpList_nil ⟨rfl, _, _, hs0, (.c .r), hs, rfl⟩
 ·
  intro a_ w_ R_ rest_ vs10 hm hs ht hx
  have t2 := ht 2 (twB_spec 11 _ (by kernel_rfl))
  have e2 : _ = some (vs10 2) := t2.val rfl
  rw [show vs10 2 = .map (some (mapG (vs10 2))) from t2.2.1] at e2
  replace hs := hs.learn e2
  have hs0 := hs.bare
  refine st_call hs (.c rfl (.c rfl .n)) Tryz.call34 (.c .z .n) (tell_ok (mapG (vs10 2)) al _ bl _ (hs.mem.del .z) (hm.rd1 hcb (Dels.app _ _)) (by assumption) (by first | omega | (simp; done)) (by omega)) rfl ?_; clear hs; rintro _ _ a w ⟨v12, rfl, rfl⟩ hs; simp only [List.cons_append, List.nil_append] at hs
  have hk13 := mL_len (by assumption : Two al bl)
  exact wpList_nil ⟨rfl, _, _, hs0, (.c (.c .r)), hs, rfl⟩
 ·
  intro a_ w_ R_ rest_ vs10 hm hs ht hx
  have t5 := ht 5 (twB_spec 11 _ (by kernel_rfl))
  have e5 : _ = some (vs10 5) := t5.val rfl
  rw [show vs10 5 = .tuple #[(tup0 (vs10 5)), .int .i64 (((mE al bl : Nat) : Int))] from t5.2.1] at e5
  replace hs := hs.learn e5
  have hs0 := hs.bare
  refine st_mv hs rfl rfl ?_; clear hs; intro a w hs
  exact wpList_nil ⟨rfl, _, _, hs0, (.c .r), hs, rfl⟩
 ·
  intro a_ w_ R_ rest_ vs10 hm hs ht hx
  have t6 := ht 6 (twB_spec 11 _ (by kernel_rfl))
  have e6 : _ = some (vs10 6) := t6.val rfl
  rw [show vs10 6 = .tuple #[(tup0 (vs10 5)), .int .i64 (((mE al bl : Nat) : Int))] from t6.2.1] at e6
  replace hs := hs.learn e6
  have hs0 := hs.bare
  refine st_ex hs rfl .z rfl ?_; clear hs; intro a w hs
  exact wpList_nil ⟨rfl, _, _, hs0, (.c .r), hs, rfl⟩
 ·
  intro a_ w_ R_ rest_ vs10 hm hs ht hx
  have t6 := ht 6 (twB_spec 11 _ (by kernel_rfl))
  have e6 : _ = some (vs10 6) := t6.val rfl
  rw [show vs10 6 = .tuple #[(tup0 (vs10 5)), .int .i64 (((mE al bl : Nat) : Int))] from t6.2.1] at e6
  replace hs := hs.learn e6
  have hs0 := hs.bare
  refine st_ex hs rfl (.s .z) rfl ?_; clear hs; intro a w hs
  exact wpList_nil ⟨rfl, _, _, hs0, (.c .r), hs, rfl⟩
 ·
  intro a_ w_ R_ rest_ vs10 hm hs ht hx
  have t7 := ht 7 (twB_spec 11 _ (by kernel_rfl))
  have e7 : _ = some (vs10 7) := t7.val rfl
  rw [show vs10 7 = (tup0 (vs10 5)) from t7.2.1] at e7
  replace hs := hs.learn e7
  have hs0 := hs.bare
  refine st_as hs rfl rfl ?_; clear hs; intro a w hs
  exact wpList_nil ⟨rfl, _, _, hs0, (.c .r), hs, rfl⟩
 ·
  intro a_ w_ R_ rest_ vs10 hm hs ht hx
  have t8 := ht 8 (twB_spec 11 _ (by kernel_rfl))
  have e8 : _ = some (vs10 8) := t8.val rfl
  rw [show vs10 8 = .int .i64 (((mE al bl : Nat) : Int)) from t8.2.1] at e8
  replace hs := hs.learn e8
  have hs0 := hs.bare
  refine st_as hs rfl rfl ?_; clear hs; intro a w hs
  exact wpList_nil ⟨rfl, _, _, hs0, (.c .r), hs, rfl⟩
 clear hs w a; intro vs10 a w hs hf
 obtain ⟨e9, q9⟩ := hf 9 (by decide)
 replace e9 : _ = some (vs10 9) := e9.val rfl
 rw [show vs10 9 = (tup0 (vs10 5)) from q9] at e9
 replace hs := hs.learn e9; clear e9 q9
 obtain ⟨e10, q10⟩ := hf 10 (by decide)
 replace e10 : _ = some (vs10 10) := e10.val rfl
 rw [show vs10 10 = .int .i64 (((mE al bl : Nat) : Int)) from q10] at e10
 replace hs := hs.learn e10; clear e10 q10
 generalize tup0 (vs10 5) = v14 at hs
 clear hf
 refine goE 2 [] [42, 10, 9, 4, 3, 2] hs .n ?_; clear hs w a; intro a w hs
 refine ifG hs rfl (fun c_15 => ?_) (fun c_15 => ?_)
 ·
  replace c_15 := not_t c_15
  replace c_15 := ne_of_beq_f c_15
  refine go 4 [0] [5, 4] hs (.c (.s (.s (.s (.s (.s .z))))) .n) ⟨rfl, ?_⟩; clear hs w a; intro a w hs
  have hE : dErr at_ atm al bt btm bl = mE al bl := by first | exact dErr_1 (by omega) | exact dErr_2 (by omega) (by omega) | exact dErr_3 (by omega) (by omega) (by omega) | (rw [dErr_4 (by omega) (by omega) (by omega)]) | (rw [dErr_4 (by omega) (by omega) (by omega)]; omega)
  have hS : dG at_ atm al bt btm bl = ⟨0, 0, 0, []⟩ := dG_e (by omega)
  replace hs := hs.addNil 78 9
  replace hs := hs.rerow .z (m' := (dG at_ atm al bt btm bl).l.length) (xs' := ((dG at_ atm al bt btm bl).l.flatMap recV)) (by rw [hS]; rfl) (by rw [hS]; rfl)
  exact finC2 hs rfl rfl rfl (.s .z) (.z (.c (.c (.c (.c .n))))) Tryz.isAgg29 Tryz.sizeOf29 (.c (.s (.s (.s (.s (.s (.s (.s .z))))))) (.c (.s (.s (.s (.s (.s (.s .z)))))) (.c (.s (.s (.s (.s (.s .z))))) (.c (.s (.s (.s (.s .z)))) (.c (.s (.s (.s .z))) (.c (.s (.s .z)) (.c (.s .z) .n))))))) ⟨_, by rw [hE, hS] <;> rfl, rfl⟩
 replace c_15 := not_f c_15
 replace c_15 := eq_of_beq c_15
 refine go 7 [0, 0, 1] [51, 50, 48, 46, 4] hs (.c (.s .z) (.c .z .n)) ⟨rfl, rfl, rfl, ?_⟩; clear hs w a; intro a w hs
 refine st_build (it := Tryz.t29) (zs := [.int .i64 (0), .int .i64 (0), .int .i64 (0), .slice none 0 0]) (places := [(0, 1), (1, 1), (2, 1), (3, 1)]) hs (.c rfl (.c rfl (.c rfl (.c rfl .n)))) Tryz.underlying29 rfl rfl rfl rfl (.c rfl rfl (.z (.c .n)) (.c rfl rfl (.s (.z (.c .n))) (.c rfl rfl (.s (.s (.z (.c .n)))) (.c rfl (rd_row (hs.mem.del (.s (.s (.s (.s (.s (.s .z)))))))).isSl.lcells (.s (.s (.s (.z (.c .n))))) .n)))) rfl ?_; clear hs w a; intro a w hs
 refine st_stBA hs rfl rfl (.s (.s (.s (.s (.s .z))))) (.z (.c (.c (.c (.c .n))))) (ones_c rfl (ones_c rfl (ones_c rfl (ones_c (rd_row (hs.mem.del (.s (.s (.s (.s (.s (.s .z)))))))).isSl.one ones_n)))) Tryz.sizeOf29 rfl ?_; clear hs w a; intro a w hs
 refine goL 1 [] [5, 4] hs .n ?_; clear hs w a; intro a w hs
 have hE : dErr at_ atm al bt btm bl = 0 := by rw [dErr_4 (by omega) (by omega) (by omega)]; omega
 have hS : dG at_ atm al bt btm bl = ⟨bt, btm, at_, mL al bl⟩ := dG_0 (by omega)
 replace hs := hs.rerow (.s (.s (.s (.s (.s (.s .z)))))) (m' := (dG at_ atm al bt btm bl).l.length) (xs' := ((dG at_ atm al bt btm bl).l.flatMap recV)) (by rw [hS]) (by rw [hS])
 exact finC2 hs rfl rfl rfl (.s .z) (.z (.c (.c (.c (.c .n))))) Tryz.isAgg29 Tryz.sizeOf29 (.c (.s (.s (.s (.s (.s (.s .z)))))) (.c (.s (.s (.s (.s (.s .z))))) (.c (.s (.s (.s (.s .z)))) (.c (.s (.s (.s .z))) (.c (.s (.s .z)) (.c (.s .z) .n)))))) ⟨_, by rw [hE, hS] <;> rfl, rfl⟩
end Go.Proofs.YtbioemaipghagaaGreat
