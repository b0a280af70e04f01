/- Walks of the document's records: what each function does, over the program of this seat. Printed by a program of this session. -/
import Derived.Test.YtbacobmcfelmkaaGreatQWrec
import Derived.Test.YtbacobmcfelmkaaGreatQSxBasB
namespace Go.Proofs.YtbacobmcfelmkaaGreat
open Tryz
open Go Go.Sx Go.RowKit
set_option linter.unusedVariables false
set_option linter.unusedSimpArgs false
set_option maxRecDepth 4000
set_option maxHeartbeats 1000000

theorem zJh (x : Int) (w0 : World) (hx : -9223372036854775808 ≤ x ∧ x ≤ 9223372036854775807) : Calls Tryz.prog 135 #[.int .i64 x] w0 (Ret w0 [] fun r N => N = [row r 5 1 (zDj x).length (zF (zDj x))]) := by
 refine zT (F0 := [(0, zI x)]) func135 rfl rfl rfl (.c .n) (Mem.nil _) ?_
 refine go 2 [] [3] .n ?_
 intro a w hs; refine zH (v := qI (zFK x)) hs (.c rfl .n) call110 (zO3 x _ (by omega)) rfl ?_
 intro a w hs; refine zO hs (.c rfl .n) call109 .n (zEN (zFK x) _) rfl ?_; clear hs w a; rintro v1 _ a w rfl hs
 revert a w hs
 refine goL 1 [] [2] .n ?_
 refine cl (·.rerow .z (m' := (zDj x).length) (xs' := zF (zDj x)) (by rfl) (by rfl)) ?_
 intro a w hs; exact fin hs rfl rfl rfl
theorem zKN (r : zAd) (last : Int) (w0 : World) (hw : r.wf) (hl : -9223372036854775808 ≤ last ∧ last ≤ 9223372036854775807) : Calls Tryz.prog 111 #[.agg #[zI r.k, zI r.id, zI r.p0, zI r.p1, zI r.p2, zI r.v0, zI r.v1, zI r.v2, .int .u16 (((r.a).toNat : Nat) : Int)], .int .i64 last] w0 (Ret w0 [] fun u N => ∃ v, u = .tuple #[v, nI (zBG r last)] ∧ N = [row v 5 1 (zCg r last).length (zF (zCg r last))]) := by
 have hwf := hw.facts
 have hva := zDu r.a.toNat
 have hal := zF5 r
 have hsl := zFc r
 have hul := zBI r 6
 have hul0 := zBI r 0
 have hhl := zFX r last
 have hvX := zCJ (BitVec.ofInt 64 (r.id - last - 1)).toNat
 refine zT (F0 := [(0, .agg #[zI r.k, zI r.id, zI r.p0, zI r.p1, zI r.p2, zI r.v0, zI r.v1, zI r.v2, .int .u16 (((r.a).toNat : Nat) : Int)]), (1, zI last)]) func111 rfl rfl rfl (.c (.c .n)) (Mem.nil _) ?_
 refine go 4 [0, 0] [15, 2, 1] .n (fun g1 => ⟨rfl, ?_⟩)
 intro a w hs; refine zH (v := nI (zAk r)) hs (.c rfl .n) call94 (zOD r _) rfl ?_
 refine goL 3 [] [18, 6, 2, 1] .n ?_
 refine ifG rfl (fun c_2 => ?_) (fun c_2 => ?_)
 ·
  refine go 3 [] [5, 4] .n ?_
  have hre : zBG r last = zAk r := by first | exact zBA (by omega) | exact zBC (by omega) (by omega) | exact zBB (by omega) (by omega) (by omega) | exact zBX (by omega) (by omega) (by omega)
  refine cl (·.drop (.c .z .n)) ?_
  refine cl (·.addNil 5 1) ?_
  intro a w hs; replace hs := hs.rerow .z (m' := (zCg r last).length) (xs' := zF (zCg r last)) (by rw [zBt (by omega)]; rfl) (by rw [zBt (by omega)]; rfl)
  exact zCF hs rfl rfl rfl ⟨_, congrArg (fun z : Nat => Value.tuple #[.slice none 0 0, zI (z : Int)]) hre.symm, rfl⟩
 have hck := zJs (r := r) (by omega)
 refine go 3 [] [22, 2, 1] .n ?_
 intro a w hs; refine zAB (b := decide (last < (-1))) (fun c_3 => ?_) (fun c_3 => ?_)
 ·
  rw [c_3] at hs
  replace c_3 := of_decide_eq_true c_3
  revert a w hs
  refine go 6 [] [5, 4] .n ?_
  have hre : zBG r last = 3 := by first | exact zBA (by omega) | exact zBC (by omega) (by omega) | exact zBB (by omega) (by omega) (by omega) | exact zBX (by omega) (by omega) (by omega)
  refine cl (·.drop (.c .z .n)) ?_
  refine cl (·.addNil 5 1) ?_
  intro a w hs; replace hs := hs.rerow .z (m' := (zCg r last).length) (xs' := zF (zCg r last)) (by rw [zBt (by omega)]; rfl) (by rw [zBt (by omega)]; rfl)
  exact zCF hs rfl rfl rfl ⟨_, congrArg (fun z : Nat => Value.tuple #[.slice none 0 0, zI (z : Int)]) hre.symm, rfl⟩
 rw [c_3] at hs
 replace c_3 := of_decide_eq_false c_3
 revert a w hs
 refine go 3 [] [25, 2, 1] .n ?_
 refine ifG rfl (fun c_4 => ?_) (fun c_4 => ?_)
 ·
  refine go 2 [] [5, 4] .n ?_
  have hre : zBG r last = 3 := by first | exact zBA (by omega) | exact zBC (by omega) (by omega) | exact zBB (by omega) (by omega) (by omega) | exact zBX (by omega) (by omega) (by omega)
  refine cl (·.drop (.c .z .n)) ?_
  refine cl (·.addNil 5 1) ?_
  intro a w hs; replace hs := hs.rerow .z (m' := (zCg r last).length) (xs' := zF (zCg r last)) (by rw [zBt (by omega)]; rfl) (by rw [zBt (by omega)]; rfl)
  exact zCF hs rfl rfl rfl ⟨_, congrArg (fun z : Nat => Value.tuple #[.slice none 0 0, zI (z : Int)]) hre.symm, rfl⟩
 refine go 4 [0] [29, 2, 1] (.c .z .n) ⟨rfl, ?_⟩
 refine ifG rfl (fun c_5 => ?_) (fun c_5 => ?_)
 ·
  refine go 2 [] [5, 4] .n ?_
  have hre : zBG r last = 10 := by first | exact zBA (by omega) | exact zBC (by omega) (by omega) | exact zBB (by omega) (by omega) (by omega) | exact zBX (by omega) (by omega) (by omega)
  refine cl (·.drop (.c .z .n)) ?_
  refine cl (·.addNil 5 1) ?_
  intro a w hs; replace hs := hs.rerow .z (m' := (zCg r last).length) (xs' := zF (zCg r last)) (by rw [zBt (by omega)]; rfl) (by rw [zBt (by omega)]; rfl)
  exact zCF hs rfl rfl rfl ⟨_, congrArg (fun z : Nat => Value.tuple #[.slice none 0 0, zI (z : Int)]) hre.symm, rfl⟩
 refine go 0 [] [2, 1] .n ?_
 intro a w hs
 refine zAx [.p [] [], .p [0] [0], .p [] [], .p [2, 1] [], .p [3] [], .v [4] (qI (BitVec.ofInt 64 ((r.id - last) - 1))), .x [5] ⟨[], [], [], fun vs6 => True, fun vs6 => [row (vs6 6) 5 1 (zCe (BitVec.ofInt 64 ((r.id - last) - 1)).toNat) (zF (zDL (BitVec.ofInt 64 ((r.id - last) - 1)).toNat))], none⟩, .p [] [], .p [7] [0], .v [8] (bI (BitVec.ofInt 8 r.k)), .x [9] ⟨[], [], [], fun vs6 => vs6 10 = .slice (some ⟨(zCQ (vs6 10)), 0, none⟩) 1 1, fun vs6 => [blk (zCQ (vs6 10)) [bI (BitVec.ofInt 8 r.k)] 5], none⟩, .x [] ⟨[], [6], [], fun vs6 => True, fun vs6 => [row (vs6 11) 5 1 ((zAN r last).length) (zF (zAN r last))], none⟩, .x [] ⟨[], [], [11], fun vs6 => vs6 12 = (vs6 11), fun vs6 => [], none⟩] [] hs .n .n (.c .z .n) (by kernel_rfl) ⟨rfl, (by omega), (by omega), fun _ _ _ _ hm hs K => zA0 hs rfl underlying3 underlying130 rfl (vk K), rfl, fun _ _ _ _ hm hs K => zL3 hs rfl underlying3 underlying5 rfl (vk K), ⟨.n, by kernel_rfl, fun _ => rfl, rfl, rfl⟩, ⟨?_, ?_, ?_, ?_, trivial⟩, ?_⟩
 ·
  intro a_ w_ R_ rest_ vs6 hm hs ht hx
  have hs0 := hs.bare
  refine zO hs (.c rfl .n) call109 .n (zEN (BitVec.ofInt 64 ((r.id - last) - 1)) _) rfl ?_; clear hs; rintro v7 _ a w rfl hs
  exact wpList_nil ⟨rfl, _, _, hs0, (.c .r), hs, trivial⟩
 ·
  intro a_ w_ R_ rest_ vs6 hm hs ht hx
  have hs0 := hs.bare
  refine zFv (cs := [bI (BitVec.ofInt 8 r.k)]) hs (.c .n) (.c rfl .n) underlying32 (ie := Tryz.t5) rfl rfl rfl rfl (by decide) (by decide) rfl (by decide) rfl rfl rfl ?_; clear hs; intro g8 a w hs
  exact wpList_nil ⟨rfl, _, _, hs0, (.c .r), hs, rfl⟩
 ·
  intro a_ w_ R_ rest_ vs6 hm hs ht hx
  have t6 := ht 6 (zL 13 _ (by kernel_rfl))
  have e6 : _ = some (vs6 6) := t6.val rfl
  replace hs := hs.learn e6
  have t10 := ht 10 (zL 13 _ (by kernel_rfl))
  have e10 : _ = some (vs6 10) := t10.val rfl
  rw [show vs6 10 = .slice (some ⟨(zCQ (vs6 10)), 0, none⟩) 1 1 from t10.2.1] at e10
  replace hs := hs.learn e10
  have hs0 := hs.bare
  refine zAj (size := 1) (bytes := 1) hs rfl rfl .z (zAa (m := 1) (size := 1) (hm.own (List.mem_append.2 (.inr ((ht 10 (zL 13 _ (by kernel_rfl))).2.2 (zFR (n := 13) (by kernel_rfl)) _ (List.Mem.head _))))) rfl (by decide)) (by simp [Value.oneCell']) underlying32 (i := Tryz.t5) rfl rfl rfl rfl rfl (by decide) (by omega) (by simp only [maxLen]; omega) rfl ?_; clear hs; intro v9 a w hs
  replace hs := hs.rerow .z (m' := (zAN r last).length) (xs' := zF (zAN r last)) (by unfold zAN; simp only [List.length_append, List.length_cons, List.length_nil, zCe]) (by unfold zAN; rw [zAi]; rfl)
  exact wpList_nil ⟨rfl, _, _, hs0, (.c (.c .r)), hs, trivial⟩
 ·
  intro a_ w_ R_ rest_ vs6 hm hs ht hx
  have t11 := ht 11 (zL 13 _ (by kernel_rfl))
  have e11 : _ = some (vs6 11) := t11.val rfl
  replace hs := hs.learn e11
  have hs0 := hs.bare
  refine zJ1 hs rfl rfl ?_; clear hs; intro a w hs
  exact wpList_nil ⟨rfl, _, _, hs0, (.c .r), hs, rfl⟩
 clear hs w a; intro vs6 a w hs hf
 obtain ⟨e12, q12⟩ := hf 12 (by decide)
 replace e12 : _ = some (vs6 12) := e12.val rfl
 rw [show vs6 12 = (vs6 11) from q12] at e12
 replace hs := hs.learn e12; clear e12 q12
 generalize zCQ (vs6 10) = g10 at hs
 generalize vs6 11 = v11 at hs
 clear hf
 revert a w hs
 refine goE 1 [0] [42, 7, 2] (.c .z .n) ⟨rfl, ?_⟩
 intro a w hs; refine zH (v := .agg #[zI r.p0, zI r.p1, zI r.p2, zI r.v0, zI r.v1, zI r.v2]) hs (.c rfl .n) call134 (zMy r _) rfl ?_
 refine goL 4 [0, 1] [45, 8, 7, 2] (.c .z .n) (fun g12 => ⟨rfl, rfl, ?_⟩)
 intro a w hs; refine zEQ (X := r.a) hs rfl rfl underlying70 underlying130 rfl ?_
 intro a w hs; refine zO hs (.c rfl .n) call109 .n (zEN ((r.a).setWidth 64) _) rfl ?_; clear hs w a; rintro v13 _ a w rfl hs
 replace hs := hs.rerow .z (m' := (zDL r.a.toNat).length) (xs' := zF (zDL r.a.toNat)) (by rw [zUd]; rfl) (by rw [zUd])
 revert a w hs
 refine goL 5 [0] [51, 9, 8, 7, 2] (.c (.s (.s .z)) .n) ⟨rfl, ?_⟩
 intro a w hs; refine zAB (b := (r.k : Int) == 0) (fun c_14 => ?_) (fun c_14 => ?_)
 ·
  rw [c_14] at hs
  replace c_14 := eq_of_beq c_14
  revert a w hs
  refine go 6 [] [10, 9, 8, 7] .n ?_
  refine cl (·.rerow (.s (.s (.s (.s .z)))) (m' := (zAN r last).length + (zG6 r 0).length) (xs' := zF (zAN r last ++ zG6 r 0)) (by simp [zG6]) (by simp [zG6])) ?_
  intro a w hs; refine zCA (fun mm_ a w => ∃ i : Nat, ∃ q : Value, mm_ = 6 - i ∧ St 106 [(7, q), (8, pt g12 0), (9, v13), (10, nI i)] w0 [] [row q 5 1 ((zAN r last).length + (zG6 r i).length) (zF (zAN r last ++ zG6 r i)), blk g1 [zI r.k, zI r.id, zI r.p0, zI r.p1, zI r.p2, zI r.v0, zI r.v1, zI r.v2, .int .u16 (((r.a).toNat : Nat) : Int)] 112, row v13 5 1 ((zDL r.a.toNat).length) (zF (zDL r.a.toNat)), blk g12 [zI r.p0, zI r.p1, zI r.p2, zI r.v0, zI r.v1, zI r.v2] 195, blk g10 [bI (BitVec.ofInt 8 r.k)] 5] a w ∧ i ≤ 6) ⟨0, v11, rfl, hs.sub (.c rfl (.c rfl (.c rfl (.c rfl .n)))), by omega⟩ ?_
  clear hs w a; rintro mm_ a w ⟨i, q, rfl, hs, hI1_0⟩
  have hnpi := zJp r i
  revert a w hs
  refine go 2 [] [57, 7, 8, 9, 10] .n ?_
  refine ifG rfl (fun c_15 => ?_) (fun c_15 => ?_)
  ·
   have hnr := zJL hw (i := i) (by omega)
   refine go 2 [] [61, 60, 8, 9, 10] .n ?_
   intro a w hs; refine zCq (j := i) hs rfl rfl underlying195 (by omega) sizeOf2 rfl ?_
   intro a w hs; refine zC6 (v := zI (r.num i)) hs rfl (hs.mem.del (.s (.s (.s .z)))) (zHS (by omega)) isAgg2 rfl ?_
   intro a w hs; refine zO hs (.c rfl .n) call135 .n (zJh (r.num i) _ (by omega)) rfl ?_; clear hs w a; rintro v16 _ a w rfl hs
   have hk17 := zAW (r.num i)
   refine zAj (size := 1) (bytes := 1) hs rfl rfl (.s .z) (zM (hs.mem.del .z)) (zQ _) underlying32 (i := Tryz.t5) rfl rfl rfl rfl rfl (by decide) (by omega) (by simp only [maxLen]; omega) rfl ?_; intro v18
   refine goL 4 [] [10, 7, 8, 9] .n ⟨(by omega), ?_⟩
   intro a w hs; replace hs := hs.rerow .z (m' := (zAN r last).length + (zG6 r (i + 1)).length) (xs' := zF (zAN r last ++ zG6 r (i + 1))) (by simp only [zG6, List.length_append]; omega) (by simp only [zG6, zAi, List.append_assoc])
   replace hs := hs.drop (.c (.s .z) .n)
   refine ⟨_, ?_, (i + 1), v18, rfl, hs.sub (.c rfl (.c rfl (.c rfl (.c rfl .n)))), by omega⟩
   omega
  obtain rfl : i = 6 := by omega
  refine go 2 [] [67, 66] .n ?_
  intro a w hs; refine zAj (size := 1) (bytes := 1) hs rfl rfl .z (zM (hs.mem.del (.s (.s .z)))) (zQ _) underlying32 (i := Tryz.t5) rfl rfl rfl rfl rfl (by decide) (by omega) (by simp only [maxLen]; omega) rfl ?_; intro v19
  refine goL 2 [] [5, 4] .n ?_
  have hre : zBG r last = 0 := by first | exact zBA (by omega) | exact zBC (by omega) (by omega) | exact zBB (by omega) (by omega) (by omega) | exact zBX (by omega) (by omega) (by omega)
  refine cl (·.drop (.c (.s (.s (.s (.s .z)))) (.c (.s (.s (.s .z))) (.c (.s (.s .z)) (.c (.s .z) .n))))) ?_
  intro a w hs; replace hs := hs.rerow .z (m' := (zCg r last).length) (xs' := zF (zCg r last)) (by first | ((first | rw [zAZ hre (by omega)] | rw [zV hre (by omega)] | rw [zAL hre (by omega)]) <;> simp only [List.length_append]; done) | ((first | rw [zAZ hre (by omega)] | rw [zV hre (by omega), zA1 (by omega)] | rw [zV hre (by omega), zA3 (by omega)] | rw [zAL hre (by omega)]) <;> simp only [List.length_append, List.length_cons, List.length_nil, zBb, zCo] <;> omega)) (by first | ((first | rw [zAZ hre (by omega)] | rw [zV hre (by omega)] | rw [zAL hre (by omega)]) <;> rfl) | ((first | rw [zAZ hre (by omega)] | rw [zV hre (by omega), zA1 (by omega)] | rw [zV hre (by omega), zA3 (by omega)] | rw [zAL hre (by omega)]) <;> simp only [zBb, zCo, zF, List.map_append, List.map_cons, List.map_nil, List.append_assoc, List.cons_append, List.nil_append] <;> rfl))
  exact zCF hs rfl rfl rfl ⟨_, congrArg (fun z : Nat => Value.tuple #[v19, zI (z : Int)]) hre.symm, rfl⟩
 rw [c_14] at hs
 replace c_14 := zAK c_14
 revert a w hs
 refine go 4 [0] [55, 9, 8, 7, 2] (.c .z .n) ⟨rfl, ?_⟩
 refine ifG rfl (fun c_20 => ?_) (fun c_20 => ?_)
 ·
  refine go 1 [] [10, 9, 8, 7] .n ?_
  refine cl (·.rerow (.s (.s (.s (.s .z)))) (m' := (zAN r last).length + (zG6 r 0).length) (xs' := zF (zAN r last ++ zG6 r 0)) (by simp [zG6]) (by simp [zG6])) ?_
  intro a w hs; refine zCA (fun mm_ a w => ∃ i : Nat, ∃ q : Value, mm_ = 6 - i ∧ St 106 [(7, q), (8, pt g12 0), (9, v13), (10, nI i)] w0 [] [row q 5 1 ((zAN r last).length + (zG6 r i).length) (zF (zAN r last ++ zG6 r i)), blk g1 [zI r.k, zI r.id, zI r.p0, zI r.p1, zI r.p2, zI r.v0, zI r.v1, zI r.v2, .int .u16 (((r.a).toNat : Nat) : Int)] 112, row v13 5 1 ((zDL r.a.toNat).length) (zF (zDL r.a.toNat)), blk g12 [zI r.p0, zI r.p1, zI r.p2, zI r.v0, zI r.v1, zI r.v2] 195, blk g10 [bI (BitVec.ofInt 8 r.k)] 5] a w ∧ i ≤ 6) ⟨0, v11, rfl, hs.sub (.c rfl (.c rfl (.c rfl (.c rfl .n)))), by omega⟩ ?_
  clear hs w a; rintro mm_ a w ⟨i, q, rfl, hs, hI1_0⟩
  have hnpi := zJp r i
  revert a w hs
  refine go 2 [] [57, 7, 8, 9, 10] .n ?_
  refine ifG rfl (fun c_21 => ?_) (fun c_21 => ?_)
  ·
   have hnr := zJL hw (i := i) (by omega)
   refine go 2 [] [61, 60, 8, 9, 10] .n ?_
   intro a w hs; refine zCq (j := i) hs rfl rfl underlying195 (by omega) sizeOf2 rfl ?_
   intro a w hs; refine zC6 (v := zI (r.num i)) hs rfl (hs.mem.del (.s (.s (.s .z)))) (zHS (by omega)) isAgg2 rfl ?_
   intro a w hs; refine zO hs (.c rfl .n) call135 .n (zJh (r.num i) _ (by omega)) rfl ?_; clear hs w a; rintro v22 _ a w rfl hs
   have hk23 := zAW (r.num i)
   refine zAj (size := 1) (bytes := 1) hs rfl rfl (.s .z) (zM (hs.mem.del .z)) (zQ _) underlying32 (i := Tryz.t5) rfl rfl rfl rfl rfl (by decide) (by omega) (by simp only [maxLen]; omega) rfl ?_; intro v24
   refine goL 4 [] [10, 7, 8, 9] .n ⟨(by omega), ?_⟩
   intro a w hs; replace hs := hs.rerow .z (m' := (zAN r last).length + (zG6 r (i + 1)).length) (xs' := zF (zAN r last ++ zG6 r (i + 1))) (by simp only [zG6, List.length_append]; omega) (by simp only [zG6, zAi, List.append_assoc])
   replace hs := hs.drop (.c (.s .z) .n)
   refine ⟨_, ?_, (i + 1), v24, rfl, hs.sub (.c rfl (.c rfl (.c rfl (.c rfl .n)))), by omega⟩
   omega
  obtain rfl : i = 6 := by omega
  refine go 2 [] [67, 66] .n ?_
  intro a w hs; refine zAj (size := 1) (bytes := 1) hs rfl rfl .z (zM (hs.mem.del (.s (.s .z)))) (zQ _) underlying32 (i := Tryz.t5) rfl rfl rfl rfl rfl (by decide) (by omega) (by simp only [maxLen]; omega) rfl ?_; intro v25
  refine goL 2 [] [5, 4] .n ?_
  have hre : zBG r last = 0 := by first | exact zBA (by omega) | exact zBC (by omega) (by omega) | exact zBB (by omega) (by omega) (by omega) | exact zBX (by omega) (by omega) (by omega)
  refine cl (·.drop (.c (.s (.s (.s (.s .z)))) (.c (.s (.s (.s .z))) (.c (.s (.s .z)) (.c (.s .z) .n))))) ?_
  intro a w hs; replace hs := hs.rerow .z (m' := (zCg r last).length) (xs' := zF (zCg r last)) (by first | ((first | rw [zAZ hre (by omega)] | rw [zV hre (by omega)] | rw [zAL hre (by omega)]) <;> simp only [List.length_append]; done) | ((first | rw [zAZ hre (by omega)] | rw [zV hre (by omega), zA1 (by omega)] | rw [zV hre (by omega), zA3 (by omega)] | rw [zAL hre (by omega)]) <;> simp only [List.length_append, List.length_cons, List.length_nil, zBb, zCo] <;> omega)) (by first | ((first | rw [zAZ hre (by omega)] | rw [zV hre (by omega)] | rw [zAL hre (by omega)]) <;> rfl) | ((first | rw [zAZ hre (by omega)] | rw [zV hre (by omega), zA1 (by omega)] | rw [zV hre (by omega), zA3 (by omega)] | rw [zAL hre (by omega)]) <;> simp only [zBb, zCo, zF, List.map_append, List.map_cons, List.map_nil, List.append_assoc, List.cons_append, List.nil_append] <;> rfl))
  exact zCF hs rfl rfl rfl ⟨_, congrArg (fun z : Nat => Value.tuple #[v25, zI (z : Int)]) hre.symm, rfl⟩
 refine go 3 [0] [71, 9, 8, 7, 2] (.c .z .n) ⟨rfl, ?_⟩
 refine ifG rfl (fun c_26 => ?_) (fun c_26 => ?_)
 ·
  refine go 3 [] [5, 4] .n ?_
  have hre : zBG r last = 0 := by first | exact zBA (by omega) | exact zBC (by omega) (by omega) | exact zBB (by omega) (by omega) (by omega) | exact zBX (by omega) (by omega) (by omega)
  refine cl (·.drop (.c (.s (.s (.s .z))) (.c (.s (.s .z)) (.c (.s .z) (.c .z .n))))) ?_
  intro a w hs; replace hs := hs.rerow .z (m' := (zCg r last).length) (xs' := zF (zCg r last)) (by first | ((first | rw [zAZ hre (by omega)] | rw [zV hre (by omega)] | rw [zAL hre (by omega)]) <;> simp only [List.length_append]; done) | ((first | rw [zAZ hre (by omega)] | rw [zV hre (by omega), zA1 (by omega)] | rw [zV hre (by omega), zA3 (by omega)] | rw [zAL hre (by omega)]) <;> simp only [List.length_append, List.length_cons, List.length_nil, zBb, zCo] <;> omega)) (by first | ((first | rw [zAZ hre (by omega)] | rw [zV hre (by omega)] | rw [zAL hre (by omega)]) <;> rfl) | ((first | rw [zAZ hre (by omega)] | rw [zV hre (by omega), zA1 (by omega)] | rw [zV hre (by omega), zA3 (by omega)] | rw [zAL hre (by omega)]) <;> simp only [zBb, zCo, zF, List.map_append, List.map_cons, List.map_nil, List.append_assoc, List.cons_append, List.nil_append] <;> rfl))
  exact zCF hs rfl rfl rfl ⟨_, congrArg (fun z : Nat => Value.tuple #[v11, zI (z : Int)]) hre.symm, rfl⟩
 refine goF 5 1 [] [11, 9, 8, 7, 2] .n ?_
 refine cl (·.sub (F' := [(11, bI (zAn r 0)), (9, v13), (8, pt g12 0), (7, v11), (2, pt g1 0)]) (.c rfl (.c rfl (.c rfl (.c rfl (.c rfl .n)))))) ?_
 refine goF 5 1 [] [12, 11, 9, 8, 7, 2] .n ?_
 refine cl (·.sub (F' := [(12, bI (zC7 0)), (11, bI (zAn r 0)), (9, v13), (8, pt g12 0), (7, v11), (2, pt g1 0)]) (.c rfl (.c rfl (.c rfl (.c rfl (.c rfl (.c rfl .n))))))) ?_
 refine go 2 [] [14, 13, 12, 11, 9, 8, 7, 2] .n ?_
 refine cl (·.addNil 5 1) ?_
 refine cl (·.rerow .z (m' := (zAr r 0).length) (xs' := zF (zAr r 0)) (rfl) (rfl)) ?_
 intro a w hs; refine zCA (fun mm_ a w => ∃ i : Nat, ∃ q : Value, mm_ = 6 - i ∧ St 106 [(2, pt g1 0), (7, v11), (8, pt g12 0), (9, v13), (11, bI (zAn r i)), (12, bI (zC7 i)), (13, q), (14, nI i)] w0 [] [row q 5 1 ((zAr r i).length) (zF (zAr r i)), blk g1 [zI r.k, zI r.id, zI r.p0, zI r.p1, zI r.p2, zI r.v0, zI r.v1, zI r.v2, .int .u16 (((r.a).toNat : Nat) : Int)] 112, row v13 5 1 ((zDL r.a.toNat).length) (zF (zDL r.a.toNat)), blk g12 [zI r.p0, zI r.p1, zI r.p2, zI r.v0, zI r.v1, zI r.v2] 195, blk g10 [bI (BitVec.ofInt 8 r.k)] 5, row v11 5 1 ((zAN r last).length) (zF (zAN r last))] a w ∧ i ≤ 6) ⟨0, .slice none 0 0, rfl, hs.sub (.c rfl (.c rfl (.c rfl (.c rfl (.c rfl (.c rfl (.c rfl (.c rfl .n)))))))), by omega⟩ ?_
 clear hs w a; rintro mm_ a w ⟨i, q, rfl, hs, hI2_0⟩
 have hlui := zBI r i
 have hluj := zBI r (i + 1)
 revert a w hs
 refine go 2 [] [74, 2, 7, 8, 9, 11, 12, 13, 14] .n ?_
 refine ifG rfl (fun c_27 => ?_) (fun c_27 => ?_)
 ·
  refine go 1 [] [77, 2, 7, 8, 9, 11, 12, 13, 14] .n ?_
  intro a w hs; refine zCq (j := i) hs rfl rfl underlying195 (by omega) sizeOf2 rfl ?_
  intro a w hs; refine zC6 (v := zI (r.num i)) hs rfl (hs.mem.del (.s (.s (.s .z)))) (zHS (by omega)) isAgg2 rfl ?_
  refine goL 1 [] [80, 2, 7, 8, 9, 11, 12, 13, 14] .n ?_
  refine ifG rfl (fun c_28 => ?_) (fun c_28 => ?_)
  ·
   have hn_ : r.num i ≠ 0 := by assumption
   have hnr := zJL hw (i := i) (by omega)
   refine go 2 [] [82, 81, 2, 7, 8, 9, 12, 13, 14] .n ?_
   intro a w hs; refine zGH (X := zAn r i) (Y := zC7 i) hs rfl rfl rfl rfl rfl ?_
   refine zHA 1 1 [] [11, 2, 7, 8, 9, 12, 13, 14] .n ?_
   refine go 2 [] [85, 84, 11, 2, 7, 8, 9, 12, 14] .n ?_
   intro a w hs; refine zCq (j := i) hs rfl rfl underlying195 (by omega) sizeOf2 rfl ?_
   intro a w hs; refine zC6 (v := zI (r.num i)) hs rfl (hs.mem.del (.s (.s (.s .z)))) (zHS (by omega)) isAgg2 rfl ?_
   intro a w hs; refine zO hs (.c rfl .n) call135 .n (zJh (r.num i) _ (by omega)) rfl ?_; clear hs w a; rintro v29 _ a w rfl hs
   have hk30 := zAW (r.num i)
   refine zAj (size := 1) (bytes := 1) hs rfl rfl (.s .z) (zM (hs.mem.del .z)) (zQ _) underlying32 (i := Tryz.t5) rfl rfl rfl rfl rfl (by decide) (by omega) (by simp only [maxLen]; omega) rfl ?_; intro v31
   refine goL 2 [] [90, 13, 11, 2, 7, 8, 9, 14] .n ?_
   intro a w hs; refine zKk (X := zC7 i) (Y := 2#8) hs rfl rfl rfl (by decide) rfl ?_
   refine zHA 1 1 [] [12, 13, 11, 2, 7, 8, 9, 14] .n ?_
   refine go 3 [] [14, 12, 13, 11, 2, 7, 8, 9] .n ⟨(by omega), ?_⟩
   intro a w hs; replace hs := hs.rerow .z (m' := (zAr r (i + 1)).length) (xs' := zF (zAr r (i + 1))) (by first | rw [zDi hz_] | (rw [zDg hn_]; simp only [List.length_append])) (by first | rw [zDi hz_] | (rw [zDg hn_]; simp [zAi]))
   replace hs := hs.reslot (d := 11) (v := bI ((zAn r i) + (zC7 i))) (v' := bI (zAn r (i + 1))) rfl (Option.some.inj (congrArg (fun z : BitVec 8 => some (Value.int .u8 ((z.toNat : Nat) : Int))) ((zLl r i (by omega)).trans (zJd hn_).symm)))
   replace hs := hs.reslot (d := 12) (v := bI ((zC7 i) * (2#8))) (v' := bI (zC7 (i + 1))) rfl (Option.some.inj (congrArg (fun z : BitVec 8 => some (Value.int .u8 ((z.toNat : Nat) : Int))) (zHj i)))
   replace hs := hs.drop (.c (.s .z) .n)
   refine ⟨_, ?_, (i + 1), v31, rfl, hs.sub (.c rfl (.c rfl (.c rfl (.c rfl (.c rfl (.c rfl (.c rfl (.c rfl .n)))))))), by omega⟩
   omega
  have hz_ : r.num i = 0 := by assumption
  refine go 1 [] [90, 2, 7, 8, 9, 11, 13, 14] .n ?_
  intro a w hs; refine zKk (X := zC7 i) (Y := 2#8) hs rfl rfl rfl (by decide) rfl ?_
  refine zHA 1 1 [] [12, 2, 7, 8, 9, 11, 13, 14] .n ?_
  refine go 3 [] [14, 12, 2, 7, 8, 9, 11, 13] .n ⟨(by omega), ?_⟩
  intro a w hs; replace hs := hs.rerow .z (m' := (zAr r (i + 1)).length) (xs' := zF (zAr r (i + 1))) (by first | rw [zDi hz_] | (rw [zDg hn_]; simp only [List.length_append])) (by first | rw [zDi hz_] | (rw [zDg hn_]; simp [zAi]))
  replace hs := hs.reslot (d := 11) (v := bI (zAn r i)) (v' := bI (zAn r (i + 1))) rfl (Option.some.inj (congrArg (fun z : BitVec 8 => some (Value.int .u8 ((z.toNat : Nat) : Int))) (zJC hz_).symm))
  replace hs := hs.reslot (d := 12) (v := bI ((zC7 i) * (2#8))) (v' := bI (zC7 (i + 1))) rfl (Option.some.inj (congrArg (fun z : BitVec 8 => some (Value.int .u8 ((z.toNat : Nat) : Int))) (zHj i)))
  refine ⟨_, ?_, (i + 1), q, rfl, hs.sub (.c rfl (.c rfl (.c rfl (.c rfl (.c rfl (.c rfl (.c rfl (.c rfl .n)))))))), by omega⟩
  omega
 obtain rfl : i = 6 := by omega
 refine go 3 [0] [94, 7, 9, 11, 13] (.c (.s .z) .n) ⟨rfl, ?_⟩
 refine ifG rfl (fun c_32 => ?_) (fun c_32 => ?_)
 ·
  refine go 1 [] [95, 7, 9, 13] .n ?_
  intro a w hs; refine zGH (X := zAn r 6) (Y := 64#8) hs rfl rfl rfl (by decide) rfl ?_
  intro a w hs; rw [zPT] at hs
  revert a w hs
  refine zHA 1 1 [] [11, 7, 9, 13] .n ?_
  refine go 2 [] [98, 97, 11, 7] .n ?_
  intro a w hs; refine zAj (size := 1) (bytes := 1) hs rfl rfl (.s .z) (zM (hs.mem.del (.s (.s .z)))) (zQ _) underlying32 (i := Tryz.t5) rfl rfl rfl rfl rfl (by decide) (by omega) (by simp only [maxLen]; omega) rfl ?_; intro v33
  refine cl (·.rerow .z (m' := (zAr r 6).length + (zDL r.a.toNat).length) (xs' := zF (zAr r 6 ++ zDL r.a.toNat)) (rfl) (by rw [zAi])) ?_
  refine goL 4 [] [102, 100, 13] .n (fun g34 => ?_)
  intro a w hs; refine zAj (size := 1) (bytes := 1) hs rfl rfl (.s (.s (.s (.s (.s (.s .z)))))) (zAa (m := 1) (size := 1) (hs.mem.del .z) rfl (by decide)) (by simp [Value.oneCell']) underlying32 (i := Tryz.t5) rfl rfl rfl rfl rfl (by decide) (by omega) (by simp only [maxLen]; omega) rfl ?_; intro v35
  refine cl (·.drop (.c (.s .z) .n)) ?_
  refine goL 1 [] [104, 103] .n ?_
  intro a w hs; refine zAj (size := 1) (bytes := 1) hs rfl rfl .z (zM (hs.mem.del (.s .z))) (zQ _) underlying32 (i := Tryz.t5) rfl rfl rfl rfl rfl (by decide) (by omega) (by simp only [maxLen]; omega) rfl ?_; intro v36
  refine goL 2 [] [5, 4] .n ?_
  have hre : zBG r last = 0 := by first | exact zBA (by omega) | exact zBC (by omega) (by omega) | exact zBB (by omega) (by omega) (by omega) | exact zBX (by omega) (by omega) (by omega)
  refine cl (·.drop (.c (.s (.s (.s (.s (.s .z))))) (.c (.s (.s (.s (.s .z)))) (.c (.s (.s (.s .z))) (.c (.s (.s .z)) (.c (.s .z) .n)))))) ?_
  intro a w hs; replace hs := hs.rerow .z (m' := (zCg r last).length) (xs' := zF (zCg r last)) (by first | ((first | rw [zAZ hre (by omega)] | rw [zV hre (by omega)] | rw [zAL hre (by omega)]) <;> simp only [List.length_append]; done) | ((first | rw [zAZ hre (by omega)] | rw [zV hre (by omega), zA1 (by omega)] | rw [zV hre (by omega), zA3 (by omega)] | rw [zAL hre (by omega)]) <;> simp only [List.length_append, List.length_cons, List.length_nil, zBb, zCo] <;> omega)) (by first | ((first | rw [zAZ hre (by omega)] | rw [zV hre (by omega)] | rw [zAL hre (by omega)]) <;> rfl) | ((first | rw [zAZ hre (by omega)] | rw [zV hre (by omega), zA1 (by omega)] | rw [zV hre (by omega), zA3 (by omega)] | rw [zAL hre (by omega)]) <;> simp only [zBb, zCo, zF, List.map_append, List.map_cons, List.map_nil, List.append_assoc, List.cons_append, List.nil_append] <;> rfl))
  exact zCF hs rfl rfl rfl ⟨_, congrArg (fun z : Nat => Value.tuple #[v36, zI (z : Int)]) hre.symm, rfl⟩
 refine go 3 [] [102, 100, 13] .n (fun g37 => ?_)
 intro a w hs; refine zAj (size := 1) (bytes := 1) hs rfl rfl (.s (.s (.s (.s (.s (.s .z)))))) (zAa (m := 1) (size := 1) (hs.mem.del .z) rfl (by decide)) (by simp [Value.oneCell']) underlying32 (i := Tryz.t5) rfl rfl rfl rfl rfl (by decide) (by omega) (by simp only [maxLen]; omega) rfl ?_; intro v38
 refine cl (·.drop (.c (.s .z) .n)) ?_
 refine goL 1 [] [104, 103] .n ?_
 intro a w hs; refine zAj (size := 1) (bytes := 1) hs rfl rfl .z (zM (hs.mem.del (.s (.s .z)))) (zQ _) underlying32 (i := Tryz.t5) rfl rfl rfl rfl rfl (by decide) (by omega) (by simp only [maxLen]; omega) rfl ?_; intro v39
 refine goL 2 [] [5, 4] .n ?_
 have hre : zBG r last = 0 := by first | exact zBA (by omega) | exact zBC (by omega) (by omega) | exact zBB (by omega) (by omega) (by omega) | exact zBX (by omega) (by omega) (by omega)
 refine cl (·.drop (.c (.s (.s (.s (.s (.s .z))))) (.c (.s (.s (.s (.s .z)))) (.c (.s (.s (.s .z))) (.c (.s (.s .z)) (.c (.s .z) .n)))))) ?_
 intro a w hs; replace hs := hs.rerow .z (m' := (zCg r last).length) (xs' := zF (zCg r last)) (by first | ((first | rw [zAZ hre (by omega)] | rw [zV hre (by omega)] | rw [zAL hre (by omega)]) <;> simp only [List.length_append]; done) | ((first | rw [zAZ hre (by omega)] | rw [zV hre (by omega), zA1 (by omega)] | rw [zV hre (by omega), zA3 (by omega)] | rw [zAL hre (by omega)]) <;> simp only [List.length_append, List.length_cons, List.length_nil, zBb, zCo] <;> omega)) (by first | ((first | rw [zAZ hre (by omega)] | rw [zV hre (by omega)] | rw [zAL hre (by omega)]) <;> rfl) | ((first | rw [zAZ hre (by omega)] | rw [zV hre (by omega), zA1 (by omega)] | rw [zV hre (by omega), zA3 (by omega)] | rw [zAL hre (by omega)]) <;> simp only [zBb, zCo, zF, List.map_append, List.map_cons, List.map_nil, List.append_assoc, List.cons_append, List.nil_append] <;> rfl))
 exact zCF hs rfl rfl rfl ⟨_, congrArg (fun z : Nat => Value.tuple #[v39, zI (z : Int)]) hre.symm, rfl⟩
end Go.Proofs.YtbacobmcfelmkaaGreat
