/- Walks of datagrams: what each function does, over the program of this seat. Printed by a program of this session. -/
import Derived.Test.YtbacobmcfelmkaaGreatQWgramT
import Derived.Test.YtbacobmcfelmkaaGreatQWrec
import Derived.Test.YtbacobmcfelmkaaGreatQWcrc
import Derived.Test.YtbacobmcfelmkaaGreatQSxGrams
import Derived.Test.YtbacobmcfelmkaaGreatQSxRecs
import Derived.Test.YtbacobmcfelmkaaGreatQSxBasB
namespace Go.Proofs.YtbacobmcfelmkaaGreat
open Tryz
open Go Go.Sx Go.RowKit
set_option linter.unusedVariables false
set_option linter.unusedSimpArgs false
set_option maxRecDepth 4000
set_option maxHeartbeats 1000000

theorem zRV (t tm b : Int) (u : Value) (l : List zAd) (w0 : World) (ht_ : -9223372036854775808 ≤ t ∧ t ≤ 9223372036854775807) (htm_ : -9223372036854775808 ≤ tm ∧ tm ≤ 9223372036854775807) (hb_ : -9223372036854775808 ≤ b ∧ b ≤ 9223372036854775807) (hc : Rd w0 [] u 9 l.length (l.flatMap zDG)) : Calls Tryz.prog 70 #[.agg #[.int .i64 t, .int .i64 tm, .int .i64 b, u]] w0 (Ret w0 [] fun x N => ∃ v, x = .tuple #[v, nI (zCk t tm b l.length)] ∧ N = [row v 5 1 (zCE t tm b l.length).length (zF (zCE t tm b l.length))]) := by
 have hce := hc.le
 simp only [maxLen] at hce
 have hv1 := zCJ (BitVec.ofInt 64 t).toNat
 have hv2 := zCJ (zFK tm).toNat
 have hv3 := zCJ (BitVec.ofInt 64 (t - b)).toNat
 have hv4 := zCJ (BitVec.ofInt 64 (l.length : Int)).toNat
 have hv5 := zCJ (0#64).toNat
 refine zT (F0 := [(0, .agg #[zI t, zI tm, zI b, u])]) func70 rfl rfl rfl (.c .n) (Mem.nil _) ?_
 refine go 7 [0, 0] [12, 1] .n (fun g1 => ⟨rfl, ?_⟩)
 intro a w hs; refine zAB (b := decide (t < 0)) (fun c_2 => ?_) (fun c_2 => ?_)
 ·
  rw [c_2] at hs
  replace c_2 := of_decide_eq_true c_2
  revert a w hs
  refine go 19 [] [3, 2] .n ?_
  have hge : zCk t tm b l.length = 3 := by first | exact zBR (by omega) | exact zAs (by omega) (by omega) | exact zBT (by omega) (by omega) (by omega) | exact zFV (by omega) (by omega) (by omega)
  refine cl (·.drop (.c .z .n)) ?_
  refine cl (·.addNil 5 1) ?_
  intro a w hs; replace hs := hs.rerow .z (m' := (zCE t tm b l.length).length) (xs' := zF (zCE t tm b l.length)) (by rw [zCE, if_pos (by omega)]; rfl) (by rw [zCE, if_pos (by omega)]; rfl)
  exact zCF hs rfl rfl rfl ⟨_, congrArg (fun z : Nat => Value.tuple #[.slice none 0 0, zI (z : Int)]) hge.symm, rfl⟩
 rw [c_2] at hs
 replace c_2 := of_decide_eq_false c_2
 revert a w hs
 refine go 5 [0] [17, 1] (.c .z .n) ⟨rfl, ?_⟩
 intro a w hs; refine zAB (b := decide (4294967295 < t)) (fun c_3 => ?_) (fun c_3 => ?_)
 ·
  rw [c_3] at hs
  replace c_3 := of_decide_eq_true c_3
  revert a w hs
  refine go 14 [] [3, 2] .n ?_
  have hge : zCk t tm b l.length = 3 := by first | exact zBR (by omega) | exact zAs (by omega) (by omega) | exact zBT (by omega) (by omega) (by omega) | exact zFV (by omega) (by omega) (by omega)
  refine cl (·.drop (.c .z .n)) ?_
  refine cl (·.addNil 5 1) ?_
  intro a w hs; replace hs := hs.rerow .z (m' := (zCE t tm b l.length).length) (xs' := zF (zCE t tm b l.length)) (by rw [zCE, if_pos (by omega)]; rfl) (by rw [zCE, if_pos (by omega)]; rfl)
  exact zCF hs rfl rfl rfl ⟨_, congrArg (fun z : Nat => Value.tuple #[.slice none 0 0, zI (z : Int)]) hge.symm, rfl⟩
 rw [c_3] at hs
 replace c_3 := of_decide_eq_false c_3
 revert a w hs
 refine go 2 [0] [19, 17, 1] (.c .z .n) ⟨rfl, ?_⟩
 intro a w hs; refine zC hs rfl rfl rfl ?_
 refine zH (v := .bool (decide (-2305843009213693952 ≤ tm ∧ tm ≤ 2305843009213693952))) hs (.c rfl .n) call76 (zKW tm _) rfl ?_
 refine goL 3 [] [23, 1] .n ?_
 intro a w hs; refine zAB (b := !(decide (-2305843009213693952 ≤ tm ∧ tm ≤ 2305843009213693952))) (fun c_4 => ?_) (fun c_4 => ?_)
 ·
  rw [c_4] at hs
  replace c_4 := zHB c_4
  replace c_4 := of_decide_eq_false c_4
  revert a w hs
  refine go 8 [] [3, 2] .n ?_
  have hge : zCk t tm b l.length = 3 := by first | exact zBR (by omega) | exact zAs (by omega) (by omega) | exact zBT (by omega) (by omega) (by omega) | exact zFV (by omega) (by omega) (by omega)
  refine cl (·.drop (.c .z .n)) ?_
  refine cl (·.addNil 5 1) ?_
  intro a w hs; replace hs := hs.rerow .z (m' := (zCE t tm b l.length).length) (xs' := zF (zCE t tm b l.length)) (by rw [zCE, if_pos (by omega)]; rfl) (by rw [zCE, if_pos (by omega)]; rfl)
  exact zCF hs rfl rfl rfl ⟨_, congrArg (fun z : Nat => Value.tuple #[.slice none 0 0, zI (z : Int)]) hge.symm, rfl⟩
 rw [c_4] at hs
 replace c_4 := zHC c_4
 replace c_4 := of_decide_eq_true c_4
 revert a w hs
 refine go 5 [0] [8, 1] (.c .z .n) ⟨rfl, ?_⟩
 refine ifG rfl (fun c_5 => ?_) (fun c_5 => ?_)
 ·
  refine go 2 [] [3, 2] .n ?_
  have hge : zCk t tm b l.length = 3 := by first | exact zBR (by omega) | exact zAs (by omega) (by omega) | exact zBT (by omega) (by omega) (by omega) | exact zFV (by omega) (by omega) (by omega)
  refine cl (·.drop (.c .z .n)) ?_
  refine cl (·.addNil 5 1) ?_
  intro a w hs; replace hs := hs.rerow .z (m' := (zCE t tm b l.length).length) (xs' := zF (zCE t tm b l.length)) (by rw [zCE, if_pos (by omega)]; rfl) (by rw [zCE, if_pos (by omega)]; rfl)
  exact zCF hs rfl rfl rfl ⟨_, congrArg (fun z : Nat => Value.tuple #[.slice none 0 0, zI (z : Int)]) hge.symm, rfl⟩
 refine go 6 [0, 0] [28, 1] (.c .z .n) ⟨rfl, rfl, ?_⟩
 refine ifG rfl (fun c_6 => ?_) (fun c_6 => ?_)
 ·
  refine go 2 [] [3, 2] .n ?_
  have hge : zCk t tm b l.length = 10 := by first | exact zBR (by omega) | exact zAs (by omega) (by omega) | exact zBT (by omega) (by omega) (by omega) | exact zFV (by omega) (by omega) (by omega)
  refine cl (·.drop (.c .z .n)) ?_
  refine cl (·.addNil 5 1) ?_
  intro a w hs; replace hs := hs.rerow .z (m' := (zCE t tm b l.length).length) (xs' := zF (zCE t tm b l.length)) (by rw [zCE, if_pos (by omega)]; rfl) (by rw [zCE, if_pos (by omega)]; rfl)
  exact zCF hs rfl rfl rfl ⟨_, congrArg (fun z : Nat => Value.tuple #[.slice none 0 0, zI (z : Int)]) hge.symm, rfl⟩
 refine go 2 [0] [36, 1] (.c .z .n) ⟨rfl, ?_⟩
 intro a w hs; refine zAG hs rfl (hs.rd0 hc).isSl underlying59 rfl ?_
 refine goL 2 [] [34, 1] .n ?_
 refine ifG rfl (fun c_7 => ?_) (fun c_7 => ?_)
 ·
  refine go 2 [] [3, 2] .n ?_
  have hge : zCk t tm b l.length = 8 := by first | exact zBR (by omega) | exact zAs (by omega) (by omega) | exact zBT (by omega) (by omega) (by omega) | exact zFV (by omega) (by omega) (by omega)
  refine cl (·.drop (.c .z .n)) ?_
  refine cl (·.addNil 5 1) ?_
  intro a w hs; replace hs := hs.rerow .z (m' := (zCE t tm b l.length).length) (xs' := zF (zCE t tm b l.length)) (by rw [zCE, if_pos (by omega)]; rfl) (by rw [zCE, if_pos (by omega)]; rfl)
  exact zCF hs rfl rfl rfl ⟨_, congrArg (fun z : Nat => Value.tuple #[.slice none 0 0, zI (z : Int)]) hge.symm, rfl⟩
 refine go 4 [0] [41, 4, 1] (.c .z .n) ⟨rfl, ?_⟩
 refine ifG rfl (fun c_8 => ?_) (fun c_8 => ?_)
 ·
  refine go 5 [0, 0] [46, 1] (.c .z .n) ⟨rfl, rfl, (by omega), ?_⟩
  intro a w hs; refine zA0 hs rfl underlying2 underlying130 rfl ?_
  refine goL 3 [] [5, 4, 1] .n (fun g9 => ?_)
  intro a w hs
  refine zAx [.p [] [], .p [0] [0], .v [1] (qI (BitVec.ofInt 64 t)), .p [] [], .p [3] [0], .v [4] (qI (zFK tm)), .p [] [], .p [] [], .p [7] [0], .v [8] (nI l.length), .v [9] (qI (BitVec.ofInt 64 ((l.length : Nat) : Int))), .x [10, 6, 5, 2] ⟨[], [], [], fun vs10 => vs10 11 = .slice (some ⟨(zCQ (vs10 11)), 0, none⟩) 4 4, fun vs10 => [blk (zCQ (vs10 11)) [qI (BitVec.ofInt 64 t), qI (zFK tm), qI (BitVec.ofInt 64 (t - b)), qI (BitVec.ofInt 64 ((l.length : Nat) : Int))] 130], none⟩, .y [] (zI 4) [] [] [] fun vs10 => [], .p [] []] [12, 13] hs .n .n (.c (.s .z) .n) (by kernel_rfl) ⟨rfl, fun _ _ _ _ hm hs K => zA0 hs rfl underlying2 underlying130 rfl (vk K), rfl, fun _ _ _ _ hm hs K => zH (v := qI (zFK tm)) hs (.c rfl .n) call95 (zOg tm _ (by omega)) rfl (vk K), rfl, fun _ _ _ _ hm hs K => zAG hs rfl (hm.rd0 hc).isSl underlying59 rfl (vk K), fun _ _ _ _ hm hs K => zA0 hs rfl underlying3 underlying130 rfl (vk K), ⟨.n, by kernel_rfl, fun _ => rfl, rfl, rfl⟩, ⟨?_, ?_, trivial⟩, ?_⟩
  ·
   intro a_ w_ R_ rest_ vs10 hm hs ht hx
   have hs0 := hs.bare
   refine zFv (cs := [qI (BitVec.ofInt 64 t), qI (zFK tm), qI (BitVec.ofInt 64 (t - b)), qI (BitVec.ofInt 64 ((l.length : Nat) : Int))]) hs (.c (.c (.c (.c .n)))) (.c rfl (.c rfl (.c rfl (.c rfl .n)))) underlying165 (ie := Tryz.t130) rfl rfl rfl rfl (by decide) (by decide) rfl (by decide) rfl rfl rfl ?_; clear hs; intro g11 a w hs
   exact wpList_nil ⟨rfl, _, _, hs0, (.c (.c (.c (.c .r)))), hs, rfl⟩
  ·
   intro a_ w_ R_ rest_ vs10 hm hs ht hx
   have t11 := ht 11 (zL 14 _ (by kernel_rfl))
   have e11 : _ = some (vs10 11) := t11.val rfl
   rw [show vs10 11 = .slice (some ⟨(zCQ (vs10 11)), 0, none⟩) 4 4 from t11.2.1] at e11
   replace hs := hs.learn e11
   have hs0 := hs.bare
   refine zAG hs rfl (zAa (m := 4) (size := 1) (hm.own (List.mem_append.2 (.inr ((ht 11 (zL 14 _ (by kernel_rfl))).2.2 (zFR (n := 14) (by kernel_rfl)) _ (List.Mem.head _))))) rfl (by decide)).isSl underlying165 rfl ?_; clear hs; intro a w hs
   replace hs := hs.recell (v' := zI 4) (Option.some.inj rfl)
   exact wpList_nil ⟨rfl, _, _, hs0, (.c .r), hs, rfl⟩
  clear hs w a; intro vs10 a w hs hf
  obtain ⟨e11, q11⟩ := hf 11 (by decide)
  replace e11 : _ = some (vs10 11) := e11.val rfl
  rw [show vs10 11 = .slice (some ⟨(zCQ (vs10 11)), 0, none⟩) 4 4 from q11] at e11
  replace hs := hs.learn e11; clear e11 q11
  generalize zCQ (vs10 11) = g12 at hs
  clear hf
  revert a w hs
  refine goE 0 [] [60, 62, 61, 5] .n ?_
  intro a w hs; refine zEp 4 ?_
  revert a w hs
  refine go 2 [] [60, 62, 61, 5] .n ?_
  intro a w hs; refine zA9 (j := 0) hs rfl rfl (zAa (m := 4) (size := 1) (hs.mem.del (.s (.s .z))) rfl (by decide)) (by decide) (by omega) underlying165 sizeOf130 rfl ?_
  intro a w hs; refine zA7 (u := qI (BitVec.ofInt 64 t)) hs rfl (zAa (m := 4) (size := 1) (hs.mem.del (.s (.s .z))) rfl (by decide)) (by rfl) isAgg130 rfl ?_
  refine goL 3 [] [67, 66, 60, 62, 61] .n ?_
  intro a w hs; refine zO hs (.c rfl .n) call96 .n (zEW (BitVec.ofInt 64 t) _) rfl ?_; clear hs w a; rintro v13 _ a w rfl hs
  replace hs := hs.toRow (size := 1) (m := 2) (.s .z) rfl (by decide)
  refine zAj (size := 1) (bytes := 1) hs rfl rfl .z (zM (hs.mem.del (.s .z))) (zQ _) underlying32 (i := Tryz.t5) rfl rfl rfl rfl rfl (by decide) (by omega) (by simp only [maxLen]; omega) rfl ?_; intro v14
  refine goL 3 [] [62, 5, 60, 61] .n ⟨by decide, ?_⟩
  intro a w hs; refine zBl ?_
  revert a w hs
  refine go 2 [] [62, 5, 60, 61] .n ?_
  intro a w hs; refine zA9 (j := 1) hs rfl rfl (zAa (m := 4) (size := 1) (hs.mem.del (.s (.s (.s .z)))) rfl (by decide)) (by decide) (by omega) underlying165 sizeOf130 rfl ?_
  intro a w hs; refine zA7 (u := qI (zFK tm)) hs rfl (zAa (m := 4) (size := 1) (hs.mem.del (.s (.s (.s .z)))) rfl (by decide)) (by rfl) isAgg130 rfl ?_
  refine goL 3 [] [67, 66, 62, 60, 61] .n ?_
  intro a w hs; refine zO hs (.c rfl .n) call96 .n (zEW (zFK tm) _) rfl ?_; clear hs w a; rintro v15 _ a w rfl hs
  refine zAj (size := 1) (bytes := 1) hs rfl rfl (.s .z) (zM (hs.mem.del .z)) (zQ _) underlying32 (i := Tryz.t5) rfl rfl rfl rfl rfl (by decide) (by omega) (by simp only [maxLen]; omega) rfl ?_; intro v16
  refine goL 3 [] [62, 5, 60, 61] .n ⟨by decide, ?_⟩
  intro a w hs; refine zBl ?_
  revert a w hs
  refine go 2 [] [62, 5, 60, 61] .n ?_
  intro a w hs; refine zA9 (j := 2) hs rfl rfl (zAa (m := 4) (size := 1) (hs.mem.del (.s (.s (.s (.s .z))))) rfl (by decide)) (by decide) (by omega) underlying165 sizeOf130 rfl ?_
  intro a w hs; refine zA7 (u := qI (BitVec.ofInt 64 (t - b))) hs rfl (zAa (m := 4) (size := 1) (hs.mem.del (.s (.s (.s (.s .z))))) rfl (by decide)) (by rfl) isAgg130 rfl ?_
  refine goL 3 [] [67, 66, 62, 60, 61] .n ?_
  intro a w hs; refine zO hs (.c rfl .n) call96 .n (zEW (BitVec.ofInt 64 (t - b)) _) rfl ?_; clear hs w a; rintro v17 _ a w rfl hs
  refine zAj (size := 1) (bytes := 1) hs rfl rfl (.s .z) (zM (hs.mem.del .z)) (zQ _) underlying32 (i := Tryz.t5) rfl rfl rfl rfl rfl (by decide) (by omega) (by simp only [maxLen]; omega) rfl ?_; intro v18
  refine goL 3 [] [62, 5, 60, 61] .n ⟨by decide, ?_⟩
  intro a w hs; refine zBl ?_
  revert a w hs
  refine go 2 [] [62, 5, 60, 61] .n ?_
  intro a w hs; refine zA9 (j := 3) hs rfl rfl (zAa (m := 4) (size := 1) (hs.mem.del (.s (.s (.s (.s (.s .z)))))) rfl (by decide)) (by decide) (by omega) underlying165 sizeOf130 rfl ?_
  intro a w hs; refine zA7 (u := qI (BitVec.ofInt 64 ((l.length : Nat) : Int))) hs rfl (zAa (m := 4) (size := 1) (hs.mem.del (.s (.s (.s (.s (.s .z)))))) rfl (by decide)) (by rfl) isAgg130 rfl ?_
  refine goL 3 [] [67, 66, 62, 60, 61] .n ?_
  intro a w hs; refine zO hs (.c rfl .n) call96 .n (zEW (BitVec.ofInt 64 ((l.length : Nat) : Int)) _) rfl ?_; clear hs w a; rintro v19 _ a w rfl hs
  refine zAj (size := 1) (bytes := 1) hs rfl rfl (.s .z) (zM (hs.mem.del .z)) (zQ _) underlying32 (i := Tryz.t5) rfl rfl rfl rfl rfl (by decide) (by omega) (by simp only [maxLen]; omega) rfl ?_; intro v20
  refine goL 3 [] [62, 5, 60, 61] .n ⟨by decide, ?_⟩
  intro a w hs; refine zBl ?_
  revert a w hs
  refine go 5 [] [3, 2] .n ?_
  have hge : zCk t tm b l.length = 0 := by first | exact zBR (by omega) | exact zAs (by omega) (by omega) | exact zBT (by omega) (by omega) (by omega) | exact zFV (by omega) (by omega) (by omega)
  refine cl (·.drop (.c (.s (.s (.s (.s (.s (.s .z)))))) (.c (.s (.s (.s (.s (.s .z))))) (.c (.s (.s (.s (.s .z)))) (.c (.s (.s (.s .z))) (.c (.s (.s .z)) (.c (.s .z) .n))))))) ?_
  intro a w hs; replace hs := hs.rerow .z (m' := (zCE t tm b l.length).length) (xs' := zF (zCE t tm b l.length)) (by rw [zCE, if_neg (by omega), zAq, zIU]; (first | rw [if_pos (by omega)] | rw [if_neg (by omega)]); simp only [List.length_append, List.length_cons, List.length_nil, zCe]) (by rw [zCE, if_neg (by omega), zAq, zIU]; (first | rw [if_pos (by omega)] | rw [if_neg (by omega)]); simp [zF, zIc])
  exact zCF hs rfl rfl rfl ⟨_, congrArg (fun z : Nat => Value.tuple #[v20, zI (z : Int)]) hge.symm, rfl⟩
 refine go 2 [] [5, 4, 1] .n (fun g21 => ?_)
 intro a w hs
 refine zAx [.p [] [], .p [0] [0], .v [1] (qI (BitVec.ofInt 64 t)), .p [] [], .p [3] [0], .v [4] (qI (zFK tm)), .p [] [], .p [] [], .p [7] [0], .v [8] (nI l.length), .v [9] (qI (BitVec.ofInt 64 ((l.length : Nat) : Int))), .x [10, 6, 5, 2] ⟨[], [], [], fun vs22 => vs22 11 = .slice (some ⟨(zCQ (vs22 11)), 0, none⟩) 4 4, fun vs22 => [blk (zCQ (vs22 11)) [qI (BitVec.ofInt 64 t), qI (zFK tm), .int .u64 (0), qI (BitVec.ofInt 64 ((l.length : Nat) : Int))] 130], none⟩, .y [] (zI 4) [] [] [] fun vs22 => [], .p [] []] [12, 13] hs .n .n (.c (.s .z) .n) (by kernel_rfl) ⟨rfl, fun _ _ _ _ hm hs K => zA0 hs rfl underlying2 underlying130 rfl (vk K), rfl, fun _ _ _ _ hm hs K => zH (v := qI (zFK tm)) hs (.c rfl .n) call95 (zOg tm _ (by omega)) rfl (vk K), rfl, fun _ _ _ _ hm hs K => zAG hs rfl (hm.rd0 hc).isSl underlying59 rfl (vk K), fun _ _ _ _ hm hs K => zA0 hs rfl underlying3 underlying130 rfl (vk K), ⟨.n, by kernel_rfl, fun _ => rfl, rfl, rfl⟩, ⟨?_, ?_, trivial⟩, ?_⟩
 ·
  intro a_ w_ R_ rest_ vs22 hm hs ht hx
  have hs0 := hs.bare
  refine zFv (cs := [qI (BitVec.ofInt 64 t), qI (zFK tm), .int .u64 (0), qI (BitVec.ofInt 64 ((l.length : Nat) : Int))]) hs (.c (.c (.c (.c .n)))) (.c rfl (.c rfl (.c rfl (.c rfl .n)))) underlying165 (ie := Tryz.t130) rfl rfl rfl rfl (by decide) (by decide) rfl (by decide) rfl rfl rfl ?_; clear hs; intro g23 a w hs
  exact wpList_nil ⟨rfl, _, _, hs0, (.c (.c (.c (.c .r)))), hs, rfl⟩
 ·
  intro a_ w_ R_ rest_ vs22 hm hs ht hx
  have t11 := ht 11 (zL 14 _ (by kernel_rfl))
  have e11 : _ = some (vs22 11) := t11.val rfl
  rw [show vs22 11 = .slice (some ⟨(zCQ (vs22 11)), 0, none⟩) 4 4 from t11.2.1] at e11
  replace hs := hs.learn e11
  have hs0 := hs.bare
  refine zAG hs rfl (zAa (m := 4) (size := 1) (hm.own (List.mem_append.2 (.inr ((ht 11 (zL 14 _ (by kernel_rfl))).2.2 (zFR (n := 14) (by kernel_rfl)) _ (List.Mem.head _))))) rfl (by decide)).isSl underlying165 rfl ?_; clear hs; intro a w hs
  replace hs := hs.recell (v' := zI 4) (Option.some.inj rfl)
  exact wpList_nil ⟨rfl, _, _, hs0, (.c .r), hs, rfl⟩
 clear hs w a; intro vs22 a w hs hf
 obtain ⟨e11, q11⟩ := hf 11 (by decide)
 replace e11 : _ = some (vs22 11) := e11.val rfl
 rw [show vs22 11 = .slice (some ⟨(zCQ (vs22 11)), 0, none⟩) 4 4 from q11] at e11
 replace hs := hs.learn e11; clear e11 q11
 generalize zCQ (vs22 11) = g24 at hs
 clear hf
 revert a w hs
 refine goE 0 [] [60, 62, 61, 5] .n ?_
 intro a w hs; refine zEp 4 ?_
 revert a w hs
 refine go 2 [] [60, 62, 61, 5] .n ?_
 intro a w hs; refine zA9 (j := 0) hs rfl rfl (zAa (m := 4) (size := 1) (hs.mem.del (.s (.s .z))) rfl (by decide)) (by decide) (by omega) underlying165 sizeOf130 rfl ?_
 intro a w hs; refine zA7 (u := qI (BitVec.ofInt 64 t)) hs rfl (zAa (m := 4) (size := 1) (hs.mem.del (.s (.s .z))) rfl (by decide)) (by rfl) isAgg130 rfl ?_
 refine goL 3 [] [67, 66, 60, 62, 61] .n ?_
 intro a w hs; refine zO hs (.c rfl .n) call96 .n (zEW (BitVec.ofInt 64 t) _) rfl ?_; clear hs w a; rintro v25 _ a w rfl hs
 replace hs := hs.toRow (size := 1) (m := 2) (.s .z) rfl (by decide)
 refine zAj (size := 1) (bytes := 1) hs rfl rfl .z (zM (hs.mem.del (.s .z))) (zQ _) underlying32 (i := Tryz.t5) rfl rfl rfl rfl rfl (by decide) (by omega) (by simp only [maxLen]; omega) rfl ?_; intro v26
 refine goL 3 [] [62, 5, 60, 61] .n ⟨by decide, ?_⟩
 intro a w hs; refine zBl ?_
 revert a w hs
 refine go 2 [] [62, 5, 60, 61] .n ?_
 intro a w hs; refine zA9 (j := 1) hs rfl rfl (zAa (m := 4) (size := 1) (hs.mem.del (.s (.s (.s .z)))) rfl (by decide)) (by decide) (by omega) underlying165 sizeOf130 rfl ?_
 intro a w hs; refine zA7 (u := qI (zFK tm)) hs rfl (zAa (m := 4) (size := 1) (hs.mem.del (.s (.s (.s .z)))) rfl (by decide)) (by rfl) isAgg130 rfl ?_
 refine goL 3 [] [67, 66, 62, 60, 61] .n ?_
 intro a w hs; refine zO hs (.c rfl .n) call96 .n (zEW (zFK tm) _) rfl ?_; clear hs w a; rintro v27 _ a w rfl hs
 refine zAj (size := 1) (bytes := 1) hs rfl rfl (.s .z) (zM (hs.mem.del .z)) (zQ _) underlying32 (i := Tryz.t5) rfl rfl rfl rfl rfl (by decide) (by omega) (by simp only [maxLen]; omega) rfl ?_; intro v28
 refine goL 3 [] [62, 5, 60, 61] .n ⟨by decide, ?_⟩
 intro a w hs; refine zBl ?_
 revert a w hs
 refine go 2 [] [62, 5, 60, 61] .n ?_
 intro a w hs; refine zA9 (j := 2) hs rfl rfl (zAa (m := 4) (size := 1) (hs.mem.del (.s (.s (.s (.s .z))))) rfl (by decide)) (by decide) (by omega) underlying165 sizeOf130 rfl ?_
 intro a w hs; refine zA7 (u := .int .u64 (0)) hs rfl (zAa (m := 4) (size := 1) (hs.mem.del (.s (.s (.s (.s .z))))) rfl (by decide)) (by rfl) isAgg130 rfl ?_
 refine goL 3 [] [67, 66, 62, 60, 61] .n ?_
 intro a w hs; refine zO hs (.c rfl .n) call96 .n (zEW (0#64) _) rfl ?_; clear hs w a; rintro v29 _ a w rfl hs
 refine zAj (size := 1) (bytes := 1) hs rfl rfl (.s .z) (zM (hs.mem.del .z)) (zQ _) underlying32 (i := Tryz.t5) rfl rfl rfl rfl rfl (by decide) (by omega) (by simp only [maxLen]; omega) rfl ?_; intro v30
 refine goL 3 [] [62, 5, 60, 61] .n ⟨by decide, ?_⟩
 intro a w hs; refine zBl ?_
 revert a w hs
 refine go 2 [] [62, 5, 60, 61] .n ?_
 intro a w hs; refine zA9 (j := 3) hs rfl rfl (zAa (m := 4) (size := 1) (hs.mem.del (.s (.s (.s (.s (.s .z)))))) rfl (by decide)) (by decide) (by omega) underlying165 sizeOf130 rfl ?_
 intro a w hs; refine zA7 (u := qI (BitVec.ofInt 64 ((l.length : Nat) : Int))) hs rfl (zAa (m := 4) (size := 1) (hs.mem.del (.s (.s (.s (.s (.s .z)))))) rfl (by decide)) (by rfl) isAgg130 rfl ?_
 refine goL 3 [] [67, 66, 62, 60, 61] .n ?_
 intro a w hs; refine zO hs (.c rfl .n) call96 .n (zEW (BitVec.ofInt 64 ((l.length : Nat) : Int)) _) rfl ?_; clear hs w a; rintro v31 _ a w rfl hs
 refine zAj (size := 1) (bytes := 1) hs rfl rfl (.s .z) (zM (hs.mem.del .z)) (zQ _) underlying32 (i := Tryz.t5) rfl rfl rfl rfl rfl (by decide) (by omega) (by simp only [maxLen]; omega) rfl ?_; intro v32
 refine goL 3 [] [62, 5, 60, 61] .n ⟨by decide, ?_⟩
 intro a w hs; refine zBl ?_
 revert a w hs
 refine go 5 [] [3, 2] .n ?_
 have hge : zCk t tm b l.length = 0 := by first | exact zBR (by omega) | exact zAs (by omega) (by omega) | exact zBT (by omega) (by omega) (by omega) | exact zFV (by omega) (by omega) (by omega)
 refine cl (·.drop (.c (.s (.s (.s (.s (.s (.s .z)))))) (.c (.s (.s (.s (.s (.s .z))))) (.c (.s (.s (.s (.s .z)))) (.c (.s (.s (.s .z))) (.c (.s (.s .z)) (.c (.s .z) .n))))))) ?_
 intro a w hs; replace hs := hs.rerow .z (m' := (zCE t tm b l.length).length) (xs' := zF (zCE t tm b l.length)) (by rw [zCE, if_neg (by omega), zAq, zIU]; (first | rw [if_pos (by omega)] | rw [if_neg (by omega)]); simp only [List.length_append, List.length_cons, List.length_nil, zCe]) (by rw [zCE, if_neg (by omega), zAq, zIU]; (first | rw [if_pos (by omega)] | rw [if_neg (by omega)]); simp [zF, zIc])
 exact zCF hs rfl rfl rfl ⟨_, congrArg (fun z : Nat => Value.tuple #[v32, zI (z : Int)]) hge.symm, rfl⟩
theorem zMb (t tm b : Int) (u : Value) (l : List zAd) (w0 : World) (ht_ : -9223372036854775808 ≤ t ∧ t ≤ 9223372036854775807) (htm_ : -9223372036854775808 ≤ tm ∧ tm ≤ 9223372036854775807) (hb_ : -9223372036854775808 ≤ b ∧ b ≤ 9223372036854775807) (hc : Rd w0 [] u 9 l.length (l.flatMap zDG)) (hl : ∀ x ∈ l, x.wf) : Calls Tryz.prog 37 #[.agg #[.int .i64 t, .int .i64 tm, .int .i64 b, u]] w0 (Ret w0 [] fun x N => ∃ v, x = .tuple #[v, nI (zAV t tm b l)] ∧ N = [row v 5 1 (zBv t tm b l).length (zF (zBv t tm b l))]) := by
 have hce := hc.le
 simp only [maxLen] at hce
 refine zT (F0 := [(0, .agg #[zI t, zI tm, zI b, u])]) func37 rfl rfl rfl (.c .n) (Mem.nil _) ?_
 refine go 4 [0, 0] [12, 1] .n (fun g1 => ⟨rfl, ?_⟩)
 intro a w hs; refine zO hs (.c rfl .n) call70 .n (zRV t tm b _ l _ (by omega) (by omega) (by omega) (hs.rd0 hc)) rfl ?_; clear hs w a; rintro _ _ a w ⟨v2, rfl, rfl⟩ hs
 have hk3 := zEM t tm b l.length
 revert a w hs
 refine goL 7 [] [17, 5, 4, 1] .n ?_
 refine ifG rfl (fun c_4 => ?_) (fun c_4 => ?_)
 ·
  refine go 3 [] [3, 2] .n ?_
  have hbe : zAV t tm b l = zCk t tm b l.length := by first | exact zAD (by omega) | exact (zAD (by rw [(show zCk t tm b l.length = _ by first | exact zBR (by omega) | exact zAs (by omega) (by omega) | exact zBT (by omega) (by omega) (by omega))]; decide)).trans (show zCk t tm b l.length = _ by first | exact zBR (by omega) | exact zAs (by omega) (by omega) | exact zBT (by omega) (by omega) (by omega)) | (rw [zAE (by omega)]; exact zBY (by omega) hI1_1 (by unfold zCc; omega)) | (rw [zAE (by omega)]; unfold zBg; rw [← show j = l.length by omega]; exact hI1_1)
  refine cl (·.drop (.c (.s .z) (.c .z .n))) ?_
  refine cl (·.addNil 5 1) ?_
  intro a w hs; replace hs := hs.rerow .z (m' := (zBv t tm b l).length) (xs' := zF (zBv t tm b l)) (by rw [zA2 (by omega)]; rfl) (by rw [zA2 (by omega)]; rfl)
  exact zCF hs rfl rfl rfl ⟨_, congrArg (fun z : Nat => Value.tuple #[.slice none 0 0, zI (z : Int)]) hbe.symm, rfl⟩
 have hgp := zE3 (t := t) (tm := tm) (b := b) (m := l.length) (by omega)
 refine cl (·.rerow .z (m' := (zAq t tm b l.length).length) (xs' := zF (zAq t tm b l.length)) (by rw [zCE, if_neg (by omega)]) (by rw [zCE, if_neg (by omega)])) ?_
 refine go 3 [0] [20, 6, 4] (.c (.s .z) .n) ⟨rfl, ?_⟩
 intro a w hs; refine zAG hs rfl (hs.rd0 hc).isSl underlying59 rfl ?_
 refine goL 1 [] [22, 21, 20, 6, 4] .n ?_
 refine cl (·.drop (.c .z .n)) ?_
 intro a w hs; replace hs := hs.rerow .z (m' := (zAq t tm b l.length).length + (zCd (l.take 0)).1.length) (xs' := zF (zAq t tm b l.length ++ (zCd (l.take 0)).1)) (by show _ = _ + 0; first | rfl | (simp only [zCe, zAq, List.length_append, List.length_cons, List.length_nil]; omega)) (by show _ = zF (_ ++ []); rw [List.append_nil])
 refine zCA (fun mm_ a w => ∃ j : Nat, ∃ p : Value, mm_ = l.length - j ∧ St 42 [(4, p), (6, zI ((zCd (l.take j)).2)), (20, u), (21, nI l.length), (22, zI (j : Int))] w0 [] [row p 5 1 ((zAq t tm b l.length).length + (zCd (l.take j)).1.length) (zF (zAq t tm b l.length ++ (zCd (l.take j)).1))] a w ∧ j ≤ l.length ∧ zCM l j = 0) ⟨0, v2, rfl, hs.sub (.c rfl (.c rfl (.c rfl (.c rfl (.c rfl .n))))), by omega, rfl⟩ ?_
 clear hs w a; rintro mm_ a w ⟨j, p, rfl, hs, hI1_0, hI1_1⟩
 have hll := zFr hI1_0 hI1_1
 have hrl := zHK (l.take j)
 have htl : (l.take j).length ≤ j := by rw [List.length_take]; omega
 revert a w hs
 refine go 1 [] [23, 4, 6, 20, 21, 22] .n ?_
 refine ifG rfl (fun c_5 => ?_) (fun c_5 => ?_)
 ·
  refine go 0 [] [4, 6, 20, 21, 22] .n ?_
  intro a w hs; refine zBj (j := j) hs rfl rfl (hs.rd0 hc) rfl (by omega) underlying59 sizeOf112 rfl ?_
  intro a w hs; refine zCm (cs := zDG (l.getD j default)) hs rfl (hs.rd0 hc) (zBe zCX l j (by omega)) (by rw [zBH zCX]; omega) (by omega) isAgg112 sizeOf112 rfl ?_
  refine goL 4 [0, 0] [28, 27, 8, 4, 20, 21, 22] .n (fun g6 => ⟨rfl, rfl, ?_⟩)
  intro a w hs; refine zO hs (.c rfl (.c rfl .n)) call71 .n (zRs (l.getD j default) ((zCd (l.take j)).2) _ (zHp hl (by omega)) (by omega)) rfl ?_; clear hs w a; rintro _ _ a w ⟨v7, rfl, rfl⟩ hs
  have hk8 := zEH (l.getD j default) ((zCd (l.take j)).2)
  revert a w hs
  refine goL 7 [] [33, 10, 9, 8, 4, 20, 21, 22] .n ?_
  refine ifG rfl (fun c_9 => ?_) (fun c_9 => ?_)
  ·
   refine go 3 [] [3, 2] .n ?_
   have hbe : zAV t tm b l = zBG (l.getD j default) ((zCd (l.take j)).2) := by first | exact zAD (by omega) | exact (zAD (by rw [(show zCk t tm b l.length = _ by first | exact zBR (by omega) | exact zAs (by omega) (by omega) | exact zBT (by omega) (by omega) (by omega))]; decide)).trans (show zCk t tm b l.length = _ by first | exact zBR (by omega) | exact zAs (by omega) (by omega) | exact zBT (by omega) (by omega) (by omega)) | (rw [zAE (by omega)]; exact zBY (by omega) hI1_1 (by unfold zCc; omega)) | (rw [zAE (by omega)]; unfold zBg; rw [← show j = l.length by omega]; exact hI1_1)
   refine cl (·.drop (.c (.s (.s .z)) (.c (.s .z) (.c .z .n)))) ?_
   refine cl (·.addNil 5 1) ?_
   intro a w hs; replace hs := hs.rerow .z (m' := (zBv t tm b l).length) (xs' := zF (zBv t tm b l)) (by rw [zA2 (by omega)]; rfl) (by rw [zA2 (by omega)]; rfl)
   exact zCF hs rfl rfl rfl ⟨_, congrArg (fun z : Nat => Value.tuple #[.slice none 0 0, zI (z : Int)]) hbe.symm, rfl⟩
  refine go 0 [] [9, 8, 4, 20, 21, 22] .n ?_
  refine cl (·.sub (F' := [(9, v7), (8, pt g6 0), (4, p), (20, u), (21, nI l.length), (22, zI (j : Int))]) (.c rfl (.c rfl (.c rfl (.c rfl (.c rfl (.c rfl .n))))))) ?_
  intro a w hs
  have hs1 := hs
  replace hs := hs.sub (F' := [(9, v7), (8, pt g6 0), (20, u), (21, nI l.length), (22, zI (j : Int))]) (.c rfl (.c rfl (.c rfl (.c rfl (.c rfl .n)))))
  refine zID (M0 := [row v7 5 1 ((zCg (l.getD j default) ((zCd (l.take j)).2)).length) (zF (zCg (l.getD j default) ((zCd (l.take j)).2))), blk g6 [zI ((l.getD j default).k), zI ((l.getD j default).id), zI ((l.getD j default).p0), zI ((l.getD j default).p1), zI ((l.getD j default).p2), zI ((l.getD j default).v0), zI ((l.getD j default).v1), zI ((l.getD j default).v2), .int .u16 ((((l.getD j default).a).toNat : Nat) : Int)] 112]) (Ds := [Pv 0 p, Pv 1 v7, ⟨[row p 5 1 ((zAq t tm b l.length).length + (zCd (l.take j)).1.length) (zF (zAq t tm b l.length ++ (zCd (l.take j)).1))], [], [], fun vs10 => True, fun vs10 => [row (vs10 2) 5 1 (((zAq t tm b l.length).length + (zCd (l.take j)).1.length) + ((zCg (l.getD j default) ((zCd (l.take j)).2)).length)) ((zF (zAq t tm b l.length ++ (zCd (l.take j)).1)) ++ (zF (zCg (l.getD j default) ((zCd (l.take j)).2))))], none⟩, Pv 3 (pt g6 1), Pv 4 (zI ((l.getD j default).id)), ⟨[], [], [2], fun vs10 => vs10 5 = (vs10 2), fun vs10 => [], some (p)⟩, Pv 6 (zI ((l.getD j default).id))]) (by kernel_rfl) hs rfl (.c (.s (.s .z)) .n) (by kernel_rfl) (by kernel_rfl) ?_ (zRI.get (.z rfl (.z rfl (.z rfl (.z rfl (.z rfl (.s rfl rfl rfl (.z rfl .n))))))) hs1) ?_
  all_goals clear hs1
  ·
   refine (.c ?_ (.c ?_ (.c ?_ (.c ?_ (.c ?_ (.c ?_ (.c ?_ .n)))))))
   · exact zB1 (m := 7) (.o (j := 5) (by kernel_rfl) rfl rfl .n) (fun hm0 hm hx => .n) (by kernel_rfl) (by kernel_rfl) rfl
   · exact zB1 (m := 7) .n (fun hm0 hm hx => .n) (by kernel_rfl) (by kernel_rfl) rfl
   ·
    intro a_ w_ R_ rest_ vs10 hm hs ht hx
    replace hs : St _ _ _ (zX [row p 5 1 ((zAq t tm b l.length).length + (zCd (l.take j)).1.length) (zF (zAq t tm b l.length ++ (zCd (l.take j)).1))]) [row p 5 1 ((zAq t tm b l.length).length + (zCd (l.take j)).1.length) (zF (zAq t tm b l.length ++ (zCd (l.take j)).1))] _ _ := hs
    have hm0 := hm.mid
    replace hs := hs.lrn (ht 0 (zL 7 _ (by kernel_rfl))) rfl rfl
    replace hs := hs.lrn (ht 1 (zL 7 _ (by kernel_rfl))) rfl rfl
    have hs0 := hs.bare
    refine zAj (size := 1) (bytes := 1) hs rfl rfl .z (zM (hm0.del .z)) (zQ _) underlying32 (i := Tryz.t5) rfl rfl rfl rfl rfl (by decide) (by omega) (by simp only [maxLen]; omega) rfl ?_; clear hs; intro v11 a w hs
    exact wpList_nil ⟨rfl, _, _, hs0, (.c (.c .r)), hs, trivial⟩
   · exact zB1 (m := 7) .n (fun hm0 hm hx => .n) (by kernel_rfl) (by kernel_rfl) rfl
   · exact zB1 (m := 7) (.c (k := 3) (by kernel_rfl) rfl rfl .n) (fun hm0 hm hx => (.c (hm0.del (.s .z)))) (by kernel_rfl) (by kernel_rfl) rfl
   ·
    intro a_ w_ R_ rest_ vs10 hm hs ht hx
    have hm0 := hm.mid
    have t2 := ht 2 (zL 7 _ (by kernel_rfl))
    have e2 : _ = some (vs10 2) := t2.val rfl
    replace hs := hs.learn e2
    have hs0 := hs.bare
    refine zJ1 hs rfl rfl ?_; clear hs; intro a w hs
    exact wpList_nil ⟨rfl, _, _, hs0, (.c .r), hs, rfl⟩
   exact zB1 (m := 7) (.c (k := 4) (by kernel_rfl) rfl rfl .n) (fun hm0 hm hx => .n) (by kernel_rfl) (by kernel_rfl) rfl
  clear hs w a; intro a w vs10 hs hf
  replace hs : St _ _ _ _ [row v7 5 1 ((zCg (l.getD j default) ((zCd (l.take j)).2)).length) (zF (zCg (l.getD j default) ((zCd (l.take j)).2))), blk g6 [zI ((l.getD j default).k), zI ((l.getD j default).id), zI ((l.getD j default).p0), zI ((l.getD j default).p1), zI ((l.getD j default).p2), zI ((l.getD j default).v0), zI ((l.getD j default).v1), zI ((l.getD j default).v2), .int .u16 ((((l.getD j default).a).toNat : Nat) : Int)] 112, row (vs10 2) 5 1 (((zAq t tm b l.length).length + (zCd (l.take j)).1.length) + ((zCg (l.getD j default) ((zCd (l.take j)).2)).length)) ((zF (zAq t tm b l.length ++ (zCd (l.take j)).1)) ++ (zF (zCg (l.getD j default) ((zCd (l.take j)).2))))] _ _ := hs
  obtain ⟨e5, q5⟩ := hf 5 (by decide)
  replace e5 : _ = some (vs10 5) := e5.val rfl
  rw [show vs10 5 = (vs10 2) from q5] at e5
  replace hs := hs.learn e5; clear e5 q5
  obtain ⟨e6, q6⟩ := hf 6 (by decide)
  replace e6 : _ = some (vs10 6) := e6.val rfl
  rw [show vs10 6 = zI ((l.getD j default).id) from q6] at e6
  replace hs := hs.learn e6; clear e6 q6
  generalize vs10 2 = v12 at hs
  clear hf
  revert a w hs
  refine goE 2 [] [22, 6, 4, 20, 21] .n ⟨(by omega), ?_⟩
  have he0 : zCc l j = 0 := by unfold zCc; omega
  intro a w hs; replace hs := hs.rerow (.s (.s .z)) (m' := (zAq t tm b l.length).length + (zCd (l.take (j + 1))).1.length) (xs' := zF (zAq t tm b l.length ++ (zCd (l.take (j + 1))).1)) (by rw [zB6 (by omega)]; simp only [List.length_append]; omega) (by rw [zB6 (by omega)]; simp [zF])
  replace hs := hs.reslot (d := 6) (v := zI ((l.getD j default).id)) (v' := zI ((zCd (l.take (j + 1))).2)) rfl (Option.some.inj (by rw [zB6 (by omega)]))
  replace hs := hs.drop (.c (.s (.s .z)) (.c (.s .z) .n))
  refine ⟨_, ?_, j + 1, v12, rfl, hs.sub (.c rfl (.c rfl (.c rfl (.c rfl (.c rfl .n))))), by omega, zIO hI1_1 he0⟩
  omega
 refine go 3 [] [3, 2] .n ?_
 have hbe : zAV t tm b l = 0 := by first | exact zAD (by omega) | exact (zAD (by rw [(show zCk t tm b l.length = _ by first | exact zBR (by omega) | exact zAs (by omega) (by omega) | exact zBT (by omega) (by omega) (by omega))]; decide)).trans (show zCk t tm b l.length = _ by first | exact zBR (by omega) | exact zAs (by omega) (by omega) | exact zBT (by omega) (by omega) (by omega)) | (rw [zAE (by omega)]; exact zBY (by omega) hI1_1 (by unfold zCc; omega)) | (rw [zAE (by omega)]; unfold zBg; rw [← show j = l.length by omega]; exact hI1_1)
 have hta : l.take j = l := List.take_of_length_le (by omega)
 intro a w hs; replace hs := hs.rerow .z (m' := (zBv t tm b l).length) (xs' := zF (zBv t tm b l)) (by rw [zFG hbe, hta]; simp only [List.length_append]) (by rw [zFG hbe, hta])
 exact zCF hs rfl rfl rfl ⟨_, congrArg (fun z : Nat => Value.tuple #[p, zI (z : Int)]) hbe.symm, rfl⟩
theorem zQA (t tm b : Int) (u : Value) (l : List zAd) (w0 : World) (ht_ : -9223372036854775808 ≤ t ∧ t ≤ 9223372036854775807) (htm_ : -9223372036854775808 ≤ tm ∧ tm ≤ 9223372036854775807) (hb_ : -9223372036854775808 ≤ b ∧ b ≤ 9223372036854775807) (hc : Rd w0 [] u 9 l.length (l.flatMap zDG)) (hl : ∀ x ∈ l, x.wf) : Calls Tryz.prog 26 #[.agg #[.int .i64 t, .int .i64 tm, .int .i64 b, u]] w0 (Ret w0 [] fun x N => ∃ v, x = .tuple #[v, nI (zIb t tm b l)] ∧ N = [row v 5 1 (gwB t tm b l).length (zF (gwB t tm b l))]) := by
 have hce := hc.le
 simp only [maxLen] at hce
 refine zT (F0 := [(0, .agg #[zI t, zI tm, zI b, u])]) func26 rfl rfl rfl (.c .n) (Mem.nil _) ?_
 refine go 4 [0, 0] [7] .n (fun g1 => ⟨rfl, ?_⟩)
 intro a w hs; refine zO hs (.c rfl .n) call37 .n (zMb t tm b _ l _ (by omega) (by omega) (by omega) (hs.rd0 hc) hl) rfl ?_; clear hs w a; rintro _ _ a w ⟨v2, rfl, rfl⟩ hs
 have hk3 := zEm t tm b l
 revert a w hs
 refine goL 8 [] [11, 5, 4] .n ?_
 refine ifG rfl (fun c_4 => ?_) (fun c_4 => ?_)
 ·
  refine go 3 [] [3, 2] .n ?_
  have hwe : zIb t tm b l = zAV t tm b l := by unfold zIb; (repeat' split) <;> omega
  refine cl (·.drop (.c (.s .z) (.c .z .n))) ?_
  refine cl (·.addNil 5 1) ?_
  intro a w hs; replace hs := hs.rerow .z (m' := (gwB t tm b l).length) (xs' := zF (gwB t tm b l)) (by rw [gwB, if_pos (by omega)]; rfl) (by rw [gwB, if_pos (by omega)]; rfl)
  exact zCF hs rfl rfl rfl ⟨_, congrArg (fun z : Nat => Value.tuple #[.slice none 0 0, zI (z : Int)]) hwe.symm, rfl⟩
 refine go 1 [] [16, 4] .n ?_
 intro a w hs; refine zAG hs rfl (zM (hs.mem.del .z)).isSl underlying32 rfl ?_
 refine goL 2 [] [15, 4] .n ?_
 refine ifG rfl (fun c_5 => ?_) (fun c_5 => ?_)
 ·
  refine go 2 [] [3, 2] .n ?_
  have hwe : zIb t tm b l = 8 := by unfold zIb; (repeat' split) <;> omega
  refine cl (·.drop (.c (.s .z) (.c .z .n))) ?_
  refine cl (·.addNil 5 1) ?_
  intro a w hs; replace hs := hs.rerow .z (m' := (gwB t tm b l).length) (xs' := zF (gwB t tm b l)) (by rw [gwB, if_pos (by omega)]; rfl) (by rw [gwB, if_pos (by omega)]; rfl)
  exact zCF hs rfl rfl rfl ⟨_, congrArg (fun z : Nat => Value.tuple #[.slice none 0 0, zI (z : Int)]) hwe.symm, rfl⟩
 refine go 1 [] [19] .n ?_
 intro a w hs; refine zO hs (.c rfl .n) call38 .n (zTz _ _ (zBv t tm b l) _ (zM (hs.mem.del .z)) (by omega)) rfl ?_; clear hs w a; rintro v6 _ a w rfl hs
 revert a w hs
 refine goL 2 [] [3, 2] .n ?_
 have hwe : zIb t tm b l = 0 := by unfold zIb; (repeat' split) <;> omega
 refine cl (·.drop (.c (.s (.s .z)) (.c (.s .z) .n))) ?_
 refine cl (·.rerow .z (m' := (gwB t tm b l).length) (xs' := zF (gwB t tm b l)) (by rw [gwB, if_neg (by omega), zCr]) (by rw [gwB, if_neg (by omega)])) ?_
 intro a w hs; exact zCF hs rfl rfl rfl ⟨_, congrArg (fun z : Nat => Value.tuple #[v6, zI (z : Int)]) hwe.symm, rfl⟩
theorem zOQ (t tm b : Int) (u : Value) (l : List zAd) (w0 : World) (ht_ : -9223372036854775808 ≤ t ∧ t ≤ 9223372036854775807) (htm_ : -9223372036854775808 ≤ tm ∧ tm ≤ 9223372036854775807) (hb_ : -9223372036854775808 ≤ b ∧ b ≤ 9223372036854775807) (hc : Rd w0 [] u 9 l.length (l.flatMap zDG)) (hl : ∀ x ∈ l, x.wf) : Calls Tryz.prog 48 #[.agg #[.int .i64 t, .int .i64 tm, .int .i64 b, u]] w0 (zCn w0 (nI (zAV t tm b l))) := by
 have hce := hc.le
 simp only [maxLen] at hce
 refine zT (F0 := [(0, .agg #[zI t, zI tm, zI b, u])]) func48 rfl rfl rfl (.c .n) (Mem.nil _) ?_
 refine go 3 [0, 0] [6] .n (fun g1 => ⟨rfl, ?_⟩)
 intro a w hs; refine zO hs (.c rfl .n) call37 .n (zMb t tm b _ l _ (by omega) (by omega) (by omega) (hs.rd0 hc) hl) rfl ?_; clear hs w a; rintro _ _ a w ⟨v2, rfl, rfl⟩ hs
 have hk3 := zEm t tm b l
 revert a w hs
 refine goL 7 [] [2] .n ?_
 refine cl (·.drop (.c (.s .z) (.c .z .n))) ?_
 intro a w hs; exact fin hs rfl rfl ⟨rfl, rfl⟩
end Go.Proofs.YtbacobmcfelmkaaGreat
