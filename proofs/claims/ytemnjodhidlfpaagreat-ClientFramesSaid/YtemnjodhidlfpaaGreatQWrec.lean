import Derived.Test.YtemnjodhidlfpaaGreatQG13
import Derived.Test.YtemnjodhidlfpaaGreatQSxBasB
import Derived.Test.YtemnjodhidlfpaaGreatQSxRecs
/- Walks of records: what each function does, over the program of this seat. Printed by a program of this session. -/
namespace Go.Proofs.YtemnjodhidlfpaaGreat
open Tryz
open Go Go.Sx Go.RowKit
set_option linter.unusedVariables false
set_option linter.unusedSimpArgs false
set_option maxRecDepth 4000
set_option maxHeartbeats 1000000

theorem zVK (r : zAA) (w0 : World) : Calls Tryz.prog 175 #[.agg #[zI r.k, zI r.id, zI r.p0, zI r.p1, zI r.p2, zI r.v0, zI r.v1, zI r.v2, .int .u16 (((r.a).toNat : Nat) : Int)]] w0 (zAa w0 (nI (zAc r))) := by
 refine zD (F0 := [(0, .agg #[zI r.k, zI r.id, zI r.p0, zI r.p1, zI r.p2, zI r.v0, zI r.v1, zI r.v2, .int .u16 (((r.a).toNat : Nat) : Int)])]) func175 rfl rfl rfl (.c .n) (Mem.nil _) ?_
 refine go 13 [0, 0, 0, 0, 1] [13, 3, 1] .n (fun g1 => ⟨rfl, rfl, fun g2 => ⟨rfl, rfl, ?_⟩⟩)
 intro a w hs; refine zV (b := decide (r.k < 0)) (fun c_3 => ?_) (fun c_3 => ?_)
 ·
  rw [c_3] at hs
  replace c_3 := of_decide_eq_true c_3
  revert a w hs
  refine go 7 [] [2] .n ?_
  refine cl (·.drop (.c (.s .z) (.c .z .n))) ?_
  intro a w hs; exact fin hs rfl rfl ⟨congrArg (Value.int .i64) (by unfold zAc; first | (rw [if_pos (by omega)]; rfl) | (rw [if_neg (by omega), if_pos (by omega)]; rfl) | (rw [if_neg (by omega), if_neg (by omega), if_pos (by first | exact .inl ⟨by omega, by assumption⟩ | exact .inr ⟨by omega, by assumption⟩)]; rfl) | (rw [if_neg (by omega), if_neg (by omega), if_neg (by rintro (⟨_, h_⟩ | ⟨_, h_⟩) <;> first | omega | simp_all)]; rfl)), rfl⟩
 rw [c_3] at hs
 replace c_3 := of_decide_eq_false c_3
 revert a w hs
 refine go 5 [0] [9, 3, 1] (.c (.s .z) .n) ⟨rfl, ?_⟩
 refine ifG rfl (fun c_4 => ?_) (fun c_4 => ?_)
 ·
  refine go 1 [] [2] .n ?_
  refine cl (·.drop (.c (.s .z) (.c .z .n))) ?_
  intro a w hs; exact fin hs rfl rfl ⟨congrArg (Value.int .i64) (by unfold zAc; first | (rw [if_pos (by omega)]; rfl) | (rw [if_neg (by omega), if_pos (by omega)]; rfl) | (rw [if_neg (by omega), if_neg (by omega), if_pos (by first | exact .inl ⟨by omega, by assumption⟩ | exact .inr ⟨by omega, by assumption⟩)]; rfl) | (rw [if_neg (by omega), if_neg (by omega), if_neg (by rintro (⟨_, h_⟩ | ⟨_, h_⟩) <;> first | omega | simp_all)]; rfl)), rfl⟩
 refine go 4 [0] [22, 3, 1] (.c .z .n) ⟨rfl, ?_⟩
 intro a w hs; refine zV (b := decide (r.id < 0)) (fun c_5 => ?_) (fun c_5 => ?_)
 ·
  rw [c_5] at hs
  replace c_5 := of_decide_eq_true c_5
  revert a w hs
  refine go 7 [] [2] .n ?_
  refine cl (·.drop (.c (.s .z) (.c .z .n))) ?_
  intro a w hs; exact fin hs rfl rfl ⟨congrArg (Value.int .i64) (by unfold zAc; first | (rw [if_pos (by omega)]; rfl) | (rw [if_neg (by omega), if_pos (by omega)]; rfl) | (rw [if_neg (by omega), if_neg (by omega), if_pos (by first | exact .inl ⟨by omega, by assumption⟩ | exact .inr ⟨by omega, by assumption⟩)]; rfl) | (rw [if_neg (by omega), if_neg (by omega), if_neg (by rintro (⟨_, h_⟩ | ⟨_, h_⟩) <;> first | omega | simp_all)]; rfl)), rfl⟩
 rw [c_5] at hs
 replace c_5 := of_decide_eq_false c_5
 revert a w hs
 refine go 5 [0] [18, 3, 1] (.c .z .n) ⟨rfl, ?_⟩
 refine ifG rfl (fun c_6 => ?_) (fun c_6 => ?_)
 ·
  refine go 1 [] [2] .n ?_
  refine cl (·.drop (.c (.s .z) (.c .z .n))) ?_
  intro a w hs; exact fin hs rfl rfl ⟨congrArg (Value.int .i64) (by unfold zAc; first | (rw [if_pos (by omega)]; rfl) | (rw [if_neg (by omega), if_pos (by omega)]; rfl) | (rw [if_neg (by omega), if_neg (by omega), if_pos (by first | exact .inl ⟨by omega, by assumption⟩ | exact .inr ⟨by omega, by assumption⟩)]; rfl) | (rw [if_neg (by omega), if_neg (by omega), if_neg (by rintro (⟨_, h_⟩ | ⟨_, h_⟩) <;> first | omega | simp_all)]; rfl)), rfl⟩
 refine go 4 [0] [31, 3, 1] (.c .z .n) ⟨rfl, ?_⟩
 intro a w hs; refine zV (b := (r.k : Int) == 1) (fun c_7 => ?_) (fun c_7 => ?_)
 ·
  rw [c_7] at hs
  replace c_7 := eq_of_beq c_7
  revert a w hs
  refine go 3 [0, 1] [34, 31, 3, 1] (.c .z (.c .z .n)) ⟨rfl, rfl, by kernel_rfl, ?_⟩
  intro a w hs; rw [show zAQ _ _ = zBD r from zLk r] at hs
  revert a w hs
  refine go 2 [] [27, 3, 1] .n ?_
  refine ifG rfl (fun c_8 => ?_) (fun c_8 => ?_)
  ·
   refine go 0 [] [27] .n ?_
   refine ifG rfl (fun c_9 => ?_) (fun c_9 => ?_)
   ·
    refine go 1 [] [2] .n ?_
    refine cl (·.drop (.c (.s .z) (.c .z .n))) ?_
    intro a w hs; exact fin hs rfl rfl ⟨congrArg (Value.int .i64) (by unfold zAc; first | (rw [if_pos (by omega)]; rfl) | (rw [if_neg (by omega), if_pos (by omega)]; rfl) | (rw [if_neg (by omega), if_neg (by omega), if_pos (by first | exact .inl ⟨by omega, by assumption⟩ | exact .inr ⟨by omega, by assumption⟩)]; rfl) | (rw [if_neg (by omega), if_neg (by omega), if_neg (by rintro (⟨_, h_⟩ | ⟨_, h_⟩) <;> first | omega | simp_all)]; rfl)), rfl⟩
   refine go 1 [] [2] .n ?_
   refine cl (·.drop (.c (.s .z) (.c .z .n))) ?_
   intro a w hs; exact fin hs rfl rfl ⟨congrArg (Value.int .i64) (by unfold zAc; first | (rw [if_pos (by omega)]; rfl) | (rw [if_neg (by omega), if_pos (by omega)]; rfl) | (rw [if_neg (by omega), if_neg (by omega), if_pos (by first | exact .inl ⟨by omega, by assumption⟩ | exact .inr ⟨by omega, by assumption⟩)]; rfl) | (rw [if_neg (by omega), if_neg (by omega), if_neg (by rintro (⟨_, h_⟩ | ⟨_, h_⟩) <;> first | omega | simp_all)]; rfl)), rfl⟩
  refine go 4 [0] [39, 3, 1] (.c .z .n) ⟨rfl, ?_⟩
  intro a w hs; refine zV (b := (r.k : Int) == 2) (fun c_10 => ?_) (fun c_10 => ?_)
  ·
   rw [c_10] at hs
   replace c_10 := eq_of_beq c_10
   revert a w hs
   refine go 3 [0, 1] [42, 39] (.c .z (.c .z .n)) ⟨rfl, rfl, by kernel_rfl, ?_⟩
   intro a w hs; rw [show zAQ _ _ = zBD r from zLk r] at hs
   revert a w hs
   refine go 2 [] [27] .n ?_
   refine ifG rfl (fun c_11 => ?_) (fun c_11 => ?_)
   ·
    refine go 1 [] [2] .n ?_
    refine cl (·.drop (.c (.s .z) (.c .z .n))) ?_
    intro a w hs; exact fin hs rfl rfl ⟨congrArg (Value.int .i64) (by unfold zAc; first | (rw [if_pos (by omega)]; rfl) | (rw [if_neg (by omega), if_pos (by omega)]; rfl) | (rw [if_neg (by omega), if_neg (by omega), if_pos (by first | exact .inl ⟨by omega, by assumption⟩ | exact .inr ⟨by omega, by assumption⟩)]; rfl) | (rw [if_neg (by omega), if_neg (by omega), if_neg (by rintro (⟨_, h_⟩ | ⟨_, h_⟩) <;> first | omega | simp_all)]; rfl)), rfl⟩
   refine go 1 [] [2] .n ?_
   refine cl (·.drop (.c (.s .z) (.c .z .n))) ?_
   intro a w hs; exact fin hs rfl rfl ⟨congrArg (Value.int .i64) (by unfold zAc; first | (rw [if_pos (by omega)]; rfl) | (rw [if_neg (by omega), if_pos (by omega)]; rfl) | (rw [if_neg (by omega), if_neg (by omega), if_pos (by first | exact .inl ⟨by omega, by assumption⟩ | exact .inr ⟨by omega, by assumption⟩)]; rfl) | (rw [if_neg (by omega), if_neg (by omega), if_neg (by rintro (⟨_, h_⟩ | ⟨_, h_⟩) <;> first | omega | simp_all)]; rfl)), rfl⟩
  rw [c_10] at hs
  replace c_10 := zAP c_10
  revert a w hs
  refine go 7 [] [2] .n ?_
  refine cl (·.drop (.c (.s .z) (.c .z .n))) ?_
  intro a w hs; exact fin hs rfl rfl ⟨congrArg (Value.int .i64) (by unfold zAc; first | (rw [if_pos (by omega)]; rfl) | (rw [if_neg (by omega), if_pos (by omega)]; rfl) | (rw [if_neg (by omega), if_neg (by omega), if_pos (by first | exact .inl ⟨by omega, by assumption⟩ | exact .inr ⟨by omega, by assumption⟩)]; rfl) | (rw [if_neg (by omega), if_neg (by omega), if_neg (by rintro (⟨_, h_⟩ | ⟨_, h_⟩) <;> first | omega | simp_all)]; rfl)), rfl⟩
 rw [c_7] at hs
 replace c_7 := zAP c_7
 revert a w hs
 refine go 10 [0] [39, 3, 1] (.c .z .n) ⟨rfl, ?_⟩
 intro a w hs; refine zV (b := (r.k : Int) == 2) (fun c_12 => ?_) (fun c_12 => ?_)
 ·
  rw [c_12] at hs
  replace c_12 := eq_of_beq c_12
  revert a w hs
  refine go 3 [0, 1] [42, 39] (.c .z (.c .z .n)) ⟨rfl, rfl, by kernel_rfl, ?_⟩
  intro a w hs; rw [show zAQ _ _ = zBD r from zLk r] at hs
  revert a w hs
  refine go 2 [] [27] .n ?_
  refine ifG rfl (fun c_13 => ?_) (fun c_13 => ?_)
  ·
   refine go 1 [] [2] .n ?_
   refine cl (·.drop (.c (.s .z) (.c .z .n))) ?_
   intro a w hs; exact fin hs rfl rfl ⟨congrArg (Value.int .i64) (by unfold zAc; first | (rw [if_pos (by omega)]; rfl) | (rw [if_neg (by omega), if_pos (by omega)]; rfl) | (rw [if_neg (by omega), if_neg (by omega), if_pos (by first | exact .inl ⟨by omega, by assumption⟩ | exact .inr ⟨by omega, by assumption⟩)]; rfl) | (rw [if_neg (by omega), if_neg (by omega), if_neg (by rintro (⟨_, h_⟩ | ⟨_, h_⟩) <;> first | omega | simp_all)]; rfl)), rfl⟩
  refine go 1 [] [2] .n ?_
  refine cl (·.drop (.c (.s .z) (.c .z .n))) ?_
  intro a w hs; exact fin hs rfl rfl ⟨congrArg (Value.int .i64) (by unfold zAc; first | (rw [if_pos (by omega)]; rfl) | (rw [if_neg (by omega), if_pos (by omega)]; rfl) | (rw [if_neg (by omega), if_neg (by omega), if_pos (by first | exact .inl ⟨by omega, by assumption⟩ | exact .inr ⟨by omega, by assumption⟩)]; rfl) | (rw [if_neg (by omega), if_neg (by omega), if_neg (by rintro (⟨_, h_⟩ | ⟨_, h_⟩) <;> first | omega | simp_all)]; rfl)), rfl⟩
 rw [c_12] at hs
 replace c_12 := zAP c_12
 revert a w hs
 refine go 7 [] [2] .n ?_
 refine cl (·.drop (.c (.s .z) (.c .z .n))) ?_
 intro a w hs; exact fin hs rfl rfl ⟨congrArg (Value.int .i64) (by unfold zAc; first | (rw [if_pos (by omega)]; rfl) | (rw [if_neg (by omega), if_pos (by omega)]; rfl) | (rw [if_neg (by omega), if_neg (by omega), if_pos (by first | exact .inl ⟨by omega, by assumption⟩ | exact .inr ⟨by omega, by assumption⟩)]; rfl) | (rw [if_neg (by omega), if_neg (by omega), if_neg (by rintro (⟨_, h_⟩ | ⟨_, h_⟩) <;> first | omega | simp_all)]; rfl)), rfl⟩
theorem zL9 (g : Nat) (w0 : World) : Calls Tryz.prog 181 #[pt g 0] w0 (zAa w0 (.agg #[pt g 2, pt g 3, pt g 4, pt g 5, pt g 6, pt g 7])) := by
 refine zD (F0 := [(0, pt g 0)]) func181 rfl rfl rfl (.c .n) (Mem.nil _) ?_
 refine go 1 [] [2, 0] .n (fun g1 => ?_)
 intro a w hs
 refine zR [.p [] [], .p [0] [], .p [1] [], .p [2] [], .p [] [], .p [4] [], .p [5] [], .p [6] [], .p [] [], .p [8] [], .p [9] [], .p [10] [], .p [] [], .p [12] [], .p [13] [], .p [14] [], .p [] [], .p [16] [], .p [17] [], .p [18] [], .p [] [], .p [20] [], .p [21] [], .p [22] [], .p [23, 19, 15, 11, 7, 3] [], .s [24] [0] [0] []] [] hs (.c .z .n) .n (by kernel_rfl) ⟨rfl, ⟨rfl, by kernel_rfl, fun _ => rfl, rfl, rfl, trivial⟩, fun _ => rfl, ?_⟩
 refine goE 0 [] [2] .n ?_
 intro a w hs; exact zK2 hs rfl rfl .z (.z (.c (.c (.c (.c (.c (.c .n))))))) isAgg277 sizeOf277 (.c .z .n) ⟨rfl, rfl⟩
theorem zDG (v : Value) (m : Nat) (bs : List zP) (x : Int) (w0 : World) (hr : (row v 5 1 m (zC bs)).p w0) (hm : m ≤ 200000) (hx : -9223372036854775808 ≤ x ∧ x ≤ 9223372036854775807) : Calls Tryz.prog 182 #[v, .int .i64 x] w0 (Ret w0 (zM [row v 5 1 m (zC bs)]) fun u N => N = [row u 5 1 (m + (zDL x).length) (zC (bs ++ zDL x))]) := by
 have hvl := zCq (zGG x).toNat
 refine zD (F0 := [(0, v), (1, zI x)]) func182 rfl rfl rfl (.c (.c .n)) (zAm hr zNJ) ?_
 refine go 3 [] [6, 5] .n ?_
 intro a w hs; refine zB (v := qI (zGG x)) hs (.c rfl .n) call173 (zR1 x _ (by omega)) rfl ?_
 intro a w hs; refine zK hs (.c rfl .n) call174 .n (zED (zGG x) _) rfl ?_; clear hs w a; rintro v1 _ a w rfl hs
 refine zBI (size := 1) (bytes := 1) hs rfl rfl (.s .z) (zO (hs.mem.del .z)) (zAG _) underlying31 (i := Tryz.t5) rfl rfl rfl rfl rfl (by decide) (by omega) (by simp only [maxLen]; omega) rfl ?_; intro v2
 refine goL 1 [] [4] .n ?_
 refine cl (·.drop (.c (.s .z) .n)) ?_
 refine cl (·.rerow .z (m' := m + (zDL x).length) (xs' := zC (bs ++ zDL x)) (by simp only [zDL, zBP]) (by simp only [zBL, zDL])) ?_
 intro a w hs; exact fin hs rfl rfl rfl
theorem zHf (v : Value) (m : Nat) (bs : List zP) (g : Nat) (r : zAA) (w0 : World) (hr : (row v 5 1 m (zC bs)).p w0) (hm : m ≤ 100000) (hg : (blk g [zI r.k, zI r.id, zI r.p0, zI r.p1, zI r.p2, zI r.v0, zI r.v1, zI r.v2, .int .u16 (((r.a).toNat : Nat) : Int)] 131).p w0) (hw : r.wf) : Calls Tryz.prog 165 #[v, pt g 0] w0 (Ret w0 (zM [row v 5 1 m (zC bs)]) fun u N => N = [row u 5 1 (m + (zBT r).length) (zC (bs ++ zBT r))]) := by
 have hwf := hw.facts
 have hva := zEC r.a.toNat
 refine zD (F0 := [(0, v), (1, pt g 0)]) func165 rfl rfl rfl (.c (.c .n)) (zAm hr zNJ) ?_
 refine go 2 [] [7, 0, 1] .n ?_
 intro a w hs; refine zB (v := .agg #[pt g 2, pt g 3, pt g 4, pt g 5, pt g 6, pt g 7]) hs (.c rfl .n) call181 (zL9 g _) rfl ?_
 refine goL 1 [] [9, 8, 0, 1] .n ?_
 intro a w hs; refine zCs 6 ?_
 revert a w hs
 refine go 7 [] [14, 12, 9, 8, 1] .n ?_
 intro a w hs; refine zU hs rfl (hs.mem.keep hg (zC4 hr hg (by decide))) (.s (.s .z)) isAgg2 rfl ?_
 intro a w hs; refine zK hs (.c rfl (.c rfl .n)) call182 (.c .z .n) (zDG _ _ bs r.p0 _ (hs.mem.del .z) (by omega) (by omega)) rfl ?_; clear hs w a; rintro v1 _ a w rfl hs
 have hk2 := zAF r.p0
 revert a w hs
 refine goL 3 [] [9, 0, 8, 1] .n ⟨by decide, ?_⟩
 intro a w hs; refine zAX ?_
 revert a w hs
 refine go 7 [] [14, 12, 9, 8, 1] .n ?_
 intro a w hs; refine zU hs rfl (hs.mem.keep hg (zC4 hr hg (by decide))) (.s (.s (.s .z))) isAgg2 rfl ?_
 intro a w hs; refine zK hs (.c rfl (.c rfl .n)) call182 (.c .z .n) (zDG _ _ (bs ++ zDL r.p0) r.p1 _ (hs.mem.del .z) (by omega) (by omega)) rfl ?_; clear hs w a; rintro v3 _ a w rfl hs
 have hk4 := zAF r.p1
 revert a w hs
 refine goL 3 [] [9, 0, 8, 1] .n ⟨by decide, ?_⟩
 intro a w hs; refine zAX ?_
 revert a w hs
 refine go 7 [] [14, 12, 9, 8, 1] .n ?_
 intro a w hs; refine zU hs rfl (hs.mem.keep hg (zC4 hr hg (by decide))) (.s (.s (.s (.s .z)))) isAgg2 rfl ?_
 intro a w hs; refine zK hs (.c rfl (.c rfl .n)) call182 (.c .z .n) (zDG _ _ ((bs ++ zDL r.p0) ++ zDL r.p1) r.p2 _ (hs.mem.del .z) (by omega) (by omega)) rfl ?_; clear hs w a; rintro v5 _ a w rfl hs
 have hk6 := zAF r.p2
 revert a w hs
 refine goL 3 [] [9, 0, 8, 1] .n ⟨by decide, ?_⟩
 intro a w hs; refine zAX ?_
 revert a w hs
 refine go 7 [] [14, 12, 9, 8, 1] .n ?_
 intro a w hs; refine zU hs rfl (hs.mem.keep hg (zC4 hr hg (by decide))) (.s (.s (.s (.s (.s .z))))) isAgg2 rfl ?_
 intro a w hs; refine zK hs (.c rfl (.c rfl .n)) call182 (.c .z .n) (zDG _ _ (((bs ++ zDL r.p0) ++ zDL r.p1) ++ zDL r.p2) r.v0 _ (hs.mem.del .z) (by omega) (by omega)) rfl ?_; clear hs w a; rintro v7 _ a w rfl hs
 have hk8 := zAF r.v0
 revert a w hs
 refine goL 3 [] [9, 0, 8, 1] .n ⟨by decide, ?_⟩
 intro a w hs; refine zAX ?_
 revert a w hs
 refine go 7 [] [14, 12, 9, 8, 1] .n ?_
 intro a w hs; refine zU hs rfl (hs.mem.keep hg (zC4 hr hg (by decide))) (.s (.s (.s (.s (.s (.s .z)))))) isAgg2 rfl ?_
 intro a w hs; refine zK hs (.c rfl (.c rfl .n)) call182 (.c .z .n) (zDG _ _ ((((bs ++ zDL r.p0) ++ zDL r.p1) ++ zDL r.p2) ++ zDL r.v0) r.v1 _ (hs.mem.del .z) (by omega) (by omega)) rfl ?_; clear hs w a; rintro v9 _ a w rfl hs
 have hk10 := zAF r.v1
 revert a w hs
 refine goL 3 [] [9, 0, 8, 1] .n ⟨by decide, ?_⟩
 intro a w hs; refine zAX ?_
 revert a w hs
 refine go 7 [] [14, 12, 9, 8, 1] .n ?_
 intro a w hs; refine zU hs rfl (hs.mem.keep hg (zC4 hr hg (by decide))) (.s (.s (.s (.s (.s (.s (.s .z))))))) isAgg2 rfl ?_
 intro a w hs; refine zK hs (.c rfl (.c rfl .n)) call182 (.c .z .n) (zDG _ _ (((((bs ++ zDL r.p0) ++ zDL r.p1) ++ zDL r.p2) ++ zDL r.v0) ++ zDL r.v1) r.v2 _ (hs.mem.del .z) (by omega) (by omega)) rfl ?_; clear hs w a; rintro v11 _ a w rfl hs
 have hk12 := zAF r.v2
 revert a w hs
 refine goL 3 [] [9, 0, 8, 1] .n ⟨by decide, ?_⟩
 intro a w hs; refine zAX ?_
 revert a w hs
 refine go 6 [] [21, 18] .n ?_
 intro a w hs; refine zU hs rfl (hs.mem.keep hg (zC4 hr hg (by decide))) (.s (.s (.s (.s (.s (.s (.s (.s .z)))))))) isAgg50 rfl ?_
 intro a w hs; refine zF3 (X := r.a) hs rfl rfl underlying50 underlying167 rfl ?_
 intro a w hs; refine zK hs (.c rfl .n) call174 .n (zED ((r.a).setWidth 64) _) rfl ?_; clear hs w a; rintro v13 _ a w rfl hs
 replace hs := hs.rerow .z (m' := (zCI r.a.toNat).length) (xs' := zC (zCI r.a.toNat)) (by rw [zSh]; rfl) (by rw [zSh])
 refine zBI (size := 1) (bytes := 1) hs rfl rfl (.s .z) (zO (hs.mem.del .z)) (zAG _) underlying31 (i := Tryz.t5) rfl rfl rfl rfl rfl (by decide) (by omega) (by simp only [maxLen]; omega) rfl ?_; intro v14
 refine goL 1 [] [4] .n ?_
 refine cl (·.drop (.c (.s .z) .n)) ?_
 intro a w hs; replace hs := hs.rerow .z (m' := m + (zBT r).length) (xs' := zC (bs ++ zBT r)) (by simp only [List.length_append, zBP, zBT]; omega) (by simp only [zBL, List.append_assoc, zBT])
 exact fin hs rfl rfl rfl
theorem zKc (v : Value) (m : Nat) (bs : List zP) (g : Nat) (r : zAA) (w0 : World) (hr : (row v 5 1 m (zC bs)).p w0) (hm : m ≤ 100000) (hg : (blk g [zI r.k, zI r.id, zI r.p0, zI r.p1, zI r.p2, zI r.v0, zI r.v1, zI r.v2, .int .u16 (((r.a).toNat : Nat) : Int)] 131).p w0) (hw : r.wf) : Calls Tryz.prog 167 #[v, pt g 0] w0 (Ret w0 (zM [row v 5 1 m (zC bs)]) fun u N => N = [row u 5 1 (m + (zBF r).length) (zC (bs ++ zBF r))]) := by
 have hwf := hw.facts
 have hva := zEC r.a.toNat
 have hml := hr.1
 rw [show (zC bs).length = bs.length by simp [zC], Nat.mul_one] at hml
 have hlu_ := zBO r 0
 refine zD (F0 := [(0, v), (1, pt g 0)]) func167 rfl rfl rfl (.c (.c .n)) (zAm hr zNJ) ?_
 refine go 2 [] [8, 0, 1] .n ?_
 intro a w hs; refine zAE hs rfl (zO (hs.mem.del .z)).isSl underlying31 rfl ?_
 refine goL 3 [] [11, 10, 5, 1] .n (fun g1 => ?_)
 intro a w hs; refine zBI (size := 1) (bytes := 1) hs rfl rfl (.s .z) (zAI (m := 1) (size := 1) (hs.mem.del .z) rfl (by decide)) (by simp [Value.oneCell']) underlying31 (i := Tryz.t5) rfl rfl rfl rfl rfl (by decide) (by omega) (by simp only [maxLen]; omega) rfl ?_; intro v2
 refine cl (·.drop (.c (.s .z) .n)) ?_
 intro a w hs; replace hs := hs.rerow .z (m' := (m + 1 + (zAY r 0).length)) (xs' := zC (bs ++ zAu r 0 :: zAY r 0)) (by simp only [zAY, List.length_nil]) (by simp only [zBL, zAu, zAY]; rfl)
 revert a w hs
 refine goL 2 [] [13, 0, 5, 1] .n ?_
 intro a w hs; refine zB (v := .agg #[pt g 2, pt g 3, pt g 4, pt g 5, pt g 6, pt g 7]) hs (.c rfl .n) call181 (zL9 g _) rfl ?_
 refine goL 1 [] [15, 14, 0, 5, 1] .n ?_
 intro a w hs; refine zCh (fun mm_ a w => ∃ i : Nat, ∃ q : Value, mm_ = 6 - i ∧ St 57 [(0, q), (1, pt g 0), (5, zI (m : Int)), (14, .agg #[pt g 2, pt g 3, pt g 4, pt g 5, pt g 6, pt g 7]), (15, nI i)] w0 (zM [row v 5 1 m (zC bs)]) [row q 5 1 (m + 1 + (zAY r i).length) (zC (bs ++ zAu r i :: zAY r i))] a w ∧ i ≤ 6) ⟨0, v2, rfl, hs.sub (.c rfl (.c rfl (.c rfl (.c rfl (.c rfl .n))))), by omega⟩ ?_
 clear hs w a; rintro mm_ a w ⟨i, q, rfl, hs, hI1_0⟩
 have hlui := zBO r i
 have hluj := zBO r (i + 1)
 revert a w hs
 refine go 1 [] [16, 0, 1, 5, 14, 15] .n ?_
 refine ifG rfl (fun c_3 => ?_) (fun c_3 => ?_)
 ·
  refine go 1 [] [17, 0, 1, 5, 14, 15] .n ?_
  intro a w hs; refine zZ1 hs rfl rfl underlying277 (by omega) (by omega) (zU2 (by omega)) isAgg276 sizeOf276 rfl ?_
  refine goL 3 [] [19, 7, 6, 0, 1, 5, 14, 15] .n ?_
  intro a w hs; refine zUW hs rfl rfl ?_
  intro a w hs; refine zJW (v := zI (r.num i)) hs rfl (hs.mem.keep hg (zC4 hr hg (by decide))) (zQY (by omega)) isAgg2 rfl ?_
  refine goL 1 [] [22, 7, 6, 0, 1, 5, 14, 15] .n ?_
  refine ifG rfl (fun c_4 => ?_) (fun c_4 => ?_)
  ·
   have hn_ : r.num i ≠ 0 := by assumption
   have hnr := zXB hw (i := i) (by omega)
   refine go 0 [] [7, 6, 0, 1, 5, 14, 15] .n ?_
   intro a w hs
   refine zAO [.p [] [], .p [] [], .y [1, 0] (.pointer (some (adr q m))) [] [] [] fun vs5 => [], .y [2] (bI (zAu r i)) [] [] [] fun vs5 => [], .p [] [], .v [4] (bI ((1#8) <<< i)), .v [5, 3] (bI ((zAu r i) ||| ((1#8) <<< i))), .y [1, 0] (.pointer (some (adr q m))) [] [] [] fun vs5 => [], .x [7, 6] ⟨[row q 5 1 (m + 1 + (zAY r i).length) (zC (bs ++ zAu r i :: zAY r i))], [], [], fun vs5 => True, fun vs5 => [row q 5 1 (m + 1 + (zAY r i).length) (zC ((bs ++ zAu r i :: zAY r i).set m ((zAu r i) ||| ((1#8) <<< i))))], none⟩] [] hs .n (.c .z .n) .n (by kernel_rfl) ⟨fun _ _ _ _ hm hs K => zQ8 (X := 1#8) (m := i) hs rfl (by decide) rfl rfl rfl (vk K), fun _ _ _ _ hm hs K => zJj (X := zAu r i) (Y := (1#8) <<< i) hs rfl rfl rfl rfl rfl (vk K), ⟨(.c .z .n), by kernel_rfl, fun _ => rfl, rfl, rfl⟩, ⟨?_, ?_, ?_, ?_, trivial⟩, ?_⟩
   ·
    intro a_ w_ R_ rest_ vs5 hm hs ht hx
    have hs0 := hs.bare
    refine zAw (j := m) hs rfl rfl (zO (hm.own (List.mem_append.2 (.inr ((hx 8 (zH 9 _ (by kernel_rfl))).1 _ (List.Mem.head _)))))) rfl (by omega) underlying31 sizeOf5 rfl ?_; clear hs; intro a w hs
    exact wpList_nil ⟨rfl, _, _, hs0, (.c (.c .r)), hs, rfl⟩
   ·
    intro a_ w_ R_ rest_ vs5 hm hs ht hx
    have hs0 := hs.bare
    refine zBY hs rfl (zO (hm.own (List.mem_append.2 (.inr ((hx 8 (zH 9 _ (by kernel_rfl))).1 _ (List.Mem.head _)))))) (zBy (bs ++ zAu r i :: zAY r i) (by first | omega | (simp; omega))) isAgg5 rfl ?_; clear hs; intro a w hs
    rw [zMq hml] at hs
    exact wpList_nil ⟨rfl, _, _, hs0, (.c .r), hs, rfl⟩
   ·
    intro a_ w_ R_ rest_ vs5 hm hs ht hx
    have hs0 := hs.bare
    refine zAw (j := m) hs rfl rfl (zO (hm.own (List.mem_append.2 (.inr ((hx 8 (zH 9 _ (by kernel_rfl))).1 _ (List.Mem.head _)))))) rfl (by omega) underlying31 sizeOf5 rfl ?_; clear hs; intro a w hs
    exact wpList_nil ⟨rfl, _, _, hs0, (.c (.c .r)), hs, rfl⟩
   ·
    intro a_ w_ R_ rest_ vs5 hm hs ht hx
    have hs0 := hs.bare
    refine zMW hs rfl rfl .z (by omega) rfl sizeOf5 ?_; clear hs; intro a w hs
    replace hs := hs.rerow .z (m' := (m + 1 + (zAY r i).length)) (xs' := zC ((bs ++ zAu r i :: zAY r i).set m ((zAu r i) ||| ((1#8) <<< i)))) (rfl) ((zEw _ _ _).symm)
    exact wpList_nil ⟨rfl, .tuple #[], _, hs0, (.c (.c .r)), hs, trivial⟩
   clear hs w a; intro vs5 a w hs hf
   clear hf
   revert a w hs
   refine goE 1 [] [31, 7, 1, 5, 14, 15] .n ?_
   refine cl (·.rerow .z (m' := (m + 1 + (zAY r i).length)) (xs' := zC (bs ++ (zAu r i ||| (1#8 <<< i)) :: zAY r i)) (rfl) (by rw [zRV hml])) ?_
   refine go 1 [] [32, 31, 1, 5, 14, 15] .n ?_
   intro a w hs; refine zUW hs rfl rfl ?_
   intro a w hs; refine zJW (v := zI (r.num i)) hs rfl (hs.mem.keep hg (zC4 hr hg (by decide))) (zQY (by omega)) isAgg2 rfl ?_
   intro a w hs; refine zK hs (.c rfl (.c rfl .n)) call182 (.c .z .n) (zDG _ _ (bs ++ (zAu r i ||| (1#8 <<< i)) :: zAY r i) (r.num i) _ (hs.mem.del .z) (by omega) (by omega)) rfl ?_; clear hs w a; rintro v6 _ a w rfl hs
   have hk7 := zAF (r.num i)
   revert a w hs
   refine goL 3 [] [15, 0, 1, 5, 14] .n ⟨(by omega), ?_⟩
   intro a w hs; replace hs := hs.rerow .z (m' := (m + 1 + (zAY r (i + 1)).length)) (xs' := zC (bs ++ zAu r (i + 1) :: zAY r (i + 1))) (by first | (rw [zHJ hz_]) | (rw [zHG hn_]; simp only [List.length_append]; omega)) (by first | (rw [zNO hz_, zHJ hz_]) | (rw [zM7 hn_, zHG hn_]; simp [zBL]))
   refine ⟨_, ?_, (i + 1), v6, rfl, hs.sub (.c rfl (.c rfl (.c rfl (.c rfl (.c rfl .n))))), by omega⟩
   omega
  have hz_ : r.num i = 0 := by assumption
  refine go 2 [] [15, 0, 1, 5, 14] .n ⟨(by omega), ?_⟩
  intro a w hs; replace hs := hs.rerow .z (m' := (m + 1 + (zAY r (i + 1)).length)) (xs' := zC (bs ++ zAu r (i + 1) :: zAY r (i + 1))) (by first | (rw [zHJ hz_]) | (rw [zHG hn_]; simp only [List.length_append]; omega)) (by first | (rw [zNO hz_, zHJ hz_]) | (rw [zM7 hn_, zHG hn_]; simp [zBL]))
  refine ⟨_, ?_, (i + 1), q, rfl, hs.sub (.c rfl (.c rfl (.c rfl (.c rfl (.c rfl .n))))), by omega⟩
  omega
 obtain rfl : i = 6 := by omega
 refine go 3 [] [39, 0, 1, 5] .n ?_
 intro a w hs; refine zU hs rfl (hs.mem.keep hg (zC4 hr hg (by decide))) (.s (.s (.s (.s (.s (.s (.s (.s .z)))))))) isAgg50 rfl ?_
 refine goL 1 [] [41, 0, 1, 5] .n ?_
 refine ifG rfl (fun c_8 => ?_) (fun c_8 => ?_)
 ·
  refine go 2 [] [43, 42, 0, 1] .n ?_
  intro a w hs; refine zAw (j := m) hs rfl rfl (zO (hs.mem.del .z)) rfl (by omega) underlying31 sizeOf5 rfl ?_
  intro a w hs; refine zBY hs rfl (zO (hs.mem.del .z)) (zBy (bs ++ zAu r 6 :: zAY r 6) (by first | omega | (simp; omega))) isAgg5 rfl ?_
  intro a w hs; rw [zMq hml] at hs
  refine zJj (X := zAu r 6) (Y := 64#8) hs rfl rfl rfl (by decide) rfl ?_
  intro a w hs; refine zAw (j := m) hs rfl rfl (zO (hs.mem.del .z)) rfl (by omega) underlying31 sizeOf5 rfl ?_
  intro a w hs; refine zMW hs rfl rfl .z (by omega) rfl sizeOf5 ?_
  refine cl (·.rerow .z (m' := (m + 1 + (zAY r 6).length)) (xs' := zC ((bs ++ zAu r 6 :: zAY r 6).set m ((zAu r 6) ||| (64#8)))) (rfl) ((zEw _ _ _).symm)) ?_
  refine goL 1 [] [48, 1] .n ?_
  refine cl (·.rerow .z (m' := (m + 1 + (zAY r 6).length)) (xs' := zC (bs ++ (zAu r 6 ||| 64#8) :: zAY r 6)) (rfl) (by rw [zRV hml])) ?_
  refine go 3 [] [51, 48] .n ?_
  intro a w hs; refine zU hs rfl (hs.mem.keep hg (zC4 hr hg (by decide))) (.s (.s (.s (.s (.s (.s (.s (.s .z)))))))) isAgg50 rfl ?_
  intro a w hs; refine zF3 (X := r.a) hs rfl rfl underlying50 underlying167 rfl ?_
  intro a w hs; refine zK hs (.c rfl .n) call174 .n (zED ((r.a).setWidth 64) _) rfl ?_; clear hs w a; rintro v9 _ a w rfl hs
  replace hs := hs.rerow .z (m' := (zCI r.a.toNat).length) (xs' := zC (zCI r.a.toNat)) (by rw [zSh]; rfl) (by rw [zSh])
  refine zBI (size := 1) (bytes := 1) hs rfl rfl (.s .z) (zO (hs.mem.del .z)) (zAG _) underlying31 (i := Tryz.t5) rfl rfl rfl rfl rfl (by decide) (by omega) (by simp only [maxLen]; omega) rfl ?_; intro v10
  refine goL 3 [] [4] .n ?_
  refine cl (·.drop (.c (.s .z) .n)) ?_
  intro a w hs; replace hs := hs.rerow .z (m' := m + (zBF r).length) (xs' := zC (bs ++ zBF r)) (by first | (rw [zBV (by omega)]; simp only [List.length_append, List.length_cons]; omega) | (rw [zBR (by omega)]; simp only [List.length_append, List.length_cons]; omega)) (by first | (rw [zBV (by omega)]) | (rw [zBR (by omega)]; simp [zC]))
  exact fin hs rfl rfl rfl
 refine go 2 [] [4] .n ?_
 intro a w hs; replace hs := hs.rerow .z (m' := m + (zBF r).length) (xs' := zC (bs ++ zBF r)) (by first | (rw [zBV (by omega)]; simp only [List.length_append, List.length_cons]; omega) | (rw [zBR (by omega)]; simp only [List.length_append, List.length_cons]; omega)) (by first | (rw [zBV (by omega)]) | (rw [zBR (by omega)]; simp [zC]))
 exact fin hs rfl rfl rfl
theorem zRM (v : Value) (m : Nat) (bs : List zP) (g : Nat) (w0 : World) (hr : (row v 5 1 m (zC bs)).p w0) : Calls Tryz.prog 163 #[v, pt g 0] w0 (Ret w0 (zM [row v 5 1 m (zC bs)]) fun u N => u = v ∧ N = [row v 5 1 m (zC bs)]) := by
 refine zD (F0 := [(0, v), (1, pt g 0)]) func163 rfl rfl rfl (.c (.c .n)) (zAm hr zNJ) ?_
 refine go 3 [] [4] .n ?_
 intro a w hs; exact fin hs rfl rfl ⟨rfl, rfl⟩
theorem zFb (w0 : World) : Calls Tryz.prog 132 #[] w0 (zAa w0 (.agg #[.func (.func 165) #[] #[], .func (.func 166) #[] #[], .func (.func 167) #[] #[], .func (.func 168) #[] #[], .func (.func 163) #[] #[], .func (.func 164) #[] #[], .func (.func 165) #[] #[], .func (.func 166) #[] #[]])) := by
 refine zD (F0 := []) func132 rfl rfl rfl .n (Mem.nil _) ?_
 refine go 10 [0, 0, 1] [0] .n (fun g1 => fun g2 => ⟨rfl, rfl, rfl, ?_⟩)
 intro a w hs; exact zK2 hs rfl rfl (.s .z) (.z (.c (.c (.c (.c (.c (.c (.c (.c .n))))))))) isAgg224 sizeOf224 (.c (.s .z) (.c .z .n)) ⟨rfl, rfl⟩
theorem zUj (r : zAA) (last : Int) (w0 : World) (hw : r.wf) (hl : -9223372036854775808 ≤ last ∧ last ≤ 9223372036854775807) : Calls Tryz.prog 140 #[.agg #[zI r.k, zI r.id, zI r.p0, zI r.p1, zI r.p2, zI r.v0, zI r.v1, zI r.v2, .int .u16 (((r.a).toNat : Nat) : Int)], .int .i64 last] w0 (Ret w0 [] fun u N => ∃ v, u = .tuple #[v, nI (zAy r last)] ∧ N = [row v 5 1 (zCV r last).length (zC (zCV r last))]) := by
 have hwf := hw.facts
 have hva := zEC r.a.toNat
 have hal := zJF r
 have hsl := zIU r
 have hul := zBO r 6
 have hul0 := zBO r 0
 have hhl := zIO r last
 have hvX := zCq (BitVec.ofInt 64 (r.id - last - 1)).toNat
 refine zD (F0 := [(0, .agg #[zI r.k, zI r.id, zI r.p0, zI r.p1, zI r.p2, zI r.v0, zI r.v1, zI r.v2, .int .u16 (((r.a).toNat : Nat) : Int)]), (1, zI last)]) func140 rfl rfl rfl (.c (.c .n)) (Mem.nil _) ?_
 refine go 4 [0, 0] [8, 2, 1] .n (fun g1 => ⟨rfl, ?_⟩)
 intro a w hs; refine zB (v := nI (zAc r)) hs (.c rfl .n) call175 (zVK r _) rfl ?_
 refine goL 3 [] [11, 6, 2, 1] .n ?_
 refine ifG rfl (fun c_2 => ?_) (fun c_2 => ?_)
 ·
  refine go 3 [] [5, 4] .n ?_
  have hre : zAy r last = zAc r := by first | exact zB5 (by omega) | exact zB6 (by omega) (by omega) | exact zB1 (by omega) (by omega) (by omega) | exact zCg (by omega) (by omega) (by omega)
  refine cl (·.drop (.c .z .n)) ?_
  refine cl (·.addNil 5 1) ?_
  intro a w hs; replace hs := hs.rerow .z (m' := (zCV r last).length) (xs' := zC (zCV r last)) (by rw [zDT (by omega)]; rfl) (by rw [zDT (by omega)]; rfl)
  exact zBH hs rfl rfl rfl ⟨_, congrArg (fun z : Nat => Value.tuple #[.slice none 0 0, zI (z : Int)]) hre.symm, rfl⟩
 have hck := zMX (r := r) (by omega)
 refine go 3 [] [16, 2, 1] .n ?_
 intro a w hs; refine zV (b := decide (last < (-1))) (fun c_3 => ?_) (fun c_3 => ?_)
 ·
  rw [c_3] at hs
  replace c_3 := of_decide_eq_true c_3
  revert a w hs
  refine go 7 [] [5, 4] .n ?_
  have hre : zAy r last = 3 := by first | exact zB5 (by omega) | exact zB6 (by omega) (by omega) | exact zB1 (by omega) (by omega) (by omega) | exact zCg (by omega) (by omega) (by omega)
  refine cl (·.drop (.c .z .n)) ?_
  refine cl (·.addNil 5 1) ?_
  intro a w hs; replace hs := hs.rerow .z (m' := (zCV r last).length) (xs' := zC (zCV r last)) (by rw [zDT (by omega)]; rfl) (by rw [zDT (by omega)]; rfl)
  exact zBH hs rfl rfl rfl ⟨_, congrArg (fun z : Nat => Value.tuple #[.slice none 0 0, zI (z : Int)]) hre.symm, rfl⟩
 rw [c_3] at hs
 replace c_3 := of_decide_eq_false c_3
 revert a w hs
 refine go 4 [] [13, 2, 1] .n ?_
 refine ifG rfl (fun c_4 => ?_) (fun c_4 => ?_)
 ·
  refine go 2 [] [5, 4] .n ?_
  have hre : zAy r last = 3 := by first | exact zB5 (by omega) | exact zB6 (by omega) (by omega) | exact zB1 (by omega) (by omega) (by omega) | exact zCg (by omega) (by omega) (by omega)
  refine cl (·.drop (.c .z .n)) ?_
  refine cl (·.addNil 5 1) ?_
  intro a w hs; replace hs := hs.rerow .z (m' := (zCV r last).length) (xs' := zC (zCV r last)) (by rw [zDT (by omega)]; rfl) (by rw [zDT (by omega)]; rfl)
  exact zBH hs rfl rfl rfl ⟨_, congrArg (fun z : Nat => Value.tuple #[.slice none 0 0, zI (z : Int)]) hre.symm, rfl⟩
 refine go 5 [0] [20, 2, 1] (.c .z .n) ⟨rfl, ?_⟩
 refine ifG rfl (fun c_5 => ?_) (fun c_5 => ?_)
 ·
  refine go 2 [] [5, 4] .n ?_
  have hre : zAy r last = 10 := by first | exact zB5 (by omega) | exact zB6 (by omega) (by omega) | exact zB1 (by omega) (by omega) (by omega) | exact zCg (by omega) (by omega) (by omega)
  refine cl (·.drop (.c .z .n)) ?_
  refine cl (·.addNil 5 1) ?_
  intro a w hs; replace hs := hs.rerow .z (m' := (zCV r last).length) (xs' := zC (zCV r last)) (by rw [zDT (by omega)]; rfl) (by rw [zDT (by omega)]; rfl)
  exact zBH hs rfl rfl rfl ⟨_, congrArg (fun z : Nat => Value.tuple #[.slice none 0 0, zI (z : Int)]) hre.symm, rfl⟩
 refine go 0 [] [2, 1] .n ?_
 intro a w hs
 refine zAO [.p [] [], .p [0] [0], .p [] [], .p [2, 1] [], .p [3] [], .v [4] (qI (BitVec.ofInt 64 ((r.id - last) - 1))), .x [5] ⟨[], [], [], fun vs6 => True, fun vs6 => [row (vs6 6) 5 1 (zBP (BitVec.ofInt 64 ((r.id - last) - 1)).toNat) (zC (zCI (BitVec.ofInt 64 ((r.id - last) - 1)).toNat))], none⟩, .p [] [], .p [7] [0], .v [8] (bI (BitVec.ofInt 8 r.k)), .x [9] ⟨[], [], [], fun vs6 => vs6 10 = .slice (some ⟨(zCn (vs6 10)), 0, none⟩) 1 1, fun vs6 => [blk (zCn (vs6 10)) [bI (BitVec.ofInt 8 r.k)] 5], none⟩, .x [] ⟨[], [6], [], fun vs6 => True, fun vs6 => [row (vs6 11) 5 1 ((zAU r last).length) (zC (zAU r last))], none⟩, .x [] ⟨[], [], [11], fun vs6 => vs6 12 = (vs6 11), fun vs6 => [], none⟩] [] hs .n .n (.c .z .n) (by kernel_rfl) ⟨rfl, (by omega), (by omega), fun _ _ _ _ hm hs K => zAV hs rfl underlying3 underlying167 rfl (vk K), rfl, fun _ _ _ _ hm hs K => zUp hs rfl underlying3 underlying5 rfl (vk K), ⟨.n, by kernel_rfl, fun _ => rfl, rfl, rfl⟩, ⟨?_, ?_, ?_, ?_, trivial⟩, ?_⟩
 ·
  intro a_ w_ R_ rest_ vs6 hm hs ht hx
  have hs0 := hs.bare
  refine zK hs (.c rfl .n) call174 .n (zED (BitVec.ofInt 64 ((r.id - last) - 1)) _) rfl ?_; clear hs; rintro v7 _ a w rfl hs
  exact wpList_nil ⟨rfl, _, _, hs0, (.c .r), hs, trivial⟩
 ·
  intro a_ w_ R_ rest_ vs6 hm hs ht hx
  have hs0 := hs.bare
  refine zHz (cs := [bI (BitVec.ofInt 8 r.k)]) hs (.c .n) (.c rfl .n) underlying31 (ie := Tryz.t5) rfl rfl rfl rfl (by decide) (by decide) rfl (by decide) rfl rfl rfl ?_; clear hs; intro g8 a w hs
  exact wpList_nil ⟨rfl, _, _, hs0, (.c .r), hs, rfl⟩
 ·
  intro a_ w_ R_ rest_ vs6 hm hs ht hx
  have t6 := ht 6 (zH 13 _ (by kernel_rfl))
  have e6 : _ = some (vs6 6) := t6.val rfl
  replace hs := hs.learn e6
  have t10 := ht 10 (zH 13 _ (by kernel_rfl))
  have e10 : _ = some (vs6 10) := t10.val rfl
  rw [show vs6 10 = .slice (some ⟨(zCn (vs6 10)), 0, none⟩) 1 1 from t10.2.1] at e10
  replace hs := hs.learn e10
  have hs0 := hs.bare
  refine zBI (size := 1) (bytes := 1) hs rfl rfl .z (zAI (m := 1) (size := 1) (hm.own (List.mem_append.2 (.inr ((ht 10 (zH 13 _ (by kernel_rfl))).2.2 (zIJ (n := 13) (by kernel_rfl)) _ (List.Mem.head _))))) rfl (by decide)) (by simp [Value.oneCell']) underlying31 (i := Tryz.t5) rfl rfl rfl rfl rfl (by decide) (by omega) (by simp only [maxLen]; omega) rfl ?_; clear hs; intro v9 a w hs
  replace hs := hs.rerow .z (m' := (zAU r last).length) (xs' := zC (zAU r last)) (by unfold zAU; simp only [List.length_append, List.length_cons, List.length_nil, zBP]) (by unfold zAU; rw [zBL]; rfl)
  exact wpList_nil ⟨rfl, _, _, hs0, (.c (.c .r)), hs, trivial⟩
 ·
  intro a_ w_ R_ rest_ vs6 hm hs ht hx
  have t11 := ht 11 (zH 13 _ (by kernel_rfl))
  have e11 : _ = some (vs6 11) := t11.val rfl
  replace hs := hs.learn e11
  have hs0 := hs.bare
  refine zEJ hs rfl rfl ?_; clear hs; intro a w hs
  exact wpList_nil ⟨rfl, _, _, hs0, (.c .r), hs, rfl⟩
 clear hs w a; intro vs6 a w hs hf
 obtain ⟨e12, q12⟩ := hf 12 (by decide)
 replace e12 : _ = some (vs6 12) := e12.val rfl
 rw [show vs6 12 = (vs6 11) from q12] at e12
 replace hs := hs.learn e12; clear e12 q12
 generalize zCn (vs6 10) = g10 at hs
 generalize vs6 11 = v11 at hs
 clear hf
 revert a w hs
 refine goE 0 [] [7, 2] .n ?_
 rcases (show r.k = 0 ∨ r.k = 1 ∨ r.k = 2 ∨ r.k = 3 from by omega) with hk12 | hk12 | hk12 | hk12
 ·
  intro a w hs
  refine zAO [.v [] (.agg #[.func (.func 165) #[] #[], .func (.func 166) #[] #[], .func (.func 167) #[] #[], .func (.func 168) #[] #[], .func (.func 163) #[] #[], .func (.func 164) #[] #[], .func (.func 165) #[] #[], .func (.func 166) #[] #[]]), .p [] [], .v [1] (zI 0), .p [2, 0] [], .p [3] [], .p [] [], .x [5, 4] ⟨[row v11 5 1 ((zAU r last).length) (zC (zAU r last))], [], [], fun vs13 => True, fun vs13 => [row (vs13 6) 5 1 (((zAU r last).length) + (zBT r).length) (zC ((zAU r last) ++ zBT r))], none⟩, .x [] ⟨[], [], [6], fun vs13 => vs13 7 = (vs13 6), fun vs13 => [], none⟩, .p [] []] [8] hs .n (.c (.s (.s .z)) .n) .n (by kernel_rfl) ⟨fun _ _ _ _ hm hs K => zB (v := .agg #[.func (.func 165) #[] #[], .func (.func 166) #[] #[], .func (.func 167) #[] #[], .func (.func 168) #[] #[], .func (.func 163) #[] #[], .func (.func 164) #[] #[], .func (.func 165) #[] #[], .func (.func 166) #[] #[]]) hs .n call132 (zFb _) rfl (vk K), ?_, ⟨(.c .z .n), by kernel_rfl, fun _ => rfl, rfl, rfl⟩, ⟨?_, ?_, trivial⟩, ?_⟩
  ·
   intro a_ w_ R_ Q_ hm hs K_
   have hm0 := hm
   refine zU hs rfl (hm0.del .z) .z isAgg3 rfl ?_; clear hs; intro a w hs
   replace hs := hs.recell (v' := zI 0) (Option.some.inj (congrArg (fun z => some (Value.int .i64 z)) hk12))
   exact wpList_nil (K_ _ _ hs)
  ·
   intro a_ w_ R_ rest_ vs13 hm hs ht hx
   have hm0 := hm.mid
   have hs0 := hs.bare
   refine zA4 (us := []) hs rfl (.c rfl (.c rfl .n)) rfl call165 (.c .z .n) (zHf _ _ (zAU r last) g1 r _ (hs.mem.del .z) (by omega) (hm0.del .z) hw) rfl ?_; clear hs; rintro v14 _ a w rfl hs
   exact wpList_nil ⟨rfl, _, _, hs0, (.c (.c .r)), hs, trivial⟩
  ·
   intro a_ w_ R_ rest_ vs13 hm hs ht hx
   have t6 := ht 6 (zH 9 _ (by kernel_rfl))
   have e6 : _ = some (vs13 6) := t6.val rfl
   replace hs := hs.learn e6
   have hs0 := hs.bare
   refine zEJ hs rfl rfl ?_; clear hs; intro a w hs
   exact wpList_nil ⟨rfl, _, _, hs0, (.c .r), hs, rfl⟩
  clear hs w a; intro vs13 a w hs hf
  obtain ⟨e7, q7⟩ := hf 7 (by decide)
  replace e7 : _ = some (vs13 7) := e7.val rfl
  rw [show vs13 7 = (vs13 6) from q7] at e7
  replace hs := hs.learn e7; clear e7 q7
  generalize vs13 6 = v15 at hs
  clear hf
  revert a w hs
  refine goE 0 [] [4, 5] .n ?_
  have hre : zAy r last = 0 := by first | exact zB5 (by omega) | exact zB6 (by omega) (by omega) | exact zB1 (by omega) (by omega) (by omega) | exact zCg (by omega) (by omega) (by omega)
  refine cl (·.drop (.c (.s .z) (.c .z .n))) ?_
  intro a w hs; replace hs := hs.rerow .z (m' := (zCV r last).length) (xs' := zC (zCV r last)) (by first | ((first | rw [zBC hre (by omega)] | rw [zAN hre (by omega)] | rw [zAx hre (by omega)]) <;> simp only [List.length_append]; done) | ((first | rw [zBC hre (by omega)] | rw [zAN hre (by omega), zBV (by omega)] | rw [zAN hre (by omega), zBR (by omega)] | rw [zAx hre (by omega)]) <;> simp only [List.length_append, List.length_cons, List.length_nil, zBT, zGr] <;> omega)) (by first | ((first | rw [zBC hre (by omega)] | rw [zAN hre (by omega)] | rw [zAx hre (by omega)]) <;> rfl) | ((first | rw [zBC hre (by omega)] | rw [zAN hre (by omega), zBV (by omega)] | rw [zAN hre (by omega), zBR (by omega)] | rw [zAx hre (by omega)]) <;> simp only [zBT, zGr, zC, List.map_append, List.map_cons, List.map_nil, List.append_assoc, List.cons_append, List.nil_append] <;> rfl))
  exact zBH hs rfl rfl rfl ⟨_, congrArg (fun z : Nat => Value.tuple #[v15, zI (z : Int)]) hre.symm, rfl⟩
 ·
  intro a w hs
  refine zAO [.v [] (.agg #[.func (.func 165) #[] #[], .func (.func 166) #[] #[], .func (.func 167) #[] #[], .func (.func 168) #[] #[], .func (.func 163) #[] #[], .func (.func 164) #[] #[], .func (.func 165) #[] #[], .func (.func 166) #[] #[]]), .p [] [], .v [1] (zI 1), .p [2, 0] [], .p [3] [], .p [] [], .x [5, 4] ⟨[row v11 5 1 ((zAU r last).length) (zC (zAU r last))], [], [], fun vs16 => True, fun vs16 => [row (vs16 6) 5 1 (((zAU r last).length) + (zBF r).length) (zC ((zAU r last) ++ zBF r))], none⟩, .x [] ⟨[], [], [6], fun vs16 => vs16 7 = (vs16 6), fun vs16 => [], none⟩, .p [] []] [8] hs .n (.c (.s (.s .z)) .n) .n (by kernel_rfl) ⟨fun _ _ _ _ hm hs K => zB (v := .agg #[.func (.func 165) #[] #[], .func (.func 166) #[] #[], .func (.func 167) #[] #[], .func (.func 168) #[] #[], .func (.func 163) #[] #[], .func (.func 164) #[] #[], .func (.func 165) #[] #[], .func (.func 166) #[] #[]]) hs .n call132 (zFb _) rfl (vk K), ?_, ⟨(.c .z .n), by kernel_rfl, fun _ => rfl, rfl, rfl⟩, ⟨?_, ?_, trivial⟩, ?_⟩
  ·
   intro a_ w_ R_ Q_ hm hs K_
   have hm0 := hm
   refine zU hs rfl (hm0.del .z) .z isAgg3 rfl ?_; clear hs; intro a w hs
   replace hs := hs.recell (v' := zI 1) (Option.some.inj (congrArg (fun z => some (Value.int .i64 z)) hk12))
   exact wpList_nil (K_ _ _ hs)
  ·
   intro a_ w_ R_ rest_ vs16 hm hs ht hx
   have hm0 := hm.mid
   have hs0 := hs.bare
   refine zA4 (us := []) hs rfl (.c rfl (.c rfl .n)) rfl call167 (.c .z .n) (zKc _ _ (zAU r last) g1 r _ (hs.mem.del .z) (by omega) (hm0.del .z) hw) rfl ?_; clear hs; rintro v17 _ a w rfl hs
   exact wpList_nil ⟨rfl, _, _, hs0, (.c (.c .r)), hs, trivial⟩
  ·
   intro a_ w_ R_ rest_ vs16 hm hs ht hx
   have t6 := ht 6 (zH 9 _ (by kernel_rfl))
   have e6 : _ = some (vs16 6) := t6.val rfl
   replace hs := hs.learn e6
   have hs0 := hs.bare
   refine zEJ hs rfl rfl ?_; clear hs; intro a w hs
   exact wpList_nil ⟨rfl, _, _, hs0, (.c .r), hs, rfl⟩
  clear hs w a; intro vs16 a w hs hf
  obtain ⟨e7, q7⟩ := hf 7 (by decide)
  replace e7 : _ = some (vs16 7) := e7.val rfl
  rw [show vs16 7 = (vs16 6) from q7] at e7
  replace hs := hs.learn e7; clear e7 q7
  generalize vs16 6 = v18 at hs
  clear hf
  revert a w hs
  refine goE 0 [] [4, 5] .n ?_
  have hre : zAy r last = 0 := by first | exact zB5 (by omega) | exact zB6 (by omega) (by omega) | exact zB1 (by omega) (by omega) (by omega) | exact zCg (by omega) (by omega) (by omega)
  refine cl (·.drop (.c (.s .z) (.c .z .n))) ?_
  intro a w hs; replace hs := hs.rerow .z (m' := (zCV r last).length) (xs' := zC (zCV r last)) (by first | ((first | rw [zBC hre (by omega)] | rw [zAN hre (by omega)] | rw [zAx hre (by omega)]) <;> simp only [List.length_append]; done) | ((first | rw [zBC hre (by omega)] | rw [zAN hre (by omega), zBV (by omega)] | rw [zAN hre (by omega), zBR (by omega)] | rw [zAx hre (by omega)]) <;> simp only [List.length_append, List.length_cons, List.length_nil, zBT, zGr] <;> omega)) (by first | ((first | rw [zBC hre (by omega)] | rw [zAN hre (by omega)] | rw [zAx hre (by omega)]) <;> rfl) | ((first | rw [zBC hre (by omega)] | rw [zAN hre (by omega), zBV (by omega)] | rw [zAN hre (by omega), zBR (by omega)] | rw [zAx hre (by omega)]) <;> simp only [zBT, zGr, zC, List.map_append, List.map_cons, List.map_nil, List.append_assoc, List.cons_append, List.nil_append] <;> rfl))
  exact zBH hs rfl rfl rfl ⟨_, congrArg (fun z : Nat => Value.tuple #[v18, zI (z : Int)]) hre.symm, rfl⟩
 ·
  intro a w hs
  refine zAO [.v [] (.agg #[.func (.func 165) #[] #[], .func (.func 166) #[] #[], .func (.func 167) #[] #[], .func (.func 168) #[] #[], .func (.func 163) #[] #[], .func (.func 164) #[] #[], .func (.func 165) #[] #[], .func (.func 166) #[] #[]]), .p [] [], .v [1] (zI 2), .p [2, 0] [], .p [3] [], .p [] [], .x [5, 4] ⟨[row v11 5 1 ((zAU r last).length) (zC (zAU r last))], [], [], fun vs19 => True, fun vs19 => [row (vs19 6) 5 1 ((zAU r last).length) (zC (zAU r last))], none⟩, .x [] ⟨[], [], [6], fun vs19 => vs19 7 = (vs19 6), fun vs19 => [], none⟩, .p [] []] [8] hs .n (.c (.s (.s .z)) .n) .n (by kernel_rfl) ⟨fun _ _ _ _ hm hs K => zB (v := .agg #[.func (.func 165) #[] #[], .func (.func 166) #[] #[], .func (.func 167) #[] #[], .func (.func 168) #[] #[], .func (.func 163) #[] #[], .func (.func 164) #[] #[], .func (.func 165) #[] #[], .func (.func 166) #[] #[]]) hs .n call132 (zFb _) rfl (vk K), ?_, ⟨(.c .z .n), by kernel_rfl, fun _ => rfl, rfl, rfl⟩, ⟨?_, ?_, trivial⟩, ?_⟩
  ·
   intro a_ w_ R_ Q_ hm hs K_
   have hm0 := hm
   refine zU hs rfl (hm0.del .z) .z isAgg3 rfl ?_; clear hs; intro a w hs
   replace hs := hs.recell (v' := zI 2) (Option.some.inj (congrArg (fun z => some (Value.int .i64 z)) hk12))
   exact wpList_nil (K_ _ _ hs)
  ·
   intro a_ w_ R_ rest_ vs19 hm hs ht hx
   have hs0 := hs.bare
   refine zA4 (us := []) hs rfl (.c rfl (.c rfl .n)) rfl call163 (.c .z .n) (zRM _ _ (zAU r last) g1 _ (hs.mem.del .z)) rfl ?_; clear hs; rintro _ _ a w ⟨rfl, rfl⟩ hs
   exact wpList_nil ⟨rfl, _, _, hs0, (.c (.c .r)), hs, trivial⟩
  ·
   intro a_ w_ R_ rest_ vs19 hm hs ht hx
   have t6 := ht 6 (zH 9 _ (by kernel_rfl))
   have e6 : _ = some (vs19 6) := t6.val rfl
   replace hs := hs.learn e6
   have hs0 := hs.bare
   refine zEJ hs rfl rfl ?_; clear hs; intro a w hs
   exact wpList_nil ⟨rfl, _, _, hs0, (.c .r), hs, rfl⟩
  clear hs w a; intro vs19 a w hs hf
  obtain ⟨e7, q7⟩ := hf 7 (by decide)
  replace e7 : _ = some (vs19 7) := e7.val rfl
  rw [show vs19 7 = (vs19 6) from q7] at e7
  replace hs := hs.learn e7; clear e7 q7
  generalize vs19 6 = v20 at hs
  clear hf
  revert a w hs
  refine goE 0 [] [4, 5] .n ?_
  have hre : zAy r last = 0 := by first | exact zB5 (by omega) | exact zB6 (by omega) (by omega) | exact zB1 (by omega) (by omega) (by omega) | exact zCg (by omega) (by omega) (by omega)
  refine cl (·.drop (.c (.s .z) (.c .z .n))) ?_
  intro a w hs; replace hs := hs.rerow .z (m' := (zCV r last).length) (xs' := zC (zCV r last)) (by first | ((first | rw [zBC hre (by omega)] | rw [zAN hre (by omega)] | rw [zAx hre (by omega)]) <;> simp only [List.length_append]; done) | ((first | rw [zBC hre (by omega)] | rw [zAN hre (by omega), zBV (by omega)] | rw [zAN hre (by omega), zBR (by omega)] | rw [zAx hre (by omega)]) <;> simp only [List.length_append, List.length_cons, List.length_nil, zBT, zGr] <;> omega)) (by first | ((first | rw [zBC hre (by omega)] | rw [zAN hre (by omega)] | rw [zAx hre (by omega)]) <;> rfl) | ((first | rw [zBC hre (by omega)] | rw [zAN hre (by omega), zBV (by omega)] | rw [zAN hre (by omega), zBR (by omega)] | rw [zAx hre (by omega)]) <;> simp only [zBT, zGr, zC, List.map_append, List.map_cons, List.map_nil, List.append_assoc, List.cons_append, List.nil_append] <;> rfl))
  exact zBH hs rfl rfl rfl ⟨_, congrArg (fun z : Nat => Value.tuple #[v20, zI (z : Int)]) hre.symm, rfl⟩
 intro a w hs
 refine zAO [.v [] (.agg #[.func (.func 165) #[] #[], .func (.func 166) #[] #[], .func (.func 167) #[] #[], .func (.func 168) #[] #[], .func (.func 163) #[] #[], .func (.func 164) #[] #[], .func (.func 165) #[] #[], .func (.func 166) #[] #[]]), .p [] [], .v [1] (zI 3), .p [2, 0] [], .p [3] [], .p [] [], .x [5, 4] ⟨[row v11 5 1 ((zAU r last).length) (zC (zAU r last))], [], [], fun vs21 => True, fun vs21 => [row (vs21 6) 5 1 (((zAU r last).length) + (zBT r).length) (zC ((zAU r last) ++ zBT r))], none⟩, .x [] ⟨[], [], [6], fun vs21 => vs21 7 = (vs21 6), fun vs21 => [], none⟩, .p [] []] [8] hs .n (.c (.s (.s .z)) .n) .n (by kernel_rfl) ⟨fun _ _ _ _ hm hs K => zB (v := .agg #[.func (.func 165) #[] #[], .func (.func 166) #[] #[], .func (.func 167) #[] #[], .func (.func 168) #[] #[], .func (.func 163) #[] #[], .func (.func 164) #[] #[], .func (.func 165) #[] #[], .func (.func 166) #[] #[]]) hs .n call132 (zFb _) rfl (vk K), ?_, ⟨(.c .z .n), by kernel_rfl, fun _ => rfl, rfl, rfl⟩, ⟨?_, ?_, trivial⟩, ?_⟩
 ·
  intro a_ w_ R_ Q_ hm hs K_
  have hm0 := hm
  refine zU hs rfl (hm0.del .z) .z isAgg3 rfl ?_; clear hs; intro a w hs
  replace hs := hs.recell (v' := zI 3) (Option.some.inj (congrArg (fun z => some (Value.int .i64 z)) hk12))
  exact wpList_nil (K_ _ _ hs)
 ·
  intro a_ w_ R_ rest_ vs21 hm hs ht hx
  have hm0 := hm.mid
  have hs0 := hs.bare
  refine zA4 (us := []) hs rfl (.c rfl (.c rfl .n)) rfl call165 (.c .z .n) (zHf _ _ (zAU r last) g1 r _ (hs.mem.del .z) (by omega) (hm0.del .z) hw) rfl ?_; clear hs; rintro v22 _ a w rfl hs
  exact wpList_nil ⟨rfl, _, _, hs0, (.c (.c .r)), hs, trivial⟩
 ·
  intro a_ w_ R_ rest_ vs21 hm hs ht hx
  have t6 := ht 6 (zH 9 _ (by kernel_rfl))
  have e6 : _ = some (vs21 6) := t6.val rfl
  replace hs := hs.learn e6
  have hs0 := hs.bare
  refine zEJ hs rfl rfl ?_; clear hs; intro a w hs
  exact wpList_nil ⟨rfl, _, _, hs0, (.c .r), hs, rfl⟩
 clear hs w a; intro vs21 a w hs hf
 obtain ⟨e7, q7⟩ := hf 7 (by decide)
 replace e7 : _ = some (vs21 7) := e7.val rfl
 rw [show vs21 7 = (vs21 6) from q7] at e7
 replace hs := hs.learn e7; clear e7 q7
 generalize vs21 6 = v23 at hs
 clear hf
 revert a w hs
 refine goE 0 [] [4, 5] .n ?_
 have hre : zAy r last = 0 := by first | exact zB5 (by omega) | exact zB6 (by omega) (by omega) | exact zB1 (by omega) (by omega) (by omega) | exact zCg (by omega) (by omega) (by omega)
 refine cl (·.drop (.c (.s .z) (.c .z .n))) ?_
 intro a w hs; replace hs := hs.rerow .z (m' := (zCV r last).length) (xs' := zC (zCV r last)) (by first | ((first | rw [zBC hre (by omega)] | rw [zAN hre (by omega)] | rw [zAx hre (by omega)]) <;> simp only [List.length_append]; done) | ((first | rw [zBC hre (by omega)] | rw [zAN hre (by omega), zBV (by omega)] | rw [zAN hre (by omega), zBR (by omega)] | rw [zAx hre (by omega)]) <;> simp only [List.length_append, List.length_cons, List.length_nil, zBT, zGr] <;> omega)) (by first | ((first | rw [zBC hre (by omega)] | rw [zAN hre (by omega)] | rw [zAx hre (by omega)]) <;> rfl) | ((first | rw [zBC hre (by omega)] | rw [zAN hre (by omega), zBV (by omega)] | rw [zAN hre (by omega), zBR (by omega)] | rw [zAx hre (by omega)]) <;> simp only [zBT, zGr, zC, List.map_append, List.map_cons, List.map_nil, List.append_assoc, List.cons_append, List.nil_append] <;> rfl))
 exact zBH hs rfl rfl rfl ⟨_, congrArg (fun z : Nat => Value.tuple #[v23, zI (z : Int)]) hre.symm, rfl⟩
end Go.Proofs.YtemnjodhidlfpaaGreat
