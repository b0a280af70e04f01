/- Walks of records: what each function does, over the program of this seat. Printed by a program of this session. -/
import Derived.Test.YtbacobmcfelmkaaGreatQWrd2
import Derived.Test.YtbacobmcfelmkaaGreatQSxBasB
import Derived.Test.YtbacobmcfelmkaaGreatQSxRecs
namespace Go.Proofs.YtbacobmcfelmkaaGreat
open Tryz
open Go Go.Sx Go.RowKit
set_option linter.unusedVariables false
set_option linter.unusedSimpArgs false
set_option maxRecDepth 4000
set_option maxHeartbeats 1000000

theorem zSm (r : zAd) (w0 : World) : Calls Tryz.prog 81 #[.agg #[zI r.k, zI r.id, zI r.p0, zI r.p1, zI r.p2, zI r.v0, zI r.v1, zI r.v2, .int .u16 (((r.a).toNat : Nat) : Int)]] w0 (zCn w0 (nI (zAk r))) := by
 refine zT (F0 := [(0, .agg #[zI r.k, zI r.id, zI r.p0, zI r.p1, zI r.p2, zI r.v0, zI r.v1, zI r.v2, .int .u16 (((r.a).toNat : Nat) : Int)])]) func81 rfl rfl rfl (.c .n) (Mem.nil _) ?_
 refine go 13 [0, 0, 0, 0, 1] [13, 3, 1] .n (fun g1 => ⟨rfl, rfl, fun g2 => ⟨rfl, rfl, ?_⟩⟩)
 intro a w hs; refine zAB (b := decide (r.k < 0)) (fun c_3 => ?_) (fun c_3 => ?_)
 ·
  rw [c_3] at hs
  replace c_3 := of_decide_eq_true c_3
  revert a w hs
  refine go 7 [] [2] .n ?_
  refine cl (·.drop (.c (.s .z) (.c .z .n))) ?_
  intro a w hs; exact fin hs rfl rfl ⟨congrArg (Value.int .i64) (by unfold zAk; first | (rw [if_pos (by omega)]; rfl) | (rw [if_neg (by omega), if_pos (by omega)]; rfl) | (rw [if_neg (by omega), if_neg (by omega), if_pos (by first | exact .inl ⟨by omega, by assumption⟩ | exact .inr ⟨by omega, by assumption⟩)]; rfl) | (rw [if_neg (by omega), if_neg (by omega), if_neg (by rintro (⟨_, h_⟩ | ⟨_, h_⟩) <;> first | omega | simp_all)]; rfl)), rfl⟩
 rw [c_3] at hs
 replace c_3 := of_decide_eq_false c_3
 revert a w hs
 refine go 5 [0] [9, 3, 1] (.c (.s .z) .n) ⟨rfl, ?_⟩
 refine ifG rfl (fun c_4 => ?_) (fun c_4 => ?_)
 ·
  refine go 1 [] [2] .n ?_
  refine cl (·.drop (.c (.s .z) (.c .z .n))) ?_
  intro a w hs; exact fin hs rfl rfl ⟨congrArg (Value.int .i64) (by unfold zAk; first | (rw [if_pos (by omega)]; rfl) | (rw [if_neg (by omega), if_pos (by omega)]; rfl) | (rw [if_neg (by omega), if_neg (by omega), if_pos (by first | exact .inl ⟨by omega, by assumption⟩ | exact .inr ⟨by omega, by assumption⟩)]; rfl) | (rw [if_neg (by omega), if_neg (by omega), if_neg (by rintro (⟨_, h_⟩ | ⟨_, h_⟩) <;> first | omega | simp_all)]; rfl)), rfl⟩
 refine go 4 [0] [22, 3, 1] (.c .z .n) ⟨rfl, ?_⟩
 intro a w hs; refine zAB (b := decide (r.id < 0)) (fun c_5 => ?_) (fun c_5 => ?_)
 ·
  rw [c_5] at hs
  replace c_5 := of_decide_eq_true c_5
  revert a w hs
  refine go 7 [] [2] .n ?_
  refine cl (·.drop (.c (.s .z) (.c .z .n))) ?_
  intro a w hs; exact fin hs rfl rfl ⟨congrArg (Value.int .i64) (by unfold zAk; first | (rw [if_pos (by omega)]; rfl) | (rw [if_neg (by omega), if_pos (by omega)]; rfl) | (rw [if_neg (by omega), if_neg (by omega), if_pos (by first | exact .inl ⟨by omega, by assumption⟩ | exact .inr ⟨by omega, by assumption⟩)]; rfl) | (rw [if_neg (by omega), if_neg (by omega), if_neg (by rintro (⟨_, h_⟩ | ⟨_, h_⟩) <;> first | omega | simp_all)]; rfl)), rfl⟩
 rw [c_5] at hs
 replace c_5 := of_decide_eq_false c_5
 revert a w hs
 refine go 5 [0] [18, 3, 1] (.c .z .n) ⟨rfl, ?_⟩
 refine ifG rfl (fun c_6 => ?_) (fun c_6 => ?_)
 ·
  refine go 1 [] [2] .n ?_
  refine cl (·.drop (.c (.s .z) (.c .z .n))) ?_
  intro a w hs; exact fin hs rfl rfl ⟨congrArg (Value.int .i64) (by unfold zAk; first | (rw [if_pos (by omega)]; rfl) | (rw [if_neg (by omega), if_pos (by omega)]; rfl) | (rw [if_neg (by omega), if_neg (by omega), if_pos (by first | exact .inl ⟨by omega, by assumption⟩ | exact .inr ⟨by omega, by assumption⟩)]; rfl) | (rw [if_neg (by omega), if_neg (by omega), if_neg (by rintro (⟨_, h_⟩ | ⟨_, h_⟩) <;> first | omega | simp_all)]; rfl)), rfl⟩
 refine go 4 [0] [31, 3, 1] (.c .z .n) ⟨rfl, ?_⟩
 intro a w hs; refine zAB (b := (r.k : Int) == 1) (fun c_7 => ?_) (fun c_7 => ?_)
 ·
  rw [c_7] at hs
  replace c_7 := eq_of_beq c_7
  revert a w hs
  refine go 3 [0, 1] [34, 31, 3, 1] (.c .z (.c .z .n)) ⟨rfl, rfl, by kernel_rfl, ?_⟩
  intro a w hs; rw [show zAg _ _ = zCD r from zLW r] at hs
  revert a w hs
  refine go 2 [] [27, 3, 1] .n ?_
  refine ifG rfl (fun c_8 => ?_) (fun c_8 => ?_)
  ·
   refine go 0 [] [27] .n ?_
   refine ifG rfl (fun c_9 => ?_) (fun c_9 => ?_)
   ·
    refine go 1 [] [2] .n ?_
    refine cl (·.drop (.c (.s .z) (.c .z .n))) ?_
    intro a w hs; exact fin hs rfl rfl ⟨congrArg (Value.int .i64) (by unfold zAk; first | (rw [if_pos (by omega)]; rfl) | (rw [if_neg (by omega), if_pos (by omega)]; rfl) | (rw [if_neg (by omega), if_neg (by omega), if_pos (by first | exact .inl ⟨by omega, by assumption⟩ | exact .inr ⟨by omega, by assumption⟩)]; rfl) | (rw [if_neg (by omega), if_neg (by omega), if_neg (by rintro (⟨_, h_⟩ | ⟨_, h_⟩) <;> first | omega | simp_all)]; rfl)), rfl⟩
   refine go 1 [] [2] .n ?_
   refine cl (·.drop (.c (.s .z) (.c .z .n))) ?_
   intro a w hs; exact fin hs rfl rfl ⟨congrArg (Value.int .i64) (by unfold zAk; first | (rw [if_pos (by omega)]; rfl) | (rw [if_neg (by omega), if_pos (by omega)]; rfl) | (rw [if_neg (by omega), if_neg (by omega), if_pos (by first | exact .inl ⟨by omega, by assumption⟩ | exact .inr ⟨by omega, by assumption⟩)]; rfl) | (rw [if_neg (by omega), if_neg (by omega), if_neg (by rintro (⟨_, h_⟩ | ⟨_, h_⟩) <;> first | omega | simp_all)]; rfl)), rfl⟩
  refine go 4 [0] [39, 3, 1] (.c .z .n) ⟨rfl, ?_⟩
  intro a w hs; refine zAB (b := (r.k : Int) == 2) (fun c_10 => ?_) (fun c_10 => ?_)
  ·
   rw [c_10] at hs
   replace c_10 := eq_of_beq c_10
   revert a w hs
   refine go 3 [0, 1] [42, 39] (.c .z (.c .z .n)) ⟨rfl, rfl, by kernel_rfl, ?_⟩
   intro a w hs; rw [show zAg _ _ = zCD r from zLW r] at hs
   revert a w hs
   refine go 2 [] [27] .n ?_
   refine ifG rfl (fun c_11 => ?_) (fun c_11 => ?_)
   ·
    refine go 1 [] [2] .n ?_
    refine cl (·.drop (.c (.s .z) (.c .z .n))) ?_
    intro a w hs; exact fin hs rfl rfl ⟨congrArg (Value.int .i64) (by unfold zAk; first | (rw [if_pos (by omega)]; rfl) | (rw [if_neg (by omega), if_pos (by omega)]; rfl) | (rw [if_neg (by omega), if_neg (by omega), if_pos (by first | exact .inl ⟨by omega, by assumption⟩ | exact .inr ⟨by omega, by assumption⟩)]; rfl) | (rw [if_neg (by omega), if_neg (by omega), if_neg (by rintro (⟨_, h_⟩ | ⟨_, h_⟩) <;> first | omega | simp_all)]; rfl)), rfl⟩
   refine go 1 [] [2] .n ?_
   refine cl (·.drop (.c (.s .z) (.c .z .n))) ?_
   intro a w hs; exact fin hs rfl rfl ⟨congrArg (Value.int .i64) (by unfold zAk; first | (rw [if_pos (by omega)]; rfl) | (rw [if_neg (by omega), if_pos (by omega)]; rfl) | (rw [if_neg (by omega), if_neg (by omega), if_pos (by first | exact .inl ⟨by omega, by assumption⟩ | exact .inr ⟨by omega, by assumption⟩)]; rfl) | (rw [if_neg (by omega), if_neg (by omega), if_neg (by rintro (⟨_, h_⟩ | ⟨_, h_⟩) <;> first | omega | simp_all)]; rfl)), rfl⟩
  rw [c_10] at hs
  replace c_10 := zAK c_10
  revert a w hs
  refine go 7 [] [2] .n ?_
  refine cl (·.drop (.c (.s .z) (.c .z .n))) ?_
  intro a w hs; exact fin hs rfl rfl ⟨congrArg (Value.int .i64) (by unfold zAk; first | (rw [if_pos (by omega)]; rfl) | (rw [if_neg (by omega), if_pos (by omega)]; rfl) | (rw [if_neg (by omega), if_neg (by omega), if_pos (by first | exact .inl ⟨by omega, by assumption⟩ | exact .inr ⟨by omega, by assumption⟩)]; rfl) | (rw [if_neg (by omega), if_neg (by omega), if_neg (by rintro (⟨_, h_⟩ | ⟨_, h_⟩) <;> first | omega | simp_all)]; rfl)), rfl⟩
 rw [c_7] at hs
 replace c_7 := zAK c_7
 revert a w hs
 refine go 10 [0] [39, 3, 1] (.c .z .n) ⟨rfl, ?_⟩
 intro a w hs; refine zAB (b := (r.k : Int) == 2) (fun c_12 => ?_) (fun c_12 => ?_)
 ·
  rw [c_12] at hs
  replace c_12 := eq_of_beq c_12
  revert a w hs
  refine go 3 [0, 1] [42, 39] (.c .z (.c .z .n)) ⟨rfl, rfl, by kernel_rfl, ?_⟩
  intro a w hs; rw [show zAg _ _ = zCD r from zLW r] at hs
  revert a w hs
  refine go 2 [] [27] .n ?_
  refine ifG rfl (fun c_13 => ?_) (fun c_13 => ?_)
  ·
   refine go 1 [] [2] .n ?_
   refine cl (·.drop (.c (.s .z) (.c .z .n))) ?_
   intro a w hs; exact fin hs rfl rfl ⟨congrArg (Value.int .i64) (by unfold zAk; first | (rw [if_pos (by omega)]; rfl) | (rw [if_neg (by omega), if_pos (by omega)]; rfl) | (rw [if_neg (by omega), if_neg (by omega), if_pos (by first | exact .inl ⟨by omega, by assumption⟩ | exact .inr ⟨by omega, by assumption⟩)]; rfl) | (rw [if_neg (by omega), if_neg (by omega), if_neg (by rintro (⟨_, h_⟩ | ⟨_, h_⟩) <;> first | omega | simp_all)]; rfl)), rfl⟩
  refine go 1 [] [2] .n ?_
  refine cl (·.drop (.c (.s .z) (.c .z .n))) ?_
  intro a w hs; exact fin hs rfl rfl ⟨congrArg (Value.int .i64) (by unfold zAk; first | (rw [if_pos (by omega)]; rfl) | (rw [if_neg (by omega), if_pos (by omega)]; rfl) | (rw [if_neg (by omega), if_neg (by omega), if_pos (by first | exact .inl ⟨by omega, by assumption⟩ | exact .inr ⟨by omega, by assumption⟩)]; rfl) | (rw [if_neg (by omega), if_neg (by omega), if_neg (by rintro (⟨_, h_⟩ | ⟨_, h_⟩) <;> first | omega | simp_all)]; rfl)), rfl⟩
 rw [c_12] at hs
 replace c_12 := zAK c_12
 revert a w hs
 refine go 7 [] [2] .n ?_
 refine cl (·.drop (.c (.s .z) (.c .z .n))) ?_
 intro a w hs; exact fin hs rfl rfl ⟨congrArg (Value.int .i64) (by unfold zAk; first | (rw [if_pos (by omega)]; rfl) | (rw [if_neg (by omega), if_pos (by omega)]; rfl) | (rw [if_neg (by omega), if_neg (by omega), if_pos (by first | exact .inl ⟨by omega, by assumption⟩ | exact .inr ⟨by omega, by assumption⟩)]; rfl) | (rw [if_neg (by omega), if_neg (by omega), if_neg (by rintro (⟨_, h_⟩ | ⟨_, h_⟩) <;> first | omega | simp_all)]; rfl)), rfl⟩
theorem zMy (r : zAd) (w0 : World) : Calls Tryz.prog 134 #[.agg #[zI r.k, zI r.id, zI r.p0, zI r.p1, zI r.p2, zI r.v0, zI r.v1, zI r.v2, .int .u16 (((r.a).toNat : Nat) : Int)]] w0 (zCn w0 (.agg #[zI r.p0, zI r.p1, zI r.p2, zI r.v0, zI r.v1, zI r.v2])) := by
 refine zT (F0 := [(0, .agg #[zI r.k, zI r.id, zI r.p0, zI r.p1, zI r.p2, zI r.v0, zI r.v1, zI r.v2, .int .u16 (((r.a).toNat : Nat) : Int)])]) func134 rfl rfl rfl (.c .n) (Mem.nil _) ?_
 refine go 22 [0, 1, 1, 1, 1, 1, 1, 0] [2] .n (fun g1 => fun g2 => ⟨rfl, rfl, rfl, rfl, rfl, rfl, rfl, ?_⟩)
 intro a w hs; exact zUZ hs rfl rfl .z (.z (.c (.c (.c (.c (.c (.c .n))))))) isAgg195 sizeOf195 (.c (.s .z) (.c .z .n)) ⟨rfl, rfl⟩
theorem zJm (r : zAd) (w0 : World) : Calls Tryz.prog 112 #[.agg #[zI r.k, zI r.id, zI r.p0, zI r.p1, zI r.p2, zI r.v0, zI r.v1, zI r.v2, .int .u16 (((r.a).toNat : Nat) : Int)]] w0 (zCn w0 (.bool (zCD r))) := by
 refine zT (F0 := [(0, .agg #[zI r.k, zI r.id, zI r.p0, zI r.p1, zI r.p2, zI r.v0, zI r.v1, zI r.v2, .int .u16 (((r.a).toNat : Nat) : Int)])]) func112 rfl rfl rfl (.c .n) (Mem.nil _) ?_
 refine go 3 [0, 0] [3, 1] .n (fun g1 => ⟨rfl, ?_⟩)
 intro a w hs; refine zH (v := .agg #[zI r.p0, zI r.p1, zI r.p2, zI r.v0, zI r.v1, zI r.v2]) hs (.c rfl .n) call134 (zMy r _) rfl ?_
 refine goL 2 [] [6, 1] .n ⟨by kernel_rfl, ?_⟩
 intro a w hs; rw [show zAg _ _ = zM7 r from zVn r] at hs
 revert a w hs
 refine go 1 [] [7, 1] .n ?_
 intro a w hs; refine zAB (b := zM7 r) (fun c_2 => ?_) (fun c_2 => ?_)
 ·
  rw [c_2] at hs
  revert a w hs
  refine go 5 [0] [2] (.c .z .n) ⟨rfl, ?_⟩
  refine cl (·.drop (.c .z .n)) ?_
  intro a w hs; exact fin hs rfl rfl ⟨congrArg Value.bool (by unfold zCD zM7 at *; simp_all), rfl⟩
 rw [c_2] at hs
 revert a w hs
 refine go 5 [] [2] .n ?_
 refine cl (·.drop (.c .z .n)) ?_
 intro a w hs; exact fin hs rfl rfl ⟨congrArg Value.bool (by unfold zCD zM7 at *; simp_all), rfl⟩
theorem zOD (r : zAd) (w0 : World) : Calls Tryz.prog 94 #[.agg #[zI r.k, zI r.id, zI r.p0, zI r.p1, zI r.p2, zI r.v0, zI r.v1, zI r.v2, .int .u16 (((r.a).toNat : Nat) : Int)]] w0 (zCn w0 (nI (zAk r))) := by
 refine zT (F0 := [(0, .agg #[zI r.k, zI r.id, zI r.p0, zI r.p1, zI r.p2, zI r.v0, zI r.v1, zI r.v2, .int .u16 (((r.a).toNat : Nat) : Int)])]) func94 rfl rfl rfl (.c .n) (Mem.nil _) ?_
 refine go 6 [0, 0] [6, 1] .n (fun g1 => ⟨rfl, ?_⟩)
 intro a w hs; refine zAB (b := decide (r.k < 0)) (fun c_2 => ?_) (fun c_2 => ?_)
 ·
  rw [c_2] at hs
  replace c_2 := of_decide_eq_true c_2
  revert a w hs
  refine go 6 [] [2] .n ?_
  refine cl (·.drop (.c .z .n)) ?_
  intro a w hs; exact fin hs rfl rfl ⟨congrArg (Value.int .i64) (by unfold zAk; first | (rw [if_pos (by omega)]; rfl) | (rw [if_neg (by omega), if_pos (by omega)]; rfl) | (rw [if_neg (by omega), if_neg (by omega), if_pos (by first | exact .inl ⟨by omega, by assumption⟩ | exact .inr ⟨by omega, by assumption⟩)]; rfl) | (rw [if_neg (by omega), if_neg (by omega), if_neg (by rintro (⟨_, h_⟩ | ⟨_, h_⟩) <;> first | omega | simp_all)]; rfl)), rfl⟩
 rw [c_2] at hs
 replace c_2 := of_decide_eq_false c_2
 revert a w hs
 refine go 4 [0] [10, 1] (.c .z .n) ⟨rfl, ?_⟩
 refine ifG rfl (fun c_3 => ?_) (fun c_3 => ?_)
 ·
  refine go 1 [] [2] .n ?_
  refine cl (·.drop (.c .z .n)) ?_
  intro a w hs; exact fin hs rfl rfl ⟨congrArg (Value.int .i64) (by unfold zAk; first | (rw [if_pos (by omega)]; rfl) | (rw [if_neg (by omega), if_pos (by omega)]; rfl) | (rw [if_neg (by omega), if_neg (by omega), if_pos (by first | exact .inl ⟨by omega, by assumption⟩ | exact .inr ⟨by omega, by assumption⟩)]; rfl) | (rw [if_neg (by omega), if_neg (by omega), if_neg (by rintro (⟨_, h_⟩ | ⟨_, h_⟩) <;> first | omega | simp_all)]; rfl)), rfl⟩
 refine go 4 [0] [14, 1] (.c .z .n) ⟨rfl, ?_⟩
 intro a w hs; refine zAB (b := decide (r.id < 0)) (fun c_4 => ?_) (fun c_4 => ?_)
 ·
  rw [c_4] at hs
  replace c_4 := of_decide_eq_true c_4
  revert a w hs
  refine go 6 [] [2] .n ?_
  refine cl (·.drop (.c .z .n)) ?_
  intro a w hs; exact fin hs rfl rfl ⟨congrArg (Value.int .i64) (by unfold zAk; first | (rw [if_pos (by omega)]; rfl) | (rw [if_neg (by omega), if_pos (by omega)]; rfl) | (rw [if_neg (by omega), if_neg (by omega), if_pos (by first | exact .inl ⟨by omega, by assumption⟩ | exact .inr ⟨by omega, by assumption⟩)]; rfl) | (rw [if_neg (by omega), if_neg (by omega), if_neg (by rintro (⟨_, h_⟩ | ⟨_, h_⟩) <;> first | omega | simp_all)]; rfl)), rfl⟩
 rw [c_4] at hs
 replace c_4 := of_decide_eq_false c_4
 revert a w hs
 refine go 4 [0] [18, 1] (.c .z .n) ⟨rfl, ?_⟩
 refine ifG rfl (fun c_5 => ?_) (fun c_5 => ?_)
 ·
  refine go 1 [] [2] .n ?_
  refine cl (·.drop (.c .z .n)) ?_
  intro a w hs; exact fin hs rfl rfl ⟨congrArg (Value.int .i64) (by unfold zAk; first | (rw [if_pos (by omega)]; rfl) | (rw [if_neg (by omega), if_pos (by omega)]; rfl) | (rw [if_neg (by omega), if_neg (by omega), if_pos (by first | exact .inl ⟨by omega, by assumption⟩ | exact .inr ⟨by omega, by assumption⟩)]; rfl) | (rw [if_neg (by omega), if_neg (by omega), if_neg (by rintro (⟨_, h_⟩ | ⟨_, h_⟩) <;> first | omega | simp_all)]; rfl)), rfl⟩
 refine go 4 [0] [22, 1] (.c .z .n) ⟨rfl, ?_⟩
 intro a w hs; refine zAB (b := (r.k : Int) == 1) (fun c_6 => ?_) (fun c_6 => ?_)
 ·
  rw [c_6] at hs
  replace c_6 := eq_of_beq c_6
  revert a w hs
  refine go 1 [0] [23, 22, 1] (.c .z .n) ⟨rfl, ?_⟩
  intro a w hs; refine zC hs rfl rfl rfl ?_
  refine zH (v := .bool (zCD r)) hs (.c rfl .n) call112 (zJm r _) rfl ?_
  refine goL 2 [] [26, 1] .n ?_
  intro a w hs; refine zAB (b := zCD r) (fun c_7 => ?_) (fun c_7 => ?_)
  ·
   rw [c_7] at hs
   revert a w hs
   refine go 11 [] [2] .n ?_
   refine cl (·.drop (.c .z .n)) ?_
   intro a w hs; exact fin hs rfl rfl ⟨congrArg (Value.int .i64) (by unfold zAk; first | (rw [if_pos (by omega)]; rfl) | (rw [if_neg (by omega), if_pos (by omega)]; rfl) | (rw [if_neg (by omega), if_neg (by omega), if_pos (by first | exact .inl ⟨by omega, by assumption⟩ | exact .inr ⟨by omega, by assumption⟩)]; rfl) | (rw [if_neg (by omega), if_neg (by omega), if_neg (by rintro (⟨_, h_⟩ | ⟨_, h_⟩) <;> first | omega | simp_all)]; rfl)), rfl⟩
  rw [c_7] at hs
  revert a w hs
  refine go 4 [0] [30, 26, 1] (.c .z .n) ⟨rfl, ?_⟩
  intro a w hs; refine zAB (b := (r.k : Int) == 2) (fun c_8 => ?_) (fun c_8 => ?_)
  ·
   rw [c_8] at hs
   replace c_8 := eq_of_beq c_8
   revert a w hs
   refine go 1 [0] [31, 30, 26] (.c .z .n) ⟨rfl, ?_⟩
   intro a w hs; refine zC hs rfl rfl rfl ?_
   refine zH (v := .bool (zCD r)) hs (.c rfl .n) call112 (zJm r _) rfl ?_
   refine goL 3 [] [35] .n ?_
   refine ifG rfl (fun c_9 => ?_) (fun c_9 => ?_)
   ·
    refine go 1 [] [2] .n ?_
    refine cl (·.drop (.c .z .n)) ?_
    intro a w hs; exact fin hs rfl rfl ⟨congrArg (Value.int .i64) (by unfold zAk; first | (rw [if_pos (by omega)]; rfl) | (rw [if_neg (by omega), if_pos (by omega)]; rfl) | (rw [if_neg (by omega), if_neg (by omega), if_pos (by first | exact .inl ⟨by omega, by assumption⟩ | exact .inr ⟨by omega, by assumption⟩)]; rfl) | (rw [if_neg (by omega), if_neg (by omega), if_neg (by rintro (⟨_, h_⟩ | ⟨_, h_⟩) <;> first | omega | simp_all)]; rfl)), rfl⟩
   refine go 1 [] [2] .n ?_
   refine cl (·.drop (.c .z .n)) ?_
   intro a w hs; exact fin hs rfl rfl ⟨congrArg (Value.int .i64) (by unfold zAk; first | (rw [if_pos (by omega)]; rfl) | (rw [if_neg (by omega), if_pos (by omega)]; rfl) | (rw [if_neg (by omega), if_neg (by omega), if_pos (by first | exact .inl ⟨by omega, by assumption⟩ | exact .inr ⟨by omega, by assumption⟩)]; rfl) | (rw [if_neg (by omega), if_neg (by omega), if_neg (by rintro (⟨_, h_⟩ | ⟨_, h_⟩) <;> first | omega | simp_all)]; rfl)), rfl⟩
  rw [c_8] at hs
  replace c_8 := zAK c_8
  revert a w hs
  refine go 7 [] [2] .n ?_
  refine cl (·.drop (.c .z .n)) ?_
  intro a w hs; exact fin hs rfl rfl ⟨congrArg (Value.int .i64) (by unfold zAk; first | (rw [if_pos (by omega)]; rfl) | (rw [if_neg (by omega), if_pos (by omega)]; rfl) | (rw [if_neg (by omega), if_neg (by omega), if_pos (by first | exact .inl ⟨by omega, by assumption⟩ | exact .inr ⟨by omega, by assumption⟩)]; rfl) | (rw [if_neg (by omega), if_neg (by omega), if_neg (by rintro (⟨_, h_⟩ | ⟨_, h_⟩) <;> first | omega | simp_all)]; rfl)), rfl⟩
 rw [c_6] at hs
 replace c_6 := zAK c_6
 revert a w hs
 refine go 8 [0] [30, 26, 1] (.c .z .n) ⟨rfl, ?_⟩
 intro a w hs; refine zAB (b := (r.k : Int) == 2) (fun c_10 => ?_) (fun c_10 => ?_)
 ·
  rw [c_10] at hs
  replace c_10 := eq_of_beq c_10
  revert a w hs
  refine go 1 [0] [31, 30, 26] (.c .z .n) ⟨rfl, ?_⟩
  intro a w hs; refine zC hs rfl rfl rfl ?_
  refine zH (v := .bool (zCD r)) hs (.c rfl .n) call112 (zJm r _) rfl ?_
  refine goL 3 [] [35] .n ?_
  refine ifG rfl (fun c_11 => ?_) (fun c_11 => ?_)
  ·
   refine go 1 [] [2] .n ?_
   refine cl (·.drop (.c .z .n)) ?_
   intro a w hs; exact fin hs rfl rfl ⟨congrArg (Value.int .i64) (by unfold zAk; first | (rw [if_pos (by omega)]; rfl) | (rw [if_neg (by omega), if_pos (by omega)]; rfl) | (rw [if_neg (by omega), if_neg (by omega), if_pos (by first | exact .inl ⟨by omega, by assumption⟩ | exact .inr ⟨by omega, by assumption⟩)]; rfl) | (rw [if_neg (by omega), if_neg (by omega), if_neg (by rintro (⟨_, h_⟩ | ⟨_, h_⟩) <;> first | omega | simp_all)]; rfl)), rfl⟩
  refine go 1 [] [2] .n ?_
  refine cl (·.drop (.c .z .n)) ?_
  intro a w hs; exact fin hs rfl rfl ⟨congrArg (Value.int .i64) (by unfold zAk; first | (rw [if_pos (by omega)]; rfl) | (rw [if_neg (by omega), if_pos (by omega)]; rfl) | (rw [if_neg (by omega), if_neg (by omega), if_pos (by first | exact .inl ⟨by omega, by assumption⟩ | exact .inr ⟨by omega, by assumption⟩)]; rfl) | (rw [if_neg (by omega), if_neg (by omega), if_neg (by rintro (⟨_, h_⟩ | ⟨_, h_⟩) <;> first | omega | simp_all)]; rfl)), rfl⟩
 rw [c_10] at hs
 replace c_10 := zAK c_10
 revert a w hs
 refine go 7 [] [2] .n ?_
 refine cl (·.drop (.c .z .n)) ?_
 intro a w hs; exact fin hs rfl rfl ⟨congrArg (Value.int .i64) (by unfold zAk; first | (rw [if_pos (by omega)]; rfl) | (rw [if_neg (by omega), if_pos (by omega)]; rfl) | (rw [if_neg (by omega), if_neg (by omega), if_pos (by first | exact .inl ⟨by omega, by assumption⟩ | exact .inr ⟨by omega, by assumption⟩)]; rfl) | (rw [if_neg (by omega), if_neg (by omega), if_neg (by rintro (⟨_, h_⟩ | ⟨_, h_⟩) <;> first | omega | simp_all)]; rfl)), rfl⟩
theorem zLH (g : Nat) (w0 : World) : Calls Tryz.prog 136 #[pt g 0] w0 (zCn w0 (.agg #[pt g 2, pt g 3, pt g 4, pt g 5, pt g 6, pt g 7])) := by
 refine zT (F0 := [(0, pt g 0)]) func136 rfl rfl rfl (.c .n) (Mem.nil _) ?_
 refine go 1 [] [2, 0] .n (fun g1 => ?_)
 intro a w hs
 refine zS [.p [] [], .p [0] [], .p [1] [], .p [2] [], .p [] [], .p [4] [], .p [5] [], .p [6] [], .p [] [], .p [8] [], .p [9] [], .p [10] [], .p [] [], .p [12] [], .p [13] [], .p [14] [], .p [] [], .p [16] [], .p [17] [], .p [18] [], .p [] [], .p [20] [], .p [21] [], .p [22] [], .p [23, 19, 15, 11, 7, 3] [], .s [24] [0] [0] []] [] hs (.c .z .n) .n (by kernel_rfl) ⟨rfl, ⟨rfl, by kernel_rfl, fun _ => rfl, rfl, rfl, trivial⟩, fun _ => rfl, ?_⟩
 refine goE 0 [] [2] .n ?_
 intro a w hs; exact zUZ hs rfl rfl .z (.z (.c (.c (.c (.c (.c (.c .n))))))) isAgg199 sizeOf199 (.c .z .n) ⟨rfl, rfl⟩
theorem zDV (v : Value) (m : Nat) (bs : List zR) (x : Int) (w0 : World) (hr : (row v 5 1 m (zF bs)).p w0) (hm : m ≤ 200000) (hx : -9223372036854775808 ≤ x ∧ x ≤ 9223372036854775807) : Calls Tryz.prog 137 #[v, .int .i64 x] w0 (Ret w0 (zX [row v 5 1 m (zF bs)]) fun u N => N = [row u 5 1 (m + (zDj x).length) (zF (bs ++ zDj x))]) := by
 have hvl := zCJ (zFK x).toNat
 refine zT (F0 := [(0, v), (1, zI x)]) func137 rfl rfl rfl (.c (.c .n)) (zBd hr zM2) ?_
 refine go 3 [] [6, 5] .n ?_
 intro a w hs; refine zH (v := qI (zFK x)) hs (.c rfl .n) call95 (zOg x _ (by omega)) rfl ?_
 intro a w hs; refine zO hs (.c rfl .n) call96 .n (zEW (zFK x) _) rfl ?_; clear hs w a; rintro v1 _ a w rfl hs
 refine zAj (size := 1) (bytes := 1) hs rfl rfl (.s .z) (zM (hs.mem.del .z)) (zQ _) underlying32 (i := Tryz.t5) rfl rfl rfl rfl rfl (by decide) (by omega) (by simp only [maxLen]; omega) rfl ?_; intro v2
 refine goL 1 [] [4] .n ?_
 refine cl (·.drop (.c (.s .z) .n)) ?_
 refine cl (·.rerow .z (m' := m + (zDj x).length) (xs' := zF (bs ++ zDj x)) (by simp only [zDj, zCe]) (by simp only [zAi, zDj])) ?_
 intro a w hs; exact fin hs rfl rfl rfl
theorem zIP (v : Value) (m : Nat) (bs : List zR) (g : Nat) (r : zAd) (w0 : World) (hr : (row v 5 1 m (zF bs)).p w0) (hm : m ≤ 100000) (hg : (blk g [zI r.k, zI r.id, zI r.p0, zI r.p1, zI r.p2, zI r.v0, zI r.v1, zI r.v2, .int .u16 (((r.a).toNat : Nat) : Int)] 112).p w0) (hw : r.wf) : Calls Tryz.prog 116 #[v, pt g 0] w0 (Ret w0 (zX [row v 5 1 m (zF bs)]) fun u N => N = [row u 5 1 (m + (zBb r).length) (zF (bs ++ zBb r))]) := by
 have hwf := hw.facts
 have hva := zDu r.a.toNat
 refine zT (F0 := [(0, v), (1, pt g 0)]) func116 rfl rfl rfl (.c (.c .n)) (zBd hr zM2) ?_
 refine go 2 [] [7, 0, 1] .n ?_
 intro a w hs; refine zH (v := .agg #[pt g 2, pt g 3, pt g 4, pt g 5, pt g 6, pt g 7]) hs (.c rfl .n) call136 (zLH g _) rfl ?_
 refine goL 1 [] [9, 8, 0, 1] .n ?_
 intro a w hs; refine zEp 6 ?_
 revert a w hs
 refine go 7 [] [14, 12, 9, 8, 1] .n ?_
 intro a w hs; refine zAI hs rfl (hs.mem.keep hg (zDY hr hg (by decide))) (.s (.s .z)) isAgg2 rfl ?_
 intro a w hs; refine zO hs (.c rfl (.c rfl .n)) call137 (.c .z .n) (zDV _ _ bs r.p0 _ (hs.mem.del .z) (by omega) (by omega)) rfl ?_; clear hs w a; rintro v1 _ a w rfl hs
 have hk2 := zAW r.p0
 revert a w hs
 refine goL 3 [] [9, 0, 8, 1] .n ⟨by decide, ?_⟩
 intro a w hs; refine zBl ?_
 revert a w hs
 refine go 7 [] [14, 12, 9, 8, 1] .n ?_
 intro a w hs; refine zAI hs rfl (hs.mem.keep hg (zDY hr hg (by decide))) (.s (.s (.s .z))) isAgg2 rfl ?_
 intro a w hs; refine zO hs (.c rfl (.c rfl .n)) call137 (.c .z .n) (zDV _ _ (bs ++ zDj r.p0) r.p1 _ (hs.mem.del .z) (by omega) (by omega)) rfl ?_; clear hs w a; rintro v3 _ a w rfl hs
 have hk4 := zAW r.p1
 revert a w hs
 refine goL 3 [] [9, 0, 8, 1] .n ⟨by decide, ?_⟩
 intro a w hs; refine zBl ?_
 revert a w hs
 refine go 7 [] [14, 12, 9, 8, 1] .n ?_
 intro a w hs; refine zAI hs rfl (hs.mem.keep hg (zDY hr hg (by decide))) (.s (.s (.s (.s .z)))) isAgg2 rfl ?_
 intro a w hs; refine zO hs (.c rfl (.c rfl .n)) call137 (.c .z .n) (zDV _ _ ((bs ++ zDj r.p0) ++ zDj r.p1) r.p2 _ (hs.mem.del .z) (by omega) (by omega)) rfl ?_; clear hs w a; rintro v5 _ a w rfl hs
 have hk6 := zAW r.p2
 revert a w hs
 refine goL 3 [] [9, 0, 8, 1] .n ⟨by decide, ?_⟩
 intro a w hs; refine zBl ?_
 revert a w hs
 refine go 7 [] [14, 12, 9, 8, 1] .n ?_
 intro a w hs; refine zAI hs rfl (hs.mem.keep hg (zDY hr hg (by decide))) (.s (.s (.s (.s (.s .z))))) isAgg2 rfl ?_
 intro a w hs; refine zO hs (.c rfl (.c rfl .n)) call137 (.c .z .n) (zDV _ _ (((bs ++ zDj r.p0) ++ zDj r.p1) ++ zDj r.p2) r.v0 _ (hs.mem.del .z) (by omega) (by omega)) rfl ?_; clear hs w a; rintro v7 _ a w rfl hs
 have hk8 := zAW r.v0
 revert a w hs
 refine goL 3 [] [9, 0, 8, 1] .n ⟨by decide, ?_⟩
 intro a w hs; refine zBl ?_
 revert a w hs
 refine go 7 [] [14, 12, 9, 8, 1] .n ?_
 intro a w hs; refine zAI hs rfl (hs.mem.keep hg (zDY hr hg (by decide))) (.s (.s (.s (.s (.s (.s .z)))))) isAgg2 rfl ?_
 intro a w hs; refine zO hs (.c rfl (.c rfl .n)) call137 (.c .z .n) (zDV _ _ ((((bs ++ zDj r.p0) ++ zDj r.p1) ++ zDj r.p2) ++ zDj r.v0) r.v1 _ (hs.mem.del .z) (by omega) (by omega)) rfl ?_; clear hs w a; rintro v9 _ a w rfl hs
 have hk10 := zAW r.v1
 revert a w hs
 refine goL 3 [] [9, 0, 8, 1] .n ⟨by decide, ?_⟩
 intro a w hs; refine zBl ?_
 revert a w hs
 refine go 7 [] [14, 12, 9, 8, 1] .n ?_
 intro a w hs; refine zAI hs rfl (hs.mem.keep hg (zDY hr hg (by decide))) (.s (.s (.s (.s (.s (.s (.s .z))))))) isAgg2 rfl ?_
 intro a w hs; refine zO hs (.c rfl (.c rfl .n)) call137 (.c .z .n) (zDV _ _ (((((bs ++ zDj r.p0) ++ zDj r.p1) ++ zDj r.p2) ++ zDj r.v0) ++ zDj r.v1) r.v2 _ (hs.mem.del .z) (by omega) (by omega)) rfl ?_; clear hs w a; rintro v11 _ a w rfl hs
 have hk12 := zAW r.v2
 revert a w hs
 refine goL 3 [] [9, 0, 8, 1] .n ⟨by decide, ?_⟩
 intro a w hs; refine zBl ?_
 revert a w hs
 refine go 6 [] [21, 18] .n ?_
 intro a w hs; refine zAI hs rfl (hs.mem.keep hg (zDY hr hg (by decide))) (.s (.s (.s (.s (.s (.s (.s (.s .z)))))))) isAgg70 rfl ?_
 intro a w hs; refine zEQ (X := r.a) hs rfl rfl underlying70 underlying130 rfl ?_
 intro a w hs; refine zO hs (.c rfl .n) call96 .n (zEW ((r.a).setWidth 64) _) rfl ?_; clear hs w a; rintro v13 _ a w rfl hs
 replace hs := hs.rerow .z (m' := (zDL r.a.toNat).length) (xs' := zF (zDL r.a.toNat)) (by rw [zUd]; rfl) (by rw [zUd])
 refine zAj (size := 1) (bytes := 1) hs rfl rfl (.s .z) (zM (hs.mem.del .z)) (zQ _) underlying32 (i := Tryz.t5) rfl rfl rfl rfl rfl (by decide) (by omega) (by simp only [maxLen]; omega) rfl ?_; intro v14
 refine goL 1 [] [4] .n ?_
 refine cl (·.drop (.c (.s .z) .n)) ?_
 intro a w hs; replace hs := hs.rerow .z (m' := m + (zBb r).length) (xs' := zF (bs ++ zBb r)) (by simp only [List.length_append, zCe, zBb]; omega) (by simp only [zAi, List.append_assoc, zBb])
 exact fin hs rfl rfl rfl
theorem zJ4 (v : Value) (m : Nat) (bs : List zR) (g : Nat) (r : zAd) (w0 : World) (hr : (row v 5 1 m (zF bs)).p w0) (hm : m ≤ 100000) (hg : (blk g [zI r.k, zI r.id, zI r.p0, zI r.p1, zI r.p2, zI r.v0, zI r.v1, zI r.v2, .int .u16 (((r.a).toNat : Nat) : Int)] 112).p w0) (hw : r.wf) : Calls Tryz.prog 118 #[v, pt g 0] w0 (Ret w0 (zX [row v 5 1 m (zF bs)]) fun u N => N = [row u 5 1 (m + (zCG r).length) (zF (bs ++ zCG r))]) := by
 have hwf := hw.facts
 have hva := zDu r.a.toNat
 have hml := hr.1
 rw [show (zF bs).length = bs.length by simp [zF], Nat.mul_one] at hml
 have hlu_ := zBI r 0
 refine zT (F0 := [(0, v), (1, pt g 0)]) func118 rfl rfl rfl (.c (.c .n)) (zBd hr zM2) ?_
 refine go 2 [] [8, 0, 1] .n ?_
 intro a w hs; refine zAG hs rfl (zM (hs.mem.del .z)).isSl underlying32 rfl ?_
 refine goL 3 [] [11, 10, 5, 1] .n (fun g1 => ?_)
 intro a w hs; refine zAj (size := 1) (bytes := 1) hs rfl rfl (.s .z) (zAa (m := 1) (size := 1) (hs.mem.del .z) rfl (by decide)) (by simp [Value.oneCell']) underlying32 (i := Tryz.t5) rfl rfl rfl rfl rfl (by decide) (by omega) (by simp only [maxLen]; omega) rfl ?_; intro v2
 refine cl (·.drop (.c (.s .z) .n)) ?_
 intro a w hs; replace hs := hs.rerow .z (m' := (m + 1 + (zAr r 0).length)) (xs' := zF (bs ++ zAn r 0 :: zAr r 0)) (by simp only [zAr, List.length_nil]) (by simp only [zAi, zAn, zAr]; rfl)
 revert a w hs
 refine goL 2 [] [13, 0, 5, 1] .n ?_
 intro a w hs; refine zH (v := .agg #[pt g 2, pt g 3, pt g 4, pt g 5, pt g 6, pt g 7]) hs (.c rfl .n) call136 (zLH g _) rfl ?_
 refine goL 1 [] [15, 14, 0, 5, 1] .n ?_
 intro a w hs; refine zCA (fun mm_ a w => ∃ i : Nat, ∃ q : Value, mm_ = 6 - i ∧ St 57 [(0, q), (1, pt g 0), (5, zI (m : Int)), (14, .agg #[pt g 2, pt g 3, pt g 4, pt g 5, pt g 6, pt g 7]), (15, nI i)] w0 (zX [row v 5 1 m (zF bs)]) [row q 5 1 (m + 1 + (zAr r i).length) (zF (bs ++ zAn r i :: zAr r i))] a w ∧ i ≤ 6) ⟨0, v2, rfl, hs.sub (.c rfl (.c rfl (.c rfl (.c rfl (.c rfl .n))))), by omega⟩ ?_
 clear hs w a; rintro mm_ a w ⟨i, q, rfl, hs, hI1_0⟩
 have hlui := zBI r i
 have hluj := zBI r (i + 1)
 revert a w hs
 refine go 1 [] [16, 0, 1, 5, 14, 15] .n ?_
 refine ifG rfl (fun c_3 => ?_) (fun c_3 => ?_)
 ·
  refine go 1 [] [17, 0, 1, 5, 14, 15] .n ?_
  intro a w hs; refine zUl hs rfl rfl underlying199 (by omega) (by omega) (zSa (by omega)) isAgg198 sizeOf198 rfl ?_
  refine goL 3 [] [19, 7, 6, 0, 1, 5, 14, 15] .n ?_
  intro a w hs; refine zQ8 hs rfl rfl ?_
  intro a w hs; refine zC6 (v := zI (r.num i)) hs rfl (hs.mem.keep hg (zDY hr hg (by decide))) (zQG (by omega)) isAgg2 rfl ?_
  refine goL 1 [] [22, 7, 6, 0, 1, 5, 14, 15] .n ?_
  refine ifG rfl (fun c_4 => ?_) (fun c_4 => ?_)
  ·
   have hn_ : r.num i ≠ 0 := by assumption
   have hnr := zJL hw (i := i) (by omega)
   refine go 0 [] [7, 6, 0, 1, 5, 14, 15] .n ?_
   intro a w hs
   refine zAx [.p [] [], .p [] [], .y [1, 0] (.pointer (some (adr q m))) [] [] [] fun vs5 => [], .y [2] (bI (zAn r i)) [] [] [] fun vs5 => [], .p [] [], .v [4] (bI ((1#8) <<< i)), .v [5, 3] (bI ((zAn r i) ||| ((1#8) <<< i))), .y [1, 0] (.pointer (some (adr q m))) [] [] [] fun vs5 => [], .x [7, 6] ⟨[row q 5 1 (m + 1 + (zAr r i).length) (zF (bs ++ zAn r i :: zAr r i))], [], [], fun vs5 => True, fun vs5 => [row q 5 1 (m + 1 + (zAr r i).length) (zF ((bs ++ zAn r i :: zAr r i).set m ((zAn r i) ||| ((1#8) <<< i))))], none⟩] [] hs .n (.c .z .n) .n (by kernel_rfl) ⟨fun _ _ _ _ hm hs K => zQP (X := 1#8) (m := i) hs rfl (by decide) rfl rfl rfl (vk K), fun _ _ _ _ hm hs K => zJZ (X := zAn r i) (Y := (1#8) <<< i) hs rfl rfl rfl rfl rfl (vk K), ⟨(.c .z .n), by kernel_rfl, fun _ => rfl, rfl, rfl⟩, ⟨?_, ?_, ?_, ?_, trivial⟩, ?_⟩
   ·
    intro a_ w_ R_ rest_ vs5 hm hs ht hx
    have hs0 := hs.bare
    refine zA9 (j := m) hs rfl rfl (zM (hm.own (List.mem_append.2 (.inr ((hx 8 (zL 9 _ (by kernel_rfl))).1 _ (List.Mem.head _)))))) rfl (by omega) underlying32 sizeOf5 rfl ?_; clear hs; intro a w hs
    exact wpList_nil ⟨rfl, _, _, hs0, (.c (.c .r)), hs, rfl⟩
   ·
    intro a_ w_ R_ rest_ vs5 hm hs ht hx
    have hs0 := hs.bare
    refine zA7 hs rfl (zM (hm.own (List.mem_append.2 (.inr ((hx 8 (zL 9 _ (by kernel_rfl))).1 _ (List.Mem.head _)))))) (zA5 (bs ++ zAn r i :: zAr r i) (by first | omega | (simp; omega))) isAgg5 rfl ?_; clear hs; intro a w hs
    rw [zMZ hml] at hs
    exact wpList_nil ⟨rfl, _, _, hs0, (.c .r), hs, rfl⟩
   ·
    intro a_ w_ R_ rest_ vs5 hm hs ht hx
    have hs0 := hs.bare
    refine zA9 (j := m) hs rfl rfl (zM (hm.own (List.mem_append.2 (.inr ((hx 8 (zL 9 _ (by kernel_rfl))).1 _ (List.Mem.head _)))))) rfl (by omega) underlying32 sizeOf5 rfl ?_; clear hs; intro a w hs
    exact wpList_nil ⟨rfl, _, _, hs0, (.c (.c .r)), hs, rfl⟩
   ·
    intro a_ w_ R_ rest_ vs5 hm hs ht hx
    have hs0 := hs.bare
    refine zMX hs rfl rfl .z (by omega) rfl sizeOf5 ?_; clear hs; intro a w hs
    replace hs := hs.rerow .z (m' := (m + 1 + (zAr r i).length)) (xs' := zF ((bs ++ zAn r i :: zAr r i).set m ((zAn r i) ||| ((1#8) <<< i)))) (rfl) ((zE2 _ _ _).symm)
    exact wpList_nil ⟨rfl, .tuple #[], _, hs0, (.c (.c .r)), hs, trivial⟩
   clear hs w a; intro vs5 a w hs hf
   clear hf
   revert a w hs
   refine goE 1 [] [31, 7, 1, 5, 14, 15] .n ?_
   refine cl (·.rerow .z (m' := (m + 1 + (zAr r i).length)) (xs' := zF (bs ++ (zAn r i ||| (1#8 <<< i)) :: zAr r i)) (rfl) (by rw [zPW hml])) ?_
   refine go 1 [] [32, 31, 1, 5, 14, 15] .n ?_
   intro a w hs; refine zQ8 hs rfl rfl ?_
   intro a w hs; refine zC6 (v := zI (r.num i)) hs rfl (hs.mem.keep hg (zDY hr hg (by decide))) (zQG (by omega)) isAgg2 rfl ?_
   intro a w hs; refine zO hs (.c rfl (.c rfl .n)) call137 (.c .z .n) (zDV _ _ (bs ++ (zAn r i ||| (1#8 <<< i)) :: zAr r i) (r.num i) _ (hs.mem.del .z) (by omega) (by omega)) rfl ?_; clear hs w a; rintro v6 _ a w rfl hs
   have hk7 := zAW (r.num i)
   revert a w hs
   refine goL 3 [] [15, 0, 1, 5, 14] .n ⟨(by omega), ?_⟩
   intro a w hs; replace hs := hs.rerow .z (m' := (m + 1 + (zAr r (i + 1)).length)) (xs' := zF (bs ++ zAn r (i + 1) :: zAr r (i + 1))) (by first | (rw [zDi hz_]) | (rw [zDg hn_]; simp only [List.length_append]; omega)) (by first | (rw [zJC hz_, zDi hz_]) | (rw [zJd hn_, zDg hn_]; simp [zAi]))
   refine ⟨_, ?_, (i + 1), v6, rfl, hs.sub (.c rfl (.c rfl (.c rfl (.c rfl (.c rfl .n))))), by omega⟩
   omega
  have hz_ : r.num i = 0 := by assumption
  refine go 2 [] [15, 0, 1, 5, 14] .n ⟨(by omega), ?_⟩
  intro a w hs; replace hs := hs.rerow .z (m' := (m + 1 + (zAr r (i + 1)).length)) (xs' := zF (bs ++ zAn r (i + 1) :: zAr r (i + 1))) (by first | (rw [zDi hz_]) | (rw [zDg hn_]; simp only [List.length_append]; omega)) (by first | (rw [zJC hz_, zDi hz_]) | (rw [zJd hn_, zDg hn_]; simp [zAi]))
  refine ⟨_, ?_, (i + 1), q, rfl, hs.sub (.c rfl (.c rfl (.c rfl (.c rfl (.c rfl .n))))), by omega⟩
  omega
 obtain rfl : i = 6 := by omega
 refine go 3 [] [39, 0, 1, 5] .n ?_
 intro a w hs; refine zAI hs rfl (hs.mem.keep hg (zDY hr hg (by decide))) (.s (.s (.s (.s (.s (.s (.s (.s .z)))))))) isAgg70 rfl ?_
 refine goL 1 [] [41, 0, 1, 5] .n ?_
 refine ifG rfl (fun c_8 => ?_) (fun c_8 => ?_)
 ·
  refine go 2 [] [43, 42, 0, 1] .n ?_
  intro a w hs; refine zA9 (j := m) hs rfl rfl (zM (hs.mem.del .z)) rfl (by omega) underlying32 sizeOf5 rfl ?_
  intro a w hs; refine zA7 hs rfl (zM (hs.mem.del .z)) (zA5 (bs ++ zAn r 6 :: zAr r 6) (by first | omega | (simp; omega))) isAgg5 rfl ?_
  intro a w hs; rw [zMZ hml] at hs
  refine zJZ (X := zAn r 6) (Y := 64#8) hs rfl rfl rfl (by decide) rfl ?_
  intro a w hs; refine zA9 (j := m) hs rfl rfl (zM (hs.mem.del .z)) rfl (by omega) underlying32 sizeOf5 rfl ?_
  intro a w hs; refine zMX hs rfl rfl .z (by omega) rfl sizeOf5 ?_
  refine cl (·.rerow .z (m' := (m + 1 + (zAr r 6).length)) (xs' := zF ((bs ++ zAn r 6 :: zAr r 6).set m ((zAn r 6) ||| (64#8)))) (rfl) ((zE2 _ _ _).symm)) ?_
  refine goL 1 [] [48, 1] .n ?_
  refine cl (·.rerow .z (m' := (m + 1 + (zAr r 6).length)) (xs' := zF (bs ++ (zAn r 6 ||| 64#8) :: zAr r 6)) (rfl) (by rw [zPW hml])) ?_
  refine go 3 [] [51, 48] .n ?_
  intro a w hs; refine zAI hs rfl (hs.mem.keep hg (zDY hr hg (by decide))) (.s (.s (.s (.s (.s (.s (.s (.s .z)))))))) isAgg70 rfl ?_
  intro a w hs; refine zEQ (X := r.a) hs rfl rfl underlying70 underlying130 rfl ?_
  intro a w hs; refine zO hs (.c rfl .n) call96 .n (zEW ((r.a).setWidth 64) _) rfl ?_; clear hs w a; rintro v9 _ a w rfl hs
  replace hs := hs.rerow .z (m' := (zDL r.a.toNat).length) (xs' := zF (zDL r.a.toNat)) (by rw [zUd]; rfl) (by rw [zUd])
  refine zAj (size := 1) (bytes := 1) hs rfl rfl (.s .z) (zM (hs.mem.del .z)) (zQ _) underlying32 (i := Tryz.t5) rfl rfl rfl rfl rfl (by decide) (by omega) (by simp only [maxLen]; omega) rfl ?_; intro v10
  refine goL 3 [] [4] .n ?_
  refine cl (·.drop (.c (.s .z) .n)) ?_
  intro a w hs; replace hs := hs.rerow .z (m' := m + (zCG r).length) (xs' := zF (bs ++ zCG r)) (by first | (rw [zA1 (by omega)]; simp only [List.length_append, List.length_cons]; omega) | (rw [zA3 (by omega)]; simp only [List.length_append, List.length_cons]; omega)) (by first | (rw [zA1 (by omega)]) | (rw [zA3 (by omega)]; simp [zF]))
  exact fin hs rfl rfl rfl
 refine go 2 [] [4] .n ?_
 intro a w hs; replace hs := hs.rerow .z (m' := m + (zCG r).length) (xs' := zF (bs ++ zCG r)) (by first | (rw [zA1 (by omega)]; simp only [List.length_append, List.length_cons]; omega) | (rw [zA3 (by omega)]; simp only [List.length_append, List.length_cons]; omega)) (by first | (rw [zA1 (by omega)]) | (rw [zA3 (by omega)]; simp [zF]))
 exact fin hs rfl rfl rfl
theorem zOU (v : Value) (m : Nat) (bs : List zR) (g : Nat) (w0 : World) (hr : (row v 5 1 m (zF bs)).p w0) : Calls Tryz.prog 114 #[v, pt g 0] w0 (Ret w0 (zX [row v 5 1 m (zF bs)]) fun u N => u = v ∧ N = [row v 5 1 m (zF bs)]) := by
 refine zT (F0 := [(0, v), (1, pt g 0)]) func114 rfl rfl rfl (.c (.c .n)) (zBd hr zM2) ?_
 refine go 3 [] [4] .n ?_
 intro a w hs; exact fin hs rfl rfl ⟨rfl, rfl⟩
theorem zGL (w0 : World) : Calls Tryz.prog 97 #[] w0 (zCn w0 (.agg #[.func (.func 116) #[] #[], .func (.func 117) #[] #[], .func (.func 118) #[] #[], .func (.func 119) #[] #[], .func (.func 114) #[] #[], .func (.func 115) #[] #[], .func (.func 116) #[] #[], .func (.func 117) #[] #[]])) := by
 refine zT (F0 := []) func97 rfl rfl rfl .n (Mem.nil _) ?_
 refine go 10 [0, 0, 1] [0] .n (fun g1 => fun g2 => ⟨rfl, rfl, rfl, ?_⟩)
 intro a w hs; exact zUZ hs rfl rfl (.s .z) (.z (.c (.c (.c (.c (.c (.c (.c (.c .n))))))))) isAgg171 sizeOf171 (.c (.s .z) (.c .z .n)) ⟨rfl, rfl⟩
theorem zRs (r : zAd) (last : Int) (w0 : World) (hw : r.wf) (hl : -9223372036854775808 ≤ last ∧ last ≤ 9223372036854775807) : Calls Tryz.prog 71 #[.agg #[zI r.k, zI r.id, zI r.p0, zI r.p1, zI r.p2, zI r.v0, zI r.v1, zI r.v2, .int .u16 (((r.a).toNat : Nat) : Int)], .int .i64 last] w0 (Ret w0 [] fun u N => ∃ v, u = .tuple #[v, nI (zBG r last)] ∧ N = [row v 5 1 (zCg r last).length (zF (zCg r last))]) := by
 have hwf := hw.facts
 have hva := zDu r.a.toNat
 have hal := zF5 r
 have hsl := zFc r
 have hul := zBI r 6
 have hul0 := zBI r 0
 have hhl := zFX r last
 have hvX := zCJ (BitVec.ofInt 64 (r.id - last - 1)).toNat
 refine zT (F0 := [(0, .agg #[zI r.k, zI r.id, zI r.p0, zI r.p1, zI r.p2, zI r.v0, zI r.v1, zI r.v2, .int .u16 (((r.a).toNat : Nat) : Int)]), (1, zI last)]) func71 rfl rfl rfl (.c (.c .n)) (Mem.nil _) ?_
 refine go 4 [0, 0] [8, 2, 1] .n (fun g1 => ⟨rfl, ?_⟩)
 intro a w hs; refine zH (v := nI (zAk r)) hs (.c rfl .n) call81 (zSm r _) rfl ?_
 refine goL 3 [] [11, 6, 2, 1] .n ?_
 refine ifG rfl (fun c_2 => ?_) (fun c_2 => ?_)
 ·
  refine go 3 [] [5, 4] .n ?_
  have hre : zBG r last = zAk r := by first | exact zBA (by omega) | exact zBC (by omega) (by omega) | exact zBB (by omega) (by omega) (by omega) | exact zBX (by omega) (by omega) (by omega)
  refine cl (·.drop (.c .z .n)) ?_
  refine cl (·.addNil 5 1) ?_
  intro a w hs; replace hs := hs.rerow .z (m' := (zCg r last).length) (xs' := zF (zCg r last)) (by rw [zBt (by omega)]; rfl) (by rw [zBt (by omega)]; rfl)
  exact zCF hs rfl rfl rfl ⟨_, congrArg (fun z : Nat => Value.tuple #[.slice none 0 0, zI (z : Int)]) hre.symm, rfl⟩
 have hck := zJs (r := r) (by omega)
 refine go 3 [] [16, 2, 1] .n ?_
 intro a w hs; refine zAB (b := decide (last < (-1))) (fun c_3 => ?_) (fun c_3 => ?_)
 ·
  rw [c_3] at hs
  replace c_3 := of_decide_eq_true c_3
  revert a w hs
  refine go 7 [] [5, 4] .n ?_
  have hre : zBG r last = 3 := by first | exact zBA (by omega) | exact zBC (by omega) (by omega) | exact zBB (by omega) (by omega) (by omega) | exact zBX (by omega) (by omega) (by omega)
  refine cl (·.drop (.c .z .n)) ?_
  refine cl (·.addNil 5 1) ?_
  intro a w hs; replace hs := hs.rerow .z (m' := (zCg r last).length) (xs' := zF (zCg r last)) (by rw [zBt (by omega)]; rfl) (by rw [zBt (by omega)]; rfl)
  exact zCF hs rfl rfl rfl ⟨_, congrArg (fun z : Nat => Value.tuple #[.slice none 0 0, zI (z : Int)]) hre.symm, rfl⟩
 rw [c_3] at hs
 replace c_3 := of_decide_eq_false c_3
 revert a w hs
 refine go 4 [] [13, 2, 1] .n ?_
 refine ifG rfl (fun c_4 => ?_) (fun c_4 => ?_)
 ·
  refine go 2 [] [5, 4] .n ?_
  have hre : zBG r last = 3 := by first | exact zBA (by omega) | exact zBC (by omega) (by omega) | exact zBB (by omega) (by omega) (by omega) | exact zBX (by omega) (by omega) (by omega)
  refine cl (·.drop (.c .z .n)) ?_
  refine cl (·.addNil 5 1) ?_
  intro a w hs; replace hs := hs.rerow .z (m' := (zCg r last).length) (xs' := zF (zCg r last)) (by rw [zBt (by omega)]; rfl) (by rw [zBt (by omega)]; rfl)
  exact zCF hs rfl rfl rfl ⟨_, congrArg (fun z : Nat => Value.tuple #[.slice none 0 0, zI (z : Int)]) hre.symm, rfl⟩
 refine go 5 [0] [20, 2, 1] (.c .z .n) ⟨rfl, ?_⟩
 refine ifG rfl (fun c_5 => ?_) (fun c_5 => ?_)
 ·
  refine go 2 [] [5, 4] .n ?_
  have hre : zBG r last = 10 := by first | exact zBA (by omega) | exact zBC (by omega) (by omega) | exact zBB (by omega) (by omega) (by omega) | exact zBX (by omega) (by omega) (by omega)
  refine cl (·.drop (.c .z .n)) ?_
  refine cl (·.addNil 5 1) ?_
  intro a w hs; replace hs := hs.rerow .z (m' := (zCg r last).length) (xs' := zF (zCg r last)) (by rw [zBt (by omega)]; rfl) (by rw [zBt (by omega)]; rfl)
  exact zCF hs rfl rfl rfl ⟨_, congrArg (fun z : Nat => Value.tuple #[.slice none 0 0, zI (z : Int)]) hre.symm, rfl⟩
 refine go 0 [] [2, 1] .n ?_
 intro a w hs
 refine zAx [.p [] [], .p [0] [0], .p [] [], .p [2, 1] [], .p [3] [], .v [4] (qI (BitVec.ofInt 64 ((r.id - last) - 1))), .x [5] ⟨[], [], [], fun vs6 => True, fun vs6 => [row (vs6 6) 5 1 (zCe (BitVec.ofInt 64 ((r.id - last) - 1)).toNat) (zF (zDL (BitVec.ofInt 64 ((r.id - last) - 1)).toNat))], none⟩, .p [] [], .p [7] [0], .v [8] (bI (BitVec.ofInt 8 r.k)), .x [9] ⟨[], [], [], fun vs6 => vs6 10 = .slice (some ⟨(zCQ (vs6 10)), 0, none⟩) 1 1, fun vs6 => [blk (zCQ (vs6 10)) [bI (BitVec.ofInt 8 r.k)] 5], none⟩, .x [] ⟨[], [6], [], fun vs6 => True, fun vs6 => [row (vs6 11) 5 1 ((zAN r last).length) (zF (zAN r last))], none⟩, .x [] ⟨[], [], [11], fun vs6 => vs6 12 = (vs6 11), fun vs6 => [], none⟩] [] hs .n .n (.c .z .n) (by kernel_rfl) ⟨rfl, (by omega), (by omega), fun _ _ _ _ hm hs K => zA0 hs rfl underlying3 underlying130 rfl (vk K), rfl, fun _ _ _ _ hm hs K => zL3 hs rfl underlying3 underlying5 rfl (vk K), ⟨.n, by kernel_rfl, fun _ => rfl, rfl, rfl⟩, ⟨?_, ?_, ?_, ?_, trivial⟩, ?_⟩
 ·
  intro a_ w_ R_ rest_ vs6 hm hs ht hx
  have hs0 := hs.bare
  refine zO hs (.c rfl .n) call96 .n (zEW (BitVec.ofInt 64 ((r.id - last) - 1)) _) rfl ?_; clear hs; rintro v7 _ a w rfl hs
  exact wpList_nil ⟨rfl, _, _, hs0, (.c .r), hs, trivial⟩
 ·
  intro a_ w_ R_ rest_ vs6 hm hs ht hx
  have hs0 := hs.bare
  refine zFv (cs := [bI (BitVec.ofInt 8 r.k)]) hs (.c .n) (.c rfl .n) underlying32 (ie := Tryz.t5) rfl rfl rfl rfl (by decide) (by decide) rfl (by decide) rfl rfl rfl ?_; clear hs; intro g8 a w hs
  exact wpList_nil ⟨rfl, _, _, hs0, (.c .r), hs, rfl⟩
 ·
  intro a_ w_ R_ rest_ vs6 hm hs ht hx
  have t6 := ht 6 (zL 13 _ (by kernel_rfl))
  have e6 : _ = some (vs6 6) := t6.val rfl
  replace hs := hs.learn e6
  have t10 := ht 10 (zL 13 _ (by kernel_rfl))
  have e10 : _ = some (vs6 10) := t10.val rfl
  rw [show vs6 10 = .slice (some ⟨(zCQ (vs6 10)), 0, none⟩) 1 1 from t10.2.1] at e10
  replace hs := hs.learn e10
  have hs0 := hs.bare
  refine zAj (size := 1) (bytes := 1) hs rfl rfl .z (zAa (m := 1) (size := 1) (hm.own (List.mem_append.2 (.inr ((ht 10 (zL 13 _ (by kernel_rfl))).2.2 (zFR (n := 13) (by kernel_rfl)) _ (List.Mem.head _))))) rfl (by decide)) (by simp [Value.oneCell']) underlying32 (i := Tryz.t5) rfl rfl rfl rfl rfl (by decide) (by omega) (by simp only [maxLen]; omega) rfl ?_; clear hs; intro v9 a w hs
  replace hs := hs.rerow .z (m' := (zAN r last).length) (xs' := zF (zAN r last)) (by unfold zAN; simp only [List.length_append, List.length_cons, List.length_nil, zCe]) (by unfold zAN; rw [zAi]; rfl)
  exact wpList_nil ⟨rfl, _, _, hs0, (.c (.c .r)), hs, trivial⟩
 ·
  intro a_ w_ R_ rest_ vs6 hm hs ht hx
  have t11 := ht 11 (zL 13 _ (by kernel_rfl))
  have e11 : _ = some (vs6 11) := t11.val rfl
  replace hs := hs.learn e11
  have hs0 := hs.bare
  refine zJ1 hs rfl rfl ?_; clear hs; intro a w hs
  exact wpList_nil ⟨rfl, _, _, hs0, (.c .r), hs, rfl⟩
 clear hs w a; intro vs6 a w hs hf
 obtain ⟨e12, q12⟩ := hf 12 (by decide)
 replace e12 : _ = some (vs6 12) := e12.val rfl
 rw [show vs6 12 = (vs6 11) from q12] at e12
 replace hs := hs.learn e12; clear e12 q12
 generalize zCQ (vs6 10) = g10 at hs
 generalize vs6 11 = v11 at hs
 clear hf
 revert a w hs
 refine goE 0 [] [7, 2] .n ?_
 rcases (show r.k = 0 ∨ r.k = 1 ∨ r.k = 2 ∨ r.k = 3 from by omega) with hk12 | hk12 | hk12 | hk12
 ·
  intro a w hs
  refine zAx [.v [] (.agg #[.func (.func 116) #[] #[], .func (.func 117) #[] #[], .func (.func 118) #[] #[], .func (.func 119) #[] #[], .func (.func 114) #[] #[], .func (.func 115) #[] #[], .func (.func 116) #[] #[], .func (.func 117) #[] #[]]), .p [] [], .v [1] (zI 0), .p [2, 0] [], .p [3] [], .p [] [], .x [5, 4] ⟨[row v11 5 1 ((zAN r last).length) (zF (zAN r last))], [], [], fun vs13 => True, fun vs13 => [row (vs13 6) 5 1 (((zAN r last).length) + (zBb r).length) (zF ((zAN r last) ++ zBb r))], none⟩, .x [] ⟨[], [], [6], fun vs13 => vs13 7 = (vs13 6), fun vs13 => [], none⟩, .p [] []] [8] hs .n (.c (.s (.s .z)) .n) .n (by kernel_rfl) ⟨fun _ _ _ _ hm hs K => zH (v := .agg #[.func (.func 116) #[] #[], .func (.func 117) #[] #[], .func (.func 118) #[] #[], .func (.func 119) #[] #[], .func (.func 114) #[] #[], .func (.func 115) #[] #[], .func (.func 116) #[] #[], .func (.func 117) #[] #[]]) hs .n call97 (zGL _) rfl (vk K), ?_, ⟨(.c .z .n), by kernel_rfl, fun _ => rfl, rfl, rfl⟩, ⟨?_, ?_, trivial⟩, ?_⟩
  ·
   intro a_ w_ R_ Q_ hm hs K_
   have hm0 := hm
   refine zAI hs rfl (hm0.del .z) .z isAgg3 rfl ?_; clear hs; intro a w hs
   replace hs := hs.recell (v' := zI 0) (Option.some.inj (congrArg (fun z => some (Value.int .i64 z)) hk12))
   exact wpList_nil (K_ _ _ hs)
  ·
   intro a_ w_ R_ rest_ vs13 hm hs ht hx
   have hm0 := hm.mid
   have hs0 := hs.bare
   refine zBp (us := []) hs rfl (.c rfl (.c rfl .n)) rfl call116 (.c .z .n) (zIP _ _ (zAN r last) g1 r _ (hs.mem.del .z) (by omega) (hm0.del .z) hw) rfl ?_; clear hs; rintro v14 _ a w rfl hs
   exact wpList_nil ⟨rfl, _, _, hs0, (.c (.c .r)), hs, trivial⟩
  ·
   intro a_ w_ R_ rest_ vs13 hm hs ht hx
   have t6 := ht 6 (zL 9 _ (by kernel_rfl))
   have e6 : _ = some (vs13 6) := t6.val rfl
   replace hs := hs.learn e6
   have hs0 := hs.bare
   refine zJ1 hs rfl rfl ?_; clear hs; intro a w hs
   exact wpList_nil ⟨rfl, _, _, hs0, (.c .r), hs, rfl⟩
  clear hs w a; intro vs13 a w hs hf
  obtain ⟨e7, q7⟩ := hf 7 (by decide)
  replace e7 : _ = some (vs13 7) := e7.val rfl
  rw [show vs13 7 = (vs13 6) from q7] at e7
  replace hs := hs.learn e7; clear e7 q7
  generalize vs13 6 = v15 at hs
  clear hf
  revert a w hs
  refine goE 0 [] [4, 5] .n ?_
  have hre : zBG r last = 0 := by first | exact zBA (by omega) | exact zBC (by omega) (by omega) | exact zBB (by omega) (by omega) (by omega) | exact zBX (by omega) (by omega) (by omega)
  refine cl (·.drop (.c (.s .z) (.c .z .n))) ?_
  intro a w hs; replace hs := hs.rerow .z (m' := (zCg r last).length) (xs' := zF (zCg r last)) (by first | ((first | rw [zAZ hre (by omega)] | rw [zV hre (by omega)] | rw [zAL hre (by omega)]) <;> simp only [List.length_append]; done) | ((first | rw [zAZ hre (by omega)] | rw [zV hre (by omega), zA1 (by omega)] | rw [zV hre (by omega), zA3 (by omega)] | rw [zAL hre (by omega)]) <;> simp only [List.length_append, List.length_cons, List.length_nil, zBb, zCo] <;> omega)) (by first | ((first | rw [zAZ hre (by omega)] | rw [zV hre (by omega)] | rw [zAL hre (by omega)]) <;> rfl) | ((first | rw [zAZ hre (by omega)] | rw [zV hre (by omega), zA1 (by omega)] | rw [zV hre (by omega), zA3 (by omega)] | rw [zAL hre (by omega)]) <;> simp only [zBb, zCo, zF, List.map_append, List.map_cons, List.map_nil, List.append_assoc, List.cons_append, List.nil_append] <;> rfl))
  exact zCF hs rfl rfl rfl ⟨_, congrArg (fun z : Nat => Value.tuple #[v15, zI (z : Int)]) hre.symm, rfl⟩
 ·
  intro a w hs
  refine zAx [.v [] (.agg #[.func (.func 116) #[] #[], .func (.func 117) #[] #[], .func (.func 118) #[] #[], .func (.func 119) #[] #[], .func (.func 114) #[] #[], .func (.func 115) #[] #[], .func (.func 116) #[] #[], .func (.func 117) #[] #[]]), .p [] [], .v [1] (zI 1), .p [2, 0] [], .p [3] [], .p [] [], .x [5, 4] ⟨[row v11 5 1 ((zAN r last).length) (zF (zAN r last))], [], [], fun vs16 => True, fun vs16 => [row (vs16 6) 5 1 (((zAN r last).length) + (zCG r).length) (zF ((zAN r last) ++ zCG r))], none⟩, .x [] ⟨[], [], [6], fun vs16 => vs16 7 = (vs16 6), fun vs16 => [], none⟩, .p [] []] [8] hs .n (.c (.s (.s .z)) .n) .n (by kernel_rfl) ⟨fun _ _ _ _ hm hs K => zH (v := .agg #[.func (.func 116) #[] #[], .func (.func 117) #[] #[], .func (.func 118) #[] #[], .func (.func 119) #[] #[], .func (.func 114) #[] #[], .func (.func 115) #[] #[], .func (.func 116) #[] #[], .func (.func 117) #[] #[]]) hs .n call97 (zGL _) rfl (vk K), ?_, ⟨(.c .z .n), by kernel_rfl, fun _ => rfl, rfl, rfl⟩, ⟨?_, ?_, trivial⟩, ?_⟩
  ·
   intro a_ w_ R_ Q_ hm hs K_
   have hm0 := hm
   refine zAI hs rfl (hm0.del .z) .z isAgg3 rfl ?_; clear hs; intro a w hs
   replace hs := hs.recell (v' := zI 1) (Option.some.inj (congrArg (fun z => some (Value.int .i64 z)) hk12))
   exact wpList_nil (K_ _ _ hs)
  ·
   intro a_ w_ R_ rest_ vs16 hm hs ht hx
   have hm0 := hm.mid
   have hs0 := hs.bare
   refine zBp (us := []) hs rfl (.c rfl (.c rfl .n)) rfl call118 (.c .z .n) (zJ4 _ _ (zAN r last) g1 r _ (hs.mem.del .z) (by omega) (hm0.del .z) hw) rfl ?_; clear hs; rintro v17 _ a w rfl hs
   exact wpList_nil ⟨rfl, _, _, hs0, (.c (.c .r)), hs, trivial⟩
  ·
   intro a_ w_ R_ rest_ vs16 hm hs ht hx
   have t6 := ht 6 (zL 9 _ (by kernel_rfl))
   have e6 : _ = some (vs16 6) := t6.val rfl
   replace hs := hs.learn e6
   have hs0 := hs.bare
   refine zJ1 hs rfl rfl ?_; clear hs; intro a w hs
   exact wpList_nil ⟨rfl, _, _, hs0, (.c .r), hs, rfl⟩
  clear hs w a; intro vs16 a w hs hf
  obtain ⟨e7, q7⟩ := hf 7 (by decide)
  replace e7 : _ = some (vs16 7) := e7.val rfl
  rw [show vs16 7 = (vs16 6) from q7] at e7
  replace hs := hs.learn e7; clear e7 q7
  generalize vs16 6 = v18 at hs
  clear hf
  revert a w hs
  refine goE 0 [] [4, 5] .n ?_
  have hre : zBG r last = 0 := by first | exact zBA (by omega) | exact zBC (by omega) (by omega) | exact zBB (by omega) (by omega) (by omega) | exact zBX (by omega) (by omega) (by omega)
  refine cl (·.drop (.c (.s .z) (.c .z .n))) ?_
  intro a w hs; replace hs := hs.rerow .z (m' := (zCg r last).length) (xs' := zF (zCg r last)) (by first | ((first | rw [zAZ hre (by omega)] | rw [zV hre (by omega)] | rw [zAL hre (by omega)]) <;> simp only [List.length_append]; done) | ((first | rw [zAZ hre (by omega)] | rw [zV hre (by omega), zA1 (by omega)] | rw [zV hre (by omega), zA3 (by omega)] | rw [zAL hre (by omega)]) <;> simp only [List.length_append, List.length_cons, List.length_nil, zBb, zCo] <;> omega)) (by first | ((first | rw [zAZ hre (by omega)] | rw [zV hre (by omega)] | rw [zAL hre (by omega)]) <;> rfl) | ((first | rw [zAZ hre (by omega)] | rw [zV hre (by omega), zA1 (by omega)] | rw [zV hre (by omega), zA3 (by omega)] | rw [zAL hre (by omega)]) <;> simp only [zBb, zCo, zF, List.map_append, List.map_cons, List.map_nil, List.append_assoc, List.cons_append, List.nil_append] <;> rfl))
  exact zCF hs rfl rfl rfl ⟨_, congrArg (fun z : Nat => Value.tuple #[v18, zI (z : Int)]) hre.symm, rfl⟩
 ·
  intro a w hs
  refine zAx [.v [] (.agg #[.func (.func 116) #[] #[], .func (.func 117) #[] #[], .func (.func 118) #[] #[], .func (.func 119) #[] #[], .func (.func 114) #[] #[], .func (.func 115) #[] #[], .func (.func 116) #[] #[], .func (.func 117) #[] #[]]), .p [] [], .v [1] (zI 2), .p [2, 0] [], .p [3] [], .p [] [], .x [5, 4] ⟨[row v11 5 1 ((zAN r last).length) (zF (zAN r last))], [], [], fun vs19 => True, fun vs19 => [row (vs19 6) 5 1 ((zAN r last).length) (zF (zAN r last))], none⟩, .x [] ⟨[], [], [6], fun vs19 => vs19 7 = (vs19 6), fun vs19 => [], none⟩, .p [] []] [8] hs .n (.c (.s (.s .z)) .n) .n (by kernel_rfl) ⟨fun _ _ _ _ hm hs K => zH (v := .agg #[.func (.func 116) #[] #[], .func (.func 117) #[] #[], .func (.func 118) #[] #[], .func (.func 119) #[] #[], .func (.func 114) #[] #[], .func (.func 115) #[] #[], .func (.func 116) #[] #[], .func (.func 117) #[] #[]]) hs .n call97 (zGL _) rfl (vk K), ?_, ⟨(.c .z .n), by kernel_rfl, fun _ => rfl, rfl, rfl⟩, ⟨?_, ?_, trivial⟩, ?_⟩
  ·
   intro a_ w_ R_ Q_ hm hs K_
   have hm0 := hm
   refine zAI hs rfl (hm0.del .z) .z isAgg3 rfl ?_; clear hs; intro a w hs
   replace hs := hs.recell (v' := zI 2) (Option.some.inj (congrArg (fun z => some (Value.int .i64 z)) hk12))
   exact wpList_nil (K_ _ _ hs)
  ·
   intro a_ w_ R_ rest_ vs19 hm hs ht hx
   have hs0 := hs.bare
   refine zBp (us := []) hs rfl (.c rfl (.c rfl .n)) rfl call114 (.c .z .n) (zOU _ _ (zAN r last) g1 _ (hs.mem.del .z)) rfl ?_; clear hs; rintro _ _ a w ⟨rfl, rfl⟩ hs
   exact wpList_nil ⟨rfl, _, _, hs0, (.c (.c .r)), hs, trivial⟩
  ·
   intro a_ w_ R_ rest_ vs19 hm hs ht hx
   have t6 := ht 6 (zL 9 _ (by kernel_rfl))
   have e6 : _ = some (vs19 6) := t6.val rfl
   replace hs := hs.learn e6
   have hs0 := hs.bare
   refine zJ1 hs rfl rfl ?_; clear hs; intro a w hs
   exact wpList_nil ⟨rfl, _, _, hs0, (.c .r), hs, rfl⟩
  clear hs w a; intro vs19 a w hs hf
  obtain ⟨e7, q7⟩ := hf 7 (by decide)
  replace e7 : _ = some (vs19 7) := e7.val rfl
  rw [show vs19 7 = (vs19 6) from q7] at e7
  replace hs := hs.learn e7; clear e7 q7
  generalize vs19 6 = v20 at hs
  clear hf
  revert a w hs
  refine goE 0 [] [4, 5] .n ?_
  have hre : zBG r last = 0 := by first | exact zBA (by omega) | exact zBC (by omega) (by omega) | exact zBB (by omega) (by omega) (by omega) | exact zBX (by omega) (by omega) (by omega)
  refine cl (·.drop (.c (.s .z) (.c .z .n))) ?_
  intro a w hs; replace hs := hs.rerow .z (m' := (zCg r last).length) (xs' := zF (zCg r last)) (by first | ((first | rw [zAZ hre (by omega)] | rw [zV hre (by omega)] | rw [zAL hre (by omega)]) <;> simp only [List.length_append]; done) | ((first | rw [zAZ hre (by omega)] | rw [zV hre (by omega), zA1 (by omega)] | rw [zV hre (by omega), zA3 (by omega)] | rw [zAL hre (by omega)]) <;> simp only [List.length_append, List.length_cons, List.length_nil, zBb, zCo] <;> omega)) (by first | ((first | rw [zAZ hre (by omega)] | rw [zV hre (by omega)] | rw [zAL hre (by omega)]) <;> rfl) | ((first | rw [zAZ hre (by omega)] | rw [zV hre (by omega), zA1 (by omega)] | rw [zV hre (by omega), zA3 (by omega)] | rw [zAL hre (by omega)]) <;> simp only [zBb, zCo, zF, List.map_append, List.map_cons, List.map_nil, List.append_assoc, List.cons_append, List.nil_append] <;> rfl))
  exact zCF hs rfl rfl rfl ⟨_, congrArg (fun z : Nat => Value.tuple #[v20, zI (z : Int)]) hre.symm, rfl⟩
 intro a w hs
 refine zAx [.v [] (.agg #[.func (.func 116) #[] #[], .func (.func 117) #[] #[], .func (.func 118) #[] #[], .func (.func 119) #[] #[], .func (.func 114) #[] #[], .func (.func 115) #[] #[], .func (.func 116) #[] #[], .func (.func 117) #[] #[]]), .p [] [], .v [1] (zI 3), .p [2, 0] [], .p [3] [], .p [] [], .x [5, 4] ⟨[row v11 5 1 ((zAN r last).length) (zF (zAN r last))], [], [], fun vs21 => True, fun vs21 => [row (vs21 6) 5 1 (((zAN r last).length) + (zBb r).length) (zF ((zAN r last) ++ zBb r))], none⟩, .x [] ⟨[], [], [6], fun vs21 => vs21 7 = (vs21 6), fun vs21 => [], none⟩, .p [] []] [8] hs .n (.c (.s (.s .z)) .n) .n (by kernel_rfl) ⟨fun _ _ _ _ hm hs K => zH (v := .agg #[.func (.func 116) #[] #[], .func (.func 117) #[] #[], .func (.func 118) #[] #[], .func (.func 119) #[] #[], .func (.func 114) #[] #[], .func (.func 115) #[] #[], .func (.func 116) #[] #[], .func (.func 117) #[] #[]]) hs .n call97 (zGL _) rfl (vk K), ?_, ⟨(.c .z .n), by kernel_rfl, fun _ => rfl, rfl, rfl⟩, ⟨?_, ?_, trivial⟩, ?_⟩
 ·
  intro a_ w_ R_ Q_ hm hs K_
  have hm0 := hm
  refine zAI hs rfl (hm0.del .z) .z isAgg3 rfl ?_; clear hs; intro a w hs
  replace hs := hs.recell (v' := zI 3) (Option.some.inj (congrArg (fun z => some (Value.int .i64 z)) hk12))
  exact wpList_nil (K_ _ _ hs)
 ·
  intro a_ w_ R_ rest_ vs21 hm hs ht hx
  have hm0 := hm.mid
  have hs0 := hs.bare
  refine zBp (us := []) hs rfl (.c rfl (.c rfl .n)) rfl call116 (.c .z .n) (zIP _ _ (zAN r last) g1 r _ (hs.mem.del .z) (by omega) (hm0.del .z) hw) rfl ?_; clear hs; rintro v22 _ a w rfl hs
  exact wpList_nil ⟨rfl, _, _, hs0, (.c (.c .r)), hs, trivial⟩
 ·
  intro a_ w_ R_ rest_ vs21 hm hs ht hx
  have t6 := ht 6 (zL 9 _ (by kernel_rfl))
  have e6 : _ = some (vs21 6) := t6.val rfl
  replace hs := hs.learn e6
  have hs0 := hs.bare
  refine zJ1 hs rfl rfl ?_; clear hs; intro a w hs
  exact wpList_nil ⟨rfl, _, _, hs0, (.c .r), hs, rfl⟩
 clear hs w a; intro vs21 a w hs hf
 obtain ⟨e7, q7⟩ := hf 7 (by decide)
 replace e7 : _ = some (vs21 7) := e7.val rfl
 rw [show vs21 7 = (vs21 6) from q7] at e7
 replace hs := hs.learn e7; clear e7 q7
 generalize vs21 6 = v23 at hs
 clear hf
 revert a w hs
 refine goE 0 [] [4, 5] .n ?_
 have hre : zBG r last = 0 := by first | exact zBA (by omega) | exact zBC (by omega) (by omega) | exact zBB (by omega) (by omega) (by omega) | exact zBX (by omega) (by omega) (by omega)
 refine cl (·.drop (.c (.s .z) (.c .z .n))) ?_
 intro a w hs; replace hs := hs.rerow .z (m' := (zCg r last).length) (xs' := zF (zCg r last)) (by first | ((first | rw [zAZ hre (by omega)] | rw [zV hre (by omega)] | rw [zAL hre (by omega)]) <;> simp only [List.length_append]; done) | ((first | rw [zAZ hre (by omega)] | rw [zV hre (by omega), zA1 (by omega)] | rw [zV hre (by omega), zA3 (by omega)] | rw [zAL hre (by omega)]) <;> simp only [List.length_append, List.length_cons, List.length_nil, zBb, zCo] <;> omega)) (by first | ((first | rw [zAZ hre (by omega)] | rw [zV hre (by omega)] | rw [zAL hre (by omega)]) <;> rfl) | ((first | rw [zAZ hre (by omega)] | rw [zV hre (by omega), zA1 (by omega)] | rw [zV hre (by omega), zA3 (by omega)] | rw [zAL hre (by omega)]) <;> simp only [zBb, zCo, zF, List.map_append, List.map_cons, List.map_nil, List.append_assoc, List.cons_append, List.nil_append] <;> rfl))
 exact zCF hs rfl rfl rfl ⟨_, congrArg (fun z : Nat => Value.tuple #[v23, zI (z : Int)]) hre.symm, rfl⟩
end Go.Proofs.YtbacobmcfelmkaaGreat
