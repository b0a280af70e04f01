/- Walks of the document's: what is others with an entity: what each function does, over the program of this seat. Printed by a program of this session. -/
import Derived.Test.YtbacobmcfelmkaaGreatQWrecm
import Derived.Test.YtbacobmcfelmkaaGreatQSxRecs
import Derived.Test.YtbacobmcfelmkaaGreatQSxBasB
namespace Go.Proofs.YtbacobmcfelmkaaGreat
open Tryz
open Go Go.Sx Go.RowKit
set_option linter.unusedVariables false
set_option linter.unusedSimpArgs false
set_option maxRecDepth 4000
set_option maxHeartbeats 1000000

theorem zKm (ea : zAU) (r : zAd) (w0 : World) : Calls Tryz.prog 69 #[.agg #[zI ea.id, zI ea.p0, zI ea.p1, zI ea.p2, zI ea.v0, zI ea.v1, zI ea.v2, .int .u16 (((ea.a).toNat : Nat) : Int), bI ea.g], .agg #[zI r.k, zI r.id, zI r.p0, zI r.p1, zI r.p2, zI r.v0, zI r.v1, zI r.v2, .int .u16 (((r.a).toNat : Nat) : Int)]] w0 (zCn w0 (.tuple #[.agg #[zI (((zG ea r).1).id), zI (((zG ea r).1).p0), zI (((zG ea r).1).p1), zI (((zG ea r).1).p2), zI (((zG ea r).1).v0), zI (((zG ea r).1).v1), zI (((zG ea r).1).v2), .int .u16 (((((zG ea r).1).a).toNat : Nat) : Int), bI (((zG ea r).1).g)], nI ((zG ea r).2)])) := by
 refine zT (F0 := [(0, .agg #[zI ea.id, zI ea.p0, zI ea.p1, zI ea.p2, zI ea.v0, zI ea.v1, zI ea.v2, .int .u16 (((ea.a).toNat : Nat) : Int), bI ea.g]), (1, .agg #[zI r.k, zI r.id, zI r.p0, zI r.p1, zI r.p2, zI r.v0, zI r.v1, zI r.v2, .int .u16 (((r.a).toNat : Nat) : Int)])]) func69 rfl rfl rfl (.c (.c .n)) (Mem.nil _) ?_
 refine go 5 [0, 0, 1] [8, 4, 3, 2] .n (fun g1 => fun g2 => fun g3 => ⟨rfl, ?_⟩)
 intro a w hs; refine zH (v := nI (zAk r)) hs (.c rfl .n) call94 (zOD r _) rfl ?_
 refine goL 3 [] [11, 6, 4, 3, 2] .n ?_
 refine ifG rfl (fun c_4 => ?_) (fun c_4 => ?_)
 ·
  refine go 4 [0] [5, 4] (.c .z .n) ⟨rfl, ?_⟩
  intro a w hs; exact zBV hs rfl rfl rfl .z (.z (.c (.c (.c (.c (.c (.c (.c (.c (.c .n)))))))))) isAgg72 sizeOf72 (.c .z (.c .z (.c .z .n))) (by first | (rw [zBM (by omega)]; exact ⟨rfl, rfl⟩) | (rw [zBa (by omega) (by omega)]; exact ⟨rfl, rfl⟩) | (rw [zA8 (by omega) (by omega) (by omega)]; exact ⟨rfl, rfl⟩) | (rw [zBD (by omega) (by omega) (by omega)]; exact ⟨rfl, rfl⟩))
 refine go 4 [0] [17, 4, 3, 2] (.c (.s .z) .n) ⟨rfl, ?_⟩
 intro a w hs; refine zAB (b := (r.k : Int) == 0) (fun c_5 => ?_) (fun c_5 => ?_)
 ·
  rw [c_5] at hs
  replace c_5 := eq_of_beq c_5
  revert a w hs
  refine go 15 [0] [5, 4] (.c (.s .z) .n) ⟨rfl, ?_⟩
  intro a w hs; exact zBV hs rfl rfl rfl .z (.z (.c (.c (.c (.c (.c (.c (.c (.c (.c .n)))))))))) isAgg72 sizeOf72 (.c .z (.c .z (.c .z .n))) (by first | (rw [zBM (by omega)]; exact ⟨rfl, rfl⟩) | (rw [zBa (by omega) (by omega)]; exact ⟨rfl, rfl⟩) | (rw [zA8 (by omega) (by omega) (by omega)]; exact ⟨rfl, rfl⟩) | (rw [zBD (by omega) (by omega) (by omega)]; exact ⟨rfl, rfl⟩))
 rw [c_5] at hs
 replace c_5 := zAK c_5
 revert a w hs
 refine go 5 [0] [22, 4, 3, 2] (.c .z .n) ⟨rfl, ?_⟩
 intro a w hs; refine zAB (b := (r.k : Int) == 2) (fun c_6 => ?_) (fun c_6 => ?_)
 ·
  rw [c_6] at hs
  replace c_6 := eq_of_beq c_6
  revert a w hs
  refine go 10 [0] [5, 4] (.c (.s .z) .n) ⟨rfl, ?_⟩
  intro a w hs; exact zBV hs rfl rfl rfl .z (.z (.c (.c (.c (.c (.c (.c (.c (.c (.c .n)))))))))) isAgg72 sizeOf72 (.c .z (.c .z (.c .z .n))) (by first | (rw [zBM (by omega)]; exact ⟨rfl, rfl⟩) | (rw [zBa (by omega) (by omega)]; exact ⟨rfl, rfl⟩) | (rw [zA8 (by omega) (by omega) (by omega)]; exact ⟨rfl, rfl⟩) | (rw [zBD (by omega) (by omega) (by omega)]; exact ⟨rfl, rfl⟩))
 rw [c_6] at hs
 replace c_6 := zAK c_6
 revert a w hs
 refine go 6 [0, 1] [28, 4, 3, 2] (.c .z (.c (.s .z) .n)) ⟨rfl, rfl, ?_⟩
 refine ifG rfl (fun c_7 => ?_) (fun c_7 => ?_)
 ·
  refine go 3 [0] [5, 4] (.c (.s (.s .z)) .n) ⟨rfl, ?_⟩
  intro a w hs; exact zBV hs rfl rfl rfl .z (.z (.c (.c (.c (.c (.c (.c (.c (.c (.c .n)))))))))) isAgg72 sizeOf72 (.c .z (.c .z (.c .z .n))) (by first | (rw [zBM (by omega)]; exact ⟨rfl, rfl⟩) | (rw [zBa (by omega) (by omega)]; exact ⟨rfl, rfl⟩) | (rw [zA8 (by omega) (by omega) (by omega)]; exact ⟨rfl, rfl⟩) | (rw [zBD (by omega) (by omega) (by omega)]; exact ⟨rfl, rfl⟩))
 refine go 3 [0] [32, 4, 3, 2] (.c .z .n) ⟨rfl, ?_⟩
 refine ifG rfl (fun c_8 => ?_) (fun c_8 => ?_)
 ·
  refine go 10 [0, 1, 1, 1, 0] [42, 40, 38, 36, 34, 4] (.c (.s .z) (.c .z .n)) ⟨rfl, rfl, rfl, rfl, rfl, ?_⟩
  intro a w hs; refine zGH (X := ea.g) (Y := 1#8) hs rfl rfl rfl (by decide) rfl ?_
  refine goL 3 [0] [5, 4] (.c (.s (.s .z)) .n) ⟨rfl, ?_⟩
  intro a w hs; exact zBV hs rfl rfl rfl .z (.z (.c (.c (.c (.c (.c (.c (.c (.c (.c .n)))))))))) isAgg72 sizeOf72 (.c .z (.c .z (.c .z .n))) (by first | (rw [zBM (by omega)]; exact ⟨rfl, rfl⟩) | (rw [zBa (by omega) (by omega)]; exact ⟨rfl, rfl⟩) | (rw [zA8 (by omega) (by omega) (by omega)]; exact ⟨rfl, rfl⟩) | (rw [zBD (by omega) (by omega) (by omega)]; exact ⟨rfl, rfl⟩))
 refine go 1 [] [7, 4, 3, 2] .n ?_
 intro a w hs; refine zEp 3 ?_
 revert a w hs
 refine go 3 [] [7, 4, 3, 2] .n ?_
 intro a w hs
 refine zS [.p [] [], .p [] [], .p [1, 0] [], .l [2] [0] [11] [], .p [] [], .p [] [], .p [5, 4] [], .p [6] [0], .v [7, 3] (zI (IntKind.i64.wrap (ea.p0 + r.p0))), .p [] [], .p [9, 0] [], .s [10, 8] [0] [0] []] [] hs (.c (.s .z) .n) (.c .z .n) (by kernel_rfl) ⟨rfl, rfl, fun _ _ _ _ hm hs K => zDw hs rfl rfl rfl (vk K), rfl, ⟨rfl, by kernel_rfl, fun _ => rfl, rfl, rfl, trivial⟩, fun _ => rfl, ?_⟩
 refine goE 0 [] [7, 4, 3, 2] .n ?_
 intro a w hs
 refine zS [.p [] [], .p [] [], .p [1, 0] [], .l [2] [0] [11] [], .p [] [], .p [] [], .p [5, 4] [], .p [6] [0], .v [7, 3] (zI (IntKind.i64.wrap (ea.v0 + r.v0))), .p [] [], .p [9, 0] [], .s [10, 8] [0] [0] []] [] hs (.c (.s (.s .z)) .n) (.c .z .n) (by kernel_rfl) ⟨rfl, rfl, fun _ _ _ _ hm hs K => zDw hs rfl rfl rfl (vk K), rfl, ⟨rfl, by kernel_rfl, fun _ => rfl, rfl, rfl, trivial⟩, fun _ => rfl, ?_⟩
 refine goE 3 [] [7, 4, 3, 2] .n ⟨by decide, ?_⟩
 intro a w hs; refine zBl ?_
 revert a w hs
 refine go 3 [] [7, 4, 3, 2] .n ?_
 intro a w hs
 refine zS [.p [] [], .p [] [], .p [1, 0] [], .l [2] [0] [11] [], .p [] [], .p [] [], .p [5, 4] [], .p [6] [0], .v [7, 3] (zI (IntKind.i64.wrap (ea.p1 + r.p1))), .p [] [], .p [9, 0] [], .s [10, 8] [0] [0] []] [] hs (.c (.s (.s .z)) .n) (.c .z .n) (by kernel_rfl) ⟨rfl, rfl, fun _ _ _ _ hm hs K => zDw hs rfl rfl rfl (vk K), rfl, ⟨rfl, by kernel_rfl, fun _ => rfl, rfl, rfl, trivial⟩, fun _ => rfl, ?_⟩
 refine goE 0 [] [7, 4, 3, 2] .n ?_
 intro a w hs
 refine zS [.p [] [], .p [] [], .p [1, 0] [], .l [2] [0] [11] [], .p [] [], .p [] [], .p [5, 4] [], .p [6] [0], .v [7, 3] (zI (IntKind.i64.wrap (ea.v1 + r.v1))), .p [] [], .p [9, 0] [], .s [10, 8] [0] [0] []] [] hs (.c (.s (.s .z)) .n) (.c .z .n) (by kernel_rfl) ⟨rfl, rfl, fun _ _ _ _ hm hs K => zDw hs rfl rfl rfl (vk K), rfl, ⟨rfl, by kernel_rfl, fun _ => rfl, rfl, rfl, trivial⟩, fun _ => rfl, ?_⟩
 refine goE 3 [] [7, 4, 3, 2] .n ⟨by decide, ?_⟩
 intro a w hs; refine zBl ?_
 revert a w hs
 refine go 3 [] [7, 4, 3, 2] .n ?_
 intro a w hs
 refine zS [.p [] [], .p [] [], .p [1, 0] [], .l [2] [0] [11] [], .p [] [], .p [] [], .p [5, 4] [], .p [6] [0], .v [7, 3] (zI (IntKind.i64.wrap (ea.p2 + r.p2))), .p [] [], .p [9, 0] [], .s [10, 8] [0] [0] []] [] hs (.c (.s (.s .z)) .n) (.c .z .n) (by kernel_rfl) ⟨rfl, rfl, fun _ _ _ _ hm hs K => zDw hs rfl rfl rfl (vk K), rfl, ⟨rfl, by kernel_rfl, fun _ => rfl, rfl, rfl, trivial⟩, fun _ => rfl, ?_⟩
 refine goE 0 [] [7, 4, 3, 2] .n ?_
 intro a w hs
 refine zS [.p [] [], .p [] [], .p [1, 0] [], .l [2] [0] [11] [], .p [] [], .p [] [], .p [5, 4] [], .p [6] [0], .v [7, 3] (zI (IntKind.i64.wrap (ea.v2 + r.v2))), .p [] [], .p [9, 0] [], .s [10, 8] [0] [0] []] [] hs (.c (.s (.s .z)) .n) (.c .z .n) (by kernel_rfl) ⟨rfl, rfl, fun _ _ _ _ hm hs K => zDw hs rfl rfl rfl (vk K), rfl, ⟨rfl, by kernel_rfl, fun _ => rfl, rfl, rfl, trivial⟩, fun _ => rfl, ?_⟩
 refine goE 3 [] [7, 4, 3, 2] .n ⟨by decide, ?_⟩
 intro a w hs; refine zBl ?_
 revert a w hs
 refine go 7 [0, 1] [74, 72, 4, 2] (.c (.s (.s .z)) (.c .z .n)) ⟨rfl, rfl, ?_⟩
 intro a w hs; refine zIh (X := ea.a) (Y := r.a) hs rfl rfl rfl rfl rfl ?_
 refine goL 5 [0, 0, 1] [5, 4] (.c .z (.c (.s .z) .n)) ⟨rfl, rfl, rfl, ?_⟩
 intro a w hs; exact zBV hs rfl rfl rfl (.s .z) (.z (.c (.c (.c (.c (.c (.c (.c (.c (.c .n)))))))))) isAgg72 sizeOf72 (.c .z (.c .z (.c .z .n))) (by first | (rw [zBM (by omega)]; exact ⟨rfl, rfl⟩) | (rw [zBa (by omega) (by omega)]; exact ⟨rfl, rfl⟩) | (rw [zA8 (by omega) (by omega) (by omega)]; exact ⟨rfl, rfl⟩) | (rw [zBD (by omega) (by omega) (by omega)]; exact ⟨rfl, rfl⟩))
end Go.Proofs.YtbacobmcfelmkaaGreat
