/- Walks of stores: what each function does, over the program of this seat. Printed by a program of this session. -/
import Derived.Test.YtbacobmcfelmkaaGreatQWring
import Derived.Test.YtbacobmcfelmkaaGreatQSxStos
import Derived.Test.YtbacobmcfelmkaaGreatQSxBasB
namespace Go.Proofs.YtbacobmcfelmkaaGreat
open Tryz
open Go Go.Sx Go.RowKit
set_option linter.unusedVariables false
set_option linter.unusedSimpArgs false
set_option maxRecDepth 4000
set_option maxHeartbeats 1000000

theorem zOW (t tm : Int) (v : Value) (l : List zAU) (w0 : World) (hc : Rd w0 [] v 9 l.length (l.flatMap zBQ)) (hl : l.length ≤ 100000) : Calls Tryz.prog 21 #[.agg #[zI t, zI tm, v]] w0 (Ret w0 [] fun u N => ∃ v', u = .agg #[.int .i64 t, .int .i64 tm, v'] ∧ N = [row v' 72 9 l.length (l.flatMap zBQ)]) := by
 refine zT (F0 := [(0, .agg #[zI t, zI tm, v])]) func21 rfl rfl rfl (.c .n) (Mem.nil _) ?_
 refine go 2 [0] [2, 1] .n (fun g1 => fun g2 => ?_)
 intro a w hs; refine zIi hs underlying43 rfl ?_ ⟨_, sizeOf72⟩; intro g3
 refine goL 2 [0] [5, 3, 2, 1] (.c (.s (.s .z)) .n) ⟨rfl, ?_⟩
 refine cl (·.toRow (size := 9) (m := 0) (.s .z) rfl (by decide)) ?_
 intro a w hs; refine zAj (size := 9) (bytes := 64) hs rfl rfl .z (hs.rd0 hc) (zQR _) underlying43 (i := Tryz.t72) rfl rfl rfl rfl rfl (by decide) (by omega) (by simp only [maxLen]; omega) rfl ?_; intro v4
 refine cl (·.rerow .z (m' := l.length) (xs' := (l.flatMap zBQ)) (by omega) (by simp)) ?_
 refine goL 1 [] [7, 6, 2, 1] .n ?_
 intro a w hs; refine zB4 hs rfl rfl (.s .z) (.s (.s .z)) (zM (hs.mem.del .z)).isSl.one sizeOf43 ?_
 refine goL 1 [0] [8, 2] (.c .z .n) ⟨rfl, ?_⟩
 intro a w hs; refine zA4 hs rfl rfl (.s (.s .z)) (.z (.c (.c (.c .n)))) (zN rfl (zN rfl (zN (zM (hs.mem.del (.s .z))).isSl.one zBS))) sizeOf45 rfl ?_
 refine goL 0 [] [2] .n ?_
 intro a w hs; exact zUZ hs rfl rfl .z (.z (.c (.c (.c .n)))) isAgg45 sizeOf45 (.c (.s .z) (.c .z .n)) ⟨_, rfl, rfl⟩
theorem zEc (b : Bool) (why e ge : Nat) (te : Nat) (w0 : World) (hb : (blk ge [nI e] te).p w0) : Calls Tryz.prog 28 #[.bool b, nI why, pt ge 0] w0 (Ret w0 [ge] fun u N => u = .tuple #[] ∧ N = [blk ge [nI (zFY e b why)] te]) := by
 refine zT (F0 := [(0, .bool (b)), (1, nI why), (2, pt ge 0)]) func28 rfl rfl rfl (.c (.c (.c .n))) (zBd hb) ?_
 refine go 3 [0] [7, 0, 1, 2] (.c .z .n) ⟨rfl, ?_⟩
 intro a w hs; refine zAB (b := (((e : Nat) : Int) : Int) == 0) (fun c_1 => ?_) (fun c_1 => ?_)
 ·
  rw [c_1] at hs
  replace c_1 := eq_of_beq c_1
  revert a w hs
  refine go 2 [] [9, 1, 2] .n ?_
  refine ifG rfl (fun c_2 => ?_) (fun c_2 => ?_)
  ·
   refine go 2 [0] [] (.c .z .n) ⟨rfl, ?_⟩
   intro a w hs; exact zHE hs rfl ⟨rfl, by first | (rw [zGG (by omega) (by assumption)] <;> rfl) | (rw [zEV (by omega)] <;> rfl) | (rw [zEq (by assumption)] <;> rfl)⟩
  refine go 0 [] [] .n ?_
  intro a w hs; exact zHE hs rfl ⟨rfl, by first | (rw [zGG (by omega) (by assumption)] <;> rfl) | (rw [zEV (by omega)] <;> rfl) | (rw [zEq (by assumption)] <;> rfl)⟩
 rw [c_1] at hs
 replace c_1 := zAK c_1
 revert a w hs
 refine go 3 [] [] .n ?_
 intro a w hs; exact zHE hs rfl ⟨rfl, by first | (rw [zGG (by omega) (by assumption)] <;> rfl) | (rw [zEV (by omega)] <;> rfl) | (rw [zEq (by assumption)] <;> rfl)⟩
theorem zRA (p g : Nat) (u : Value) (l : List RI) (most : Nat) (fl : Int) (gone : Bool) (N : Nat → Nat) (k : Int) (w0 : World) (hp : (blk p [pt g 0, nI most, nI (N 0), nI (N 1), nI (N 2), nI (N 3), nI (N 4), nI (N 5), nI (N 6), nI (N 7), nI (N 8), nI (N 9), nI (N 10), nI (N 11), nI (N 12), nI (N 13), nI (N 14), nI (N 15), nI (N 16), nI (N 17)] 56).p w0) (hg : (blk g [u, nI most, zI fl, .bool (gone)] 75).p w0) (hu : Rd w0 [] u 4 l.length (l.flatMap riV)) (hrw : (rws 72 l).p w0) (ho : Oks (sns l) most) : Calls Tryz.prog 29 #[pt p 0, .int .i64 k] w0 (zCn w0 (.bool (stl (sns l) most fl gone k))) := by
 have hiv := zEA hrw
 have hsr := ho.srt
 have hll : l.length ≤ 100000 := by have := ho.le; have := ho.m64; rw [zAJ] at *; omega
 have hm64 := ho.m64
 refine zT (F0 := [(0, pt p 0), (1, zI k)]) func29 rfl rfl rfl (.c (.c .n)) (Mem.nil _) ?_
 refine go 4 [] [10, 0, 1] .n ?_
 intro a w hs; refine zAI hs rfl (hs.mem.keep hp (by simp [zX, blk])) .z isAgg52 rfl ?_
 intro a w hs; refine zH (v := .tuple #[zI fl, .bool (gone)]) hs (.c rfl .n) call46 (zOR g _ l most fl gone _ (hs.mem.keep hg (by simp [zX, blk]))) rfl ?_
 refine goL 5 [] [6, 5, 0, 1] .n ?_
 by_cases cg : gone = true
 ·
  intro a w hs; rw [cg] at hs
  by_cases ck : k ≤ fl
  ·
   refine zS [.p [] [], .p [0] [], .p [1] [], .p [1] [], .v [3, 2, 1] (.bool (true)), .p [4, 1] [], .p [5] [], .p [6] [], .p [7, 6] [], .p [8, 6] [], .p [9, 6] [], .p [10, 6] [], .p [6] [], .p [12, 6] [], .p [13, 6] [], .p [14, 6] [], .v [15, 11, 6] undef, .p [16, 6] [], .p [17] [], .p [18, 17] [], .p [19, 17] [], .p [20, 17] [], .p [17] [], .p [22, 21, 17] [], .v [23, 17] undef, .p [24, 17, 6] [], .p [25, 6] [], .p [26] []] [27] hs .n .n (by kernel_rfl) ⟨fun _ _ _ _ hm hs K => zC hs rfl rfl rfl (zD0 hs rfl rfl rfl (fun a w hs => wpList_nil (K _ _ (by rw [show (decide (k ≤ fl)) = true from decide_eq_true ck] at hs; exact hs)))), fun _ _ _ _ hm hs K => zAz hs rfl rfl rfl rfl rfl (vk K), fun _ _ _ _ hm hs K => zHi hs rfl rfl rfl rfl (vk K), ⟨rfl, by kernel_rfl, fun _ => rfl, rfl, rfl, trivial⟩, fun _ => rfl, ?_⟩
   refine goE 0 [] [4] .n ?_
   intro a w hs; exact fin hs rfl rfl ⟨congrArg Value.bool (by unfold stl; rw [zAJ]; simp_all), rfl⟩
  by_cases cl : l.length = most
  ·
   by_cases cu : zAO (sns l) k = 0
   ·
    refine zS [.p [] [], .p [0] [], .p [1] [], .p [1] [], .v [3, 2, 1] (.bool (false)), .p [4, 1] [], .p [5] [], .p [6] [], .p [7, 6] [], .p [8, 6] [], .v [9, 6] (pt g 0), .v [10, 6] (nI l.length), .p [6] [], .p [12, 6] [], .p [13, 6] [], .v [14, 6] (nI most), .v [15, 11, 6] (.bool (true)), .p [16, 6] [], .p [17] [], .p [18, 17] [], .p [19, 17] [], .v [20, 17] (pt g 0), .p [17] [], .v [22, 21, 17] (nI (zAO (sns l) k)), .v [23, 17] (.bool (true)), .p [24, 17, 6] [], .p [25, 6] [], .p [26] []] [27] hs .n .n (by kernel_rfl) ⟨fun _ _ _ _ hm hs K => zC hs rfl rfl rfl (zD0 hs rfl rfl rfl (fun a w hs => wpList_nil (K _ _ (by rw [show (decide (k ≤ fl)) = false from decide_eq_false ck] at hs; exact hs)))), fun _ _ _ _ hm hs K => zC hs rfl rfl rfl (zAI hs rfl (hm.keep hp (by simp [zX, blk])) .z isAgg52 rfl (vk K)), fun _ _ _ _ hm hs K => zC hs rfl rfl rfl (zH (v := nI l.length) hs (.c rfl .n) call23 (zCv g _ l most fl gone _ (hm.rd0 hu) (hm.keep hg (by simp [zX, blk])) hsr (by omega) hiv) rfl (vk K)), fun _ _ _ _ hm hs K => zC hs rfl rfl rfl (zAI hs rfl (hm.keep hp (by simp [zX, blk])) (.s .z) isAgg3 rfl (vk K)), fun _ _ _ _ hm hs K => zC hs rfl rfl rfl (zCB hs rfl rfl rfl (fun a w hs => wpList_nil (K _ _ (by rw [show ((((l.length : Nat) : Int) : Int) == ((most : Nat) : Int)) = true from by rw [beq_iff_eq]; omega] at hs; exact hs)))), fun _ _ _ _ hm hs K => zC hs rfl rfl rfl (zAI hs rfl (hm.keep hp (by simp [zX, blk])) .z isAgg52 rfl (vk K)), fun _ _ _ _ hm hs K => zC hs rfl rfl rfl (zH (v := nI (zAO (sns l) k)) hs (.c rfl (.c rfl .n)) call47 (zEh g _ l most fl gone k _ (hm.rd0 hu) (hm.keep hg (by simp [zX, blk])) hsr (by omega) hiv) rfl (vk K)), fun _ _ _ _ hm hs K => zC hs rfl rfl rfl (zCB hs rfl rfl rfl (fun a w hs => wpList_nil (K _ _ (by rw [show ((((zAO (sns l) k : Nat) : Int) : Int) == 0) = true from by rw [beq_iff_eq]; omega] at hs; exact hs)))), ⟨rfl, by kernel_rfl, fun _ => rfl, rfl, rfl, trivial⟩, fun _ => rfl, ?_⟩
    refine goE 0 [] [4] .n ?_
    intro a w hs; exact fin hs rfl rfl ⟨congrArg Value.bool (by unfold stl; rw [zAJ]; simp_all), rfl⟩
   refine zS [.p [] [], .p [0] [], .p [1] [], .p [1] [], .v [3, 2, 1] (.bool (false)), .p [4, 1] [], .p [5] [], .p [6] [], .p [7, 6] [], .p [8, 6] [], .v [9, 6] (pt g 0), .v [10, 6] (nI l.length), .p [6] [], .p [12, 6] [], .p [13, 6] [], .v [14, 6] (nI most), .v [15, 11, 6] (.bool (true)), .p [16, 6] [], .p [17] [], .p [18, 17] [], .p [19, 17] [], .v [20, 17] (pt g 0), .p [17] [], .v [22, 21, 17] (nI (zAO (sns l) k)), .v [23, 17] (.bool (false)), .p [24, 17, 6] [], .p [25, 6] [], .p [26] []] [27] hs .n .n (by kernel_rfl) ⟨fun _ _ _ _ hm hs K => zC hs rfl rfl rfl (zD0 hs rfl rfl rfl (fun a w hs => wpList_nil (K _ _ (by rw [show (decide (k ≤ fl)) = false from decide_eq_false ck] at hs; exact hs)))), fun _ _ _ _ hm hs K => zC hs rfl rfl rfl (zAI hs rfl (hm.keep hp (by simp [zX, blk])) .z isAgg52 rfl (vk K)), fun _ _ _ _ hm hs K => zC hs rfl rfl rfl (zH (v := nI l.length) hs (.c rfl .n) call23 (zCv g _ l most fl gone _ (hm.rd0 hu) (hm.keep hg (by simp [zX, blk])) hsr (by omega) hiv) rfl (vk K)), fun _ _ _ _ hm hs K => zC hs rfl rfl rfl (zAI hs rfl (hm.keep hp (by simp [zX, blk])) (.s .z) isAgg3 rfl (vk K)), fun _ _ _ _ hm hs K => zC hs rfl rfl rfl (zCB hs rfl rfl rfl (fun a w hs => wpList_nil (K _ _ (by rw [show ((((l.length : Nat) : Int) : Int) == ((most : Nat) : Int)) = true from by rw [beq_iff_eq]; omega] at hs; exact hs)))), fun _ _ _ _ hm hs K => zC hs rfl rfl rfl (zAI hs rfl (hm.keep hp (by simp [zX, blk])) .z isAgg52 rfl (vk K)), fun _ _ _ _ hm hs K => zC hs rfl rfl rfl (zH (v := nI (zAO (sns l) k)) hs (.c rfl (.c rfl .n)) call47 (zEh g _ l most fl gone k _ (hm.rd0 hu) (hm.keep hg (by simp [zX, blk])) hsr (by omega) hiv) rfl (vk K)), fun _ _ _ _ hm hs K => zC hs rfl rfl rfl (zCB hs rfl rfl rfl (fun a w hs => wpList_nil (K _ _ (by rw [show ((((zAO (sns l) k : Nat) : Int) : Int) == 0) = false from by rw [beq_eq_false_iff_ne]; omega] at hs; exact hs)))), ⟨rfl, by kernel_rfl, fun _ => rfl, rfl, rfl, trivial⟩, fun _ => rfl, ?_⟩
   refine goE 0 [] [4] .n ?_
   intro a w hs; exact fin hs rfl rfl ⟨congrArg Value.bool (by unfold stl; rw [zAJ]; simp_all), rfl⟩
  refine zS [.p [] [], .p [0] [], .p [1] [], .p [1] [], .v [3, 2, 1] (.bool (false)), .p [4, 1] [], .p [5] [], .p [6] [], .p [7, 6] [], .p [8, 6] [], .v [9, 6] (pt g 0), .v [10, 6] (nI l.length), .p [6] [], .p [12, 6] [], .p [13, 6] [], .v [14, 6] (nI most), .v [15, 11, 6] (.bool (false)), .p [16, 6] [], .p [17] [], .p [18, 17] [], .p [19, 17] [], .p [20, 17] [], .p [17] [], .p [22, 21, 17] [], .v [23, 17] undef, .p [24, 17, 6] [], .p [25, 6] [], .p [26] []] [27] hs .n .n (by kernel_rfl) ⟨fun _ _ _ _ hm hs K => zC hs rfl rfl rfl (zD0 hs rfl rfl rfl (fun a w hs => wpList_nil (K _ _ (by rw [show (decide (k ≤ fl)) = false from decide_eq_false ck] at hs; exact hs)))), fun _ _ _ _ hm hs K => zC hs rfl rfl rfl (zAI hs rfl (hm.keep hp (by simp [zX, blk])) .z isAgg52 rfl (vk K)), fun _ _ _ _ hm hs K => zC hs rfl rfl rfl (zH (v := nI l.length) hs (.c rfl .n) call23 (zCv g _ l most fl gone _ (hm.rd0 hu) (hm.keep hg (by simp [zX, blk])) hsr (by omega) hiv) rfl (vk K)), fun _ _ _ _ hm hs K => zC hs rfl rfl rfl (zAI hs rfl (hm.keep hp (by simp [zX, blk])) (.s .z) isAgg3 rfl (vk K)), fun _ _ _ _ hm hs K => zC hs rfl rfl rfl (zCB hs rfl rfl rfl (fun a w hs => wpList_nil (K _ _ (by rw [show ((((l.length : Nat) : Int) : Int) == ((most : Nat) : Int)) = false from by rw [beq_eq_false_iff_ne]; omega] at hs; exact hs)))), fun _ _ _ _ hm hs K => zAz hs rfl rfl rfl rfl rfl (vk K), ⟨rfl, by kernel_rfl, fun _ => rfl, rfl, rfl, trivial⟩, fun _ => rfl, ?_⟩
  refine goE 0 [] [4] .n ?_
  intro a w hs; exact fin hs rfl rfl ⟨congrArg Value.bool (by unfold stl; rw [zAJ]; simp_all), rfl⟩
 intro a w hs; replace cg := Bool.eq_false_iff.2 cg; rw [cg] at hs
 by_cases cl : l.length = most
 ·
  by_cases cu : zAO (sns l) k = 0
  ·
   refine zS [.p [] [], .p [0] [], .p [1] [], .p [1] [], .v [3, 2, 1] undef, .p [4, 1] [], .p [5] [], .p [6] [], .p [7, 6] [], .p [8, 6] [], .v [9, 6] (pt g 0), .v [10, 6] (nI l.length), .p [6] [], .p [12, 6] [], .p [13, 6] [], .v [14, 6] (nI most), .v [15, 11, 6] (.bool (true)), .p [16, 6] [], .p [17] [], .p [18, 17] [], .p [19, 17] [], .v [20, 17] (pt g 0), .p [17] [], .v [22, 21, 17] (nI (zAO (sns l) k)), .v [23, 17] (.bool (true)), .p [24, 17, 6] [], .p [25, 6] [], .p [26] []] [27] hs .n .n (by kernel_rfl) ⟨fun _ _ _ _ hm hs K => zAz hs rfl rfl rfl rfl rfl (vk K), fun _ _ _ _ hm hs K => zC hs rfl rfl rfl (zAI hs rfl (hm.keep hp (by simp [zX, blk])) .z isAgg52 rfl (vk K)), fun _ _ _ _ hm hs K => zC hs rfl rfl rfl (zH (v := nI l.length) hs (.c rfl .n) call23 (zCv g _ l most fl gone _ (hm.rd0 hu) (hm.keep hg (by simp [zX, blk])) hsr (by omega) hiv) rfl (vk K)), fun _ _ _ _ hm hs K => zC hs rfl rfl rfl (zAI hs rfl (hm.keep hp (by simp [zX, blk])) (.s .z) isAgg3 rfl (vk K)), fun _ _ _ _ hm hs K => zC hs rfl rfl rfl (zCB hs rfl rfl rfl (fun a w hs => wpList_nil (K _ _ (by rw [show ((((l.length : Nat) : Int) : Int) == ((most : Nat) : Int)) = true from by rw [beq_iff_eq]; omega] at hs; exact hs)))), fun _ _ _ _ hm hs K => zC hs rfl rfl rfl (zAI hs rfl (hm.keep hp (by simp [zX, blk])) .z isAgg52 rfl (vk K)), fun _ _ _ _ hm hs K => zC hs rfl rfl rfl (zH (v := nI (zAO (sns l) k)) hs (.c rfl (.c rfl .n)) call47 (zEh g _ l most fl gone k _ (hm.rd0 hu) (hm.keep hg (by simp [zX, blk])) hsr (by omega) hiv) rfl (vk K)), fun _ _ _ _ hm hs K => zC hs rfl rfl rfl (zCB hs rfl rfl rfl (fun a w hs => wpList_nil (K _ _ (by rw [show ((((zAO (sns l) k : Nat) : Int) : Int) == 0) = true from by rw [beq_iff_eq]; omega] at hs; exact hs)))), ⟨rfl, by kernel_rfl, fun _ => rfl, rfl, rfl, trivial⟩, fun _ => rfl, ?_⟩
   refine goE 0 [] [4] .n ?_
   intro a w hs; exact fin hs rfl rfl ⟨congrArg Value.bool (by unfold stl; rw [zAJ]; simp_all), rfl⟩
  refine zS [.p [] [], .p [0] [], .p [1] [], .p [1] [], .v [3, 2, 1] undef, .p [4, 1] [], .p [5] [], .p [6] [], .p [7, 6] [], .p [8, 6] [], .v [9, 6] (pt g 0), .v [10, 6] (nI l.length), .p [6] [], .p [12, 6] [], .p [13, 6] [], .v [14, 6] (nI most), .v [15, 11, 6] (.bool (true)), .p [16, 6] [], .p [17] [], .p [18, 17] [], .p [19, 17] [], .v [20, 17] (pt g 0), .p [17] [], .v [22, 21, 17] (nI (zAO (sns l) k)), .v [23, 17] (.bool (false)), .p [24, 17, 6] [], .p [25, 6] [], .p [26] []] [27] hs .n .n (by kernel_rfl) ⟨fun _ _ _ _ hm hs K => zAz hs rfl rfl rfl rfl rfl (vk K), fun _ _ _ _ hm hs K => zC hs rfl rfl rfl (zAI hs rfl (hm.keep hp (by simp [zX, blk])) .z isAgg52 rfl (vk K)), fun _ _ _ _ hm hs K => zC hs rfl rfl rfl (zH (v := nI l.length) hs (.c rfl .n) call23 (zCv g _ l most fl gone _ (hm.rd0 hu) (hm.keep hg (by simp [zX, blk])) hsr (by omega) hiv) rfl (vk K)), fun _ _ _ _ hm hs K => zC hs rfl rfl rfl (zAI hs rfl (hm.keep hp (by simp [zX, blk])) (.s .z) isAgg3 rfl (vk K)), fun _ _ _ _ hm hs K => zC hs rfl rfl rfl (zCB hs rfl rfl rfl (fun a w hs => wpList_nil (K _ _ (by rw [show ((((l.length : Nat) : Int) : Int) == ((most : Nat) : Int)) = true from by rw [beq_iff_eq]; omega] at hs; exact hs)))), fun _ _ _ _ hm hs K => zC hs rfl rfl rfl (zAI hs rfl (hm.keep hp (by simp [zX, blk])) .z isAgg52 rfl (vk K)), fun _ _ _ _ hm hs K => zC hs rfl rfl rfl (zH (v := nI (zAO (sns l) k)) hs (.c rfl (.c rfl .n)) call47 (zEh g _ l most fl gone k _ (hm.rd0 hu) (hm.keep hg (by simp [zX, blk])) hsr (by omega) hiv) rfl (vk K)), fun _ _ _ _ hm hs K => zC hs rfl rfl rfl (zCB hs rfl rfl rfl (fun a w hs => wpList_nil (K _ _ (by rw [show ((((zAO (sns l) k : Nat) : Int) : Int) == 0) = false from by rw [beq_eq_false_iff_ne]; omega] at hs; exact hs)))), ⟨rfl, by kernel_rfl, fun _ => rfl, rfl, rfl, trivial⟩, fun _ => rfl, ?_⟩
  refine goE 0 [] [4] .n ?_
  intro a w hs; exact fin hs rfl rfl ⟨congrArg Value.bool (by unfold stl; rw [zAJ]; simp_all), rfl⟩
 refine zS [.p [] [], .p [0] [], .p [1] [], .p [1] [], .v [3, 2, 1] undef, .p [4, 1] [], .p [5] [], .p [6] [], .p [7, 6] [], .p [8, 6] [], .v [9, 6] (pt g 0), .v [10, 6] (nI l.length), .p [6] [], .p [12, 6] [], .p [13, 6] [], .v [14, 6] (nI most), .v [15, 11, 6] (.bool (false)), .p [16, 6] [], .p [17] [], .p [18, 17] [], .p [19, 17] [], .p [20, 17] [], .p [17] [], .p [22, 21, 17] [], .v [23, 17] undef, .p [24, 17, 6] [], .p [25, 6] [], .p [26] []] [27] hs .n .n (by kernel_rfl) ⟨fun _ _ _ _ hm hs K => zAz hs rfl rfl rfl rfl rfl (vk K), fun _ _ _ _ hm hs K => zC hs rfl rfl rfl (zAI hs rfl (hm.keep hp (by simp [zX, blk])) .z isAgg52 rfl (vk K)), fun _ _ _ _ hm hs K => zC hs rfl rfl rfl (zH (v := nI l.length) hs (.c rfl .n) call23 (zCv g _ l most fl gone _ (hm.rd0 hu) (hm.keep hg (by simp [zX, blk])) hsr (by omega) hiv) rfl (vk K)), fun _ _ _ _ hm hs K => zC hs rfl rfl rfl (zAI hs rfl (hm.keep hp (by simp [zX, blk])) (.s .z) isAgg3 rfl (vk K)), fun _ _ _ _ hm hs K => zC hs rfl rfl rfl (zCB hs rfl rfl rfl (fun a w hs => wpList_nil (K _ _ (by rw [show ((((l.length : Nat) : Int) : Int) == ((most : Nat) : Int)) = false from by rw [beq_eq_false_iff_ne]; omega] at hs; exact hs)))), fun _ _ _ _ hm hs K => zAz hs rfl rfl rfl rfl rfl (vk K), ⟨rfl, by kernel_rfl, fun _ => rfl, rfl, rfl, trivial⟩, fun _ => rfl, ?_⟩
 refine goE 0 [] [4] .n ?_
 intro a w hs; exact fin hs rfl rfl ⟨congrArg Value.bool (by unfold stl; rw [zAJ]; simp_all), rfl⟩
theorem zEz (p g : Nat) (u : Value) (l : List RI) (most : Nat) (fl : Int) (gone : Bool) (N : Nat → Nat) (t tm : Int) (v : Value) (mv : Nat) (hv : zFu v mv) (w0 : World) (hp : (blk p [pt g 0, nI most, nI (N 0), nI (N 1), nI (N 2), nI (N 3), nI (N 4), nI (N 5), nI (N 6), nI (N 7), nI (N 8), nI (N 9), nI (N 10), nI (N 11), nI (N 12), nI (N 13), nI (N 14), nI (N 15), nI (N 16), nI (N 17)] 56).p w0) (hg : (blk g [u, nI most, zI fl, .bool (gone)] 75).p w0) (hu : Rd w0 [] u 4 l.length (l.flatMap riV)) (hrw : (rws 72 l).p w0) (ho : Oks (sns l) most) : Calls Tryz.prog 31 #[pt p 0, .agg #[zI t, zI tm, v]] w0 (zCn w0 (.bool (tml (sns l) t tm))) := by
 have hiv := zEA hrw
 have hsr := ho.srt
 have hll : l.length ≤ 100000 := by have := ho.le; have := ho.m64; rw [zAJ] at *; omega
 have hm64 := ho.m64
 have hku := zPl hsr (k := t)
 rw [zAJ] at hku
 refine zT (F0 := [(0, pt p 0), (1, .agg #[zI t, zI tm, v])]) func31 rfl rfl rfl (.c (.c .n)) (Mem.nil _) ?_
 refine go 2 [0] [3, 0] .n (fun g1 => ?_)
 intro a w hs
 refine zS [.p [] [], .p [0] [], .p [1] [], .v [2] (pt g 0), .p [] [], .p [4] [0], .v [5, 3] (nI (zAO (sns l) t)), .p [6] []] [7] hs .n (.c .z .n) (by kernel_rfl) ⟨fun _ _ _ _ hm hs K => zAI hs rfl (hm.keep hp (by simp [zX, blk])) .z isAgg52 rfl (vk K), rfl, fun _ _ _ _ hm hs K => zH (v := nI (zAO (sns l) t)) hs (.c rfl (.c rfl .n)) call47 (zEh g _ l most fl gone t _ (hm.rd0 hu) (hm.keep hg (by simp [zX, blk])) hsr (by omega) hiv) rfl (vk K), ⟨rfl, by kernel_rfl, fun _ => rfl, rfl, rfl, trivial⟩, fun _ => rfl, ?_⟩
 refine goE 3 [] [22, 5, 3, 0] .n ?_
 intro a w hs; refine zAI hs rfl (hs.mem.keep hp (by simp [zX, blk])) .z isAgg52 rfl ?_
 refine goL 2 [] [25, 23, 5, 3, 0] .n ⟨(by omega), ?_⟩
 intro a w hs; refine zH (v := .tuple #[zI ((rat l (((zAO (sns l) t : Nat) : Int) - 1)).t), .agg #[zI ((rat l (((zAO (sns l) t : Nat) : Int) - 1)).t), zI ((rat l (((zAO (sns l) t : Nat) : Int) - 1)).tm), (rat l (((zAO (sns l) t : Nat) : Int) - 1)).v], nI (zH5 (sns l) (((zAO (sns l) t : Nat) : Int) - 1))]) hs (.c rfl (.c rfl .n)) call24 (zIG g _ l most fl gone (((zAO (sns l) t : Nat) : Int) - 1) _ (hs.rd0 hu) (hs.mem.keep hg (by simp [zX, blk])) hsr (by omega) hiv) rfl ?_
 refine goL 6 [] [7, 29, 28, 5, 3, 0] .n (fun g3 => ?_)
 intro a w hs; refine zA4 hs rfl rfl .z (.z (.c (.c (.c .n)))) (zN rfl (zN rfl (zN (zDP (hs.mem.keepH hrw (by simp)) (zJS l (((zAO (sns l) t : Nat) : Int) - 1))).isSl.one zBS))) sizeOf45 rfl ?_
 refine goL 4 [] [33, 8, 7, 5, 3] .n ?_
 intro a w hs; refine zAI hs rfl (hs.mem.keep hp (by simp [zX, blk])) .z isAgg52 rfl ?_
 refine goL 1 [] [35, 34, 8, 7, 3] .n ?_
 intro a w hs; refine zH (v := .tuple #[zI ((rat l ((zAO (sns l) t : Nat) : Int)).t), .agg #[zI ((rat l ((zAO (sns l) t : Nat) : Int)).t), zI ((rat l ((zAO (sns l) t : Nat) : Int)).tm), (rat l ((zAO (sns l) t : Nat) : Int)).v], nI (zH5 (sns l) ((zAO (sns l) t : Nat) : Int))]) hs (.c rfl (.c rfl .n)) call24 (zIG g _ l most fl gone ((zAO (sns l) t : Nat) : Int) _ (hs.rd0 hu) (hs.mem.keep hg (by simp [zX, blk])) hsr (by omega) hiv) rfl ?_
 refine goL 6 [] [10, 39, 38, 8, 7, 3] .n (fun g4 => ?_)
 intro a w hs; refine zA4 hs rfl rfl .z (.z (.c (.c (.c .n)))) (zN rfl (zN rfl (zN (zDP (hs.mem.keepH hrw (by simp)) (zJS l ((zAO (sns l) t : Nat) : Int))).isSl.one zBS))) sizeOf45 rfl ?_
 refine goL 4 [] [42, 11, 10, 7, 3] .n ?_
 intro a w hs; refine zAB (b := !((((zH5 (sns l) (((zAO (sns l) t : Nat) : Int) - 1) : Nat) : Int) : Int) == 0)) (fun c_5 => ?_) (fun c_5 => ?_)
 ·
  rw [c_5] at hs
  replace c_5 := zHB c_5
  replace c_5 := zAK c_5
  revert a w hs
  refine go 10 [] [52, 49, 10, 3] .n ?_
  intro a w hs; refine zAB (b := !((((zH5 (sns l) ((zAO (sns l) t : Nat) : Int) : Nat) : Int) : Int) == 0)) (fun c_6 => ?_) (fun c_6 => ?_)
  ·
   rw [c_6] at hs
   replace c_6 := zHB c_6
   replace c_6 := zAK c_6
   revert a w hs
   refine go 8 [] [4] .n ?_
   refine cl (·.drop (.c (.s (.s .z)) (.c (.s .z) (.c .z .n)))) ?_
   have ht1 : (rat l ((zAO (sns l) t : Nat) - 1 : Int)).tm = _ := congrArg zAl.tm (zEU l ((zAO (sns l) t : Nat) - 1 : Int))
   have ht2 : (rat l ((zAO (sns l) t : Nat) : Int)).tm = _ := congrArg zAl.tm (zEU l ((zAO (sns l) t : Nat) : Int))
   intro a w hs; exact fin hs rfl rfl ⟨congrArg Value.bool (by unfold tml; rw [← ht1, ← ht2]; clear ht1 ht2; first | (simp_all; done) | (simp_all <;> omega)), rfl⟩
  rw [c_6] at hs
  replace c_6 := zHC c_6
  replace c_6 := eq_of_beq c_6
  revert a w hs
  refine go 8 [0, 1] [4] (.c .z (.c (.s .z) .n)) ⟨rfl, rfl, ?_⟩
  refine cl (·.drop (.c (.s (.s .z)) (.c (.s .z) (.c .z .n)))) ?_
  have ht1 : (rat l ((zAO (sns l) t : Nat) - 1 : Int)).tm = _ := congrArg zAl.tm (zEU l ((zAO (sns l) t : Nat) - 1 : Int))
  have ht2 : (rat l ((zAO (sns l) t : Nat) : Int)).tm = _ := congrArg zAl.tm (zEU l ((zAO (sns l) t : Nat) : Int))
  intro a w hs; exact fin hs rfl rfl ⟨congrArg Value.bool (by unfold tml; rw [← ht1, ← ht2]; clear ht1 ht2; first | (simp_all; done) | (simp_all <;> omega)), rfl⟩
 rw [c_5] at hs
 replace c_5 := zHC c_5
 replace c_5 := eq_of_beq c_5
 revert a w hs
 refine go 7 [0, 1] [49, 11, 10, 3] (.c (.s .z) (.c (.s .z) .n)) ⟨rfl, rfl, ?_⟩
 intro a w hs; refine zAB (b := decide (((rat l (((zAO (sns l) t : Nat) : Int) - 1)).tm) < tm)) (fun c_7 => ?_) (fun c_7 => ?_)
 ·
  rw [c_7] at hs
  replace c_7 := of_decide_eq_true c_7
  revert a w hs
  refine go 3 [] [52, 49, 10, 3] .n ?_
  intro a w hs; refine zAB (b := !((((zH5 (sns l) ((zAO (sns l) t : Nat) : Int) : Nat) : Int) : Int) == 0)) (fun c_8 => ?_) (fun c_8 => ?_)
  ·
   rw [c_8] at hs
   replace c_8 := zHB c_8
   replace c_8 := zAK c_8
   revert a w hs
   refine go 8 [] [4] .n ?_
   refine cl (·.drop (.c (.s (.s .z)) (.c (.s .z) (.c .z .n)))) ?_
   have ht1 : (rat l ((zAO (sns l) t : Nat) - 1 : Int)).tm = _ := congrArg zAl.tm (zEU l ((zAO (sns l) t : Nat) - 1 : Int))
   have ht2 : (rat l ((zAO (sns l) t : Nat) : Int)).tm = _ := congrArg zAl.tm (zEU l ((zAO (sns l) t : Nat) : Int))
   intro a w hs; exact fin hs rfl rfl ⟨congrArg Value.bool (by unfold tml; rw [← ht1, ← ht2]; clear ht1 ht2; first | (simp_all; done) | (simp_all <;> omega)), rfl⟩
  rw [c_8] at hs
  replace c_8 := zHC c_8
  replace c_8 := eq_of_beq c_8
  revert a w hs
  refine go 8 [0, 1] [4] (.c (.s (.s .z)) (.c (.s .z) .n)) ⟨rfl, rfl, ?_⟩
  refine cl (·.drop (.c (.s (.s .z)) (.c (.s .z) (.c .z .n)))) ?_
  have ht1 : (rat l ((zAO (sns l) t : Nat) - 1 : Int)).tm = _ := congrArg zAl.tm (zEU l ((zAO (sns l) t : Nat) - 1 : Int))
  have ht2 : (rat l ((zAO (sns l) t : Nat) : Int)).tm = _ := congrArg zAl.tm (zEU l ((zAO (sns l) t : Nat) : Int))
  intro a w hs; exact fin hs rfl rfl ⟨congrArg Value.bool (by unfold tml; rw [← ht1, ← ht2]; clear ht1 ht2; first | (simp_all; done) | (simp_all <;> omega)), rfl⟩
 rw [c_7] at hs
 replace c_7 := of_decide_eq_false c_7
 revert a w hs
 refine go 11 [] [4] .n ?_
 refine cl (·.drop (.c (.s (.s .z)) (.c (.s .z) (.c .z .n)))) ?_
 have ht1 : (rat l ((zAO (sns l) t : Nat) - 1 : Int)).tm = _ := congrArg zAl.tm (zEU l ((zAO (sns l) t : Nat) - 1 : Int))
 have ht2 : (rat l ((zAO (sns l) t : Nat) : Int)).tm = _ := congrArg zAl.tm (zEU l ((zAO (sns l) t : Nat) : Int))
 intro a w hs; exact fin hs rfl rfl ⟨congrArg Value.bool (by unfold tml; rw [← ht1, ← ht2]; clear ht1 ht2; first | (simp_all; done) | (simp_all <;> omega)), rfl⟩
end Go.Proofs.YtbacobmcfelmkaaGreat
