/- Walks of reader: what each function does, over the program of this seat. Printed by a program of this session. -/
import Derived.Test.YtbacobmcfelmkaaGreatQWvar
import Derived.Test.YtbacobmcfelmkaaGreatQSxBasB
import Derived.Test.YtbacobmcfelmkaaGreatQSxRecs
namespace Go.Proofs.YtbacobmcfelmkaaGreat
open Tryz
open Go Go.Sx Go.RowKit
set_option linter.unusedVariables false
set_option linter.unusedSimpArgs false
set_option maxRecDepth 4000
set_option maxHeartbeats 1000000

theorem zGh (g : Nat) (v : Value) (m : Nat) (bs : List zR) (R : Rs) (w0 : World) (hb : Rd w0 [] v 1 m (zF bs)) (hg : (blk g [v, nI R.p, nI R.e] 144).p w0) (hle : R.p ≤ bs.length) : Calls Tryz.prog 79 #[pt g 0] w0 (zCn w0 (nI R.e)) := by
 have hbl : bs.length = m := by have := hb.len; simpa [zF] using this
 have hbe : m ≤ maxLen := hb.le
 simp only [maxLen] at hbe
 refine zT (F0 := [(0, pt g 0)]) func79 rfl rfl rfl (.c .n) (Mem.nil _) ?_
 refine go 7 [] [7] .n ?_
 intro a w hs; refine zAI hs rfl (hs.mem.keep hg (by simp [zX, blk])) (.s (.s .z)) isAgg24 rfl ?_
 refine goL 1 [] [2] .n ?_
 intro a w hs; exact fin hs rfl rfl ⟨rfl, rfl⟩
theorem zJo (g : Nat) (v : Value) (m : Nat) (bs : List zR) (R : Rs) (w0 : World) (hb : Rd w0 [] v 1 m (zF bs)) (hg : (blk g [v, nI R.p, nI R.e] 144).p w0) (hle : R.p ≤ bs.length) : Calls Tryz.prog 80 #[pt g 0] w0 (zCn w0 (nI (bs.length - R.p))) := by
 have hbl : bs.length = m := by have := hb.len; simpa [zF] using this
 have hbe : m ≤ maxLen := hb.le
 simp only [maxLen] at hbe
 refine zT (F0 := [(0, pt g 0)]) func80 rfl rfl rfl (.c .n) (Mem.nil _) ?_
 refine go 4 [] [0] .n ?_
 intro a w hs
 refine zS [.p [] [], .p [0] [], .p [1] [], .v [2] v, .v [3] (zI (m : Int)), .p [] [], .p [5] [], .p [6] [], .v [7] (nI R.p), .p [8, 4] [], .p [9] []] [10] hs .n .n (by kernel_rfl) ⟨fun _ _ _ _ hm hs K => zAI hs rfl (hm.keep hg (by simp [zX, blk])) .z isAgg32 rfl (vk K), fun _ _ _ _ hm hs K => zAG hs rfl (hm.rd0 hb).isSl underlying32 rfl (vk K), fun _ _ _ _ hm hs K => zAI hs rfl (hm.keep hg (by simp [zX, blk])) (.s .z) isAgg3 rfl (vk K), (by omega), ⟨rfl, by kernel_rfl, fun _ => rfl, rfl, rfl, trivial⟩, fun _ => rfl, ?_⟩
 refine goE 0 [] [2] .n ?_
 intro a w hs; exact fin hs rfl rfl ⟨congrArg (Value.int .i64) (by omega), rfl⟩
theorem zQ9 (g : Nat) (v : Value) (m : Nat) (bs : List zR) (R : Rs) (w0 : World) (hb : Rd w0 [] v 1 m (zF bs)) (hg : (blk g [v, nI R.p, nI R.e] 144).p w0) (hle : R.p ≤ bs.length) : Calls Tryz.prog 45 #[pt g 0] w0 (zCn w0 (nI (zDt bs R))) := by
 have hbl : bs.length = m := by have := hb.len; simpa [zF] using this
 have hbe : m ≤ maxLen := hb.le
 simp only [maxLen] at hbe
 refine zT (F0 := [(0, pt g 0)]) func45 rfl rfl rfl (.c .n) (Mem.nil _) ?_
 refine go 2 [] [4, 0] .n ?_
 intro a w hs; refine zH (v := nI R.e) hs (.c rfl .n) call79 (zGh g _ _ bs R _ (hs.rd0 hb) (hs.mem.keep hg (by simp [zX, blk])) (by omega)) rfl ?_
 refine goL 4 [] [8, 3, 0] .n ?_
 intro a w hs; refine zAB (b := !((((R.e : Nat) : Int) : Int) == 0)) (fun c_1 => ?_) (fun c_1 => ?_)
 ·
  rw [c_1] at hs
  replace c_1 := zHB c_1
  replace c_1 := zAK c_1
  revert a w hs
  refine go 7 [] [2] .n ?_
  intro a w hs; exact fin hs rfl rfl ⟨congrArg (Value.int .i64) (by unfold zDt; first | rw [if_pos (by omega)] | rw [if_neg (by omega)]; rfl), rfl⟩
 rw [c_1] at hs
 replace c_1 := zHC c_1
 replace c_1 := eq_of_beq c_1
 revert a w hs
 refine go 1 [] [9, 8, 3] .n ?_
 intro a w hs; refine zC hs rfl rfl rfl ?_
 refine zH (v := nI (bs.length - R.p)) hs (.c rfl .n) call80 (zJo g _ _ bs R _ (hs.rd0 hb) (hs.mem.keep hg (by simp [zX, blk])) (by omega)) rfl ?_
 refine goL 2 [] [12, 3] .n ?_
 refine ifG rfl (fun c_2 => ?_) (fun c_2 => ?_)
 ·
  refine go 2 [] [2] .n ?_
  intro a w hs; exact fin hs rfl rfl ⟨congrArg (Value.int .i64) (by unfold zDt; first | rw [if_pos (by omega)] | rw [if_neg (by omega)]; rfl), rfl⟩
 refine go 1 [] [2] .n ?_
 intro a w hs; exact fin hs rfl rfl ⟨congrArg (Value.int .i64) (by unfold zDt; first | rw [if_pos (by omega)] | rw [if_neg (by omega)]; rfl), rfl⟩
theorem zSA (v : Value) (m : Nat) (bs : List zR) (w0 : World) (hb : Rd w0 [] v 1 m (zF bs)) (h0 : 0 < m) : Calls Tryz.prog 123 #[v] w0 (zCn w0 (.tuple #[bI (bs.getD 0 0), .int .i64 1, .int .i64 0])) := by
 have hbl : bs.length = m := by have := hb.len; simpa [zF] using this
 have hbe : m ≤ maxLen := hb.le
 simp only [maxLen] at hbe
 refine zT (F0 := [(0, v)]) func123 rfl rfl rfl (.c .n) (Mem.nil _) ?_
 refine go 4 [] [5] .n ?_
 intro a w hs; refine zA9 (j := 0) hs rfl rfl (hs.rd0 hb) (by decide) (by omega) underlying32 sizeOf5 rfl ?_
 intro a w hs; refine zA7 hs rfl (hs.rd0 hb) (zA5 bs (by first | omega | (simp; omega))) isAgg5 rfl ?_
 refine goL 3 [] [4, 3, 2] .n ?_
 intro a w hs; exact zDE hs rfl rfl rfl rfl ⟨rfl, rfl⟩
theorem zRE (v : Value) (m : Nat) (bs : List zR) (gl : Nat) (X : BitVec 64) (w0 : World) (hb : Rd w0 [] v 1 m (zF bs)) {tl : TypeId} (hl : (blk gl [.int .u64 (X.toNat : Int)] tl).p w0) : Calls Tryz.prog 101 #[v, pt gl 0] w0 (zCn w0 (.tuple #[.int .u64 (((zBu bs).1.toNat : Nat) : Int), nI ((zBu bs).2.1), nI (zHy bs X)])) := by
 have hbl : bs.length = m := by have := hb.len; simpa [zF] using this
 have hbe : m ≤ maxLen := hb.le
 simp only [maxLen] at hbe
 refine zT (F0 := [(0, v), (1, pt gl 0)]) func101 rfl rfl rfl (.c (.c .n)) (Mem.nil _) ?_
 refine go 4 [] [10, 1] .n ?_
 intro a w hs; refine zH (v := .tuple #[qI ((zBu bs).1), nI ((zBu bs).2.1), nI ((zBu bs).2.2)]) hs (.c rfl .n) call102 (zVN _ _ bs _ (hs.rd0 hb)) rfl ?_
 refine goL 10 [] [17, 8, 7, 6, 1] .n ?_
 intro a w hs; refine zAB (b := ((((zBu bs).2.2 : Nat) : Int) : Int) == 0) (fun c_1 => ?_) (fun c_1 => ?_)
 ·
  rw [c_1] at hs
  replace c_1 := eq_of_beq c_1
  revert a w hs
  refine go 1 [] [18, 17, 8, 7, 6, 1] .n ?_
  intro a w hs; refine zC hs rfl rfl rfl ?_
  refine zAI hs rfl (hs.mem.keep hl (by simp [zX, blk])) .z isAgg130 rfl ?_
  refine goL 2 [] [21, 8, 7, 6] .n ?_
  refine ifG rfl (fun c_2 => ?_) (fun c_2 => ?_)
  ·
   refine go 7 [] [5, 4, 3] .n ?_
   intro a w hs; exact zDE hs rfl rfl rfl rfl ⟨by unfold zHy; first | (rw [if_pos (by omega)]; rfl) | (rw [if_neg (by omega)]), rfl⟩
  refine go 6 [] [5, 4, 3] .n ?_
  intro a w hs; exact zDE hs rfl rfl rfl rfl ⟨by unfold zHy; first | (rw [if_pos (by omega)]; rfl) | (rw [if_neg (by omega)]), rfl⟩
 rw [c_1] at hs
 replace c_1 := zAK c_1
 revert a w hs
 refine go 11 [] [5, 4, 3] .n ?_
 intro a w hs; exact zDE hs rfl rfl rfl rfl ⟨by unfold zHy; first | (rw [if_pos (by omega)]; rfl) | (rw [if_neg (by omega)]), rfl⟩
theorem zRy (g : Nat) (v : Value) (m : Nat) (bs : List zR) (R : Rs) (w0 : World) (hb : Rd w0 [g] v 1 m (zF bs)) (hg : (blk g [v, nI R.p, nI R.e] 144).p w0) (hle : R.p ≤ bs.length) : Calls Tryz.prog 122 #[pt g 0, .func (.func 123) #[] #[]] w0 (Ret w0 [g] fun u N => u = .int .u8 (((zB bs R).1.toNat : Nat) : Int) ∧ N = [blk g [v, nI (((zB bs R).2).p), nI (((zB bs R).2).e)] 144]) := by
 have hbl : bs.length = m := by have := hb.len; simpa [zF] using this
 have hbe : m ≤ maxLen := hb.le
 simp only [maxLen] at hbe
 refine zT (F0 := [(0, pt g 0), (1, .func (.func 123) #[] #[])]) func122 rfl rfl rfl (.c (.c .n)) (zBd hg) ?_
 refine go 3 [] [9, 5, 0, 1] .n ?_
 intro a w hs; refine zH (v := nI R.e) hs (.c rfl .n) call79 (zGh g _ _ bs R _ (hs.rd0 hb) (hs.mem.del .z) (by omega)) rfl ?_
 refine goL 1 [] [11, 5, 0, 1] .n ?_
 refine ifG rfl (fun c_1 => ?_) (fun c_1 => ?_)
 ·
  refine go 2 [] [4] .n ?_
  intro a w hs; exact fin hs rfl rfl (by first | (rw [zDX (by omega)]; exact ⟨rfl, rfl⟩) | (rw [zCY (by omega) (by omega)]; exact ⟨rfl, rfl⟩) | (have he0 : R.e = 0 := (by omega); rw [zCw he0 (by omega)]; simp [he0, nI]))
 refine go 1 [] [13, 5, 0, 1] .n ?_
 intro a w hs; refine zH (v := nI (bs.length - R.p)) hs (.c rfl .n) call80 (zJo g _ _ bs R _ (hs.rd0 hb) (hs.mem.del .z) (by omega)) rfl ?_
 refine goL 1 [] [15, 5, 0, 1] .n ?_
 refine ifG rfl (fun c_2 => ?_) (fun c_2 => ?_)
 ·
  refine go 6 [0] [4] (.c .z .n) ⟨rfl, ?_⟩
  intro a w hs; exact fin hs rfl rfl (by first | (rw [zDX (by omega)]; exact ⟨rfl, rfl⟩) | (rw [zCY (by omega) (by omega)]; exact ⟨rfl, rfl⟩) | (have he0 : R.e = 0 := (by omega); rw [zCw he0 (by omega)]; simp [he0, nI]))
 refine go 0 [] [5, 0, 1] .n ?_
 intro a w hs
 refine zS [.p [] [], .p [] [], .p [1] [], .p [2] [], .p [3] [0], .p [] [], .p [5] [], .p [6] [], .p [7] [0], .v [8, 4] (zHv v 1 R.p m), .v [9, 0] (.tuple #[bI ((bs.drop R.p).getD 0 0), zI 1, zI 0]), .p [10] [], .p [11] [], .p [11] [], .p [11] [], .p [12] [], .p [13] [], .p [14] []] [15, 16, 17] hs .n (.c .z .n) (by kernel_rfl) ⟨rfl, rfl, fun _ _ _ _ hm hs K => zEL (j := R.p) hs rfl rfl rfl (hm.rd0 hb).isSl (by omega) underlying32 sizeOf5 rfl (vk K), fun _ _ _ _ hm hs K => zEi (us := []) (v := .tuple #[bI ((bs.drop R.p).getD 0 0), zI 1, zI 0]) hs rfl (.c rfl .n) rfl call123 (zSA _ _ (bs.drop R.p) _ ((hm.rd0 hb).slcL (l := R.p) (by omega)) (by omega)) rfl (vk K), ⟨rfl, by kernel_rfl, fun _ => rfl, rfl, rfl, trivial⟩, fun _ => rfl, ?_⟩
 refine goE 14 [0, 0] [4] (.c .z .n) ⟨rfl, (by omega), rfl, ?_⟩
 intro a w hs; exact fin hs rfl rfl (by first | (rw [zDX (by omega)]; exact ⟨rfl, rfl⟩) | (rw [zCY (by omega) (by omega)]; exact ⟨rfl, rfl⟩) | (have he0 : R.e = 0 := (by omega); rw [zCw he0 (by omega)]; simp [he0, nI]))
theorem zJw (g : Nat) (v : Value) (m : Nat) (bs : List zR) (R : Rs) (w0 : World) (hb : Rd w0 [g] v 1 m (zF bs)) (hg : (blk g [v, nI R.p, nI R.e] 144).p w0) (hle : R.p ≤ bs.length) : Calls Tryz.prog 99 #[pt g 0] w0 (Ret w0 [g] fun u N => u = .int .u8 (((zB bs R).1.toNat : Nat) : Int) ∧ N = [blk g [v, nI (((zB bs R).2).p), nI (((zB bs R).2).e)] 144]) := by
 have hbl : bs.length = m := by have := hb.len; simpa [zF] using this
 have hbe : m ≤ maxLen := hb.le
 simp only [maxLen] at hbe
 refine zT (F0 := [(0, pt g 0)]) func99 rfl rfl rfl (.c .n) (zBd hg) ?_
 refine go 2 [] [3] .n ?_
 intro a w hs; refine zAA hs (.c rfl (.c rfl .n)) call122 (.c .z .n) (zRy  g _ _ bs R _ (hs.mem.rd1 hb (.c .z .n)) (hs.mem.del .z) (by omega)) rfl ?_
 have hk1 := zCy (bs := bs) (R := R) (by omega)
 refine goL 1 [] [2] .n ?_
 intro a w hs; exact fin hs rfl rfl ⟨rfl, rfl⟩
theorem zQ1 (gl : Nat) (X : BitVec 64) (g : Nat) (v : Value) (m : Nat) (bs : List zR) (R : Rs) (w0 : World) (hb : Rd w0 [g] v 1 m (zF bs)) (hg : (blk g [v, nI R.p, nI R.e] 144).p w0) (hle : R.p ≤ bs.length) {tl : TypeId} (hl : (blk gl [.int .u64 (X.toNat : Int)] tl).p w0) (hgl : gl ≠ g) : Calls Tryz.prog 100 #[pt g 0, .func (.func 101) #[] #[pt gl 0]] w0 (Ret w0 [g] fun u N => u = .int .u64 (((zD bs X R).1.toNat : Nat) : Int) ∧ N = [blk g [v, nI (((zD bs X R).2).p), nI (((zD bs X R).2).e)] 144]) := by
 have hbl : bs.length = m := by have := hb.len; simpa [zF] using this
 have hbe : m ≤ maxLen := hb.le
 simp only [maxLen] at hbe
 refine zT (F0 := [(0, pt g 0), (1, .func (.func 101) #[] #[pt gl 0])]) func100 rfl rfl rfl (.c (.c .n)) (zBd hg) ?_
 refine go 3 [] [9, 5, 0, 1] .n ?_
 intro a w hs; refine zH (v := nI R.e) hs (.c rfl .n) call79 (zGh g _ _ bs R _ (hs.rd0 hb) (hs.mem.del .z) (by omega)) rfl ?_
 refine goL 1 [] [11, 5, 0, 1] .n ?_
 refine ifG rfl (fun c_1 => ?_) (fun c_1 => ?_)
 ·
  refine go 2 [] [4] .n ?_
  intro a w hs; exact fin hs rfl rfl (by first | (rw [zB7 (by omega)]; exact ⟨rfl, rfl⟩) | (rw [zBZ (by omega) (by omega)]; exact ⟨rfl, rfl⟩) | (rw [zDa (by omega) (by omega) (by omega)]; exact ⟨rfl, rfl⟩) | (have he0 : R.e = 0 := (by omega); rw [zDI he0 (by omega) (by omega)]; simp [he0, nI]))
 refine go 1 [] [13, 5, 0, 1] .n ?_
 intro a w hs; refine zH (v := nI (bs.length - R.p)) hs (.c rfl .n) call80 (zJo g _ _ bs R _ (hs.rd0 hb) (hs.mem.del .z) (by omega)) rfl ?_
 refine goL 1 [] [15, 5, 0, 1] .n ?_
 refine ifG rfl (fun c_2 => ?_) (fun c_2 => ?_)
 ·
  refine go 6 [0] [4] (.c .z .n) ⟨rfl, ?_⟩
  intro a w hs; exact fin hs rfl rfl (by first | (rw [zB7 (by omega)]; exact ⟨rfl, rfl⟩) | (rw [zBZ (by omega) (by omega)]; exact ⟨rfl, rfl⟩) | (rw [zDa (by omega) (by omega) (by omega)]; exact ⟨rfl, rfl⟩) | (have he0 : R.e = 0 := (by omega); rw [zDI he0 (by omega) (by omega)]; simp [he0, nI]))
 refine go 0 [] [5, 0, 1] .n ?_
 intro a w hs
 refine zS [.p [] [], .p [] [], .p [1] [], .p [2] [], .p [3] [0], .p [] [], .p [5] [], .p [6] [], .p [7] [0], .v [8, 4] (zHv v 1 R.p m), .v [9, 0] (.tuple #[qI ((zBu (bs.drop R.p)).1), nI ((zBu (bs.drop R.p)).2.1), nI (zHy (bs.drop R.p) X)]), .p [10] [], .p [11] [], .p [11] [], .p [11] [], .p [12] [], .p [13] [], .p [14] []] [15, 16, 17] hs .n (.c .z .n) (by kernel_rfl) ⟨rfl, rfl, fun _ _ _ _ hm hs K => zEL (j := R.p) hs rfl rfl rfl (hm.rd0 hb).isSl (by omega) underlying32 sizeOf5 rfl (vk K), fun _ _ _ _ hm hs K => zEi (us := [pt gl 0]) (v := .tuple #[qI ((zBu (bs.drop R.p)).1), nI ((zBu (bs.drop R.p)).2.1), nI (zHy (bs.drop R.p) X)]) hs rfl (.c rfl .n) rfl call101 (zRE _ _ (bs.drop R.p) gl X _ ((hm.rd0 hb).slcL (l := R.p) (by omega)) (hm.keep hl (by simpa [zX, blk] using hgl))) rfl (vk K), ⟨rfl, by kernel_rfl, fun _ => rfl, rfl, rfl, trivial⟩, fun _ => rfl, ?_⟩
 refine goE 2 [] [36, 8, 7, 6, 5, 0] .n ?_
 refine ifG rfl (fun c_4 => ?_) (fun c_4 => ?_)
 ·
  refine go 7 [0] [4] (.c .z .n) ⟨rfl, ?_⟩
  intro a w hs; exact fin hs rfl rfl (by first | (rw [zB7 (by omega)]; exact ⟨rfl, rfl⟩) | (rw [zBZ (by omega) (by omega)]; exact ⟨rfl, rfl⟩) | (rw [zDa (by omega) (by omega) (by omega)]; exact ⟨rfl, rfl⟩) | (have he0 : R.e = 0 := (by omega); rw [zDI he0 (by omega) (by omega)]; simp [he0, nI]))
 have hul := @zOi (bs.drop R.p) X
 intro a w hs; rw [List.length_drop] at hul
 have hul2 := hul (by omega)
 revert a w hs
 refine go 11 [0, 0] [4] (.c .z .n) ⟨rfl, (by omega), rfl, ?_⟩
 intro a w hs; exact fin hs rfl rfl (by first | (rw [zB7 (by omega)]; exact ⟨rfl, rfl⟩) | (rw [zBZ (by omega) (by omega)]; exact ⟨rfl, rfl⟩) | (rw [zDa (by omega) (by omega) (by omega)]; exact ⟨rfl, rfl⟩) | (have he0 : R.e = 0 := (by omega); rw [zDI he0 (by omega) (by omega)]; simp [he0, nI]))
theorem zEB (X : BitVec 64) (g : Nat) (v : Value) (m : Nat) (bs : List zR) (R : Rs) (w0 : World) (hb : Rd w0 [g] v 1 m (zF bs)) (hg : (blk g [v, nI R.p, nI R.e] 144).p w0) (hle : R.p ≤ bs.length) : Calls Tryz.prog 74 #[pt g 0, .int .u64 (X.toNat : Int)] w0 (Ret w0 [g] fun u N => u = .int .u64 (((zD bs X R).1.toNat : Nat) : Int) ∧ N = [blk g [v, nI (((zD bs X R).2).p), nI (((zD bs X R).2).e)] 144]) := by
 have hbl : bs.length = m := by have := hb.len; simpa [zF] using this
 have hbe : m ≤ maxLen := hb.le
 simp only [maxLen] at hbe
 refine zT (F0 := [(0, pt g 0), (1, qI X)]) func74 rfl rfl rfl (.c (.c .n)) (zBd hg) ?_
 refine go 4 [0] [6, 5] .n (fun g1 => ?_)
 intro a w hs; have hgn := hs.mem.apart .z (.c .z .n)
 refine zO hs (.c rfl (.c rfl .n)) call100 (.c (.s .z) .n) (zQ1 g1 X g _ _ bs R _ (hs.mem.rd1 hb (.c (.s .z) .n)) (hs.mem.del (.s .z)) (by omega) (hs.mem.del .z) hgn) rfl ?_; clear hs w a hgn; rintro _ _ a w ⟨rfl, rfl⟩ hs
 revert a w hs
 refine goL 1 [] [4] .n ?_
 refine cl (·.drop (.c (.s .z) .n)) ?_
 intro a w hs; exact fin hs rfl rfl ⟨rfl, rfl⟩
theorem zHt (g : Nat) (v : Value) (m : Nat) (bs : List zR) (R : Rs) (w0 : World) (hb : Rd w0 [g] v 1 m (zF bs)) (hg : (blk g [v, nI R.p, nI R.e] 144).p w0) (hle : R.p ≤ bs.length) : Calls Tryz.prog 75 #[pt g 0] w0 (Ret w0 [g] fun u N => u = zI (zJ bs R).1 ∧ N = [blk g [v, nI (((zJ bs R).2).p), nI (((zJ bs R).2).e)] 144]) := by
 have hbl : bs.length = m := by have := hb.len; simpa [zF] using this
 have hbe : m ≤ maxLen := hb.le
 simp only [maxLen] at hbe
 refine zT (F0 := [(0, pt g 0)]) func75 rfl rfl rfl (.c .n) (zBd hg) ?_
 refine go 2 [] [3] .n ?_
 intro a w hs; refine zAA hs (.c rfl (.c rfl .n)) call74 (.c .z .n) (zEB (18446744073709551615#64) g _ _ bs R _ (hs.mem.rd1 hb (.c .z .n)) (hs.mem.del .z) (by omega)) rfl ?_
 have hk1 := zAw (X := 18446744073709551615#64) (bs := bs) (R := R) (by omega)
 intro a w hs; refine zH (v := zI (zNg ((zD bs (18446744073709551615#64) R).1))) hs (.c rfl .n) call103 (zU8 ((zD bs (18446744073709551615#64) R).1) _) rfl ?_
 have := zEt ((zD bs (18446744073709551615#64) R).1)
 refine goL 1 [] [2] .n ?_
 intro a w hs; exact fin hs rfl rfl ⟨rfl, rfl⟩
theorem zPO (g : Nat) (v : Value) (m : Nat) (bs : List zR) (R : Rs) (w0 : World) (hb : Rd w0 [g] v 1 m (zF bs)) (hg : (blk g [v, nI R.p, nI R.e] 144).p w0) (hle : R.p ≤ bs.length) : Calls Tryz.prog 138 #[pt g 0] w0 (Ret w0 [g] fun u N => u = (.agg #[zI (zJ bs R).1, zI (zJ bs (zJ bs R).2).1, zI (zJ bs (zJ bs (zJ bs R).2).2).1]) ∧ N = [blk g [v, nI ((zUc bs R).p), nI ((zUc bs R).e)] 144]) := by
 have hbl : bs.length = m := by have := hb.len; simpa [zF] using this
 have hbe : m ≤ maxLen := hb.le
 simp only [maxLen] at hbe
 refine zT (F0 := [(0, pt g 0)]) func138 rfl rfl rfl (.c .n) (zBd hg) ?_
 refine go 3 [] [5, 3, 2, 0] .n (fun g1 => fun g2 => ?_)
 intro a w hs; refine zEp 3 ?_
 revert a w hs
 refine go 6 [] [9, 8, 5, 3, 2, 0] .n ?_
 intro a w hs; refine zAA hs (.c rfl .n) call75 (.c (.s (.s .z)) .n) (zHt  g _ _ bs R _ (hs.mem.rd1 hb (.c (.s (.s .z)) .n)) (hs.mem.del (.s (.s .z))) (by omega)) rfl ?_
 have hk3 := zBm (bs := bs) (R := R) (by omega)
 refine goL 4 [0] [5, 3, 2, 0] (.c (.s .z) .n) ⟨rfl, by decide, ?_⟩
 intro a w hs; refine zBl ?_
 revert a w hs
 refine go 6 [] [9, 8, 5, 3, 2, 0] .n ?_
 intro a w hs; refine zAA hs (.c rfl .n) call75 (.c (.s .z) .n) (zHt  g _ _ bs ((zJ bs R).2) _ (hs.mem.rd1 hb (.c (.s .z) .n)) (hs.mem.del (.s .z)) (by omega)) rfl ?_
 have hk4 := zBm (bs := bs) (R := ((zJ bs R).2)) (by omega)
 refine goL 4 [0] [5, 3, 2, 0] (.c (.s .z) .n) ⟨rfl, by decide, ?_⟩
 intro a w hs; refine zBl ?_
 revert a w hs
 refine go 6 [] [9, 8, 5, 3, 2, 0] .n ?_
 intro a w hs; refine zAA hs (.c rfl .n) call75 (.c (.s .z) .n) (zHt  g _ _ bs ((zJ bs ((zJ bs R).2)).2) _ (hs.mem.rd1 hb (.c (.s .z) .n)) (hs.mem.del (.s .z)) (by omega)) rfl ?_
 have hk5 := zBm (bs := bs) (R := ((zJ bs ((zJ bs R).2)).2)) (by omega)
 refine goL 4 [0] [5, 3, 2, 0] (.c (.s .z) .n) ⟨rfl, by decide, ?_⟩
 intro a w hs; refine zBl ?_
 revert a w hs
 refine go 4 [0, 1] [2] (.c .z (.c (.s .z) .n)) ⟨rfl, rfl, ?_⟩
 intro a w hs; exact zUZ hs rfl rfl (.s .z) (.z (.c (.c (.c .n)))) isAgg69 sizeOf69 (.c (.s .z) (.c .z .n)) ⟨rfl, rfl⟩
theorem zDh (e : Nat) (g : Nat) (v : Value) (m : Nat) (bs : List zR) (R : Rs) (w0 : World) (hb : Rd w0 [g] v 1 m (zF bs)) (hg : (blk g [v, nI R.p, nI R.e] 144).p w0) (hle : R.p ≤ bs.length) : Calls Tryz.prog 77 #[pt g 0, nI e] w0 (Ret w0 [g] fun u N => u = .tuple #[] ∧ N = [blk g [v, nI ((zBL e R).p), nI ((zBL e R).e)] 144]) := by
 have hbl : bs.length = m := by have := hb.len; simpa [zF] using this
 have hbe : m ≤ maxLen := hb.le
 simp only [maxLen] at hbe
 refine zT (F0 := [(0, pt g 0), (1, nI e)]) func77 rfl rfl rfl (.c (.c .n)) (zBd hg) ?_
 refine go 1 [] [4, 0, 1] .n ?_
 intro a w hs; refine zH (v := nI R.e) hs (.c rfl .n) call79 (zGh g _ _ bs R _ (hs.rd0 hb) (hs.mem.del .z) (by omega)) rfl ?_
 refine goL 1 [] [6, 0, 1] .n ?_
 refine ifG rfl (fun c_1 => ?_) (fun c_1 => ?_)
 ·
  refine go 5 [0] [] (.c .z .n) ⟨rfl, ?_⟩
  intro a w hs; exact zHE hs rfl ⟨rfl, by unfold zBL; first | rw [if_pos (by omega)] | rw [if_neg (by omega)]⟩
 refine go 0 [] [] .n ?_
 intro a w hs; exact zHE hs rfl ⟨rfl, by unfold zBL; first | rw [if_pos (by omega)] | rw [if_neg (by omega)]⟩
end Go.Proofs.YtbacobmcfelmkaaGreat
