/- Walks of reader: New, the document's, the example: what each function does, over the program of this seat. Printed by a program of this session. -/
import Derived.Test.YtbacobmcfelmkaaGreatQWrd
import Derived.Test.YtbacobmcfelmkaaGreatQSxRecs
import Derived.Test.YtbacobmcfelmkaaGreatQSxBasB
namespace Go.Proofs.YtbacobmcfelmkaaGreat
open Tryz
open Go Go.Sx Go.RowKit
set_option linter.unusedVariables false
set_option linter.unusedSimpArgs false
set_option maxRecDepth 4000
set_option maxHeartbeats 1000000

theorem zU2 (v : Value) (m : Nat) (bs : List zR) (w0 : World) (hb : Rd w0 [] v 1 m (zF bs)) : Calls Tryz.prog 40 #[v] w0 (Ret w0 [] fun u N => ∃ g, u = pt g 0 ∧ N = [blk g [v, nI ((⟨0, 0⟩ : Rs).p), nI ((⟨0, 0⟩ : Rs).e)] 144]) := by
 have hbl : bs.length = m := by have := hb.len; simpa [zF] using this
 have hbe : m ≤ maxLen := hb.le
 simp only [maxLen] at hbe
 refine zT (F0 := [(0, v)]) func40 rfl rfl rfl (.c .n) (Mem.nil _) ?_
 refine go 2 [] [3] .n ?_
 intro a w hs; refine zHR (it := Tryz.t144) (zs := [.slice none 0 0, zI 0, zI 0]) (places := [(0, 1), (1, 1), (2, 1)]) hs (.c rfl .n) underlying144 rfl rfl rfl rfl (.c rfl (hs.rd0 hb).isSl.lcells (.z (.c .n)) .n) rfl ?_
 refine goL 2 [0] [2] .n (fun g1 => ?_)
 intro a w hs; exact fin hs rfl rfl ⟨_, rfl, rfl⟩
theorem zJT  (g : Nat) (u : Value) (bs : List zR) (R : Rs) (w0 : World) (hb : Rd w0 [g] u 1 (bs.length - R.p) (zF (bs.drop R.p))) (hg : (blk g [u, nI R.p, nI R.e] 128).p w0) (hle : R.p ≤ bs.length) (hlm : bs.length ≤ maxLen) : Calls Tryz.prog 88 #[pt g 0] w0 (Ret w0 [g] fun x N => x = .int .u8 (((zB bs R).1.toNat : Nat) : Int) ∧ N = [blk g [(zAQ u bs.length R.p ((zB bs R).2).p), nI (((zB bs R).2).p), nI (((zB bs R).2).e)] 128]) := by
 simp only [maxLen] at hlm
 refine zT (F0 := [(0, pt g 0)]) func88 rfl rfl rfl (.c .n) (zBd hg) ?_
 refine go 6 [0] [8, 0] (.c .z .n) ⟨rfl, ?_⟩
 refine ifG rfl (fun c_1 => ?_) (fun c_1 => ?_)
 ·
  refine go 1 [] [2] .n ?_
  intro a w hs; exact fin hs rfl rfl (by first | (rw [zDX (by omega)]; exact ⟨rfl, by simp only [zAH] <;> rfl⟩) | (rw [zCY (by omega) (by omega)]; exact ⟨rfl, by simp only [zAH] <;> rfl⟩) | (have he0 : R.e = 0 := (by omega); rw [zCw he0 (by omega)]; exact ⟨congrArg (fun b : BitVec 8 => Value.int .u8 ((b.toNat : Nat) : Int)) (zGl (bs := bs) (k := R.p)), by rw [he0, zCK (by omega)]; rfl⟩))
 refine go 4 [0] [12, 0] (.c .z .n) ⟨rfl, ?_⟩
 intro a w hs; refine zAG hs rfl (hs.rd0 hb).isSl underlying32 rfl ?_
 refine goL 1 [] [14, 0] .n ?_
 refine ifG rfl (fun c_2 => ?_) (fun c_2 => ?_)
 ·
  refine go 5 [0] [2] (.c .z .n) ⟨rfl, ?_⟩
  intro a w hs; exact fin hs rfl rfl (by first | (rw [zDX (by omega)]; exact ⟨rfl, by simp only [zAH] <;> rfl⟩) | (rw [zCY (by omega) (by omega)]; exact ⟨rfl, by simp only [zAH] <;> rfl⟩) | (have he0 : R.e = 0 := (by omega); rw [zCw he0 (by omega)]; exact ⟨congrArg (fun b : BitVec 8 => Value.int .u8 ((b.toNat : Nat) : Int)) (zGl (bs := bs) (k := R.p)), by rw [he0, zCK (by omega)]; rfl⟩))
 refine go 4 [0] [21, 0] (.c .z .n) ⟨rfl, ?_⟩
 intro a w hs; refine zA9 (j := 0) hs rfl rfl (hs.rd0 hb) (by decide) (by omega) underlying32 sizeOf5 rfl ?_
 intro a w hs; refine zA7 hs rfl (hs.rd0 hb) (zA5 (bs.drop R.p) (by first | omega | (simp; omega))) isAgg5 rfl ?_
 refine goL 6 [0] [28, 24, 3, 0] (.c .z .n) ⟨rfl, ?_⟩
 intro a w hs; refine zEL (j := 1) hs rfl rfl (by decide) (hs.rd0 hb).isSl (by omega) underlying32 sizeOf5 rfl ?_
 refine goL 2 [] [31, 29, 3, 0] .n ?_
 intro a w hs; refine zB4 hs rfl rfl .z .z ((hs.rd0 hb).slcL (l := 1) (by omega)).isSl.one sizeOf32 ?_
 refine goL 10 [0, 0] [2] (.c .z .n) ⟨rfl, (by omega), rfl, ?_⟩
 intro a w hs; exact fin hs rfl rfl (by first | (rw [zDX (by omega)]; exact ⟨rfl, by simp only [zAH] <;> rfl⟩) | (rw [zCY (by omega) (by omega)]; exact ⟨rfl, by simp only [zAH] <;> rfl⟩) | (have he0 : R.e = 0 := (by omega); rw [zCw he0 (by omega)]; exact ⟨congrArg (fun b : BitVec 8 => Value.int .u8 ((b.toNat : Nat) : Int)) (zGl (bs := bs) (k := R.p)), by rw [he0, zCK (by omega)]; rfl⟩))
theorem zDC (X : BitVec 64) (g : Nat) (u : Value) (bs : List zR) (R : Rs) (w0 : World) (hb : Rd w0 [g] u 1 (bs.length - R.p) (zF (bs.drop R.p))) (hg : (blk g [u, nI R.p, nI R.e] 128).p w0) (hle : R.p ≤ bs.length) (hlm : bs.length ≤ maxLen) : Calls Tryz.prog 62 #[pt g 0, .int .u64 (X.toNat : Int)] w0 (Ret w0 [g] fun x N => x = .int .u64 (((zD bs X R).1.toNat : Nat) : Int) ∧ N = [blk g [(zAQ u bs.length R.p ((zD bs X R).2).p), nI (((zD bs X R).2).p), nI (((zD bs X R).2).e)] 128]) := by
 simp only [maxLen] at hlm
 refine zT (F0 := [(0, pt g 0), (1, qI X)]) func62 rfl rfl rfl (.c (.c .n)) (zBd hg) ?_
 refine go 6 [0] [12, 0, 1] (.c .z .n) ⟨rfl, ?_⟩
 refine ifG rfl (fun c_1 => ?_) (fun c_1 => ?_)
 ·
  refine go 1 [] [4] .n ?_
  intro a w hs; exact fin hs rfl rfl (by first | (exfalso; omega) | (rw [zB7 (by omega)]; exact ⟨rfl, by simp only [zAH] <;> rfl⟩) | (rw [zBZ (by omega) (zCb (by omega))]; exact ⟨rfl, by simp only [zAH] <;> rfl⟩) | (rw [zCu (by omega) (by omega) (by omega)]; exact ⟨rfl, by simp only [zAH] <;> rfl⟩) | (rw [zCs (by omega) (by omega) (by omega)]; exact ⟨rfl, by simp only [zAH] <;> rfl⟩) | (have he0 : R.e = 0 := (by omega); rw [zCp he0 (by omega) (by omega)]; exact ⟨rfl, by rw [he0, zCK (zEJ (by omega))]; rfl⟩))
 refine go 4 [0] [17, 0, 1] (.c .z .n) ⟨rfl, ?_⟩
 intro a w hs; refine zH (v := .tuple #[qI ((zBu (bs.drop R.p)).1), nI ((zBu (bs.drop R.p)).2.1), nI ((zBu (bs.drop R.p)).2.2)]) hs (.c rfl .n) call89 (zTT _ _ (bs.drop R.p) _ (hs.rd0 hb)) rfl ?_
 refine goL 9 [] [23, 7, 6, 5, 0, 1] .n ?_
 refine ifG rfl (fun c_2 => ?_) (fun c_2 => ?_)
 ·
  refine go 18 [0] [4] (.c .z .n) ⟨rfl, ?_⟩
  intro a w hs; exact fin hs rfl rfl (by first | (exfalso; omega) | (rw [zB7 (by omega)]; exact ⟨rfl, by simp only [zAH] <;> rfl⟩) | (rw [zBZ (by omega) (zCb (by omega))]; exact ⟨rfl, by simp only [zAH] <;> rfl⟩) | (rw [zCu (by omega) (by omega) (by omega)]; exact ⟨rfl, by simp only [zAH] <;> rfl⟩) | (rw [zCs (by omega) (by omega) (by omega)]; exact ⟨rfl, by simp only [zAH] <;> rfl⟩) | (have he0 : R.e = 0 := (by omega); rw [zCp he0 (by omega) (by omega)]; exact ⟨rfl, by rw [he0, zCK (zEJ (by omega))]; rfl⟩))
 refine go 3 [] [26, 7, 6, 5, 0, 1] .n ?_
 intro a w hs; refine zAB (b := ((((zBu (bs.drop R.p)).2.2 : Nat) : Int) : Int) == 0) (fun c_3 => ?_) (fun c_3 => ?_)
 ·
  rw [c_3] at hs
  replace c_3 := eq_of_beq c_3
  revert a w hs
  refine go 4 [] [30, 7, 6, 5, 0] .n ?_
  refine ifG rfl (fun c_4 => ?_) (fun c_4 => ?_)
  ·
   refine go 10 [0] [4] (.c .z .n) ⟨rfl, ?_⟩
   intro a w hs; exact fin hs rfl rfl (by first | (exfalso; omega) | (rw [zB7 (by omega)]; exact ⟨rfl, by simp only [zAH] <;> rfl⟩) | (rw [zBZ (by omega) (zCb (by omega))]; exact ⟨rfl, by simp only [zAH] <;> rfl⟩) | (rw [zCu (by omega) (by omega) (by omega)]; exact ⟨rfl, by simp only [zAH] <;> rfl⟩) | (rw [zCs (by omega) (by omega) (by omega)]; exact ⟨rfl, by simp only [zAH] <;> rfl⟩) | (have he0 : R.e = 0 := (by omega); rw [zCp he0 (by omega) (by omega)]; exact ⟨rfl, by rw [he0, zCK (zEJ (by omega))]; rfl⟩))
  refine go 2 [] [32, 7, 6, 5, 0] .n ?_
  refine ifG rfl (fun c_5 => ?_) (fun c_5 => ?_)
  ·
   refine go 6 [0] [4] (.c .z .n) ⟨rfl, ?_⟩
   intro a w hs; exact fin hs rfl rfl (by first | (exfalso; omega) | (rw [zB7 (by omega)]; exact ⟨rfl, by simp only [zAH] <;> rfl⟩) | (rw [zBZ (by omega) (zCb (by omega))]; exact ⟨rfl, by simp only [zAH] <;> rfl⟩) | (rw [zCu (by omega) (by omega) (by omega)]; exact ⟨rfl, by simp only [zAH] <;> rfl⟩) | (rw [zCs (by omega) (by omega) (by omega)]; exact ⟨rfl, by simp only [zAH] <;> rfl⟩) | (have he0 : R.e = 0 := (by omega); rw [zCp he0 (by omega) (by omega)]; exact ⟨rfl, by rw [he0, zCK (zEJ (by omega))]; rfl⟩))
  have hfl := zPK (bs := bs) (k := R.p) (by omega)
  refine go 6 [0] [42, 41, 37, 6, 5, 0] (.c .z .n) ⟨rfl, ?_⟩
  intro a w hs; refine zEL (j := (zBu (bs.drop R.p)).2.1) hs rfl rfl rfl (hs.rd0 hb).isSl (by omega) underlying32 sizeOf5 rfl ?_
  refine goL 2 [] [45, 43, 6, 5, 0] .n ?_
  intro a w hs; refine zB4 hs rfl rfl .z .z ((hs.rd0 hb).slcL (l := ((zBu (bs.drop R.p)).2.1)) (by omega)).isSl.one sizeOf32 ?_
  refine goL 11 [0, 0] [4] (.c .z .n) ⟨rfl, (by omega), rfl, ?_⟩
  intro a w hs; exact fin hs rfl rfl (by first | (exfalso; omega) | (rw [zB7 (by omega)]; exact ⟨rfl, by simp only [zAH] <;> rfl⟩) | (rw [zBZ (by omega) (zCb (by omega))]; exact ⟨rfl, by simp only [zAH] <;> rfl⟩) | (rw [zCu (by omega) (by omega) (by omega)]; exact ⟨rfl, by simp only [zAH] <;> rfl⟩) | (rw [zCs (by omega) (by omega) (by omega)]; exact ⟨rfl, by simp only [zAH] <;> rfl⟩) | (have he0 : R.e = 0 := (by omega); rw [zCp he0 (by omega) (by omega)]; exact ⟨rfl, by rw [he0, zCK (zEJ (by omega))]; rfl⟩))
 rw [c_3] at hs
 replace c_3 := zAK c_3
 revert a w hs
 refine go 7 [] [32, 7, 6, 5, 0] .n ?_
 refine ifG rfl (fun c_6 => ?_) (fun c_6 => ?_)
 ·
  refine go 6 [0] [4] (.c .z .n) ⟨rfl, ?_⟩
  intro a w hs; exact fin hs rfl rfl (by first | (exfalso; omega) | (rw [zB7 (by omega)]; exact ⟨rfl, by simp only [zAH] <;> rfl⟩) | (rw [zBZ (by omega) (zCb (by omega))]; exact ⟨rfl, by simp only [zAH] <;> rfl⟩) | (rw [zCu (by omega) (by omega) (by omega)]; exact ⟨rfl, by simp only [zAH] <;> rfl⟩) | (rw [zCs (by omega) (by omega) (by omega)]; exact ⟨rfl, by simp only [zAH] <;> rfl⟩) | (have he0 : R.e = 0 := (by omega); rw [zCp he0 (by omega) (by omega)]; exact ⟨rfl, by rw [he0, zCK (zEJ (by omega))]; rfl⟩))
 have hfl := zPK (bs := bs) (k := R.p) (by omega)
 refine go 6 [0] [42, 41, 37, 6, 5, 0] (.c .z .n) ⟨rfl, ?_⟩
 intro a w hs; refine zEL (j := (zBu (bs.drop R.p)).2.1) hs rfl rfl rfl (hs.rd0 hb).isSl (by omega) underlying32 sizeOf5 rfl ?_
 refine goL 2 [] [45, 43, 6, 5, 0] .n ?_
 intro a w hs; refine zB4 hs rfl rfl .z .z ((hs.rd0 hb).slcL (l := ((zBu (bs.drop R.p)).2.1)) (by omega)).isSl.one sizeOf32 ?_
 refine goL 11 [0, 0] [4] (.c .z .n) ⟨rfl, (by omega), rfl, ?_⟩
 intro a w hs; exact fin hs rfl rfl (by first | (exfalso; omega) | (rw [zB7 (by omega)]; exact ⟨rfl, by simp only [zAH] <;> rfl⟩) | (rw [zBZ (by omega) (zCb (by omega))]; exact ⟨rfl, by simp only [zAH] <;> rfl⟩) | (rw [zCu (by omega) (by omega) (by omega)]; exact ⟨rfl, by simp only [zAH] <;> rfl⟩) | (rw [zCs (by omega) (by omega) (by omega)]; exact ⟨rfl, by simp only [zAH] <;> rfl⟩) | (have he0 : R.e = 0 := (by omega); rw [zCp he0 (by omega) (by omega)]; exact ⟨rfl, by rw [he0, zCK (zEJ (by omega))]; rfl⟩))
theorem zH0  (g : Nat) (u : Value) (bs : List zR) (R : Rs) (w0 : World) (hb : Rd w0 [g] u 1 (bs.length - R.p) (zF (bs.drop R.p))) (hg : (blk g [u, nI R.p, nI R.e] 128).p w0) (hle : R.p ≤ bs.length) (hlm : bs.length ≤ maxLen) : Calls Tryz.prog 63 #[pt g 0] w0 (Ret w0 [g] fun x N => x = zI (zJ bs R).1 ∧ N = [blk g [(zAQ u bs.length R.p ((zJ bs R).2).p), nI (((zJ bs R).2).p), nI (((zJ bs R).2).e)] 128]) := by
 simp only [maxLen] at hlm
 refine zT (F0 := [(0, pt g 0)]) func63 rfl rfl rfl (.c .n) (zBd hg) ?_
 refine go 2 [] [4] .n ?_
 intro a w hs; refine zAA hs (.c rfl (.c rfl .n)) call62 (.c .z .n) (zDC (18446744073709551615#64) g _ bs R _ (hs.mem.rd1 hb (.c .z .n)) (hs.mem.del .z) (by omega) (by simp only [maxLen]; omega)) rfl ?_
 have hk1 := zAw (X := 18446744073709551615#64) (bs := bs) (R := R) (by omega)
 refine goL 2 [] [6] .n ?_
 intro a w hs; refine zH (v := zI (zNg ((zD bs (18446744073709551615#64) R).1))) hs (.c rfl .n) call90 (zTk ((zD bs (18446744073709551615#64) R).1) _) rfl ?_
 have := zEt ((zD bs (18446744073709551615#64) R).1)
 refine goL 1 [] [2] .n ?_
 intro a w hs; exact fin hs rfl rfl (by first | exact ⟨rfl, rfl⟩)
theorem zPs  (g : Nat) (u : Value) (bs : List zR) (R : Rs) (w0 : World) (hb : Rd w0 [g] u 1 (bs.length - R.p) (zF (bs.drop R.p))) (hg : (blk g [u, nI R.p, nI R.e] 128).p w0) (hle : R.p ≤ bs.length) (hlm : bs.length ≤ maxLen) : Calls Tryz.prog 91 #[pt g 0] w0 (Ret w0 [g] fun x N => x = (.agg #[zI (zJ bs R).1, zI (zJ bs (zJ bs R).2).1, zI (zJ bs (zJ bs (zJ bs R).2).2).1]) ∧ N = [blk g [(zAQ (zAQ (zAQ u bs.length R.p ((zJ bs R).2).p) bs.length ((zJ bs R).2).p ((zJ bs (zJ bs R).2).2).p) bs.length ((zJ bs (zJ bs R).2).2).p ((zJ bs (zJ bs (zJ bs R).2).2).2).p), nI (((zJ bs (zJ bs (zJ bs R).2).2).2).p), nI (((zJ bs (zJ bs (zJ bs R).2).2).2).e)] 128]) := by
 simp only [maxLen] at hlm
 refine zT (F0 := [(0, pt g 0)]) func91 rfl rfl rfl (.c .n) (zBd hg) ?_
 refine go 2 [] [6, 2, 0] .n (fun g1 => ?_)
 intro a w hs; refine zAA hs (.c rfl .n) call63 (.c (.s .z) .n) (zH0  g _ bs R _ (hs.mem.rd1 hb (.c (.s .z) .n)) (hs.mem.del (.s .z)) (by omega) (by simp only [maxLen]; omega)) rfl ?_
 have hk2 := zBm (bs := bs) (R := R) (by omega)
 refine goL 2 [] [8, 3, 2, 0] .n ?_
 intro a w hs; refine zAA hs (.c rfl .n) call63 (.c .z .n) (zH0  g _ bs ((zJ bs R).2) _ ((zW (p := R.p) (p' := ((zJ bs R).2).p) (by omega) (by omega)) _ _ (hs.mem.rd1 hb (.c .z .n))) (hs.mem.del .z) (by omega) (by simp only [maxLen]; omega)) rfl ?_
 have hk3 := zBm (bs := bs) (R := ((zJ bs R).2)) (by omega)
 refine goL 2 [] [10, 4, 3, 2] .n ?_
 intro a w hs; refine zAA hs (.c rfl .n) call63 (.c .z .n) (zH0  g _ bs ((zJ bs ((zJ bs R).2)).2) _ ((zW (p := ((zJ bs R).2).p) (p' := ((zJ bs ((zJ bs R).2)).2).p) (by omega) (by omega)) _ _ ((zW (p := R.p) (p' := ((zJ bs R).2).p) (by omega) (by omega)) _ _ (hs.mem.rd1 hb (.c .z .n)))) (hs.mem.del .z) (by omega) (by simp only [maxLen]; omega)) rfl ?_
 have hk4 := zBm (bs := bs) (R := ((zJ bs ((zJ bs R).2)).2)) (by omega)
 refine goL 6 [0] [2] (.c (.s .z) .n) ⟨rfl, ?_⟩
 intro a w hs; exact zUZ hs rfl rfl .z (.z (.c (.c (.c .n)))) isAgg69 sizeOf69 (.c .z .n) (by first | exact ⟨rfl, rfl⟩)
theorem zDF (e : Nat) (g : Nat) (u : Value) (bs : List zR) (R : Rs) (w0 : World) (hb : Rd w0 [g] u 1 (bs.length - R.p) (zF (bs.drop R.p))) (hg : (blk g [u, nI R.p, nI R.e] 128).p w0) (hle : R.p ≤ bs.length) (hlm : bs.length ≤ maxLen) : Calls Tryz.prog 64 #[pt g 0, nI e] w0 (Ret w0 [g] fun x N => x = .tuple #[] ∧ N = [blk g [(id u), nI ((zBL e R).p), nI ((zBL e R).e)] 128]) := by
 simp only [maxLen] at hlm
 refine zT (F0 := [(0, pt g 0), (1, nI e)]) func64 rfl rfl rfl (.c (.c .n)) (zBd hg) ?_
 refine go 5 [0] [8, 0, 1] (.c .z .n) ⟨rfl, ?_⟩
 refine ifG rfl (fun c_1 => ?_) (fun c_1 => ?_)
 ·
  refine go 5 [0] [] (.c .z .n) ⟨rfl, ?_⟩
  intro a w hs; exact zHE hs rfl (by first | (rw [show zBL e R = ⟨R.p, e⟩ by unfold zBL; rw [if_pos (by omega)]]; exact ⟨rfl, rfl⟩) | (rw [show zBL e R = R by unfold zBL; rw [if_neg (by omega)]]; exact ⟨rfl, rfl⟩))
 refine go 0 [] [] .n ?_
 intro a w hs; exact zHE hs rfl (by first | (rw [show zBL e R = ⟨R.p, e⟩ by unfold zBL; rw [if_pos (by omega)]]; exact ⟨rfl, rfl⟩) | (rw [show zBL e R = R by unfold zBL; rw [if_neg (by omega)]]; exact ⟨rfl, rfl⟩))
theorem zHI (g : Nat) (u : Value) (bs : List zR) (R : Rs) (w0 : World) (hb : Rd w0 [] u 1 (bs.length - R.p) (zF (bs.drop R.p))) (hg : (blk g [u, nI R.p, nI R.e] 128).p w0) (hle : R.p ≤ bs.length) (hlm : bs.length ≤ maxLen) : Calls Tryz.prog 66 #[pt g 0] w0 (zCn w0 (nI (zDt bs R))) := by
 simp only [maxLen] at hlm
 refine zT (F0 := [(0, pt g 0)]) func66 rfl rfl rfl (.c .n) (Mem.nil _) ?_
 refine go 4 [] [5, 0] .n ?_
 intro a w hs; refine zAI hs rfl (hs.mem.keep hg (by simp [zX, blk])) (.s (.s .z)) isAgg3 rfl ?_
 refine goL 2 [] [8, 0] .n ?_
 intro a w hs; refine zAB (b := (((R.e : Nat) : Int) : Int) == 0) (fun c_1 => ?_) (fun c_1 => ?_)
 ·
  rw [c_1] at hs
  replace c_1 := eq_of_beq c_1
  revert a w hs
  refine go 3 [] [11, 8, 0] .n ?_
  intro a w hs; refine zC hs rfl rfl rfl ?_
  refine zAI hs rfl (hs.mem.keep hg (by simp [zX, blk])) .z isAgg32 rfl ?_
  intro a w hs; refine zC hs rfl rfl rfl ?_
  refine zAG hs rfl (hs.rd0 hb).isSl underlying32 rfl ?_
  refine goL 2 [] [15, 0] .n ?_
  refine ifG rfl (fun c_2 => ?_) (fun c_2 => ?_)
  ·
   refine go 1 [] [2] .n ?_
   intro a w hs; exact fin hs rfl rfl ⟨congrArg (Value.int .i64) (by unfold zDt; first | rw [if_pos (by omega)] | rw [if_neg (by omega)]; rfl), rfl⟩
  refine go 3 [] [18] .n ?_
  intro a w hs; refine zAI hs rfl (hs.mem.keep hg (by simp [zX, blk])) (.s (.s .z)) isAgg3 rfl ?_
  refine goL 1 [] [2] .n ?_
  intro a w hs; exact fin hs rfl rfl ⟨congrArg (Value.int .i64) (by unfold zDt; first | rw [if_pos (by omega)] | rw [if_neg (by omega)]; rfl), rfl⟩
 rw [c_1] at hs
 replace c_1 := zAK c_1
 revert a w hs
 refine go 11 [] [18] .n ?_
 intro a w hs; refine zAI hs rfl (hs.mem.keep hg (by simp [zX, blk])) (.s (.s .z)) isAgg3 rfl ?_
 refine goL 1 [] [2] .n ?_
 intro a w hs; exact fin hs rfl rfl ⟨congrArg (Value.int .i64) (by unfold zDt; first | rw [if_pos (by omega)] | rw [if_neg (by omega)]; rfl), rfl⟩
end Go.Proofs.YtbacobmcfelmkaaGreat
