/- Walks of what a store tells: what each function does, over the program of this seat. Printed by a program of this session. -/
import Derived.Test.YtbacobmcfelmkaaGreatQWsto
import Derived.Test.YtbacobmcfelmkaaGreatQSxBasB
namespace Go.Proofs.YtbacobmcfelmkaaGreat
open Tryz
open Go Go.Sx Go.RowKit
set_option linter.unusedVariables false
set_option linter.unusedSimpArgs false
set_option maxRecDepth 4000
set_option maxHeartbeats 1000000

def zUa (p g : Nat) (u : Value) (l : List RI) (most : Nat) (fl : Int) (gone : Bool) (N : Nat → Nat) : List HA := [blk p [pt g 0, nI most, nI (N 0), nI (N 1), nI (N 2), nI (N 3), nI (N 4), nI (N 5), nI (N 6), nI (N 7), nI (N 8), nI (N 9), nI (N 10), nI (N 11), nI (N 12), nI (N 13), nI (N 14), nI (N 15), nI (N 16), nI (N 17)] 56, blk g [u, nI most, zI fl, .bool (gone)] 75, row u 88 4 l.length (l.flatMap riV), rws 72 l]
def Sto (p most : Nat) (σ : Stt) (X : HA) : Prop := ∃ (g : Nat) (u : Value) (l : List RI), σ.l = sns l ∧ Oks σ.l most ∧ X = zJN (zUa p g u l most σ.floor σ.gone σ.n)
theorem zUQ (p g : Nat) (u : Value) (l : List RI) (most : Nat) (fl : Int) (gone : Bool) (N : Nat → Nat) (w0 : World) (hp : (blk p [pt g 0, nI most, nI (N 0), nI (N 1), nI (N 2), nI (N 3), nI (N 4), nI (N 5), nI (N 6), nI (N 7), nI (N 8), nI (N 9), nI (N 10), nI (N 11), nI (N 12), nI (N 13), nI (N 14), nI (N 15), nI (N 16), nI (N 17)] 56).p w0) (hg : (blk g [u, nI most, zI fl, .bool (gone)] 75).p w0) (hu : Rd w0 [] u 4 l.length (l.flatMap riV)) (hrw : (rws 72 l).p w0) (ho : Oks (sns l) most) : Calls Tryz.prog 11 #[pt p 0] w0 (zCn w0 (nI l.length)) := by
 have hiv := zEA hrw
 have hsr := ho.srt
 have hll : l.length ≤ 100000 := by have := ho.le; have := ho.m64; rw [zAJ] at *; omega
 have hm64 := ho.m64
 refine zT (F0 := [(0, pt p 0)]) func11 rfl rfl rfl (.c .n) (Mem.nil _) ?_
 refine go 7 [] [7] .n ?_
 intro a w hs; refine zAI hs rfl (hs.mem.keep hp (by simp [zX, blk])) .z isAgg52 rfl ?_
 intro a w hs; refine zH (v := nI l.length) hs (.c rfl .n) call23 (zCv g _ l most fl gone _ (hs.rd0 hu) (hs.mem.keep hg (by simp [zX, blk])) hsr (by omega) hiv) rfl ?_
 refine goL 1 [] [2] .n ?_
 intro a w hs; exact fin hs rfl rfl ⟨rfl, rfl⟩
theorem zPx (p g : Nat) (u : Value) (l : List RI) (most : Nat) (fl : Int) (gone : Bool) (N : Nat → Nat) (w0 : World) (hp : (blk p [pt g 0, nI most, nI (N 0), nI (N 1), nI (N 2), nI (N 3), nI (N 4), nI (N 5), nI (N 6), nI (N 7), nI (N 8), nI (N 9), nI (N 10), nI (N 11), nI (N 12), nI (N 13), nI (N 14), nI (N 15), nI (N 16), nI (N 17)] 56).p w0) (hg : (blk g [u, nI most, zI fl, .bool (gone)] 75).p w0) (hu : Rd w0 [] u 4 l.length (l.flatMap riV)) (hrw : (rws 72 l).p w0) (ho : Oks (sns l) most) : Calls Tryz.prog 12 #[pt p 0] w0 (zCn w0 (nI (N 0))) := by
 have hiv := zEA hrw
 have hsr := ho.srt
 have hll : l.length ≤ 100000 := by have := ho.le; have := ho.m64; rw [zAJ] at *; omega
 have hm64 := ho.m64
 refine zT (F0 := [(0, pt p 0)]) func12 rfl rfl rfl (.c .n) (Mem.nil _) ?_
 refine go 8 [] [8] .n ?_
 intro a w hs; refine zAI hs rfl (hs.mem.keep hp (by simp [zX, blk])) (.s (.s .z)) isAgg3 rfl ?_
 refine goL 1 [] [2] .n ?_
 intro a w hs; exact fin hs rfl rfl ⟨rfl, rfl⟩
theorem zLA (p g : Nat) (u : Value) (l : List RI) (most : Nat) (fl : Int) (gone : Bool) (N : Nat → Nat) (e : Int) (w0 : World) (hp : (blk p [pt g 0, nI most, nI (N 0), nI (N 1), nI (N 2), nI (N 3), nI (N 4), nI (N 5), nI (N 6), nI (N 7), nI (N 8), nI (N 9), nI (N 10), nI (N 11), nI (N 12), nI (N 13), nI (N 14), nI (N 15), nI (N 16), nI (N 17)] 56).p w0) (hg : (blk g [u, nI most, zI fl, .bool (gone)] 75).p w0) (hu : Rd w0 [] u 4 l.length (l.flatMap riV)) (hrw : (rws 72 l).p w0) (ho : Oks (sns l) most) (he : -9223372036854775808 ≤ e ∧ e ≤ 9223372036854775807) : Calls Tryz.prog 13 #[pt p 0, .int .i64 e] w0 (zCn w0 (nI (zDv N e))) := by
 refine zT (F0 := [(0, pt p 0), (1, zI e)]) func13 rfl rfl rfl (.c (.c .n)) (Mem.nil _) ?_
 refine go 8 [] [11, 0, 1] .n ?_
 intro a w hs; refine zAB (b := decide (e ≤ 0)) (fun c_1 => ?_) (fun c_1 => ?_)
 ·
  rw [c_1] at hs
  replace c_1 := of_decide_eq_true c_1
  revert a w hs
  refine go 5 [] [4] .n ?_
  intro a w hs; exact fin hs rfl rfl ⟨by rw [show zDv N e = 0 from if_neg (by omega)]; rfl, rfl⟩
 rw [c_1] at hs
 replace c_1 := of_decide_eq_false c_1
 revert a w hs
 refine go 3 [] [14, 0, 1] .n ?_
 refine ifG rfl (fun c_2 => ?_) (fun c_2 => ?_)
 ·
  refine go 1 [] [4] .n ?_
  intro a w hs; exact fin hs rfl rfl ⟨by rw [show zDv N e = 0 from if_neg (by omega)]; rfl, rfl⟩
 refine cl (·.sub (F' := [(0, pt p 0), (1, zI e)]) (.c rfl (.c rfl .n))) ?_
 refine go 0 [] [0, 1] .n ?_
 rcases (show e = 1 ∨ e = 2 ∨ e = 3 ∨ e = 4 ∨ e = 5 ∨ e = 6 ∨ e = 7 ∨ e = 8 ∨ e = 9 ∨ e = 10 ∨ e = 11 ∨ e = 12 ∨ e = 13 ∨ e = 14 ∨ e = 15 ∨ e = 16 ∨ e = 17 from by omega) with hk3 | hk3 | hk3 | hk3 | hk3 | hk3 | hk3 | hk3 | hk3 | hk3 | hk3 | hk3 | hk3 | hk3 | hk3 | hk3 | hk3
 ·
  intro a w hs; rw [hk3] at hs
  revert a w hs
  refine go 5 [] [19] .n ?_
  intro a w hs; refine zAI hs rfl (hs.mem.keep hp (by simp [zX, blk])) (.s (.s (.s .z))) isAgg3 rfl ?_
  refine goL 1 [] [4] .n ?_
  intro a w hs; exact fin hs rfl rfl ⟨by rw [show zDv N e = N 1 from by rw [hk3]; rfl], rfl⟩
 ·
  intro a w hs; rw [hk3] at hs
  revert a w hs
  refine go 5 [] [19] .n ?_
  intro a w hs; refine zAI hs rfl (hs.mem.keep hp (by simp [zX, blk])) (.s (.s (.s (.s .z)))) isAgg3 rfl ?_
  refine goL 1 [] [4] .n ?_
  intro a w hs; exact fin hs rfl rfl ⟨by rw [show zDv N e = N 2 from by rw [hk3]; rfl], rfl⟩
 ·
  intro a w hs; rw [hk3] at hs
  revert a w hs
  refine go 5 [] [19] .n ?_
  intro a w hs; refine zAI hs rfl (hs.mem.keep hp (by simp [zX, blk])) (.s (.s (.s (.s (.s .z))))) isAgg3 rfl ?_
  refine goL 1 [] [4] .n ?_
  intro a w hs; exact fin hs rfl rfl ⟨by rw [show zDv N e = N 3 from by rw [hk3]; rfl], rfl⟩
 ·
  intro a w hs; rw [hk3] at hs
  revert a w hs
  refine go 5 [] [19] .n ?_
  intro a w hs; refine zAI hs rfl (hs.mem.keep hp (by simp [zX, blk])) (.s (.s (.s (.s (.s (.s .z)))))) isAgg3 rfl ?_
  refine goL 1 [] [4] .n ?_
  intro a w hs; exact fin hs rfl rfl ⟨by rw [show zDv N e = N 4 from by rw [hk3]; rfl], rfl⟩
 ·
  intro a w hs; rw [hk3] at hs
  revert a w hs
  refine go 5 [] [19] .n ?_
  intro a w hs; refine zAI hs rfl (hs.mem.keep hp (by simp [zX, blk])) (.s (.s (.s (.s (.s (.s (.s .z))))))) isAgg3 rfl ?_
  refine goL 1 [] [4] .n ?_
  intro a w hs; exact fin hs rfl rfl ⟨by rw [show zDv N e = N 5 from by rw [hk3]; rfl], rfl⟩
 ·
  intro a w hs; rw [hk3] at hs
  revert a w hs
  refine go 5 [] [19] .n ?_
  intro a w hs; refine zAI hs rfl (hs.mem.keep hp (by simp [zX, blk])) (.s (.s (.s (.s (.s (.s (.s (.s .z)))))))) isAgg3 rfl ?_
  refine goL 1 [] [4] .n ?_
  intro a w hs; exact fin hs rfl rfl ⟨by rw [show zDv N e = N 6 from by rw [hk3]; rfl], rfl⟩
 ·
  intro a w hs; rw [hk3] at hs
  revert a w hs
  refine go 5 [] [19] .n ?_
  intro a w hs; refine zAI hs rfl (hs.mem.keep hp (by simp [zX, blk])) (.s (.s (.s (.s (.s (.s (.s (.s (.s .z))))))))) isAgg3 rfl ?_
  refine goL 1 [] [4] .n ?_
  intro a w hs; exact fin hs rfl rfl ⟨by rw [show zDv N e = N 7 from by rw [hk3]; rfl], rfl⟩
 ·
  intro a w hs; rw [hk3] at hs
  revert a w hs
  refine go 5 [] [19] .n ?_
  intro a w hs; refine zAI hs rfl (hs.mem.keep hp (by simp [zX, blk])) (.s (.s (.s (.s (.s (.s (.s (.s (.s (.s .z)))))))))) isAgg3 rfl ?_
  refine goL 1 [] [4] .n ?_
  intro a w hs; exact fin hs rfl rfl ⟨by rw [show zDv N e = N 8 from by rw [hk3]; rfl], rfl⟩
 ·
  intro a w hs; rw [hk3] at hs
  revert a w hs
  refine go 5 [] [19] .n ?_
  intro a w hs; refine zAI hs rfl (hs.mem.keep hp (by simp [zX, blk])) (.s (.s (.s (.s (.s (.s (.s (.s (.s (.s (.s .z))))))))))) isAgg3 rfl ?_
  refine goL 1 [] [4] .n ?_
  intro a w hs; exact fin hs rfl rfl ⟨by rw [show zDv N e = N 9 from by rw [hk3]; rfl], rfl⟩
 ·
  intro a w hs; rw [hk3] at hs
  revert a w hs
  refine go 5 [] [19] .n ?_
  intro a w hs; refine zAI hs rfl (hs.mem.keep hp (by simp [zX, blk])) (.s (.s (.s (.s (.s (.s (.s (.s (.s (.s (.s (.s .z)))))))))))) isAgg3 rfl ?_
  refine goL 1 [] [4] .n ?_
  intro a w hs; exact fin hs rfl rfl ⟨by rw [show zDv N e = N 10 from by rw [hk3]; rfl], rfl⟩
 ·
  intro a w hs; rw [hk3] at hs
  revert a w hs
  refine go 5 [] [19] .n ?_
  intro a w hs; refine zAI hs rfl (hs.mem.keep hp (by simp [zX, blk])) (.s (.s (.s (.s (.s (.s (.s (.s (.s (.s (.s (.s (.s .z))))))))))))) isAgg3 rfl ?_
  refine goL 1 [] [4] .n ?_
  intro a w hs; exact fin hs rfl rfl ⟨by rw [show zDv N e = N 11 from by rw [hk3]; rfl], rfl⟩
 ·
  intro a w hs; rw [hk3] at hs
  revert a w hs
  refine go 5 [] [19] .n ?_
  intro a w hs; refine zAI hs rfl (hs.mem.keep hp (by simp [zX, blk])) (.s (.s (.s (.s (.s (.s (.s (.s (.s (.s (.s (.s (.s (.s .z)))))))))))))) isAgg3 rfl ?_
  refine goL 1 [] [4] .n ?_
  intro a w hs; exact fin hs rfl rfl ⟨by rw [show zDv N e = N 12 from by rw [hk3]; rfl], rfl⟩
 ·
  intro a w hs; rw [hk3] at hs
  revert a w hs
  refine go 5 [] [19] .n ?_
  intro a w hs; refine zAI hs rfl (hs.mem.keep hp (by simp [zX, blk])) (.s (.s (.s (.s (.s (.s (.s (.s (.s (.s (.s (.s (.s (.s (.s .z))))))))))))))) isAgg3 rfl ?_
  refine goL 1 [] [4] .n ?_
  intro a w hs; exact fin hs rfl rfl ⟨by rw [show zDv N e = N 13 from by rw [hk3]; rfl], rfl⟩
 ·
  intro a w hs; rw [hk3] at hs
  revert a w hs
  refine go 5 [] [19] .n ?_
  intro a w hs; refine zAI hs rfl (hs.mem.keep hp (by simp [zX, blk])) (.s (.s (.s (.s (.s (.s (.s (.s (.s (.s (.s (.s (.s (.s (.s (.s .z)))))))))))))))) isAgg3 rfl ?_
  refine goL 1 [] [4] .n ?_
  intro a w hs; exact fin hs rfl rfl ⟨by rw [show zDv N e = N 14 from by rw [hk3]; rfl], rfl⟩
 ·
  intro a w hs; rw [hk3] at hs
  revert a w hs
  refine go 5 [] [19] .n ?_
  intro a w hs; refine zAI hs rfl (hs.mem.keep hp (by simp [zX, blk])) (.s (.s (.s (.s (.s (.s (.s (.s (.s (.s (.s (.s (.s (.s (.s (.s (.s .z))))))))))))))))) isAgg3 rfl ?_
  refine goL 1 [] [4] .n ?_
  intro a w hs; exact fin hs rfl rfl ⟨by rw [show zDv N e = N 15 from by rw [hk3]; rfl], rfl⟩
 ·
  intro a w hs; rw [hk3] at hs
  revert a w hs
  refine go 5 [] [19] .n ?_
  intro a w hs; refine zAI hs rfl (hs.mem.keep hp (by simp [zX, blk])) (.s (.s (.s (.s (.s (.s (.s (.s (.s (.s (.s (.s (.s (.s (.s (.s (.s (.s .z)))))))))))))))))) isAgg3 rfl ?_
  refine goL 1 [] [4] .n ?_
  intro a w hs; exact fin hs rfl rfl ⟨by rw [show zDv N e = N 16 from by rw [hk3]; rfl], rfl⟩
 intro a w hs; rw [hk3] at hs
 revert a w hs
 refine go 5 [] [19] .n ?_
 intro a w hs; refine zAI hs rfl (hs.mem.keep hp (by simp [zX, blk])) (.s (.s (.s (.s (.s (.s (.s (.s (.s (.s (.s (.s (.s (.s (.s (.s (.s (.s (.s .z))))))))))))))))))) isAgg3 rfl ?_
 refine goL 1 [] [4] .n ?_
 intro a w hs; exact fin hs rfl rfl ⟨by rw [show zDv N e = N 17 from by rw [hk3]; rfl], rfl⟩
theorem zVZ (p g : Nat) (u : Value) (l : List RI) (most : Nat) (fl : Int) (gone : Bool) (N : Nat → Nat) (i : Int) (w0 : World) (hp : (blk p [pt g 0, nI most, nI (N 0), nI (N 1), nI (N 2), nI (N 3), nI (N 4), nI (N 5), nI (N 6), nI (N 7), nI (N 8), nI (N 9), nI (N 10), nI (N 11), nI (N 12), nI (N 13), nI (N 14), nI (N 15), nI (N 16), nI (N 17)] 56).p w0) (hg : (blk g [u, nI most, zI fl, .bool (gone)] 75).p w0) (hu : Rd w0 [] u 4 l.length (l.flatMap riV)) (hrw : (rws 72 l).p w0) (ho : Oks (sns l) most) : Calls Tryz.prog 14 #[pt p 0, zI i] w0 (Ret w0 [] fun z Nn => ∃ v, z = .tuple #[.agg #[zI (rat l i).t, zI (rat l i).tm, v], nI (zH5 (sns l) i)] ∧ Nn = [row v 72 9 ((rat l i).l.length) ((rat l i).l.flatMap zBQ)]) := by
 have hiv := zEA hrw
 have hsr := ho.srt
 have hll : l.length ≤ 100000 := by have := ho.le; have := ho.m64; rw [zAJ] at *; omega
 have hm64 := ho.m64
 have hrl := zTr ho i
 refine zT (F0 := [(0, pt p 0), (1, zI i)]) func14 rfl rfl rfl (.c (.c .n)) (Mem.nil _) ?_
 refine go 8 [] [15, 4, 1] .n (fun g1 => ?_)
 intro a w hs; refine zAI hs rfl (hs.mem.keep hp (by simp [zX, blk])) .z isAgg52 rfl ?_
 refine goL 1 [] [17, 16, 4] .n ?_
 intro a w hs; refine zH (v := .tuple #[zI ((rat l i).t), .agg #[zI ((rat l i).t), zI ((rat l i).tm), (rat l i).v], nI (zH5 (sns l) i)]) hs (.c rfl (.c rfl .n)) call24 (zIG g _ l most fl gone i _ (hs.rd0 hu) (hs.mem.keep hg (by simp [zX, blk])) hsr (by omega) hiv) rfl ?_
 refine goL 6 [] [7, 21, 20, 4] .n (fun g2 => ?_)
 intro a w hs; refine zA4 hs rfl rfl .z (.z (.c (.c (.c .n)))) (zN rfl (zN rfl (zN (zDP (hs.mem.keepH hrw (by simp)) (zJS l i)).isSl.one zBS))) sizeOf45 rfl ?_
 refine goL 2 [0] [22, 8, 4] (.c .z .n) ⟨rfl, ?_⟩
 intro a w hs; refine zO hs (.c rfl .n) call21 .n (zOW ((rat l i).t) ((rat l i).tm) _ ((rat l i).l) _ (zDP (hs.mem.keepH hrw (by simp)) (zJS l i)) (by omega)) rfl ?_; clear hs w a; rintro _ _ a w ⟨v3, rfl, rfl⟩ hs
 revert a w hs
 refine goL 1 [] [24, 23, 4] .n ?_
 intro a w hs; refine zA4 hs rfl rfl (.s (.s .z)) (.z (.c (.c (.c .n)))) (zN rfl (zN rfl (zN (zM (hs.mem.del .z)).isSl.one zBS))) sizeOf45 rfl ?_
 refine goL 1 [] [5, 4] .n ?_
 intro a w hs; exact zBV hs rfl rfl rfl .z (.z (.c (.c (.c .n)))) isAgg45 sizeOf45 (.c (.s (.s .z)) (.c .z .n)) ⟨_, rfl, rfl⟩
theorem zS9 (p g : Nat) (u : Value) (l : List RI) (most : Nat) (fl : Int) (gone : Bool) (N : Nat → Nat) (k : Int) (w0 : World) (hp : (blk p [pt g 0, nI most, nI (N 0), nI (N 1), nI (N 2), nI (N 3), nI (N 4), nI (N 5), nI (N 6), nI (N 7), nI (N 8), nI (N 9), nI (N 10), nI (N 11), nI (N 12), nI (N 13), nI (N 14), nI (N 15), nI (N 16), nI (N 17)] 56).p w0) (hg : (blk g [u, nI most, zI fl, .bool (gone)] 75).p w0) (hu : Rd w0 [] u 4 l.length (l.flatMap riV)) (hrw : (rws 72 l).p w0) (ho : Oks (sns l) most) : Calls Tryz.prog 15 #[pt p 0, zI k] w0 (Ret w0 [] fun z Nn => ∃ v, z = .tuple #[.agg #[zI (zK l k).t, zI (zK l k).tm, v], .bool (zB9 (sns l) k)] ∧ Nn = [row v 72 9 ((zK l k).l.length) ((zK l k).l.flatMap zBQ)]) := by
 have hiv := zEA hrw
 have hsr := ho.srt
 have hll : l.length ≤ 100000 := by have := ho.le; have := ho.m64; rw [zAJ] at *; omega
 have hm64 := ho.m64
 have hrl := zJx ho k
 refine zT (F0 := [(0, pt p 0), (1, zI k)]) func15 rfl rfl rfl (.c (.c .n)) (Mem.nil _) ?_
 refine go 8 [] [14, 4, 1] .n (fun g1 => ?_)
 intro a w hs; refine zAI hs rfl (hs.mem.keep hp (by simp [zX, blk])) .z isAgg52 rfl ?_
 refine goL 1 [] [16, 15, 4] .n ?_
 intro a w hs; refine zH (v := .tuple #[.agg #[zI ((zK l k).t), zI ((zK l k).tm), (zK l k).v], .bool (zB9 (sns l) k)]) hs (.c rfl (.c rfl .n)) call25 (zGa g _ l most fl gone k _ (hs.rd0 hu) (hs.mem.keep hg (by simp [zX, blk])) hsr (by omega) hiv) rfl ?_
 refine goL 4 [] [6, 19, 18, 4] .n (fun g2 => ?_)
 intro a w hs; refine zA4 hs rfl rfl .z (.z (.c (.c (.c .n)))) (zN rfl (zN rfl (zN (zDP (hs.mem.keepH hrw (by simp)) (zEC l k hsr)).isSl.one zBS))) sizeOf45 rfl ?_
 refine goL 2 [0] [20, 7, 4] (.c .z .n) ⟨rfl, ?_⟩
 intro a w hs; refine zO hs (.c rfl .n) call21 .n (zOW ((zK l k).t) ((zK l k).tm) _ ((zK l k).l) _ (zDP (hs.mem.keepH hrw (by simp)) (zEC l k hsr)) (by omega)) rfl ?_; clear hs w a; rintro _ _ a w ⟨v3, rfl, rfl⟩ hs
 revert a w hs
 refine goL 1 [] [22, 21, 4] .n ?_
 intro a w hs; refine zA4 hs rfl rfl (.s (.s .z)) (.z (.c (.c (.c .n)))) (zN rfl (zN rfl (zN (zM (hs.mem.del .z)).isSl.one zBS))) sizeOf45 rfl ?_
 refine goL 1 [] [5, 4] .n ?_
 intro a w hs; exact zBV hs rfl rfl rfl .z (.z (.c (.c (.c .n)))) isAgg45 sizeOf45 (.c (.s (.s .z)) (.c .z .n)) ⟨_, rfl, rfl⟩
theorem zOG (k : Nat) (w0 : World) (h : 1 ≤ k ∧ k ≤ 64) : Calls Tryz.prog 17 #[nI k] w0 (Ret w0 [] fun z N => ∃ g, z = .tuple #[pt g 0, .int .i64 0] ∧ N = [blk g [.slice none 0 0, nI k, zI 0, .bool (false)] 75]) := by
 refine zT (F0 := [(0, nI k)]) func17 rfl rfl rfl (.c .n) (Mem.nil _) ?_
 refine go 4 [] [5, 0] .n ?_
 have hb_ : (decide (((k : Nat) : Int) < 1)) = false := decide_eq_false (by omega)
 intro a w hs; rw [hb_] at hs; clear hb_
 revert a w hs
 refine go 3 [] [8, 6, 0] .n ?_
 have hb_ : (decide (64 < ((k : Nat) : Int))) = false := decide_eq_false (by omega)
 intro a w hs; rw [hb_] at hs; clear hb_
 revert a w hs
 refine go 7 [0] [3, 2] .n (fun g1 => ?_)
 intro a w hs; exact zCF hs rfl rfl rfl ⟨_, rfl, rfl⟩
theorem zUJ (k : Nat) (w0 : World) (hk : 1 ≤ k ∧ k ≤ 64) : Calls Tryz.prog 4 #[nI k] w0 (Ret w0 [] fun z N => ∃ p g, z = .tuple #[pt p 0, .int .i64 0] ∧ N = zUa p g (.slice none 0 0) [] k 0 false (fun _ => 0)) := by
 refine zT (F0 := [(0, nI k)]) func4 rfl rfl rfl (.c .n) (Mem.nil _) ?_
 refine go 3 [] [7, 0] .n ?_
 intro a w hs; refine zO hs (.c rfl .n) call17 .n (zOG k _ hk) rfl ?_; clear hs w a; rintro _ _ a w ⟨g1, rfl, rfl⟩ hs
 revert a w hs
 refine goL 14 [0] [3, 2] .n (fun g2 => ?_)
 refine cl (·.addNil 88 4) ?_
 refine cl (·.addRws 72) ?_
 refine cl (·.reorder (.c (.s (.s .z)) (.c (.s (.s .z)) (.c (.s .z) (.c .z .n))))) ?_
 intro a w hs; exact zCF hs rfl rfl rfl ⟨_, _, rfl, rfl⟩
end Go.Proofs.YtbacobmcfelmkaaGreat
