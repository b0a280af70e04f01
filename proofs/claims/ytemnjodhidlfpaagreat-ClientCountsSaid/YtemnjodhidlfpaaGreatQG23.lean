import Derived.Test.YtemnjodhidlfpaaGreatQG20
import Derived.Test.YtemnjodhidlfpaaGreatQSxBasB
import Derived.Test.YtemnjodhidlfpaaGreatQG22
import Derived.Test.YtemnjodhidlfpaaGreatQG8
import Derived.Test.YtemnjodhidlfpaaGreatQWpose
import Derived.Test.YtemnjodhidlfpaaGreatQG18
/- Walks of what a store tells: what each function does, over the program of this seat. Printed by a program of this session. -/
namespace Go.Proofs.YtemnjodhidlfpaaGreat
open Tryz
open Go Go.Sx Go.RowKit
set_option linter.unusedVariables false
set_option linter.unusedSimpArgs false
set_option maxRecDepth 4000
set_option maxHeartbeats 1000000

def zYF (p g : Nat) (u : Value) (l : List RI) (most : Nat) (fl : Int) (gone : Bool) (N : Nat → Nat) : List HA := [blk p [pt g 0, nI most, nI (N 0), nI (N 1), nI (N 2), nI (N 3), nI (N 4), nI (N 5), nI (N 6), nI (N 7), nI (N 8), nI (N 9), nI (N 10), nI (N 11), nI (N 12), nI (N 13), nI (N 14), nI (N 15), nI (N 16), nI (N 17)] 127, blk g [u, nI most, zI fl, .bool (gone)] 186, row u 193 4 l.length (l.flatMap riV), rws 142 l]
def Sto (p most : Nat) (σ : Stt) (X : HA) : Prop := ∃ (g : Nat) (u : Value) (l : List RI), σ.l = sns l ∧ Oks σ.l most ∧ X = zGB (zYF p g u l most σ.floor σ.gone σ.n)
theorem zWu (p g : Nat) (u : Value) (l : List RI) (most : Nat) (fl : Int) (gone : Bool) (N : Nat → Nat) (w0 : World) (hp : (blk p [pt g 0, nI most, nI (N 0), nI (N 1), nI (N 2), nI (N 3), nI (N 4), nI (N 5), nI (N 6), nI (N 7), nI (N 8), nI (N 9), nI (N 10), nI (N 11), nI (N 12), nI (N 13), nI (N 14), nI (N 15), nI (N 16), nI (N 17)] 127).p w0) (hg : (blk g [u, nI most, zI fl, .bool (gone)] 186).p w0) (hu : Rd w0 [] u 4 l.length (l.flatMap riV)) (hrw : (rws 142 l).p w0) (ho : Oks (sns l) most) : Calls Tryz.prog 61 #[pt p 0] w0 (zAc w0 (nI l.length)) := by
 have hiv := zDs hrw
 have hsr := ho.srt
 have hll : l.length ≤ 100000 := by have := ho.le; have := ho.m64; rw [zAG] at *; omega
 have hm64 := ho.m64
 refine zF (F0 := [(0, pt p 0)]) func61 rfl rfl rfl (.c .n) (Mem.nil _) ?_
 refine go 7 [] [7] .n ?_
 intro a w hs; refine zT hs rfl (hs.mem.keep hp (by simp [zK, blk])) .z isAgg123 rfl ?_
 intro a w hs; refine zB (v := nI l.length) hs (.c rfl .n) call101 (zCR g _ l most fl gone _ (hs.rd0 hu) (hs.mem.keep hg (by simp [zK, blk])) hsr (by omega) hiv) rfl ?_
 refine goL 1 [] [2] .n ?_
 intro a w hs; exact fin hs rfl rfl ⟨rfl, rfl⟩
theorem zQA (p g : Nat) (u : Value) (l : List RI) (most : Nat) (fl : Int) (gone : Bool) (N : Nat → Nat) (w0 : World) (hp : (blk p [pt g 0, nI most, nI (N 0), nI (N 1), nI (N 2), nI (N 3), nI (N 4), nI (N 5), nI (N 6), nI (N 7), nI (N 8), nI (N 9), nI (N 10), nI (N 11), nI (N 12), nI (N 13), nI (N 14), nI (N 15), nI (N 16), nI (N 17)] 127).p w0) (hg : (blk g [u, nI most, zI fl, .bool (gone)] 186).p w0) (hu : Rd w0 [] u 4 l.length (l.flatMap riV)) (hrw : (rws 142 l).p w0) (ho : Oks (sns l) most) : Calls Tryz.prog 39 #[pt p 0] w0 (zAc w0 (nI (N 0))) := by
 have hiv := zDs hrw
 have hsr := ho.srt
 have hll : l.length ≤ 100000 := by have := ho.le; have := ho.m64; rw [zAG] at *; omega
 have hm64 := ho.m64
 refine zF (F0 := [(0, pt p 0)]) func39 rfl rfl rfl (.c .n) (Mem.nil _) ?_
 refine go 8 [] [8] .n ?_
 intro a w hs; refine zT hs rfl (hs.mem.keep hp (by simp [zK, blk])) (.s (.s .z)) isAgg3 rfl ?_
 refine goL 1 [] [2] .n ?_
 intro a w hs; exact fin hs rfl rfl ⟨rfl, rfl⟩
theorem zL5 (p g : Nat) (u : Value) (l : List RI) (most : Nat) (fl : Int) (gone : Bool) (N : Nat → Nat) (e : Int) (w0 : World) (hp : (blk p [pt g 0, nI most, nI (N 0), nI (N 1), nI (N 2), nI (N 3), nI (N 4), nI (N 5), nI (N 6), nI (N 7), nI (N 8), nI (N 9), nI (N 10), nI (N 11), nI (N 12), nI (N 13), nI (N 14), nI (N 15), nI (N 16), nI (N 17)] 127).p w0) (hg : (blk g [u, nI most, zI fl, .bool (gone)] 186).p w0) (hu : Rd w0 [] u 4 l.length (l.flatMap riV)) (hrw : (rws 142 l).p w0) (ho : Oks (sns l) most) (he : -9223372036854775808 ≤ e ∧ e ≤ 9223372036854775807) : Calls Tryz.prog 38 #[pt p 0, .int .i64 e] w0 (zAc w0 (nI (zE6 N e))) := by
 refine zF (F0 := [(0, pt p 0), (1, zI e)]) func38 rfl rfl rfl (.c (.c .n)) (Mem.nil _) ?_
 refine go 8 [] [11, 0, 1] .n ?_
 intro a w hs; refine zV (b := decide (e ≤ 0)) (fun c_1 => ?_) (fun c_1 => ?_)
 ·
  rw [c_1] at hs
  replace c_1 := of_decide_eq_true c_1
  revert a w hs
  refine go 5 [] [4] .n ?_
  intro a w hs; exact fin hs rfl rfl ⟨by rw [show zE6 N e = 0 from if_neg (by omega)]; rfl, rfl⟩
 rw [c_1] at hs
 replace c_1 := of_decide_eq_false c_1
 revert a w hs
 refine go 3 [] [14, 0, 1] .n ?_
 refine ifG rfl (fun c_2 => ?_) (fun c_2 => ?_)
 ·
  refine go 1 [] [4] .n ?_
  intro a w hs; exact fin hs rfl rfl ⟨by rw [show zE6 N e = 0 from if_neg (by omega)]; rfl, rfl⟩
 refine cl (·.sub (F' := [(0, pt p 0), (1, zI e)]) (.c rfl (.c rfl .n))) ?_
 refine go 0 [] [0, 1] .n ?_
 rcases (show e = 1 ∨ e = 2 ∨ e = 3 ∨ e = 4 ∨ e = 5 ∨ e = 6 ∨ e = 7 ∨ e = 8 ∨ e = 9 ∨ e = 10 ∨ e = 11 ∨ e = 12 ∨ e = 13 ∨ e = 14 ∨ e = 15 ∨ e = 16 ∨ e = 17 from by omega) with hk3 | hk3 | hk3 | hk3 | hk3 | hk3 | hk3 | hk3 | hk3 | hk3 | hk3 | hk3 | hk3 | hk3 | hk3 | hk3 | hk3
 ·
  intro a w hs; rw [hk3] at hs
  revert a w hs
  refine go 5 [] [19] .n ?_
  intro a w hs; refine zT hs rfl (hs.mem.keep hp (by simp [zK, blk])) (.s (.s (.s .z))) isAgg3 rfl ?_
  refine goL 1 [] [4] .n ?_
  intro a w hs; exact fin hs rfl rfl ⟨by rw [show zE6 N e = N 1 from by rw [hk3]; rfl], rfl⟩
 ·
  intro a w hs; rw [hk3] at hs
  revert a w hs
  refine go 5 [] [19] .n ?_
  intro a w hs; refine zT hs rfl (hs.mem.keep hp (by simp [zK, blk])) (.s (.s (.s (.s .z)))) isAgg3 rfl ?_
  refine goL 1 [] [4] .n ?_
  intro a w hs; exact fin hs rfl rfl ⟨by rw [show zE6 N e = N 2 from by rw [hk3]; rfl], rfl⟩
 ·
  intro a w hs; rw [hk3] at hs
  revert a w hs
  refine go 5 [] [19] .n ?_
  intro a w hs; refine zT hs rfl (hs.mem.keep hp (by simp [zK, blk])) (.s (.s (.s (.s (.s .z))))) isAgg3 rfl ?_
  refine goL 1 [] [4] .n ?_
  intro a w hs; exact fin hs rfl rfl ⟨by rw [show zE6 N e = N 3 from by rw [hk3]; rfl], rfl⟩
 ·
  intro a w hs; rw [hk3] at hs
  revert a w hs
  refine go 5 [] [19] .n ?_
  intro a w hs; refine zT hs rfl (hs.mem.keep hp (by simp [zK, blk])) (.s (.s (.s (.s (.s (.s .z)))))) isAgg3 rfl ?_
  refine goL 1 [] [4] .n ?_
  intro a w hs; exact fin hs rfl rfl ⟨by rw [show zE6 N e = N 4 from by rw [hk3]; rfl], rfl⟩
 ·
  intro a w hs; rw [hk3] at hs
  revert a w hs
  refine go 5 [] [19] .n ?_
  intro a w hs; refine zT hs rfl (hs.mem.keep hp (by simp [zK, blk])) (.s (.s (.s (.s (.s (.s (.s .z))))))) isAgg3 rfl ?_
  refine goL 1 [] [4] .n ?_
  intro a w hs; exact fin hs rfl rfl ⟨by rw [show zE6 N e = N 5 from by rw [hk3]; rfl], rfl⟩
 ·
  intro a w hs; rw [hk3] at hs
  revert a w hs
  refine go 5 [] [19] .n ?_
  intro a w hs; refine zT hs rfl (hs.mem.keep hp (by simp [zK, blk])) (.s (.s (.s (.s (.s (.s (.s (.s .z)))))))) isAgg3 rfl ?_
  refine goL 1 [] [4] .n ?_
  intro a w hs; exact fin hs rfl rfl ⟨by rw [show zE6 N e = N 6 from by rw [hk3]; rfl], rfl⟩
 ·
  intro a w hs; rw [hk3] at hs
  revert a w hs
  refine go 5 [] [19] .n ?_
  intro a w hs; refine zT hs rfl (hs.mem.keep hp (by simp [zK, blk])) (.s (.s (.s (.s (.s (.s (.s (.s (.s .z))))))))) isAgg3 rfl ?_
  refine goL 1 [] [4] .n ?_
  intro a w hs; exact fin hs rfl rfl ⟨by rw [show zE6 N e = N 7 from by rw [hk3]; rfl], rfl⟩
 ·
  intro a w hs; rw [hk3] at hs
  revert a w hs
  refine go 5 [] [19] .n ?_
  intro a w hs; refine zT hs rfl (hs.mem.keep hp (by simp [zK, blk])) (.s (.s (.s (.s (.s (.s (.s (.s (.s (.s .z)))))))))) isAgg3 rfl ?_
  refine goL 1 [] [4] .n ?_
  intro a w hs; exact fin hs rfl rfl ⟨by rw [show zE6 N e = N 8 from by rw [hk3]; rfl], rfl⟩
 ·
  intro a w hs; rw [hk3] at hs
  revert a w hs
  refine go 5 [] [19] .n ?_
  intro a w hs; refine zT hs rfl (hs.mem.keep hp (by simp [zK, blk])) (.s (.s (.s (.s (.s (.s (.s (.s (.s (.s (.s .z))))))))))) isAgg3 rfl ?_
  refine goL 1 [] [4] .n ?_
  intro a w hs; exact fin hs rfl rfl ⟨by rw [show zE6 N e = N 9 from by rw [hk3]; rfl], rfl⟩
 ·
  intro a w hs; rw [hk3] at hs
  revert a w hs
  refine go 5 [] [19] .n ?_
  intro a w hs; refine zT hs rfl (hs.mem.keep hp (by simp [zK, blk])) (.s (.s (.s (.s (.s (.s (.s (.s (.s (.s (.s (.s .z)))))))))))) isAgg3 rfl ?_
  refine goL 1 [] [4] .n ?_
  intro a w hs; exact fin hs rfl rfl ⟨by rw [show zE6 N e = N 10 from by rw [hk3]; rfl], rfl⟩
 ·
  intro a w hs; rw [hk3] at hs
  revert a w hs
  refine go 5 [] [19] .n ?_
  intro a w hs; refine zT hs rfl (hs.mem.keep hp (by simp [zK, blk])) (.s (.s (.s (.s (.s (.s (.s (.s (.s (.s (.s (.s (.s .z))))))))))))) isAgg3 rfl ?_
  refine goL 1 [] [4] .n ?_
  intro a w hs; exact fin hs rfl rfl ⟨by rw [show zE6 N e = N 11 from by rw [hk3]; rfl], rfl⟩
 ·
  intro a w hs; rw [hk3] at hs
  revert a w hs
  refine go 5 [] [19] .n ?_
  intro a w hs; refine zT hs rfl (hs.mem.keep hp (by simp [zK, blk])) (.s (.s (.s (.s (.s (.s (.s (.s (.s (.s (.s (.s (.s (.s .z)))))))))))))) isAgg3 rfl ?_
  refine goL 1 [] [4] .n ?_
  intro a w hs; exact fin hs rfl rfl ⟨by rw [show zE6 N e = N 12 from by rw [hk3]; rfl], rfl⟩
 ·
  intro a w hs; rw [hk3] at hs
  revert a w hs
  refine go 5 [] [19] .n ?_
  intro a w hs; refine zT hs rfl (hs.mem.keep hp (by simp [zK, blk])) (.s (.s (.s (.s (.s (.s (.s (.s (.s (.s (.s (.s (.s (.s (.s .z))))))))))))))) isAgg3 rfl ?_
  refine goL 1 [] [4] .n ?_
  intro a w hs; exact fin hs rfl rfl ⟨by rw [show zE6 N e = N 13 from by rw [hk3]; rfl], rfl⟩
 ·
  intro a w hs; rw [hk3] at hs
  revert a w hs
  refine go 5 [] [19] .n ?_
  intro a w hs; refine zT hs rfl (hs.mem.keep hp (by simp [zK, blk])) (.s (.s (.s (.s (.s (.s (.s (.s (.s (.s (.s (.s (.s (.s (.s (.s .z)))))))))))))))) isAgg3 rfl ?_
  refine goL 1 [] [4] .n ?_
  intro a w hs; exact fin hs rfl rfl ⟨by rw [show zE6 N e = N 14 from by rw [hk3]; rfl], rfl⟩
 ·
  intro a w hs; rw [hk3] at hs
  revert a w hs
  refine go 5 [] [19] .n ?_
  intro a w hs; refine zT hs rfl (hs.mem.keep hp (by simp [zK, blk])) (.s (.s (.s (.s (.s (.s (.s (.s (.s (.s (.s (.s (.s (.s (.s (.s (.s .z))))))))))))))))) isAgg3 rfl ?_
  refine goL 1 [] [4] .n ?_
  intro a w hs; exact fin hs rfl rfl ⟨by rw [show zE6 N e = N 15 from by rw [hk3]; rfl], rfl⟩
 ·
  intro a w hs; rw [hk3] at hs
  revert a w hs
  refine go 5 [] [19] .n ?_
  intro a w hs; refine zT hs rfl (hs.mem.keep hp (by simp [zK, blk])) (.s (.s (.s (.s (.s (.s (.s (.s (.s (.s (.s (.s (.s (.s (.s (.s (.s (.s .z)))))))))))))))))) isAgg3 rfl ?_
  refine goL 1 [] [4] .n ?_
  intro a w hs; exact fin hs rfl rfl ⟨by rw [show zE6 N e = N 16 from by rw [hk3]; rfl], rfl⟩
 intro a w hs; rw [hk3] at hs
 revert a w hs
 refine go 5 [] [19] .n ?_
 intro a w hs; refine zT hs rfl (hs.mem.keep hp (by simp [zK, blk])) (.s (.s (.s (.s (.s (.s (.s (.s (.s (.s (.s (.s (.s (.s (.s (.s (.s (.s (.s .z))))))))))))))))))) isAgg3 rfl ?_
 refine goL 1 [] [4] .n ?_
 intro a w hs; exact fin hs rfl rfl ⟨by rw [show zE6 N e = N 17 from by rw [hk3]; rfl], rfl⟩
theorem zYc (p g : Nat) (u : Value) (l : List RI) (most : Nat) (fl : Int) (gone : Bool) (N : Nat → Nat) (i : Int) (w0 : World) (hp : (blk p [pt g 0, nI most, nI (N 0), nI (N 1), nI (N 2), nI (N 3), nI (N 4), nI (N 5), nI (N 6), nI (N 7), nI (N 8), nI (N 9), nI (N 10), nI (N 11), nI (N 12), nI (N 13), nI (N 14), nI (N 15), nI (N 16), nI (N 17)] 127).p w0) (hg : (blk g [u, nI most, zI fl, .bool (gone)] 186).p w0) (hu : Rd w0 [] u 4 l.length (l.flatMap riV)) (hrw : (rws 142 l).p w0) (ho : Oks (sns l) most) : Calls Tryz.prog 62 #[pt p 0, zI i] w0 (Ret w0 [] fun z Nn => ∃ v, z = .tuple #[.agg #[zI (rat l i).t, zI (rat l i).tm, v], nI (zKq (sns l) i)] ∧ Nn = [row v 142 9 ((rat l i).l.length) ((rat l i).l.flatMap zBL)]) := by
 have hiv := zDs hrw
 have hsr := ho.srt
 have hll : l.length ≤ 100000 := by have := ho.le; have := ho.m64; rw [zAG] at *; omega
 have hm64 := ho.m64
 have hrl := zXK ho i
 refine zF (F0 := [(0, pt p 0), (1, zI i)]) func62 rfl rfl rfl (.c (.c .n)) (Mem.nil _) ?_
 refine go 8 [] [15, 4, 1] .n (fun g1 => ?_)
 intro a w hs; refine zT hs rfl (hs.mem.keep hp (by simp [zK, blk])) .z isAgg123 rfl ?_
 refine goL 1 [] [17, 16, 4] .n ?_
 intro a w hs; refine zB (v := .tuple #[zI ((rat l i).t), .agg #[zI ((rat l i).t), zI ((rat l i).tm), (rat l i).v], nI (zKq (sns l) i)]) hs (.c rfl (.c rfl .n)) call102 (zID g _ l most fl gone i _ (hs.rd0 hu) (hs.mem.keep hg (by simp [zK, blk])) hsr (by omega) hiv) rfl ?_
 refine goL 6 [] [7, 21, 20, 4] .n (fun g2 => ?_)
 intro a w hs; refine zAv hs rfl rfl .z (.z (.c (.c (.c .n)))) (zN rfl (zN rfl (zN (zEF (hs.mem.keepH hrw (by simp)) (zJq l i)).isSl.one zAn))) sizeOf44 rfl ?_
 refine goL 2 [0] [22, 8, 4] (.c .z .n) ⟨rfl, ?_⟩
 intro a w hs; refine zL hs (.c rfl .n) call64 .n (zPW ((rat l i).t) ((rat l i).tm) _ ((rat l i).l) _ (zEF (hs.mem.keepH hrw (by simp)) (zJq l i)) (by omega)) rfl ?_; clear hs w a; rintro _ _ a w ⟨v3, rfl, rfl⟩ hs
 revert a w hs
 refine goL 1 [] [24, 23, 4] .n ?_
 intro a w hs; refine zAv hs rfl rfl (.s (.s .z)) (.z (.c (.c (.c .n)))) (zN rfl (zN rfl (zN (zQ (hs.mem.del .z)).isSl.one zAn))) sizeOf44 rfl ?_
 refine goL 1 [] [5, 4] .n ?_
 intro a w hs; exact zBz hs rfl rfl rfl .z (.z (.c (.c (.c .n)))) isAgg44 sizeOf44 (.c (.s (.s .z)) (.c .z .n)) ⟨_, rfl, rfl⟩
theorem zVg (p g : Nat) (u : Value) (l : List RI) (most : Nat) (fl : Int) (gone : Bool) (N : Nat → Nat) (k : Int) (w0 : World) (hp : (blk p [pt g 0, nI most, nI (N 0), nI (N 1), nI (N 2), nI (N 3), nI (N 4), nI (N 5), nI (N 6), nI (N 7), nI (N 8), nI (N 9), nI (N 10), nI (N 11), nI (N 12), nI (N 13), nI (N 14), nI (N 15), nI (N 16), nI (N 17)] 127).p w0) (hg : (blk g [u, nI most, zI fl, .bool (gone)] 186).p w0) (hu : Rd w0 [] u 4 l.length (l.flatMap riV)) (hrw : (rws 142 l).p w0) (ho : Oks (sns l) most) : Calls Tryz.prog 31 #[pt p 0, zI k] w0 (Ret w0 [] fun z Nn => ∃ v, z = .tuple #[.agg #[zI (zAS l k).t, zI (zAS l k).tm, v], .bool (zDp (sns l) k)] ∧ Nn = [row v 142 9 ((zAS l k).l.length) ((zAS l k).l.flatMap zBL)]) := by
 have hiv := zDs hrw
 have hsr := ho.srt
 have hll : l.length ≤ 100000 := by have := ho.le; have := ho.m64; rw [zAG] at *; omega
 have hm64 := ho.m64
 have hrl := zM5 ho k
 refine zF (F0 := [(0, pt p 0), (1, zI k)]) func31 rfl rfl rfl (.c (.c .n)) (Mem.nil _) ?_
 refine go 8 [] [14, 4, 1] .n (fun g1 => ?_)
 intro a w hs; refine zT hs rfl (hs.mem.keep hp (by simp [zK, blk])) .z isAgg123 rfl ?_
 refine goL 1 [] [16, 15, 4] .n ?_
 intro a w hs; refine zB (v := .tuple #[.agg #[zI ((zAS l k).t), zI ((zAS l k).tm), (zAS l k).v], .bool (zDp (sns l) k)]) hs (.c rfl (.c rfl .n)) call63 (zGF g _ l most fl gone k _ (hs.rd0 hu) (hs.mem.keep hg (by simp [zK, blk])) hsr (by omega) hiv) rfl ?_
 refine goL 4 [] [6, 19, 18, 4] .n (fun g2 => ?_)
 intro a w hs; refine zAv hs rfl rfl .z (.z (.c (.c (.c .n)))) (zN rfl (zN rfl (zN (zEF (hs.mem.keepH hrw (by simp)) (zEq l k hsr)).isSl.one zAn))) sizeOf44 rfl ?_
 refine goL 2 [0] [20, 7, 4] (.c .z .n) ⟨rfl, ?_⟩
 intro a w hs; refine zL hs (.c rfl .n) call64 .n (zPW ((zAS l k).t) ((zAS l k).tm) _ ((zAS l k).l) _ (zEF (hs.mem.keepH hrw (by simp)) (zEq l k hsr)) (by omega)) rfl ?_; clear hs w a; rintro _ _ a w ⟨v3, rfl, rfl⟩ hs
 revert a w hs
 refine goL 1 [] [22, 21, 4] .n ?_
 intro a w hs; refine zAv hs rfl rfl (.s (.s .z)) (.z (.c (.c (.c .n)))) (zN rfl (zN rfl (zN (zQ (hs.mem.del .z)).isSl.one zAn))) sizeOf44 rfl ?_
 refine goL 1 [] [5, 4] .n ?_
 intro a w hs; exact zBz hs rfl rfl rfl .z (.z (.c (.c (.c .n)))) isAgg44 sizeOf44 (.c (.s (.s .z)) (.c .z .n)) ⟨_, rfl, rfl⟩
theorem zQK (k : Nat) (w0 : World) (h : 1 ≤ k ∧ k ≤ 64) : Calls Tryz.prog 59 #[nI k] w0 (Ret w0 [] fun z N => ∃ g, z = .tuple #[pt g 0, .int .i64 0] ∧ N = [blk g [.slice none 0 0, nI k, zI 0, .bool (false)] 186]) := by
 refine zF (F0 := [(0, nI k)]) func59 rfl rfl rfl (.c .n) (Mem.nil _) ?_
 refine go 4 [] [5, 0] .n ?_
 have hb_ : (decide (((k : Nat) : Int) < 1)) = false := decide_eq_false (by omega)
 intro a w hs; rw [hb_] at hs; clear hb_
 revert a w hs
 refine go 3 [] [8, 6, 0] .n ?_
 have hb_ : (decide (64 < ((k : Nat) : Int))) = false := decide_eq_false (by omega)
 intro a w hs; rw [hb_] at hs; clear hb_
 revert a w hs
 refine go 7 [0] [3, 2] .n (fun g1 => ?_)
 intro a w hs; exact zBI hs rfl rfl rfl ⟨_, rfl, rfl⟩
theorem zWc (k : Nat) (w0 : World) (hk : 1 ≤ k ∧ k ≤ 64) : Calls Tryz.prog 25 #[nI k] w0 (Ret w0 [] fun z N => ∃ p g, z = .tuple #[pt p 0, .int .i64 0] ∧ N = zYF p g (.slice none 0 0) [] k 0 false (fun _ => 0)) := by
 refine zF (F0 := [(0, nI k)]) func25 rfl rfl rfl (.c .n) (Mem.nil _) ?_
 refine go 3 [] [7, 0] .n ?_
 intro a w hs; refine zL hs (.c rfl .n) call59 .n (zQK k _ hk) rfl ?_; clear hs w a; rintro _ _ a w ⟨g1, rfl, rfl⟩ hs
 revert a w hs
 refine goL 14 [0] [3, 2] .n (fun g2 => ?_)
 refine cl (·.addNil 193 4) ?_
 refine cl (·.addRws 142) ?_
 refine cl (·.reorder (.c (.s (.s .z)) (.c (.s (.s .z)) (.c (.s .z) (.c .z .n))))) ?_
 intro a w hs; exact zBI hs rfl rfl rfl ⟨_, _, rfl, rfl⟩
end Go.Proofs.YtemnjodhidlfpaaGreat
/- Walks of stores, seen from without: what each function does, over the program of this seat. Printed by a program of this session. -/
namespace Go.Proofs.YtemnjodhidlfpaaGreat
open Tryz
open Go Go.Sx Go.RowKit
set_option linter.unusedVariables false
set_option linter.unusedSimpArgs false
set_option maxRecDepth 4000
set_option maxHeartbeats 1000000

theorem zFm {p most : Nat} {σ : Stt} {X : HA} {w : World} (hX : Sto p most σ X) (hp : X.p w) : ∃ (g : Nat) (u : Value) (l : List RI), σ.l = sns l ∧ Oks (sns l) most ∧ (blk p [pt g 0, nI most, nI (σ.n 0), nI (σ.n 1), nI (σ.n 2), nI (σ.n 3), nI (σ.n 4), nI (σ.n 5), nI (σ.n 6), nI (σ.n 7), nI (σ.n 8), nI (σ.n 9), nI (σ.n 10), nI (σ.n 11), nI (σ.n 12), nI (σ.n 13), nI (σ.n 14), nI (σ.n 15), nI (σ.n 16), nI (σ.n 17)] 127).p w ∧ (blk g [u, nI most, zI σ.floor, .bool (σ.gone)] 186).p w ∧ Rd w [] u 4 l.length (l.flatMap riV) ∧ (rws 142 l).p w := by
 obtain ⟨g, u, l, hl, ho, rfl⟩ := hX
 refine ⟨g, u, l, hl, hl ▸ ho, hp.1 _ (by simp [zYF]), hp.1 _ (by simp [zYF]), zQ (hp.1 (row u 193 4 l.length (l.flatMap riV)) (by simp [zYF])), hp.1 _ (by simp [zYF])⟩
theorem zYP {p most : Nat} {σ : Stt} {X : HA} (hX : Sto p most σ X) (w0 : World) (hp : X.p w0) : Calls Tryz.prog 61 #[pt p 0] w0 (zAc w0 (nI σ.l.length)) := by
 obtain ⟨g, u, l, hl, ho, h1, h2, h3, h4⟩ := zFm hX hp
 rw [hl, zAG]
 exact zWu p g u l most σ.floor σ.gone σ.n w0 h1 h2 h3 h4 ho
theorem zUZ {p most : Nat} {σ : Stt} {X : HA} (hX : Sto p most σ X) (w0 : World) (hp : X.p w0) : Calls Tryz.prog 39 #[pt p 0] w0 (zAc w0 (nI (σ.n 0))) := by
 obtain ⟨g, u, l, hl, ho, h1, h2, h3, h4⟩ := zFm hX hp
 exact zQA p g u l most σ.floor σ.gone σ.n w0 h1 h2 h3 h4 ho
theorem zOT {p most : Nat} {σ : Stt} {X : HA} (hX : Sto p most σ X) (e : Int) (w0 : World) (hp : X.p w0) (he : -9223372036854775808 ≤ e ∧ e ≤ 9223372036854775807) : Calls Tryz.prog 38 #[pt p 0, .int .i64 e] w0 (zAc w0 (nI (zE6 σ.n e))) := by
 obtain ⟨g, u, l, hl, ho, h1, h2, h3, h4⟩ := zFm hX hp
 exact zL5 p g u l most σ.floor σ.gone σ.n e w0 h1 h2 h3 h4 ho he
theorem zaR {p most : Nat} {σ : Stt} {X : HA} (hX : Sto p most σ X) (i : Int) (w0 : World) (hp : X.p w0) : Calls Tryz.prog 62 #[pt p 0, .int .i64 i] w0 (Ret w0 [] fun z N => ∃ v, z = .tuple #[.agg #[zI (sat σ.l i).t, zI (sat σ.l i).tm, v], nI (zKq σ.l i)] ∧ N = [row v 142 9 (sat σ.l i).l.length ((sat σ.l i).l.flatMap zBL)]) := by
 obtain ⟨g, u, l, hl, ho, h1, h2, h3, h4⟩ := zFm hX hp
 rw [hl, ← zEE l i]
 exact zYc p g u l most σ.floor σ.gone σ.n i w0 h1 h2 h3 h4 ho
theorem zZM {p most : Nat} {σ : Stt} {X : HA} (hX : Sto p most σ X) (k : Int) (w0 : World) (hp : X.p w0) : Calls Tryz.prog 31 #[pt p 0, .int .i64 k] w0 (Ret w0 [] fun z N => ∃ v, z = .tuple #[.agg #[zI (zEl σ.l k).t, zI (zEl σ.l k).tm, v], .bool (zDp σ.l k)] ∧ N = [row v 142 9 (zEl σ.l k).l.length ((zEl σ.l k).l.flatMap zBL)]) := by
 obtain ⟨g, u, l, hl, ho, h1, h2, h3, h4⟩ := zFm hX hp
 rw [hl, ← zI7 l k ho.srt]
 exact zVg p g u l most σ.floor σ.gone σ.n k w0 h1 h2 h3 h4 ho
theorem zPh {p most : Nat} {σ : Stt} {X : HA} (hX : Sto p most σ X) (hN : ∀ i, σ.n i ≤ 1000000) {v : Value} {m : Nat} {bs : List zO} (w0 : World) (hp : X.p w0) (hb : Rd w0 (zK [X]) v 1 m (zC bs)) : Calls Tryz.prog 36 #[pt p 0, v] w0 (Ret w0 (zK [X]) fun z Nn => z = .tuple #[zI (zIw σ.l most σ.floor σ.gone (zA bs)), nI (zBd σ.l most σ.floor σ.gone (zA bs))] ∧ ∃ X', Nn = [X'] ∧ Sto p most (zCV most σ (zA bs)) X') := by
 have hok := hX.imp fun g h => h
 obtain ⟨g, u, l, hl, ho, rfl⟩ := hX
 obtain ⟨L, fl, gone, N⟩ := σ
 simp only at hl ho hN
 subst hl
 obtain ⟨hall, hnd⟩ := hp
 rw [zBv] at hb ⊢
 refine (zO9 p g u l most fl gone N v m bs w0 hall hnd ho hN hb).mono ?_
 rintro e w' ⟨z, Nn, rfl, ⟨rfl, u', l', hl', rfl⟩, hM⟩
 exact ⟨_, _, rfl, ⟨rfl, _, rfl, g, u', l', hl', zWT (σ := ⟨sns l, fl, gone, N⟩) ho, rfl⟩, hM.sep⟩
theorem zYT (k : Nat) (w0 : World) (hk : 1 ≤ k ∧ k ≤ 64) : Calls Tryz.prog 25 #[nI k] w0 (Ret w0 [] fun z N => ∃ p X, z = .tuple #[pt p 0, .int .i64 0] ∧ N = [X] ∧ Sto p k zYX X) := by
 refine (zWc k w0 hk).mono ?_
 rintro e w' ⟨z, Nn, rfl, ⟨p, g, rfl, rfl⟩, hM⟩
 exact ⟨_, _, rfl, ⟨p, _, rfl, rfl, g, _, [], rfl, zaX hk, rfl⟩, hM.sep⟩

end Go.Proofs.YtemnjodhidlfpaaGreat
/- Walks of the client: what each function does, over the program of this seat. Printed by a program of this session. -/
namespace Go.Proofs.YtemnjodhidlfpaaGreat
open Tryz
open Go Go.Sx Go.RowKit
set_option linter.unusedVariables false
set_option linter.unusedSimpArgs false
set_option maxRecDepth 4000
set_option maxHeartbeats 1000000

theorem Sto.oks {p most : Nat} {σ : Stt} {X : HA} (h : Sto p most σ X) : Oks σ.l most := by obtain ⟨_, _, _, _, h, _⟩ := h; exact h
theorem zKi (c : zAV) (cg sp : Nat) (p : KP) (fr : Nat) (σ : Stt) (X : HA) (hX : Sto sp c.keep σ X) (w0 : World) (hcg : (blk cg [zI c.ring, zI c.window, zI c.base, zI c.gain, zI c.least, zI c.most, zI c.slack, zI c.num, zI c.den, zI c.extra, .bool (c.curve), pt sp 0, pt p.k 0, nI fr] 77).p w0) (hXp : X.p w0) : Calls Tryz.prog 30 #[pt cg 0] w0 (Ret w0 [] fun u N => ∃ L : List RI, sns L = σ.l ∧ N = [row u 44 3 L.length (L.flatMap snV), rws 142 L]) := by
 have ho := hX.oks; have ho1 := ho.le; have ho2 := ho.m64
 refine zF (F0 := [(0, pt cg 0)]) func30 rfl rfl rfl (.c .n) (Mem.nil _) ?_
 refine go 5 [] [9, 3, 0] .n ?_
 intro a w hs; refine zT hs rfl (hs.mem.keep hcg (by simp [zK, blk])) (.s (.s (.s (.s (.s (.s (.s (.s (.s (.s (.s .z))))))))))) isAgg73 rfl ?_
 intro a w hs; refine zB (v := nI σ.l.length) hs (.c rfl .n) call61 (zYP hX _ (hs.mem.keepH hXp (by simp))) rfl ?_
 refine goL 1 [] [12, 11, 3, 0] .n ?_
 refine cl (·.addNil 44 3) ?_
 refine cl (·.rerow .z (m' := ([] : List RI).length) (xs' := (([] : List RI).flatMap snV)) (rfl) (rfl)) ?_
 refine cl (·.addRws 142) ?_
 refine cl (·.reorder (.c (.s .z) (.c .z .n))) ?_
 intro a w hs; refine zCf (fun mm_ a w => ∃ j : Nat, ∃ u : Value, ∃ L : List RI, mm_ = σ.l.length - j ∧ St 30 [(0, pt cg 0), (3, u), (11, nI σ.l.length), (12, zI (j : Int))] w0 [] [row u 44 3 L.length (L.flatMap snV), rws 142 L] a w ∧ j ≤ σ.l.length ∧ sns L = σ.l.take j) ⟨0, .slice none 0 0, [], rfl, hs.sub (.c rfl (.c rfl (.c rfl (.c rfl .n)))), by omega, rfl⟩ ?_
 clear hs w a; rintro mm_ a w ⟨j, u, L, rfl, hs, hI1_0, hI1_1⟩
 revert a w hs
 refine go 1 [] [13, 0, 3, 11, 12] .n ?_
 refine ifG rfl (fun c_1 => ?_) (fun c_1 => ?_)
 ·
  refine go 1 [] [14, 0, 3, 11, 12] .n ?_
  have hLl : L.length = j := by rw [← zAG L, hI1_1, List.length_take]; omega
  refine go 4 [] [18, 4, 0, 3, 11, 12] .n ?_
  intro a w hs; refine zT hs rfl (hs.mem.keep hcg (by simp [zK, blk])) (.s (.s (.s (.s (.s (.s (.s (.s (.s (.s (.s .z))))))))))) isAgg73 rfl ?_
  refine goL 1 [] [20, 19, 0, 3, 11, 12] .n ?_
  intro a w hs; refine zL hs (.c rfl (.c rfl .n)) call62 .n (zaR hX (j : Int) _ (hs.mem.keepH hXp (by simp))) rfl ?_; clear hs w a; rintro _ _ a w ⟨v2, rfl, rfl⟩ hs
  revert a w hs
  refine goL 4 [] [5, 23, 22, 0, 3, 11, 12] .n (fun g3 => ?_)
  intro a w hs; refine zAv hs rfl rfl .z (.z (.c (.c (.c .n)))) (zN rfl (zN rfl (zN (zQ (hs.mem.del (.s .z))).isSl.one zAn))) sizeOf44 rfl ?_
  refine goL 4 [0] [26, 24, 0, 11, 12] (.c .z .n) ⟨rfl, fun g4 => ?_⟩
  intro a w hs; refine zBJ (size := 3) (bytes := 40) hs rfl rfl (.s (.s (.s .z))) (zAH (m := 1) (size := 3) (hs.mem.del .z) rfl (by decide)) (zN rfl (zN rfl (zN (zQ (hs.mem.del (.s (.s .z)))).isSl.one zAn))) underlying39 (i := Tryz.t44) rfl rfl rfl rfl rfl (by decide) (by omega) (by simp only [maxLen]; omega) rfl ?_; intro v5
  refine cl (·.drop (.c (.s .z) .n)) ?_
  refine goL 3 [] [12, 3, 0, 11] .n ⟨(by omega), ?_⟩
  intro a w hs; replace hs := hs.rerow .z (m' := (L ++ [(⟨(sat σ.l (j : Int)).t, (sat σ.l (j : Int)).tm, (sat σ.l (j : Int)).l, v2⟩ : RI)]).length) (xs' := ((L ++ [(⟨(sat σ.l (j : Int)).t, (sat σ.l (j : Int)).tm, (sat σ.l (j : Int)).l, v2⟩ : RI)]).flatMap snV)) (by rw [List.length_append]; rfl) (by rw [List.flatMap_append]; rfl)
  replace hs := hs.rwsSnoc (x := (⟨(sat σ.l (j : Int)).t, (sat σ.l (j : Int)).tm, (sat σ.l (j : Int)).l, v2⟩ : RI)) (.c (.s (.s (.s .z))) (.c (.s (.s .z)) .n))
  replace hs := hs.drop (.c (.s (.s .z)) .n)
  replace hs := hs.reorder (.c (.s .z) (.c .z .n))
  refine ⟨_, ?_, (j + 1), v5, (L ++ [(⟨(sat σ.l (j : Int)).t, (sat σ.l (j : Int)).tm, (sat σ.l (j : Int)).l, v2⟩ : RI)]), rfl, hs.sub (.c rfl (.c rfl (.c rfl (.c rfl .n)))), by omega, zW6 hI1_1 (by omega)⟩
  omega
 refine go 2 [] [2] .n ?_
 intro a w hs; exact fin hs rfl rfl ⟨L, by rw [hI1_1, List.take_of_length_le (by omega)], rfl⟩
theorem zUe (c : zAV) (cg sp : Nat) (p : KP) (fr : Nat) (σ : Stt) (Kc : KS) (X : HA) (x : Int) (v : Value) (m : Nat) (bs : List zO) (hk : zDK c = 0) (hC : CS.ok c ⟨σ, Kc, fr⟩) (hX : Sto sp c.keep σ X) (hn : ∀ i, σ.n i ≤ 1000000) (hfr : fr ≤ 1000000) (hx : -9223372036854775808 ≤ x ∧ x ≤ 9223372036854775807) (w0 : World) (hM : ∀ h ∈ ([blk cg [zI c.ring, zI c.window, zI c.base, zI c.gain, zI c.least, zI c.most, zI c.slack, zI c.num, zI c.den, zI c.extra, .bool (c.curve), pt sp 0, pt p.k 0, nI fr] 77, X, zFu c p Kc] : List HA), h.p w0) (hnd : (zK [blk cg [zI c.ring, zI c.window, zI c.base, zI c.gain, zI c.least, zI c.most, zI c.slack, zI c.num, zI c.den, zI c.extra, .bool (c.curve), pt sp 0, pt p.k 0, nI fr] 77, X, zFu c p Kc]).Nodup) (hb : Rd w0 (zK [blk cg [zI c.ring, zI c.window, zI c.base, zI c.gain, zI c.least, zI c.most, zI c.slack, zI c.num, zI c.den, zI c.extra, .bool (c.curve), pt sp 0, pt p.k 0, nI fr] 77, X, zFu c p Kc]) v 1 m (zC bs)) : Calls Tryz.prog 15 #[pt cg 0, .int .i64 x, v] w0 (Ret w0 (zK [blk cg [zI c.ring, zI c.window, zI c.base, zI c.gain, zI c.least, zI c.most, zI c.slack, zI c.num, zI c.den, zI c.extra, .bool (c.curve), pt sp 0, pt p.k 0, nI fr] 77, X, zFu c p Kc]) fun u N => u = nI (zBb c (⟨σ, Kc, fr⟩ : CS) (zA bs)) ∧ ∃ (X' : HA) (p' : KP), N = [blk cg [zI c.ring, zI c.window, zI c.base, zI c.gain, zI c.least, zI c.most, zI c.slack, zI c.num, zI c.den, zI c.extra, .bool (c.curve), pt sp 0, pt p.k 0, nI fr] 77, X', zFu c p' (zOQ c (⟨σ, Kc, fr⟩ : CS) x (zA bs)).K] ∧ p'.k = p.k ∧ Sto sp c.keep (zCV c.keep σ (zA bs)) X') := by
 have ho := hX.oks; have hkk := hC.k; have hwf := hC.wf; dsimp only at hkk hwf
 refine zF (F0 := [(0, pt cg 0), (1, zI x), (2, v)]) func15 rfl rfl rfl (.c (.c (.c .n))) (Mem.start hM rfl hnd) ?_
 refine go 9 [0] [18, 17, 0, 1] (.c .z .n) ⟨rfl, ?_⟩
 intro a w hs; refine zL hs (.c rfl (.c rfl .n)) call36 (.c (.s .z) .n) (zPh hX hn _ (hs.mem.del (.s .z)) (hs.mem.rd1 hb (.c (.s .z) .n))) rfl ?_; clear hs w a; rintro _ _ a w ⟨rfl, X1, rfl, hX2⟩ hs
 revert a w hs
 refine goL 7 [] [23, 8, 7, 0, 1] .n ?_
 refine ifG rfl (fun c_3 => ?_) (fun c_3 => ?_)
 ·
  have hz1 : ¬ zBb c (⟨σ, Kc, fr⟩ : CS) (zA bs) = 0 := fun h => (by assumption : ((zBd σ.l c.keep σ.floor σ.gone (zA bs) : Nat) : Int) ≠ 0) (by rw [show zBd σ.l c.keep σ.floor σ.gone (zA bs) = 0 from h]; rfl)
  refine go 2 [] [6] .n ?_
  refine cl (·.reorder (.c (.s .z) (.c .z (.c .z .n)))) ?_
  have hK2 : (zOQ c (⟨σ, Kc, fr⟩ : CS) x (zA bs)).K = Kc := if_neg hz1
  intro a w hs; exact fin hs rfl rfl ⟨rfl, X1, p, by rw [hK2], rfl, hX2⟩
 have hz0 : zBb c (⟨σ, Kc, fr⟩ : CS) (zA bs) = 0 := zCc (by assumption : ((zBd σ.l c.keep σ.floor σ.gone (zA bs) : Nat) : Int) = 0)
 refine go 5 [0] [30, 29, 0, 1] (.c (.s .z) .n) ⟨rfl, ?_⟩
 intro a w hs; refine zL hs (.c rfl (.c rfl .n)) call31 .n (zZM hX2 (zIw σ.l c.keep σ.floor σ.gone (zA bs)) _ (hs.mem.del (.s .z))) rfl ?_; clear hs w a; rintro _ _ a w ⟨v4, rfl, rfl⟩ hs
 have hk5 := zNe (l := (zCV c.keep σ (zA bs)).l) hX2.oks (zIw σ.l c.keep σ.floor σ.gone (zA bs))
 revert a w hs
 refine goL 4 [] [9, 33, 32, 0, 1] .n (fun g6 => ?_)
 intro a w hs; refine zAv hs rfl rfl .z (.z (.c (.c (.c .n)))) (zN rfl (zN rfl (zN (zQ (hs.mem.del (.s .z))).isSl.one zAn))) sizeOf44 rfl ?_
 refine goL 1 [] [9, 0, 1] .n ?_
 intro a w hs
 refine zHe (Γ := KP) (M0 := [blk g6 [zI ((zEl (zCV c.keep σ (zA bs)).l (zIw σ.l c.keep σ.floor σ.gone (zA bs))).t), zI ((zEl (zCV c.keep σ (zA bs)).l (zIw σ.l c.keep σ.floor σ.gone (zA bs))).tm), v4] 44, row v4 142 9 ((zEl (zCV c.keep σ (zA bs)).l (zIw σ.l c.keep σ.floor σ.gone (zA bs))).l.length) ((zEl (zCV c.keep σ (zA bs)).l (zIw σ.l c.keep σ.floor σ.gone (zA bs))).l.flatMap zBL), blk cg [zI c.ring, zI c.window, zI c.base, zI c.gain, zI c.least, zI c.most, zI c.slack, zI c.num, zI c.den, zI c.extra, .bool (c.curve), pt sp 0, pt p.k 0, nI fr] 77, X1]) (Ds := fun gs => [Pv 0 (pt cg 0), Pv 1 (pt cg 0), Pv 2 (pt cg 12), Pv 3 (pt p.k 0), Pv 4 (zI x), Pv 5 (pt g6 1), Pv 6 (zI ((zEl (zCV c.keep σ (zA bs)).l (zIw σ.l c.keep σ.floor σ.gone (zA bs))).tm)), ⟨[zFu c p Kc], [], [], fun vs7 => vs7 7 = zI 0, fun vs7 => [zFu c ((gs 7).on p.k) (zVi c Kc x ((zEl (zCV c.keep σ (zA bs)).l (zIw σ.l c.keep σ.floor σ.gone (zA bs))).tm))], none⟩, Pv 8 (zI 0)]) [[], [], [], [], [], [], [], [7], []] (default : KP) (by kernel_rfl) hs rfl (.c (.s (.s (.s (.s .z)))) .n) (by kernel_rfl) (fun _ => by kernel_rfl) (fun _ _ => rfl) (fun us_ us'_ => (.c (fun _ => rfl) (.c (fun _ => rfl) (.c (fun _ => rfl) (.c (fun _ => rfl) (.c (fun _ => rfl) (.c (fun _ => rfl) (.c (fun _ => rfl) (.c (fun h => by have e7 := h 7 (by simp); simp only [e7]) (.c (fun _ => rfl) .n)))))))))) (by kernel_rfl) rfl (by kernel_rfl) (fun gs => ?_) ?_
 ·
  refine (.c ?_ (.c ?_ (.c ?_ (.c ?_ (.c ?_ (.c ?_ (.c ?_ (.g ?_ (.c ?_ .n)))))))))
  · exact zAj (m := 9) .n (fun hm0 hm hx => .n) (by kernel_rfl) (by kernel_rfl) rfl
  · exact zAj (m := 9) (.c (k := 0) (by kernel_rfl) rfl rfl .n) (fun hm0 hm hx => .n) (by kernel_rfl) (by kernel_rfl) rfl
  · exact zAj (m := 9) (.c (k := 1) (by kernel_rfl) rfl rfl .n) (fun hm0 hm hx => .n) (by kernel_rfl) (by kernel_rfl) rfl
  · exact zAj (m := 9) (.c (k := 2) (by kernel_rfl) rfl rfl .n) (fun hm0 hm hx => (.c (hm0.del (.s (.s .z))))) (by kernel_rfl) (by kernel_rfl) rfl
  · exact zAj (m := 9) .n (fun hm0 hm hx => .n) (by kernel_rfl) (by kernel_rfl) rfl
  · exact zAj (m := 9) .n (fun hm0 hm hx => .n) (by kernel_rfl) (by kernel_rfl) rfl
  · exact zAj (m := 9) (.c (k := 5) (by kernel_rfl) rfl rfl .n) (fun hm0 hm hx => (.c (hm0.del .z))) (by kernel_rfl) (by kernel_rfl) rfl
  ·
   intro a_ w_ R_ rest_ vs7 hm hs ht hx
   replace hs : St _ _ _ (zK [zFu c p Kc]) [zFu c p Kc] _ _ := hs
   have hm0 := hm.mid
   replace hs := hs.lrn (ht 3 (zH 9 _ (by kernel_rfl))) rfl rfl
   replace hs := hs.lrn (ht 4 (zH 9 _ (by kernel_rfl))) rfl rfl
   replace hs := hs.lrn (ht 6 (zH 9 _ (by kernel_rfl))) rfl rfl
   have hs0 := hs.bare
   refine zL hs (.c rfl (.c rfl (.c rfl .n))) call37 (.c .z .n) (zVV c p Kc x ((zEl (zCV c.keep σ (zA bs)).l (zIw σ.l c.keep σ.floor σ.gone (zA bs))).tm) hk hkk ⟨by omega, by omega⟩ ⟨by omega, by omega⟩ _ (hs.mem.del .z)) rfl ?_; clear hs; rintro _ _ a w ⟨rfl, kp8, rfl⟩ hs
   exact wpList_nil ⟨rfl, (kp8), _, _, hs0, (.c (.c (.c .r))), hs, rfl⟩
  intro a_ w_ R_ rest_ vs7 hm hs ht hx
  have hm0 := hm.mid
  have t7 := ht 7 (zH 9 _ (by kernel_rfl))
  have e7 : _ = some (vs7 7) := t7.val rfl
  rw [show vs7 7 = zI 0 from t7.2.1] at e7
  replace hs := hs.learn e7
  have hs0 := hs.bare
  refine zEI hs rfl rfl ?_; clear hs; intro a w hs
  exact wpList_nil ⟨rfl, _, _, hs0, (.c .r), hs, rfl⟩
 clear hs w a; intro a w vs7 gs hs hf
 replace hs : St _ _ _ _ [blk g6 [zI ((zEl (zCV c.keep σ (zA bs)).l (zIw σ.l c.keep σ.floor σ.gone (zA bs))).t), zI ((zEl (zCV c.keep σ (zA bs)).l (zIw σ.l c.keep σ.floor σ.gone (zA bs))).tm), v4] 44, row v4 142 9 ((zEl (zCV c.keep σ (zA bs)).l (zIw σ.l c.keep σ.floor σ.gone (zA bs))).l.length) ((zEl (zCV c.keep σ (zA bs)).l (zIw σ.l c.keep σ.floor σ.gone (zA bs))).l.flatMap zBL), blk cg [zI c.ring, zI c.window, zI c.base, zI c.gain, zI c.least, zI c.most, zI c.slack, zI c.num, zI c.den, zI c.extra, .bool (c.curve), pt sp 0, pt p.k 0, nI fr] 77, X1, zFu c ((gs 7).on p.k) (zVi c Kc x ((zEl (zCV c.keep σ (zA bs)).l (zIw σ.l c.keep σ.floor σ.gone (zA bs))).tm))] _ _ := hs
 obtain ⟨e8, q8⟩ := hf 8 (by decide)
 replace e8 : _ = some (vs7 8) := e8.val rfl
 rw [show vs7 8 = zI 0 from q8] at e8
 replace hs := hs.learn e8; clear e8 q8
 generalize (gs 7) = z9 at hs
 clear hf
 revert a w hs
 refine goE 0 [] [6] .n ?_
 refine cl (·.drop (.c (.s .z) (.c .z .n))) ?_
 have hK2 : (zOQ c (⟨σ, Kc, fr⟩ : CS) x (zA bs)).K = zVi c Kc x ((zEl (zCV c.keep σ (zA bs)).l (zIw σ.l c.keep σ.floor σ.gone (zA bs))).tm) := if_pos hz0
 intro a w hs; exact fin hs rfl rfl ⟨by rw [hz0]; rfl, X1, (z9.on p.k), by rw [hK2], rfl, hX2⟩
theorem zUc (c : zAV) (L : List RI) (u : Value) (l : List zAE) (t : Int) (ht : R64 t) (most : Nat) (hl : sns L = l) (ho : Oks l most) (hw : Wfs l) (w0 : World) (hM : ∀ h ∈ ([row u 44 3 L.length (L.flatMap snV), rws 142 L] : List HA), h.p w0) : Calls Tryz.prog 14 #[.agg #[zI c.ring, zI c.window, zI c.base, zI c.gain, zI c.least, zI c.most, zI c.slack, zI c.num, zI c.den, zI c.extra, .bool (c.curve)], .int .i64 t, u] w0 (Ret w0 (zK [row u 44 3 L.length (L.flatMap snV), rws 142 L]) fun z N => ∃ v, z = .tuple #[v, nI ((zCM c l t).2)] ∧ N = [row v 52 6 (zCM c l t).1.length ((zCM c l t).1.flatMap zCJ)]) := by
 subst hl
 have h := zSZ c L u t ht w0 (zY5 (hM (rws 142 L) (by simp)) ho hw) (zQ (hM (row u 44 3 L.length (L.flatMap snV)) (by simp)))
 rw [zSq] at h
 exact h.mono (fun e w ⟨z, N, h1, h2, h3⟩ => ⟨z, N, h1, h2, h3.wide⟩)
theorem zSS (c : zAV) (cg sp : Nat) (p : KP) (fr : Nat) (σ : Stt) (Kc : KS) (X : HA) (x : Int) (hk : zDK c = 0) (hC : CS.ok c ⟨σ, Kc, fr⟩) (hX : Sto sp c.keep σ X) (hn : ∀ i, σ.n i ≤ 1000000) (hfr : fr ≤ 1000000) (hx : -9223372036854775808 ≤ x ∧ x ≤ 9223372036854775807) (w0 : World) (hM : ∀ h ∈ ([blk cg [zI c.ring, zI c.window, zI c.base, zI c.gain, zI c.least, zI c.most, zI c.slack, zI c.num, zI c.den, zI c.extra, .bool (c.curve), pt sp 0, pt p.k 0, nI fr] 77, X, zFu c p Kc] : List HA), h.p w0) (hnd : (zK [blk cg [zI c.ring, zI c.window, zI c.base, zI c.gain, zI c.least, zI c.most, zI c.slack, zI c.num, zI c.den, zI c.extra, .bool (c.curve), pt sp 0, pt p.k 0, nI fr] 77, X, zFu c p Kc]).Nodup) : Calls Tryz.prog 22 #[pt cg 0, .int .i64 x] w0 (Ret w0 (zK [blk cg [zI c.ring, zI c.window, zI c.base, zI c.gain, zI c.least, zI c.most, zI c.slack, zI c.num, zI c.den, zI c.extra, .bool (c.curve), pt sp 0, pt p.k 0, nI fr] 77, X, zFu c p Kc]) fun u N => ∃ (v : Value) (p' : KP), u = .agg #[.bool (zFM c (⟨σ, Kc, fr⟩ : CS) x).ready, zI (zFM c (⟨σ, Kc, fr⟩ : CS) x).time, v] ∧ N = [row v 52 6 (zFM c (⟨σ, Kc, fr⟩ : CS) x).l.length ((zFM c (⟨σ, Kc, fr⟩ : CS) x).l.flatMap zCJ), blk cg [zI c.ring, zI c.window, zI c.base, zI c.gain, zI c.least, zI c.most, zI c.slack, zI c.num, zI c.den, zI c.extra, .bool (c.curve), pt sp 0, pt p.k 0, nI (fr + 1)] 77, X, zFu c p' (zQG c Kc x)] ∧ p'.k = p.k) := by
 have ho := hX.oks; have hkk := hC.k; have hwf := hC.wf; dsimp only at hkk hwf
 refine zF (F0 := [(0, pt cg 0), (1, zI x)]) func22 rfl rfl rfl (.c (.c .n)) (Mem.start hM rfl hnd) ?_
 refine go 7 [] [14, 12, 4, 0, 1] .n (fun g1 => ?_)
 refine go 2 [0] [16, 12, 4, 0, 1] (.c (.s .z) .n) ⟨rfl, (by omega), ?_⟩
 have hv_ : (((fr : Nat) : Int) + 1 : Int) = (((fr + 1 : Nat) : Int) : Int) := by omega
 intro a w hs; rw [hv_] at hs; clear hv_
 revert a w hs
 refine go 8 [0, 0] [24, 23, 4, 0] (.c .z .n) ⟨rfl, rfl, ?_⟩
 intro a w hs; refine zL hs (.c rfl (.c rfl .n)) call51 (.c (.s (.s (.s .z))) .n) (zXB c p Kc x hk hkk ⟨by omega, by omega⟩ _ (hs.mem.del (.s (.s (.s .z))))) rfl ?_; clear hs w a; rintro _ _ a w ⟨rfl, kp2, rfl⟩ hs
 revert a w hs
 refine goL 7 [] [29, 5, 4, 0] .n ?_
 refine ifG rfl (fun c_3 => ?_) (fun c_3 => ?_)
 ·
  refine go 2 [0] [4] (.c (.s (.s .z)) .n) ⟨rfl, ?_⟩
  have hS : (zFM c (⟨σ, Kc, fr⟩ : CS) x) = ⟨false, 0, []⟩ := if_neg (show ¬ 0 < Kc.l2.length by assumption)
  refine cl (·.addNil 52 6) ?_
  intro a w hs; replace hs := hs.rerow .z (m' := (zFM c (⟨σ, Kc, fr⟩ : CS) x).l.length) (xs' := ((zFM c (⟨σ, Kc, fr⟩ : CS) x).l.flatMap zCJ)) (by rw [hS]; rfl) (by rw [hS]; rfl)
  replace hs := hs.reorder (.c .z (.c (.s (.s .z)) (.c (.s (.s .z)) (.c (.s .z) (.c .z .n)))))
  exact zKM hs rfl rfl (.s (.s (.s (.s .z)))) (.z (.c (.c (.c .n)))) isAgg36 sizeOf36 (.c (.s (.s (.s (.s .z)))) .n) ⟨.slice none 0 0, (kp2.on p.k), by rw [hS], rfl, rfl⟩
 have htr := zaT (c := c) (K := Kc) hx hkk
 refine go 0 [] [5, 4, 0] .n ?_
 intro a w hs
 refine zHe (Γ := Value × List RI) (M0 := [zFu c (kp2.on p.k) (zQG c Kc x), blk cg [zI c.ring, zI c.window, zI c.base, zI c.gain, zI c.least, zI c.most, zI c.slack, zI c.num, zI c.den, zI c.extra, .bool (c.curve), pt sp 0, pt p.k 0, zI (((fr : Nat) : Int) + 1)] 77, blk g1 [.bool (false), zI 0, .slice none 0 0] 36, X]) (Ds := fun gs => [Pv 0 (pt cg 0), Pv 1 (pt cg 0), Pv 2 (pt cg 0), Pv 3 (.agg #[zI c.ring, zI c.window, zI c.base, zI c.gain, zI c.least, zI c.most, zI c.slack, zI c.num, zI c.den, zI c.extra, .bool (c.curve)]), Pv 4 (zI (kTm c Kc x)), Pv 5 (pt cg 0), ⟨[], [], [], fun vs4 => vs4 6 = ((gs 6).1) ∧ sns ((gs 6).2) = σ.l, fun vs4 => [row ((gs 6).1) 44 3 (((gs 6).2).length) (((gs 6).2).flatMap snV), rws 142 ((gs 6).2)], none⟩, ⟨[], [6], [], fun vs4 => vs4 7 = .tuple #[(zFW (vs4 7)), nI ((zCM c σ.l (kTm c Kc x)).2)], fun vs4 => [row (zFW (vs4 7)) 52 6 ((zCM c σ.l (kTm c Kc x)).1.length) ((zCM c σ.l (kTm c Kc x)).1.flatMap zCJ)], none⟩, ⟨[], [], [7], fun vs4 => vs4 8 = .tuple #[(zFW (vs4 7)), nI ((zCM c σ.l (kTm c Kc x)).2)], fun vs4 => [], none⟩, ⟨[], [], [7], fun vs4 => vs4 9 = (zFW (vs4 7)), fun vs4 => [], none⟩, Pv 10 (nI ((zCM c σ.l (kTm c Kc x)).2)), ⟨[], [], [7], fun vs4 => vs4 11 = (zFW (vs4 7)), fun vs4 => [], none⟩, Pv 12 (nI ((zCM c σ.l (kTm c Kc x)).2))]) [[], [], [], [], [], [], [6], [], [], [], [], [], []] ((.slice none 0 0 : Value), (default : List RI)) (by kernel_rfl) hs rfl .n (by kernel_rfl) (fun _ => by kernel_rfl) (fun _ _ => rfl) (fun us_ us'_ => (.c (fun _ => rfl) (.c (fun _ => rfl) (.c (fun _ => rfl) (.c (fun _ => rfl) (.c (fun _ => rfl) (.c (fun _ => rfl) (.c (fun h => by have e6 := h 6 (by simp); simp only [e6]) (.c (fun _ => rfl) (.c (fun _ => rfl) (.c (fun _ => rfl) (.c (fun _ => rfl) (.c (fun _ => rfl) (.c (fun _ => rfl) .n)))))))))))))) (by kernel_rfl) rfl (by kernel_rfl) (fun gs => ?_) ?_
 ·
  refine (.c ?_ (.c ?_ (.c ?_ (.c ?_ (.c ?_ (.c ?_ (.g ?_ (.c ?_ (.c ?_ (.c ?_ (.c ?_ (.c ?_ (.c ?_ .n)))))))))))))
  · exact zAj (m := 13) .n (fun hm0 hm hx => .n) (by kernel_rfl) (by kernel_rfl) rfl
  · exact zAj (m := 13) (.c (k := 0) (by kernel_rfl) rfl rfl .n) (fun hm0 hm hx => .n) (by kernel_rfl) (by kernel_rfl) rfl
  · exact zAj (m := 13) (.c (k := 1) (by kernel_rfl) rfl rfl .n) (fun hm0 hm hx => .n) (by kernel_rfl) (by kernel_rfl) rfl
  · exact zAj (m := 13) (.c (k := 2) (by kernel_rfl) rfl rfl .n) (fun hm0 hm hx => (.c (hm0.del (.s .z)))) (by kernel_rfl) (by kernel_rfl) rfl
  · exact zAj (m := 13) .n (fun hm0 hm hx => .n) (by kernel_rfl) (by kernel_rfl) rfl
  · exact zAj (m := 13) .n (fun hm0 hm hx => .n) (by kernel_rfl) (by kernel_rfl) rfl
  ·
   intro a_ w_ R_ rest_ vs4 hm hs ht hx
   have hm0 := hm.mid
   replace hs := hs.lrn (ht 5 (zH 13 _ (by kernel_rfl))) rfl rfl
   have hs0 := hs.bare
   refine zL hs (.c rfl .n) call30 .n (zKi c cg sp p _ σ _ hX _ (hm0.del (.s .z)) (hm0.del (.s (.s (.s .z))))) rfl ?_; clear hs; rintro u5 _ a w ⟨L6, hL7, rfl⟩ hs
   exact wpList_nil ⟨rfl, (u5, L6), _, _, hs0, (.c .r), hs, ⟨rfl, hL7⟩⟩
  ·
   intro a_ w_ R_ rest_ vs4 hm hs ht hx
   replace hs : St _ _ _ (zK [row ((gs 6).1) 44 3 (((gs 6).2).length) (((gs 6).2).flatMap snV), rws 142 ((gs 6).2)]) [row ((gs 6).1) 44 3 (((gs 6).2).length) (((gs 6).2).flatMap snV), rws 142 ((gs 6).2)] _ _ := hs
   have hm0 := hm.mid
   replace hs := hs.lrn (ht 3 (zH 13 _ (by kernel_rfl))) rfl rfl
   replace hs := hs.lrn (ht 4 (zH 13 _ (by kernel_rfl))) rfl rfl
   have t6 := ht 6 (zH 13 _ (by kernel_rfl))
   have e6 : _ = some (vs4 6) := t6.val rfl
   rw [show vs4 6 = ((gs 6).1) from t6.2.1.1] at e6
   have hL7 : sns ((gs 6).2) = σ.l := t6.2.1.2
   replace hs := hs.learn e6
   have hs0 := hs.bare
   refine zL hs (.c rfl (.c rfl (.c rfl .n))) call14 (.c .z (.c .z .n)) (zUc c ((gs 6).2) ((gs 6).1) σ.l (kTm c Kc x) htr _ (by assumption) ho hwf _ (hs.mem.allX (.c .z (.c .z .n)))) rfl ?_; clear hs; rintro _ _ a w ⟨v8, rfl, rfl⟩ hs
   exact wpList_nil ⟨rfl, _, _, hs0, (.c (.c (.c .r))), hs, rfl⟩
  ·
   intro a_ w_ R_ rest_ vs4 hm hs ht hx
   have hm0 := hm.mid
   have t7 := ht 7 (zH 13 _ (by kernel_rfl))
   have e7 : _ = some (vs4 7) := t7.val rfl
   rw [show vs4 7 = .tuple #[(zFW (vs4 7)), nI ((zCM c σ.l (kTm c Kc x)).2)] from t7.2.1] at e7
   replace hs := hs.learn e7
   have hs0 := hs.bare
   refine zFd hs rfl rfl ?_; clear hs; intro a w hs
   exact wpList_nil ⟨rfl, _, _, hs0, (.c .r), hs, rfl⟩
  ·
   intro a_ w_ R_ rest_ vs4 hm hs ht hx
   have hm0 := hm.mid
   have t8 := ht 8 (zH 13 _ (by kernel_rfl))
   have e8 : _ = some (vs4 8) := t8.val rfl
   rw [show vs4 8 = .tuple #[(zFW (vs4 7)), nI ((zCM c σ.l (kTm c Kc x)).2)] from t8.2.1] at e8
   replace hs := hs.learn e8
   have hs0 := hs.bare
   refine zGv hs rfl .z rfl ?_; clear hs; intro a w hs
   exact wpList_nil ⟨rfl, _, _, hs0, (.c .r), hs, rfl⟩
  ·
   intro a_ w_ R_ rest_ vs4 hm hs ht hx
   have hm0 := hm.mid
   have t8 := ht 8 (zH 13 _ (by kernel_rfl))
   have e8 : _ = some (vs4 8) := t8.val rfl
   rw [show vs4 8 = .tuple #[(zFW (vs4 7)), nI ((zCM c σ.l (kTm c Kc x)).2)] from t8.2.1] at e8
   replace hs := hs.learn e8
   have hs0 := hs.bare
   refine zGv hs rfl (.s .z) rfl ?_; clear hs; intro a w hs
   exact wpList_nil ⟨rfl, _, _, hs0, (.c .r), hs, rfl⟩
  ·
   intro a_ w_ R_ rest_ vs4 hm hs ht hx
   have hm0 := hm.mid
   have t9 := ht 9 (zH 13 _ (by kernel_rfl))
   have e9 : _ = some (vs4 9) := t9.val rfl
   rw [show vs4 9 = (zFW (vs4 7)) from t9.2.1] at e9
   replace hs := hs.learn e9
   have hs0 := hs.bare
   refine zEI hs rfl rfl ?_; clear hs; intro a w hs
   exact wpList_nil ⟨rfl, _, _, hs0, (.c .r), hs, rfl⟩
  exact zAj (m := 13) (.c (k := 10) (by kernel_rfl) rfl rfl .n) (fun hm0 hm hx => .n) (by kernel_rfl) (by kernel_rfl) rfl
 clear hs w a; intro a w vs4 gs hs hf
 replace hs : St _ _ _ _ [zFu c (kp2.on p.k) (zQG c Kc x), blk cg [zI c.ring, zI c.window, zI c.base, zI c.gain, zI c.least, zI c.most, zI c.slack, zI c.num, zI c.den, zI c.extra, .bool (c.curve), pt sp 0, pt p.k 0, zI (((fr : Nat) : Int) + 1)] 77, blk g1 [.bool (false), zI 0, .slice none 0 0] 36, X, row (zFW (vs4 7)) 52 6 ((zCM c σ.l (kTm c Kc x)).1.length) ((zCM c σ.l (kTm c Kc x)).1.flatMap zCJ)] _ _ := hs
 obtain ⟨e6, q6⟩ := hf 6 (by decide)
 replace e6 : _ = some (vs4 6) := e6.val rfl
 obtain ⟨q6, hL7⟩ := q6
 rw [show vs4 6 = ((gs 6).1) from q6] at e6
 replace hs := hs.learn e6; clear e6 q6
 obtain ⟨e11, q11⟩ := hf 11 (by decide)
 replace e11 : _ = some (vs4 11) := e11.val rfl
 rw [show vs4 11 = (zFW (vs4 7)) from q11] at e11
 replace hs := hs.learn e11; clear e11 q11
 generalize ((gs 6).1) = v9 at hs
 generalize ((gs 6).2) = z10 at hs hL7
 generalize zFW (vs4 7) = v11 at hs
 clear hf
 revert a w hs
 refine goE 2 [] [43, 42, 4] .n ?_
 intro a w hs; refine zHC (it := Tryz.t36) (zs := [.bool (false), zI 0, .slice none 0 0]) (places := [(0, 1), (1, 1), (2, 1)]) hs (.c rfl (.c rfl (.c rfl .n))) underlying36 rfl rfl rfl rfl (.c rfl rfl (.z (.c .n)) (.c rfl rfl (.s (.z (.c .n))) (.c rfl (zQ (hs.mem.del (.s (.s (.s (.s .z)))))).isSl.lcells (.s (.s (.z (.c .n)))) .n))) rfl ?_
 intro a w hs; refine zAv hs rfl rfl (.s (.s .z)) (.z (.c (.c (.c .n)))) (zN rfl (zN rfl (zN (zQ (hs.mem.del (.s (.s (.s (.s .z)))))).isSl.one zAn))) sizeOf36 rfl ?_
 refine goL 0 [] [4] .n ?_
 have hS : (zFM c (⟨σ, Kc, fr⟩ : CS) x) = ⟨true, kTm c Kc x, (zCM c σ.l (kTm c Kc x)).1⟩ := if_pos (show 0 < Kc.l2.length by assumption)
 refine cl (·.rerow (.s (.s (.s (.s .z)))) (m' := (zFM c (⟨σ, Kc, fr⟩ : CS) x).l.length) (xs' := ((zFM c (⟨σ, Kc, fr⟩ : CS) x).l.flatMap zCJ)) (by rw [hS]) (by rw [hS])) ?_
 refine cl (·.reorder (.c .z (.c (.s (.s .z)) (.c (.s (.s .z)) (.c (.s .z) (.c .z .n)))))) ?_
 intro a w hs; exact zKM hs rfl rfl (.s (.s (.s (.s .z)))) (.z (.c (.c (.c .n)))) isAgg36 sizeOf36 (.c (.s (.s (.s (.s .z)))) .n) ⟨v11, (kp2.on p.k), by rw [hS], rfl, rfl⟩
def Cli (g : Nat) (c : zAV) (C : CS) (Y : HA) : Prop := ∃ (sp : Nat) (p : KP) (X : HA), Sto sp c.keep C.σ X ∧ Y = zGB [(blk g [zI c.ring, zI c.window, zI c.base, zI c.gain, zI c.least, zI c.most, zI c.slack, zI c.num, zI c.den, zI c.extra, .bool (c.curve), pt sp 0, pt p.k 0, nI C.fr] 77), X, zFu c p C.K]
theorem zPR (c : zAV) (hk : zDK c = 0) (w0 : World) : Calls Tryz.prog 25 #[.int .i64 c.ring] w0 (Ret w0 [] fun z N => ∃ p X, z = .tuple #[pt p 0, .int .i64 0] ∧ N = [X] ∧ Sto p c.keep zYX X) := by
 obtain ⟨h1, h2, h3⟩ := zKk hk
 have h := zYT c.keep w0 ⟨h2, h3⟩
 rw [show nI c.keep = .int .i64 c.ring from congrArg (Value.int .i64) h1] at h
 exact h
theorem zTv (c : zAV) (hk : zDK c ≠ 0) (w0 : World) : Calls Tryz.prog 8 #[.agg #[zI c.ring, zI c.window, zI c.base, zI c.gain, zI c.least, zI c.most, zI c.slack, zI c.num, zI c.den, zI c.extra, .bool (c.curve)]] w0 (zAc w0 (.tuple #[.pointer none, nI (zDK c)])) := by
 refine zF (F0 := [(0, .agg #[zI c.ring, zI c.window, zI c.base, zI c.gain, zI c.least, zI c.most, zI c.slack, zI c.num, zI c.den, zI c.extra, .bool (c.curve)])]) func8 rfl rfl rfl (.c .n) (Mem.nil _) ?_
 refine go 4 [0, 0] [8, 1] .n (fun g1 => ⟨rfl, ?_⟩)
 intro a w hs; refine zB (v := .tuple #[.pointer none, nI (zDK c)]) hs (.c rfl .n) call24 (zTi c hk _) rfl ?_
 refine goL 7 [] [13, 5, 4, 1] .n ?_
 refine ifG rfl (fun c_2 => ?_) (fun c_2 => ?_)
 ·
  refine go 3 [] [3, 2] .n ?_
  refine cl (·.drop (.c .z .n)) ?_
  intro a w hs; exact zBI hs rfl rfl rfl ⟨rfl, rfl⟩
 exfalso; omega
theorem zRd (c : zAV) (hk : zDK c = 0) (w0 : World) : Calls Tryz.prog 8 #[.agg #[zI c.ring, zI c.window, zI c.base, zI c.gain, zI c.least, zI c.most, zI c.slack, zI c.num, zI c.den, zI c.extra, .bool (c.curve)]] w0 (Ret w0 [] fun u N => ∃ (g : Nat) (Y : HA), u = .tuple #[pt g 0, .int .i64 0] ∧ N = [Y] ∧ Cli g c (C0 c) Y) := by
 refine zF (F0 := [(0, .agg #[zI c.ring, zI c.window, zI c.base, zI c.gain, zI c.least, zI c.most, zI c.slack, zI c.num, zI c.den, zI c.extra, .bool (c.curve)])]) func8 rfl rfl rfl (.c .n) (Mem.nil _) ?_
 refine go 4 [0, 0] [8, 1] .n (fun g1 => ⟨rfl, ?_⟩)
 intro a w hs; refine zL hs (.c rfl .n) call24 .n (zVS c hk _) rfl ?_; clear hs w a; rintro _ _ a w ⟨kp2, rfl, rfl⟩ hs
 revert a w hs
 refine goL 10 [0] [17, 4, 1] (.c (.s .z) .n) ⟨rfl, ?_⟩
 intro a w hs; refine zL hs (.c rfl .n) call25 .n (zPR c hk _) rfl ?_; clear hs w a; rintro _ _ a w ⟨g3, X4, rfl, rfl, hX5⟩ hs
 revert a w hs
 refine goL 15 [0, 0] [3, 2] (.c (.s .z) .n) ⟨rfl, fun g6 => ?_⟩
 refine cl (·.drop (.c (.s .z) .n)) ?_
 intro a w hs; replace hs := hs.memTo hs.mem.sep
 exact zBI hs rfl rfl rfl ⟨g6, _, rfl, rfl, g3, kp2, X4, hX5, rfl⟩
theorem zOe (c : zAV) (cg sp : Nat) (p : KP) (fr : Nat) (σ : Stt) (Kc : KS) (X : HA) (hX : Sto sp c.keep σ X)  (w0 : World) (hcg : (blk cg [zI c.ring, zI c.window, zI c.base, zI c.gain, zI c.least, zI c.most, zI c.slack, zI c.num, zI c.den, zI c.extra, .bool (c.curve), pt sp 0, pt p.k 0, nI fr] 77).p w0) (hXp : X.p w0) (hKp : (zFu c p Kc).p w0) : Calls Tryz.prog 17 #[pt cg 0] w0 (zAc w0 (nI (σ.n 0))) := by
 refine zF (F0 := [(0, pt cg 0)]) func17 rfl rfl rfl (.c .n) (Mem.nil _) ?_
 refine go 7 [] [7] .n ?_
 intro a w hs; refine zT hs rfl (hs.mem.keep hcg (by simp [zK, blk])) (.s (.s (.s (.s (.s (.s (.s (.s (.s (.s (.s .z))))))))))) isAgg73 rfl ?_
 intro a w hs; refine zB (v := nI (σ.n 0)) hs (.c rfl .n) call39 (zUZ hX _ (hs.mem.keepH hXp (by simp))) rfl ?_
 refine goL 1 [] [2] .n ?_
 intro a w hs; exact fin hs rfl rfl ⟨rfl, rfl⟩
theorem zKv (c : zAV) (cg sp : Nat) (p : KP) (fr : Nat) (σ : Stt) (Kc : KS) (X : HA) (hX : Sto sp c.keep σ X) (e : Int) (he : -9223372036854775808 ≤ e ∧ e ≤ 9223372036854775807) (w0 : World) (hcg : (blk cg [zI c.ring, zI c.window, zI c.base, zI c.gain, zI c.least, zI c.most, zI c.slack, zI c.num, zI c.den, zI c.extra, .bool (c.curve), pt sp 0, pt p.k 0, nI fr] 77).p w0) (hXp : X.p w0) (hKp : (zFu c p Kc).p w0) : Calls Tryz.prog 16 #[pt cg 0, .int .i64 e] w0 (zAc w0 (nI (zE6 σ.n e))) := by
 refine zF (F0 := [(0, pt cg 0), (1, zI e)]) func16 rfl rfl rfl (.c (.c .n)) (Mem.nil _) ?_
 refine go 7 [] [9, 1] .n ?_
 intro a w hs; refine zT hs rfl (hs.mem.keep hcg (by simp [zK, blk])) (.s (.s (.s (.s (.s (.s (.s (.s (.s (.s (.s .z))))))))))) isAgg73 rfl ?_
 refine goL 1 [] [11, 10] .n ?_
 intro a w hs; refine zB (v := nI (zE6 σ.n e)) hs (.c rfl (.c rfl .n)) call38 (zOT hX e _ (hs.mem.keepH hXp (by simp)) (by omega)) rfl ?_
 refine goL 1 [] [4] .n ?_
 intro a w hs; exact fin hs rfl rfl ⟨rfl, rfl⟩
theorem zQ8 (c : zAV) (cg sp : Nat) (p : KP) (fr : Nat) (σ : Stt) (Kc : KS) (X : HA) (hX : Sto sp c.keep σ X) (w0 : World) (hcg : (blk cg [zI c.ring, zI c.window, zI c.base, zI c.gain, zI c.least, zI c.most, zI c.slack, zI c.num, zI c.den, zI c.extra, .bool (c.curve), pt sp 0, pt p.k 0, nI fr] 77).p w0) (hXp : X.p w0) (hKp : (zFu c p Kc).p w0) : Calls Tryz.prog 12 #[pt cg 0] w0 (Ret w0 [] fun z N => N = [row z 2 1 σ.l.length (iV (σ.l.map zAE.t))]) := by
 have ho := hX.oks; have ho1 := ho.le; have ho2 := ho.m64
 refine zF (F0 := [(0, pt cg 0)]) func12 rfl rfl rfl (.c .n) (Mem.nil _) ?_
 refine go 6 [] [8, 3] .n ?_
 intro a w hs; refine zL hs (.c rfl .n) call30 .n (zKi c cg sp p _ σ _ hX _ (hs.mem.keep hcg (by simp [zK, blk])) (hs.mem.keepH hXp (by simp))) rfl ?_; clear hs w a; rintro u1 _ a w ⟨L2, hL3, rfl⟩ hs
 refine zAI hs rfl (zQ (hs.mem.del .z)).isSl underlying39 rfl ?_
 refine goL 1 [] [11, 10, 9, 3] .n ?_
 intro a w hs; have hivL := zDs (hs.mem.del (.s .z))
 have hlL : L2.length = σ.l.length := by rw [← zAG, (by assumption : sns L2 = σ.l)]
 replace hs := hs.addNil 2 1
 replace hs := hs.rerow .z (m' := 0) (xs' := (iV ((L2.take 0).map RI.t))) (rfl) (rfl)
 refine zCf (fun mm_ a w => ∃ j : Nat, ∃ z : Value, mm_ = L2.length - j ∧ St 22 [(3, z), (9, u1), (10, nI L2.length), (11, zI (j : Int))] w0 [] [row z 2 1 j (iV ((L2.take j).map RI.t)), row u1 44 3 L2.length (L2.flatMap snV), rws 142 L2] a w ∧ j ≤ L2.length) ⟨0, .slice none 0 0, rfl, hs.sub (.c rfl (.c rfl (.c rfl (.c rfl .n)))), by omega⟩ ?_
 clear hs w a; rintro mm_ a w ⟨j, z, rfl, hs, hI1_0⟩
 revert a w hs
 refine go 1 [] [12, 3, 9, 10, 11] .n ?_
 refine ifG rfl (fun c_4 => ?_) (fun c_4 => ?_)
 ·
  refine go 0 [] [3, 9, 10, 11] .n ?_
  intro a w hs; refine zBo (j := j) hs rfl rfl (zQ (hs.mem.del (.s .z))) rfl (by omega) underlying39 sizeOf44 rfl ?_
  intro a w hs; refine zBY (cs := snV (L2.getD j default)) hs rfl (zQ (hs.mem.del (.s .z))) (zAh zBy L2 j (by omega)) (by rw [zAa zBy]; omega) (by omega) isAgg44 sizeOf44 rfl ?_
  refine goL 6 [50, 0] [18, 15, 9, 10, 11] .n (fun g5 => ⟨rfl, (zN rfl (zN rfl (zN (hivL _ (zFK (by omega))).one zAn))), rfl, fun g6 => ?_⟩)
  intro a w hs; refine zBJ (size := 1) (bytes := 8) hs rfl rfl (.s (.s .z)) (zAH (m := 1) (size := 1) (hs.mem.del .z) rfl (by decide)) (by simp [Value.oneCell']) underlying40 (i := Tryz.t2) rfl rfl rfl rfl rfl (by decide) (by omega) (by simp only [maxLen]; omega) rfl ?_; intro v7
  refine cl (·.drop (.c (.s .z) .n)) ?_
  refine goL 3 [] [11, 3, 9, 10] .n ⟨(by omega), ?_⟩
  refine cl (·.rerow .z (m' := (j + 1)) (xs' := (iV ((L2.take (j + 1)).map RI.t))) (rfl) (zR2 (by omega))) ?_
  refine cl (·.drop (.c (.s .z) .n)) ?_
  intro a w hs; refine ⟨_, ?_, (j + 1), v7, rfl, hs.sub (.c rfl (.c rfl (.c rfl (.c rfl .n)))), by omega⟩
  omega
 refine go 2 [] [2] .n ?_
 refine cl (·.drop (.c (.s (.s .z)) (.c (.s .z) .n))) ?_
 refine cl (·.rerow .z (m' := σ.l.length) (xs' := (iV (σ.l.map zAE.t))) (by omega) (by rw [← zUY (by assumption : sns L2 = σ.l), List.take_of_length_le (by omega)])) ?_
 intro a w hs; exact fin hs rfl rfl rfl
theorem zL7 {g : Nat} {c : zAV} {C : CS} {Y : HA} (hY : Cli g c C Y) (hk : zDK c = 0) (hC : C.ok c) (hn : ∀ i, C.σ.n i ≤ 1000000) (hfr : C.fr ≤ 1000000) (x : Int) (hx : R64 x) {v : Value} {m : Nat} {bs : List zO} (w0 : World) (hp : Y.p w0) (hb : Rd w0 (zK [Y]) v 1 m (zC bs)) : Calls Tryz.prog 15 #[pt g 0, .int .i64 x, v] w0 (Ret w0 (zK [Y]) fun u N => u = nI (zBb c C (zA bs)) ∧ ∃ Y', N = [Y'] ∧ Cli g c (zOQ c C x (zA bs)) Y') := by
 obtain ⟨sp, p, X, hX, rfl⟩ := hY; obtain ⟨σ, Kc, fr⟩ := C; obtain ⟨hall, hnd⟩ := hp
 rw [zBv] at hb ⊢
 refine (zUe c g sp p fr σ Kc X x v m bs hk hC hX hn hfr hx w0 hall hnd hb).mono ?_
 rintro e w ⟨u, N, rfl, ⟨rfl, X', p', rfl, h1, h2⟩, hM⟩
 exact ⟨_, _, rfl, ⟨rfl, _, rfl, sp, p', X', h2, by rw [h1]; rfl⟩, hM.sep⟩
theorem zYA {g : Nat} {c : zAV} {C : CS} {Y : HA} (hY : Cli g c C Y) (hk : zDK c = 0) (hC : C.ok c) (hn : ∀ i, C.σ.n i ≤ 1000000) (hfr : C.fr ≤ 1000000) (x : Int) (hx : R64 x) (w0 : World) (hp : Y.p w0) : Calls Tryz.prog 22 #[pt g 0, .int .i64 x] w0 (Ret w0 (zK [Y]) fun u N => ∃ v, u = .agg #[.bool (zFM c C x).ready, zI (zFM c C x).time, v] ∧ ∃ Y', N = [row v 52 6 (zFM c C x).l.length ((zFM c C x).l.flatMap zCJ), Y'] ∧ Cli g c (zaw c C x) Y') := by
 obtain ⟨sp, p, X, hX, rfl⟩ := hY; obtain ⟨σ, Kc, fr⟩ := C; obtain ⟨hall, hnd⟩ := hp
 rw [zBv]
 refine (zSS c g sp p fr σ Kc X x hk hC hX hn hfr hx w0 hall hnd).mono ?_
 rintro e w ⟨u, N, rfl, ⟨v, p', rfl, rfl, h1⟩, hM⟩
 exact ⟨_, _, rfl, ⟨v, rfl, _, rfl, sp, p', X, hX, by rw [h1]; rfl⟩, Mem.resep (A := [row v 52 6 _ _]) hM⟩
theorem zRZ {g : Nat} {c : zAV} {C : CS} {Y : HA} (hY : Cli g c C Y)  (w0 : World) (hp : Y.p w0) : Calls Tryz.prog 17 #[pt g 0] w0 (zAc w0 (nI (C.σ.n 0))) := by
 obtain ⟨sp, p, X, hX, rfl⟩ := hY; obtain ⟨σ, Kc, fr⟩ := C; obtain ⟨hall, hnd⟩ := hp
 exact zOe c g sp p fr σ Kc X hX w0 (hall _ (by simp)) (hall _ (by simp)) (hall _ (by simp))
theorem zHo {g : Nat} {c : zAV} {C : CS} {Y : HA} (hY : Cli g c C Y) (e : Int) (he : R64 e) (w0 : World) (hp : Y.p w0) : Calls Tryz.prog 16 #[pt g 0, .int .i64 e] w0 (zAc w0 (nI (zE6 C.σ.n e))) := by
 obtain ⟨sp, p, X, hX, rfl⟩ := hY; obtain ⟨σ, Kc, fr⟩ := C; obtain ⟨hall, hnd⟩ := hp
 exact zKv c g sp p fr σ Kc X hX e he w0 (hall _ (by simp)) (hall _ (by simp)) (hall _ (by simp))
theorem zTw {g : Nat} {c : zAV} {C : CS} {Y : HA} (hY : Cli g c C Y) (w0 : World) (hp : Y.p w0) : Calls Tryz.prog 12 #[pt g 0] w0 (Ret w0 [] fun z N => N = [row z 2 1 C.σ.l.length (iV (C.σ.l.map zAE.t))]) := by
 obtain ⟨sp, p, X, hX, rfl⟩ := hY; obtain ⟨σ, Kc, fr⟩ := C; obtain ⟨hall, hnd⟩ := hp
 exact zQ8 c g sp p fr σ Kc X hX w0 (hall _ (by simp)) (hall _ (by simp)) (hall _ (by simp))
end Go.Proofs.YtemnjodhidlfpaaGreat
