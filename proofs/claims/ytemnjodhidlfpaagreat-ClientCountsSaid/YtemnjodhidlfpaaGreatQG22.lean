import Derived.Test.YtemnjodhidlfpaaGreatQG20
import Derived.Test.YtemnjodhidlfpaaGreatQG21
import Derived.Test.YtemnjodhidlfpaaGreatQSxBasB
/- Walks of what bytes tell: what each function does, over the program of this seat. Printed by a program of this session. -/
namespace Go.Proofs.YtemnjodhidlfpaaGreat
open Tryz
open Go Go.Sx Go.RowKit
set_option linter.unusedVariables false
set_option linter.unusedSimpArgs false
set_option maxRecDepth 4000
set_option maxHeartbeats 1000000

theorem zXQ (p g : Nat) (u : Value) (l : List RI) (most : Nat) (fl : Int) (gone : Bool) (N : Nat → Nat) (v : Value) (m : Nat) (bs : List zO) (w0 : World) (hp : (blk p [pt g 0, nI most, nI (N 0), nI (N 1), nI (N 2), nI (N 3), nI (N 4), nI (N 5), nI (N 6), nI (N 7), nI (N 8), nI (N 9), nI (N 10), nI (N 11), nI (N 12), nI (N 13), nI (N 14), nI (N 15), nI (N 16), nI (N 17)] 127).p w0) (hg : (blk g [u, nI most, zI fl, .bool (gone)] 186).p w0) (hu : Rd w0 [] u 4 l.length (l.flatMap riV)) (hrw : (rws 142 l).p w0) (ho : Oks (sns l) most) (hb : Rd w0 [] v 1 m (zC bs)) : Calls Tryz.prog 75 #[pt p 0, v] w0 (Ret w0 [] fun z Nn => ∃ (X : zAE) (xv : Value), z = .tuple #[.agg #[.int .i64 X.t, .int .i64 X.tm, xv], nI (zBd (sns l) most fl gone (zA bs))] ∧ (zBd (sns l) most fl gone (zA bs) = 0 → X = (zAX (sns l) (zA bs))) ∧ Nn = [row xv 142 9 X.l.length (X.l.flatMap zBL)]) := by
 have hbl : bs.length = m := by have := hb.len; simpa [zC] using this
 have hbe : m ≤ maxLen := hb.le
 simp only [maxLen] at hbe
 have hiv := zDs hrw
 have hsr := ho.srt
 have hll : l.length ≤ 100000 := by have := ho.le; have := ho.m64; rw [zAG] at *; omega
 have hgl := zHI bs
 have hbr := zM5 ho (zA bs).b
 refine zF (F0 := [(0, pt p 0), (1, v)]) func75 rfl rfl rfl (.c (.c .n)) (Mem.nil _) ?_
 refine go 3 [] [13, 5, 4, 0] .n (fun g1 => fun g2 => ?_)
 intro a w hs; refine zL hs (.c rfl .n) call18 .n (zUJ _ _ bs _ (hs.rd0 hb)) rfl ?_; clear hs w a; rintro _ _ a w ⟨v3, rfl, rfl⟩ hs
 have hk4 := zHI bs
 revert a w hs
 refine goL 4 [] [6, 16, 15, 5, 4, 0] .n (fun g5 => ?_)
 intro a w hs; refine zAv hs rfl rfl .z (.z (.c (.c (.c (.c .n))))) (zN rfl (zN rfl (zN rfl (zN (zQ (hs.mem.del (.s .z))).isSl.one zAn)))) sizeOf60 rfl ?_
 refine goL 3 [0, 0] [18, 6, 5, 4, 0] (.c (.s (.s .z)) .n) ⟨rfl, rfl, ?_⟩
 refine ifG rfl (fun c_6 => ?_) (fun c_6 => ?_)
 ·
  refine cl (·.addNil 142 9) ?_
  refine go 0 [] [5, 4] .n ?_
  intro a w hs
  refine zR [.l [] [0] [2] [], .l [] [0] [3] [], .s [0] [0] [0] [], .s [1] [0] [1] []] [] hs (.c (.s (.s (.s (.s .z)))) (.c (.s .z) .n)) .n (by kernel_rfl) ⟨rfl, rfl, rfl, rfl, ⟨rfl, by kernel_rfl, fun _ => rfl, rfl, rfl, trivial⟩, fun _ => rfl, ?_⟩
  refine goE 0 [] [5, 4] .n ?_
  intro a w hs; exact zPq hs rfl rfl rfl (.s (.s (.s .z))) (.z (.c (.c (.c .n)))) isAgg44 sizeOf44 (.s (.s (.s (.s .z)))) .z isAgg26 (.c (.s (.s (.s (.s .z)))) (.c (.s (.s (.s .z))) (.c (.s (.s .z)) (.c (.s .z) .n)))) ⟨default, _, by rw [zVF (by omega)] <;> rfl, fun h => absurd h (by rw [zVF (by omega)]; omega), rfl⟩
 refine go 2 [] [7, 6, 5, 4, 0] .n ?_
 intro a w hs
 refine zAN [.p [] [], .p [0] [], .p [1] [], .v [2] (pt g 0), .p [] [], .p [4] [0], .v [5, 3] (.tuple #[.agg #[zI ((zAS l ((zA bs).t)).t), zI ((zAS l ((zA bs).t)).tm), (zAS l ((zA bs).t)).v], .bool (zDp (sns l) ((zA bs).t))]), .p [6] [], .p [7] [], .p [7] [], .x [] ⟨[], [], [], fun vs8 => vs8 10 = pt (zCo (vs8 10)) 0, fun vs8 => [blk (zCo (vs8 10)) [zI 0, zI 0, .slice none 0 0] 44], none⟩, .x [8] ⟨[], [10], [10], fun vs8 => True, fun vs8 => [blk (zCo (vs8 10)) [zI ((zAS l ((zA bs).t)).t), zI ((zAS l ((zA bs).t)).tm), (zAS l ((zA bs).t)).v] 44], none⟩, .p [9] []] [12] hs .n .n (.c (.s .z) .n) (by kernel_rfl) ⟨fun _ _ _ _ hm hs K => zT hs rfl (hm.keep hp (by simp [zK, blk])) .z isAgg123 rfl (vk K), rfl, fun _ _ _ _ hm hs K => zB (v := .tuple #[.agg #[zI ((zAS l ((zA bs).t)).t), zI ((zAS l ((zA bs).t)).tm), (zAS l ((zA bs).t)).v], .bool (zDp (sns l) ((zA bs).t))]) hs (.c rfl (.c rfl .n)) call63 (zGF g _ l most fl gone ((zA bs).t) _ (hm.rd0 hu) (hm.keep hg (by simp [zK, blk])) hsr (by omega) hiv) rfl (vk K), ⟨.n, by kernel_rfl, fun _ => rfl, rfl, rfl⟩, ⟨?_, ?_, trivial⟩, ?_⟩
 ·
  intro a_ w_ R_ rest_ vs8 hm hs ht hx
  have hs0 := hs.bare
  refine zCX (cs := [zI 0, zI 0, .slice none 0 0]) hs zeroValue44 rfl rfl ?_; clear hs; intro g9 a w hs
  exact wpList_nil ⟨rfl, _, _, hs0, .r, hs, rfl⟩
 ·
  intro a_ w_ R_ rest_ vs8 hm hs ht hx
  have t10 := ht 10 (zH 13 _ (by kernel_rfl))
  have e10 : _ = some (vs8 10) := t10.val rfl
  rw [show vs8 10 = pt (zCo (vs8 10)) 0 from t10.2.1] at e10
  replace hs := hs.learn e10
  have hs0 := hs.bare
  refine zAv hs rfl rfl .z (.z (.c (.c (.c .n)))) (zN rfl (zN rfl (zN (zEF (hm.keepH hrw (by simp)) (zEq l ((zA bs).t) hsr)).isSl.one zAn))) sizeOf44 rfl ?_; clear hs; intro a w hs
  exact wpList_nil ⟨rfl, .tuple #[], _, hs0, (.c (.c .r)), hs, trivial⟩
 clear hs w a; intro vs8 a w hs hf
 generalize zCo (vs8 10) = g10 at hs
 clear hf
 revert a w hs
 refine goE 2 [] [33, 32, 7, 6, 5, 4, 0] .n ?_
 intro a w hs; refine zA4 (us := [pt g2 0]) hs rfl (.c rfl (.c rfl .n)) rfl call112 (.c .z .n) (zEe (zDp (sns l) ((zA bs).t)) 12 ((zA bs).e) g2 _ _ (hs.mem.del .z)) rfl ?_; clear hs w a; rintro _ _ a w ⟨rfl, rfl⟩ hs
 revert a w hs
 refine goL 4 [0] [38, 36, 35, 7, 6, 5, 4, 0] (.c (.s .z) .n) ⟨rfl, ?_⟩
 intro a w hs; refine zB (v := .bool (stl (sns l) most fl gone ((zA bs).t))) hs (.c rfl (.c rfl .n)) call113 (zUH p g _ l most fl gone N ((zA bs).t) _ (hs.mem.keep hp (by simp [zK, blk])) (hs.mem.keep hg (by simp [zK, blk])) (hs.rd0 hu) (hs.mem.keepH hrw (by simp)) ho) rfl ?_
 intro a w hs; refine zA4 (us := [pt g2 0]) hs rfl (.c rfl (.c rfl .n)) rfl call112 (.c (.s .z) .n) (zEe (stl (sns l) most fl gone ((zA bs).t)) 13 (zFD ((zA bs).e) (zDp (sns l) ((zA bs).t)) 12) g2 _ _ (hs.mem.del (.s .z))) rfl ?_; clear hs w a; rintro _ _ a w ⟨rfl, rfl⟩ hs
 revert a w hs
 refine goL 0 [] [7, 6, 5, 4, 0] .n ?_
 intro a w hs
 refine zAN [.p [] [], .p [0] [], .p [1] [], .v [2] (pt g 0), .p [] [], .p [4] [0], .v [5, 3] (.tuple #[.agg #[zI ((zAS l ((zA bs).b)).t), zI ((zAS l ((zA bs).b)).tm), (zAS l ((zA bs).b)).v], .bool (zDp (sns l) ((zA bs).b))]), .p [6] [], .p [7] [], .p [7] [], .x [] ⟨[], [], [], fun vs11 => vs11 10 = pt (zCo (vs11 10)) 0, fun vs11 => [blk (zCo (vs11 10)) [zI 0, zI 0, .slice none 0 0] 44], none⟩, .x [8] ⟨[], [10], [10], fun vs11 => True, fun vs11 => [blk (zCo (vs11 10)) [zI ((zAS l ((zA bs).b)).t), zI ((zAS l ((zA bs).b)).tm), (zAS l ((zA bs).b)).v] 44], none⟩, .p [9] []] [12] hs .n .n (.c (.s .z) .n) (by kernel_rfl) ⟨fun _ _ _ _ hm hs K => zT hs rfl (hm.keep hp (by simp [zK, blk])) .z isAgg123 rfl (vk K), rfl, fun _ _ _ _ hm hs K => zB (v := .tuple #[.agg #[zI ((zAS l ((zA bs).b)).t), zI ((zAS l ((zA bs).b)).tm), (zAS l ((zA bs).b)).v], .bool (zDp (sns l) ((zA bs).b))]) hs (.c rfl (.c rfl .n)) call63 (zGF g _ l most fl gone ((zA bs).b) _ (hm.rd0 hu) (hm.keep hg (by simp [zK, blk])) hsr (by omega) hiv) rfl (vk K), ⟨.n, by kernel_rfl, fun _ => rfl, rfl, rfl⟩, ⟨?_, ?_, trivial⟩, ?_⟩
 ·
  intro a_ w_ R_ rest_ vs11 hm hs ht hx
  have hs0 := hs.bare
  refine zCX (cs := [zI 0, zI 0, .slice none 0 0]) hs zeroValue44 rfl rfl ?_; clear hs; intro g12 a w hs
  exact wpList_nil ⟨rfl, _, _, hs0, .r, hs, rfl⟩
 ·
  intro a_ w_ R_ rest_ vs11 hm hs ht hx
  have t10 := ht 10 (zH 13 _ (by kernel_rfl))
  have e10 : _ = some (vs11 10) := t10.val rfl
  rw [show vs11 10 = pt (zCo (vs11 10)) 0 from t10.2.1] at e10
  replace hs := hs.learn e10
  have hs0 := hs.bare
  refine zAv hs rfl rfl .z (.z (.c (.c (.c .n)))) (zN rfl (zN rfl (zN (zEF (hm.keepH hrw (by simp)) (zEq l ((zA bs).b) hsr)).isSl.one zAn))) sizeOf44 rfl ?_; clear hs; intro a w hs
  exact wpList_nil ⟨rfl, .tuple #[], _, hs0, (.c (.c .r)), hs, trivial⟩
 clear hs w a; intro vs11 a w hs hf
 obtain ⟨e10, q10⟩ := hf 10 (by decide)
 replace e10 : _ = some (vs11 10) := e10.val rfl
 rw [show vs11 10 = pt (zCo (vs11 10)) 0 from q10] at e10
 replace hs := hs.learn e10; clear e10 q10
 generalize zCo (vs11 10) = g13 at hs
 clear hf
 revert a w hs
 refine goE 4 [] [54, 51, 10, 7, 6, 5, 4, 0] .n ?_
 intro a w hs; refine zV (b := !(zDp (sns l) ((zA bs).b))) (fun c_14 => ?_) (fun c_14 => ?_)
 ·
  rw [c_14] at hs
  replace c_14 := zF8 c_14
  revert a w hs
  refine go 4 [0] [58, 51, 10, 7, 6, 5, 4, 0] (.c (.s .z) .n) ⟨rfl, ?_⟩
  intro a w hs; replace hs := hs.reslot (d := 58) (v := .bool (decide (0 ≤ ((zA bs).b)))) (v' := .bool (zIR (sns l) (zA bs).b)) rfl (Option.some.inj (congrArg (fun b => some (Value.bool b)) (by unfold zIR; simp_all)))
  refine zA4 (us := [pt g2 0]) hs rfl (.c rfl (.c rfl .n)) rfl call112 (.c (.s .z) .n) (zEe (zIR (sns l) (zA bs).b) 14 (zFD (zFD ((zA bs).e) (zDp (sns l) ((zA bs).t)) 12) (stl (sns l) most fl gone ((zA bs).t)) 13) g2 _ _ (hs.mem.del (.s .z))) rfl ?_; clear hs w a; rintro _ _ a w ⟨rfl, rfl⟩ hs
  revert a w hs
  refine goL 2 [0] [61, 10, 7, 6, 5, 4, 0] (.c .z .n) ⟨rfl, ?_⟩
  refine ifG rfl (fun c_15 => ?_) (fun c_15 => ?_)
  ·
   refine go 2 [0, 1] [64, 63, 7, 5, 4, 0] (.c (.s (.s (.s (.s (.s .z))))) (.c (.s .z) .n)) ⟨rfl, rfl, ?_⟩
   intro a w hs; refine zL hs (.c rfl (.c rfl .n)) call114 .n (zLJ ((zAS l ((zA bs).b)).t) ((zAS l ((zA bs).b)).tm) _ ((zAS l ((zA bs).b)).l) ((zA bs).t) ((zA bs).tm) ((zA bs).b) _ ((zA bs).l) _ (by omega) (by omega) (by omega) (by omega) (by omega) (zEF (hs.mem.keepH hrw (by simp)) (zEq l ((zA bs).b) hsr)) (zQ (hs.mem.del (.s (.s (.s .z))))) (zJr bs)) rfl ?_; clear hs w a; rintro _ _ a w ⟨v16, rfl, rfl⟩ hs
   have hk17 := zMm (at_ := ((zAS l ((zA bs).b)).t)) (atm := ((zAS l ((zA bs).b)).tm)) (a := (zAS l ((zA bs).b)).l) (gt := ((zA bs).t)) (gtm := ((zA bs).tm)) (gb := ((zA bs).b)) (rl := (zA bs).l)
   revert a w hs
   refine goL 3 [] [67, 66, 7, 5, 4, 0] .n ?_
   intro a w hs; refine zAv hs rfl rfl (.s (.s (.s (.s (.s .z))))) (.z (.c (.c (.c .n)))) (zN rfl (zN rfl (zN (zQ (hs.mem.del .z)).isSl.one zAn))) sizeOf44 rfl ?_
   refine goL 4 [0, 1] [70, 69, 68, 5, 4] (.c (.s (.s (.s (.s .z)))) (.c .z .n)) ⟨rfl, rfl, ?_⟩
   intro a w hs; refine zB (v := .bool (tml (sns l) ((aS ((zAS l ((zA bs).b)).t) ((zAS l ((zA bs).b)).tm) ((zAS l ((zA bs).b)).l) ((zA bs).t) ((zA bs).tm) ((zA bs).b) ((zA bs).l)).t) ((aS ((zAS l ((zA bs).b)).t) ((zAS l ((zA bs).b)).tm) ((zAS l ((zA bs).b)).l) ((zA bs).t) ((zA bs).tm) ((zA bs).b) ((zA bs).l)).tm))) hs (.c rfl (.c rfl .n)) call115 (zEv p g _ l most fl gone N ((aS ((zAS l ((zA bs).b)).t) ((zAS l ((zA bs).b)).tm) ((zAS l ((zA bs).b)).l) ((zA bs).t) ((zA bs).tm) ((zA bs).b) ((zA bs).l)).t) ((aS ((zAS l ((zA bs).b)).t) ((zAS l ((zA bs).b)).tm) ((zAS l ((zA bs).b)).l) ((zA bs).t) ((zA bs).tm) ((zA bs).b) ((zA bs).l)).tm) _ _ (zQ (hs.mem.del (.s (.s .z)))).isSl _ (hs.mem.keep hp (by simp [zK, blk])) (hs.mem.keep hg (by simp [zK, blk])) (hs.rd0 hu) (hs.mem.keepH hrw (by simp)) ho) rfl ?_
   refine goL 1 [] [72, 68, 5, 4] .n ?_
   intro a w hs; refine zA4 (us := [pt g2 0]) hs rfl (.c rfl (.c rfl .n)) rfl call112 (.c .z .n) (zEe (!(tml (sns l) ((aS ((zAS l ((zA bs).b)).t) ((zAS l ((zA bs).b)).tm) ((zAS l ((zA bs).b)).l) ((zA bs).t) ((zA bs).tm) ((zA bs).b) ((zA bs).l)).t) ((aS ((zAS l ((zA bs).b)).t) ((zAS l ((zA bs).b)).tm) ((zAS l ((zA bs).b)).l) ((zA bs).t) ((zA bs).tm) ((zA bs).b) ((zA bs).l)).tm))) 16 (aE ((zAS l ((zA bs).b)).t) ((zAS l ((zA bs).b)).tm) ((zAS l ((zA bs).b)).l) ((zA bs).t) ((zA bs).tm) ((zA bs).b) ((zA bs).l)) g2 _ _ (hs.mem.del .z)) rfl ?_; clear hs w a; rintro _ _ a w ⟨rfl, rfl⟩ hs
   revert a w hs
   refine goL 0 [] [5, 4] .n ?_
   intro a w hs
   refine zAN [.y [] (.agg #[zI ((aS ((zAS l ((zA bs).b)).t) ((zAS l ((zA bs).b)).tm) ((zAS l ((zA bs).b)).l) ((zA bs).t) ((zA bs).tm) ((zA bs).b) ((zA bs).l)).t), zI ((aS ((zAS l ((zA bs).b)).t) ((zAS l ((zA bs).b)).tm) ((zAS l ((zA bs).b)).l) ((zA bs).t) ((zA bs).tm) ((zA bs).b) ((zA bs).l)).tm), v16]) [] [] [] fun vs18 => [], .l [] [0] [3] [], .x [0] ⟨[blk g1 [zI ((aS ((zAS l ((zA bs).b)).t) ((zAS l ((zA bs).b)).tm) ((zAS l ((zA bs).b)).l) ((zA bs).t) ((zA bs).tm) ((zA bs).b) ((zA bs).l)).t), zI ((aS ((zAS l ((zA bs).b)).t) ((zAS l ((zA bs).b)).tm) ((zAS l ((zA bs).b)).l) ((zA bs).t) ((zA bs).tm) ((zA bs).b) ((zA bs).l)).tm), v16] 44], [], [], fun vs18 => True, fun vs18 => [blk g1 [zI ((aS ((zAS l ((zA bs).b)).t) ((zAS l ((zA bs).b)).tm) ((zAS l ((zA bs).b)).l) ((zA bs).t) ((zA bs).tm) ((zA bs).b) ((zA bs).l)).t), zI ((aS ((zAS l ((zA bs).b)).t) ((zAS l ((zA bs).b)).tm) ((zAS l ((zA bs).b)).l) ((zA bs).t) ((zA bs).tm) ((zA bs).b) ((zA bs).l)).tm), v16] 44], none⟩, .s [1] [0] [0] []] [] hs (.c .z .n) (.c .z .n) .n (by kernel_rfl) ⟨rfl, rfl, ⟨(.c (.s .z) (.c .z .n)), by kernel_rfl, fun _ => rfl, rfl, rfl⟩, ⟨?_, ?_, trivial⟩, ?_⟩
   ·
    intro a_ w_ R_ rest_ vs18 hm hs ht hx
    have hs0 := hs.bare
    refine zRV hs rfl (hm.own (List.mem_append.2 (.inr ((hx 2 (zH 4 _ (by kernel_rfl))).1 _ (List.Mem.head _))))) (.z (.c (.c (.c .n)))) isAgg44 sizeOf44 rfl ?_; clear hs; intro a w hs
    exact wpList_nil ⟨rfl, _, _, hs0, .r, hs, rfl⟩
   ·
    intro a_ w_ R_ rest_ vs18 hm hs ht hx
    have hm0 := hm.mid
    have hs0 := hs.bare
    refine zAv hs rfl rfl .z (.z (.c (.c (.c .n)))) (zN rfl (zN rfl (zN (zQ (hm0.del .z)).isSl.one zAn))) sizeOf44 rfl ?_; clear hs; intro a w hs
    exact wpList_nil ⟨rfl, .tuple #[], _, hs0, (.c .r), hs, trivial⟩
   clear hs w a; intro vs18 a w hs hf
   clear hf
   revert a w hs
   refine goE 0 [] [5, 4] .n ?_
   intro a w hs; exact zPq hs rfl rfl rfl (.s (.s (.s (.s (.s .z))))) (.z (.c (.c (.c .n)))) isAgg44 sizeOf44 (.s (.s (.s (.s (.s (.s .z)))))) .z isAgg26 (.c (.s (.s (.s (.s (.s (.s .z)))))) (.c (.s (.s (.s (.s (.s .z))))) (.c (.s (.s (.s (.s .z)))) (.c (.s (.s (.s .z))) (.c (.s (.s .z)) (.c (.s .z) .n)))))) ⟨_, _, by rw [zUs (by omega) (by show zFD _ _ _ = 0; omega), zIb hsr, zFZ hsr] <;> rfl, fun _ => (zFZ hsr).symm, rfl⟩
  refine cl (·.addNil 142 9) ?_
  refine go 3 [0] [70, 69, 68, 5, 4] (.c (.s (.s (.s (.s .z)))) .n) ⟨rfl, ?_⟩
  intro a w hs; refine zB (v := .bool (tml (sns l) 0 0)) hs (.c rfl (.c rfl .n)) call115 (zEv p g _ l most fl gone N 0 0 _ _ ⟨_, _, rfl⟩ _ (hs.mem.keep hp (by simp [zK, blk])) (hs.mem.keep hg (by simp [zK, blk])) (hs.rd0 hu) (hs.mem.keepH hrw (by simp)) ho) rfl ?_
  refine goL 1 [] [72, 68, 5, 4] .n ?_
  intro a w hs; refine zA4 (us := [pt g2 0]) hs rfl (.c rfl (.c rfl .n)) rfl call112 (.c (.s (.s .z)) .n) (zEe (!(tml (sns l) 0 0)) 16 (zFD (zFD (zFD ((zA bs).e) (zDp (sns l) ((zA bs).t)) 12) (stl (sns l) most fl gone ((zA bs).t)) 13) (zIR (sns l) (zA bs).b) 14) g2 _ _ (hs.mem.del (.s (.s .z)))) rfl ?_; clear hs w a; rintro _ _ a w ⟨rfl, rfl⟩ hs
  revert a w hs
  refine goL 0 [] [5, 4] .n ?_
  intro a w hs
  refine zR [.l [] [0] [2] [], .l [] [0] [3] [], .s [0] [0] [0] [], .s [1] [0] [1] []] [] hs (.c (.s .z) (.c .z .n)) .n (by kernel_rfl) ⟨rfl, rfl, rfl, rfl, ⟨rfl, by kernel_rfl, fun _ => rfl, rfl, rfl, trivial⟩, fun _ => rfl, ?_⟩
  refine goE 0 [] [5, 4] .n ?_
  intro a w hs; exact zPq hs rfl rfl rfl (.s (.s (.s (.s (.s .z))))) (.z (.c (.c (.c .n)))) isAgg44 sizeOf44 (.s (.s (.s (.s (.s (.s .z)))))) .z isAgg26 (.c (.s (.s (.s (.s (.s (.s .z)))))) (.c (.s (.s (.s (.s (.s .z))))) (.c (.s (.s (.s (.s .z)))) (.c (.s (.s (.s .z))) (.c (.s (.s .z)) (.c (.s .z) .n)))))) ⟨default, _, by rw [zM3 (by omega) (by show zFD _ _ _ ≠ 0; omega), zKb (by omega)] <;> rfl, fun h => absurd h (by rw [zM3 (by omega) (by show zFD _ _ _ ≠ 0; omega)]; show ¬ zFD _ _ _ = 0; omega), rfl⟩
 rw [c_14] at hs
 replace c_14 := zFq c_14
 revert a w hs
 refine go 4 [] [58, 51, 10, 7, 6, 5, 4, 0] .n ?_
 intro a w hs; replace hs := hs.reslot (d := 58) (v := .bool (false)) (v' := .bool (zIR (sns l) (zA bs).b)) rfl (Option.some.inj (congrArg (fun b => some (Value.bool b)) (by unfold zIR; simp_all)))
 refine zA4 (us := [pt g2 0]) hs rfl (.c rfl (.c rfl .n)) rfl call112 (.c .z .n) (zEe (zIR (sns l) (zA bs).b) 14 (zFD (zFD ((zA bs).e) (zDp (sns l) ((zA bs).t)) 12) (stl (sns l) most fl gone ((zA bs).t)) 13) g2 _ _ (hs.mem.del .z)) rfl ?_; clear hs w a; rintro _ _ a w ⟨rfl, rfl⟩ hs
 revert a w hs
 refine goL 2 [0] [61, 10, 7, 6, 5, 4, 0] (.c .z .n) ⟨rfl, ?_⟩
 refine ifG rfl (fun c_20 => ?_) (fun c_20 => ?_)
 ·
  refine go 2 [0, 1] [64, 63, 7, 5, 4, 0] (.c (.s (.s (.s (.s (.s .z))))) (.c (.s .z) .n)) ⟨rfl, rfl, ?_⟩
  intro a w hs; refine zL hs (.c rfl (.c rfl .n)) call114 .n (zLJ ((zAS l ((zA bs).b)).t) ((zAS l ((zA bs).b)).tm) _ ((zAS l ((zA bs).b)).l) ((zA bs).t) ((zA bs).tm) ((zA bs).b) _ ((zA bs).l) _ (by omega) (by omega) (by omega) (by omega) (by omega) (zEF (hs.mem.keepH hrw (by simp)) (zEq l ((zA bs).b) hsr)) (zQ (hs.mem.del (.s (.s (.s .z))))) (zJr bs)) rfl ?_; clear hs w a; rintro _ _ a w ⟨v21, rfl, rfl⟩ hs
  have hk22 := zMm (at_ := ((zAS l ((zA bs).b)).t)) (atm := ((zAS l ((zA bs).b)).tm)) (a := (zAS l ((zA bs).b)).l) (gt := ((zA bs).t)) (gtm := ((zA bs).tm)) (gb := ((zA bs).b)) (rl := (zA bs).l)
  revert a w hs
  refine goL 3 [] [67, 66, 7, 5, 4, 0] .n ?_
  intro a w hs; refine zAv hs rfl rfl (.s (.s (.s (.s (.s .z))))) (.z (.c (.c (.c .n)))) (zN rfl (zN rfl (zN (zQ (hs.mem.del .z)).isSl.one zAn))) sizeOf44 rfl ?_
  refine goL 4 [0, 1] [70, 69, 68, 5, 4] (.c (.s (.s (.s (.s .z)))) (.c .z .n)) ⟨rfl, rfl, ?_⟩
  intro a w hs; refine zB (v := .bool (tml (sns l) ((aS ((zAS l ((zA bs).b)).t) ((zAS l ((zA bs).b)).tm) ((zAS l ((zA bs).b)).l) ((zA bs).t) ((zA bs).tm) ((zA bs).b) ((zA bs).l)).t) ((aS ((zAS l ((zA bs).b)).t) ((zAS l ((zA bs).b)).tm) ((zAS l ((zA bs).b)).l) ((zA bs).t) ((zA bs).tm) ((zA bs).b) ((zA bs).l)).tm))) hs (.c rfl (.c rfl .n)) call115 (zEv p g _ l most fl gone N ((aS ((zAS l ((zA bs).b)).t) ((zAS l ((zA bs).b)).tm) ((zAS l ((zA bs).b)).l) ((zA bs).t) ((zA bs).tm) ((zA bs).b) ((zA bs).l)).t) ((aS ((zAS l ((zA bs).b)).t) ((zAS l ((zA bs).b)).tm) ((zAS l ((zA bs).b)).l) ((zA bs).t) ((zA bs).tm) ((zA bs).b) ((zA bs).l)).tm) _ _ (zQ (hs.mem.del (.s (.s .z)))).isSl _ (hs.mem.keep hp (by simp [zK, blk])) (hs.mem.keep hg (by simp [zK, blk])) (hs.rd0 hu) (hs.mem.keepH hrw (by simp)) ho) rfl ?_
  refine goL 1 [] [72, 68, 5, 4] .n ?_
  intro a w hs; refine zA4 (us := [pt g2 0]) hs rfl (.c rfl (.c rfl .n)) rfl call112 (.c .z .n) (zEe (!(tml (sns l) ((aS ((zAS l ((zA bs).b)).t) ((zAS l ((zA bs).b)).tm) ((zAS l ((zA bs).b)).l) ((zA bs).t) ((zA bs).tm) ((zA bs).b) ((zA bs).l)).t) ((aS ((zAS l ((zA bs).b)).t) ((zAS l ((zA bs).b)).tm) ((zAS l ((zA bs).b)).l) ((zA bs).t) ((zA bs).tm) ((zA bs).b) ((zA bs).l)).tm))) 16 (aE ((zAS l ((zA bs).b)).t) ((zAS l ((zA bs).b)).tm) ((zAS l ((zA bs).b)).l) ((zA bs).t) ((zA bs).tm) ((zA bs).b) ((zA bs).l)) g2 _ _ (hs.mem.del .z)) rfl ?_; clear hs w a; rintro _ _ a w ⟨rfl, rfl⟩ hs
  revert a w hs
  refine goL 0 [] [5, 4] .n ?_
  intro a w hs
  refine zAN [.y [] (.agg #[zI ((aS ((zAS l ((zA bs).b)).t) ((zAS l ((zA bs).b)).tm) ((zAS l ((zA bs).b)).l) ((zA bs).t) ((zA bs).tm) ((zA bs).b) ((zA bs).l)).t), zI ((aS ((zAS l ((zA bs).b)).t) ((zAS l ((zA bs).b)).tm) ((zAS l ((zA bs).b)).l) ((zA bs).t) ((zA bs).tm) ((zA bs).b) ((zA bs).l)).tm), v21]) [] [] [] fun vs23 => [], .l [] [0] [3] [], .x [0] ⟨[blk g1 [zI ((aS ((zAS l ((zA bs).b)).t) ((zAS l ((zA bs).b)).tm) ((zAS l ((zA bs).b)).l) ((zA bs).t) ((zA bs).tm) ((zA bs).b) ((zA bs).l)).t), zI ((aS ((zAS l ((zA bs).b)).t) ((zAS l ((zA bs).b)).tm) ((zAS l ((zA bs).b)).l) ((zA bs).t) ((zA bs).tm) ((zA bs).b) ((zA bs).l)).tm), v21] 44], [], [], fun vs23 => True, fun vs23 => [blk g1 [zI ((aS ((zAS l ((zA bs).b)).t) ((zAS l ((zA bs).b)).tm) ((zAS l ((zA bs).b)).l) ((zA bs).t) ((zA bs).tm) ((zA bs).b) ((zA bs).l)).t), zI ((aS ((zAS l ((zA bs).b)).t) ((zAS l ((zA bs).b)).tm) ((zAS l ((zA bs).b)).l) ((zA bs).t) ((zA bs).tm) ((zA bs).b) ((zA bs).l)).tm), v21] 44], none⟩, .s [1] [0] [0] []] [] hs (.c .z .n) (.c .z .n) .n (by kernel_rfl) ⟨rfl, rfl, ⟨(.c (.s .z) (.c .z .n)), by kernel_rfl, fun _ => rfl, rfl, rfl⟩, ⟨?_, ?_, trivial⟩, ?_⟩
  ·
   intro a_ w_ R_ rest_ vs23 hm hs ht hx
   have hs0 := hs.bare
   refine zRV hs rfl (hm.own (List.mem_append.2 (.inr ((hx 2 (zH 4 _ (by kernel_rfl))).1 _ (List.Mem.head _))))) (.z (.c (.c (.c .n)))) isAgg44 sizeOf44 rfl ?_; clear hs; intro a w hs
   exact wpList_nil ⟨rfl, _, _, hs0, .r, hs, rfl⟩
  ·
   intro a_ w_ R_ rest_ vs23 hm hs ht hx
   have hm0 := hm.mid
   have hs0 := hs.bare
   refine zAv hs rfl rfl .z (.z (.c (.c (.c .n)))) (zN rfl (zN rfl (zN (zQ (hm0.del .z)).isSl.one zAn))) sizeOf44 rfl ?_; clear hs; intro a w hs
   exact wpList_nil ⟨rfl, .tuple #[], _, hs0, (.c .r), hs, trivial⟩
  clear hs w a; intro vs23 a w hs hf
  clear hf
  revert a w hs
  refine goE 0 [] [5, 4] .n ?_
  intro a w hs; exact zPq hs rfl rfl rfl (.s (.s (.s (.s (.s .z))))) (.z (.c (.c (.c .n)))) isAgg44 sizeOf44 (.s (.s (.s (.s (.s (.s .z)))))) .z isAgg26 (.c (.s (.s (.s (.s (.s (.s .z)))))) (.c (.s (.s (.s (.s (.s .z))))) (.c (.s (.s (.s (.s .z)))) (.c (.s (.s (.s .z))) (.c (.s (.s .z)) (.c (.s .z) .n)))))) ⟨_, _, by rw [zUs (by omega) (by show zFD _ _ _ = 0; omega), zIb hsr, zFZ hsr] <;> rfl, fun _ => (zFZ hsr).symm, rfl⟩
 refine cl (·.addNil 142 9) ?_
 refine go 3 [0] [70, 69, 68, 5, 4] (.c (.s (.s (.s (.s .z)))) .n) ⟨rfl, ?_⟩
 intro a w hs; refine zB (v := .bool (tml (sns l) 0 0)) hs (.c rfl (.c rfl .n)) call115 (zEv p g _ l most fl gone N 0 0 _ _ ⟨_, _, rfl⟩ _ (hs.mem.keep hp (by simp [zK, blk])) (hs.mem.keep hg (by simp [zK, blk])) (hs.rd0 hu) (hs.mem.keepH hrw (by simp)) ho) rfl ?_
 refine goL 1 [] [72, 68, 5, 4] .n ?_
 intro a w hs; refine zA4 (us := [pt g2 0]) hs rfl (.c rfl (.c rfl .n)) rfl call112 (.c (.s (.s .z)) .n) (zEe (!(tml (sns l) 0 0)) 16 (zFD (zFD (zFD ((zA bs).e) (zDp (sns l) ((zA bs).t)) 12) (stl (sns l) most fl gone ((zA bs).t)) 13) (zIR (sns l) (zA bs).b) 14) g2 _ _ (hs.mem.del (.s (.s .z)))) rfl ?_; clear hs w a; rintro _ _ a w ⟨rfl, rfl⟩ hs
 revert a w hs
 refine goL 0 [] [5, 4] .n ?_
 intro a w hs
 refine zR [.l [] [0] [2] [], .l [] [0] [3] [], .s [0] [0] [0] [], .s [1] [0] [1] []] [] hs (.c (.s .z) (.c .z .n)) .n (by kernel_rfl) ⟨rfl, rfl, rfl, rfl, ⟨rfl, by kernel_rfl, fun _ => rfl, rfl, rfl, trivial⟩, fun _ => rfl, ?_⟩
 refine goE 0 [] [5, 4] .n ?_
 intro a w hs; exact zPq hs rfl rfl rfl (.s (.s (.s (.s (.s .z))))) (.z (.c (.c (.c .n)))) isAgg44 sizeOf44 (.s (.s (.s (.s (.s (.s .z)))))) .z isAgg26 (.c (.s (.s (.s (.s (.s (.s .z)))))) (.c (.s (.s (.s (.s (.s .z))))) (.c (.s (.s (.s (.s .z)))) (.c (.s (.s (.s .z))) (.c (.s (.s .z)) (.c (.s .z) .n)))))) ⟨default, _, by rw [zM3 (by omega) (by show zFD _ _ _ ≠ 0; omega), zKb (by omega)] <;> rfl, fun h => absurd h (by rw [zM3 (by omega) (by show zFD _ _ _ ≠ 0; omega)]; show ¬ zFD _ _ _ = 0; omega), rfl⟩
end Go.Proofs.YtemnjodhidlfpaaGreat
/- Walks of accepting: what each function does, over the program of this seat. Printed by a program of this session. -/
namespace Go.Proofs.YtemnjodhidlfpaaGreat
open Tryz
open Go Go.Sx Go.RowKit
set_option linter.unusedVariables false
set_option linter.unusedSimpArgs false
set_option maxRecDepth 4000
set_option maxHeartbeats 1000000

theorem zO9 (p g : Nat) (u : Value) (l : List RI) (most : Nat) (fl : Int) (gone : Bool) (N : Nat → Nat) (v : Value) (m : Nat) (bs : List zO) (w0 : World) (hM : ∀ h ∈ [blk p [pt g 0, nI most, nI (N 0), nI (N 1), nI (N 2), nI (N 3), nI (N 4), nI (N 5), nI (N 6), nI (N 7), nI (N 8), nI (N 9), nI (N 10), nI (N 11), nI (N 12), nI (N 13), nI (N 14), nI (N 15), nI (N 16), nI (N 17)] 127, blk g [u, nI most, zI fl, .bool (gone)] 186, row u 193 4 l.length (l.flatMap riV), rws 142 l], h.p w0) (hnd : (zK [blk p [pt g 0, nI most, nI (N 0), nI (N 1), nI (N 2), nI (N 3), nI (N 4), nI (N 5), nI (N 6), nI (N 7), nI (N 8), nI (N 9), nI (N 10), nI (N 11), nI (N 12), nI (N 13), nI (N 14), nI (N 15), nI (N 16), nI (N 17)] 127, blk g [u, nI most, zI fl, .bool (gone)] 186, row u 193 4 l.length (l.flatMap riV), rws 142 l]).Nodup) (ho : Oks (sns l) most) (hN : ∀ i, N i ≤ 1000000) (hb : Rd w0 (zK [blk p [pt g 0, nI most, nI (N 0), nI (N 1), nI (N 2), nI (N 3), nI (N 4), nI (N 5), nI (N 6), nI (N 7), nI (N 8), nI (N 9), nI (N 10), nI (N 11), nI (N 12), nI (N 13), nI (N 14), nI (N 15), nI (N 16), nI (N 17)] 127, blk g [u, nI most, zI fl, .bool (gone)] 186, row u 193 4 l.length (l.flatMap riV), rws 142 l]) v 1 m (zC bs)) : Calls Tryz.prog 36 #[pt p 0, v] w0 (Ret w0 (zK [blk p [pt g 0, nI most, nI (N 0), nI (N 1), nI (N 2), nI (N 3), nI (N 4), nI (N 5), nI (N 6), nI (N 7), nI (N 8), nI (N 9), nI (N 10), nI (N 11), nI (N 12), nI (N 13), nI (N 14), nI (N 15), nI (N 16), nI (N 17)] 127, blk g [u, nI most, zI fl, .bool (gone)] 186, row u 193 4 l.length (l.flatMap riV), rws 142 l]) fun z Nn => z = .tuple #[zI (zIw (sns l) most fl gone (zA bs)), nI (zBd (sns l) most fl gone (zA bs))] ∧ ∃ (u' : Value) (l' : List RI), (zCV most ⟨sns l, fl, gone, N⟩ (zA bs)).l = sns l' ∧ Nn = [blk p [pt g 0, nI most, nI (((zCV most ⟨sns l, fl, gone, N⟩ (zA bs)).n) 0), nI (((zCV most ⟨sns l, fl, gone, N⟩ (zA bs)).n) 1), nI (((zCV most ⟨sns l, fl, gone, N⟩ (zA bs)).n) 2), nI (((zCV most ⟨sns l, fl, gone, N⟩ (zA bs)).n) 3), nI (((zCV most ⟨sns l, fl, gone, N⟩ (zA bs)).n) 4), nI (((zCV most ⟨sns l, fl, gone, N⟩ (zA bs)).n) 5), nI (((zCV most ⟨sns l, fl, gone, N⟩ (zA bs)).n) 6), nI (((zCV most ⟨sns l, fl, gone, N⟩ (zA bs)).n) 7), nI (((zCV most ⟨sns l, fl, gone, N⟩ (zA bs)).n) 8), nI (((zCV most ⟨sns l, fl, gone, N⟩ (zA bs)).n) 9), nI (((zCV most ⟨sns l, fl, gone, N⟩ (zA bs)).n) 10), nI (((zCV most ⟨sns l, fl, gone, N⟩ (zA bs)).n) 11), nI (((zCV most ⟨sns l, fl, gone, N⟩ (zA bs)).n) 12), nI (((zCV most ⟨sns l, fl, gone, N⟩ (zA bs)).n) 13), nI (((zCV most ⟨sns l, fl, gone, N⟩ (zA bs)).n) 14), nI (((zCV most ⟨sns l, fl, gone, N⟩ (zA bs)).n) 15), nI (((zCV most ⟨sns l, fl, gone, N⟩ (zA bs)).n) 16), nI (((zCV most ⟨sns l, fl, gone, N⟩ (zA bs)).n) 17)] 127, blk g [u', nI most, zI ((zCV most ⟨sns l, fl, gone, N⟩ (zA bs)).floor), .bool ((zCV most ⟨sns l, fl, gone, N⟩ (zA bs)).gone)] 186, row u' 193 4 l'.length (l'.flatMap riV), rws 142 l']) := by
 have hbl : bs.length = m := by have := hb.len; simpa [zC] using this
 have hbe : m ≤ maxLen := hb.le
 simp only [maxLen] at hbe
 have hrw : (rws 142 l).p w0 := hM _ (by simp)
 have hiv := zDs hrw
 have hsr := ho.srt
 have hll : l.length ≤ most := by have := ho.le; rw [zAG] at this; omega
 have hm64 := ho.m64
 have hm1 := ho.m1
 have he17 := zPg (l := sns l) (most := most) (fl := fl) (gone := gone) (bs := bs)
 have hN0 := hN 0
 have hN1 := hN 1
 have hN2 := hN 2
 have hN3 := hN 3
 have hN4 := hN 4
 have hN5 := hN 5
 have hN6 := hN 6
 have hN7 := hN 7
 have hN8 := hN 8
 have hN9 := hN 9
 have hN10 := hN 10
 have hN11 := hN 11
 have hN12 := hN 12
 have hN13 := hN 13
 have hN14 := hN 14
 have hN15 := hN 15
 have hN16 := hN 16
 have hN17 := hN 17
 refine zF (F0 := [(0, pt p 0), (1, v)]) func36 rfl rfl rfl (.c (.c .n)) (Mem.start hM rfl hnd) ?_
 refine go 7 [] [12, 11, 0] .n ?_
 intro a w hs; refine zL hs (.c rfl (.c rfl .n)) call75 .n (zXQ p g _ l most fl gone N _ _ bs _ (hs.mem.del .z) (hs.mem.del (.s .z)) (zQ (hs.mem.del (.s (.s .z)))) (hs.mem.del (.s (.s (.s .z)))) ho (hs.rd0 hb)) rfl ?_; clear hs w a; rintro _ _ a w ⟨X1, v2, rfl, hX3, rfl⟩ hs
 revert a w hs
 refine goL 4 [] [6, 15, 14, 0] .n (fun g4 => ?_)
 intro a w hs; refine zAv hs rfl rfl .z (.z (.c (.c (.c .n)))) (zN rfl (zN rfl (zN (zQ (hs.mem.del (.s .z))).isSl.one zAn))) sizeOf44 rfl ?_
 refine goL 3 [] [17, 7, 6, 0] .n ?_
 refine ifG rfl (fun c_5 => ?_) (fun c_5 => ?_)
 ·
  have h0 : (zBd (sns l) most fl gone (zA bs)) = 0 := by omega
  have hXe := hX3 h0; subst hXe
  have hlp := zWi h0; have hA0 := (zQI h0).2.2.2.2.1; have hAr := zUK hA0
  refine cl (·.sub (F' := [(6, pt g4 0), (0, pt p 0)]) (.c rfl (.c rfl .n))) ?_
  intro a w hs
  refine zHe (Γ := Value) (M0 := [blk g4 [zI ((zAX (sns l) (zA bs)).t), zI ((zAX (sns l) (zA bs)).tm), v2] 44, row v2 142 9 ((zAX (sns l) (zA bs)).l.length) ((zAX (sns l) (zA bs)).l.flatMap zBL), blk p [pt g 0, nI most, nI (N 0), nI (N 1), nI (N 2), nI (N 3), nI (N 4), nI (N 5), nI (N 6), nI (N 7), nI (N 8), nI (N 9), nI (N 10), nI (N 11), nI (N 12), nI (N 13), nI (N 14), nI (N 15), nI (N 16), nI (N 17)] 127, rws 142 l]) (Ds := fun gs => [Pv 0 (pt p 0), Pv 1 (pt p 0), Pv 2 (pt p 0), Pv 3 (pt g 0), Pv 4 (pt g4 0), Pv 5 (zI ((zAX (sns l) (zA bs)).t)), Pv 6 (.agg #[zI ((zAX (sns l) (zA bs)).t), zI ((zAX (sns l) (zA bs)).tm), v2]), ⟨[], [], [], fun vs6 => vs6 7 = .agg #[zI ((zAX (sns l) (zA bs)).t), zI ((zAX (sns l) (zA bs)).tm), (zGE 2 (vs6 7))], fun vs6 => [row (zGE 2 (vs6 7)) 142 9 (((zAX (sns l) (zA bs)).l).length) (((zAX (sns l) (zA bs)).l).flatMap zBL)], none⟩, ⟨[row u 193 4 l.length (l.flatMap riV), blk g [u, nI most, zI fl, .bool (gone)] 186], [], [7], fun vs6 => vs6 8 = .tuple #[zI (zHO l most (⟨(zAX (sns l) (zA bs)).t, (zAX (sns l) (zA bs)).tm, ((zAX (sns l) (zA bs)).l), (zGE 2 (vs6 7))⟩ : RI)), .bool (zHN l most (⟨(zAX (sns l) (zA bs)).t, (zAX (sns l) (zA bs)).tm, ((zAX (sns l) (zA bs)).l), (zGE 2 (vs6 7))⟩ : RI)), zI 0], fun vs6 => [blk g [(gs 8), nI most, zI (zII l most fl (⟨(zAX (sns l) (zA bs)).t, (zAX (sns l) (zA bs)).tm, ((zAX (sns l) (zA bs)).l), (zGE 2 (vs6 7))⟩ : RI)), .bool (zIJ l most gone (⟨(zAX (sns l) (zA bs)).t, (zAX (sns l) (zA bs)).tm, ((zAX (sns l) (zA bs)).l), (zGE 2 (vs6 7))⟩ : RI))] 186, row (gs 8) 193 4 ((zGD l most (⟨(zAX (sns l) (zA bs)).t, (zAX (sns l) (zA bs)).tm, ((zAX (sns l) (zA bs)).l), (zGE 2 (vs6 7))⟩ : RI)).length) ((zGD l most (⟨(zAX (sns l) (zA bs)).t, (zAX (sns l) (zA bs)).tm, ((zAX (sns l) (zA bs)).l), (zGE 2 (vs6 7))⟩ : RI)).flatMap riV)], none⟩, ⟨[], [], [7], fun vs6 => vs6 9 = .tuple #[zI (zHO l most (⟨(zAX (sns l) (zA bs)).t, (zAX (sns l) (zA bs)).tm, ((zAX (sns l) (zA bs)).l), (zGE 2 (vs6 7))⟩ : RI)), .bool (zHN l most (⟨(zAX (sns l) (zA bs)).t, (zAX (sns l) (zA bs)).tm, ((zAX (sns l) (zA bs)).l), (zGE 2 (vs6 7))⟩ : RI)), zI 0], fun vs6 => [], none⟩, ⟨[], [], [7], fun vs6 => vs6 10 = zI (zHO l most (⟨(zAX (sns l) (zA bs)).t, (zAX (sns l) (zA bs)).tm, ((zAX (sns l) (zA bs)).l), (zGE 2 (vs6 7))⟩ : RI)), fun vs6 => [], none⟩, ⟨[], [], [7], fun vs6 => vs6 11 = .bool (zHN l most (⟨(zAX (sns l) (zA bs)).t, (zAX (sns l) (zA bs)).tm, ((zAX (sns l) (zA bs)).l), (zGE 2 (vs6 7))⟩ : RI)), fun vs6 => [], none⟩, Pv 12 (zI 0), Pv 13 (zI 0)]) [[], [], [], [], [], [], [], [], [8], [], [], [], [], []] (.slice none 0 0 : Value) (by kernel_rfl) hs rfl (.c (.s (.s (.s (.s .z)))) (.c (.s (.s (.s .z))) .n)) (by kernel_rfl) (fun _ => by kernel_rfl) (fun _ _ => rfl) (fun us_ us'_ => (.c (fun _ => rfl) (.c (fun _ => rfl) (.c (fun _ => rfl) (.c (fun _ => rfl) (.c (fun _ => rfl) (.c (fun _ => rfl) (.c (fun _ => rfl) (.c (fun _ => rfl) (.c (fun h => by have e8 := h 8 (by simp); simp only [e8]) (.c (fun _ => rfl) (.c (fun _ => rfl) (.c (fun _ => rfl) (.c (fun _ => rfl) (.c (fun _ => rfl) .n))))))))))))))) (by kernel_rfl) rfl (by kernel_rfl) (fun gs => ?_) ?_
  ·
   refine (.c ?_ (.c ?_ (.c ?_ (.c ?_ (.c ?_ (.c ?_ (.c ?_ (.c ?_ (.g ?_ (.c ?_ (.c ?_ (.c ?_ (.c ?_ (.c ?_ .n))))))))))))))
   · exact zAj (m := 14) .n (fun hm0 hm hx => .n) (by kernel_rfl) (by kernel_rfl) rfl
   · exact zAj (m := 14) (.c (k := 0) (by kernel_rfl) rfl rfl .n) (fun hm0 hm hx => .n) (by kernel_rfl) (by kernel_rfl) rfl
   · exact zAj (m := 14) (.c (k := 1) (by kernel_rfl) rfl rfl .n) (fun hm0 hm hx => .n) (by kernel_rfl) (by kernel_rfl) rfl
   · exact zAj (m := 14) (.c (k := 2) (by kernel_rfl) rfl rfl .n) (fun hm0 hm hx => (.c (hm0.del (.s (.s .z))))) (by kernel_rfl) (by kernel_rfl) rfl
   · exact zAj (m := 14) .n (fun hm0 hm hx => .n) (by kernel_rfl) (by kernel_rfl) rfl
   · exact zAj (m := 14) (.c (k := 4) (by kernel_rfl) rfl rfl .n) (fun hm0 hm hx => (.c (hm0.del .z))) (by kernel_rfl) (by kernel_rfl) rfl
   · exact zAj (m := 14) .n (fun hm0 hm hx => (.c (hm0.del .z))) (by kernel_rfl) (by kernel_rfl) rfl
   ·
    intro a_ w_ R_ rest_ vs6 hm hs ht hx
    have hm0 := hm.mid
    replace hs := hs.lrn (ht 6 (zH 14 _ (by kernel_rfl))) rfl rfl
    have hs0 := hs.bare
    refine zL hs (.c rfl .n) call64 .n (zPW ((zAX (sns l) (zA bs)).t) ((zAX (sns l) (zA bs)).tm) _ ((zAX (sns l) (zA bs)).l) _ (zQ (hm0.del (.s .z))) (by omega)) rfl ?_; clear hs; rintro _ _ a w ⟨v7, rfl, rfl⟩ hs
    exact wpList_nil ⟨rfl, _, _, hs0, (.c .r), hs, rfl⟩
   ·
    intro a_ w_ R_ rest_ vs6 hm hs ht hx
    replace hs : St _ _ _ (zK [row u 193 4 l.length (l.flatMap riV), blk g [u, nI most, zI fl, .bool (gone)] 186]) [row u 193 4 l.length (l.flatMap riV), blk g [u, nI most, zI fl, .bool (gone)] 186] _ _ := hs
    have hm0 := hm.mid
    replace hs := hs.lrn (ht 3 (zH 14 _ (by kernel_rfl))) rfl rfl
    replace hs := hs.lrn (ht 5 (zH 14 _ (by kernel_rfl))) rfl rfl
    have t7 := ht 7 (zH 14 _ (by kernel_rfl))
    have e7 : _ = some (vs6 7) := t7.val rfl
    rw [show vs6 7 = .agg #[zI ((zAX (sns l) (zA bs)).t), zI ((zAX (sns l) (zA bs)).tm), (zGE 2 (vs6 7))] from t7.2.1] at e7
    replace hs := hs.learn e7
    have hs0 := hs.bare
    refine zL hs (.c rfl (.c rfl (.c rfl .n))) call76 (.c .z (.c .z .n)) (zOh g u l most fl gone (⟨(zAX (sns l) (zA bs)).t, (zAX (sns l) (zA bs)).tm, ((zAX (sns l) (zA bs)).l), (zGE 2 (vs6 7))⟩ : RI) _ (hs.mem.del .z) (hs.mem.del (.s .z)) (hs.mem.ndX (.c .z (.c .z .n))) hsr hll hm64 hm1 hiv (zQ (hm.own (List.mem_append.2 (.inr ((ht 7 (zH 14 _ (by kernel_rfl))).2.2 (zG5 (n := 14) (by kernel_rfl)) _ (List.Mem.head _)))))).isSl hlp.1 hlp.2.1 hlp.2.2) rfl ?_; clear hs; rintro _ _ a w ⟨v8, rfl, rfl⟩ hs
    exact wpList_nil ⟨rfl, (v8), _, _, hs0, (.c (.c (.c .r))), hs, rfl⟩
   ·
    intro a_ w_ R_ rest_ vs6 hm hs ht hx
    have hm0 := hm.mid
    have t8 := ht 8 (zH 14 _ (by kernel_rfl))
    have e8 : _ = some (vs6 8) := t8.val rfl
    rw [show vs6 8 = .tuple #[zI (zHO l most (⟨(zAX (sns l) (zA bs)).t, (zAX (sns l) (zA bs)).tm, ((zAX (sns l) (zA bs)).l), (zGE 2 (vs6 7))⟩ : RI)), .bool (zHN l most (⟨(zAX (sns l) (zA bs)).t, (zAX (sns l) (zA bs)).tm, ((zAX (sns l) (zA bs)).l), (zGE 2 (vs6 7))⟩ : RI)), zI 0] from t8.2.1] at e8
    replace hs := hs.learn e8
    have hs0 := hs.bare
    refine zFd hs rfl rfl ?_; clear hs; intro a w hs
    exact wpList_nil ⟨rfl, _, _, hs0, (.c .r), hs, rfl⟩
   ·
    intro a_ w_ R_ rest_ vs6 hm hs ht hx
    have hm0 := hm.mid
    have t9 := ht 9 (zH 14 _ (by kernel_rfl))
    have e9 : _ = some (vs6 9) := t9.val rfl
    rw [show vs6 9 = .tuple #[zI (zHO l most (⟨(zAX (sns l) (zA bs)).t, (zAX (sns l) (zA bs)).tm, ((zAX (sns l) (zA bs)).l), (zGE 2 (vs6 7))⟩ : RI)), .bool (zHN l most (⟨(zAX (sns l) (zA bs)).t, (zAX (sns l) (zA bs)).tm, ((zAX (sns l) (zA bs)).l), (zGE 2 (vs6 7))⟩ : RI)), zI 0] from t9.2.1] at e9
    replace hs := hs.learn e9
    have hs0 := hs.bare
    refine zGv hs rfl .z rfl ?_; clear hs; intro a w hs
    exact wpList_nil ⟨rfl, _, _, hs0, (.c .r), hs, rfl⟩
   ·
    intro a_ w_ R_ rest_ vs6 hm hs ht hx
    have hm0 := hm.mid
    have t9 := ht 9 (zH 14 _ (by kernel_rfl))
    have e9 : _ = some (vs6 9) := t9.val rfl
    rw [show vs6 9 = .tuple #[zI (zHO l most (⟨(zAX (sns l) (zA bs)).t, (zAX (sns l) (zA bs)).tm, ((zAX (sns l) (zA bs)).l), (zGE 2 (vs6 7))⟩ : RI)), .bool (zHN l most (⟨(zAX (sns l) (zA bs)).t, (zAX (sns l) (zA bs)).tm, ((zAX (sns l) (zA bs)).l), (zGE 2 (vs6 7))⟩ : RI)), zI 0] from t9.2.1] at e9
    replace hs := hs.learn e9
    have hs0 := hs.bare
    refine zGv hs rfl (.s .z) rfl ?_; clear hs; intro a w hs
    exact wpList_nil ⟨rfl, _, _, hs0, (.c .r), hs, rfl⟩
   ·
    intro a_ w_ R_ rest_ vs6 hm hs ht hx
    have hm0 := hm.mid
    have t9 := ht 9 (zH 14 _ (by kernel_rfl))
    have e9 : _ = some (vs6 9) := t9.val rfl
    rw [show vs6 9 = .tuple #[zI (zHO l most (⟨(zAX (sns l) (zA bs)).t, (zAX (sns l) (zA bs)).tm, ((zAX (sns l) (zA bs)).l), (zGE 2 (vs6 7))⟩ : RI)), .bool (zHN l most (⟨(zAX (sns l) (zA bs)).t, (zAX (sns l) (zA bs)).tm, ((zAX (sns l) (zA bs)).l), (zGE 2 (vs6 7))⟩ : RI)), zI 0] from t9.2.1] at e9
    replace hs := hs.learn e9
    have hs0 := hs.bare
    refine zGv hs rfl (.s (.s .z)) rfl ?_; clear hs; intro a w hs
    exact wpList_nil ⟨rfl, _, _, hs0, (.c .r), hs, rfl⟩
   exact zAj (m := 14) (.c (k := 12) (by kernel_rfl) rfl rfl .n) (fun hm0 hm hx => .n) (by kernel_rfl) (by kernel_rfl) rfl
  clear hs w a; intro a w vs6 gs hs hf
  replace hs : St _ _ _ _ [blk g4 [zI ((zAX (sns l) (zA bs)).t), zI ((zAX (sns l) (zA bs)).tm), v2] 44, row v2 142 9 ((zAX (sns l) (zA bs)).l.length) ((zAX (sns l) (zA bs)).l.flatMap zBL), blk p [pt g 0, nI most, nI (N 0), nI (N 1), nI (N 2), nI (N 3), nI (N 4), nI (N 5), nI (N 6), nI (N 7), nI (N 8), nI (N 9), nI (N 10), nI (N 11), nI (N 12), nI (N 13), nI (N 14), nI (N 15), nI (N 16), nI (N 17)] 127, rws 142 l, row (zGE 2 (vs6 7)) 142 9 (((zAX (sns l) (zA bs)).l).length) (((zAX (sns l) (zA bs)).l).flatMap zBL), blk g [(gs 8), nI most, zI (zII l most fl (⟨(zAX (sns l) (zA bs)).t, (zAX (sns l) (zA bs)).tm, ((zAX (sns l) (zA bs)).l), (zGE 2 (vs6 7))⟩ : RI)), .bool (zIJ l most gone (⟨(zAX (sns l) (zA bs)).t, (zAX (sns l) (zA bs)).tm, ((zAX (sns l) (zA bs)).l), (zGE 2 (vs6 7))⟩ : RI))] 186, row (gs 8) 193 4 ((zGD l most (⟨(zAX (sns l) (zA bs)).t, (zAX (sns l) (zA bs)).tm, ((zAX (sns l) (zA bs)).l), (zGE 2 (vs6 7))⟩ : RI)).length) ((zGD l most (⟨(zAX (sns l) (zA bs)).t, (zAX (sns l) (zA bs)).tm, ((zAX (sns l) (zA bs)).l), (zGE 2 (vs6 7))⟩ : RI)).flatMap riV)] _ _ := hs
  obtain ⟨e13, q13⟩ := hf 13 (by decide)
  replace e13 : _ = some (vs6 13) := e13.val rfl
  rw [show vs6 13 = zI 0 from q13] at e13
  replace hs := hs.learn e13; clear e13 q13
  generalize (gs 8) = v9 at hs
  generalize zGE 2 (vs6 7) = v10 at hs
  clear hf
  revert a w hs
  refine goE 0 [] [7, 6, 0] .n ?_
  intro a w hs
  refine zR [.p [] [], .p [] [], .p [0] [], .p [2] [], .p [3, 1] [], .l [4] [0] [10] [], .p [5] [], .p [0] [], .p [7] [], .p [8, 1] [], .s [9, 6] [0] [0] []] [] hs (.c (.s (.s .z)) .n) .n (by kernel_rfl) ⟨rfl, (by have := hN (zBd (sns l) most fl gone (zA bs)); omega), rfl, ⟨rfl, by kernel_rfl, fun _ => rfl, rfl, rfl, trivial⟩, fun _ => rfl, ?_⟩
  refine zaV 6 2 [] [42, 7, 6] .n ?_
  refine go 5 [0] [5, 4] (.c .z .n) ⟨rfl, ?_⟩
  refine cl (·.rwsLay (most := most) (x := (⟨(zAX (sns l) (zA bs)).t, (zAX (sns l) (zA bs)).tm, ((zAX (sns l) (zA bs)).l), v10⟩ : RI)) (.c (.s (.s .z)) (.c (.s (.s .z)) .n))) ?_
  refine cl (·.drop (.c (.s (.s .z)) (.c (.s .z) .n))) ?_
  refine cl (·.reorder (.c (.s (.s (.s .z))) (.c (.s .z) (.c (.s .z) (.c .z .n))))) ?_
  refine cl (·.reblk .z (cs' := [pt g 0, nI most, nI (zAe N 0 0), nI (zAe N 0 1), nI (zAe N 0 2), nI (zAe N 0 3), nI (zAe N 0 4), nI (zAe N 0 5), nI (zAe N 0 6), nI (zAe N 0 7), nI (zAe N 0 8), nI (zAe N 0 9), nI (zAe N 0 10), nI (zAe N 0 11), nI (zAe N 0 12), nI (zAe N 0 13), nI (zAe N 0 14), nI (zAe N 0 15), nI (zAe N 0 16), nI (zAe N 0 17)]) rfl) ?_
  obtain ⟨hT_, hS_⟩ := zTG (N := N) v10 h0
  intro a w hs; exact zBI hs rfl rfl rfl ⟨by rw [hT_, h0]; rfl, _, zGD l most (⟨(zAX (sns l) (zA bs)).t, (zAX (sns l) (zA bs)).tm, ((zAX (sns l) (zA bs)).l), v10⟩ : RI), by rw [hS_], by rw [hS_]⟩
 refine go 0 [] [7, 6, 0] .n ?_
 intro a w hs
 refine zAN [.p [] [], .p [] [], .p [0] [], .p [2] [], .v [3, 1] (pt p (2 + (zBd (sns l) most fl gone (zA bs)))), .y [4] (nI (N (zBd (sns l) most fl gone (zA bs)))) [] [] [] fun vs12 => [], .p [5] [], .p [0] [], .p [7] [], .v [8, 1] (pt p (2 + (zBd (sns l) most fl gone (zA bs)))), .x [9, 6] ⟨[blk p [pt g 0, nI most, nI (N 0), nI (N 1), nI (N 2), nI (N 3), nI (N 4), nI (N 5), nI (N 6), nI (N 7), nI (N 8), nI (N 9), nI (N 10), nI (N 11), nI (N 12), nI (N 13), nI (N 14), nI (N 15), nI (N 16), nI (N 17)] 127], [], [], fun vs12 => True, fun vs12 => [blk p [pt g 0, nI most, nI (zAe N (zBd (sns l) most fl gone (zA bs)) 0), nI (zAe N (zBd (sns l) most fl gone (zA bs)) 1), nI (zAe N (zBd (sns l) most fl gone (zA bs)) 2), nI (zAe N (zBd (sns l) most fl gone (zA bs)) 3), nI (zAe N (zBd (sns l) most fl gone (zA bs)) 4), nI (zAe N (zBd (sns l) most fl gone (zA bs)) 5), nI (zAe N (zBd (sns l) most fl gone (zA bs)) 6), nI (zAe N (zBd (sns l) most fl gone (zA bs)) 7), nI (zAe N (zBd (sns l) most fl gone (zA bs)) 8), nI (zAe N (zBd (sns l) most fl gone (zA bs)) 9), nI (zAe N (zBd (sns l) most fl gone (zA bs)) 10), nI (zAe N (zBd (sns l) most fl gone (zA bs)) 11), nI (zAe N (zBd (sns l) most fl gone (zA bs)) 12), nI (zAe N (zBd (sns l) most fl gone (zA bs)) 13), nI (zAe N (zBd (sns l) most fl gone (zA bs)) 14), nI (zAe N (zBd (sns l) most fl gone (zA bs)) 15), nI (zAe N (zBd (sns l) most fl gone (zA bs)) 16), nI (zAe N (zBd (sns l) most fl gone (zA bs)) 17)] 127], none⟩] [] hs .n (.c (.s (.s .z)) .n) .n (by kernel_rfl) ⟨fun _ _ _ _ hm hs K => zHa (j := zBd (sns l) most fl gone (zA bs)) hs rfl rfl underlying54 (by omega) sizeOf3 rfl (vk K), (by have := hN (zBd (sns l) most fl gone (zA bs)); omega), fun _ _ _ _ hm hs K => zHa (j := zBd (sns l) most fl gone (zA bs)) hs rfl rfl underlying54 (by omega) sizeOf3 rfl (vk K), ⟨(.c .z .n), by kernel_rfl, fun _ => rfl, rfl, rfl⟩, ⟨?_, ?_, trivial⟩, ?_⟩
 ·
  intro a_ w_ R_ rest_ vs12 hm hs ht hx
  have hs0 := hs.bare
  refine zGJ (v := nI (N (zBd (sns l) most fl gone (zA bs)))) hs rfl (hm.own (List.mem_append.2 (.inr ((hx 10 (zH 11 _ (by kernel_rfl))).1 _ (List.Mem.head _))))) (zVZ (by omega)) isAgg3 rfl ?_; clear hs; intro a w hs
  exact wpList_nil ⟨rfl, _, _, hs0, (.c .r), hs, rfl⟩
 ·
  intro a_ w_ R_ rest_ vs12 hm hs ht hx
  have hs0 := hs.bare
  refine zLp (cs' := [pt g 0, nI most, nI (zAe N (zBd (sns l) most fl gone (zA bs)) 0), nI (zAe N (zBd (sns l) most fl gone (zA bs)) 1), nI (zAe N (zBd (sns l) most fl gone (zA bs)) 2), nI (zAe N (zBd (sns l) most fl gone (zA bs)) 3), nI (zAe N (zBd (sns l) most fl gone (zA bs)) 4), nI (zAe N (zBd (sns l) most fl gone (zA bs)) 5), nI (zAe N (zBd (sns l) most fl gone (zA bs)) 6), nI (zAe N (zBd (sns l) most fl gone (zA bs)) 7), nI (zAe N (zBd (sns l) most fl gone (zA bs)) 8), nI (zAe N (zBd (sns l) most fl gone (zA bs)) 9), nI (zAe N (zBd (sns l) most fl gone (zA bs)) 10), nI (zAe N (zBd (sns l) most fl gone (zA bs)) 11), nI (zAe N (zBd (sns l) most fl gone (zA bs)) 12), nI (zAe N (zBd (sns l) most fl gone (zA bs)) 13), nI (zAe N (zBd (sns l) most fl gone (zA bs)) 14), nI (zAe N (zBd (sns l) most fl gone (zA bs)) 15), nI (zAe N (zBd (sns l) most fl gone (zA bs)) 16), nI (zAe N (zBd (sns l) most fl gone (zA bs)) 17)]) hs rfl rfl .z (by show 2 + zBd (sns l) most fl gone (zA bs) < 20; omega) (zXx (by omega)) rfl sizeOf3 ?_; clear hs; intro a w hs
  exact wpList_nil ⟨rfl, .tuple #[], _, hs0, (.c (.c .r)), hs, trivial⟩
 clear hs w a; intro vs12 a w hs hf
 clear hf
 revert a w hs
 refine zaV 6 2 [] [42, 7, 6] .n ?_
 have hb_ : (!((((zBd (sns l) most fl gone (zA bs) : Nat) : Int) : Int) == 0)) = true := by rw [Bool.not_eq_true', beq_eq_false_iff_ne]; omega
 intro a w hs; rw [hb_] at hs; clear hb_
 revert a w hs
 refine go 4 [] [5, 4] .n ?_
 refine cl (·.drop (.c (.s .z) (.c .z .n))) ?_
 refine cl (·.reorder (.c (.s (.s (.s .z))) (.c .z (.c .z (.c .z .n))))) ?_
 obtain ⟨hT_, hS_⟩ := zXa (N := N) (rfl : (zBd (sns l) most fl gone (zA bs)) = _) (by omega)
 intro a w hs; exact zBI hs rfl rfl rfl ⟨by rw [hT_], _, l, by rw [hS_], by rw [hS_]⟩
end Go.Proofs.YtemnjodhidlfpaaGreat
