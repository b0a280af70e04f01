/- Walks of what bytes tell: what each function does, over the program of this seat. Printed by a program of this session. -/
import Derived.Test.YtbacobmcfelmkaaGreatQWsto
import Derived.Test.YtbacobmcfelmkaaGreatQWgramS
import Derived.Test.YtbacobmcfelmkaaGreatQWdel3
import Derived.Test.YtbacobmcfelmkaaGreatQSxBasB
namespace Go.Proofs.YtbacobmcfelmkaaGreat
open Tryz
open Go Go.Sx Go.RowKit
set_option linter.unusedVariables false
set_option linter.unusedSimpArgs false
set_option maxRecDepth 4000
set_option maxHeartbeats 1000000

theorem zTg (p g : Nat) (u : Value) (l : List RI) (most : Nat) (fl : Int) (gone : Bool) (N : Nat → Nat) (v : Value) (m : Nat) (bs : List zR) (w0 : World) (hp : (blk p [pt g 0, nI most, nI (N 0), nI (N 1), nI (N 2), nI (N 3), nI (N 4), nI (N 5), nI (N 6), nI (N 7), nI (N 8), nI (N 9), nI (N 10), nI (N 11), nI (N 12), nI (N 13), nI (N 14), nI (N 15), nI (N 16), nI (N 17)] 56).p w0) (hg : (blk g [u, nI most, zI fl, .bool (gone)] 75).p w0) (hu : Rd w0 [] u 4 l.length (l.flatMap riV)) (hrw : (rws 72 l).p w0) (ho : Oks (sns l) most) (hb : Rd w0 [] v 1 m (zF bs)) : Calls Tryz.prog 19 #[pt p 0, v] w0 (Ret w0 [] fun z Nn => ∃ (X : zAl) (xv : Value), z = .tuple #[.agg #[.int .i64 X.t, .int .i64 X.tm, xv], nI (zAT (sns l) most fl gone (zA bs))] ∧ (zAT (sns l) most fl gone (zA bs) = 0 → X = (zAe (sns l) (zA bs))) ∧ Nn = [row xv 72 9 X.l.length (X.l.flatMap zBQ)]) := by
 have hbl : bs.length = m := by have := hb.len; simpa [zF] using this
 have hbe : m ≤ maxLen := hb.le
 simp only [maxLen] at hbe
 have hiv := zEA hrw
 have hsr := ho.srt
 have hll : l.length ≤ 100000 := by have := ho.le; have := ho.m64; rw [zAJ] at *; omega
 have hgl := zE8 bs
 have hbr := zJx ho (zA bs).b
 refine zT (F0 := [(0, pt p 0), (1, v)]) func19 rfl rfl rfl (.c (.c .n)) (Mem.nil _) ?_
 refine go 3 [] [13, 5, 4, 0] .n (fun g1 => fun g2 => ?_)
 intro a w hs; refine zO hs (.c rfl .n) call27 .n (zQb _ _ bs _ (hs.rd0 hb)) rfl ?_; clear hs w a; rintro _ _ a w ⟨v3, rfl, rfl⟩ hs
 have hk4 := zE8 bs
 revert a w hs
 refine goL 4 [] [6, 16, 15, 5, 4, 0] .n (fun g5 => ?_)
 intro a w hs; refine zA4 hs rfl rfl .z (.z (.c (.c (.c (.c .n))))) (zN rfl (zN rfl (zN rfl (zN (zM (hs.mem.del (.s .z))).isSl.one zBS)))) sizeOf61 rfl ?_
 refine goL 3 [0, 0] [18, 6, 5, 4, 0] (.c (.s (.s .z)) .n) ⟨rfl, rfl, ?_⟩
 refine ifG rfl (fun c_6 => ?_) (fun c_6 => ?_)
 ·
  refine cl (·.addNil 72 9) ?_
  refine go 0 [] [5, 4] .n ?_
  intro a w hs
  refine zS [.l [] [0] [2] [], .l [] [0] [3] [], .s [0] [0] [0] [], .s [1] [0] [1] []] [] hs (.c (.s (.s (.s (.s .z)))) (.c (.s .z) .n)) .n (by kernel_rfl) ⟨rfl, rfl, rfl, rfl, ⟨rfl, by kernel_rfl, fun _ => rfl, rfl, rfl, trivial⟩, fun _ => rfl, ?_⟩
  refine goE 0 [] [5, 4] .n ?_
  intro a w hs; exact zPr hs rfl rfl rfl (.s (.s (.s .z))) (.z (.c (.c (.c .n)))) isAgg45 sizeOf45 (.s (.s (.s (.s .z)))) .z isAgg24 (.c (.s (.s (.s (.s .z)))) (.c (.s (.s (.s .z))) (.c (.s (.s .z)) (.c (.s .z) .n)))) ⟨default, _, by rw [zPy (by omega)] <;> rfl, fun h => absurd h (by rw [zPy (by omega)]; omega), rfl⟩
 refine go 2 [] [7, 6, 5, 4, 0] .n ?_
 intro a w hs
 refine zAx [.p [] [], .p [0] [], .p [1] [], .v [2] (pt g 0), .p [] [], .p [4] [0], .v [5, 3] (.tuple #[.agg #[zI ((zK l ((zA bs).t)).t), zI ((zK l ((zA bs).t)).tm), (zK l ((zA bs).t)).v], .bool (zB9 (sns l) ((zA bs).t))]), .p [6] [], .p [7] [], .p [7] [], .x [] ⟨[], [], [], fun vs8 => vs8 10 = pt (zCQ (vs8 10)) 0, fun vs8 => [blk (zCQ (vs8 10)) [zI 0, zI 0, .slice none 0 0] 45], none⟩, .x [8] ⟨[], [10], [10], fun vs8 => True, fun vs8 => [blk (zCQ (vs8 10)) [zI ((zK l ((zA bs).t)).t), zI ((zK l ((zA bs).t)).tm), (zK l ((zA bs).t)).v] 45], none⟩, .p [9] []] [12] hs .n .n (.c (.s .z) .n) (by kernel_rfl) ⟨fun _ _ _ _ hm hs K => zAI hs rfl (hm.keep hp (by simp [zX, blk])) .z isAgg52 rfl (vk K), rfl, fun _ _ _ _ hm hs K => zH (v := .tuple #[.agg #[zI ((zK l ((zA bs).t)).t), zI ((zK l ((zA bs).t)).tm), (zK l ((zA bs).t)).v], .bool (zB9 (sns l) ((zA bs).t))]) hs (.c rfl (.c rfl .n)) call25 (zGa g _ l most fl gone ((zA bs).t) _ (hm.rd0 hu) (hm.keep hg (by simp [zX, blk])) hsr (by omega) hiv) rfl (vk K), ⟨.n, by kernel_rfl, fun _ => rfl, rfl, rfl⟩, ⟨?_, ?_, trivial⟩, ?_⟩
 ·
  intro a_ w_ R_ rest_ vs8 hm hs ht hx
  have hs0 := hs.bare
  refine zEG (cs := [zI 0, zI 0, .slice none 0 0]) hs zeroValue45 rfl rfl ?_; clear hs; intro g9 a w hs
  exact wpList_nil ⟨rfl, _, _, hs0, .r, hs, rfl⟩
 ·
  intro a_ w_ R_ rest_ vs8 hm hs ht hx
  have t10 := ht 10 (zL 13 _ (by kernel_rfl))
  have e10 : _ = some (vs8 10) := t10.val rfl
  rw [show vs8 10 = pt (zCQ (vs8 10)) 0 from t10.2.1] at e10
  replace hs := hs.learn e10
  have hs0 := hs.bare
  refine zA4 hs rfl rfl .z (.z (.c (.c (.c .n)))) (zN rfl (zN rfl (zN (zDP (hm.keepH hrw (by simp)) (zEC l ((zA bs).t) hsr)).isSl.one zBS))) sizeOf45 rfl ?_; clear hs; intro a w hs
  exact wpList_nil ⟨rfl, .tuple #[], _, hs0, (.c (.c .r)), hs, trivial⟩
 clear hs w a; intro vs8 a w hs hf
 generalize zCQ (vs8 10) = g10 at hs
 clear hf
 revert a w hs
 refine goE 2 [] [33, 32, 7, 6, 5, 4, 0] .n ?_
 intro a w hs; refine zBp (us := [pt g2 0]) hs rfl (.c rfl (.c rfl .n)) rfl call28 (.c .z .n) (zEc (zB9 (sns l) ((zA bs).t)) 12 ((zA bs).e) g2 _ _ (hs.mem.del .z)) rfl ?_; clear hs w a; rintro _ _ a w ⟨rfl, rfl⟩ hs
 revert a w hs
 refine goL 4 [0] [38, 36, 35, 7, 6, 5, 4, 0] (.c (.s .z) .n) ⟨rfl, ?_⟩
 intro a w hs; refine zH (v := .bool (stl (sns l) most fl gone ((zA bs).t))) hs (.c rfl (.c rfl .n)) call29 (zRA p g _ l most fl gone N ((zA bs).t) _ (hs.mem.keep hp (by simp [zX, blk])) (hs.mem.keep hg (by simp [zX, blk])) (hs.rd0 hu) (hs.mem.keepH hrw (by simp)) ho) rfl ?_
 intro a w hs; refine zBp (us := [pt g2 0]) hs rfl (.c rfl (.c rfl .n)) rfl call28 (.c (.s .z) .n) (zEc (stl (sns l) most fl gone ((zA bs).t)) 13 (zFY ((zA bs).e) (zB9 (sns l) ((zA bs).t)) 12) g2 _ _ (hs.mem.del (.s .z))) rfl ?_; clear hs w a; rintro _ _ a w ⟨rfl, rfl⟩ hs
 revert a w hs
 refine goL 0 [] [7, 6, 5, 4, 0] .n ?_
 intro a w hs
 refine zAx [.p [] [], .p [0] [], .p [1] [], .v [2] (pt g 0), .p [] [], .p [4] [0], .v [5, 3] (.tuple #[.agg #[zI ((zK l ((zA bs).b)).t), zI ((zK l ((zA bs).b)).tm), (zK l ((zA bs).b)).v], .bool (zB9 (sns l) ((zA bs).b))]), .p [6] [], .p [7] [], .p [7] [], .x [] ⟨[], [], [], fun vs11 => vs11 10 = pt (zCQ (vs11 10)) 0, fun vs11 => [blk (zCQ (vs11 10)) [zI 0, zI 0, .slice none 0 0] 45], none⟩, .x [8] ⟨[], [10], [10], fun vs11 => True, fun vs11 => [blk (zCQ (vs11 10)) [zI ((zK l ((zA bs).b)).t), zI ((zK l ((zA bs).b)).tm), (zK l ((zA bs).b)).v] 45], none⟩, .p [9] []] [12] hs .n .n (.c (.s .z) .n) (by kernel_rfl) ⟨fun _ _ _ _ hm hs K => zAI hs rfl (hm.keep hp (by simp [zX, blk])) .z isAgg52 rfl (vk K), rfl, fun _ _ _ _ hm hs K => zH (v := .tuple #[.agg #[zI ((zK l ((zA bs).b)).t), zI ((zK l ((zA bs).b)).tm), (zK l ((zA bs).b)).v], .bool (zB9 (sns l) ((zA bs).b))]) hs (.c rfl (.c rfl .n)) call25 (zGa g _ l most fl gone ((zA bs).b) _ (hm.rd0 hu) (hm.keep hg (by simp [zX, blk])) hsr (by omega) hiv) rfl (vk K), ⟨.n, by kernel_rfl, fun _ => rfl, rfl, rfl⟩, ⟨?_, ?_, trivial⟩, ?_⟩
 ·
  intro a_ w_ R_ rest_ vs11 hm hs ht hx
  have hs0 := hs.bare
  refine zEG (cs := [zI 0, zI 0, .slice none 0 0]) hs zeroValue45 rfl rfl ?_; clear hs; intro g12 a w hs
  exact wpList_nil ⟨rfl, _, _, hs0, .r, hs, rfl⟩
 ·
  intro a_ w_ R_ rest_ vs11 hm hs ht hx
  have t10 := ht 10 (zL 13 _ (by kernel_rfl))
  have e10 : _ = some (vs11 10) := t10.val rfl
  rw [show vs11 10 = pt (zCQ (vs11 10)) 0 from t10.2.1] at e10
  replace hs := hs.learn e10
  have hs0 := hs.bare
  refine zA4 hs rfl rfl .z (.z (.c (.c (.c .n)))) (zN rfl (zN rfl (zN (zDP (hm.keepH hrw (by simp)) (zEC l ((zA bs).b) hsr)).isSl.one zBS))) sizeOf45 rfl ?_; clear hs; intro a w hs
  exact wpList_nil ⟨rfl, .tuple #[], _, hs0, (.c (.c .r)), hs, trivial⟩
 clear hs w a; intro vs11 a w hs hf
 obtain ⟨e10, q10⟩ := hf 10 (by decide)
 replace e10 : _ = some (vs11 10) := e10.val rfl
 rw [show vs11 10 = pt (zCQ (vs11 10)) 0 from q10] at e10
 replace hs := hs.learn e10; clear e10 q10
 generalize zCQ (vs11 10) = g13 at hs
 clear hf
 revert a w hs
 refine goE 4 [] [54, 51, 10, 7, 6, 5, 4, 0] .n ?_
 intro a w hs; refine zAB (b := !(zB9 (sns l) ((zA bs).b))) (fun c_14 => ?_) (fun c_14 => ?_)
 ·
  rw [c_14] at hs
  replace c_14 := zHB c_14
  revert a w hs
  refine go 4 [0] [58, 51, 10, 7, 6, 5, 4, 0] (.c (.s .z) .n) ⟨rfl, ?_⟩
  intro a w hs; replace hs := hs.reslot (d := 58) (v := .bool (decide (0 ≤ ((zA bs).b)))) (v' := .bool (zEK (sns l) (zA bs).b)) rfl (Option.some.inj (congrArg (fun b => some (Value.bool b)) (by unfold zEK; simp_all)))
  refine zBp (us := [pt g2 0]) hs rfl (.c rfl (.c rfl .n)) rfl call28 (.c (.s .z) .n) (zEc (zEK (sns l) (zA bs).b) 14 (zFY (zFY ((zA bs).e) (zB9 (sns l) ((zA bs).t)) 12) (stl (sns l) most fl gone ((zA bs).t)) 13) g2 _ _ (hs.mem.del (.s .z))) rfl ?_; clear hs w a; rintro _ _ a w ⟨rfl, rfl⟩ hs
  revert a w hs
  refine goL 2 [0] [61, 10, 7, 6, 5, 4, 0] (.c .z .n) ⟨rfl, ?_⟩
  refine ifG rfl (fun c_15 => ?_) (fun c_15 => ?_)
  ·
   refine go 2 [0, 1] [64, 63, 7, 5, 4, 0] (.c (.s (.s (.s (.s (.s .z))))) (.c (.s .z) .n)) ⟨rfl, rfl, ?_⟩
   intro a w hs; refine zO hs (.c rfl (.c rfl .n)) call30 .n (zJ7 ((zK l ((zA bs).b)).t) ((zK l ((zA bs).b)).tm) _ ((zK l ((zA bs).b)).l) ((zA bs).t) ((zA bs).tm) ((zA bs).b) _ ((zA bs).l) _ (by omega) (by omega) (by omega) (by omega) (by omega) (zDP (hs.mem.keepH hrw (by simp)) (zEC l ((zA bs).b) hsr)) (zM (hs.mem.del (.s (.s (.s .z))))) (zJf bs)) rfl ?_; clear hs w a; rintro _ _ a w ⟨v16, rfl, rfl⟩ hs
   have hk17 := zKX (at_ := ((zK l ((zA bs).b)).t)) (atm := ((zK l ((zA bs).b)).tm)) (a := (zK l ((zA bs).b)).l) (gt := ((zA bs).t)) (gtm := ((zA bs).tm)) (gb := ((zA bs).b)) (rl := (zA bs).l)
   revert a w hs
   refine goL 3 [] [67, 66, 7, 5, 4, 0] .n ?_
   intro a w hs; refine zA4 hs rfl rfl (.s (.s (.s (.s (.s .z))))) (.z (.c (.c (.c .n)))) (zN rfl (zN rfl (zN (zM (hs.mem.del .z)).isSl.one zBS))) sizeOf45 rfl ?_
   refine goL 4 [0, 1] [70, 69, 68, 5, 4] (.c (.s (.s (.s (.s .z)))) (.c .z .n)) ⟨rfl, rfl, ?_⟩
   intro a w hs; refine zH (v := .bool (tml (sns l) ((aS ((zK l ((zA bs).b)).t) ((zK l ((zA bs).b)).tm) ((zK l ((zA bs).b)).l) ((zA bs).t) ((zA bs).tm) ((zA bs).b) ((zA bs).l)).t) ((aS ((zK l ((zA bs).b)).t) ((zK l ((zA bs).b)).tm) ((zK l ((zA bs).b)).l) ((zA bs).t) ((zA bs).tm) ((zA bs).b) ((zA bs).l)).tm))) hs (.c rfl (.c rfl .n)) call31 (zEz p g _ l most fl gone N ((aS ((zK l ((zA bs).b)).t) ((zK l ((zA bs).b)).tm) ((zK l ((zA bs).b)).l) ((zA bs).t) ((zA bs).tm) ((zA bs).b) ((zA bs).l)).t) ((aS ((zK l ((zA bs).b)).t) ((zK l ((zA bs).b)).tm) ((zK l ((zA bs).b)).l) ((zA bs).t) ((zA bs).tm) ((zA bs).b) ((zA bs).l)).tm) _ _ (zM (hs.mem.del (.s (.s .z)))).isSl _ (hs.mem.keep hp (by simp [zX, blk])) (hs.mem.keep hg (by simp [zX, blk])) (hs.rd0 hu) (hs.mem.keepH hrw (by simp)) ho) rfl ?_
   refine goL 1 [] [72, 68, 5, 4] .n ?_
   intro a w hs; refine zBp (us := [pt g2 0]) hs rfl (.c rfl (.c rfl .n)) rfl call28 (.c .z .n) (zEc (!(tml (sns l) ((aS ((zK l ((zA bs).b)).t) ((zK l ((zA bs).b)).tm) ((zK l ((zA bs).b)).l) ((zA bs).t) ((zA bs).tm) ((zA bs).b) ((zA bs).l)).t) ((aS ((zK l ((zA bs).b)).t) ((zK l ((zA bs).b)).tm) ((zK l ((zA bs).b)).l) ((zA bs).t) ((zA bs).tm) ((zA bs).b) ((zA bs).l)).tm))) 16 (aE ((zK l ((zA bs).b)).t) ((zK l ((zA bs).b)).tm) ((zK l ((zA bs).b)).l) ((zA bs).t) ((zA bs).tm) ((zA bs).b) ((zA bs).l)) g2 _ _ (hs.mem.del .z)) rfl ?_; clear hs w a; rintro _ _ a w ⟨rfl, rfl⟩ hs
   revert a w hs
   refine goL 0 [] [5, 4] .n ?_
   intro a w hs
   refine zAx [.y [] (.agg #[zI ((aS ((zK l ((zA bs).b)).t) ((zK l ((zA bs).b)).tm) ((zK l ((zA bs).b)).l) ((zA bs).t) ((zA bs).tm) ((zA bs).b) ((zA bs).l)).t), zI ((aS ((zK l ((zA bs).b)).t) ((zK l ((zA bs).b)).tm) ((zK l ((zA bs).b)).l) ((zA bs).t) ((zA bs).tm) ((zA bs).b) ((zA bs).l)).tm), v16]) [] [] [] fun vs18 => [], .l [] [0] [3] [], .x [0] ⟨[blk g1 [zI ((aS ((zK l ((zA bs).b)).t) ((zK l ((zA bs).b)).tm) ((zK l ((zA bs).b)).l) ((zA bs).t) ((zA bs).tm) ((zA bs).b) ((zA bs).l)).t), zI ((aS ((zK l ((zA bs).b)).t) ((zK l ((zA bs).b)).tm) ((zK l ((zA bs).b)).l) ((zA bs).t) ((zA bs).tm) ((zA bs).b) ((zA bs).l)).tm), v16] 45], [], [], fun vs18 => True, fun vs18 => [blk g1 [zI ((aS ((zK l ((zA bs).b)).t) ((zK l ((zA bs).b)).tm) ((zK l ((zA bs).b)).l) ((zA bs).t) ((zA bs).tm) ((zA bs).b) ((zA bs).l)).t), zI ((aS ((zK l ((zA bs).b)).t) ((zK l ((zA bs).b)).tm) ((zK l ((zA bs).b)).l) ((zA bs).t) ((zA bs).tm) ((zA bs).b) ((zA bs).l)).tm), v16] 45], none⟩, .s [1] [0] [0] []] [] hs (.c .z .n) (.c .z .n) .n (by kernel_rfl) ⟨rfl, rfl, ⟨(.c (.s .z) (.c .z .n)), by kernel_rfl, fun _ => rfl, rfl, rfl⟩, ⟨?_, ?_, trivial⟩, ?_⟩
   ·
    intro a_ w_ R_ rest_ vs18 hm hs ht hx
    have hs0 := hs.bare
    refine zP2 hs rfl (hm.own (List.mem_append.2 (.inr ((hx 2 (zL 4 _ (by kernel_rfl))).1 _ (List.Mem.head _))))) (.z (.c (.c (.c .n)))) isAgg45 sizeOf45 rfl ?_; clear hs; intro a w hs
    exact wpList_nil ⟨rfl, _, _, hs0, .r, hs, rfl⟩
   ·
    intro a_ w_ R_ rest_ vs18 hm hs ht hx
    have hm0 := hm.mid
    have hs0 := hs.bare
    refine zA4 hs rfl rfl .z (.z (.c (.c (.c .n)))) (zN rfl (zN rfl (zN (zM (hm0.del .z)).isSl.one zBS))) sizeOf45 rfl ?_; clear hs; intro a w hs
    exact wpList_nil ⟨rfl, .tuple #[], _, hs0, (.c .r), hs, trivial⟩
   clear hs w a; intro vs18 a w hs hf
   clear hf
   revert a w hs
   refine goE 0 [] [5, 4] .n ?_
   intro a w hs; exact zPr hs rfl rfl rfl (.s (.s (.s (.s (.s .z))))) (.z (.c (.c (.c .n)))) isAgg45 sizeOf45 (.s (.s (.s (.s (.s (.s .z)))))) .z isAgg24 (.c (.s (.s (.s (.s (.s (.s .z)))))) (.c (.s (.s (.s (.s (.s .z))))) (.c (.s (.s (.s (.s .z)))) (.c (.s (.s (.s .z))) (.c (.s (.s .z)) (.c (.s .z) .n)))))) ⟨_, _, by rw [zKC (by omega) (by show zFY _ _ _ = 0; omega), zBw hsr, zB8 hsr] <;> rfl, fun _ => (zB8 hsr).symm, rfl⟩
  refine cl (·.addNil 72 9) ?_
  refine go 3 [0] [70, 69, 68, 5, 4] (.c (.s (.s (.s (.s .z)))) .n) ⟨rfl, ?_⟩
  intro a w hs; refine zH (v := .bool (tml (sns l) 0 0)) hs (.c rfl (.c rfl .n)) call31 (zEz p g _ l most fl gone N 0 0 _ _ ⟨_, _, rfl⟩ _ (hs.mem.keep hp (by simp [zX, blk])) (hs.mem.keep hg (by simp [zX, blk])) (hs.rd0 hu) (hs.mem.keepH hrw (by simp)) ho) rfl ?_
  refine goL 1 [] [72, 68, 5, 4] .n ?_
  intro a w hs; refine zBp (us := [pt g2 0]) hs rfl (.c rfl (.c rfl .n)) rfl call28 (.c (.s (.s .z)) .n) (zEc (!(tml (sns l) 0 0)) 16 (zFY (zFY (zFY ((zA bs).e) (zB9 (sns l) ((zA bs).t)) 12) (stl (sns l) most fl gone ((zA bs).t)) 13) (zEK (sns l) (zA bs).b) 14) g2 _ _ (hs.mem.del (.s (.s .z)))) rfl ?_; clear hs w a; rintro _ _ a w ⟨rfl, rfl⟩ hs
  revert a w hs
  refine goL 0 [] [5, 4] .n ?_
  intro a w hs
  refine zS [.l [] [0] [2] [], .l [] [0] [3] [], .s [0] [0] [0] [], .s [1] [0] [1] []] [] hs (.c (.s .z) (.c .z .n)) .n (by kernel_rfl) ⟨rfl, rfl, rfl, rfl, ⟨rfl, by kernel_rfl, fun _ => rfl, rfl, rfl, trivial⟩, fun _ => rfl, ?_⟩
  refine goE 0 [] [5, 4] .n ?_
  intro a w hs; exact zPr hs rfl rfl rfl (.s (.s (.s (.s (.s .z))))) (.z (.c (.c (.c .n)))) isAgg45 sizeOf45 (.s (.s (.s (.s (.s (.s .z)))))) .z isAgg24 (.c (.s (.s (.s (.s (.s (.s .z)))))) (.c (.s (.s (.s (.s (.s .z))))) (.c (.s (.s (.s (.s .z)))) (.c (.s (.s (.s .z))) (.c (.s (.s .z)) (.c (.s .z) .n)))))) ⟨default, _, by rw [zGM (by omega) (by show zFY _ _ _ ≠ 0; omega), zEV (by omega)] <;> rfl, fun h => absurd h (by rw [zGM (by omega) (by show zFY _ _ _ ≠ 0; omega)]; show ¬ zFY _ _ _ = 0; omega), rfl⟩
 rw [c_14] at hs
 replace c_14 := zHC c_14
 revert a w hs
 refine go 4 [] [58, 51, 10, 7, 6, 5, 4, 0] .n ?_
 intro a w hs; replace hs := hs.reslot (d := 58) (v := .bool (false)) (v' := .bool (zEK (sns l) (zA bs).b)) rfl (Option.some.inj (congrArg (fun b => some (Value.bool b)) (by unfold zEK; simp_all)))
 refine zBp (us := [pt g2 0]) hs rfl (.c rfl (.c rfl .n)) rfl call28 (.c .z .n) (zEc (zEK (sns l) (zA bs).b) 14 (zFY (zFY ((zA bs).e) (zB9 (sns l) ((zA bs).t)) 12) (stl (sns l) most fl gone ((zA bs).t)) 13) g2 _ _ (hs.mem.del .z)) rfl ?_; clear hs w a; rintro _ _ a w ⟨rfl, rfl⟩ hs
 revert a w hs
 refine goL 2 [0] [61, 10, 7, 6, 5, 4, 0] (.c .z .n) ⟨rfl, ?_⟩
 refine ifG rfl (fun c_20 => ?_) (fun c_20 => ?_)
 ·
  refine go 2 [0, 1] [64, 63, 7, 5, 4, 0] (.c (.s (.s (.s (.s (.s .z))))) (.c (.s .z) .n)) ⟨rfl, rfl, ?_⟩
  intro a w hs; refine zO hs (.c rfl (.c rfl .n)) call30 .n (zJ7 ((zK l ((zA bs).b)).t) ((zK l ((zA bs).b)).tm) _ ((zK l ((zA bs).b)).l) ((zA bs).t) ((zA bs).tm) ((zA bs).b) _ ((zA bs).l) _ (by omega) (by omega) (by omega) (by omega) (by omega) (zDP (hs.mem.keepH hrw (by simp)) (zEC l ((zA bs).b) hsr)) (zM (hs.mem.del (.s (.s (.s .z))))) (zJf bs)) rfl ?_; clear hs w a; rintro _ _ a w ⟨v21, rfl, rfl⟩ hs
  have hk22 := zKX (at_ := ((zK l ((zA bs).b)).t)) (atm := ((zK l ((zA bs).b)).tm)) (a := (zK l ((zA bs).b)).l) (gt := ((zA bs).t)) (gtm := ((zA bs).tm)) (gb := ((zA bs).b)) (rl := (zA bs).l)
  revert a w hs
  refine goL 3 [] [67, 66, 7, 5, 4, 0] .n ?_
  intro a w hs; refine zA4 hs rfl rfl (.s (.s (.s (.s (.s .z))))) (.z (.c (.c (.c .n)))) (zN rfl (zN rfl (zN (zM (hs.mem.del .z)).isSl.one zBS))) sizeOf45 rfl ?_
  refine goL 4 [0, 1] [70, 69, 68, 5, 4] (.c (.s (.s (.s (.s .z)))) (.c .z .n)) ⟨rfl, rfl, ?_⟩
  intro a w hs; refine zH (v := .bool (tml (sns l) ((aS ((zK l ((zA bs).b)).t) ((zK l ((zA bs).b)).tm) ((zK l ((zA bs).b)).l) ((zA bs).t) ((zA bs).tm) ((zA bs).b) ((zA bs).l)).t) ((aS ((zK l ((zA bs).b)).t) ((zK l ((zA bs).b)).tm) ((zK l ((zA bs).b)).l) ((zA bs).t) ((zA bs).tm) ((zA bs).b) ((zA bs).l)).tm))) hs (.c rfl (.c rfl .n)) call31 (zEz p g _ l most fl gone N ((aS ((zK l ((zA bs).b)).t) ((zK l ((zA bs).b)).tm) ((zK l ((zA bs).b)).l) ((zA bs).t) ((zA bs).tm) ((zA bs).b) ((zA bs).l)).t) ((aS ((zK l ((zA bs).b)).t) ((zK l ((zA bs).b)).tm) ((zK l ((zA bs).b)).l) ((zA bs).t) ((zA bs).tm) ((zA bs).b) ((zA bs).l)).tm) _ _ (zM (hs.mem.del (.s (.s .z)))).isSl _ (hs.mem.keep hp (by simp [zX, blk])) (hs.mem.keep hg (by simp [zX, blk])) (hs.rd0 hu) (hs.mem.keepH hrw (by simp)) ho) rfl ?_
  refine goL 1 [] [72, 68, 5, 4] .n ?_
  intro a w hs; refine zBp (us := [pt g2 0]) hs rfl (.c rfl (.c rfl .n)) rfl call28 (.c .z .n) (zEc (!(tml (sns l) ((aS ((zK l ((zA bs).b)).t) ((zK l ((zA bs).b)).tm) ((zK l ((zA bs).b)).l) ((zA bs).t) ((zA bs).tm) ((zA bs).b) ((zA bs).l)).t) ((aS ((zK l ((zA bs).b)).t) ((zK l ((zA bs).b)).tm) ((zK l ((zA bs).b)).l) ((zA bs).t) ((zA bs).tm) ((zA bs).b) ((zA bs).l)).tm))) 16 (aE ((zK l ((zA bs).b)).t) ((zK l ((zA bs).b)).tm) ((zK l ((zA bs).b)).l) ((zA bs).t) ((zA bs).tm) ((zA bs).b) ((zA bs).l)) g2 _ _ (hs.mem.del .z)) rfl ?_; clear hs w a; rintro _ _ a w ⟨rfl, rfl⟩ hs
  revert a w hs
  refine goL 0 [] [5, 4] .n ?_
  intro a w hs
  refine zAx [.y [] (.agg #[zI ((aS ((zK l ((zA bs).b)).t) ((zK l ((zA bs).b)).tm) ((zK l ((zA bs).b)).l) ((zA bs).t) ((zA bs).tm) ((zA bs).b) ((zA bs).l)).t), zI ((aS ((zK l ((zA bs).b)).t) ((zK l ((zA bs).b)).tm) ((zK l ((zA bs).b)).l) ((zA bs).t) ((zA bs).tm) ((zA bs).b) ((zA bs).l)).tm), v21]) [] [] [] fun vs23 => [], .l [] [0] [3] [], .x [0] ⟨[blk g1 [zI ((aS ((zK l ((zA bs).b)).t) ((zK l ((zA bs).b)).tm) ((zK l ((zA bs).b)).l) ((zA bs).t) ((zA bs).tm) ((zA bs).b) ((zA bs).l)).t), zI ((aS ((zK l ((zA bs).b)).t) ((zK l ((zA bs).b)).tm) ((zK l ((zA bs).b)).l) ((zA bs).t) ((zA bs).tm) ((zA bs).b) ((zA bs).l)).tm), v21] 45], [], [], fun vs23 => True, fun vs23 => [blk g1 [zI ((aS ((zK l ((zA bs).b)).t) ((zK l ((zA bs).b)).tm) ((zK l ((zA bs).b)).l) ((zA bs).t) ((zA bs).tm) ((zA bs).b) ((zA bs).l)).t), zI ((aS ((zK l ((zA bs).b)).t) ((zK l ((zA bs).b)).tm) ((zK l ((zA bs).b)).l) ((zA bs).t) ((zA bs).tm) ((zA bs).b) ((zA bs).l)).tm), v21] 45], none⟩, .s [1] [0] [0] []] [] hs (.c .z .n) (.c .z .n) .n (by kernel_rfl) ⟨rfl, rfl, ⟨(.c (.s .z) (.c .z .n)), by kernel_rfl, fun _ => rfl, rfl, rfl⟩, ⟨?_, ?_, trivial⟩, ?_⟩
  ·
   intro a_ w_ R_ rest_ vs23 hm hs ht hx
   have hs0 := hs.bare
   refine zP2 hs rfl (hm.own (List.mem_append.2 (.inr ((hx 2 (zL 4 _ (by kernel_rfl))).1 _ (List.Mem.head _))))) (.z (.c (.c (.c .n)))) isAgg45 sizeOf45 rfl ?_; clear hs; intro a w hs
   exact wpList_nil ⟨rfl, _, _, hs0, .r, hs, rfl⟩
  ·
   intro a_ w_ R_ rest_ vs23 hm hs ht hx
   have hm0 := hm.mid
   have hs0 := hs.bare
   refine zA4 hs rfl rfl .z (.z (.c (.c (.c .n)))) (zN rfl (zN rfl (zN (zM (hm0.del .z)).isSl.one zBS))) sizeOf45 rfl ?_; clear hs; intro a w hs
   exact wpList_nil ⟨rfl, .tuple #[], _, hs0, (.c .r), hs, trivial⟩
  clear hs w a; intro vs23 a w hs hf
  clear hf
  revert a w hs
  refine goE 0 [] [5, 4] .n ?_
  intro a w hs; exact zPr hs rfl rfl rfl (.s (.s (.s (.s (.s .z))))) (.z (.c (.c (.c .n)))) isAgg45 sizeOf45 (.s (.s (.s (.s (.s (.s .z)))))) .z isAgg24 (.c (.s (.s (.s (.s (.s (.s .z)))))) (.c (.s (.s (.s (.s (.s .z))))) (.c (.s (.s (.s (.s .z)))) (.c (.s (.s (.s .z))) (.c (.s (.s .z)) (.c (.s .z) .n)))))) ⟨_, _, by rw [zKC (by omega) (by show zFY _ _ _ = 0; omega), zBw hsr, zB8 hsr] <;> rfl, fun _ => (zB8 hsr).symm, rfl⟩
 refine cl (·.addNil 72 9) ?_
 refine go 3 [0] [70, 69, 68, 5, 4] (.c (.s (.s (.s (.s .z)))) .n) ⟨rfl, ?_⟩
 intro a w hs; refine zH (v := .bool (tml (sns l) 0 0)) hs (.c rfl (.c rfl .n)) call31 (zEz p g _ l most fl gone N 0 0 _ _ ⟨_, _, rfl⟩ _ (hs.mem.keep hp (by simp [zX, blk])) (hs.mem.keep hg (by simp [zX, blk])) (hs.rd0 hu) (hs.mem.keepH hrw (by simp)) ho) rfl ?_
 refine goL 1 [] [72, 68, 5, 4] .n ?_
 intro a w hs; refine zBp (us := [pt g2 0]) hs rfl (.c rfl (.c rfl .n)) rfl call28 (.c (.s (.s .z)) .n) (zEc (!(tml (sns l) 0 0)) 16 (zFY (zFY (zFY ((zA bs).e) (zB9 (sns l) ((zA bs).t)) 12) (stl (sns l) most fl gone ((zA bs).t)) 13) (zEK (sns l) (zA bs).b) 14) g2 _ _ (hs.mem.del (.s (.s .z)))) rfl ?_; clear hs w a; rintro _ _ a w ⟨rfl, rfl⟩ hs
 revert a w hs
 refine goL 0 [] [5, 4] .n ?_
 intro a w hs
 refine zS [.l [] [0] [2] [], .l [] [0] [3] [], .s [0] [0] [0] [], .s [1] [0] [1] []] [] hs (.c (.s .z) (.c .z .n)) .n (by kernel_rfl) ⟨rfl, rfl, rfl, rfl, ⟨rfl, by kernel_rfl, fun _ => rfl, rfl, rfl, trivial⟩, fun _ => rfl, ?_⟩
 refine goE 0 [] [5, 4] .n ?_
 intro a w hs; exact zPr hs rfl rfl rfl (.s (.s (.s (.s (.s .z))))) (.z (.c (.c (.c .n)))) isAgg45 sizeOf45 (.s (.s (.s (.s (.s (.s .z)))))) .z isAgg24 (.c (.s (.s (.s (.s (.s (.s .z)))))) (.c (.s (.s (.s (.s (.s .z))))) (.c (.s (.s (.s (.s .z)))) (.c (.s (.s (.s .z))) (.c (.s (.s .z)) (.c (.s .z) .n)))))) ⟨default, _, by rw [zGM (by omega) (by show zFY _ _ _ ≠ 0; omega), zEV (by omega)] <;> rfl, fun h => absurd h (by rw [zGM (by omega) (by show zFY _ _ _ ≠ 0; omega)]; show ¬ zFY _ _ _ = 0; omega), rfl⟩
end Go.Proofs.YtbacobmcfelmkaaGreat
