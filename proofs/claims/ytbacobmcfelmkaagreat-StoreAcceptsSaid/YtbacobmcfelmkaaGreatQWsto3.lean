/- Walks of accepting: what each function does, over the program of this seat. Printed by a program of this session. -/
import Derived.Test.YtbacobmcfelmkaaGreatQWsto2
import Derived.Test.YtbacobmcfelmkaaGreatQSxBasB
namespace Go.Proofs.YtbacobmcfelmkaaGreat
open Tryz
open Go Go.Sx Go.RowKit
set_option linter.unusedVariables false
set_option linter.unusedSimpArgs false
set_option maxRecDepth 4000
set_option maxHeartbeats 1000000

theorem zQD (p g : Nat) (u : Value) (l : List RI) (most : Nat) (fl : Int) (gone : Bool) (N : Nat → Nat) (v : Value) (m : Nat) (bs : List zR) (w0 : World) (hM : ∀ h ∈ [blk p [pt g 0, nI most, nI (N 0), nI (N 1), nI (N 2), nI (N 3), nI (N 4), nI (N 5), nI (N 6), nI (N 7), nI (N 8), nI (N 9), nI (N 10), nI (N 11), nI (N 12), nI (N 13), nI (N 14), nI (N 15), nI (N 16), nI (N 17)] 56, blk g [u, nI most, zI fl, .bool (gone)] 75, row u 88 4 l.length (l.flatMap riV), rws 72 l], h.p w0) (hnd : (zX [blk p [pt g 0, nI most, nI (N 0), nI (N 1), nI (N 2), nI (N 3), nI (N 4), nI (N 5), nI (N 6), nI (N 7), nI (N 8), nI (N 9), nI (N 10), nI (N 11), nI (N 12), nI (N 13), nI (N 14), nI (N 15), nI (N 16), nI (N 17)] 56, blk g [u, nI most, zI fl, .bool (gone)] 75, row u 88 4 l.length (l.flatMap riV), rws 72 l]).Nodup) (ho : Oks (sns l) most) (hN : ∀ i, N i ≤ 1000000) (hb : Rd w0 (zX [blk p [pt g 0, nI most, nI (N 0), nI (N 1), nI (N 2), nI (N 3), nI (N 4), nI (N 5), nI (N 6), nI (N 7), nI (N 8), nI (N 9), nI (N 10), nI (N 11), nI (N 12), nI (N 13), nI (N 14), nI (N 15), nI (N 16), nI (N 17)] 56, blk g [u, nI most, zI fl, .bool (gone)] 75, row u 88 4 l.length (l.flatMap riV), rws 72 l]) v 1 m (zF bs)) : Calls Tryz.prog 9 #[pt p 0, v] w0 (Ret w0 (zX [blk p [pt g 0, nI most, nI (N 0), nI (N 1), nI (N 2), nI (N 3), nI (N 4), nI (N 5), nI (N 6), nI (N 7), nI (N 8), nI (N 9), nI (N 10), nI (N 11), nI (N 12), nI (N 13), nI (N 14), nI (N 15), nI (N 16), nI (N 17)] 56, blk g [u, nI most, zI fl, .bool (gone)] 75, row u 88 4 l.length (l.flatMap riV), rws 72 l]) fun z Nn => z = .tuple #[zI (zGW (sns l) most fl gone (zA bs)), nI (zAT (sns l) most fl gone (zA bs))] ∧ ∃ (u' : Value) (l' : List RI), (zAX most ⟨sns l, fl, gone, N⟩ (zA bs)).l = sns l' ∧ Nn = [blk p [pt g 0, nI most, nI (((zAX most ⟨sns l, fl, gone, N⟩ (zA bs)).n) 0), nI (((zAX most ⟨sns l, fl, gone, N⟩ (zA bs)).n) 1), nI (((zAX most ⟨sns l, fl, gone, N⟩ (zA bs)).n) 2), nI (((zAX most ⟨sns l, fl, gone, N⟩ (zA bs)).n) 3), nI (((zAX most ⟨sns l, fl, gone, N⟩ (zA bs)).n) 4), nI (((zAX most ⟨sns l, fl, gone, N⟩ (zA bs)).n) 5), nI (((zAX most ⟨sns l, fl, gone, N⟩ (zA bs)).n) 6), nI (((zAX most ⟨sns l, fl, gone, N⟩ (zA bs)).n) 7), nI (((zAX most ⟨sns l, fl, gone, N⟩ (zA bs)).n) 8), nI (((zAX most ⟨sns l, fl, gone, N⟩ (zA bs)).n) 9), nI (((zAX most ⟨sns l, fl, gone, N⟩ (zA bs)).n) 10), nI (((zAX most ⟨sns l, fl, gone, N⟩ (zA bs)).n) 11), nI (((zAX most ⟨sns l, fl, gone, N⟩ (zA bs)).n) 12), nI (((zAX most ⟨sns l, fl, gone, N⟩ (zA bs)).n) 13), nI (((zAX most ⟨sns l, fl, gone, N⟩ (zA bs)).n) 14), nI (((zAX most ⟨sns l, fl, gone, N⟩ (zA bs)).n) 15), nI (((zAX most ⟨sns l, fl, gone, N⟩ (zA bs)).n) 16), nI (((zAX most ⟨sns l, fl, gone, N⟩ (zA bs)).n) 17)] 56, blk g [u', nI most, zI ((zAX most ⟨sns l, fl, gone, N⟩ (zA bs)).floor), .bool ((zAX most ⟨sns l, fl, gone, N⟩ (zA bs)).gone)] 75, row u' 88 4 l'.length (l'.flatMap riV), rws 72 l']) := by
 have hbl : bs.length = m := by have := hb.len; simpa [zF] using this
 have hbe : m ≤ maxLen := hb.le
 simp only [maxLen] at hbe
 have hrw : (rws 72 l).p w0 := hM _ (by simp)
 have hiv := zEA hrw
 have hsr := ho.srt
 have hll : l.length ≤ most := by have := ho.le; rw [zAJ] at this; omega
 have hm64 := ho.m64
 have hm1 := ho.m1
 have he17 := zLp (l := sns l) (most := most) (fl := fl) (gone := gone) (bs := bs)
 have hN0 := hN 0
 have hN1 := hN 1
 have hN2 := hN 2
 have hN3 := hN 3
 have hN4 := hN 4
 have hN5 := hN 5
 have hN6 := hN 6
 have hN7 := hN 7
 have hN8 := hN 8
 have hN9 := hN 9
 have hN10 := hN 10
 have hN11 := hN 11
 have hN12 := hN 12
 have hN13 := hN 13
 have hN14 := hN 14
 have hN15 := hN 15
 have hN16 := hN 16
 have hN17 := hN 17
 refine zT (F0 := [(0, pt p 0), (1, v)]) func9 rfl rfl rfl (.c (.c .n)) (Mem.start hM rfl hnd) ?_
 refine go 7 [] [12, 11, 0] .n ?_
 intro a w hs; refine zO hs (.c rfl (.c rfl .n)) call19 .n (zTg p g _ l most fl gone N _ _ bs _ (hs.mem.del .z) (hs.mem.del (.s .z)) (zM (hs.mem.del (.s (.s .z)))) (hs.mem.del (.s (.s (.s .z)))) ho (hs.rd0 hb)) rfl ?_; clear hs w a; rintro _ _ a w ⟨X1, v2, rfl, hX3, rfl⟩ hs
 revert a w hs
 refine goL 4 [] [6, 15, 14, 0] .n (fun g4 => ?_)
 intro a w hs; refine zA4 hs rfl rfl .z (.z (.c (.c (.c .n)))) (zN rfl (zN rfl (zN (zM (hs.mem.del (.s .z))).isSl.one zBS))) sizeOf45 rfl ?_
 refine goL 3 [] [17, 7, 6, 0] .n ?_
 refine ifG rfl (fun c_5 => ?_) (fun c_5 => ?_)
 ·
  have h0 : (zAT (sns l) most fl gone (zA bs)) = 0 := by omega
  have hXe := hX3 h0; subst hXe
  have hlp := zTy h0; have hA0 := (zIg h0).2.2.2.2.1; have hAr := zQm hA0
  refine cl (·.sub (F' := [(6, pt g4 0), (0, pt p 0)]) (.c rfl (.c rfl .n))) ?_
  intro a w hs
  refine zPQ (Γ := Value) (M0 := [blk g4 [zI ((zAe (sns l) (zA bs)).t), zI ((zAe (sns l) (zA bs)).tm), v2] 45, row v2 72 9 ((zAe (sns l) (zA bs)).l.length) ((zAe (sns l) (zA bs)).l.flatMap zBQ), blk p [pt g 0, nI most, nI (N 0), nI (N 1), nI (N 2), nI (N 3), nI (N 4), nI (N 5), nI (N 6), nI (N 7), nI (N 8), nI (N 9), nI (N 10), nI (N 11), nI (N 12), nI (N 13), nI (N 14), nI (N 15), nI (N 16), nI (N 17)] 56, rws 72 l]) (Ds := fun gs => [Pv 0 (pt p 0), Pv 1 (pt p 0), Pv 2 (pt p 0), Pv 3 (pt g 0), Pv 4 (pt g4 0), Pv 5 (zI ((zAe (sns l) (zA bs)).t)), Pv 6 (.agg #[zI ((zAe (sns l) (zA bs)).t), zI ((zAe (sns l) (zA bs)).tm), v2]), ⟨[], [], [], fun vs6 => vs6 7 = .agg #[zI ((zAe (sns l) (zA bs)).t), zI ((zAe (sns l) (zA bs)).tm), (zGY 2 (vs6 7))], fun vs6 => [row (zGY 2 (vs6 7)) 72 9 (((zAe (sns l) (zA bs)).l).length) (((zAe (sns l) (zA bs)).l).flatMap zBQ)], none⟩, ⟨[row u 88 4 l.length (l.flatMap riV), blk g [u, nI most, zI fl, .bool (gone)] 75], [], [7], fun vs6 => vs6 8 = .tuple #[zI (zHN l most (⟨(zAe (sns l) (zA bs)).t, (zAe (sns l) (zA bs)).tm, ((zAe (sns l) (zA bs)).l), (zGY 2 (vs6 7))⟩ : RI)), .bool (zHU l most (⟨(zAe (sns l) (zA bs)).t, (zAe (sns l) (zA bs)).tm, ((zAe (sns l) (zA bs)).l), (zGY 2 (vs6 7))⟩ : RI)), zI 0], fun vs6 => [blk g [(gs 8), nI most, zI (zIS l most fl (⟨(zAe (sns l) (zA bs)).t, (zAe (sns l) (zA bs)).tm, ((zAe (sns l) (zA bs)).l), (zGY 2 (vs6 7))⟩ : RI)), .bool (zIT l most gone (⟨(zAe (sns l) (zA bs)).t, (zAe (sns l) (zA bs)).tm, ((zAe (sns l) (zA bs)).l), (zGY 2 (vs6 7))⟩ : RI))] 75, row (gs 8) 88 4 ((zEY l most (⟨(zAe (sns l) (zA bs)).t, (zAe (sns l) (zA bs)).tm, ((zAe (sns l) (zA bs)).l), (zGY 2 (vs6 7))⟩ : RI)).length) ((zEY l most (⟨(zAe (sns l) (zA bs)).t, (zAe (sns l) (zA bs)).tm, ((zAe (sns l) (zA bs)).l), (zGY 2 (vs6 7))⟩ : RI)).flatMap riV)], none⟩, ⟨[], [], [7], fun vs6 => vs6 9 = .tuple #[zI (zHN l most (⟨(zAe (sns l) (zA bs)).t, (zAe (sns l) (zA bs)).tm, ((zAe (sns l) (zA bs)).l), (zGY 2 (vs6 7))⟩ : RI)), .bool (zHU l most (⟨(zAe (sns l) (zA bs)).t, (zAe (sns l) (zA bs)).tm, ((zAe (sns l) (zA bs)).l), (zGY 2 (vs6 7))⟩ : RI)), zI 0], fun vs6 => [], none⟩, ⟨[], [], [7], fun vs6 => vs6 10 = zI (zHN l most (⟨(zAe (sns l) (zA bs)).t, (zAe (sns l) (zA bs)).tm, ((zAe (sns l) (zA bs)).l), (zGY 2 (vs6 7))⟩ : RI)), fun vs6 => [], none⟩, ⟨[], [], [7], fun vs6 => vs6 11 = .bool (zHU l most (⟨(zAe (sns l) (zA bs)).t, (zAe (sns l) (zA bs)).tm, ((zAe (sns l) (zA bs)).l), (zGY 2 (vs6 7))⟩ : RI)), fun vs6 => [], none⟩, Pv 12 (zI 0), Pv 13 (zI 0)]) [[], [], [], [], [], [], [], [], [8], [], [], [], [], []] (.slice none 0 0 : Value) (by kernel_rfl) hs rfl (.c (.s (.s (.s (.s .z)))) (.c (.s (.s (.s .z))) .n)) (by kernel_rfl) (fun _ => by kernel_rfl) (fun _ _ => rfl) (fun us_ us'_ => (.c (fun _ => rfl) (.c (fun _ => rfl) (.c (fun _ => rfl) (.c (fun _ => rfl) (.c (fun _ => rfl) (.c (fun _ => rfl) (.c (fun _ => rfl) (.c (fun _ => rfl) (.c (fun h => by have e8 := h 8 (by simp); simp only [e8]) (.c (fun _ => rfl) (.c (fun _ => rfl) (.c (fun _ => rfl) (.c (fun _ => rfl) (.c (fun _ => rfl) .n))))))))))))))) (by kernel_rfl) rfl (by kernel_rfl) (fun gs => ?_) ?_
  ·
   refine (.c ?_ (.c ?_ (.c ?_ (.c ?_ (.c ?_ (.c ?_ (.c ?_ (.c ?_ (.g ?_ (.c ?_ (.c ?_ (.c ?_ (.c ?_ (.c ?_ .n))))))))))))))
   · exact zB1 (m := 14) .n (fun hm0 hm hx => .n) (by kernel_rfl) (by kernel_rfl) rfl
   · exact zB1 (m := 14) (.c (k := 0) (by kernel_rfl) rfl rfl .n) (fun hm0 hm hx => .n) (by kernel_rfl) (by kernel_rfl) rfl
   · exact zB1 (m := 14) (.c (k := 1) (by kernel_rfl) rfl rfl .n) (fun hm0 hm hx => .n) (by kernel_rfl) (by kernel_rfl) rfl
   · exact zB1 (m := 14) (.c (k := 2) (by kernel_rfl) rfl rfl .n) (fun hm0 hm hx => (.c (hm0.del (.s (.s .z))))) (by kernel_rfl) (by kernel_rfl) rfl
   · exact zB1 (m := 14) .n (fun hm0 hm hx => .n) (by kernel_rfl) (by kernel_rfl) rfl
   · exact zB1 (m := 14) (.c (k := 4) (by kernel_rfl) rfl rfl .n) (fun hm0 hm hx => (.c (hm0.del .z))) (by kernel_rfl) (by kernel_rfl) rfl
   · exact zB1 (m := 14) .n (fun hm0 hm hx => (.c (hm0.del .z))) (by kernel_rfl) (by kernel_rfl) rfl
   ·
    intro a_ w_ R_ rest_ vs6 hm hs ht hx
    have hm0 := hm.mid
    replace hs := hs.lrn (ht 6 (zL 14 _ (by kernel_rfl))) rfl rfl
    have hs0 := hs.bare
    refine zO hs (.c rfl .n) call21 .n (zOW ((zAe (sns l) (zA bs)).t) ((zAe (sns l) (zA bs)).tm) _ ((zAe (sns l) (zA bs)).l) _ (zM (hm0.del (.s .z))) (by omega)) rfl ?_; clear hs; rintro _ _ a w ⟨v7, rfl, rfl⟩ hs
    exact wpList_nil ⟨rfl, _, _, hs0, (.c .r), hs, rfl⟩
   ·
    intro a_ w_ R_ rest_ vs6 hm hs ht hx
    replace hs : St _ _ _ (zX [row u 88 4 l.length (l.flatMap riV), blk g [u, nI most, zI fl, .bool (gone)] 75]) [row u 88 4 l.length (l.flatMap riV), blk g [u, nI most, zI fl, .bool (gone)] 75] _ _ := hs
    have hm0 := hm.mid
    replace hs := hs.lrn (ht 3 (zL 14 _ (by kernel_rfl))) rfl rfl
    replace hs := hs.lrn (ht 5 (zL 14 _ (by kernel_rfl))) rfl rfl
    have t7 := ht 7 (zL 14 _ (by kernel_rfl))
    have e7 : _ = some (vs6 7) := t7.val rfl
    rw [show vs6 7 = .agg #[zI ((zAe (sns l) (zA bs)).t), zI ((zAe (sns l) (zA bs)).tm), (zGY 2 (vs6 7))] from t7.2.1] at e7
    replace hs := hs.learn e7
    have hs0 := hs.bare
    refine zO hs (.c rfl (.c rfl (.c rfl .n))) call20 (.c .z (.c .z .n)) (zNZ g u l most fl gone (⟨(zAe (sns l) (zA bs)).t, (zAe (sns l) (zA bs)).tm, ((zAe (sns l) (zA bs)).l), (zGY 2 (vs6 7))⟩ : RI) _ (hs.mem.del .z) (hs.mem.del (.s .z)) (hs.mem.ndX (.c .z (.c .z .n))) hsr hll hm64 hm1 hiv (zM (hm.own (List.mem_append.2 (.inr ((ht 7 (zL 14 _ (by kernel_rfl))).2.2 (zFR (n := 14) (by kernel_rfl)) _ (List.Mem.head _)))))).isSl hlp.1 hlp.2.1 hlp.2.2) rfl ?_; clear hs; rintro _ _ a w ⟨v8, rfl, rfl⟩ hs
    exact wpList_nil ⟨rfl, (v8), _, _, hs0, (.c (.c (.c .r))), hs, rfl⟩
   ·
    intro a_ w_ R_ rest_ vs6 hm hs ht hx
    have hm0 := hm.mid
    have t8 := ht 8 (zL 14 _ (by kernel_rfl))
    have e8 : _ = some (vs6 8) := t8.val rfl
    rw [show vs6 8 = .tuple #[zI (zHN l most (⟨(zAe (sns l) (zA bs)).t, (zAe (sns l) (zA bs)).tm, ((zAe (sns l) (zA bs)).l), (zGY 2 (vs6 7))⟩ : RI)), .bool (zHU l most (⟨(zAe (sns l) (zA bs)).t, (zAe (sns l) (zA bs)).tm, ((zAe (sns l) (zA bs)).l), (zGY 2 (vs6 7))⟩ : RI)), zI 0] from t8.2.1] at e8
    replace hs := hs.learn e8
    have hs0 := hs.bare
    refine zTQ hs rfl rfl ?_; clear hs; intro a w hs
    exact wpList_nil ⟨rfl, _, _, hs0, (.c .r), hs, rfl⟩
   ·
    intro a_ w_ R_ rest_ vs6 hm hs ht hx
    have hm0 := hm.mid
    have t9 := ht 9 (zL 14 _ (by kernel_rfl))
    have e9 : _ = some (vs6 9) := t9.val rfl
    rw [show vs6 9 = .tuple #[zI (zHN l most (⟨(zAe (sns l) (zA bs)).t, (zAe (sns l) (zA bs)).tm, ((zAe (sns l) (zA bs)).l), (zGY 2 (vs6 7))⟩ : RI)), .bool (zHU l most (⟨(zAe (sns l) (zA bs)).t, (zAe (sns l) (zA bs)).tm, ((zAe (sns l) (zA bs)).l), (zGY 2 (vs6 7))⟩ : RI)), zI 0] from t9.2.1] at e9
    replace hs := hs.learn e9
    have hs0 := hs.bare
    refine zNi hs rfl .z rfl ?_; clear hs; intro a w hs
    exact wpList_nil ⟨rfl, _, _, hs0, (.c .r), hs, rfl⟩
   ·
    intro a_ w_ R_ rest_ vs6 hm hs ht hx
    have hm0 := hm.mid
    have t9 := ht 9 (zL 14 _ (by kernel_rfl))
    have e9 : _ = some (vs6 9) := t9.val rfl
    rw [show vs6 9 = .tuple #[zI (zHN l most (⟨(zAe (sns l) (zA bs)).t, (zAe (sns l) (zA bs)).tm, ((zAe (sns l) (zA bs)).l), (zGY 2 (vs6 7))⟩ : RI)), .bool (zHU l most (⟨(zAe (sns l) (zA bs)).t, (zAe (sns l) (zA bs)).tm, ((zAe (sns l) (zA bs)).l), (zGY 2 (vs6 7))⟩ : RI)), zI 0] from t9.2.1] at e9
    replace hs := hs.learn e9
    have hs0 := hs.bare
    refine zNi hs rfl (.s .z) rfl ?_; clear hs; intro a w hs
    exact wpList_nil ⟨rfl, _, _, hs0, (.c .r), hs, rfl⟩
   ·
    intro a_ w_ R_ rest_ vs6 hm hs ht hx
    have hm0 := hm.mid
    have t9 := ht 9 (zL 14 _ (by kernel_rfl))
    have e9 : _ = some (vs6 9) := t9.val rfl
    rw [show vs6 9 = .tuple #[zI (zHN l most (⟨(zAe (sns l) (zA bs)).t, (zAe (sns l) (zA bs)).tm, ((zAe (sns l) (zA bs)).l), (zGY 2 (vs6 7))⟩ : RI)), .bool (zHU l most (⟨(zAe (sns l) (zA bs)).t, (zAe (sns l) (zA bs)).tm, ((zAe (sns l) (zA bs)).l), (zGY 2 (vs6 7))⟩ : RI)), zI 0] from t9.2.1] at e9
    replace hs := hs.learn e9
    have hs0 := hs.bare
    refine zNi hs rfl (.s (.s .z)) rfl ?_; clear hs; intro a w hs
    exact wpList_nil ⟨rfl, _, _, hs0, (.c .r), hs, rfl⟩
   exact zB1 (m := 14) (.c (k := 12) (by kernel_rfl) rfl rfl .n) (fun hm0 hm hx => .n) (by kernel_rfl) (by kernel_rfl) rfl
  clear hs w a; intro a w vs6 gs hs hf
  replace hs : St _ _ _ _ [blk g4 [zI ((zAe (sns l) (zA bs)).t), zI ((zAe (sns l) (zA bs)).tm), v2] 45, row v2 72 9 ((zAe (sns l) (zA bs)).l.length) ((zAe (sns l) (zA bs)).l.flatMap zBQ), blk p [pt g 0, nI most, nI (N 0), nI (N 1), nI (N 2), nI (N 3), nI (N 4), nI (N 5), nI (N 6), nI (N 7), nI (N 8), nI (N 9), nI (N 10), nI (N 11), nI (N 12), nI (N 13), nI (N 14), nI (N 15), nI (N 16), nI (N 17)] 56, rws 72 l, row (zGY 2 (vs6 7)) 72 9 (((zAe (sns l) (zA bs)).l).length) (((zAe (sns l) (zA bs)).l).flatMap zBQ), blk g [(gs 8), nI most, zI (zIS l most fl (⟨(zAe (sns l) (zA bs)).t, (zAe (sns l) (zA bs)).tm, ((zAe (sns l) (zA bs)).l), (zGY 2 (vs6 7))⟩ : RI)), .bool (zIT l most gone (⟨(zAe (sns l) (zA bs)).t, (zAe (sns l) (zA bs)).tm, ((zAe (sns l) (zA bs)).l), (zGY 2 (vs6 7))⟩ : RI))] 75, row (gs 8) 88 4 ((zEY l most (⟨(zAe (sns l) (zA bs)).t, (zAe (sns l) (zA bs)).tm, ((zAe (sns l) (zA bs)).l), (zGY 2 (vs6 7))⟩ : RI)).length) ((zEY l most (⟨(zAe (sns l) (zA bs)).t, (zAe (sns l) (zA bs)).tm, ((zAe (sns l) (zA bs)).l), (zGY 2 (vs6 7))⟩ : RI)).flatMap riV)] _ _ := hs
  obtain ⟨e13, q13⟩ := hf 13 (by decide)
  replace e13 : _ = some (vs6 13) := e13.val rfl
  rw [show vs6 13 = zI 0 from q13] at e13
  replace hs := hs.learn e13; clear e13 q13
  generalize (gs 8) = v9 at hs
  generalize zGY 2 (vs6 7) = v10 at hs
  clear hf
  revert a w hs
  refine goE 0 [] [7, 6, 0] .n ?_
  intro a w hs
  refine zS [.p [] [], .p [] [], .p [0] [], .p [2] [], .p [3, 1] [], .l [4] [0] [10] [], .p [5] [], .p [0] [], .p [7] [], .p [8, 1] [], .s [9, 6] [0] [0] []] [] hs (.c (.s (.s .z)) .n) .n (by kernel_rfl) ⟨rfl, (by have := hN (zAT (sns l) most fl gone (zA bs)); omega), rfl, ⟨rfl, by kernel_rfl, fun _ => rfl, rfl, rfl, trivial⟩, fun _ => rfl, ?_⟩
  refine zVc 6 2 [] [42, 7, 6] .n ?_
  refine go 5 [0] [5, 4] (.c .z .n) ⟨rfl, ?_⟩
  refine cl (·.rwsLay (most := most) (x := (⟨(zAe (sns l) (zA bs)).t, (zAe (sns l) (zA bs)).tm, ((zAe (sns l) (zA bs)).l), v10⟩ : RI)) (.c (.s (.s .z)) (.c (.s (.s .z)) .n))) ?_
  refine cl (·.drop (.c (.s (.s .z)) (.c (.s .z) .n))) ?_
  refine cl (·.reorder (.c (.s (.s (.s .z))) (.c (.s .z) (.c (.s .z) (.c .z .n))))) ?_
  refine cl (·.reblk .z (cs' := [pt g 0, nI most, nI (zAy N 0 0), nI (zAy N 0 1), nI (zAy N 0 2), nI (zAy N 0 3), nI (zAy N 0 4), nI (zAy N 0 5), nI (zAy N 0 6), nI (zAy N 0 7), nI (zAy N 0 8), nI (zAy N 0 9), nI (zAy N 0 10), nI (zAy N 0 11), nI (zAy N 0 12), nI (zAy N 0 13), nI (zAy N 0 14), nI (zAy N 0 15), nI (zAy N 0 16), nI (zAy N 0 17)]) rfl) ?_
  obtain ⟨hT_, hS_⟩ := zRe (N := N) v10 h0
  intro a w hs; exact zCF hs rfl rfl rfl ⟨by rw [hT_, h0]; rfl, _, zEY l most (⟨(zAe (sns l) (zA bs)).t, (zAe (sns l) (zA bs)).tm, ((zAe (sns l) (zA bs)).l), v10⟩ : RI), by rw [hS_], by rw [hS_]⟩
 refine go 0 [] [7, 6, 0] .n ?_
 intro a w hs
 refine zAx [.p [] [], .p [] [], .p [0] [], .p [2] [], .v [3, 1] (pt p (2 + (zAT (sns l) most fl gone (zA bs)))), .y [4] (nI (N (zAT (sns l) most fl gone (zA bs)))) [] [] [] fun vs12 => [], .p [5] [], .p [0] [], .p [7] [], .v [8, 1] (pt p (2 + (zAT (sns l) most fl gone (zA bs)))), .x [9, 6] ⟨[blk p [pt g 0, nI most, nI (N 0), nI (N 1), nI (N 2), nI (N 3), nI (N 4), nI (N 5), nI (N 6), nI (N 7), nI (N 8), nI (N 9), nI (N 10), nI (N 11), nI (N 12), nI (N 13), nI (N 14), nI (N 15), nI (N 16), nI (N 17)] 56], [], [], fun vs12 => True, fun vs12 => [blk p [pt g 0, nI most, nI (zAy N (zAT (sns l) most fl gone (zA bs)) 0), nI (zAy N (zAT (sns l) most fl gone (zA bs)) 1), nI (zAy N (zAT (sns l) most fl gone (zA bs)) 2), nI (zAy N (zAT (sns l) most fl gone (zA bs)) 3), nI (zAy N (zAT (sns l) most fl gone (zA bs)) 4), nI (zAy N (zAT (sns l) most fl gone (zA bs)) 5), nI (zAy N (zAT (sns l) most fl gone (zA bs)) 6), nI (zAy N (zAT (sns l) most fl gone (zA bs)) 7), nI (zAy N (zAT (sns l) most fl gone (zA bs)) 8), nI (zAy N (zAT (sns l) most fl gone (zA bs)) 9), nI (zAy N (zAT (sns l) most fl gone (zA bs)) 10), nI (zAy N (zAT (sns l) most fl gone (zA bs)) 11), nI (zAy N (zAT (sns l) most fl gone (zA bs)) 12), nI (zAy N (zAT (sns l) most fl gone (zA bs)) 13), nI (zAy N (zAT (sns l) most fl gone (zA bs)) 14), nI (zAy N (zAT (sns l) most fl gone (zA bs)) 15), nI (zAy N (zAT (sns l) most fl gone (zA bs)) 16), nI (zAy N (zAT (sns l) most fl gone (zA bs)) 17)] 56], none⟩] [] hs .n (.c (.s (.s .z)) .n) .n (by kernel_rfl) ⟨fun _ _ _ _ hm hs K => zCq (j := zAT (sns l) most fl gone (zA bs)) hs rfl rfl underlying39 (by omega) sizeOf3 rfl (vk K), (by have := hN (zAT (sns l) most fl gone (zA bs)); omega), fun _ _ _ _ hm hs K => zCq (j := zAT (sns l) most fl gone (zA bs)) hs rfl rfl underlying39 (by omega) sizeOf3 rfl (vk K), ⟨(.c .z .n), by kernel_rfl, fun _ => rfl, rfl, rfl⟩, ⟨?_, ?_, trivial⟩, ?_⟩
 ·
  intro a_ w_ R_ rest_ vs12 hm hs ht hx
  have hs0 := hs.bare
  refine zC6 (v := nI (N (zAT (sns l) most fl gone (zA bs)))) hs rfl (hm.own (List.mem_append.2 (.inr ((hx 10 (zL 11 _ (by kernel_rfl))).1 _ (List.Mem.head _))))) (zT0 (by omega)) isAgg3 rfl ?_; clear hs; intro a w hs
  exact wpList_nil ⟨rfl, _, _, hs0, (.c .r), hs, rfl⟩
 ·
  intro a_ w_ R_ rest_ vs12 hm hs ht hx
  have hs0 := hs.bare
  refine zH6 (cs' := [pt g 0, nI most, nI (zAy N (zAT (sns l) most fl gone (zA bs)) 0), nI (zAy N (zAT (sns l) most fl gone (zA bs)) 1), nI (zAy N (zAT (sns l) most fl gone (zA bs)) 2), nI (zAy N (zAT (sns l) most fl gone (zA bs)) 3), nI (zAy N (zAT (sns l) most fl gone (zA bs)) 4), nI (zAy N (zAT (sns l) most fl gone (zA bs)) 5), nI (zAy N (zAT (sns l) most fl gone (zA bs)) 6), nI (zAy N (zAT (sns l) most fl gone (zA bs)) 7), nI (zAy N (zAT (sns l) most fl gone (zA bs)) 8), nI (zAy N (zAT (sns l) most fl gone (zA bs)) 9), nI (zAy N (zAT (sns l) most fl gone (zA bs)) 10), nI (zAy N (zAT (sns l) most fl gone (zA bs)) 11), nI (zAy N (zAT (sns l) most fl gone (zA bs)) 12), nI (zAy N (zAT (sns l) most fl gone (zA bs)) 13), nI (zAy N (zAT (sns l) most fl gone (zA bs)) 14), nI (zAy N (zAT (sns l) most fl gone (zA bs)) 15), nI (zAy N (zAT (sns l) most fl gone (zA bs)) 16), nI (zAy N (zAT (sns l) most fl gone (zA bs)) 17)]) hs rfl rfl .z (by show 2 + zAT (sns l) most fl gone (zA bs) < 20; omega) (zTm (by omega)) rfl sizeOf3 ?_; clear hs; intro a w hs
  exact wpList_nil ⟨rfl, .tuple #[], _, hs0, (.c (.c .r)), hs, trivial⟩
 clear hs w a; intro vs12 a w hs hf
 clear hf
 revert a w hs
 refine zVc 6 2 [] [42, 7, 6] .n ?_
 have hb_ : (!((((zAT (sns l) most fl gone (zA bs) : Nat) : Int) : Int) == 0)) = true := by rw [Bool.not_eq_true', beq_eq_false_iff_ne]; omega
 intro a w hs; rw [hb_] at hs; clear hb_
 revert a w hs
 refine go 4 [] [5, 4] .n ?_
 refine cl (·.drop (.c (.s .z) (.c .z .n))) ?_
 refine cl (·.reorder (.c (.s (.s (.s .z))) (.c .z (.c .z (.c .z .n))))) ?_
 obtain ⟨hT_, hS_⟩ := zTd (N := N) (rfl : (zAT (sns l) most fl gone (zA bs)) = _) (by omega)
 intro a w hs; exact zCF hs rfl rfl rfl ⟨by rw [hT_], _, l, by rw [hS_], by rw [hS_]⟩
end Go.Proofs.YtbacobmcfelmkaaGreat
