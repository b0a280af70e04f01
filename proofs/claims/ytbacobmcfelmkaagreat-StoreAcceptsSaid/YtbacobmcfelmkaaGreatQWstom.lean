/- Walks of the document's stores: what each function does, over the program of this seat. Printed by a program of this session. -/
import Derived.Test.YtbacobmcfelmkaaGreatQSxStoM
import Derived.Test.YtbacobmcfelmkaaGreatQSxBasB
import Derived.Test.YtbacobmcfelmkaaGreatQWgramU
import Derived.Test.YtbacobmcfelmkaaGreatQWdelm3
namespace Go.Proofs.YtbacobmcfelmkaaGreat
open Tryz
open Go Go.Sx Go.RowKit
set_option linter.unusedVariables false
set_option linter.unusedSimpArgs false
set_option maxRecDepth 4000
set_option maxHeartbeats 1000000

set_option maxHeartbeats 8000000 in
theorem zNq (p : Nat) (u : Value) (l : List RI) (most : Nat) (fl : Int) (gone : Bool) (N : Nat → Nat) (v : Value) (m : Nat) (bs : List zR) (w0 : World) (hM : ∀ h ∈ [blk p [u, nI most, zI (dfl fl gone), nI (N 0), nI (N 1), nI (N 2), nI (N 3), nI (N 4), nI (N 5), nI (N 6), nI (N 7), nI (N 8), nI (N 9), nI (N 10), nI (N 11), nI (N 12), nI (N 13), nI (N 14), nI (N 15), nI (N 16), nI (N 17)] 41, zC8 u 3 l.length (l.flatMap snV), rws 72 l], h.p w0) (hnd : (zX [blk p [u, nI most, zI (dfl fl gone), nI (N 0), nI (N 1), nI (N 2), nI (N 3), nI (N 4), nI (N 5), nI (N 6), nI (N 7), nI (N 8), nI (N 9), nI (N 10), nI (N 11), nI (N 12), nI (N 13), nI (N 14), nI (N 15), nI (N 16), nI (N 17)] 41, zC8 u 3 l.length (l.flatMap snV), rws 72 l]).Nodup) (ho : Oks (sns l) most) (hb : Rd w0 (zX [blk p [u, nI most, zI (dfl fl gone), nI (N 0), nI (N 1), nI (N 2), nI (N 3), nI (N 4), nI (N 5), nI (N 6), nI (N 7), nI (N 8), nI (N 9), nI (N 10), nI (N 11), nI (N 12), nI (N 13), nI (N 14), nI (N 15), nI (N 16), nI (N 17)] 41, zC8 u 3 l.length (l.flatMap snV), rws 72 l]) v 1 m (zF bs)) : Calls Tryz.prog 22 #[pt p 0, v] w0 (Ret w0 (zX [blk p [u, nI most, zI (dfl fl gone), nI (N 0), nI (N 1), nI (N 2), nI (N 3), nI (N 4), nI (N 5), nI (N 6), nI (N 7), nI (N 8), nI (N 9), nI (N 10), nI (N 11), nI (N 12), nI (N 13), nI (N 14), nI (N 15), nI (N 16), nI (N 17)] 41, zC8 u 3 l.length (l.flatMap snV), rws 72 l]) fun z Nn => z = .tuple #[zI (zGW (sns l) most fl gone (zA bs)), nI (zAT (sns l) most fl gone (zA bs))] ∧ ∃ (u' : Value) (l' : List RI), (if (zAT (sns l) most fl gone (zA bs)) = 0 then zGO (sns l) most (zAe (sns l) (zA bs)) else sns l) = sns l' ∧ Nn = [blk p [u', nI most, zI (if (zAT (sns l) most fl gone (zA bs)) = 0 then dfl (zFy (sns l) most fl (zAe (sns l) (zA bs))) (zGP (sns l) most gone (zAe (sns l) (zA bs))) else dfl fl gone), nI (N 0), nI (N 1), nI (N 2), nI (N 3), nI (N 4), nI (N 5), nI (N 6), nI (N 7), nI (N 8), nI (N 9), nI (N 10), nI (N 11), nI (N 12), nI (N 13), nI (N 14), nI (N 15), nI (N 16), nI (N 17)] 41, zC8 u' 3 l'.length (l'.flatMap snV), rws 72 l']) := by
 have hbl : bs.length = m := by have := hb.len; simpa [zF] using this
 have hbe : m ≤ maxLen := hb.le
 simp only [maxLen] at hbe
 have hrw : (rws 72 l).p w0 := hM _ (by simp)
 have hiv := zEA hrw
 have hsr := ho.srt
 have hsl := zAJ l
 have hll : l.length ≤ most := by have := ho.le; rw [zAJ] at this; omega
 have hm64 := ho.m64
 have hm1 := ho.m1
 have hgl := zE8 bs
 have hkle := zCN (sns l) (zA bs).t
 have hbr := zJx ho (zA bs).b
 refine zT (F0 := [(0, pt p 0), (1, v)]) func22 rfl rfl rfl (.c (.c .n)) (Mem.start hM rfl hnd) ?_
 refine go 3 [] [16, 0] .n ?_
 intro a w hs; refine zO hs (.c rfl .n) call35 .n (zP9 _ _ bs _ (hs.rd0 hb)) rfl ?_; clear hs w a; rintro _ _ a w ⟨v1, rfl, rfl⟩ hs
 have hk2 := zE8 bs
 revert a w hs
 refine goL 4 [] [6, 19, 18, 0] .n (fun g3 => ?_)
 intro a w hs; refine zA4 hs rfl rfl .z (.z (.c (.c (.c (.c .n))))) (zN rfl (zN rfl (zN rfl (zN (zM (hs.mem.del (.s .z))).isSl.one zBS)))) sizeOf61 rfl ?_
 refine goL 3 [] [21, 7, 6, 0] .n ?_
 refine ifG rfl (fun c_4 => ?_) (fun c_4 => ?_)
 ·
  refine go 3 [] [5, 4] .n ?_
  refine cl (·.drop (.c (.s .z) (.c .z .n))) ?_
  have hE_ : (zAT (sns l) most fl gone (zA bs)) = (zA bs).e := zPy (by omega)
  have hn_ : (zAT (sns l) most fl gone (zA bs)) ≠ 0 := by rw [hE_]; omega
  have hT_ : zGW (sns l) most fl gone (zA bs) = 0 := if_neg hn_
  intro a w hs; exact zCF hs rfl rfl rfl ⟨by rw [hT_, hE_] <;> rfl, _, l, if_neg hn_, by rw [if_neg hn_]⟩
 refine goF 8 1 [] [8, 6, 0] .n ?_
 intro a w hs; refine zNK (fun a w => St 209 [(0, pt p 0), (6, pt g3 0), (8, nI (zU (sns l) (zA bs).t))] w0 (zX [blk p [u, nI most, zI (dfl fl gone), nI (N 0), nI (N 1), nI (N 2), nI (N 3), nI (N 4), nI (N 5), nI (N 6), nI (N 7), nI (N 8), nI (N 9), nI (N 10), nI (N 11), nI (N 12), nI (N 13), nI (N 14), nI (N 15), nI (N 16), nI (N 17)] 41, zC8 u 3 l.length (l.flatMap snV), rws 72 l]) [blk g3 [zI ((zA bs).t), zI ((zA bs).tm), zI ((zA bs).b), v1] 61, row v1 112 9 ((zA bs).l.length) ((zA bs).l.flatMap zDG), blk p [u, nI most, zI (dfl fl gone), nI (N 0), nI (N 1), nI (N 2), nI (N 3), nI (N 4), nI (N 5), nI (N 6), nI (N 7), nI (N 8), nI (N 9), nI (N 10), nI (N 11), nI (N 12), nI (N 13), nI (N 14), nI (N 15), nI (N 16), nI (N 17)] 41, zC8 u 3 l.length (l.flatMap snV), rws 72 l] a w) ?_ ?_
 ·
  revert a w hs
  refine go 0 [] [8, 6, 0] .n ?_
  intro a w hs; refine zCA (fun mm_ a w => ∃ i : Nat, mm_ = (zU (sns l) (zA bs).t) - i ∧ St 209 [(0, pt p 0), (6, pt g3 0), (8, nI i)] w0 (zX [blk p [u, nI most, zI (dfl fl gone), nI (N 0), nI (N 1), nI (N 2), nI (N 3), nI (N 4), nI (N 5), nI (N 6), nI (N 7), nI (N 8), nI (N 9), nI (N 10), nI (N 11), nI (N 12), nI (N 13), nI (N 14), nI (N 15), nI (N 16), nI (N 17)] 41, zC8 u 3 l.length (l.flatMap snV), rws 72 l]) [blk g3 [zI ((zA bs).t), zI ((zA bs).tm), zI ((zA bs).b), v1] 61, row v1 112 9 ((zA bs).l.length) ((zA bs).l.flatMap zDG), blk p [u, nI most, zI (dfl fl gone), nI (N 0), nI (N 1), nI (N 2), nI (N 3), nI (N 4), nI (N 5), nI (N 6), nI (N 7), nI (N 8), nI (N 9), nI (N 10), nI (N 11), nI (N 12), nI (N 13), nI (N 14), nI (N 15), nI (N 16), nI (N 17)] 41, zC8 u 3 l.length (l.flatMap snV), rws 72 l] a w ∧ i ≤ (zU (sns l) (zA bs).t)) ⟨0, rfl, hs.sub (.c rfl (.c rfl (.c rfl .n))), by omega⟩ ?_
  clear hs w a; rintro mm_ a w ⟨i, rfl, hs, hI1_0⟩
  revert a w hs
  refine go 0 [] [0, 6, 8] .n ?_
  by_cases ci : i < (zU (sns l) (zA bs).t)
  ·
   intro a w hs
   refine zS [.p [] [], .p [] [], .p [1] [], .p [2] [], .p [3] [0], .v [4] (nI l.length), .v [5, 0] (.bool (true)), .p [6] [], .p [7] [], .p [8, 7] [], .p [9, 7] [], .p [10, 7] [0], .p [7] [], .v [12, 11, 7] (.pointer (some (adr u (i * 3)))), .v [13, 7] (.pointer (some (adr u (i * 3 + 0)))), .v [14, 7] (zI ((l.getD i default).t)), .p [7] [], .p [16, 7] [1], .v [17, 15, 7] (.bool (true)), .p [18, 7] []] [19] hs .n (.c (.s (.s .z)) (.c .z .n)) (by kernel_rfl) ⟨rfl, fun _ _ _ _ hm hs K => zAG hs rfl (zAC (hm.del (.s (.s (.s .z))))).isSl underlying38 rfl (vk K), fun _ _ _ _ hm hs K => zCT hs rfl rfl rfl (fun a w hs => wpList_nil (K _ _ (by rw [show (decide (((i : Nat) : Int) < ((l.length : Nat) : Int))) = true from decide_eq_true (by omega)] at hs; exact hs))), rfl, fun _ _ _ _ hm hs K => zC hs rfl rfl rfl (zBj (j := i) hs rfl rfl (zAC (hm.del (.s (.s (.s .z))))) rfl (by omega) underlying38 sizeOf45 rfl (vk K)), fun _ _ _ _ hm hs K => zC hs rfl rfl rfl (zBn hs rfl (zAC (hm.del (.s (.s (.s .z))))) (by omega) underlying45 rfl sizeOf2 (by decide) (o := i * 3 + 0) rfl rfl (vk K)), fun _ _ _ _ hm hs K => zC hs rfl rfl rfl (zA7 (u := zI ((l.getD i default).t)) hs rfl (zAC (hm.del (.s (.s (.s .z))))) ((zAf zBq l i 0 (by omega) (by decide)).trans rfl) isAgg2 rfl (vk K)), rfl, fun _ _ _ _ hm hs K => zC hs rfl rfl rfl (zCT hs rfl rfl rfl (fun a w hs => wpList_nil (K _ _ (by rw [show (decide (((l.getD i default).t) < ((zA bs).t))) = true from (by have h1 := zIE hsr (t := i) (k := (zA bs).t) (by omega); rw [zCH l (by omega)] at h1; exact decide_eq_true h1)] at hs; exact hs)))), ⟨rfl, by kernel_rfl, fun _ => rfl, rfl, rfl, trivial⟩, fun _ => rfl, ?_⟩
   refine goE 4 [] [8, 0, 6] .n ⟨(by omega), ?_⟩
   intro a w hs; refine ⟨_, ?_, i + 1, rfl, hs.sub (.c rfl (.c rfl (.c rfl .n))), by omega⟩
   omega
  by_cases cl : i < l.length
  ·
   intro a w hs
   refine zS [.p [] [], .p [] [], .p [1] [], .p [2] [], .p [3] [0], .v [4] (nI l.length), .v [5, 0] (.bool (true)), .p [6] [], .p [7] [], .p [8, 7] [], .p [9, 7] [], .p [10, 7] [0], .p [7] [], .v [12, 11, 7] (.pointer (some (adr u (i * 3)))), .v [13, 7] (.pointer (some (adr u (i * 3 + 0)))), .v [14, 7] (zI ((l.getD i default).t)), .p [7] [], .p [16, 7] [1], .v [17, 15, 7] (.bool (false)), .p [18, 7] []] [19] hs .n (.c (.s (.s .z)) (.c .z .n)) (by kernel_rfl) ⟨rfl, fun _ _ _ _ hm hs K => zAG hs rfl (zAC (hm.del (.s (.s (.s .z))))).isSl underlying38 rfl (vk K), fun _ _ _ _ hm hs K => zCT hs rfl rfl rfl (fun a w hs => wpList_nil (K _ _ (by rw [show (decide (((i : Nat) : Int) < ((l.length : Nat) : Int))) = true from decide_eq_true (by omega)] at hs; exact hs))), rfl, fun _ _ _ _ hm hs K => zC hs rfl rfl rfl (zBj (j := i) hs rfl rfl (zAC (hm.del (.s (.s (.s .z))))) rfl (by omega) underlying38 sizeOf45 rfl (vk K)), fun _ _ _ _ hm hs K => zC hs rfl rfl rfl (zBn hs rfl (zAC (hm.del (.s (.s (.s .z))))) (by omega) underlying45 rfl sizeOf2 (by decide) (o := i * 3 + 0) rfl rfl (vk K)), fun _ _ _ _ hm hs K => zC hs rfl rfl rfl (zA7 (u := zI ((l.getD i default).t)) hs rfl (zAC (hm.del (.s (.s (.s .z))))) ((zAf zBq l i 0 (by omega) (by decide)).trans rfl) isAgg2 rfl (vk K)), rfl, fun _ _ _ _ hm hs K => zC hs rfl rfl rfl (zCT hs rfl rfl rfl (fun a w hs => wpList_nil (K _ _ (by rw [show (decide (((l.getD i default).t) < ((zA bs).t))) = false from (by have h1 := zLe hsr (t := i) (k := (zA bs).t) (by omega) (by omega); rw [zCH l (by omega)] at h1; exact decide_eq_false (by have h2 : (zA bs).t ≤ (l.getD i default).t := h1; omega))] at hs; exact hs)))), ⟨rfl, by kernel_rfl, fun _ => rfl, rfl, rfl, trivial⟩, fun _ => rfl, ?_⟩
   refine goE 1 [] [0, 6, 8] .n ?_
   obtain rfl : i = (zU (sns l) (zA bs).t) := by omega
   intro a w hs; exact hs.sub (.c rfl (.c rfl (.c rfl .n)))
  intro a w hs
  refine zS [.p [] [], .p [] [], .p [1] [], .p [2] [], .p [3] [0], .v [4] (nI l.length), .v [5, 0] (.bool (false)), .p [6] [], .p [7] [], .p [8, 7] [], .p [9, 7] [], .p [10, 7] [], .p [7] [], .p [12, 11, 7] [], .p [13, 7] [], .p [14, 7] [], .p [7] [], .p [16, 7] [], .v [17, 15, 7] undef, .p [18, 7] []] [19] hs .n (.c (.s (.s .z)) .n) (by kernel_rfl) ⟨rfl, fun _ _ _ _ hm hs K => zAG hs rfl (zAC (hm.del (.s (.s (.s .z))))).isSl underlying38 rfl (vk K), fun _ _ _ _ hm hs K => zCT hs rfl rfl rfl (fun a w hs => wpList_nil (K _ _ (by rw [show (decide (((i : Nat) : Int) < ((l.length : Nat) : Int))) = false from decide_eq_false (by omega)] at hs; exact hs))), fun _ _ _ _ hm hs K => zAz hs rfl rfl rfl rfl rfl (vk K), ⟨rfl, by kernel_rfl, fun _ => rfl, rfl, rfl, trivial⟩, fun _ => rfl, ?_⟩
  refine goE 1 [] [0, 6, 8] .n ?_
  obtain rfl : i = (zU (sns l) (zA bs).t) := by omega
  intro a w hs; exact hs.sub (.c rfl (.c rfl (.c rfl .n)))
 clear hs w a; rintro a w hs
 revert a w hs
 refine go 0 [] [0, 6, 8] .n ?_
 intro a w hs; refine zVw (fun a w => St 209 [(0, pt p 0), (6, pt g3 0), (8, nI (zU (sns l) (zA bs).t)), (64, .bool (false))] w0 (zX [blk p [u, nI most, zI (dfl fl gone), nI (N 0), nI (N 1), nI (N 2), nI (N 3), nI (N 4), nI (N 5), nI (N 6), nI (N 7), nI (N 8), nI (N 9), nI (N 10), nI (N 11), nI (N 12), nI (N 13), nI (N 14), nI (N 15), nI (N 16), nI (N 17)] 41, zC8 u 3 l.length (l.flatMap snV), rws 72 l]) [blk g3 [zI ((zA bs).t), zI ((zA bs).tm), zI ((zA bs).b), v1] 61, row v1 112 9 ((zA bs).l.length) ((zA bs).l.flatMap zDG), blk p [u, nI most, zI (dfl fl gone), nI (N 0), nI (N 1), nI (N 2), nI (N 3), nI (N 4), nI (N 5), nI (N 6), nI (N 7), nI (N 8), nI (N 9), nI (N 10), nI (N 11), nI (N 12), nI (N 13), nI (N 14), nI (N 15), nI (N 16), nI (N 17)] 41, zC8 u 3 l.length (l.flatMap snV), rws 72 l] a w ∧ (zB9 (sns l) (zA bs).t = false)) ?_ ?_
 ·
  clear hs w a; rintro a w ⟨hs, hf8⟩
  have hkh := hf8
  revert a w hs
  refine go 1 [] [0, 6, 8] .n ?_
  intro a w hs; refine zVw (fun a w => St 209 [(0, pt p 0), (6, pt g3 0), (8, nI (zU (sns l) (zA bs).t)), (87, .bool (false))] w0 (zX [blk p [u, nI most, zI (dfl fl gone), nI (N 0), nI (N 1), nI (N 2), nI (N 3), nI (N 4), nI (N 5), nI (N 6), nI (N 7), nI (N 8), nI (N 9), nI (N 10), nI (N 11), nI (N 12), nI (N 13), nI (N 14), nI (N 15), nI (N 16), nI (N 17)] 41, zC8 u 3 l.length (l.flatMap snV), rws 72 l]) [blk g3 [zI ((zA bs).t), zI ((zA bs).tm), zI ((zA bs).b), v1] 61, row v1 112 9 ((zA bs).l.length) ((zA bs).l.flatMap zDG), blk p [u, nI most, zI (dfl fl gone), nI (N 0), nI (N 1), nI (N 2), nI (N 3), nI (N 4), nI (N 5), nI (N 6), nI (N 7), nI (N 8), nI (N 9), nI (N 10), nI (N 11), nI (N 12), nI (N 13), nI (N 14), nI (N 15), nI (N 16), nI (N 17)] 41, zC8 u 3 l.length (l.flatMap snV), rws 72 l] a w ∧ (¬ ((zA bs).t ≤ dfl fl gone ∨ ((zU (sns l) (zA bs).t) = 0 ∧ l.length = most)))) ?_ ?_
  ·
   clear hs w a; rintro a w ⟨hs, hf9⟩
   have hst := hf9
   revert a w hs
   refine goF 23 9 [0, 1] [11, 10, 9, 0, 6, 8] (.c .z .n) (fun g10 => ⟨rfl, rfl, ?_⟩)
   intro a w hs; replace hs := hs.reblk .z (cs' := [zI ((zIz l (zA bs).b 0).t), zI ((zIz l (zA bs).b 0).tm), (zIz l (zA bs).b 0).v]) (by rw [zVY]; rfl)
   replace hs := hs.reslot (d := 10) (v := .bool (decide (((zA bs).b) < 0))) (v' := .bool (zK4 l (zA bs).b 0)) rfl (Option.some.inj (congrArg (fun b => some (Value.bool b)) (zUo l _).symm))
   revert a w hs
   refine goF 2 0 [] [10, 11, 9, 0, 6, 8] .n ?_
   intro a w hs; refine zNK (fun a w => St 209 [(0, pt p 0), (6, pt g3 0), (8, nI (zU (sns l) (zA bs).t)), (9, pt g10 0), (10, .bool (!(zEK (sns l) (zA bs).b)))] w0 (zX [blk p [u, nI most, zI (dfl fl gone), nI (N 0), nI (N 1), nI (N 2), nI (N 3), nI (N 4), nI (N 5), nI (N 6), nI (N 7), nI (N 8), nI (N 9), nI (N 10), nI (N 11), nI (N 12), nI (N 13), nI (N 14), nI (N 15), nI (N 16), nI (N 17)] 41, zC8 u 3 l.length (l.flatMap snV), rws 72 l]) [blk g10 [zI ((zK l (zA bs).b).t), zI ((zK l (zA bs).b).tm), (zK l (zA bs).b).v] 45, blk g3 [zI ((zA bs).t), zI ((zA bs).tm), zI ((zA bs).b), v1] 61, row v1 112 9 ((zA bs).l.length) ((zA bs).l.flatMap zDG), blk p [u, nI most, zI (dfl fl gone), nI (N 0), nI (N 1), nI (N 2), nI (N 3), nI (N 4), nI (N 5), nI (N 6), nI (N 7), nI (N 8), nI (N 9), nI (N 10), nI (N 11), nI (N 12), nI (N 13), nI (N 14), nI (N 15), nI (N 16), nI (N 17)] 41, zC8 u 3 l.length (l.flatMap snV), rws 72 l] a w) ?_ ?_
   ·
    revert a w hs
    refine go 0 [] [10, 11, 9, 0, 6, 8] .n ?_
    intro a w hs; refine zCA (fun mm_ a w => ∃ j : Nat, mm_ = l.length - j ∧ St 209 [(0, pt p 0), (6, pt g3 0), (8, nI (zU (sns l) (zA bs).t)), (9, pt g10 0), (10, .bool (zK4 l (zA bs).b j)), (11, nI j)] w0 (zX [blk p [u, nI most, zI (dfl fl gone), nI (N 0), nI (N 1), nI (N 2), nI (N 3), nI (N 4), nI (N 5), nI (N 6), nI (N 7), nI (N 8), nI (N 9), nI (N 10), nI (N 11), nI (N 12), nI (N 13), nI (N 14), nI (N 15), nI (N 16), nI (N 17)] 41, zC8 u 3 l.length (l.flatMap snV), rws 72 l]) [blk g10 [zI ((zIz l (zA bs).b j).t), zI ((zIz l (zA bs).b j).tm), (zIz l (zA bs).b j).v] 45, blk g3 [zI ((zA bs).t), zI ((zA bs).tm), zI ((zA bs).b), v1] 61, row v1 112 9 ((zA bs).l.length) ((zA bs).l.flatMap zDG), blk p [u, nI most, zI (dfl fl gone), nI (N 0), nI (N 1), nI (N 2), nI (N 3), nI (N 4), nI (N 5), nI (N 6), nI (N 7), nI (N 8), nI (N 9), nI (N 10), nI (N 11), nI (N 12), nI (N 13), nI (N 14), nI (N 15), nI (N 16), nI (N 17)] 41, zC8 u 3 l.length (l.flatMap snV), rws 72 l] a w ∧ j ≤ l.length) ⟨0, rfl, hs.sub (.c rfl (.c rfl (.c rfl (.c rfl (.c rfl (.c rfl .n)))))), by omega⟩ ?_
    clear hs w a; rintro mm_ a w ⟨j, rfl, hs, hI2_0⟩
    revert a w hs
    refine go 5 [0] [96, 92, 0, 6, 8, 9, 10, 11] (.c (.s (.s (.s .z))) .n) ⟨rfl, ?_⟩
    intro a w hs; refine zAG hs rfl (zAC (hs.mem.del (.s (.s (.s (.s .z)))))).isSl underlying38 rfl ?_
    refine goL 1 [] [98, 0, 6, 8, 9, 10, 11] .n ?_
    refine ifG rfl (fun c_11 => ?_) (fun c_11 => ?_)
    ·
     refine go 0 [] [0, 6, 8, 9, 10, 11] .n ?_
     intro a w hs
     refine zS [.p [] [], .p [0] [], .p [1] [], .p [2] [0], .p [] [], .v [4, 3] (.pointer (some (adr u (j * 3)))), .v [5] (.pointer (some (adr u (j * 3 + 0)))), .v [6] (zI ((l.getD j default).t)), .p [] [], .p [8] [1], .p [9, 7] []] [10] hs .n (.c .z (.c (.s .z) .n)) (by kernel_rfl) ⟨rfl, fun _ _ _ _ hm hs K => zBj (j := j) hs rfl rfl (zAC (hm.del (.s (.s (.s (.s .z)))))) rfl (by omega) underlying38 sizeOf45 rfl (vk K), fun _ _ _ _ hm hs K => zBn hs rfl (zAC (hm.del (.s (.s (.s (.s .z)))))) (by omega) underlying45 rfl sizeOf2 (by decide) (o := j * 3 + 0) rfl rfl (vk K), fun _ _ _ _ hm hs K => zA7 (u := zI ((l.getD j default).t)) hs rfl (zAC (hm.del (.s (.s (.s (.s .z)))))) ((zAf zBq l j 0 (by omega) (by decide)).trans rfl) isAgg2 rfl (vk K), rfl, ⟨rfl, by kernel_rfl, fun _ => rfl, rfl, rfl, trivial⟩, fun _ => rfl, ?_⟩
     refine goE 0 [] [111, 0, 6, 8, 9, 10, 11] .n ?_
     refine ifG rfl (fun c_13 => ?_) (fun c_13 => ?_)
     ·
      have hbt : (l.getD j default).t = (zA bs).b := by assumption
      refine go 5 [0] [116, 115, 0, 6, 8, 9, 11] (.c .z .n) ⟨rfl, ?_⟩
      intro a w hs; refine zBj (j := j) hs rfl rfl (zAC (hs.mem.del (.s (.s (.s (.s .z)))))) rfl (by omega) underlying38 sizeOf45 rfl ?_
      intro a w hs; refine zCm (cs := snV (l.getD j default)) hs rfl (zAC (hs.mem.del (.s (.s (.s (.s .z)))))) (zBe zBq l j (by omega)) (by rw [zBH zBq]; omega) (by omega) isAgg45 sizeOf45 rfl ?_
      refine zHA 12 5 [50] [11, 10, 0, 6, 8, 9] (.c (.s .z) .n) ⟨rfl, (zN rfl (zN rfl (zN (hiv _ (zJr (by omega))).one zBS))), (by omega), ?_⟩
      refine go 0 [] [11, 10, 0, 6, 8, 9] .n ?_
      intro a w hs; replace hs := hs.reblk .z (cs' := [zI ((zIz l (zA bs).b (j + 1)).t), zI ((zIz l (zA bs).b (j + 1)).tm), (zIz l (zA bs).b (j + 1)).v]) (by rw [(zMd hsr (by omega) hbt).1] <;> rfl)
      replace hs := hs.reslot (d := 10) (v := .bool (true)) (v' := .bool (zK4 l (zA bs).b (j + 1))) rfl (Option.some.inj (congrArg (fun b => some (Value.bool b)) (by rw [(zMd hsr (by omega) hbt).2])))
      replace hs := hs.reorder (.c .z (.c (.s .z) (.c (.s .z) (.c .z (.c .z (.c .z .n))))))
      refine ⟨_, ?_, j + 1, rfl, hs.sub (.c rfl (.c rfl (.c rfl (.c rfl (.c rfl (.c rfl .n)))))), by omega⟩
      omega
     have hbt : (l.getD j default).t ≠ (zA bs).b := by assumption
     refine goF 7 3 [] [11, 0, 6, 8, 9, 10] .n ⟨(by omega), ?_⟩
     refine go 0 [] [11, 0, 6, 8, 9, 10] .n ?_
     intro a w hs; replace hs := hs.reblk (.s .z) (cs' := [zI ((zIz l (zA bs).b (j + 1)).t), zI ((zIz l (zA bs).b (j + 1)).tm), (zIz l (zA bs).b (j + 1)).v]) (by rw [(zJ9 hsr (by omega) hbt).1] <;> rfl)
     replace hs := hs.reslot (d := 10) (v := .bool (zK4 l (zA bs).b j)) (v' := .bool (zK4 l (zA bs).b (j + 1))) rfl (Option.some.inj (congrArg (fun b => some (Value.bool b)) (by rw [(zJ9 hsr (by omega) hbt).2])))
     replace hs := hs.reorder (.c .z (.c (.s .z) (.c (.s .z) (.c .z (.c .z (.c .z .n))))))
     refine ⟨_, ?_, j + 1, rfl, hs.sub (.c rfl (.c rfl (.c rfl (.c rfl (.c rfl (.c rfl .n)))))), by omega⟩
     omega
    refine go 0 [] [0, 6, 8, 9, 10] .n ?_
    obtain rfl : j = l.length := by omega
    refine cl (·.reblk (.s .z) (cs' := [zI ((zK l (zA bs).b).t), zI ((zK l (zA bs).b).tm), (zK l (zA bs).b).v]) (by rw [(zLz hsr).1])) ?_
    refine cl (·.reslot (d := 10) (v := .bool (zK4 l (zA bs).b l.length)) (v' := .bool (!(zEK (sns l) (zA bs).b))) rfl (Option.some.inj (congrArg (fun b => some (Value.bool b)) (by rw [(zLz hsr).2])))) ?_
    refine cl (·.reorder (.c .z (.c (.s .z) (.c (.s .z) (.c .z (.c .z (.c .z .n))))))) ?_
    intro a w hs; exact hs.sub (.c rfl (.c rfl (.c rfl (.c rfl (.c rfl .n)))))
   clear hs w a; rintro a w hs
   revert a w hs
   refine go 2 [] [120, 0, 6, 8, 9] .n ?_
   refine ifG rfl (fun c_14 => ?_) (fun c_14 => ?_)
   ·
    refine go 2 [] [5, 4] .n ?_
    refine cl (·.drop (.c (.s (.s .z)) (.c (.s .z) (.c .z .n)))) ?_
    have hE_ : (zAT (sns l) most fl gone (zA bs)) = 14 := zRv (by omega) hkh (Bool.eq_false_iff.2 (fun h => hst (by have h1 := (zER (by omega) hkh).1 h; rw [zAJ] at h1; exact h1))) (by assumption)
    have hn_ : (zAT (sns l) most fl gone (zA bs)) ≠ 0 := by rw [hE_]; omega
    have hT_ : zGW (sns l) most fl gone (zA bs) = 0 := if_neg hn_
    intro a w hs; exact zCF hs rfl rfl rfl ⟨by rw [hT_, hE_] <;> rfl, _, l, if_neg hn_, by rw [if_neg hn_]⟩
   refine go 2 [0, 1] [123, 122, 0, 8] (.c .z (.c .z .n)) ⟨rfl, rfl, ?_⟩
   intro a w hs; refine zO hs (.c rfl (.c rfl .n)) call36 .n (zLu ((zK l (zA bs).b).t) ((zK l (zA bs).b).tm) _ ((zK l (zA bs).b).l) ((zA bs).t) ((zA bs).tm) ((zA bs).b) _ ((zA bs).l) _ (by omega) (by omega) (by omega) (by omega) (by omega) (zDP (hs.mem.del (.s (.s (.s (.s (.s .z)))))) (zEC l (zA bs).b hsr)) (zM (hs.mem.del (.s (.s .z)))) (zJf bs)) rfl ?_; clear hs w a; rintro _ _ a w ⟨v15, rfl, rfl⟩ hs
   have hk16 := zKX (at_ := ((zK l (zA bs).b).t)) (atm := ((zK l (zA bs).b).tm)) (a := (zK l (zA bs).b).l) (gt := ((zA bs).t)) (gtm := ((zA bs).tm)) (gb := ((zA bs).b)) (rl := (zA bs).l)
   revert a w hs
   refine goL 4 [] [12, 126, 125, 0, 8] .n (fun g17 => ?_)
   intro a w hs; refine zA4 hs rfl rfl .z (.z (.c (.c (.c .n)))) (zN rfl (zN rfl (zN (zM (hs.mem.del (.s .z))).isSl.one zBS))) sizeOf45 rfl ?_
   refine goL 3 [] [128, 13, 12, 0, 8] .n ?_
   refine ifG rfl (fun c_18 => ?_) (fun c_18 => ?_)
   ·
    refine go 3 [] [5, 4] .n ?_
    refine cl (·.drop (.c (.s (.s (.s (.s .z)))) (.c (.s (.s (.s .z))) (.c (.s (.s .z)) (.c (.s .z) (.c .z .n)))))) ?_
    have hE_ : (zAT (sns l) most fl gone (zA bs)) = zGI (sns l) (zA bs) := zUR (by omega) hkh (Bool.eq_false_iff.2 (fun h => hst (by have h1 := (zER (by omega) hkh).1 h; rw [zAJ] at h1; exact h1))) (by assumption) (by rw [zBw hsr]; omega)
    have hn_ : (zAT (sns l) most fl gone (zA bs)) ≠ 0 := by rw [hE_]; rw [zBw hsr]; omega
    have hT_ : zGW (sns l) most fl gone (zA bs) = 0 := if_neg hn_
    intro a w hs; exact zCF hs rfl rfl rfl ⟨by rw [hT_, hE_] <;> rw [zBw hsr], _, l, if_neg hn_, by rw [if_neg hn_]⟩
   have hat : (aS (zK l (zA bs).b).t (zK l (zA bs).b).tm (zK l (zA bs).b).l (zA bs).t (zA bs).tm (zA bs).b (zA bs).l).t = (zA bs).t ∧ (aS (zK l (zA bs).b).t (zK l (zA bs).b).tm (zK l (zA bs).b).l (zA bs).t (zA bs).tm (zA bs).b (zA bs).l).tm = (zA bs).tm := by have h1 := zKn (l := sns l) (G := (zA bs)) (by rw [zBw hsr]; omega); rw [zB8 hsr] at h1; exact h1
   have hte := zRN (tm := (aS (zK l (zA bs).b).t (zK l (zA bs).b).tm (zK l (zA bs).b).l (zA bs).t (zA bs).tm (zA bs).b (zA bs).l).tm) hkh
   intro a w hs; have hvx := (zM (hs.mem.del (.s .z))).isSl
   revert a w hs
   refine go 0 [] [12, 0, 8] .n ?_
   intro a w hs; refine zVw (fun a w => St 209 [(0, pt p 0), (8, nI (zU (sns l) (zA bs).t)), (12, pt g17 0), (167, .bool (false))] w0 (zX [blk p [u, nI most, zI (dfl fl gone), nI (N 0), nI (N 1), nI (N 2), nI (N 3), nI (N 4), nI (N 5), nI (N 6), nI (N 7), nI (N 8), nI (N 9), nI (N 10), nI (N 11), nI (N 12), nI (N 13), nI (N 14), nI (N 15), nI (N 16), nI (N 17)] 41, zC8 u 3 l.length (l.flatMap snV), rws 72 l]) [blk g17 [zI ((aS ((zK l (zA bs).b).t) ((zK l (zA bs).b).tm) ((zK l (zA bs).b).l) ((zA bs).t) ((zA bs).tm) ((zA bs).b) ((zA bs).l)).t), zI ((aS ((zK l (zA bs).b).t) ((zK l (zA bs).b).tm) ((zK l (zA bs).b).l) ((zA bs).t) ((zA bs).tm) ((zA bs).b) ((zA bs).l)).tm), v15] 45, row v15 72 9 ((aS ((zK l (zA bs).b).t) ((zK l (zA bs).b).tm) ((zK l (zA bs).b).l) ((zA bs).t) ((zA bs).tm) ((zA bs).b) ((zA bs).l)).l.length) ((aS ((zK l (zA bs).b).t) ((zK l (zA bs).b).tm) ((zK l (zA bs).b).l) ((zA bs).t) ((zA bs).tm) ((zA bs).b) ((zA bs).l)).l.flatMap zBQ), blk g10 [zI ((zK l (zA bs).b).t), zI ((zK l (zA bs).b).tm), (zK l (zA bs).b).v] 45, blk g3 [zI ((zA bs).t), zI ((zA bs).tm), zI ((zA bs).b), v1] 61, row v1 112 9 ((zA bs).l.length) ((zA bs).l.flatMap zDG), blk p [u, nI most, zI (dfl fl gone), nI (N 0), nI (N 1), nI (N 2), nI (N 3), nI (N 4), nI (N 5), nI (N 6), nI (N 7), nI (N 8), nI (N 9), nI (N 10), nI (N 11), nI (N 12), nI (N 13), nI (N 14), nI (N 15), nI (N 16), nI (N 17)] 41, zC8 u 3 l.length (l.flatMap snV), rws 72 l] a w ∧ (tml (sns l) (zA bs).t (aS (zK l (zA bs).b).t (zK l (zA bs).b).tm (zK l (zA bs).b).l (zA bs).t (zA bs).tm (zA bs).b (zA bs).l).tm = true)) ?_ ?_
   ·
    clear hs w a; rintro a w ⟨hs, hf19⟩
    have htm := hf19
    revert a w hs
    refine go 1 [] [0, 8, 12] .n ?_
    intro a w hs; refine zIi hs underlying38 rfl ?_ ⟨_, sizeOf45⟩; intro g20
    refine goL 5 [0] [173, 172, 168, 0, 8, 12] (.c (.s (.s (.s (.s (.s (.s .z)))))) .n) ⟨rfl, ?_⟩
    intro a w hs; refine zHZ (j := (zU (sns l) (zA bs).t)) hs rfl rfl rfl (zAC (hs.mem.del (.s (.s (.s (.s (.s (.s (.s .z))))))))) (by omega) underlying38 sizeOf45 rfl ?_
    refine cl (·.toRow (size := 3) (m := 0) (.s .z) rfl (by decide)) ?_
    intro a w hs; refine zAj (size := 3) (bytes := 40) hs rfl rfl .z ((zAC (hs.mem.del (.s (.s (.s (.s (.s (.s (.s .z))))))))).slc (l := 0) (h := (zU (sns l) (zA bs).t)) (by omega) (by omega)) (zOY (zL4 hiv) _ _) underlying38 (i := Tryz.t45) rfl rfl rfl rfl rfl (by decide) (by omega) (by simp only [maxLen]; omega) rfl ?_; intro v21
    refine goL 1 [] [14, 0, 8, 12] .n ?_
    refine cl (·.sub (F' := [(14, v21), (0, pt p 0), (8, nI (zU (sns l) (zA bs).t)), (12, pt g17 0)]) (.c rfl (.c rfl (.c rfl (.c rfl .n))))) ?_
    intro a w hs
    have hs1 := hs
    replace hs := hs.sub (F' := [(0, pt p 0), (8, nI (zU (sns l) (zA bs).t)), (12, pt g17 0)]) (.c rfl (.c rfl (.c rfl .n)))
    refine zID (M0 := [blk p [u, nI most, zI (dfl fl gone), nI (N 0), nI (N 1), nI (N 2), nI (N 3), nI (N 4), nI (N 5), nI (N 6), nI (N 7), nI (N 8), nI (N 9), nI (N 10), nI (N 11), nI (N 12), nI (N 13), nI (N 14), nI (N 15), nI (N 16), nI (N 17)] 41, blk g17 [zI ((aS ((zK l (zA bs).b).t) ((zK l (zA bs).b).tm) ((zK l (zA bs).b).l) ((zA bs).t) ((zA bs).tm) ((zA bs).b) ((zA bs).l)).t), zI ((aS ((zK l (zA bs).b).t) ((zK l (zA bs).b).tm) ((zK l (zA bs).b).l) ((zA bs).t) ((zA bs).tm) ((zA bs).b) ((zA bs).l)).tm), v15] 45, row v15 72 9 ((aS ((zK l (zA bs).b).t) ((zK l (zA bs).b).tm) ((zK l (zA bs).b).l) ((zA bs).t) ((zA bs).tm) ((zA bs).b) ((zA bs).l)).l.length) ((aS ((zK l (zA bs).b).t) ((zK l (zA bs).b).tm) ((zK l (zA bs).b).l) ((zA bs).t) ((zA bs).tm) ((zA bs).b) ((zA bs).l)).l.flatMap zBQ), blk g10 [zI ((zK l (zA bs).b).t), zI ((zK l (zA bs).b).tm), (zK l (zA bs).b).v] 45, blk g3 [zI ((zA bs).t), zI ((zA bs).tm), zI ((zA bs).b), v1] 61, row v1 112 9 ((zA bs).l.length) ((zA bs).l.flatMap zDG), zC8 u 3 l.length (l.flatMap snV), rws 72 l]) (Ds := [Pv 0 v21, Pv 1 (.agg #[zI ((aS ((zK l (zA bs).b).t) ((zK l (zA bs).b).tm) ((zK l (zA bs).b).l) ((zA bs).t) ((zA bs).tm) ((zA bs).b) ((zA bs).l)).t), zI ((aS ((zK l (zA bs).b).t) ((zK l (zA bs).b).tm) ((zK l (zA bs).b).l) ((zA bs).t) ((zA bs).tm) ((zA bs).b) ((zA bs).l)).tm), v15]), ⟨[], [], [], fun vs22 => vs22 2 = .slice (some ⟨(zCQ (vs22 2)), 0, none⟩) 1 1, fun vs22 => [blk (zCQ (vs22 2)) [zI ((aS ((zK l (zA bs).b).t) ((zK l (zA bs).b).tm) ((zK l (zA bs).b).l) ((zA bs).t) ((zA bs).tm) ((zA bs).b) ((zA bs).l)).t), zI ((aS ((zK l (zA bs).b).t) ((zK l (zA bs).b).tm) ((zK l (zA bs).b).l) ((zA bs).t) ((zA bs).tm) ((zA bs).b) ((zA bs).l)).tm), v15] 45], none⟩, ⟨[row v21 45 3 (0 + ((zU (sns l) (zA bs).t) - 0)) (([]) ++ (((l.flatMap snV).drop (0 * 3)).take (((zU (sns l) (zA bs).t) - 0) * 3)))], [], [], fun vs22 => True, fun vs22 => [row (vs22 3) 45 3 ((0 + ((zU (sns l) (zA bs).t) - 0)) + 1) ((([]) ++ (((l.flatMap snV).drop (0 * 3)).take (((zU (sns l) (zA bs).t) - 0) * 3))) ++ ([zI ((aS ((zK l (zA bs).b).t) ((zK l (zA bs).b).tm) ((zK l (zA bs).b).l) ((zA bs).t) ((zA bs).tm) ((zA bs).b) ((zA bs).l)).t), zI ((aS ((zK l (zA bs).b).t) ((zK l (zA bs).b).tm) ((zK l (zA bs).b).l) ((zA bs).t) ((zA bs).tm) ((zA bs).b) ((zA bs).l)).tm), v15]))], none⟩, Pv 4 (pt p 0), Pv 5 (pt p 0), Pv 6 (pt p 0), Pv 7 u, Pv 8 (nI (zU (sns l) (zA bs).t)), Pv 9 (zHv u 3 (zU (sns l) (zA bs).t) l.length), ⟨[], [3], [], fun vs22 => True, fun vs22 => [row (vs22 10) 45 3 (((0 + ((zU (sns l) (zA bs).t) - 0)) + 1) + (l.length - (zU (sns l) (zA bs).t))) (((([]) ++ (((l.flatMap snV).drop (0 * 3)).take (((zU (sns l) (zA bs).t) - 0) * 3))) ++ ([zI ((aS ((zK l (zA bs).b).t) ((zK l (zA bs).b).tm) ((zK l (zA bs).b).l) ((zA bs).t) ((zA bs).tm) ((zA bs).b) ((zA bs).l)).t), zI ((aS ((zK l (zA bs).b).t) ((zK l (zA bs).b).tm) ((zK l (zA bs).b).l) ((zA bs).t) ((zA bs).tm) ((zA bs).b) ((zA bs).l)).tm), v15])) ++ (((l.flatMap snV).drop ((zU (sns l) (zA bs).t) * 3)).take ((l.length - (zU (sns l) (zA bs).t)) * 3)))], none⟩, ⟨[], [], [10], fun vs22 => vs22 11 = (vs22 10), fun vs22 => [], some (v21)⟩]) (by kernel_rfl) hs rfl (.c .z .n) (by kernel_rfl) (by kernel_rfl) ?_ (zRI.get (.z rfl (.z rfl (.z rfl (.z rfl (.z rfl (.z rfl (.z rfl (.z rfl (.z rfl (.z rfl (.z rfl (.s rfl rfl rfl .n)))))))))))) hs1) ?_
    all_goals clear hs1
    ·
     refine (.c ?_ (.c ?_ (.c ?_ (.c ?_ (.c ?_ (.c ?_ (.c ?_ (.c ?_ (.c ?_ (.c ?_ (.c ?_ (.c ?_ .n))))))))))))
     · exact zB1 (m := 12) (.o (j := 11) (by kernel_rfl) rfl rfl .n) (fun hm0 hm hx => .n) (by kernel_rfl) (by kernel_rfl) rfl
     · exact zB1 (m := 12) .n (fun hm0 hm hx => (.c (hm0.del (.s .z)))) (by kernel_rfl) (by kernel_rfl) rfl
     ·
      intro a_ w_ R_ rest_ vs22 hm hs ht hx
      have hm0 := hm.mid
      replace hs := hs.lrn (ht 1 (zL 12 _ (by kernel_rfl))) rfl rfl
      have hs0 := hs.bare
      refine zFv (cs := [zI ((aS ((zK l (zA bs).b).t) ((zK l (zA bs).b).tm) ((zK l (zA bs).b).l) ((zA bs).t) ((zA bs).tm) ((zA bs).b) ((zA bs).l)).t), zI ((aS ((zK l (zA bs).b).t) ((zK l (zA bs).b).tm) ((zK l (zA bs).b).l) ((zA bs).t) ((zA bs).tm) ((zA bs).b) ((zA bs).l)).tm), v15]) hs (.c .n) (.c rfl .n) underlying38 (ie := Tryz.t45) rfl rfl rfl rfl (by decide) (by decide) rfl (by decide) rfl rfl rfl ?_; clear hs; intro g23 a w hs
      exact wpList_nil ⟨rfl, _, _, hs0, (.c .r), hs, rfl⟩
     ·
      intro a_ w_ R_ rest_ vs22 hm hs ht hx
      replace hs : St _ _ _ (zX [row v21 45 3 (0 + ((zU (sns l) (zA bs).t) - 0)) (([]) ++ (((l.flatMap snV).drop (0 * 3)).take (((zU (sns l) (zA bs).t) - 0) * 3)))]) [row v21 45 3 (0 + ((zU (sns l) (zA bs).t) - 0)) (([]) ++ (((l.flatMap snV).drop (0 * 3)).take (((zU (sns l) (zA bs).t) - 0) * 3)))] _ _ := hs
      have hm0 := hm.mid
      replace hs := hs.lrn (ht 0 (zL 12 _ (by kernel_rfl))) rfl rfl
      have t2 := ht 2 (zL 12 _ (by kernel_rfl))
      have e2 : _ = some (vs22 2) := t2.val rfl
      rw [show vs22 2 = .slice (some ⟨(zCQ (vs22 2)), 0, none⟩) 1 1 from t2.2.1] at e2
      replace hs := hs.learn e2
      have hs0 := hs.bare
      refine zAj (size := 3) (bytes := 40) hs rfl rfl .z (zAa (m := 1) (size := 3) (hm.own (List.mem_append.2 (.inr ((ht 2 (zL 12 _ (by kernel_rfl))).2.2 (zFR (n := 12) (by kernel_rfl)) _ (List.Mem.head _))))) rfl (by decide)) (zOx hvx) underlying38 (i := Tryz.t45) rfl rfl rfl rfl rfl (by decide) (by omega) (by simp only [maxLen]; omega) rfl ?_; clear hs; intro v24 a w hs
      exact wpList_nil ⟨rfl, _, _, hs0, (.c (.c .r)), hs, trivial⟩
     · exact zB1 (m := 12) .n (fun hm0 hm hx => .n) (by kernel_rfl) (by kernel_rfl) rfl
     · exact zB1 (m := 12) (.c (k := 4) (by kernel_rfl) rfl rfl .n) (fun hm0 hm hx => .n) (by kernel_rfl) (by kernel_rfl) rfl
     · exact zB1 (m := 12) (.c (k := 5) (by kernel_rfl) rfl rfl .n) (fun hm0 hm hx => .n) (by kernel_rfl) (by kernel_rfl) rfl
     · exact zB1 (m := 12) (.c (k := 6) (by kernel_rfl) rfl rfl .n) (fun hm0 hm hx => (.c (hm0.del .z))) (by kernel_rfl) (by kernel_rfl) rfl
     · exact zB1 (m := 12) .n (fun hm0 hm hx => .n) (by kernel_rfl) (by kernel_rfl) rfl
     ·
      intro a_ w_ R_ rest_ vs22 hm hs ht hx
      have hm0 := hm.mid
      replace hs := hs.lrn (ht 7 (zL 12 _ (by kernel_rfl))) rfl rfl
      replace hs := hs.lrn (ht 8 (zL 12 _ (by kernel_rfl))) rfl rfl
      have hs0 := hs.bare
      refine zEL (j := (zU (sns l) (zA bs).t)) hs rfl rfl rfl (zAC (hm0.del (.s (.s (.s (.s (.s (.s .z)))))))).isSl (by omega) underlying38 sizeOf45 rfl ?_; clear hs; intro a w hs
      exact wpList_nil ⟨rfl, _, _, hs0, (.c (.c .r)), hs, rfl⟩
     ·
      intro a_ w_ R_ rest_ vs22 hm hs ht hx
      replace hs : St _ _ _ (zX [row (vs22 3) 45 3 ((0 + ((zU (sns l) (zA bs).t) - 0)) + 1) ((([]) ++ (((l.flatMap snV).drop (0 * 3)).take (((zU (sns l) (zA bs).t) - 0) * 3))) ++ ([zI ((aS ((zK l (zA bs).b).t) ((zK l (zA bs).b).tm) ((zK l (zA bs).b).l) ((zA bs).t) ((zA bs).tm) ((zA bs).b) ((zA bs).l)).t), zI ((aS ((zK l (zA bs).b).t) ((zK l (zA bs).b).tm) ((zK l (zA bs).b).l) ((zA bs).t) ((zA bs).tm) ((zA bs).b) ((zA bs).l)).tm), v15]))]) [row (vs22 3) 45 3 ((0 + ((zU (sns l) (zA bs).t) - 0)) + 1) ((([]) ++ (((l.flatMap snV).drop (0 * 3)).take (((zU (sns l) (zA bs).t) - 0) * 3))) ++ ([zI ((aS ((zK l (zA bs).b).t) ((zK l (zA bs).b).tm) ((zK l (zA bs).b).l) ((zA bs).t) ((zA bs).tm) ((zA bs).b) ((zA bs).l)).t), zI ((aS ((zK l (zA bs).b).t) ((zK l (zA bs).b).tm) ((zK l (zA bs).b).l) ((zA bs).t) ((zA bs).tm) ((zA bs).b) ((zA bs).l)).tm), v15]))] _ _ := hs
      have hm0 := hm.mid
      have t3 := ht 3 (zL 12 _ (by kernel_rfl))
      have e3 : _ = some (vs22 3) := t3.val rfl
      replace hs := hs.learn e3
      replace hs := hs.lrn (ht 9 (zL 12 _ (by kernel_rfl))) rfl rfl
      have hs0 := hs.bare
      refine zAj (size := 3) (bytes := 40) hs rfl rfl .z ((zAC (hm0.del (.s (.s (.s (.s (.s (.s .z)))))))).slc (l := (zU (sns l) (zA bs).t)) (h := l.length) (by omega) (by omega)) (zOY (zL4 hiv) _ _) underlying38 (i := Tryz.t45) rfl rfl rfl rfl rfl (by decide) (by omega) (by simp only [maxLen]; omega) rfl ?_; clear hs; intro v25 a w hs
      exact wpList_nil ⟨rfl, _, _, hs0, (.c (.c .r)), hs, trivial⟩
     intro a_ w_ R_ rest_ vs22 hm hs ht hx
     have hm0 := hm.mid
     have t10 := ht 10 (zL 12 _ (by kernel_rfl))
     have e10 : _ = some (vs22 10) := t10.val rfl
     replace hs := hs.learn e10
     have hs0 := hs.bare
     refine zJ1 hs rfl rfl ?_; clear hs; intro a w hs
     exact wpList_nil ⟨rfl, _, _, hs0, (.c .r), hs, rfl⟩
    clear hs w a; intro a w vs22 hs hf
    replace hs : St _ _ _ _ [blk p [u, nI most, zI (dfl fl gone), nI (N 0), nI (N 1), nI (N 2), nI (N 3), nI (N 4), nI (N 5), nI (N 6), nI (N 7), nI (N 8), nI (N 9), nI (N 10), nI (N 11), nI (N 12), nI (N 13), nI (N 14), nI (N 15), nI (N 16), nI (N 17)] 41, blk g17 [zI ((aS ((zK l (zA bs).b).t) ((zK l (zA bs).b).tm) ((zK l (zA bs).b).l) ((zA bs).t) ((zA bs).tm) ((zA bs).b) ((zA bs).l)).t), zI ((aS ((zK l (zA bs).b).t) ((zK l (zA bs).b).tm) ((zK l (zA bs).b).l) ((zA bs).t) ((zA bs).tm) ((zA bs).b) ((zA bs).l)).tm), v15] 45, row v15 72 9 ((aS ((zK l (zA bs).b).t) ((zK l (zA bs).b).tm) ((zK l (zA bs).b).l) ((zA bs).t) ((zA bs).tm) ((zA bs).b) ((zA bs).l)).l.length) ((aS ((zK l (zA bs).b).t) ((zK l (zA bs).b).tm) ((zK l (zA bs).b).l) ((zA bs).t) ((zA bs).tm) ((zA bs).b) ((zA bs).l)).l.flatMap zBQ), blk g10 [zI ((zK l (zA bs).b).t), zI ((zK l (zA bs).b).tm), (zK l (zA bs).b).v] 45, blk g3 [zI ((zA bs).t), zI ((zA bs).tm), zI ((zA bs).b), v1] 61, row v1 112 9 ((zA bs).l.length) ((zA bs).l.flatMap zDG), zC8 u 3 l.length (l.flatMap snV), rws 72 l, blk (zCQ (vs22 2)) [zI ((aS ((zK l (zA bs).b).t) ((zK l (zA bs).b).tm) ((zK l (zA bs).b).l) ((zA bs).t) ((zA bs).tm) ((zA bs).b) ((zA bs).l)).t), zI ((aS ((zK l (zA bs).b).t) ((zK l (zA bs).b).tm) ((zK l (zA bs).b).l) ((zA bs).t) ((zA bs).tm) ((zA bs).b) ((zA bs).l)).tm), v15] 45, row (vs22 10) 45 3 (((0 + ((zU (sns l) (zA bs).t) - 0)) + 1) + (l.length - (zU (sns l) (zA bs).t))) (((([]) ++ (((l.flatMap snV).drop (0 * 3)).take (((zU (sns l) (zA bs).t) - 0) * 3))) ++ ([zI ((aS ((zK l (zA bs).b).t) ((zK l (zA bs).b).tm) ((zK l (zA bs).b).l) ((zA bs).t) ((zA bs).tm) ((zA bs).b) ((zA bs).l)).t), zI ((aS ((zK l (zA bs).b).t) ((zK l (zA bs).b).tm) ((zK l (zA bs).b).l) ((zA bs).t) ((zA bs).tm) ((zA bs).b) ((zA bs).l)).tm), v15])) ++ (((l.flatMap snV).drop ((zU (sns l) (zA bs).t) * 3)).take ((l.length - (zU (sns l) (zA bs).t)) * 3)))] _ _ := hs
    obtain ⟨e11, q11⟩ := hf 11 (by decide)
    replace e11 : _ = some (vs22 11) := e11.val rfl
    rw [show vs22 11 = (vs22 10) from q11] at e11
    replace hs := hs.learn e11; clear e11 q11
    generalize zCQ (vs22 2) = g26 at hs
    generalize vs22 10 = v27 at hs
    clear hf
    revert a w hs
    refine goE 1 [] [187, 14, 0, 12] .n ?_
    have hkl2 := zEy l (⟨(aS (zK l (zA bs).b).t (zK l (zA bs).b).tm (zK l (zA bs).b).l (zA bs).t (zA bs).tm (zA bs).b (zA bs).l).t, (aS (zK l (zA bs).b).t (zK l (zA bs).b).tm (zK l (zA bs).b).l (zA bs).t (zA bs).tm (zA bs).b (zA bs).l).tm, (aS (zK l (zA bs).b).t (zK l (zA bs).b).tm (zK l (zA bs).b).l (zA bs).t (zA bs).tm (zA bs).b (zA bs).l).l, v15⟩ : RI) (i := (zU (sns l) (zA bs).t)) (by rw [hsl] at hkle; exact hkle)
    intro a w hs; replace hs := hs.rerow (.s (.s (.s (.s (.s (.s (.s (.s (.s .z))))))))) (m' := (zB2 l (zU (sns l) (zA bs).t) (⟨(aS (zK l (zA bs).b).t (zK l (zA bs).b).tm (zK l (zA bs).b).l (zA bs).t (zA bs).tm (zA bs).b (zA bs).l).t, (aS (zK l (zA bs).b).t (zK l (zA bs).b).tm (zK l (zA bs).b).l (zA bs).t (zA bs).tm (zA bs).b (zA bs).l).tm, (aS (zK l (zA bs).b).t (zK l (zA bs).b).tm (zK l (zA bs).b).l (zA bs).t (zA bs).tm (zA bs).b (zA bs).l).l, v15⟩ : RI)).length) (xs' := ((zB2 l (zU (sns l) (zA bs).t) (⟨(aS (zK l (zA bs).b).t (zK l (zA bs).b).tm (zK l (zA bs).b).l (zA bs).t (zA bs).tm (zA bs).b (zA bs).l).t, (aS (zK l (zA bs).b).t (zK l (zA bs).b).tm (zK l (zA bs).b).l (zA bs).t (zA bs).tm (zA bs).b (zA bs).l).tm, (aS (zK l (zA bs).b).t (zK l (zA bs).b).tm (zK l (zA bs).b).l (zA bs).t (zA bs).tm (zA bs).b (zA bs).l).l, v15⟩ : RI)).flatMap snV)) (by rw [hsl] at hkle; omega) (zVl (x := (⟨(aS (zK l (zA bs).b).t (zK l (zA bs).b).tm (zK l (zA bs).b).l (zA bs).t (zA bs).tm (zA bs).b (zA bs).l).t, (aS (zK l (zA bs).b).t (zK l (zA bs).b).tm (zK l (zA bs).b).l (zA bs).t (zA bs).tm (zA bs).b (zA bs).l).tm, (aS (zK l (zA bs).b).t (zK l (zA bs).b).tm (zK l (zA bs).b).l (zA bs).t (zA bs).tm (zA bs).b (zA bs).l).l, v15⟩ : RI)) (by rw [hsl] at hkle; omega))
    refine zAG hs rfl (zM (hs.mem.del .z)).isSl underlying38 rfl ?_
    refine goL 5 [0] [193, 14, 0, 12] (.c (.s .z) .n) ⟨rfl, ?_⟩
    refine ifG rfl (fun c_28 => ?_) (fun c_28 => ?_)
    ·
     refine go 2 [] [195, 194, 14, 0, 12] .n ?_
     intro a w hs; refine zBj (j := 0) hs rfl rfl (zM (hs.mem.del (.s .z))) (by decide) (by omega) underlying38 sizeOf45 rfl ?_
     intro a w hs; refine zBn hs rfl (zM (hs.mem.del (.s .z))) (by omega) underlying45 rfl sizeOf2 (by decide) (o := 0 * 3 + 0) rfl rfl ?_
     intro a w hs; refine zA7 (u := zI (((zB2 l (zU (sns l) (zA bs).t) (⟨(aS (zK l (zA bs).b).t (zK l (zA bs).b).tm (zK l (zA bs).b).l (zA bs).t (zA bs).tm (zA bs).b (zA bs).l).t, (aS (zK l (zA bs).b).t (zK l (zA bs).b).tm (zK l (zA bs).b).l (zA bs).t (zA bs).tm (zA bs).b (zA bs).l).tm, (aS (zK l (zA bs).b).t (zK l (zA bs).b).tm (zK l (zA bs).b).l (zA bs).t (zA bs).tm (zA bs).b (zA bs).l).l, v15⟩ : RI)).getD 0 default).t)) hs rfl (zM (hs.mem.del (.s .z))) ((zAf zBq (zB2 l (zU (sns l) (zA bs).t) (⟨(aS (zK l (zA bs).b).t (zK l (zA bs).b).tm (zK l (zA bs).b).l (zA bs).t (zA bs).tm (zA bs).b (zA bs).l).t, (aS (zK l (zA bs).b).t (zK l (zA bs).b).tm (zK l (zA bs).b).l (zA bs).t (zA bs).tm (zA bs).b (zA bs).l).tm, (aS (zK l (zA bs).b).t (zK l (zA bs).b).tm (zK l (zA bs).b).l (zA bs).t (zA bs).tm (zA bs).b (zA bs).l).l, v15⟩ : RI)) 0 0 (by omega) (by decide)).trans rfl) isAgg2 rfl ?_
     refine goL 4 [0] [201, 0, 12] (.c .z .n) ⟨rfl, ?_⟩
     intro a w hs; refine zEL (j := 1) hs rfl rfl (by decide) (zM (hs.mem.del (.s .z))).isSl (by omega) underlying38 sizeOf45 rfl ?_
     refine goL 5 [] [206, 204, 12] .n ?_
     intro a w hs; refine zB4 hs rfl rfl .z .z ((zM (hs.mem.del (.s .z))).slc (l := 1) (h := ((zB2 l (zU (sns l) (zA bs).t) (⟨(aS (zK l (zA bs).b).t (zK l (zA bs).b).tm (zK l (zA bs).b).l (zA bs).t (zA bs).tm (zA bs).b (zA bs).l).t, (aS (zK l (zA bs).b).t (zK l (zA bs).b).tm (zK l (zA bs).b).l (zA bs).t (zA bs).tm (zA bs).b (zA bs).l).tm, (aS (zK l (zA bs).b).t (zK l (zA bs).b).tm (zK l (zA bs).b).l (zA bs).t (zA bs).tm (zA bs).b (zA bs).l).l, v15⟩ : RI)).length)) (by omega) (by omega)).isSl.one sizeOf38 ?_
     refine goL 4 [0] [5, 4] (.c (.s (.s .z)) .n) ⟨rfl, ?_⟩
     obtain ⟨hL1, hL2, hL3⟩ := zRw (l := l) (most := most) (fl := fl) (gone := gone) (v := v15) hat.1 (by omega)
     refine cl (·.toRowT (.s (.s .z)) 1 (by omega)) ?_
     refine cl (·.rerowR .z (m' := (zEY l most (⟨(aS (zK l (zA bs).b).t (zK l (zA bs).b).tm (zK l (zA bs).b).l (zA bs).t (zA bs).tm (zA bs).b (zA bs).l).t, (aS (zK l (zA bs).b).t (zK l (zA bs).b).tm (zK l (zA bs).b).l (zA bs).t (zA bs).tm (zA bs).b (zA bs).l).tm, (aS (zK l (zA bs).b).t (zK l (zA bs).b).tm (zK l (zA bs).b).l (zA bs).t (zA bs).tm (zA bs).b (zA bs).l).l, v15⟩ : RI)).length) (xs' := (zEY l most (⟨(aS (zK l (zA bs).b).t (zK l (zA bs).b).tm (zK l (zA bs).b).l (zA bs).t (zA bs).tm (zA bs).b (zA bs).l).t, (aS (zK l (zA bs).b).t (zK l (zA bs).b).tm (zK l (zA bs).b).l (zA bs).t (zA bs).tm (zA bs).b (zA bs).l).tm, (aS (zK l (zA bs).b).t (zK l (zA bs).b).tm (zK l (zA bs).b).l (zA bs).t (zA bs).tm (zA bs).b (zA bs).l).l, v15⟩ : RI)).flatMap snV) (by rw [hL1, List.length_drop]) (by rw [hL1, (zGA zBq (zB2 l (zU (sns l) (zA bs).t) (⟨(aS (zK l (zA bs).b).t (zK l (zA bs).b).tm (zK l (zA bs).b).l (zA bs).t (zA bs).tm (zA bs).b (zA bs).l).t, (aS (zK l (zA bs).b).t (zK l (zA bs).b).tm (zK l (zA bs).b).l (zA bs).t (zA bs).tm (zA bs).b (zA bs).l).tm, (aS (zK l (zA bs).b).t (zK l (zA bs).b).tm (zK l (zA bs).b).l (zA bs).t (zA bs).tm (zA bs).b (zA bs).l).l, v15⟩ : RI)) 1).2])) ?_
     refine cl (·.rwsLay (most := most) (x := (⟨(aS (zK l (zA bs).b).t (zK l (zA bs).b).tm (zK l (zA bs).b).l (zA bs).t (zA bs).tm (zA bs).b (zA bs).l).t, (aS (zK l (zA bs).b).t (zK l (zA bs).b).tm (zK l (zA bs).b).l (zA bs).t (zA bs).tm (zA bs).b (zA bs).l).tm, (aS (zK l (zA bs).b).t (zK l (zA bs).b).tm (zK l (zA bs).b).l (zA bs).t (zA bs).tm (zA bs).b (zA bs).l).l, v15⟩ : RI)) (.c (.s (.s (.s (.s (.s (.s (.s (.s .z)))))))) (.c (.s (.s (.s .z))) .n))) ?_
     refine cl (·.drop (.c (.s (.s (.s (.s (.s (.s (.s (.s .z)))))))) (.c (.s (.s (.s (.s (.s (.s (.s .z))))))) (.c (.s (.s (.s (.s (.s (.s .z)))))) (.c (.s (.s (.s (.s (.s .z))))) (.c (.s (.s (.s (.s .z)))) (.c (.s (.s .z)) .n))))))) ?_
     refine cl (·.reorder (.c (.s (.s .z)) (.c (.s .z) (.c .z .n)))) ?_
     have hE_ : (zAT (sns l) most fl gone (zA bs)) = 0 := zMD (by omega) hkh (Bool.eq_false_iff.2 (fun h => hst (by have h1 := (zER (by omega) hkh).1 h; rw [zAJ] at h1; exact h1))) (by assumption) (by rw [zBw hsr]; omega) (by rw [zB8 hsr, hat.1]; exact htm)
     have hT_ : zGW (sns l) most fl gone (zA bs) = (zAe (sns l) (zA bs)).t := if_pos hE_
     have hA_ : (zAe (sns l) (zA bs)) = (aS (zK l (zA bs).b).t (zK l (zA bs).b).tm (zK l (zA bs).b).l (zA bs).t (zA bs).tm (zA bs).b (zA bs).l) := zB8 hsr
     intro a w hs; rw [hA_] at hT_
     exact zCF hs rfl rfl rfl ⟨by rw [hT_, hE_]; rfl, _, zEY l most (⟨(aS (zK l (zA bs).b).t (zK l (zA bs).b).tm (zK l (zA bs).b).l (zA bs).t (zA bs).tm (zA bs).b (zA bs).l).t, (aS (zK l (zA bs).b).t (zK l (zA bs).b).tm (zK l (zA bs).b).l (zA bs).t (zA bs).tm (zA bs).b (zA bs).l).tm, (aS (zK l (zA bs).b).t (zK l (zA bs).b).tm (zK l (zA bs).b).l (zA bs).t (zA bs).tm (zA bs).b (zA bs).l).l, v15⟩ : RI), (if_pos hE_).trans (by rw [hA_]; exact hL2), by rw [if_pos hE_, hA_, hL3]⟩
    refine go 4 [] [206, 204, 12] .n ?_
    intro a w hs; refine zB4 hs rfl rfl .z .z (zM (hs.mem.del (.s .z))).isSl.one sizeOf38 ?_
    refine goL 4 [0] [5, 4] (.c (.s (.s .z)) .n) ⟨rfl, ?_⟩
    obtain ⟨hL1, hL2, hL3⟩ := zRa (l := l) (most := most) (fl := fl) (gone := gone) (v := v15) hat.1 (by omega)
    refine cl (·.toRowR (.s (.s .z))) ?_
    refine cl (·.rerowR .z (m' := (zEY l most (⟨(aS (zK l (zA bs).b).t (zK l (zA bs).b).tm (zK l (zA bs).b).l (zA bs).t (zA bs).tm (zA bs).b (zA bs).l).t, (aS (zK l (zA bs).b).t (zK l (zA bs).b).tm (zK l (zA bs).b).l (zA bs).t (zA bs).tm (zA bs).b (zA bs).l).tm, (aS (zK l (zA bs).b).t (zK l (zA bs).b).tm (zK l (zA bs).b).l (zA bs).t (zA bs).tm (zA bs).b (zA bs).l).l, v15⟩ : RI)).length) (xs' := (zEY l most (⟨(aS (zK l (zA bs).b).t (zK l (zA bs).b).tm (zK l (zA bs).b).l (zA bs).t (zA bs).tm (zA bs).b (zA bs).l).t, (aS (zK l (zA bs).b).t (zK l (zA bs).b).tm (zK l (zA bs).b).l (zA bs).t (zA bs).tm (zA bs).b (zA bs).l).tm, (aS (zK l (zA bs).b).t (zK l (zA bs).b).tm (zK l (zA bs).b).l (zA bs).t (zA bs).tm (zA bs).b (zA bs).l).l, v15⟩ : RI)).flatMap snV) (by rw [hL1]) (by rw [hL1])) ?_
    refine cl (·.rwsLay (most := most) (x := (⟨(aS (zK l (zA bs).b).t (zK l (zA bs).b).tm (zK l (zA bs).b).l (zA bs).t (zA bs).tm (zA bs).b (zA bs).l).t, (aS (zK l (zA bs).b).t (zK l (zA bs).b).tm (zK l (zA bs).b).l (zA bs).t (zA bs).tm (zA bs).b (zA bs).l).tm, (aS (zK l (zA bs).b).t (zK l (zA bs).b).tm (zK l (zA bs).b).l (zA bs).t (zA bs).tm (zA bs).b (zA bs).l).l, v15⟩ : RI)) (.c (.s (.s (.s (.s (.s (.s (.s (.s .z)))))))) (.c (.s (.s (.s .z))) .n))) ?_
    refine cl (·.drop (.c (.s (.s (.s (.s (.s (.s (.s (.s .z)))))))) (.c (.s (.s (.s (.s (.s (.s (.s .z))))))) (.c (.s (.s (.s (.s (.s (.s .z)))))) (.c (.s (.s (.s (.s (.s .z))))) (.c (.s (.s (.s (.s .z)))) (.c (.s (.s .z)) .n))))))) ?_
    refine cl (·.reorder (.c (.s (.s .z)) (.c (.s .z) (.c .z .n)))) ?_
    have hE_ : (zAT (sns l) most fl gone (zA bs)) = 0 := zMD (by omega) hkh (Bool.eq_false_iff.2 (fun h => hst (by have h1 := (zER (by omega) hkh).1 h; rw [zAJ] at h1; exact h1))) (by assumption) (by rw [zBw hsr]; omega) (by rw [zB8 hsr, hat.1]; exact htm)
    have hT_ : zGW (sns l) most fl gone (zA bs) = (zAe (sns l) (zA bs)).t := if_pos hE_
    have hA_ : (zAe (sns l) (zA bs)) = (aS (zK l (zA bs).b).t (zK l (zA bs).b).tm (zK l (zA bs).b).l (zA bs).t (zA bs).tm (zA bs).b (zA bs).l) := zB8 hsr
    intro a w hs; rw [hA_] at hT_
    exact zCF hs rfl rfl rfl ⟨by rw [hT_, hE_]; rfl, _, zEY l most (⟨(aS (zK l (zA bs).b).t (zK l (zA bs).b).tm (zK l (zA bs).b).l (zA bs).t (zA bs).tm (zA bs).b (zA bs).l).t, (aS (zK l (zA bs).b).t (zK l (zA bs).b).tm (zK l (zA bs).b).l (zA bs).t (zA bs).tm (zA bs).b (zA bs).l).tm, (aS (zK l (zA bs).b).t (zK l (zA bs).b).tm (zK l (zA bs).b).l (zA bs).t (zA bs).tm (zA bs).b (zA bs).l).l, v15⟩ : RI), (if_pos hE_).trans (by rw [hA_]; exact hL2), by rw [if_pos hE_, hA_, hL3]⟩
   by_cases ct : tml (sns l) (zA bs).t (aS (zK l (zA bs).b).t (zK l (zA bs).b).tm (zK l (zA bs).b).l (zA bs).t (zA bs).tm (zA bs).b (zA bs).l).tm = true
   ·
    have htt := hte.1 ct
    by_cases cz : 0 < (zU (sns l) (zA bs).t)
    ·
     by_cases cl : (zU (sns l) (zA bs).t) < l.length
     ·
      refine zS (dcs [.p [] [], .v [0] (.bool (true)), .p [1] [], .p [2] [], .p [3, 2] [], .p [4, 2] [], .p [5, 2] [0], .p [2] [], .v [7, 2] (nI ((zU (sns l) (zA bs).t) - 1)), .v [8, 6, 2] (.pointer (some (adr u (((zU (sns l) (zA bs).t) - 1) * 3)))), .v [9, 2] (.pointer (some (adr u (((zU (sns l) (zA bs).t) - 1) * 3 + 1)))), .v [10, 2] (zI ((l.getD ((zU (sns l) (zA bs).t) - 1) default).tm)), .p [2] [], .p [12, 2] [1], .v [13, 11, 2] (.bool (false)), .p [14, 2] [], .p [15] [], .p [16] [], .p [16] [], .p [18, 16] [], .p [19, 16] [], .p [20, 16] [0], .v [21, 16] (nI l.length), .v [22, 17, 16] (.bool (true)), .p [23, 16] [], .p [24] [], .p [25, 24] [], .p [26, 24] []] [.p [27, 24] [0], .p [24] [], .v [29, 28, 24] (.pointer (some (adr u ((zU (sns l) (zA bs).t) * 3)))), .v [30, 24] (.pointer (some (adr u ((zU (sns l) (zA bs).t) * 3 + 1)))), .v [31, 24] (zI ((l.getD (zU (sns l) (zA bs).t) default).tm)), .p [24] [], .p [33, 24] [1], .v [34, 32, 24] (.bool (false)), .p [35, 24, 16] [], .p [36, 16] []]) [37] hs .n (.c (.s (.s (.s (.s (.s .z))))) (.c .z .n)) (by kernel_rfl) ⟨fun _ _ _ _ hm hs K => zFZ hs rfl rfl rfl (fun a w hs => wpList_nil (K _ _ (by rw [show (decide (0 < (((zU (sns l) (zA bs).t) : Nat) : Int))) = true from decide_eq_true (by omega)] at hs; exact hs))), rfl, ?_, fun _ _ _ _ hm hs K => zC hs rfl rfl rfl (zBj (j := ((zU (sns l) (zA bs).t) - 1)) hs rfl rfl (zAC (hm.del (.s (.s (.s (.s (.s (.s .z)))))))) rfl (by omega) underlying38 sizeOf45 rfl (vk K)), fun _ _ _ _ hm hs K => zC hs rfl rfl rfl (zBn hs rfl (zAC (hm.del (.s (.s (.s (.s (.s (.s .z)))))))) (by omega) underlying45 rfl sizeOf2 (by decide) (o := ((zU (sns l) (zA bs).t) - 1) * 3 + 1) rfl rfl (vk K)), fun _ _ _ _ hm hs K => zC hs rfl rfl rfl (zA7 (u := zI ((l.getD ((zU (sns l) (zA bs).t) - 1) default).tm)) hs rfl (zAC (hm.del (.s (.s (.s (.s (.s (.s .z)))))))) ((zAf zBq l ((zU (sns l) (zA bs).t) - 1) 1 (by omega) (by decide)).trans rfl) isAgg2 rfl (vk K)), rfl, fun _ _ _ _ hm hs K => zC hs rfl rfl rfl (zKv hs rfl rfl rfl (fun a w hs => wpList_nil (K _ _ (by rw [show (decide (((aS ((zK l (zA bs).b).t) ((zK l (zA bs).b).tm) ((zK l (zA bs).b).l) ((zA bs).t) ((zA bs).tm) ((zA bs).b) ((zA bs).l)).tm) ≤ ((l.getD ((zU (sns l) (zA bs).t) - 1) default).tm))) = false from decide_eq_false (by have := htt.1 (by omega); omega)] at hs; exact hs)))), rfl, fun _ _ _ _ hm hs K => zC hs rfl rfl rfl (zAG hs rfl (zAC (hm.del (.s (.s (.s (.s (.s (.s .z)))))))).isSl underlying38 rfl (vk K)), fun _ _ _ _ hm hs K => zC hs rfl rfl rfl (zCT hs rfl rfl rfl (fun a w hs => wpList_nil (K _ _ (by rw [show (decide ((((zU (sns l) (zA bs).t) : Nat) : Int) < ((l.length : Nat) : Int))) = true from decide_eq_true (by omega)] at hs; exact hs)))), rfl, fun _ _ _ _ hm hs K => zC hs rfl rfl rfl (zBj (j := (zU (sns l) (zA bs).t)) hs rfl rfl (zAC (hm.del (.s (.s (.s (.s (.s (.s .z)))))))) rfl (by omega) underlying38 sizeOf45 rfl (vk K)), fun _ _ _ _ hm hs K => zC hs rfl rfl rfl (zBn hs rfl (zAC (hm.del (.s (.s (.s (.s (.s (.s .z)))))))) (by omega) underlying45 rfl sizeOf2 (by decide) (o := (zU (sns l) (zA bs).t) * 3 + 1) rfl rfl (vk K)), fun _ _ _ _ hm hs K => zC hs rfl rfl rfl (zA7 (u := zI ((l.getD (zU (sns l) (zA bs).t) default).tm)) hs rfl (zAC (hm.del (.s (.s (.s (.s (.s (.s .z)))))))) ((zAf zBq l (zU (sns l) (zA bs).t) 1 (by omega) (by decide)).trans rfl) isAgg2 rfl (vk K)), rfl, fun _ _ _ _ hm hs K => zC hs rfl rfl rfl (zD0 hs rfl rfl rfl (fun a w hs => wpList_nil (K _ _ (by rw [show (decide (((l.getD (zU (sns l) (zA bs).t) default).tm) ≤ ((aS ((zK l (zA bs).b).t) ((zK l (zA bs).b).tm) ((zK l (zA bs).b).l) ((zA bs).t) ((zA bs).tm) ((zA bs).b) ((zA bs).l)).tm))) = false from decide_eq_false (by have := htt.2 (by omega); omega)] at hs; exact hs)))), ⟨rfl, by kernel_rfl, fun _ => rfl, rfl, rfl, trivial⟩, fun _ => rfl, ?_⟩
      ·
       intro a_ w_ R_ Q_ hm hs K_
       refine zC hs rfl rfl rfl ?_
       refine zFo hs rfl rfl (by omega) rfl ?_; clear hs; intro a w hs
       have hv_ : ((((zU (sns l) (zA bs).t) : Nat) : Int) - 1 : Int) = ((((zU (sns l) (zA bs).t) - 1 : Nat) : Int) : Int) := by omega
       rw [hv_] at hs; clear hv_
       exact wpList_nil (K_ _ _ hs)
      intro a w hs; exact Or.inl ⟨hs.sub (.c rfl (.c rfl (.c rfl (.c rfl .n)))), (by assumption)⟩
     refine zS (dcs [.p [] [], .v [0] (.bool (true)), .p [1] [], .p [2] [], .p [3, 2] [], .p [4, 2] [], .p [5, 2] [0], .p [2] [], .v [7, 2] (nI ((zU (sns l) (zA bs).t) - 1)), .v [8, 6, 2] (.pointer (some (adr u (((zU (sns l) (zA bs).t) - 1) * 3)))), .v [9, 2] (.pointer (some (adr u (((zU (sns l) (zA bs).t) - 1) * 3 + 1)))), .v [10, 2] (zI ((l.getD ((zU (sns l) (zA bs).t) - 1) default).tm)), .p [2] [], .p [12, 2] [1], .v [13, 11, 2] (.bool (false)), .p [14, 2] [], .p [15] [], .p [16] [], .p [16] [], .p [18, 16] [], .p [19, 16] [], .p [20, 16] [0], .v [21, 16] (nI l.length), .v [22, 17, 16] (.bool (false)), .p [23, 16] [], .p [24] [], .p [25, 24] [], .p [26, 24] []] [.p [27, 24] [], .p [24] [], .p [29, 28, 24] [], .p [30, 24] [], .p [31, 24] [], .p [24] [], .p [33, 24] [], .v [34, 32, 24] undef, .p [35, 24, 16] [], .p [36, 16] []]) [37] hs .n (.c (.s (.s (.s (.s (.s .z))))) (.c .z .n)) (by kernel_rfl) ⟨fun _ _ _ _ hm hs K => zFZ hs rfl rfl rfl (fun a w hs => wpList_nil (K _ _ (by rw [show (decide (0 < (((zU (sns l) (zA bs).t) : Nat) : Int))) = true from decide_eq_true (by omega)] at hs; exact hs))), rfl, ?_, fun _ _ _ _ hm hs K => zC hs rfl rfl rfl (zBj (j := ((zU (sns l) (zA bs).t) - 1)) hs rfl rfl (zAC (hm.del (.s (.s (.s (.s (.s (.s .z)))))))) rfl (by omega) underlying38 sizeOf45 rfl (vk K)), fun _ _ _ _ hm hs K => zC hs rfl rfl rfl (zBn hs rfl (zAC (hm.del (.s (.s (.s (.s (.s (.s .z)))))))) (by omega) underlying45 rfl sizeOf2 (by decide) (o := ((zU (sns l) (zA bs).t) - 1) * 3 + 1) rfl rfl (vk K)), fun _ _ _ _ hm hs K => zC hs rfl rfl rfl (zA7 (u := zI ((l.getD ((zU (sns l) (zA bs).t) - 1) default).tm)) hs rfl (zAC (hm.del (.s (.s (.s (.s (.s (.s .z)))))))) ((zAf zBq l ((zU (sns l) (zA bs).t) - 1) 1 (by omega) (by decide)).trans rfl) isAgg2 rfl (vk K)), rfl, fun _ _ _ _ hm hs K => zC hs rfl rfl rfl (zKv hs rfl rfl rfl (fun a w hs => wpList_nil (K _ _ (by rw [show (decide (((aS ((zK l (zA bs).b).t) ((zK l (zA bs).b).tm) ((zK l (zA bs).b).l) ((zA bs).t) ((zA bs).tm) ((zA bs).b) ((zA bs).l)).tm) ≤ ((l.getD ((zU (sns l) (zA bs).t) - 1) default).tm))) = false from decide_eq_false (by have := htt.1 (by omega); omega)] at hs; exact hs)))), rfl, fun _ _ _ _ hm hs K => zC hs rfl rfl rfl (zAG hs rfl (zAC (hm.del (.s (.s (.s (.s (.s (.s .z)))))))).isSl underlying38 rfl (vk K)), fun _ _ _ _ hm hs K => zC hs rfl rfl rfl (zCT hs rfl rfl rfl (fun a w hs => wpList_nil (K _ _ (by rw [show (decide ((((zU (sns l) (zA bs).t) : Nat) : Int) < ((l.length : Nat) : Int))) = false from decide_eq_false (by omega)] at hs; exact hs)))), fun _ _ _ _ hm hs K => zAz hs rfl rfl rfl rfl rfl (vk K), ⟨rfl, by kernel_rfl, fun _ => rfl, rfl, rfl, trivial⟩, fun _ => rfl, ?_⟩
     ·
      intro a_ w_ R_ Q_ hm hs K_
      refine zC hs rfl rfl rfl ?_
      refine zFo hs rfl rfl (by omega) rfl ?_; clear hs; intro a w hs
      have hv_ : ((((zU (sns l) (zA bs).t) : Nat) : Int) - 1 : Int) = ((((zU (sns l) (zA bs).t) - 1 : Nat) : Int) : Int) := by omega
      rw [hv_] at hs; clear hv_
      exact wpList_nil (K_ _ _ hs)
     intro a w hs; exact Or.inl ⟨hs.sub (.c rfl (.c rfl (.c rfl (.c rfl .n)))), (by assumption)⟩
    by_cases cl : (zU (sns l) (zA bs).t) < l.length
    ·
     refine zS (dcs [.p [] [], .v [0] (.bool (false)), .p [1] [], .p [2] [], .p [3, 2] [], .p [4, 2] [], .p [5, 2] [], .p [2] [], .v [7, 2] undef, .p [8, 6, 2] [], .p [9, 2] [], .p [10, 2] [], .p [2] [], .p [12, 2] [], .v [13, 11, 2] undef, .p [14, 2] [], .p [15] [], .p [16] [], .p [16] [], .p [18, 16] [], .p [19, 16] [], .p [20, 16] [0], .v [21, 16] (nI l.length), .v [22, 17, 16] (.bool (true)), .p [23, 16] [], .p [24] [], .p [25, 24] [], .p [26, 24] []] [.p [27, 24] [0], .p [24] [], .v [29, 28, 24] (.pointer (some (adr u ((zU (sns l) (zA bs).t) * 3)))), .v [30, 24] (.pointer (some (adr u ((zU (sns l) (zA bs).t) * 3 + 1)))), .v [31, 24] (zI ((l.getD (zU (sns l) (zA bs).t) default).tm)), .p [24] [], .p [33, 24] [1], .v [34, 32, 24] (.bool (false)), .p [35, 24, 16] [], .p [36, 16] []]) [37] hs .n (.c (.s (.s (.s (.s (.s .z))))) (.c .z .n)) (by kernel_rfl) ⟨fun _ _ _ _ hm hs K => zFZ hs rfl rfl rfl (fun a w hs => wpList_nil (K _ _ (by rw [show (decide (0 < (((zU (sns l) (zA bs).t) : Nat) : Int))) = false from decide_eq_false (by omega)] at hs; exact hs))), fun _ _ _ _ hm hs K => zAz hs rfl rfl rfl rfl rfl (vk K), fun _ _ _ _ hm hs K => zAz hs rfl rfl rfl rfl rfl (vk K), rfl, fun _ _ _ _ hm hs K => zC hs rfl rfl rfl (zAG hs rfl (zAC (hm.del (.s (.s (.s (.s (.s (.s .z)))))))).isSl underlying38 rfl (vk K)), fun _ _ _ _ hm hs K => zC hs rfl rfl rfl (zCT hs rfl rfl rfl (fun a w hs => wpList_nil (K _ _ (by rw [show (decide ((((zU (sns l) (zA bs).t) : Nat) : Int) < ((l.length : Nat) : Int))) = true from decide_eq_true (by omega)] at hs; exact hs)))), rfl, fun _ _ _ _ hm hs K => zC hs rfl rfl rfl (zBj (j := (zU (sns l) (zA bs).t)) hs rfl rfl (zAC (hm.del (.s (.s (.s (.s (.s (.s .z)))))))) rfl (by omega) underlying38 sizeOf45 rfl (vk K)), fun _ _ _ _ hm hs K => zC hs rfl rfl rfl (zBn hs rfl (zAC (hm.del (.s (.s (.s (.s (.s (.s .z)))))))) (by omega) underlying45 rfl sizeOf2 (by decide) (o := (zU (sns l) (zA bs).t) * 3 + 1) rfl rfl (vk K)), fun _ _ _ _ hm hs K => zC hs rfl rfl rfl (zA7 (u := zI ((l.getD (zU (sns l) (zA bs).t) default).tm)) hs rfl (zAC (hm.del (.s (.s (.s (.s (.s (.s .z)))))))) ((zAf zBq l (zU (sns l) (zA bs).t) 1 (by omega) (by decide)).trans rfl) isAgg2 rfl (vk K)), rfl, fun _ _ _ _ hm hs K => zC hs rfl rfl rfl (zD0 hs rfl rfl rfl (fun a w hs => wpList_nil (K _ _ (by rw [show (decide (((l.getD (zU (sns l) (zA bs).t) default).tm) ≤ ((aS ((zK l (zA bs).b).t) ((zK l (zA bs).b).tm) ((zK l (zA bs).b).l) ((zA bs).t) ((zA bs).tm) ((zA bs).b) ((zA bs).l)).tm))) = false from decide_eq_false (by have := htt.2 (by omega); omega)] at hs; exact hs)))), ⟨rfl, by kernel_rfl, fun _ => rfl, rfl, rfl, trivial⟩, fun _ => rfl, ?_⟩
     intro a w hs; exact Or.inl ⟨hs.sub (.c rfl (.c rfl (.c rfl (.c rfl .n)))), (by assumption)⟩
    refine zS (dcs [.p [] [], .v [0] (.bool (false)), .p [1] [], .p [2] [], .p [3, 2] [], .p [4, 2] [], .p [5, 2] [], .p [2] [], .v [7, 2] undef, .p [8, 6, 2] [], .p [9, 2] [], .p [10, 2] [], .p [2] [], .p [12, 2] [], .v [13, 11, 2] undef, .p [14, 2] [], .p [15] [], .p [16] [], .p [16] [], .p [18, 16] [], .p [19, 16] [], .p [20, 16] [0], .v [21, 16] (nI l.length), .v [22, 17, 16] (.bool (false)), .p [23, 16] [], .p [24] [], .p [25, 24] [], .p [26, 24] []] [.p [27, 24] [], .p [24] [], .p [29, 28, 24] [], .p [30, 24] [], .p [31, 24] [], .p [24] [], .p [33, 24] [], .v [34, 32, 24] undef, .p [35, 24, 16] [], .p [36, 16] []]) [37] hs .n (.c (.s (.s (.s (.s (.s .z))))) .n) (by kernel_rfl) ⟨fun _ _ _ _ hm hs K => zFZ hs rfl rfl rfl (fun a w hs => wpList_nil (K _ _ (by rw [show (decide (0 < (((zU (sns l) (zA bs).t) : Nat) : Int))) = false from decide_eq_false (by omega)] at hs; exact hs))), fun _ _ _ _ hm hs K => zAz hs rfl rfl rfl rfl rfl (vk K), fun _ _ _ _ hm hs K => zAz hs rfl rfl rfl rfl rfl (vk K), rfl, fun _ _ _ _ hm hs K => zC hs rfl rfl rfl (zAG hs rfl (zAC (hm.del (.s (.s (.s (.s (.s (.s .z)))))))).isSl underlying38 rfl (vk K)), fun _ _ _ _ hm hs K => zC hs rfl rfl rfl (zCT hs rfl rfl rfl (fun a w hs => wpList_nil (K _ _ (by rw [show (decide ((((zU (sns l) (zA bs).t) : Nat) : Int) < ((l.length : Nat) : Int))) = false from decide_eq_false (by omega)] at hs; exact hs)))), fun _ _ _ _ hm hs K => zAz hs rfl rfl rfl rfl rfl (vk K), ⟨rfl, by kernel_rfl, fun _ => rfl, rfl, rfl, trivial⟩, fun _ => rfl, ?_⟩
    intro a w hs; exact Or.inl ⟨hs.sub (.c rfl (.c rfl (.c rfl (.c rfl .n)))), (by assumption)⟩
   have htt : ¬ _ := fun h => ct (hte.2 h)
   by_cases cz : 0 < (zU (sns l) (zA bs).t)
   ·
    by_cases c1 : (0 < (zU (sns l) (zA bs).t) ∧ (aS (zK l (zA bs).b).t (zK l (zA bs).b).tm (zK l (zA bs).b).l (zA bs).t (zA bs).tm (zA bs).b (zA bs).l).tm ≤ (l.getD ((zU (sns l) (zA bs).t) - 1) default).tm)
    ·
     refine zS (dcs [.p [] [], .v [0] (.bool (true)), .p [1] [], .p [2] [], .p [3, 2] [], .p [4, 2] [], .p [5, 2] [0], .p [2] [], .v [7, 2] (nI ((zU (sns l) (zA bs).t) - 1)), .v [8, 6, 2] (.pointer (some (adr u (((zU (sns l) (zA bs).t) - 1) * 3)))), .v [9, 2] (.pointer (some (adr u (((zU (sns l) (zA bs).t) - 1) * 3 + 1)))), .v [10, 2] (zI ((l.getD ((zU (sns l) (zA bs).t) - 1) default).tm)), .p [2] [], .p [12, 2] [1], .v [13, 11, 2] (.bool (true)), .p [14, 2] [], .p [15] [], .p [16] [], .p [16] [], .p [18, 16] [], .p [19, 16] [], .p [20, 16] [], .p [21, 16] [], .v [22, 17, 16] undef, .p [23, 16] [], .p [24] [], .p [25, 24] [], .p [26, 24] []] [.p [27, 24] [], .p [24] [], .p [29, 28, 24] [], .p [30, 24] [], .p [31, 24] [], .p [24] [], .p [33, 24] [], .v [34, 32, 24] undef, .p [35, 24, 16] [], .p [36, 16] []]) [37] hs .n (.c (.s (.s (.s (.s (.s .z))))) (.c .z .n)) (by kernel_rfl) ⟨fun _ _ _ _ hm hs K => zFZ hs rfl rfl rfl (fun a w hs => wpList_nil (K _ _ (by rw [show (decide (0 < (((zU (sns l) (zA bs).t) : Nat) : Int))) = true from decide_eq_true (by omega)] at hs; exact hs))), rfl, ?_, fun _ _ _ _ hm hs K => zC hs rfl rfl rfl (zBj (j := ((zU (sns l) (zA bs).t) - 1)) hs rfl rfl (zAC (hm.del (.s (.s (.s (.s (.s (.s .z)))))))) rfl (by omega) underlying38 sizeOf45 rfl (vk K)), fun _ _ _ _ hm hs K => zC hs rfl rfl rfl (zBn hs rfl (zAC (hm.del (.s (.s (.s (.s (.s (.s .z)))))))) (by omega) underlying45 rfl sizeOf2 (by decide) (o := ((zU (sns l) (zA bs).t) - 1) * 3 + 1) rfl rfl (vk K)), fun _ _ _ _ hm hs K => zC hs rfl rfl rfl (zA7 (u := zI ((l.getD ((zU (sns l) (zA bs).t) - 1) default).tm)) hs rfl (zAC (hm.del (.s (.s (.s (.s (.s (.s .z)))))))) ((zAf zBq l ((zU (sns l) (zA bs).t) - 1) 1 (by omega) (by decide)).trans rfl) isAgg2 rfl (vk K)), rfl, fun _ _ _ _ hm hs K => zC hs rfl rfl rfl (zKv hs rfl rfl rfl (fun a w hs => wpList_nil (K _ _ (by rw [show (decide (((aS ((zK l (zA bs).b).t) ((zK l (zA bs).b).tm) ((zK l (zA bs).b).l) ((zA bs).t) ((zA bs).tm) ((zA bs).b) ((zA bs).l)).tm) ≤ ((l.getD ((zU (sns l) (zA bs).t) - 1) default).tm))) = true from decide_eq_true (by omega)] at hs; exact hs)))), fun _ _ _ _ hm hs K => zAz hs rfl rfl rfl rfl rfl (vk K), fun _ _ _ _ hm hs K => zHi hs rfl rfl rfl rfl (vk K), ⟨rfl, by kernel_rfl, fun _ => rfl, rfl, rfl, trivial⟩, fun _ => rfl, ?_⟩
     ·
      intro a_ w_ R_ Q_ hm hs K_
      refine zC hs rfl rfl rfl ?_
      refine zFo hs rfl rfl (by omega) rfl ?_; clear hs; intro a w hs
      have hv_ : ((((zU (sns l) (zA bs).t) : Nat) : Int) - 1 : Int) = ((((zU (sns l) (zA bs).t) - 1 : Nat) : Int) : Int) := by omega
      rw [hv_] at hs; clear hv_
      exact wpList_nil (K_ _ _ hs)
     intro a w hs; refine Or.inr ?_
     revert a w hs
     refine go 3 [] [5, 4] .n ?_
     refine cl (·.drop (.c (.s (.s (.s (.s .z)))) (.c (.s (.s (.s .z))) (.c (.s (.s .z)) (.c (.s .z) (.c .z .n)))))) ?_
     have hE_ : (zAT (sns l) most fl gone (zA bs)) = 16 := zJn (by omega) hkh (Bool.eq_false_iff.2 (fun h => hst (by have h1 := (zER (by omega) hkh).1 h; rw [zAJ] at h1; exact h1))) (by assumption) (by rw [zBw hsr]; omega) (by rw [zB8 hsr, hat.1]; exact ct)
     have hn_ : (zAT (sns l) most fl gone (zA bs)) ≠ 0 := by rw [hE_]; omega
     have hT_ : zGW (sns l) most fl gone (zA bs) = 0 := if_neg hn_
     intro a w hs; exact zCF hs rfl rfl rfl ⟨by rw [hT_, hE_] <;> rfl, _, l, if_neg hn_, by rw [if_neg hn_]⟩
    refine zS (dcs [.p [] [], .v [0] (.bool (true)), .p [1] [], .p [2] [], .p [3, 2] [], .p [4, 2] [], .p [5, 2] [0], .p [2] [], .v [7, 2] (nI ((zU (sns l) (zA bs).t) - 1)), .v [8, 6, 2] (.pointer (some (adr u (((zU (sns l) (zA bs).t) - 1) * 3)))), .v [9, 2] (.pointer (some (adr u (((zU (sns l) (zA bs).t) - 1) * 3 + 1)))), .v [10, 2] (zI ((l.getD ((zU (sns l) (zA bs).t) - 1) default).tm)), .p [2] [], .p [12, 2] [1], .v [13, 11, 2] (.bool (false)), .p [14, 2] [], .p [15] [], .p [16] [], .p [16] [], .p [18, 16] [], .p [19, 16] [], .p [20, 16] [0], .v [21, 16] (nI l.length), .v [22, 17, 16] (.bool (true)), .p [23, 16] [], .p [24] [], .p [25, 24] [], .p [26, 24] []] [.p [27, 24] [0], .p [24] [], .v [29, 28, 24] (.pointer (some (adr u ((zU (sns l) (zA bs).t) * 3)))), .v [30, 24] (.pointer (some (adr u ((zU (sns l) (zA bs).t) * 3 + 1)))), .v [31, 24] (zI ((l.getD (zU (sns l) (zA bs).t) default).tm)), .p [24] [], .p [33, 24] [1], .v [34, 32, 24] (.bool (true)), .p [35, 24, 16] [], .p [36, 16] []]) [37] hs .n (.c (.s (.s (.s (.s (.s .z))))) (.c .z .n)) (by kernel_rfl) ⟨fun _ _ _ _ hm hs K => zFZ hs rfl rfl rfl (fun a w hs => wpList_nil (K _ _ (by rw [show (decide (0 < (((zU (sns l) (zA bs).t) : Nat) : Int))) = true from decide_eq_true (by omega)] at hs; exact hs))), rfl, ?_, fun _ _ _ _ hm hs K => zC hs rfl rfl rfl (zBj (j := ((zU (sns l) (zA bs).t) - 1)) hs rfl rfl (zAC (hm.del (.s (.s (.s (.s (.s (.s .z)))))))) rfl (by omega) underlying38 sizeOf45 rfl (vk K)), fun _ _ _ _ hm hs K => zC hs rfl rfl rfl (zBn hs rfl (zAC (hm.del (.s (.s (.s (.s (.s (.s .z)))))))) (by omega) underlying45 rfl sizeOf2 (by decide) (o := ((zU (sns l) (zA bs).t) - 1) * 3 + 1) rfl rfl (vk K)), fun _ _ _ _ hm hs K => zC hs rfl rfl rfl (zA7 (u := zI ((l.getD ((zU (sns l) (zA bs).t) - 1) default).tm)) hs rfl (zAC (hm.del (.s (.s (.s (.s (.s (.s .z)))))))) ((zAf zBq l ((zU (sns l) (zA bs).t) - 1) 1 (by omega) (by decide)).trans rfl) isAgg2 rfl (vk K)), rfl, fun _ _ _ _ hm hs K => zC hs rfl rfl rfl (zKv hs rfl rfl rfl (fun a w hs => wpList_nil (K _ _ (by rw [show (decide (((aS ((zK l (zA bs).b).t) ((zK l (zA bs).b).tm) ((zK l (zA bs).b).l) ((zA bs).t) ((zA bs).tm) ((zA bs).b) ((zA bs).l)).tm) ≤ ((l.getD ((zU (sns l) (zA bs).t) - 1) default).tm))) = false from decide_eq_false (by omega)] at hs; exact hs)))), rfl, fun _ _ _ _ hm hs K => zC hs rfl rfl rfl (zAG hs rfl (zAC (hm.del (.s (.s (.s (.s (.s (.s .z)))))))).isSl underlying38 rfl (vk K)), fun _ _ _ _ hm hs K => zC hs rfl rfl rfl (zCT hs rfl rfl rfl (fun a w hs => wpList_nil (K _ _ (by rw [show (decide ((((zU (sns l) (zA bs).t) : Nat) : Int) < ((l.length : Nat) : Int))) = true from decide_eq_true (by have : ¬ ¬ ((zU (sns l) (zA bs).t) < l.length) := fun h => htt ⟨fun h2 => by omega, fun h2 => absurd h2 h⟩; omega)] at hs; exact hs)))), rfl, fun _ _ _ _ hm hs K => zC hs rfl rfl rfl (zBj (j := (zU (sns l) (zA bs).t)) hs rfl rfl (zAC (hm.del (.s (.s (.s (.s (.s (.s .z)))))))) rfl (by omega) underlying38 sizeOf45 rfl (vk K)), fun _ _ _ _ hm hs K => zC hs rfl rfl rfl (zBn hs rfl (zAC (hm.del (.s (.s (.s (.s (.s (.s .z)))))))) (by omega) underlying45 rfl sizeOf2 (by decide) (o := (zU (sns l) (zA bs).t) * 3 + 1) rfl rfl (vk K)), fun _ _ _ _ hm hs K => zC hs rfl rfl rfl (zA7 (u := zI ((l.getD (zU (sns l) (zA bs).t) default).tm)) hs rfl (zAC (hm.del (.s (.s (.s (.s (.s (.s .z)))))))) ((zAf zBq l (zU (sns l) (zA bs).t) 1 (by omega) (by decide)).trans rfl) isAgg2 rfl (vk K)), rfl, fun _ _ _ _ hm hs K => zC hs rfl rfl rfl (zD0 hs rfl rfl rfl (fun a w hs => wpList_nil (K _ _ (by rw [show (decide (((l.getD (zU (sns l) (zA bs).t) default).tm) ≤ ((aS ((zK l (zA bs).b).t) ((zK l (zA bs).b).tm) ((zK l (zA bs).b).l) ((zA bs).t) ((zA bs).tm) ((zA bs).b) ((zA bs).l)).tm))) = true from decide_eq_true (by have : ¬ ((aS (zK l (zA bs).b).t (zK l (zA bs).b).tm (zK l (zA bs).b).l (zA bs).t (zA bs).tm (zA bs).b (zA bs).l).tm < (l.getD (zU (sns l) (zA bs).t) default).tm) := fun h => htt ⟨fun h2 => by omega, fun h2 => h⟩; omega)] at hs; exact hs)))), ⟨rfl, by kernel_rfl, fun _ => rfl, rfl, rfl, trivial⟩, fun _ => rfl, ?_⟩
    ·
     intro a_ w_ R_ Q_ hm hs K_
     refine zC hs rfl rfl rfl ?_
     refine zFo hs rfl rfl (by omega) rfl ?_; clear hs; intro a w hs
     have hv_ : ((((zU (sns l) (zA bs).t) : Nat) : Int) - 1 : Int) = ((((zU (sns l) (zA bs).t) - 1 : Nat) : Int) : Int) := by omega
     rw [hv_] at hs; clear hv_
     exact wpList_nil (K_ _ _ hs)
    intro a w hs; refine Or.inr ?_
    revert a w hs
    refine go 3 [] [5, 4] .n ?_
    refine cl (·.drop (.c (.s (.s (.s (.s .z)))) (.c (.s (.s (.s .z))) (.c (.s (.s .z)) (.c (.s .z) (.c .z .n)))))) ?_
    have hE_ : (zAT (sns l) most fl gone (zA bs)) = 16 := zJn (by omega) hkh (Bool.eq_false_iff.2 (fun h => hst (by have h1 := (zER (by omega) hkh).1 h; rw [zAJ] at h1; exact h1))) (by assumption) (by rw [zBw hsr]; omega) (by rw [zB8 hsr, hat.1]; exact ct)
    have hn_ : (zAT (sns l) most fl gone (zA bs)) ≠ 0 := by rw [hE_]; omega
    have hT_ : zGW (sns l) most fl gone (zA bs) = 0 := if_neg hn_
    intro a w hs; exact zCF hs rfl rfl rfl ⟨by rw [hT_, hE_] <;> rfl, _, l, if_neg hn_, by rw [if_neg hn_]⟩
   refine zS (dcs [.p [] [], .v [0] (.bool (false)), .p [1] [], .p [2] [], .p [3, 2] [], .p [4, 2] [], .p [5, 2] [], .p [2] [], .v [7, 2] undef, .p [8, 6, 2] [], .p [9, 2] [], .p [10, 2] [], .p [2] [], .p [12, 2] [], .v [13, 11, 2] undef, .p [14, 2] [], .p [15] [], .p [16] [], .p [16] [], .p [18, 16] [], .p [19, 16] [], .p [20, 16] [0], .v [21, 16] (nI l.length), .v [22, 17, 16] (.bool (true)), .p [23, 16] [], .p [24] [], .p [25, 24] [], .p [26, 24] []] [.p [27, 24] [0], .p [24] [], .v [29, 28, 24] (.pointer (some (adr u ((zU (sns l) (zA bs).t) * 3)))), .v [30, 24] (.pointer (some (adr u ((zU (sns l) (zA bs).t) * 3 + 1)))), .v [31, 24] (zI ((l.getD (zU (sns l) (zA bs).t) default).tm)), .p [24] [], .p [33, 24] [1], .v [34, 32, 24] (.bool (true)), .p [35, 24, 16] [], .p [36, 16] []]) [37] hs .n (.c (.s (.s (.s (.s (.s .z))))) (.c .z .n)) (by kernel_rfl) ⟨fun _ _ _ _ hm hs K => zFZ hs rfl rfl rfl (fun a w hs => wpList_nil (K _ _ (by rw [show (decide (0 < (((zU (sns l) (zA bs).t) : Nat) : Int))) = false from decide_eq_false (by omega)] at hs; exact hs))), fun _ _ _ _ hm hs K => zAz hs rfl rfl rfl rfl rfl (vk K), fun _ _ _ _ hm hs K => zAz hs rfl rfl rfl rfl rfl (vk K), rfl, fun _ _ _ _ hm hs K => zC hs rfl rfl rfl (zAG hs rfl (zAC (hm.del (.s (.s (.s (.s (.s (.s .z)))))))).isSl underlying38 rfl (vk K)), fun _ _ _ _ hm hs K => zC hs rfl rfl rfl (zCT hs rfl rfl rfl (fun a w hs => wpList_nil (K _ _ (by rw [show (decide ((((zU (sns l) (zA bs).t) : Nat) : Int) < ((l.length : Nat) : Int))) = true from decide_eq_true (by have : ¬ ¬ ((zU (sns l) (zA bs).t) < l.length) := fun h => htt ⟨fun h2 => by omega, fun h2 => absurd h2 h⟩; omega)] at hs; exact hs)))), rfl, fun _ _ _ _ hm hs K => zC hs rfl rfl rfl (zBj (j := (zU (sns l) (zA bs).t)) hs rfl rfl (zAC (hm.del (.s (.s (.s (.s (.s (.s .z)))))))) rfl (by omega) underlying38 sizeOf45 rfl (vk K)), fun _ _ _ _ hm hs K => zC hs rfl rfl rfl (zBn hs rfl (zAC (hm.del (.s (.s (.s (.s (.s (.s .z)))))))) (by omega) underlying45 rfl sizeOf2 (by decide) (o := (zU (sns l) (zA bs).t) * 3 + 1) rfl rfl (vk K)), fun _ _ _ _ hm hs K => zC hs rfl rfl rfl (zA7 (u := zI ((l.getD (zU (sns l) (zA bs).t) default).tm)) hs rfl (zAC (hm.del (.s (.s (.s (.s (.s (.s .z)))))))) ((zAf zBq l (zU (sns l) (zA bs).t) 1 (by omega) (by decide)).trans rfl) isAgg2 rfl (vk K)), rfl, fun _ _ _ _ hm hs K => zC hs rfl rfl rfl (zD0 hs rfl rfl rfl (fun a w hs => wpList_nil (K _ _ (by rw [show (decide (((l.getD (zU (sns l) (zA bs).t) default).tm) ≤ ((aS ((zK l (zA bs).b).t) ((zK l (zA bs).b).tm) ((zK l (zA bs).b).l) ((zA bs).t) ((zA bs).tm) ((zA bs).b) ((zA bs).l)).tm))) = true from decide_eq_true (by have : ¬ ((aS (zK l (zA bs).b).t (zK l (zA bs).b).tm (zK l (zA bs).b).l (zA bs).t (zA bs).tm (zA bs).b (zA bs).l).tm < (l.getD (zU (sns l) (zA bs).t) default).tm) := fun h => htt ⟨fun h2 => by omega, fun h2 => h⟩; omega)] at hs; exact hs)))), ⟨rfl, by kernel_rfl, fun _ => rfl, rfl, rfl, trivial⟩, fun _ => rfl, ?_⟩
   intro a w hs; refine Or.inr ?_
   revert a w hs
   refine go 3 [] [5, 4] .n ?_
   refine cl (·.drop (.c (.s (.s (.s (.s .z)))) (.c (.s (.s (.s .z))) (.c (.s (.s .z)) (.c (.s .z) (.c .z .n)))))) ?_
   have hE_ : (zAT (sns l) most fl gone (zA bs)) = 16 := zJn (by omega) hkh (Bool.eq_false_iff.2 (fun h => hst (by have h1 := (zER (by omega) hkh).1 h; rw [zAJ] at h1; exact h1))) (by assumption) (by rw [zBw hsr]; omega) (by rw [zB8 hsr, hat.1]; exact ct)
   have hn_ : (zAT (sns l) most fl gone (zA bs)) ≠ 0 := by rw [hE_]; omega
   have hT_ : zGW (sns l) most fl gone (zA bs) = 0 := if_neg hn_
   intro a w hs; exact zCF hs rfl rfl rfl ⟨by rw [hT_, hE_] <;> rfl, _, l, if_neg hn_, by rw [if_neg hn_]⟩
  by_cases cs : ((zA bs).t ≤ dfl fl gone ∨ ((zU (sns l) (zA bs).t) = 0 ∧ l.length = most))
  ·
   by_cases cf : (zA bs).t ≤ dfl fl gone
   ·
    refine zS [.p [] [], .p [0] [0], .p [] [], .p [2] [], .p [3] [], .p [4] [1], .v [5, 1] (.bool (true)), .p [6] [], .p [7] [], .v [8, 7] undef, .p [9, 7] [], .p [10] [], .p [11, 10] [], .p [12, 10] [], .p [13, 10] [], .p [14, 10] [], .p [10] [], .p [16, 10] [], .p [17, 10] [], .p [18, 10] [], .v [19, 15, 10] undef, .p [20, 10, 7] [], .p [21, 7] []] [22] hs .n (.c .z (.c (.s .z) .n)) (by kernel_rfl) ⟨rfl, rfl, fun _ _ _ _ hm hs K => zD0 hs rfl rfl rfl (fun a w hs => wpList_nil (K _ _ (by rw [show (decide (((zA bs).t) ≤ (dfl fl gone))) = true from decide_eq_true (by omega)] at hs; exact hs))), fun _ _ _ _ hm hs K => zAz hs rfl rfl rfl rfl rfl (vk K), fun _ _ _ _ hm hs K => zHi hs rfl rfl rfl rfl (vk K), ⟨rfl, by kernel_rfl, fun _ => rfl, rfl, rfl, trivial⟩, fun _ => rfl, ?_⟩
    intro a w hs; refine Or.inr ?_
    revert a w hs
    refine go 3 [] [5, 4] .n ?_
    refine cl (·.drop (.c (.s .z) (.c .z .n))) ?_
    have hE_ : (zAT (sns l) most fl gone (zA bs)) = 13 := zKM (by omega) hkh ((zER (by omega) hkh).2 (by rw [zAJ]; exact cs))
    have hn_ : (zAT (sns l) most fl gone (zA bs)) ≠ 0 := by rw [hE_]; omega
    have hT_ : zGW (sns l) most fl gone (zA bs) = 0 := if_neg hn_
    intro a w hs; exact zCF hs rfl rfl rfl ⟨by rw [hT_, hE_] <;> rfl, _, l, if_neg hn_, by rw [if_neg hn_]⟩
   refine zS [.p [] [], .p [0] [0], .p [] [], .p [2] [], .p [3] [], .p [4] [1], .v [5, 1] (.bool (false)), .p [6] [], .p [7] [], .v [8, 7] (.bool (true)), .p [9, 7] [], .p [10] [], .p [11, 10] [], .p [12, 10] [], .p [13, 10] [1], .v [14, 10] (nI l.length), .p [10] [], .p [16, 10] [], .p [17, 10] [], .p [18, 10] [1], .v [19, 15, 10] (.bool (true)), .p [20, 10, 7] [], .p [21, 7] []] [22] hs .n (.c .z (.c (.s .z) .n)) (by kernel_rfl) ⟨rfl, rfl, fun _ _ _ _ hm hs K => zD0 hs rfl rfl rfl (fun a w hs => wpList_nil (K _ _ (by rw [show (decide (((zA bs).t) ≤ (dfl fl gone))) = false from decide_eq_false (by omega)] at hs; exact hs))), fun _ _ _ _ hm hs K => zC hs rfl rfl rfl (zCB hs rfl rfl rfl (fun a w hs => wpList_nil (K _ _ (by rw [show (((((zU (sns l) (zA bs).t) : Nat) : Int) : Int) == 0) = true from by rw [beq_iff_eq]; omega] at hs; exact hs)))), rfl, fun _ _ _ _ hm hs K => zC hs rfl rfl rfl (zAG hs rfl (zAC (hm.del (.s (.s (.s .z))))).isSl underlying38 rfl (vk K)), rfl, fun _ _ _ _ hm hs K => zC hs rfl rfl rfl (zCB hs rfl rfl rfl (fun a w hs => wpList_nil (K _ _ (by rw [show ((((l.length : Nat) : Int) : Int) == ((most : Nat) : Int)) = true from by rw [beq_iff_eq]; omega] at hs; exact hs)))), ⟨rfl, by kernel_rfl, fun _ => rfl, rfl, rfl, trivial⟩, fun _ => rfl, ?_⟩
   intro a w hs; refine Or.inr ?_
   revert a w hs
   refine go 3 [] [5, 4] .n ?_
   refine cl (·.drop (.c (.s .z) (.c .z .n))) ?_
   have hE_ : (zAT (sns l) most fl gone (zA bs)) = 13 := zKM (by omega) hkh ((zER (by omega) hkh).2 (by rw [zAJ]; exact cs))
   have hn_ : (zAT (sns l) most fl gone (zA bs)) ≠ 0 := by rw [hE_]; omega
   have hT_ : zGW (sns l) most fl gone (zA bs) = 0 := if_neg hn_
   intro a w hs; exact zCF hs rfl rfl rfl ⟨by rw [hT_, hE_] <;> rfl, _, l, if_neg hn_, by rw [if_neg hn_]⟩
  by_cases cz : (zU (sns l) (zA bs).t) = 0
  ·
   refine zS [.p [] [], .p [0] [0], .p [] [], .p [2] [], .p [3] [], .p [4] [1], .v [5, 1] (.bool (false)), .p [6] [], .p [7] [], .v [8, 7] (.bool (true)), .p [9, 7] [], .p [10] [], .p [11, 10] [], .p [12, 10] [], .p [13, 10] [1], .v [14, 10] (nI l.length), .p [10] [], .p [16, 10] [], .p [17, 10] [], .p [18, 10] [1], .v [19, 15, 10] (.bool (false)), .p [20, 10, 7] [], .p [21, 7] []] [22] hs .n (.c .z (.c (.s .z) .n)) (by kernel_rfl) ⟨rfl, rfl, fun _ _ _ _ hm hs K => zD0 hs rfl rfl rfl (fun a w hs => wpList_nil (K _ _ (by rw [show (decide (((zA bs).t) ≤ (dfl fl gone))) = false from decide_eq_false (by omega)] at hs; exact hs))), fun _ _ _ _ hm hs K => zC hs rfl rfl rfl (zCB hs rfl rfl rfl (fun a w hs => wpList_nil (K _ _ (by rw [show (((((zU (sns l) (zA bs).t) : Nat) : Int) : Int) == 0) = true from by rw [beq_iff_eq]; omega] at hs; exact hs)))), rfl, fun _ _ _ _ hm hs K => zC hs rfl rfl rfl (zAG hs rfl (zAC (hm.del (.s (.s (.s .z))))).isSl underlying38 rfl (vk K)), rfl, fun _ _ _ _ hm hs K => zC hs rfl rfl rfl (zCB hs rfl rfl rfl (fun a w hs => wpList_nil (K _ _ (by rw [show ((((l.length : Nat) : Int) : Int) == ((most : Nat) : Int)) = false from by rw [beq_eq_false_iff_ne]; omega] at hs; exact hs)))), ⟨rfl, by kernel_rfl, fun _ => rfl, rfl, rfl, trivial⟩, fun _ => rfl, ?_⟩
   intro a w hs; exact Or.inl ⟨hs.sub (.c rfl (.c rfl (.c rfl (.c rfl .n)))), (by assumption)⟩
  refine zS [.p [] [], .p [0] [0], .p [] [], .p [2] [], .p [3] [], .p [4] [1], .v [5, 1] (.bool (false)), .p [6] [], .p [7] [], .v [8, 7] (.bool (false)), .p [9, 7] [], .p [10] [], .p [11, 10] [], .p [12, 10] [], .p [13, 10] [], .p [14, 10] [], .p [10] [], .p [16, 10] [], .p [17, 10] [], .p [18, 10] [], .v [19, 15, 10] undef, .p [20, 10, 7] [], .p [21, 7] []] [22] hs .n (.c .z (.c (.s .z) .n)) (by kernel_rfl) ⟨rfl, rfl, fun _ _ _ _ hm hs K => zD0 hs rfl rfl rfl (fun a w hs => wpList_nil (K _ _ (by rw [show (decide (((zA bs).t) ≤ (dfl fl gone))) = false from decide_eq_false (by omega)] at hs; exact hs))), fun _ _ _ _ hm hs K => zC hs rfl rfl rfl (zCB hs rfl rfl rfl (fun a w hs => wpList_nil (K _ _ (by rw [show (((((zU (sns l) (zA bs).t) : Nat) : Int) : Int) == 0) = false from by rw [beq_eq_false_iff_ne]; omega] at hs; exact hs)))), fun _ _ _ _ hm hs K => zAz hs rfl rfl rfl rfl rfl (vk K), ⟨rfl, by kernel_rfl, fun _ => rfl, rfl, rfl, trivial⟩, fun _ => rfl, ?_⟩
  intro a w hs; exact Or.inl ⟨hs.sub (.c rfl (.c rfl (.c rfl (.c rfl .n)))), (by assumption)⟩
 by_cases ck : zB9 (sns l) (zA bs).t = true
 ·
  have hki := (zCj hsr).1 ck
  have hkx := hki.2
  rw [zCH l (by omega)] at hkx
  refine zS [.p [] [], .p [] [], .p [1] [], .p [2] [], .p [3] [0], .v [4] (nI l.length), .v [5, 0] (.bool (true)), .p [6] [], .p [7] [], .p [8, 7] [], .p [9, 7] [], .p [10, 7] [0], .p [7] [], .v [12, 11, 7] (.pointer (some (adr u ((zU (sns l) (zA bs).t) * 3)))), .v [13, 7] (.pointer (some (adr u ((zU (sns l) (zA bs).t) * 3 + 0)))), .v [14, 7] (zI ((l.getD (zU (sns l) (zA bs).t) default).t)), .p [7] [], .p [16, 7] [1], .v [17, 15, 7] (.bool (true)), .p [18, 7] []] [19] hs .n (.c (.s (.s .z)) (.c .z .n)) (by kernel_rfl) ⟨rfl, fun _ _ _ _ hm hs K => zAG hs rfl (zAC (hm.del (.s (.s (.s .z))))).isSl underlying38 rfl (vk K), fun _ _ _ _ hm hs K => zCT hs rfl rfl rfl (fun a w hs => wpList_nil (K _ _ (by rw [show (decide ((((zU (sns l) (zA bs).t) : Nat) : Int) < ((l.length : Nat) : Int))) = true from decide_eq_true (by omega)] at hs; exact hs))), rfl, fun _ _ _ _ hm hs K => zC hs rfl rfl rfl (zBj (j := (zU (sns l) (zA bs).t)) hs rfl rfl (zAC (hm.del (.s (.s (.s .z))))) rfl (by omega) underlying38 sizeOf45 rfl (vk K)), fun _ _ _ _ hm hs K => zC hs rfl rfl rfl (zBn hs rfl (zAC (hm.del (.s (.s (.s .z))))) (by omega) underlying45 rfl sizeOf2 (by decide) (o := (zU (sns l) (zA bs).t) * 3 + 0) rfl rfl (vk K)), fun _ _ _ _ hm hs K => zC hs rfl rfl rfl (zA7 (u := zI ((l.getD (zU (sns l) (zA bs).t) default).t)) hs rfl (zAC (hm.del (.s (.s (.s .z))))) ((zAf zBq l (zU (sns l) (zA bs).t) 0 (by omega) (by decide)).trans rfl) isAgg2 rfl (vk K)), rfl, fun _ _ _ _ hm hs K => zC hs rfl rfl rfl (zCB hs rfl rfl rfl (fun a w hs => wpList_nil (K _ _ (by rw [show (((l.getD (zU (sns l) (zA bs).t) default).t : Int) == ((zA bs).t)) = true from beq_iff_eq.2 hkx] at hs; exact hs)))), ⟨rfl, by kernel_rfl, fun _ => rfl, rfl, rfl, trivial⟩, fun _ => rfl, ?_⟩
  intro a w hs; refine Or.inr ?_
  revert a w hs
  refine go 3 [] [5, 4] .n ?_
  refine cl (·.drop (.c (.s .z) (.c .z .n))) ?_
  have hE_ : (zAT (sns l) most fl gone (zA bs)) = 12 := zTb (by omega) ck
  have hn_ : (zAT (sns l) most fl gone (zA bs)) ≠ 0 := by rw [hE_]; omega
  have hT_ : zGW (sns l) most fl gone (zA bs) = 0 := if_neg hn_
  intro a w hs; exact zCF hs rfl rfl rfl ⟨by rw [hT_, hE_] <;> rfl, _, l, if_neg hn_, by rw [if_neg hn_]⟩
 replace ck := Bool.eq_false_iff.2 ck
 by_cases cl : (zU (sns l) (zA bs).t) < l.length
 ·
  refine zS [.p [] [], .p [] [], .p [1] [], .p [2] [], .p [3] [0], .v [4] (nI l.length), .v [5, 0] (.bool (true)), .p [6] [], .p [7] [], .p [8, 7] [], .p [9, 7] [], .p [10, 7] [0], .p [7] [], .v [12, 11, 7] (.pointer (some (adr u ((zU (sns l) (zA bs).t) * 3)))), .v [13, 7] (.pointer (some (adr u ((zU (sns l) (zA bs).t) * 3 + 0)))), .v [14, 7] (zI ((l.getD (zU (sns l) (zA bs).t) default).t)), .p [7] [], .p [16, 7] [1], .v [17, 15, 7] (.bool (false)), .p [18, 7] []] [19] hs .n (.c (.s (.s .z)) (.c .z .n)) (by kernel_rfl) ⟨rfl, fun _ _ _ _ hm hs K => zAG hs rfl (zAC (hm.del (.s (.s (.s .z))))).isSl underlying38 rfl (vk K), fun _ _ _ _ hm hs K => zCT hs rfl rfl rfl (fun a w hs => wpList_nil (K _ _ (by rw [show (decide ((((zU (sns l) (zA bs).t) : Nat) : Int) < ((l.length : Nat) : Int))) = true from decide_eq_true (by omega)] at hs; exact hs))), rfl, fun _ _ _ _ hm hs K => zC hs rfl rfl rfl (zBj (j := (zU (sns l) (zA bs).t)) hs rfl rfl (zAC (hm.del (.s (.s (.s .z))))) rfl (by omega) underlying38 sizeOf45 rfl (vk K)), fun _ _ _ _ hm hs K => zC hs rfl rfl rfl (zBn hs rfl (zAC (hm.del (.s (.s (.s .z))))) (by omega) underlying45 rfl sizeOf2 (by decide) (o := (zU (sns l) (zA bs).t) * 3 + 0) rfl rfl (vk K)), fun _ _ _ _ hm hs K => zC hs rfl rfl rfl (zA7 (u := zI ((l.getD (zU (sns l) (zA bs).t) default).t)) hs rfl (zAC (hm.del (.s (.s (.s .z))))) ((zAf zBq l (zU (sns l) (zA bs).t) 0 (by omega) (by decide)).trans rfl) isAgg2 rfl (vk K)), rfl, fun _ _ _ _ hm hs K => zC hs rfl rfl rfl (zCB hs rfl rfl rfl (fun a w hs => wpList_nil (K _ _ (by rw [show (((l.getD (zU (sns l) (zA bs).t) default).t : Int) == ((zA bs).t)) = false from (by have h1 := zOq hsr (k := (zA bs).t) (by omega); rw [ck, zCH l (by omega)] at h1; have h2 := beq_eq_false_iff_ne.1 h1.symm; exact beq_eq_false_iff_ne.2 (fun h => h2 (zKh.2 h)))] at hs; exact hs)))), ⟨rfl, by kernel_rfl, fun _ => rfl, rfl, rfl, trivial⟩, fun _ => rfl, ?_⟩
  intro a w hs; exact Or.inl ⟨hs.sub (.c rfl (.c rfl (.c rfl (.c rfl .n)))), (by assumption)⟩
 refine zS [.p [] [], .p [] [], .p [1] [], .p [2] [], .p [3] [0], .v [4] (nI l.length), .v [5, 0] (.bool (false)), .p [6] [], .p [7] [], .p [8, 7] [], .p [9, 7] [], .p [10, 7] [], .p [7] [], .p [12, 11, 7] [], .p [13, 7] [], .p [14, 7] [], .p [7] [], .p [16, 7] [], .v [17, 15, 7] undef, .p [18, 7] []] [19] hs .n (.c (.s (.s .z)) .n) (by kernel_rfl) ⟨rfl, fun _ _ _ _ hm hs K => zAG hs rfl (zAC (hm.del (.s (.s (.s .z))))).isSl underlying38 rfl (vk K), fun _ _ _ _ hm hs K => zCT hs rfl rfl rfl (fun a w hs => wpList_nil (K _ _ (by rw [show (decide ((((zU (sns l) (zA bs).t) : Nat) : Int) < ((l.length : Nat) : Int))) = false from decide_eq_false (by omega)] at hs; exact hs))), fun _ _ _ _ hm hs K => zAz hs rfl rfl rfl rfl rfl (vk K), ⟨rfl, by kernel_rfl, fun _ => rfl, rfl, rfl, trivial⟩, fun _ => rfl, ?_⟩
 intro a w hs; exact Or.inl ⟨hs.sub (.c rfl (.c rfl (.c rfl (.c rfl .n)))), (by assumption)⟩
end Go.Proofs.YtbacobmcfelmkaaGreat
