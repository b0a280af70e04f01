/- Walks of the document's datagrams: what each function does, over the program of this seat. Printed by a program of this session. -/
import Derived.Test.YtbacobmcfelmkaaGreatQWgram
import Derived.Test.YtbacobmcfelmkaaGreatQWrecm
import Derived.Test.YtbacobmcfelmkaaGreatQSxBasB
namespace Go.Proofs.YtbacobmcfelmkaaGreat
open Tryz
open Go Go.Sx Go.RowKit
set_option linter.unusedVariables false
set_option linter.unusedSimpArgs false
set_option maxRecDepth 4000
set_option maxHeartbeats 1000000

theorem zRp (t tm b : Int) (u : Value) (l : List zAd) (w0 : World) (ht_ : -9223372036854775808 ≤ t ∧ t ≤ 9223372036854775807) (htm_ : -9223372036854775808 ≤ tm ∧ tm ≤ 9223372036854775807) (hb_ : -9223372036854775808 ≤ b ∧ b ≤ 9223372036854775807) (hc : Rd w0 [] u 9 l.length (l.flatMap zDG)) (hl : ∀ x ∈ l, x.wf) : Calls Tryz.prog 93 #[.agg #[.int .i64 t, .int .i64 tm, .int .i64 b, u]] w0 (Ret w0 [] fun x N => ∃ v, x = .tuple #[v, nI (zAV t tm b l)] ∧ N = [row v 5 1 (zBv t tm b l).length (zF (zBv t tm b l))]) := by
 have hce := hc.le
 simp only [maxLen] at hce
 have hv1 := zCJ (BitVec.ofInt 64 t).toNat
 have hv2 := zCJ (zFK tm).toNat
 have hv3 := zCJ (BitVec.ofInt 64 (t - b)).toNat
 have hv4 := zCJ (BitVec.ofInt 64 (l.length : Int)).toNat
 have hv5 := zCJ (0#64).toNat
 have hgl := zEM t tm b l.length
 refine zT (F0 := [(0, .agg #[zI t, zI tm, zI b, u])]) func93 rfl rfl rfl (.c .n) (Mem.nil _) ?_
 refine go 7 [0, 0] [13, 1] .n (fun g1 => ⟨rfl, ?_⟩)
 intro a w hs; refine zAB (b := decide (t < 0)) (fun c_2 => ?_) (fun c_2 => ?_)
 ·
  rw [c_2] at hs
  replace c_2 := of_decide_eq_true c_2
  revert a w hs
  refine go 22 [] [3, 2] .n ?_
  have hbe : zAV t tm b l = 3 := by first | exact zAD (by omega) | exact (zAD (by rw [(show zCk t tm b l.length = _ by first | exact zBR (by omega) | exact zAs (by omega) (by omega) | exact zBT (by omega) (by omega) (by omega))]; decide)).trans (show zCk t tm b l.length = _ by first | exact zBR (by omega) | exact zAs (by omega) (by omega) | exact zBT (by omega) (by omega) (by omega)) | (rw [zAE (by omega)]; exact zBY (by omega) hI1_1 (by unfold zCc; omega)) | (rw [zAE (by omega)]; unfold zBg; rw [← show j = l.length by omega]; exact hI1_1)
  refine cl (·.drop (.c .z .n)) ?_
  refine cl (·.addNil 5 1) ?_
  intro a w hs; replace hs := hs.rerow .z (m' := (zBv t tm b l).length) (xs' := zF (zBv t tm b l)) (by rw [zA2 (by omega)]; rfl) (by rw [zA2 (by omega)]; rfl)
  exact zCF hs rfl rfl rfl ⟨_, congrArg (fun z : Nat => Value.tuple #[.slice none 0 0, zI (z : Int)]) hbe.symm, rfl⟩
 rw [c_2] at hs
 replace c_2 := of_decide_eq_false c_2
 revert a w hs
 refine go 5 [0] [18, 1] (.c .z .n) ⟨rfl, ?_⟩
 intro a w hs; refine zAB (b := decide (4294967295 < t)) (fun c_3 => ?_) (fun c_3 => ?_)
 ·
  rw [c_3] at hs
  replace c_3 := of_decide_eq_true c_3
  revert a w hs
  refine go 17 [] [3, 2] .n ?_
  have hbe : zAV t tm b l = 3 := by first | exact zAD (by omega) | exact (zAD (by rw [(show zCk t tm b l.length = _ by first | exact zBR (by omega) | exact zAs (by omega) (by omega) | exact zBT (by omega) (by omega) (by omega))]; decide)).trans (show zCk t tm b l.length = _ by first | exact zBR (by omega) | exact zAs (by omega) (by omega) | exact zBT (by omega) (by omega) (by omega)) | (rw [zAE (by omega)]; exact zBY (by omega) hI1_1 (by unfold zCc; omega)) | (rw [zAE (by omega)]; unfold zBg; rw [← show j = l.length by omega]; exact hI1_1)
  refine cl (·.drop (.c .z .n)) ?_
  refine cl (·.addNil 5 1) ?_
  intro a w hs; replace hs := hs.rerow .z (m' := (zBv t tm b l).length) (xs' := zF (zBv t tm b l)) (by rw [zA2 (by omega)]; rfl) (by rw [zA2 (by omega)]; rfl)
  exact zCF hs rfl rfl rfl ⟨_, congrArg (fun z : Nat => Value.tuple #[.slice none 0 0, zI (z : Int)]) hbe.symm, rfl⟩
 rw [c_3] at hs
 replace c_3 := of_decide_eq_false c_3
 revert a w hs
 refine go 5 [0] [23, 1] (.c .z .n) ⟨rfl, ?_⟩
 intro a w hs; refine zAB (b := decide (tm < (-2305843009213693952))) (fun c_4 => ?_) (fun c_4 => ?_)
 ·
  rw [c_4] at hs
  replace c_4 := of_decide_eq_true c_4
  revert a w hs
  refine go 12 [] [3, 2] .n ?_
  have hbe : zAV t tm b l = 3 := by first | exact zAD (by omega) | exact (zAD (by rw [(show zCk t tm b l.length = _ by first | exact zBR (by omega) | exact zAs (by omega) (by omega) | exact zBT (by omega) (by omega) (by omega))]; decide)).trans (show zCk t tm b l.length = _ by first | exact zBR (by omega) | exact zAs (by omega) (by omega) | exact zBT (by omega) (by omega) (by omega)) | (rw [zAE (by omega)]; exact zBY (by omega) hI1_1 (by unfold zCc; omega)) | (rw [zAE (by omega)]; unfold zBg; rw [← show j = l.length by omega]; exact hI1_1)
  refine cl (·.drop (.c .z .n)) ?_
  refine cl (·.addNil 5 1) ?_
  intro a w hs; replace hs := hs.rerow .z (m' := (zBv t tm b l).length) (xs' := zF (zBv t tm b l)) (by rw [zA2 (by omega)]; rfl) (by rw [zA2 (by omega)]; rfl)
  exact zCF hs rfl rfl rfl ⟨_, congrArg (fun z : Nat => Value.tuple #[.slice none 0 0, zI (z : Int)]) hbe.symm, rfl⟩
 rw [c_4] at hs
 replace c_4 := of_decide_eq_false c_4
 revert a w hs
 refine go 5 [0] [28, 1] (.c .z .n) ⟨rfl, ?_⟩
 intro a w hs; refine zAB (b := decide (2305843009213693952 < tm)) (fun c_5 => ?_) (fun c_5 => ?_)
 ·
  rw [c_5] at hs
  replace c_5 := of_decide_eq_true c_5
  revert a w hs
  refine go 7 [] [3, 2] .n ?_
  have hbe : zAV t tm b l = 3 := by first | exact zAD (by omega) | exact (zAD (by rw [(show zCk t tm b l.length = _ by first | exact zBR (by omega) | exact zAs (by omega) (by omega) | exact zBT (by omega) (by omega) (by omega))]; decide)).trans (show zCk t tm b l.length = _ by first | exact zBR (by omega) | exact zAs (by omega) (by omega) | exact zBT (by omega) (by omega) (by omega)) | (rw [zAE (by omega)]; exact zBY (by omega) hI1_1 (by unfold zCc; omega)) | (rw [zAE (by omega)]; unfold zBg; rw [← show j = l.length by omega]; exact hI1_1)
  refine cl (·.drop (.c .z .n)) ?_
  refine cl (·.addNil 5 1) ?_
  intro a w hs; replace hs := hs.rerow .z (m' := (zBv t tm b l).length) (xs' := zF (zBv t tm b l)) (by rw [zA2 (by omega)]; rfl) (by rw [zA2 (by omega)]; rfl)
  exact zCF hs rfl rfl rfl ⟨_, congrArg (fun z : Nat => Value.tuple #[.slice none 0 0, zI (z : Int)]) hbe.symm, rfl⟩
 rw [c_5] at hs
 replace c_5 := of_decide_eq_false c_5
 revert a w hs
 refine go 4 [0] [32, 1] (.c .z .n) ⟨rfl, ?_⟩
 refine ifG rfl (fun c_6 => ?_) (fun c_6 => ?_)
 ·
  refine go 2 [] [3, 2] .n ?_
  have hbe : zAV t tm b l = 3 := by first | exact zAD (by omega) | exact (zAD (by rw [(show zCk t tm b l.length = _ by first | exact zBR (by omega) | exact zAs (by omega) (by omega) | exact zBT (by omega) (by omega) (by omega))]; decide)).trans (show zCk t tm b l.length = _ by first | exact zBR (by omega) | exact zAs (by omega) (by omega) | exact zBT (by omega) (by omega) (by omega)) | (rw [zAE (by omega)]; exact zBY (by omega) hI1_1 (by unfold zCc; omega)) | (rw [zAE (by omega)]; unfold zBg; rw [← show j = l.length by omega]; exact hI1_1)
  refine cl (·.drop (.c .z .n)) ?_
  refine cl (·.addNil 5 1) ?_
  intro a w hs; replace hs := hs.rerow .z (m' := (zBv t tm b l).length) (xs' := zF (zBv t tm b l)) (by rw [zA2 (by omega)]; rfl) (by rw [zA2 (by omega)]; rfl)
  exact zCF hs rfl rfl rfl ⟨_, congrArg (fun z : Nat => Value.tuple #[.slice none 0 0, zI (z : Int)]) hbe.symm, rfl⟩
 refine go 5 [0, 0] [37, 1] (.c .z .n) ⟨rfl, rfl, ?_⟩
 refine ifG rfl (fun c_7 => ?_) (fun c_7 => ?_)
 ·
  refine go 2 [] [3, 2] .n ?_
  have hbe : zAV t tm b l = 10 := by first | exact zAD (by omega) | exact (zAD (by rw [(show zCk t tm b l.length = _ by first | exact zBR (by omega) | exact zAs (by omega) (by omega) | exact zBT (by omega) (by omega) (by omega))]; decide)).trans (show zCk t tm b l.length = _ by first | exact zBR (by omega) | exact zAs (by omega) (by omega) | exact zBT (by omega) (by omega) (by omega)) | (rw [zAE (by omega)]; exact zBY (by omega) hI1_1 (by unfold zCc; omega)) | (rw [zAE (by omega)]; unfold zBg; rw [← show j = l.length by omega]; exact hI1_1)
  refine cl (·.drop (.c .z .n)) ?_
  refine cl (·.addNil 5 1) ?_
  intro a w hs; replace hs := hs.rerow .z (m' := (zBv t tm b l).length) (xs' := zF (zBv t tm b l)) (by rw [zA2 (by omega)]; rfl) (by rw [zA2 (by omega)]; rfl)
  exact zCF hs rfl rfl rfl ⟨_, congrArg (fun z : Nat => Value.tuple #[.slice none 0 0, zI (z : Int)]) hbe.symm, rfl⟩
 refine go 2 [0] [39, 1] (.c .z .n) ⟨rfl, ?_⟩
 intro a w hs; refine zAG hs rfl (hs.rd0 hc).isSl underlying59 rfl ?_
 refine goL 1 [] [41, 1] .n ?_
 refine ifG rfl (fun c_8 => ?_) (fun c_8 => ?_)
 ·
  refine go 2 [] [3, 2] .n ?_
  have hbe : zAV t tm b l = 8 := by first | exact zAD (by omega) | exact (zAD (by rw [(show zCk t tm b l.length = _ by first | exact zBR (by omega) | exact zAs (by omega) (by omega) | exact zBT (by omega) (by omega) (by omega))]; decide)).trans (show zCk t tm b l.length = _ by first | exact zBR (by omega) | exact zAs (by omega) (by omega) | exact zBT (by omega) (by omega) (by omega)) | (rw [zAE (by omega)]; exact zBY (by omega) hI1_1 (by unfold zCc; omega)) | (rw [zAE (by omega)]; unfold zBg; rw [← show j = l.length by omega]; exact hI1_1)
  refine cl (·.drop (.c .z .n)) ?_
  refine cl (·.addNil 5 1) ?_
  intro a w hs; replace hs := hs.rerow .z (m' := (zBv t tm b l).length) (xs' := zF (zBv t tm b l)) (by rw [zA2 (by omega)]; rfl) (by rw [zA2 (by omega)]; rfl)
  exact zCF hs rfl rfl rfl ⟨_, congrArg (fun z : Nat => Value.tuple #[.slice none 0 0, zI (z : Int)]) hbe.symm, rfl⟩
 refine go 3 [1] [44, 42, 1] (.c .z .n) (fun g9 => ⟨rfl, ?_⟩)
 intro a w hs; refine zA0 hs rfl underlying2 underlying130 rfl ?_
 intro a w hs; refine zO hs (.c rfl .n) call109 .n (zEN (BitVec.ofInt 64 t) _) rfl ?_; clear hs w a; rintro v10 _ a w rfl hs
 replace hs := hs.toRow (size := 1) (m := 2) (.s .z) rfl (by decide)
 refine zAj (size := 1) (bytes := 1) hs rfl rfl .z (zM (hs.mem.del (.s .z))) (zQ _) underlying32 (i := Tryz.t5) rfl rfl rfl rfl rfl (by decide) (by omega) (by simp only [maxLen]; omega) rfl ?_; intro v11
 refine goL 4 [0] [50, 48, 1] (.c (.s (.s .z)) .n) ⟨rfl, ?_⟩
 intro a w hs; refine zH (v := qI (zFK tm)) hs (.c rfl .n) call110 (zO3 tm _ (by omega)) rfl ?_
 intro a w hs; refine zO hs (.c rfl .n) call109 .n (zEN (zFK tm) _) rfl ?_; clear hs w a; rintro v12 _ a w rfl hs
 refine zAj (size := 1) (bytes := 1) hs rfl rfl (.s (.s .z)) (zM (hs.mem.del .z)) (zQ _) underlying32 (i := Tryz.t5) rfl rfl rfl rfl rfl (by decide) (by omega) (by simp only [maxLen]; omega) rfl ?_; intro v13
 refine goL 5 [0] [56, 5, 4, 1] (.c (.s (.s .z)) .n) ⟨rfl, ?_⟩
 refine ifG rfl (fun c_14 => ?_) (fun c_14 => ?_)
 ·
  refine go 5 [0, 0] [61, 4, 1] (.c .z .n) ⟨rfl, rfl, (by omega), ?_⟩
  intro a w hs; refine zA0 hs rfl underlying2 underlying130 rfl ?_
  refine goL 3 [] [64, 63, 1] .n ?_
  intro a w hs; refine zO hs (.c rfl .n) call109 .n (zEN (BitVec.ofInt 64 (t - b)) _) rfl ?_; clear hs w a; rintro v15 _ a w rfl hs
  refine zAj (size := 1) (bytes := 1) hs rfl rfl (.s (.s .z)) (zM (hs.mem.del .z)) (zQ _) underlying32 (i := Tryz.t5) rfl rfl rfl rfl rfl (by decide) (by omega) (by simp only [maxLen]; omega) rfl ?_; intro v16
  refine goL 4 [0] [69, 67, 1] (.c (.s (.s .z)) .n) ⟨rfl, ?_⟩
  intro a w hs; refine zAG hs rfl (hs.rd0 hc).isSl underlying59 rfl ?_
  intro a w hs; refine zA0 hs rfl underlying3 underlying130 rfl ?_
  intro a w hs; refine zO hs (.c rfl .n) call109 .n (zEN (BitVec.ofInt 64 ((l.length : Nat) : Int)) _) rfl ?_; clear hs w a; rintro v17 _ a w rfl hs
  refine zAj (size := 1) (bytes := 1) hs rfl rfl (.s (.s .z)) (zM (hs.mem.del .z)) (zQ _) underlying32 (i := Tryz.t5) rfl rfl rfl rfl rfl (by decide) (by omega) (by simp only [maxLen]; omega) rfl ?_; intro v18
  refine cl (·.drop (.c (.s (.s (.s (.s (.s .z))))) (.c (.s (.s (.s (.s .z)))) (.c (.s (.s (.s .z))) (.c (.s .z) .n))))) ?_
  intro a w hs; replace hs := hs.rerow .z (m' := (zAq t tm b l.length).length) (xs' := zF (zAq t tm b l.length)) (by rw [zAq, zIU]; (first | rw [if_pos (by omega)] | rw [if_neg (by omega)]); simp only [List.length_append, List.length_cons, List.length_nil, zCe]) (by rw [zAq, zIU]; (first | rw [if_pos (by omega)] | rw [if_neg (by omega)]); simp [zF, zIc])
  have hge : zCk t tm b l.length = 0 := zFV (by omega) (by omega) (by omega)
  revert a w hs
  refine goL 3 [] [7, 6, 4, 1] .n ?_
  intro a w hs; replace hs := hs.rerow .z (m' := (zAq t tm b l.length).length + (zCd (l.take 0)).1.length) (xs' := zF (zAq t tm b l.length ++ (zCd (l.take 0)).1)) (by show _ = _ + 0; first | rfl | (simp only [zCe, zAq, List.length_append, List.length_cons, List.length_nil]; omega)) (by show _ = zF (_ ++ []); rw [List.append_nil])
  refine zCA (fun mm_ a w => ∃ j : Nat, ∃ p : Value, mm_ = l.length - j ∧ St 104 [(1, pt g1 0), (4, p), (6, zI ((zCd (l.take j)).2)), (7, zI (j : Int))] w0 [] [row p 5 1 ((zAq t tm b l.length).length + (zCd (l.take j)).1.length) (zF (zAq t tm b l.length ++ (zCd (l.take j)).1)), blk g1 [zI t, zI tm, zI b, u] 61] a w ∧ j ≤ l.length ∧ zCM l j = 0) ⟨0, v18, rfl, hs.sub (.c rfl (.c rfl (.c rfl (.c rfl .n)))), by omega, rfl⟩ ?_
  clear hs w a; rintro mm_ a w ⟨j, p, rfl, hs, hI1_0, hI1_1⟩
  have hll := zFr hI1_0 hI1_1
  have hrl := zHK (l.take j)
  have htl : (l.take j).length ≤ j := by rw [List.length_take]; omega
  revert a w hs
  refine go 3 [0] [76, 74, 1, 4, 6, 7] (.c (.s .z) .n) ⟨rfl, ?_⟩
  intro a w hs; refine zAG hs rfl (hs.rd0 hc).isSl underlying59 rfl ?_
  refine goL 1 [] [78, 1, 4, 6, 7] .n ?_
  refine ifG rfl (fun c_19 => ?_) (fun c_19 => ?_)
  ·
   refine go 3 [0] [84, 83, 1, 4, 6, 7] (.c .z .n) ⟨rfl, ?_⟩
   intro a w hs; refine zBj (j := j) hs rfl rfl (hs.rd0 hc) rfl (by omega) underlying59 sizeOf112 rfl ?_
   intro a w hs; refine zCm (cs := zDG (l.getD j default)) hs rfl (hs.rd0 hc) (zBe zCX l j (by omega)) (by rw [zBH zCX]; omega) (by omega) isAgg112 sizeOf112 rfl ?_
   refine goL 1 [] [87, 86, 1, 4, 7] .n ?_
   intro a w hs; refine zO hs (.c rfl (.c rfl .n)) call111 .n (zKN (l.getD j default) ((zCd (l.take j)).2) _ (zHp hl (by omega)) (by omega)) rfl ?_; clear hs w a; rintro _ _ a w ⟨v20, rfl, rfl⟩ hs
   have hk21 := zEH (l.getD j default) ((zCd (l.take j)).2)
   revert a w hs
   refine goL 7 [] [92, 9, 8, 1, 4, 7] .n ?_
   refine ifG rfl (fun c_22 => ?_) (fun c_22 => ?_)
   ·
    refine go 3 [] [3, 2] .n ?_
    have hbe : zAV t tm b l = zBG (l.getD j default) ((zCd (l.take j)).2) := by first | exact zAD (by omega) | exact (zAD (by rw [(show zCk t tm b l.length = _ by first | exact zBR (by omega) | exact zAs (by omega) (by omega) | exact zBT (by omega) (by omega) (by omega))]; decide)).trans (show zCk t tm b l.length = _ by first | exact zBR (by omega) | exact zAs (by omega) (by omega) | exact zBT (by omega) (by omega) (by omega)) | (rw [zAE (by omega)]; exact zBY (by omega) hI1_1 (by unfold zCc; omega)) | (rw [zAE (by omega)]; unfold zBg; rw [← show j = l.length by omega]; exact hI1_1)
    refine cl (·.drop (.c (.s (.s .z)) (.c (.s .z) (.c .z .n)))) ?_
    refine cl (·.addNil 5 1) ?_
    intro a w hs; replace hs := hs.rerow .z (m' := (zBv t tm b l).length) (xs' := zF (zBv t tm b l)) (by rw [zA2 (by omega)]; rfl) (by rw [zA2 (by omega)]; rfl)
    exact zCF hs rfl rfl rfl ⟨_, congrArg (fun z : Nat => Value.tuple #[.slice none 0 0, zI (z : Int)]) hbe.symm, rfl⟩
   refine go 2 [] [95, 94, 1, 7] .n ?_
   intro a w hs; refine zAj (size := 1) (bytes := 1) hs rfl rfl (.s (.s .z)) (zM (hs.mem.del .z)) (zQ _) underlying32 (i := Tryz.t5) rfl rfl rfl rfl rfl (by decide) (by omega) (by simp only [maxLen]; omega) rfl ?_; intro v23
   refine goL 4 [0] [99, 98, 4, 1, 7] (.c (.s (.s .z)) .n) ⟨rfl, ?_⟩
   intro a w hs; refine zBj (j := j) hs rfl rfl (hs.rd0 hc) rfl (by omega) underlying59 sizeOf112 rfl ?_
   intro a w hs; refine zBn hs rfl (hs.rd0 hc) (by omega) underlying112 rfl sizeOf3 (by decide) (o := j * 9 + 1) rfl rfl ?_
   intro a w hs; refine zA7 (u := zI ((l.getD j default).id)) hs rfl (hs.rd0 hc) ((zAf zCX l j 1 (by omega) (by decide)).trans rfl) isAgg3 rfl ?_
   refine goL 4 [] [7, 6, 4, 1] .n ⟨(by omega), ?_⟩
   have he0 : zCc l j = 0 := by unfold zCc; omega
   intro a w hs; replace hs := hs.rerow (.s .z) (m' := (zAq t tm b l.length).length + (zCd (l.take (j + 1))).1.length) (xs' := zF (zAq t tm b l.length ++ (zCd (l.take (j + 1))).1)) (by rw [zB6 (by omega)]; simp only [List.length_append]; omega) (by rw [zB6 (by omega)]; simp [zF])
   replace hs := hs.reslot (d := 6) (v := zI ((l.getD j default).id)) (v' := zI ((zCd (l.take (j + 1))).2)) rfl (Option.some.inj (by rw [zB6 (by omega)]))
   replace hs := hs.drop (.c (.s (.s .z)) .n)
   refine ⟨_, ?_, j + 1, v23, rfl, hs.sub (.c rfl (.c rfl (.c rfl (.c rfl .n)))), by omega, zIO hI1_1 he0⟩
   omega
  refine go 3 [] [3, 2] .n ?_
  have hbe : zAV t tm b l = 0 := by first | exact zAD (by omega) | exact (zAD (by rw [(show zCk t tm b l.length = _ by first | exact zBR (by omega) | exact zAs (by omega) (by omega) | exact zBT (by omega) (by omega) (by omega))]; decide)).trans (show zCk t tm b l.length = _ by first | exact zBR (by omega) | exact zAs (by omega) (by omega) | exact zBT (by omega) (by omega) (by omega)) | (rw [zAE (by omega)]; exact zBY (by omega) hI1_1 (by unfold zCc; omega)) | (rw [zAE (by omega)]; unfold zBg; rw [← show j = l.length by omega]; exact hI1_1)
  refine cl (·.drop (.c .z .n)) ?_
  have hta : l.take j = l := List.take_of_length_le (by omega)
  intro a w hs; replace hs := hs.rerow .z (m' := (zBv t tm b l).length) (xs' := zF (zBv t tm b l)) (by rw [zFG hbe, hta]; simp only [List.length_append]) (by rw [zFG hbe, hta])
  exact zCF hs rfl rfl rfl ⟨_, congrArg (fun z : Nat => Value.tuple #[p, zI (z : Int)]) hbe.symm, rfl⟩
 refine go 2 [] [64, 63, 1] .n ?_
 intro a w hs; refine zO hs (.c rfl .n) call109 .n (zEN (0#64) _) rfl ?_; clear hs w a; rintro v24 _ a w rfl hs
 refine zAj (size := 1) (bytes := 1) hs rfl rfl (.s (.s .z)) (zM (hs.mem.del .z)) (zQ _) underlying32 (i := Tryz.t5) rfl rfl rfl rfl rfl (by decide) (by omega) (by simp only [maxLen]; omega) rfl ?_; intro v25
 refine goL 4 [0] [69, 67, 1] (.c (.s (.s .z)) .n) ⟨rfl, ?_⟩
 intro a w hs; refine zAG hs rfl (hs.rd0 hc).isSl underlying59 rfl ?_
 intro a w hs; refine zA0 hs rfl underlying3 underlying130 rfl ?_
 intro a w hs; refine zO hs (.c rfl .n) call109 .n (zEN (BitVec.ofInt 64 ((l.length : Nat) : Int)) _) rfl ?_; clear hs w a; rintro v26 _ a w rfl hs
 refine zAj (size := 1) (bytes := 1) hs rfl rfl (.s (.s .z)) (zM (hs.mem.del .z)) (zQ _) underlying32 (i := Tryz.t5) rfl rfl rfl rfl rfl (by decide) (by omega) (by simp only [maxLen]; omega) rfl ?_; intro v27
 refine cl (·.drop (.c (.s (.s (.s (.s (.s .z))))) (.c (.s (.s (.s (.s .z)))) (.c (.s (.s (.s .z))) (.c (.s .z) .n))))) ?_
 intro a w hs; replace hs := hs.rerow .z (m' := (zAq t tm b l.length).length) (xs' := zF (zAq t tm b l.length)) (by rw [zAq, zIU]; (first | rw [if_pos (by omega)] | rw [if_neg (by omega)]); simp only [List.length_append, List.length_cons, List.length_nil, zCe]) (by rw [zAq, zIU]; (first | rw [if_pos (by omega)] | rw [if_neg (by omega)]); simp [zF, zIc])
 have hge : zCk t tm b l.length = 0 := zFV (by omega) (by omega) (by omega)
 revert a w hs
 refine goL 3 [] [7, 6, 4, 1] .n ?_
 intro a w hs; replace hs := hs.rerow .z (m' := (zAq t tm b l.length).length + (zCd (l.take 0)).1.length) (xs' := zF (zAq t tm b l.length ++ (zCd (l.take 0)).1)) (by show _ = _ + 0; first | rfl | (simp only [zCe, zAq, List.length_append, List.length_cons, List.length_nil]; omega)) (by show _ = zF (_ ++ []); rw [List.append_nil])
 refine zCA (fun mm_ a w => ∃ j : Nat, ∃ p : Value, mm_ = l.length - j ∧ St 104 [(1, pt g1 0), (4, p), (6, zI ((zCd (l.take j)).2)), (7, zI (j : Int))] w0 [] [row p 5 1 ((zAq t tm b l.length).length + (zCd (l.take j)).1.length) (zF (zAq t tm b l.length ++ (zCd (l.take j)).1)), blk g1 [zI t, zI tm, zI b, u] 61] a w ∧ j ≤ l.length ∧ zCM l j = 0) ⟨0, v27, rfl, hs.sub (.c rfl (.c rfl (.c rfl (.c rfl .n)))), by omega, rfl⟩ ?_
 clear hs w a; rintro mm_ a w ⟨j, p, rfl, hs, hI1_0, hI1_1⟩
 have hll := zFr hI1_0 hI1_1
 have hrl := zHK (l.take j)
 have htl : (l.take j).length ≤ j := by rw [List.length_take]; omega
 revert a w hs
 refine go 3 [0] [76, 74, 1, 4, 6, 7] (.c (.s .z) .n) ⟨rfl, ?_⟩
 intro a w hs; refine zAG hs rfl (hs.rd0 hc).isSl underlying59 rfl ?_
 refine goL 1 [] [78, 1, 4, 6, 7] .n ?_
 refine ifG rfl (fun c_28 => ?_) (fun c_28 => ?_)
 ·
  refine go 3 [0] [84, 83, 1, 4, 6, 7] (.c .z .n) ⟨rfl, ?_⟩
  intro a w hs; refine zBj (j := j) hs rfl rfl (hs.rd0 hc) rfl (by omega) underlying59 sizeOf112 rfl ?_
  intro a w hs; refine zCm (cs := zDG (l.getD j default)) hs rfl (hs.rd0 hc) (zBe zCX l j (by omega)) (by rw [zBH zCX]; omega) (by omega) isAgg112 sizeOf112 rfl ?_
  refine goL 1 [] [87, 86, 1, 4, 7] .n ?_
  intro a w hs; refine zO hs (.c rfl (.c rfl .n)) call111 .n (zKN (l.getD j default) ((zCd (l.take j)).2) _ (zHp hl (by omega)) (by omega)) rfl ?_; clear hs w a; rintro _ _ a w ⟨v29, rfl, rfl⟩ hs
  have hk30 := zEH (l.getD j default) ((zCd (l.take j)).2)
  revert a w hs
  refine goL 7 [] [92, 9, 8, 1, 4, 7] .n ?_
  refine ifG rfl (fun c_31 => ?_) (fun c_31 => ?_)
  ·
   refine go 3 [] [3, 2] .n ?_
   have hbe : zAV t tm b l = zBG (l.getD j default) ((zCd (l.take j)).2) := by first | exact zAD (by omega) | exact (zAD (by rw [(show zCk t tm b l.length = _ by first | exact zBR (by omega) | exact zAs (by omega) (by omega) | exact zBT (by omega) (by omega) (by omega))]; decide)).trans (show zCk t tm b l.length = _ by first | exact zBR (by omega) | exact zAs (by omega) (by omega) | exact zBT (by omega) (by omega) (by omega)) | (rw [zAE (by omega)]; exact zBY (by omega) hI1_1 (by unfold zCc; omega)) | (rw [zAE (by omega)]; unfold zBg; rw [← show j = l.length by omega]; exact hI1_1)
   refine cl (·.drop (.c (.s (.s .z)) (.c (.s .z) (.c .z .n)))) ?_
   refine cl (·.addNil 5 1) ?_
   intro a w hs; replace hs := hs.rerow .z (m' := (zBv t tm b l).length) (xs' := zF (zBv t tm b l)) (by rw [zA2 (by omega)]; rfl) (by rw [zA2 (by omega)]; rfl)
   exact zCF hs rfl rfl rfl ⟨_, congrArg (fun z : Nat => Value.tuple #[.slice none 0 0, zI (z : Int)]) hbe.symm, rfl⟩
  refine go 2 [] [95, 94, 1, 7] .n ?_
  intro a w hs; refine zAj (size := 1) (bytes := 1) hs rfl rfl (.s (.s .z)) (zM (hs.mem.del .z)) (zQ _) underlying32 (i := Tryz.t5) rfl rfl rfl rfl rfl (by decide) (by omega) (by simp only [maxLen]; omega) rfl ?_; intro v32
  refine goL 4 [0] [99, 98, 4, 1, 7] (.c (.s (.s .z)) .n) ⟨rfl, ?_⟩
  intro a w hs; refine zBj (j := j) hs rfl rfl (hs.rd0 hc) rfl (by omega) underlying59 sizeOf112 rfl ?_
  intro a w hs; refine zBn hs rfl (hs.rd0 hc) (by omega) underlying112 rfl sizeOf3 (by decide) (o := j * 9 + 1) rfl rfl ?_
  intro a w hs; refine zA7 (u := zI ((l.getD j default).id)) hs rfl (hs.rd0 hc) ((zAf zCX l j 1 (by omega) (by decide)).trans rfl) isAgg3 rfl ?_
  refine goL 4 [] [7, 6, 4, 1] .n ⟨(by omega), ?_⟩
  have he0 : zCc l j = 0 := by unfold zCc; omega
  intro a w hs; replace hs := hs.rerow (.s .z) (m' := (zAq t tm b l.length).length + (zCd (l.take (j + 1))).1.length) (xs' := zF (zAq t tm b l.length ++ (zCd (l.take (j + 1))).1)) (by rw [zB6 (by omega)]; simp only [List.length_append]; omega) (by rw [zB6 (by omega)]; simp [zF])
  replace hs := hs.reslot (d := 6) (v := zI ((l.getD j default).id)) (v' := zI ((zCd (l.take (j + 1))).2)) rfl (Option.some.inj (by rw [zB6 (by omega)]))
  replace hs := hs.drop (.c (.s (.s .z)) .n)
  refine ⟨_, ?_, j + 1, v32, rfl, hs.sub (.c rfl (.c rfl (.c rfl (.c rfl .n)))), by omega, zIO hI1_1 he0⟩
  omega
 refine go 3 [] [3, 2] .n ?_
 have hbe : zAV t tm b l = 0 := by first | exact zAD (by omega) | exact (zAD (by rw [(show zCk t tm b l.length = _ by first | exact zBR (by omega) | exact zAs (by omega) (by omega) | exact zBT (by omega) (by omega) (by omega))]; decide)).trans (show zCk t tm b l.length = _ by first | exact zBR (by omega) | exact zAs (by omega) (by omega) | exact zBT (by omega) (by omega) (by omega)) | (rw [zAE (by omega)]; exact zBY (by omega) hI1_1 (by unfold zCc; omega)) | (rw [zAE (by omega)]; unfold zBg; rw [← show j = l.length by omega]; exact hI1_1)
 refine cl (·.drop (.c .z .n)) ?_
 have hta : l.take j = l := List.take_of_length_le (by omega)
 intro a w hs; replace hs := hs.rerow .z (m' := (zBv t tm b l).length) (xs' := zF (zBv t tm b l)) (by rw [zFG hbe, hta]; simp only [List.length_append]) (by rw [zFG hbe, hta])
 exact zCF hs rfl rfl rfl ⟨_, congrArg (fun z : Nat => Value.tuple #[p, zI (z : Int)]) hbe.symm, rfl⟩
theorem zOX (t tm b : Int) (u : Value) (l : List zAd) (w0 : World) (ht_ : -9223372036854775808 ≤ t ∧ t ≤ 9223372036854775807) (htm_ : -9223372036854775808 ≤ tm ∧ tm ≤ 9223372036854775807) (hb_ : -9223372036854775808 ≤ b ∧ b ≤ 9223372036854775807) (hc : Rd w0 [] u 9 l.length (l.flatMap zDG)) (hl : ∀ x ∈ l, x.wf) : Calls Tryz.prog 67 #[.agg #[.int .i64 t, .int .i64 tm, .int .i64 b, u]] w0 (zCn w0 (nI (zAV t tm b l))) := by
 have hce := hc.le
 simp only [maxLen] at hce
 refine zT (F0 := [(0, .agg #[zI t, zI tm, zI b, u])]) func67 rfl rfl rfl (.c .n) (Mem.nil _) ?_
 refine go 3 [0, 0] [6] .n (fun g1 => ⟨rfl, ?_⟩)
 intro a w hs; refine zO hs (.c rfl .n) call93 .n (zRp t tm b _ l _ (by omega) (by omega) (by omega) (hs.rd0 hc) hl) rfl ?_; clear hs w a; rintro _ _ a w ⟨v2, rfl, rfl⟩ hs
 have hk3 := zEm t tm b l
 revert a w hs
 refine goL 7 [] [2] .n ?_
 refine cl (·.drop (.c (.s .z) (.c .z .n))) ?_
 intro a w hs; exact fin hs rfl rfl ⟨rfl, rfl⟩
end Go.Proofs.YtbacobmcfelmkaaGreat
