import Derived.Test.YtemnjodhidlfpaaGreatQG8
import Derived.Test.YtemnjodhidlfpaaGreatQG23
import Derived.Test.YtemnjodhidlfpaaGreatQSxBasB
/- Walks of ClientFrames: what each function does, over the program of this seat. Printed by a program of this session. -/
namespace Go.Proofs.YtemnjodhidlfpaaGreat
open Tryz
open Go Go.Sx Go.RowKit
set_option linter.unusedVariables false
set_option linter.unusedSimpArgs false
set_option maxRecDepth 4000
set_option maxHeartbeats 1000000

theorem zGx (c : zAJ) (u : Value) (L : List EvR) (w0 : World) (hu : Rd w0 [] u 3 L.length (L.flatMap evV)) (hL : ∀ x ∈ L, x.ok w0) (hk : zCZ c ≠ 0) : Calls Tryz.prog 6 #[.agg #[zI c.ring, zI c.window, zI c.base, zI c.gain, zI c.least, zI c.most, zI c.slack, zI c.num, zI c.den, zI c.extra, .bool (c.curve)], u] w0 (zAa w0 (.bool true)) := by
 have hue := hu.le
 simp only [maxLen] at hue
 refine zD (F0 := [(0, .agg #[zI c.ring, zI c.window, zI c.base, zI c.gain, zI c.least, zI c.most, zI c.slack, zI c.num, zI c.den, zI c.extra, .bool (c.curve)]), (1, u)]) func6 rfl rfl rfl (.c (.c .n)) (Mem.nil _) ?_
 refine go 3 [0, 0] [26, 2, 1] .n (fun g1 => ⟨rfl, ?_⟩)
 intro a w hs; refine zB (v := .tuple #[.pointer (none), nI (zCZ c)]) hs (.c rfl .n) call8 (zMz c hk _) rfl ?_
 refine goL 6 [0] [31, 6, 5, 1] (.c .z .n) ⟨rfl, ?_⟩
 intro a w hs; refine zB (v := .tuple #[.pointer (none), nI (zCZ c)]) hs (.c rfl .n) call8 (zMz c hk _) rfl ?_
 refine goL 7 [] [36, 8, 7, 5, 1] .n ?_
 have hb_ : (!((((zCZ c : Nat) : Int) : Int) == 0)) = true := by simpa using hk
 intro a w hs; rw [hb_] at hs; clear hb_
 revert a w hs
 refine go 4 [] [40, 7, 5, 1] .n ?_
 refine go 4 [] [44, 7, 5, 1] .n ?_
 refine go 4 [] [48, 7, 5, 1] .n ?_
 refine goF 5 5 [] [53, 7, 5, 1] .n ?_
 refine go 1 [] [] .n ?_
 intro a w hs; refine zB (v := .bool (true)) hs .n call10 (zGQ _) rfl ?_
 refine goL 1 [] [4] .n ?_
 refine cl (·.drop (.c .z .n)) ?_
 intro a w hs; exact fin hs rfl rfl ⟨rfl, rfl⟩
theorem zGS (c : zAJ) (u : Value) (L : List EvR) (w0 : World) (hu : Rd w0 [] u 3 L.length (L.flatMap evV)) (hL : ∀ x ∈ L, x.ok w0) (hk : zCZ c = 0) : Calls Tryz.prog 6 #[.agg #[zI c.ring, zI c.window, zI c.base, zI c.gain, zI c.least, zI c.most, zI c.slack, zI c.num, zI c.den, zI c.extra, .bool (c.curve)], u] w0 (zAa w0 (.bool true)) := by
 have hue := hu.le
 simp only [maxLen] at hue
 have hkr := zK8 hk
 refine zD (F0 := [(0, .agg #[zI c.ring, zI c.window, zI c.base, zI c.gain, zI c.least, zI c.most, zI c.slack, zI c.num, zI c.den, zI c.extra, .bool (c.curve)]), (1, u)]) func6 rfl rfl rfl (.c (.c .n)) (Mem.nil _) ?_
 refine go 3 [0, 0] [26, 2, 1] .n (fun g1 => ⟨rfl, ?_⟩)
 intro a w hs; refine zK hs (.c rfl .n) call8 .n (zMQ c hk _) rfl ?_; clear hs w a; rintro _ _ a w ⟨g2, Y3, rfl, rfl, hY4⟩ hs
 revert a w hs
 refine goL 6 [0] [31, 6, 5, 1] (.c (.s .z) .n) ⟨rfl, ?_⟩
 intro a w hs; refine zK hs (.c rfl .n) call8 .n (zMQ c hk _) rfl ?_; clear hs w a; rintro _ _ a w ⟨g5, Y6, rfl, rfl, hY7⟩ hs
 revert a w hs
 refine goL 21 [] [50, 49, 7, 5, 1] .n ?_
 intro a w hs; refine zF hs rfl rfl rfl ?_
 refine zK hs (.c rfl .n) call9 .n (zN4 _ L _ (hs.rd0 hu) (fun x hx => ⟨(hL x hx).k, (hL x hx).at_, hs.rd0 (hL x hx).rd⟩)) rfl ?_; clear hs w a; rintro _ _ a w ⟨gz8, rfl, hg9, rfl⟩ hs
 revert a w hs
 refine goL 2 [] [53, 7, 5, 1] .n ?_
 refine ifG rfl (fun c_10 => ?_) (fun c_10 => ?_)
 ·
  refine go 0 [] [] .n ?_
  intro a w hs; refine zB (v := .bool (true)) hs .n call10 (zGQ _) rfl ?_
  refine goL 1 [] [4] .n ?_
  refine cl (·.drop (.c (.s (.s .z)) (.c (.s .z) (.c .z .n)))) ?_
  intro a w hs; exact fin hs rfl rfl ⟨rfl, rfl⟩
 have hL60 := hg9 (by assumption)
 refine go 2 [] [55, 9, 7, 5] .n ?_
 intro a w hs; refine zAE hs rfl (hs.rd0 hu).isSl underlying24 rfl ?_
 refine goL 1 [] [57, 56, 55, 9, 7, 5] .n ?_
 refine cl (·.drop (.c (.s .z) .n)) ?_
 refine cl (·.reorder (.c (.s .z) (.c .z .n))) ?_
 intro a w hs; refine zCh (fun mm_ a w => ∃ j : Nat, ∃ Y : HA, ∃ C : CS, ∃ Y2 : HA, ∃ D : CS, mm_ = L.length - j ∧ St 150 [(5, pt g2 0), (7, pt g5 0), (9, nI C.fr), (55, u), (56, nI L.length), (57, nI j)] w0 [] [Y, Y2] a w ∧ j ≤ L.length ∧ Cli g2 c C Y ∧ Cli g5 c D Y2 ∧ C.ok c ∧ D.ok c ∧ (∀ i, C.σ.n i ≤ j) ∧ C.fr ≤ j ∧ D.fr = 0 ∧ zIM C D) ⟨0, Y3, (C0 c), Y6, (C0 c), rfl, hs.sub (.c rfl (.c rfl (.c rfl (.c rfl (.c rfl (.c rfl .n)))))), by omega, hY4, hY7, (zYQ hk), (zYQ hk), (fun i => Nat.le_refl 0), (Nat.le_refl 0), rfl, (zIM.refl _)⟩ ?_
 clear hs w a; rintro mm_ a w ⟨j, Y, C, Y2, D, rfl, hs, hI1_0, hI1_1, hI1_2, hI1_3, hI1_4, hI1_5, hI1_6, hI1_7, hI1_8⟩
 revert a w hs
 refine go 1 [] [58, 5, 7, 9, 55, 56, 57] .n ?_
 refine ifG rfl (fun c_11 => ?_) (fun c_11 => ?_)
 ·
  refine go 0 [] [5, 7, 9, 55, 56, 57] .n ?_
  intro a w hs; refine zBq (j := j) hs rfl rfl (hs.rd0 hu) rfl (by omega) underlying24 sizeOf33 rfl ?_
  intro a w hs; refine zBa (cs := evV (L.getD j default)) hs rfl (hs.rd0 hu) (zAi zJY L j (by omega)) (by rw [zAb zJY]; omega) (by omega) isAgg33 sizeOf33 rfl ?_
  have hxo := hL _ (zOu (l := L) (i := j) (by omega)); have hxk := hxo.k; have hxa := hxo.at_
  refine goL 4 [50, 0] [63, 62, 11, 5, 7, 9, 55, 56, 57] .n (fun g12 => ⟨rfl, (zJ rfl (zJ rfl (zJ (hL _ (zOu (by omega))).rd.isSl.one zAf))), rfl, ?_⟩)
  intro a w hs; refine zK hs (.c rfl (.c rfl .n)) call11 (.c (.s .z) .n) (zUv hI1_1 hk hI1_3 (fun i => Nat.le_trans (hI1_5 i) (by omega)) (by omega) (L.getD j default) ⟨by omega, by omega⟩ _ (hs.mem.del (.s .z)) (hs.mem.rd1 (hL _ (zOu (by omega))).rd (.c (.s .z) .n)) ⟨by omega, by omega⟩) rfl ?_; clear hs w a; rintro _ _ a w ⟨v15, rfl, Y13, rfl, hY14⟩ hs
  revert a w hs
  refine goL 4 [] [12, 66, 65, 11, 5, 7, 9, 55, 56, 57] .n (fun g16 => ?_)
  intro a w hs; refine zAe hs rfl rfl .z (.z (.c (.c (.c .n)))) (zJ rfl (zJ rfl (zJ (zO (hs.mem.del (.s .z))).isSl.one zAf))) sizeOf36 rfl ?_
  refine goL 4 [0] [69, 13, 11, 5, 7, 9, 55, 56, 57] (.c (.s (.s (.s .z))) .n) ⟨rfl, ?_⟩
  refine ifG rfl (fun c_17 => ?_) (fun c_17 => ?_)
  ·
   refine go 4 [] [82, 9, 5, 7, 55, 56, 57] .n ⟨(by omega), ?_⟩
   intro a w hs; refine zB (v := .tuple #[zI ((cDo c C (L.getD j default)).K.off), zI ((cDo c C (L.getD j default)).K.j), zI ((cDo c C (L.getD j default)).K.now)]) hs (.c rfl .n) call19 (zGB hY14  _ (hs.mem.del (.s (.s (.s .z))))) rfl ?_
   refine goL 8 [] [88, 18, 17, 16, 9, 5, 7, 55, 56, 57] .n ?_
   intro a w hs; refine zB (v := .tuple #[zI D.K.off, zI D.K.j, zI D.K.now]) hs (.c rfl .n) call19 (zGB hI1_2  _ (hs.mem.del (.s (.s (.s (.s .z)))))) rfl ?_
   refine goL 10 [] [95, 21, 20, 18, 17, 9, 5, 7, 55, 56, 57] .n ?_
   have hb_ : (!(((cDo c C (L.getD j default)).K.off : Int) == D.K.off)) = false := zXs (hI1_8.doF c (by assumption)).off
   intro a w hs; rw [hb_] at hs; clear hb_
   revert a w hs
   refine go 4 [] [99, 96, 21, 18, 9, 5, 7, 55, 56, 57] .n ?_
   have hb_ : (!(((cDo c C (L.getD j default)).K.j : Int) == D.K.j)) = false := zXs (hI1_8.doF c (by assumption)).j
   intro a w hs; rw [hb_] at hs; clear hb_
   revert a w hs
   refine go 5 [] [104, 101, 9, 5, 7, 55, 56, 57] .n ?_
   have hb_ : (!(((cDo c C (L.getD j default)).K.now : Int) == D.K.now)) = false := zXs (hI1_8.doF c (by assumption)).now
   intro a w hs; rw [hb_] at hs; clear hb_
   revert a w hs
   refine go 3 [] [107, 106, 9, 5, 7, 55, 56, 57] .n ?_
   intro a w hs; refine zF hs rfl rfl rfl ?_
   refine zB (v := nI ((cDo c C (L.getD j default)).σ.n 0)) hs (.c rfl .n) call17 (zF6 hY14  _ (hs.mem.del (.s (.s (.s .z))))) rfl ?_
   refine goL 1 [] [109, 108, 106, 9, 5, 7, 55, 56, 57] .n ?_
   intro a w hs; refine zF hs rfl rfl rfl ?_
   refine zB (v := nI (D.σ.n 0)) hs (.c rfl .n) call17 (zF6 hI1_2  _ (hs.mem.del (.s (.s (.s (.s .z)))))) rfl ?_
   refine goL 1 [] [111, 106, 9, 5, 7, 55, 56, 57] .n ?_
   have hb_ : (!(((((cDo c C (L.getD j default)).σ.n 0 : Nat) : Int) : Int) == ((D.σ.n 0 : Nat) : Int))) = false := zVN (congrArg (fun σ : Stt => σ.n 0) (hI1_8.doF c (by assumption)).σ)
   intro a w hs; rw [hb_] at hs; clear hb_
   revert a w hs
   refine go 3 [] [114, 113, 9, 5, 7, 55, 56, 57] .n ?_
   intro a w hs; refine zF hs rfl rfl rfl ?_
   refine zB (v := nI ((cDo c C (L.getD j default)).fr)) hs (.c rfl .n) call21 (zEp hY14  _ (hs.mem.del (.s (.s (.s .z))))) rfl ?_
   refine goL 2 [] [117, 113, 9, 5, 7, 55, 56, 57] .n ?_
   have hb_ : (!(((((cDo c C (L.getD j default)).fr : Nat) : Int) : Int) == (((C.fr : Nat) : Int) + 1))) = false := zVN (by first | exact zLv c C (by assumption) | exact zH7 c C (by assumption))
   intro a w hs; rw [hb_] at hs; clear hb_
   revert a w hs
   refine go 3 [] [120, 119, 9, 5, 7, 55, 56, 57] .n ?_
   intro a w hs; refine zF hs rfl rfl rfl ?_
   refine zB (v := nI D.fr) hs (.c rfl .n) call21 (zEp hI1_2  _ (hs.mem.del (.s (.s (.s (.s .z)))))) rfl ?_
   refine goL 1 [] [122, 119, 9, 5, 7, 55, 56, 57] .n ?_
   have hb_ : (!((((D.fr : Nat) : Int) : Int) == 0)) = false := zVN (a := D.fr) (b := 0) (hI1_7)
   intro a w hs; rw [hb_] at hs; clear hb_
   revert a w hs
   refine go 4 [] [57, 9, 5, 7, 55, 56] .n ⟨(by omega), ?_⟩
   intro a w hs; rw [show ((C.fr : Nat) : Int) + 1 = (((cDo c C (L.getD j default)).fr : Nat) : Int) from by have := zLv c C (by assumption : (L.getD j default).k = 1); omega] at hs
   replace hs := hs.drop (.c (.s (.s .z)) (.c (.s .z) (.c .z .n)))
   refine ⟨_, ?_, (j + 1), Y13, (cDo c C (L.getD j default)), Y2, D, rfl, hs.sub (.c rfl (.c rfl (.c rfl (.c rfl (.c rfl (.c rfl .n)))))), by omega, hY14, hI1_2, (zQn hk ⟨by omega, by omega⟩ hI1_3), hI1_4, (fun i => Nat.le_trans (zZN _ _ _ i) (Nat.succ_le_succ (hI1_5 i))), (Nat.le_trans (zNb _ _ _) (Nat.succ_le_succ hI1_6)), hI1_7, (hI1_8.doF c (by assumption))⟩
   omega
  refine go 2 [0] [74, 73, 13, 5, 7, 9, 55, 56, 57] (.c .z .n) ⟨rfl, ?_⟩
  intro a w hs; refine zK hs (.c rfl (.c rfl .n)) call11 (.c (.s (.s (.s (.s .z)))) .n) (zUv hI1_2 hk hI1_4 (fun i => Nat.le_trans (hI1_8.σ ▸ hI1_5 i) (by omega)) (by omega) (L.getD j default) ⟨by omega, by omega⟩ _ (hs.mem.del (.s (.s (.s (.s .z))))) (hs.mem.rd1 (hL _ (zOu (by omega))).rd (.c (.s (.s (.s (.s .z)))) .n)) ⟨by omega, by omega⟩) rfl ?_; clear hs w a; rintro _ _ a w ⟨v20, rfl, Y18, rfl, hY19⟩ hs
  revert a w hs
  refine goL 4 [] [14, 77, 76, 13, 5, 7, 9, 55, 56, 57] .n (fun g21 => ?_)
  intro a w hs; refine zAe hs rfl rfl .z (.z (.c (.c (.c .n)))) (zJ rfl (zJ rfl (zJ (zO (hs.mem.del (.s .z))).isSl.one zAf))) sizeOf36 rfl ?_
  refine zOZ 8 4 [] [80, 5, 7, 9, 55, 56, 57] .n ?_
  have hb_ : (!((((zUd c C (L.getD j default) : Nat) : Int) : Int) == ((zUd c D (L.getD j default) : Nat) : Int))) = false := zVN (hI1_8.doE c _)
  intro a w hs; rw [hb_] at hs; clear hb_
  revert a w hs
  refine go 2 [] [82, 5, 7, 9, 55, 56, 57] .n ?_
  intro a w hs; refine zB (v := .tuple #[zI ((cDo c C (L.getD j default)).K.off), zI ((cDo c C (L.getD j default)).K.j), zI ((cDo c C (L.getD j default)).K.now)]) hs (.c rfl .n) call19 (zGB hY14  _ (hs.mem.del (.s (.s (.s (.s (.s (.s .z)))))))) rfl ?_
  refine goL 8 [] [88, 18, 17, 16, 5, 7, 9, 55, 56, 57] .n ?_
  intro a w hs; refine zB (v := .tuple #[zI ((cDo c D (L.getD j default)).K.off), zI ((cDo c D (L.getD j default)).K.j), zI ((cDo c D (L.getD j default)).K.now)]) hs (.c rfl .n) call19 (zGB hY19  _ (hs.mem.del (.s (.s .z)))) rfl ?_
  refine goL 10 [] [95, 21, 20, 18, 17, 5, 7, 9, 55, 56, 57] .n ?_
  have hb_ : (!(((cDo c C (L.getD j default)).K.off : Int) == ((cDo c D (L.getD j default)).K.off))) = false := zXs (hI1_8.do_ c (by assumption)).off
  intro a w hs; rw [hb_] at hs; clear hb_
  revert a w hs
  refine go 4 [] [99, 96, 21, 18, 5, 7, 9, 55, 56, 57] .n ?_
  have hb_ : (!(((cDo c C (L.getD j default)).K.j : Int) == ((cDo c D (L.getD j default)).K.j))) = false := zXs (hI1_8.do_ c (by assumption)).j
  intro a w hs; rw [hb_] at hs; clear hb_
  revert a w hs
  refine go 5 [] [104, 101, 5, 7, 9, 55, 56, 57] .n ?_
  have hb_ : (!(((cDo c C (L.getD j default)).K.now : Int) == ((cDo c D (L.getD j default)).K.now))) = false := zXs (hI1_8.do_ c (by assumption)).now
  intro a w hs; rw [hb_] at hs; clear hb_
  revert a w hs
  refine go 3 [] [107, 106, 5, 7, 9, 55, 56, 57] .n ?_
  intro a w hs; refine zF hs rfl rfl rfl ?_
  refine zB (v := nI ((cDo c C (L.getD j default)).σ.n 0)) hs (.c rfl .n) call17 (zF6 hY14  _ (hs.mem.del (.s (.s (.s (.s (.s (.s .z)))))))) rfl ?_
  refine goL 1 [] [109, 108, 106, 5, 7, 9, 55, 56, 57] .n ?_
  intro a w hs; refine zF hs rfl rfl rfl ?_
  refine zB (v := nI ((cDo c D (L.getD j default)).σ.n 0)) hs (.c rfl .n) call17 (zF6 hY19  _ (hs.mem.del (.s (.s .z)))) rfl ?_
  refine goL 1 [] [111, 106, 5, 7, 9, 55, 56, 57] .n ?_
  have hb_ : (!(((((cDo c C (L.getD j default)).σ.n 0 : Nat) : Int) : Int) == (((cDo c D (L.getD j default)).σ.n 0 : Nat) : Int))) = false := zVN (congrArg (fun σ : Stt => σ.n 0) (hI1_8.do_ c (by assumption)).σ)
  intro a w hs; rw [hb_] at hs; clear hb_
  revert a w hs
  refine go 3 [] [114, 113, 5, 7, 9, 55, 56, 57] .n ?_
  intro a w hs; refine zF hs rfl rfl rfl ?_
  refine zB (v := nI ((cDo c C (L.getD j default)).fr)) hs (.c rfl .n) call21 (zEp hY14  _ (hs.mem.del (.s (.s (.s (.s (.s (.s .z)))))))) rfl ?_
  refine goL 2 [] [117, 113, 5, 7, 9, 55, 56, 57] .n ?_
  have hb_ : (!(((((cDo c C (L.getD j default)).fr : Nat) : Int) : Int) == ((C.fr : Nat) : Int))) = false := zVN (by first | exact zLv c C (by assumption) | exact zH7 c C (by assumption))
  intro a w hs; rw [hb_] at hs; clear hb_
  revert a w hs
  refine go 3 [] [120, 119, 5, 7, 9, 55, 56, 57] .n ?_
  intro a w hs; refine zF hs rfl rfl rfl ?_
  refine zB (v := nI ((cDo c D (L.getD j default)).fr)) hs (.c rfl .n) call21 (zEp hY19  _ (hs.mem.del (.s (.s .z)))) rfl ?_
  refine goL 1 [] [122, 119, 5, 7, 9, 55, 56, 57] .n ?_
  have hb_ : (!(((((cDo c D (L.getD j default)).fr : Nat) : Int) : Int) == 0)) = false := zVN (a := (cDo c D (L.getD j default)).fr) (b := 0) ((zH7 _ _ (by assumption)).trans hI1_7)
  intro a w hs; rw [hb_] at hs; clear hb_
  revert a w hs
  refine go 4 [] [57, 5, 7, 9, 55, 56] .n ⟨(by omega), ?_⟩
  intro a w hs; rw [show C.fr = (cDo c C (L.getD j default)).fr from (zH7 c C (by assumption)).symm] at hs
  replace hs := hs.drop (.c (.s (.s (.s (.s (.s .z))))) (.c (.s (.s (.s (.s .z)))) (.c (.s (.s (.s .z))) (.c (.s .z) (.c .z .n)))))
  replace hs := hs.reorder (.c (.s .z) (.c .z .n))
  refine ⟨_, ?_, (j + 1), Y13, (cDo c C (L.getD j default)), Y18, (cDo c D (L.getD j default)), rfl, hs.sub (.c rfl (.c rfl (.c rfl (.c rfl (.c rfl (.c rfl .n)))))), by omega, hY14, hY19, (zQn hk ⟨by omega, by omega⟩ hI1_3), (zQn hk ⟨by omega, by omega⟩ hI1_4), (fun i => Nat.le_trans (zZN _ _ _ i) (Nat.succ_le_succ (hI1_5 i))), (Nat.le_trans (zNb _ _ _) (Nat.succ_le_succ hI1_6)), ((zH7 _ _ (by assumption)).trans hI1_7), (hI1_8.do_ c (by assumption))⟩
  omega
 refine go 1 [] [125, 7] .n ?_
 intro a w hs; refine zK hs (.c rfl .n) call12 .n (zNF hI1_1 _ (hs.mem.del .z)) rfl ?_; clear hs w a; rintro v22 _ a w rfl hs
 revert a w hs
 refine goL 1 [] [127, 126] .n ?_
 intro a w hs; refine zK hs (.c rfl .n) call12 .n (zNF hI1_2 _ (hs.mem.del (.s (.s .z)))) rfl ?_; clear hs w a; rintro v23 _ a w rfl hs
 have hol := hI1_1.oks.le; have hom := hkr.2.2
 rw [← hI1_8.σ] at hs
 revert a w hs
 refine goL 3 [] [129, 23, 22] .n ?_
 intro a w hs; refine zAE hs rfl (zO (hs.mem.del (.s .z))).isSl underlying40 rfl ?_
 refine goL 1 [] [131, 130, 23, 22] .n ?_
 intro a w hs; refine zAE hs rfl (zO (hs.mem.del .z)).isSl underlying40 rfl ?_
 refine zOZ 1 1 [] [133, 23, 22] .n ?_
 have hb_ : (!((((C.σ.l.length : Nat) : Int) : Int) == ((C.σ.l.length : Nat) : Int))) = false := zVN rfl
 intro a w hs; rw [hb_] at hs; clear hb_
 revert a w hs
 refine go 2 [] [134, 23, 22] .n ?_
 intro a w hs; refine zAE hs rfl (zO (hs.mem.del (.s .z))).isSl underlying40 rfl ?_
 refine goL 1 [] [136, 135, 23, 22] .n ?_
 intro a w hs; refine zCh (fun mm_ a w => ∃ i : Nat, mm_ = C.σ.l.length - i ∧ St 150 [(22, v22), (23, v23), (135, nI C.σ.l.length), (136, nI i)] w0 [] [row v23 2 1 C.σ.l.length (iV (C.σ.l.map zAC.t)), row v22 2 1 C.σ.l.length (iV (C.σ.l.map zAC.t)), Y, Y2] a w ∧ i ≤ C.σ.l.length) ⟨0, rfl, hs.sub (.c rfl (.c rfl (.c rfl (.c rfl .n)))), by omega⟩ ?_
 clear hs w a; rintro mm_ a w ⟨i, rfl, hs, hI2_0⟩
 revert a w hs
 refine go 1 [] [137, 22, 23, 135, 136] .n ?_
 refine ifG rfl (fun c_24 => ?_) (fun c_24 => ?_)
 ·
  refine go 2 [] [24, 22, 23, 135, 136] .n ?_
  intro a w hs
  refine zR [.p [] [], .p [] [], .v [1, 0] (.pointer (some (adr v22 i))), .v [2] (zI ((C.σ.l.map zAC.t).getD i 0)), .p [] [], .p [] [], .v [5, 4] (.pointer (some (adr v23 i))), .v [6] (zI ((C.σ.l.map zAC.t).getD i 0)), .v [7, 3] (.bool (false))] [8] hs .n .n (by kernel_rfl) ⟨fun _ _ _ _ hm hs K => zAw (j := i) hs rfl rfl (zO (hm.del (.s .z))) rfl (by omega) underlying40 sizeOf2 rfl (vk K), fun _ _ _ _ hm hs K => zBY (u := zI ((C.σ.l.map zAC.t).getD i 0)) hs rfl (zO (hm.del (.s .z))) (zHu (C.σ.l.map zAC.t) i (by rw [List.length_map]; omega)) isAgg2 rfl (vk K), fun _ _ _ _ hm hs K => zAw (j := i) hs rfl rfl (zO (hm.del .z)) rfl (by omega) underlying40 sizeOf2 rfl (vk K), fun _ _ _ _ hm hs K => zBY (u := zI ((C.σ.l.map zAC.t).getD i 0)) hs rfl (zO (hm.del .z)) (zHu (C.σ.l.map zAC.t) i (by rw [List.length_map]; omega)) isAgg2 rfl (vk K), fun _ _ _ _ hm hs K => zQc hs rfl rfl rfl (fun a w hs => wpList_nil (K _ _ (by rw [show (!(((C.σ.l.map zAC.t).getD i 0 : Int) == ((C.σ.l.map zAC.t).getD i 0))) = false from zXs rfl] at hs; exact hs))), ⟨rfl, by kernel_rfl, fun _ => rfl, rfl, rfl, trivial⟩, fun _ => rfl, ?_⟩
  refine goE 3 [] [136, 22, 23, 135] .n ⟨(by omega), ?_⟩
  intro a w hs; refine ⟨_, ?_, (i + 1), rfl, hs.sub (.c rfl (.c rfl (.c rfl (.c rfl .n)))), by omega⟩
  omega
 refine go 0 [] [] .n ?_
 intro a w hs; refine zB (v := .bool (true)) hs .n call10 (zGQ _) rfl ?_
 refine goL 1 [] [4] .n ?_
 refine cl (·.drop (.c (.s (.s (.s .z))) (.c (.s (.s .z)) (.c (.s .z) (.c .z .n))))) ?_
 intro a w hs; exact fin hs rfl rfl ⟨rfl, rfl⟩
theorem zHg (c : zAJ) (u : Value) (L : List EvR) (w0 : World) (hu : Rd w0 [] u 3 L.length (L.flatMap evV)) (hL : ∀ x ∈ L, x.ok w0) : Calls Tryz.prog 6 #[.agg #[zI c.ring, zI c.window, zI c.base, zI c.gain, zI c.least, zI c.most, zI c.slack, zI c.num, zI c.den, zI c.extra, .bool (c.curve)], u] w0 (zAa w0 (.bool true)) := by
 by_cases hk : zCZ c = 0
 · exact zGS c u L w0 hu hL hk
 · exact zGx c u L w0 hu hL hk
end Go.Proofs.YtemnjodhidlfpaaGreat
