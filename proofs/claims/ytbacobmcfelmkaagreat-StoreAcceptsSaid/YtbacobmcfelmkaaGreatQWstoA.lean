/- Walks of the example of stores: what each function does, over the program of this seat. Printed by a program of this session. -/
import Derived.Test.YtbacobmcfelmkaaGreatQWsto5
import Derived.Test.YtbacobmcfelmkaaGreatQWgramS
import Derived.Test.YtbacobmcfelmkaaGreatQSxPsto
import Derived.Test.YtbacobmcfelmkaaGreatQWgram
import Derived.Test.YtbacobmcfelmkaaGreatQSxBasB
namespace Go.Proofs.YtbacobmcfelmkaaGreat
open Tryz
open Go Go.Sx Go.RowKit
set_option linter.unusedVariables false
set_option linter.unusedSimpArgs false
set_option maxRecDepth 4000
set_option maxHeartbeats 1000000

theorem zHf (t tm b : Int) (u : Value) (l : List zAd) (w0 : World) (ht : R64 t) (hm : R64 tm) (hb : R64 b) (hc : Rd w0 [] u 9 l.length (l.flatMap zDG)) (hl : ∀ x ∈ l, x.wf) : Calls Tryz.prog 18 #[.agg #[zI t, zI tm, zI b, u]] w0 (Ret w0 [] fun v N => N = [row v 5 1 (gwB t tm b l).length (zF (gwB t tm b l))]) := by
 have hce := hc.le
 simp only [maxLen] at hce
 refine zT (F0 := [(0, .agg #[zI t, zI tm, zI b, u])]) func18 rfl rfl rfl (.c .n) (Mem.nil _) ?_
 refine go 3 [0, 0] [6] .n (fun g1 => ⟨rfl, ?_⟩)
 intro a w hs; refine zO hs (.c rfl .n) call26 .n (zQA t tm b _ l _ (by omega) (by omega) (by omega) (hs.rd0 hc) hl) rfl ?_; clear hs w a; rintro _ _ a w ⟨v2, rfl, rfl⟩ hs
 have hk3 := zNB t tm b l
 revert a w hs
 refine goL 7 [] [2] .n ?_
 refine cl (·.drop (.c (.s .z) .n)) ?_
 intro a w hs; exact fin hs rfl rfl rfl
theorem zIx (w0 : World) : Calls Tryz.prog 6 #[] w0 (zCn w0 (.bool true)) := by
 have a1 := zWB
 have a2 := zWC
 have a3 := zWE
 have a4 := zV6
 have a5 := zV7
 unfold zTN at a5
 unfold zTj at a4 a5
 unfold zOI at a3 a4 a5
 unfold zN5 at a2 a3 a4 a5
 refine zT (F0 := []) func6 rfl rfl rfl .n (Mem.nil _) ?_
 refine go 1 [] [] .n ?_
 intro a w hs; refine zO hs (.c rfl .n) call4 .n (zSp 4 _ ⟨by decide, by decide⟩) rfl ?_; clear hs w a; rintro _ _ a w ⟨g1, X2, rfl, rfl, hX3⟩ hs
 revert a w hs
 refine goL 13 [] [22, 1] .n ?_
 intro a w hs; refine zO hs (.c rfl .n) call18 .n (zHf 1 10 (-1) _ ([]) _ (by omega) (by omega) (by omega) (zIL _ [] 9) zJB) rfl ?_; clear hs w a; rintro v4 _ a w rfl hs
 revert a w hs
 refine goL 1 [] [24, 23, 1] .n ?_
 intro a w hs; refine zO hs (.c rfl .n) call18 .n (zHf 3 30 1 _ ([]) _ (by omega) (by omega) (by omega) (zIL _ [] 9) zJB) rfl ?_; clear hs w a; rintro v5 _ a w rfl hs
 revert a w hs
 refine goL 1 [] [26, 25, 23, 1] .n ?_
 intro a w hs; refine zO hs (.c rfl .n) call18 .n (zHf 2 20 1 _ ([]) _ (by omega) (by omega) (by omega) (zIL _ [] 9) zJB) rfl ?_; clear hs w a; rintro v6 _ a w rfl hs
 refine zFv (cs := [v4, v5, v6]) hs (.c (.c (.c .n))) (.c rfl (.c rfl (.c rfl .n))) underlying22 (ie := Tryz.t32) rfl rfl rfl rfl (by decide) (by decide) rfl (by decide) (by simp only [List.all_cons, List.all_nil, ← Array.length_toList, (zM (hs.mem.del (.s (.s .z)))).isSl.lcells, (zM (hs.mem.del (.s .z))).isSl.lcells, (zM (hs.mem.del .z)).isSl.lcells]; rfl) (by simp [(zM (hs.mem.del (.s (.s .z)))).isSl.lcells, (zM (hs.mem.del (.s .z))).isSl.lcells, (zM (hs.mem.del .z)).isSl.lcells]) rfl ?_; intro g7
 refine goL 4 [] [31, 30, 29, 3, 1] .n ?_
 intro a w hs; refine zEp 3 ?_
 revert a w hs
 refine go 3 [] [33, 31, 30, 29, 3, 1] .n ?_
 intro a w hs; refine zA9 (j := 0) hs rfl rfl (zAa (m := 3) (size := 1) (hs.mem.del .z) rfl (by decide)) (by decide) (by omega) underlying22 sizeOf32 rfl ?_
 intro a w hs; refine zA7 (u := v4) hs rfl (zAa (m := 3) (size := 1) (hs.mem.del .z) rfl (by decide)) (by rfl) isAgg32 rfl ?_
 refine goL 4 [] [38, 37, 4, 31, 30, 29, 3, 1] .n ?_
 intro a w hs; refine zO hs (.c rfl (.c rfl .n)) call9 (.c (.s (.s (.s (.s .z)))) .n) (zEv hX3 (fun i => Nat.le_trans ((fun _ => Nat.le_refl 0) i) (by decide)) _ (hs.mem.del (.s (.s (.s (.s .z))))) (hs.mem.rdrow (.s (.s (.s .z))) (.c (.s (.s (.s .z))) .n))) rfl ?_; clear hs w a; rintro _ _ a w ⟨rfl, X8, rfl, hX9⟩ hs
 revert a w hs
 refine goL 7 [] [43, 6, 4, 31, 30, 29, 3, 1] .n ?_
 have hb_ : (!((((zAT zCZ.l 4 zCZ.floor zCZ.gone (zA (gwB 1 10 (-1) ([]))) : Nat) : Int) : Int) == 0)) = false := by rw [a1.1]; rfl
 intro a w hs; rw [hb_] at hs; clear hb_
 revert a w hs
 refine go 4 [] [47, 46, 45, 44, 31, 30, 29, 3, 1] .n (fun g10 => ?_)
 intro a w hs; refine zC hs rfl rfl rfl ?_
 refine zA9 (j := 0) hs rfl rfl (zAa (m := 3) (size := 1) (hs.mem.del .z) rfl (by decide)) (by decide) (by omega) underlying62 sizeOf2 rfl ?_
 intro a w hs; refine zC hs rfl rfl rfl ?_
 refine zA7 (u := zI 1) hs rfl (zAa (m := 3) (size := 1) (hs.mem.del .z) rfl (by decide)) (by rfl) isAgg2 rfl ?_
 refine goL 1 [] [50, 44, 31, 30, 29, 3, 1] .n ?_
 have hb_ : (!((zGW zCZ.l 4 zCZ.floor zCZ.gone (zA (gwB 1 10 (-1) ([]))) : Int) == 1)) = false := by rw [a1.2]; rfl
 intro a w hs; rw [hb_] at hs; clear hb_
 revert a w hs
 refine go 4 [] [31, 30, 29, 3, 1] .n ⟨by decide, ?_⟩
 intro a w hs; refine zBl ?_
 revert a w hs
 refine go 3 [] [33, 31, 30, 29, 3, 1] .n ?_
 intro a w hs; refine zA9 (j := 1) hs rfl rfl (zAa (m := 3) (size := 1) (hs.mem.del (.s (.s .z))) rfl (by decide)) (by decide) (by omega) underlying22 sizeOf32 rfl ?_
 intro a w hs; refine zA7 (u := v5) hs rfl (zAa (m := 3) (size := 1) (hs.mem.del (.s (.s .z))) rfl (by decide)) (by rfl) isAgg32 rfl ?_
 refine goL 4 [] [38, 37, 4, 31, 30, 29, 3, 1] .n ?_
 intro a w hs; refine zO hs (.c rfl (.c rfl .n)) call9 (.c (.s .z) .n) (zEv hX9 (fun i => Nat.le_trans ((zGz (fun _ => Nat.le_refl 0)) i) (by decide)) _ (hs.mem.del (.s .z)) (hs.mem.rdrow (.s (.s (.s (.s .z)))) (.c (.s .z) .n))) rfl ?_; clear hs w a; rintro _ _ a w ⟨rfl, X11, rfl, hX12⟩ hs
 revert a w hs
 refine goL 7 [] [43, 6, 4, 31, 30, 29, 3, 1] .n ?_
 have hb_ : (!((((zAT (zAX 4 zCZ (zA (gwB 1 10 (-1) ([])))).l 4 (zAX 4 zCZ (zA (gwB 1 10 (-1) ([])))).floor (zAX 4 zCZ (zA (gwB 1 10 (-1) ([])))).gone (zA (gwB 3 30 1 ([]))) : Nat) : Int) : Int) == 0)) = false := by rw [a2.1]; rfl
 intro a w hs; rw [hb_] at hs; clear hb_
 revert a w hs
 refine go 4 [] [47, 46, 45, 44, 31, 30, 29, 3, 1] .n (fun g13 => ?_)
 intro a w hs; refine zC hs rfl rfl rfl ?_
 refine zA9 (j := 1) hs rfl rfl (zAa (m := 3) (size := 1) (hs.mem.del .z) rfl (by decide)) (by decide) (by omega) underlying62 sizeOf2 rfl ?_
 intro a w hs; refine zC hs rfl rfl rfl ?_
 refine zA7 (u := zI 3) hs rfl (zAa (m := 3) (size := 1) (hs.mem.del .z) rfl (by decide)) (by rfl) isAgg2 rfl ?_
 refine goL 1 [] [50, 44, 31, 30, 29, 3, 1] .n ?_
 have hb_ : (!((zGW (zAX 4 zCZ (zA (gwB 1 10 (-1) ([])))).l 4 (zAX 4 zCZ (zA (gwB 1 10 (-1) ([])))).floor (zAX 4 zCZ (zA (gwB 1 10 (-1) ([])))).gone (zA (gwB 3 30 1 ([]))) : Int) == 3)) = false := by rw [a2.2]; rfl
 intro a w hs; rw [hb_] at hs; clear hb_
 revert a w hs
 refine go 4 [] [31, 30, 29, 3, 1] .n ⟨by decide, ?_⟩
 intro a w hs; refine zBl ?_
 revert a w hs
 refine go 3 [] [33, 31, 30, 29, 3, 1] .n ?_
 intro a w hs; refine zA9 (j := 2) hs rfl rfl (zAa (m := 3) (size := 1) (hs.mem.del (.s (.s (.s .z)))) rfl (by decide)) (by decide) (by omega) underlying22 sizeOf32 rfl ?_
 intro a w hs; refine zA7 (u := v6) hs rfl (zAa (m := 3) (size := 1) (hs.mem.del (.s (.s (.s .z)))) rfl (by decide)) (by rfl) isAgg32 rfl ?_
 refine goL 4 [] [38, 37, 4, 31, 30, 29, 3, 1] .n ?_
 intro a w hs; refine zO hs (.c rfl (.c rfl .n)) call9 (.c (.s .z) .n) (zEv hX12 (fun i => Nat.le_trans ((zGz (zGz (fun _ => Nat.le_refl 0))) i) (by decide)) _ (hs.mem.del (.s .z)) (hs.mem.rdrow (.s (.s (.s (.s .z)))) (.c (.s .z) .n))) rfl ?_; clear hs w a; rintro _ _ a w ⟨rfl, X14, rfl, hX15⟩ hs
 revert a w hs
 refine goL 7 [] [43, 6, 4, 31, 30, 29, 3, 1] .n ?_
 have hb_ : (!((((zAT (zAX 4 (zAX 4 zCZ (zA (gwB 1 10 (-1) ([])))) (zA (gwB 3 30 1 ([])))).l 4 (zAX 4 (zAX 4 zCZ (zA (gwB 1 10 (-1) ([])))) (zA (gwB 3 30 1 ([])))).floor (zAX 4 (zAX 4 zCZ (zA (gwB 1 10 (-1) ([])))) (zA (gwB 3 30 1 ([])))).gone (zA (gwB 2 20 1 ([]))) : Nat) : Int) : Int) == 0)) = false := by rw [a3.1]; rfl
 intro a w hs; rw [hb_] at hs; clear hb_
 revert a w hs
 refine go 4 [] [47, 46, 45, 44, 31, 30, 29, 3, 1] .n (fun g16 => ?_)
 intro a w hs; refine zC hs rfl rfl rfl ?_
 refine zA9 (j := 2) hs rfl rfl (zAa (m := 3) (size := 1) (hs.mem.del .z) rfl (by decide)) (by decide) (by omega) underlying62 sizeOf2 rfl ?_
 intro a w hs; refine zC hs rfl rfl rfl ?_
 refine zA7 (u := zI 2) hs rfl (zAa (m := 3) (size := 1) (hs.mem.del .z) rfl (by decide)) (by rfl) isAgg2 rfl ?_
 refine goL 1 [] [50, 44, 31, 30, 29, 3, 1] .n ?_
 have hb_ : (!((zGW (zAX 4 (zAX 4 zCZ (zA (gwB 1 10 (-1) ([])))) (zA (gwB 3 30 1 ([])))).l 4 (zAX 4 (zAX 4 zCZ (zA (gwB 1 10 (-1) ([])))) (zA (gwB 3 30 1 ([])))).floor (zAX 4 (zAX 4 zCZ (zA (gwB 1 10 (-1) ([])))) (zA (gwB 3 30 1 ([])))).gone (zA (gwB 2 20 1 ([]))) : Int) == 2)) = false := by rw [a3.2]; rfl
 intro a w hs; rw [hb_] at hs; clear hb_
 revert a w hs
 refine go 4 [] [31, 30, 29, 3, 1] .n ⟨by decide, ?_⟩
 intro a w hs; refine zBl ?_
 revert a w hs
 refine go 4 [] [55, 54, 1] .n ?_
 intro a w hs; refine zA9 (j := 1) hs rfl rfl (zAa (m := 3) (size := 1) (hs.mem.del (.s (.s (.s (.s .z))))) rfl (by decide)) (by decide) (by omega) underlying22 sizeOf32 rfl ?_
 intro a w hs; refine zA7 (u := v5) hs rfl (zAa (m := 3) (size := 1) (hs.mem.del (.s (.s (.s (.s .z))))) rfl (by decide)) (by rfl) isAgg32 rfl ?_
 intro a w hs; refine zO hs (.c rfl (.c rfl .n)) call9 (.c (.s .z) .n) (zEv hX15 (fun i => Nat.le_trans ((zGz (zGz (zGz (fun _ => Nat.le_refl 0)))) i) (by decide)) _ (hs.mem.del (.s .z)) (hs.mem.rdrow (.s (.s (.s (.s (.s (.s .z)))))) (.c (.s .z) .n))) rfl ?_; clear hs w a; rintro _ _ a w ⟨rfl, X17, rfl, hX18⟩ hs
 revert a w hs
 refine goL 6 [] [62, 9, 1] .n ?_
 intro a w hs; refine zO hs (.c rfl (.c rfl .n)) call14 .n (zVD hX18 1 _ (hs.mem.del .z)) rfl ?_; clear hs w a; rintro _ _ a w ⟨v19, rfl, rfl⟩ hs
 revert a w hs
 refine goL 4 [] [10, 65, 64, 9, 1] .n (fun g20 => ?_)
 intro a w hs; refine zA4 hs rfl rfl .z (.z (.c (.c (.c .n)))) (zN rfl (zN rfl (zN (zM (hs.mem.del (.s .z))).isSl.one zBS))) sizeOf45 rfl ?_
 refine goL 3 [] [67, 11, 10, 1] .n ?_
 have hb_ : ((((zAT (zAX 4 (zAX 4 (zAX 4 zCZ (zA (gwB 1 10 (-1) ([])))) (zA (gwB 3 30 1 ([])))) (zA (gwB 2 20 1 ([])))).l 4 (zAX 4 (zAX 4 (zAX 4 zCZ (zA (gwB 1 10 (-1) ([])))) (zA (gwB 3 30 1 ([])))) (zA (gwB 2 20 1 ([])))).floor (zAX 4 (zAX 4 (zAX 4 zCZ (zA (gwB 1 10 (-1) ([])))) (zA (gwB 3 30 1 ([])))) (zA (gwB 2 20 1 ([])))).gone (zA (gwB 3 30 1 ([]))) : Nat) : Int) : Int) == 12) = true := by rw [a4] <;> rfl
 intro a w hs; rw [hb_] at hs; clear hb_
 revert a w hs
 refine go 3 [] [70, 68, 10, 1] .n ?_
 have hb_ : ((((zH5 (zAX 4 (zAX 4 (zAX 4 (zAX 4 zCZ (zA (gwB 1 10 (-1) ([])))) (zA (gwB 3 30 1 ([])))) (zA (gwB 2 20 1 ([])))) (zA (gwB 3 30 1 ([])))).l 1 : Nat) : Int) : Int) == 0) = true := by rw [a5.1] <;> rfl
 intro a w hs; rw [hb_] at hs; clear hb_
 revert a w hs
 refine go 5 [0] [75, 72, 1] (.c .z .n) ⟨rfl, ?_⟩
 have hb_ : (((sat (zAX 4 (zAX 4 (zAX 4 (zAX 4 zCZ (zA (gwB 1 10 (-1) ([])))) (zA (gwB 3 30 1 ([])))) (zA (gwB 2 20 1 ([])))) (zA (gwB 3 30 1 ([])))).l 1).t : Int) == 2) = true := by rw [a5.2.1] <;> rfl
 intro a w hs; rw [hb_] at hs; clear hb_
 revert a w hs
 refine go 3 [] [78, 77, 1] .n ?_
 intro a w hs; refine zC hs rfl rfl rfl ?_
 refine zH (v := nI ((zAX 4 (zAX 4 (zAX 4 (zAX 4 zCZ (zA (gwB 1 10 (-1) ([])))) (zA (gwB 3 30 1 ([])))) (zA (gwB 2 20 1 ([])))) (zA (gwB 3 30 1 ([])))).l.length)) hs (.c rfl .n) call11 (zPU hX18 _ (hs.mem.del (.s (.s .z)))) rfl ?_
 refine goL 1 [] [80, 77, 1] .n ?_
 have hb_ : (((((zAX 4 (zAX 4 (zAX 4 (zAX 4 zCZ (zA (gwB 1 10 (-1) ([])))) (zA (gwB 3 30 1 ([])))) (zA (gwB 2 20 1 ([])))) (zA (gwB 3 30 1 ([])))).l.length : Nat) : Int) : Int) == 3) = true := by rw [a5.2.2.1] <;> rfl
 intro a w hs; rw [hb_] at hs; clear hb_
 revert a w hs
 refine go 3 [] [83, 82, 1] .n ?_
 intro a w hs; refine zC hs rfl rfl rfl ?_
 refine zH (v := nI ((zAX 4 (zAX 4 (zAX 4 (zAX 4 zCZ (zA (gwB 1 10 (-1) ([])))) (zA (gwB 3 30 1 ([])))) (zA (gwB 2 20 1 ([])))) (zA (gwB 3 30 1 ([])))).n 0)) hs (.c rfl .n) call12 (zJv hX18 _ (hs.mem.del (.s (.s .z)))) rfl ?_
 refine goL 1 [] [85, 82, 1] .n ?_
 have hb_ : (((((zAX 4 (zAX 4 (zAX 4 (zAX 4 zCZ (zA (gwB 1 10 (-1) ([])))) (zA (gwB 3 30 1 ([])))) (zA (gwB 2 20 1 ([])))) (zA (gwB 3 30 1 ([])))).n 0 : Nat) : Int) : Int) == 3) = true := by rw [a5.2.2.2.1] <;> rfl
 intro a w hs; rw [hb_] at hs; clear hb_
 revert a w hs
 refine go 3 [] [88, 87] .n ?_
 intro a w hs; refine zC hs rfl rfl rfl ?_
 refine zH (v := nI (zDv (zAX 4 (zAX 4 (zAX 4 (zAX 4 zCZ (zA (gwB 1 10 (-1) ([])))) (zA (gwB 3 30 1 ([])))) (zA (gwB 2 20 1 ([])))) (zA (gwB 3 30 1 ([])))).n 12)) hs (.c rfl (.c rfl .n)) call13 (zD6 hX18 12 _ (hs.mem.del (.s (.s .z))) (by omega)) rfl ?_
 refine goL 1 [] [90, 87] .n ?_
 have hb_ : ((((zDv (zAX 4 (zAX 4 (zAX 4 (zAX 4 zCZ (zA (gwB 1 10 (-1) ([])))) (zA (gwB 3 30 1 ([])))) (zA (gwB 2 20 1 ([])))) (zA (gwB 3 30 1 ([])))).n 12 : Nat) : Int) : Int) == 1) = true := by rw [a5.2.2.2.2] <;> rfl
 intro a w hs; rw [hb_] at hs; clear hb_
 revert a w hs
 refine go 2 [] [0] .n ?_
 refine cl (·.drop (.c (.s (.s (.s (.s (.s (.s (.s (.s (.s .z))))))))) (.c (.s (.s (.s (.s (.s (.s (.s (.s .z)))))))) (.c (.s (.s (.s (.s (.s (.s (.s .z))))))) (.c (.s (.s (.s (.s (.s (.s .z)))))) (.c (.s (.s (.s (.s (.s .z))))) (.c (.s (.s (.s (.s .z)))) (.c (.s (.s (.s .z))) (.c (.s (.s .z)) (.c (.s .z) (.c .z .n))))))))))) ?_
 intro a w hs; exact fin hs rfl rfl ⟨rfl, rfl⟩
end Go.Proofs.YtbacobmcfelmkaaGreat
