/- Walks of a datagram off bytes: what each function does, over the program of this seat. Printed by a program of this session. -/
import Derived.Test.YtbacobmcfelmkaaGreatQWgramR
import Derived.Test.YtbacobmcfelmkaaGreatQSxBasB
namespace Go.Proofs.YtbacobmcfelmkaaGreat
open Tryz
open Go Go.Sx Go.RowKit
set_option linter.unusedVariables false
set_option linter.unusedSimpArgs false
set_option maxRecDepth 4000
set_option maxHeartbeats 1000000

theorem zNA (v : Value) (m : Nat) (bs : List zR) (w0 : World) (hb : Rd w0 [] v 1 m (zF bs)) (hm : 4096 < m) : Calls Tryz.prog 27 #[v] w0 (Ret w0 [] fun u N => ∃ v', u = .tuple #[.agg #[zI ((zA bs).t), zI ((zA bs).tm), zI ((zA bs).b), v'], nI ((zA bs).e)] ∧ N = [row v' 112 9 (zA bs).l.length ((zA bs).l.flatMap zDG)]) := by
 have hbl : bs.length = m := by have := hb.len; simpa [zF] using this
 have hbe : m ≤ maxLen := hb.le
 simp only [maxLen] at hbe
 refine zT (F0 := [(0, v)]) func27 rfl rfl rfl (.c .n) (Mem.nil _) ?_
 refine go 3 [] [10, 2, 0] .n (fun g1 => ?_)
 intro a w hs; refine zAG hs rfl (hs.rd0 hb).isSl underlying32 rfl ?_
 refine goL 1 [] [12, 2, 0] .n ?_
 refine ifG rfl (fun c_2 => ?_) (fun c_2 => ?_)
 ·
  refine go 3 [0] [3, 2] (.c .z .n) ⟨rfl, ?_⟩
  refine cl (·.addNil 112 9) ?_
  have hG_ := zGr (bs := bs) (by omega)
  intro a w hs; exact zBV hs rfl rfl rfl (.s .z) (.z (.c (.c (.c (.c .n))))) isAgg61 sizeOf61 (.c (.s .z) .n) (by rw [hG_]; dsimp only; exact ⟨.slice none 0 0, rfl, rfl⟩)
 exfalso; omega
theorem zNT (v : Value) (m : Nat) (bs : List zR) (w0 : World) (hb : Rd w0 [] v 1 m (zF bs)) (hm : m ≤ 4096) (ho : zCP bs = none) : Calls Tryz.prog 27 #[v] w0 (Ret w0 [] fun u N => ∃ v', u = .tuple #[.agg #[zI ((zA bs).t), zI ((zA bs).tm), zI ((zA bs).b), v'], nI ((zA bs).e)] ∧ N = [row v' 112 9 (zA bs).l.length ((zA bs).l.flatMap zDG)]) := by
 have hbl : bs.length = m := by have := hb.len; simpa [zF] using this
 have hbe : m ≤ maxLen := hb.le
 simp only [maxLen] at hbe
 refine zT (F0 := [(0, v)]) func27 rfl rfl rfl (.c .n) (Mem.nil _) ?_
 refine go 3 [] [10, 2, 0] .n (fun g1 => ?_)
 intro a w hs; refine zAG hs rfl (hs.rd0 hb).isSl underlying32 rfl ?_
 refine goL 1 [] [12, 2, 0] .n ?_
 refine ifG rfl (fun c_2 => ?_) (fun c_2 => ?_)
 ·
  exfalso; omega
 refine go 1 [] [15, 2] .n ?_
 intro a w hs; refine zH hs (.c rfl .n) call39 (zPA _ _ bs _ (hs.rd0 hb) (by omega) ho) rfl ?_
 refine goL 11 [0] [3, 2] (.c .z .n) ⟨rfl, ?_⟩
 refine cl (·.addNil 112 9) ?_
 have hG_ := zGu (bs := bs) (by omega) ho
 intro a w hs; exact zBV hs rfl rfl rfl (.s .z) (.z (.c (.c (.c (.c .n))))) isAgg61 sizeOf61 (.c (.s .z) .n) (by rw [hG_]; dsimp only; exact ⟨.slice none 0 0, rfl, rfl⟩)
set_option maxHeartbeats 600000 in
theorem zM6 (v : Value) (m : Nat) (bs : List zR) (w0 : World) (hb : Rd w0 [] v 1 m (zF bs)) (x : List zR) (hm : m ≤ 4096) (ho : zCP bs = some x) : Calls Tryz.prog 27 #[v] w0 (Ret w0 [] fun u N => ∃ v', u = .tuple #[.agg #[zI ((zA bs).t), zI ((zA bs).tm), zI ((zA bs).b), v'], nI ((zA bs).e)] ∧ N = [row v' 112 9 (zA bs).l.length ((zA bs).l.flatMap zDG)]) := by
 have hbl : bs.length = m := by have := hb.len; simpa [zF] using this
 have hbe : m ≤ maxLen := hb.le
 simp only [maxLen] at hbe
 have hxl : x.length ≤ bs.length := by have := zCr x; rw [← (zF3 bs x).1 ho] at this; omega
 have hR0 : (⟨0, 0⟩ : Rs).p ≤ x.length := Nat.zero_le _
 have hlim32 : (4294967295#64).toNat = 4294967295 := rfl
 refine zT (F0 := [(0, v)]) func27 rfl rfl rfl (.c .n) (Mem.nil _) ?_
 refine go 3 [] [10, 2, 0] .n (fun g1 => ?_)
 intro a w hs; refine zAG hs rfl (hs.rd0 hb).isSl underlying32 rfl ?_
 refine goL 1 [] [12, 2, 0] .n ?_
 refine ifG rfl (fun c_2 => ?_) (fun c_2 => ?_)
 ·
  exfalso; omega
 refine go 1 [] [15, 2] .n ?_
 intro a w hs; refine zO hs (.c rfl .n) call39 .n (zOF _ _ bs _ (hs.rd0 hb) _ (by omega) ho) rfl ?_; clear hs w a; rintro _ _ a w ⟨v3, rfl, rfl⟩ hs
 revert a w hs
 refine goL 9 [] [22, 2] .n ?_
 intro a w hs; refine zO hs (.c rfl .n) call40 .n (zU2 _ _ x _ (zM (hs.mem.del .z))) rfl ?_; clear hs w a; rintro _ _ a w ⟨g4, rfl, rfl⟩ hs
 have hleg4 : (⟨0, 0⟩ : Rs).p ≤ x.length := Nat.zero_le _
 revert a w hs
 refine goL 14 [0] [36, 35, 34, 6, 2] .n (fun g5 => fun g6 => ?_)
 intro a w hs; refine zEp 4 ?_
 revert a w hs
 refine go 2 [] [36, 35, 34, 6, 2] .n ?_
 intro a w hs; refine zA9 (j := 0) hs rfl rfl (zAa (m := 4) (size := 1) (hs.mem.del .z) rfl (by decide)) (by decide) (by omega) underlying102 sizeOf1 rfl ?_
 intro a w hs; refine zA7 (u := .func (.func 41) #[pt g5 0] #[]) hs rfl (zAa (m := 4) (size := 1) (hs.mem.del .z) rfl (by decide)) (by rfl) isAgg1 rfl ?_
 refine goL 2 [] [40, 36, 35, 34, 6, 2] .n ?_
 intro a w hs; refine zHJ (fs := [pt g5 0]) (us := []) hs rfl .n rfl call41 (.c (.s (.s .z)) .n) (zOA  g4 g5 _ _ x (⟨0, 0⟩ : Rs) 0 0 0 (.slice none 0 0) _ (hs.mem.rdrow (.s (.s (.s .z))) (.c (.s (.s .z)) .n)) (hs.mem.del (.s (.s .z))) (hs.mem.del (.s .z)) (by omega)) rfl ?_; clear hs w a; rintro _ _ a w ⟨rfl, rfl⟩ hs
 have hk7 := zKR (bs := x) (R := (⟨0, 0⟩ : Rs)) (by omega)
 replace hs := hs.reblk .z (cs' := [v3, nI ((gR1 x).p), nI ((gR1 x).e)]) rfl
 have hk8 := zQH x
 revert a w hs
 refine goL 2 [] [36, 35, 34, 6, 2] .n ⟨by decide, ?_⟩
 intro a w hs; refine zBl ?_
 revert a w hs
 refine go 2 [] [36, 35, 34, 6, 2] .n ?_
 intro a w hs; refine zA9 (j := 1) hs rfl rfl (zAa (m := 4) (size := 1) (hs.mem.del (.s .z)) rfl (by decide)) (by decide) (by omega) underlying102 sizeOf1 rfl ?_
 intro a w hs; refine zA7 (u := .func (.func 42) #[pt g5 0] #[]) hs rfl (zAa (m := 4) (size := 1) (hs.mem.del (.s .z)) rfl (by decide)) (by rfl) isAgg1 rfl ?_
 refine goL 2 [] [40, 36, 35, 34, 6, 2] .n ?_
 intro a w hs; refine zHJ (fs := [pt g5 0]) (us := []) hs rfl .n rfl call42 (.c .z (.c (.s .z) .n)) (zQ5 g4 g5 _ _ x (gR1 x) 0 0 0 (.slice none 0 0) _ (hs.mem.rdrow (.s (.s (.s .z))) (.c .z (.c (.s .z) .n))) (hs.mem.del .z) (hs.mem.del (.s (.s .z))) (by omega)) rfl ?_; clear hs w a; rintro _ _ a w ⟨rfl, rfl⟩ hs
 have hk9 := zVJ (bs := x) (R := (gR1 x)) (by omega)
 have hk10 := zSw (bs := x) (R := (gT x (gR1 x)).2) (by omega)
 replace hs := hs.reblk .z (cs' := [v3, nI ((zBk x).2.p), nI ((zBk x).2.e)]) rfl
 replace hs := hs.reblk (.s .z) (cs' := [pt g4 0, zI ((gTx x).1), zI ((zBk x).1), zI 0, .slice none 0 0]) rfl
 have hk11 := zJ5 x
 have hk12 := zH7 x
 revert a w hs
 refine goL 2 [] [36, 35, 34, 6, 2] .n ⟨by decide, ?_⟩
 intro a w hs; refine zBl ?_
 revert a w hs
 refine go 2 [] [36, 35, 34, 6, 2] .n ?_
 intro a w hs; refine zA9 (j := 2) hs rfl rfl (zAa (m := 4) (size := 1) (hs.mem.del (.s (.s .z))) rfl (by decide)) (by decide) (by omega) underlying102 sizeOf1 rfl ?_
 intro a w hs; refine zA7 (u := .func (.func 43) #[pt g5 0] #[]) hs rfl (zAa (m := 4) (size := 1) (hs.mem.del (.s (.s .z))) rfl (by decide)) (by rfl) isAgg1 rfl ?_
 refine goL 2 [] [40, 36, 35, 34, 6, 2] .n ?_
 intro a w hs; refine zHJ (fs := [pt g5 0]) (us := []) hs rfl .n rfl call43 (.c (.s .z) (.c .z .n)) (zQ4 g4 g5 _ _ x ((zBk x).2) ((gTx x).1) ((zBk x).1) 0 (.slice none 0 0) _ (hs.mem.rdrow (.s (.s (.s .z))) (.c (.s .z) (.c .z .n))) (hs.mem.del (.s .z)) (hs.mem.del .z) (by omega) (by omega)) rfl ?_; clear hs w a; rintro _ _ a w ⟨rfl, rfl⟩ hs
 have hk13 := zVP (bs := x) (t := ((gTx x).1)) (R := ((zBk x).2)) (by omega) (by omega)
 replace hs := hs.reblk .z (cs' := [v3, nI ((gBx x).2.p), nI ((gBx x).2.e)]) rfl
 replace hs := hs.reblk (.s .z) (cs' := [pt g4 0, zI ((gTx x).1), zI ((zBk x).1), zI ((gBx x).1), .slice none 0 0]) rfl
 have hk14 := zDT x
 revert a w hs
 refine goL 2 [] [36, 35, 34, 6, 2] .n ⟨by decide, ?_⟩
 intro a w hs; refine zBl ?_
 revert a w hs
 refine go 2 [] [36, 35, 34, 6, 2] .n ?_
 intro a w hs; refine zA9 (j := 3) hs rfl rfl (zAa (m := 4) (size := 1) (hs.mem.del (.s (.s .z))) rfl (by decide)) (by decide) (by omega) underlying102 sizeOf1 rfl ?_
 intro a w hs; refine zA7 (u := .func (.func 44) #[pt g5 0] #[]) hs rfl (zAa (m := 4) (size := 1) (hs.mem.del (.s (.s .z))) rfl (by decide)) (by rfl) isAgg1 rfl ?_
 refine goL 2 [] [40, 36, 35, 34, 6, 2] .n ?_
 intro a w hs; refine zHJ (fs := [pt g5 0]) (us := []) hs rfl .n rfl call44 (.c (.s .z) (.c .z .n)) (zRo g4 g5 _ _ x ((gBx x).2) ((gTx x).1) ((zBk x).1) ((gBx x).1)  _ (hs.mem.rdrow (.s (.s (.s .z))) (.c (.s .z) (.c .z .n))) (hs.mem.del (.s .z)) (hs.mem.del .z) (by omega)) rfl ?_; clear hs w a; rintro _ _ a w ⟨rfl, v15, rfl⟩ hs
 have hk16 := (zBy (bs := x) (R := ((gBx x).2)) (by omega) (gN x ((gBx x).2))).p
 have hk17 := (zBy (bs := x) (R := ((gBx x).2)) (by omega) (gN x ((gBx x).2))).len
 have hk18 := zOb x ((gBx x).2)
 replace hs := hs.reblk .z (cs' := [v3, nI ((gSx x).2.2.p), nI ((gSx x).2.2.e)]) (by rw [zDl])
 replace hs := hs.rerow (.s (.s .z)) (m' := (gSx x).1.length) (xs' := ((gSx x).1.flatMap zDG)) (by rw [zDl]) (by rw [zDl])
 have hk19 := zOM x
 have hgs := zVk x
 revert a w hs
 refine goL 2 [] [36, 35, 34, 6, 2] .n ⟨by decide, ?_⟩
 intro a w hs; refine zBl ?_
 revert a w hs
 refine go 6 [0] [46, 6, 2] (.c (.s (.s .z)) .n) ⟨rfl, ?_⟩
 intro a w hs; refine zH (v := nI (zDt x ((gSx x).2.2))) hs (.c rfl .n) call45 (zQ9 g4 _ _ x ((gSx x).2.2) _ (zM (hs.mem.del (.s (.s (.s (.s .z)))))) (hs.mem.del (.s (.s .z))) (by omega)) rfl ?_
 refine cl (·.recell (v' := nI (gEx x)) (Option.some.inj (by rw [zP4]))) ?_
 refine goL 3 [] [49, 9, 6, 2] .n ?_
 refine ifG rfl (fun c_20 => ?_) (fun c_20 => ?_)
 ·
  refine go 4 [0] [3, 2] (.c (.s (.s (.s (.s (.s .z))))) .n) ⟨rfl, ?_⟩
  refine cl (·.addNil 112 9) ?_
  have hG_ := zD2 (bs := bs) (by omega) ho (by omega)
  intro a w hs; exact zBV hs rfl rfl rfl (.s .z) (.z (.c (.c (.c (.c .n))))) isAgg61 sizeOf61 (.c (.s (.s (.s (.s (.s (.s .z)))))) (.c (.s (.s (.s (.s (.s .z))))) (.c (.s (.s (.s (.s .z)))) (.c (.s (.s (.s .z))) (.c (.s (.s .z)) (.c (.s .z) .n)))))) (by rw [hG_]; dsimp only; exact ⟨.slice none 0 0, rfl, rfl⟩)
 refine go 4 [0] [55, 2] (.c .z .n) ⟨rfl, ?_⟩
 intro a w hs; refine zA4 hs rfl rfl (.s (.s (.s (.s (.s .z))))) (.z (.c (.c (.c (.c .n))))) (zN rfl (zN rfl (zN rfl (zN (zM (hs.mem.del (.s .z))).isSl.one zBS)))) sizeOf61 rfl ?_
 refine goL 1 [] [3, 2] .n ?_
 have hG_ := zE9 (bs := bs) (by omega) ho (by omega)
 intro a w hs; exact zBV hs rfl rfl rfl .z (.z (.c (.c (.c (.c .n))))) isAgg61 sizeOf61 (.c (.s (.s (.s (.s (.s .z))))) (.c (.s (.s (.s (.s .z)))) (.c (.s (.s (.s .z))) (.c (.s .z) (.c .z .n))))) (by rw [hG_]; dsimp only; exact ⟨v15, rfl, rfl⟩)
theorem zQb (v : Value) (m : Nat) (bs : List zR) (w0 : World) (hb : Rd w0 [] v 1 m (zF bs)) : Calls Tryz.prog 27 #[v] w0 (Ret w0 [] fun u N => ∃ v', u = .tuple #[.agg #[zI ((zA bs).t), zI ((zA bs).tm), zI ((zA bs).b), v'], nI ((zA bs).e)] ∧ N = [row v' 112 9 (zA bs).l.length ((zA bs).l.flatMap zDG)]) := by
 by_cases hm : 4096 < m
 · exact zNA v m bs w0 hb hm
 · cases ho : zCP bs with
   | none => exact zNT v m bs w0 hb (by omega) ho
   | some x => exact zM6 v m bs w0 hb x (by omega) ho
end Go.Proofs.YtbacobmcfelmkaaGreat
