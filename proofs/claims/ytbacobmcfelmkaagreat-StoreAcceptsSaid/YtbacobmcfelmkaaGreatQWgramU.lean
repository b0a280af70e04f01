/- Walks of the document's datagrams off bytes: what each function does, over the program of this seat. Printed by a program of this session. -/
import Derived.Test.YtbacobmcfelmkaaGreatQWrec3
import Derived.Test.YtbacobmcfelmkaaGreatQWcrc
import Derived.Test.YtbacobmcfelmkaaGreatQSxGrams
import Derived.Test.YtbacobmcfelmkaaGreatQSxRecs
import Derived.Test.YtbacobmcfelmkaaGreatQSxBasB
namespace Go.Proofs.YtbacobmcfelmkaaGreat
open Tryz
open Go Go.Sx Go.RowKit
set_option linter.unusedVariables false
set_option linter.unusedSimpArgs false
set_option maxRecDepth 4000
set_option maxHeartbeats 1000000

theorem zMf (c : zR) (g : Nat) (u : Value) (bs : List zR) (R : Rs) (w0 : World) (hb : Rd w0 [g] u 1 (bs.length - R.p) (zF (bs.drop R.p))) (hg : (blk g [u, nI ((R).p), nI ((R).e)] 128).p w0) (hle : R.p ≤ bs.length) (hlm : bs.length ≤ maxLen) : Calls Tryz.prog 61 #[pt g 0, bI c] w0 (Ret w0 [g] fun x N => ∃ u', x = .tuple #[] ∧ N = [blk g [u', nI ((zC5 c bs R).p), nI ((zC5 c bs R).e)] 128] ∧ Tr bs u R.p u' (zC5 c bs R).p) := by
 simp only [maxLen] at hlm
 refine zT (F0 := [(0, pt g 0), (1, bI c)]) func61 rfl rfl rfl (.c (.c .n)) (zBd hg) ?_
 refine go 1 [] [4, 0, 1] .n ?_
 intro a w hs; refine zAA hs (.c rfl .n) call88 (.c .z .n) (zJT  g _ bs R _ (hs.mem.rd1 hb (.c .z .n)) (hs.mem.del .z) (by omega) (by simp only [maxLen]; omega)) rfl ?_
 have hk1 := zCy (bs := bs) (R := R) (by omega)
 refine goL 2 [] [7, 0] .n ?_
 refine ifG rfl (fun c_2 => ?_) (fun c_2 => ?_)
 ·
  refine go 1 [] [8] .n ?_
  intro a w hs; refine zAA hs (.c rfl (.c rfl .n)) call64 (.c .z .n) (zDF 7 g _ bs ((zB bs R).2) _ ((zW (p := R.p) (p' := ((zB bs R).2).p) (by omega) (by omega)) _ _ (hs.mem.rd1 hb (.c .z .n))) (hs.mem.del .z) (by omega) (by simp only [maxLen]; omega)) rfl ?_
  have hk3 := zBE (bs := bs) (R := ((zB bs R).2)) (e := 7) (by omega)
  refine goL 0 [] [] .n ?_
  have hM_ : zC5 c bs R = (zBL 7 ((zB bs R).2)) := by unfold zC5; rw [if_neg (by omega)]
  intro a w hs; exact zHE hs rfl (by rw [hM_]; exact ⟨_, rfl, rfl, (fun w T h => (zEO (bs := bs) (R := ((zB bs R).2)) (e := 7)) w T ((fun w T h => (zW (p := R.p) (p' := ((zB bs R).2).p) (by omega) (by omega)) w T (Tr.refl w T h)) w T h))⟩)
 refine go 0 [] [] .n ?_
 have hM_ : zC5 c bs R = ((zB bs R).2) := by unfold zC5; rw [if_pos (by omega)]
 intro a w hs; exact zHE hs rfl (by rw [hM_]; exact ⟨_, rfl, rfl, (fun w T h => (zW (p := R.p) (p' := ((zB bs R).2).p) (by omega) (by omega)) w T (Tr.refl w T h))⟩)
theorem zK5 (v : Value) (m : Nat) (bs : List zR) (w0 : World) (hb : Rd w0 [] v 1 m (zF bs)) (hm : 4096 < m) : Calls Tryz.prog 35 #[v] w0 (Ret w0 [] fun u N => ∃ v', u = .tuple #[.agg #[zI ((zA bs).t), zI ((zA bs).tm), zI ((zA bs).b), v'], nI ((zA bs).e)] ∧ N = [row v' 112 9 (zA bs).l.length ((zA bs).l.flatMap zDG)]) := by
 have hbl : bs.length = m := by have := hb.len; simpa [zF] using this
 have hbe : m ≤ maxLen := hb.le
 simp only [maxLen] at hbe
 refine zT (F0 := [(0, v)]) func35 rfl rfl rfl (.c .n) (Mem.nil _) ?_
 refine go 3 [] [15, 2, 0] .n (fun g1 => ?_)
 intro a w hs; refine zAG hs rfl (hs.rd0 hb).isSl underlying32 rfl ?_
 refine goL 1 [] [17, 2, 0] .n ?_
 refine ifG rfl (fun c_2 => ?_) (fun c_2 => ?_)
 ·
  refine go 3 [0] [3, 2] (.c .z .n) ⟨rfl, ?_⟩
  refine cl (·.addNil 112 9) ?_
  have hG_ := zGr (bs := bs) (by omega)
  intro a w hs; exact zBV hs rfl rfl rfl (.s .z) (.z (.c (.c (.c (.c .n))))) isAgg61 sizeOf61 (.c (.s .z) .n) (by rw [hG_]; dsimp only; exact ⟨.slice none 0 0, rfl, rfl⟩)
 exfalso; omega
theorem zK6 (v : Value) (m : Nat) (bs : List zR) (w0 : World) (hb : Rd w0 [] v 1 m (zF bs)) (hm : m ≤ 4096) (ho : zCP bs = none) : Calls Tryz.prog 35 #[v] w0 (Ret w0 [] fun u N => ∃ v', u = .tuple #[.agg #[zI ((zA bs).t), zI ((zA bs).tm), zI ((zA bs).b), v'], nI ((zA bs).e)] ∧ N = [row v' 112 9 (zA bs).l.length ((zA bs).l.flatMap zDG)]) := by
 have hbl : bs.length = m := by have := hb.len; simpa [zF] using this
 have hbe : m ≤ maxLen := hb.le
 simp only [maxLen] at hbe
 refine zT (F0 := [(0, v)]) func35 rfl rfl rfl (.c .n) (Mem.nil _) ?_
 refine go 3 [] [15, 2, 0] .n (fun g1 => ?_)
 intro a w hs; refine zAG hs rfl (hs.rd0 hb).isSl underlying32 rfl ?_
 refine goL 1 [] [17, 2, 0] .n ?_
 refine ifG rfl (fun c_2 => ?_) (fun c_2 => ?_)
 ·
  exfalso; omega
 refine go 1 [] [20, 2] .n ?_
 intro a w hs; refine zH hs (.c rfl .n) call60 (zNP _ _ bs _ (hs.rd0 hb) (by omega) ho) rfl ?_
 refine goL 11 [0] [3, 2] (.c .z .n) ⟨rfl, ?_⟩
 refine cl (·.addNil 112 9) ?_
 have hG_ := zGu (bs := bs) (by omega) ho
 intro a w hs; exact zBV hs rfl rfl rfl (.s .z) (.z (.c (.c (.c (.c .n))))) isAgg61 sizeOf61 (.c (.s .z) .n) (by rw [hG_]; dsimp only; exact ⟨.slice none 0 0, rfl, rfl⟩)
set_option maxHeartbeats 600000 in
theorem zLc (v : Value) (m : Nat) (bs : List zR) (w0 : World) (hb : Rd w0 [] v 1 m (zF bs)) (x : List zR) (hm : m ≤ 4096) (ho : zCP bs = some x) : Calls Tryz.prog 35 #[v] w0 (Ret w0 [] fun u N => ∃ v', u = .tuple #[.agg #[zI ((zA bs).t), zI ((zA bs).tm), zI ((zA bs).b), v'], nI ((zA bs).e)] ∧ N = [row v' 112 9 (zA bs).l.length ((zA bs).l.flatMap zDG)]) := by
 have hbl : bs.length = m := by have := hb.len; simpa [zF] using this
 have hbe : m ≤ maxLen := hb.le
 simp only [maxLen] at hbe
 have hxl : x.length ≤ bs.length := by have := zCr x; rw [← (zF3 bs x).1 ho] at this; omega
 have hR0 : (⟨0, 0⟩ : Rs).p ≤ x.length := Nat.zero_le _
 have hlim32 : (4294967295#64).toNat = 4294967295 := rfl
 refine zT (F0 := [(0, v)]) func35 rfl rfl rfl (.c .n) (Mem.nil _) ?_
 refine go 3 [] [15, 2, 0] .n (fun g1 => ?_)
 intro a w hs; refine zAG hs rfl (hs.rd0 hb).isSl underlying32 rfl ?_
 refine goL 1 [] [17, 2, 0] .n ?_
 refine ifG rfl (fun c_2 => ?_) (fun c_2 => ?_)
 ·
  exfalso; omega
 refine go 1 [] [20, 2] .n ?_
 intro a w hs; refine zO hs (.c rfl .n) call60 .n (zNv _ _ bs _ (hs.rd0 hb) _ (by omega) ho) rfl ?_; clear hs w a; rintro _ _ a w ⟨v3, rfl, rfl⟩ hs
 revert a w hs
 refine goL 9 [] [27, 2] .n ?_
 intro a w hs; refine zHR (it := Tryz.t128) (zs := [.slice none 0 0, zI 0, zI 0]) (places := [(0, 1), (1, 1), (2, 1)]) hs (.c rfl .n) underlying128 rfl rfl rfl rfl (.c rfl (zM (hs.mem.del .z)).isSl.lcells (.z (.c .n)) .n) rfl ?_
 refine goL 1 [0] [29, 2] .n (fun g4 => ?_)
 refine cl (·.reblk .z (cs' := [(id v3), nI ((⟨0, 0⟩ : Rs).p), nI ((⟨0, 0⟩ : Rs).e)]) rfl) ?_
 have hid_ : ∀ w' T, Rd w' T v3 1 x.length (zF x) → Rd w' T (id v3) 1 (x.length - (⟨0, 0⟩ : Rs).p) (zF (x.drop (⟨0, 0⟩ : Rs).p)) := fun w' T h => by simpa using h
 refine go 2 [] [30, 6, 2] .n ?_
 intro a w hs; refine zO hs (.c rfl (.c rfl .n)) call61 (.c .z .n) (zMf (71#8) g4 _ x (⟨0, 0⟩ : Rs) _ (hid_ _ _ (hs.mem.rdrow (.s .z) (.c .z .n))) (hs.mem.del .z) (by omega) (by simp only [maxLen]; omega)) rfl ?_; clear hs w a; rintro _ _ a w ⟨u5, rfl, rfl, ht6⟩ hs
 have hk7 := zFM (c := (71#8)) (bs := x) (R := (⟨0, 0⟩ : Rs)) (by omega)
 revert a w hs
 refine goL 1 [] [32, 6, 2] .n ?_
 intro a w hs; refine zO hs (.c rfl (.c rfl .n)) call61 (.c .z .n) (zMf (1#8) g4 _ x (zC5 (71#8) x (⟨0, 0⟩ : Rs)) _ (ht6 _ _ (hid_ _ _ (hs.mem.rdrow (.s .z) (.c .z .n)))) (hs.mem.del .z) (by omega) (by simp only [maxLen]; omega)) rfl ?_; clear hs w a; rintro _ _ a w ⟨u8, rfl, rfl, ht9⟩ hs
 have hk10 := zFM (c := (1#8)) (bs := x) (R := (zC5 (71#8) x (⟨0, 0⟩ : Rs))) (by omega)
 have ht11 : ∀ w' T, Rd w' T u5 1 (x.length - (zC5 (71#8) x (⟨0, 0⟩ : Rs)).p) (zF (x.drop (zC5 (71#8) x (⟨0, 0⟩ : Rs)).p)) → Rd w' T u8 1 (x.length - (gR1 x).p) (zF (x.drop (gR1 x).p)) := by rw [← zSx]; exact ht9
 replace hs := hs.reblk .z (cs' := [u8, nI ((gR1 x).p), nI ((gR1 x).e)]) (by rw [← zSx])
 have hr1 := zQH x
 revert a w hs
 refine goL 4 [0] [35, 7, 6, 2] .n (fun g12 => ⟨rfl, ?_⟩)
 intro a w hs; refine zAA hs (.c rfl (.c rfl .n)) call62 (.c (.s .z) .n) (zDC (4294967295#64) g4 _ x (gR1 x) _ (ht11 _ _ (ht6 _ _ (hid_ _ _ (hs.mem.rdrow (.s (.s .z)) (.c (.s .z) .n))))) (hs.mem.del (.s .z)) (by omega) (by simp only [maxLen]; omega)) rfl ?_
 have hk13 := zAw (X := 4294967295#64) (bs := x) (R := (gR1 x)) (by omega)
 intro a w hs; refine zAh (X := (zD x (4294967295#64) (gR1 x)).1) hs rfl rfl underlying130 underlying2 rfl ?_
 intro a w hs; replace hs := hs.recell (v' := zI ((gTx x).1)) (Option.some.inj (by rw [zPI]; exact congrArg (fun z => some (Value.int .i64 z)) (zDR (by omega))))
 have ht14 : ∀ w' T, Rd w' T u8 1 (x.length - (gR1 x).p) (zF (x.drop (gR1 x).p)) → Rd w' T (zAQ u8 x.length (gR1 x).p ((zD x (4294967295#64) (gR1 x)).2).p) 1 (x.length - (gTx x).2.p) (zF (x.drop (gTx x).2.p)) := by rw [zPI]; exact (zW (p := (gR1 x).p) (p' := ((zD x (4294967295#64) (gR1 x)).2).p) (by omega) (by omega))
 replace hs := hs.reblk .z (cs' := [(zAQ u8 x.length (gR1 x).p ((zD x (4294967295#64) (gR1 x)).2).p), nI ((gTx x).2.p), nI ((gTx x).2.e)]) (by rw [zPI])
 have hr2 := zJ5 x
 revert a w hs
 refine goL 3 [0] [39, 7, 6, 2] (.c (.s .z) .n) ⟨rfl, ?_⟩
 intro a w hs; refine zAA hs (.c rfl .n) call63 (.c (.s .z) .n) (zH0  g4 _ x ((gTx x).2) _ (ht14 _ _ (ht11 _ _ (ht6 _ _ (hid_ _ _ (hs.mem.rdrow (.s (.s .z)) (.c (.s .z) .n)))))) (hs.mem.del (.s .z)) (by omega) (by simp only [maxLen]; omega)) rfl ?_
 have hk15 := zBm (bs := x) (R := (gTx x).2) (by omega)
 refine goL 6 [0, 0] [45, 7, 6, 2] (.c (.s .z) .n) ⟨rfl, rfl, ?_⟩
 intro a w hs; refine zAB (b := decide (((zJ x ((gTx x).2)).1) < (-2305843009213693952))) (fun c_16 => ?_) (fun c_16 => ?_)
 ·
  rw [c_16] at hs
  replace c_16 := of_decide_eq_true c_16
  revert a w hs
  refine goF 6 4 [] [49, 7, 6, 2] .n ?_
  intro a w hs; refine zNK (fun a w => ∃ q3 : Value, St 101 [(2, pt g1 0), (6, pt g4 0), (7, pt g12 0)] w0 [] [blk g4 [q3, nI (((zBk x).2).p), nI (((zBk x).2).e)] 128, blk g12 [zI ((gTx x).1), zI ((zBk x).1), zI (-1), .slice none 0 0] 61, row v3 5 1 x.length (zF x), blk g1 [zI 0, zI 0, zI 0, .slice none 0 0] 61] a w ∧ Tr x (id v3) (⟨0, 0⟩ : Rs).p q3 (zBk x).2.p) ?_ ?_
  ·
   revert a w hs
   refine go 2 [] [50, 7, 6, 2] .n ?_
   intro a w hs; refine zAA hs (.c rfl (.c rfl .n)) call64 (.c (.s .z) .n) (zDF 3 g4 _ x ((zJ x ((gTx x).2)).2) _ ((zW (p := ((gTx x).2).p) (p' := ((zJ x ((gTx x).2)).2).p) (by omega) (by omega)) _ _ (ht14 _ _ (ht11 _ _ (ht6 _ _ (hid_ _ _ (hs.mem.rdrow (.s (.s .z)) (.c (.s .z) .n))))))) (hs.mem.del (.s .z)) (by omega) (by simp only [maxLen]; omega)) rfl ?_
   have hk17 := zBE (bs := x) (R := ((zJ x ((gTx x).2)).2)) (e := 3) (by omega)
   refine goL 0 [] [7, 6, 2] .n ?_
   have hQ_ := zL9 (x := x) (by omega)
   have hT_ : Tr x (id v3) (⟨0, 0⟩ : Rs).p (id (zAQ (zAQ u8 x.length (gR1 x).p ((zD x (4294967295#64) (gR1 x)).2).p) x.length ((gTx x).2).p ((zJ x ((gTx x).2)).2).p)) (zBk x).2.p := by rw [hQ_]; dsimp only; exact (fun w T h => (zEO (bs := x) (R := ((zJ x ((gTx x).2)).2)) (e := 3)) w T ((fun w T h => (zW (p := ((gTx x).2).p) (p' := ((zJ x ((gTx x).2)).2).p) (by omega) (by omega)) w T ((fun w T h => ht14 w T ((fun w T h => ht11 w T ((fun w T h => ht6 w T (Tr.refl w T h)) w T h)) w T h)) w T h)) w T h))
   refine cl (·.reblk .z (cs' := [(id (zAQ (zAQ u8 x.length (gR1 x).p ((zD x (4294967295#64) (gR1 x)).2).p) x.length ((gTx x).2).p ((zJ x ((gTx x).2)).2).p)), nI ((zBk x).2.p), nI ((zBk x).2.e)]) (by rw [hQ_])) ?_
   refine cl (·.reblk (.s .z) (cs' := [zI ((gTx x).1), zI ((zBk x).1), zI (-1), .slice none 0 0]) (by rw [hQ_])) ?_
   refine cl (·.reorder (.c (.s .z) (.c .z (.c .z (.c .z .n))))) ?_
   intro a w hs; exact ⟨(id (zAQ (zAQ u8 x.length (gR1 x).p ((zD x (4294967295#64) (gR1 x)).2).p) x.length ((gTx x).2).p ((zJ x ((gTx x).2)).2).p)), hs.sub (.c rfl (.c rfl (.c rfl .n))), hT_⟩
  clear hs w a; rintro a w ⟨q3, hs, hJ18⟩
  have hr_q3 := zH7 x
  revert a w hs
  refine go 3 [0] [54, 52, 2, 6, 7] (.c (.s .z) .n) ⟨rfl, ?_⟩
  intro a w hs; refine zA0 hs rfl underlying2 underlying130 rfl ?_
  intro a w hs; refine zAA hs (.c rfl (.c rfl .n)) call62 (.c (.s .z) .n) (zDC (BitVec.ofInt 64 ((gTx x).1)) g4 _ x ((zBk x).2) _ (hJ18 _ _ (hid_ _ _ (hs.mem.rdrow (.s (.s .z)) (.c (.s .z) .n)))) (hs.mem.del (.s .z)) (by omega) (by simp only [maxLen]; omega)) rfl ?_
  have hk19 := zAw (X := BitVec.ofInt 64 ((gTx x).1)) (bs := x) (R := ((zBk x).2)) (by omega)
  intro a w hs; refine zAh (X := (zD x (BitVec.ofInt 64 ((gTx x).1)) ((zBk x).2)).1) hs rfl rfl underlying130 underlying2 rfl ?_
  have hot := zGs (x := (gTx x).1) (by omega) (by omega)
  refine cl (·.recell (v' := nI ((zD x (BitVec.ofInt 64 (gTx x).1) (zBk x).2).1.toNat)) (Option.some.inj (congrArg (fun z => some (Value.int .i64 z)) (zDR (by omega))))) ?_
  refine zHA 10 3 [] [59, 8, 2, 6, 7] .n ?_
  intro a w hs; refine zNK (fun a w => ∃ q4 : Value, St 101 [(2, pt g1 0), (6, pt g4 0), (7, pt g12 0)] w0 [] [blk g4 [q4, nI (((gBx x).2).p), nI (((gBx x).2).e)] 128, blk g12 [zI ((gTx x).1), zI ((zBk x).1), zI ((gBx x).1), .slice none 0 0] 61, row v3 5 1 x.length (zF x), blk g1 [zI 0, zI 0, zI 0, .slice none 0 0] 61] a w ∧ Tr x (id v3) (⟨0, 0⟩ : Rs).p q4 (gBx x).2.p) ?_ ?_
  ·
   revert a w hs; refine ifG rfl (fun c_20 => ?_) (fun c_20 => ?_)
   ·
    refine go 6 [0, 0] [2, 6, 7] (.c (.s .z) .n) ⟨rfl, (by omega), rfl, ?_⟩
    have hQ_ := zOl (x := x) (by omega)
    have hT_ : Tr x (id v3) (⟨0, 0⟩ : Rs).p (zAQ q3 x.length ((zBk x).2).p ((zD x (BitVec.ofInt 64 ((gTx x).1)) ((zBk x).2)).2).p) (gBx x).2.p := by rw [hQ_]; dsimp only; exact (fun w T h => (zW (p := ((zBk x).2).p) (p' := ((zD x (BitVec.ofInt 64 ((gTx x).1)) ((zBk x).2)).2).p) (by omega) (by omega)) w T ((fun w T h => hJ18 w T (Tr.refl w T h)) w T h))
    refine cl (·.reblk (.s .z) (cs' := [(zAQ q3 x.length ((zBk x).2).p ((zD x (BitVec.ofInt 64 ((gTx x).1)) ((zBk x).2)).2).p), nI ((gBx x).2.p), nI ((gBx x).2.e)]) (by rw [hQ_])) ?_
    refine cl (·.reblk (.s .z) (cs' := [zI ((gTx x).1), zI ((zBk x).1), zI ((gBx x).1), .slice none 0 0]) (by rw [hQ_])) ?_
    refine cl (·.reorder (.c (.s .z) (.c .z (.c .z (.c .z .n))))) ?_
    intro a w hs; exact ⟨(zAQ q3 x.length ((zBk x).2).p ((zD x (BitVec.ofInt 64 ((gTx x).1)) ((zBk x).2)).2).p), hs.sub (.c rfl (.c rfl (.c rfl .n))), hT_⟩
   refine go 0 [] [2, 6, 7] .n ?_
   have hQ_ := zPZ (x := x) (by omega)
   have hT_ : Tr x (id v3) (⟨0, 0⟩ : Rs).p (zAQ q3 x.length ((zBk x).2).p ((zD x (BitVec.ofInt 64 ((gTx x).1)) ((zBk x).2)).2).p) (gBx x).2.p := by rw [hQ_]; dsimp only; exact (fun w T h => (zW (p := ((zBk x).2).p) (p' := ((zD x (BitVec.ofInt 64 ((gTx x).1)) ((zBk x).2)).2).p) (by omega) (by omega)) w T ((fun w T h => hJ18 w T (Tr.refl w T h)) w T h))
   refine cl (·.reblk .z (cs' := [(zAQ q3 x.length ((zBk x).2).p ((zD x (BitVec.ofInt 64 ((gTx x).1)) ((zBk x).2)).2).p), nI ((gBx x).2.p), nI ((gBx x).2.e)]) (by rw [hQ_])) ?_
   refine cl (·.reblk (.s .z) (cs' := [zI ((gTx x).1), zI ((zBk x).1), zI ((gBx x).1), .slice none 0 0]) (by rw [hQ_])) ?_
   refine cl (·.reorder (.c (.s .z) (.c .z (.c .z (.c .z .n))))) ?_
   intro a w hs; exact ⟨(zAQ q3 x.length ((zBk x).2).p ((zD x (BitVec.ofInt 64 ((gTx x).1)) ((zBk x).2)).2).p), hs.sub (.c rfl (.c rfl (.c rfl .n))), hT_⟩
  clear hs w a; rintro a w ⟨q4, hs, hJ21⟩
  have hr_q4 := zDT x
  revert a w hs
  refine go 1 [] [65, 2, 6, 7] .n ?_
  intro a w hs; refine zAA hs (.c rfl (.c rfl .n)) call62 (.c .z .n) (zDC (128#64) g4 _ x ((gBx x).2) _ (hJ21 _ _ (hid_ _ _ (hs.mem.rdrow (.s (.s .z)) (.c .z .n)))) (hs.mem.del .z) (by omega) (by simp only [maxLen]; omega)) rfl ?_
  have hk22 := zAw (X := 128#64) (bs := x) (R := ((gBx x).2)) (by omega)
  intro a w hs; refine zAh (X := (zD x (128#64) ((gBx x).2)).1) hs rfl rfl underlying130 underlying3 rfl ?_
  have hnm := zOb x (gBx x).2
  refine cl (·.recell (v' := nI (gN x (gBx x).2)) (Option.some.inj (congrArg (fun z => some (Value.int .i64 z)) (zDR (show (gN x (gBx x).2) ≤ _ by omega))))) ?_
  refine goL 3 [] [11, 10, 9, 2, 6, 7] .n ?_
  have ht23 : ∀ w' T, Rd w' T q4 1 (x.length - (gBx x).2.p) (zF (x.drop (gBx x).2.p)) → Rd w' T (zAQ q4 x.length ((gBx x).2).p ((zD x (128#64) ((gBx x).2)).2).p) 1 (x.length - (gD x (gBx x).2 0).2.2.p) (zF (x.drop (gD x (gBx x).2 0).2.2.p)) := by rw [zDk]; try dsimp only; exact (zW (p := ((gBx x).2).p) (p' := ((zD x (128#64) ((gBx x).2)).2).p) (by omega) (by omega))
  intro a w hs; replace hs := hs.reblk .z (cs' := [(zAQ q4 x.length ((gBx x).2).p ((zD x (128#64) ((gBx x).2)).2).p), nI ((gD x (gBx x).2 0).2.2.p), nI ((gD x (gBx x).2 0).2.2.e)]) (by rw [zDk]; try dsimp only)
  replace hs := hs.reslot (d := 10) (v := zI (-1)) (v' := zI ((gD x (gBx x).2 0).2.1)) rfl (Option.some.inj (by rw [zDk]))
  replace hs := hs.addNil 112 9
  replace hs := hs.rerow .z (m' := (gD x (gBx x).2 0).1.length) (xs' := ((gD x (gBx x).2 0).1.flatMap zDG)) (by rw [zDk]; rfl) (by rw [zDk]; rfl)
  replace hs := hs.reorder (.c (.s .z) (.c (.s .z) (.c .z (.c .z (.c .z .n)))))
  have hT0 : Tr x (id v3) (⟨0, 0⟩ : Rs).p (zAQ q4 x.length ((gBx x).2).p ((zD x (128#64) ((gBx x).2)).2).p) (gD x (gBx x).2 0).2.2.p := (fun w T h => ht23 w T ((fun w T h => hJ21 w T (Tr.refl w T h)) w T h))
  refine zCA (fun mm_ a w => ∃ i : Nat, ∃ q : Value, ∃ p : Value, mm_ = (gN x (gBx x).2) - i ∧ St 101 [(2, pt g1 0), (6, pt g4 0), (7, pt g12 0), (9, nI (gN x (gBx x).2)), (10, zI ((gD x (gBx x).2 i).2.1)), (11, zI (i : Int))] w0 [] [blk g4 [q, nI (((gD x (gBx x).2 i).2.2).p), nI (((gD x (gBx x).2 i).2.2).e)] 128, blk g12 [zI ((gTx x).1), zI ((zBk x).1), zI ((gBx x).1), p] 61, row p 112 9 ((gD x (gBx x).2 i).1.length) ((gD x (gBx x).2 i).1.flatMap zDG), row v3 5 1 x.length (zF x), blk g1 [zI 0, zI 0, zI 0, .slice none 0 0] 61] a w ∧ i ≤ (gN x (gBx x).2) ∧ Tr x (id v3) (⟨0, 0⟩ : Rs).p q (gD x (gBx x).2 i).2.2.p) ⟨0, (zAQ q4 x.length ((gBx x).2).p ((zD x (128#64) ((gBx x).2)).2).p), .slice none 0 0, rfl, hs.sub (.c rfl (.c rfl (.c rfl (.c rfl (.c rfl (.c rfl .n)))))), by omega, hT0⟩ ?_
  clear hs w a; rintro mm_ a w ⟨i, q, p, rfl, hs, hI1_0, hI1_1⟩
  have hDi := zQM (zDT x).1 i
  revert a w hs
  refine go 4 [] [71, 2, 6, 7, 9, 10, 11] .n ?_
  intro a w hs; refine zAB (b := decide ((i : Int) < (((gN x (gBx x).2) : Nat) : Int))) (fun c_24 => ?_) (fun c_24 => ?_)
  ·
   rw [c_24] at hs
   replace c_24 := of_decide_eq_true c_24
   revert a w hs
   refine go 6 [0] [77, 2, 6, 7, 9, 10, 11] (.c .z .n) ⟨rfl, ?_⟩
   refine ifG rfl (fun c_25 => ?_) (fun c_25 => ?_)
   ·
    have hdl := zOy (zDT x).1 (i := i) (by omega)
    refine go 2 [] [82, 81, 2, 6, 7, 9, 11] .n ?_
    intro a w hs; refine zO hs (.c rfl (.c rfl .n)) call65 (.c .z .n) (zMA g4 _ x ((gD x (gBx x).2 i).2.2) ((gD x (gBx x).2 i).2.1) _ (hI1_1 _ _ (hid_ _ _ (hs.mem.rdrow (.s (.s (.s .z))) (.c .z .n)))) (hs.mem.del .z) (by omega) (by simp only [maxLen]; omega) (by omega)) rfl ?_; clear hs w a; rintro _ _ a w ⟨u26, rfl, rfl, ht27⟩ hs
    have hk28 := zHM (bs := x) (last := ((gD x (gBx x).2 i).2.1)) (R := ((gD x (gBx x).2 i).2.2)) (by omega)
    revert a w hs
    refine goL 10 [0, 1, 0] [89, 87, 12, 2, 6, 7, 9, 11] (.c (.s .z) .n) (fun g29 => ⟨rfl, rfl, rfl, fun g30 => ?_⟩)
    intro a w hs; refine zAj (size := 9) (bytes := 72) hs rfl rfl (.s (.s (.s (.s .z)))) (zAa (m := 1) (size := 9) (hs.mem.del .z) rfl (by decide)) (by simp [Value.oneCell']) underlying59 (i := Tryz.t112) rfl rfl rfl rfl rfl (by decide) (by omega) (by simp only [maxLen]; omega) rfl ?_; intro v31
    refine cl (·.drop (.c (.s .z) .n)) ?_
    refine goL 1 [] [91, 90, 12, 2, 6, 7, 9, 11] .n ?_
    intro a w hs; refine zB4 hs rfl rfl (.s (.s .z)) (.s (.s (.s .z))) (zM (hs.mem.del .z)).isSl.one sizeOf59 ?_
    refine goL 6 [0] [11, 10, 2, 6, 7, 9] (.c (.s (.s .z)) .n) ⟨rfl, (by omega), ?_⟩
    have hN_ := zLE (bs := x) (R := (gBx x).2) (i := i) (by omega)
    have hT_ : Tr x (id v3) (⟨0, 0⟩ : Rs).p u26 (gD x (gBx x).2 (i + 1)).2.2.p := by rw [hN_]; dsimp only; exact (fun w T h => ht27 w T ((fun w T h => hI1_1 w T (Tr.refl w T h)) w T h))
    intro a w hs; replace hs := hs.rerow (.s (.s .z)) (m' := (gD x (gBx x).2 (i + 1)).1.length) (xs' := ((gD x (gBx x).2 (i + 1)).1.flatMap zDG)) (by rw [hN_]; simp only [List.length_append, List.length_singleton]) (by rw [hN_]; dsimp only; rw [List.flatMap_append]; rfl)
    replace hs := hs.reblk (.s (.s (.s .z))) (cs' := [u26, nI ((gD x (gBx x).2 (i + 1)).2.2.p), nI ((gD x (gBx x).2 (i + 1)).2.2.e)]) (by rw [hN_])
    replace hs := hs.reslot (d := 10) (v := zI (((zAM x ((gD x (gBx x).2 i).2.1) ((gD x (gBx x).2 i).2.2)).1).id)) (v' := zI ((gD x (gBx x).2 (i + 1)).2.1)) rfl (Option.some.inj (by rw [hN_]))
    replace hs := hs.drop (.c (.s (.s .z)) .n)
    replace hs := hs.reorder (.c .z (.c (.s .z) (.c .z (.c .z (.c .z .n)))))
    refine ⟨_, ?_, i + 1, u26, v31, rfl, hs.sub (.c rfl (.c rfl (.c rfl (.c rfl (.c rfl (.c rfl .n)))))), by omega, hT_⟩
    omega
   refine go 1 [] [94, 2, 7] .n ?_
   have hE_ := zMN (bs := x) (R := (gBx x).2) (i := i) (zDT x).1 (by omega) (by omega)
   intro a w hs; refine zH (v := nI (zDt x ((gD x (gBx x).2 i).2.2))) hs (.c rfl .n) call66 (zHI g4 _ x ((gD x (gBx x).2 i).2.2) _ (hI1_1 _ _ (hid_ _ _ (zM (hs.mem.del (.s (.s (.s .z))))))) (hs.mem.del .z) (by omega) (by simp only [maxLen]; omega)) rfl ?_
   refine cl (·.recell (v' := nI (gEx x)) (Option.some.inj (by rw [zKZ hE_.1]))) ?_
   refine goL 3 [] [97, 14, 2, 7] .n ?_
   refine ifG rfl (fun c_32 => ?_) (fun c_32 => ?_)
   ·
    refine go 4 [0] [3, 2] (.c (.s (.s (.s (.s .z)))) .n) ⟨rfl, ?_⟩
    refine cl (·.addNil 112 9) ?_
    have hG_ := zD2 (bs := bs) (by omega) ho (by omega)
    intro a w hs; exact zBV hs rfl rfl rfl (.s .z) (.z (.c (.c (.c (.c .n))))) isAgg61 sizeOf61 (.c (.s (.s (.s (.s (.s .z))))) (.c (.s (.s (.s (.s .z)))) (.c (.s (.s (.s .z))) (.c (.s (.s .z)) (.c (.s .z) .n))))) (by rw [hG_]; dsimp only; exact ⟨.slice none 0 0, rfl, rfl⟩)
   have hS_ := hE_.2 (zJV ((zKZ hE_.1).trans (by omega)))
   intro a w hs; rw [zDl] at hS_
   replace hs := hs.rerow (.s (.s .z)) (m' := (gSx x).1.length) (xs' := ((gSx x).1.flatMap zDG)) (by rw [hS_]) (by rw [hS_])
   revert a w hs
   refine go 1 [0] [100, 2] (.c (.s (.s .z)) .n) ⟨rfl, ?_⟩
   intro a w hs; refine zA4 hs rfl rfl (.s (.s (.s (.s .z)))) (.z (.c (.c (.c (.c .n))))) (zN rfl (zN rfl (zN rfl (zN (zM (hs.mem.del (.s .z))).isSl.one zBS)))) sizeOf61 rfl ?_
   refine goL 1 [] [3, 2] .n ?_
   have hG_ := zE9 (bs := bs) (by omega) ho (by omega)
   intro a w hs; exact zBV hs rfl rfl rfl .z (.z (.c (.c (.c (.c .n))))) isAgg61 sizeOf61 (.c (.s (.s (.s (.s .z)))) (.c (.s (.s (.s .z))) (.c (.s .z) (.c .z .n)))) (by rw [hG_]; dsimp only; exact ⟨p, rfl, rfl⟩)
  rw [c_24] at hs
  replace c_24 := of_decide_eq_false c_24
  revert a w hs
  refine go 8 [] [94, 2, 7] .n ?_
  have hE_ := zMN (bs := x) (R := (gBx x).2) (i := i) (zDT x).1 (by omega) (by omega)
  intro a w hs; refine zH (v := nI (zDt x ((gD x (gBx x).2 i).2.2))) hs (.c rfl .n) call66 (zHI g4 _ x ((gD x (gBx x).2 i).2.2) _ (hI1_1 _ _ (hid_ _ _ (zM (hs.mem.del (.s (.s (.s .z))))))) (hs.mem.del .z) (by omega) (by simp only [maxLen]; omega)) rfl ?_
  refine cl (·.recell (v' := nI (gEx x)) (Option.some.inj (by rw [zKZ hE_.1]))) ?_
  refine goL 3 [] [97, 14, 2, 7] .n ?_
  refine ifG rfl (fun c_33 => ?_) (fun c_33 => ?_)
  ·
   refine go 4 [0] [3, 2] (.c (.s (.s (.s (.s .z)))) .n) ⟨rfl, ?_⟩
   refine cl (·.addNil 112 9) ?_
   have hG_ := zD2 (bs := bs) (by omega) ho (by omega)
   intro a w hs; exact zBV hs rfl rfl rfl (.s .z) (.z (.c (.c (.c (.c .n))))) isAgg61 sizeOf61 (.c (.s (.s (.s (.s (.s .z))))) (.c (.s (.s (.s (.s .z)))) (.c (.s (.s (.s .z))) (.c (.s (.s .z)) (.c (.s .z) .n))))) (by rw [hG_]; dsimp only; exact ⟨.slice none 0 0, rfl, rfl⟩)
  have hS_ := hE_.2 (zJV ((zKZ hE_.1).trans (by omega)))
  intro a w hs; rw [zDl] at hS_
  replace hs := hs.rerow (.s (.s .z)) (m' := (gSx x).1.length) (xs' := ((gSx x).1.flatMap zDG)) (by rw [hS_]) (by rw [hS_])
  revert a w hs
  refine go 1 [0] [100, 2] (.c (.s (.s .z)) .n) ⟨rfl, ?_⟩
  intro a w hs; refine zA4 hs rfl rfl (.s (.s (.s (.s .z)))) (.z (.c (.c (.c (.c .n))))) (zN rfl (zN rfl (zN rfl (zN (zM (hs.mem.del (.s .z))).isSl.one zBS)))) sizeOf61 rfl ?_
  refine goL 1 [] [3, 2] .n ?_
  have hG_ := zE9 (bs := bs) (by omega) ho (by omega)
  intro a w hs; exact zBV hs rfl rfl rfl .z (.z (.c (.c (.c (.c .n))))) isAgg61 sizeOf61 (.c (.s (.s (.s (.s .z)))) (.c (.s (.s (.s .z))) (.c (.s .z) (.c .z .n)))) (by rw [hG_]; dsimp only; exact ⟨p, rfl, rfl⟩)
 rw [c_16] at hs
 replace c_16 := of_decide_eq_false c_16
 revert a w hs
 refine goF 6 4 [0] [49, 7, 6, 2] (.c .z .n) ⟨rfl, ?_⟩
 intro a w hs; refine zNK (fun a w => ∃ q3 : Value, St 101 [(2, pt g1 0), (6, pt g4 0), (7, pt g12 0)] w0 [] [blk g4 [q3, nI (((zBk x).2).p), nI (((zBk x).2).e)] 128, blk g12 [zI ((gTx x).1), zI ((zBk x).1), zI (-1), .slice none 0 0] 61, row v3 5 1 x.length (zF x), blk g1 [zI 0, zI 0, zI 0, .slice none 0 0] 61] a w ∧ Tr x (id v3) (⟨0, 0⟩ : Rs).p q3 (zBk x).2.p) ?_ ?_
 ·
  revert a w hs; refine ifG rfl (fun c_34 => ?_) (fun c_34 => ?_)
  ·
   refine go 1 [] [50, 7, 6, 2] .n ?_
   intro a w hs; refine zAA hs (.c rfl (.c rfl .n)) call64 (.c (.s .z) .n) (zDF 3 g4 _ x ((zJ x ((gTx x).2)).2) _ ((zW (p := ((gTx x).2).p) (p' := ((zJ x ((gTx x).2)).2).p) (by omega) (by omega)) _ _ (ht14 _ _ (ht11 _ _ (ht6 _ _ (hid_ _ _ (hs.mem.rdrow (.s (.s .z)) (.c (.s .z) .n))))))) (hs.mem.del (.s .z)) (by omega) (by simp only [maxLen]; omega)) rfl ?_
   have hk35 := zBE (bs := x) (R := ((zJ x ((gTx x).2)).2)) (e := 3) (by omega)
   refine goL 0 [] [7, 6, 2] .n ?_
   have hQ_ := zL9 (x := x) (by omega)
   have hT_ : Tr x (id v3) (⟨0, 0⟩ : Rs).p (id (zAQ (zAQ u8 x.length (gR1 x).p ((zD x (4294967295#64) (gR1 x)).2).p) x.length ((gTx x).2).p ((zJ x ((gTx x).2)).2).p)) (zBk x).2.p := by rw [hQ_]; dsimp only; exact (fun w T h => (zEO (bs := x) (R := ((zJ x ((gTx x).2)).2)) (e := 3)) w T ((fun w T h => (zW (p := ((gTx x).2).p) (p' := ((zJ x ((gTx x).2)).2).p) (by omega) (by omega)) w T ((fun w T h => ht14 w T ((fun w T h => ht11 w T ((fun w T h => ht6 w T (Tr.refl w T h)) w T h)) w T h)) w T h)) w T h))
   refine cl (·.reblk .z (cs' := [(id (zAQ (zAQ u8 x.length (gR1 x).p ((zD x (4294967295#64) (gR1 x)).2).p) x.length ((gTx x).2).p ((zJ x ((gTx x).2)).2).p)), nI ((zBk x).2.p), nI ((zBk x).2.e)]) (by rw [hQ_])) ?_
   refine cl (·.reblk (.s .z) (cs' := [zI ((gTx x).1), zI ((zBk x).1), zI (-1), .slice none 0 0]) (by rw [hQ_])) ?_
   refine cl (·.reorder (.c (.s .z) (.c .z (.c .z (.c .z .n))))) ?_
   intro a w hs; exact ⟨(id (zAQ (zAQ u8 x.length (gR1 x).p ((zD x (4294967295#64) (gR1 x)).2).p) x.length ((gTx x).2).p ((zJ x ((gTx x).2)).2).p)), hs.sub (.c rfl (.c rfl (.c rfl .n))), hT_⟩
  refine go 0 [] [7, 6, 2] .n ?_
  have hQ_ := zTW (x := x) (by omega)
  have hT_ : Tr x (id v3) (⟨0, 0⟩ : Rs).p (zAQ (zAQ u8 x.length (gR1 x).p ((zD x (4294967295#64) (gR1 x)).2).p) x.length ((gTx x).2).p ((zJ x ((gTx x).2)).2).p) (zBk x).2.p := by rw [hQ_]; dsimp only; exact (fun w T h => (zW (p := ((gTx x).2).p) (p' := ((zJ x ((gTx x).2)).2).p) (by omega) (by omega)) w T ((fun w T h => ht14 w T ((fun w T h => ht11 w T ((fun w T h => ht6 w T (Tr.refl w T h)) w T h)) w T h)) w T h))
  refine cl (·.reblk (.s .z) (cs' := [(zAQ (zAQ u8 x.length (gR1 x).p ((zD x (4294967295#64) (gR1 x)).2).p) x.length ((gTx x).2).p ((zJ x ((gTx x).2)).2).p), nI ((zBk x).2.p), nI ((zBk x).2.e)]) (by rw [hQ_])) ?_
  refine cl (·.reblk (.s .z) (cs' := [zI ((gTx x).1), zI ((zBk x).1), zI (-1), .slice none 0 0]) (by rw [hQ_])) ?_
  refine cl (·.reorder (.c (.s .z) (.c .z (.c .z (.c .z .n))))) ?_
  intro a w hs; exact ⟨(zAQ (zAQ u8 x.length (gR1 x).p ((zD x (4294967295#64) (gR1 x)).2).p) x.length ((gTx x).2).p ((zJ x ((gTx x).2)).2).p), hs.sub (.c rfl (.c rfl (.c rfl .n))), hT_⟩
 clear hs w a; rintro a w ⟨q3, hs, hJ36⟩
 have hr_q3 := zH7 x
 revert a w hs
 refine go 3 [0] [54, 52, 2, 6, 7] (.c (.s .z) .n) ⟨rfl, ?_⟩
 intro a w hs; refine zA0 hs rfl underlying2 underlying130 rfl ?_
 intro a w hs; refine zAA hs (.c rfl (.c rfl .n)) call62 (.c (.s .z) .n) (zDC (BitVec.ofInt 64 ((gTx x).1)) g4 _ x ((zBk x).2) _ (hJ36 _ _ (hid_ _ _ (hs.mem.rdrow (.s (.s .z)) (.c (.s .z) .n)))) (hs.mem.del (.s .z)) (by omega) (by simp only [maxLen]; omega)) rfl ?_
 have hk37 := zAw (X := BitVec.ofInt 64 ((gTx x).1)) (bs := x) (R := ((zBk x).2)) (by omega)
 intro a w hs; refine zAh (X := (zD x (BitVec.ofInt 64 ((gTx x).1)) ((zBk x).2)).1) hs rfl rfl underlying130 underlying2 rfl ?_
 have hot := zGs (x := (gTx x).1) (by omega) (by omega)
 refine cl (·.recell (v' := nI ((zD x (BitVec.ofInt 64 (gTx x).1) (zBk x).2).1.toNat)) (Option.some.inj (congrArg (fun z => some (Value.int .i64 z)) (zDR (by omega))))) ?_
 refine zHA 10 3 [] [59, 8, 2, 6, 7] .n ?_
 intro a w hs; refine zNK (fun a w => ∃ q4 : Value, St 101 [(2, pt g1 0), (6, pt g4 0), (7, pt g12 0)] w0 [] [blk g4 [q4, nI (((gBx x).2).p), nI (((gBx x).2).e)] 128, blk g12 [zI ((gTx x).1), zI ((zBk x).1), zI ((gBx x).1), .slice none 0 0] 61, row v3 5 1 x.length (zF x), blk g1 [zI 0, zI 0, zI 0, .slice none 0 0] 61] a w ∧ Tr x (id v3) (⟨0, 0⟩ : Rs).p q4 (gBx x).2.p) ?_ ?_
 ·
  revert a w hs; refine ifG rfl (fun c_38 => ?_) (fun c_38 => ?_)
  ·
   refine go 6 [0, 0] [2, 6, 7] (.c (.s .z) .n) ⟨rfl, (by omega), rfl, ?_⟩
   have hQ_ := zOl (x := x) (by omega)
   have hT_ : Tr x (id v3) (⟨0, 0⟩ : Rs).p (zAQ q3 x.length ((zBk x).2).p ((zD x (BitVec.ofInt 64 ((gTx x).1)) ((zBk x).2)).2).p) (gBx x).2.p := by rw [hQ_]; dsimp only; exact (fun w T h => (zW (p := ((zBk x).2).p) (p' := ((zD x (BitVec.ofInt 64 ((gTx x).1)) ((zBk x).2)).2).p) (by omega) (by omega)) w T ((fun w T h => hJ36 w T (Tr.refl w T h)) w T h))
   refine cl (·.reblk (.s .z) (cs' := [(zAQ q3 x.length ((zBk x).2).p ((zD x (BitVec.ofInt 64 ((gTx x).1)) ((zBk x).2)).2).p), nI ((gBx x).2.p), nI ((gBx x).2.e)]) (by rw [hQ_])) ?_
   refine cl (·.reblk (.s .z) (cs' := [zI ((gTx x).1), zI ((zBk x).1), zI ((gBx x).1), .slice none 0 0]) (by rw [hQ_])) ?_
   refine cl (·.reorder (.c (.s .z) (.c .z (.c .z (.c .z .n))))) ?_
   intro a w hs; exact ⟨(zAQ q3 x.length ((zBk x).2).p ((zD x (BitVec.ofInt 64 ((gTx x).1)) ((zBk x).2)).2).p), hs.sub (.c rfl (.c rfl (.c rfl .n))), hT_⟩
  refine go 0 [] [2, 6, 7] .n ?_
  have hQ_ := zPZ (x := x) (by omega)
  have hT_ : Tr x (id v3) (⟨0, 0⟩ : Rs).p (zAQ q3 x.length ((zBk x).2).p ((zD x (BitVec.ofInt 64 ((gTx x).1)) ((zBk x).2)).2).p) (gBx x).2.p := by rw [hQ_]; dsimp only; exact (fun w T h => (zW (p := ((zBk x).2).p) (p' := ((zD x (BitVec.ofInt 64 ((gTx x).1)) ((zBk x).2)).2).p) (by omega) (by omega)) w T ((fun w T h => hJ36 w T (Tr.refl w T h)) w T h))
  refine cl (·.reblk .z (cs' := [(zAQ q3 x.length ((zBk x).2).p ((zD x (BitVec.ofInt 64 ((gTx x).1)) ((zBk x).2)).2).p), nI ((gBx x).2.p), nI ((gBx x).2.e)]) (by rw [hQ_])) ?_
  refine cl (·.reblk (.s .z) (cs' := [zI ((gTx x).1), zI ((zBk x).1), zI ((gBx x).1), .slice none 0 0]) (by rw [hQ_])) ?_
  refine cl (·.reorder (.c (.s .z) (.c .z (.c .z (.c .z .n))))) ?_
  intro a w hs; exact ⟨(zAQ q3 x.length ((zBk x).2).p ((zD x (BitVec.ofInt 64 ((gTx x).1)) ((zBk x).2)).2).p), hs.sub (.c rfl (.c rfl (.c rfl .n))), hT_⟩
 clear hs w a; rintro a w ⟨q4, hs, hJ39⟩
 have hr_q4 := zDT x
 revert a w hs
 refine go 1 [] [65, 2, 6, 7] .n ?_
 intro a w hs; refine zAA hs (.c rfl (.c rfl .n)) call62 (.c .z .n) (zDC (128#64) g4 _ x ((gBx x).2) _ (hJ39 _ _ (hid_ _ _ (hs.mem.rdrow (.s (.s .z)) (.c .z .n)))) (hs.mem.del .z) (by omega) (by simp only [maxLen]; omega)) rfl ?_
 have hk40 := zAw (X := 128#64) (bs := x) (R := ((gBx x).2)) (by omega)
 intro a w hs; refine zAh (X := (zD x (128#64) ((gBx x).2)).1) hs rfl rfl underlying130 underlying3 rfl ?_
 have hnm := zOb x (gBx x).2
 refine cl (·.recell (v' := nI (gN x (gBx x).2)) (Option.some.inj (congrArg (fun z => some (Value.int .i64 z)) (zDR (show (gN x (gBx x).2) ≤ _ by omega))))) ?_
 refine goL 3 [] [11, 10, 9, 2, 6, 7] .n ?_
 have ht41 : ∀ w' T, Rd w' T q4 1 (x.length - (gBx x).2.p) (zF (x.drop (gBx x).2.p)) → Rd w' T (zAQ q4 x.length ((gBx x).2).p ((zD x (128#64) ((gBx x).2)).2).p) 1 (x.length - (gD x (gBx x).2 0).2.2.p) (zF (x.drop (gD x (gBx x).2 0).2.2.p)) := by rw [zDk]; try dsimp only; exact (zW (p := ((gBx x).2).p) (p' := ((zD x (128#64) ((gBx x).2)).2).p) (by omega) (by omega))
 intro a w hs; replace hs := hs.reblk .z (cs' := [(zAQ q4 x.length ((gBx x).2).p ((zD x (128#64) ((gBx x).2)).2).p), nI ((gD x (gBx x).2 0).2.2.p), nI ((gD x (gBx x).2 0).2.2.e)]) (by rw [zDk]; try dsimp only)
 replace hs := hs.reslot (d := 10) (v := zI (-1)) (v' := zI ((gD x (gBx x).2 0).2.1)) rfl (Option.some.inj (by rw [zDk]))
 replace hs := hs.addNil 112 9
 replace hs := hs.rerow .z (m' := (gD x (gBx x).2 0).1.length) (xs' := ((gD x (gBx x).2 0).1.flatMap zDG)) (by rw [zDk]; rfl) (by rw [zDk]; rfl)
 replace hs := hs.reorder (.c (.s .z) (.c (.s .z) (.c .z (.c .z (.c .z .n)))))
 have hT0 : Tr x (id v3) (⟨0, 0⟩ : Rs).p (zAQ q4 x.length ((gBx x).2).p ((zD x (128#64) ((gBx x).2)).2).p) (gD x (gBx x).2 0).2.2.p := (fun w T h => ht41 w T ((fun w T h => hJ39 w T (Tr.refl w T h)) w T h))
 refine zCA (fun mm_ a w => ∃ i : Nat, ∃ q : Value, ∃ p : Value, mm_ = (gN x (gBx x).2) - i ∧ St 101 [(2, pt g1 0), (6, pt g4 0), (7, pt g12 0), (9, nI (gN x (gBx x).2)), (10, zI ((gD x (gBx x).2 i).2.1)), (11, zI (i : Int))] w0 [] [blk g4 [q, nI (((gD x (gBx x).2 i).2.2).p), nI (((gD x (gBx x).2 i).2.2).e)] 128, blk g12 [zI ((gTx x).1), zI ((zBk x).1), zI ((gBx x).1), p] 61, row p 112 9 ((gD x (gBx x).2 i).1.length) ((gD x (gBx x).2 i).1.flatMap zDG), row v3 5 1 x.length (zF x), blk g1 [zI 0, zI 0, zI 0, .slice none 0 0] 61] a w ∧ i ≤ (gN x (gBx x).2) ∧ Tr x (id v3) (⟨0, 0⟩ : Rs).p q (gD x (gBx x).2 i).2.2.p) ⟨0, (zAQ q4 x.length ((gBx x).2).p ((zD x (128#64) ((gBx x).2)).2).p), .slice none 0 0, rfl, hs.sub (.c rfl (.c rfl (.c rfl (.c rfl (.c rfl (.c rfl .n)))))), by omega, hT0⟩ ?_
 clear hs w a; rintro mm_ a w ⟨i, q, p, rfl, hs, hI1_0, hI1_1⟩
 have hDi := zQM (zDT x).1 i
 revert a w hs
 refine go 4 [] [71, 2, 6, 7, 9, 10, 11] .n ?_
 intro a w hs; refine zAB (b := decide ((i : Int) < (((gN x (gBx x).2) : Nat) : Int))) (fun c_42 => ?_) (fun c_42 => ?_)
 ·
  rw [c_42] at hs
  replace c_42 := of_decide_eq_true c_42
  revert a w hs
  refine go 6 [0] [77, 2, 6, 7, 9, 10, 11] (.c .z .n) ⟨rfl, ?_⟩
  refine ifG rfl (fun c_43 => ?_) (fun c_43 => ?_)
  ·
   have hdl := zOy (zDT x).1 (i := i) (by omega)
   refine go 2 [] [82, 81, 2, 6, 7, 9, 11] .n ?_
   intro a w hs; refine zO hs (.c rfl (.c rfl .n)) call65 (.c .z .n) (zMA g4 _ x ((gD x (gBx x).2 i).2.2) ((gD x (gBx x).2 i).2.1) _ (hI1_1 _ _ (hid_ _ _ (hs.mem.rdrow (.s (.s (.s .z))) (.c .z .n)))) (hs.mem.del .z) (by omega) (by simp only [maxLen]; omega) (by omega)) rfl ?_; clear hs w a; rintro _ _ a w ⟨u44, rfl, rfl, ht45⟩ hs
   have hk46 := zHM (bs := x) (last := ((gD x (gBx x).2 i).2.1)) (R := ((gD x (gBx x).2 i).2.2)) (by omega)
   revert a w hs
   refine goL 10 [0, 1, 0] [89, 87, 12, 2, 6, 7, 9, 11] (.c (.s .z) .n) (fun g47 => ⟨rfl, rfl, rfl, fun g48 => ?_⟩)
   intro a w hs; refine zAj (size := 9) (bytes := 72) hs rfl rfl (.s (.s (.s (.s .z)))) (zAa (m := 1) (size := 9) (hs.mem.del .z) rfl (by decide)) (by simp [Value.oneCell']) underlying59 (i := Tryz.t112) rfl rfl rfl rfl rfl (by decide) (by omega) (by simp only [maxLen]; omega) rfl ?_; intro v49
   refine cl (·.drop (.c (.s .z) .n)) ?_
   refine goL 1 [] [91, 90, 12, 2, 6, 7, 9, 11] .n ?_
   intro a w hs; refine zB4 hs rfl rfl (.s (.s .z)) (.s (.s (.s .z))) (zM (hs.mem.del .z)).isSl.one sizeOf59 ?_
   refine goL 6 [0] [11, 10, 2, 6, 7, 9] (.c (.s (.s .z)) .n) ⟨rfl, (by omega), ?_⟩
   have hN_ := zLE (bs := x) (R := (gBx x).2) (i := i) (by omega)
   have hT_ : Tr x (id v3) (⟨0, 0⟩ : Rs).p u44 (gD x (gBx x).2 (i + 1)).2.2.p := by rw [hN_]; dsimp only; exact (fun w T h => ht45 w T ((fun w T h => hI1_1 w T (Tr.refl w T h)) w T h))
   intro a w hs; replace hs := hs.rerow (.s (.s .z)) (m' := (gD x (gBx x).2 (i + 1)).1.length) (xs' := ((gD x (gBx x).2 (i + 1)).1.flatMap zDG)) (by rw [hN_]; simp only [List.length_append, List.length_singleton]) (by rw [hN_]; dsimp only; rw [List.flatMap_append]; rfl)
   replace hs := hs.reblk (.s (.s (.s .z))) (cs' := [u44, nI ((gD x (gBx x).2 (i + 1)).2.2.p), nI ((gD x (gBx x).2 (i + 1)).2.2.e)]) (by rw [hN_])
   replace hs := hs.reslot (d := 10) (v := zI (((zAM x ((gD x (gBx x).2 i).2.1) ((gD x (gBx x).2 i).2.2)).1).id)) (v' := zI ((gD x (gBx x).2 (i + 1)).2.1)) rfl (Option.some.inj (by rw [hN_]))
   replace hs := hs.drop (.c (.s (.s .z)) .n)
   replace hs := hs.reorder (.c .z (.c (.s .z) (.c .z (.c .z (.c .z .n)))))
   refine ⟨_, ?_, i + 1, u44, v49, rfl, hs.sub (.c rfl (.c rfl (.c rfl (.c rfl (.c rfl (.c rfl .n)))))), by omega, hT_⟩
   omega
  refine go 1 [] [94, 2, 7] .n ?_
  have hE_ := zMN (bs := x) (R := (gBx x).2) (i := i) (zDT x).1 (by omega) (by omega)
  intro a w hs; refine zH (v := nI (zDt x ((gD x (gBx x).2 i).2.2))) hs (.c rfl .n) call66 (zHI g4 _ x ((gD x (gBx x).2 i).2.2) _ (hI1_1 _ _ (hid_ _ _ (zM (hs.mem.del (.s (.s (.s .z))))))) (hs.mem.del .z) (by omega) (by simp only [maxLen]; omega)) rfl ?_
  refine cl (·.recell (v' := nI (gEx x)) (Option.some.inj (by rw [zKZ hE_.1]))) ?_
  refine goL 3 [] [97, 14, 2, 7] .n ?_
  refine ifG rfl (fun c_50 => ?_) (fun c_50 => ?_)
  ·
   refine go 4 [0] [3, 2] (.c (.s (.s (.s (.s .z)))) .n) ⟨rfl, ?_⟩
   refine cl (·.addNil 112 9) ?_
   have hG_ := zD2 (bs := bs) (by omega) ho (by omega)
   intro a w hs; exact zBV hs rfl rfl rfl (.s .z) (.z (.c (.c (.c (.c .n))))) isAgg61 sizeOf61 (.c (.s (.s (.s (.s (.s .z))))) (.c (.s (.s (.s (.s .z)))) (.c (.s (.s (.s .z))) (.c (.s (.s .z)) (.c (.s .z) .n))))) (by rw [hG_]; dsimp only; exact ⟨.slice none 0 0, rfl, rfl⟩)
  have hS_ := hE_.2 (zJV ((zKZ hE_.1).trans (by omega)))
  intro a w hs; rw [zDl] at hS_
  replace hs := hs.rerow (.s (.s .z)) (m' := (gSx x).1.length) (xs' := ((gSx x).1.flatMap zDG)) (by rw [hS_]) (by rw [hS_])
  revert a w hs
  refine go 1 [0] [100, 2] (.c (.s (.s .z)) .n) ⟨rfl, ?_⟩
  intro a w hs; refine zA4 hs rfl rfl (.s (.s (.s (.s .z)))) (.z (.c (.c (.c (.c .n))))) (zN rfl (zN rfl (zN rfl (zN (zM (hs.mem.del (.s .z))).isSl.one zBS)))) sizeOf61 rfl ?_
  refine goL 1 [] [3, 2] .n ?_
  have hG_ := zE9 (bs := bs) (by omega) ho (by omega)
  intro a w hs; exact zBV hs rfl rfl rfl .z (.z (.c (.c (.c (.c .n))))) isAgg61 sizeOf61 (.c (.s (.s (.s (.s .z)))) (.c (.s (.s (.s .z))) (.c (.s .z) (.c .z .n)))) (by rw [hG_]; dsimp only; exact ⟨p, rfl, rfl⟩)
 rw [c_42] at hs
 replace c_42 := of_decide_eq_false c_42
 revert a w hs
 refine go 8 [] [94, 2, 7] .n ?_
 have hE_ := zMN (bs := x) (R := (gBx x).2) (i := i) (zDT x).1 (by omega) (by omega)
 intro a w hs; refine zH (v := nI (zDt x ((gD x (gBx x).2 i).2.2))) hs (.c rfl .n) call66 (zHI g4 _ x ((gD x (gBx x).2 i).2.2) _ (hI1_1 _ _ (hid_ _ _ (zM (hs.mem.del (.s (.s (.s .z))))))) (hs.mem.del .z) (by omega) (by simp only [maxLen]; omega)) rfl ?_
 refine cl (·.recell (v' := nI (gEx x)) (Option.some.inj (by rw [zKZ hE_.1]))) ?_
 refine goL 3 [] [97, 14, 2, 7] .n ?_
 refine ifG rfl (fun c_51 => ?_) (fun c_51 => ?_)
 ·
  refine go 4 [0] [3, 2] (.c (.s (.s (.s (.s .z)))) .n) ⟨rfl, ?_⟩
  refine cl (·.addNil 112 9) ?_
  have hG_ := zD2 (bs := bs) (by omega) ho (by omega)
  intro a w hs; exact zBV hs rfl rfl rfl (.s .z) (.z (.c (.c (.c (.c .n))))) isAgg61 sizeOf61 (.c (.s (.s (.s (.s (.s .z))))) (.c (.s (.s (.s (.s .z)))) (.c (.s (.s (.s .z))) (.c (.s (.s .z)) (.c (.s .z) .n))))) (by rw [hG_]; dsimp only; exact ⟨.slice none 0 0, rfl, rfl⟩)
 have hS_ := hE_.2 (zJV ((zKZ hE_.1).trans (by omega)))
 intro a w hs; rw [zDl] at hS_
 replace hs := hs.rerow (.s (.s .z)) (m' := (gSx x).1.length) (xs' := ((gSx x).1.flatMap zDG)) (by rw [hS_]) (by rw [hS_])
 revert a w hs
 refine go 1 [0] [100, 2] (.c (.s (.s .z)) .n) ⟨rfl, ?_⟩
 intro a w hs; refine zA4 hs rfl rfl (.s (.s (.s (.s .z)))) (.z (.c (.c (.c (.c .n))))) (zN rfl (zN rfl (zN rfl (zN (zM (hs.mem.del (.s .z))).isSl.one zBS)))) sizeOf61 rfl ?_
 refine goL 1 [] [3, 2] .n ?_
 have hG_ := zE9 (bs := bs) (by omega) ho (by omega)
 intro a w hs; exact zBV hs rfl rfl rfl .z (.z (.c (.c (.c (.c .n))))) isAgg61 sizeOf61 (.c (.s (.s (.s (.s .z)))) (.c (.s (.s (.s .z))) (.c (.s .z) (.c .z .n)))) (by rw [hG_]; dsimp only; exact ⟨p, rfl, rfl⟩)
theorem zP9 (v : Value) (m : Nat) (bs : List zR) (w0 : World) (hb : Rd w0 [] v 1 m (zF bs)) : Calls Tryz.prog 35 #[v] w0 (Ret w0 [] fun u N => ∃ v', u = .tuple #[.agg #[zI ((zA bs).t), zI ((zA bs).tm), zI ((zA bs).b), v'], nI ((zA bs).e)] ∧ N = [row v' 112 9 (zA bs).l.length ((zA bs).l.flatMap zDG)]) := by
 by_cases hm : 4096 < m
 · exact zK5 v m bs w0 hb hm
 · cases ho : zCP bs with
   | none => exact zK6 v m bs w0 hb (by omega) ho
   | some x => exact zLc v m bs w0 hb x (by omega) ho
end Go.Proofs.YtbacobmcfelmkaaGreat
