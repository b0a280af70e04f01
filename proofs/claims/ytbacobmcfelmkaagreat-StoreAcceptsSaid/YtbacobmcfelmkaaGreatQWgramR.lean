/- Walks of datagrams off bytes: what each function does, over the program of this seat. Printed by a program of this session. -/
import Derived.Test.YtbacobmcfelmkaaGreatQWgramT
import Derived.Test.YtbacobmcfelmkaaGreatQWrec2
import Derived.Test.YtbacobmcfelmkaaGreatQWcrc
import Derived.Test.YtbacobmcfelmkaaGreatQSxGrams
import Derived.Test.YtbacobmcfelmkaaGreatQSxRecs
import Derived.Test.YtbacobmcfelmkaaGreatQSxBasB
namespace Go.Proofs.YtbacobmcfelmkaaGreat
open Tryz
open Go Go.Sx Go.RowKit
set_option linter.unusedVariables false
set_option linter.unusedSimpArgs false
set_option maxRecDepth 4000
set_option maxHeartbeats 1000000

theorem zL0 (c : zR) (g h : Nat) (v : Value) (m : Nat) (bs : List zR) (R : Rs) (t tm b : Int) (q : Value) (w0 : World) (hb : Rd w0 [g] v 1 m (zF bs)) (hg : (blk g [v, nI ((R).p), nI ((R).e)] 144).p w0) (hh : (blk h [pt g 0, zI t, zI tm, zI b, q] 101).p w0) (hle : R.p ≤ bs.length) : Calls Tryz.prog 73 #[pt h 0, bI c] w0 (Ret w0 [g] fun u N => u = .tuple #[] ∧ N = [blk g [v, nI ((zC5 c bs R).p), nI ((zC5 c bs R).e)] 144]) := by
 have hbl : bs.length = m := by have := hb.len; simpa [zF] using this
 have hbe : m ≤ maxLen := hb.le
 simp only [maxLen] at hbe
 refine zT (F0 := [(0, pt h 0), (1, bI c)]) func73 rfl rfl rfl (.c (.c .n)) (zBd hg) ?_
 refine go 3 [] [6, 0, 1] .n ?_
 intro a w hs; refine zAI hs rfl (hs.mem.keep hh (by simp [zX, blk, zFa hh hg (by decide)])) .z isAgg98 rfl ?_
 intro a w hs; refine zAA hs (.c rfl .n) call99 (.c .z .n) (zJw  g _ _ bs R _ (hs.mem.rd1 hb (.c .z .n)) (hs.mem.del .z) (by omega)) rfl ?_
 have hk1 := zCy (bs := bs) (R := R) (by omega)
 refine goL 2 [] [10, 0] .n ?_
 refine ifG rfl (fun c_2 => ?_) (fun c_2 => ?_)
 ·
  refine go 3 [] [13] .n ?_
  intro a w hs; refine zAI hs rfl (hs.mem.keep hh (by simp [zX, blk, zFa hh hg (by decide)])) .z isAgg98 rfl ?_
  intro a w hs; refine zAA hs (.c rfl (.c rfl .n)) call77 (.c .z .n) (zDh 7 g _ _ bs ((zB bs R).2) _ (hs.mem.rd1 hb (.c .z .n)) (hs.mem.del .z) (by omega)) rfl ?_
  have hk3 := zBE (e := 7) (bs := bs) (R := ((zB bs R).2)) (by omega)
  refine goL 0 [] [] .n ?_
  intro a w hs; exact zHE hs rfl ⟨rfl, by unfold zC5; first | rw [if_neg (by omega)] | rw [if_pos (by omega)]⟩
 refine go 0 [] [] .n ?_
 intro a w hs; exact zHE hs rfl ⟨rfl, by unfold zC5; first | rw [if_neg (by omega)] | rw [if_pos (by omega)]⟩
theorem zOA (g h : Nat) (v : Value) (m : Nat) (bs : List zR) (R : Rs) (t tm b : Int) (q : Value) (w0 : World) (hb : Rd w0 [g] v 1 m (zF bs)) (hg : (blk g [v, nI ((R).p), nI ((R).e)] 144).p w0) (hh : (blk h [pt g 0, zI t, zI tm, zI b, q] 101).p w0) (hle : R.p ≤ bs.length) : Calls Tryz.prog 41 #[pt h 0] w0 (Ret w0 [g] fun u N => u = .tuple #[] ∧ N = [blk g [v, nI ((zKo bs R).p), nI ((zKo bs R).e)] 144]) := by
 have hbl : bs.length = m := by have := hb.len; simpa [zF] using this
 have hbe : m ≤ maxLen := hb.le
 simp only [maxLen] at hbe
 refine zT (F0 := [(0, pt h 0)]) func41 rfl rfl rfl (.c .n) (zBd hg) ?_
 refine go 1 [] [2, 0] .n ?_
 intro a w hs; refine zAA hs (.c rfl (.c rfl .n)) call73 (.c .z .n) (zL0 (71#8) g h _ _ bs R t tm b q _ (hs.mem.rd1 hb (.c .z .n)) (hs.mem.del .z) (hs.mem.keep hh (by simp [zX, blk, zFa hh hg (by decide)])) (by omega)) rfl ?_
 have hk1 := zFM (c := 71#8) (bs := bs) (R := R) (by omega)
 refine goL 1 [] [4] .n ?_
 intro a w hs; refine zAA hs (.c rfl (.c rfl .n)) call73 (.c .z .n) (zL0 (1#8) g h _ _ bs (zC5 (71#8) bs R) t tm b q _ (hs.mem.rd1 hb (.c .z .n)) (hs.mem.del .z) (hs.mem.keep hh (by simp [zX, blk, zFa hh hg (by decide)])) (by omega)) rfl ?_
 have hk2 := zFM (c := 1#8) (bs := bs) (R := (zC5 (71#8) bs R)) (by omega)
 refine goL 0 [] [] .n ?_
 intro a w hs; exact zHE hs rfl ⟨rfl, rfl⟩
theorem zQ5 (g h : Nat) (v : Value) (m : Nat) (bs : List zR) (R : Rs) (t tm b : Int) (q : Value) (w0 : World) (hb : Rd w0 [g, h] v 1 m (zF bs)) (hg : (blk g [v, nI ((R).p), nI ((R).e)] 144).p w0) (hh : (blk h [pt g 0, zI t, zI tm, zI b, q] 101).p w0) (hle : R.p ≤ bs.length) : Calls Tryz.prog 42 #[pt h 0] w0 (Ret w0 [g, h] fun u N => u = .tuple #[] ∧ N = [blk g [v, nI (((gTm bs (gT bs R).2).2).p), nI (((gTm bs (gT bs R).2).2).e)] 144, blk h [pt g 0, zI ((gT bs R).1), zI ((gTm bs (gT bs R).2).1), zI b, q] 101]) := by
 have hbl : bs.length = m := by have := hb.len; simpa [zF] using this
 have hbe : m ≤ maxLen := hb.le
 simp only [maxLen] at hbe
 have hlim : (4294967295#64).toNat = 4294967295 := rfl
 refine zT (F0 := [(0, pt h 0)]) func42 rfl rfl rfl (.c .n) (zDo hg hh (by simp [zX, blk, zFa hg hh (by decide)])) ?_
 refine go 5 [0] [6, 2, 0] (.c (.s .z) .n) ⟨rfl, ?_⟩
 intro a w hs; refine zAA hs (.c rfl (.c rfl .n)) call74 (.c (.s .z) .n) (zEB (4294967295#64) g _ _ bs R _ (hs.mem.rd1 hb (.c (.s .z) .n)) (hs.mem.del (.s .z)) (by omega)) rfl ?_
 have hk1 := zAw (X := 4294967295#64) (bs := bs) (R := R) (by omega)
 intro a w hs; refine zAh (X := (zD bs (4294967295#64) R).1) hs rfl rfl underlying130 underlying2 rfl ?_
 refine cl (·.recell (v' := nI ((zD bs 4294967295#64 R).1.toNat)) (Option.some.inj (congrArg (fun z => some (Value.int .i64 z)) (zDR (by omega))))) ?_
 refine goL 9 [0, 0] [16, 12, 0] (.c (.s .z) .n) ⟨rfl, rfl, ?_⟩
 intro a w hs; refine zAA hs (.c rfl .n) call75 (.c (.s .z) .n) (zHt  g _ _ bs ((zD bs (4294967295#64) R).2) _ (hs.mem.rd1 hb (.c (.s .z) .n)) (hs.mem.del (.s .z)) (by omega)) rfl ?_
 have hk2 := zBm (bs := bs) (R := ((zD bs (4294967295#64) R).2)) (by omega)
 refine goL 9 [0, 0] [25, 0] (.c (.s .z) .n) ⟨rfl, rfl, ?_⟩
 intro a w hs; refine zH (v := .bool (decide (-2305843009213693952 ≤ ((zJ bs ((zD bs (4294967295#64) R).2)).1) ∧ ((zJ bs ((zD bs (4294967295#64) R).2)).1) ≤ 2305843009213693952))) hs (.c rfl .n) call76 (zKW ((zJ bs ((zD bs (4294967295#64) R).2)).1) _) rfl ?_
 refine goL 1 [] [27, 0] .n ?_
 refine ifG rfl (fun c_3 => ?_) (fun c_3 => ?_)
 ·
  refine go 4 [0] [31] (.c .z .n) ⟨rfl, ?_⟩
  intro a w hs; refine zAA hs (.c rfl (.c rfl .n)) call77 (.c (.s .z) .n) (zDh 3 g _ _ bs ((zJ bs ((zD bs (4294967295#64) R).2)).2) _ (hs.mem.rd1 hb (.c (.s .z) .n)) (hs.mem.del (.s .z)) (by omega)) rfl ?_
  have hk4 := zBE (e := 3) (bs := bs) (R := ((zJ bs ((zD bs (4294967295#64) R).2)).2)) (by omega)
  refine goL 0 [] [] .n ?_
  have hT_ : gTm bs (gT bs R).2 = ((zJ bs ((zD bs (4294967295#64) R).2)).1, (zBL 3 ((zJ bs ((zD bs (4294967295#64) R).2)).2))) := by unfold gTm gT; dsimp only; first | rw [if_pos (by omega)] | rw [if_neg (by omega)]
  intro a w hs; exact zHE hs rfl ⟨rfl, by rw [hT_]; rfl⟩
 refine go 0 [] [] .n ?_
 refine cl (·.reorder (.c (.s .z) (.c .z .n))) ?_
 have hT_ : gTm bs (gT bs R).2 = ((zJ bs ((zD bs (4294967295#64) R).2)).1, ((zJ bs ((zD bs (4294967295#64) R).2)).2)) := by unfold gTm gT; dsimp only; first | rw [if_pos (by omega)] | rw [if_neg (by omega)]
 intro a w hs; exact zHE hs rfl ⟨rfl, by rw [hT_]; rfl⟩
theorem zQ4 (g h : Nat) (v : Value) (m : Nat) (bs : List zR) (R : Rs) (t tm b : Int) (q : Value) (w0 : World) (hb : Rd w0 [g, h] v 1 m (zF bs)) (hg : (blk g [v, nI ((R).p), nI ((R).e)] 144).p w0) (hh : (blk h [pt g 0, zI t, zI tm, zI b, q] 101).p w0) (hle : R.p ≤ bs.length) (ht : 0 ≤ t ∧ t ≤ 4294967295) : Calls Tryz.prog 43 #[pt h 0] w0 (Ret w0 [g, h] fun u N => u = .tuple #[] ∧ N = [blk g [v, nI (((gB bs t R).2).p), nI (((gB bs t R).2).e)] 144, blk h [pt g 0, zI t, zI tm, zI ((gB bs t R).1), q] 101]) := by
 have hbl : bs.length = m := by have := hb.len; simpa [zF] using this
 have hbe : m ≤ maxLen := hb.le
 simp only [maxLen] at hbe
 have hot := zGs (x := t) (by omega) (by omega)
 refine zT (F0 := [(0, pt h 0)]) func43 rfl rfl rfl (.c .n) (zDo hg hh (by simp [zX, blk, zFa hg hh (by decide)])) ?_
 refine go 5 [0] [0] (.c (.s .z) .n) ⟨rfl, ?_⟩
 intro a w hs
 have hk2 := zAw (X := BitVec.ofInt 64 t) (bs := bs) (R := R) (by omega)
 refine zAx [.p [] [], .p [0] [], .p [1] [], .p [2] [0], .p [] [], .p [4] [], .p [5] [], .p [6] [], .p [7] [0], .v [8] (qI (BitVec.ofInt 64 t)), .y [9, 3] (qI ((zD bs (BitVec.ofInt 64 t) R).1)) [blk g [v, nI R.p, nI R.e] 144] [] [] fun vs1 => [blk g [v, nI (((zD bs (BitVec.ofInt 64 t) R).2).p), nI (((zD bs (BitVec.ofInt 64 t) R).2).e)] 144], .v [10] (nI ((zD bs (BitVec.ofInt 64 t) R).1.toNat)), .p [11] []] [12] hs .n (.c (.s .z) .n) (.c .z .n) (by kernel_rfl) ⟨rfl, rfl, fun _ _ _ _ hm hs K => zA0 hs rfl underlying2 underlying130 rfl (vk K), ?_, ⟨(.c .z .n), by kernel_rfl, fun _ => rfl, rfl, rfl⟩, ⟨?_, trivial⟩, ?_⟩
 ·
  intro a_ w_ R_ Q_ hm hs K_
  refine zAh (X := (zD bs (BitVec.ofInt 64 t) R).1) hs rfl rfl underlying130 underlying2 rfl ?_; clear hs; intro a w hs
  replace hs := hs.recell (v' := nI ((zD bs (BitVec.ofInt 64 t) R).1.toNat)) (Option.some.inj (congrArg (fun z => some (Value.int .i64 z)) (zDR (by omega))))
  exact wpList_nil (K_ _ _ hs)
 ·
  intro a_ w_ R_ rest_ vs1 hm hs ht hx
  have hs0 := hs.bare
  refine zO hs (.c rfl (.c rfl .n)) call74 (.c .z .n) (zEB (BitVec.ofInt 64 t) g _ _ bs R _ (hm.rd1 hb (zDQ.app _ _)) (hs.mem.del .z) (by omega)) rfl ?_; clear hs; rintro _ _ a w ⟨rfl, rfl⟩ hs
  have hk2 := zAw (X := BitVec.ofInt 64 t) (bs := bs) (R := R) (by omega)
  exact wpList_nil ⟨rfl, _, _, hs0, (.c (.c .r)), hs, rfl⟩
 clear hs w a; intro vs1 a w hs hf
 clear hf
 revert a w hs
 refine goE 2 [] [20, 2, 0] .n ?_
 refine ifG rfl (fun c_3 => ?_) (fun c_3 => ?_)
 ·
  refine go 12 [0, 0] [] (.c .z .n) ⟨rfl, (by omega), rfl, ?_⟩
  refine cl (·.reorder (.c (.s .z) (.c .z .n))) ?_
  intro a w hs; exact zHE hs rfl ⟨rfl, by unfold gB; first | rw [if_pos (by omega)] | rw [if_neg (by omega)]⟩
 refine go 0 [] [] .n ?_
 refine cl (·.reorder (.c (.s .z) (.c .z .n))) ?_
 intro a w hs; exact zHE hs rfl ⟨rfl, by unfold gB; first | rw [if_pos (by omega)] | rw [if_neg (by omega)]⟩
theorem zRo (g h : Nat) (v : Value) (m : Nat) (bs : List zR) (R : Rs) (t tm b : Int) (w0 : World) (hb : Rd w0 [g, h] v 1 m (zF bs)) (hg : (blk g [v, nI ((R).p), nI ((R).e)] 144).p w0) (hh : (blk h [pt g 0, zI t, zI tm, zI b, .slice none 0 0] 101).p w0) (hle : R.p ≤ bs.length) : Calls Tryz.prog 44 #[pt h 0] w0 (Ret w0 [g, h] fun u N => u = .tuple #[] ∧ ∃ v', N = [blk g [v, nI (((zZ bs R (gN bs R)).2.2).p), nI (((zZ bs R (gN bs R)).2.2).e)] 144, blk h [pt g 0, zI t, zI tm, zI b, v'] 101, row v' 112 9 (zZ bs R (gN bs R)).1.length ((zZ bs R (gN bs R)).1.flatMap zDG)]) := by
 have hbl : bs.length = m := by have := hb.len; simpa [zF] using this
 have hbe : m ≤ maxLen := hb.le
 simp only [maxLen] at hbe
 have hgn : gN bs R = (zD bs 128#64 R).1.toNat := rfl
 have hgm := zOb bs R
 refine zT (F0 := [(0, pt h 0)]) func44 rfl rfl rfl (.c .n) (zDo hg hh (by simp [zX, blk, zFa hg hh (by decide)])) ?_
 refine go 5 [0] [8, 2, 0] (.c (.s .z) .n) ⟨rfl, ?_⟩
 intro a w hs; refine zAA hs (.c rfl (.c rfl .n)) call74 (.c (.s .z) .n) (zEB (128#64) g _ _ bs R _ (hs.mem.rd1 hb (.c (.s .z) .n)) (hs.mem.del (.s .z)) (by omega)) rfl ?_
 have hk1 := zAw (X := 128#64) (bs := bs) (R := R) (by omega)
 refine goL 1 [] [10, 9, 2, 0] .n ?_
 refine cl (·.addNil 112 9) ?_
 refine cl (·.rerow .z (m' := (zZ bs R 0).1.length) (xs' := ((zZ bs R 0).1.flatMap zDG)) (rfl) (rfl)) ?_
 refine cl (·.reblk (.s .z) (cs' := [v, nI ((zZ bs R 0).2.2.p), nI ((zZ bs R 0).2.2.e)]) rfl) ?_
 refine cl (·.reorder (.c .z (.c (.s .z) (.c .z .n)))) ?_
 intro a w hs; refine zCA (fun mm_ a w => ∃ i : Nat, ∃ p : Value, mm_ = gN bs R - i ∧ St 38 [(0, pt h 0), (2, zI ((zZ bs R i).2.1)), (9, qI ((zD bs (128#64) R).1)), (10, qI (BitVec.ofNat 64 i))] w0 [g, h] [blk g [v, nI (((zZ bs R i).2.2).p), nI (((zZ bs R i).2.2).e)] 144, blk h [pt g 0, zI t, zI tm, zI b, p] 101, row p 112 9 ((zZ bs R i).1.length) ((zZ bs R i).1.flatMap zDG)] a w ∧ i ≤ gN bs R ∧ zSh bs i (zZ bs R i) ∧ (gN bs R ≤ i ∨ (zZ bs R i).2.2.e = 0)) ⟨0, .slice none 0 0, rfl, hs.sub (.c rfl (.c rfl (.c rfl (.c rfl .n)))), by omega, zBy hle 0, zQo⟩ ?_
 clear hs w a; rintro mm_ a w ⟨i, p, rfl, hs, hI1_0, hI1_1, hI1_2⟩
 have hip := hI1_1.p
 have hil := hI1_1.lo
 have hih := hI1_1.hi
 have hin := hI1_1.len
 have hit : (BitVec.ofNat 64 i).toNat = i := by rw [BitVec.toNat_ofNat]; omega
 revert a w hs
 refine go 1 [] [11, 0, 2, 9, 10] .n ?_
 refine ifG rfl (fun c_2 => ?_) (fun c_2 => ?_)
 ·
  refine go 5 [0] [17, 16, 0, 9, 10] (.c (.s .z) .n) ⟨rfl, ?_⟩
  intro a w hs; refine zAA hs (.c rfl (.c rfl .n)) call78 (.c (.s .z) .n) (zTl g _ _ bs ((zZ bs R i).2.2) ((zZ bs R i).2.1) _ (hs.mem.rd1 hb (.c (.s .z) .n)) (hs.mem.del (.s .z)) (by omega) (by omega)) rfl ?_
  have hk3 := zHM (bs := bs) (last := ((zZ bs R i).2.1)) (R := ((zZ bs R i).2.2)) (by omega)
  refine goL 8 [0] [22, 3, 0, 9, 10] .n (fun g4 => ⟨rfl, ?_⟩)
  refine ifG rfl (fun c_5 => ?_) (fun c_5 => ?_)
  ·
   refine go 0 [] [] .n ?_
   refine cl (·.drop (.c .z .n)) ?_
   have hE_ := zPp (bs := bs) (R := R) (i := i) hle (by omega) (by omega) (by omega)
   intro a w hs; exact zPF hs rfl ⟨rfl, p, by rw [hE_]⟩
  refine go 0 [] [3, 0, 9, 10] .n ?_
  intro a w hs
  refine zAx [.p [] [], .p [] [], .p [1] [], .p [2] [], .p [3] [], .y [4] p [] [] [] fun vs6 => [], .p [] [0], .x [6] ⟨[], [], [], fun vs6 => vs6 7 = .slice (some ⟨(zCQ (vs6 7)), 0, none⟩) 1 1, fun vs6 => [blk (zCQ (vs6 7)) [zI (((zAM bs ((zZ bs R i).2.1) ((zZ bs R i).2.2)).1).k), zI (((zAM bs ((zZ bs R i).2.1) ((zZ bs R i).2.2)).1).id), zI (((zAM bs ((zZ bs R i).2.1) ((zZ bs R i).2.2)).1).p0), zI (((zAM bs ((zZ bs R i).2.1) ((zZ bs R i).2.2)).1).p1), zI (((zAM bs ((zZ bs R i).2.1) ((zZ bs R i).2.2)).1).p2), zI (((zAM bs ((zZ bs R i).2.1) ((zZ bs R i).2.2)).1).v0), zI (((zAM bs ((zZ bs R i).2.1) ((zZ bs R i).2.2)).1).v1), zI (((zAM bs ((zZ bs R i).2.1) ((zZ bs R i).2.2)).1).v2), .int .u16 (((((zAM bs ((zZ bs R i).2.1) ((zZ bs R i).2.2)).1).a).toNat : Nat) : Int)] 112], none⟩, .x [5] ⟨[row p 112 9 ((zZ bs R i).1.length) ((zZ bs R i).1.flatMap zDG)], [], [], fun vs6 => True, fun vs6 => [row (vs6 8) 112 9 (((zZ bs R i).1.length) + 1) (((zZ bs R i).1.flatMap zDG) ++ ([zI (((zAM bs ((zZ bs R i).2.1) ((zZ bs R i).2.2)).1).k), zI (((zAM bs ((zZ bs R i).2.1) ((zZ bs R i).2.2)).1).id), zI (((zAM bs ((zZ bs R i).2.1) ((zZ bs R i).2.2)).1).p0), zI (((zAM bs ((zZ bs R i).2.1) ((zZ bs R i).2.2)).1).p1), zI (((zAM bs ((zZ bs R i).2.1) ((zZ bs R i).2.2)).1).p2), zI (((zAM bs ((zZ bs R i).2.1) ((zZ bs R i).2.2)).1).v0), zI (((zAM bs ((zZ bs R i).2.1) ((zZ bs R i).2.2)).1).v1), zI (((zAM bs ((zZ bs R i).2.1) ((zZ bs R i).2.2)).1).v2), .int .u16 (((((zAM bs ((zZ bs R i).2.1) ((zZ bs R i).2.2)).1).a).toNat : Nat) : Int)]))], none⟩, .p [] [], .p [9] [0], .p [0] [], .p [11] [], .p [12] [], .x [13] ⟨[blk h [pt g 0, zI t, zI tm, zI b, p] 101], [], [8], fun vs6 => True, fun vs6 => [blk h [pt g 0, zI t, zI tm, zI b, (vs6 8)] 101], none⟩, .p [10] []] [15] hs .n (.c (.s (.s (.s .z))) (.c (.s (.s .z)) .n)) (.c .z .n) (by kernel_rfl) ⟨rfl, rfl, ⟨(.c .z (.c .z .n)), by kernel_rfl, fun _ => rfl, rfl, rfl⟩, ⟨?_, ?_, ?_, ?_, trivial⟩, ?_⟩
  ·
   intro a_ w_ R_ rest_ vs6 hm hs ht hx
   have hs0 := hs.bare
   refine zAI hs rfl (hm.own (List.mem_append.2 (.inr ((hx 14 (zL 16 _ (by kernel_rfl))).1 _ (List.Mem.head _))))) (.s (.s (.s (.s .z)))) isAgg59 rfl ?_; clear hs; intro a w hs
   exact wpList_nil ⟨rfl, _, _, hs0, (.c .r), hs, rfl⟩
  ·
   intro a_ w_ R_ rest_ vs6 hm hs ht hx
   have hs0 := hs.bare
   refine zFv (cs := [zI (((zAM bs ((zZ bs R i).2.1) ((zZ bs R i).2.2)).1).k), zI (((zAM bs ((zZ bs R i).2.1) ((zZ bs R i).2.2)).1).id), zI (((zAM bs ((zZ bs R i).2.1) ((zZ bs R i).2.2)).1).p0), zI (((zAM bs ((zZ bs R i).2.1) ((zZ bs R i).2.2)).1).p1), zI (((zAM bs ((zZ bs R i).2.1) ((zZ bs R i).2.2)).1).p2), zI (((zAM bs ((zZ bs R i).2.1) ((zZ bs R i).2.2)).1).v0), zI (((zAM bs ((zZ bs R i).2.1) ((zZ bs R i).2.2)).1).v1), zI (((zAM bs ((zZ bs R i).2.1) ((zZ bs R i).2.2)).1).v2), .int .u16 (((((zAM bs ((zZ bs R i).2.1) ((zZ bs R i).2.2)).1).a).toNat : Nat) : Int)]) hs (.c .n) (.c rfl .n) underlying59 (ie := Tryz.t112) rfl rfl rfl rfl (by decide) (by decide) rfl (by decide) rfl rfl rfl ?_; clear hs; intro g7 a w hs
   exact wpList_nil ⟨rfl, _, _, hs0, (.c .r), hs, rfl⟩
  ·
   intro a_ w_ R_ rest_ vs6 hm hs ht hx
   have t7 := ht 7 (zL 16 _ (by kernel_rfl))
   have e7 : _ = some (vs6 7) := t7.val rfl
   rw [show vs6 7 = .slice (some ⟨(zCQ (vs6 7)), 0, none⟩) 1 1 from t7.2.1] at e7
   replace hs := hs.learn e7
   have hs0 := hs.bare
   refine zAj (size := 9) (bytes := 72) hs rfl rfl .z (zAa (m := 1) (size := 9) (hm.own (List.mem_append.2 (.inr ((ht 7 (zL 16 _ (by kernel_rfl))).2.2 (zFR (n := 16) (by kernel_rfl)) _ (List.Mem.head _))))) rfl (by decide)) (by simp [Value.oneCell']) underlying59 (i := Tryz.t112) rfl rfl rfl rfl rfl (by decide) (by omega) (by simp only [maxLen]; omega) rfl ?_; clear hs; intro v8 a w hs
   exact wpList_nil ⟨rfl, _, _, hs0, (.c (.c .r)), hs, trivial⟩
  ·
   intro a_ w_ R_ rest_ vs6 hm hs ht hx
   have t8 := ht 8 (zL 16 _ (by kernel_rfl))
   have e8 : _ = some (vs6 8) := t8.val rfl
   replace hs := hs.learn e8
   have hs0 := hs.bare
   refine zB4 hs rfl rfl .z (.s (.s (.s (.s .z)))) (zM (hm.own (List.mem_append.2 (.inr ((ht 8 (zL 16 _ (by kernel_rfl))).2.2 (zFR (n := 16) (by kernel_rfl)) _ (List.Mem.head _)))))).isSl.one sizeOf59 ?_; clear hs; intro a w hs
   exact wpList_nil ⟨rfl, .tuple #[], _, hs0, (.c (.c .r)), hs, trivial⟩
  clear hs w a; intro vs6 a w hs hf
  generalize zCQ (vs6 7) = g9 at hs
  generalize vs6 8 = v10 at hs
  clear hf
  revert a w hs
  refine goE 0 [] [2, 0, 9, 10] .n ?_
  intro a w hs; refine zDJ (X := BitVec.ofNat 64 i) (Y := 1#64) hs rfl rfl rfl (by decide) rfl ?_
  refine goL 1 [] [10, 2, 0, 9] .n ?_
  have hO_ := zJc (bs := bs) (R := R) (i := i) (by omega) (by omega)
  intro a w hs; replace hs := hs.rerow (.s (.s (.s .z))) (m' := (zZ bs R (i + 1)).1.length) (xs' := ((zZ bs R (i + 1)).1.flatMap zDG)) (by rw [hO_]; simp only [List.length_append, List.length_singleton]) (by rw [hO_]; dsimp only; rw [List.flatMap_append]; rfl)
  replace hs := hs.reblk (.s (.s .z)) (cs' := [v, nI ((zZ bs R (i + 1)).2.2.p), nI ((zZ bs R (i + 1)).2.2.e)]) (by rw [hO_])
  replace hs := hs.reslot (d := 2) (v := zI (((zAM bs ((zZ bs R i).2.1) ((zZ bs R i).2.2)).1).id)) (v' := zI ((zZ bs R (i + 1)).2.1)) rfl (Option.some.inj (by rw [hO_]))
  replace hs := hs.reslot (d := 10) (v := qI ((BitVec.ofNat 64 i) + (1#64))) (v' := qI (BitVec.ofNat 64 (i + 1))) rfl (Option.some.inj (by rw [zKi]))
  replace hs := hs.drop (.c (.s (.s (.s .z))) (.c (.s (.s .z)) .n))
  replace hs := hs.reorder (.c .z (.c (.s .z) (.c .z .n)))
  refine ⟨_, ?_, i + 1, v10, rfl, hs.sub (.c rfl (.c rfl (.c rfl (.c rfl .n)))), by omega, zBy hle (i + 1), .inr (zM3 hle (by omega) (by omega))⟩
  omega
 refine go 0 [] [] .n ?_
 have hE_ : i = gN bs R := by omega
 intro a w hs; exact zHE hs rfl ⟨rfl, p, by rw [← hE_]⟩
end Go.Proofs.YtbacobmcfelmkaaGreat
