/- Walks of records off bytes: what each function does, over the program of this seat. Printed by a program of this session. -/
import Derived.Test.YtbacobmcfelmkaaGreatQWrec
import Derived.Test.YtbacobmcfelmkaaGreatQSxBasB
namespace Go.Proofs.YtbacobmcfelmkaaGreat
open Tryz
open Go Go.Sx Go.RowKit
set_option linter.unusedVariables false
set_option linter.unusedSimpArgs false
set_option maxRecDepth 4000
set_option maxHeartbeats 1000000

theorem zI4 (g h : Nat) (v : Value) (m : Nat) (bs : List zR) (R : Rs) (k id : Int) (w0 : World) (hb : Rd w0 [g, h] v 1 m (zF bs)) (hg : (blk g [v, nI ((R).p), nI ((R).e)] 144).p w0) (hh : (blk h [zI k, zI id, zI 0, zI 0, zI 0, zI 0, zI 0, zI 0, .int .u16 (0)] 112).p w0) (hle : R.p ≤ bs.length) : Calls Tryz.prog 117 #[pt g 0, pt h 0] w0 (Ret w0 [g, h] fun u N => u = .tuple #[] ∧ N = [blk g [v, nI (((zBx bs k id R).2).p), nI (((zBx bs k id R).2).e)] 144, blk h [zI (((zBx bs k id R).1).k), zI (((zBx bs k id R).1).id), zI (((zBx bs k id R).1).p0), zI (((zBx bs k id R).1).p1), zI (((zBx bs k id R).1).p2), zI (((zBx bs k id R).1).v0), zI (((zBx bs k id R).1).v1), zI (((zBx bs k id R).1).v2), .int .u16 (((((zBx bs k id R).1).a).toNat : Nat) : Int)] 112]) := by
 have hbl : bs.length = m := by have := hb.len; simpa [zF] using this
 have hbe : m ≤ maxLen := hb.le
 simp only [maxLen] at hbe
 refine zT (F0 := [(0, pt g 0), (1, pt h 0)]) func117 rfl rfl rfl (.c (.c .n)) (zDo hg hh (by simp [zX, blk, zFa hg hh (by decide)])) ?_
 refine go 3 [] [6, 5, 4, 0, 1] .n ?_
 intro a w hs; refine zAA hs (.c rfl .n) call138 (.c .z .n) (zPO  g _ _ bs R _ (hs.mem.rd1 hb (.c .z .n)) (hs.mem.del .z) (by omega)) rfl ?_
 have hk1 := zMu (bs := bs) (R := R) (by omega)
 refine goL 1 [] [8, 7, 5, 4, 0, 1] .n ?_
 intro a w hs; refine zAA hs (.c rfl .n) call138 (.c .z .n) (zPO  g _ _ bs ((zJ bs (zJ bs (zJ bs R).2).2).2) _ (hs.mem.rd1 hb (.c .z .n)) (hs.mem.del .z) (by omega)) rfl ?_
 have hk2 := zMu (bs := bs) (R := ((zJ bs (zJ bs (zJ bs R).2).2).2)) (by omega)
 refine goL 8 [0, 0] [15, 14] (.c (.s .z) .n) ⟨rfl, rfl, ?_⟩
 intro a w hs; refine zAA hs (.c rfl (.c rfl .n)) call74 (.c (.s .z) .n) (zEB (65535#64) g _ _ bs ((zJ bs (zJ bs (zJ bs ((zJ bs (zJ bs (zJ bs R).2).2).2)).2).2).2) _ (hs.mem.rd1 hb (.c (.s .z) .n)) (hs.mem.del (.s .z)) (by omega)) rfl ?_
 have hk3 := zAw (X := 65535#64) (bs := bs) (R := ((zJ bs (zJ bs (zJ bs ((zJ bs (zJ bs (zJ bs R).2).2).2)).2).2).2)) (by omega)
 intro a w hs; refine zEP (X := (zD bs (65535#64) ((zJ bs (zJ bs (zJ bs ((zJ bs (zJ bs (zJ bs R).2).2).2)).2).2).2)).1) hs rfl rfl underlying130 underlying70 rfl ?_
 refine goL 3 [0] [] (.c (.s .z) .n) ⟨rfl, ?_⟩
 refine cl (·.reorder (.c (.s .z) (.c .z .n))) ?_
 intro a w hs; exact zHE hs rfl ⟨rfl, by simp only [zBx, nX, nS]⟩
theorem zLJ (g h : Nat) (v : Value) (m : Nat) (bs : List zR) (R : Rs) (k id : Int) (w0 : World) (hb : Rd w0 [g, h] v 1 m (zF bs)) (hg : (blk g [v, nI ((R).p), nI ((R).e)] 144).p w0) (hh : (blk h [zI k, zI id, zI 0, zI 0, zI 0, zI 0, zI 0, zI 0, .int .u16 (0)] 112).p w0) (hle : R.p ≤ bs.length) : Calls Tryz.prog 119 #[pt g 0, pt h 0] w0 (Ret w0 [g, h] fun u N => u = .tuple #[] ∧ N = [blk g [v, nI (((zA6 bs k id R).2).p), nI (((zA6 bs k id R).2).e)] 144, blk h [zI (((zA6 bs k id R).1).k), zI (((zA6 bs k id R).1).id), zI (((zA6 bs k id R).1).p0), zI (((zA6 bs k id R).1).p1), zI (((zA6 bs k id R).1).p2), zI (((zA6 bs k id R).1).v0), zI (((zA6 bs k id R).1).v1), zI (((zA6 bs k id R).1).v2), .int .u16 (((((zA6 bs k id R).1).a).toNat : Nat) : Int)] 112]) := by
 have hbl : bs.length = m := by have := hb.len; simpa [zF] using this
 have hbe : m ≤ maxLen := hb.le
 simp only [maxLen] at hbe
 refine zT (F0 := [(0, pt g 0), (1, pt h 0)]) func119 rfl rfl rfl (.c (.c .n)) (zDo hg hh (by simp [zX, blk, zFa hg hh (by decide)])) ?_
 refine go 1 [] [7, 0, 1] .n ?_
 intro a w hs; refine zAA hs (.c rfl .n) call99 (.c .z .n) (zJw  g _ _ bs R _ (hs.mem.rd1 hb (.c .z .n)) (hs.mem.del .z) (by omega)) rfl ?_
 have hk1 := zCy (bs := bs) (R := R) (by omega)
 refine goL 4 [] [11, 4, 0, 1] .n ?_
 intro a w hs; refine zAB (b := (((((zB bs R).1).toNat : Nat) : Int) : Int) == 0) (fun c_2 => ?_) (fun c_2 => ?_)
 ·
  rw [c_2] at hs
  replace c_2 := eq_of_beq c_2
  revert a w hs
  refine go 5 [] [15] .n ?_
  intro a w hs; refine zAA hs (.c rfl (.c rfl .n)) call77 (.c .z .n) (zDh 7 g _ _ bs ((zB bs R).2) _ (hs.mem.rd1 hb (.c .z .n)) (hs.mem.del .z) (by omega)) rfl ?_
  have hk3 := zBE (e := 7) (bs := bs) (R := ((zB bs R).2)) (by omega)
  refine goL 0 [] [] .n ?_
  intro a w hs; exact zPF hs rfl (by rw [zFF (by omega)]; exact ⟨rfl, rfl⟩)
 rw [c_2] at hs
 replace c_2 := zAK c_2
 revert a w hs
 refine go 3 [] [14, 4, 0, 1] .n ?_
 refine ifG rfl (fun c_4 => ?_) (fun c_4 => ?_)
 ·
  refine go 1 [] [15] .n ?_
  intro a w hs; refine zAA hs (.c rfl (.c rfl .n)) call77 (.c .z .n) (zDh 7 g _ _ bs ((zB bs R).2) _ (hs.mem.rd1 hb (.c .z .n)) (hs.mem.del .z) (by omega)) rfl ?_
  have hk5 := zBE (e := 7) (bs := bs) (R := ((zB bs R).2)) (by omega)
  refine goL 0 [] [] .n ?_
  intro a w hs; exact zPF hs rfl (by rw [zFF (by omega)]; exact ⟨rfl, rfl⟩)
 refine go 1 [] [17, 4, 0, 1] .n ?_
 intro a w hs; refine zH (v := .agg #[pt h 2, pt h 3, pt h 4, pt h 5, pt h 6, pt h 7]) hs (.c rfl .n) call136 (zLH h _) rfl ?_
 refine zHA 1 1 [] [19, 18, 4, 0, 1] .n ?_
 refine cl (·.reblk .z (cs' := [v, nI ((upS bs (zB bs R).1 (zB bs R).2 0).p), nI ((upS bs (zB bs R).1 (zB bs R).2 0).e)]) rfl) ?_
 have hu0 : (upS bs (zB bs R).1 (zB bs R).2 0).p = (zB bs R).2.p := rfl
 refine cl (·.reblk (.s .z) (cs' := [zI k, zI id, zI (upQ bs (zB bs R).1 (zB bs R).2 0 0), zI (upQ bs (zB bs R).1 (zB bs R).2 0 1), zI (upQ bs (zB bs R).1 (zB bs R).2 0 2), zI (upQ bs (zB bs R).1 (zB bs R).2 0 3), zI (upQ bs (zB bs R).1 (zB bs R).2 0 4), zI (upQ bs (zB bs R).1 (zB bs R).2 0 5), .int .u16 (0)]) rfl) ?_
 refine go 0 [] [19, 18, 4, 0, 1] .n ?_
 refine cl (·.reorder (.c (.s .z) (.c .z .n))) ?_
 intro a w hs; refine zCA (fun mm_ a w => ∃ i : Nat, mm_ = 6 - i ∧ St 55 [(0, pt g 0), (1, pt h 0), (4, bI ((zB bs R).1)), (18, .agg #[pt h 2, pt h 3, pt h 4, pt h 5, pt h 6, pt h 7]), (19, nI i)] w0 [g, h] [blk g [v, nI ((upS bs (zB bs R).1 (zB bs R).2 i).p), nI ((upS bs (zB bs R).1 (zB bs R).2 i).e)] 144, blk h [zI k, zI id, zI (upQ bs (zB bs R).1 (zB bs R).2 i 0), zI (upQ bs (zB bs R).1 (zB bs R).2 i 1), zI (upQ bs (zB bs R).1 (zB bs R).2 i 2), zI (upQ bs (zB bs R).1 (zB bs R).2 i 3), zI (upQ bs (zB bs R).1 (zB bs R).2 i 4), zI (upQ bs (zB bs R).1 (zB bs R).2 i 5), .int .u16 (0)] 112] a w ∧ i ≤ 6 ∧ (upS bs (zB bs R).1 (zB bs R).2 i).p ≤ bs.length) ⟨0, rfl, hs.sub (.c rfl (.c rfl (.c rfl (.c rfl (.c rfl .n))))), by omega, by omega⟩ ?_
 clear hs w a; rintro mm_ a w ⟨i, rfl, hs, hI1_0, hI1_1⟩
 revert a w hs
 refine go 1 [] [20, 0, 1, 4, 18, 19] .n ?_
 refine ifG rfl (fun c_6 => ?_) (fun c_6 => ?_)
 ·
  refine go 1 [] [21, 0, 1, 4, 18, 19] .n ?_
  intro a w hs; refine zUl hs rfl rfl underlying199 (by omega) (by omega) (zSa (by omega)) isAgg198 sizeOf198 rfl ?_
  refine goL 4 [] [24, 23, 6, 0, 1, 4, 18, 19] .n ?_
  intro a w hs; refine zPz (X := (zB bs R).1) (m := i) hs rfl rfl rfl rfl rfl ?_
  intro a w hs; refine zJ3 (X := ((zB bs R).1) >>> i) (Y := 1#8) hs rfl rfl rfl (by decide) rfl ?_
  refine goL 1 [] [27, 6, 0, 1, 4, 18, 19] .n ?_
  refine ifG rfl (fun c_7 => ?_) (fun c_7 => ?_)
  ·
   have hz_ := zTO (m := (zB bs R).1) (i := i) (by assumption)
   refine goF 7 2 [] [19, 0, 1, 4, 18] .n ⟨(by omega), ?_⟩
   refine go 0 [] [19, 0, 1, 4, 18] .n ?_
   have hX_ := zVI (bs := bs) (R := (zB bs R).2) hz_
   refine cl (·.reblk (.s .z) (cs' := [zI k, zI id, zI (upQ bs (zB bs R).1 (zB bs R).2 (i + 1) 0), zI (upQ bs (zB bs R).1 (zB bs R).2 (i + 1) 1), zI (upQ bs (zB bs R).1 (zB bs R).2 (i + 1) 2), zI (upQ bs (zB bs R).1 (zB bs R).2 (i + 1) 3), zI (upQ bs (zB bs R).1 (zB bs R).2 (i + 1) 4), zI (upQ bs (zB bs R).1 (zB bs R).2 (i + 1) 5), .int .u16 (0)]) (by simp only [zSg hX_])) ?_
   have hS_ : upS bs (zB bs R).1 (zB bs R).2 (i + 1) = (upS bs (zB bs R).1 (zB bs R).2 i) := zUw hz_
   refine cl (·.reblk (.s .z) (cs' := [v, nI ((upS bs (zB bs R).1 (zB bs R).2 (i + 1)).p), nI ((upS bs (zB bs R).1 (zB bs R).2 (i + 1)).e)]) (by rw [hS_])) ?_
   intro a w hs; refine ⟨_, ?_, (i + 1), rfl, hs.sub (.c rfl (.c rfl (.c rfl (.c rfl (.c rfl .n))))), by omega, (zH1 (m := (zB bs R).1) (R := (zB bs R).2) (bs := bs) (by omega) (i + 1)).1⟩
   omega
  have hz_ := zUA (m := (zB bs R).1) (i := i) (by assumption)
  refine go 2 [] [29, 28, 6, 0, 1, 4, 18, 19] .n ?_
  intro a w hs; refine zAA hs (.c rfl .n) call75 (.c .z .n) (zHt  g _ _ bs (upS bs (zB bs R).1 (zB bs R).2 i) _ (hs.mem.rd1 hb (.c .z .n)) (hs.mem.del .z) (by omega)) rfl ?_
  have hk8 := zBm (bs := bs) (R := (upS bs (zB bs R).1 (zB bs R).2 i)) (by omega)
  intro a w hs; refine zQ8 hs rfl rfl ?_
  have hX_ := zTG (bs := bs) (R := (zB bs R).2) hz_
  intro a w hs; refine zH6 (cs' := [zI k, zI id, zI (upQ bs (zB bs R).1 (zB bs R).2 (i + 1) 0), zI (upQ bs (zB bs R).1 (zB bs R).2 (i + 1) 1), zI (upQ bs (zB bs R).1 (zB bs R).2 (i + 1) 2), zI (upQ bs (zB bs R).1 (zB bs R).2 (i + 1) 3), zI (upQ bs (zB bs R).1 (zB bs R).2 (i + 1) 4), zI (upQ bs (zB bs R).1 (zB bs R).2 (i + 1) 5), .int .u16 (0)]) hs rfl rfl (.s .z) (by show 2 + i < 9; omega) (by rw [← hX_]; exact zLF (by omega)) rfl sizeOf2 ?_
  refine goL 1 [] [32, 0, 1, 4, 18, 19] .n ?_
  intro a w hs; refine zQ8 hs rfl rfl ?_
  intro a w hs; refine zC6 (v := zI ((zJ bs (upS bs (zB bs R).1 (zB bs R).2 i)).1)) hs rfl (hs.mem.del .z) (by rw [← hX_]; exact zS1 (by omega)) isAgg2 rfl ?_
  refine goL 1 [] [35, 0, 1, 4, 18, 19] .n ?_
  refine ifG rfl (fun c_9 => ?_) (fun c_9 => ?_)
  ·
   refine go 1 [] [36, 0, 1, 4, 18, 19] .n ?_
   intro a w hs; refine zAA hs (.c rfl (.c rfl .n)) call77 (.c (.s .z) .n) (zDh 7 g _ _ bs ((zJ bs (upS bs (zB bs R).1 (zB bs R).2 i)).2) _ (hs.mem.rd1 hb (.c (.s .z) .n)) (hs.mem.del (.s .z)) (by omega)) rfl ?_
   have hk10 := zBE (e := 7) (bs := bs) (R := ((zJ bs (upS bs (zB bs R).1 (zB bs R).2 i)).2)) (by omega)
   refine zHA 6 2 [] [19, 0, 1, 4, 18] .n ⟨(by omega), ?_⟩
   refine go 0 [] [19, 0, 1, 4, 18] .n ?_
   have hS_ : upS bs (zB bs R).1 (zB bs R).2 (i + 1) = (zBL 7 ((zJ bs (upS bs (zB bs R).1 (zB bs R).2 i)).2)) := zV1 hz_ (by assumption)
   refine cl (·.reblk .z (cs' := [v, nI ((upS bs (zB bs R).1 (zB bs R).2 (i + 1)).p), nI ((upS bs (zB bs R).1 (zB bs R).2 (i + 1)).e)]) (by rw [hS_])) ?_
   intro a w hs; refine ⟨_, ?_, (i + 1), rfl, hs.sub (.c rfl (.c rfl (.c rfl (.c rfl (.c rfl .n))))), by omega, (zH1 (m := (zB bs R).1) (R := (zB bs R).2) (bs := bs) (by omega) (i + 1)).1⟩
   omega
  refine goF 6 2 [] [19, 0, 1, 4, 18] .n ⟨(by omega), ?_⟩
  refine go 0 [] [19, 0, 1, 4, 18] .n ?_
  have hS_ : upS bs (zB bs R).1 (zB bs R).2 (i + 1) = ((zJ bs (upS bs (zB bs R).1 (zB bs R).2 i)).2) := zV5 hz_ (by assumption)
  refine cl (·.reblk (.s .z) (cs' := [v, nI ((upS bs (zB bs R).1 (zB bs R).2 (i + 1)).p), nI ((upS bs (zB bs R).1 (zB bs R).2 (i + 1)).e)]) (by rw [hS_])) ?_
  intro a w hs; refine ⟨_, ?_, (i + 1), rfl, hs.sub (.c rfl (.c rfl (.c rfl (.c rfl (.c rfl .n))))), by omega, (zH1 (m := (zB bs R).1) (R := (zB bs R).2) (bs := bs) (by omega) (i + 1)).1⟩
  omega
 obtain rfl : i = 6 := by omega
 refine cl (·.reblk (.s .z) (cs' := [zI k, zI id, zI (upX bs (zB bs R).1 (zB bs R).2 0), zI (upX bs (zB bs R).1 (zB bs R).2 1), zI (upX bs (zB bs R).1 (zB bs R).2 2), zI (upX bs (zB bs R).1 (zB bs R).2 3), zI (upX bs (zB bs R).1 (zB bs R).2 4), zI (upX bs (zB bs R).1 (zB bs R).2 5), .int .u16 (0)]) rfl) ?_
 refine go 1 [] [39, 0, 1] .n ?_
 intro a w hs; refine zJ3 (X := (zB bs R).1) (Y := 64#8) hs rfl rfl rfl (by decide) rfl ?_
 refine zHA 1 1 [] [41, 0, 1] .n ?_
 have hua := zAw (X := 65535#64) (bs := bs) (R := (upS bs (zB bs R).1 (zB bs R).2 6)) (by omega)
 refine go 0 [] [41, 0, 1] .n ?_
 refine ifG rfl (fun c_11 => ?_) (fun c_11 => ?_)
 ·
  have hz6 := zQs (by assumption)
  refine go 2 [] [43, 42, 0, 1] .n ?_
  intro a w hs; refine zAA hs (.c rfl (.c rfl .n)) call74 (.c (.s .z) .n) (zEB (65535#64) g _ _ bs (upS bs (zB bs R).1 (zB bs R).2 6) _ (hs.mem.rd1 hb (.c (.s .z) .n)) (hs.mem.del (.s .z)) (by omega)) rfl ?_
  have hk12 := zAw (X := 65535#64) (bs := bs) (R := (upS bs (zB bs R).1 (zB bs R).2 6)) (by omega)
  intro a w hs; refine zEP (X := (zD bs (65535#64) (upS bs (zB bs R).1 (zB bs R).2 6)).1) hs rfl rfl underlying130 underlying70 rfl ?_
  refine zHA 12 8 [0, 0] [52, 0] (.c (.s .z) .n) ⟨rfl, rfl, ?_⟩
  have hsw := zV3 (X := (zD bs 65535#64 (upS bs (zB bs R).1 (zB bs R).2 6)).1) (by have : (65535#64).toNat = 65535 := rfl; omega)
  refine go 0 [] [52, 0] .n ?_
  refine ifG rfl (fun c_13 => ?_) (fun c_13 => ?_)
  ·
   refine go 1 [] [53] .n ?_
   intro a w hs; refine zAA hs (.c rfl (.c rfl .n)) call77 (.c (.s .z) .n) (zDh 7 g _ _ bs ((zD bs (65535#64) (upS bs (zB bs R).1 (zB bs R).2 6)).2) _ (hs.mem.rd1 hb (.c (.s .z) .n)) (hs.mem.del (.s .z)) (by omega)) rfl ?_
   have hk14 := zBE (e := 7) (bs := bs) (R := ((zD bs (65535#64) (upS bs (zB bs R).1 (zB bs R).2 6)).2)) (by omega)
   refine goL 0 [] [] .n ?_
   intro a w hs; exact zHE hs rfl (by rw [zGT (by omega) (by first | exact zR3 hz6 | exact zRU hz6 (by omega) | exact zRg hz6 (by omega))]; exact ⟨rfl, rfl⟩)
  refine go 0 [] [] .n ?_
  refine cl (·.reorder (.c (.s .z) (.c .z .n))) ?_
  intro a w hs; exact zHE hs rfl (by rw [zGT (by omega) (by first | exact zR3 hz6 | exact zRU hz6 (by omega) | exact zRg hz6 (by omega))]; exact ⟨rfl, rfl⟩)
 have hz6 := zQy (by assumption)
 refine go 0 [] [] .n ?_
 refine cl (·.reorder (.c (.s .z) (.c .z .n))) ?_
 intro a w hs; exact zHE hs rfl (by rw [zGT (by omega) (by first | exact zR3 hz6 | exact zRU hz6 (by omega) | exact zRg hz6 (by omega))]; exact ⟨rfl, rfl⟩)
theorem zPS (x y : Value) (w0 : World) : Calls Tryz.prog 115 #[x, y] w0 (zCn w0 (.tuple #[])) := by
 refine zT (F0 := [(0, x), (1, y)]) func115 rfl rfl rfl (.c (.c .n)) (Mem.nil _) ?_
 refine go 0 [] [] .n ?_
 intro a w hs; exact zHE hs rfl ⟨rfl, rfl⟩
theorem zTl (g : Nat) (v : Value) (m : Nat) (bs : List zR) (R : Rs) (last : Int) (w0 : World) (hb : Rd w0 [g] v 1 m (zF bs)) (hg : (blk g [v, nI ((R).p), nI ((R).e)] 144).p w0) (hle : R.p ≤ bs.length) (hl : -9223372036854775808 ≤ last ∧ last ≤ 9223372036854775807) : Calls Tryz.prog 78 #[pt g 0, .int .i64 last] w0 (Ret w0 [g] fun u N => u = Value.tuple #[.agg #[zI (((zAM bs last R).1).k), zI (((zAM bs last R).1).id), zI (((zAM bs last R).1).p0), zI (((zAM bs last R).1).p1), zI (((zAM bs last R).1).p2), zI (((zAM bs last R).1).v0), zI (((zAM bs last R).1).v1), zI (((zAM bs last R).1).v2), .int .u16 (((((zAM bs last R).1).a).toNat : Nat) : Int)], nI ((zAM bs last R).2.1)] ∧ N = [blk g [v, nI (((zAM bs last R).2.2).p), nI (((zAM bs last R).2.2).e)] 144]) := by
 have hbl : bs.length = m := by have := hb.len; simpa [zF] using this
 have hbe : m ≤ maxLen := hb.le
 simp only [maxLen] at hbe
 refine zT (F0 := [(0, pt g 0), (1, zI last)]) func78 rfl rfl rfl (.c (.c .n)) (zBd hg) ?_
 refine go 9 [] [16, 4, 0, 1] .n (fun g1 => ?_)
 intro a w hs; refine zAB (b := decide (last < (-1))) (fun c_2 => ?_) (fun c_2 => ?_)
 ·
  rw [c_2] at hs
  replace c_2 := of_decide_eq_true c_2
  revert a w hs
  refine go 8 [0] [5, 4] (.c .z .n) ⟨rfl, ?_⟩
  have hq_ : zAM bs last R = (zLt, 3, R) := by first | exact zCS (by omega) | exact zCU (by omega) | exact zCR (by omega) (by omega) hraw (by omega) | exact zCz (by omega) (by omega) hraw (by omega)
  intro a w hs; exact zBV hs rfl rfl rfl .z (.z (.c (.c (.c (.c (.c (.c (.c (.c (.c .n)))))))))) isAgg112 sizeOf112 (.c .z .n) (by rw [hq_]; exact ⟨rfl, rfl⟩)
 rw [c_2] at hs
 replace c_2 := of_decide_eq_false c_2
 revert a w hs
 refine go 4 [] [13, 4, 0, 1] .n ?_
 refine ifG rfl (fun c_3 => ?_) (fun c_3 => ?_)
 ·
  refine go 3 [0] [5, 4] (.c .z .n) ⟨rfl, ?_⟩
  have hq_ : zAM bs last R = (zLt, 3, R) := by first | exact zCS (by omega) | exact zCU (by omega) | exact zCR (by omega) (by omega) hraw (by omega) | exact zCz (by omega) (by omega) hraw (by omega)
  intro a w hs; exact zBV hs rfl rfl rfl .z (.z (.c (.c (.c (.c (.c (.c (.c (.c (.c .n)))))))))) isAgg112 sizeOf112 (.c .z .n) (by rw [hq_]; exact ⟨rfl, rfl⟩)
 refine go 3 [] [21, 4, 0, 1] .n ?_
 refine ifG rfl (fun c_4 => ?_) (fun c_4 => ?_)
 ·
  refine go 1 [] [24, 4, 0] .n ?_
  intro a w hs; refine zAA hs (.c rfl (.c rfl .n)) call77 (.c (.s .z) .n) (zDh 10 g _ _ bs R _ (hs.mem.rd1 hb (.c (.s .z) .n)) (hs.mem.del (.s .z)) (by omega)) rfl ?_
  have hk5 := zBE (e := 10) (bs := bs) (R := R) (by omega)
  refine goL 2 [] [27, 26, 4] .n ?_
  intro a w hs; refine zH (v := nI ((zBL 10 R).e)) hs (.c rfl .n) call79 (zGh g _ _ bs (zBL 10 R) _ (hs.rd0 hb) (hs.mem.del .z) (by omega)) rfl ?_
  refine goL 2 [0] [5, 4] (.c (.s .z) .n) ⟨rfl, ?_⟩
  have hq_ : zAM bs last R = (zLt, (zBL 10 R).e, (zBL 10 R)) := by first | exact zCS (by omega) | exact zCU (by omega) | exact zCR (by omega) (by omega) hraw (by omega) | exact zCz (by omega) (by omega) hraw (by omega)
  intro a w hs; exact zBV hs rfl rfl rfl .z (.z (.c (.c (.c (.c (.c (.c (.c (.c (.c .n)))))))))) isAgg112 sizeOf112 (.c .z .n) (by rw [hq_]; exact ⟨rfl, rfl⟩)
 refine go 5 [0] [6, 4, 0] .n ⟨(by omega), fun g6 => ⟨rfl, ?_⟩⟩
 intro a w hs
 have hk8 := zAw (X := BitVec.ofInt 64 (65534 - last)) (bs := bs) (R := R) (by omega)
 refine zAx [.p [] [], .l [0] [0] [11] [], .p [] [], .p [] [], .l [3] [0] [11] [], .v [4] (zI (65534 - last)), .v [5] (qI (BitVec.ofInt 64 (65534 - last))), .y [6, 2] (qI ((zD bs (BitVec.ofInt 64 (65534 - last)) R).1)) [blk g [v, nI R.p, nI R.e] 144] [] [] fun vs7 => [blk g [v, nI (((zD bs (BitVec.ofInt 64 (65534 - last)) R).2).p), nI (((zD bs (BitVec.ofInt 64 (65534 - last)) R).2).e)] 144], .v [7] (nI ((zD bs (BitVec.ofInt 64 (65534 - last)) R).1.toNat)), .p [8, 1] [], .p [] [], .s [10, 9] [0] [0] []] [] hs (.c .z .n) (.c (.s .z) .n) .n (by kernel_rfl) ⟨rfl, rfl, ?_, fun _ _ _ _ hm hs K => zA0 hs rfl underlying3 underlying130 rfl (vk K), ?_, (by have := zMe (bs := bs) (last := last) (R := R) (by omega) (by omega) (by omega); omega), rfl, ⟨(.c (.s .z) (.c .z .n)), by kernel_rfl, fun _ => rfl, rfl, rfl⟩, ⟨?_, trivial⟩, ?_⟩
 ·
  intro a_ w_ R_ Q_ hm hs K_
  refine zFo hs rfl rfl (by omega) rfl ?_; clear hs; intro a w hs
  replace hs := hs.recell (v' := zI (65534 - last)) (Option.some.inj (congrArg (fun z => some (Value.int .i64 z)) (show 65535 - (last + 1) = 65534 - last by omega)))
  exact wpList_nil (K_ _ _ hs)
 ·
  intro a_ w_ R_ Q_ hm hs K_
  refine zAh (X := (zD bs (BitVec.ofInt 64 (65534 - last)) R).1) hs rfl rfl underlying130 underlying3 rfl ?_; clear hs; intro a w hs
  replace hs := hs.recell (v' := nI ((zD bs (BitVec.ofInt 64 (65534 - last)) R).1.toNat)) (Option.some.inj (congrArg (fun z => some (Value.int .i64 z)) (zMa (bs := bs) (R := R) (by omega) (by omega) (by omega))))
  exact wpList_nil (K_ _ _ hs)
 ·
  intro a_ w_ R_ rest_ vs7 hm hs ht hx
  have hs0 := hs.bare
  refine zO hs (.c rfl (.c rfl .n)) call74 (.c .z .n) (zEB (BitVec.ofInt 64 (65534 - last)) g _ _ bs R _ (hm.rd1 hb (zDQ.app _ _)) (hs.mem.del .z) (by omega)) rfl ?_; clear hs; rintro _ _ a w ⟨rfl, rfl⟩ hs
  have hk8 := zAw (X := BitVec.ofInt 64 (65534 - last)) (bs := bs) (R := R) (by omega)
  exact wpList_nil ⟨rfl, _, _, hs0, (.c (.c .r)), hs, rfl⟩
 clear hs w a; intro vs7 a w hs hf
 clear hf
 revert a w hs
 refine goE 1 [] [43, 6, 4, 0] .n ?_
 intro a w hs; refine zAA hs (.c rfl .n) call99 (.c (.s .z) .n) (zJw  g _ _ bs ((zD bs (BitVec.ofInt 64 (65534 - last)) R).2) _ (hs.mem.rd1 hb (.c (.s .z) .n)) (hs.mem.del (.s .z)) (by omega)) rfl ?_
 have hk9 := zCy (bs := bs) (R := ((zD bs (BitVec.ofInt 64 (65534 - last)) R).2)) (by omega)
 intro a w hs; refine zCW hs rfl (bvr ((zB bs ((zD bs (BitVec.ofInt 64 (65534 - last)) R).2)).1)) underlying5 underlying3 rfl ?_
 refine goL 2 [0] [6, 4, 0] (.c (.s (.s .z)) .n) ⟨rfl, ?_⟩
 intro a w hs; refine zH (v := .agg #[.func (.func 116) #[] #[], .func (.func 117) #[] #[], .func (.func 118) #[] #[], .func (.func 119) #[] #[], .func (.func 114) #[] #[], .func (.func 115) #[] #[], .func (.func 116) #[] #[], .func (.func 117) #[] #[]]) hs .n call97 (zGL _) rfl ?_
 refine zHA 11 5 [0, 1] [50, 7, 6, 4, 0] (.c .z .n) (fun g10 => ⟨rfl, rfl, ?_⟩)
 intro a w hs; refine zNK (fun a w => ∃ rr : zAd, ∃ RR : Rs, St 67 [(0, pt g 0), (4, pt g1 0), (6, pt g6 0)] w0 [g] [blk g [v, nI RR.p, nI RR.e] 144, blk g6 [zI rr.k, zI rr.id, zI rr.p0, zI rr.p1, zI rr.p2, zI rr.v0, zI rr.v1, zI rr.v2, .int .u16 (((rr.a).toNat : Nat) : Int)] 112, blk g1 [zI 0, zI 0, zI 0, zI 0, zI 0, zI 0, zI 0, zI 0, .int .u16 (0)] 112] a w ∧ zFT bs last R = (rr, RR) ∧ RR.p ≤ bs.length) ?_ ?_
 ·
  revert a w hs; refine ifG rfl (fun c_11 => ?_) (fun c_11 => ?_)
  ·
   rcases (show (((zB bs (zD bs (BitVec.ofInt 64 (65534 - last)) R).2).1.toNat : Nat) : Int) = 0 ∨ (((zB bs (zD bs (BitVec.ofInt 64 (65534 - last)) R).2).1.toNat : Nat) : Int) = 1 ∨ (((zB bs (zD bs (BitVec.ofInt 64 (65534 - last)) R).2).1.toNat : Nat) : Int) = 2 ∨ (((zB bs (zD bs (BitVec.ofInt 64 (65534 - last)) R).2).1.toNat : Nat) : Int) = 3 from by omega) with hk12 | hk12 | hk12 | hk12
   ·
    refine go 2 [0] [52, 7, 6, 4, 0] (.c (.s .z) .n) ⟨rfl, ?_⟩
    refine cl (·.recell (v' := zI 0) (Option.some.inj (congrArg (fun z => some (Value.int .i64 z)) hk12))) ?_
    refine go 4 [0] [56, 55, 6, 4, 0] (.c (.s .z) .n) ⟨rfl, ?_⟩
    intro a w hs; refine zBp (us := []) hs rfl (.c rfl (.c rfl .n)) rfl call117 (.c (.s (.s .z)) (.c (.s .z) .n)) (zI4 g g6 _ _ bs ((zB bs ((zD bs (BitVec.ofInt 64 (65534 - last)) R).2)).2) ((((zB bs ((zD bs (BitVec.ofInt 64 (65534 - last)) R).2)).1).toNat : Nat) : Int) ((last + 1) + (((zD bs (BitVec.ofInt 64 (65534 - last)) R).1.toNat : Nat) : Int)) _ (hs.mem.rd1 hb (.c (.s (.s .z)) (.c (.s .z) .n))) (hs.mem.del (.s (.s .z))) (hs.mem.del (.s .z)) (by omega)) rfl ?_; clear hs w a; rintro _ _ a w ⟨rfl, rfl⟩ hs
    have hk13 := zJO (bs := bs) (k := ((((zB bs ((zD bs (BitVec.ofInt 64 (65534 - last)) R).2)).1).toNat : Nat) : Int)) (id := (last + 1) + (((zD bs (BitVec.ofInt 64 (65534 - last)) R).1.toNat : Nat) : Int)) (R := ((zB bs ((zD bs (BitVec.ofInt 64 (65534 - last)) R).2)).2)) (by omega)
    revert a w hs
    refine goL 0 [] [6, 4, 0] .n ?_
    refine cl (·.drop (.c (.s (.s .z)) .n)) ?_
    intro a w hs; exact ⟨((zBx bs ((((zB bs ((zD bs (BitVec.ofInt 64 (65534 - last)) R).2)).1).toNat : Nat) : Int) ((last + 1) + (((zD bs (BitVec.ofInt 64 (65534 - last)) R).1.toNat : Nat) : Int)) ((zB bs ((zD bs (BitVec.ofInt 64 (65534 - last)) R).2)).2)).1), ((zBx bs ((((zB bs ((zD bs (BitVec.ofInt 64 (65534 - last)) R).2)).1).toNat : Nat) : Int) ((last + 1) + (((zD bs (BitVec.ofInt 64 (65534 - last)) R).1.toNat : Nat) : Int)) ((zB bs ((zD bs (BitVec.ofInt 64 (65534 - last)) R).2)).2)).2), hs.sub (.c rfl (.c rfl (.c rfl .n))), zGf ((zDB _ _ _).trans (zGt (by omega))), by omega⟩
   ·
    refine go 2 [0] [52, 7, 6, 4, 0] (.c (.s .z) .n) ⟨rfl, ?_⟩
    refine cl (·.recell (v' := zI 1) (Option.some.inj (congrArg (fun z => some (Value.int .i64 z)) hk12))) ?_
    refine go 4 [0] [56, 55, 6, 4, 0] (.c (.s .z) .n) ⟨rfl, ?_⟩
    intro a w hs; refine zBp (us := []) hs rfl (.c rfl (.c rfl .n)) rfl call119 (.c (.s (.s .z)) (.c (.s .z) .n)) (zLJ g g6 _ _ bs ((zB bs ((zD bs (BitVec.ofInt 64 (65534 - last)) R).2)).2) ((((zB bs ((zD bs (BitVec.ofInt 64 (65534 - last)) R).2)).1).toNat : Nat) : Int) ((last + 1) + (((zD bs (BitVec.ofInt 64 (65534 - last)) R).1.toNat : Nat) : Int)) _ (hs.mem.rd1 hb (.c (.s (.s .z)) (.c (.s .z) .n))) (hs.mem.del (.s (.s .z))) (hs.mem.del (.s .z)) (by omega)) rfl ?_; clear hs w a; rintro _ _ a w ⟨rfl, rfl⟩ hs
    have hk14 := zHl (bs := bs) (k := ((((zB bs ((zD bs (BitVec.ofInt 64 (65534 - last)) R).2)).1).toNat : Nat) : Int)) (id := (last + 1) + (((zD bs (BitVec.ofInt 64 (65534 - last)) R).1.toNat : Nat) : Int)) (R := ((zB bs ((zD bs (BitVec.ofInt 64 (65534 - last)) R).2)).2)) (by omega)
    revert a w hs
    refine goL 0 [] [6, 4, 0] .n ?_
    refine cl (·.drop (.c (.s (.s .z)) .n)) ?_
    intro a w hs; exact ⟨((zA6 bs ((((zB bs ((zD bs (BitVec.ofInt 64 (65534 - last)) R).2)).1).toNat : Nat) : Int) ((last + 1) + (((zD bs (BitVec.ofInt 64 (65534 - last)) R).1.toNat : Nat) : Int)) ((zB bs ((zD bs (BitVec.ofInt 64 (65534 - last)) R).2)).2)).1), ((zA6 bs ((((zB bs ((zD bs (BitVec.ofInt 64 (65534 - last)) R).2)).1).toNat : Nat) : Int) ((last + 1) + (((zD bs (BitVec.ofInt 64 (65534 - last)) R).1.toNat : Nat) : Int)) ((zB bs ((zD bs (BitVec.ofInt 64 (65534 - last)) R).2)).2)).2), hs.sub (.c rfl (.c rfl (.c rfl .n))), zGf ((zDB _ _ _).trans (zIJ (by omega))), by omega⟩
   ·
    refine go 2 [0] [52, 7, 6, 4, 0] (.c (.s .z) .n) ⟨rfl, ?_⟩
    refine cl (·.recell (v' := zI 2) (Option.some.inj (congrArg (fun z => some (Value.int .i64 z)) hk12))) ?_
    refine go 4 [0] [56, 55, 6, 4, 0] (.c (.s .z) .n) ⟨rfl, ?_⟩
    intro a w hs; refine zEi (us := []) (v := .tuple #[]) hs rfl (.c rfl (.c rfl .n)) rfl call115 (zPS _ _ _) rfl ?_
    refine goL 0 [] [6, 4, 0] .n ?_
    refine cl (·.drop (.c .z .n)) ?_
    refine cl (·.reorder (.c (.s .z) (.c .z (.c .z .n)))) ?_
    intro a w hs; exact ⟨(⟨((((zB bs ((zD bs (BitVec.ofInt 64 (65534 - last)) R).2)).1).toNat : Nat) : Int), (last + 1) + (((zD bs (BitVec.ofInt 64 (65534 - last)) R).1.toNat : Nat) : Int), 0, 0, 0, 0, 0, 0, 0#16⟩ : zAd), ((zB bs ((zD bs (BitVec.ofInt 64 (65534 - last)) R).2)).2), hs.sub (.c rfl (.c rfl (.c rfl .n))), (zDB _ _ _).trans (zHk (by omega)), by omega⟩
   refine go 2 [0] [52, 7, 6, 4, 0] (.c (.s .z) .n) ⟨rfl, ?_⟩
   refine cl (·.recell (v' := zI 3) (Option.some.inj (congrArg (fun z => some (Value.int .i64 z)) hk12))) ?_
   refine go 4 [0] [56, 55, 6, 4, 0] (.c (.s .z) .n) ⟨rfl, ?_⟩
   intro a w hs; refine zBp (us := []) hs rfl (.c rfl (.c rfl .n)) rfl call117 (.c (.s (.s .z)) (.c (.s .z) .n)) (zI4 g g6 _ _ bs ((zB bs ((zD bs (BitVec.ofInt 64 (65534 - last)) R).2)).2) ((((zB bs ((zD bs (BitVec.ofInt 64 (65534 - last)) R).2)).1).toNat : Nat) : Int) ((last + 1) + (((zD bs (BitVec.ofInt 64 (65534 - last)) R).1.toNat : Nat) : Int)) _ (hs.mem.rd1 hb (.c (.s (.s .z)) (.c (.s .z) .n))) (hs.mem.del (.s (.s .z))) (hs.mem.del (.s .z)) (by omega)) rfl ?_; clear hs w a; rintro _ _ a w ⟨rfl, rfl⟩ hs
   have hk15 := zJO (bs := bs) (k := ((((zB bs ((zD bs (BitVec.ofInt 64 (65534 - last)) R).2)).1).toNat : Nat) : Int)) (id := (last + 1) + (((zD bs (BitVec.ofInt 64 (65534 - last)) R).1.toNat : Nat) : Int)) (R := ((zB bs ((zD bs (BitVec.ofInt 64 (65534 - last)) R).2)).2)) (by omega)
   revert a w hs
   refine goL 0 [] [6, 4, 0] .n ?_
   refine cl (·.drop (.c (.s (.s .z)) .n)) ?_
   intro a w hs; exact ⟨((zBx bs ((((zB bs ((zD bs (BitVec.ofInt 64 (65534 - last)) R).2)).1).toNat : Nat) : Int) ((last + 1) + (((zD bs (BitVec.ofInt 64 (65534 - last)) R).1.toNat : Nat) : Int)) ((zB bs ((zD bs (BitVec.ofInt 64 (65534 - last)) R).2)).2)).1), ((zBx bs ((((zB bs ((zD bs (BitVec.ofInt 64 (65534 - last)) R).2)).1).toNat : Nat) : Int) ((last + 1) + (((zD bs (BitVec.ofInt 64 (65534 - last)) R).1.toNat : Nat) : Int)) ((zB bs ((zD bs (BitVec.ofInt 64 (65534 - last)) R).2)).2)).2), hs.sub (.c rfl (.c rfl (.c rfl .n))), zGf ((zDB _ _ _).trans (zGt (by omega))), by omega⟩
  refine go 1 [] [58, 6, 4, 0] .n ?_
  intro a w hs; refine zAA hs (.c rfl (.c rfl .n)) call77 (.c (.s (.s .z)) .n) (zDh 11 g _ _ bs ((zB bs ((zD bs (BitVec.ofInt 64 (65534 - last)) R).2)).2) _ (hs.mem.rd1 hb (.c (.s (.s .z)) .n)) (hs.mem.del (.s (.s .z))) (by omega)) rfl ?_
  have hk16 := zBE (e := 11) (bs := bs) (R := ((zB bs ((zD bs (BitVec.ofInt 64 (65534 - last)) R).2)).2)) (by omega)
  refine goL 0 [] [6, 4, 0] .n ?_
  refine cl (·.drop (.c (.s .z) .n)) ?_
  intro a w hs; exact ⟨(⟨((((zB bs ((zD bs (BitVec.ofInt 64 (65534 - last)) R).2)).1).toNat : Nat) : Int), (last + 1) + (((zD bs (BitVec.ofInt 64 (65534 - last)) R).1.toNat : Nat) : Int), 0, 0, 0, 0, 0, 0, 0#16⟩ : zAd), (zBL 11 ((zB bs ((zD bs (BitVec.ofInt 64 (65534 - last)) R).2)).2)), hs.sub (.c rfl (.c rfl (.c rfl .n))), (zDB _ _ _).trans (zIs (by omega)), by omega⟩
 clear hs w a; rintro a w ⟨rr, RR, hs, hJ17, hJ18⟩
 have hraw := hJ17
 revert a w hs
 refine go 1 [] [60, 4, 6] .n ?_
 intro a w hs; refine zH (v := nI RR.e) hs (.c rfl .n) call79 (zGh g _ _ bs RR _ (hs.rd0 hb) (hs.mem.del .z) (by omega)) rfl ?_
 refine goL 3 [] [63, 8, 4, 6] .n ?_
 refine ifG rfl (fun c_19 => ?_) (fun c_19 => ?_)
 ·
  refine go 4 [0] [5, 4] (.c (.s (.s .z)) .n) ⟨rfl, ?_⟩
  have hq_ : zAM bs last R = (zLt, RR.e, RR) := by first | exact zCS (by omega) | exact zCU (by omega) | exact zCR (by omega) (by omega) hraw (by omega) | exact zCz (by omega) (by omega) hraw (by omega)
  intro a w hs; exact zBV hs rfl rfl rfl .z (.z (.c (.c (.c (.c (.c (.c (.c (.c (.c .n)))))))))) isAgg112 sizeOf112 (.c (.s (.s .z)) (.c .z .n)) (by rw [hq_]; exact ⟨rfl, rfl⟩)
 refine go 3 [0, 1] [5, 4] (.c (.s .z) (.c (.s .z) .n)) ⟨rfl, rfl, ?_⟩
 have hq_ : zAM bs last R = (rr, 0, RR) := by first | exact zCS (by omega) | exact zCU (by omega) | exact zCR (by omega) (by omega) hraw (by omega) | exact zCz (by omega) (by omega) hraw (by omega)
 intro a w hs; exact zBV hs rfl rfl rfl (.s .z) (.z (.c (.c (.c (.c (.c (.c (.c (.c (.c .n)))))))))) isAgg112 sizeOf112 (.c (.s .z) (.c .z .n)) (by rw [hq_]; exact ⟨rfl, rfl⟩)
end Go.Proofs.YtbacobmcfelmkaaGreat
