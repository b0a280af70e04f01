/- Walks of the document's records off bytes: what each function does, over the program of this seat. Printed by a program of this session. -/
import Derived.Test.YtbacobmcfelmkaaGreatQWrec
import Derived.Test.YtbacobmcfelmkaaGreatQSxBasB
namespace Go.Proofs.YtbacobmcfelmkaaGreat
open Tryz
open Go Go.Sx Go.RowKit
set_option linter.unusedVariables false
set_option linter.unusedSimpArgs false
set_option maxRecDepth 4000
set_option maxHeartbeats 1000000

theorem zTJ (g h : Nat) (u : Value) (bs : List zR) (R : Rs) (k idn : Int) (w0 : World) (hb : Rd w0 [g, h] u 1 (bs.length - R.p) (zF (bs.drop R.p))) (hg : (blk g [u, nI ((R).p), nI ((R).e)] 128).p w0) (hh : (blk h [zI k, zI idn, zI 0, zI 0, zI 0, zI 0, zI 0, zI 0, .int .u16 (0)] 112).p w0) (hle : R.p ≤ bs.length) (hlm : bs.length ≤ maxLen) : Calls Tryz.prog 92 #[pt g 0, pt h 0] w0 (Ret w0 [g, h] fun x N => ∃ u', x = .tuple #[] ∧ N = [blk g [u', nI (((zA6 bs k idn R).2).p), nI (((zA6 bs k idn R).2).e)] 128, blk h [zI (((zA6 bs k idn R).1).k), zI (((zA6 bs k idn R).1).id), zI (((zA6 bs k idn R).1).p0), zI (((zA6 bs k idn R).1).p1), zI (((zA6 bs k idn R).1).p2), zI (((zA6 bs k idn R).1).v0), zI (((zA6 bs k idn R).1).v1), zI (((zA6 bs k idn R).1).v2), .int .u16 (((((zA6 bs k idn R).1).a).toNat : Nat) : Int)] 112] ∧ Tr bs u R.p u' (zA6 bs k idn R).2.p) := by
 simp only [maxLen] at hlm
 refine zT (F0 := [(0, pt g 0), (1, pt h 0)]) func92 rfl rfl rfl (.c (.c .n)) (zDo hg hh (by simp [zX, blk, zFa hg hh (by decide)])) ?_
 refine go 1 [] [7, 0, 1] .n ?_
 intro a w hs; refine zAA hs (.c rfl .n) call88 (.c .z .n) (zJT  g _ bs R _ (hs.mem.rd1 hb (.c .z .n)) (hs.mem.del .z) (by omega) (by simp only [maxLen]; omega)) rfl ?_
 have hk1 := zCy (bs := bs) (R := R) (by omega)
 refine goL 4 [] [11, 4, 0, 1] .n ?_
 intro a w hs; refine zAB (b := (((((zB bs R).1).toNat : Nat) : Int) : Int) == 0) (fun c_2 => ?_) (fun c_2 => ?_)
 ·
  rw [c_2] at hs
  replace c_2 := eq_of_beq c_2
  revert a w hs
  refine go 5 [] [15] .n ?_
  intro a w hs; refine zAA hs (.c rfl (.c rfl .n)) call64 (.c .z .n) (zDF 7 g _ bs ((zB bs R).2) _ ((zW (p := R.p) (p' := ((zB bs R).2).p) (by omega) (by omega)) _ _ (hs.mem.rd1 hb (.c .z .n))) (hs.mem.del .z) (by omega) (by simp only [maxLen]; omega)) rfl ?_
  have hk3 := zBE (bs := bs) (R := ((zB bs R).2)) (e := 7) (by omega)
  refine goL 0 [] [] .n ?_
  intro a w hs; exact zPF hs rfl (by rw [zFF (by omega)]; exact ⟨_, rfl, rfl, (Tr.trans (Tr.trans Tr.refl (zW (p := R.p) (p' := ((zB bs R).2).p) (by omega) (by omega))) (zEO (bs := bs) (R := ((zB bs R).2)) (e := 7)))⟩)
 rw [c_2] at hs
 replace c_2 := zAK c_2
 revert a w hs
 refine go 3 [] [14, 4, 0, 1] .n ?_
 refine ifG rfl (fun c_4 => ?_) (fun c_4 => ?_)
 ·
  refine go 1 [] [15] .n ?_
  intro a w hs; refine zAA hs (.c rfl (.c rfl .n)) call64 (.c .z .n) (zDF 7 g _ bs ((zB bs R).2) _ ((zW (p := R.p) (p' := ((zB bs R).2).p) (by omega) (by omega)) _ _ (hs.mem.rd1 hb (.c .z .n))) (hs.mem.del .z) (by omega) (by simp only [maxLen]; omega)) rfl ?_
  have hk5 := zBE (bs := bs) (R := ((zB bs R).2)) (e := 7) (by omega)
  refine goL 0 [] [] .n ?_
  intro a w hs; exact zPF hs rfl (by rw [zFF (by omega)]; exact ⟨_, rfl, rfl, (Tr.trans (Tr.trans Tr.refl (zW (p := R.p) (p' := ((zB bs R).2).p) (by omega) (by omega))) (zEO (bs := bs) (R := ((zB bs R).2)) (e := 7)))⟩)
 refine goF 5 1 [] [5, 4, 0, 1] .n ?_
 refine cl (·.reslot (d := 4) (v := bI ((zB bs R).1)) (v' := bI (zGX (zB bs R).1 0)) rfl (Option.some.inj rfl)) ?_
 refine cl (·.reblk .z (cs' := [(zAQ u bs.length R.p ((zB bs R).2).p), nI ((upT bs (zB bs R).1 (zB bs R).2 0).p), nI ((upT bs (zB bs R).1 (zB bs R).2 0).e)]) rfl) ?_
 refine cl (·.reblk (.s .z) (cs' := [zI k, zI idn, zI (upQ bs (zB bs R).1 (zB bs R).2 0 0), zI (upQ bs (zB bs R).1 (zB bs R).2 0 1), zI (upQ bs (zB bs R).1 (zB bs R).2 0 2), zI (upQ bs (zB bs R).1 (zB bs R).2 0 3), zI (upQ bs (zB bs R).1 (zB bs R).2 0 4), zI (upQ bs (zB bs R).1 (zB bs R).2 0 5), .int .u16 (((upB bs (zB bs R).1 (zB bs R).2 0).toNat : Nat) : Int)]) rfl) ?_
 have hu0 : (upT bs (zB bs R).1 (zB bs R).2 0).p = (zB bs R).2.p := rfl
 refine go 0 [] [4, 5, 0, 1] .n ?_
 refine cl (·.reorder (.c (.s .z) (.c .z .n))) ?_
 intro a w hs; refine zCA (fun mm_ a w => ∃ i : Nat, ∃ q : Value, mm_ = 7 - i ∧ St 61 [(0, pt g 0), (1, pt h 0), (4, bI (zGX (zB bs R).1 i)), (5, nI i)] w0 [g, h] [blk g [q, nI ((upT bs (zB bs R).1 (zB bs R).2 i).p), nI ((upT bs (zB bs R).1 (zB bs R).2 i).e)] 128, blk h [zI k, zI idn, zI (upQ bs (zB bs R).1 (zB bs R).2 i 0), zI (upQ bs (zB bs R).1 (zB bs R).2 i 1), zI (upQ bs (zB bs R).1 (zB bs R).2 i 2), zI (upQ bs (zB bs R).1 (zB bs R).2 i 3), zI (upQ bs (zB bs R).1 (zB bs R).2 i 4), zI (upQ bs (zB bs R).1 (zB bs R).2 i 5), .int .u16 (((upB bs (zB bs R).1 (zB bs R).2 i).toNat : Nat) : Int)] 112] a w ∧ i ≤ 7 ∧ Tr bs u R.p q (upT bs (zB bs R).1 (zB bs R).2 i).p ∧ (upT bs (zB bs R).1 (zB bs R).2 i).p ≤ bs.length) ⟨0, (zAQ u bs.length R.p ((zB bs R).2).p), rfl, hs.sub (.c rfl (.c rfl (.c rfl (.c rfl .n)))), by omega, (Tr.trans Tr.refl (zW (p := R.p) (p' := ((zB bs R).2).p) (by omega) (by omega))), by omega⟩ ?_
 clear hs w a; rintro mm_ a w ⟨i, q, rfl, hs, hI1_0, hI1_1, hI1_2⟩
 revert a w hs
 refine go 2 [] [18, 0, 1, 4, 5] .n ?_
 refine ifG rfl (fun c_6 => ?_) (fun c_6 => ?_)
 ·
  have eT := zUq (bs := bs) (m := (zB bs R).1) (R := (zB bs R).2) (i := i) (by omega)
  have eB := zMG (bs := bs) (m := (zB bs R).1) (R := (zB bs R).2) (i := i) (by omega)
  intro a w hs; rw [eT] at hI1_1 hI1_2
  replace hs := hs.reblk .z (cs' := [q, nI ((upS bs (zB bs R).1 (zB bs R).2 i).p), nI ((upS bs (zB bs R).1 (zB bs R).2 i).e)]) (by rw [eT])
  replace hs := hs.reblk (.s .z) (cs' := [zI k, zI idn, zI (upQ bs (zB bs R).1 (zB bs R).2 i 0), zI (upQ bs (zB bs R).1 (zB bs R).2 i 1), zI (upQ bs (zB bs R).1 (zB bs R).2 i 2), zI (upQ bs (zB bs R).1 (zB bs R).2 i 3), zI (upQ bs (zB bs R).1 (zB bs R).2 i 4), zI (upQ bs (zB bs R).1 (zB bs R).2 i 5), .int .u16 (0)]) (by rw [eB]; rfl)
  revert a w hs
  refine go 1 [] [21, 0, 1, 4, 5] .n ?_
  intro a w hs; refine zFw (X := zGX (zB bs R).1 i) (Y := 2#8) hs rfl rfl rfl (by decide) (by decide) rfl ?_
  refine goL 1 [] [23, 0, 1, 4, 5] .n ?_
  refine ifG rfl (fun c_7 => ?_) (fun c_7 => ?_)
  ·
   have hz_ := zQq (m := (zB bs R).1) (i := i) (by assumption)
   refine go 3 [] [25, 0, 1, 4, 5] .n ?_
   refine ifG rfl (fun c_8 => ?_) (fun c_8 => ?_)
   ·
    refine go 1 [] [26, 0, 1, 4, 5] .n ?_
    intro a w hs; refine zAA hs (.c rfl .n) call63 (.c (.s .z) .n) (zH0  g _ bs (upS bs (zB bs R).1 (zB bs R).2 i) _ (hI1_1 _ _ (hs.mem.rd1 hb (.c (.s .z) .n))) (hs.mem.del (.s .z)) (by omega) (by simp only [maxLen]; omega)) rfl ?_
    have hk9 := zBm (bs := bs) (R := (upS bs (zB bs R).1 (zB bs R).2 i)) (by omega)
    refine zHA 10 3 [] [32, 6, 0, 1, 4, 5] .n ?_
    intro a w hs; refine zNK (fun a w => St 61 [(0, pt g 0), (1, pt h 0), (4, bI (zGX (zB bs R).1 i)), (5, nI i), (6, zI ((zJ bs (upS bs (zB bs R).1 (zB bs R).2 i)).1))] w0 [g, h] [blk g [(zAQ q bs.length (upS bs (zB bs R).1 (zB bs R).2 i).p ((zJ bs (upS bs (zB bs R).1 (zB bs R).2 i)).2).p), nI ((upT bs (zB bs R).1 (zB bs R).2 (i + 1)).p), nI ((upT bs (zB bs R).1 (zB bs R).2 (i + 1)).e)] 128, blk h [zI k, zI idn, zI (upQ bs (zB bs R).1 (zB bs R).2 i 0), zI (upQ bs (zB bs R).1 (zB bs R).2 i 1), zI (upQ bs (zB bs R).1 (zB bs R).2 i 2), zI (upQ bs (zB bs R).1 (zB bs R).2 i 3), zI (upQ bs (zB bs R).1 (zB bs R).2 i 4), zI (upQ bs (zB bs R).1 (zB bs R).2 i 5), .int .u16 (0)] 112] a w ∧ Tr bs u R.p (zAQ q bs.length (upS bs (zB bs R).1 (zB bs R).2 i).p ((zJ bs (upS bs (zB bs R).1 (zB bs R).2 i)).2).p) (upT bs (zB bs R).1 (zB bs R).2 (i + 1)).p) ?_ ?_
    ·
     revert a w hs; refine ifG rfl (fun c_10 => ?_) (fun c_10 => ?_)
     ·
      refine go 1 [] [33, 6, 0, 1, 4, 5] .n ?_
      intro a w hs; refine zAA hs (.c rfl (.c rfl .n)) call64 (.c .z .n) (zDF 7 g _ bs ((zJ bs (upS bs (zB bs R).1 (zB bs R).2 i)).2) _ ((zW (p := (upS bs (zB bs R).1 (zB bs R).2 i).p) (p' := ((zJ bs (upS bs (zB bs R).1 (zB bs R).2 i)).2).p) (by omega) (by omega)) _ _ (hI1_1 _ _ (hs.mem.rd1 hb (.c .z .n)))) (hs.mem.del .z) (by omega) (by simp only [maxLen]; omega)) rfl ?_
      have hk11 := zBE (bs := bs) (R := ((zJ bs (upS bs (zB bs R).1 (zB bs R).2 i)).2)) (e := 7) (by omega)
      refine goL 0 [] [6, 0, 1, 4, 5] .n ?_
      have hT_ : Tr bs u R.p (id (zAQ q bs.length (upS bs (zB bs R).1 (zB bs R).2 i).p ((zJ bs (upS bs (zB bs R).1 (zB bs R).2 i)).2).p)) (zBL 7 ((zJ bs (upS bs (zB bs R).1 (zB bs R).2 i)).2)).p := (Tr.trans (Tr.trans (Tr.trans Tr.refl hI1_1) (zW (p := (upS bs (zB bs R).1 (zB bs R).2 i).p) (p' := ((zJ bs (upS bs (zB bs R).1 (zB bs R).2 i)).2).p) (by omega) (by omega))) (zEO (bs := bs) (R := ((zJ bs (upS bs (zB bs R).1 (zB bs R).2 i)).2)) (e := 7)))
      have hS_ : (upT bs (zB bs R).1 (zB bs R).2 (i + 1)) = (zBL 7 ((zJ bs (upS bs (zB bs R).1 (zB bs R).2 i)).2)) := (zPd (by omega)).trans (zV1 hz_ (by assumption))
      intro a w hs; replace hs := hs.reblk .z (cs' := [(zAQ q bs.length (upS bs (zB bs R).1 (zB bs R).2 i).p ((zJ bs (upS bs (zB bs R).1 (zB bs R).2 i)).2).p), nI ((upT bs (zB bs R).1 (zB bs R).2 (i + 1)).p), nI ((upT bs (zB bs R).1 (zB bs R).2 (i + 1)).e)]) (by rw [hS_] <;> rfl)
      exact ⟨hs.sub (.c rfl (.c rfl (.c rfl (.c rfl (.c rfl .n))))), (by rw [hS_]; exact hT_)⟩
     refine go 0 [] [6, 0, 1, 4, 5] .n ?_
     have hT_ : Tr bs u R.p (zAQ q bs.length (upS bs (zB bs R).1 (zB bs R).2 i).p ((zJ bs (upS bs (zB bs R).1 (zB bs R).2 i)).2).p) ((zJ bs (upS bs (zB bs R).1 (zB bs R).2 i)).2).p := (Tr.trans (Tr.trans Tr.refl hI1_1) (zW (p := (upS bs (zB bs R).1 (zB bs R).2 i).p) (p' := ((zJ bs (upS bs (zB bs R).1 (zB bs R).2 i)).2).p) (by omega) (by omega)))
     have hS_ : (upT bs (zB bs R).1 (zB bs R).2 (i + 1)) = ((zJ bs (upS bs (zB bs R).1 (zB bs R).2 i)).2) := (zPd (by omega)).trans (zV5 hz_ (by assumption))
     intro a w hs; replace hs := hs.reblk .z (cs' := [(zAQ q bs.length (upS bs (zB bs R).1 (zB bs R).2 i).p ((zJ bs (upS bs (zB bs R).1 (zB bs R).2 i)).2).p), nI ((upT bs (zB bs R).1 (zB bs R).2 (i + 1)).p), nI ((upT bs (zB bs R).1 (zB bs R).2 (i + 1)).e)]) (by rw [hS_] <;> rfl)
     exact ⟨hs.sub (.c rfl (.c rfl (.c rfl (.c rfl (.c rfl .n))))), (by rw [hS_]; exact hT_)⟩
    clear hs w a; rintro a w ⟨hs, hJ12⟩
    revert a w hs
    refine go 3 [] [40, 0, 1, 4, 5, 6] .n ?_
    refine ifG rfl (fun c_13 => ?_) (fun c_13 => ?_)
    ·
     refine go 5 [] [47, 45, 44, 0, 1, 4, 5] .n ?_
     intro a w hs; refine zCq (j := i) hs rfl rfl underlying69 (by omega) sizeOf2 rfl ?_
     have hX_ := zTG (bs := bs) (R := (zB bs R).2) hz_
     intro a w hs; refine zH6 (cs' := [zI k, zI idn, zI (upQ bs (zB bs R).1 (zB bs R).2 (i + 1) 0), zI (upQ bs (zB bs R).1 (zB bs R).2 (i + 1) 1), zI (upQ bs (zB bs R).1 (zB bs R).2 (i + 1) 2), zI (upQ bs (zB bs R).1 (zB bs R).2 (i + 1) 3), zI (upQ bs (zB bs R).1 (zB bs R).2 (i + 1) 4), zI (upQ bs (zB bs R).1 (zB bs R).2 (i + 1) 5), .int .u16 (0)]) hs rfl rfl (.s .z) (by show 2 + i < 9; omega) (by rw [← hX_]; exact zLF (by omega)) rfl sizeOf2 ?_
     refine goL 1 [] [59, 0, 1, 5] .n ?_
     intro a w hs; refine zGF (X := zGX (zB bs R).1 i) (Y := 2#8) hs rfl rfl rfl (by decide) (by decide) rfl ?_
     refine zHA 8 4 [] [5, 4, 0, 1] .n ⟨(by omega), ?_⟩
     refine go 0 [] [5, 4, 0, 1] .n ?_
     have hB_ := zMG (bs := bs) (m := (zB bs R).1) (R := (zB bs R).2) (i := i + 1) (by omega)
     intro a w hs; replace hs := hs.reblk .z (cs' := [zI k, zI idn, zI (upQ bs (zB bs R).1 (zB bs R).2 (i + 1) 0), zI (upQ bs (zB bs R).1 (zB bs R).2 (i + 1) 1), zI (upQ bs (zB bs R).1 (zB bs R).2 (i + 1) 2), zI (upQ bs (zB bs R).1 (zB bs R).2 (i + 1) 3), zI (upQ bs (zB bs R).1 (zB bs R).2 (i + 1) 4), zI (upQ bs (zB bs R).1 (zB bs R).2 (i + 1) 5), .int .u16 (((upB bs (zB bs R).1 (zB bs R).2 (i + 1)).toNat : Nat) : Int)]) (by rw [hB_]; rfl)
     replace hs := hs.reslot (d := 4) (v := bI ((zGX (zB bs R).1 i) / (2#8))) (v' := bI (zGX (zB bs R).1 (i + 1))) rfl (Option.some.inj rfl)
     replace hs := hs.reorder (.c (.s .z) (.c .z .n))
     refine ⟨_, ?_, (i + 1), (zAQ q bs.length (upS bs (zB bs R).1 (zB bs R).2 i).p ((zJ bs (upS bs (zB bs R).1 (zB bs R).2 i)).2).p), rfl, hs.sub (.c rfl (.c rfl (.c rfl (.c rfl .n)))), by omega, hJ12, zMn (by omega) _⟩
     omega
    refine go 3 [] [49, 0, 1, 4, 5, 6] .n ?_
    refine ifG rfl (fun c_14 => ?_) (fun c_14 => ?_)
    ·
     refine go 3 [] [54, 52, 0, 1, 4, 5, 6] .n ⟨(by omega), ?_⟩
     have h3_ : ((i : Nat) : Int) - 3 = ((i - 3 : Nat) : Int) := by omega
     refine cl (·.reslot (d := 54) (v := zI (((i : Nat) : Int) - 3)) (v' := nI (i - 3)) rfl (Option.some.inj (congrArg (fun z => some (Value.int .i64 z)) h3_))) ?_
     refine go 3 [] [57, 55, 54, 0, 1, 4, 5] .n ?_
     intro a w hs; refine zCq (j := (i - 3)) hs rfl rfl underlying69 (by omega) sizeOf2 rfl ?_
     have hX_ := zTG (bs := bs) (R := (zB bs R).2) hz_
     intro a w hs; refine zH6 (cs' := [zI k, zI idn, zI (upQ bs (zB bs R).1 (zB bs R).2 (i + 1) 0), zI (upQ bs (zB bs R).1 (zB bs R).2 (i + 1) 1), zI (upQ bs (zB bs R).1 (zB bs R).2 (i + 1) 2), zI (upQ bs (zB bs R).1 (zB bs R).2 (i + 1) 3), zI (upQ bs (zB bs R).1 (zB bs R).2 (i + 1) 4), zI (upQ bs (zB bs R).1 (zB bs R).2 (i + 1) 5), .int .u16 (0)]) hs rfl rfl (.s .z) (by show 5 + (i - 3) < 9; omega) (by rw [← hX_]; show List.set _ (5 + (i - 3)) _ = _; rw [show 5 + (i - 3) = 2 + i from by omega]; exact zLF (by omega)) rfl sizeOf2 ?_
     refine goL 1 [] [59, 0, 1, 5] .n ?_
     intro a w hs; refine zGF (X := zGX (zB bs R).1 i) (Y := 2#8) hs rfl rfl rfl (by decide) (by decide) rfl ?_
     refine zHA 8 4 [] [5, 4, 0, 1] .n ⟨(by omega), ?_⟩
     refine go 0 [] [5, 4, 0, 1] .n ?_
     have hB_ := zMG (bs := bs) (m := (zB bs R).1) (R := (zB bs R).2) (i := i + 1) (by omega)
     intro a w hs; replace hs := hs.reblk .z (cs' := [zI k, zI idn, zI (upQ bs (zB bs R).1 (zB bs R).2 (i + 1) 0), zI (upQ bs (zB bs R).1 (zB bs R).2 (i + 1) 1), zI (upQ bs (zB bs R).1 (zB bs R).2 (i + 1) 2), zI (upQ bs (zB bs R).1 (zB bs R).2 (i + 1) 3), zI (upQ bs (zB bs R).1 (zB bs R).2 (i + 1) 4), zI (upQ bs (zB bs R).1 (zB bs R).2 (i + 1) 5), .int .u16 (((upB bs (zB bs R).1 (zB bs R).2 (i + 1)).toNat : Nat) : Int)]) (by rw [hB_]; rfl)
     replace hs := hs.reslot (d := 4) (v := bI ((zGX (zB bs R).1 i) / (2#8))) (v' := bI (zGX (zB bs R).1 (i + 1))) rfl (Option.some.inj rfl)
     replace hs := hs.reorder (.c (.s .z) (.c .z .n))
     refine ⟨_, ?_, (i + 1), (zAQ q bs.length (upS bs (zB bs R).1 (zB bs R).2 i).p ((zJ bs (upS bs (zB bs R).1 (zB bs R).2 i)).2).p), rfl, hs.sub (.c rfl (.c rfl (.c rfl (.c rfl .n)))), by omega, hJ12, zMn (by omega) _⟩
     omega
    exfalso; omega
   obtain rfl : i = 6 := by omega
   clear eT eB
   refine go 1 [] [28, 0, 1, 4, 5] .n ?_
   intro a w hs; refine zAA hs (.c rfl (.c rfl .n)) call62 (.c (.s .z) .n) (zDC (65535#64) g _ bs (upS bs (zB bs R).1 (zB bs R).2 6) _ (hI1_1 _ _ (hs.mem.rd1 hb (.c (.s .z) .n))) (hs.mem.del (.s .z)) (by omega) (by simp only [maxLen]; omega)) rfl ?_
   have hk15 := zAw (X := 65535#64) (bs := bs) (R := (upS bs (zB bs R).1 (zB bs R).2 6)) (by omega)
   intro a w hs; refine zAh (X := (zD bs (65535#64) (upS bs (zB bs R).1 (zB bs R).2 6)).1) hs rfl rfl underlying130 underlying2 rfl ?_
   intro a w hs; replace hs := hs.recell (v' := nI ((zD bs 65535#64 (upS bs (zB bs R).1 (zB bs R).2 6)).1.toNat)) (Option.some.inj (congrArg (fun z => some (Value.int .i64 z)) (zFj (X := (zD bs 65535#64 (upS bs (zB bs R).1 (zB bs R).2 6)).1) (by have : (65535#64).toNat = 65535 := rfl; omega))))
   revert a w hs
   refine zHA 10 3 [] [32, 6, 0, 1, 4, 5] .n ?_
   intro a w hs; refine zNK (fun a w => St 61 [(0, pt g 0), (1, pt h 0), (4, bI (zGX (zB bs R).1 6)), (5, nI 6), (6, nI ((zD bs 65535#64 (upS bs (zB bs R).1 (zB bs R).2 6)).1.toNat))] w0 [g, h] [blk g [(zAQ q bs.length (upS bs (zB bs R).1 (zB bs R).2 6).p ((zD bs (65535#64) (upS bs (zB bs R).1 (zB bs R).2 6)).2).p), nI ((upT bs (zB bs R).1 (zB bs R).2 (6 + 1)).p), nI ((upT bs (zB bs R).1 (zB bs R).2 (6 + 1)).e)] 128, blk h [zI k, zI idn, zI (upQ bs (zB bs R).1 (zB bs R).2 6 0), zI (upQ bs (zB bs R).1 (zB bs R).2 6 1), zI (upQ bs (zB bs R).1 (zB bs R).2 6 2), zI (upQ bs (zB bs R).1 (zB bs R).2 6 3), zI (upQ bs (zB bs R).1 (zB bs R).2 6 4), zI (upQ bs (zB bs R).1 (zB bs R).2 6 5), .int .u16 (0)] 112] a w ∧ Tr bs u R.p (zAQ q bs.length (upS bs (zB bs R).1 (zB bs R).2 6).p ((zD bs (65535#64) (upS bs (zB bs R).1 (zB bs R).2 6)).2).p) (upT bs (zB bs R).1 (zB bs R).2 (6 + 1)).p ∧ upB bs (zB bs R).1 (zB bs R).2 (6 + 1) = (zD bs 65535#64 (upS bs (zB bs R).1 (zB bs R).2 6)).1.setWidth 16) ?_ ?_
   ·
    revert a w hs; refine ifG rfl (fun c_16 => ?_) (fun c_16 => ?_)
    ·
     refine go 1 [] [33, 6, 0, 1, 4, 5] .n ?_
     intro a w hs; refine zAA hs (.c rfl (.c rfl .n)) call64 (.c .z .n) (zDF 7 g _ bs ((zD bs (65535#64) (upS bs (zB bs R).1 (zB bs R).2 6)).2) _ ((zW (p := (upS bs (zB bs R).1 (zB bs R).2 6).p) (p' := ((zD bs (65535#64) (upS bs (zB bs R).1 (zB bs R).2 6)).2).p) (by omega) (by omega)) _ _ (hI1_1 _ _ (hs.mem.rd1 hb (.c .z .n)))) (hs.mem.del .z) (by omega) (by simp only [maxLen]; omega)) rfl ?_
     have hk17 := zBE (bs := bs) (R := ((zD bs (65535#64) (upS bs (zB bs R).1 (zB bs R).2 6)).2)) (e := 7) (by omega)
     refine goL 0 [] [6, 0, 1, 4, 5] .n ?_
     have hT_ : Tr bs u R.p (id (zAQ q bs.length (upS bs (zB bs R).1 (zB bs R).2 6).p ((zD bs (65535#64) (upS bs (zB bs R).1 (zB bs R).2 6)).2).p)) (zBL 7 ((zD bs (65535#64) (upS bs (zB bs R).1 (zB bs R).2 6)).2)).p := (Tr.trans (Tr.trans (Tr.trans Tr.refl hI1_1) (zW (p := (upS bs (zB bs R).1 (zB bs R).2 6).p) (p' := ((zD bs (65535#64) (upS bs (zB bs R).1 (zB bs R).2 6)).2).p) (by omega) (by omega))) (zEO (bs := bs) (R := ((zD bs (65535#64) (upS bs (zB bs R).1 (zB bs R).2 6)).2)) (e := 7)))
     have hA_ : upA bs (zB bs R).1 (upS bs (zB bs R).1 (zB bs R).2 6) = ((zD bs 65535#64 (upS bs (zB bs R).1 (zB bs R).2 6)).1.setWidth 16, (zBL 7 ((zD bs (65535#64) (upS bs (zB bs R).1 (zB bs R).2 6)).2))) := zRU hz_ (by omega)
     have hS_ : (upT bs (zB bs R).1 (zB bs R).2 (6 + 1)) = (zBL 7 ((zD bs (65535#64) (upS bs (zB bs R).1 (zB bs R).2 6)).2)) := congrArg Prod.snd hA_
     intro a w hs; replace hs := hs.reblk .z (cs' := [(zAQ q bs.length (upS bs (zB bs R).1 (zB bs R).2 6).p ((zD bs (65535#64) (upS bs (zB bs R).1 (zB bs R).2 6)).2).p), nI ((upT bs (zB bs R).1 (zB bs R).2 (6 + 1)).p), nI ((upT bs (zB bs R).1 (zB bs R).2 (6 + 1)).e)]) (by rw [hS_] <;> rfl)
     have hB_ : upB bs (zB bs R).1 (zB bs R).2 (6 + 1) = (zD bs 65535#64 (upS bs (zB bs R).1 (zB bs R).2 6)).1.setWidth 16 := congrArg Prod.fst hA_
     exact ⟨hs.sub (.c rfl (.c rfl (.c rfl (.c rfl (.c rfl .n))))), (by rw [hS_]; exact hT_), hB_⟩
    refine go 0 [] [6, 0, 1, 4, 5] .n ?_
    have hT_ : Tr bs u R.p (zAQ q bs.length (upS bs (zB bs R).1 (zB bs R).2 6).p ((zD bs (65535#64) (upS bs (zB bs R).1 (zB bs R).2 6)).2).p) ((zD bs (65535#64) (upS bs (zB bs R).1 (zB bs R).2 6)).2).p := (Tr.trans (Tr.trans Tr.refl hI1_1) (zW (p := (upS bs (zB bs R).1 (zB bs R).2 6).p) (p' := ((zD bs (65535#64) (upS bs (zB bs R).1 (zB bs R).2 6)).2).p) (by omega) (by omega)))
    have hA_ : upA bs (zB bs R).1 (upS bs (zB bs R).1 (zB bs R).2 6) = ((zD bs 65535#64 (upS bs (zB bs R).1 (zB bs R).2 6)).1.setWidth 16, ((zD bs (65535#64) (upS bs (zB bs R).1 (zB bs R).2 6)).2)) := zRg hz_ (by omega)
    have hS_ : (upT bs (zB bs R).1 (zB bs R).2 (6 + 1)) = ((zD bs (65535#64) (upS bs (zB bs R).1 (zB bs R).2 6)).2) := congrArg Prod.snd hA_
    intro a w hs; replace hs := hs.reblk .z (cs' := [(zAQ q bs.length (upS bs (zB bs R).1 (zB bs R).2 6).p ((zD bs (65535#64) (upS bs (zB bs R).1 (zB bs R).2 6)).2).p), nI ((upT bs (zB bs R).1 (zB bs R).2 (6 + 1)).p), nI ((upT bs (zB bs R).1 (zB bs R).2 (6 + 1)).e)]) (by rw [hS_] <;> rfl)
    have hB_ : upB bs (zB bs R).1 (zB bs R).2 (6 + 1) = (zD bs 65535#64 (upS bs (zB bs R).1 (zB bs R).2 6)).1.setWidth 16 := congrArg Prod.fst hA_
    exact ⟨hs.sub (.c rfl (.c rfl (.c rfl (.c rfl (.c rfl .n))))), (by rw [hS_]; exact hT_), hB_⟩
   clear hs w a; rintro a w ⟨hs, hJ18, hJ19⟩
   revert a w hs
   refine go 3 [] [40, 0, 1, 4, 5, 6] .n ?_
   refine ifG rfl (fun c_20 => ?_) (fun c_20 => ?_)
   ·
    exfalso; omega
   refine go 3 [] [49, 0, 1, 4, 5, 6] .n ?_
   refine ifG rfl (fun c_21 => ?_) (fun c_21 => ?_)
   ·
    exfalso; omega
   refine go 2 [] [36, 35, 0, 1, 4, 5] .n ?_
   intro a w hs; refine zPm hs rfl underlying2 underlying70 rfl ?_
   refine goL 4 [0] [59, 0, 1, 5] (.c (.s .z) .n) ⟨rfl, ?_⟩
   intro a w hs; refine zGF (X := zGX (zB bs R).1 6) (Y := 2#8) hs rfl rfl rfl (by decide) (by decide) rfl ?_
   refine zHA 8 4 [] [5, 4, 0, 1] .n ⟨(by omega), ?_⟩
   refine go 0 [] [5, 4, 0, 1] .n ?_
   intro a w hs; replace hs := hs.reblk .z (cs' := [zI k, zI idn, zI (upQ bs (zB bs R).1 (zB bs R).2 (6 + 1) 0), zI (upQ bs (zB bs R).1 (zB bs R).2 (6 + 1) 1), zI (upQ bs (zB bs R).1 (zB bs R).2 (6 + 1) 2), zI (upQ bs (zB bs R).1 (zB bs R).2 (6 + 1) 3), zI (upQ bs (zB bs R).1 (zB bs R).2 (6 + 1) 4), zI (upQ bs (zB bs R).1 (zB bs R).2 (6 + 1) 5), .int .u16 (((upB bs (zB bs R).1 (zB bs R).2 (6 + 1)).toNat : Nat) : Int)]) (by rw [hJ19]; rw [zUO (by have : (65535#64).toNat = 65535 := rfl; omega)]; rfl)
   replace hs := hs.reslot (d := 4) (v := bI ((zGX (zB bs R).1 6) / (2#8))) (v' := bI (zGX (zB bs R).1 (6 + 1))) rfl (Option.some.inj rfl)
   replace hs := hs.reorder (.c (.s .z) (.c .z .n))
   refine ⟨_, ?_, (6 + 1), (zAQ q bs.length (upS bs (zB bs R).1 (zB bs R).2 6).p ((zD bs (65535#64) (upS bs (zB bs R).1 (zB bs R).2 6)).2).p), rfl, hs.sub (.c rfl (.c rfl (.c rfl (.c rfl .n)))), by omega, hJ18, zMn (by omega) _⟩
   omega
  have hz_ := zQi (m := (zB bs R).1) (i := i) (by assumption)
  refine go 1 [] [59, 0, 1, 5] .n ?_
  intro a w hs; refine zGF (X := zGX (zB bs R).1 i) (Y := 2#8) hs rfl rfl rfl (by decide) (by decide) rfl ?_
  refine zHA 8 4 [] [5, 4, 0, 1] .n ⟨(by omega), ?_⟩
  refine go 0 [] [5, 4, 0, 1] .n ?_
  have hT_ := hI1_1
  have hX_ := zVI (bs := bs) (R := (zB bs R).2) hz_
  obtain ⟨hS_, hB_⟩ := zVt (bs := bs) (R := (zB bs R).2) hz_ (by omega)
  refine cl (·.reblk (.s .z) (cs' := [q, nI ((upT bs (zB bs R).1 (zB bs R).2 (i + 1)).p), nI ((upT bs (zB bs R).1 (zB bs R).2 (i + 1)).e)]) (by rw [hS_])) ?_
  intro a w hs; replace hs := hs.reblk (.s .z) (cs' := [zI k, zI idn, zI (upQ bs (zB bs R).1 (zB bs R).2 (i + 1) 0), zI (upQ bs (zB bs R).1 (zB bs R).2 (i + 1) 1), zI (upQ bs (zB bs R).1 (zB bs R).2 (i + 1) 2), zI (upQ bs (zB bs R).1 (zB bs R).2 (i + 1) 3), zI (upQ bs (zB bs R).1 (zB bs R).2 (i + 1) 4), zI (upQ bs (zB bs R).1 (zB bs R).2 (i + 1) 5), .int .u16 (((upB bs (zB bs R).1 (zB bs R).2 (i + 1)).toNat : Nat) : Int)]) (by simp only [zSg hX_]; rw [hB_]; rfl)
  replace hs := hs.reslot (d := 4) (v := bI ((zGX (zB bs R).1 i) / (2#8))) (v' := bI (zGX (zB bs R).1 (i + 1))) rfl (Option.some.inj rfl)
  replace hs := hs.reorder (.c (.s .z) (.c .z .n))
  refine ⟨_, ?_, (i + 1), q, rfl, hs.sub (.c rfl (.c rfl (.c rfl (.c rfl .n)))), by omega, (by rw [hS_]; exact hT_), zMn (by omega) _⟩
  omega
 obtain rfl : i = 7 := by omega
 refine cl (·.reblk .z (cs' := [q, nI ((upA bs (zB bs R).1 (upS bs (zB bs R).1 (zB bs R).2 6)).2.p), nI ((upA bs (zB bs R).1 (upS bs (zB bs R).1 (zB bs R).2 6)).2.e)]) rfl) ?_
 refine cl (·.reblk (.s .z) (cs' := [zI k, zI idn, zI (upX bs (zB bs R).1 (zB bs R).2 0), zI (upX bs (zB bs R).1 (zB bs R).2 1), zI (upX bs (zB bs R).1 (zB bs R).2 2), zI (upX bs (zB bs R).1 (zB bs R).2 3), zI (upX bs (zB bs R).1 (zB bs R).2 4), zI (upX bs (zB bs R).1 (zB bs R).2 5), .int .u16 ((((upA bs (zB bs R).1 (upS bs (zB bs R).1 (zB bs R).2 6)).1).toNat : Nat) : Int)]) rfl) ?_
 refine go 0 [] [] .n ?_
 refine cl (·.reorder (.c (.s .z) (.c .z .n))) ?_
 intro a w hs; exact zHE hs rfl (by rw [zGT (by omega) (zGf rfl)]; exact ⟨_, rfl, rfl, (Tr.trans Tr.refl hI1_1)⟩)
theorem zMA (g : Nat) (u : Value) (bs : List zR) (R : Rs) (last : Int) (w0 : World) (hb : Rd w0 [g] u 1 (bs.length - R.p) (zF (bs.drop R.p))) (hg : (blk g [u, nI ((R).p), nI ((R).e)] 128).p w0) (hle : R.p ≤ bs.length) (hlm : bs.length ≤ maxLen) (hl : -9223372036854775808 ≤ last ∧ last ≤ 9223372036854775807) : Calls Tryz.prog 65 #[pt g 0, .int .i64 last] w0 (Ret w0 [g] fun x N => ∃ u', x = Value.tuple #[.agg #[zI (((zAM bs last R).1).k), zI (((zAM bs last R).1).id), zI (((zAM bs last R).1).p0), zI (((zAM bs last R).1).p1), zI (((zAM bs last R).1).p2), zI (((zAM bs last R).1).v0), zI (((zAM bs last R).1).v1), zI (((zAM bs last R).1).v2), .int .u16 (((((zAM bs last R).1).a).toNat : Nat) : Int)], nI ((zAM bs last R).2.1)] ∧ N = [blk g [u', nI (((zAM bs last R).2.2).p), nI (((zAM bs last R).2.2).e)] 128] ∧ Tr bs u R.p u' (zAM bs last R).2.2.p) := by
 simp only [maxLen] at hlm
 refine zT (F0 := [(0, pt g 0), (1, zI last)]) func65 rfl rfl rfl (.c (.c .n)) (zBd hg) ?_
 refine go 5 [] [9, 4, 0, 1] .n (fun g1 => ?_)
 intro a w hs; refine zAB (b := decide (last < (-1))) (fun c_2 => ?_) (fun c_2 => ?_)
 ·
  rw [c_2] at hs
  replace c_2 := of_decide_eq_true c_2
  revert a w hs
  refine go 7 [0] [5, 4] (.c .z .n) ⟨rfl, ?_⟩
  have hq_ : zAM bs last R = (zLt, 3, R) := by first | exact zCS (by omega) | exact zCU (by omega) | exact zCR (by omega) (by omega) hraw (by omega) | exact zCz (by omega) (by omega) hraw (by omega)
  intro a w hs; exact zBV hs rfl rfl rfl .z (.z (.c (.c (.c (.c (.c (.c (.c (.c (.c .n)))))))))) isAgg112 sizeOf112 (.c .z .n) (by rw [hq_]; exact ⟨_, rfl, rfl, Tr.refl⟩)
 rw [c_2] at hs
 replace c_2 := of_decide_eq_false c_2
 revert a w hs
 refine go 3 [] [12, 4, 0, 1] .n ?_
 refine ifG rfl (fun c_3 => ?_) (fun c_3 => ?_)
 ·
  refine go 3 [0] [5, 4] (.c .z .n) ⟨rfl, ?_⟩
  have hq_ : zAM bs last R = (zLt, 3, R) := by first | exact zCS (by omega) | exact zCU (by omega) | exact zCR (by omega) (by omega) hraw (by omega) | exact zCz (by omega) (by omega) hraw (by omega)
  intro a w hs; exact zBV hs rfl rfl rfl .z (.z (.c (.c (.c (.c (.c (.c (.c (.c (.c .n)))))))))) isAgg112 sizeOf112 (.c .z .n) (by rw [hq_]; exact ⟨_, rfl, rfl, Tr.refl⟩)
 refine go 2 [] [15, 4, 0, 1] .n ?_
 refine ifG rfl (fun c_4 => ?_) (fun c_4 => ?_)
 ·
  refine go 1 [] [16, 4, 0] .n ?_
  intro a w hs; refine zAA hs (.c rfl (.c rfl .n)) call64 (.c (.s .z) .n) (zDF 10 g _ bs R _ (hs.mem.rd1 hb (.c (.s .z) .n)) (hs.mem.del (.s .z)) (by omega) (by simp only [maxLen]; omega)) rfl ?_
  have hk5 := zBE (bs := bs) (R := R) (e := 10) (by omega)
  refine goL 0 [] [4, 0] .n ?_
  intro a w hs
  refine zS [.p [] [], .p [] [], .p [1] [], .p [2] [], .p [3] [0], .s [0] [0] [0] [], .p [4] []] [6] hs (.c (.s .z) .n) (.c .z .n) (by kernel_rfl) ⟨rfl, rfl, ⟨rfl, by kernel_rfl, fun _ => rfl, rfl, rfl, trivial⟩, fun _ => rfl, ?_⟩
  refine goE 0 [] [5, 4] .n ?_
  have hq_ : zAM bs last R = (zLt, (zBL 10 R).e, (zBL 10 R)) := by first | exact zCS (by omega) | exact zCU (by omega) | exact zCR (by omega) (by omega) hraw (by omega) | exact zCz (by omega) (by omega) hraw (by omega)
  intro a w hs; exact zBV hs rfl rfl rfl (.s .z) (.z (.c (.c (.c (.c (.c (.c (.c (.c (.c .n)))))))))) isAgg112 sizeOf112 (.c (.s .z) .n) (by rw [hq_]; exact ⟨_, rfl, rfl, (Tr.trans Tr.refl (zEO (bs := bs) (R := R) (e := 10)))⟩)
 refine go 8 [0] [28, 26, 25, 6, 4, 0] .n (fun g7 => ⟨rfl, (by omega), (by omega), ?_⟩)
 intro a w hs; refine zA0 hs rfl underlying3 underlying130 rfl ?_
 intro a w hs; refine zAA hs (.c rfl (.c rfl .n)) call62 (.c (.s (.s .z)) .n) (zDC (BitVec.ofInt 64 (65534 - last)) g _ bs R _ (hs.mem.rd1 hb (.c (.s (.s .z)) .n)) (hs.mem.del (.s (.s .z))) (by omega) (by simp only [maxLen]; omega)) rfl ?_
 have hk8 := zAw (X := BitVec.ofInt 64 (65534 - last)) (bs := bs) (R := R) (by omega)
 intro a w hs; refine zAh (X := (zD bs (BitVec.ofInt 64 (65534 - last)) R).1) hs rfl rfl underlying130 underlying3 rfl ?_
 refine cl (·.recell (v' := nI ((zD bs (BitVec.ofInt 64 (65534 - last)) R).1.toNat)) (Option.some.inj (congrArg (fun z => some (Value.int .i64 z)) (zMa (bs := bs) (R := R) (by omega) (by omega) (by omega))))) ?_
 refine goL 4 [0] [34, 6, 4, 0] (.c (.s .z) .n) ⟨(by have := zMe (bs := bs) (last := last) (R := R) (by omega) (by omega) (by omega); omega), rfl, ?_⟩
 intro a w hs; refine zAA hs (.c rfl .n) call88 (.c (.s .z) .n) (zJT  g _ bs ((zD bs (BitVec.ofInt 64 (65534 - last)) R).2) _ ((zW (p := R.p) (p' := ((zD bs (BitVec.ofInt 64 (65534 - last)) R).2).p) (by omega) (by omega)) _ _ (hs.mem.rd1 hb (.c (.s .z) .n))) (hs.mem.del (.s .z)) (by omega) (by simp only [maxLen]; omega)) rfl ?_
 have hk9 := zCy (bs := bs) (R := ((zD bs (BitVec.ofInt 64 (65534 - last)) R).2)) (by omega)
 intro a w hs; refine zCW hs rfl (bvr ((zB bs ((zD bs (BitVec.ofInt 64 (65534 - last)) R).2)).1)) underlying5 underlying3 rfl ?_
 refine zHA 11 4 [0, 0] [39, 6, 4, 0] (.c (.s .z) .n) ⟨rfl, rfl, ?_⟩
 intro a w hs; refine zNK (fun a w => ∃ rr : zAd, ∃ RR : Rs, ∃ q : Value, St 72 [(0, pt g 0), (4, pt g1 0), (6, pt g7 0)] w0 [g] [blk g [q, nI RR.p, nI RR.e] 128, blk g7 [zI rr.k, zI rr.id, zI rr.p0, zI rr.p1, zI rr.p2, zI rr.v0, zI rr.v1, zI rr.v2, .int .u16 (((rr.a).toNat : Nat) : Int)] 112, blk g1 [zI 0, zI 0, zI 0, zI 0, zI 0, zI 0, zI 0, zI 0, .int .u16 (0)] 112] a w ∧ zFT bs last R = (rr, RR) ∧ RR.p ≤ bs.length ∧ Tr bs u R.p q RR.p) ?_ ?_
 ·
  revert a w hs
  refine goF 8 2 [] [42, 39, 6, 4, 0] .n ?_
  intro a w hs; refine zNK (fun a w => St 72 [(0, pt g 0), (4, pt g1 0), (6, pt g7 0), (39, nI (((zB bs ((zD bs (BitVec.ofInt 64 (65534 - last)) R).2)).1).toNat)), (42, .bool (decide (((((zB bs ((zD bs (BitVec.ofInt 64 (65534 - last)) R).2)).1).toNat : Nat) : Int) = 0 ∨ ((((zB bs ((zD bs (BitVec.ofInt 64 (65534 - last)) R).2)).1).toNat : Nat) : Int) = 3)))] w0 [g] [blk g7 [nI (((zB bs ((zD bs (BitVec.ofInt 64 (65534 - last)) R).2)).1).toNat), zI ((last + 1) + (((zD bs (BitVec.ofInt 64 (65534 - last)) R).1.toNat : Nat) : Int)), zI 0, zI 0, zI 0, zI 0, zI 0, zI 0, .int .u16 (0)] 112, blk g [(zAQ (zAQ u bs.length R.p ((zD bs (BitVec.ofInt 64 (65534 - last)) R).2).p) bs.length ((zD bs (BitVec.ofInt 64 (65534 - last)) R).2).p ((zB bs ((zD bs (BitVec.ofInt 64 (65534 - last)) R).2)).2).p), nI (((zB bs ((zD bs (BitVec.ofInt 64 (65534 - last)) R).2)).2).p), nI (((zB bs ((zD bs (BitVec.ofInt 64 (65534 - last)) R).2)).2).e)] 128, blk g1 [zI 0, zI 0, zI 0, zI 0, zI 0, zI 0, zI 0, zI 0, .int .u16 (0)] 112] a w) ?_ ?_
  ·
   revert a w hs; refine zS3 rfl (fun c_10 => ?_) (fun c_10 => ?_)
   ·
    intro a w hs; rw [c_10] at hs
    replace c_10 := eq_of_beq c_10
    revert a w hs
    refine go 0 [] [42, 39, 6, 4, 0] .n ?_
    refine cl (·.reslot (d := 42) (v := .bool (true)) (v' := .bool (decide (((((zB bs ((zD bs (BitVec.ofInt 64 (65534 - last)) R).2)).1).toNat : Nat) : Int) = 0 ∨ ((((zB bs ((zD bs (BitVec.ofInt 64 (65534 - last)) R).2)).1).toNat : Nat) : Int) = 3))) rfl (Option.some.inj (congrArg (fun b => some (Value.bool b)) (zUh (by assumption))))) ?_
    intro a w hs; exact hs.sub (.c rfl (.c rfl (.c rfl (.c rfl (.c rfl .n)))))
   intro a w hs; rw [c_10] at hs
   replace c_10 := zAK c_10
   revert a w hs
   refine go 2 [] [42, 39, 6, 4, 0] .n ?_
   refine cl (·.reslot (d := 42) (v := .bool ((((((zB bs ((zD bs (BitVec.ofInt 64 (65534 - last)) R).2)).1).toNat : Nat) : Int) : Int) == 3)) (v' := .bool (decide (((((zB bs ((zD bs (BitVec.ofInt 64 (65534 - last)) R).2)).1).toNat : Nat) : Int) = 0 ∨ ((((zB bs ((zD bs (BitVec.ofInt 64 (65534 - last)) R).2)).1).toNat : Nat) : Int) = 3))) rfl (Option.some.inj (congrArg (fun b => some (Value.bool b)) (zTx (by assumption))))) ?_
   intro a w hs; exact hs.sub (.c rfl (.c rfl (.c rfl (.c rfl (.c rfl .n)))))
  clear hs w a; rintro a w hs
  revert a w hs
  refine go 0 [] [0, 4, 6, 39, 42] .n ?_
  refine ifG rfl (fun c_11 => ?_) (fun c_11 => ?_)
  ·
   refine go 1 [] [45, 0, 4, 6] .n ?_
   intro a w hs; refine zAA hs (.c rfl .n) call91 (.c (.s .z) .n) (zPs  g _ bs ((zB bs ((zD bs (BitVec.ofInt 64 (65534 - last)) R).2)).2) _ ((zW (p := ((zD bs (BitVec.ofInt 64 (65534 - last)) R).2).p) (p' := ((zB bs ((zD bs (BitVec.ofInt 64 (65534 - last)) R).2)).2).p) (by omega) (by omega)) _ _ ((zW (p := R.p) (p' := ((zD bs (BitVec.ofInt 64 (65534 - last)) R).2).p) (by omega) (by omega)) _ _ (hs.mem.rd1 hb (.c (.s .z) .n)))) (hs.mem.del (.s .z)) (by omega) (by simp only [maxLen]; omega)) rfl ?_
   have hk12 := zBm (bs := bs) (R := ((zB bs ((zD bs (BitVec.ofInt 64 (65534 - last)) R).2)).2)) (by omega)
   have hk13 := zBm (bs := bs) (R := (zJ bs ((zB bs ((zD bs (BitVec.ofInt 64 (65534 - last)) R).2)).2)).2) (by omega)
   have hk14 := zBm (bs := bs) (R := (zJ bs (zJ bs ((zB bs ((zD bs (BitVec.ofInt 64 (65534 - last)) R).2)).2)).2).2) (by omega)
   refine goL 3 [0] [48, 0, 4, 6] (.c (.s .z) .n) ⟨rfl, ?_⟩
   intro a w hs; refine zAA hs (.c rfl .n) call91 (.c (.s .z) .n) (zPs  g _ bs ((zJ bs (zJ bs (zJ bs ((zB bs ((zD bs (BitVec.ofInt 64 (65534 - last)) R).2)).2)).2).2).2) _ ((zW (p := ((zJ bs (zJ bs ((zB bs ((zD bs (BitVec.ofInt 64 (65534 - last)) R).2)).2)).2).2).p) (p' := ((zJ bs (zJ bs (zJ bs ((zB bs ((zD bs (BitVec.ofInt 64 (65534 - last)) R).2)).2)).2).2).2).p) (by omega) (by omega)) _ _ ((zW (p := ((zJ bs ((zB bs ((zD bs (BitVec.ofInt 64 (65534 - last)) R).2)).2)).2).p) (p' := ((zJ bs (zJ bs ((zB bs ((zD bs (BitVec.ofInt 64 (65534 - last)) R).2)).2)).2).2).p) (by omega) (by omega)) _ _ ((zW (p := ((zB bs ((zD bs (BitVec.ofInt 64 (65534 - last)) R).2)).2).p) (p' := ((zJ bs ((zB bs ((zD bs (BitVec.ofInt 64 (65534 - last)) R).2)).2)).2).p) (by omega) (by omega)) _ _ ((zW (p := ((zD bs (BitVec.ofInt 64 (65534 - last)) R).2).p) (p' := ((zB bs ((zD bs (BitVec.ofInt 64 (65534 - last)) R).2)).2).p) (by omega) (by omega)) _ _ ((zW (p := R.p) (p' := ((zD bs (BitVec.ofInt 64 (65534 - last)) R).2).p) (by omega) (by omega)) _ _ (hs.mem.rd1 hb (.c (.s .z) .n))))))) (hs.mem.del (.s .z)) (by omega) (by simp only [maxLen]; omega)) rfl ?_
   have hk15 := zBm (bs := bs) (R := ((zJ bs (zJ bs (zJ bs ((zB bs ((zD bs (BitVec.ofInt 64 (65534 - last)) R).2)).2)).2).2).2)) (by omega)
   have hk16 := zBm (bs := bs) (R := (zJ bs ((zJ bs (zJ bs (zJ bs ((zB bs ((zD bs (BitVec.ofInt 64 (65534 - last)) R).2)).2)).2).2).2)).2) (by omega)
   have hk17 := zBm (bs := bs) (R := (zJ bs (zJ bs ((zJ bs (zJ bs (zJ bs ((zB bs ((zD bs (BitVec.ofInt 64 (65534 - last)) R).2)).2)).2).2).2)).2).2) (by omega)
   refine goL 3 [0] [51, 0, 4, 6] (.c (.s .z) .n) ⟨rfl, ?_⟩
   intro a w hs; refine zAA hs (.c rfl (.c rfl .n)) call62 (.c (.s .z) .n) (zDC (65535#64) g _ bs ((zJ bs (zJ bs (zJ bs ((zJ bs (zJ bs (zJ bs ((zB bs ((zD bs (BitVec.ofInt 64 (65534 - last)) R).2)).2)).2).2).2)).2).2).2) _ ((zW (p := ((zJ bs (zJ bs ((zJ bs (zJ bs (zJ bs ((zB bs ((zD bs (BitVec.ofInt 64 (65534 - last)) R).2)).2)).2).2).2)).2).2).p) (p' := ((zJ bs (zJ bs (zJ bs ((zJ bs (zJ bs (zJ bs ((zB bs ((zD bs (BitVec.ofInt 64 (65534 - last)) R).2)).2)).2).2).2)).2).2).2).p) (by omega) (by omega)) _ _ ((zW (p := ((zJ bs ((zJ bs (zJ bs (zJ bs ((zB bs ((zD bs (BitVec.ofInt 64 (65534 - last)) R).2)).2)).2).2).2)).2).p) (p' := ((zJ bs (zJ bs ((zJ bs (zJ bs (zJ bs ((zB bs ((zD bs (BitVec.ofInt 64 (65534 - last)) R).2)).2)).2).2).2)).2).2).p) (by omega) (by omega)) _ _ ((zW (p := ((zJ bs (zJ bs (zJ bs ((zB bs ((zD bs (BitVec.ofInt 64 (65534 - last)) R).2)).2)).2).2).2).p) (p' := ((zJ bs ((zJ bs (zJ bs (zJ bs ((zB bs ((zD bs (BitVec.ofInt 64 (65534 - last)) R).2)).2)).2).2).2)).2).p) (by omega) (by omega)) _ _ ((zW (p := ((zJ bs (zJ bs ((zB bs ((zD bs (BitVec.ofInt 64 (65534 - last)) R).2)).2)).2).2).p) (p' := ((zJ bs (zJ bs (zJ bs ((zB bs ((zD bs (BitVec.ofInt 64 (65534 - last)) R).2)).2)).2).2).2).p) (by omega) (by omega)) _ _ ((zW (p := ((zJ bs ((zB bs ((zD bs (BitVec.ofInt 64 (65534 - last)) R).2)).2)).2).p) (p' := ((zJ bs (zJ bs ((zB bs ((zD bs (BitVec.ofInt 64 (65534 - last)) R).2)).2)).2).2).p) (by omega) (by omega)) _ _ ((zW (p := ((zB bs ((zD bs (BitVec.ofInt 64 (65534 - last)) R).2)).2).p) (p' := ((zJ bs ((zB bs ((zD bs (BitVec.ofInt 64 (65534 - last)) R).2)).2)).2).p) (by omega) (by omega)) _ _ ((zW (p := ((zD bs (BitVec.ofInt 64 (65534 - last)) R).2).p) (p' := ((zB bs ((zD bs (BitVec.ofInt 64 (65534 - last)) R).2)).2).p) (by omega) (by omega)) _ _ ((zW (p := R.p) (p' := ((zD bs (BitVec.ofInt 64 (65534 - last)) R).2).p) (by omega) (by omega)) _ _ (hs.mem.rd1 hb (.c (.s .z) .n)))))))))) (hs.mem.del (.s .z)) (by omega) (by simp only [maxLen]; omega)) rfl ?_
   have hk18 := zAw (X := 65535#64) (bs := bs) (R := ((zJ bs (zJ bs (zJ bs ((zJ bs (zJ bs (zJ bs ((zB bs ((zD bs (BitVec.ofInt 64 (65534 - last)) R).2)).2)).2).2).2)).2).2).2)) (by omega)
   intro a w hs; refine zEP (X := (zD bs (65535#64) ((zJ bs (zJ bs (zJ bs ((zJ bs (zJ bs (zJ bs ((zB bs ((zD bs (BitVec.ofInt 64 (65534 - last)) R).2)).2)).2).2).2)).2).2).2)).1) hs rfl rfl underlying130 underlying70 rfl ?_
   refine goL 2 [0] [0, 4, 6] (.c (.s .z) .n) ⟨rfl, ?_⟩
   have hA_ : (zBx bs ((((zB bs ((zD bs (BitVec.ofInt 64 (65534 - last)) R).2)).1).toNat : Nat) : Int) ((last + 1) + (((zD bs (BitVec.ofInt 64 (65534 - last)) R).1.toNat : Nat) : Int)) (zB bs (zD bs (BitVec.ofInt 64 (65534 - last)) R).2).2) = (⟨((((zB bs ((zD bs (BitVec.ofInt 64 (65534 - last)) R).2)).1).toNat : Nat) : Int), (last + 1) + (((zD bs (BitVec.ofInt 64 (65534 - last)) R).1.toNat : Nat) : Int), (zJ bs ((zB bs ((zD bs (BitVec.ofInt 64 (65534 - last)) R).2)).2)).1, (zJ bs (zJ bs ((zB bs ((zD bs (BitVec.ofInt 64 (65534 - last)) R).2)).2)).2).1, (zJ bs (zJ bs (zJ bs ((zB bs ((zD bs (BitVec.ofInt 64 (65534 - last)) R).2)).2)).2).2).1, (zJ bs ((zJ bs (zJ bs (zJ bs ((zB bs ((zD bs (BitVec.ofInt 64 (65534 - last)) R).2)).2)).2).2).2)).1, (zJ bs (zJ bs ((zJ bs (zJ bs (zJ bs ((zB bs ((zD bs (BitVec.ofInt 64 (65534 - last)) R).2)).2)).2).2).2)).2).1, (zJ bs (zJ bs (zJ bs ((zJ bs (zJ bs (zJ bs ((zB bs ((zD bs (BitVec.ofInt 64 (65534 - last)) R).2)).2)).2).2).2)).2).2).1, ((zD bs (65535#64) ((zJ bs (zJ bs (zJ bs ((zJ bs (zJ bs (zJ bs ((zB bs ((zD bs (BitVec.ofInt 64 (65534 - last)) R).2)).2)).2).2).2)).2).2).2)).1).setWidth 16⟩, ((zD bs (65535#64) ((zJ bs (zJ bs (zJ bs ((zJ bs (zJ bs (zJ bs ((zB bs ((zD bs (BitVec.ofInt 64 (65534 - last)) R).2)).2)).2).2).2)).2).2).2)).2)) := by simp only [zBx, nX, nS]
   refine cl (·.reblk (.s .z) (cs' := [(zAQ (zAQ (zAQ (zAQ (zAQ (zAQ (zAQ (zAQ (zAQ u bs.length R.p ((zD bs (BitVec.ofInt 64 (65534 - last)) R).2).p) bs.length ((zD bs (BitVec.ofInt 64 (65534 - last)) R).2).p ((zB bs ((zD bs (BitVec.ofInt 64 (65534 - last)) R).2)).2).p) bs.length ((zB bs ((zD bs (BitVec.ofInt 64 (65534 - last)) R).2)).2).p ((zJ bs ((zB bs ((zD bs (BitVec.ofInt 64 (65534 - last)) R).2)).2)).2).p) bs.length ((zJ bs ((zB bs ((zD bs (BitVec.ofInt 64 (65534 - last)) R).2)).2)).2).p ((zJ bs (zJ bs ((zB bs ((zD bs (BitVec.ofInt 64 (65534 - last)) R).2)).2)).2).2).p) bs.length ((zJ bs (zJ bs ((zB bs ((zD bs (BitVec.ofInt 64 (65534 - last)) R).2)).2)).2).2).p ((zJ bs (zJ bs (zJ bs ((zB bs ((zD bs (BitVec.ofInt 64 (65534 - last)) R).2)).2)).2).2).2).p) bs.length ((zJ bs (zJ bs (zJ bs ((zB bs ((zD bs (BitVec.ofInt 64 (65534 - last)) R).2)).2)).2).2).2).p ((zJ bs ((zJ bs (zJ bs (zJ bs ((zB bs ((zD bs (BitVec.ofInt 64 (65534 - last)) R).2)).2)).2).2).2)).2).p) bs.length ((zJ bs ((zJ bs (zJ bs (zJ bs ((zB bs ((zD bs (BitVec.ofInt 64 (65534 - last)) R).2)).2)).2).2).2)).2).p ((zJ bs (zJ bs ((zJ bs (zJ bs (zJ bs ((zB bs ((zD bs (BitVec.ofInt 64 (65534 - last)) R).2)).2)).2).2).2)).2).2).p) bs.length ((zJ bs (zJ bs ((zJ bs (zJ bs (zJ bs ((zB bs ((zD bs (BitVec.ofInt 64 (65534 - last)) R).2)).2)).2).2).2)).2).2).p ((zJ bs (zJ bs (zJ bs ((zJ bs (zJ bs (zJ bs ((zB bs ((zD bs (BitVec.ofInt 64 (65534 - last)) R).2)).2)).2).2).2)).2).2).2).p) bs.length ((zJ bs (zJ bs (zJ bs ((zJ bs (zJ bs (zJ bs ((zB bs ((zD bs (BitVec.ofInt 64 (65534 - last)) R).2)).2)).2).2).2)).2).2).2).p ((zD bs (65535#64) ((zJ bs (zJ bs (zJ bs ((zJ bs (zJ bs (zJ bs ((zB bs ((zD bs (BitVec.ofInt 64 (65534 - last)) R).2)).2)).2).2).2)).2).2).2)).2).p), nI ((zBx bs ((((zB bs ((zD bs (BitVec.ofInt 64 (65534 - last)) R).2)).1).toNat : Nat) : Int) ((last + 1) + (((zD bs (BitVec.ofInt 64 (65534 - last)) R).1.toNat : Nat) : Int)) (zB bs (zD bs (BitVec.ofInt 64 (65534 - last)) R).2).2).2.p), nI ((zBx bs ((((zB bs ((zD bs (BitVec.ofInt 64 (65534 - last)) R).2)).1).toNat : Nat) : Int) ((last + 1) + (((zD bs (BitVec.ofInt 64 (65534 - last)) R).1.toNat : Nat) : Int)) (zB bs (zD bs (BitVec.ofInt 64 (65534 - last)) R).2).2).2.e)]) (by simp only [hA_])) ?_
   refine cl (·.reblk (.s .z) (cs' := [zI (((zBx bs ((((zB bs ((zD bs (BitVec.ofInt 64 (65534 - last)) R).2)).1).toNat : Nat) : Int) ((last + 1) + (((zD bs (BitVec.ofInt 64 (65534 - last)) R).1.toNat : Nat) : Int)) (zB bs (zD bs (BitVec.ofInt 64 (65534 - last)) R).2).2).1).k), zI (((zBx bs ((((zB bs ((zD bs (BitVec.ofInt 64 (65534 - last)) R).2)).1).toNat : Nat) : Int) ((last + 1) + (((zD bs (BitVec.ofInt 64 (65534 - last)) R).1.toNat : Nat) : Int)) (zB bs (zD bs (BitVec.ofInt 64 (65534 - last)) R).2).2).1).id), zI (((zBx bs ((((zB bs ((zD bs (BitVec.ofInt 64 (65534 - last)) R).2)).1).toNat : Nat) : Int) ((last + 1) + (((zD bs (BitVec.ofInt 64 (65534 - last)) R).1.toNat : Nat) : Int)) (zB bs (zD bs (BitVec.ofInt 64 (65534 - last)) R).2).2).1).p0), zI (((zBx bs ((((zB bs ((zD bs (BitVec.ofInt 64 (65534 - last)) R).2)).1).toNat : Nat) : Int) ((last + 1) + (((zD bs (BitVec.ofInt 64 (65534 - last)) R).1.toNat : Nat) : Int)) (zB bs (zD bs (BitVec.ofInt 64 (65534 - last)) R).2).2).1).p1), zI (((zBx bs ((((zB bs ((zD bs (BitVec.ofInt 64 (65534 - last)) R).2)).1).toNat : Nat) : Int) ((last + 1) + (((zD bs (BitVec.ofInt 64 (65534 - last)) R).1.toNat : Nat) : Int)) (zB bs (zD bs (BitVec.ofInt 64 (65534 - last)) R).2).2).1).p2), zI (((zBx bs ((((zB bs ((zD bs (BitVec.ofInt 64 (65534 - last)) R).2)).1).toNat : Nat) : Int) ((last + 1) + (((zD bs (BitVec.ofInt 64 (65534 - last)) R).1.toNat : Nat) : Int)) (zB bs (zD bs (BitVec.ofInt 64 (65534 - last)) R).2).2).1).v0), zI (((zBx bs ((((zB bs ((zD bs (BitVec.ofInt 64 (65534 - last)) R).2)).1).toNat : Nat) : Int) ((last + 1) + (((zD bs (BitVec.ofInt 64 (65534 - last)) R).1.toNat : Nat) : Int)) (zB bs (zD bs (BitVec.ofInt 64 (65534 - last)) R).2).2).1).v1), zI (((zBx bs ((((zB bs ((zD bs (BitVec.ofInt 64 (65534 - last)) R).2)).1).toNat : Nat) : Int) ((last + 1) + (((zD bs (BitVec.ofInt 64 (65534 - last)) R).1.toNat : Nat) : Int)) (zB bs (zD bs (BitVec.ofInt 64 (65534 - last)) R).2).2).1).v2), .int .u16 (((((zBx bs ((((zB bs ((zD bs (BitVec.ofInt 64 (65534 - last)) R).2)).1).toNat : Nat) : Int) ((last + 1) + (((zD bs (BitVec.ofInt 64 (65534 - last)) R).1.toNat : Nat) : Int)) (zB bs (zD bs (BitVec.ofInt 64 (65534 - last)) R).2).2).1).a).toNat : Nat) : Int)]) (by simp only [hA_])) ?_
   have hT_ : Tr bs u R.p (zAQ (zAQ (zAQ (zAQ (zAQ (zAQ (zAQ (zAQ (zAQ u bs.length R.p ((zD bs (BitVec.ofInt 64 (65534 - last)) R).2).p) bs.length ((zD bs (BitVec.ofInt 64 (65534 - last)) R).2).p ((zB bs ((zD bs (BitVec.ofInt 64 (65534 - last)) R).2)).2).p) bs.length ((zB bs ((zD bs (BitVec.ofInt 64 (65534 - last)) R).2)).2).p ((zJ bs ((zB bs ((zD bs (BitVec.ofInt 64 (65534 - last)) R).2)).2)).2).p) bs.length ((zJ bs ((zB bs ((zD bs (BitVec.ofInt 64 (65534 - last)) R).2)).2)).2).p ((zJ bs (zJ bs ((zB bs ((zD bs (BitVec.ofInt 64 (65534 - last)) R).2)).2)).2).2).p) bs.length ((zJ bs (zJ bs ((zB bs ((zD bs (BitVec.ofInt 64 (65534 - last)) R).2)).2)).2).2).p ((zJ bs (zJ bs (zJ bs ((zB bs ((zD bs (BitVec.ofInt 64 (65534 - last)) R).2)).2)).2).2).2).p) bs.length ((zJ bs (zJ bs (zJ bs ((zB bs ((zD bs (BitVec.ofInt 64 (65534 - last)) R).2)).2)).2).2).2).p ((zJ bs ((zJ bs (zJ bs (zJ bs ((zB bs ((zD bs (BitVec.ofInt 64 (65534 - last)) R).2)).2)).2).2).2)).2).p) bs.length ((zJ bs ((zJ bs (zJ bs (zJ bs ((zB bs ((zD bs (BitVec.ofInt 64 (65534 - last)) R).2)).2)).2).2).2)).2).p ((zJ bs (zJ bs ((zJ bs (zJ bs (zJ bs ((zB bs ((zD bs (BitVec.ofInt 64 (65534 - last)) R).2)).2)).2).2).2)).2).2).p) bs.length ((zJ bs (zJ bs ((zJ bs (zJ bs (zJ bs ((zB bs ((zD bs (BitVec.ofInt 64 (65534 - last)) R).2)).2)).2).2).2)).2).2).p ((zJ bs (zJ bs (zJ bs ((zJ bs (zJ bs (zJ bs ((zB bs ((zD bs (BitVec.ofInt 64 (65534 - last)) R).2)).2)).2).2).2)).2).2).2).p) bs.length ((zJ bs (zJ bs (zJ bs ((zJ bs (zJ bs (zJ bs ((zB bs ((zD bs (BitVec.ofInt 64 (65534 - last)) R).2)).2)).2).2).2)).2).2).2).p ((zD bs (65535#64) ((zJ bs (zJ bs (zJ bs ((zJ bs (zJ bs (zJ bs ((zB bs ((zD bs (BitVec.ofInt 64 (65534 - last)) R).2)).2)).2).2).2)).2).2).2)).2).p) ((zBx bs ((((zB bs ((zD bs (BitVec.ofInt 64 (65534 - last)) R).2)).1).toNat : Nat) : Int) ((last + 1) + (((zD bs (BitVec.ofInt 64 (65534 - last)) R).1.toNat : Nat) : Int)) (zB bs (zD bs (BitVec.ofInt 64 (65534 - last)) R).2).2).2).p := by rw [hA_]; dsimp only; exact (Tr.trans (Tr.trans (Tr.trans (Tr.trans (Tr.trans (Tr.trans (Tr.trans (Tr.trans (Tr.trans Tr.refl (zW (p := R.p) (p' := ((zD bs (BitVec.ofInt 64 (65534 - last)) R).2).p) (by omega) (by omega))) (zW (p := ((zD bs (BitVec.ofInt 64 (65534 - last)) R).2).p) (p' := ((zB bs ((zD bs (BitVec.ofInt 64 (65534 - last)) R).2)).2).p) (by omega) (by omega))) (zW (p := ((zB bs ((zD bs (BitVec.ofInt 64 (65534 - last)) R).2)).2).p) (p' := ((zJ bs ((zB bs ((zD bs (BitVec.ofInt 64 (65534 - last)) R).2)).2)).2).p) (by omega) (by omega))) (zW (p := ((zJ bs ((zB bs ((zD bs (BitVec.ofInt 64 (65534 - last)) R).2)).2)).2).p) (p' := ((zJ bs (zJ bs ((zB bs ((zD bs (BitVec.ofInt 64 (65534 - last)) R).2)).2)).2).2).p) (by omega) (by omega))) (zW (p := ((zJ bs (zJ bs ((zB bs ((zD bs (BitVec.ofInt 64 (65534 - last)) R).2)).2)).2).2).p) (p' := ((zJ bs (zJ bs (zJ bs ((zB bs ((zD bs (BitVec.ofInt 64 (65534 - last)) R).2)).2)).2).2).2).p) (by omega) (by omega))) (zW (p := ((zJ bs (zJ bs (zJ bs ((zB bs ((zD bs (BitVec.ofInt 64 (65534 - last)) R).2)).2)).2).2).2).p) (p' := ((zJ bs ((zJ bs (zJ bs (zJ bs ((zB bs ((zD bs (BitVec.ofInt 64 (65534 - last)) R).2)).2)).2).2).2)).2).p) (by omega) (by omega))) (zW (p := ((zJ bs ((zJ bs (zJ bs (zJ bs ((zB bs ((zD bs (BitVec.ofInt 64 (65534 - last)) R).2)).2)).2).2).2)).2).p) (p' := ((zJ bs (zJ bs ((zJ bs (zJ bs (zJ bs ((zB bs ((zD bs (BitVec.ofInt 64 (65534 - last)) R).2)).2)).2).2).2)).2).2).p) (by omega) (by omega))) (zW (p := ((zJ bs (zJ bs ((zJ bs (zJ bs (zJ bs ((zB bs ((zD bs (BitVec.ofInt 64 (65534 - last)) R).2)).2)).2).2).2)).2).2).p) (p' := ((zJ bs (zJ bs (zJ bs ((zJ bs (zJ bs (zJ bs ((zB bs ((zD bs (BitVec.ofInt 64 (65534 - last)) R).2)).2)).2).2).2)).2).2).2).p) (by omega) (by omega))) (zW (p := ((zJ bs (zJ bs (zJ bs ((zJ bs (zJ bs (zJ bs ((zB bs ((zD bs (BitVec.ofInt 64 (65534 - last)) R).2)).2)).2).2).2)).2).2).2).p) (p' := ((zD bs (65535#64) ((zJ bs (zJ bs (zJ bs ((zJ bs (zJ bs (zJ bs ((zB bs ((zD bs (BitVec.ofInt 64 (65534 - last)) R).2)).2)).2).2).2)).2).2).2)).2).p) (by omega) (by omega)))
   have hL_ : ((zBx bs ((((zB bs ((zD bs (BitVec.ofInt 64 (65534 - last)) R).2)).1).toNat : Nat) : Int) ((last + 1) + (((zD bs (BitVec.ofInt 64 (65534 - last)) R).1.toNat : Nat) : Int)) (zB bs (zD bs (BitVec.ofInt 64 (65534 - last)) R).2).2).2).p ≤ bs.length := by rw [hA_]; dsimp only; omega
   refine cl (·.reorder (.c (.s .z) (.c .z (.c .z .n)))) ?_
   intro a w hs; exact ⟨((zBx bs ((((zB bs ((zD bs (BitVec.ofInt 64 (65534 - last)) R).2)).1).toNat : Nat) : Int) ((last + 1) + (((zD bs (BitVec.ofInt 64 (65534 - last)) R).1.toNat : Nat) : Int)) (zB bs (zD bs (BitVec.ofInt 64 (65534 - last)) R).2).2).1), (zBx bs ((((zB bs ((zD bs (BitVec.ofInt 64 (65534 - last)) R).2)).1).toNat : Nat) : Int) ((last + 1) + (((zD bs (BitVec.ofInt 64 (65534 - last)) R).1.toNat : Nat) : Int)) (zB bs (zD bs (BitVec.ofInt 64 (65534 - last)) R).2).2).2, (zAQ (zAQ (zAQ (zAQ (zAQ (zAQ (zAQ (zAQ (zAQ u bs.length R.p ((zD bs (BitVec.ofInt 64 (65534 - last)) R).2).p) bs.length ((zD bs (BitVec.ofInt 64 (65534 - last)) R).2).p ((zB bs ((zD bs (BitVec.ofInt 64 (65534 - last)) R).2)).2).p) bs.length ((zB bs ((zD bs (BitVec.ofInt 64 (65534 - last)) R).2)).2).p ((zJ bs ((zB bs ((zD bs (BitVec.ofInt 64 (65534 - last)) R).2)).2)).2).p) bs.length ((zJ bs ((zB bs ((zD bs (BitVec.ofInt 64 (65534 - last)) R).2)).2)).2).p ((zJ bs (zJ bs ((zB bs ((zD bs (BitVec.ofInt 64 (65534 - last)) R).2)).2)).2).2).p) bs.length ((zJ bs (zJ bs ((zB bs ((zD bs (BitVec.ofInt 64 (65534 - last)) R).2)).2)).2).2).p ((zJ bs (zJ bs (zJ bs ((zB bs ((zD bs (BitVec.ofInt 64 (65534 - last)) R).2)).2)).2).2).2).p) bs.length ((zJ bs (zJ bs (zJ bs ((zB bs ((zD bs (BitVec.ofInt 64 (65534 - last)) R).2)).2)).2).2).2).p ((zJ bs ((zJ bs (zJ bs (zJ bs ((zB bs ((zD bs (BitVec.ofInt 64 (65534 - last)) R).2)).2)).2).2).2)).2).p) bs.length ((zJ bs ((zJ bs (zJ bs (zJ bs ((zB bs ((zD bs (BitVec.ofInt 64 (65534 - last)) R).2)).2)).2).2).2)).2).p ((zJ bs (zJ bs ((zJ bs (zJ bs (zJ bs ((zB bs ((zD bs (BitVec.ofInt 64 (65534 - last)) R).2)).2)).2).2).2)).2).2).p) bs.length ((zJ bs (zJ bs ((zJ bs (zJ bs (zJ bs ((zB bs ((zD bs (BitVec.ofInt 64 (65534 - last)) R).2)).2)).2).2).2)).2).2).p ((zJ bs (zJ bs (zJ bs ((zJ bs (zJ bs (zJ bs ((zB bs ((zD bs (BitVec.ofInt 64 (65534 - last)) R).2)).2)).2).2).2)).2).2).2).p) bs.length ((zJ bs (zJ bs (zJ bs ((zJ bs (zJ bs (zJ bs ((zB bs ((zD bs (BitVec.ofInt 64 (65534 - last)) R).2)).2)).2).2).2)).2).2).2).p ((zD bs (65535#64) ((zJ bs (zJ bs (zJ bs ((zJ bs (zJ bs (zJ bs ((zB bs ((zD bs (BitVec.ofInt 64 (65534 - last)) R).2)).2)).2).2).2)).2).2).2)).2).p), hs.sub (.c rfl (.c rfl (.c rfl .n))), zGf ((zDB _ _ _).trans (zGt (by omega))), hL_, hT_⟩
  refine go 2 [] [55, 0, 4, 6, 39] .n ?_
  refine ifG rfl (fun c_19 => ?_) (fun c_19 => ?_)
  ·
   refine go 1 [] [57, 0, 4, 6] .n ?_
   intro a w hs; refine zO hs (.c rfl (.c rfl .n)) call92 (.c (.s .z) (.c .z .n)) (zTJ g g7 _ bs ((zB bs ((zD bs (BitVec.ofInt 64 (65534 - last)) R).2)).2) ((((zB bs ((zD bs (BitVec.ofInt 64 (65534 - last)) R).2)).1).toNat : Nat) : Int) ((last + 1) + (((zD bs (BitVec.ofInt 64 (65534 - last)) R).1.toNat : Nat) : Int)) _ ((zW (p := ((zD bs (BitVec.ofInt 64 (65534 - last)) R).2).p) (p' := ((zB bs ((zD bs (BitVec.ofInt 64 (65534 - last)) R).2)).2).p) (by omega) (by omega)) _ _ ((zW (p := R.p) (p' := ((zD bs (BitVec.ofInt 64 (65534 - last)) R).2).p) (by omega) (by omega)) _ _ (hs.mem.rd1 hb (.c (.s .z) (.c .z .n))))) (hs.mem.del (.s .z)) (hs.mem.del .z) (by omega) (by simp only [maxLen]; omega)) rfl ?_; clear hs w a; rintro _ _ a w ⟨u20, rfl, rfl, ht21⟩ hs
   have hk22 := zHl (bs := bs) (k := ((((zB bs ((zD bs (BitVec.ofInt 64 (65534 - last)) R).2)).1).toNat : Nat) : Int)) (id := (last + 1) + (((zD bs (BitVec.ofInt 64 (65534 - last)) R).1.toNat : Nat) : Int)) (R := ((zB bs ((zD bs (BitVec.ofInt 64 (65534 - last)) R).2)).2)) (by omega)
   revert a w hs
   refine goL 0 [] [0, 4, 6] .n ?_
   have hT_ : Tr bs u R.p u20 ((zA6 bs ((((zB bs ((zD bs (BitVec.ofInt 64 (65534 - last)) R).2)).1).toNat : Nat) : Int) ((last + 1) + (((zD bs (BitVec.ofInt 64 (65534 - last)) R).1.toNat : Nat) : Int)) ((zB bs ((zD bs (BitVec.ofInt 64 (65534 - last)) R).2)).2)).2).p := (Tr.trans (Tr.trans (Tr.trans Tr.refl (zW (p := R.p) (p' := ((zD bs (BitVec.ofInt 64 (65534 - last)) R).2).p) (by omega) (by omega))) (zW (p := ((zD bs (BitVec.ofInt 64 (65534 - last)) R).2).p) (p' := ((zB bs ((zD bs (BitVec.ofInt 64 (65534 - last)) R).2)).2).p) (by omega) (by omega))) ht21)
   have hL_ : ((zA6 bs ((((zB bs ((zD bs (BitVec.ofInt 64 (65534 - last)) R).2)).1).toNat : Nat) : Int) ((last + 1) + (((zD bs (BitVec.ofInt 64 (65534 - last)) R).1.toNat : Nat) : Int)) ((zB bs ((zD bs (BitVec.ofInt 64 (65534 - last)) R).2)).2)).2).p ≤ bs.length := by omega
   intro a w hs; exact ⟨((zA6 bs ((((zB bs ((zD bs (BitVec.ofInt 64 (65534 - last)) R).2)).1).toNat : Nat) : Int) ((last + 1) + (((zD bs (BitVec.ofInt 64 (65534 - last)) R).1.toNat : Nat) : Int)) ((zB bs ((zD bs (BitVec.ofInt 64 (65534 - last)) R).2)).2)).1), ((zA6 bs ((((zB bs ((zD bs (BitVec.ofInt 64 (65534 - last)) R).2)).1).toNat : Nat) : Int) ((last + 1) + (((zD bs (BitVec.ofInt 64 (65534 - last)) R).1.toNat : Nat) : Int)) ((zB bs ((zD bs (BitVec.ofInt 64 (65534 - last)) R).2)).2)).2), u20, hs.sub (.c rfl (.c rfl (.c rfl .n))), zGf ((zDB _ _ _).trans (zIJ (by omega))), hL_, hT_⟩
  refine go 2 [] [59, 0, 4, 6] .n ?_
  refine ifG rfl (fun c_23 => ?_) (fun c_23 => ?_)
  ·
   refine go 0 [] [0, 4, 6] .n ?_
   have hT_ : Tr bs u R.p (zAQ (zAQ u bs.length R.p ((zD bs (BitVec.ofInt 64 (65534 - last)) R).2).p) bs.length ((zD bs (BitVec.ofInt 64 (65534 - last)) R).2).p ((zB bs ((zD bs (BitVec.ofInt 64 (65534 - last)) R).2)).2).p) ((zB bs ((zD bs (BitVec.ofInt 64 (65534 - last)) R).2)).2).p := (Tr.trans (Tr.trans Tr.refl (zW (p := R.p) (p' := ((zD bs (BitVec.ofInt 64 (65534 - last)) R).2).p) (by omega) (by omega))) (zW (p := ((zD bs (BitVec.ofInt 64 (65534 - last)) R).2).p) (p' := ((zB bs ((zD bs (BitVec.ofInt 64 (65534 - last)) R).2)).2).p) (by omega) (by omega)))
   have hL_ : ((zB bs ((zD bs (BitVec.ofInt 64 (65534 - last)) R).2)).2).p ≤ bs.length := by omega
   refine cl (·.reorder (.c (.s .z) (.c .z (.c .z .n)))) ?_
   intro a w hs; exact ⟨(⟨((((zB bs ((zD bs (BitVec.ofInt 64 (65534 - last)) R).2)).1).toNat : Nat) : Int), (last + 1) + (((zD bs (BitVec.ofInt 64 (65534 - last)) R).1.toNat : Nat) : Int), 0, 0, 0, 0, 0, 0, 0#16⟩ : zAd), ((zB bs ((zD bs (BitVec.ofInt 64 (65534 - last)) R).2)).2), (zAQ (zAQ u bs.length R.p ((zD bs (BitVec.ofInt 64 (65534 - last)) R).2).p) bs.length ((zD bs (BitVec.ofInt 64 (65534 - last)) R).2).p ((zB bs ((zD bs (BitVec.ofInt 64 (65534 - last)) R).2)).2).p), hs.sub (.c rfl (.c rfl (.c rfl .n))), (zDB _ _ _).trans (zHk (by omega)), hL_, hT_⟩
  refine go 1 [] [40, 0, 4, 6] .n ?_
  intro a w hs; refine zAA hs (.c rfl (.c rfl .n)) call64 (.c (.s .z) .n) (zDF 11 g _ bs ((zB bs ((zD bs (BitVec.ofInt 64 (65534 - last)) R).2)).2) _ ((zW (p := ((zD bs (BitVec.ofInt 64 (65534 - last)) R).2).p) (p' := ((zB bs ((zD bs (BitVec.ofInt 64 (65534 - last)) R).2)).2).p) (by omega) (by omega)) _ _ ((zW (p := R.p) (p' := ((zD bs (BitVec.ofInt 64 (65534 - last)) R).2).p) (by omega) (by omega)) _ _ (hs.mem.rd1 hb (.c (.s .z) .n)))) (hs.mem.del (.s .z)) (by omega) (by simp only [maxLen]; omega)) rfl ?_
  have hk24 := zBE (bs := bs) (R := ((zB bs ((zD bs (BitVec.ofInt 64 (65534 - last)) R).2)).2)) (e := 11) (by omega)
  refine goL 0 [] [0, 4, 6] .n ?_
  have hT_ : Tr bs u R.p (id (zAQ (zAQ u bs.length R.p ((zD bs (BitVec.ofInt 64 (65534 - last)) R).2).p) bs.length ((zD bs (BitVec.ofInt 64 (65534 - last)) R).2).p ((zB bs ((zD bs (BitVec.ofInt 64 (65534 - last)) R).2)).2).p)) (zBL 11 ((zB bs ((zD bs (BitVec.ofInt 64 (65534 - last)) R).2)).2)).p := (Tr.trans (Tr.trans (Tr.trans Tr.refl (zW (p := R.p) (p' := ((zD bs (BitVec.ofInt 64 (65534 - last)) R).2).p) (by omega) (by omega))) (zW (p := ((zD bs (BitVec.ofInt 64 (65534 - last)) R).2).p) (p' := ((zB bs ((zD bs (BitVec.ofInt 64 (65534 - last)) R).2)).2).p) (by omega) (by omega))) (zEO (bs := bs) (R := ((zB bs ((zD bs (BitVec.ofInt 64 (65534 - last)) R).2)).2)) (e := 11)))
  have hL_ : (zBL 11 ((zB bs ((zD bs (BitVec.ofInt 64 (65534 - last)) R).2)).2)).p ≤ bs.length := by omega
  intro a w hs; exact ⟨(⟨((((zB bs ((zD bs (BitVec.ofInt 64 (65534 - last)) R).2)).1).toNat : Nat) : Int), (last + 1) + (((zD bs (BitVec.ofInt 64 (65534 - last)) R).1.toNat : Nat) : Int), 0, 0, 0, 0, 0, 0, 0#16⟩ : zAd), (zBL 11 ((zB bs ((zD bs (BitVec.ofInt 64 (65534 - last)) R).2)).2)), (id (zAQ (zAQ u bs.length R.p ((zD bs (BitVec.ofInt 64 (65534 - last)) R).2).p) bs.length ((zD bs (BitVec.ofInt 64 (65534 - last)) R).2).p ((zB bs ((zD bs (BitVec.ofInt 64 (65534 - last)) R).2)).2).p)), hs.sub (.c rfl (.c rfl (.c rfl .n))), (zDB _ _ _).trans (zIs (by omega)), hL_, hT_⟩
 clear hs w a; rintro a w ⟨rr, RR, q, hs, hJ25, hJ26, hJ27⟩
 have hraw := hJ25
 revert a w hs
 refine go 5 [0] [65, 0, 4, 6] (.c .z .n) ⟨rfl, ?_⟩
 refine ifG rfl (fun c_28 => ?_) (fun c_28 => ?_)
 ·
  refine go 0 [] [0, 4] .n ?_
  intro a w hs
  refine zS [.p [] [], .p [] [], .p [1] [], .p [2] [], .p [3] [0], .s [0] [0] [0] [], .p [4] []] [6] hs (.c (.s (.s .z)) .n) (.c .z .n) (by kernel_rfl) ⟨rfl, rfl, ⟨rfl, by kernel_rfl, fun _ => rfl, rfl, rfl, trivial⟩, fun _ => rfl, ?_⟩
  refine goE 0 [] [5, 4] .n ?_
  have hq_ : zAM bs last R = (zLt, RR.e, RR) := by first | exact zCS (by omega) | exact zCU (by omega) | exact zCR (by omega) (by omega) hraw (by omega) | exact zCz (by omega) (by omega) hraw (by omega)
  intro a w hs; exact zBV hs rfl rfl rfl (.s (.s .z)) (.z (.c (.c (.c (.c (.c (.c (.c (.c (.c .n)))))))))) isAgg112 sizeOf112 (.c (.s (.s .z)) (.c (.s .z) .n)) (by rw [hq_]; exact ⟨_, rfl, rfl, (Tr.trans Tr.refl hJ27)⟩)
 refine go 3 [0, 1] [5, 4] (.c (.s .z) (.c (.s .z) .n)) ⟨rfl, rfl, ?_⟩
 have hq_ : zAM bs last R = (rr, 0, RR) := by first | exact zCS (by omega) | exact zCU (by omega) | exact zCR (by omega) (by omega) hraw (by omega) | exact zCz (by omega) (by omega) hraw (by omega)
 intro a w hs; exact zBV hs rfl rfl rfl (.s .z) (.z (.c (.c (.c (.c (.c (.c (.c (.c (.c .n)))))))))) isAgg112 sizeOf112 (.c (.s .z) (.c .z .n)) (by rw [hq_]; exact ⟨_, rfl, rfl, (Tr.trans Tr.refl hJ27)⟩)
end Go.Proofs.YtbacobmcfelmkaaGreat
