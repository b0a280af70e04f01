/- Datagrams: long ones, and rows of noughts. Plain mathematics. -/
import Derived.Test.YtkobgcoegajfcaaSxPgramF
set_option linter.unusedVariables false
set_option linter.unusedSimpArgs false
namespace Go.Sx
def longR (i : Nat) : RecR := ⟨0, (i : Int), 0, 0, 0, 0, 0, 0, 0#16⟩
def longL (n : Nat) : List RecR := (List.range n).map longR
theorem longL_succ (n : Nat) : longL (n + 1) = longL n ++ [longR n] := by unfold longL; rw [List.range_succ, List.map_append]; rfl
theorem longL_len (n : Nat) : (longL n).length = n := by simp [longL]
theorem longR_wf {i : Nat} (h : i ≤ 65535) : (longR i).wf := by
  constructor <;> dsimp only [longR] <;> omega
theorem longL_wf {n : Nat} (h : n ≤ 65535) : ∀ x ∈ longL n, x.wf := by
  intro x hx
  obtain ⟨i, hi, rfl⟩ := List.mem_map.1 hx
  exact longR_wf (by have := List.mem_range.1 hi; omega)
theorem longR_err {n : Nat} (h : n ≤ 65535) : recErr (longR n) ((n : Int) - 1) = 0 := by
  refine recErr_ok ?_ (by omega) (by dsimp only [longR]; omega)
  unfold recChk
  rw [if_neg (by dsimp only [longR]; omega), if_neg (by dsimp only [longR]; omega), if_neg]
  rintro (⟨e, _⟩ | ⟨e, _⟩)
  · exact absurd e (by show ¬ ((0 : Int) = 1); decide)
  · exact absurd e (by show ¬ ((0 : Int) = 2); decide)
theorem longL_row : ∀ n : Nat, n ≤ 65535 → recsErr (longL n) = 0 ∧ (rowE (longL n)).2 = (n : Int) - 1 ∧ (rowE (longL n)).1.length = 9 * n
  | 0, _ => ⟨rfl, rfl, rfl⟩
  | n + 1, h => by
    obtain ⟨h1, h2, h3⟩ := longL_row n (by omega)
    have he := longR_err (n := n) (by omega)
    rw [longL_succ]
    refine ⟨recs_snoc h1 (by rw [h2]; exact he), ?_, ?_⟩
    · rw [rowE_snoc]; dsimp only [longR]; omega
    · rw [rowE_snoc, h2]
      dsimp only
      rw [recB_all he (.inl rfl), recHead, List.length_append, List.length_append, List.length_append, h3, show (longR n).id - ((n : Int) - 1) - 1 = 0 by dsimp only [longR]; omega]
      have e : (vput (BitVec.ofInt 64 0).toNat).length + [BitVec.ofInt 8 (longR n).k].length + (recAll (longR n)).length = 9 := by
        show (vput (BitVec.ofInt 64 0).toNat).length + 1 + (recAll ⟨0, 0, 0, 0, 0, 0, 0, 0, 0#16⟩).length = 9
        decide +kernel
      omega
theorem gw_long8 {n : Nat} (h : 128 < n) : gwErr 0 0 (-1) (longL n) = 8 := by
  have hg : gErr 0 0 (-1) (longL n).length = 8 := gErr_8 (by omega) (by omega) (by rw [longL_len]; exact h)
  have hb : bodyErr 0 0 (-1) (longL n) = 8 := by rw [bodyErr_head (by omega), hg]
  unfold gwErr
  rw [if_pos (by omega), hb]
theorem gw_long0 {n : Nat} (h : n ≤ 128) : gwErr 0 0 (-1) (longL n) = 0 := by
  obtain ⟨h1, h2, h3⟩ := longL_row n (by omega)
  have hg : gErr 0 0 (-1) (longL n).length = 0 := gErr_0 (by omega) (by omega) (by rw [longL_len]; omega)
  have hb : bodyErr 0 0 (-1) (longL n) = 0 := by rw [bodyErr_recs hg, h1]
  have hl := length_gHeadB 0 0 (-1) (longL n).length
  unfold gwErr
  rw [if_neg (by omega), bodyB_ok hb, List.length_append, if_neg (by omega)]
/-- What begins with a nought is none. -/
theorem gEx_zero {x : List Byte} (h : x.getD 0 0 = 0#8) : gEx x ≠ 0 ∧ gEx x ≠ 8 := by
  have h1 : (gR1 x).e = 6 ∨ (gR1 x).e = 7 := by
    rw [← gR1_eq]
    have q : (mustB 71#8 x ⟨0, 0⟩).e = 6 ∨ (mustB 71#8 x ⟨0, 0⟩).e = 7 := by
      unfold mustB
      by_cases hx : x.length ≤ 0
      · rw [rByte_short rfl hx]; exact .inl rfl
      · rw [rByte_good rfl hx]
        dsimp only
        rw [h]
        exact .inr rfl
    generalize mustB 71#8 x ⟨0, 0⟩ = R at *
    unfold mustB
    rw [rByte_err (by omega), if_neg (by show ¬ ((0#8).toNat = (1#8).toNat); decide)]
    unfold rFail
    dsimp only
    rw [if_neg (by omega)]
    exact q
  have e2 : (gTx x).2 = gR1 x := by rw [gTx_eq, rUint_err (by omega)]
  have q3 : rInt x (gTx x).2 = (0, gR1 x) := by unfold rInt; rw [e2, rUint_err (by omega)]; simp [zagI]
  have e3 : (gTmx x).2 = gR1 x := by rw [gTmx_ok (by rw [q3]; show (-2305843009213693952 : Int) ≤ 0 ∧ (0 : Int) ≤ 2305843009213693952; decide), q3]
  have q4 : rUint x (BitVec.ofInt 64 (gTx x).1) (gTmx x).2 = (0#64, gR1 x) := by rw [e3]; exact rUint_err (by omega)
  have e4 : (gBx x).2 = gR1 x := by rw [gBx_neg (by rw [q4]; show ¬ 0 < (0#64).toNat; decide), q4]
  have q5 : rUint x 128#64 (gBx x).2 = (0#64, gR1 x) := by rw [e4]; exact rUint_err (by omega)
  have e5 : (gSx x).2.2 = gR1 x := by
    have n0 : gN x (gBx x).2 = 0 := by unfold gN; rw [q5]; rfl
    have r0 : gRecs x (gBx x).2 0 = ([], -1, (rUint x 128#64 (gBx x).2).2) := rfl
    rw [← gSx_def, n0, r0, q5]
  rw [← gEx_def, e5]
  unfold rDone
  rw [if_pos (.inl (by omega))]
  omega
theorem gread_zeros (k : Nat) : (gRead (List.replicate k 0#8)).e ≠ 0 ∧ ((gRead (List.replicate k 0#8)).e = 8 ↔ 4096 < k) := by
  have hk : (List.replicate k 0#8).length = k := List.length_replicate
  by_cases h : 4096 < k
  · rw [gRead_long (by omega)]
    exact ⟨by decide, fun _ => h, fun _ => rfl⟩
  · cases ho : open_ (List.replicate k 0#8) with
    | none =>
      rw [gRead_none (by omega) ho]
      exact ⟨by decide, fun e => absurd e (by decide), fun e => absurd e h⟩
    | some x =>
      have hs := (open_spec _ x).1 ho
      have h0 : x.getD 0 0 = 0#8 := by
        cases x with
        | nil => rfl
        | cons c r =>
          have : c ∈ List.replicate k 0#8 := by rw [hs]; unfold seal_; exact List.mem_append_left _ List.mem_cons_self
          exact (List.mem_replicate.1 this).2
      obtain ⟨h1, h2⟩ := gEx_zero h0
      rw [gRead_err (by omega) ho h1]
      dsimp only
      generalize gEx x = e at *
      exact ⟨h1, fun e => absurd e h2, fun e => absurd e h⟩
end Go.Sx
