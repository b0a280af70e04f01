/- Plain law of the statements about one record, and about one entity less. -/
import Derived.Test.YtbioemaipghagaaQSxDel
import Derived.Test.YtbioemaipghagaaQSxRrd
import Derived.Test.YtbioemaipghagaaQSxPrecR
set_option linter.unusedVariables false
set_option linter.unusedSimpArgs false
namespace Go.Sx
/-! ### One record -/
theorem eput_len {x : EntR} : ∀ {l : List EntR}, (eput x l).length = if (eget x.id l).isSome = true then l.length else l.length + 1
  | [] => rfl
  | y :: l => by
    unfold eput eget
    split
    · simp
    · rw [List.length_cons, eput_len]
      split <;> simp
theorem recsErr_one {r : RecR} (h : recChk r = 0) : recsErr [r] = 0 := recsErr_ok (List.pairwise_singleton _ _) (by simpa using h)
theorem less_0 {t tm time : Int} {l : List EntR} (h : snapErr t tm l = 0) (ht : t < 4294967295) (h1 : -2305843009213693952 ≤ time) (h2 : time ≤ 2305843009213693952) : aE t tm l (t + 1) time t [] = 0 ∧ aS t tm l (t + 1) time t [] = ⟨t + 1, time, l⟩ := by
  have p := snapErr_parts h
  have hb : bodyErr (t + 1) time t [] = 0 := by rw [bodyErr_recs (gErr_0 (by omega) (by omega) (by simp))]; rfl
  have hw : wasOf t l = l := by unfold wasOf; rw [if_pos p.1]
  have he : aE t tm l (t + 1) time t [] = 0 := by rw [aE_4 hb (fun _ => ⟨h, rfl⟩), hw]; exact aM_ok (apl_nil l) (by omega)
  exact ⟨he, by rw [aS_0 he, hw, apl_nil]; rfl⟩
theorem less_1 {t tm time : Int} {l : List EntR} {r : RecR} (h : snapErr t tm l = 0) (ht : t < 4294967295) (h1 : -2305843009213693952 ≤ time) (h2 : time ≤ 2305843009213693952) (hc : recChk r = 0) : aE t tm l (t + 1) time t [r] = aM l [r] := by
  have p := snapErr_parts h
  have hb : bodyErr (t + 1) time t [r] = 0 := by rw [bodyErr_recs (gErr_0 (by omega) (by omega) (by simp))]; exact recsErr_one hc
  have hw : wasOf t l = l := by unfold wasOf; rw [if_pos p.1]
  rw [aE_4 hb (fun _ => ⟨h, rfl⟩), hw]
theorem aM_one {l : List EntR} {r : RecR} (hs : Srt l) (hl : l.length ≤ 64) (hc : recChk r = 0) :
    ((eget r.id l).isSome = true → r.k = 0 → aM l [r] = 15) ∧ ((eget r.id l).isSome = true → r.k ≠ 0 → aM l [r] = 0) ∧ ((eget r.id l).isSome = false → r.k = 0 → aM l [r] = 0 ∨ aM l [r] = 4) ∧ ((eget r.id l).isSome = false → r.k ≠ 0 → aM l [r] = 15) := by
  have hf := apl_fold _ l [r] (Nat.le_refl _) [] l (List.Perm.refl _) hs (by simp) (List.pairwise_singleton _ _) (by simpa using hc)
  have hp : pFold l [r] = pStep l r := by show (pStep l r).bind (fun m => some m) = _; cases pStep l r <;> rfl
  rw [hp] at hf
  have none' : pStep l r = none → aM l [r] = 15 := fun h => by
    cases ha : apl l [r] with
    | none => exact aM_none ha
    | some l' => obtain ⟨_, m', h1, _⟩ := hf.2 l' ha; rw [h] at h1; cases h1
  have some' : ∀ m', pStep l r = some m' → m'.length ≤ 64 → aM l [r] = 0 := fun m' h hm => by
    cases ha : apl l [r] with
    | none => rw [hf.1 ha] at h; cases h
    | some l' =>
      obtain ⟨_, m2, h1, h2⟩ := hf.2 l' ha
      rw [h] at h1
      cases h1
      have := h2.length_eq
      exact aM_ok ha (by simp at this; omega)
  have le4 : ∀ m', pStep l r = some m' → aM l [r] = 0 ∨ aM l [r] = 4 := fun m' h => by
    cases ha : apl l [r] with
    | none => rw [hf.1 ha] at h; cases h
    | some l' =>
      by_cases hl : 64 < l'.length
      · exact .inr (aM_full ha hl)
      · exact .inl (aM_ok ha hl)
  cases hg : eget r.id l with
  | none =>
    refine ⟨fun h => (by cases h), fun h => (by cases h), fun _ hk => ?_, fun _ hk => none' ?_⟩
    · exact le4 _ (by unfold pStep; rw [hg]; exact if_pos hk)
    · unfold pStep; rw [hg]; exact if_neg hk
  | some x =>
    refine ⟨fun _ hk => none' ?_, fun _ hk => ?_, fun h => (by cases h), fun h => (by cases h)⟩
    · unfold pStep; rw [hg]; exact if_pos hk
    · by_cases h2 : r.k = 2
      · exact some' _ (pStep_del hg h2) (Nat.le_trans (edel_len _ _) hl)
      · refine some' _ (pStep_upd hg hk h2) ?_
        have hid := (entApply_id (x := x) hc (eget_some hg).2.symm hk h2).1
        rw [eput_len, hid, (eget_some hg).2, hg]
        simpa using hl
theorem chk_put (k : Int) (h : 0 ≤ k ∧ k ≤ 65535) : recChk ⟨0, k, 0, 0, 0, 0, 0, 0, 0#16⟩ = 0 := by
  unfold recChk
  dsimp only
  rw [if_neg (by omega), if_neg (by omega), if_neg (by simp)]
theorem chk_upd (k : Int) (h : 0 ≤ k ∧ k ≤ 65535) : recChk ⟨1, k, 0, 0, 0, 0, 0, 0, 1#16⟩ = 0 := by
  unfold recChk
  dsimp only
  rw [if_neg (by omega), if_neg (by omega), if_neg (by simp [recEmpty])]
theorem chk_rem (k : Int) (h : 0 ≤ k ∧ k ≤ 65535) : recChk ⟨2, k, 0, 0, 0, 0, 0, 0, 0#16⟩ = 0 := by
  unfold recChk
  dsimp only
  rw [if_neg (by omega), if_neg (by omega), if_neg (by simp [recEmpty])]
theorem chk_tel (k : Int) (h : 0 ≤ k ∧ k ≤ 65535) : recChk ⟨3, k, 0, 0, 0, 0, 0, 0, 0#16⟩ = 0 := by
  unfold recChk
  dsimp only
  rw [if_neg (by omega), if_neg (by omega), if_neg (by simp)]
theorem one_rwf {r : RecR} (h : r.wf) : ∀ x ∈ [r], x.wf := by intro x hx; rw [List.mem_singleton] at hx; rw [hx]; exact h
/-! ### One entity less -/
end Go.Sx
