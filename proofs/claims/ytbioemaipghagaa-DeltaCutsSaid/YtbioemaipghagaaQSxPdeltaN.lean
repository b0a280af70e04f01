/- Plain law of the statements about one record, and about one entity less. -/
import Derived.Test.YtbioemaipghagaaQSxDel
import Derived.Test.YtbioemaipghagaaQSxRrd
import Derived.Test.YtbioemaipghagaaQSxPrecR
set_option linter.unusedVariables false
set_option linter.unusedSimpArgs false
namespace Go.Sx
theorem flat_getS {α : Type} [Inhabited α] {g : α → List Value} {size : Nat} (hg : ∀ a, (g a).length = size) (l : List α) (j o sz : Nat) (h : j < l.length ∧ o + sz ≤ size) : ((l.flatMap g).drop (j * size + o)).take sz = ((g (l.getD j default)).drop o).take sz := by
  rw [← flat_get hg l j h.1, List.drop_take, List.drop_drop, List.take_take, Nat.min_eq_left (by omega)]
/-! ### One record -/
/-! ### One entity less -/
def cutE (l : List EntR) (i : Nat) : List EntR := l.take i ++ l.drop (i + 1)
theorem stepR_same (x : EntR) : stepR x x = [] := by
  apply stepR_f
  rw [recDiff_eq (show entEq x x = true from entV_eq.2 rfl)]
theorem mrg_same : ∀ l : List EntR, mrg l l = some []
  | [] => mrg_nn
  | x :: l => by rw [mrg_cc, if_neg (by omega), if_neg (by omega), if_pos (.inl rfl), mrg_same l, stepR_same]; rfl
theorem mrg_cut : ∀ (l : List EntR) (i : Nat), Srt l → i < l.length → mrg l (cutE l i) = some [remOf (l.getD i default)]
  | [], i, _, h => by simp at h
  | x :: l, 0, hs, _ => by
    show mrg (x :: l) l = some [remOf x]
    cases l with
    | nil => rw [mrg_cn, mrg_nn]; rfl
    | cons y l =>
      have := (List.pairwise_cons.1 hs).1 y (by simp)
      rw [mrg_cc, if_pos this, mrg_same]; rfl
  | x :: l, i + 1, hs, h => by
    show mrg (x :: l) (x :: cutE l i) = some [remOf (l.getD i default)]
    rw [mrg_cc, if_neg (by omega), if_neg (by omega), if_pos (.inl rfl), mrg_cut l i (List.pairwise_cons.1 hs).2 (by simpa using h), stepR_same]
    rfl
theorem mrg_uncut : ∀ (l : List EntR) (i : Nat), Srt l → i < l.length → mrg (cutE l i) l = if (l.getD i default).g = 0#8 then some [putOf (l.getD i default)] else none
  | [], i, _, h => by simp at h
  | x :: l, 0, hs, _ => by
    show mrg l (x :: l) = if x.g = 0#8 then some [putOf x] else none
    cases l with
    | nil => rw [mrg_nc, mrg_nn]; rfl
    | cons y l =>
      have := (List.pairwise_cons.1 hs).1 y (by simp)
      rw [mrg_cc, if_neg (by omega), if_pos this, mrg_same]; rfl
  | x :: l, i + 1, hs, h => by
    show mrg (x :: cutE l i) (x :: l) = if (l.getD i default).g = 0#8 then some [putOf (l.getD i default)] else none
    rw [mrg_cc, if_neg (by omega), if_neg (by omega), if_pos (.inl rfl), mrg_uncut l i (List.pairwise_cons.1 hs).2 (by simpa using h), stepR_same]
    split <;> rfl
theorem cut_sub (l : List EntR) (i : Nat) : (cutE l i).Sublist l := by
  have h1 : l = l.take i ++ l.drop i := (List.take_append_drop i l).symm
  conv => rhs; rw [h1]
  refine List.Sublist.append (List.Sublist.refl _) ?_
  rw [← List.drop_drop]
  exact List.drop_sublist _ _
theorem cut_snap {t tm : Int} {l : List EntR} {i : Nat} (h : snapErr t tm l = 0) (ht : t ≤ 4294967293) : snapErr (t + 1) tm (cutE l i) = 0 ∧ snapErr (t + 2) tm l = 0 := by
  have p := snapErr_parts h
  have hl := (cut_sub l i).length_le
  refine ⟨?_, by rw [snapErr_e (by omega) (by omega)]; exact p.2.2.2.2.2⟩
  rw [snapErr_e (by omega) (by omega)]
  exact ents_ok ((ents_srt p.2.2.2.2.2).sublist (cut_sub l i)) fun x hx => ents_rng p.2.2.2.2.2 x ((cut_sub l i).subset hx)
theorem cuts_1 {t tm : Int} {l : List EntR} {i : Nat} (h : snapErr t tm l = 0) (ht : t ≤ 4294967293) (hi : i < l.length) : dErr t tm l (t + 1) tm (cutE l i) = 0 ∧ dG t tm l (t + 1) tm (cutE l i) = ⟨t + 1, tm, t, [remOf (l.getD i default)]⟩ := by
  have p := snapErr_parts h
  have hm := mE_some' (mrg_cut l i (ents_srt p.2.2.2.2.2) hi)
  have he : dErr t tm l (t + 1) tm (cutE l i) = 0 := by rw [dErr_4 h (cut_snap h ht).1 (by omega)]; exact hm.1
  exact ⟨he, by rw [dG_0 he, hm.2]⟩
theorem cuts_2 {t tm : Int} {l : List EntR} {i : Nat} (h : snapErr t tm l = 0) (ht : t ≤ 4294967293) (hi : i < l.length) (hg : (l.getD i default).g ≠ 0#8) : dErr (t + 1) tm (cutE l i) (t + 2) tm l = 15 := by
  have p := snapErr_parts h
  have hm := mrg_uncut l i (ents_srt p.2.2.2.2.2) hi
  rw [if_neg hg] at hm
  rw [dErr_4 (cut_snap h ht).1 (cut_snap (i := i) h ht).2 (by omega)]
  unfold mE
  rw [hm]; rfl
theorem cuts_3 {t tm : Int} {l : List EntR} {i : Nat} (h : snapErr t tm l = 0) (ht : t ≤ 4294967293) (hi : i < l.length) (hg : (l.getD i default).g = 0#8) : dErr (t + 1) tm (cutE l i) (t + 2) tm l = 0 ∧ dG (t + 1) tm (cutE l i) (t + 2) tm l = ⟨t + 2, tm, t + 1, [putOf (l.getD i default)]⟩ := by
  have p := snapErr_parts h
  have hm0 := mrg_uncut l i (ents_srt p.2.2.2.2.2) hi
  rw [if_pos hg] at hm0
  have hm := mE_some' hm0
  have he : dErr (t + 1) tm (cutE l i) (t + 2) tm l = 0 := by rw [dErr_4 (cut_snap h ht).1 (cut_snap (i := i) h ht).2 (by omega)]; exact hm.1
  exact ⟨he, by rw [dG_0 he, hm.2]⟩
theorem cutE_wf {l : List EntR} {i : Nat} (h : ∀ x ∈ l, x.wf) : ∀ x ∈ cutE l i, x.wf := fun x hx => h x ((cut_sub l i).subset hx)
theorem cutE_len {l : List EntR} {i : Nat} (h : i < l.length) : (cutE l i).length = i + (l.length - (i + 1)) := by unfold cutE; rw [List.length_append, List.length_take, List.length_drop, Nat.min_eq_left (by omega)]
def idxm (x : Int) (n : Nat) : Nat := (BitVec.ofInt 64 x % BitVec.ofInt 64 (n : Int)).toNat
theorem idxm_lt (x : Int) {n : Nat} (h : 0 < n) (h2 : n ≤ 60000) : idxm x n < n ∧ (BitVec.ofInt 64 x % BitVec.ofInt 64 (n : Int)).toInt = ((idxm x n : Nat) : Int) := by
  have hn : (BitVec.ofInt 64 (n : Int)).toNat = n := by rw [BitVec.toNat_ofInt]; omega
  have h1 : idxm x n < n := by
    unfold idxm
    rw [BitVec.toNat_umod, hn]
    exact Nat.mod_lt _ h
  exact ⟨h1, toInt_small (by show idxm x n ≤ 65535; omega)⟩
theorem cut_flat (l : List EntR) {i : Nat} (hi : i < l.length) : ((l.flatMap entV).drop (0 * 9)).take ((i - 0) * 9) ++ ((l.flatMap entV).drop ((i + 1) * 9)).take ((l.length - (i + 1)) * 9) = (cutE l i).flatMap entV := by
  have hl : ∀ m : List EntR, (m.flatMap entV).length = m.length * 9 := fun m => flat_len' m
  have h1 : (l.flatMap entV).take (i * 9) = (l.take i).flatMap entV := by
    have e : l.flatMap entV = (l.take i).flatMap entV ++ (l.drop i).flatMap entV := by rw [← List.flatMap_append, List.take_append_drop]
    rw [e, List.take_left' (by rw [hl, List.length_take, Nat.min_eq_left (by omega)])]
  have h2 : (l.flatMap entV).drop ((i + 1) * 9) = (l.drop (i + 1)).flatMap entV := by
    have e : l.flatMap entV = (l.take (i + 1)).flatMap entV ++ (l.drop (i + 1)).flatMap entV := by rw [← List.flatMap_append, List.take_append_drop]
    rw [e, List.drop_left' (by rw [hl, List.length_take, Nat.min_eq_left (by omega)])]
  have h3 : ((l.drop (i + 1)).flatMap entV).take ((l.length - (i + 1)) * 9) = (l.drop (i + 1)).flatMap entV := List.take_of_length_le (by rw [hl, List.length_drop]; exact Nat.le_refl _)
  rw [h2, Nat.zero_mul, List.drop_zero, Nat.sub_zero, h1, h3]
  unfold cutE
  rw [List.flatMap_append]
where flat_len' : ∀ m : List EntR, (m.flatMap entV).length = m.length * 9
  | [] => rfl
  | x :: m => by rw [List.flatMap_cons, List.length_append, flat_len' m, List.length_cons, Nat.add_mul]; show 9 + _ = _; omega
end Go.Sx
