/- Calls on a reader, as data. -/
import Derived.Test.YtkobgcoegajfcaaSxL
import Derived.Test.YtkobgcoegajfcaaSxPrd
set_option linter.unusedVariables false
set_option linter.unusedSimpArgs false
namespace Go.Sx
structure ActR where
  k : Int
  m : BitVec 64
  e : BitVec 8
instance : Inhabited ActR := ⟨⟨0, 0#64, 0#8⟩⟩
def actV (a : ActR) : List Value := [.int .i64 a.k, .int .u64 ((a.m.toNat : Nat) : Int), .int .u8 ((a.e.toNat : Nat) : Int)]
theorem act_of {cs : List Value} (h : AllFK cs [.i .i64, .i .u64, .i .u8]) : ∃ a : ActR, cs = actV a := by
  cases h with
  | c h1 h =>
    cases h with
    | c h2 h =>
      cases h with
      | c h3 h =>
        cases h
        cases h1 with
        | i w1 =>
          cases h2 with
          | i w2 =>
            cases h3 with
            | i w3 =>
              obtain ⟨X, hX⟩ := bv_of_wf_u64 w2
              obtain ⟨Y, hY⟩ := bv_of_wf_u8 w3
              rename_i z _ _
              exact ⟨⟨z, X, Y⟩, by simp [actV, hX, hY]⟩
theorem flat_len {α : Type} {g : α → List Value} {size : Nat} (hg : ∀ a, (g a).length = size) : ∀ (l : List α), (l.flatMap g).length = l.length * size
  | [] => by simp
  | a :: l => by rw [List.flatMap_cons, List.length_append, hg, flat_len hg l, List.length_cons, Nat.add_mul]; omega
theorem flat_get {α : Type} [Inhabited α] {g : α → List Value} {size : Nat} (hg : ∀ a, (g a).length = size) : ∀ (l : List α) (j : Nat), j < l.length → ((l.flatMap g).drop (j * size)).take size = g (l.getD j default)
  | [], j, h => by simp at h
  | a :: l, 0, _ => by
    simp only [Nat.zero_mul, List.drop_zero, List.flatMap_cons, List.getD_cons_zero]
    rw [← hg a, List.take_left']
    rfl
  | a :: l, j + 1, h => by
    have ih := flat_get hg l j (by simpa using h)
    rw [List.flatMap_cons, show (j + 1) * size = (g a).length + j * size by rw [hg, Nat.add_mul]; omega, ← List.drop_drop, List.drop_left', List.getD_cons_succ]
    · exact ih
    · rfl
theorem actV_len (a : ActR) : (actV a).length = 3 := rfl
/-- Where the document's reader has come, over the same bytes. -/
theorem flat_get1 {α : Type} [Inhabited α] {g : α → List Value} {size : Nat} (hg : ∀ a, (g a).length = size) (l : List α) (j o : Nat) (h : j < l.length) (ho : o < size) : (l.flatMap g)[j * size + o]? = (g (l.getD j default))[o]? := by
  rw [← flat_get hg l j h, List.getElem?_take, if_pos ho, List.getElem?_drop]
def Tr (bs : List Byte) (u : Value) (p : Nat) (u' : Value) (p' : Nat) : Prop := ∀ w' T, Rd w' T u 1 (bs.length - p) (bytesV (bs.drop p)) → Rd w' T u' 1 (bs.length - p') (bytesV (bs.drop p'))
theorem Tr.refl {bs : List Byte} {u : Value} {p : Nat} : Tr bs u p u p := fun _ _ h => h
theorem Tr.trans {bs : List Byte} {u u2 u3 : Value} {p p2 p3 : Nat} (h : Tr bs u p u2 p2) (h2 : Tr bs u2 p2 u3 p3) : Tr bs u p u3 p3 := fun w T h0 => h2 w T (h w T h0)
theorem Tr.cut {bs : List Byte} {u : Value} {p k : Nat} (h : k ≤ bs.length - p) : Tr bs u p (slcV u 1 k (bs.length - p)) (p + k) := fun w T h0 => by
  have := h0.slcL (l := k) h
  rwa [List.drop_drop, Nat.sub_sub] at this
theorem vget_five {b : List Byte} (h : (vget b).2.2 = 5) : b.length = 0 := by
  unfold vget at h
  split at h
  · assumption
  · repeat' split at h
    all_goals simp at h
theorem vget_some {b : List Byte} (h : b.length = 0) : (vget b).2.2 = 5 := by rw [vget_nil h]
theorem getD_drop0 {bs : List Byte} {k : Nat} : (bs.drop k).getD 0 0 = bs.getD k 0 := by simp [List.getD_eq_getElem?_getD]
theorem len_of_five {bs : List Byte} {k : Nat} (h : (vget (bs.drop k)).2.2 = 5) : bs.length ≤ k := by
  have := vget_five h
  simp only [List.length_drop] at this
  omega
theorem not_len {bs : List Byte} {k : Nat} (h : (vget (bs.drop k)).2.2 ≠ 5) : ¬ bs.length ≤ k := fun h2 => h (vget_some (by simp only [List.length_drop]; omega))
theorem rUint_bad3 {bs : List Byte} {X : BitVec 64} {R : Rs} (h : R.e = 0) (h1 : (vget (bs.drop R.p)).2.2 = 0) (h2 : X.toNat < (vget (bs.drop R.p)).1.toNat) : rUint bs X R = (0#64, ⟨R.p, 3⟩) := by
  have hu : uerr (bs.drop R.p) X = 3 := by unfold uerr; rw [if_pos ⟨h1, h2⟩]
  rw [rUint_bad h (not_len (by omega)) (by omega), hu]
theorem rUint_bade {bs : List Byte} {X : BitVec 64} {R : Rs} (h : R.e = 0) (h1 : (vget (bs.drop R.p)).2.2 ≠ 0) (h2 : (vget (bs.drop R.p)).2.2 ≠ 5) : rUint bs X R = (0#64, ⟨R.p, (vget (bs.drop R.p)).2.2⟩) := by
  have hu : uerr (bs.drop R.p) X = (vget (bs.drop R.p)).2.2 := by unfold uerr; rw [if_neg (fun h => h1 h.1)]
  rw [rUint_bad h (not_len h2) (by omega), hu]
theorem rUint_fine {bs : List Byte} {X : BitVec 64} {R : Rs} (h : R.e = 0) (h1 : (vget (bs.drop R.p)).2.2 = 0) (h2 : (vget (bs.drop R.p)).1.toNat ≤ X.toNat) : rUint bs X R = ((vget (bs.drop R.p)).1, ⟨R.p + (vget (bs.drop R.p)).2.1, 0⟩) := by
  have hu : uerr (bs.drop R.p) X = 0 := by unfold uerr; rw [if_neg (fun h => by omega)]; exact h1
  exact rUint_good h (not_len (by omega)) hu
theorem fine_le {bs : List Byte} {k : Nat} (h : (vget (bs.drop k)).2.2 = 0) : (vget (bs.drop k)).2.1 ≤ bs.length - k := by
  have := (vget_back_part h).2.1
  simpa using this
def uNext (u : Value) (L p p' : Nat) : Value := if p' = p then u else slcV u 1 (p' - p) (L - p)
theorem uNext_same {u : Value} {L p : Nat} : uNext u L p p = u := by simp [uNext]
theorem uNext_cut {u : Value} {L p k : Nat} (h : 1 ≤ k) : uNext u L p (p + k) = slcV u 1 k (L - p) := by
  unfold uNext
  rw [if_neg (by omega), show p + k - p = k by omega]
theorem uNext_tr {bs : List Byte} {u : Value} {p p' : Nat} (h : p ≤ p') (h2 : p' ≤ bs.length) : Tr bs u p (uNext u bs.length p p') p' := by
  by_cases e : p' = p
  · subst e
    rw [uNext_same]
    exact Tr.refl
  · obtain ⟨k, rfl⟩ := Nat.exists_eq_add_of_le h
    rw [uNext_cut (by omega)]
    exact Tr.cut (by omega)
theorem fine_pos {bs : List Byte} {k : Nat} (h : (vget (bs.drop k)).2.2 = 0) : 1 ≤ (vget (bs.drop k)).2.1 := (vget_back_part h).1
theorem fail_tr {bs : List Byte} {u : Value} {e : Nat} {R : Rs} : Tr bs u R.p (id u) (rFail e R).p := by
  have : (rFail e R).p = R.p := by unfold rFail; split <;> rfl
  rw [this]
  exact Tr.refl
theorem rVec_le' {bs : List Byte} {R : Rs} (h : R.p ≤ bs.length) : (rInt bs (rInt bs (rInt bs R).2).2).2.p ≤ bs.length ∧ R.p ≤ (rInt bs (rInt bs (rInt bs R).2).2).2.p ∧ (rInt bs (rInt bs (rInt bs R).2).2).2.p ≤ R.p + 30 := rVec_le h
theorem ints_getD (l : List Int) {k : IntKind} {i : Nat} (h : i < l.length) : (l.map (Value.int k))[i]? = some (.int k (l.getD i 0)) := by
  simp [List.getD_eq_getElem?_getD, h]
theorem getD_zig (l : List Int) {i : Nat} (h : i < l.length) : (l.map zigI).getD i 0 = zigI (l.getD i 0) := by
  simp [List.getD_eq_getElem?_getD, h]
theorem getD_mem (l : List Int) {i : Nat} (h : i < l.length) : l.getD i 0 ∈ l := by
  simp [List.getD_eq_getElem?_getD, h]
theorem vputs_takedrop (Z : List (BitVec 64)) (j : Nat) : (vputs Z).drop (vputs (Z.take j)).length = vputs (Z.drop j) := by
  have h : vputs Z = vputs (Z.take j) ++ vputs (Z.drop j) := by rw [← vputs_append, List.take_append_drop]
  rw [h, List.drop_left' rfl]
theorem rInt_at (l : List Int) (j : Nat) (hr : ∀ x ∈ l, -9223372036854775808 ≤ x ∧ x ≤ 9223372036854775807) (h : j < l.length) :
    rInt (vputs (l.map zigI)) ⟨(vputs ((l.map zigI).take j)).length, 0⟩ = (l.getD j 0, ⟨(vputs ((l.map zigI).take (j + 1))).length, 0⟩) := by
  have hd := vputs_takedrop (l.map zigI) j
  rw [vputs_drop _ j (by simpa using h), getD_zig l h] at hd
  have hg := vget_put (zigI (l.getD j 0)) (vputs ((l.map zigI).drop (j + 1)))
  have hp := vlen_pos (zigI (l.getD j 0)).toNat
  have hlt := (zigI (l.getD j 0)).isLt
  have hlen : ¬ (vputs (l.map zigI)).length ≤ (vputs ((l.map zigI).take j)).length := by
    have := congrArg List.length hd
    rw [List.length_drop, List.length_append, show (vput (zigI (l.getD j 0)).toNat).length = vlen (zigI (l.getD j 0)).toNat from rfl] at this
    omega
  have hu : uerr ((vputs (l.map zigI)).drop (vputs ((l.map zigI).take j)).length) 18446744073709551615#64 = 0 := by
    rw [hd]
    unfold uerr
    rw [hg, if_neg]
    rintro ⟨_, h2⟩
    have : (18446744073709551615#64).toNat = 18446744073709551615 := rfl
    simp only [this] at h2
    omega
  unfold rInt
  rw [rUint_good rfl hlen hu]
  simp only [hd, hg]
  rw [zag_zig _ (hr _ (getD_mem l h)), vputs_take _ j (by simpa using h), getD_zig l h, List.length_append]
  rfl
theorem rInt_more {bs : List Byte} {R : Rs} (h : R.e = 0) (hle : R.p ≤ bs.length) (h2 : (rInt bs R).2.e = 0) : R.p + 1 ≤ (rInt bs R).2.p ∧ bs.take (rInt bs R).2.p = bs.take R.p ++ vput (zigI (rInt bs R).1).toNat := by
  unfold rInt at *
  simp only at h2 ⊢
  by_cases h1 : bs.length ≤ R.p
  · rw [rUint_short h h1] at h2
    simp at h2
  · by_cases h3 : uerr (bs.drop R.p) 18446744073709551615#64 = 0
    · rw [rUint_good h h1 h3]
      have hb := vget_back_part (uerr_ok h3).1
      simp only [zig_zag]
      refine ⟨by omega, ?_⟩
      rw [hb.2.2, List.take_add]
    · rw [rUint_bad h h1 h3] at h2
      exact absurd h2 h3
theorem rInt_halt {bs : List Byte} {R : Rs} (h2 : (rInt bs R).2.e ≠ 0) : (rInt bs R).2.p = R.p := by
  unfold rInt at *
  simp only at h2 ⊢
  by_cases h : R.e = 0
  · by_cases h1 : bs.length ≤ R.p
    · rw [rUint_short h h1]
    · by_cases h3 : uerr (bs.drop R.p) 18446744073709551615#64 = 0
      · rw [rUint_good h h1 h3] at h2
        simp at h2
      · rw [rUint_bad h h1 h3]
  · rw [rUint_err h]
theorem vputs_pre (Z : List (BitVec 64)) (j : Nat) : (vputs (Z.take j)).length ≤ (vputs Z).length := by
  have h : vputs Z = vputs (Z.take j) ++ vputs (Z.drop j) := by rw [← vputs_append, List.take_append_drop]
  have := congrArg List.length h
  rw [List.length_append] at this
  omega
end Go.Sx
