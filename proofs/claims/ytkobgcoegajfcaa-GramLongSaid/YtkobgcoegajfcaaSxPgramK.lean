/- Datagrams: what is read is written as it came. Plain mathematics. -/
import Derived.Test.YtkobgcoegajfcaaSxPgramR
import Derived.Test.YtkobgcoegajfcaaSxPrecB
import Derived.Test.YtkobgcoegajfcaaSxRgram
set_option linter.unusedVariables false
set_option linter.unusedSimpArgs false
namespace Go.Sx
theorem recsTo_of {l : List RecR} : ∀ j, (∀ k, k < j → errAt l k = 0) → recsTo l j = 0
  | 0, _ => rfl
  | j + 1, h => recsTo_ok (recsTo_of j fun k hk => h k (by omega)) (h j (by omega))
theorem recs_snoc {l : List RecR} {r : RecR} (h : recsErr l = 0) (hr : recErr r (rowE l).2 = 0) : recsErr (l ++ [r]) = 0 := by
  refine recsTo_of _ fun k hk => ?_
  rw [List.length_append, List.length_singleton] at hk
  unfold errAt
  by_cases e : k < l.length
  · rw [List.take_append_of_le_length (by omega), List.getD_eq_getElem?_getD, List.getElem?_append_left e, ← List.getD_eq_getElem?_getD]
    exact recsTo_all h k e
  · rw [show k = l.length by omega, List.take_left, List.getD_eq_getElem?_getD, List.getElem?_append_right (Nat.le_refl _), Nat.sub_self]
    exact hr
structure RBack (bs : List Byte) (R' : Rs) (i : Nat) (s : List RecR × Int × Rs) : Prop where
  len : s.1.length = i
  last : (rowE s.1).2 = s.2.1
  err : recsErr s.1 = 0
  wf : ∀ x ∈ s.1, x.wf
  e0 : R'.e = 0
  drop : bs.drop R'.p = (rowE s.1).1 ++ bs.drop s.2.2.p
  at_ : s.2.2.p = R'.p + (rowE s.1).1.length
theorem gRecs_back {bs : List Byte} {R : Rs} (hR : R.p ≤ bs.length) : ∀ i, (gRecs bs R i).2.2.e = 0 → RBack bs (rUint bs 128#64 R).2 i (gRecs bs R i)
  | 0, h => ⟨rfl, rfl, rfl, (by intro x hx; cases hx), h, rfl, rfl⟩
  | i + 1, h => by
    have hv := gRecs_inv hR i
    by_cases h0 : (gRecs bs R i).2.2.e = 0
    · have ih := gRecs_back hR i h0
      by_cases h1 : (rdRec bs (gRecs bs R i).2.1 (gRecs bs R i).2.2).2.1 = 0
      · have hq : rdRec bs (gRecs bs R i).2.1 (gRecs bs R i).2.2 = ((rdRec bs (gRecs bs R i).2.1 (gRecs bs R i).2.2).1, 0, (rdRec bs (gRecs bs R i).2.1 (gRecs bs R i).2.2).2.2) := by rw [← h1]
        obtain ⟨k1, k2, k3, k4, k5, k6, k7⟩ := rd_back hv.p hq
        rw [gRecs_ok h0 h1]
        generalize rdRec bs (gRecs bs R i).2.1 (gRecs bs R i).2.2 = q at *
        refine ⟨by simp [ih.len], by rw [rowE_snoc], recs_snoc ih.err (by rw [ih.last]; exact k1), ?_, ih.e0, ?_, ?_⟩
        · intro x hx
          rcases List.mem_append.1 hx with hx | hx
          · exact ih.wf x hx
          · rw [List.mem_singleton.1 hx]; exact k2
        · dsimp only
          rw [rowE_snoc, ih.last, ih.drop, k3]
          simp only [List.append_assoc]
        · dsimp only
          rw [rowE_snoc, ih.last, k4, ih.at_]
          simp only [List.length_append]
          omega
      · exfalso
        have he := rdRec_e (bs := bs) (R := (gRecs bs R i).2.2) ⟨hv.lo, hv.hi⟩
        have h3 : gRecs bs R (i + 1) = gStep bs (gRecs bs R i) := by
          show gRun _ _ (i + 1) = _
          unfold gRun
          rw [if_neg (by unfold gRecs at h0; omega)]
          rfl
        rw [h3] at h
        unfold gStep at h
        rw [if_pos h1] at h
        dsimp only at h
        omega
    · exfalso
      have h3 : gRecs bs R (i + 1) = gRecs bs R i := gRun_stay (bs := bs) (s := ([], -1, (rUint bs 128#64 R).2)) (i := i) h0 1
      rw [h3] at h
      exact h0 h
theorem must_back {bs : List Byte} {c : Byte} {R : Rs} (hp : R.p ≤ bs.length) (h : (mustB c bs R).e = 0) : R.e = 0 ∧ bs.drop R.p = [c] ++ bs.drop (mustB c bs R).p := by
  unfold mustB at h ⊢
  split at h
  · rename_i h1
    rw [if_pos h1]
    obtain ⟨k1, k2, _⟩ := back_byte R hp h
    rw [BitVec.eq_of_toNat_eq h1] at k2
    exact ⟨k1, k2⟩
  · exact absurd h fun h => rFail_e h (by decide)
/-- A body that was read is written as it came. -/
theorem body_back {x : List Byte} (h : gEx x = 0) : bodyErr (gTx x).1 (gTmx x).1 (gBx x).1 (gSx x).1 = 0 ∧ bodyB (gTx x).1 (gTmx x).1 (gBx x).1 (gSx x).1 = x ∧ ∀ r ∈ (gSx x).1, r.wf := by
  have hS0 : (gSx x).2.2.e = 0 := rDone_e (by rw [gEx_def]; exact h)
  have hEnd : x.length ≤ (gSx x).2.2.p := by
    rw [← gEx_def] at h
    unfold rDone at h
    split at h
    · rename_i h1
      exact h1.resolve_left (by omega)
    · cases h
  have hB := gBx_le x
  have hT := gTx_le x
  have hTm := gTmx_le x
  have hb := gRecs_back (bs := x) (R := (gBx x).2) hB.1 (gN x (gBx x).2) (by rw [gSx_def]; exact hS0)
  rw [gSx_def] at hb
  have hNm := gN_le x (gBx x).2
  obtain ⟨n1, n2, n3, n4⟩ := back_uint (L := 128#64) (gBx x).2 hB.1 hb.e0
  -- the base
  have hBq : (gBx x).2 = (rUint x (BitVec.ofInt 64 (gTx x).1) (gTmx x).2).2 := by
    by_cases h0 : 0 < (rUint x (BitVec.ofInt 64 (gTx x).1) (gTmx x).2).1.toNat
    · rw [gBx_pos h0]
    · rw [gBx_neg h0]
  have hUb := rUint_le (X := BitVec.ofInt 64 (gTx x).1) hTm.1
  have hot := ofInt64 (x := (gTx x).1) (by omega) (by omega)
  obtain ⟨b1, b2, b3, b4⟩ := back_uint (L := BitVec.ofInt 64 (gTx x).1) (gTmx x).2 hTm.1 (by rw [← hBq]; exact n1)
  -- the time
  have hTq : -2305843009213693952 ≤ (rInt x (gTx x).2).1 ∧ (rInt x (gTx x).2).1 ≤ 2305843009213693952 := by
    refine Decidable.by_contra fun hc => ?_
    rw [gTmx_bad hc] at b1
    exact rFail_e b1 (by decide)
  have hTe := gTmx_ok hTq
  obtain ⟨t1, t2, t3, t4⟩ := back_int (gTx x).2 hT.1 (by rw [hTe] at b1; exact b1)
  obtain ⟨u1, u2, u3, u4⟩ := back_uint (L := 4294967295#64) (gR1 x) (gR1_le x) (by rw [gTx_eq] at t1; exact t1)
  have hm1 := (mustB_le (c := 71#8) (bs := x) (R := ⟨0, 0⟩) (Nat.zero_le _)).1
  obtain ⟨m1, m2⟩ := must_back (c := 1#8) hm1 (by rw [gR1_eq]; exact u1)
  obtain ⟨s1, s2⟩ := must_back (bs := x) (c := 71#8) (R := ⟨0, 0⟩) (Nat.zero_le _) m1
  have hdz : x.drop (gSx x).2.2.p = [] := List.drop_eq_nil_of_le hEnd
  have hlen : (gSx x).1.length = (rUint x 128#64 (gBx x).2).1.toNat := hb.len
  have hbk : (gBack (gTx x).1 (gBx x).1).toNat = (rUint x (BitVec.ofInt 64 (gTx x).1) (gTmx x).2).1.toNat ∧ -1 ≤ (gBx x).1 ∧ (gBx x).1 < (gTx x).1 := by
    by_cases h0 : 0 < (rUint x (BitVec.ofInt 64 (gTx x).1) (gTmx x).2).1.toNat
    · rw [gBx_pos h0]
      dsimp only
      unfold gBack
      rw [if_pos (by omega)]
      have := ofInt64 (x := (gTx x).1 - ((gTx x).1 - (((rUint x (BitVec.ofInt 64 (gTx x).1) (gTmx x).2).1.toNat : Nat) : Int))) (by omega) (by omega)
      omega
    · rw [gBx_neg h0]
      dsimp only
      unfold gBack
      rw [if_neg (by omega)]
      refine ⟨?_, by omega, by omega⟩
      show 0 = _
      omega
  have hNn : (gSx x).1.length ≤ 128 := gSx_len x
  have hmm := ofInt64 (x := (((gSx x).1.length : Nat) : Int)) (by omega) (by omega)
  have hg : gErr (gTx x).1 (gTmx x).1 (gBx x).1 (gSx x).1.length = 0 := gErr_0 (by rw [hTe]; dsimp only; omega) (by omega) (by omega)
  have hbe : bodyErr (gTx x).1 (gTmx x).1 (gBx x).1 (gSx x).1 = 0 := (bodyErr_recs hg).trans hb.err
  refine ⟨hbe, ?_, hb.wf⟩
  have hd := hb.drop
  rw [hdz, List.append_nil] at hd
  rw [bodyB_ok hbe, gHeadB, hbk.1, show (BitVec.ofInt 64 (((gSx x).1.length : Nat) : Int)).toNat = (rUint x 128#64 (gBx x).2).1.toNat by omega, ← hd]
  have e0 : x = x.drop 0 := rfl
  rw [gR1_eq] at m2
  rw [show (gR1 x) = gR1 x from rfl] at u2
  have hZ : numB (rInt x (gTx x).2).1 = vput (zigI (gTmx x).1).toNat := by rw [hTe]; rfl
  have hV : (BitVec.ofInt 64 (gTx x).1).toNat = (rUint x 4294967295#64 (gR1 x)).1.toNat := by
    have : (gTx x).1 = (((rUint x 4294967295#64 (gR1 x)).1.toNat : Nat) : Int) := by rw [gTx_eq]
    omega
  have u2' : x.drop (gR1 x).p = vput (BitVec.ofInt 64 (gTx x).1).toNat ++ x.drop (gTx x).2.p := by rw [hV]; exact u2
  have t2' : x.drop (gTx x).2.p = vput (zigI (gTmx x).1).toNat ++ x.drop (gTmx x).2.p := by rw [← hZ, hTe]; exact t2
  have b2' : x.drop (gTmx x).2.p = vput (rUint x (BitVec.ofInt 64 (gTx x).1) (gTmx x).2).1.toNat ++ x.drop (gBx x).2.p := by rw [hBq]; exact b2
  have n2' : x.drop (gBx x).2.p = vput (rUint x 128#64 (gBx x).2).1.toNat ++ x.drop (rUint x 128#64 (gBx x).2).2.p := n2
  have : x = [71#8] ++ ([1#8] ++ (vput (BitVec.ofInt 64 (gTx x).1).toNat ++ (vput (zigI (gTmx x).1).toNat ++ (vput (rUint x (BitVec.ofInt 64 (gTx x).1) (gTmx x).2).1.toNat ++ (vput (rUint x 128#64 (gBx x).2).1.toNat ++ x.drop (rUint x 128#64 (gBx x).2).2.p))))) := by
    rw [← n2', ← b2', ← t2', ← u2', ← m2]
    exact s2
  conv => rhs; rw [this]
  simp only [List.append_assoc, List.cons_append, List.nil_append]
/-- A datagram that was read is written as it came. -/
theorem gread_back {bs : List Byte} (h : (gRead bs).e = 0) : gwErr (gRead bs).t (gRead bs).tm (gRead bs).b (gRead bs).l = 0 ∧ gwB (gRead bs).t (gRead bs).tm (gRead bs).b (gRead bs).l = bs ∧ ∀ r ∈ (gRead bs).l, r.wf := by
  by_cases h1 : 4096 < bs.length
  · rw [gRead_long h1] at h; cases h
  · cases ho : open_ bs with
    | none => rw [gRead_none h1 ho] at h; cases h
    | some x =>
      by_cases he : gEx x = 0
      · rw [gRead_ok h1 ho he]
        obtain ⟨k1, k2, k3⟩ := body_back he
        have hbs := (open_spec bs x).1 ho
        have hls := length_seal x
        rw [← hbs] at hls
        dsimp only
        have hw : gwErr (gTx x).1 (gTmx x).1 (gBx x).1 (gSx x).1 = 0 := by
          unfold gwErr
          rw [if_neg (by omega), k2, if_neg (by omega)]
        exact ⟨hw, by rw [gwB_seal hw, k2, hbs], k3⟩
      · rw [gRead_err h1 ho he] at h
        dsimp only at h
        exact absurd h he
theorem gread_wf (bs : List Byte) : ∀ r ∈ (gRead bs).l, r.wf := by
  by_cases h : (gRead bs).e = 0
  · exact (gread_back h).2.2
  · unfold gRead at h ⊢
    split
    · simp
    · split
      · simp
      · split
        · simp
        · rename_i h1 _ _ h2 h3
          rw [if_neg h1, h2] at h
          dsimp only at h
          rw [if_neg h3] at h
          exact absurd rfl h
theorem gRead_zero {bs : List Byte} (h : (gRead bs).e ≠ 0) : (gRead bs).t = 0 ∧ (gRead bs).tm = 0 ∧ (gRead bs).b = 0 ∧ (gRead bs).l.length = 0 := by
  by_cases h1 : 4096 < bs.length
  · rw [gRead_long h1]; exact ⟨rfl, rfl, rfl, rfl⟩
  · cases ho : open_ bs with
    | none => rw [gRead_none h1 ho]; exact ⟨rfl, rfl, rfl, rfl⟩
    | some x =>
      by_cases he : gEx x = 0
      · rw [gRead_ok h1 ho he] at h; exact absurd rfl h
      · rw [gRead_err h1 ho he]; exact ⟨rfl, rfl, rfl, rfl⟩
end Go.Sx
