/- Records: what was read is written again. Plain mathematics. -/
import Derived.Test.YtkobgcoegajfcaaSxPrecM
set_option linter.unusedVariables false
set_option linter.unusedSimpArgs false
namespace Go.Sx
theorem back_n {bs : List Byte} {R : Rs} (hp : R.p ≤ bs.length) (i j : Nat) (hj : j = i + 1) (h : (nS bs R j).e = 0) :
    (nS bs R i).e = 0 ∧ bs.drop (nS bs R i).p = numB (nX bs R i) ++ bs.drop (nS bs R j).p ∧ (nS bs R j).p = (nS bs R i).p + (numB (nX bs R i)).length := by
  subst hj
  have := back_int (nS bs R i) (nS_le hp i).1 h
  exact ⟨this.1, this.2.1, this.2.2.1⟩
theorem nX_rng {bs : List Byte} {R : Rs} (i : Nat) : -9223372036854775808 ≤ nX bs R i ∧ nX bs R i ≤ 9223372036854775807 := by
  unfold nX rInt
  exact zag_range _
theorem recAll_rd {bs : List Byte} {k id : Int} {R : Rs} (hp : R.p ≤ bs.length) : recAll (rdAll bs k id R).1 = numB (nX bs R 0) ++ (numB (nX bs R 1) ++ (numB (nX bs R 2) ++ (numB (nX bs R 3) ++ (numB (nX bs R 4) ++ (numB (nX bs R 5) ++ vput (rUint bs 65535#64 (nS bs R 6)).1.toNat))))) := by
  have hle := (rUint_le (X := 65535#64) (nS_le hp 6).1).2.2.2.1
  have h2 : (65535#64).toNat = 65535 := rfl
  unfold rdAll recAll
  dsimp only
  rw [sw16 (by omega)]
  simp only [List.append_assoc]
theorem back_all {bs : List Byte} {k id : Int} {R : Rs} (hp : R.p ≤ bs.length) (h : (rdAll bs k id R).2.e = 0) :
    R.e = 0 ∧ bs.drop R.p = recAll (rdAll bs k id R).1 ++ bs.drop (rdAll bs k id R).2.p ∧ (rdAll bs k id R).2.p = R.p + (recAll (rdAll bs k id R).1).length ∧ (rdAll bs k id R).2.p ≤ bs.length := by
  have hS : (rdAll bs k id R).2 = (rUint bs 65535#64 (nS bs R 6)).2 := by unfold rdAll; rfl
  rw [hS] at h ⊢
  obtain ⟨e6, d6, p6, q6⟩ := back_uint (nS bs R 6) (nS_le hp 6).1 h
  obtain ⟨e5, d5, p5⟩ := back_n hp 5 6 rfl e6
  obtain ⟨e4, d4, p4⟩ := back_n hp 4 5 rfl e5
  obtain ⟨e3, d3, p3⟩ := back_n hp 3 4 rfl e4
  obtain ⟨e2, d2, p2⟩ := back_n hp 2 3 rfl e3
  obtain ⟨e1, d1, p1⟩ := back_n hp 1 2 rfl e2
  obtain ⟨e0, d0, p0⟩ := back_n hp 0 1 rfl e1
  have hz : nS bs R 0 = R := by unfold nS; rfl
  rw [hz] at e0 d0 p0
  rw [recAll_rd hp]
  dsimp only at d6 p6
  refine ⟨e0, ?_, ?_, q6⟩
  · rw [d0, d1, d2, d3, d4, d5, d6]
    simp only [List.append_assoc]
  · simp only [List.length_append]
    omega
theorem rdAll_wf {bs : List Byte} {k id : Int} {R : Rs} (hk : -9223372036854775808 ≤ k ∧ k ≤ 9223372036854775807) (hi : -9223372036854775808 ≤ id ∧ id ≤ 9223372036854775807) : (rdAll bs k id R).1.wf := by
  unfold rdAll
  dsimp only
  exact ⟨hk, hi, nX_rng (bs := bs) (R := R) 0, nX_rng (bs := bs) (R := R) 1, nX_rng (bs := bs) (R := R) 2, nX_rng (bs := bs) (R := R) 3, nX_rng (bs := bs) (R := R) 4, nX_rng (bs := bs) (R := R) 5⟩
theorem upX_rng {bs : List Byte} {m : BitVec 8} {R : Rs} (i : Nat) : -9223372036854775808 ≤ upX bs m R i ∧ upX bs m R i ≤ 9223372036854775807 := by
  unfold upX upI
  split
  · unfold rInt
    exact zag_range _
  · show -9223372036854775808 ≤ (0 : Int) ∧ (0 : Int) ≤ 9223372036854775807
    decide
theorem rdSome_wf {bs : List Byte} {k id : Int} {R : Rs} (hk : -9223372036854775808 ≤ k ∧ k ≤ 9223372036854775807) (hi : -9223372036854775808 ≤ id ∧ id ≤ 9223372036854775807) : (rdSome bs k id R).1.wf := by
  have hz : -9223372036854775808 ≤ (0 : Int) ∧ (0 : Int) ≤ 9223372036854775807 := by decide
  unfold rdSome
  dsimp only
  split
  · exact ⟨hk, hi, hz, hz, hz, hz, hz, hz⟩
  · exact ⟨hk, hi, upX_rng 0, upX_rng 1, upX_rng 2, upX_rng 3, upX_rng 4, upX_rng 5⟩
theorem rdBody_wf {bs : List Byte} {k id : Int} {R : Rs} (hk : -9223372036854775808 ≤ k ∧ k ≤ 9223372036854775807) (hi : -9223372036854775808 ≤ id ∧ id ≤ 9223372036854775807) : (rdBody bs k id R).1.wf ∧ (rdBody bs k id R).1.k = k ∧ (rdBody bs k id R).1.id = id := by
  have hz : -9223372036854775808 ≤ (0 : Int) ∧ (0 : Int) ≤ 9223372036854775807 := by decide
  unfold rdBody
  split
  · exact ⟨rdAll_wf hk hi, rfl, rfl⟩
  · split
    · refine ⟨rdSome_wf hk hi, ?_, ?_⟩ <;> (unfold rdSome; dsimp only; split <;> rfl)
    · split <;> exact ⟨⟨hk, hi, hz, hz, hz, hz, hz, hz⟩, rfl, rfl⟩
theorem recZ_wf : recZ.wf := ⟨by decide, by decide, by decide, by decide, by decide, by decide, by decide, by decide⟩
theorem rdRec_wf {bs : List Byte} {last : Int} {R : Rs} (hp : R.p ≤ bs.length) : (rdRec bs last R).1.wf := by
  unfold rdRec
  split
  · exact recZ_wf
  · split
    · exact recZ_wf
    · split
      · exact recZ_wf
      · rename_i h1 h2 h3
        have h4 := rId_le (bs := bs) (last := last) hp (by omega) (by omega)
        have h5 := (rByte bs (rdId bs last R).2).1.isLt
        exact (rdBody_wf (by omega) (by change _ ≤ last + 1 + (((rUint bs (BitVec.ofInt 64 (65534 - last)) R).1.toNat : Nat) : Int) ∧ last + 1 + (((rUint bs (BitVec.ofInt 64 (65534 - last)) R).1.toNat : Nat) : Int) ≤ _; omega)).1
theorem back_up {bs : List Byte} {m : BitVec 8} {R : Rs} (hp : R.p ≤ bs.length) (i j : Nat) (hj : j = i + 1) (h : (upS bs m R j).e = 0) :
    (upS bs m R i).e = 0 ∧ bs.drop (upS bs m R i).p = encI m i (upX bs m R i) ++ bs.drop (upS bs m R j).p ∧ (upS bs m R j).p = (upS bs m R i).p + (encI m i (upX bs m R i)).length := by
  subst hj
  have := back_upI (m := m) (i := i) (upS bs m R i) (upS_le (m := m) hp i).1 h
  exact ⟨this.1, this.2.1, this.2.2.1⟩
theorem back_some {bs : List Byte} {k id : Int} {R : Rs} (hp : R.p ≤ bs.length) (h : (rdSome bs k id R).2.e = 0) :
    R.e = 0 ∧ bs.drop R.p = recSome (rdSome bs k id R).1 ++ bs.drop (rdSome bs k id R).2.p ∧ (rdSome bs k id R).2.p = R.p + (recSome (rdSome bs k id R).1).length ∧ (rdSome bs k id R).2.p ≤ bs.length ∧ recEmpty (rdSome bs k id R).1 = false := by
  have hq := (rByte_le hp).1
  by_cases hb : (rByte bs R).1.toNat = 0 ∨ 127 < (rByte bs R).1.toNat
  · rw [rdSome_bad hb] at h
    exact absurd h fun h => rFail_e h (by decide)
  · have hs := rdSome_ok (bs := bs) (k := k) (id := id) (R := R) hb (pair_eq rfl)
    generalize hm : (rByte bs R).1 = m at *
    generalize hR : (rByte bs R).2 = R1 at *
    rw [hs] at h
    have hl := fun i => (upS_le (m := m) hq i).1
    have h6 := back_upA (upS bs m R1 6) (hl 6) h
    have v6 := upA_val (hl 6) h
    have h5 := back_up hq 5 6 rfl h6.1
    have v5 : upBit m 5 = true ↔ upX bs m R1 5 ≠ 0 := (upI_val (m := m) (i := 5) (R := upS bs m R1 5) h6.1).1
    have h4 := back_up hq 4 5 rfl h5.1
    have v4 : upBit m 4 = true ↔ upX bs m R1 4 ≠ 0 := (upI_val (m := m) (i := 4) (R := upS bs m R1 4) h5.1).1
    have h3 := back_up hq 3 4 rfl h4.1
    have v3 : upBit m 3 = true ↔ upX bs m R1 3 ≠ 0 := (upI_val (m := m) (i := 3) (R := upS bs m R1 3) h4.1).1
    have h2 := back_up hq 2 3 rfl h3.1
    have v2 : upBit m 2 = true ↔ upX bs m R1 2 ≠ 0 := (upI_val (m := m) (i := 2) (R := upS bs m R1 2) h3.1).1
    have h1 := back_up hq 1 2 rfl h2.1
    have v1 : upBit m 1 = true ↔ upX bs m R1 1 ≠ 0 := (upI_val (m := m) (i := 1) (R := upS bs m R1 1) h2.1).1
    have h0 := back_up hq 0 1 rfl h1.1
    have v0 : upBit m 0 = true ↔ upX bs m R1 0 ≠ 0 := (upI_val (m := m) (i := 0) (R := upS bs m R1 0) h1.1).1
    have hB := back_byte R hp (by rw [hR]; exact h0.1)
    rw [hm, hR] at hB
    obtain ⟨_, d6, p6, q6⟩ := h6
    obtain ⟨_, d5, p5⟩ := h5
    obtain ⟨_, d4, p4⟩ := h4
    obtain ⟨_, d3, p3⟩ := h3
    obtain ⟨_, d2, p2⟩ := h2
    obtain ⟨_, d1, p1⟩ := h1
    obtain ⟨_, d0, p0⟩ := h0
    obtain ⟨eB, dB, pB, _⟩ := hB
    dsimp only at dB pB d6 p6
    -- the mask is that of the record
    have hmask : upMask7 (rdSome bs k id R).1 = m := by
      rw [mask_of, hs]
      dsimp only
      have b : ∀ {p : Prop} [Decidable p] {x : Bool}, (x = true ↔ p) → decide p = x := fun {p} _ {x} h => by
        cases x with
        | true => exact decide_eq_true (h.1 rfl)
        | false => exact decide_eq_false fun hp => by cases h.2 hp
      rw [b v0, b v1, b v2, b v3, b v4, b v5, b v6]
      exact maskOf_back m (by omega)
    have hc : ∀ (x : Int) (i : Nat), (upBit m i = true ↔ x ≠ 0) → encI m i x = if x = 0 then [] else numB x := fun x i hv => by
      unfold encI
      by_cases h0 : x = 0
      · rw [if_pos h0, if_neg (fun hh => hv.1 hh h0)]
      · rw [if_neg h0, if_pos (hv.2 h0)]
    have hcA : (if upBit m 6 = true then vput (upA bs m (upS bs m R1 6)).1.toNat else []) = if (upA bs m (upS bs m R1 6)).1 = 0#16 then [] else vput (upA bs m (upS bs m R1 6)).1.toNat := by
      by_cases h0 : (upA bs m (upS bs m R1 6)).1 = 0#16
      · rw [if_pos h0, if_neg (fun hh => v6.1 hh h0)]
      · rw [if_neg h0, if_pos (v6.2 h0)]
    have e : recSome (rdSome bs k id R).1 = [m] ++ (encI m 0 (upX bs m R1 0) ++ (encI m 1 (upX bs m R1 1) ++ (encI m 2 (upX bs m R1 2) ++ (encI m 3 (upX bs m R1 3) ++ (encI m 4 (upX bs m R1 4) ++ (encI m 5 (upX bs m R1 5) ++ (if upBit m 6 = true then vput (upA bs m (upS bs m R1 6)).1.toNat else []))))))) := by
      rw [recSome_eq, hmask, hs, hcA, hc _ 0 v0, hc _ 1 v1, hc _ 2 v2, hc _ 3 v3, hc _ 4 v4, hc _ 5 v5]
      rfl
    have hS : (rdSome bs k id R).2 = (upA bs m (upS bs m R1 6)).2 := by rw [hs]
    have hz : upS bs m R1 0 = R1 := by unfold upS; rfl
    rw [hz] at d0 p0
    refine ⟨eB, ?_, ?_, by rw [hS]; exact q6, ?_⟩
    · rw [e, hS, dB, d0, d1, d2, d3, d4, d5, d6]
      simp only [List.append_assoc]
    · rw [e, hS, p6]
      simp only [List.length_append, List.length_singleton] at pB ⊢
      omega
    · cases he : recEmpty (rdSome bs k id R).1 with
      | false => rfl
      | true =>
        exfalso
        have hz := empty_zero he
        have : upMask7 (rdSome bs k id R).1 = 0#8 := by rw [hz]; rfl
        rw [hmask] at this
        rw [this] at hb
        exact hb (.inl rfl)
/-- A record that was read is written as the bytes that were taken. -/
theorem rd_back {bs : List Byte} {r : RecR} {last : Int} {R R' : Rs} (hp : R.p ≤ bs.length) (h : rdRec bs last R = (r, 0, R')) :
    recErr r last = 0 ∧ r.wf ∧ bs.drop R.p = recB r last ++ bs.drop R'.p ∧ R'.p = R.p + (recB r last).length ∧ R.e = 0 ∧ R'.e = 0 ∧ R'.p ≤ bs.length := by
  have hwf := rdRec_wf (last := last) hp
  have hle := rdRec_le (last := last) hp
  rw [h] at hwf hle
  unfold rdRec at h
  split at h
  · cases h
  · split at h
    · have h2 := congrArg (fun x => x.2.1) h
      exact absurd h2 fun h2 => rFail_e h2 (by decide)
    · split at h
      · rename_i h3
        have h2 := congrArg (fun x => x.2.1) h
        exact absurd h2 h3
      · rename_i h1 h2 h3
        simp only [ne_eq, Decidable.not_not] at h3
        have hr : (rdRaw bs last R).1 = r := congrArg (fun x => x.1) h
        have hS : (rdRaw bs last R).2 = R' := congrArg (fun x => x.2.2) h
        have hI := rId_le (bs := bs) (last := last) hp (by omega) (by omega)
        have hl1 : (rdId bs last R).2.p ≤ bs.length := (rUint_le (X := BitVec.ofInt 64 (65534 - last)) hp).1
        have hl2 := (rByte_le hl1).1
        have hkl := (rByte bs (rdId bs last R).2).1.isLt
        generalize hK : (((rByte bs (rdId bs last R).2).1.toNat : Nat) : Int) = K at *
        generalize hID : last + 1 + (((rdId bs last R).1.toNat : Nat) : Int) = ID at *
        have hraw : rdRaw bs last R = rdBody bs K ID (rByte bs (rdId bs last R).2).2 := by rw [← hK, ← hID]; rfl
        change last + 1 + (((rUint bs (BitVec.ofInt 64 (65534 - last)) R).1.toNat : Nat) : Int) = ID at hID
        obtain ⟨w1, w2, w3⟩ := rdBody_wf (bs := bs) (k := K) (id := ID) (R := (rByte bs (rdId bs last R).2).2) (by omega) (by omega)
        rw [← hraw, hr] at w1 w2 w3
        -- the body
        have hbody : K ≤ 3 ∧ (rByte bs (rdId bs last R).2).2.e = 0 ∧ bs.drop (rByte bs (rdId bs last R).2).2.p = recBody r ++ bs.drop R'.p ∧ R'.p = (rByte bs (rdId bs last R).2).2.p + (recBody r).length ∧ (K = 1 → recEmpty r = false) ∧ (K = 2 → recEmpty r = true) := by
          rw [← hr, ← hS]
          rw [← hr] at w2
          rw [hraw] at h3 w2 ⊢
          unfold recBody
          rw [w2]
          by_cases k0 : K = 0 ∨ K = 3
          · rw [rdBody_all k0] at h3 ⊢
            rw [if_neg (by omega), if_neg (by omega)]
            obtain ⟨a1, a2, a3, a4⟩ := back_all hl2 h3
            exact ⟨by omega, a1, a2, a3, by omega, by omega⟩
          · by_cases k1 : K = 1
            · rw [rdBody_some k1] at h3 ⊢
              rw [if_pos k1]
              obtain ⟨a1, a2, a3, a4, a5⟩ := back_some hl2 h3
              exact ⟨by omega, a1, a2, a3, fun _ => a5, by omega⟩
            · by_cases k2 : K = 2
              · rw [rdBody_none k2] at h3 ⊢
                rw [if_neg k1, if_pos k2]
                exact ⟨by omega, h3, by simp, by simp, by omega, fun _ => rfl⟩
              · rw [rdBody_bad (by omega)] at h3
                exact absurd h3 fun h => rFail_e h (by decide)
        obtain ⟨b0, b1, b2, b3, b4, b5⟩ := hbody
        obtain ⟨c1, c2, c3, _⟩ := back_byte _ hl1 b1
        obtain ⟨d1, d2, d3, _⟩ := back_uint (L := BitVec.ofInt 64 (65534 - last)) R hp c1
        have hchk : recChk r = 0 := by
          unfold recChk
          rw [w2, w3, if_neg (by omega), if_neg (by omega), if_neg (by rintro (⟨e1, e2⟩ | ⟨e1, e2⟩) <;> simp_all)]
        have herr : recErr r last = 0 := recErr_ok hchk (by omega) (by rw [w3]; omega)
        have hB : recB r last = vput (rUint bs (BitVec.ofInt 64 (65534 - last)) R).1.toNat ++ ([(rByte bs (rdId bs last R).2).1] ++ recBody r) := by
          rw [recB, if_neg (by omega), recHead, List.append_assoc, w3, w2]
          congr 2
          · apply Int.ofNat.inj
            show (((BitVec.ofInt 64 (ID - last - 1)).toNat : Nat) : Int) = _
            rw [ofInt64 (by omega) (by omega)]
            show _ = (((rUint bs (BitVec.ofInt 64 (65534 - last)) R).1.toNat : Nat) : Int)
            omega
          · congr 1
            congr 1
            apply BitVec.eq_of_toNat_eq
            rw [BitVec.toNat_ofInt]
            omega
        refine ⟨herr, w1, ?_, ?_, d1, by rw [← hS]; exact h3, hle.1⟩
        · rw [hB, d2]
          change _ ++ bs.drop (rdId bs last R).2.p = _
          rw [c2, b2]
          simp only [List.append_assoc]
        · rw [hB]
          have d3' : (rdId bs last R).2.p = R.p + (vput (rUint bs (BitVec.ofInt 64 (65534 - last)) R).1.toNat).length := d3
          simp only [List.length_append, List.length_singleton] at c3 ⊢
          omega
end Go.Sx
