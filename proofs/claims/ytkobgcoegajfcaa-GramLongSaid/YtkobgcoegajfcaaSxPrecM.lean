/- Records: the whole, there and back. Plain mathematics. -/
import Derived.Test.YtkobgcoegajfcaaSxPrecL
set_option linter.unusedVariables false
set_option linter.unusedSimpArgs false
namespace Go.Sx
theorem upS_six {bs : List Byte} {m : BitVec 8} {R : Rs} (h : R.e = 6) : ∀ i, (upS bs m R i).e = 6
  | 0 => h
  | i + 1 => upI_six (upS_six h i)
/-- What comes behind the mask. -/
def upRun (bs : List Byte) (k id : Int) (m : BitVec 8) (R : Rs) : RecR × Rs :=
  if m.toNat = 0 ∨ 127 < m.toNat then (⟨k, id, 0, 0, 0, 0, 0, 0, 0#16⟩, rFail 7 R)
  else (⟨k, id, upX bs m R 0, upX bs m R 1, upX bs m R 2, upX bs m R 3, upX bs m R 4, upX bs m R 5, (upA bs m (upS bs m R 6)).1⟩, (upA bs m (upS bs m R 6)).2)
theorem rdSome_run (bs : List Byte) (k id : Int) : rdSome bs k id = fun R => upRun bs k id (rByte bs R).1 (rByte bs R).2 := by
  funext R
  unfold rdSome upRun
  rfl
theorem upRun_six {bs : List Byte} {k id : Int} {m : BitVec 8} {R : Rs} (h : R.e = 6) : (upRun bs k id m R).2.e = 6 := by
  unfold upRun
  split
  · exact rFail_six h
  · exact upA_six (upS_six h 6)
theorem upRest_chunks (r : RecR) : upRest r 6 = upC r 0 ++ (upC r 1 ++ (upC r 2 ++ (upC r 3 ++ (upC r 4 ++ upC r 5)))) := by
  have h : ∀ i, upRest r (i + 1) = upRest r i ++ upC r i := fun i => by
    show (if r.num i = 0 then _ else _) = _
    unfold upC
    split <;> simp
  rw [h 5, h 4, h 3, h 2, h 1, h 0]
  simp [upRest]
def upW (r : RecR) : List Byte := if r.a = 0#16 then [] else vput r.a.toNat
theorem recSome_eq (r : RecR) : recSome r = [upMask7 r] ++ (upC r 0 ++ (upC r 1 ++ (upC r 2 ++ (upC r 3 ++ (upC r 4 ++ (upC r 5 ++ upW r)))))) := by
  unfold recSome upRest7 upW
  rw [upRest_chunks]
  split <;> simp
theorem takes_some {bs : List Byte} {r : RecR} (hw : r.wf) (hne : recEmpty r = false) : Takes bs (recSome r) (rdSome bs r.k r.id) r := by
  obtain ⟨hb, h6, h7, h8⟩ := mask_bits r
  have hm0 : ¬ ((upMask7 r).toNat = 0 ∨ 127 < (upMask7 r).toNat) := by
    rintro (h | h)
    · rw [h8 h] at hne; cases hne
    · omega
  rw [recSome_eq, rdSome_run]
  refine takes_byte.bind (g := fun m R => upRun bs r.k r.id m R) (fun x R h => upRun_six h) ?_
  generalize hM : upMask7 r = m at *
  have e : (fun R => upRun bs r.k r.id m R) = fun R => (⟨r.k, r.id, (upI bs m 0 R).1, (upI bs m 1 (upI bs m 0 R).2).1, (upI bs m 2 (upI bs m 1 (upI bs m 0 R).2).2).1, (upI bs m 3 (upI bs m 2 (upI bs m 1 (upI bs m 0 R).2).2).2).1, (upI bs m 4 (upI bs m 3 (upI bs m 2 (upI bs m 1 (upI bs m 0 R).2).2).2).2).1, (upI bs m 5 (upI bs m 4 (upI bs m 3 (upI bs m 2 (upI bs m 1 (upI bs m 0 R).2).2).2).2).2).1, (upA bs m (upI bs m 5 (upI bs m 4 (upI bs m 3 (upI bs m 2 (upI bs m 1 (upI bs m 0 R).2).2).2).2).2).2).1⟩, (upA bs m (upI bs m 5 (upI bs m 4 (upI bs m 3 (upI bs m 2 (upI bs m 1 (upI bs m 0 R).2).2).2).2).2).2).2) := by
    funext R
    unfold upRun
    rw [if_neg hm0]
    rfl
  rw [e]
  have hn := fun i hi => takes_up (bs := bs) (hb i hi) (hw.num i)
  have q6 := (takes_upA (bs := bs) h6).bind (g := fun x R => ((⟨r.k, r.id, r.p0, r.p1, r.p2, r.v0, r.v1, r.v2, x⟩ : RecR), R)) (fun x R h => h) (Takes.pure _)
  have q5 := (hn 5 (by omega)).bind (g := fun x R => ((⟨r.k, r.id, r.p0, r.p1, r.p2, r.v0, r.v1, x, (upA bs m R).1⟩ : RecR), (upA bs m R).2)) (fun x R h => upA_six h) q6
  have q4 := (hn 4 (by omega)).bind (g := fun x R => ((⟨r.k, r.id, r.p0, r.p1, r.p2, r.v0, x, (upI bs m 5 R).1, (upA bs m (upI bs m 5 R).2).1⟩ : RecR), (upA bs m (upI bs m 5 R).2).2)) (fun x R h => upA_six (upI_six h)) q5
  have q3 := (hn 3 (by omega)).bind (g := fun x R => ((⟨r.k, r.id, r.p0, r.p1, r.p2, x, (upI bs m 4 R).1, (upI bs m 5 (upI bs m 4 R).2).1, (upA bs m (upI bs m 5 (upI bs m 4 R).2).2).1⟩ : RecR), (upA bs m (upI bs m 5 (upI bs m 4 R).2).2).2)) (fun x R h => upA_six (upI_six (upI_six h))) q4
  have q2 := (hn 2 (by omega)).bind (g := fun x R => ((⟨r.k, r.id, r.p0, r.p1, x, (upI bs m 3 R).1, (upI bs m 4 (upI bs m 3 R).2).1, (upI bs m 5 (upI bs m 4 (upI bs m 3 R).2).2).1, (upA bs m (upI bs m 5 (upI bs m 4 (upI bs m 3 R).2).2).2).1⟩ : RecR), (upA bs m (upI bs m 5 (upI bs m 4 (upI bs m 3 R).2).2).2).2)) (fun x R h => upA_six (upI_six (upI_six (upI_six h)))) q3
  have q1 := (hn 1 (by omega)).bind (g := fun x R => ((⟨r.k, r.id, r.p0, x, (upI bs m 2 R).1, (upI bs m 3 (upI bs m 2 R).2).1, (upI bs m 4 (upI bs m 3 (upI bs m 2 R).2).2).1, (upI bs m 5 (upI bs m 4 (upI bs m 3 (upI bs m 2 R).2).2).2).1, (upA bs m (upI bs m 5 (upI bs m 4 (upI bs m 3 (upI bs m 2 R).2).2).2).2).1⟩ : RecR), (upA bs m (upI bs m 5 (upI bs m 4 (upI bs m 3 (upI bs m 2 R).2).2).2).2).2)) (fun x R h => upA_six (upI_six (upI_six (upI_six (upI_six h))))) q2
  have q0 := (hn 0 (by omega)).bind (g := fun x R => ((⟨r.k, r.id, x, (upI bs m 1 R).1, (upI bs m 2 (upI bs m 1 R).2).1, (upI bs m 3 (upI bs m 2 (upI bs m 1 R).2).2).1, (upI bs m 4 (upI bs m 3 (upI bs m 2 (upI bs m 1 R).2).2).2).1, (upI bs m 5 (upI bs m 4 (upI bs m 3 (upI bs m 2 (upI bs m 1 R).2).2).2).2).1, (upA bs m (upI bs m 5 (upI bs m 4 (upI bs m 3 (upI bs m 2 (upI bs m 1 R).2).2).2).2).2).1⟩ : RecR), (upA bs m (upI bs m 5 (upI bs m 4 (upI bs m 3 (upI bs m 2 (upI bs m 1 R).2).2).2).2).2).2)) (fun x R h => upA_six (upI_six (upI_six (upI_six (upI_six (upI_six h)))))) q1
  simpa [upW, RecR.num] using q0
theorem empty_zero {r : RecR} (h : recEmpty r = true) : r = ⟨r.k, r.id, 0, 0, 0, 0, 0, 0, 0#16⟩ := by
  simp only [recEmpty, Bool.and_eq_true, beq_iff_eq] at h
  obtain ⟨⟨⟨⟨⟨⟨e0, e1⟩, e2⟩, e3⟩, e4⟩, e5⟩, e6⟩ := h
  have e6' := a_zero e6
  cases r
  simp_all
theorem recChk_parts {r : RecR} (h : recChk r = 0) : 0 ≤ r.k ∧ r.k ≤ 3 ∧ 0 ≤ r.id ∧ r.id ≤ 65535 ∧ (r.k = 1 → recEmpty r = false) ∧ (r.k = 2 → recEmpty r = true) := by
  unfold recChk at h
  split at h
  · cases h
  · split at h
    · cases h
    · split at h
      · cases h
      · rename_i h1 h2 h3
        refine ⟨by omega, by omega, by omega, by omega, fun hk => ?_, fun hk => ?_⟩
        · cases he : recEmpty r with
          | false => rfl
          | true => exact absurd (.inl ⟨hk, he⟩) h3
        · cases he : recEmpty r with
          | true => rfl
          | false => exact absurd (.inr ⟨hk, he⟩) h3
theorem rdAll_six {bs : List Byte} {k id : Int} {R : Rs} (h : R.e = 6) : (rdAll bs k id R).2.e = 6 := by
  simp only [rdAll, nS]
  exact rUint_six (rInt_six (rInt_six (rInt_six (rInt_six (rInt_six (rInt_six h))))))
theorem rdBody_six {bs : List Byte} {k id : Int} {R : Rs} (h : R.e = 6) : (rdBody bs k id R).2.e = 6 := by
  unfold rdBody
  split
  · exact rdAll_six h
  · split
    · rw [rdSome_run]; exact upRun_six (rByte_six h)
    · split
      · exact h
      · exact rFail_six h
theorem takes_body {bs : List Byte} {r : RecR} (hw : r.wf) (hc : recChk r = 0) : Takes bs (recBody r) (rdBody bs r.k r.id) r := by
  obtain ⟨h1, h2, h3, h4, h5, h6⟩ := recChk_parts hc
  by_cases hk1 : r.k = 1
  · have : rdBody bs r.k r.id = rdSome bs r.k r.id := by funext R; exact rdBody_some hk1
    rw [this, recBody, if_pos hk1]
    exact takes_some hw (h5 hk1)
  · by_cases hk2 : r.k = 2
    · have : rdBody bs r.k r.id = fun R => (r, R) := by
        funext R
        rw [rdBody_none hk2]
        exact congrArg (·, R) (empty_zero (h6 hk2)).symm
      rw [this, recBody, if_neg hk1, if_pos hk2]
      exact Takes.pure r
    · have : rdBody bs r.k r.id = rdAll bs r.k r.id := by funext R; exact rdBody_all (by omega)
      rw [this, recBody, if_neg hk1, if_neg hk2]
      exact takes_all hw
theorem recErr_parts {r : RecR} {last : Int} (h : recErr r last = 0) : recChk r = 0 ∧ -1 ≤ last ∧ last ≤ 65535 ∧ last < r.id := by
  unfold recErr at h
  split at h
  · omega
  · split at h
    · cases h
    · split at h
      · cases h
      · omega
theorem takes_raw {bs : List Byte} {r : RecR} {last : Int} (hw : r.wf) (he : recErr r last = 0) : Takes bs (recB r last) (rdRaw bs last) r := by
  obtain ⟨hc, h1, h2, h3⟩ := recErr_parts he
  obtain ⟨c1, c2, c3, c4, _, _⟩ := recChk_parts hc
  have hX : (((BitVec.ofInt 64 (r.id - last - 1)).toNat : Nat) : Int) = r.id - last - 1 := ofInt64 (by omega) (by omega)
  have hL : (((BitVec.ofInt 64 (65534 - last)).toNat : Nat) : Int) = 65534 - last := ofInt64 (by omega) (by omega)
  have hk : (((BitVec.ofInt 8 r.k).toNat : Nat) : Int) = r.k := by rw [BitVec.toNat_ofInt]; omega
  rw [recB, if_neg (by omega), recHead, List.append_assoc]
  have q2 := takes_body (bs := bs) hw hc
  have e2 : rdBody bs r.k r.id = (fun (x : Byte) R => rdBody bs (((x.toNat : Nat) : Int)) (last + 1 + (((BitVec.ofInt 64 (r.id - last - 1)).toNat : Nat) : Int)) R) (BitVec.ofInt 8 r.k) := by
    funext R
    dsimp only
    rw [hk, hX, show last + 1 + (r.id - last - 1) = r.id by omega]
  rw [e2] at q2
  have q1 := (takes_byte (bs := bs) (c := BitVec.ofInt 8 r.k)).bind (g := fun (x : Byte) R => rdBody bs ((x.toNat : Nat) : Int) (last + 1 + (((BitVec.ofInt 64 (r.id - last - 1)).toNat : Nat) : Int)) R) (fun x R h => rdBody_six h) q2
  have q0 := (takes_uint (bs := bs) (X := BitVec.ofInt 64 (r.id - last - 1)) (L := BitVec.ofInt 64 (65534 - last)) (by omega)).bind
    (g := fun X R => rdBody bs (((rByte bs R).1.toNat : Nat) : Int) (last + 1 + ((X.toNat : Nat) : Int)) (rByte bs R).2) (fun x R h => rdBody_six (rByte_six h)) q1
  exact q0
/-- What is written is read; of fewer bytes it is too short. -/
theorem rd_take {bs rest : List Byte} {r : RecR} {last : Int} {p n : Nat} (hw : r.wf) (he : recErr r last = 0) (hp : p ≤ bs.length) (hd : bs.drop p = (recB r last ++ rest).take n) :
    ((recB r last).length ≤ n → rdRec bs last ⟨p, 0⟩ = (r, 0, ⟨p + (recB r last).length, 0⟩)) ∧ (n < (recB r last).length → (rdRec bs last ⟨p, 0⟩).1 = recZ ∧ (rdRec bs last ⟨p, 0⟩).2.1 = 6) := by
  have ht := takes_raw (bs := bs) hw he
  obtain ⟨hc, h1, h2, h3⟩ := recErr_parts he
  obtain ⟨c1, c2, c3, c4, _, _⟩ := recChk_parts hc
  refine ⟨fun hn => ?_, fun hn => ?_⟩
  · exact rdRec_ok (by omega) (by omega) (ht.good ⟨p, 0⟩ n rest rfl hp hd hn) rfl
  · have h6 := ht.short ⟨p, 0⟩ n rest rfl hp hd hn
    rw [rdRec_bad (rr := (rdRaw bs last ⟨p, 0⟩).1) (RR := (rdRaw bs last ⟨p, 0⟩).2) (by omega) (by omega) rfl (by omega)]
    exact ⟨rfl, h6⟩
theorem rd_full {bs rest : List Byte} {r : RecR} {last : Int} {p : Nat} (hw : r.wf) (he : recErr r last = 0) (hp : p ≤ bs.length) (hd : bs.drop p = recB r last ++ rest) : rdRec bs last ⟨p, 0⟩ = (r, 0, ⟨p + (recB r last).length, 0⟩) :=
  (rd_take (n := (recB r last ++ rest).length) hw he hp (by rw [List.take_length]; exact hd)).1 (by simp)
/-! ### The other way about -/
/-- Where f comes through, what it took are the bytes of its value. -/
def Back {α : Type} (bs : List Byte) (f : Rs → α × Rs) (enc : α → List Byte) : Prop :=
  ∀ R, R.p ≤ bs.length → (f R).2.e = 0 → R.e = 0 ∧ bs.drop R.p = enc (f R).1 ++ bs.drop (f R).2.p ∧ (f R).2.p = R.p + (enc (f R).1).length ∧ (f R).2.p ≤ bs.length
theorem back_uint {bs : List Byte} {L : BitVec 64} : Back bs (rUint bs L) (fun X => vput X.toNat) := by
  intro R hp h
  by_cases h0 : R.e = 0
  · by_cases h1 : bs.length ≤ R.p
    · rw [rUint_short h0 h1] at h; cases h
    · by_cases h2 : uerr (bs.drop R.p) L = 0
      · rw [rUint_good h0 h1 h2]
        dsimp only
        obtain ⟨k1, k2, k3⟩ := vget_back_part (uerr_ok h2).1
        simp only [List.length_drop] at k2
        refine ⟨h0, ?_, ?_, by omega⟩
        · rw [k3, ← List.drop_drop, List.take_append_drop]
        · rw [k3, List.length_take, List.length_drop]; omega
      · rw [rUint_bad h0 h1 h2] at h; exact absurd h h2
  · rw [rUint_err h0] at h; exact absurd h h0
theorem back_int {bs : List Byte} : Back bs (rInt bs) numB := by
  intro R hp h
  have := back_uint R hp (show (rUint bs 18446744073709551615#64 R).2.e = 0 from h)
  unfold rInt numB
  dsimp only
  rw [zig_zag]
  exact this
theorem back_byte {bs : List Byte} : Back bs (rByte bs) (fun c => [c]) := by
  intro R hp h
  by_cases h0 : R.e = 0
  · by_cases h1 : bs.length ≤ R.p
    · rw [rByte_short h0 h1] at h; cases h
    · rw [rByte_good h0 h1]
      dsimp only
      refine ⟨h0, ?_, rfl, by omega⟩
      rw [List.getD_eq_getElem?_getD, List.getElem?_eq_getElem (by omega), Option.getD_some, List.singleton_append]
      exact List.drop_eq_getElem_cons (by omega)
  · rw [rByte_err h0] at h; exact absurd h h0
theorem rFail_e {e : Nat} {R : Rs} (h : (rFail e R).e = 0) (he : e ≠ 0) : False := by
  unfold rFail at h
  split at h
  · exact he h
  · rename_i h0; exact h0 h
def encI (m : BitVec 8) (i : Nat) (x : Int) : List Byte := if upBit m i = true then numB x else []
theorem back_upI {bs : List Byte} {m : BitVec 8} {i : Nat} : Back bs (upI bs m i) (encI m i) := by
  intro R hp h
  unfold upI encI at *
  by_cases hb : upBit m i = true
  · simp only [if_pos hb] at h ⊢
    by_cases h0 : (rInt bs R).1 = 0
    · rw [if_pos h0] at h; exact absurd h fun h => rFail_e h (by decide)
    · rw [if_neg h0] at h ⊢
      exact back_int R hp h
  · simp only [if_neg hb] at h ⊢
    exact ⟨h, by simp, by simp, hp⟩
theorem upI_val {bs : List Byte} {m : BitVec 8} {i : Nat} {R : Rs} (h : (upI bs m i R).2.e = 0) : (upBit m i = true ↔ (upI bs m i R).1 ≠ 0) ∧ -9223372036854775808 ≤ (upI bs m i R).1 ∧ (upI bs m i R).1 ≤ 9223372036854775807 := by
  have hz : -9223372036854775808 ≤ (rInt bs R).1 ∧ (rInt bs R).1 ≤ 9223372036854775807 := zag_range _
  unfold upI at *
  by_cases hb : upBit m i = true
  · simp only [if_pos hb] at h ⊢
    by_cases h0 : (rInt bs R).1 = 0
    · rw [if_pos h0] at h; exact absurd h fun h => rFail_e h (by decide)
    · exact ⟨⟨fun _ => h0, fun _ => hb⟩, hz⟩
  · simp only [if_neg hb]
    exact ⟨⟨fun h => absurd h hb, fun h => absurd rfl h⟩, by decide, by decide⟩
theorem back_upA {bs : List Byte} {m : BitVec 8} : Back bs (upA bs m) (fun x => if upBit m 6 = true then vput x.toNat else []) := by
  intro R hp h
  have hle := (rUint_le (X := 65535#64) hp).2.2.2.1
  unfold upA at *
  by_cases hb : upBit m 6 = true
  · simp only [if_pos hb] at h ⊢
    by_cases h0 : (rUint bs 65535#64 R).1 = 0#64
    · rw [if_pos h0] at h; exact absurd h fun h => rFail_e h (by decide)
    · rw [if_neg h0] at h ⊢
      have := back_uint R hp h
      dsimp only at this
      rwa [sw16 (by have h2 : (65535#64).toNat = 65535 := rfl; omega)]
  · simp only [if_neg hb] at h ⊢
    exact ⟨h, by simp, by simp, hp⟩
theorem upA_val {bs : List Byte} {m : BitVec 8} {R : Rs} (hp : R.p ≤ bs.length) (h : (upA bs m R).2.e = 0) : upBit m 6 = true ↔ (upA bs m R).1 ≠ 0#16 := by
  have hle := (rUint_le (X := 65535#64) hp).2.2.2.1
  unfold upA at *
  by_cases hb : upBit m 6 = true
  · simp only [if_pos hb] at h ⊢
    by_cases h0 : (rUint bs 65535#64 R).1 = 0#64
    · rw [if_pos h0] at h; exact absurd h fun h => rFail_e h (by decide)
    · refine ⟨fun _ e => h0 (BitVec.eq_of_toNat_eq ?_), fun _ => hb⟩
      have := sw16 (X := (rUint bs 65535#64 R).1) (by have h2 : (65535#64).toNat = 65535 := rfl; omega)
      rw [e] at this
      exact this.symm
  · simp only [if_neg hb]
    exact ⟨fun h => absurd h hb, fun h => absurd rfl h⟩
end Go.Sx
