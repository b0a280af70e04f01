/- Records: the whole, there and back. Plain mathematics. -/
import Derived.Test.YtbioemaipghagaaGreatQSxPrecL
set_option linter.unusedVariables false
set_option linter.unusedSimpArgs false
namespace Go.Sx
theorem upS_six {bs : List Byte} {m : BitVec 8} {R : Rs} (h : R.e = 6) : ∀ i, (upS bs m R i).e = 6
  | 0 => h
  | i + 1 => upI_six (upS_six h i)
/-- What comes behind the mask. -/
def upRun (bs : List Byte) (k id : Int) (m : BitVec 8) (R : Rs) : RecR × Rs :=
  if m.toNat = 0 ∨ 127 < m.toNat then (⟨k, id, 0, 0, 0, 0, 0, 0, 0#16⟩, rFail 7 R)
  else (⟨k, id, upX bs m R 0, upX bs m R 1, upX bs m R 2, upX bs m R 3, upX bs m R 4, upX bs m R 5, (upA bs m (upS bs m R 6)).1⟩, (upA bs m (upS bs m R 6)).2)
theorem rdSome_run (bs : List Byte) (k id : Int) : rdSome bs k id = fun R => upRun bs k id (rByte bs R).1 (rByte bs R).2 := by
  funext R
  unfold rdSome upRun
  rfl
theorem upRun_six {bs : List Byte} {k id : Int} {m : BitVec 8} {R : Rs} (h : R.e = 6) : (upRun bs k id m R).2.e = 6 := by
  unfold upRun
  split
  · exact rFail_six h
  · exact upA_six (upS_six h 6)
theorem upRest_chunks (r : RecR) : upRest r 6 = upC r 0 ++ (upC r 1 ++ (upC r 2 ++ (upC r 3 ++ (upC r 4 ++ upC r 5)))) := by
  have h : ∀ i, upRest r (i + 1) = upRest r i ++ upC r i := fun i => by
    show (if r.num i = 0 then _ else _) = _
    unfold upC
    split <;> simp
  rw [h 5, h 4, h 3, h 2, h 1, h 0]
  simp [upRest]
def upW (r : RecR) : List Byte := if r.a = 0#16 then [] else vput r.a.toNat
theorem recSome_eq (r : RecR) : recSome r = [upMask7 r] ++ (upC r 0 ++ (upC r 1 ++ (upC r 2 ++ (upC r 3 ++ (upC r 4 ++ (upC r 5 ++ upW r)))))) := by
  unfold recSome upRest7 upW
  rw [upRest_chunks]
  split <;> simp
theorem takes_some {bs : List Byte} {r : RecR} (hw : r.wf) (hne : recEmpty r = false) : Takes bs (recSome r) (rdSome bs r.k r.id) r := by
  obtain ⟨hb, h6, h7, h8⟩ := mask_bits r
  have hm0 : ¬ ((upMask7 r).toNat = 0 ∨ 127 < (upMask7 r).toNat) := by
    rintro (h | h)
    · rw [h8 h] at hne; cases hne
    · omega
  rw [recSome_eq, rdSome_run]
  refine takes_byte.bind (g := fun m R => upRun bs r.k r.id m R) (fun x R h => upRun_six h) ?_
  generalize hM : upMask7 r = m at *
  have e : (fun R => upRun bs r.k r.id m R) = fun R => (⟨r.k, r.id, (upI bs m 0 R).1, (upI bs m 1 (upI bs m 0 R).2).1, (upI bs m 2 (upI bs m 1 (upI bs m 0 R).2).2).1, (upI bs m 3 (upI bs m 2 (upI bs m 1 (upI bs m 0 R).2).2).2).1, (upI bs m 4 (upI bs m 3 (upI bs m 2 (upI bs m 1 (upI bs m 0 R).2).2).2).2).1, (upI bs m 5 (upI bs m 4 (upI bs m 3 (upI bs m 2 (upI bs m 1 (upI bs m 0 R).2).2).2).2).2).1, (upA bs m (upI bs m 5 (upI bs m 4 (upI bs m 3 (upI bs m 2 (upI bs m 1 (upI bs m 0 R).2).2).2).2).2).2).1⟩, (upA bs m (upI bs m 5 (upI bs m 4 (upI bs m 3 (upI bs m 2 (upI bs m 1 (upI bs m 0 R).2).2).2).2).2).2).2) := by
    funext R
    unfold upRun
    rw [if_neg hm0]
    rfl
  rw [e]
  have hn := fun i hi => takes_up (bs := bs) (hb i hi) (hw.num i)
  have q6 := (takes_upA (bs := bs) h6).bind (g := fun x R => ((⟨r.k, r.id, r.p0, r.p1, r.p2, r.v0, r.v1, r.v2, x⟩ : RecR), R)) (fun x R h => h) (Takes.pure _)
  have q5 := (hn 5 (by omega)).bind (g := fun x R => ((⟨r.k, r.id, r.p0, r.p1, r.p2, r.v0, r.v1, x, (upA bs m R).1⟩ : RecR), (upA bs m R).2)) (fun x R h => upA_six h) q6
  have q4 := (hn 4 (by omega)).bind (g := fun x R => ((⟨r.k, r.id, r.p0, r.p1, r.p2, r.v0, x, (upI bs m 5 R).1, (upA bs m (upI bs m 5 R).2).1⟩ : RecR), (upA bs m (upI bs m 5 R).2).2)) (fun x R h => upA_six (upI_six h)) q5
  have q3 := (hn 3 (by omega)).bind (g := fun x R => ((⟨r.k, r.id, r.p0, r.p1, r.p2, x, (upI bs m 4 R).1, (upI bs m 5 (upI bs m 4 R).2).1, (upA bs m (upI bs m 5 (upI bs m 4 R).2).2).1⟩ : RecR), (upA bs m (upI bs m 5 (upI bs m 4 R).2).2).2)) (fun x R h => upA_six (upI_six (upI_six h))) q4
  have q2 := (hn 2 (by omega)).bind (g := fun x R => ((⟨r.k, r.id, r.p0, r.p1, x, (upI bs m 3 R).1, (upI bs m 4 (upI bs m 3 R).2).1, (upI bs m 5 (upI bs m 4 (upI bs m 3 R).2).2).1, (upA bs m (upI bs m 5 (upI bs m 4 (upI bs m 3 R).2).2).2).1⟩ : RecR), (upA bs m (upI bs m 5 (upI bs m 4 (upI bs m 3 R).2).2).2).2)) (fun x R h => upA_six (upI_six (upI_six (upI_six h)))) q3
  have q1 := (hn 1 (by omega)).bind (g := fun x R => ((⟨r.k, r.id, r.p0, x, (upI bs m 2 R).1, (upI bs m 3 (upI bs m 2 R).2).1, (upI bs m 4 (upI bs m 3 (upI bs m 2 R).2).2).1, (upI bs m 5 (upI bs m 4 (upI bs m 3 (upI bs m 2 R).2).2).2).1, (upA bs m (upI bs m 5 (upI bs m 4 (upI bs m 3 (upI bs m 2 R).2).2).2).2).1⟩ : RecR), (upA bs m (upI bs m 5 (upI bs m 4 (upI bs m 3 (upI bs m 2 R).2).2).2).2).2)) (fun x R h => upA_six (upI_six (upI_six (upI_six (upI_six h))))) q2
  have q0 := (hn 0 (by omega)).bind (g := fun x R => ((⟨r.k, r.id, x, (upI bs m 1 R).1, (upI bs m 2 (upI bs m 1 R).2).1, (upI bs m 3 (upI bs m 2 (upI bs m 1 R).2).2).1, (upI bs m 4 (upI bs m 3 (upI bs m 2 (upI bs m 1 R).2).2).2).1, (upI bs m 5 (upI bs m 4 (upI bs m 3 (upI bs m 2 (upI bs m 1 R).2).2).2).2).1, (upA bs m (upI bs m 5 (upI bs m 4 (upI bs m 3 (upI bs m 2 (upI bs m 1 R).2).2).2).2).2).1⟩ : RecR), (upA bs m (upI bs m 5 (upI bs m 4 (upI bs m 3 (upI bs m 2 (upI bs m 1 R).2).2).2).2).2).2)) (fun x R h => upA_six (upI_six (upI_six (upI_six (upI_six (upI_six h)))))) q1
  simpa [upW, RecR.num] using q0
theorem empty_zero {r : RecR} (h : recEmpty r = true) : r = ⟨r.k, r.id, 0, 0, 0, 0, 0, 0, 0#16⟩ := by
  simp only [recEmpty, Bool.and_eq_true, beq_iff_eq] at h
  obtain ⟨⟨⟨⟨⟨⟨e0, e1⟩, e2⟩, e3⟩, e4⟩, e5⟩, e6⟩ := h
  have e6' := a_zero e6
  cases r
  simp_all
theorem recChk_parts {r : RecR} (h : recChk r = 0) : 0 ≤ r.k ∧ r.k ≤ 3 ∧ 0 ≤ r.id ∧ r.id ≤ 65535 ∧ (r.k = 1 → recEmpty r = false) ∧ (r.k = 2 → recEmpty r = true) := by
  unfold recChk at h
  split at h
  · cases h
  · split at h
    · cases h
    · split at h
      · cases h
      · rename_i h1 h2 h3
        refine ⟨by omega, by omega, by omega, by omega, fun hk => ?_, fun hk => ?_⟩
        · cases he : recEmpty r with
          | false => rfl
          | true => exact absurd (.inl ⟨hk, he⟩) h3
        · cases he : recEmpty r with
          | true => rfl
          | false => exact absurd (.inr ⟨hk, he⟩) h3
theorem rdAll_six {bs : List Byte} {k id : Int} {R : Rs} (h : R.e = 6) : (rdAll bs k id R).2.e = 6 := by
  simp only [rdAll, nS]
  exact rUint_six (rInt_six (rInt_six (rInt_six (rInt_six (rInt_six (rInt_six h))))))
theorem rdBody_six {bs : List Byte} {k id : Int} {R : Rs} (h : R.e = 6) : (rdBody bs k id R).2.e = 6 := by
  unfold rdBody
  split
  · exact rdAll_six h
  · split
    · rw [rdSome_run]; exact upRun_six (rByte_six h)
    · split
      · exact h
      · exact rFail_six h
theorem takes_body {bs : List Byte} {r : RecR} (hw : r.wf) (hc : recChk r = 0) : Takes bs (recBody r) (rdBody bs r.k r.id) r := by
  obtain ⟨h1, h2, h3, h4, h5, h6⟩ := recChk_parts hc
  by_cases hk1 : r.k = 1
  · have : rdBody bs r.k r.id = rdSome bs r.k r.id := by funext R; exact rdBody_some hk1
    rw [this, recBody, if_pos hk1]
    exact takes_some hw (h5 hk1)
  · by_cases hk2 : r.k = 2
    · have : rdBody bs r.k r.id = fun R => (r, R) := by
        funext R
        rw [rdBody_none hk2]
        exact congrArg (·, R) (empty_zero (h6 hk2)).symm
      rw [this, recBody, if_neg hk1, if_pos hk2]
      exact Takes.pure r
    · have : rdBody bs r.k r.id = rdAll bs r.k r.id := by funext R; exact rdBody_all (by omega)
      rw [this, recBody, if_neg hk1, if_neg hk2]
      exact takes_all hw
theorem recErr_parts {r : RecR} {last : Int} (h : recErr r last = 0) : recChk r = 0 ∧ -1 ≤ last ∧ last ≤ 65535 ∧ last < r.id := by
  unfold recErr at h
  split at h
  · omega
  · split at h
    · cases h
    · split at h
      · cases h
      · omega
theorem takes_raw {bs : List Byte} {r : RecR} {last : Int} (hw : r.wf) (he : recErr r last = 0) : Takes bs (recB r last) (rdRaw bs last) r := by
  obtain ⟨hc, h1, h2, h3⟩ := recErr_parts he
  obtain ⟨c1, c2, c3, c4, _, _⟩ := recChk_parts hc
  have hX : (((BitVec.ofInt 64 (r.id - last - 1)).toNat : Nat) : Int) = r.id - last - 1 := ofInt64 (by omega) (by omega)
  have hL : (((BitVec.ofInt 64 (65534 - last)).toNat : Nat) : Int) = 65534 - last := ofInt64 (by omega) (by omega)
  have hk : (((BitVec.ofInt 8 r.k).toNat : Nat) : Int) = r.k := by rw [BitVec.toNat_ofInt]; omega
  rw [recB, if_neg (by omega), recHead, List.append_assoc]
  have q2 := takes_body (bs := bs) hw hc
  have e2 : rdBody bs r.k r.id = (fun (x : Byte) R => rdBody bs (((x.toNat : Nat) : Int)) (last + 1 + (((BitVec.ofInt 64 (r.id - last - 1)).toNat : Nat) : Int)) R) (BitVec.ofInt 8 r.k) := by
    funext R
    dsimp only
    rw [hk, hX, show last + 1 + (r.id - last - 1) = r.id by omega]
  rw [e2] at q2
  have q1 := (takes_byte (bs := bs) (c := BitVec.ofInt 8 r.k)).bind (g := fun (x : Byte) R => rdBody bs ((x.toNat : Nat) : Int) (last + 1 + (((BitVec.ofInt 64 (r.id - last - 1)).toNat : Nat) : Int)) R) (fun x R h => rdBody_six h) q2
  have q0 := (takes_uint (bs := bs) (X := BitVec.ofInt 64 (r.id - last - 1)) (L := BitVec.ofInt 64 (65534 - last)) (by omega)).bind
    (g := fun X R => rdBody bs (((rByte bs R).1.toNat : Nat) : Int) (last + 1 + ((X.toNat : Nat) : Int)) (rByte bs R).2) (fun x R h => rdBody_six (rByte_six h)) q1
  exact q0
/-- What is written is read; of fewer bytes it is too short. -/
theorem rd_take {bs rest : List Byte} {r : RecR} {last : Int} {p n : Nat} (hw : r.wf) (he : recErr r last = 0) (hp : p ≤ bs.length) (hd : bs.drop p = (recB r last ++ rest).take n) :
    ((recB r last).length ≤ n → rdRec bs last ⟨p, 0⟩ = (r, 0, ⟨p + (recB r last).length, 0⟩)) ∧ (n < (recB r last).length → (rdRec bs last ⟨p, 0⟩).1 = recZ ∧ (rdRec bs last ⟨p, 0⟩).2.1 = 6) := by
  have ht := takes_raw (bs := bs) hw he
  obtain ⟨hc, h1, h2, h3⟩ := recErr_parts he
  obtain ⟨c1, c2, c3, c4, _, _⟩ := recChk_parts hc
  refine ⟨fun hn => ?_, fun hn => ?_⟩
  · exact rdRec_ok (by omega) (by omega) (ht.good ⟨p, 0⟩ n rest rfl hp hd hn) rfl
  · have h6 := ht.short ⟨p, 0⟩ n rest rfl hp hd hn
    rw [rdRec_bad (rr := (rdRaw bs last ⟨p, 0⟩).1) (RR := (rdRaw bs last ⟨p, 0⟩).2) (by omega) (by omega) rfl (by omega)]
    exact ⟨rfl, h6⟩
theorem rd_full {bs rest : List Byte} {r : RecR} {last : Int} {p : Nat} (hw : r.wf) (he : recErr r last = 0) (hp : p ≤ bs.length) (hd : bs.drop p = recB r last ++ rest) : rdRec bs last ⟨p, 0⟩ = (r, 0, ⟨p + (recB r last).length, 0⟩) :=
  (rd_take (n := (recB r last ++ rest).length) hw he hp (by rw [List.take_length]; exact hd)).1 (by simp)
/-! ### The other way about -/
end Go.Sx
