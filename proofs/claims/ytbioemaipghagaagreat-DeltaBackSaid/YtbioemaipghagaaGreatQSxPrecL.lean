/- Records: what is written is read, and the other way about. Plain mathematics. -/
import Derived.Test.YtbioemaipghagaaGreatQSxPent
import Derived.Test.YtbioemaipghagaaGreatQSxRrd
set_option linter.unusedVariables false
set_option linter.unusedSimpArgs false
namespace Go.Sx
/-- f takes the bytes c, and its value is then v; of fewer it is too short; behind that error it stays. -/
structure Takes {α : Type} (bs : List Byte) (c : List Byte) (f : Rs → α × Rs) (v : α) : Prop where
  stay : ∀ R, R.e = 6 → (f R).2.e = 6
  good : ∀ R n rest, R.e = 0 → R.p ≤ bs.length → bs.drop R.p = (c ++ rest).take n → c.length ≤ n → f R = (v, ⟨R.p + c.length, 0⟩)
  short : ∀ R n rest, R.e = 0 → R.p ≤ bs.length → bs.drop R.p = (c ++ rest).take n → n < c.length → (f R).2.e = 6
theorem drop_on {bs c rest : List Byte} {p n : Nat} (h : bs.drop p = (c ++ rest).take n) (hn : c.length ≤ n) (hp : p ≤ bs.length) : bs.drop (p + c.length) = rest.take (n - c.length) ∧ p + c.length ≤ bs.length := by
  have h1 : bs.drop (p + c.length) = (bs.drop p).drop c.length := by rw [List.drop_drop]
  have h2 := congrArg List.length h
  simp only [List.length_drop, List.length_take, List.length_append] at h2
  refine ⟨?_, by omega⟩
  rw [h1, h, List.take_append, List.drop_append_of_le_length (by rw [List.length_take]; omega), List.take_of_length_le hn, List.drop_length, List.nil_append]
theorem Takes.bind {α β : Type} {bs c d : List Byte} {f : Rs → α × Rs} {g : α → Rs → β × Rs} {v : α} {u : β} (hf : Takes bs c f v) (hs : ∀ x R, R.e = 6 → (g x R).2.e = 6) (hg : Takes bs d (g v) u) : Takes bs (c ++ d) (fun R => g (f R).1 (f R).2) u := by
  refine ⟨fun R h => hs _ _ (hf.stay R h), fun R n rest h0 hp hd hn => ?_, fun R n rest h0 hp hd hn => ?_⟩
  · rw [List.append_assoc] at hd
    rw [List.length_append] at hn
    have h1 := hf.good R n _ h0 hp hd (by omega)
    obtain ⟨h2, h3⟩ := drop_on hd (by omega) hp
    rw [h1]
    dsimp only
    rw [hg.good ⟨R.p + c.length, 0⟩ (n - c.length) rest rfl h3 h2 (by omega), List.length_append]
    dsimp only
    rw [Nat.add_assoc]
  · rw [List.append_assoc] at hd
    rw [List.length_append] at hn
    by_cases hc : c.length ≤ n
    · have h1 := hf.good R n _ h0 hp hd hc
      obtain ⟨h2, h3⟩ := drop_on hd hc hp
      rw [h1]
      exact hg.short ⟨R.p + c.length, 0⟩ (n - c.length) rest rfl h3 h2 (by omega)
    · exact hs _ _ (hf.short R n _ h0 hp hd (by omega))
theorem Takes.pure {α : Type} {bs : List Byte} (v : α) : Takes bs [] (fun R => (v, R)) v := by
  refine ⟨fun R h => h, fun R n rest h0 hp hd hn => ?_, fun R n rest h0 hp hd hn => ?_⟩
  · cases R; simp at h0; subst h0; rfl
  · simp at hn
theorem takes_uint {bs : List Byte} {X L : BitVec 64} (h : X.toNat ≤ L.toNat) : Takes bs (vput X.toNat) (rUint bs L) X := by
  have hvp := vlen_pos X.toNat
  have hl : (vput X.toNat).length = vlen X.toNat := rfl
  refine ⟨fun R h => by rw [rUint_err (by omega)]; exact h, fun R n rest h0 hp hd hn => ?_, fun R n rest h0 hp hd hn => ?_⟩
  · have hd2 : bs.drop R.p = vput X.toNat ++ rest.take (n - (vput X.toNat).length) := by rw [hd, List.take_append, List.take_of_length_le hn]
    have hg := vget_put X (rest.take (n - (vput X.toNat).length))
    rw [← hd2] at hg
    rw [rUint_fine h0 (by rw [hg]) (by rw [hg]; exact h), hg]
    rfl
  · have hd2 : bs.drop R.p = (vput X.toNat).take n := by rw [hd, List.take_append, show n - (vput X.toNat).length = 0 by omega]; simp
    by_cases h1 : bs.length ≤ R.p
    · rw [rUint_short h0 h1]
    · have hn0 : 1 ≤ n := by
        have := congrArg List.length hd2
        simp only [List.length_drop, List.length_take] at this
        omega
      have hg := vget_part X n hn0 (by omega)
      rw [← hd2] at hg
      have hu : uerr (bs.drop R.p) L = 6 := by unfold uerr; rw [hg]; simp
      rw [rUint_bad h0 h1 (by omega), hu]
theorem takes_byte {bs : List Byte} {c : Byte} : Takes bs [c] (rByte bs) c := by
  refine ⟨fun R h => by rw [rByte_err (by omega)]; exact h, fun R n rest h0 hp hd hn => ?_, fun R n rest h0 hp hd hn => ?_⟩
  · have hd2 : bs.drop R.p = c :: rest.take (n - 1) := by
      rw [hd]
      simp only [List.length_singleton] at hn
      rw [show n = (n - 1) + 1 by omega]
      simp
    have hl := congrArg List.length hd2
    simp only [List.length_drop, List.length_cons] at hl
    have hg : bs.getD R.p 0 = c := by
      have := congrArg (fun l : List Byte => l.getD 0 0) hd2
      simpa [List.getD_eq_getElem?_getD] using this
    rw [rByte_good h0 (by omega), hg]
    rfl
  · simp only [List.length_singleton] at hn
    have hn0 : n = 0 := by omega
    subst hn0
    have hl := congrArg List.length hd
    simp at hl
    rw [rByte_short h0 (by omega)]
theorem takes_int {bs : List Byte} {x : Int} (h : -9223372036854775808 ≤ x ∧ x ≤ 9223372036854775807) : Takes bs (numB x) (rInt bs) x := by
  have ht := takes_uint (bs := bs) (X := zigI x) (L := 18446744073709551615#64) (by have := (zigI x).isLt; have h2 : (18446744073709551615#64).toNat = 18446744073709551615 := rfl; omega)
  refine ⟨fun R h => ht.stay R h, fun R n rest h0 hp hd hn => ?_, fun R n rest h0 hp hd hn => ht.short R n rest h0 hp hd hn⟩
  have := ht.good R n rest h0 hp hd hn
  unfold rInt
  rw [this, zag_zig x h]
  rfl
theorem rFail_six {e : Nat} {R : Rs} (h : R.e = 6) : (rFail e R).e = 6 := by unfold rFail; rw [if_neg (by omega)]; exact h
theorem upI_six {bs : List Byte} {m : BitVec 8} {i : Nat} {R : Rs} (h : R.e = 6) : (upI bs m i R).2.e = 6 := by
  have h1 := (rInt_stay (bs := bs) (R := R) (by omega)).2.1
  unfold upI
  split
  · dsimp only
    split
    · exact rFail_six (by omega)
    · omega
  · exact h
theorem upA_six {bs : List Byte} {m : BitVec 8} {R : Rs} (h : R.e = 6) : (upA bs m R).2.e = 6 := by
  have h1 := (rUint_stay (bs := bs) (X := 65535#64) (R := R) (by omega)).2.1
  unfold upA
  split
  · dsimp only
    split
    · exact rFail_six (by omega)
    · omega
  · exact h
def upC (r : RecR) (i : Nat) : List Byte := if r.num i = 0 then [] else numB (r.num i)
theorem takes_up {bs : List Byte} {m : BitVec 8} {r : RecR} {i : Nat} (hm : upBit m i = true ↔ r.num i ≠ 0) (h : -9223372036854775808 ≤ r.num i ∧ r.num i ≤ 9223372036854775807) : Takes bs (upC r i) (upI bs m i) (r.num i) := by
  by_cases h0 : r.num i = 0
  · have hb : upBit m i = false := by
      cases hb : upBit m i with
      | false => rfl
      | true => exact absurd h0 (hm.1 hb)
    have : upI bs m i = fun R => (0, R) := by
      funext R
      unfold upI
      rw [if_neg (by rw [hb]; decide)]
    rw [this, upC, if_pos h0, h0]
    exact Takes.pure 0
  · have hb := hm.2 h0
    have ht := takes_int (bs := bs) h
    rw [upC, if_neg h0]
    refine ⟨fun R h => upI_six h, fun R n rest h1 hp hd hn => ?_, fun R n rest h1 hp hd hn => ?_⟩
    · have := ht.good R n rest h1 hp hd hn
      unfold upI
      rw [if_pos hb, this]
      dsimp only
      rw [if_neg h0]
    · have := ht.short R n rest h1 hp hd hn
      unfold upI
      rw [if_pos hb]
      dsimp only
      split
      · exact rFail_six this
      · exact this
theorem takes_a {bs : List Byte} {a : BitVec 16} : Takes bs (vput a.toNat) (fun R => ((rUint bs 65535#64 R).1.setWidth 16, (rUint bs 65535#64 R).2)) a := by
  have ht := takes_uint (bs := bs) (X := a.setWidth 64) (L := 65535#64) (by rw [sw64]; have := a.isLt; have h2 : (65535#64).toNat = 65535 := rfl; omega)
  rw [sw64] at ht
  refine ⟨fun R h => ht.stay R h, fun R n rest h0 hp hd hn => ?_, fun R n rest h0 hp hd hn => ht.short R n rest h0 hp hd hn⟩
  have := ht.good R n rest h0 hp hd hn
  rw [this]
  dsimp only
  congr 1
  apply BitVec.eq_of_toNat_eq
  simp
theorem takes_upA {bs : List Byte} {m : BitVec 8} {a : BitVec 16} (hm : upBit m 6 = true ↔ a ≠ 0#16) : Takes bs (if a = 0#16 then [] else vput a.toNat) (upA bs m) a := by
  by_cases h0 : a = 0#16
  · have hb : upBit m 6 = false := by
      cases hb : upBit m 6 with
      | false => rfl
      | true => exact absurd h0 (hm.1 hb)
    have : upA bs m = fun R => (0#16, R) := by
      funext R
      unfold upA
      rw [if_neg (by rw [hb]; decide)]
    rw [this, if_pos h0, h0]
    exact Takes.pure _
  · have hb := hm.2 h0
    rw [if_neg h0]
    have ht := takes_uint (bs := bs) (X := a.setWidth 64) (L := 65535#64) (by rw [sw64]; have := a.isLt; have h2 : (65535#64).toNat = 65535 := rfl; omega)
    rw [sw64] at ht
    have hne : a.setWidth 64 ≠ 0#64 := fun e => h0 (BitVec.eq_of_toNat_eq (by rw [← sw64 a, e]; rfl))
    refine ⟨fun R h => upA_six h, fun R n rest h1 hp hd hn => ?_, fun R n rest h1 hp hd hn => ?_⟩
    · have := ht.good R n rest h1 hp hd hn
      unfold upA
      rw [if_pos hb, this]
      dsimp only
      rw [if_neg hne]
      congr 1
      apply BitVec.eq_of_toNat_eq
      simp
    · have := ht.short R n rest h1 hp hd hn
      unfold upA
      rw [if_pos hb]
      dsimp only
      split
      · exact rFail_six this
      · exact this
/-! ### The mask -/
def maskOf (b0 b1 b2 b3 b4 b5 b6 : Bool) : BitVec 8 :=
  let m0 := bif b0 then 0#8 ||| (1#8 <<< 0) else 0#8
  let m1 := bif b1 then m0 ||| (1#8 <<< 1) else m0
  let m2 := bif b2 then m1 ||| (1#8 <<< 2) else m1
  let m3 := bif b3 then m2 ||| (1#8 <<< 3) else m2
  let m4 := bif b4 then m3 ||| (1#8 <<< 4) else m3
  let m5 := bif b5 then m4 ||| (1#8 <<< 5) else m4
  bif b6 then m5 ||| 64#8 else m5
theorem ite_bif {α : Type} {p : Prop} [Decidable p] (x y : α) : (if p then x else y) = bif decide (¬ p) then y else x := by by_cases h : p <;> simp [h]
theorem mask_of (r : RecR) : upMask7 r = maskOf (decide (r.p0 ≠ 0)) (decide (r.p1 ≠ 0)) (decide (r.p2 ≠ 0)) (decide (r.v0 ≠ 0)) (decide (r.v1 ≠ 0)) (decide (r.v2 ≠ 0)) (decide (r.a ≠ 0#16)) := by
  simp only [upMask7, upMask, RecR.num, maskOf, ite_bif]
theorem maskOf_bits : ∀ b0 b1 b2 b3 b4 b5 b6 : Bool, upBit (maskOf b0 b1 b2 b3 b4 b5 b6) 0 = b0 ∧ upBit (maskOf b0 b1 b2 b3 b4 b5 b6) 1 = b1 ∧ upBit (maskOf b0 b1 b2 b3 b4 b5 b6) 2 = b2 ∧ upBit (maskOf b0 b1 b2 b3 b4 b5 b6) 3 = b3 ∧ upBit (maskOf b0 b1 b2 b3 b4 b5 b6) 4 = b4 ∧ upBit (maskOf b0 b1 b2 b3 b4 b5 b6) 5 = b5 ∧ upBit (maskOf b0 b1 b2 b3 b4 b5 b6) 6 = b6 ∧ (maskOf b0 b1 b2 b3 b4 b5 b6).toNat ≤ 127 ∧ ((maskOf b0 b1 b2 b3 b4 b5 b6).toNat = 0 → b0 = false ∧ b1 = false ∧ b2 = false ∧ b3 = false ∧ b4 = false ∧ b5 = false ∧ b6 = false) := by
  intro b0 b1 b2 b3 b4 b5 b6
  cases b0 <;> cases b1 <;> cases b2 <;> cases b3 <;> cases b4 <;> cases b5 <;> cases b6 <;> exact ⟨by decide, by decide, by decide, by decide, by decide, by decide, by decide, by decide, by decide⟩
theorem mask_bits (r : RecR) : (∀ i, i < 6 → (upBit (upMask7 r) i = true ↔ r.num i ≠ 0)) ∧ (upBit (upMask7 r) 6 = true ↔ r.a ≠ 0#16) ∧ (upMask7 r).toNat ≤ 127 ∧ ((upMask7 r).toNat = 0 → recEmpty r = true) := by
  have h := maskOf_bits (decide (r.p0 ≠ 0)) (decide (r.p1 ≠ 0)) (decide (r.p2 ≠ 0)) (decide (r.v0 ≠ 0)) (decide (r.v1 ≠ 0)) (decide (r.v2 ≠ 0)) (decide (r.a ≠ 0#16))
  rw [← mask_of] at h
  obtain ⟨h0, h1, h2, h3, h4, h5, h6, h7, h8⟩ := h
  refine ⟨fun i hi => ?_, by rw [h6, decide_eq_true_iff], h7, fun hz => ?_⟩
  · match i, hi with
    | 0, _ => rw [h0, decide_eq_true_iff]; rfl
    | 1, _ => rw [h1, decide_eq_true_iff]; rfl
    | 2, _ => rw [h2, decide_eq_true_iff]; rfl
    | 3, _ => rw [h3, decide_eq_true_iff]; rfl
    | 4, _ => rw [h4, decide_eq_true_iff]; rfl
    | 5, _ => rw [h5, decide_eq_true_iff]; rfl
  · obtain ⟨e0, e1, e2, e3, e4, e5, e6⟩ := h8 hz
    simp only [decide_eq_false_iff_not, ne_eq, Decidable.not_not] at e0 e1 e2 e3 e4 e5 e6
    simp [recEmpty, e0, e1, e2, e3, e4, e5, e6]
/-! ### The bodies -/
theorem RecR.wf.num {r : RecR} (h : r.wf) (i : Nat) : -9223372036854775808 ≤ r.num i ∧ r.num i ≤ 9223372036854775807 := by
  match i with
  | 0 => exact h.p0
  | 1 => exact h.p1
  | 2 => exact h.p2
  | 3 => exact h.v0
  | 4 => exact h.v1
  | _ + 5 => exact h.v2
theorem rInt_six {bs : List Byte} {R : Rs} (h : R.e = 6) : (rInt bs R).2.e = 6 := by have := (rInt_stay (bs := bs) (R := R) (by omega)).2.1; omega
theorem rUint_six {bs : List Byte} {X : BitVec 64} {R : Rs} (h : R.e = 6) : (rUint bs X R).2.e = 6 := by have := (rUint_stay (bs := bs) (X := X) (R := R) (by omega)).2.1; omega
theorem rByte_six {bs : List Byte} {R : Rs} (h : R.e = 6) : (rByte bs R).2.e = 6 := by have := (rByte_stay (bs := bs) (R := R) (by omega)).2.1; omega
theorem takes_all {bs : List Byte} {r : RecR} (hw : r.wf) : Takes bs (recAll r) (rdAll bs r.k r.id) r := by
  have h6 := (takes_a (bs := bs) (a := r.a)).bind (g := fun x R => ((⟨r.k, r.id, r.p0, r.p1, r.p2, r.v0, r.v1, r.v2, x⟩ : RecR), R)) (fun x R h => h) (Takes.pure _)
  have h5 := (takes_int (bs := bs) hw.v2).bind (g := fun x R => ((⟨r.k, r.id, r.p0, r.p1, r.p2, r.v0, r.v1, x, (rUint bs 65535#64 R).1.setWidth 16⟩ : RecR), (rUint bs 65535#64 R).2)) (fun x R h => rUint_six h) h6
  have h4 := (takes_int (bs := bs) hw.v1).bind (g := fun x R => ((⟨r.k, r.id, r.p0, r.p1, r.p2, r.v0, x, (rInt bs R).1, (rUint bs 65535#64 (rInt bs R).2).1.setWidth 16⟩ : RecR), (rUint bs 65535#64 (rInt bs R).2).2)) (fun x R h => rUint_six (rInt_six h)) h5
  have h3 := (takes_int (bs := bs) hw.v0).bind (g := fun x R => ((⟨r.k, r.id, r.p0, r.p1, r.p2, x, (rInt bs R).1, (rInt bs (rInt bs R).2).1, (rUint bs 65535#64 (rInt bs (rInt bs R).2).2).1.setWidth 16⟩ : RecR), (rUint bs 65535#64 (rInt bs (rInt bs R).2).2).2)) (fun x R h => rUint_six (rInt_six (rInt_six h))) h4
  have h2 := (takes_int (bs := bs) hw.p2).bind (g := fun x R => ((⟨r.k, r.id, r.p0, r.p1, x, (rInt bs R).1, (rInt bs (rInt bs R).2).1, (rInt bs (rInt bs (rInt bs R).2).2).1, (rUint bs 65535#64 (rInt bs (rInt bs (rInt bs R).2).2).2).1.setWidth 16⟩ : RecR), (rUint bs 65535#64 (rInt bs (rInt bs (rInt bs R).2).2).2).2)) (fun x R h => rUint_six (rInt_six (rInt_six (rInt_six h)))) h3
  have h1 := (takes_int (bs := bs) hw.p1).bind (g := fun x R => ((⟨r.k, r.id, r.p0, x, (rInt bs R).1, (rInt bs (rInt bs R).2).1, (rInt bs (rInt bs (rInt bs R).2).2).1, (rInt bs (rInt bs (rInt bs (rInt bs R).2).2).2).1, (rUint bs 65535#64 (rInt bs (rInt bs (rInt bs (rInt bs R).2).2).2).2).1.setWidth 16⟩ : RecR), (rUint bs 65535#64 (rInt bs (rInt bs (rInt bs (rInt bs R).2).2).2).2).2)) (fun x R h => rUint_six (rInt_six (rInt_six (rInt_six (rInt_six h))))) h2
  have h0 := (takes_int (bs := bs) hw.p0).bind (g := fun x R => ((⟨r.k, r.id, x, (rInt bs R).1, (rInt bs (rInt bs R).2).1, (rInt bs (rInt bs (rInt bs R).2).2).1, (rInt bs (rInt bs (rInt bs (rInt bs R).2).2).2).1, (rInt bs (rInt bs (rInt bs (rInt bs (rInt bs R).2).2).2).2).1, (rUint bs 65535#64 (rInt bs (rInt bs (rInt bs (rInt bs (rInt bs R).2).2).2).2).2).1.setWidth 16⟩ : RecR), (rUint bs 65535#64 (rInt bs (rInt bs (rInt bs (rInt bs (rInt bs R).2).2).2).2).2).2)) (fun x R h => rUint_six (rInt_six (rInt_six (rInt_six (rInt_six (rInt_six h)))))) h1
  have e : rdAll bs r.k r.id = fun R => ((⟨r.k, r.id, (rInt bs R).1, (rInt bs (rInt bs R).2).1, (rInt bs (rInt bs (rInt bs R).2).2).1, (rInt bs (rInt bs (rInt bs (rInt bs R).2).2).2).1, (rInt bs (rInt bs (rInt bs (rInt bs (rInt bs R).2).2).2).2).1, (rInt bs (rInt bs (rInt bs (rInt bs (rInt bs (rInt bs R).2).2).2).2).2).1, (rUint bs 65535#64 (rInt bs (rInt bs (rInt bs (rInt bs (rInt bs (rInt bs R).2).2).2).2).2).2).1.setWidth 16⟩ : RecR), (rUint bs 65535#64 (rInt bs (rInt bs (rInt bs (rInt bs (rInt bs (rInt bs R).2).2).2).2).2).2).2) := by
    funext R
    simp only [rdAll, nX, nS]
  rw [e]
  simpa [recAll, List.append_assoc] using h0
end Go.Sx
