/- Datagrams: what is written is read. Plain mathematics. -/
import Derived.Test.YtbioemaipghagaaGreatQSxPgramR
import Derived.Test.YtbioemaipghagaaGreatQSxPgramK
import Derived.Test.YtbioemaipghagaaGreatQSxRgram
set_option linter.unusedVariables false
set_option linter.unusedSimpArgs false
namespace Go.Sx
theorem Takes.full {α : Type} {bs c rest : List Byte} {f : Rs → α × Rs} {v : α} {p : Nat} (h : Takes bs c f v) (hp : p ≤ bs.length) (hd : bs.drop p = c ++ rest) : f ⟨p, 0⟩ = (v, ⟨p + c.length, 0⟩) ∧ bs.drop (p + c.length) = rest ∧ p + c.length ≤ bs.length := by
  have hd' : bs.drop p = (c ++ rest).take (c ++ rest).length := by rw [List.take_length]; exact hd
  have h2 := drop_on hd' (by simp) hp
  exact ⟨h.good ⟨p, 0⟩ _ rest rfl hp hd' (by simp), by rw [h2.1, List.length_append, Nat.add_sub_cancel_left, List.take_length], h2.2⟩
theorem must_full {bs rest : List Byte} {c : Byte} {p : Nat} (hp : p ≤ bs.length) (hd : bs.drop p = [c] ++ rest) : mustB c bs ⟨p, 0⟩ = ⟨p + 1, 0⟩ ∧ bs.drop (p + 1) = rest ∧ p + 1 ≤ bs.length := by
  obtain ⟨h1, h2, h3⟩ := (takes_byte (bs := bs) (c := c)).full hp hd
  refine ⟨?_, h2, h3⟩
  unfold mustB
  rw [h1, if_pos rfl]
  rfl
theorem recs_full {bs : List Byte} {l : List RecR} {R : Rs} {p : Nat} (hl : ∀ x ∈ l, x.wf) (he : recsErr l = 0) (h0 : (rUint bs 128#64 R).2 = ⟨p, 0⟩) (hp : p ≤ bs.length) (hR : R.p ≤ bs.length) {tail : List Byte} (hd : bs.drop p = (rowE l).1 ++ tail) :
    ∀ i, i ≤ l.length → gRecs bs R i = (l.take i, (rowE (l.take i)).2, ⟨p + (rowE (l.take i)).1.length, 0⟩)
  | 0, _ => by
    show ([], (-1 : Int), (rUint bs 128#64 R).2) = _
    rw [h0]
    rfl
  | i + 1, hi => by
    have ih := recs_full hl he h0 hp hR hd i (by omega)
    obtain ⟨rest, hs⟩ := rowE_split (O := l) (i + 1)
    rw [rowE_next (by omega)] at hs
    have hds := hd
    rw [hs, List.append_assoc, List.append_assoc] at hds
    have hlen := congrArg List.length hds
    simp only [List.length_drop, List.length_append] at hlen
    have h1 : bs.drop (p + (rowE (l.take i)).1.length) = recB (l.getD i default) (rowE (l.take i)).2 ++ (rest ++ tail) := by
      rw [← List.drop_drop, hds, List.drop_left]
    have hq := rd_full (bs := bs) (last := (rowE (l.take i)).2) (recs_getD hl (by omega)) (recsTo_all he i (by omega)) (by omega) h1
    rw [gRecs_ok (by rw [ih]) (by rw [ih]; dsimp only; rw [hq]), ih]
    dsimp only
    rw [hq, rowE_next (by omega), take_next (by omega)]
    dsimp only
    rw [List.length_append, Nat.add_assoc]
/-- What is written is read, whatever stands behind it. -/
theorem body_forth {t tm b : Int} {l : List RecR} {x tail : List Byte} (hl : ∀ x ∈ l, x.wf) (hb : bodyErr t tm b l = 0) (hx0 : x = bodyB t tm b l ++ tail) : (gTx x).1 = t ∧ (gTmx x).1 = tm ∧ (gBx x).1 = b ∧ (gSx x).1 = l ∧ gEx x = if tail = [] then 0 else 8 := by
  obtain ⟨hg, hr⟩ := bodyErr_parts hb
  obtain ⟨g1, g2, g3, g4, g5, g6, g7⟩ := gErr_parts hg
  have hx : x = [71#8] ++ ([1#8] ++ (vput (BitVec.ofInt 64 t).toNat ++ (numB tm ++ (vput (gBack t b).toNat ++ (vput (BitVec.ofInt 64 (l.length : Int)).toNat ++ ((rowE l).1 ++ tail)))))) := by
    rw [hx0, bodyB_ok hb, gHeadB, numB]
    simp only [List.append_assoc, List.cons_append, List.nil_append]
  have ht := ofInt64 (x := t) (by omega) (by omega)
  have hm := ofInt64 (x := (l.length : Int)) (by omega) (by omega)
  have hbk : ((gBack t b).toNat : Int) = if 0 ≤ b then t - b else 0 := by
    unfold gBack
    split
    · exact ofInt64 (by omega) (by omega)
    · rfl
  obtain ⟨a1, a2, a3⟩ := must_full (bs := x) (p := 0) (Nat.zero_le _) (by rw [List.drop_zero]; exact hx)
  obtain ⟨b1, b2, b3⟩ := must_full a3 a2
  have e1 : gR1 x = ⟨0 + 1 + 1, 0⟩ := by rw [← gR1_eq, a1, b1]
  obtain ⟨c1, c2, c3⟩ := (takes_uint (bs := x) (L := 4294967295#64) (X := BitVec.ofInt 64 t) (by show _ ≤ 4294967295; omega)).full b3 b2
  have e2 : gTx x = (t, ⟨0 + 1 + 1 + (vput (BitVec.ofInt 64 t).toNat).length, 0⟩) := by rw [gTx_eq, e1, c1, ht]
  obtain ⟨d1, d2, d3⟩ := (takes_int (bs := x) (x := tm) (by omega)).full c3 c2
  generalize hp2 : 0 + 1 + 1 + (vput (BitVec.ofInt 64 t).toNat).length = p2 at *
  have e3 : gTmx x = (tm, ⟨p2 + (numB tm).length, 0⟩) := by
    have q : rInt x (gTx x).2 = (tm, ⟨p2 + (numB tm).length, 0⟩) := by rw [e2]; exact d1
    rw [gTmx_ok (by rw [q]; dsimp only; omega), q]
  generalize hp3 : p2 + (numB tm).length = p3 at *
  obtain ⟨f1, f2, f3⟩ := (takes_uint (bs := x) (L := BitVec.ofInt 64 t) (X := gBack t b) (by split at hbk <;> omega)).full d3 d2
  generalize hp4 : p3 + (vput (gBack t b).toNat).length = p4 at *
  have e4 : gBx x = (b, ⟨p4, 0⟩) := by
    have q : rUint x (BitVec.ofInt 64 (gTx x).1) (gTmx x).2 = (gBack t b, ⟨p4, 0⟩) := by rw [e2, e3]; exact f1
    by_cases hb0 : 0 ≤ b
    · rw [if_pos hb0] at hbk
      rw [gBx_pos (by rw [q]; dsimp only; omega), q, e2]
      dsimp only
      rw [hbk, show t - (t - b) = b by omega]
    · rw [if_neg hb0] at hbk
      rw [gBx_neg (by rw [q]; dsimp only; omega), q]
      dsimp only
      rw [show b = -1 by omega]
  obtain ⟨k1, k2, k3⟩ := (takes_uint (bs := x) (L := 128#64) (X := BitVec.ofInt 64 (l.length : Int)) (by show _ ≤ 128; omega)).full f3 f2
  have hn : gN x (gBx x).2 = l.length := by
    unfold gN
    rw [e4]
    dsimp only
    rw [k1]
    dsimp only
    omega
  have hrec := recs_full (R := (gBx x).2) hl hr (by rw [e4]; dsimp only; rw [k1]) k3 (by rw [e4]; exact f3) k2 l.length (Nat.le_refl _)
  rw [List.take_length] at hrec
  have hS : gSx x = (l, (rowE l).2, ⟨p4 + (vput (BitVec.ofInt 64 (l.length : Int)).toNat).length + (rowE l).1.length, 0⟩) := by rw [← gSx_def, hn, hrec]
  have hlen := congrArg List.length k2
  rw [List.length_drop, List.length_append] at hlen
  have hE : gEx x = if tail = [] then 0 else 8 := by
    rw [← gEx_def, hS]
    unfold rDone
    cases tail with
    | nil =>
      rw [List.length_nil] at hlen
      rw [if_pos (.inr (by dsimp only; omega)), if_pos rfl]
    | cons c tl =>
      rw [List.length_cons] at hlen
      rw [if_neg (by dsimp only; omega), if_neg (by simp)]
  exact ⟨by rw [e2], by rw [e3], by rw [e4], by rw [hS], hE⟩
/-- What is written reads back. -/
theorem gread_forth {t tm b : Int} {l : List RecR} (hl : ∀ x ∈ l, x.wf) (h : gwErr t tm b l = 0) : gRead (gwB t tm b l) = ⟨t, tm, b, l, 0⟩ := by
  have hw := length_gwB t tm b l
  obtain ⟨h1, h2, h3, h4, h5⟩ := body_forth (x := bodyB t tm b l) (tail := []) hl (gwErr_parts h).1 (by rw [List.append_nil])
  rw [gRead_ok (by omega) (open_gw h) (by rw [h5]; rfl), h1, h2, h3, h4]
end Go.Sx
