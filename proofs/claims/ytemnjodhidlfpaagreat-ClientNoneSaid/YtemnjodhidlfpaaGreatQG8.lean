import Derived.Test.YtemnjodhidlfpaaGreatQG7
import Derived.Test.YtemnjodhidlfpaaGreatQSxBasB
import Derived.ArgAppend
import Derived.Test.YtemnjodhidlfpaaGreatQSxStos
import Derived.Test.YtemnjodhidlfpaaGreatQSxGrams
/- Where entities are shown: plain mathematics. -/
set_option linter.unusedVariables false
set_option linter.unusedSimpArgs false
namespace Go.Sx
/-! ### Pick -/
def zJr (L : List RI) (t : Int) : Nat → Option (Nat × Int)
 | 0 => none
 | k + 1 => if (L.getD k default).tm ≤ t then some (k, if k + 1 = L.length then -1 else ((k + 1 : Nat) : Int)) else zJr L t k
def zBA (L : List RI) (t : Int) : Int × Int × Nat :=
 if zDN none (tms L) ≠ 0 then (0, 0, zDN none (tms L)) else match zJr L t L.length with
 | some (i, nx) => ((i : Int), nx, 0)
 | none => (0, 0, 5)
theorem zX4 {L : List RI} {t : Int} (h : ((zDN none (tms L) : Nat) : Int) ≠ 0) : zBA L t = (0, 0, zDN none (tms L)) := if_pos (by omega)
theorem zVU {L : List RI} {t : Int} {i : Nat} {nx : Int} (h : ((zDN none (tms L) : Nat) : Int) = 0) (hp : zJr L t L.length = some (i, nx)) : zBA L t = ((i : Int), nx, 0) := by
 unfold zBA; rw [if_neg (by omega), hp]
theorem zVf {L : List RI} {t : Int} (h : ((zDN none (tms L) : Nat) : Int) = 0) (hp : zJr L t L.length = none) : zBA L t = (0, 0, 5) := by
 unfold zBA; rw [if_neg (by omega), hp]
theorem zKp {L : List RI} {t : Int} : ∀ {k i : Nat} {nx : Int}, zJr L t k = some (i, nx) → i < k ∧ (L.getD i default).tm ≤ t ∧ nx = (if i + 1 = L.length then -1 else ((i + 1 : Nat) : Int)) ∧ ∀ j, i < j → j < k → ¬ (L.getD j default).tm ≤ t
 | 0, _, _, h => by cases h
 | k + 1, i, nx, h => by
   unfold zJr at h
   split at h
   · next hle => cases h; exact ⟨Nat.lt_succ_self _, hle, rfl, fun j h1 h2 => absurd h2 (by omega)⟩
   · next hle =>
     obtain ⟨h1, h2, h3, h4⟩ := zKp h
     refine ⟨by omega, h2, h3, fun j hj1 hj2 => ?_⟩
     by_cases e : j = k
     · rw [e]; exact hle
     · exact h4 j hj1 (by omega)
theorem zSE {L : List RI} {t : Int} (h : (zBA L t).2.2 = 0) : zDN none (tms L) = 0 ∧ ∃ i : Nat, i < L.length ∧ (zBA L t).1 = (i : Int) ∧ (L.getD i default).tm ≤ t ∧ (zBA L t).2.1 = (if i + 1 = L.length then -1 else ((i + 1 : Nat) : Int)) ∧ ∀ j, i < j → j < L.length → t < (L.getD j default).tm := by
 unfold zBA at h ⊢
 by_cases he : zDN none (tms L) ≠ 0
 · rw [if_pos he] at h; exact absurd h he
 · rw [if_neg he] at h ⊢
   cases hp : zJr L t L.length with
   | none => rw [hp] at h; cases h
   | some p =>
     obtain ⟨i, nx⟩ := p
     obtain ⟨h1, h2, h3, h4⟩ := zKp hp
     exact ⟨Decidable.not_not.1 he, i, h1, rfl, h2, h3, fun j hj1 hj2 => by have := h4 j hj1 hj2; omega⟩
theorem zWR {L : List RI} {t : Int} {k : Nat} (h : ¬ (L.getD k default).tm ≤ t) : zJr L t (k + 1) = zJr L t k := by
 show (if _ then _ else _) = _; rw [if_neg h]
theorem zSz {L : List RI} {t : Int} {k : Nat} (h : (L.getD k default).tm ≤ t) : zJr L t (k + 1) = some (k, if k + 1 = L.length then -1 else ((k + 1 : Nat) : Int)) := by
 show (if _ then _ else _) = _; rw [if_pos h]
/-! ### What is shown -/
structure zG4 where
 id : Int
 p0 : Int
 p1 : Int
 p2 : Int
 a : BitVec 16
 m : Int
instance : Inhabited zG4 := ⟨⟨0, 0, 0, 0, 0#16, 0⟩⟩
def zCJ (p : zG4) : List Value := [.int .i64 p.id, .int .i64 p.p0, .int .i64 p.p1, .int .i64 p.p2, .int .u16 ((p.a.toNat : Nat) : Int), .int .i64 p.m]
def zEI : List RI → Nat
 | [] => 0
 | x :: l => if zAB x.t x.tm x.l ≠ 0 then zAB x.t x.tm x.l else zEI l
theorem zIs {L : List RI} {j : Nat} (h : j < L.length) : zEI (L.drop j) = if zAB (L.getD j default).t (L.getD j default).tm (L.getD j default).l ≠ 0 then zAB (L.getD j default).t (L.getD j default).tm (L.getD j default).l else zEI (L.drop (j + 1)) := by
 rw [List.drop_eq_getElem_cons h, zEI, List.getD_eq_getElem?_getD, List.getElem?_eq_getElem h]; rfl
theorem zOS {L : List RI} {j : Nat} {e : Nat} (h : j < L.length) (he : zEI (L.drop j) = e) (h0 : ((zAB (L.getD j default).t (L.getD j default).tm (L.getD j default).l : Nat) : Int) = 0) : zEI (L.drop (j + 1)) = e := by
 rw [← he, zIs h, if_neg (by omega)]
theorem zRX {L : List RI} {j : Nat} {e : Nat} (h : j < L.length) (he : zEI (L.drop j) = e) (h0 : ((zAB (L.getD j default).t (L.getD j default).tm (L.getD j default).l : Nat) : Int) ≠ 0) : zAB (L.getD j default).t (L.getD j default).tm (L.getD j default).l = e := by
 rw [← he, zIs h, if_pos (by omega)]
theorem zQi {L : List RI} {j : Nat} {e : Nat} (h : L.length ≤ j) (he : zEI (L.drop j) = e) : 0 = e := by
 rw [← he, List.drop_eq_nil_of_le h]; rfl
theorem zO2 {L : List RI} (h : zEI L = 0) : ∀ x ∈ L, zAB x.t x.tm x.l = 0 := by
 induction L with
 | nil => intro x hx; cases hx
 | cons y l ih =>
   unfold zEI at h
   split at h
   · next h2 => exact absurd h h2
   · next h2 =>
     intro x hx
     rcases List.mem_cons.1 hx with e | e
     · rw [e]; exact Decidable.not_not.1 h2
     · exact ih h x e
def zE8 (c : zAa) (L : List RI) : Nat := if zCp c ≠ 0 then zCp c else zEI L
theorem zY3 {c : zAa} {L : List RI} (h : ((zCp c : Nat) : Int) ≠ 0) : zCp c = zE8 c L := (if_pos (by omega)).symm
theorem zVB {c : zAa} {L : List RI} {e : Nat} (h : ((zCp c : Nat) : Int) = 0) (he : e = zEI L) : e = zE8 c L := by unfold zE8; rw [if_neg (by omega), he]
theorem zQf {c : zAa} {L : List RI} (h : zE8 c L = 0) : zCp c = 0 ∧ zEI L = 0 := by
 unfold zE8 at h
 split at h
 · next h2 => exact absurd h h2
 · next h2 => exact ⟨Decidable.not_not.1 h2, h⟩
def zB1 (x : zX) : zG4 := ⟨x.id, x.p0, x.p1, x.p2, x.a, 0⟩
def pL (n d x y : Int) : Int := bif zBR n d == 0 then zCo x y n d else 0
def pC (n d x u y v : Int) : Int := bif zBR n d == 0 then cAt x u y v n d else 0
def pA (n d : Int) (x y : BitVec 16) : BitVec 16 := bif zBR n d == 0 then zX6 x y n d else 0#16
def pW (c : Bool) (n d x u y v : Int) : Int := bif c then pC n d x u y v else pL n d x y
def zap (c : Bool) (n d : Int) (x y : zX) : zG4 := ⟨x.id, pW c n d x.p0 x.v0 y.p0 y.v0, pW c n d x.p1 x.v1 y.p1 y.v1, pW c n d x.p2 x.v2 y.p2 y.v2, pA n d x.a y.a, bif c then 2 else 1⟩
def zSF (c : Bool) (n d : Int) (B : List zX) (x : zX) : zG4 := if (zA5 x.id B).isSome = true ∧ ((zA5 x.id B).getD zCz).g = x.g then zap c n d x ((zA5 x.id B).getD zCz) else zB1 x
def zD6 (c : zAa) (a b : RI) (t : Int) : Nat := if zE8 c [a, b] ≠ 0 then zE8 c [a, b] else (zAn a b t).2.2
def zDY (c : zAa) (a b : RI) (t : Int) : List zG4 := if zD6 c a b t ≠ 0 then [] else a.l.map (zSF c.curve (zAn a b t).1 (zAn a b t).2.1 b.l)
def zYK (m k : Int) (x : zX) : zG4 := ⟨x.id, zCm x.p0 (zAp x.v0 k), zCm x.p1 (zAp x.v1 k), zCm x.p2 (zAp x.v2 k), x.a, m⟩
def zDz (c : zAa) (x : RI) (t : Int) : Nat := if zE8 c [x] ≠ 0 then zE8 c [x] else (zHq x t).2
def zJV (c : zAa) (d : Int) : Int := if d = 0 then 0 else if c.extra < d then 4 else 3
def zIL (c : zAa) (d : Int) : Int := if d = 0 then d else if c.extra < d then c.extra else d
def zDM (c : zAa) (x : RI) (t : Int) : List zG4 := if zDz c x t ≠ 0 then [] else x.l.map (zYK (zJV c (zHq x t).1) (zIL c (zHq x t).1))
def zDy (c : zAa) (L : List RI) (t : Int) : List zG4 × Nat :=
 if zE8 c L ≠ 0 then ([], zE8 c L) else if (zBA L t).2.2 ≠ 0 then ([], (zBA L t).2.2)
 else if (zBA L t).2.1 < 0 then (zDM c (L.getD (zBA L t).1.toNat default) t, zDz c (L.getD (zBA L t).1.toNat default) t)
 else (zDY c (L.getD (zBA L t).1.toNat default) (L.getD (zBA L t).2.1.toNat default) t, zD6 c (L.getD (zBA L t).1.toNat default) (L.getD (zBA L t).2.1.toNat default) t)
structure RI.ok (w : World) (x : RI) : Prop where
 t : -9223372036854775808 ≤ x.t ∧ x.t ≤ 9223372036854775807
 tm : -9223372036854775808 ≤ x.tm ∧ x.tm ≤ 9223372036854775807
 rd : Rd w [] x.v 9 x.l.length (x.l.flatMap zBK)
 wf : ∀ e ∈ x.l, e.wf
theorem RI.ok.to {x : RI} {w0 w : World} {M : List HA} (h : x.ok w0) (hm : Mem w0 [] M w) : x.ok w := ⟨h.t, h.tm, hm.rd0 h.rd, h.wf⟩
theorem zZq {x : RI} {w : World} (h : x.ok w) : ∀ z ∈ [x], z.ok w := by
 intro z hz; rw [List.mem_singleton] at hz; rw [hz]; exact h
theorem zYx {x y : RI} {w : World} (h : x.ok w) (h2 : y.ok w) : ∀ z ∈ [x, y], z.ok w := by
 intro z hz; rw [List.mem_cons, List.mem_singleton] at hz; rcases hz with e | e <;> rw [e] <;> assumption
theorem zZP {L : List RI} {w : World} (h : ∀ x ∈ L, x.ok w) : ∀ x ∈ L, zDV x.v x.l.length := fun x hx => (h x hx).rd.isSl
theorem zCV {f : zX → zG4} {l : List zX} {j : Nat} (h : j < l.length) : (l.take j).map f ++ [f (l.getD j default)] = (l.take (j + 1)).map f := by
 rw [List.take_succ_eq_append_getElem h, List.map_append, List.getD_eq_getElem?_getD, List.getElem?_eq_getElem h]; rfl
theorem zMP : zCz.wf := by constructor <;> (show _ ≤ (0 : Int) ∧ (0 : Int) ≤ _; omega)
theorem zV5 {l : List zX} {k : Int} (h : ∀ e ∈ l, e.wf) : ((zA5 k l).getD zCz).wf := by
 cases hg : zA5 k l with
 | none => exact zMP
 | some e => exact h e (zFe hg).1
theorem zM4 {c : zAa} {L : List RI} {x : RI} (h : zE8 c L = 0) (hx : x ∈ L) : x.l.length ≤ 64 := by
 have h1 := zO2 (zQf h).2 x hx
 unfold zAB at h1
 split at h1
 · cases h1
 · split at h1
   · cases h1
   · omega
theorem zMx (x : RI) (t : Int) : -9223372036854775808 ≤ (zHq x t).1 ∧ (zHq x t).1 ≤ 9223372036854775807 := by
 unfold zHq
 split
 · dsimp only; omega
 · split
   · dsimp only; omega
   · exact zBt _ _
theorem zEw {c : zAa} {d : Int} (h : d = 0) : 0 = zJV c d ∧ d = zIL c d := by unfold zJV zIL; rw [if_pos h, if_pos h]; exact ⟨rfl, rfl⟩
theorem zEz {c : zAa} {d : Int} (h : d ≠ 0) (h2 : c.extra < d) : 4 = zJV c d ∧ c.extra = zIL c d := by unfold zJV zIL; rw [if_neg h, if_neg h, if_pos h2, if_pos h2]; exact ⟨rfl, rfl⟩
theorem zEu {c : zAa} {d : Int} (h : d ≠ 0) (h2 : ¬ c.extra < d) : 3 = zJV c d ∧ d = zIL c d := by unfold zJV zIL; rw [if_neg h, if_neg h, if_neg h2, if_neg h2]; exact ⟨rfl, rfl⟩
theorem zVb {c : zAa} {x : RI} {t : Int} (h : ((zE8 c [x] : Nat) : Int) ≠ 0) : zDz c x t = zE8 c [x] := if_pos (by omega)
theorem zOm {c : zAa} {x : RI} {t : Int} (h : zE8 c [x] = 0) : zDz c x t = (zHq x t).2 := by unfold zDz; rw [if_neg (by omega)]
theorem zXO {c : zAa} {x : RI} {t : Int} (h : zDz c x t = 0) : zDM c x t = x.l.map (zYK (zJV c (zHq x t).1) (zIL c (zHq x t).1)) := by unfold zDM; rw [if_neg (by omega)]
theorem zPx {c : zAa} {x : RI} {t : Int} (h : ((zDz c x t : Nat) : Int) ≠ 0) : zDM c x t = [] := by unfold zDM; rw [if_pos (by omega)]
theorem zVr {c : zAa} {x y : RI} {t : Int} (h : ((zE8 c [x, y] : Nat) : Int) ≠ 0) : zD6 c x y t = zE8 c [x, y] := if_pos (by omega)
theorem zQA {c : zAa} {x y : RI} {t : Int} (h : zE8 c [x, y] = 0) : zD6 c x y t = (zAn x y t).2.2 := by unfold zD6; rw [if_neg (by omega)]
theorem zVS {c : zAa} {x y : RI} {t : Int} (h : zD6 c x y t = 0) : zDY c x y t = x.l.map (zSF c.curve (zAn x y t).1 (zAn x y t).2.1 y.l) := by unfold zDY; rw [if_neg (by omega)]
theorem zOp {c : zAa} {x y : RI} {t : Int} (h : ((zD6 c x y t : Nat) : Int) ≠ 0) : zDY c x y t = [] := by unfold zDY; rw [if_pos (by omega)]
theorem zWt {c : zAa} {L : List RI} {t : Int} (h : ((zE8 c L : Nat) : Int) ≠ 0) : zDy c L t = ([], zE8 c L) := if_pos (by omega)
theorem zVZ {c : zAa} {L : List RI} {t : Int} (h : zE8 c L = 0) (h2 : (((zBA L t).2.2 : Nat) : Int) ≠ 0) : zDy c L t = ([], (zBA L t).2.2) := by unfold zDy; rw [if_neg (by omega), if_pos (by omega)]
theorem zXh {c : zAa} {L : List RI} {t : Int} {i : Nat} (h : zE8 c L = 0) (h2 : (zBA L t).2.2 = 0) (h3 : (zBA L t).1 = (i : Int)) (h4 : (zBA L t).2.1 < 0) : zDy c L t = (zDM c (L.getD i default) t, zDz c (L.getD i default) t) := by
 unfold zDy; rw [if_neg (by omega), if_neg (by omega), if_pos h4, h3]; rfl
theorem zXR {c : zAa} {L : List RI} {t : Int} {i k : Nat} (h : zE8 c L = 0) (h2 : (zBA L t).2.2 = 0) (h3 : (zBA L t).1 = (i : Int)) (h4 : (zBA L t).2.1 = (k : Int)) : zDy c L t = (zDY c (L.getD i default) (L.getD k default) t, zD6 c (L.getD i default) (L.getD k default) t) := by
 unfold zDy; rw [if_neg (by omega), if_neg (by omega), if_neg (by omega), h3, h4]; rfl
theorem zQb {l : List zX} {i : Nat} (h : i < l.length) : l.getD i default ∈ l := by
 rw [List.getD_eq_getElem?_getD, List.getElem?_eq_getElem h]; exact List.getElem_mem h
theorem zae {b : Bool} {q : Prop} (h : b = false) : ¬ (b = true ∧ q) := fun k => by rw [h] at k; cases k.1
theorem zam {p : Prop} {a b : BitVec 8} (h : ((a.toNat : Nat) : Int) ≠ ((b.toNat : Nat) : Int)) : ¬ (p ∧ a = b) := fun k => h (by rw [k.2])
theorem zXM {c : Bool} {n d : Int} {B : List zX} {x : zX} (h : (zA5 x.id B).isSome = true ∧ ((zA5 x.id B).getD zCz).g = x.g) : zSF c n d B x = zap c n d x ((zA5 x.id B).getD zCz) := if_pos h
theorem zQ7 {c : Bool} {n d : Int} {B : List zX} {x : zX} (h : ¬ ((zA5 x.id B).isSome = true ∧ ((zA5 x.id B).getD zCz).g = x.g)) : zSF c n d B x = zB1 x := if_neg h
end Go.Sx
/- Slices with an offset that a call owns: elements of one cell. -/
set_option linter.unusedVariables false
set_option linter.unusedSimpArgs false
namespace Go.Sx
open Go.RowKit
variable {P : Program} {ops : Array Oper} {Q : Exit → Act → World → Prop} {rest : List Oper} {n : Nat} {F : List (Nat × Value)} {w0 : World} {S : List Nat} {M : List HA} {a : Act} {w : World}
variable {d : Nat} {ty : TypeId} {pos : String} {af : Array Edge}
def zLc (v : Value) (e : TypeId) (xs : List Value) (w : World) : Prop := (v = .slice none 0 0 ∧ xs = []) ∨
 ∃ g o cap cur, v = .slice (some ⟨g, o, none⟩) xs.length cap ∧ w.heap[g]? = some (.cells cur e (0, 0)) ∧ xs.length ≤ cap ∧ cap ≤ maxLen ∧ o + cap ≤ cur.size ∧ (cur.toList.drop o).take xs.length = xs
def rwo (v : Value) (e : TypeId) (xs : List Value) : HA where
 foot := v.ownBlock.toList
 p w := zLc v e xs w
 loc w w' h hp := by
   rcases hp with hn | ⟨g, o, cap, cur, rfl, hg, rest⟩
   · exact .inl hn
   · refine .inr ⟨g, o, cap, cur, rfl, ?_, rest⟩
     rw [h g (by simp [Value.ownBlock])]
     exact hg
 lt w h k hk := by
   rcases h with ⟨rfl, _⟩ | ⟨g, o, cap, cur, rfl, hg, _⟩
   · simp [Value.ownBlock] at hk
   · have : k = g := by simpa [Value.ownBlock] using hk
     subst this
     exact (Array.getElem?_eq_some_iff.1 hg).1
theorem zFc (g o j : Nat) : (⟨g, o, none⟩ : Addr).add j = ⟨g, o + j, none⟩ := by unfold Addr.add; split <;> simp_all
theorem zMm {w : World} {g o : Nat} {cur : Array Value} {e : TypeId} {fr : Nat × Nat} (hg : w.heap[g]? = some (.cells cur e fr)) (j : Nat) : w.cell? ⟨g, j, none⟩ = cur[j]? := by
 simp [World.cell?, hg]
theorem zUf {v : Value} {e : TypeId} {xs : List Value} (h : zLc v e xs w) : Rd w [] v 1 xs.length xs := by
 rcases h with ⟨rfl, rfl⟩ | ⟨g, o, cap, cur, rfl, hg, h1, h2, h3, h4⟩
 · exact zQz w [] 1
 · refine ⟨⟨_, cap, rfl, h1, h2⟩, by simp, fun _ => ⟨_, cap, rfl, by simp, (Array.getElem?_eq_some_iff.1 hg).1, fun j u hu => ?_⟩⟩
   rw [zFc, zMm (o := o) hg]
   have hj : j < xs.length := (List.getElem?_eq_some_iff.1 hu).1
   rw [← h4, List.getElem?_take, if_pos hj, List.getElem?_drop, Array.getElem?_toList] at hu
   exact hu
theorem zM9 {v x : Value} {e : TypeId} {xs : List Value} (h : zLc v e (x :: xs) w) : zLc (zFW v 1 1 (xs.length + 1)) e xs w ∧ (zFW v 1 1 (xs.length + 1)).ownBlock = v.ownBlock := by
 rcases h with ⟨_, h⟩ | ⟨g, o, cap, cur, rfl, hg, h1, h2, h3, h4⟩
 · cases h
 · simp only [List.length_cons] at h1 h4 ⊢
   by_cases hc : cap = 1
   · subst hc
     have h0 : xs = [] := List.eq_nil_of_length_eq_zero (by omega)
     subst h0
     refine ⟨.inr ⟨g, o, 0, cur, by simp [zFW], hg, by simp, by simp [maxLen], by omega, by simp⟩, by simp [zFW, Value.ownBlock]⟩
   · refine ⟨.inr ⟨g, o + 1, cap - 1, cur, by simp [zFW, hc, zFc], hg, by omega, by omega, by omega, ?_⟩, by simp [zFW, hc, Value.ownBlock, zFc]⟩
     have h5 := congrArg (List.drop 1) h4
     rw [List.drop_take, List.drop_drop] at h5
     simpa using h5
theorem zNX {v x : Value} {e : TypeId} {xs : List Value} (h : zLc v e (xs ++ [x]) w) : zLc (zFW v 1 0 xs.length) e xs w ∧ (zFW v 1 0 xs.length).ownBlock = v.ownBlock := by
 rcases h with ⟨_, h⟩ | ⟨g, o, cap, cur, rfl, hg, h1, h2, h3, h4⟩
 · simp at h
 · simp only [List.length_append, List.length_singleton] at h1 h4
   refine ⟨.inr ⟨g, o, cap, cur, by simp [zFW, show ¬ cap = 0 by omega, zFc], hg, by omega, h2, h3, ?_⟩, by simp [zFW, show ¬ cap = 0 by omega, Value.ownBlock, zFc]⟩
   have h5 := congrArg (List.take xs.length) h4
   rw [List.take_take, Nat.min_eq_left (by omega)] at h5
   simpa using h5
theorem zH7 {v v' : Value} {e : TypeId} {xs xs' : List Value} (h : zLc v' e xs' w) (hb : v'.ownBlock = v.ownBlock) : Mem w (zM [rwo v e xs]) [rwo v' e xs'] w := by
 refine ⟨Chg.refl _ _, ?_, by cases hv : v'.ownBlock <;> simp [zM, rwo, hv], fun k hk => .inl (by simpa [zM, rwo, hb] using hk)⟩
 intro y hy
 simp only [List.mem_singleton] at hy
 subst hy
 exact h
theorem St.rwoInit {v x : Value} {e : TypeId} {xs : List Value} {M' : List HA} (hs : St n F w0 S M a w) (hb : Del M (rwo v e (xs ++ [x])) M') : St n F w0 S (rwo (zFW v 1 0 xs.length) e xs :: M') a w :=
 hs.frame (.c hb .n) (zH7 (zNX (hs.mem.del hb)).1 (zNX (hs.mem.del hb)).2)
theorem zQd {v : Value} {e : TypeId} {b : Nat} {xs : List Value} (h : w.ownsRow b e 1 v xs.length xs) : zLc v e xs w := by
 rcases h.2 with ⟨rfl, h0⟩ | ⟨g, cap, cur, rfl, _, hg, h1, h2, h3, h4⟩
 · exact .inl ⟨rfl, List.eq_nil_of_length_eq_zero h0⟩
 · exact .inr ⟨g, 0, cap, cur, rfl, hg, h1, h2, by omega, by simpa using h4⟩
theorem zTF {L xs : List Value} {u : Value} (h : L.take xs.length = xs) (hl : xs.length < L.length) : (L.set xs.length u).take (xs.length + 1) = xs ++ [u] := by
 conv => rhs; rw [← h]
 generalize xs.length = n at *
 rw [List.take_add_one, List.getElem?_set_self hl, List.take_set_of_le (Nat.le_refl _)]
 rfl
theorem zR4 {t ty e : TypeId} {i : TypeInfo} {z u : Value} {bytes : Nat} (ht : P.underlying t = some (.slice e)) (hi : P.info? e = some i) (hz : i.zero = some z) (hsize : i.size = 1) (hby : i.bytes = bytes) (hzs : z.cells.size = 1)
   {v : Value} {xs : List Value} (h : zLc v e xs w) {ad : Addr} {c : Nat} (hnews : ∀ j x, [u][j]? = some x → w.cell? (ad.add j) = some x) (h1 : u.oneCell' = true)
   (h63 : xs.length + 1 ≤ maxLen) (hbytes : (xs.length + 1) * bytes ≤ 140737488355328) :
   ∃ v' w', (Builtin.append_ #[t, t] ty #[v, .slice (some ad) 1 c]).run P w = .ok v' w' ∧ zLc v' e (xs ++ [u]) w' ∧ w.grownBy w' v.ownBlock ∧ (v'.ownBlock = v.ownBlock ∨ ∃ b, v'.ownBlock = some b ∧ w.heap.size ≤ b) := by
 have h1' : ∀ x ∈ [u], x.oneCell' = true := by intro x hx; rw [List.mem_singleton] at hx; rw [hx]; exact h1
 have hl : (xs ++ [u]).length = xs.length + 1 := by simp
 rcases h with ⟨rfl, rfl⟩ | ⟨g, o, cap, cur, rfl, hg, a1, a2, a3, a4⟩
 · obtain ⟨v', w', hr, h2, h3, _, h5⟩ := run_append_own_at (P := P) w 0 t ty e i z 1 bytes ht hi hz hsize hby hzs (by decide) _ 0 [] (World.ownsRow_nil w 0 e 1) ad 1 c [u] rfl hnews h1' h63 hbytes (Nat.zero_le _)
   exact ⟨v', w', hr, zQd (by simpa using h2), h3, h5.imp id fun h => ⟨_, h, Nat.le_refl _⟩⟩
 · by_cases hroom : xs.length + 1 ≤ cap
   · have hr := run_append_room_cells (P := P) w t ty e i ht hi g o xs.length cap ad 1 c [u] (by simp [hsize]) hnews h1' hroom
       (fun j hj => by
         have : j = 0 := by simpa using hj
         subst this
         rw [zMm (o := o) hg, hsize, Nat.mul_one, Nat.add_zero, Array.getElem?_eq_getElem (by omega)]; rfl)
       (fun j hj => by simp [World.frozen?, hg])
     rw [hsize, Nat.mul_one] at hr
     refine ⟨_, _, hr, .inr ⟨g, o, cap, cur.setIfInBounds (o + xs.length) u, by rw [hl], ?_, by omega, a2, by simpa using a3, ?_⟩, ⟨rfl, rfl, rfl, by simp [World.setCells, World.setCell], fun k hk hS => ?_⟩, .inl rfl⟩
     · simp [World.setCells, World.setCell, Array.getElem?_modify, hg]
     · rw [hl, Array.toList_setIfInBounds, List.drop_set, if_neg (by omega), show o + xs.length - o = xs.length by omega]
       exact zTF a4 (by simp; omega)
     · have : ¬ g = k := fun e => hS (by simp [Value.ownBlock, e])
       simp [World.setCells, World.setCell, Array.getElem?_modify, this]
   · obtain ⟨v', w', hr, h2, h3⟩ := run_append_arg_grows (P := P) w t ty e i z 1 bytes ht hi hz hsize hby hzs (by decide) ⟨g, o, none⟩ xs.length cap xs (by simp)
       (fun j x hx => (zUf (.inr ⟨g, o, cap, cur, rfl, hg, a1, a2, a3, a4⟩)).at_ (by have := (List.getElem?_eq_some_iff.1 hx).1; omega) |> fun ⟨ad', c', e', _, _, hcell⟩ => by injection e' with e1 _ _; injection e1 with e1; subst e1; exact hcell j x hx)
       ad 1 c [u] rfl hnews (by omega) h63 hbytes
     have hv : ∃ b, v'.ownBlock = some b ∧ w.heap.size ≤ b := by
       rcases h2.2 with ⟨_, h0⟩ | ⟨g', cap', cur', rfl, hb, hg', _⟩
       · omega
       · exact ⟨g', rfl, hb⟩
     exact ⟨v', w', hr, zQd (by simpa using h2), ⟨h3.os, h3.tape, h3.output, h3.size, fun k hk _ => h3.block k hk (by simp)⟩, .inr hv⟩
theorem zS9 {w' : World} {v v' : Value} {e : TypeId} {xs xs' : List Value} (hg : w.grownBy w' v.ownBlock) (ho : zLc v' e xs' w') (hat : v'.ownBlock = v.ownBlock ∨ ∃ b, v'.ownBlock = some b ∧ w.heap.size ≤ b) : Mem w (zM [rwo v e xs]) [rwo v' e xs'] w' := by
 refine ⟨⟨hg.os, hg.tape, hg.output, hg.size, fun k hk hS => hg.block k hk (fun e => hS (by simp [zM, rwo, ← e]))⟩, ?_, by cases hv : v'.ownBlock <;> simp [zM, rwo, hv], fun k hk => ?_⟩
 · intro y hy
   simp only [List.mem_singleton] at hy
   subst hy
   exact ho
 · simp only [zM, rwo, List.flatMap_cons, List.flatMap_nil, List.append_nil, Option.mem_toList] at hk ⊢
   rcases hat with h | ⟨b, h, hb⟩
   · left; rw [← h]; exact hk
   · right
     have h2 : some k = some b := hk.symm.trans h
     injection h2 with h2
     omega
theorem zJ3 {x y : Operand} {v u uv z : Value} {t e : TypeId} {bytes : Nat} {xs : List Value} {T : List Nat} {M' : List HA} {i : TypeInfo}
   (hs : St n F w0 S M a w) (hx : evo F x = some v) (hy : evo F y = some uv) (hb : Del M (rwo v e xs) M') (hr : Rd w T uv 1 1 [u]) (h1 : u.oneCell' = true)
   (ht : P.underlying t = some (.slice e)) (hi : P.info? e = some i) (hz : i.zero = some z) (hsize : i.size = 1) (hby : i.bytes = bytes) (hzs : z.cells.size = 1)
   (hbytes : (xs.length + 1) * bytes ≤ 140737488355328) (h63 : xs.length + 1 ≤ maxLen) (hd : Nat.blt d n = true)
   (k : ∀ v' a w, St n ((d, v') :: F) w0 S (rwo v' e (xs ++ [u]) :: M') a w → wpList P ops Q rest a w) :
   wpList P ops Q (⟨some d, .call { callee := .builtin .append, args := #[x, y], argTypes := #[t, t] }, ty, pos, af, none⟩ :: rest) a w := by
 obtain ⟨ad, c, rfl, _, _, hcell⟩ := hr.at_ (by decide)
 obtain ⟨v', w', hrun, h2, h3, h5⟩ := zR4 (P := P) (w := w) (ty := ty) (c := c) ht hi hz hsize hby hzs (hs.mem.del hb) hcell h1 h63 hbytes
 refine zDP rfl rfl (v := v') (w' := w') ?_ (k v' _ _ ((hs.frame (.c hb .n) (zS9 h3 h2 h5)).put hd v'))
 simp [execOp, resolve, invoke, builtin, hs.ev hx, hs.ev hy, hrun]
theorem St.rerwo {v : Value} {e : TypeId} {xs xs' : List Value} {M' : List HA} (hs : St n F w0 S M a w) (hb : Del M (rwo v e xs) M') (hx : xs = xs') : St n F w0 S (rwo v e xs' :: M') a w :=
 hs.frame (.c hb .n) (zH7 (by rw [← hx]; exact hs.mem.del hb) rfl)
/-! ### Numbers -/
def iV (l : List Int) : List Value := l.map (Value.int .i64)
theorem zEB (l : List Int) : (iV l).length = l.length := by simp [iV]
theorem zLM (l : List Int) (j : Nat) (h : j < l.length) : (iV l)[j]? = some (.int .i64 (l.getD j 0)) := by
 simp [iV, List.getD_eq_getElem?_getD, List.getElem?_eq_getElem h]
theorem zIc (l : List Int) (x : Int) : iV l ++ [.int .i64 x] = iV (l ++ [x]) := by simp [iV]
theorem zOg {l : List Int} (h : ((l.length : Nat) : Int) = 0) : Value.tuple #[.int .i64 0, .bool false] = Value.tuple #[.int .i64 (l.getD 0 0), .bool (decide (0 < l.length))] := by
 rw [show l = [] from List.eq_nil_of_length_eq_zero (by omega)]; rfl
theorem zOM {l : List Int} (h : ¬ ((l.length : Nat) : Int) = 0) : Value.tuple #[.int .i64 (l.getD 0 0), .bool true] = Value.tuple #[.int .i64 (l.getD 0 0), .bool (decide (0 < l.length))] := by
 rw [show decide (0 < l.length) = true from decide_eq_true (by omega)]
def zC8 (v : Value) (l : List Int) (x : Int) : Value := if l.getD 0 0 = x then zFW v 1 1 l.length else v
def zJw (l : List Int) (x : Int) : List Int := if l.getD 0 0 = x then l.drop 1 else l
theorem zSo {v : Value} {l : List Int} {x : Int} (h : l.getD 0 0 = x) : zFW v 1 1 l.length = zC8 v l x := (if_pos h).symm
theorem zS8 {v : Value} {l : List Int} {x : Int} (h : ¬ l.getD 0 0 = x) : v = zC8 v l x := (if_neg h).symm
theorem zNR {v : Value} {e : TypeId} {l : List Int} (x : Int) (hl : 0 < l.length) (h : zLc v e (iV l) w) : zLc (zC8 v l x) e (iV (zJw l x)) w ∧ (zC8 v l x).ownBlock = v.ownBlock := by
 unfold zC8 zJw
 by_cases hx : l.getD 0 0 = x
 · rw [if_pos hx, if_pos hx]
   cases l with
   | nil => cases hl
   | cons y t =>
     have := zM9 (v := v) (x := .int .i64 y) (xs := iV t) (e := e) (by simpa [iV] using h)
     rw [zEB] at this
     exact this
 · rw [if_neg hx, if_neg hx]
   exact ⟨h, rfl⟩
theorem St.rwoDrop {v : Value} {e : TypeId} {l : List Int} {M' : List HA} (hs : St n F w0 S M a w) (hb : Del M (rwo v e (iV l)) M') (x : Int) (hl : 0 < l.length) : St n F w0 S (rwo (zC8 v l x) e (iV (zJw l x)) :: M') a w :=
 hs.frame (.c hb .n) (zH7 (zNR x hl (hs.mem.del hb)).1 (zNR x hl (hs.mem.del hb)).2)
def zJR (f : Int → Int → Bool) (l : List Int) (x : Int) : Nat → Nat
 | 0 => 0
 | k + 1 => if f (l.getD k 0) x then zJR f l x k else k + 1
def zDc (f : Int → Int → Bool) (l : List Int) (x : Int) : List Int := l.take (zJR f l x l.length) ++ [x]
theorem zPa {f : Int → Int → Bool} {l : List Int} {x : Int} {k m : Nat} (h : zJR f l x k = m) (h0 : 0 < k) (hf : f (l.getD (k - 1) 0) x = true) : zJR f l x (k - 1) = m := by
 obtain ⟨j, rfl⟩ : ∃ j, k = j + 1 := ⟨k - 1, by omega⟩
 rw [zJR, show j + 1 - 1 = j from rfl] at *
 rw [if_pos hf] at h
 exact h
theorem zIz {f : Int → Int → Bool} {l : List Int} {x : Int} {k m : Nat} (h : zJR f l x k = m) (hf : k = 0 ∨ f (l.getD (k - 1) 0) x = false) : k = m := by
 rcases Nat.eq_zero_or_pos k with h0 | h0
 · subst h0; exact h
 · obtain ⟨j, rfl⟩ : ∃ j, k = j + 1 := ⟨k - 1, by omega⟩
   rcases hf with hf | hf
   · omega
   · rw [show j + 1 - 1 = j from rfl] at hf
     rw [zJR, if_neg (by rw [hf]; decide)] at h
     exact h
theorem St.rwoPop {v : Value} {e : TypeId} {l : List Int} {k : Nat} {M' : List HA} (hs : St n F w0 S M a w) (hb : Del M (rwo v e (iV (l.take k))) M') (h0 : 0 < k) (hk : k ≤ l.length) : St n F w0 S (rwo (zFW v 1 0 (k - 1)) e (iV (l.take (k - 1))) :: M') a w := by
 have e1 : iV (l.take k) = iV (l.take (k - 1)) ++ [.int .i64 (l.getD (k - 1) 0)] := by
   rw [zIc]
   congr 1
   rw [List.getD_eq_getElem?_getD, List.getElem?_eq_getElem (by omega)]
   conv => lhs; rw [show k = (k - 1) + 1 by omega]
   rw [List.take_add_one, List.getElem?_eq_getElem (by omega)]
   rfl
 rw [e1] at hb
 have h2 := hs.rwoInit hb
 rw [zEB, List.length_take, Nat.min_eq_left (by omega)] at h2
 exact h2
theorem zAu {v : Value} {e : TypeId} {l : List Int} {m : Nat} (h : zLc v e (iV l) w) (hn : l.length = m) : Rd w [] v 1 m (iV l) := by
 have := zUf h
 rw [zEB, hn] at this
 exact this
theorem zXx (l : List Int) (k j : Nat) (hj : j < k) (hk : k ≤ l.length) : (iV (l.take k))[j]? = some (.int .i64 (l.getD j 0)) := by
 rw [zLM _ j (by rw [List.length_take]; omega)]
 simp only [List.getD_eq_getElem?_getD, List.getElem?_take, if_pos hj]
theorem zWY {v : Value} {e : TypeId} {xs : List Value} (h : (rwo v e xs).p w) : Mem w (zM [rwo v e xs]) [rwo v e xs] w := zH7 h rfl
def zTX (c : Int) (l : List Int) (x : Int) : List Int := (if ((l.length : Nat) : Int) = c then l.drop 1 else l) ++ [x]
def wD (c : Int) (l q : List Int) : List Int := if ((l.length : Nat) : Int) = c then zJw q (l.getD 0 0) else q
theorem zKj (q : List Int) (x : Int) : (zJw q x).length ≤ q.length := by unfold zJw; split <;> simp
theorem zLP {v : Value} {m : Nat} (l : List Int) (x : Int) (h : zDV v m) : ∃ k, zDV (zC8 v l x) k := by
 obtain ⟨A, c, rfl⟩ := h
 unfold zC8
 split
 · exact ⟨_, _, _, rfl⟩
 · exact ⟨_, _, _, rfl⟩
theorem zUs {v : Value} {e : TypeId} {l : List Int} (hl : 0 < l.length) (h : zLc v e (iV l) w) : zLc (zFW v 1 1 l.length) e (iV (l.drop 1)) w ∧ (zFW v 1 1 l.length).ownBlock = v.ownBlock := by
 cases l with
 | nil => cases hl
 | cons y t =>
   have := zM9 (v := v) (x := .int .i64 y) (xs := iV t) (e := e) (by simpa [iV] using h)
   rw [zEB] at this
   exact this
theorem St.rwoTl {v : Value} {e : TypeId} {l : List Int} {M' : List HA} (hs : St n F w0 S M a w) (hb : Del M (rwo v e (iV l)) M') (hl : 0 < l.length) : St n F w0 S (rwo (zFW v 1 1 l.length) e (iV (l.drop 1)) :: M') a w :=
 hs.frame (.c hb .n) (zH7 (zUs hl (hs.mem.del hb)).1 (zUs hl (hs.mem.del hb)).2)
end Go.Sx
/- A clock's states: plain mathematics. -/
set_option linter.unusedVariables false
namespace Go.Sx
structure KS where
 l1 : List Int
 l2 : List Int
 l3 : List Int
 s : Int
 t : Int
 b : Int
 j : Int
 now : Int
abbrev gtI : Int → Int → Bool := fun p q => decide (q < p)
abbrev ltI : Int → Int → Bool := fun p q => decide (p < q)
def KS.off (K : KS) : Int := K.l2.getD 0 0
def zWe (c : zAa) (K : KS) (x y : Int) : KS :=
 let d := zBJ x y
 let m2 := zDc gtI (wD c.window K.l1 K.l2) d
 let j := zEK K.j (zBJ d (m2.getD 0 0))
 ⟨zTX c.window K.l1 d, m2, zDc ltI (wD c.window K.l1 K.l3) d, K.s, K.t, K.b, j, zRw c K.now j⟩
def zTE (K : KS) (x : Int) : Int := zBJ (zBJ x (K.l2.getD 0 0)) K.now
def zP8 (c : zAa) (K : KS) (x : Int) : KS := if 0 < K.l2.length then { K with s := sS c.num c.den K.s K.t K.b x (zTE K x), t := sT K.t K.b x, b := 1 } else K
def kTm (c : zAa) (K : KS) (x : Int) : Int := if 0 < K.l2.length then sS c.num c.den K.s K.t K.b x (zTE K x) else 0
def K0 (c : zAa) : KS := ⟨[], [], [], 0, 0, 0, 0, zIH c 0⟩
structure KS.ok (c : zAa) (K : KS) : Prop where
 h1 : ((K.l1.length : Nat) : Int) ≤ c.window
 s2 : K.l2.Sublist K.l1
 s3 : K.l3.Sublist K.l1
 h0 : 0 < K.l1.length → 0 < K.l2.length ∧ 0 < K.l3.length
 r : ∀ x ∈ K.l1, R64 x
 s : R64 K.s
 t : R64 K.t
 j : R64 K.j
 now : c.least ≤ K.now ∧ K.now ≤ c.most
theorem zY1 {c : Int} {l q : List Int} (h : q.Sublist l) : (wD c l q).Sublist (if ((l.length : Nat) : Int) = c then l.drop 1 else l) := by
 unfold wD
 split
 · unfold zJw
   cases l with
   | nil => have := List.sublist_nil.1 h; subst this; simp
   | cons y l =>
     cases q with
     | nil => simp
     | cons z q =>
       show List.Sublist (if (z :: q).getD 0 0 = (y :: l).getD 0 0 then (z :: q).drop 1 else z :: q) l
       by_cases hz : z = y
       · rw [if_pos (by simpa using hz)]
         subst hz
         simpa using h
       · rw [if_neg (by simpa using hz)]
         cases h with
         | cons _ h => exact h
         | cons_cons _ h => exact absurd rfl hz
 · exact h
theorem zQT {f : Int → Int → Bool} {q l : List Int} {x : Int} (h : q.Sublist l) : (zDc f q x).Sublist (l ++ [x]) := by
 unfold zDc
 exact List.Sublist.append ((List.take_sublist _ _).trans h) (List.Sublist.refl _)
theorem zKH (f : Int → Int → Bool) (q : List Int) (x : Int) : 0 < (zDc f q x).length := by unfold zDc; simp
theorem zM0 {c : Int} {l : List Int} {x y : Int} (h : y ∈ zTX c l x) : y ∈ l ∨ y = x := by
 unfold zTX at h
 rcases List.mem_append.1 h with h | h
 · left
   split at h
   · exact List.mem_of_mem_drop h
   · exact h
 · right; simpa using h
theorem zJq {l : List Int} (h : ∀ x ∈ l, R64 x) : R64 (l.getD 0 0) := by
 cases l with
 | nil => show R64 0; omega
 | cons x l => exact h x (by simp)
theorem KS.ok.r2 {c : zAa} {K : KS} (h : K.ok c) : ∀ x ∈ K.l2, R64 x := fun x hx => h.r x (h.s2.subset hx)
theorem zMM {c : zAa} {K : KS} (h : K.ok c) (x : Int) (f : Int → Int → Bool) {q : List Int} (hq : q.Sublist K.l1) : (zDc f (wD c.window K.l1 q) x).Sublist (zTX c.window K.l1 x) := zQT (zY1 hq)
theorem zVi {c : zAa} {K : KS} (h : K.ok c) {d : Int} (hd : R64 d) : R64 ((zDc gtI (wD c.window K.l1 K.l2) d).getD 0 0) := by
 refine zJq fun y hy => ?_
 rcases zM0 ((zMM h d gtI h.s2).subset hy) with h1 | h1
 · exact h.r y h1
 · rw [h1]; exact hd
theorem zP2 {x y : Int} (hx : R64 x) (hy : R64 y) : R64 (zEK x y) := by
 have := zQl hx.2 hy.2
 omega
theorem zWm {c : zAa} {K : KS} {x y : Int} (hk : zCp c = 0) (h : K.ok c) : (zWe c K x y).ok c := by
 obtain ⟨⟨_, _, hw, _⟩, hd, _⟩ := zFP hk
 have hdr : R64 (zBJ x y) := zBt _ _
 refine ⟨?_, zMM h _ _ h.s2, zMM h _ _ h.s3, fun _ => ⟨zKH _ _ _, zKH _ _ _⟩, fun z hz => ?_, h.s, h.t, ?_, ?_⟩
 · show (((zTX c.window K.l1 (zBJ x y)).length : Nat) : Int) ≤ c.window
   unfold zTX
   have := h.h1
   split
   · simp only [List.length_append, List.length_drop, List.length_singleton]; omega
   · simp only [List.length_append, List.length_singleton]; omega
 · rcases zM0 hz with h1 | h1
   · exact h.r z h1
   · rw [h1]; exact hdr
 · exact zP2 h.j (zBt _ _)
 · exact zTQ hd h.now
theorem zao {b x y : Int} (hx : R64 x) (hy : R64 y) : R64 (sP b x y) := by unfold sP; split <;> assumption
theorem zXe {c : zAa} {K : KS} {x : Int} (hx : R64 x) (h : K.ok c) : (zP8 c K x).ok c := by
 unfold zP8
 split
 · have hw : R64 (zTE K x) := zBt _ _
   have h1 := zao (b := K.b) hw h.s
   have h2 := zao (b := K.b) hx h.t
   refine ⟨h.h1, h.s2, h.s3, h.h0, h.r, ?_, ?_, h.j, h.now⟩
   · show R64 (sS _ _ _ _ _ _ _)
     unfold sS sS1
     have := zJP (sP K.b (zTE K x) K.s) (zD0 (zBJ (max x (sP K.b x K.t)) (sP K.b x K.t)) c.num c.den)
     omega
   · show R64 (sT _ _ _)
     unfold sT
     omega
 · exact h
theorem zaU {c : zAa} (hk : zCp c = 0) : (K0 c).ok c := by
 obtain ⟨⟨_, _, hw, _⟩, hd, _⟩ := zFP hk
 exact ⟨by show (0 : Int) ≤ _; omega, List.Sublist.refl _, List.Sublist.refl _, fun h => absurd h (Nat.lt_irrefl 0), fun x hx => (by cases hx), by show R64 0; omega, by show R64 0; omega, by show R64 0; omega, zJH hd⟩
theorem St.addO {n : Nat} {F : List (Nat × Value)} {w0 w : World} {S : List Nat} {M : List HA} {a : Act} (hs : St n F w0 S M a w) (e : TypeId) : St n F w0 S (rwo (.slice none 0 0) e (iV []) :: M) a w := by
 refine hs.frame (N := [rwo (.slice none 0 0) e (iV [])]) .n ⟨Chg.refl _ _, ?_, by simp [zM, rwo, Value.ownBlock], by simp [zM, rwo, Value.ownBlock]⟩
 intro h hh
 simp only [List.mem_singleton] at hh
 subst hh
 exact .inl ⟨rfl, rfl⟩
structure KP where
 k : Nat
 wg : Nat
 sg : Nat
 jg : Nat
 dg : Nat
 v1 : Value
 v2 : Value
 v3 : Value
 cn : Int
 ch : Int
def KP.on (p : KP) (k : Nat) : KP := { p with k := k }
end Go.Sx
/- The client: plain mathematics. -/
set_option linter.unusedVariables false
set_option linter.unusedSimpArgs false
namespace Go.Sx
/-! ### What is kept is of numbers of 64 bits -/
def Wfs (l : List zAH) : Prop := ∀ s ∈ l, ∀ e ∈ s.l, e.wf
theorem zMc {r : zAA} (h : r.wf) : (zFL r).wf := ⟨h.id, h.p0, h.p1, h.p2, h.v0, h.v1, h.v2⟩
theorem zLg {a : zX} {r : zAA} (ha : a.wf) (h : r.wf) : (zR a r).1.wf := by
 unfold zR
 split
 · exact zMP
 · split
   · exact zMP
   · split
     · exact ⟨ha.id, h.p0, h.p1, h.p2, h.v0, h.v1, h.v2⟩
     · exact ⟨ha.id, zEx _, zEx _, zEx _, zEx _, zEx _, zEx _⟩
theorem zJN {x : zX} {l : List zX} (hx : x.wf) (h : ∀ e ∈ l, e.wf) : ∀ e ∈ x :: l, e.wf := by
 intro e he; rcases List.mem_cons.1 he with h1 | h1
 · rw [h1]; exact hx
 · exact h e h1
theorem zZi : ∀ (n : Nat) (was : List zX) (l : List zAA), was.length + l.length ≤ n → (∀ e ∈ was, e.wf) → (∀ r ∈ l, r.wf) → ∀ out, apl was l = some out → ∀ e ∈ out, e.wf := by
 intro n
 induction n with
 | zero =>
   intro was l hn hw hl out h
   cases l with
   | nil => rw [zJu] at h; cases h; exact hw
   | cons r l => simp at hn
 | succ n ih =>
   intro was l hn hw hl out h
   cases l with
   | nil => rw [zJu] at h; cases h; exact hw
   | cons r l =>
     have hr := hl r (by simp)
     have hl2 : ∀ r ∈ l, r.wf := fun x hx => hl x (by simp [hx])
     cases was with
     | nil =>
       unfold apl at h
       split at h
       · rw [Option.map_eq_some_iff] at h
         obtain ⟨o, h1, rfl⟩ := h
         exact zJN (zMc hr) (ih [] l (by simp at hn ⊢; omega) hw hl2 o h1)
       · cases h
     | cons x was =>
       have hx := hw x (by simp)
       have hw2 : ∀ e ∈ was, e.wf := fun e he => hw e (by simp [he])
       simp only [List.length_cons] at hn
       unfold apl at h
       split at h
       · rw [Option.map_eq_some_iff] at h
         obtain ⟨o, h1, rfl⟩ := h
         exact zJN hx (ih was (r :: l) (by simp only [List.length_cons]; omega) hw2 hl o h1)
       · split at h
         · split at h
           · cases h
           · split at h
             · exact ih was l (by omega) hw2 hl2 out h
             · rw [Option.map_eq_some_iff] at h
               obtain ⟨o, h1, rfl⟩ := h
               exact zJN (zLg hx hr) (ih was l (by omega) hw2 hl2 o h1)
         · split at h
           · rw [Option.map_eq_some_iff] at h
             obtain ⟨o, h1, rfl⟩ := h
             exact zJN (zMc hr) (ih (x :: was) l (by simp only [List.length_cons]; omega) hw hl2 o h1)
           · cases h
theorem zaR {at_ atm : Int} {a : List zX} {gt gtm gb : Int} {rl : List zAA} (ha : ∀ e ∈ a, e.wf) (hr : ∀ r ∈ rl, r.wf) : ∀ e ∈ (aS at_ atm a gt gtm gb rl).l, e.wf := by
 unfold aS
 split
 · intro e he
   cases ho : apl (zGE gb a) rl with
   | none => rw [ho] at he; simp at he
   | some o =>
     rw [ho] at he
     refine zZi _ _ _ (Nat.le_refl _) (fun e he => ?_) hr o ho e he
     unfold zGE at he
     split at he
     · exact ha e he
     · cases he
 · intro e he; cases he
theorem zX9 {l : List zAH} (h : Wfs l) (k : Int) : ∀ e ∈ (zEy l k).l, e.wf := by
 unfold zEy
 split
 · rename_i hk
   rw [List.getD_eq_getElem?_getD]
   cases ho : l[zAq l k]? with
   | none => intro e he; cases he
   | some s => exact h s (List.mem_of_getElem? ho)
 · intro e he; cases he
theorem zUC {l : List zAH} {most : Nat} {x : zAH} (h : Wfs l) (hx : ∀ e ∈ x.l, e.wf) : Wfs (zLw l most x) := by
 have hk : Wfs (zCA l (zAq l x.t) x) := by
   intro s hs
   unfold zCA at hs
   rcases List.mem_append.1 hs with h1 | h1
   · exact h s (List.mem_of_mem_take h1)
   · rcases List.mem_cons.1 h1 with h2 | h2
     · rw [h2]; exact hx
     · exact h s (List.mem_of_mem_drop h2)
 unfold zLw
 split
 · exact hk
 · exact fun s hs => hk s (List.mem_of_mem_drop hs)
theorem zWq {most : Nat} {σ : Stt} {bs : List zO} (h : Wfs σ.l) : Wfs (zCw most σ (zA bs)).l := by
 unfold zCw
 split
 · exact zUC h (zaR (zX9 h _) (zJb bs))
 · exact h
/-! ### What is shown, of snapshots as such -/
def zah (s : zAH) : RI := ⟨s.t, s.tm, s.l, .slice none 0 0⟩
def riF (x : RI) : RI := zah x.sn
def zCL (c : zAa) (l : List zAH) (t : Int) : List zG4 × Nat := zDy c (l.map zah) t
theorem zaP (L : List RI) : tms (L.map riF) = tms L := by unfold tms; rw [List.map_map]; rfl
theorem zRe : ∀ L : List RI, zEI (L.map riF) = zEI L
 | [] => rfl
 | x :: L => by
   show (if _ then _ else zEI (L.map riF)) = _
   rw [zRe L]; rfl
theorem zQX (L : List RI) (i : Nat) : (L.map riF).getD i default = riF (L.getD i default) := by
 rw [List.getD_eq_getElem?_getD, List.getD_eq_getElem?_getD, List.getElem?_map]
 cases L[i]? <;> rfl
theorem zU7 (L : List RI) (t : Int) : ∀ k, zJr (L.map riF) t k = zJr L t k
 | 0 => rfl
 | k + 1 => by unfold zJr; rw [zU7 L t k, zQX, List.length_map]; rfl
theorem zXC (L : List RI) (t : Int) : zBA (L.map riF) t = zBA L t := by unfold zBA; rw [zaP, zU7, List.length_map]
theorem zP7 (c : zAa) (L : List RI) : zE8 c (L.map riF) = zE8 c L := by unfold zE8; rw [zRe]
theorem zPp (c : zAa) (x : RI) (t : Int) : zDz c (riF x) t = zDz c x t := by
 have h := zP7 c [x]
 unfold zDz; rw [show [riF x] = [x].map riF from rfl, h]; rfl
theorem zVl (c : zAa) (x : RI) (t : Int) : zDM c (riF x) t = zDM c x t := by unfold zDM; rw [zPp]; rfl
theorem zPX (c : zAa) (x y : RI) (t : Int) : zD6 c (riF x) (riF y) t = zD6 c x y t := by
 have h := zP7 c [x, y]
 unfold zD6; rw [show [riF x, riF y] = [x, y].map riF from rfl, h]; rfl
theorem zXG (c : zAa) (x y : RI) (t : Int) : zDY c (riF x) (riF y) t = zDY c x y t := by unfold zDY; rw [zPX]; rfl
theorem zXN (c : zAa) (L : List RI) (t : Int) : zDy c (L.map riF) t = zDy c L t := by
 unfold zDy; rw [zP7, zXC, zQX, zQX, zVl, zPp, zXG, zPX]
theorem zTP (c : zAa) (L : List RI) (t : Int) : zDy c L t = zCL c (sns L) t := by
 unfold zCL; rw [sns, List.map_map]; exact (zXN c L t).symm
/-! ### States -/
structure CS where
 σ : Stt
 K : KS
 fr : Nat
structure ShR where
 ready : Bool
 time : Int
 l : List zG4
def zAa.keep (c : zAa) : Nat := c.ring.toNat
def zJD (c : zAa) (C : CS) (G : zDO) : Nat := zBb C.σ.l c.keep C.σ.floor C.σ.gone G
def zaC (c : zAa) (C : CS) (G : zDO) : Int := (zEy (zCw c.keep C.σ G).l (zI2 C.σ.l c.keep C.σ.floor C.σ.gone G)).tm
def zTV (c : zAa) (C : CS) (x : Int) (G : zDO) : CS := ⟨zCw c.keep C.σ G, if zJD c C G = 0 then zWe c C.K x (zaC c C G) else C.K, C.fr⟩
def zZ4 (c : zAa) (C : CS) (x : Int) : CS := ⟨C.σ, zP8 c C.K x, C.fr + 1⟩
def zE9 (c : zAa) (C : CS) (x : Int) : ShR := if 0 < C.K.l2.length then ⟨true, kTm c C.K x, (zCL c C.σ.l (kTm c C.K x)).1⟩ else ⟨false, 0, []⟩
def C0 (c : zAa) : CS := ⟨zYt, K0 c, 0⟩
structure CS.ok (c : zAa) (C : CS) : Prop where
 k : C.K.ok c
 wf : Wfs C.σ.l
theorem zYq {c : zAa} (hk : zCp c = 0) : (C0 c).ok c := ⟨zaU hk, fun s hs => by cases hs⟩
theorem zPZ {c : zAa} {C : CS} {x : Int} {bs : List zO} (hk : zCp c = 0) (h : C.ok c) : (zTV c C x (zA bs)).ok c := by
 refine ⟨?_, zWq h.wf⟩
 show KS.ok c (if _ then _ else _)
 split
 · exact zWm hk h.k
 · exact h.k
instance : Inhabited KP := ⟨⟨0, 0, 0, 0, 0, .slice none 0 0, .slice none 0 0, .slice none 0 0, 0, 0⟩⟩
theorem zaY {c : zAa} {K : KS} {x : Int} (hx : R64 x) (h : K.ok c) : R64 (kTm c K x) := by
 have h1 := (zXe hx h).s
 unfold zP8 at h1
 unfold kTm
 split at h1
 · rename_i hq; rw [if_pos hq]; exact h1
 · rename_i hq; rw [if_neg hq]; show R64 0; omega
theorem zWi {L : List RI} {l : List zAH} {j : Nat} {v : Value} (h : sns L = l.take j) (hj : j < l.length) : sns (L ++ [(⟨(sat l (j : Int)).t, (sat l (j : Int)).tm, (sat l (j : Int)).l, v⟩ : RI)]) = l.take (j + 1) := by
 have hs : sat l (j : Int) = l[j] := by
   unfold sat
   rw [if_pos (by omega), Int.toNat_natCast, List.getD_eq_getElem?_getD, List.getElem?_eq_getElem hj]; rfl
 have h2 : sns (L ++ [(⟨(sat l (j : Int)).t, (sat l (j : Int)).tm, (sat l (j : Int)).l, v⟩ : RI)]) = sns L ++ [sat l (j : Int)] := by unfold sns; rw [List.map_append]; rfl
 rw [h2, h, hs, List.take_succ_eq_append_getElem hj]
theorem zSU {L : List RI} {j : Nat} (h : j < L.length) : iV ((L.take j).map RI.t) ++ [.int .i64 (L.getD j default).t] = iV ((L.take (j + 1)).map RI.t) := by
 rw [zIc, List.take_succ_eq_append_getElem h, List.map_append, List.getD_eq_getElem?_getD, List.getElem?_eq_getElem h]; rfl
theorem zSJ {L : List RI} {l : List zAH} (h : sns L = l) : L.map RI.t = l.map zAH.t := by subst h; unfold sns; rw [List.map_map]; rfl
theorem zQs {c : zAa} (hk : zCp c = 0) : ((c.keep : Nat) : Int) = c.ring ∧ 1 ≤ c.keep ∧ c.keep ≤ 64 := by
 obtain ⟨⟨h1, h2, _, _⟩, _⟩ := zFP hk
 unfold zAa.keep
 omega
theorem Mem.resep {w w' : World} {S : List Nat} {A B : List HA} (h : Mem w S (A ++ B) w') : Mem w S (A ++ [zFX B]) w' := by
 obtain ⟨h1, h2, h3⟩ := Mem.parts h
 refine ⟨h.chg, fun y hy => ?_, h3, by rw [zDZ]; exact h.ge⟩
 rcases List.mem_append.1 hy with e | e
 · exact h1 y e
 · rw [List.mem_singleton] at e; rw [e]; exact h2
theorem Mem.wide {w w' : World} {S : List Nat} {N : List HA} (h : Mem w [] N w') : Mem w S N w' := ⟨⟨h.chg.os, h.chg.tape, h.chg.output, h.chg.size, fun k hk _ => h.chg.block k hk (by simp)⟩, h.all, h.nd, fun k hk => (h.ge k hk).elim (fun h => by cases h) .inr⟩
theorem zZz {e : Nat} {L : List RI} {w : World} {most : Nat} (h : (rws e L).p w) (ho : Oks (sns L) most) (hw : Wfs (sns L)) : ∀ x ∈ L, x.ok w := by
 intro x hx
 have hm : x.sn ∈ sns L := List.mem_map.2 ⟨x, hx, rfl⟩
 obtain ⟨h1, h2, h3, h4, h5⟩ := ho.rng x.sn hm
 exact ⟨⟨by have : (0 : Int) ≤ x.t := h1; omega, by have : x.t ≤ 4294967295 := h2; omega⟩, ⟨h3, h4⟩, zEF h (.inl hx), hw x.sn hm⟩
end Go.Sx
/- The client's example: plain mathematics. -/
set_option linter.unusedVariables false
namespace Go.Sx
section
open Go.RowKit
variable {P : Program} {ops : Array Oper} {Q : Exit → Act → World → Prop} {rest : List Oper} {n : Nat} {F : List (Nat × Value)} {w0 : World} {S : List Nat} {M : List HA} {a : Act} {w : World} {d : Nat} {ty : TypeId} {pos : String} {af : Array Edge}
theorem zY8 {x i : Operand} {v : Value} {t e : TypeId} {j o len size m sz : Nat} {T : List Nat} {xs : List Value} {kd : IntKind} {q : Int} (hs : St n F w0 S M a w) (hx : evo F x = some (.pointer (some (adr v j)))) (hi : evo F i = some (.int kd q)) (hr : Rd w T v size m xs) (hm : 0 < m) (ht : P.underlying t = some (.array len e))
   (h0 : 0 ≤ q) (h1 : q < len) (hsz : ∀ w, (sizeOf e).run P w = .ok sz w) (ho : j + q.toNat * sz = o) (hd : Nat.blt d n = true)
   (k : ∀ a w, St n ((d, .pointer (some (adr v o))) :: F) w0 S M a w → wpList P ops Q rest a w) : wpList P ops Q (⟨some d, .indexAddr t x i, ty, pos, af, none⟩ :: rest) a w := by
 subst ho
 have ha : (adr v j).add (q.toNat * sz) = adr v (j + q.toNat * sz) := by rw [zL2 hr hm]
 have hb : 0 ≤ q ∧ q < (len : Int) := ⟨h0, h1⟩
 exact zJ hs (by simp [execOp, Instr.indexAt, Instr.sureAddr, asIntOf, hs.ev hx, hs.ev hi, run_underlying ht, hb, hsz, ha]) hd k
end
def exC : zAa := ⟨4, 4, 0, 0, 0, 0, 0, 1, 1, 0, false⟩
def exR (pl : Int) : zAA := ⟨0, 1, pl, 0, 0, 0, 0, 0, 0#16⟩
def exB (t tm pl : Int) : List zO := gwB t tm (-1) [exR pl]
theorem zOr {pl : Int} (h : R64 pl) : ∀ x ∈ [exR pl], x.wf := by
 intro x hx; rw [List.mem_singleton] at hx; rw [hx]
 exact ⟨(by show R64 0; omega), (by show R64 1; omega), h, (by show R64 0; omega), (by show R64 0; omega), (by show R64 0; omega), (by show R64 0; omega), (by show R64 0; omega)⟩
theorem zV7 : zCp exC = 0 := by decide +kernel
theorem zXv : zA (exB 1 0 0) = ⟨1, 0, -1, [exR 0], 0⟩ := zHx (zOr (by omega)) (by decide +kernel)
theorem zZy : zA (exB 2 10 10) = ⟨2, 10, -1, [exR 10], 0⟩ := zHx (zOr (by omega)) (by decide +kernel)
def zV8 : CS := zTV exC (C0 exC) 0 (zA (exB 1 0 0))
def zZ1 : CS := zTV exC zV8 10 (zA (exB 2 10 10))
theorem zav : zJD exC (C0 exC) (zA (exB 1 0 0)) = 0 := by rw [zXv]; decide +kernel
theorem zaw : zJD exC zV8 (zA (exB 2 10 10)) = 0 := by unfold zV8; rw [zXv, zZy]; decide +kernel
theorem zau : zE9 exC zZ1 5 = ⟨true, 5, [⟨1, 5, 0, 0, 0#16, 1⟩]⟩ := by unfold zZ1 zV8; rw [zXv, zZy]; kernel_rfl
theorem zU8 : (C0 exC).ok exC := zYq zV7
theorem zU6 : zV8.ok exC := zPZ zV7 zU8
theorem zY0 : zZ1.ok exC := zPZ zV7 zU6
theorem zQx (c : zAa) (C : CS) (x : Int) (G : zDO) (i : Nat) : (zTV c C x G).σ.n i ≤ C.σ.n i + 1 := by
 show (zCw _ _ _).n i ≤ _
 unfold zCw
 split <;> (show zBQ _ _ i ≤ _; unfold zBQ; split <;> omega)
end Go.Sx
