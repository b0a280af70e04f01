import Derived.Test.YtemnjodhidlfpaaGreatQG7
import Derived.Test.YtemnjodhidlfpaaGreatQSxBasB
import Derived.ArgAppend
import Derived.Test.YtemnjodhidlfpaaGreatQSxStos
import Derived.Test.YtemnjodhidlfpaaGreatQSxGrams
import Derived.Test.YtemnjodhidlfpaaGreatQSxMap
/- Where entities are shown: plain mathematics. -/
set_option linter.unusedVariables false
set_option linter.unusedSimpArgs false
namespace Go.Sx
/-! ### Pick -/
def zJC (L : List RI) (t : Int) : Nat → Option (Nat × Int)
 | 0 => none
 | k + 1 => if (L.getD k default).tm ≤ t then some (k, if k + 1 = L.length then -1 else ((k + 1 : Nat) : Int)) else zJC L t k
def zBA (L : List RI) (t : Int) : Int × Int × Nat :=
 if zDO none (tms L) ≠ 0 then (0, 0, zDO none (tms L)) else match zJC L t L.length with
 | some (i, nx) => ((i : Int), nx, 0)
 | none => (0, 0, 5)
theorem zWV {L : List RI} {t : Int} (h : ((zDO none (tms L) : Nat) : Int) ≠ 0) : zBA L t = (0, 0, zDO none (tms L)) := if_pos (by omega)
theorem zWu {L : List RI} {t : Int} {i : Nat} {nx : Int} (h : ((zDO none (tms L) : Nat) : Int) = 0) (hp : zJC L t L.length = some (i, nx)) : zBA L t = ((i : Int), nx, 0) := by
 unfold zBA; rw [if_neg (by omega), hp]
theorem zWh {L : List RI} {t : Int} (h : ((zDO none (tms L) : Nat) : Int) = 0) (hp : zJC L t L.length = none) : zBA L t = (0, 0, 5) := by
 unfold zBA; rw [if_neg (by omega), hp]
theorem zLF {L : List RI} {t : Int} : ∀ {k i : Nat} {nx : Int}, zJC L t k = some (i, nx) → i < k ∧ (L.getD i default).tm ≤ t ∧ nx = (if i + 1 = L.length then -1 else ((i + 1 : Nat) : Int)) ∧ ∀ j, i < j → j < k → ¬ (L.getD j default).tm ≤ t
 | 0, _, _, h => by cases h
 | k + 1, i, nx, h => by
   unfold zJC at h
   split at h
   · next hle => cases h; exact ⟨Nat.lt_succ_self _, hle, rfl, fun j h1 h2 => absurd h2 (by omega)⟩
   · next hle =>
     obtain ⟨h1, h2, h3, h4⟩ := zLF h
     refine ⟨by omega, h2, h3, fun j hj1 hj2 => ?_⟩
     by_cases e : j = k
     · rw [e]; exact hle
     · exact h4 j hj1 (by omega)
theorem zTP {L : List RI} {t : Int} (h : (zBA L t).2.2 = 0) : zDO none (tms L) = 0 ∧ ∃ i : Nat, i < L.length ∧ (zBA L t).1 = (i : Int) ∧ (L.getD i default).tm ≤ t ∧ (zBA L t).2.1 = (if i + 1 = L.length then -1 else ((i + 1 : Nat) : Int)) ∧ ∀ j, i < j → j < L.length → t < (L.getD j default).tm := by
 unfold zBA at h ⊢
 by_cases he : zDO none (tms L) ≠ 0
 · rw [if_pos he] at h; exact absurd h he
 · rw [if_neg he] at h ⊢
   cases hp : zJC L t L.length with
   | none => rw [hp] at h; cases h
   | some p =>
     obtain ⟨i, nx⟩ := p
     obtain ⟨h1, h2, h3, h4⟩ := zLF hp
     exact ⟨Decidable.not_not.1 he, i, h1, rfl, h2, h3, fun j hj1 hj2 => by have := h4 j hj1 hj2; omega⟩
theorem zX5 {L : List RI} {t : Int} {k : Nat} (h : ¬ (L.getD k default).tm ≤ t) : zJC L t (k + 1) = zJC L t k := by
 show (if _ then _ else _) = _; rw [if_neg h]
theorem zUe {L : List RI} {t : Int} {k : Nat} (h : (L.getD k default).tm ≤ t) : zJC L t (k + 1) = some (k, if k + 1 = L.length then -1 else ((k + 1 : Nat) : Int)) := by
 show (if _ then _ else _) = _; rw [if_pos h]
/-! ### What is shown -/
structure zG3 where
 id : Int
 p0 : Int
 p1 : Int
 p2 : Int
 a : BitVec 16
 m : Int
instance : Inhabited zG3 := ⟨⟨0, 0, 0, 0, 0#16, 0⟩⟩
def zBn (p : zG3) : List Value := [.int .i64 p.id, .int .i64 p.p0, .int .i64 p.p1, .int .i64 p.p2, .int .u16 ((p.a.toNat : Nat) : Int), .int .i64 p.m]
def zEK : List RI → Nat
 | [] => 0
 | x :: l => if zAB x.t x.tm x.l ≠ 0 then zAB x.t x.tm x.l else zEK l
theorem zIw {L : List RI} {j : Nat} (h : j < L.length) : zEK (L.drop j) = if zAB (L.getD j default).t (L.getD j default).tm (L.getD j default).l ≠ 0 then zAB (L.getD j default).t (L.getD j default).tm (L.getD j default).l else zEK (L.drop (j + 1)) := by
 rw [List.drop_eq_getElem_cons h, zEK, List.getD_eq_getElem?_getD, List.getElem?_eq_getElem h]; rfl
theorem zOW {L : List RI} {j : Nat} {e : Nat} (h : j < L.length) (he : zEK (L.drop j) = e) (h0 : ((zAB (L.getD j default).t (L.getD j default).tm (L.getD j default).l : Nat) : Int) = 0) : zEK (L.drop (j + 1)) = e := by
 rw [← he, zIw h, if_neg (by omega)]
theorem zQi {L : List RI} {j : Nat} {e : Nat} (h : j < L.length) (he : zEK (L.drop j) = e) (h0 : ((zAB (L.getD j default).t (L.getD j default).tm (L.getD j default).l : Nat) : Int) ≠ 0) : zAB (L.getD j default).t (L.getD j default).tm (L.getD j default).l = e := by
 rw [← he, zIw h, if_pos (by omega)]
theorem zR9 {L : List RI} {j : Nat} {e : Nat} (h : L.length ≤ j) (he : zEK (L.drop j) = e) : 0 = e := by
 rw [← he, List.drop_eq_nil_of_le h]; rfl
theorem zQW {L : List RI} (h : zEK L = 0) : ∀ x ∈ L, zAB x.t x.tm x.l = 0 := by
 induction L with
 | nil => intro x hx; cases hx
 | cons y l ih =>
   unfold zEK at h
   split at h
   · next h2 => exact absurd h h2
   · next h2 =>
     intro x hx
     rcases List.mem_cons.1 hx with e | e
     · rw [e]; exact Decidable.not_not.1 h2
     · exact ih h x e
def zFA (c : zAJ) (L : List RI) : Nat := if zCZ c ≠ 0 then zCZ c else zEK L
theorem zaL {c : zAJ} {L : List RI} (h : ((zCZ c : Nat) : Int) ≠ 0) : zCZ c = zFA c L := (if_pos (by omega)).symm
theorem zVI {c : zAJ} {L : List RI} {e : Nat} (h : ((zCZ c : Nat) : Int) = 0) (he : e = zEK L) : e = zFA c L := by unfold zFA; rw [if_neg (by omega), he]
theorem zPS {c : zAJ} {L : List RI} (h : zFA c L = 0) : zCZ c = 0 ∧ zEK L = 0 := by
 unfold zFA at h
 split at h
 · next h2 => exact absurd h h2
 · next h2 => exact ⟨Decidable.not_not.1 h2, h⟩
def zB2 (x : zX) : zG3 := ⟨x.id, x.p0, x.p1, x.p2, x.a, 0⟩
def pL (n d x y : Int) : Int := bif zBS n d == 0 then zCp x y n d else 0
def pC (n d x u y v : Int) : Int := bif zBS n d == 0 then cAt x u y v n d else 0
def pA (n d : Int) (x y : BitVec 16) : BitVec 16 := bif zBS n d == 0 then zX7 x y n d else 0#16
def pW (c : Bool) (n d x u y v : Int) : Int := bif c then pC n d x u y v else pL n d x y
def zbB (c : Bool) (n d : Int) (x y : zX) : zG3 := ⟨x.id, pW c n d x.p0 x.v0 y.p0 y.v0, pW c n d x.p1 x.v1 y.p1 y.v1, pW c n d x.p2 x.v2 y.p2 y.v2, pA n d x.a y.a, bif c then 2 else 1⟩
def zSu (c : Bool) (n d : Int) (B : List zX) (x : zX) : zG3 := if (zA6 x.id B).isSome = true ∧ ((zA6 x.id B).getD zCz).g = x.g then zbB c n d x ((zA6 x.id B).getD zCz) else zB2 x
def zDw (c : zAJ) (a b : RI) (t : Int) : Nat := if zFA c [a, b] ≠ 0 then zFA c [a, b] else (zAr a b t).2.2
def zDW (c : zAJ) (a b : RI) (t : Int) : List zG3 := if zDw c a b t ≠ 0 then [] else a.l.map (zSu c.curve (zAr a b t).1 (zAr a b t).2.1 b.l)
def zYZ (m k : Int) (x : zX) : zG3 := ⟨x.id, zCo x.p0 (zAt x.v0 k), zCo x.p1 (zAt x.v1 k), zCo x.p2 (zAt x.v2 k), x.a, m⟩
def zD4 (c : zAJ) (x : RI) (t : Int) : Nat := if zFA c [x] ≠ 0 then zFA c [x] else (zHT x t).2
def zJ4 (c : zAJ) (d : Int) : Int := if d = 0 then 0 else if c.extra < d then 4 else 3
def zIP (c : zAJ) (d : Int) : Int := if d = 0 then d else if c.extra < d then c.extra else d
def zDN (c : zAJ) (x : RI) (t : Int) : List zG3 := if zD4 c x t ≠ 0 then [] else x.l.map (zYZ (zJ4 c (zHT x t).1) (zIP c (zHT x t).1))
def zD8 (c : zAJ) (L : List RI) (t : Int) : List zG3 × Nat :=
 if zFA c L ≠ 0 then ([], zFA c L) else if (zBA L t).2.2 ≠ 0 then ([], (zBA L t).2.2)
 else if (zBA L t).2.1 < 0 then (zDN c (L.getD (zBA L t).1.toNat default) t, zD4 c (L.getD (zBA L t).1.toNat default) t)
 else (zDW c (L.getD (zBA L t).1.toNat default) (L.getD (zBA L t).2.1.toNat default) t, zDw c (L.getD (zBA L t).1.toNat default) (L.getD (zBA L t).2.1.toNat default) t)
structure RI.ok (w : World) (x : RI) : Prop where
 t : -9223372036854775808 ≤ x.t ∧ x.t ≤ 9223372036854775807
 tm : -9223372036854775808 ≤ x.tm ∧ x.tm ≤ 9223372036854775807
 rd : Rd w [] x.v 9 x.l.length (x.l.flatMap zBK)
 wf : ∀ e ∈ x.l, e.wf
theorem RI.ok.to {x : RI} {w0 w : World} {M : List HA} (h : x.ok w0) (hm : Mem w0 [] M w) : x.ok w := ⟨h.t, h.tm, hm.rd0 h.rd, h.wf⟩
theorem zZQ {x : RI} {w : World} (h : x.ok w) : ∀ z ∈ [x], z.ok w := by
 intro z hz; rw [List.mem_singleton] at hz; rw [hz]; exact h
theorem zaC {x y : RI} {w : World} (h : x.ok w) (h2 : y.ok w) : ∀ z ∈ [x, y], z.ok w := by
 intro z hz; rw [List.mem_cons, List.mem_singleton] at hz; rcases hz with e | e <;> rw [e] <;> assumption
theorem zYu {L : List RI} {w : World} (h : ∀ x ∈ L, x.ok w) : ∀ x ∈ L, zDX x.v x.l.length := fun x hx => (h x hx).rd.isSl
theorem zCW {f : zX → zG3} {l : List zX} {j : Nat} (h : j < l.length) : (l.take j).map f ++ [f (l.getD j default)] = (l.take (j + 1)).map f := by
 rw [List.take_succ_eq_append_getElem h, List.map_append, List.getD_eq_getElem?_getD, List.getElem?_eq_getElem h]; rfl
theorem zMV : zCz.wf := by constructor <;> (show _ ≤ (0 : Int) ∧ (0 : Int) ≤ _; omega)
theorem zWQ {l : List zX} {k : Int} (h : ∀ e ∈ l, e.wf) : ((zA6 k l).getD zCz).wf := by
 cases hg : zA6 k l with
 | none => exact zMV
 | some e => exact h e (zFi hg).1
theorem zNE {c : zAJ} {L : List RI} {x : RI} (h : zFA c L = 0) (hx : x ∈ L) : x.l.length ≤ 64 := by
 have h1 := zQW (zPS h).2 x hx
 unfold zAB at h1
 split at h1
 · cases h1
 · split at h1
   · cases h1
   · omega
theorem zNB (x : RI) (t : Int) : -9223372036854775808 ≤ (zHT x t).1 ∧ (zHT x t).1 ≤ 9223372036854775807 := by
 unfold zHT
 split
 · dsimp only; omega
 · split
   · dsimp only; omega
   · exact zBw _ _
theorem zEz {c : zAJ} {d : Int} (h : d = 0) : 0 = zJ4 c d ∧ d = zIP c d := by unfold zJ4 zIP; rw [if_pos h, if_pos h]; exact ⟨rfl, rfl⟩
theorem zE2 {c : zAJ} {d : Int} (h : d ≠ 0) (h2 : c.extra < d) : 4 = zJ4 c d ∧ c.extra = zIP c d := by unfold zJ4 zIP; rw [if_neg h, if_neg h, if_pos h2, if_pos h2]; exact ⟨rfl, rfl⟩
theorem zEm {c : zAJ} {d : Int} (h : d ≠ 0) (h2 : ¬ c.extra < d) : 3 = zJ4 c d ∧ d = zIP c d := by unfold zJ4 zIP; rw [if_neg h, if_neg h, if_neg h2, if_neg h2]; exact ⟨rfl, rfl⟩
theorem zYP {c : zAJ} {x : RI} {t : Int} (h : ((zFA c [x] : Nat) : Int) ≠ 0) : zD4 c x t = zFA c [x] := if_pos (by omega)
theorem zPK {c : zAJ} {x : RI} {t : Int} (h : zFA c [x] = 0) : zD4 c x t = (zHT x t).2 := by unfold zD4; rw [if_neg (by omega)]
theorem zXv {c : zAJ} {x : RI} {t : Int} (h : zD4 c x t = 0) : zDN c x t = x.l.map (zYZ (zJ4 c (zHT x t).1) (zIP c (zHT x t).1)) := by unfold zDN; rw [if_neg (by omega)]
theorem zQs {c : zAJ} {x : RI} {t : Int} (h : ((zD4 c x t : Nat) : Int) ≠ 0) : zDN c x t = [] := by unfold zDN; rw [if_pos (by omega)]
theorem zXk {c : zAJ} {x y : RI} {t : Int} (h : ((zFA c [x, y] : Nat) : Int) ≠ 0) : zDw c x y t = zFA c [x, y] := if_pos (by omega)
theorem zR3 {c : zAJ} {x y : RI} {t : Int} (h : zFA c [x, y] = 0) : zDw c x y t = (zAr x y t).2.2 := by unfold zDw; rw [if_neg (by omega)]
theorem zWU {c : zAJ} {x y : RI} {t : Int} (h : zDw c x y t = 0) : zDW c x y t = x.l.map (zSu c.curve (zAr x y t).1 (zAr x y t).2.1 y.l) := by unfold zDW; rw [if_neg (by omega)]
theorem zPr {c : zAJ} {x y : RI} {t : Int} (h : ((zDw c x y t : Nat) : Int) ≠ 0) : zDW c x y t = [] := by unfold zDW; rw [if_pos (by omega)]
theorem zWc {c : zAJ} {L : List RI} {t : Int} (h : ((zFA c L : Nat) : Int) ≠ 0) : zD8 c L t = ([], zFA c L) := if_pos (by omega)
theorem zWp {c : zAJ} {L : List RI} {t : Int} (h : zFA c L = 0) (h2 : (((zBA L t).2.2 : Nat) : Int) ≠ 0) : zD8 c L t = ([], (zBA L t).2.2) := by unfold zD8; rw [if_neg (by omega), if_pos (by omega)]
theorem zX8 {c : zAJ} {L : List RI} {t : Int} {i : Nat} (h : zFA c L = 0) (h2 : (zBA L t).2.2 = 0) (h3 : (zBA L t).1 = (i : Int)) (h4 : (zBA L t).2.1 < 0) : zD8 c L t = (zDN c (L.getD i default) t, zD4 c (L.getD i default) t) := by
 unfold zD8; rw [if_neg (by omega), if_neg (by omega), if_pos h4, h3]; rfl
theorem zXV {c : zAJ} {L : List RI} {t : Int} {i k : Nat} (h : zFA c L = 0) (h2 : (zBA L t).2.2 = 0) (h3 : (zBA L t).1 = (i : Int)) (h4 : (zBA L t).2.1 = (k : Int)) : zD8 c L t = (zDW c (L.getD i default) (L.getD k default) t, zDw c (L.getD i default) (L.getD k default) t) := by
 unfold zD8; rw [if_neg (by omega), if_neg (by omega), if_neg (by omega), h3, h4]; rfl
theorem zQX {l : List zX} {i : Nat} (h : i < l.length) : l.getD i default ∈ l := by
 rw [List.getD_eq_getElem?_getD, List.getElem?_eq_getElem h]; exact List.getElem_mem h
theorem za3 {b : Bool} {q : Prop} (h : b = false) : ¬ (b = true ∧ q) := fun k => by rw [h] at k; cases k.1
theorem za8 {p : Prop} {a b : BitVec 8} (h : ((a.toNat : Nat) : Int) ≠ ((b.toNat : Nat) : Int)) : ¬ (p ∧ a = b) := fun k => h (by rw [k.2])
theorem zW2 {c : Bool} {n d : Int} {B : List zX} {x : zX} (h : (zA6 x.id B).isSome = true ∧ ((zA6 x.id B).getD zCz).g = x.g) : zSu c n d B x = zbB c n d x ((zA6 x.id B).getD zCz) := if_pos h
theorem zPJ {c : Bool} {n d : Int} {B : List zX} {x : zX} (h : ¬ ((zA6 x.id B).isSome = true ∧ ((zA6 x.id B).getD zCz).g = x.g)) : zSu c n d B x = zB2 x := if_neg h
end Go.Sx
/- Slices with an offset that a call owns: elements of one cell. -/
set_option linter.unusedVariables false
set_option linter.unusedSimpArgs false
namespace Go.Sx
open Go.RowKit
variable {P : Program} {ops : Array Oper} {Q : Exit → Act → World → Prop} {rest : List Oper} {n : Nat} {F : List (Nat × Value)} {w0 : World} {S : List Nat} {M : List HA} {a : Act} {w : World}
variable {d : Nat} {ty : TypeId} {pos : String} {af : Array Edge}
def zLX (v : Value) (e : TypeId) (xs : List Value) (w : World) : Prop := (v = .slice none 0 0 ∧ xs = []) ∨
 ∃ g o cap cur, v = .slice (some ⟨g, o, none⟩) xs.length cap ∧ w.heap[g]? = some (.cells cur e (0, 0)) ∧ xs.length ≤ cap ∧ cap ≤ maxLen ∧ o + cap ≤ cur.size ∧ (cur.toList.drop o).take xs.length = xs
def rwo (v : Value) (e : TypeId) (xs : List Value) : HA where
 foot := v.ownBlock.toList
 p w := zLX v e xs w
 loc w w' h hp := by
   rcases hp with hn | ⟨g, o, cap, cur, rfl, hg, rest⟩
   · exact .inl hn
   · refine .inr ⟨g, o, cap, cur, rfl, ?_, rest⟩
     rw [h g (by simp [Value.ownBlock])]
     exact hg
 lt w h k hk := by
   rcases h with ⟨rfl, _⟩ | ⟨g, o, cap, cur, rfl, hg, _⟩
   · simp [Value.ownBlock] at hk
   · have : k = g := by simpa [Value.ownBlock] using hk
     subst this
     exact (Array.getElem?_eq_some_iff.1 hg).1
theorem zF8 (g o j : Nat) : (⟨g, o, none⟩ : Addr).add j = ⟨g, o + j, none⟩ := by unfold Addr.add; split <;> simp_all
theorem zNc {w : World} {g o : Nat} {cur : Array Value} {e : TypeId} {fr : Nat × Nat} (hg : w.heap[g]? = some (.cells cur e fr)) (j : Nat) : w.cell? ⟨g, j, none⟩ = cur[j]? := by
 simp [World.cell?, hg]
theorem zVW {v : Value} {e : TypeId} {xs : List Value} (h : zLX v e xs w) : Rd w [] v 1 xs.length xs := by
 rcases h with ⟨rfl, rfl⟩ | ⟨g, o, cap, cur, rfl, hg, h1, h2, h3, h4⟩
 · exact zPj w [] 1
 · refine ⟨⟨_, cap, rfl, h1, h2⟩, by simp, fun _ => ⟨_, cap, rfl, by simp, (Array.getElem?_eq_some_iff.1 hg).1, fun j u hu => ?_⟩⟩
   rw [zF8, zNc (o := o) hg]
   have hj : j < xs.length := (List.getElem?_eq_some_iff.1 hu).1
   rw [← h4, List.getElem?_take, if_pos hj, List.getElem?_drop, Array.getElem?_toList] at hu
   exact hu
theorem zNA {v x : Value} {e : TypeId} {xs : List Value} (h : zLX v e (x :: xs) w) : zLX (zFX v 1 1 (xs.length + 1)) e xs w ∧ (zFX v 1 1 (xs.length + 1)).ownBlock = v.ownBlock := by
 rcases h with ⟨_, h⟩ | ⟨g, o, cap, cur, rfl, hg, h1, h2, h3, h4⟩
 · cases h
 · simp only [List.length_cons] at h1 h4 ⊢
   by_cases hc : cap = 1
   · subst hc
     have h0 : xs = [] := List.eq_nil_of_length_eq_zero (by omega)
     subst h0
     refine ⟨.inr ⟨g, o, 0, cur, by simp [zFX], hg, by simp, by simp [maxLen], by omega, by simp⟩, by simp [zFX, Value.ownBlock]⟩
   · refine ⟨.inr ⟨g, o + 1, cap - 1, cur, by simp [zFX, hc, zF8], hg, by omega, by omega, by omega, ?_⟩, by simp [zFX, hc, Value.ownBlock, zF8]⟩
     have h5 := congrArg (List.drop 1) h4
     rw [List.drop_take, List.drop_drop] at h5
     simpa using h5
theorem zNY {v x : Value} {e : TypeId} {xs : List Value} (h : zLX v e (xs ++ [x]) w) : zLX (zFX v 1 0 xs.length) e xs w ∧ (zFX v 1 0 xs.length).ownBlock = v.ownBlock := by
 rcases h with ⟨_, h⟩ | ⟨g, o, cap, cur, rfl, hg, h1, h2, h3, h4⟩
 · simp at h
 · simp only [List.length_append, List.length_singleton] at h1 h4
   refine ⟨.inr ⟨g, o, cap, cur, by simp [zFX, show ¬ cap = 0 by omega, zF8], hg, by omega, h2, h3, ?_⟩, by simp [zFX, show ¬ cap = 0 by omega, Value.ownBlock, zF8]⟩
   have h5 := congrArg (List.take xs.length) h4
   rw [List.take_take, Nat.min_eq_left (by omega)] at h5
   simpa using h5
theorem zHi {v v' : Value} {e : TypeId} {xs xs' : List Value} (h : zLX v' e xs' w) (hb : v'.ownBlock = v.ownBlock) : Mem w (zM [rwo v e xs]) [rwo v' e xs'] w := by
 refine ⟨Chg.refl _ _, ?_, by cases hv : v'.ownBlock <;> simp [zM, rwo, hv], fun k hk => .inl (by simpa [zM, rwo, hb] using hk)⟩
 intro y hy
 simp only [List.mem_singleton] at hy
 subst hy
 exact h
theorem St.rwoInit {v x : Value} {e : TypeId} {xs : List Value} {M' : List HA} (hs : St n F w0 S M a w) (hb : Del M (rwo v e (xs ++ [x])) M') : St n F w0 S (rwo (zFX v 1 0 xs.length) e xs :: M') a w :=
 hs.frame (.c hb .n) (zHi (zNY (hs.mem.del hb)).1 (zNY (hs.mem.del hb)).2)
theorem zPx {v : Value} {e : TypeId} {b : Nat} {xs : List Value} (h : w.ownsRow b e 1 v xs.length xs) : zLX v e xs w := by
 rcases h.2 with ⟨rfl, h0⟩ | ⟨g, cap, cur, rfl, _, hg, h1, h2, h3, h4⟩
 · exact .inl ⟨rfl, List.eq_nil_of_length_eq_zero h0⟩
 · exact .inr ⟨g, 0, cap, cur, rfl, hg, h1, h2, by omega, by simpa using h4⟩
theorem zUJ {L xs : List Value} {u : Value} (h : L.take xs.length = xs) (hl : xs.length < L.length) : (L.set xs.length u).take (xs.length + 1) = xs ++ [u] := by
 conv => rhs; rw [← h]
 generalize xs.length = n at *
 rw [List.take_add_one, List.getElem?_set_self hl, List.take_set_of_le (Nat.le_refl _)]
 rfl
theorem zTo {t ty e : TypeId} {i : TypeInfo} {z u : Value} {bytes : Nat} (ht : P.underlying t = some (.slice e)) (hi : P.info? e = some i) (hz : i.zero = some z) (hsize : i.size = 1) (hby : i.bytes = bytes) (hzs : z.cells.size = 1)
   {v : Value} {xs : List Value} (h : zLX v e xs w) {ad : Addr} {c : Nat} (hnews : ∀ j x, [u][j]? = some x → w.cell? (ad.add j) = some x) (h1 : u.oneCell' = true)
   (h63 : xs.length + 1 ≤ maxLen) (hbytes : (xs.length + 1) * bytes ≤ 140737488355328) :
   ∃ v' w', (Builtin.append_ #[t, t] ty #[v, .slice (some ad) 1 c]).run P w = .ok v' w' ∧ zLX v' e (xs ++ [u]) w' ∧ w.grownBy w' v.ownBlock ∧ (v'.ownBlock = v.ownBlock ∨ ∃ b, v'.ownBlock = some b ∧ w.heap.size ≤ b) := by
 have h1' : ∀ x ∈ [u], x.oneCell' = true := by intro x hx; rw [List.mem_singleton] at hx; rw [hx]; exact h1
 have hl : (xs ++ [u]).length = xs.length + 1 := by simp
 rcases h with ⟨rfl, rfl⟩ | ⟨g, o, cap, cur, rfl, hg, a1, a2, a3, a4⟩
 · obtain ⟨v', w', hr, h2, h3, _, h5⟩ := run_append_own_at (P := P) w 0 t ty e i z 1 bytes ht hi hz hsize hby hzs (by decide) _ 0 [] (World.ownsRow_nil w 0 e 1) ad 1 c [u] rfl hnews h1' h63 hbytes (Nat.zero_le _)
   exact ⟨v', w', hr, zPx (by simpa using h2), h3, h5.imp id fun h => ⟨_, h, Nat.le_refl _⟩⟩
 · by_cases hroom : xs.length + 1 ≤ cap
   · have hr := run_append_room_cells (P := P) w t ty e i ht hi g o xs.length cap ad 1 c [u] (by simp [hsize]) hnews h1' hroom
       (fun j hj => by
         have : j = 0 := by simpa using hj
         subst this
         rw [zNc (o := o) hg, hsize, Nat.mul_one, Nat.add_zero, Array.getElem?_eq_getElem (by omega)]; rfl)
       (fun j hj => by simp [World.frozen?, hg])
     rw [hsize, Nat.mul_one] at hr
     refine ⟨_, _, hr, .inr ⟨g, o, cap, cur.setIfInBounds (o + xs.length) u, by rw [hl], ?_, by omega, a2, by simpa using a3, ?_⟩, ⟨rfl, rfl, rfl, by simp [World.setCells, World.setCell], fun k hk hS => ?_⟩, .inl rfl⟩
     · simp [World.setCells, World.setCell, Array.getElem?_modify, hg]
     · rw [hl, Array.toList_setIfInBounds, List.drop_set, if_neg (by omega), show o + xs.length - o = xs.length by omega]
       exact zUJ a4 (by simp; omega)
     · have : ¬ g = k := fun e => hS (by simp [Value.ownBlock, e])
       simp [World.setCells, World.setCell, Array.getElem?_modify, this]
   · obtain ⟨v', w', hr, h2, h3⟩ := run_append_arg_grows (P := P) w t ty e i z 1 bytes ht hi hz hsize hby hzs (by decide) ⟨g, o, none⟩ xs.length cap xs (by simp)
       (fun j x hx => (zVW (.inr ⟨g, o, cap, cur, rfl, hg, a1, a2, a3, a4⟩)).at_ (by have := (List.getElem?_eq_some_iff.1 hx).1; omega) |> fun ⟨ad', c', e', _, _, hcell⟩ => by injection e' with e1 _ _; injection e1 with e1; subst e1; exact hcell j x hx)
       ad 1 c [u] rfl hnews (by omega) h63 hbytes
     have hv : ∃ b, v'.ownBlock = some b ∧ w.heap.size ≤ b := by
       rcases h2.2 with ⟨_, h0⟩ | ⟨g', cap', cur', rfl, hb, hg', _⟩
       · omega
       · exact ⟨g', rfl, hb⟩
     exact ⟨v', w', hr, zPx (by simpa using h2), ⟨h3.os, h3.tape, h3.output, h3.size, fun k hk _ => h3.block k hk (by simp)⟩, .inr hv⟩
theorem zSd {w' : World} {v v' : Value} {e : TypeId} {xs xs' : List Value} (hg : w.grownBy w' v.ownBlock) (ho : zLX v' e xs' w') (hat : v'.ownBlock = v.ownBlock ∨ ∃ b, v'.ownBlock = some b ∧ w.heap.size ≤ b) : Mem w (zM [rwo v e xs]) [rwo v' e xs'] w' := by
 refine ⟨⟨hg.os, hg.tape, hg.output, hg.size, fun k hk hS => hg.block k hk (fun e => hS (by simp [zM, rwo, ← e]))⟩, ?_, by cases hv : v'.ownBlock <;> simp [zM, rwo, hv], fun k hk => ?_⟩
 · intro y hy
   simp only [List.mem_singleton] at hy
   subst hy
   exact ho
 · simp only [zM, rwo, List.flatMap_cons, List.flatMap_nil, List.append_nil, Option.mem_toList] at hk ⊢
   rcases hat with h | ⟨b, h, hb⟩
   · left; rw [← h]; exact hk
   · right
     have h2 : some k = some b := hk.symm.trans h
     injection h2 with h2
     omega
theorem zJz {x y : Operand} {v u uv z : Value} {t e : TypeId} {bytes : Nat} {xs : List Value} {T : List Nat} {M' : List HA} {i : TypeInfo}
   (hs : St n F w0 S M a w) (hx : evo F x = some v) (hy : evo F y = some uv) (hb : Del M (rwo v e xs) M') (hr : Rd w T uv 1 1 [u]) (h1 : u.oneCell' = true)
   (ht : P.underlying t = some (.slice e)) (hi : P.info? e = some i) (hz : i.zero = some z) (hsize : i.size = 1) (hby : i.bytes = bytes) (hzs : z.cells.size = 1)
   (hbytes : (xs.length + 1) * bytes ≤ 140737488355328) (h63 : xs.length + 1 ≤ maxLen) (hd : Nat.blt d n = true)
   (k : ∀ v' a w, St n ((d, v') :: F) w0 S (rwo v' e (xs ++ [u]) :: M') a w → wpList P ops Q rest a w) :
   wpList P ops Q (⟨some d, .call { callee := .builtin .append, args := #[x, y], argTypes := #[t, t] }, ty, pos, af, none⟩ :: rest) a w := by
 obtain ⟨ad, c, rfl, _, _, hcell⟩ := hr.at_ (by decide)
 obtain ⟨v', w', hrun, h2, h3, h5⟩ := zTo (P := P) (w := w) (ty := ty) (c := c) ht hi hz hsize hby hzs (hs.mem.del hb) hcell h1 h63 hbytes
 refine zDQ rfl rfl (v := v') (w' := w') ?_ (k v' _ _ ((hs.frame (.c hb .n) (zSd h3 h2 h5)).put hd v'))
 simp [execOp, resolve, invoke, builtin, hs.ev hx, hs.ev hy, hrun]
theorem St.rerwo {v : Value} {e : TypeId} {xs xs' : List Value} {M' : List HA} (hs : St n F w0 S M a w) (hb : Del M (rwo v e xs) M') (hx : xs = xs') : St n F w0 S (rwo v e xs' :: M') a w :=
 hs.frame (.c hb .n) (zHi (by rw [← hx]; exact hs.mem.del hb) rfl)
/-! ### Numbers -/
def iV (l : List Int) : List Value := l.map (Value.int .i64)
theorem zEB (l : List Int) : (iV l).length = l.length := by simp [iV]
theorem zHu (l : List Int) (j : Nat) (h : j < l.length) : (iV l)[j]? = some (.int .i64 (l.getD j 0)) := by
 simp [iV, List.getD_eq_getElem?_getD, List.getElem?_eq_getElem h]
theorem zIo (l : List Int) (x : Int) : iV l ++ [.int .i64 x] = iV (l ++ [x]) := by simp [iV]
theorem zRh {l : List Int} (h : ((l.length : Nat) : Int) = 0) : Value.tuple #[.int .i64 0, .bool false] = Value.tuple #[.int .i64 (l.getD 0 0), .bool (decide (0 < l.length))] := by
 rw [show l = [] from List.eq_nil_of_length_eq_zero (by omega)]; rfl
theorem zOd {l : List Int} (h : ¬ ((l.length : Nat) : Int) = 0) : Value.tuple #[.int .i64 (l.getD 0 0), .bool true] = Value.tuple #[.int .i64 (l.getD 0 0), .bool (decide (0 < l.length))] := by
 rw [show decide (0 < l.length) = true from decide_eq_true (by omega)]
def zDD (v : Value) (l : List Int) (x : Int) : Value := if l.getD 0 0 = x then zFX v 1 1 l.length else v
def zJs (l : List Int) (x : Int) : List Int := if l.getD 0 0 = x then l.drop 1 else l
theorem zTR {v : Value} {l : List Int} {x : Int} (h : l.getD 0 0 = x) : zFX v 1 1 l.length = zDD v l x := (if_pos h).symm
theorem zTl {v : Value} {l : List Int} {x : Int} (h : ¬ l.getD 0 0 = x) : v = zDD v l x := (if_neg h).symm
theorem zMf {v : Value} {e : TypeId} {l : List Int} (x : Int) (hl : 0 < l.length) (h : zLX v e (iV l) w) : zLX (zDD v l x) e (iV (zJs l x)) w ∧ (zDD v l x).ownBlock = v.ownBlock := by
 unfold zDD zJs
 by_cases hx : l.getD 0 0 = x
 · rw [if_pos hx, if_pos hx]
   cases l with
   | nil => cases hl
   | cons y t =>
     have := zNA (v := v) (x := .int .i64 y) (xs := iV t) (e := e) (by simpa [iV] using h)
     rw [zEB] at this
     exact this
 · rw [if_neg hx, if_neg hx]
   exact ⟨h, rfl⟩
theorem St.rwoDrop {v : Value} {e : TypeId} {l : List Int} {M' : List HA} (hs : St n F w0 S M a w) (hb : Del M (rwo v e (iV l)) M') (x : Int) (hl : 0 < l.length) : St n F w0 S (rwo (zDD v l x) e (iV (zJs l x)) :: M') a w :=
 hs.frame (.c hb .n) (zHi (zMf x hl (hs.mem.del hb)).1 (zMf x hl (hs.mem.del hb)).2)
def zJl (f : Int → Int → Bool) (l : List Int) (x : Int) : Nat → Nat
 | 0 => 0
 | k + 1 => if f (l.getD k 0) x then zJl f l x k else k + 1
def zDg (f : Int → Int → Bool) (l : List Int) (x : Int) : List Int := l.take (zJl f l x l.length) ++ [x]
theorem zP9 {f : Int → Int → Bool} {l : List Int} {x : Int} {k m : Nat} (h : zJl f l x k = m) (h0 : 0 < k) (hf : f (l.getD (k - 1) 0) x = true) : zJl f l x (k - 1) = m := by
 obtain ⟨j, rfl⟩ : ∃ j, k = j + 1 := ⟨k - 1, by omega⟩
 rw [zJl, show j + 1 - 1 = j from rfl] at *
 rw [if_pos hf] at h
 exact h
theorem zIh {f : Int → Int → Bool} {l : List Int} {x : Int} {k m : Nat} (h : zJl f l x k = m) (hf : k = 0 ∨ f (l.getD (k - 1) 0) x = false) : k = m := by
 rcases Nat.eq_zero_or_pos k with h0 | h0
 · subst h0; exact h
 · obtain ⟨j, rfl⟩ : ∃ j, k = j + 1 := ⟨k - 1, by omega⟩
   rcases hf with hf | hf
   · omega
   · rw [show j + 1 - 1 = j from rfl] at hf
     rw [zJl, if_neg (by rw [hf]; decide)] at h
     exact h
theorem St.rwoPop {v : Value} {e : TypeId} {l : List Int} {k : Nat} {M' : List HA} (hs : St n F w0 S M a w) (hb : Del M (rwo v e (iV (l.take k))) M') (h0 : 0 < k) (hk : k ≤ l.length) : St n F w0 S (rwo (zFX v 1 0 (k - 1)) e (iV (l.take (k - 1))) :: M') a w := by
 have e1 : iV (l.take k) = iV (l.take (k - 1)) ++ [.int .i64 (l.getD (k - 1) 0)] := by
   rw [zIo]
   congr 1
   rw [List.getD_eq_getElem?_getD, List.getElem?_eq_getElem (by omega)]
   conv => lhs; rw [show k = (k - 1) + 1 by omega]
   rw [List.take_add_one, List.getElem?_eq_getElem (by omega)]
   rfl
 rw [e1] at hb
 have h2 := hs.rwoInit hb
 rw [zEB, List.length_take, Nat.min_eq_left (by omega)] at h2
 exact h2
theorem zAq {v : Value} {e : TypeId} {l : List Int} {m : Nat} (h : zLX v e (iV l) w) (hn : l.length = m) : Rd w [] v 1 m (iV l) := by
 have := zVW h
 rw [zEB, hn] at this
 exact this
theorem zW8 (l : List Int) (k j : Nat) (hj : j < k) (hk : k ≤ l.length) : (iV (l.take k))[j]? = some (.int .i64 (l.getD j 0)) := by
 rw [zHu _ j (by rw [List.length_take]; omega)]
 simp only [List.getD_eq_getElem?_getD, List.getElem?_take, if_pos hj]
theorem zWG {v : Value} {e : TypeId} {xs : List Value} (h : (rwo v e xs).p w) : Mem w (zM [rwo v e xs]) [rwo v e xs] w := zHi h rfl
def zSR (c : Int) (l : List Int) (x : Int) : List Int := (if ((l.length : Nat) : Int) = c then l.drop 1 else l) ++ [x]
def wD (c : Int) (l q : List Int) : List Int := if ((l.length : Nat) : Int) = c then zJs q (l.getD 0 0) else q
theorem zKm (q : List Int) (x : Int) : (zJs q x).length ≤ q.length := by unfold zJs; split <;> simp
theorem zKL {v : Value} {m : Nat} (l : List Int) (x : Int) (h : zDX v m) : ∃ k, zDX (zDD v l x) k := by
 obtain ⟨A, c, rfl⟩ := h
 unfold zDD
 split
 · exact ⟨_, _, _, rfl⟩
 · exact ⟨_, _, _, rfl⟩
theorem zVC {v : Value} {e : TypeId} {l : List Int} (hl : 0 < l.length) (h : zLX v e (iV l) w) : zLX (zFX v 1 1 l.length) e (iV (l.drop 1)) w ∧ (zFX v 1 1 l.length).ownBlock = v.ownBlock := by
 cases l with
 | nil => cases hl
 | cons y t =>
   have := zNA (v := v) (x := .int .i64 y) (xs := iV t) (e := e) (by simpa [iV] using h)
   rw [zEB] at this
   exact this
theorem St.rwoTl {v : Value} {e : TypeId} {l : List Int} {M' : List HA} (hs : St n F w0 S M a w) (hb : Del M (rwo v e (iV l)) M') (hl : 0 < l.length) : St n F w0 S (rwo (zFX v 1 1 l.length) e (iV (l.drop 1)) :: M') a w :=
 hs.frame (.c hb .n) (zHi (zVC hl (hs.mem.del hb)).1 (zVC hl (hs.mem.del hb)).2)
end Go.Sx
/- A clock's states: plain mathematics. -/
set_option linter.unusedVariables false
namespace Go.Sx
structure KS where
 l1 : List Int
 l2 : List Int
 l3 : List Int
 s : Int
 t : Int
 b : Int
 j : Int
 now : Int
abbrev gtI : Int → Int → Bool := fun p q => decide (q < p)
abbrev ltI : Int → Int → Bool := fun p q => decide (p < q)
def KS.off (K : KS) : Int := K.l2.getD 0 0
def zVT (c : zAJ) (K : KS) (x y : Int) : KS :=
 let d := zBJ x y
 let m2 := zDg gtI (wD c.window K.l1 K.l2) d
 let j := zEH K.j (zBJ d (m2.getD 0 0))
 ⟨zSR c.window K.l1 d, m2, zDg ltI (wD c.window K.l1 K.l3) d, K.s, K.t, K.b, j, zSK c K.now j⟩
def zUF (K : KS) (x : Int) : Int := zBJ (zBJ x (K.l2.getD 0 0)) K.now
def zOw (c : zAJ) (K : KS) (x : Int) : KS := if 0 < K.l2.length then { K with s := sS c.num c.den K.s K.t K.b x (zUF K x), t := sT K.t K.b x, b := 1 } else K
def kTm (c : zAJ) (K : KS) (x : Int) : Int := if 0 < K.l2.length then sS c.num c.den K.s K.t K.b x (zUF K x) else 0
def K0 (c : zAJ) : KS := ⟨[], [], [], 0, 0, 0, 0, zIS c 0⟩
structure KS.ok (c : zAJ) (K : KS) : Prop where
 h1 : ((K.l1.length : Nat) : Int) ≤ c.window
 s2 : K.l2.Sublist K.l1
 s3 : K.l3.Sublist K.l1
 h0 : 0 < K.l1.length → 0 < K.l2.length ∧ 0 < K.l3.length
 r : ∀ x ∈ K.l1, R64 x
 s : R64 K.s
 t : R64 K.t
 j : R64 K.j
 now : c.least ≤ K.now ∧ K.now ≤ c.most
theorem zZt {c : Int} {l q : List Int} (h : q.Sublist l) : (wD c l q).Sublist (if ((l.length : Nat) : Int) = c then l.drop 1 else l) := by
 unfold wD
 split
 · unfold zJs
   cases l with
   | nil => have := List.sublist_nil.1 h; subst this; simp
   | cons y l =>
     cases q with
     | nil => simp
     | cons z q =>
       show List.Sublist (if (z :: q).getD 0 0 = (y :: l).getD 0 0 then (z :: q).drop 1 else z :: q) l
       by_cases hz : z = y
       · rw [if_pos (by simpa using hz)]
         subst hz
         simpa using h
       · rw [if_neg (by simpa using hz)]
         cases h with
         | cons _ h => exact h
         | cons_cons _ h => exact absurd rfl hz
 · exact h
theorem zQA {f : Int → Int → Bool} {q l : List Int} {x : Int} (h : q.Sublist l) : (zDg f q x).Sublist (l ++ [x]) := by
 unfold zDg
 exact List.Sublist.append ((List.take_sublist _ _).trans h) (List.Sublist.refl _)
theorem zKz (f : Int → Int → Bool) (q : List Int) (x : Int) : 0 < (zDg f q x).length := by unfold zDg; simp
theorem zMv {c : Int} {l : List Int} {x y : Int} (h : y ∈ zSR c l x) : y ∈ l ∨ y = x := by
 unfold zSR at h
 rcases List.mem_append.1 h with h | h
 · left
   split at h
   · exact List.mem_of_mem_drop h
   · exact h
 · right; simpa using h
theorem zJG {l : List Int} (h : ∀ x ∈ l, R64 x) : R64 (l.getD 0 0) := by
 cases l with
 | nil => show R64 0; omega
 | cons x l => exact h x (by simp)
theorem KS.ok.r2 {c : zAJ} {K : KS} (h : K.ok c) : ∀ x ∈ K.l2, R64 x := fun x hx => h.r x (h.s2.subset hx)
theorem zLz {c : zAJ} {K : KS} (h : K.ok c) (x : Int) (f : Int → Int → Bool) {q : List Int} (hq : q.Sublist K.l1) : (zDg f (wD c.window K.l1 q) x).Sublist (zSR c.window K.l1 x) := zQA (zZt hq)
theorem zWo {c : zAJ} {K : KS} (h : K.ok c) {d : Int} (hd : R64 d) : R64 ((zDg gtI (wD c.window K.l1 K.l2) d).getD 0 0) := by
 refine zJG fun y hy => ?_
 rcases zMv ((zLz h d gtI h.s2).subset hy) with h1 | h1
 · exact h.r y h1
 · rw [h1]; exact hd
theorem zR2 {x y : Int} (hx : R64 x) (hy : R64 y) : R64 (zEH x y) := by
 have := zRL hx.2 hy.2
 omega
theorem zVz {c : zAJ} {K : KS} {x y : Int} (hk : zCZ c = 0) (h : K.ok c) : (zVT c K x y).ok c := by
 obtain ⟨⟨_, _, hw, _⟩, hd, _⟩ := zFV hk
 have hdr : R64 (zBJ x y) := zBw _ _
 refine ⟨?_, zLz h _ _ h.s2, zLz h _ _ h.s3, fun _ => ⟨zKz _ _ _, zKz _ _ _⟩, fun z hz => ?_, h.s, h.t, ?_, ?_⟩
 · show (((zSR c.window K.l1 (zBJ x y)).length : Nat) : Int) ≤ c.window
   unfold zSR
   have := h.h1
   split
   · simp only [List.length_append, List.length_drop, List.length_singleton]; omega
   · simp only [List.length_append, List.length_singleton]; omega
 · rcases zMv hz with h1 | h1
   · exact h.r z h1
   · rw [h1]; exact hdr
 · exact zR2 h.j (zBw _ _)
 · exact zUV hd h.now
theorem za0 {b x y : Int} (hx : R64 x) (hy : R64 y) : R64 (sP b x y) := by unfold sP; split <;> assumption
theorem zRY {c : zAJ} {K : KS} {x : Int} (hx : R64 x) (h : K.ok c) : (zOw c K x).ok c := by
 unfold zOw
 split
 · have hw : R64 (zUF K x) := zBw _ _
   have h1 := za0 (b := K.b) hw h.s
   have h2 := za0 (b := K.b) hx h.t
   refine ⟨h.h1, h.s2, h.s3, h.h0, h.r, ?_, ?_, h.j, h.now⟩
   · show R64 (sS _ _ _ _ _ _ _)
     unfold sS sS1
     have := zJ5 (sP K.b (zUF K x) K.s) (zD3 (zBJ (max x (sP K.b x K.t)) (sP K.b x K.t)) c.num c.den)
     omega
   · show R64 (sT _ _ _)
     unfold sT
     omega
 · exact h
theorem zap {c : zAJ} (hk : zCZ c = 0) : (K0 c).ok c := by
 obtain ⟨⟨_, _, hw, _⟩, hd, _⟩ := zFV hk
 exact ⟨by show (0 : Int) ≤ _; omega, List.Sublist.refl _, List.Sublist.refl _, fun h => absurd h (Nat.lt_irrefl 0), fun x hx => (by cases hx), by show R64 0; omega, by show R64 0; omega, by show R64 0; omega, zJK hd⟩
theorem St.addO {n : Nat} {F : List (Nat × Value)} {w0 w : World} {S : List Nat} {M : List HA} {a : Act} (hs : St n F w0 S M a w) (e : TypeId) : St n F w0 S (rwo (.slice none 0 0) e (iV []) :: M) a w := by
 refine hs.frame (N := [rwo (.slice none 0 0) e (iV [])]) .n ⟨Chg.refl _ _, ?_, by simp [zM, rwo, Value.ownBlock], by simp [zM, rwo, Value.ownBlock]⟩
 intro h hh
 simp only [List.mem_singleton] at hh
 subst hh
 exact .inl ⟨rfl, rfl⟩
structure KP where
 k : Nat
 wg : Nat
 sg : Nat
 jg : Nat
 dg : Nat
 v1 : Value
 v2 : Value
 v3 : Value
 cn : Int
 ch : Int
def KP.on (p : KP) (k : Nat) : KP := { p with k := k }
end Go.Sx
/- The client: plain mathematics. -/
set_option linter.unusedVariables false
set_option linter.unusedSimpArgs false
namespace Go.Sx
/-! ### What is kept is of numbers of 64 bits -/
def Wfs (l : List zAC) : Prop := ∀ s ∈ l, ∀ e ∈ s.l, e.wf
theorem zM2 {r : zAA} (h : r.wf) : (zFO r).wf := ⟨h.id, h.p0, h.p1, h.p2, h.v0, h.v1, h.v2⟩
theorem zL7 {a : zX} {r : zAA} (ha : a.wf) (h : r.wf) : (zS a r).1.wf := by
 unfold zS
 split
 · exact zMV
 · split
   · exact zMV
   · split
     · exact ⟨ha.id, h.p0, h.p1, h.p2, h.v0, h.v1, h.v2⟩
     · exact ⟨ha.id, zE0 _, zE0 _, zE0 _, zE0 _, zE0 _, zE0 _⟩
theorem zKD {x : zX} {l : List zX} (hx : x.wf) (h : ∀ e ∈ l, e.wf) : ∀ e ∈ x :: l, e.wf := by
 intro e he; rcases List.mem_cons.1 he with h1 | h1
 · rw [h1]; exact hx
 · exact h e h1
theorem zYn : ∀ (n : Nat) (was : List zX) (l : List zAA), was.length + l.length ≤ n → (∀ e ∈ was, e.wf) → (∀ r ∈ l, r.wf) → ∀ out, apl was l = some out → ∀ e ∈ out, e.wf := by
 intro n
 induction n with
 | zero =>
   intro was l hn hw hl out h
   cases l with
   | nil => rw [zJr] at h; cases h; exact hw
   | cons r l => simp at hn
 | succ n ih =>
   intro was l hn hw hl out h
   cases l with
   | nil => rw [zJr] at h; cases h; exact hw
   | cons r l =>
     have hr := hl r (by simp)
     have hl2 : ∀ r ∈ l, r.wf := fun x hx => hl x (by simp [hx])
     cases was with
     | nil =>
       unfold apl at h
       split at h
       · rw [Option.map_eq_some_iff] at h
         obtain ⟨o, h1, rfl⟩ := h
         exact zKD (zM2 hr) (ih [] l (by simp at hn ⊢; omega) hw hl2 o h1)
       · cases h
     | cons x was =>
       have hx := hw x (by simp)
       have hw2 : ∀ e ∈ was, e.wf := fun e he => hw e (by simp [he])
       simp only [List.length_cons] at hn
       unfold apl at h
       split at h
       · rw [Option.map_eq_some_iff] at h
         obtain ⟨o, h1, rfl⟩ := h
         exact zKD hx (ih was (r :: l) (by simp only [List.length_cons]; omega) hw2 hl o h1)
       · split at h
         · split at h
           · cases h
           · split at h
             · exact ih was l (by omega) hw2 hl2 out h
             · rw [Option.map_eq_some_iff] at h
               obtain ⟨o, h1, rfl⟩ := h
               exact zKD (zL7 hx hr) (ih was l (by omega) hw2 hl2 o h1)
         · split at h
           · rw [Option.map_eq_some_iff] at h
             obtain ⟨o, h1, rfl⟩ := h
             exact zKD (zM2 hr) (ih (x :: was) l (by simp only [List.length_cons]; omega) hw hl2 o h1)
           · cases h
theorem zad {at_ atm : Int} {a : List zX} {gt gtm gb : Int} {rl : List zAA} (ha : ∀ e ∈ a, e.wf) (hr : ∀ r ∈ rl, r.wf) : ∀ e ∈ (aS at_ atm a gt gtm gb rl).l, e.wf := by
 unfold aS
 split
 · intro e he
   cases ho : apl (zGU gb a) rl with
   | none => rw [ho] at he; simp at he
   | some o =>
     rw [ho] at he
     refine zYn _ _ _ (Nat.le_refl _) (fun e he => ?_) hr o ho e he
     unfold zGU at he
     split at he
     · exact ha e he
     · cases he
 · intro e he; cases he
theorem zXP {l : List zAC} (h : Wfs l) (k : Int) : ∀ e ∈ (zE7 l k).l, e.wf := by
 unfold zE7
 split
 · rename_i hk
   rw [List.getD_eq_getElem?_getD]
   cases ho : l[zAv l k]? with
   | none => intro e he; cases he
   | some s => exact h s (List.mem_of_getElem? ho)
 · intro e he; cases he
theorem zSe {l : List zAC} {most : Nat} {x : zAC} (h : Wfs l) (hx : ∀ e ∈ x.l, e.wf) : Wfs (zMU l most x) := by
 have hk : Wfs (zCC l (zAv l x.t) x) := by
   intro s hs
   unfold zCC at hs
   rcases List.mem_append.1 hs with h1 | h1
   · exact h s (List.mem_of_mem_take h1)
   · rcases List.mem_cons.1 h1 with h2 | h2
     · rw [h2]; exact hx
     · exact h s (List.mem_of_mem_drop h2)
 unfold zMU
 split
 · exact hk
 · exact fun s hs => hk s (List.mem_of_mem_drop hs)
theorem zV5 {most : Nat} {σ : Stt} {bs : List zP} (h : Wfs σ.l) : Wfs (zCx most σ (zA bs)).l := by
 unfold zCx
 split
 · exact zSe h (zad (zXP h _) (zJp bs))
 · exact h
/-! ### What is shown, of snapshots as such -/
def zbA (s : zAC) : RI := ⟨s.t, s.tm, s.l, .slice none 0 0⟩
def riF (x : RI) : RI := zbA x.sn
def zCK (c : zAJ) (l : List zAC) (t : Int) : List zG3 × Nat := zD8 c (l.map zbA) t
theorem zac (L : List RI) : tms (L.map riF) = tms L := by unfold tms; rw [List.map_map]; rfl
theorem zQg : ∀ L : List RI, zEK (L.map riF) = zEK L
 | [] => rfl
 | x :: L => by
   show (if _ then _ else zEK (L.map riF)) = _
   rw [zQg L]; rfl
theorem zPo (L : List RI) (i : Nat) : (L.map riF).getD i default = riF (L.getD i default) := by
 rw [List.getD_eq_getElem?_getD, List.getD_eq_getElem?_getD, List.getElem?_map]
 cases L[i]? <;> rfl
theorem zUx (L : List RI) (t : Int) : ∀ k, zJC (L.map riF) t k = zJC L t k
 | 0 => rfl
 | k + 1 => by unfold zJC; rw [zUx L t k, zPo, List.length_map]; rfl
theorem zVh (L : List RI) (t : Int) : zBA (L.map riF) t = zBA L t := by unfold zBA; rw [zac, zUx, List.length_map]
theorem zRb (c : zAJ) (L : List RI) : zFA c (L.map riF) = zFA c L := by unfold zFA; rw [zQg]
theorem zRD (c : zAJ) (x : RI) (t : Int) : zD4 c (riF x) t = zD4 c x t := by
 have h := zRb c [x]
 unfold zD4; rw [show [riF x] = [x].map riF from rfl, h]; rfl
theorem zVq (c : zAJ) (x : RI) (t : Int) : zDN c (riF x) t = zDN c x t := by unfold zDN; rw [zRD]; rfl
theorem zRe (c : zAJ) (x y : RI) (t : Int) : zDw c (riF x) (riF y) t = zDw c x y t := by
 have h := zRb c [x, y]
 unfold zDw; rw [show [riF x, riF y] = [x, y].map riF from rfl, h]; rfl
theorem zWl (c : zAJ) (x y : RI) (t : Int) : zDW c (riF x) (riF y) t = zDW c x y t := by unfold zDW; rw [zRe]; rfl
theorem zYM (c : zAJ) (L : List RI) (t : Int) : zD8 c (L.map riF) t = zD8 c L t := by
 unfold zD8; rw [zRb, zVh, zPo, zPo, zVq, zRD, zWl, zRe]
theorem zTi (c : zAJ) (L : List RI) (t : Int) : zD8 c L t = zCK c (sns L) t := by
 unfold zCK; rw [sns, List.map_map]; exact (zYM c L t).symm
/-! ### States -/
structure CS where
 σ : Stt
 K : KS
 fr : Nat
structure ShR where
 ready : Bool
 time : Int
 l : List zG3
def zAJ.keep (c : zAJ) : Nat := c.ring.toNat
def zE9 (c : zAJ) (C : CS) (G : zCu) : Nat := zBe C.σ.l c.keep C.σ.floor C.σ.gone G
def zS3 (c : zAJ) (C : CS) (G : zCu) : Int := (zE7 (zCx c.keep C.σ G).l (zIj C.σ.l c.keep C.σ.floor C.σ.gone G)).tm
def zLZ (c : zAJ) (C : CS) (x : Int) (G : zCu) : CS := ⟨zCx c.keep C.σ G, if zE9 c C G = 0 then zVT c C.K x (zS3 c C G) else C.K, C.fr⟩
def zVQ (c : zAJ) (C : CS) (x : Int) : CS := ⟨C.σ, zOw c C.K x, C.fr + 1⟩
def zCr (c : zAJ) (C : CS) (x : Int) : ShR := if 0 < C.K.l2.length then ⟨true, kTm c C.K x, (zCK c C.σ.l (kTm c C.K x)).1⟩ else ⟨false, 0, []⟩
def C0 (c : zAJ) : CS := ⟨zZx, K0 c, 0⟩
structure CS.ok (c : zAJ) (C : CS) : Prop where
 k : C.K.ok c
 wf : Wfs C.σ.l
theorem zYQ {c : zAJ} (hk : zCZ c = 0) : (C0 c).ok c := ⟨zap hk, fun s hs => by cases hs⟩
theorem zLn {c : zAJ} {C : CS} {x : Int} {bs : List zP} (hk : zCZ c = 0) (h : C.ok c) : (zLZ c C x (zA bs)).ok c := by
 refine ⟨?_, zV5 h.wf⟩
 show KS.ok c (if _ then _ else _)
 split
 · exact zVz hk h.k
 · exact h.k
theorem zYK {c : zAJ} {C : CS} {x : Int} (hx : R64 x) (h : C.ok c) : (zVQ c C x).ok c := ⟨zRY hx h.k, h.wf⟩
instance : Inhabited KP := ⟨⟨0, 0, 0, 0, 0, .slice none 0 0, .slice none 0 0, .slice none 0 0, 0, 0⟩⟩
theorem zal {c : zAJ} {K : KS} {x : Int} (hx : R64 x) (h : K.ok c) : R64 (kTm c K x) := by
 have h1 := (zRY hx h).s
 unfold zOw at h1
 unfold kTm
 split at h1
 · rename_i hq; rw [if_pos hq]; exact h1
 · rename_i hq; rw [if_neg hq]; show R64 0; omega
theorem zX9 {L : List RI} {l : List zAC} {j : Nat} {v : Value} (h : sns L = l.take j) (hj : j < l.length) : sns (L ++ [(⟨(sat l (j : Int)).t, (sat l (j : Int)).tm, (sat l (j : Int)).l, v⟩ : RI)]) = l.take (j + 1) := by
 have hs : sat l (j : Int) = l[j] := by
   unfold sat
   rw [if_pos (by omega), Int.toNat_natCast, List.getD_eq_getElem?_getD, List.getElem?_eq_getElem hj]; rfl
 have h2 : sns (L ++ [(⟨(sat l (j : Int)).t, (sat l (j : Int)).tm, (sat l (j : Int)).l, v⟩ : RI)]) = sns L ++ [sat l (j : Int)] := by unfold sns; rw [List.map_append]; rfl
 rw [h2, h, hs, List.take_succ_eq_append_getElem hj]
theorem zSl {L : List RI} {j : Nat} (h : j < L.length) : iV ((L.take j).map RI.t) ++ [.int .i64 (L.getD j default).t] = iV ((L.take (j + 1)).map RI.t) := by
 rw [zIo, List.take_succ_eq_append_getElem h, List.map_append, List.getD_eq_getElem?_getD, List.getElem?_eq_getElem h]; rfl
theorem zUH {L : List RI} {l : List zAC} (h : sns L = l) : L.map RI.t = l.map zAC.t := by subst h; unfold sns; rw [List.map_map]; rfl
theorem zK8 {c : zAJ} (hk : zCZ c = 0) : ((c.keep : Nat) : Int) = c.ring ∧ 1 ≤ c.keep ∧ c.keep ≤ 64 := by
 obtain ⟨⟨h1, h2, _, _⟩, _⟩ := zFV hk
 unfold zAJ.keep
 omega
theorem Mem.resep {w w' : World} {S : List Nat} {A B : List HA} (h : Mem w S (A ++ B) w') : Mem w S (A ++ [zF2 B]) w' := by
 obtain ⟨h1, h2, h3⟩ := Mem.parts h
 refine ⟨h.chg, fun y hy => ?_, h3, by rw [zDb]; exact h.ge⟩
 rcases List.mem_append.1 hy with e | e
 · exact h1 y e
 · rw [List.mem_singleton] at e; rw [e]; exact h2
theorem Mem.wide {w w' : World} {S : List Nat} {N : List HA} (h : Mem w [] N w') : Mem w S N w' := ⟨⟨h.chg.os, h.chg.tape, h.chg.output, h.chg.size, fun k hk _ => h.chg.block k hk (by simp)⟩, h.all, h.nd, fun k hk => (h.ge k hk).elim (fun h => by cases h) .inr⟩
theorem zZ8 {e : Nat} {L : List RI} {w : World} {most : Nat} (h : (rws e L).p w) (ho : Oks (sns L) most) (hw : Wfs (sns L)) : ∀ x ∈ L, x.ok w := by
 intro x hx
 have hm : x.sn ∈ sns L := List.mem_map.2 ⟨x, hx, rfl⟩
 obtain ⟨h1, h2, h3, h4, h5⟩ := ho.rng x.sn hm
 exact ⟨⟨by have : (0 : Int) ≤ x.t := h1; omega, by have : x.t ≤ 4294967295 := h2; omega⟩, ⟨h3, h4⟩, zEE h (.inl hx), hw x.sn hm⟩
end Go.Sx
/- The client's example: plain mathematics. -/
set_option linter.unusedVariables false
namespace Go.Sx
section
open Go.RowKit
variable {P : Program} {ops : Array Oper} {Q : Exit → Act → World → Prop} {rest : List Oper} {n : Nat} {F : List (Nat × Value)} {w0 : World} {S : List Nat} {M : List HA} {a : Act} {w : World} {d : Nat} {ty : TypeId} {pos : String} {af : Array Edge}
theorem zZ7 {x i : Operand} {v : Value} {t e : TypeId} {j o len size m sz : Nat} {T : List Nat} {xs : List Value} {kd : IntKind} {q : Int} (hs : St n F w0 S M a w) (hx : evo F x = some (.pointer (some (adr v j)))) (hi : evo F i = some (.int kd q)) (hr : Rd w T v size m xs) (hm : 0 < m) (ht : P.underlying t = some (.array len e))
   (h0 : 0 ≤ q) (h1 : q < len) (hsz : ∀ w, (sizeOf e).run P w = .ok sz w) (ho : j + q.toNat * sz = o) (hd : Nat.blt d n = true)
   (k : ∀ a w, St n ((d, .pointer (some (adr v o))) :: F) w0 S M a w → wpList P ops Q rest a w) : wpList P ops Q (⟨some d, .indexAddr t x i, ty, pos, af, none⟩ :: rest) a w := by
 subst ho
 have ha : (adr v j).add (q.toNat * sz) = adr v (j + q.toNat * sz) := by rw [zLi hr hm]
 have hb : 0 ≤ q ∧ q < (len : Int) := ⟨h0, h1⟩
 exact zL hs (by simp [execOp, Instr.indexAt, Instr.sureAddr, asIntOf, hs.ev hx, hs.ev hi, run_underlying ht, hb, hsz, ha]) hd k
end
def exC : zAJ := ⟨4, 4, 0, 0, 0, 0, 0, 1, 1, 0, false⟩
def exR (pl : Int) : zAA := ⟨0, 1, pl, 0, 0, 0, 0, 0, 0#16⟩
def exB (t tm pl : Int) : List zP := gwB t tm (-1) [exR pl]
theorem zQZ {pl : Int} (h : R64 pl) : ∀ x ∈ [exR pl], x.wf := by
 intro x hx; rw [List.mem_singleton] at hx; rw [hx]
 exact ⟨(by show R64 0; omega), (by show R64 1; omega), h, (by show R64 0; omega), (by show R64 0; omega), (by show R64 0; omega), (by show R64 0; omega), (by show R64 0; omega)⟩
theorem zX3 : zCZ exC = 0 := by decide +kernel
theorem zXm : zA (exB 1 0 0) = ⟨1, 0, -1, [exR 0], 0⟩ := zHa (zQZ (by omega)) (by decide +kernel)
theorem zZA : zA (exB 2 10 10) = ⟨2, 10, -1, [exR 10], 0⟩ := zHa (zQZ (by omega)) (by decide +kernel)
def zWd : CS := zLZ exC (C0 exC) 0 (zA (exB 1 0 0))
def zaR : CS := zLZ exC zWd 10 (zA (exB 2 10 10))
theorem zbG : zE9 exC (C0 exC) (zA (exB 1 0 0)) = 0 := by rw [zXm]; decide +kernel
theorem zbD : zE9 exC zWd (zA (exB 2 10 10)) = 0 := by unfold zWd; rw [zXm, zZA]; decide +kernel
theorem zbI : zCr exC zaR 5 = ⟨true, 5, [⟨1, 5, 0, 0, 0#16, 1⟩]⟩ := by unfold zaR zWd; rw [zXm, zZA]; kernel_rfl
theorem zUy : (C0 exC).ok exC := zYQ zX3
theorem zVG : zWd.ok exC := zLn zX3 zUy
theorem zZI : zaR.ok exC := zLn zX3 zVG
theorem zNC (c : zAJ) (C : CS) (x : Int) (G : zCu) (i : Nat) : (zLZ c C x G).σ.n i ≤ C.σ.n i + 1 := by
 show (zCx _ _ _).n i ≤ _
 unfold zCx
 split <;> (show zBQ _ _ i ≤ _; unfold zBQ; split <;> omega)
end Go.Sx
/- Rows' arguments: configs, events. -/
set_option linter.unusedVariables false
set_option linter.unusedSimpArgs false
namespace Go.Sx
open Go.RowKit Go.ChangeShapes Go.WideShapes
variable {W : World}
theorem zae {c : List Value} (h : AllK W c [.i .u8]) : ∃ b : zP, c = [zKv b] := by
 obtain ⟨u, us, rfl, h1, h2⟩ := h.split
 rw [h2.none]
 cases h1 with
 | i w =>
   obtain ⟨X, hX⟩ := zHv w
   exact ⟨X, by rw [hX]; rfl⟩
theorem zRS {α : Type} (f : α → Value) : ∀ (l : List α), (l.flatMap fun x => [f x]) = l.map f
 | [] => rfl
 | a :: l => by simp [zRS f l]
def zbK (c : zAJ) : List Value := [.int .i64 c.ring, .int .i64 c.window, .int .i64 c.base, .int .i64 c.gain, .int .i64 c.least, .int .i64 c.most, .int .i64 c.slack, .int .i64 c.num, .int .i64 c.den, .int .i64 c.extra, .bool c.curve]
theorem OneK.boo {v : Value} (h : OneK W v .b) : ∃ b : Bool, v = .bool b := by cases h; exact ⟨_, rfl⟩
theorem zZq {cs : List Value} (h : AllK W cs [.i .i64, .i .i64, .i .i64, .i .i64, .i .i64, .i .i64, .i .i64, .i .i64, .i .i64, .i .i64, .b]) : ∃ c : zAJ, cs = zbK c := by
 obtain ⟨_, _, rfl, h1, h⟩ := h.split
 obtain ⟨_, _, rfl, h2, h⟩ := h.split
 obtain ⟨_, _, rfl, h3, h⟩ := h.split
 obtain ⟨_, _, rfl, h4, h⟩ := h.split
 obtain ⟨_, _, rfl, h5, h⟩ := h.split
 obtain ⟨_, _, rfl, h6, h⟩ := h.split
 obtain ⟨_, _, rfl, h7, h⟩ := h.split
 obtain ⟨_, _, rfl, h8, h⟩ := h.split
 obtain ⟨_, _, rfl, h9, h⟩ := h.split
 obtain ⟨_, _, rfl, h10, h⟩ := h.split
 obtain ⟨_, _, rfl, h11, h⟩ := h.split
 obtain rfl := h.none
 obtain ⟨z1, rfl, _⟩ := h1.i64
 obtain ⟨z2, rfl, _⟩ := h2.i64
 obtain ⟨z3, rfl, _⟩ := h3.i64
 obtain ⟨z4, rfl, _⟩ := h4.i64
 obtain ⟨z5, rfl, _⟩ := h5.i64
 obtain ⟨z6, rfl, _⟩ := h6.i64
 obtain ⟨z7, rfl, _⟩ := h7.i64
 obtain ⟨z8, rfl, _⟩ := h8.i64
 obtain ⟨z9, rfl, _⟩ := h9.i64
 obtain ⟨z10, rfl, _⟩ := h10.i64
 obtain ⟨b, rfl⟩ := h11.boo
 exact ⟨⟨z1, z2, z3, z4, z5, z6, z7, z8, z9, z10, b⟩, rfl⟩
structure EvR where
 k : Int
 at_ : Int
 v : Value
 bs : List zP
instance : Inhabited EvR := ⟨⟨0, 0, .slice none 0 0, []⟩⟩
def evV (x : EvR) : List Value := [.int .i64 x.k, .int .i64 x.at_, x.v]
theorem zJY (x : EvR) : (evV x).length = 3 := rfl
structure EvR.ok (W : World) (x : EvR) : Prop where
 k : R64 x.k
 at_ : R64 x.at_
 rd : Rd W [] x.v 1 x.bs.length (zC x.bs)
theorem zaU {c : List Value} (h : AllK W c [.i .i64, .i .i64, .s 1 [.i .u8]]) : ∃ x : EvR, c = evV x ∧ x.ok W := by
 obtain ⟨_, _, rfl, h1, h⟩ := h.split
 obtain ⟨_, _, rfl, h2, h⟩ := h.split
 obtain ⟨_, _, rfl, h3, h⟩ := h.split
 obtain rfl := h.none
 obtain ⟨z1, rfl, w1⟩ := h1.i64
 obtain ⟨z2, rfl, w2⟩ := h2.i64
 obtain ⟨len, f, hf, hr⟩ := h3.sl
 obtain ⟨bs, hl, he⟩ := zQ4 (g := fun b : zP => [zKv b]) len fun i hi => zae (hf i hi)
 rw [he, zRS] at hr
 rw [← hl] at hr
 exact ⟨⟨z1, z2, _, bs⟩, rfl, ⟨w1, w2, hr⟩⟩
theorem zUR {H : Type} {enc : TypeId × Value → H} {P : Program} {t e : TypeId} {a : Option Addr} {len cap m : Nat} {dd : DataW H} {p : List MemPlace} (hu : P.underlying t = some (.slice e)) (hk : zF4 P m t = some [.s 3 [.i .i64, .i .i64, .s 1 [.i .u8]]]) (h : DataW.Trod enc P W 0 (fun _ => true) true t (.slice a len cap) dd p) :
   ∃ L : List EvR, Rd W [] (.slice a len cap) 3 L.length (L.flatMap evV) ∧ ∀ x ∈ L, x.ok W := by
 obtain ⟨f, hf, hr⟩ := zL0 hu hk h
 obtain ⟨l, hl, he, hp⟩ := zMa (g := evV) (p := fun x : EvR => x.ok W) len fun i hi => zaU (hf i hi)
 subst hl
 rw [he] at hr
 exact ⟨l, hr, hp⟩
end Go.Sx
/- A client's counts: plain mathematics. -/
set_option linter.unusedVariables false
namespace Go.Sx
theorem zOu {l : List EvR} {i : Nat} (h : i < l.length) : l.getD i default ∈ l := by
 rw [List.getD_eq_getElem?_getD, List.getElem?_eq_getElem h]; exact List.getElem_mem h
end Go.Sx
/- Maps of functions; what an event does to a client. -/
set_option linter.unusedVariables false
set_option linter.unusedSimpArgs false
namespace Go.Sx
open Go.RowKit
section
variable {P : Program} {ops : Array Oper} {Q : Exit → Act → World → Prop} {rest : List Oper} {n : Nat} {F : List (Nat × Value)} {w0 : World} {S : List Nat} {M : List HA} {a : Act} {w : World} {d : Nat} {ty : TypeId} {pos : String} {af : Array Edge}
theorem zIu {t kt e : TypeId} {m x y : Operand} {g : Nat} {k : Int} {u : Value} {kv kv' : List (Int × Value)} {M' : List HA} (hs : St n F w0 S M a w) (hm : evo F m = some (.map (some g))) (hx : evo F x = some (.int .i64 k)) (hy : evo F y = some u) (hb : Del M (mpr g kv) M')
   (ht : P.underlying t = some (.map kt e)) (hkt : P.underlying kt = some (.int .i64)) (he : zMb k u kv = kv')
   (c : ∀ a w, St n F w0 S (mpr g kv' :: M') a w → wpList P ops Q rest a w) : wpList P ops Q (⟨none, .insert t m x y, ty, pos, af, none⟩ :: rest) a w := by
 subst he
 obtain ⟨w', hr, hw⟩ := zR8 (hs.mem.del hb) ht hkt (k := k) (u := u)
 exact zIF rfl rfl (by simp [execOp, hs.ev hm, hs.ev hx, hs.ev hy, hr]) (c _ _ (hs.frame (.c hb .n) hw))
theorem zJw {t kt e : TypeId} {m x : Operand} {g : Nat} {k : Int} {kv : List (Int × Value)} {z v : Value} {b : Bool} {M' : List HA} (hs : St n F w0 S M a w) (hm : evo F m = some (.map (some g))) (hx : evo F x = some (.int .i64 k)) (hb : Del M (mpr g kv) M')
   (ht : P.underlying t = some (.map kt e)) (hkt : P.underlying kt = some (.int .i64)) (hz : ∀ w, (zeroValue e).run P w = .ok z w) (hv : (zHN k kv).getD z = v) (hq : (zHN k kv).isSome = b) (hd : Nat.blt d n = true)
   (c : ∀ a w, St n ((d, .tuple #[v, .bool b]) :: F) w0 S M a w → wpList P ops Q rest a w) : wpList P ops Q (⟨some d, .lookup t m x true, ty, pos, af, none⟩ :: rest) a w := by
 subst hv hq
 exact zPX hs hm hx hb ht hkt hz hd c
end
theorem zNk {k : Int} {a b : Value} (h0 : k ≠ 0) (h1 : k ≠ 1) : zHN k [(0, a), (1, b)] = none := by
 simp only [zHN]
 rw [if_neg (fun h => h0 h.symm), if_neg (fun h => h1 h.symm)]
def cDo (c : zAJ) (C : CS) (e : EvR) : CS := if e.k = 0 then zLZ c C e.at_ (zA e.bs) else if e.k = 1 then zVQ c C e.at_ else C
def zXx (c : zAJ) (C : CS) (e : EvR) : ShR := if e.k = 1 then zCr c C e.at_ else ⟨false, 0, []⟩
def zUd (c : zAJ) (C : CS) (e : EvR) : Nat := if e.k = 0 then zE9 c C (zA e.bs) else if e.k = 1 then 0 else 11
theorem zQn {c : zAJ} {C : CS} {e : EvR} (hk : zCZ c = 0) (he : R64 e.at_) (h : C.ok c) : (cDo c C e).ok c := by
 unfold cDo
 split
 · exact zLn hk h
 · split
   · exact zYK he h
   · exact h
theorem zZN (c : zAJ) (C : CS) (e : EvR) (i : Nat) : (cDo c C e).σ.n i ≤ C.σ.n i + 1 := by
 unfold cDo
 split
 · exact zNC _ _ _ _ i
 · split
   · exact Nat.le_succ _
   · exact Nat.le_succ _
theorem zRw (c : zAJ) (C : CS) (e : EvR) : (cDo c C e).fr = C.fr + (if e.k = 1 then 1 else 0) := by
 unfold cDo
 split
 · rename_i h; rw [if_neg (by omega)]; rfl
 · split <;> rfl
theorem zNb (c : zAJ) (C : CS) (e : EvR) : (cDo c C e).fr ≤ C.fr + 1 := by rw [zRw]; split <;> omega
end Go.Sx
/- A client with frames, beside one without: plain mathematics. -/
set_option linter.unusedVariables false
namespace Go.Sx
structure zIM (C D : CS) : Prop where
 σ : C.σ = D.σ
 l1 : C.K.l1 = D.K.l1
 l2 : C.K.l2 = D.K.l2
 l3 : C.K.l3 = D.K.l3
 j : C.K.j = D.K.j
 now : C.K.now = D.K.now
theorem zIM.refl (C : CS) : zIM C C := ⟨rfl, rfl, rfl, rfl, rfl, rfl⟩
theorem zIM.off {C D : CS} (h : zIM C D) : C.K.off = D.K.off := by unfold KS.off; rw [h.l2]
theorem zIM.frm {C D : CS} (h : zIM C D) (c : zAJ) (x : Int) : zIM (zVQ c C x) D := by
 obtain ⟨h1, h2, h3, h4, h5, h6⟩ := h
 unfold zVQ zOw
 split <;> exact ⟨h1, h2, h3, h4, h5, h6⟩
theorem zIM.err {C D : CS} (h : zIM C D) (c : zAJ) (G : zCu) : zE9 c C G = zE9 c D G := by unfold zE9; rw [h.σ]
theorem zIM.arr {C D : CS} (h : zIM C D) (c : zAJ) (x : Int) (G : zCu) : zIM (zLZ c C x G) (zLZ c D x G) := by
 have he := h.err c G
 obtain ⟨h1, h2, h3, h4, h5, h6⟩ := h
 have ht : zS3 c C G = zS3 c D G := by unfold zS3; rw [h1]
 unfold zLZ
 rw [he, ht, h1]
 split
 · unfold zVT
   rw [h2, h3, h4, h5, h6]
   exact ⟨rfl, rfl, rfl, rfl, rfl, rfl⟩
 · exact ⟨rfl, h2, h3, h4, h5, h6⟩
theorem zIM.doF {C D : CS} (h : zIM C D) (c : zAJ) {e : EvR} (he : e.k = 1) : zIM (cDo c C e) D := by
 unfold cDo; rw [if_neg (by omega), if_pos he]; exact h.frm c _
theorem zIM.do_ {C D : CS} (h : zIM C D) (c : zAJ) {e : EvR} (he : e.k ≠ 1) : zIM (cDo c C e) (cDo c D e) := by
 unfold cDo
 split
 · exact h.arr c _ _
 · first | exact h | (rw [if_neg he, if_neg he]; exact h)
theorem zIM.doE {C D : CS} (h : zIM C D) (c : zAJ) (e : EvR) : zUd c C e = zUd c D e := by unfold zUd; rw [h.err]
theorem zLv (c : zAJ) (C : CS) {e : EvR} (h : e.k = 1) : (cDo c C e).fr = C.fr + 1 := by rw [zRw, if_pos h]
theorem zH7 (c : zAJ) (C : CS) {e : EvR} (h : e.k ≠ 1) : (cDo c C e).fr = C.fr := by rw [zRw, if_neg h]; rfl
theorem zVN {a b : Nat} (h : a = b) : (!(((a : Nat) : Int) == ((b : Nat) : Int))) = false := by subst h; simp
theorem zXs {a b : Int} (h : a = b) : (!(a == b)) = false := by subst h; simp
end Go.Sx
