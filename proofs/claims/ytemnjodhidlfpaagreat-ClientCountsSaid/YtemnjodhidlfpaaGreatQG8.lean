import Derived.Test.YtemnjodhidlfpaaGreatQG7
import Derived.Test.YtemnjodhidlfpaaGreatQSxBasB
import Derived.ArgAppend
import Derived.Test.YtemnjodhidlfpaaGreatQSxStos
import Derived.Test.YtemnjodhidlfpaaGreatQSxGrams
/- Where entities are shown: plain mathematics. -/
set_option linter.unusedVariables false
set_option linter.unusedSimpArgs false
namespace Go.Sx
/-! ### Pick -/
def zJk (L : List RI) (t : Int) : Nat → Option (Nat × Int)
 | 0 => none
 | k + 1 => if (L.getD k default).tm ≤ t then some (k, if k + 1 = L.length then -1 else ((k + 1 : Nat) : Int)) else zJk L t k
def zBB (L : List RI) (t : Int) : Int × Int × Nat :=
 if zDO none (tms L) ≠ 0 then (0, 0, zDO none (tms L)) else match zJk L t L.length with
 | some (i, nx) => ((i : Int), nx, 0)
 | none => (0, 0, 5)
theorem zWV {L : List RI} {t : Int} (h : ((zDO none (tms L) : Nat) : Int) ≠ 0) : zBB L t = (0, 0, zDO none (tms L)) := if_pos (by omega)
theorem zWI {L : List RI} {t : Int} {i : Nat} {nx : Int} (h : ((zDO none (tms L) : Nat) : Int) = 0) (hp : zJk L t L.length = some (i, nx)) : zBB L t = ((i : Int), nx, 0) := by
 unfold zBB; rw [if_neg (by omega), hp]
theorem zV9 {L : List RI} {t : Int} (h : ((zDO none (tms L) : Nat) : Int) = 0) (hp : zJk L t L.length = none) : zBB L t = (0, 0, 5) := by
 unfold zBB; rw [if_neg (by omega), hp]
theorem zKS {L : List RI} {t : Int} : ∀ {k i : Nat} {nx : Int}, zJk L t k = some (i, nx) → i < k ∧ (L.getD i default).tm ≤ t ∧ nx = (if i + 1 = L.length then -1 else ((i + 1 : Nat) : Int)) ∧ ∀ j, i < j → j < k → ¬ (L.getD j default).tm ≤ t
 | 0, _, _, h => by cases h
 | k + 1, i, nx, h => by
   unfold zJk at h
   split at h
   · next hle => cases h; exact ⟨Nat.lt_succ_self _, hle, rfl, fun j h1 h2 => absurd h2 (by omega)⟩
   · next hle =>
     obtain ⟨h1, h2, h3, h4⟩ := zKS h
     refine ⟨by omega, h2, h3, fun j hj1 hj2 => ?_⟩
     by_cases e : j = k
     · rw [e]; exact hle
     · exact h4 j hj1 (by omega)
theorem zTa {L : List RI} {t : Int} (h : (zBB L t).2.2 = 0) : zDO none (tms L) = 0 ∧ ∃ i : Nat, i < L.length ∧ (zBB L t).1 = (i : Int) ∧ (L.getD i default).tm ≤ t ∧ (zBB L t).2.1 = (if i + 1 = L.length then -1 else ((i + 1 : Nat) : Int)) ∧ ∀ j, i < j → j < L.length → t < (L.getD j default).tm := by
 unfold zBB at h ⊢
 by_cases he : zDO none (tms L) ≠ 0
 · rw [if_pos he] at h; exact absurd h he
 · rw [if_neg he] at h ⊢
   cases hp : zJk L t L.length with
   | none => rw [hp] at h; cases h
   | some p =>
     obtain ⟨i, nx⟩ := p
     obtain ⟨h1, h2, h3, h4⟩ := zKS hp
     exact ⟨Decidable.not_not.1 he, i, h1, rfl, h2, h3, fun j hj1 hj2 => by have := h4 j hj1 hj2; omega⟩
theorem zVX {L : List RI} {t : Int} {k : Nat} (h : ¬ (L.getD k default).tm ≤ t) : zJk L t (k + 1) = zJk L t k := by
 show (if _ then _ else _) = _; rw [if_neg h]
theorem zTK {L : List RI} {t : Int} {k : Nat} (h : (L.getD k default).tm ≤ t) : zJk L t (k + 1) = some (k, if k + 1 = L.length then -1 else ((k + 1 : Nat) : Int)) := by
 show (if _ then _ else _) = _; rw [if_pos h]
/-! ### What is shown -/
structure zG0 where
 id : Int
 p0 : Int
 p1 : Int
 p2 : Int
 a : BitVec 16
 m : Int
instance : Inhabited zG0 := ⟨⟨0, 0, 0, 0, 0#16, 0⟩⟩
def zCJ (p : zG0) : List Value := [.int .i64 p.id, .int .i64 p.p0, .int .i64 p.p1, .int .i64 p.p2, .int .u16 ((p.a.toNat : Nat) : Int), .int .i64 p.m]
def zEH : List RI → Nat
 | [] => 0
 | x :: l => if zAB x.t x.tm x.l ≠ 0 then zAB x.t x.tm x.l else zEH l
theorem zIy {L : List RI} {j : Nat} (h : j < L.length) : zEH (L.drop j) = if zAB (L.getD j default).t (L.getD j default).tm (L.getD j default).l ≠ 0 then zAB (L.getD j default).t (L.getD j default).tm (L.getD j default).l else zEH (L.drop (j + 1)) := by
 rw [List.drop_eq_getElem_cons h, zEH, List.getD_eq_getElem?_getD, List.getElem?_eq_getElem h]; rfl
theorem zOJ {L : List RI} {j : Nat} {e : Nat} (h : j < L.length) (he : zEH (L.drop j) = e) (h0 : ((zAB (L.getD j default).t (L.getD j default).tm (L.getD j default).l : Nat) : Int) = 0) : zEH (L.drop (j + 1)) = e := by
 rw [← he, zIy h, if_neg (by omega)]
theorem zRR {L : List RI} {j : Nat} {e : Nat} (h : j < L.length) (he : zEH (L.drop j) = e) (h0 : ((zAB (L.getD j default).t (L.getD j default).tm (L.getD j default).l : Nat) : Int) ≠ 0) : zAB (L.getD j default).t (L.getD j default).tm (L.getD j default).l = e := by
 rw [← he, zIy h, if_pos (by omega)]
theorem zQs {L : List RI} {j : Nat} {e : Nat} (h : L.length ≤ j) (he : zEH (L.drop j) = e) : 0 = e := by
 rw [← he, List.drop_eq_nil_of_le h]; rfl
theorem zQe {L : List RI} (h : zEH L = 0) : ∀ x ∈ L, zAB x.t x.tm x.l = 0 := by
 induction L with
 | nil => intro x hx; cases hx
 | cons y l ih =>
   unfold zEH at h
   split at h
   · next h2 => exact absurd h h2
   · next h2 =>
     intro x hx
     rcases List.mem_cons.1 hx with e | e
     · rw [e]; exact Decidable.not_not.1 h2
     · exact ih h x e
def zE7 (c : zAV) (L : List RI) : Nat := if zDK c ≠ 0 then zDK c else zEH L
theorem zYs {c : zAV} {L : List RI} (h : ((zDK c : Nat) : Int) ≠ 0) : zDK c = zE7 c L := (if_pos (by omega)).symm
theorem zUw {c : zAV} {L : List RI} {e : Nat} (h : ((zDK c : Nat) : Int) = 0) (he : e = zEH L) : e = zE7 c L := by unfold zE7; rw [if_neg (by omega), he]
theorem zP3 {c : zAV} {L : List RI} (h : zE7 c L = 0) : zDK c = 0 ∧ zEH L = 0 := by
 unfold zE7 at h
 split at h
 · next h2 => exact absurd h h2
 · next h2 => exact ⟨Decidable.not_not.1 h2, h⟩
def zB5 (x : zX) : zG0 := ⟨x.id, x.p0, x.p1, x.p2, x.a, 0⟩
def pL (n d x y : Int) : Int := bif zBS n d == 0 then zCq x y n d else 0
def pC (n d x u y v : Int) : Int := bif zBS n d == 0 then cAt x u y v n d else 0
def pA (n d : Int) (x y : BitVec 16) : BitVec 16 := bif zBS n d == 0 then zWp x y n d else 0#16
def pW (c : Bool) (n d x u y v : Int) : Int := bif c then pC n d x u y v else pL n d x y
def zao (c : Bool) (n d : Int) (x y : zX) : zG0 := ⟨x.id, pW c n d x.p0 x.v0 y.p0 y.v0, pW c n d x.p1 x.v1 y.p1 y.v1, pW c n d x.p2 x.v2 y.p2 y.v2, pA n d x.a y.a, bif c then 2 else 1⟩
def zSv (c : Bool) (n d : Int) (B : List zX) (x : zX) : zG0 := if (zA6 x.id B).isSome = true ∧ ((zA6 x.id B).getD zCz).g = x.g then zao c n d x ((zA6 x.id B).getD zCz) else zB5 x
def zD9 (c : zAV) (a b : RI) (t : Int) : Nat := if zE7 c [a, b] ≠ 0 then zE7 c [a, b] else (zAp a b t).2.2
def zDW (c : zAV) (a b : RI) (t : Int) : List zG0 := if zD9 c a b t ≠ 0 then [] else a.l.map (zSv c.curve (zAp a b t).1 (zAp a b t).2.1 b.l)
def zYC (m k : Int) (x : zX) : zG0 := ⟨x.id, zCp x.p0 (zAr x.v0 k), zCp x.p1 (zAr x.v1 k), zCp x.p2 (zAr x.v2 k), x.a, m⟩
def zDv (c : zAV) (x : RI) (t : Int) : Nat := if zE7 c [x] ≠ 0 then zE7 c [x] else (zHh x t).2
def zJJ (c : zAV) (d : Int) : Int := if d = 0 then 0 else if c.extra < d then 4 else 3
def zIP (c : zAV) (d : Int) : Int := if d = 0 then d else if c.extra < d then c.extra else d
def zDM (c : zAV) (x : RI) (t : Int) : List zG0 := if zDv c x t ≠ 0 then [] else x.l.map (zYC (zJJ c (zHh x t).1) (zIP c (zHh x t).1))
def zDu (c : zAV) (L : List RI) (t : Int) : List zG0 × Nat :=
 if zE7 c L ≠ 0 then ([], zE7 c L) else if (zBB L t).2.2 ≠ 0 then ([], (zBB L t).2.2)
 else if (zBB L t).2.1 < 0 then (zDM c (L.getD (zBB L t).1.toNat default) t, zDv c (L.getD (zBB L t).1.toNat default) t)
 else (zDW c (L.getD (zBB L t).1.toNat default) (L.getD (zBB L t).2.1.toNat default) t, zD9 c (L.getD (zBB L t).1.toNat default) (L.getD (zBB L t).2.1.toNat default) t)
structure RI.ok (w : World) (x : RI) : Prop where
 t : -9223372036854775808 ≤ x.t ∧ x.t ≤ 9223372036854775807
 tm : -9223372036854775808 ≤ x.tm ∧ x.tm ≤ 9223372036854775807
 rd : Rd w [] x.v 9 x.l.length (x.l.flatMap zBL)
 wf : ∀ e ∈ x.l, e.wf
theorem RI.ok.to {x : RI} {w0 w : World} {M : List HA} (h : x.ok w0) (hm : Mem w0 [] M w) : x.ok w := ⟨h.t, h.tm, hm.rd0 h.rd, h.wf⟩
theorem zYW {x : RI} {w : World} (h : x.ok w) : ∀ z ∈ [x], z.ok w := by
 intro z hz; rw [List.mem_singleton] at hz; rw [hz]; exact h
theorem zYO {x y : RI} {w : World} (h : x.ok w) (h2 : y.ok w) : ∀ z ∈ [x, y], z.ok w := by
 intro z hz; rw [List.mem_cons, List.mem_singleton] at hz; rcases hz with e | e <;> rw [e] <;> assumption
theorem zYz {L : List RI} {w : World} (h : ∀ x ∈ L, x.ok w) : ∀ x ∈ L, zDX x.v x.l.length := fun x hx => (h x hx).rd.isSl
theorem zCY {f : zX → zG0} {l : List zX} {j : Nat} (h : j < l.length) : (l.take j).map f ++ [f (l.getD j default)] = (l.take (j + 1)).map f := by
 rw [List.take_succ_eq_append_getElem h, List.map_append, List.getD_eq_getElem?_getD, List.getElem?_eq_getElem h]; rfl
theorem zLZ : zCz.wf := by constructor <;> (show _ ≤ (0 : Int) ∧ (0 : Int) ≤ _; omega)
theorem zV6 {l : List zX} {k : Int} (h : ∀ e ∈ l, e.wf) : ((zA6 k l).getD zCz).wf := by
 cases hg : zA6 k l with
 | none => exact zLZ
 | some e => exact h e (zFX hg).1
theorem zMa {c : zAV} {L : List RI} {x : RI} (h : zE7 c L = 0) (hx : x ∈ L) : x.l.length ≤ 64 := by
 have h1 := zQe (zP3 h).2 x hx
 unfold zAB at h1
 split at h1
 · cases h1
 · split at h1
   · cases h1
   · omega
theorem zMg (x : RI) (t : Int) : -9223372036854775808 ≤ (zHh x t).1 ∧ (zHh x t).1 ≤ 9223372036854775807 := by
 unfold zHh
 split
 · dsimp only; omega
 · split
   · dsimp only; omega
   · exact zBu _ _
theorem zE1 {c : zAV} {d : Int} (h : d = 0) : 0 = zJJ c d ∧ d = zIP c d := by unfold zJJ zIP; rw [if_pos h, if_pos h]; exact ⟨rfl, rfl⟩
theorem zE3 {c : zAV} {d : Int} (h : d ≠ 0) (h2 : c.extra < d) : 4 = zJJ c d ∧ c.extra = zIP c d := by unfold zJJ zIP; rw [if_neg h, if_neg h, if_pos h2, if_pos h2]; exact ⟨rfl, rfl⟩
theorem zEo {c : zAV} {d : Int} (h : d ≠ 0) (h2 : ¬ c.extra < d) : 3 = zJJ c d ∧ d = zIP c d := by unfold zJJ zIP; rw [if_neg h, if_neg h, if_neg h2, if_neg h2]; exact ⟨rfl, rfl⟩
theorem zV5 {c : zAV} {x : RI} {t : Int} (h : ((zE7 c [x] : Nat) : Int) ≠ 0) : zDv c x t = zE7 c [x] := if_pos (by omega)
theorem zRq {c : zAV} {x : RI} {t : Int} (h : zE7 c [x] = 0) : zDv c x t = (zHh x t).2 := by unfold zDv; rw [if_neg (by omega)]
theorem zXd {c : zAV} {x : RI} {t : Int} (h : zDv c x t = 0) : zDM c x t = x.l.map (zYC (zJJ c (zHh x t).1) (zIP c (zHh x t).1)) := by unfold zDM; rw [if_neg (by omega)]
theorem zPM {c : zAV} {x : RI} {t : Int} (h : ((zDv c x t : Nat) : Int) ≠ 0) : zDM c x t = [] := by unfold zDM; rw [if_pos (by omega)]
theorem zWQ {c : zAV} {x y : RI} {t : Int} (h : ((zE7 c [x, y] : Nat) : Int) ≠ 0) : zD9 c x y t = zE7 c [x, y] := if_pos (by omega)
theorem zPV {c : zAV} {x y : RI} {t : Int} (h : zE7 c [x, y] = 0) : zD9 c x y t = (zAp x y t).2.2 := by unfold zD9; rw [if_neg (by omega)]
theorem zXm {c : zAV} {x y : RI} {t : Int} (h : zD9 c x y t = 0) : zDW c x y t = x.l.map (zSv c.curve (zAp x y t).1 (zAp x y t).2.1 y.l) := by unfold zDW; rw [if_neg (by omega)]
theorem zQS {c : zAV} {x y : RI} {t : Int} (h : ((zD9 c x y t : Nat) : Int) ≠ 0) : zDW c x y t = [] := by unfold zDW; rw [if_pos (by omega)]
theorem zXe {c : zAV} {L : List RI} {t : Int} (h : ((zE7 c L : Nat) : Int) ≠ 0) : zDu c L t = ([], zE7 c L) := if_pos (by omega)
theorem zXY {c : zAV} {L : List RI} {t : Int} (h : zE7 c L = 0) (h2 : (((zBB L t).2.2 : Nat) : Int) ≠ 0) : zDu c L t = ([], (zBB L t).2.2) := by unfold zDu; rw [if_neg (by omega), if_pos (by omega)]
theorem zX8 {c : zAV} {L : List RI} {t : Int} {i : Nat} (h : zE7 c L = 0) (h2 : (zBB L t).2.2 = 0) (h3 : (zBB L t).1 = (i : Int)) (h4 : (zBB L t).2.1 < 0) : zDu c L t = (zDM c (L.getD i default) t, zDv c (L.getD i default) t) := by
 unfold zDu; rw [if_neg (by omega), if_neg (by omega), if_pos h4, h3]; rfl
theorem zVN {c : zAV} {L : List RI} {t : Int} {i k : Nat} (h : zE7 c L = 0) (h2 : (zBB L t).2.2 = 0) (h3 : (zBB L t).1 = (i : Int)) (h4 : (zBB L t).2.1 = (k : Int)) : zDu c L t = (zDW c (L.getD i default) (L.getD k default) t, zD9 c (L.getD i default) (L.getD k default) t) := by
 unfold zDu; rw [if_neg (by omega), if_neg (by omega), if_neg (by omega), h3, h4]; rfl
theorem zQ2 {l : List zX} {i : Nat} (h : i < l.length) : l.getD i default ∈ l := by
 rw [List.getD_eq_getElem?_getD, List.getElem?_eq_getElem h]; exact List.getElem_mem h
theorem zaq {b : Bool} {q : Prop} (h : b = false) : ¬ (b = true ∧ q) := fun k => by rw [h] at k; cases k.1
theorem zak {p : Prop} {a b : BitVec 8} (h : ((a.toNat : Nat) : Int) ≠ ((b.toNat : Nat) : Int)) : ¬ (p ∧ a = b) := fun k => h (by rw [k.2])
theorem zXp {c : Bool} {n d : Int} {B : List zX} {x : zX} (h : (zA6 x.id B).isSome = true ∧ ((zA6 x.id B).getD zCz).g = x.g) : zSv c n d B x = zao c n d x ((zA6 x.id B).getD zCz) := if_pos h
theorem zOy {c : Bool} {n d : Int} {B : List zX} {x : zX} (h : ¬ ((zA6 x.id B).isSome = true ∧ ((zA6 x.id B).getD zCz).g = x.g)) : zSv c n d B x = zB5 x := if_neg h
end Go.Sx
/- Slices with an offset that a call owns: elements of one cell. -/
set_option linter.unusedVariables false
set_option linter.unusedSimpArgs false
namespace Go.Sx
open Go.RowKit
variable {P : Program} {ops : Array Oper} {Q : Exit → Act → World → Prop} {rest : List Oper} {n : Nat} {F : List (Nat × Value)} {w0 : World} {S : List Nat} {M : List HA} {a : Act} {w : World}
variable {d : Nat} {ty : TypeId} {pos : String} {af : Array Edge}
def zLV (v : Value) (e : TypeId) (xs : List Value) (w : World) : Prop := (v = .slice none 0 0 ∧ xs = []) ∨
 ∃ g o cap cur, v = .slice (some ⟨g, o, none⟩) xs.length cap ∧ w.heap[g]? = some (.cells cur e (0, 0)) ∧ xs.length ≤ cap ∧ cap ≤ maxLen ∧ o + cap ≤ cur.size ∧ (cur.toList.drop o).take xs.length = xs
def rwo (v : Value) (e : TypeId) (xs : List Value) : HA where
 foot := v.ownBlock.toList
 p w := zLV v e xs w
 loc w w' h hp := by
   rcases hp with hn | ⟨g, o, cap, cur, rfl, hg, rest⟩
   · exact .inl hn
   · refine .inr ⟨g, o, cap, cur, rfl, ?_, rest⟩
     rw [h g (by simp [Value.ownBlock])]
     exact hg
 lt w h k hk := by
   rcases h with ⟨rfl, _⟩ | ⟨g, o, cap, cur, rfl, hg, _⟩
   · simp [Value.ownBlock] at hk
   · have : k = g := by simpa [Value.ownBlock] using hk
     subst this
     exact (Array.getElem?_eq_some_iff.1 hg).1
theorem zFr (g o j : Nat) : (⟨g, o, none⟩ : Addr).add j = ⟨g, o + j, none⟩ := by unfold Addr.add; split <;> simp_all
theorem zMU {w : World} {g o : Nat} {cur : Array Value} {e : TypeId} {fr : Nat × Nat} (hg : w.heap[g]? = some (.cells cur e fr)) (j : Nat) : w.cell? ⟨g, j, none⟩ = cur[j]? := by
 simp [World.cell?, hg]
theorem zUl {v : Value} {e : TypeId} {xs : List Value} (h : zLV v e xs w) : Rd w [] v 1 xs.length xs := by
 rcases h with ⟨rfl, rfl⟩ | ⟨g, o, cap, cur, rfl, hg, h1, h2, h3, h4⟩
 · exact zPX w [] 1
 · refine ⟨⟨_, cap, rfl, h1, h2⟩, by simp, fun _ => ⟨_, cap, rfl, by simp, (Array.getElem?_eq_some_iff.1 hg).1, fun j u hu => ?_⟩⟩
   rw [zFr, zMU (o := o) hg]
   have hj : j < xs.length := (List.getElem?_eq_some_iff.1 hu).1
   rw [← h4, List.getElem?_take, if_pos hj, List.getElem?_drop, Array.getElem?_toList] at hu
   exact hu
theorem zNH {v x : Value} {e : TypeId} {xs : List Value} (h : zLV v e (x :: xs) w) : zLV (zFV v 1 1 (xs.length + 1)) e xs w ∧ (zFV v 1 1 (xs.length + 1)).ownBlock = v.ownBlock := by
 rcases h with ⟨_, h⟩ | ⟨g, o, cap, cur, rfl, hg, h1, h2, h3, h4⟩
 · cases h
 · simp only [List.length_cons] at h1 h4 ⊢
   by_cases hc : cap = 1
   · subst hc
     have h0 : xs = [] := List.eq_nil_of_length_eq_zero (by omega)
     subst h0
     refine ⟨.inr ⟨g, o, 0, cur, by simp [zFV], hg, by simp, by simp [maxLen], by omega, by simp⟩, by simp [zFV, Value.ownBlock]⟩
   · refine ⟨.inr ⟨g, o + 1, cap - 1, cur, by simp [zFV, hc, zFr], hg, by omega, by omega, by omega, ?_⟩, by simp [zFV, hc, Value.ownBlock, zFr]⟩
     have h5 := congrArg (List.drop 1) h4
     rw [List.drop_take, List.drop_drop] at h5
     simpa using h5
theorem zMq {v x : Value} {e : TypeId} {xs : List Value} (h : zLV v e (xs ++ [x]) w) : zLV (zFV v 1 0 xs.length) e xs w ∧ (zFV v 1 0 xs.length).ownBlock = v.ownBlock := by
 rcases h with ⟨_, h⟩ | ⟨g, o, cap, cur, rfl, hg, h1, h2, h3, h4⟩
 · simp at h
 · simp only [List.length_append, List.length_singleton] at h1 h4
   refine ⟨.inr ⟨g, o, cap, cur, by simp [zFV, show ¬ cap = 0 by omega, zFr], hg, by omega, h2, h3, ?_⟩, by simp [zFV, show ¬ cap = 0 by omega, Value.ownBlock, zFr]⟩
   have h5 := congrArg (List.take xs.length) h4
   rw [List.take_take, Nat.min_eq_left (by omega)] at h5
   simpa using h5
theorem zIC {v v' : Value} {e : TypeId} {xs xs' : List Value} (h : zLV v' e xs' w) (hb : v'.ownBlock = v.ownBlock) : Mem w (zK [rwo v e xs]) [rwo v' e xs'] w := by
 refine ⟨Chg.refl _ _, ?_, by cases hv : v'.ownBlock <;> simp [zK, rwo, hv], fun k hk => .inl (by simpa [zK, rwo, hb] using hk)⟩
 intro y hy
 simp only [List.mem_singleton] at hy
 subst hy
 exact h
theorem St.rwoInit {v x : Value} {e : TypeId} {xs : List Value} {M' : List HA} (hs : St n F w0 S M a w) (hb : Del M (rwo v e (xs ++ [x])) M') : St n F w0 S (rwo (zFV v 1 0 xs.length) e xs :: M') a w :=
 hs.frame (.c hb .n) (zIC (zMq (hs.mem.del hb)).1 (zMq (hs.mem.del hb)).2)
theorem zPz {v : Value} {e : TypeId} {b : Nat} {xs : List Value} (h : w.ownsRow b e 1 v xs.length xs) : zLV v e xs w := by
 rcases h.2 with ⟨rfl, h0⟩ | ⟨g, cap, cur, rfl, _, hg, h1, h2, h3, h4⟩
 · exact .inl ⟨rfl, List.eq_nil_of_length_eq_zero h0⟩
 · exact .inr ⟨g, 0, cap, cur, rfl, hg, h1, h2, by omega, by simpa using h4⟩
theorem zUA {L xs : List Value} {u : Value} (h : L.take xs.length = xs) (hl : xs.length < L.length) : (L.set xs.length u).take (xs.length + 1) = xs ++ [u] := by
 conv => rhs; rw [← h]
 generalize xs.length = n at *
 rw [List.take_add_one, List.getElem?_set_self hl, List.take_set_of_le (Nat.le_refl _)]
 rfl
theorem zT5 {t ty e : TypeId} {i : TypeInfo} {z u : Value} {bytes : Nat} (ht : P.underlying t = some (.slice e)) (hi : P.info? e = some i) (hz : i.zero = some z) (hsize : i.size = 1) (hby : i.bytes = bytes) (hzs : z.cells.size = 1)
   {v : Value} {xs : List Value} (h : zLV v e xs w) {ad : Addr} {c : Nat} (hnews : ∀ j x, [u][j]? = some x → w.cell? (ad.add j) = some x) (h1 : u.oneCell' = true)
   (h63 : xs.length + 1 ≤ maxLen) (hbytes : (xs.length + 1) * bytes ≤ 140737488355328) :
   ∃ v' w', (Builtin.append_ #[t, t] ty #[v, .slice (some ad) 1 c]).run P w = .ok v' w' ∧ zLV v' e (xs ++ [u]) w' ∧ w.grownBy w' v.ownBlock ∧ (v'.ownBlock = v.ownBlock ∨ ∃ b, v'.ownBlock = some b ∧ w.heap.size ≤ b) := by
 have h1' : ∀ x ∈ [u], x.oneCell' = true := by intro x hx; rw [List.mem_singleton] at hx; rw [hx]; exact h1
 have hl : (xs ++ [u]).length = xs.length + 1 := by simp
 rcases h with ⟨rfl, rfl⟩ | ⟨g, o, cap, cur, rfl, hg, a1, a2, a3, a4⟩
 · obtain ⟨v', w', hr, h2, h3, _, h5⟩ := run_append_own_at (P := P) w 0 t ty e i z 1 bytes ht hi hz hsize hby hzs (by decide) _ 0 [] (World.ownsRow_nil w 0 e 1) ad 1 c [u] rfl hnews h1' h63 hbytes (Nat.zero_le _)
   exact ⟨v', w', hr, zPz (by simpa using h2), h3, h5.imp id fun h => ⟨_, h, Nat.le_refl _⟩⟩
 · by_cases hroom : xs.length + 1 ≤ cap
   · have hr := run_append_room_cells (P := P) w t ty e i ht hi g o xs.length cap ad 1 c [u] (by simp [hsize]) hnews h1' hroom
       (fun j hj => by
         have : j = 0 := by simpa using hj
         subst this
         rw [zMU (o := o) hg, hsize, Nat.mul_one, Nat.add_zero, Array.getElem?_eq_getElem (by omega)]; rfl)
       (fun j hj => by simp [World.frozen?, hg])
     rw [hsize, Nat.mul_one] at hr
     refine ⟨_, _, hr, .inr ⟨g, o, cap, cur.setIfInBounds (o + xs.length) u, by rw [hl], ?_, by omega, a2, by simpa using a3, ?_⟩, ⟨rfl, rfl, rfl, by simp [World.setCells, World.setCell], fun k hk hS => ?_⟩, .inl rfl⟩
     · simp [World.setCells, World.setCell, Array.getElem?_modify, hg]
     · rw [hl, Array.toList_setIfInBounds, List.drop_set, if_neg (by omega), show o + xs.length - o = xs.length by omega]
       exact zUA a4 (by simp; omega)
     · have : ¬ g = k := fun e => hS (by simp [Value.ownBlock, e])
       simp [World.setCells, World.setCell, Array.getElem?_modify, this]
   · obtain ⟨v', w', hr, h2, h3⟩ := run_append_arg_grows (P := P) w t ty e i z 1 bytes ht hi hz hsize hby hzs (by decide) ⟨g, o, none⟩ xs.length cap xs (by simp)
       (fun j x hx => (zUl (.inr ⟨g, o, cap, cur, rfl, hg, a1, a2, a3, a4⟩)).at_ (by have := (List.getElem?_eq_some_iff.1 hx).1; omega) |> fun ⟨ad', c', e', _, _, hcell⟩ => by injection e' with e1 _ _; injection e1 with e1; subst e1; exact hcell j x hx)
       ad 1 c [u] rfl hnews (by omega) h63 hbytes
     have hv : ∃ b, v'.ownBlock = some b ∧ w.heap.size ≤ b := by
       rcases h2.2 with ⟨_, h0⟩ | ⟨g', cap', cur', rfl, hb, hg', _⟩
       · omega
       · exact ⟨g', rfl, hb⟩
     exact ⟨v', w', hr, zPz (by simpa using h2), ⟨h3.os, h3.tape, h3.output, h3.size, fun k hk _ => h3.block k hk (by simp)⟩, .inr hv⟩
theorem zTY {w' : World} {v v' : Value} {e : TypeId} {xs xs' : List Value} (hg : w.grownBy w' v.ownBlock) (ho : zLV v' e xs' w') (hat : v'.ownBlock = v.ownBlock ∨ ∃ b, v'.ownBlock = some b ∧ w.heap.size ≤ b) : Mem w (zK [rwo v e xs]) [rwo v' e xs'] w' := by
 refine ⟨⟨hg.os, hg.tape, hg.output, hg.size, fun k hk hS => hg.block k hk (fun e => hS (by simp [zK, rwo, ← e]))⟩, ?_, by cases hv : v'.ownBlock <;> simp [zK, rwo, hv], fun k hk => ?_⟩
 · intro y hy
   simp only [List.mem_singleton] at hy
   subst hy
   exact ho
 · simp only [zK, rwo, List.flatMap_cons, List.flatMap_nil, List.append_nil, Option.mem_toList] at hk ⊢
   rcases hat with h | ⟨b, h, hb⟩
   · left; rw [← h]; exact hk
   · right
     have h2 : some k = some b := hk.symm.trans h
     injection h2 with h2
     omega
theorem zJE {x y : Operand} {v u uv z : Value} {t e : TypeId} {bytes : Nat} {xs : List Value} {T : List Nat} {M' : List HA} {i : TypeInfo}
   (hs : St n F w0 S M a w) (hx : evo F x = some v) (hy : evo F y = some uv) (hb : Del M (rwo v e xs) M') (hr : Rd w T uv 1 1 [u]) (h1 : u.oneCell' = true)
   (ht : P.underlying t = some (.slice e)) (hi : P.info? e = some i) (hz : i.zero = some z) (hsize : i.size = 1) (hby : i.bytes = bytes) (hzs : z.cells.size = 1)
   (hbytes : (xs.length + 1) * bytes ≤ 140737488355328) (h63 : xs.length + 1 ≤ maxLen) (hd : Nat.blt d n = true)
   (k : ∀ v' a w, St n ((d, v') :: F) w0 S (rwo v' e (xs ++ [u]) :: M') a w → wpList P ops Q rest a w) :
   wpList P ops Q (⟨some d, .call { callee := .builtin .append, args := #[x, y], argTypes := #[t, t] }, ty, pos, af, none⟩ :: rest) a w := by
 obtain ⟨ad, c, rfl, _, _, hcell⟩ := hr.at_ (by decide)
 obtain ⟨v', w', hrun, h2, h3, h5⟩ := zT5 (P := P) (w := w) (ty := ty) (c := c) ht hi hz hsize hby hzs (hs.mem.del hb) hcell h1 h63 hbytes
 refine zDS rfl rfl (v := v') (w' := w') ?_ (k v' _ _ ((hs.frame (.c hb .n) (zTY h3 h2 h5)).put hd v'))
 simp [execOp, resolve, invoke, builtin, hs.ev hx, hs.ev hy, hrun]
theorem St.rerwo {v : Value} {e : TypeId} {xs xs' : List Value} {M' : List HA} (hs : St n F w0 S M a w) (hb : Del M (rwo v e xs) M') (hx : xs = xs') : St n F w0 S (rwo v e xs' :: M') a w :=
 hs.frame (.c hb .n) (zIC (by rw [← hx]; exact hs.mem.del hb) rfl)
/-! ### Numbers -/
def iV (l : List Int) : List Value := l.map (Value.int .i64)
theorem zED (l : List Int) : (iV l).length = l.length := by simp [iV]
theorem zKp (l : List Int) (j : Nat) (h : j < l.length) : (iV l)[j]? = some (.int .i64 (l.getD j 0)) := by
 simp [iV, List.getD_eq_getElem?_getD, List.getElem?_eq_getElem h]
theorem zIe (l : List Int) (x : Int) : iV l ++ [.int .i64 x] = iV (l ++ [x]) := by simp [iV]
theorem zPp {l : List Int} (h : ((l.length : Nat) : Int) = 0) : Value.tuple #[.int .i64 0, .bool false] = Value.tuple #[.int .i64 (l.getD 0 0), .bool (decide (0 < l.length))] := by
 rw [show l = [] from List.eq_nil_of_length_eq_zero (by omega)]; rfl
theorem zNx {l : List Int} (h : ¬ ((l.length : Nat) : Int) = 0) : Value.tuple #[.int .i64 (l.getD 0 0), .bool true] = Value.tuple #[.int .i64 (l.getD 0 0), .bool (decide (0 < l.length))] := by
 rw [show decide (0 < l.length) = true from decide_eq_true (by omega)]
def zDG (v : Value) (l : List Int) (x : Int) : Value := if l.getD 0 0 = x then zFV v 1 1 l.length else v
def zJ8 (l : List Int) (x : Int) : List Int := if l.getD 0 0 = x then l.drop 1 else l
theorem zTA {v : Value} {l : List Int} {x : Int} (h : l.getD 0 0 = x) : zFV v 1 1 l.length = zDG v l x := (if_pos h).symm
theorem zUf {v : Value} {l : List Int} {x : Int} (h : ¬ l.getD 0 0 = x) : v = zDG v l x := (if_neg h).symm
theorem zMx {v : Value} {e : TypeId} {l : List Int} (x : Int) (hl : 0 < l.length) (h : zLV v e (iV l) w) : zLV (zDG v l x) e (iV (zJ8 l x)) w ∧ (zDG v l x).ownBlock = v.ownBlock := by
 unfold zDG zJ8
 by_cases hx : l.getD 0 0 = x
 · rw [if_pos hx, if_pos hx]
   cases l with
   | nil => cases hl
   | cons y t =>
     have := zNH (v := v) (x := .int .i64 y) (xs := iV t) (e := e) (by simpa [iV] using h)
     rw [zED] at this
     exact this
 · rw [if_neg hx, if_neg hx]
   exact ⟨h, rfl⟩
theorem St.rwoDrop {v : Value} {e : TypeId} {l : List Int} {M' : List HA} (hs : St n F w0 S M a w) (hb : Del M (rwo v e (iV l)) M') (x : Int) (hl : 0 < l.length) : St n F w0 S (rwo (zDG v l x) e (iV (zJ8 l x)) :: M') a w :=
 hs.frame (.c hb .n) (zIC (zMx x hl (hs.mem.del hb)).1 (zMx x hl (hs.mem.del hb)).2)
def zJS (f : Int → Int → Bool) (l : List Int) (x : Int) : Nat → Nat
 | 0 => 0
 | k + 1 => if f (l.getD k 0) x then zJS f l x k else k + 1
def zDo (f : Int → Int → Bool) (l : List Int) (x : Int) : List Int := l.take (zJS f l x l.length) ++ [x]
theorem zPs {f : Int → Int → Bool} {l : List Int} {x : Int} {k m : Nat} (h : zJS f l x k = m) (h0 : 0 < k) (hf : f (l.getD (k - 1) 0) x = true) : zJS f l x (k - 1) = m := by
 obtain ⟨j, rfl⟩ : ∃ j, k = j + 1 := ⟨k - 1, by omega⟩
 rw [zJS, show j + 1 - 1 = j from rfl] at *
 rw [if_pos hf] at h
 exact h
theorem zIZ {f : Int → Int → Bool} {l : List Int} {x : Int} {k m : Nat} (h : zJS f l x k = m) (hf : k = 0 ∨ f (l.getD (k - 1) 0) x = false) : k = m := by
 rcases Nat.eq_zero_or_pos k with h0 | h0
 · subst h0; exact h
 · obtain ⟨j, rfl⟩ : ∃ j, k = j + 1 := ⟨k - 1, by omega⟩
   rcases hf with hf | hf
   · omega
   · rw [show j + 1 - 1 = j from rfl] at hf
     rw [zJS, if_neg (by rw [hf]; decide)] at h
     exact h
theorem St.rwoPop {v : Value} {e : TypeId} {l : List Int} {k : Nat} {M' : List HA} (hs : St n F w0 S M a w) (hb : Del M (rwo v e (iV (l.take k))) M') (h0 : 0 < k) (hk : k ≤ l.length) : St n F w0 S (rwo (zFV v 1 0 (k - 1)) e (iV (l.take (k - 1))) :: M') a w := by
 have e1 : iV (l.take k) = iV (l.take (k - 1)) ++ [.int .i64 (l.getD (k - 1) 0)] := by
   rw [zIe]
   congr 1
   rw [List.getD_eq_getElem?_getD, List.getElem?_eq_getElem (by omega)]
   conv => lhs; rw [show k = (k - 1) + 1 by omega]
   rw [List.take_add_one, List.getElem?_eq_getElem (by omega)]
   rfl
 rw [e1] at hb
 have h2 := hs.rwoInit hb
 rw [zED, List.length_take, Nat.min_eq_left (by omega)] at h2
 exact h2
theorem zAu {v : Value} {e : TypeId} {l : List Int} {m : Nat} (h : zLV v e (iV l) w) (hn : l.length = m) : Rd w [] v 1 m (iV l) := by
 have := zUl h
 rw [zED, hn] at this
 exact this
theorem zVx (l : List Int) (k j : Nat) (hj : j < k) (hk : k ≤ l.length) : (iV (l.take k))[j]? = some (.int .i64 (l.getD j 0)) := by
 rw [zKp _ j (by rw [List.length_take]; omega)]
 simp only [List.getD_eq_getElem?_getD, List.getElem?_take, if_pos hj]
theorem zVc {v : Value} {e : TypeId} {xs : List Value} (h : (rwo v e xs).p w) : Mem w (zK [rwo v e xs]) [rwo v e xs] w := zIC h rfl
def zUP (c : Int) (l : List Int) (x : Int) : List Int := (if ((l.length : Nat) : Int) = c then l.drop 1 else l) ++ [x]
def wD (c : Int) (l q : List Int) : List Int := if ((l.length : Nat) : Int) = c then zJ8 q (l.getD 0 0) else q
theorem zKa (q : List Int) (x : Int) : (zJ8 q x).length ≤ q.length := by unfold zJ8; split <;> simp
theorem zKD {v : Value} {m : Nat} (l : List Int) (x : Int) (h : zDX v m) : ∃ k, zDX (zDG v l x) k := by
 obtain ⟨A, c, rfl⟩ := h
 unfold zDG
 split
 · exact ⟨_, _, _, rfl⟩
 · exact ⟨_, _, _, rfl⟩
theorem zUr {v : Value} {e : TypeId} {l : List Int} (hl : 0 < l.length) (h : zLV v e (iV l) w) : zLV (zFV v 1 1 l.length) e (iV (l.drop 1)) w ∧ (zFV v 1 1 l.length).ownBlock = v.ownBlock := by
 cases l with
 | nil => cases hl
 | cons y t =>
   have := zNH (v := v) (x := .int .i64 y) (xs := iV t) (e := e) (by simpa [iV] using h)
   rw [zED] at this
   exact this
theorem St.rwoTl {v : Value} {e : TypeId} {l : List Int} {M' : List HA} (hs : St n F w0 S M a w) (hb : Del M (rwo v e (iV l)) M') (hl : 0 < l.length) : St n F w0 S (rwo (zFV v 1 1 l.length) e (iV (l.drop 1)) :: M') a w :=
 hs.frame (.c hb .n) (zIC (zUr hl (hs.mem.del hb)).1 (zUr hl (hs.mem.del hb)).2)
end Go.Sx
/- A clock's states: plain mathematics. -/
set_option linter.unusedVariables false
namespace Go.Sx
structure KS where
 l1 : List Int
 l2 : List Int
 l3 : List Int
 s : Int
 t : Int
 b : Int
 j : Int
 now : Int
abbrev gtI : Int → Int → Bool := fun p q => decide (q < p)
abbrev ltI : Int → Int → Bool := fun p q => decide (p < q)
def KS.off (K : KS) : Int := K.l2.getD 0 0
def zVi (c : zAV) (K : KS) (x y : Int) : KS :=
 let d := zBK x y
 let m2 := zDo gtI (wD c.window K.l1 K.l2) d
 let j := zEK K.j (zBK d (m2.getD 0 0))
 ⟨zUP c.window K.l1 d, m2, zDo ltI (wD c.window K.l1 K.l3) d, K.s, K.t, K.b, j, zRv c K.now j⟩
def zUL (K : KS) (x : Int) : Int := zBK (zBK x (K.l2.getD 0 0)) K.now
def zQG (c : zAV) (K : KS) (x : Int) : KS := if 0 < K.l2.length then { K with s := sS c.num c.den K.s K.t K.b x (zUL K x), t := sT K.t K.b x, b := 1 } else K
def kTm (c : zAV) (K : KS) (x : Int) : Int := if 0 < K.l2.length then sS c.num c.den K.s K.t K.b x (zUL K x) else 0
def K0 (c : zAV) : KS := ⟨[], [], [], 0, 0, 0, 0, zIT c 0⟩
structure KS.ok (c : zAV) (K : KS) : Prop where
 h1 : ((K.l1.length : Nat) : Int) ≤ c.window
 s2 : K.l2.Sublist K.l1
 s3 : K.l3.Sublist K.l1
 h0 : 0 < K.l1.length → 0 < K.l2.length ∧ 0 < K.l3.length
 r : ∀ x ∈ K.l1, R64 x
 s : R64 K.s
 t : R64 K.t
 j : R64 K.j
 now : c.least ≤ K.now ∧ K.now ≤ c.most
theorem zYY {c : Int} {l q : List Int} (h : q.Sublist l) : (wD c l q).Sublist (if ((l.length : Nat) : Int) = c then l.drop 1 else l) := by
 unfold wD
 split
 · unfold zJ8
   cases l with
   | nil => have := List.sublist_nil.1 h; subst this; simp
   | cons y l =>
     cases q with
     | nil => simp
     | cons z q =>
       show List.Sublist (if (z :: q).getD 0 0 = (y :: l).getD 0 0 then (z :: q).drop 1 else z :: q) l
       by_cases hz : z = y
       · rw [if_pos (by simpa using hz)]
         subst hz
         simpa using h
       · rw [if_neg (by simpa using hz)]
         cases h with
         | cons _ h => exact h
         | cons_cons _ h => exact absurd rfl hz
 · exact h
theorem zQw {f : Int → Int → Bool} {q l : List Int} {x : Int} (h : q.Sublist l) : (zDo f q x).Sublist (l ++ [x]) := by
 unfold zDo
 exact List.Sublist.append ((List.take_sublist _ _).trans h) (List.Sublist.refl _)
theorem zKl (f : Int → Int → Bool) (q : List Int) (x : Int) : 0 < (zDo f q x).length := by unfold zDo; simp
theorem zM4 {c : Int} {l : List Int} {x y : Int} (h : y ∈ zUP c l x) : y ∈ l ∨ y = x := by
 unfold zUP at h
 rcases List.mem_append.1 h with h | h
 · left
   split at h
   · exact List.mem_of_mem_drop h
   · exact h
 · right; simpa using h
theorem zJw {l : List Int} (h : ∀ x ∈ l, R64 x) : R64 (l.getD 0 0) := by
 cases l with
 | nil => show R64 0; omega
 | cons x l => exact h x (by simp)
theorem KS.ok.r2 {c : zAV} {K : KS} (h : K.ok c) : ∀ x ∈ K.l2, R64 x := fun x hx => h.r x (h.s2.subset hx)
theorem zLe {c : zAV} {K : KS} (h : K.ok c) (x : Int) (f : Int → Int → Bool) {q : List Int} (hq : q.Sublist K.l1) : (zDo f (wD c.window K.l1 q) x).Sublist (zUP c.window K.l1 x) := zQw (zYY hq)
theorem zXt {c : zAV} {K : KS} (h : K.ok c) {d : Int} (hd : R64 d) : R64 ((zDo gtI (wD c.window K.l1 K.l2) d).getD 0 0) := by
 refine zJw fun y hy => ?_
 rcases zM4 ((zLe h d gtI h.s2).subset hy) with h1 | h1
 · exact h.r y h1
 · rw [h1]; exact hd
theorem zQf {x y : Int} (hx : R64 x) (hy : R64 y) : R64 (zEK x y) := by
 have := zRa hx.2 hy.2
 omega
theorem zWK {c : zAV} {K : KS} {x y : Int} (hk : zDK c = 0) (h : K.ok c) : (zVi c K x y).ok c := by
 obtain ⟨⟨_, _, hw, _⟩, hd, _⟩ := zFI hk
 have hdr : R64 (zBK x y) := zBu _ _
 refine ⟨?_, zLe h _ _ h.s2, zLe h _ _ h.s3, fun _ => ⟨zKl _ _ _, zKl _ _ _⟩, fun z hz => ?_, h.s, h.t, ?_, ?_⟩
 · show (((zUP c.window K.l1 (zBK x y)).length : Nat) : Int) ≤ c.window
   unfold zUP
   have := h.h1
   split
   · simp only [List.length_append, List.length_drop, List.length_singleton]; omega
   · simp only [List.length_append, List.length_singleton]; omega
 · rcases zM4 hz with h1 | h1
   · exact h.r z h1
   · rw [h1]; exact hdr
 · exact zQf h.j (zBu _ _)
 · exact zSj hd h.now
theorem zap {b x y : Int} (hx : R64 x) (hy : R64 y) : R64 (sP b x y) := by unfold sP; split <;> assumption
theorem zWw {c : zAV} {K : KS} {x : Int} (hx : R64 x) (h : K.ok c) : (zQG c K x).ok c := by
 unfold zQG
 split
 · have hw : R64 (zUL K x) := zBu _ _
   have h1 := zap (b := K.b) hw h.s
   have h2 := zap (b := K.b) hx h.t
   refine ⟨h.h1, h.s2, h.s3, h.h0, h.r, ?_, ?_, h.j, h.now⟩
   · show R64 (sS _ _ _ _ _ _ _)
     unfold sS sS1
     have := zJP (sP K.b (zUL K x) K.s) (zD0 (zBK (max x (sP K.b x K.t)) (sP K.b x K.t)) c.num c.den)
     omega
   · show R64 (sT _ _ _)
     unfold sT
     omega
 · exact h
theorem zaL {c : zAV} (hk : zDK c = 0) : (K0 c).ok c := by
 obtain ⟨⟨_, _, hw, _⟩, hd, _⟩ := zFI hk
 exact ⟨by show (0 : Int) ≤ _; omega, List.Sublist.refl _, List.Sublist.refl _, fun h => absurd h (Nat.lt_irrefl 0), fun x hx => (by cases hx), by show R64 0; omega, by show R64 0; omega, by show R64 0; omega, zJp hd⟩
theorem St.addO {n : Nat} {F : List (Nat × Value)} {w0 w : World} {S : List Nat} {M : List HA} {a : Act} (hs : St n F w0 S M a w) (e : TypeId) : St n F w0 S (rwo (.slice none 0 0) e (iV []) :: M) a w := by
 refine hs.frame (N := [rwo (.slice none 0 0) e (iV [])]) .n ⟨Chg.refl _ _, ?_, by simp [zK, rwo, Value.ownBlock], by simp [zK, rwo, Value.ownBlock]⟩
 intro h hh
 simp only [List.mem_singleton] at hh
 subst hh
 exact .inl ⟨rfl, rfl⟩
structure KP where
 k : Nat
 wg : Nat
 sg : Nat
 jg : Nat
 dg : Nat
 v1 : Value
 v2 : Value
 v3 : Value
 cn : Int
 ch : Int
def KP.on (p : KP) (k : Nat) : KP := { p with k := k }
end Go.Sx
/- The client: plain mathematics. -/
set_option linter.unusedVariables false
set_option linter.unusedSimpArgs false
namespace Go.Sx
/-! ### What is kept is of numbers of 64 bits -/
def Wfs (l : List zAE) : Prop := ∀ s ∈ l, ∀ e ∈ s.l, e.wf
theorem zMT {r : zAA} (h : r.wf) : (zFT r).wf := ⟨h.id, h.p0, h.p1, h.p2, h.v0, h.v1, h.v2⟩
theorem zLv {a : zX} {r : zAA} (ha : a.wf) (h : r.wf) : (zS a r).1.wf := by
 unfold zS
 split
 · exact zLZ
 · split
   · exact zLZ
   · split
     · exact ⟨ha.id, h.p0, h.p1, h.p2, h.v0, h.v1, h.v2⟩
     · exact ⟨ha.id, zEp _, zEp _, zEp _, zEp _, zEp _, zEp _⟩
theorem zJs {x : zX} {l : List zX} (hx : x.wf) (h : ∀ e ∈ l, e.wf) : ∀ e ∈ x :: l, e.wf := by
 intro e he; rcases List.mem_cons.1 he with h1 | h1
 · rw [h1]; exact hx
 · exact h e h1
theorem zY8 : ∀ (n : Nat) (was : List zX) (l : List zAA), was.length + l.length ≤ n → (∀ e ∈ was, e.wf) → (∀ r ∈ l, r.wf) → ∀ out, apl was l = some out → ∀ e ∈ out, e.wf := by
 intro n
 induction n with
 | zero =>
   intro was l hn hw hl out h
   cases l with
   | nil => rw [zJc] at h; cases h; exact hw
   | cons r l => simp at hn
 | succ n ih =>
   intro was l hn hw hl out h
   cases l with
   | nil => rw [zJc] at h; cases h; exact hw
   | cons r l =>
     have hr := hl r (by simp)
     have hl2 : ∀ r ∈ l, r.wf := fun x hx => hl x (by simp [hx])
     cases was with
     | nil =>
       unfold apl at h
       split at h
       · rw [Option.map_eq_some_iff] at h
         obtain ⟨o, h1, rfl⟩ := h
         exact zJs (zMT hr) (ih [] l (by simp at hn ⊢; omega) hw hl2 o h1)
       · cases h
     | cons x was =>
       have hx := hw x (by simp)
       have hw2 : ∀ e ∈ was, e.wf := fun e he => hw e (by simp [he])
       simp only [List.length_cons] at hn
       unfold apl at h
       split at h
       · rw [Option.map_eq_some_iff] at h
         obtain ⟨o, h1, rfl⟩ := h
         exact zJs hx (ih was (r :: l) (by simp only [List.length_cons]; omega) hw2 hl o h1)
       · split at h
         · split at h
           · cases h
           · split at h
             · exact ih was l (by omega) hw2 hl2 out h
             · rw [Option.map_eq_some_iff] at h
               obtain ⟨o, h1, rfl⟩ := h
               exact zJs (zLv hx hr) (ih was l (by omega) hw2 hl2 o h1)
         · split at h
           · rw [Option.map_eq_some_iff] at h
             obtain ⟨o, h1, rfl⟩ := h
             exact zJs (zMT hr) (ih (x :: was) l (by simp only [List.length_cons]; omega) hw hl2 o h1)
           · cases h
theorem zaF {at_ atm : Int} {a : List zX} {gt gtm gb : Int} {rl : List zAA} (ha : ∀ e ∈ a, e.wf) (hr : ∀ r ∈ rl, r.wf) : ∀ e ∈ (aS at_ atm a gt gtm gb rl).l, e.wf := by
 unfold aS
 split
 · intro e he
   cases ho : apl (zGQ gb a) rl with
   | none => rw [ho] at he; simp at he
   | some o =>
     rw [ho] at he
     refine zY8 _ _ _ (Nat.le_refl _) (fun e he => ?_) hr o ho e he
     unfold zGQ at he
     split at he
     · exact ha e he
     · cases he
 · intro e he; cases he
theorem zWX {l : List zAE} (h : Wfs l) (k : Int) : ∀ e ∈ (zEl l k).l, e.wf := by
 unfold zEl
 split
 · rename_i hk
   rw [List.getD_eq_getElem?_getD]
   cases ho : l[zAq l k]? with
   | none => intro e he; cases he
   | some s => exact h s (List.mem_of_getElem? ho)
 · intro e he; cases he
theorem zTm {l : List zAE} {most : Nat} {x : zAE} (h : Wfs l) (hx : ∀ e ∈ x.l, e.wf) : Wfs (zJR l most x) := by
 have hk : Wfs (zB8 l (zAq l x.t) x) := by
   intro s hs
   unfold zB8 at hs
   rcases List.mem_append.1 hs with h1 | h1
   · exact h s (List.mem_of_mem_take h1)
   · rcases List.mem_cons.1 h1 with h2 | h2
     · rw [h2]; exact hx
     · exact h s (List.mem_of_mem_drop h2)
 unfold zJR
 split
 · exact hk
 · exact fun s hs => hk s (List.mem_of_mem_drop hs)
theorem zWn {most : Nat} {σ : Stt} {bs : List zO} (h : Wfs σ.l) : Wfs (zCV most σ (zA bs)).l := by
 unfold zCV
 split
 · exact zTm h (zaF (zWX h _) (zJr bs))
 · exact h
/-! ### What is shown, of snapshots as such -/
def zat (s : zAE) : RI := ⟨s.t, s.tm, s.l, .slice none 0 0⟩
def riF (x : RI) : RI := zat x.sn
def zCM (c : zAV) (l : List zAE) (t : Int) : List zG0 × Nat := zDu c (l.map zat) t
theorem zaK (L : List RI) : tms (L.map riF) = tms L := by unfold tms; rw [List.map_map]; rfl
theorem zRb : ∀ L : List RI, zEH (L.map riF) = zEH L
 | [] => rfl
 | x :: L => by
   show (if _ then _ else zEH (L.map riF)) = _
   rw [zRb L]; rfl
theorem zPH (L : List RI) (i : Nat) : (L.map riF).getD i default = riF (L.getD i default) := by
 rw [List.getD_eq_getElem?_getD, List.getD_eq_getElem?_getD, List.getElem?_map]
 cases L[i]? <;> rfl
theorem zU4 (L : List RI) (t : Int) : ∀ k, zJk (L.map riF) t k = zJk L t k
 | 0 => rfl
 | k + 1 => by unfold zJk; rw [zU4 L t k, zPH, List.length_map]; rfl
theorem zWy (L : List RI) (t : Int) : zBB (L.map riF) t = zBB L t := by unfold zBB; rw [zaK, zU4, List.length_map]
theorem zQ5 (c : zAV) (L : List RI) : zE7 c (L.map riF) = zE7 c L := by unfold zE7; rw [zRb]
theorem zQ3 (c : zAV) (x : RI) (t : Int) : zDv c (riF x) t = zDv c x t := by
 have h := zQ5 c [x]
 unfold zDv; rw [show [riF x] = [x].map riF from rfl, h]; rfl
theorem zV8 (c : zAV) (x : RI) (t : Int) : zDM c (riF x) t = zDM c x t := by unfold zDM; rw [zQ3]; rfl
theorem zRT (c : zAV) (x y : RI) (t : Int) : zD9 c (riF x) (riF y) t = zD9 c x y t := by
 have h := zQ5 c [x, y]
 unfold zD9; rw [show [riF x, riF y] = [x, y].map riF from rfl, h]; rfl
theorem zWh (c : zAV) (x y : RI) (t : Int) : zDW c (riF x) (riF y) t = zDW c x y t := by unfold zDW; rw [zRT]; rfl
theorem zWk (c : zAV) (L : List RI) (t : Int) : zDu c (L.map riF) t = zDu c L t := by
 unfold zDu; rw [zQ5, zWy, zPH, zPH, zV8, zQ3, zWh, zRT]
theorem zSq (c : zAV) (L : List RI) (t : Int) : zDu c L t = zCM c (sns L) t := by
 unfold zCM; rw [sns, List.map_map]; exact (zWk c L t).symm
/-! ### States -/
structure CS where
 σ : Stt
 K : KS
 fr : Nat
structure ShR where
 ready : Bool
 time : Int
 l : List zG0
def zAV.keep (c : zAV) : Nat := c.ring.toNat
def zBb (c : zAV) (C : CS) (G : zCw) : Nat := zBd C.σ.l c.keep C.σ.floor C.σ.gone G
def zaJ (c : zAV) (C : CS) (G : zCw) : Int := (zEl (zCV c.keep C.σ G).l (zIw C.σ.l c.keep C.σ.floor C.σ.gone G)).tm
def zOQ (c : zAV) (C : CS) (x : Int) (G : zCw) : CS := ⟨zCV c.keep C.σ G, if zBb c C G = 0 then zVi c C.K x (zaJ c C G) else C.K, C.fr⟩
def zaw (c : zAV) (C : CS) (x : Int) : CS := ⟨C.σ, zQG c C.K x, C.fr + 1⟩
def zFM (c : zAV) (C : CS) (x : Int) : ShR := if 0 < C.K.l2.length then ⟨true, kTm c C.K x, (zCM c C.σ.l (kTm c C.K x)).1⟩ else ⟨false, 0, []⟩
def C0 (c : zAV) : CS := ⟨zYX, K0 c, 0⟩
structure CS.ok (c : zAV) (C : CS) : Prop where
 k : C.K.ok c
 wf : Wfs C.σ.l
theorem zYe {c : zAV} (hk : zDK c = 0) : (C0 c).ok c := ⟨zaL hk, fun s hs => by cases hs⟩
theorem zMN {c : zAV} {C : CS} {x : Int} {bs : List zO} (hk : zDK c = 0) (h : C.ok c) : (zOQ c C x (zA bs)).ok c := by
 refine ⟨?_, zWn h.wf⟩
 show KS.ok c (if _ then _ else _)
 split
 · exact zWK hk h.k
 · exact h.k
instance : Inhabited KP := ⟨⟨0, 0, 0, 0, 0, .slice none 0 0, .slice none 0 0, .slice none 0 0, 0, 0⟩⟩
theorem zaT {c : zAV} {K : KS} {x : Int} (hx : R64 x) (h : K.ok c) : R64 (kTm c K x) := by
 have h1 := (zWw hx h).s
 unfold zQG at h1
 unfold kTm
 split at h1
 · rename_i hq; rw [if_pos hq]; exact h1
 · rename_i hq; rw [if_neg hq]; show R64 0; omega
theorem zW6 {L : List RI} {l : List zAE} {j : Nat} {v : Value} (h : sns L = l.take j) (hj : j < l.length) : sns (L ++ [(⟨(sat l (j : Int)).t, (sat l (j : Int)).tm, (sat l (j : Int)).l, v⟩ : RI)]) = l.take (j + 1) := by
 have hs : sat l (j : Int) = l[j] := by
   unfold sat
   rw [if_pos (by omega), Int.toNat_natCast, List.getD_eq_getElem?_getD, List.getElem?_eq_getElem hj]; rfl
 have h2 : sns (L ++ [(⟨(sat l (j : Int)).t, (sat l (j : Int)).tm, (sat l (j : Int)).l, v⟩ : RI)]) = sns L ++ [sat l (j : Int)] := by unfold sns; rw [List.map_append]; rfl
 rw [h2, h, hs, List.take_succ_eq_append_getElem hj]
theorem zR2 {L : List RI} {j : Nat} (h : j < L.length) : iV ((L.take j).map RI.t) ++ [.int .i64 (L.getD j default).t] = iV ((L.take (j + 1)).map RI.t) := by
 rw [zIe, List.take_succ_eq_append_getElem h, List.map_append, List.getD_eq_getElem?_getD, List.getElem?_eq_getElem h]; rfl
theorem zUY {L : List RI} {l : List zAE} (h : sns L = l) : L.map RI.t = l.map zAE.t := by subst h; unfold sns; rw [List.map_map]; rfl
theorem zKk {c : zAV} (hk : zDK c = 0) : ((c.keep : Nat) : Int) = c.ring ∧ 1 ≤ c.keep ∧ c.keep ≤ 64 := by
 obtain ⟨⟨h1, h2, _, _⟩, _⟩ := zFI hk
 unfold zAV.keep
 omega
theorem Mem.resep {w w' : World} {S : List Nat} {A B : List HA} (h : Mem w S (A ++ B) w') : Mem w S (A ++ [zGB B]) w' := by
 obtain ⟨h1, h2, h3⟩ := Mem.parts h
 refine ⟨h.chg, fun y hy => ?_, h3, by rw [zDl]; exact h.ge⟩
 rcases List.mem_append.1 hy with e | e
 · exact h1 y e
 · rw [List.mem_singleton] at e; rw [e]; exact h2
theorem Mem.wide {w w' : World} {S : List Nat} {N : List HA} (h : Mem w [] N w') : Mem w S N w' := ⟨⟨h.chg.os, h.chg.tape, h.chg.output, h.chg.size, fun k hk _ => h.chg.block k hk (by simp)⟩, h.all, h.nd, fun k hk => (h.ge k hk).elim (fun h => by cases h) .inr⟩
theorem zY5 {e : Nat} {L : List RI} {w : World} {most : Nat} (h : (rws e L).p w) (ho : Oks (sns L) most) (hw : Wfs (sns L)) : ∀ x ∈ L, x.ok w := by
 intro x hx
 have hm : x.sn ∈ sns L := List.mem_map.2 ⟨x, hx, rfl⟩
 obtain ⟨h1, h2, h3, h4, h5⟩ := ho.rng x.sn hm
 exact ⟨⟨by have : (0 : Int) ≤ x.t := h1; omega, by have : x.t ≤ 4294967295 := h2; omega⟩, ⟨h3, h4⟩, zEF h (.inl hx), hw x.sn hm⟩
end Go.Sx
/- The client's example: plain mathematics. -/
set_option linter.unusedVariables false
namespace Go.Sx
section
open Go.RowKit
variable {P : Program} {ops : Array Oper} {Q : Exit → Act → World → Prop} {rest : List Oper} {n : Nat} {F : List (Nat × Value)} {w0 : World} {S : List Nat} {M : List HA} {a : Act} {w : World} {d : Nat} {ty : TypeId} {pos : String} {af : Array Edge}
theorem zYv {x i : Operand} {v : Value} {t e : TypeId} {j o len size m sz : Nat} {T : List Nat} {xs : List Value} {kd : IntKind} {q : Int} (hs : St n F w0 S M a w) (hx : evo F x = some (.pointer (some (adr v j)))) (hi : evo F i = some (.int kd q)) (hr : Rd w T v size m xs) (hm : 0 < m) (ht : P.underlying t = some (.array len e))
   (h0 : 0 ≤ q) (h1 : q < len) (hsz : ∀ w, (sizeOf e).run P w = .ok sz w) (ho : j + q.toNat * sz = o) (hd : Nat.blt d n = true)
   (k : ∀ a w, St n ((d, .pointer (some (adr v o))) :: F) w0 S M a w → wpList P ops Q rest a w) : wpList P ops Q (⟨some d, .indexAddr t x i, ty, pos, af, none⟩ :: rest) a w := by
 subst ho
 have ha : (adr v j).add (q.toNat * sz) = adr v (j + q.toNat * sz) := by rw [zMO hr hm]
 have hb : 0 ≤ q ∧ q < (len : Int) := ⟨h0, h1⟩
 exact zJ hs (by simp [execOp, Instr.indexAt, Instr.sureAddr, asIntOf, hs.ev hx, hs.ev hi, run_underlying ht, hb, hsz, ha]) hd k
end
def exC : zAV := ⟨4, 4, 0, 0, 0, 0, 0, 1, 1, 0, false⟩
def exR (pl : Int) : zAA := ⟨0, 1, pl, 0, 0, 0, 0, 0, 0#16⟩
def exB (t tm pl : Int) : List zO := gwB t tm (-1) [exR pl]
theorem zRD {pl : Int} (h : R64 pl) : ∀ x ∈ [exR pl], x.wf := by
 intro x hx; rw [List.mem_singleton] at hx; rw [hx]
 exact ⟨(by show R64 0; omega), (by show R64 1; omega), h, (by show R64 0; omega), (by show R64 0; omega), (by show R64 0; omega), (by show R64 0; omega), (by show R64 0; omega)⟩
theorem zXI : zDK exC = 0 := by decide +kernel
theorem zXM : zA (exB 1 0 0) = ⟨1, 0, -1, [exR 0], 0⟩ := zHr (zRD (by omega)) (by decide +kernel)
theorem zZP : zA (exB 2 10 10) = ⟨2, 10, -1, [exR 10], 0⟩ := zHr (zRD (by omega)) (by decide +kernel)
def zVr : CS := zOQ exC (C0 exC) 0 (zA (exB 1 0 0))
def zZ6 : CS := zOQ exC zVr 10 (zA (exB 2 10 10))
theorem za2 : zBb exC (C0 exC) (zA (exB 1 0 0)) = 0 := by rw [zXM]; decide +kernel
theorem zax : zBb exC zVr (zA (exB 2 10 10)) = 0 := by unfold zVr; rw [zXM, zZP]; decide +kernel
theorem zay : zFM exC zZ6 5 = ⟨true, 5, [⟨1, 5, 0, 0, 0#16, 1⟩]⟩ := by unfold zZ6 zVr; rw [zXM, zZP]; kernel_rfl
theorem zU5 : (C0 exC).ok exC := zYe zXI
theorem zUn : zVr.ok exC := zMN zXI zU5
theorem zZj : zZ6.ok exC := zMN zXI zUn
theorem zNZ (c : zAV) (C : CS) (x : Int) (G : zCw) (i : Nat) : (zOQ c C x G).σ.n i ≤ C.σ.n i + 1 := by
 show (zCV _ _ _).n i ≤ _
 unfold zCV
 split <;> (show zAe _ _ i ≤ _; unfold zAe; split <;> omega)
end Go.Sx
