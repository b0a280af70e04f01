/- A small logic of frames and memory for walks: what slots hold, what blocks hold, and that the rest stays as it was. -/
import Derived.WalkKit
set_option linter.unusedVariables false
set_option linter.unusedSimpArgs false
namespace Go.Sx
open Go.RowKit

/-! ### Slots -/
def lk : List (Nat × Value) → Nat → Option Value
  | [], _ => none
  | (d, v) :: r, t => bif Nat.beq d t then some v else lk r t
theorem lk_cons (d : Nat) (v : Value) (r : List (Nat × Value)) (t : Nat) : lk ((d, v) :: r) t = if d = t then some v else lk r t := by
  show (bif Nat.beq d t then some v else lk r t) = _
  by_cases h : d = t
  · subst h; simp
  · have : Nat.beq d t = false := by cases hb : Nat.beq d t with | false => rfl | true => exact absurd (Nat.eq_of_beq_eq_true hb) h
    simp [this, h]
def evo (F : List (Nat × Value)) : Operand → Option Value
  | .tmp t => lk F t
  | .const v => some v
  | .global g => some (.pointer (some ⟨g, 0, none⟩))
  | .func f => some (.func (.func f) #[] #[])
inductive Evs (F : List (Nat × Value)) : List Operand → List Value → Prop
  | n : Evs F [] []
  | c {x v xs vs} : evo F x = some v → Evs F xs vs → Evs F (x :: xs) (v :: vs)
inductive Sub (F : List (Nat × Value)) : List (Nat × Value) → Prop
  | n : Sub F []
  | c {d v r} : lk F d = some v → Sub F r → Sub F ((d, v) :: r)

/-! ### Blocks -/
structure HA where
  foot : List Nat
  p : World → Prop
  loc : ∀ w w' : World, (∀ k ∈ foot, w'.heap[k]? = w.heap[k]?) → p w → p w'
  lt : ∀ w, p w → ∀ k ∈ foot, k < w.heap.size
def blk (g : Nat) (cs : List Value) (t : TypeId) : HA where
  foot := [g]
  p w := w.heap[g]? = some (.cells cs.toArray t (0, 0))
  loc w w' h hp := by rw [h g (by simp)]; exact hp
  lt w h k hk := by
    have : k = g := by simpa using hk
    subst this
    exact (Array.getElem?_eq_some_iff.1 h).1
/-- A row of the call's own, n elements of 'size' cells; nil, or the head of its block. -/
def row (v : Value) (e size n : Nat) (xs : List Value) : HA where
  foot := v.ownBlock.toList
  p w := w.ownsRow 0 e size v n xs
  loc w w' h hp := by
    refine ⟨hp.1, ?_⟩
    rcases hp.2 with hn | ⟨g, cap, cur, rfl, hb, hgg, rest⟩
    · exact .inl hn
    · refine .inr ⟨g, cap, cur, rfl, hb, ?_, rest⟩
      rw [h g (by simp [Value.ownBlock])]
      exact hgg
  lt w h k hk := (h.lt k (by simpa using hk)).2
def feet (M : List HA) : List Nat := M.flatMap HA.foot
theorem feet_cons (h : HA) (M : List HA) : feet (h :: M) = h.foot ++ feet M := rfl
theorem feet_append (M N : List HA) : feet (M ++ N) = feet M ++ feet N := by simp [feet]

structure Chg (S : List Nat) (w0 w : World) : Prop where
  os : w.os = w0.os
  tape : w.tape = w0.tape
  output : w.output = w0.output
  size : w0.heap.size ≤ w.heap.size
  block : ∀ k, k < w0.heap.size → k ∉ S → w.heap[k]? = w0.heap[k]?
theorem Chg.refl (S : List Nat) (w : World) : Chg S w w := ⟨rfl, rfl, rfl, Nat.le_refl _, fun _ _ _ => rfl⟩
theorem Chg.below {w0 w : World} (h : Chg [] w0 w) : Below w0.heap.size w0 w := ⟨h.os, h.tape, h.output, h.size, fun k hk => h.block k hk (by simp)⟩
theorem Chg.grown {S : List Nat} {w0 w w' : World} {r : Option Nat} (h : Chg S w0 w) (g : w.grownBy w' r) (hr : ∀ k, r = some k → k ∈ S ∨ w0.heap.size ≤ k) : Chg S w0 w' :=
  ⟨g.os.trans h.os, g.tape.trans h.tape, g.output.trans h.output, Nat.le_trans h.size g.size, fun k hk hS => by
    rw [g.block k (Nat.lt_of_lt_of_le hk h.size) (fun e => (hr k e.symm).elim hS (fun h1 => absurd hk (by omega)))]
    exact h.block k hk hS⟩

structure Mem (w0 : World) (S : List Nat) (M : List HA) (w : World) : Prop where
  chg : Chg S w0 w
  all : ∀ h ∈ M, h.p w
  nd : (feet M).Nodup
  ge : ∀ k ∈ feet M, k ∈ S ∨ w0.heap.size ≤ k

/-- What is taken, and what is left. -/
inductive Del : List HA → HA → List HA → Prop
  | z {x r} : Del (x :: r) x r
  | s {u r x r'} : Del r x r' → Del (u :: r) x (u :: r')
inductive Dels : List HA → List HA → List HA → Prop
  | n {M} : Dels M [] M
  | c {M x M1 X M2} : Del M x M1 → Dels M1 X M2 → Dels M (x :: X) M2
theorem Del.perm {M x M'} (h : Del M x M') : (feet M).Perm (x.foot ++ feet M') := by
  induction h with
  | z => exact List.Perm.refl _
  | @s u r x r' _ ih =>
    simp only [feet_cons]
    refine (List.Perm.append_left _ ih).trans ?_
    rw [← List.append_assoc, ← List.append_assoc]
    exact List.Perm.append_right _ List.perm_append_comm
theorem Del.mem {M x M'} (h : Del M x M') : ∀ y, y ∈ M ↔ y = x ∨ y ∈ M' := by
  induction h with
  | z => intro y; simp
  | s _ ih => intro y; simp only [List.mem_cons, ih]; constructor <;> (rintro (h | h | h) <;> simp [h])
theorem Dels.perm {M X M'} (h : Dels M X M') : (feet M).Perm (feet X ++ feet M') := by
  induction h with
  | n => exact List.Perm.refl _
  | c h _ ih =>
    simp only [feet_cons, List.append_assoc]
    exact h.perm.trans (List.Perm.append_left _ ih)
theorem Dels.mem {M X M'} (h : Dels M X M') : ∀ y, y ∈ M ↔ y ∈ X ∨ y ∈ M' := by
  induction h with
  | n => intro y; simp
  | c h _ ih => intro y; simp only [h.mem, ih, List.mem_cons, or_assoc]

theorem Mem.start {w : World} {S : List Nat} {M : List HA} (hall : ∀ h ∈ M, h.p w) (hS : feet M = S) (hnd : S.Nodup) : Mem w S M w :=
  ⟨Chg.refl _ _, hall, hS ▸ hnd, fun k hk => .inl (hS ▸ hk)⟩
theorem Mem.nil (w : World) : Mem w [] [] w := ⟨Chg.refl _ _, by simp, by simp [feet], by simp [feet]⟩
theorem mem_one {w : World} {h : HA} (hp : h.p w) (hnd : h.foot.Nodup := by simp [blk]) : Mem w (feet [h]) [h] w :=
  Mem.start (by simpa using hp) rfl (by simpa [feet] using hnd)
theorem Mem.del {w0 w : World} {S : List Nat} {M M' : List HA} {x : HA} (h : Mem w0 S M w) (d : Del M x M') : x.p w := h.all x ((d.mem x).2 (.inl rfl))
theorem Mem.drop {w0 w : World} {S : List Nat} {M M' X : List HA} (h : Mem w0 S M w) (d : Dels M X M') : Mem w0 S M' w := by
  have hp := d.perm
  have hn := hp.nodup_iff.1 h.nd
  exact ⟨h.chg, fun y hy => h.all y ((d.mem y).2 (.inr hy)), (List.nodup_append.1 hn).2.1, fun k hk => h.ge k (hp.mem_iff.2 (by simp [hk]))⟩
/-- The frame: what a call was not handed stays. -/
theorem Mem.frame {w0 w w' : World} {S0 : List Nat} {M M' X N : List HA} (h : Mem w0 S0 M w) (d : Dels M X M') (hc : Mem w (feet X) N w') : Mem w0 S0 (N ++ M') w' := by
  have hp := d.perm
  have hn := List.nodup_append.1 (hp.nodup_iff.1 h.nd)
  have hlt : ∀ y ∈ M', ∀ k ∈ y.foot, k < w.heap.size ∧ k ∉ feet X := fun y hy k hk =>
    ⟨y.lt w (h.all y ((d.mem y).2 (.inr hy))) k hk, fun hx => hn.2.2 k hx k (List.mem_flatMap.2 ⟨y, hy, hk⟩) rfl⟩
  refine ⟨⟨hc.chg.os.trans h.chg.os, hc.chg.tape.trans h.chg.tape, hc.chg.output.trans h.chg.output, Nat.le_trans h.chg.size hc.chg.size, fun k hk hS => ?_⟩, ?_, ?_, ?_⟩
  · rw [hc.chg.block k (Nat.lt_of_lt_of_le hk h.chg.size) (fun hx => ?_)]
    · exact h.chg.block k hk hS
    · rcases h.ge k (hp.mem_iff.2 (by simp [hx])) with h1 | h1
      · exact hS h1
      · omega
  · intro y hy
    rcases List.mem_append.1 hy with hy | hy
    · exact hc.all y hy
    · exact y.loc w w' (fun k hk => hc.chg.block k (hlt y hy k hk).1 (hlt y hy k hk).2) (h.all y ((d.mem y).2 (.inr hy)))
  · rw [feet_append]
    refine List.nodup_append.2 ⟨hc.nd, hn.2.1, fun a ha b hb e => ?_⟩
    subst e
    obtain ⟨y, hy, hk⟩ := List.mem_flatMap.1 hb
    rcases hc.ge a ha with h1 | h1
    · exact (hlt y hy a hk).2 h1
    · have := (hlt y hy a hk).1; omega
  · intro k hk
    rw [feet_append] at hk
    rcases List.mem_append.1 hk with hk | hk
    · rcases hc.ge k hk with h1 | h1
      · exact h.ge k (hp.mem_iff.2 (by simp [h1]))
      · exact .inr (Nat.le_trans h.chg.size h1)
    · exact h.ge k (hp.mem_iff.2 (by simp [hk]))
/-- A block more. -/
theorem mem_alloc (w : World) (cs : Array Value) (t : TypeId) : Mem w (feet []) [blk w.heap.size cs.toList t] (w.alloc (.cells cs t)) := by
  refine ⟨⟨rfl, rfl, rfl, by simp, fun k hk _ => heap_alloc_old w _ hk⟩, ?_, by simp [feet, blk], fun k hk => .inr (by simp [feet, blk] at hk; omega)⟩
  intro h hh
  simp only [List.mem_singleton] at hh
  subst hh
  show (w.alloc _).heap[w.heap.size]? = _
  simpa using heap_alloc_new w (.cells cs t)
/-- A row more, or another one in its place. -/
theorem mem_grown {w w' : World} {v v' : Value} {e size n' : Nat} {xs' : List Value} (hg : w.grownBy w' v.ownBlock) (ho : w'.ownsRow 0 e size v' n' xs')
    (hat : v'.ownBlock = v.ownBlock ∨ ∃ b, v'.ownBlock = some b ∧ w.heap.size ≤ b) {xs : List Value} {n : Nat} : Mem w (feet [row v e size n xs]) [row v' e size n' xs'] w' := by
  refine ⟨⟨hg.os, hg.tape, hg.output, hg.size, fun k hk hS => hg.block k hk (fun e => hS (by simp [feet, row, ← e]))⟩, ?_, ?_, ?_⟩
  · intro h hh
    simp only [List.mem_singleton] at hh
    subst hh
    exact ho
  · simp only [feet, row, List.flatMap_cons, List.flatMap_nil, List.append_nil]
    cases v'.ownBlock <;> simp
  · intro k hk
    simp only [feet, row, List.flatMap_cons, List.flatMap_nil, List.append_nil, Option.mem_toList] at hk ⊢
    rcases hat with h | ⟨b, h, hb⟩
    · left; rw [← h]; exact hk
    · right; rw [h] at hk; cases hk; exact hb
/-- A store into a block. -/
theorem mem_setBlk (w : World) (g off : Nat) (cs : List Value) (t : TypeId) (u : Value) (h : w.heap[g]? = some (.cells cs.toArray t (0, 0))) :
    Mem w (feet [blk g cs t]) [blk g (cs.set off u) t] (w.setCell ⟨g, off, none⟩ u) := by
  refine ⟨⟨rfl, rfl, rfl, by simp [World.setCell], fun k hk hS => Below.heap_setCell w _ _ k (by simpa [feet, blk] using hS)⟩, ?_, by simp [feet, blk], by simp [feet, blk]⟩
  intro y hy
  simp only [List.mem_singleton] at hy
  subst hy
  show (w.setCell _ _).heap[g]? = _
  simp [World.setCell, Array.getElem?_modify, h]
theorem mem_drew (w : World) (n : Nat) : Mem w (feet []) [] { w with drawn := n } := ⟨⟨rfl, rfl, rfl, Nat.le_refl _, fun _ _ _ => rfl⟩, by simp, by simp [feet], by simp [feet]⟩

/-! ### The state -/
structure St (n : Nat) (F : List (Nat × Value)) (w0 : World) (S : List Nat) (M : List HA) (a : Act) (w : World) : Prop where
  size : a.tmps.size = n
  dfr : a.defers = []
  agr : ∀ t v, lk F t = some v → a.tmps[t]? = some v
  mem : Mem w0 S M w
variable {n : Nat} {F : List (Nat × Value)} {w0 : World} {S : List Nat} {M : List HA} {a : Act} {w : World}
theorem St.ev (hs : St n F w0 S M a w) {x : Operand} {v : Value} (h : evo F x = some v) : a.eval x = v := by
  cases x with
  | tmp t => have := hs.agr t v h; simp [Act.eval, Array.getD_eq_getD_getElem?, this]
  | const u => simpa [evo, Act.eval] using h
  | global g => simpa [evo, Act.eval] using h
  | func f => simpa [evo, Act.eval] using h
theorem St.evs (hs : St n F w0 S M a w) {xs : List Operand} {vs : List Value} (h : Evs F xs vs) : xs.map a.eval = vs := by
  induction h with
  | n => rfl
  | c h _ ih => simp [hs.ev h, ih]
theorem St.put (hs : St n F w0 S M a w) {d : Nat} (hd : Nat.blt d n = true) (v : Value) : St n ((d, v) :: F) w0 S M (a.put (some d) v) w := by
  have hd' : d < n := by simpa using hd
  refine ⟨by simp [Act.put, hs.size], hs.dfr, fun t u h => ?_, hs.mem⟩
  rw [lk_cons] at h
  simp only [Act.put]
  by_cases e : d = t
  · subst e
    simp only [if_true, Option.some.injEq] at h
    subst h
    simp [hs.size, hd']
  · rw [if_neg e] at h
    rw [Array.getElem?_setIfInBounds_ne e]
    exact hs.agr t u h
theorem St.sub (hs : St n F w0 S M a w) {F' : List (Nat × Value)} (h : Sub F F') : St n F' w0 S M a w := by
  refine ⟨hs.size, hs.dfr, ?_, hs.mem⟩
  induction h with
  | n => intro t v h; simp [lk] at h
  | @c d v r h _ ih =>
    intro t u hu
    rw [lk_cons] at hu
    by_cases e : d = t
    · subst e; simp only [if_true, Option.some.injEq] at hu; subst hu; exact hs.agr _ _ h
    · rw [if_neg e] at hu; exact ih t u hu
theorem St.memTo (hs : St n F w0 S M a w) {M' : List HA} {w' : World} (h : Mem w0 S M' w') : St n F w0 S M' a w' := ⟨hs.size, hs.dfr, hs.agr, h⟩
theorem St.drop (hs : St n F w0 S M a w) {X M' : List HA} (d : Dels M X M') : St n F w0 S M' a w := hs.memTo (hs.mem.drop d)
theorem St.frame (hs : St n F w0 S M a w) {X N M' : List HA} {w' : World} (d : Dels M X M') (hc : Mem w (feet X) N w') : St n F w0 S (N ++ M') a w' := hs.memTo (hs.mem.frame d hc)

/-- What a call comes to. -/
def Ret (w : World) (S : List Nat) (post : Value → List HA → Prop) : Ending → World → Prop := fun e w' => ∃ v N, e = .returned v ∧ post v N ∧ Mem w S N w'

end Go.Sx
