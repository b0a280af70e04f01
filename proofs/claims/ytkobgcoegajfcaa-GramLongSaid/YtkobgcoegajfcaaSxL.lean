/- Arguments that are slices of structs: what their cells are. -/
import Derived.Test.YtkobgcoegajfcaaSxH
import Derived.Deep.Slices
namespace Go.Sx
open Go.RowKit Go.ChangeShapes Go.WideShapes
set_option linter.unusedVariables false
set_option linter.unusedSimpArgs false
/-- The kinds of the cells of a type that holds no address. -/
inductive FK where
  | i (k : IntKind)
  | b
inductive OneFK : Value → FK → Prop
  | i {k z} : (Lit.int k z).wf = true → OneFK (.int k z) (.i k)
  | b {x} : OneFK (.bool x) .b
inductive AllFK : List Value → List FK → Prop
  | n : AllFK [] []
  | c {v k vs ks} : OneFK v k → AllFK vs ks → AllFK (v :: vs) (k :: ks)
theorem AllFK.app {a b : List Value} {k l : List FK} (h : AllFK a k) (h2 : AllFK b l) : AllFK (a ++ b) (k ++ l) := by
  induction h with
  | n => exact h2
  | c h _ ih => exact .c h ih
theorem AllFK.length {a : List Value} {k : List FK} (h : AllFK a k) : a.length = k.length := by
  induction h with
  | n => rfl
  | c _ _ ih => simp [ih]
section
variable (P : Program)
def flatFs (K : TypeId → Option (List FK)) : Nat → List Field → Option (List FK)
  | _, [] => some []
  | off, f :: r => (K f.type).bind fun k => if f.offset = off ∧ P.cellsOf f.type = k.length then (flatFs K (off + k.length) r).map fun l => k ++ l else none
def flatA (k : List FK) : Nat → List FK
  | 0 => []
  | n + 1 => k ++ flatA k n
def flatK : Nat → TypeId → Option (List FK)
  | 0, _ => none
  | n + 1, t => match P.underlying t with
    | some (.int k) => some [.i k]
    | some .bool => some [.b]
    | some (.struct fs) => (flatFs P (flatK n) 0 fs.toList).bind fun l => if P.cellsOf t = l.length then some l else none
    | some (.array m e) => (flatK n e).bind fun k => if P.cellsOf e = k.length ∧ P.cellsOf t = (flatA k m).length then some (flatA k m) else none
    | _ => none
end
section
variable {H : Type} {enc : TypeId × Value → H} {P : Program} {W : World} {t e : TypeId} {a : Option Addr} {len cap : Nat} {d : DataW H} {p : List MemPlace} {base : Nat} {spare : Nat → Bool} {held : Bool}
theorem flatFs_ok {K : TypeId → Option (List FK)} {fuel : Nat} {cs : List Value} (IH : ∀ t ks, K t = some ks → ∀ cs x, DataW.trod enc P W base spare held fuel t cs = some x → AllFK cs ks) :
    ∀ (fs : List Field) (off : Nat) (ks : List FK) (xs : List (DataW H × List MemPlace)), flatFs P K off fs = some ks →
      (fs.mapM fun f => DataW.trod enc P W base spare held fuel f.type ((cs.drop f.offset).take (P.cellsOf f.type))) = some xs → cs.length = off + ks.length → AllFK (cs.drop off) ks := by
  intro fs
  induction fs with
  | nil =>
    intro off ks xs h _ hl
    simp only [flatFs, Option.some.injEq] at h
    subst h
    rw [List.drop_of_length_le (by simp at hl; omega)]
    exact .n
  | cons f r ih =>
    intro off ks xs h hx hl
    simp only [flatFs, Option.bind_eq_some_iff] at h
    obtain ⟨k, hk, h⟩ := h
    split at h
    · rename_i hc
      obtain ⟨hoff, hck⟩ := hc
      simp only [Option.map_eq_some_iff] at h
      obtain ⟨l, hl2, rfl⟩ := h
      simp only [List.mapM_cons, Option.bind_eq_bind, Option.bind_eq_some_iff] at hx
      obtain ⟨y, hy, ys, hys, _⟩ := hx
      have h1 := IH _ _ hk _ _ hy
      rw [hoff, hck] at h1
      have h2 := ih (off + k.length) l ys hl2 hys (by simp at hl; omega)
      have h3 := h1.app h2
      rw [← List.drop_drop, List.take_append_drop] at h3
      exact h3
    · cases h
theorem flatA_ok {e : TypeId} {fuel : Nat} {cs : List Value} {k : List FK} (IH : ∀ cs x, DataW.trod enc P W base spare held fuel e cs = some x → AllFK cs k) (hk : P.cellsOf e = k.length) :
    ∀ (n i : Nat) (xs : List (DataW H × List MemPlace)), ((List.range' i n).mapM fun i => DataW.trod enc P W base spare held fuel e ((cs.drop (i * P.cellsOf e)).take (P.cellsOf e))) = some xs → cs.length = i * k.length + (flatA k n).length → AllFK (cs.drop (i * k.length)) (flatA k n) := by
  intro n
  induction n with
  | zero =>
    intro i xs _ hl
    rw [List.drop_of_length_le (by simp [flatA] at hl; omega)]
    exact .n
  | succ n ih =>
    intro i xs hx hl
    simp only [List.range'_succ, List.mapM_cons, Option.bind_eq_bind, Option.bind_eq_some_iff] at hx
    obtain ⟨y, hy, ys, hys, _⟩ := hx
    have h1 := IH _ _ hy
    rw [hk] at h1
    have h2 := ih (i + 1) ys hys (by simp only [flatA, List.length_append] at hl; rw [hl, Nat.add_mul]; omega)
    have h3 := h1.app h2
    rw [Nat.add_mul, Nat.one_mul, ← List.drop_drop, List.take_append_drop] at h3
    exact h3
theorem flatK_ok : ∀ (n : Nat) (t : TypeId) (ks : List FK), flatK P n t = some ks → ∀ (fuel : Nat) (cs : List Value) (x : DataW H × List MemPlace), DataW.trod enc P W base spare held fuel t cs = some x → AllFK cs ks := by
  intro n
  induction n with
  | zero => intro t ks h; simp [flatK] at h
  | succ n ih =>
    intro t ks h fuel cs x hx
    cases fuel with
    | zero => simp [DataW.trod] at hx
    | succ fuel =>
      simp only [flatK] at h
      split at h
      · rename_i k hu
        simp only [Option.some.injEq] at h
        subst h
        obtain ⟨m, rfl, rfl, hw⟩ := DataW.trod_int hu hx
        exact .c (.i hw) .n
      · rename_i hu
        simp only [Option.some.injEq] at h
        subst h
        obtain ⟨m, rfl, rfl⟩ := DataW.trod_bool hu hx
        exact .c .b .n
      · rename_i fs hu
        simp only [Option.bind_eq_some_iff] at h
        obtain ⟨l, hl, h⟩ := h
        split at h
        · rename_i hc
          simp only [Option.some.injEq] at h
          subst h
          unfold DataW.trod at hx
          rw [hu] at hx
          simp only at hx
          split at hx
          · rename_i hcl
            simp only [Option.map_eq_some_iff] at hx
            obtain ⟨xs, hxs, _⟩ := hx
            exact flatFs_ok (fun t ks hk cs x hx => ih t ks hk fuel cs x hx) fs.toList 0 l xs hl hxs (by omega)
          · cases hx
        · cases h
      · rename_i m e hu
        simp only [Option.bind_eq_some_iff] at h
        obtain ⟨k, hk, h⟩ := h
        split at h
        · rename_i hc
          simp only [Option.some.injEq] at h
          subst h
          unfold DataW.trod at hx
          rw [hu] at hx
          simp only at hx
          split at hx
          · rename_i hcl
            simp only [Option.map_eq_some_iff] at hx
            obtain ⟨xs, hxs, _⟩ := hx
            rw [List.range_eq_range'] at hxs
            have := flatA_ok (cs := cs) (fun cs x hx => ih e k hk fuel cs x hx) hc.1 m 0 xs hxs (by omega)
            simpa using this
          · cases hx
        · cases h
      · cases h
/-- A slice of such structs. -/
theorem open_rd_flat {n size : Nat} {ks : List FK} (ht : P.underlying t = some (.slice e)) (hk : flatK P n e = some ks) (hc : P.cellsOf e = size) (hsz : ks.length = size) (hpos : 0 < size) (h : DataW.Trod enc P W 0 (fun _ => true) true t (.slice a len cap) d p) :
    ∃ f : Nat → List Value, (∀ i, i < len → AllFK (f i) ks) ∧ Rd W [] (.slice a len cap) size len ((List.range len).flatMap f) ∧ (d = .nil ∧ len = 0 ∨ ∃ D : Nat → DataW H, ∃ m, len ≤ m ∧ d = .slice ((List.range len).map D) ((List.range (m - len)).map fun j => D (len + j))) := by
  obtain ⟨fuel, hf⟩ := h
  rcases Go.Deep.open_slice ht hf with ⟨hcs, hx⟩ | ⟨x, l, c, m, n', D, Pl, hcs, _, hl, hm, hmm, hx, hel⟩
  · simp [Value.cells] at hcs
    obtain ⟨rfl, rfl, rfl⟩ := hcs
    exact ⟨fun _ => [], by simp, rd_nil W [] size, .inl ⟨(Prod.mk.inj hx).1, rfl⟩⟩
  · simp [Value.cells] at hcs
    obtain ⟨rfl, rfl, rfl⟩ := hcs
    have hmc : m = cap := by simpa using hmm
    obtain ⟨f, hfc⟩ := Go.Deep.choose_lt (α := List Value) (p := fun i v => W.cells? 0 (x.add (i * P.cellsOf e)) (P.cellsOf e) = some v ∧ DataW.trod enc P W 0 (fun _ => true) true n' e v = some (D i, Pl i)) hel
    have hall : ∀ i, i < len → AllFK (f i) ks := fun i hi => flatK_ok n e ks hk n' (f i) _ (hfc i (by omega)).2
    have hflen : ∀ i, i < len → (f i).length = size := fun i hi => by rw [(hall i hi).length, hsz]
    have hlen : ∀ k, k ≤ len → ((List.range k).flatMap f).length = k * size := by
      intro k
      induction k with
      | zero => simp
      | succ k ih =>
        intro hk
        rw [List.range_succ, List.flatMap_append, List.length_append, ih (by omega)]
        simp [hflen k (by omega), Nat.add_mul]
    have hget : ∀ k, k ≤ len → ∀ j u, ((List.range k).flatMap f)[j]? = some u → W.cell? (x.add j) = some u := by
      intro k
      induction k with
      | zero => intro _ j u hu; simp at hu
      | succ k ih =>
        intro hk j u hu
        rw [List.range_succ, List.flatMap_append] at hu
        by_cases hj : j < k * size
        · rw [List.getElem?_append_left (by rw [hlen k (by omega)]; exact hj)] at hu
          exact ih (by omega) j u hu
        · rw [List.getElem?_append_right (by rw [hlen k (by omega)]; omega), hlen k (by omega)] at hu
          simp only [List.flatMap_cons, List.flatMap_nil, List.append_nil] at hu
          obtain ⟨_, _, hcell⟩ := World.cells?_some (hfc k (by omega)).1
          rw [hc] at hcell
          have hjl : j - k * size < size := by
            have := (List.getElem?_eq_some_iff.1 hu).1
            rw [hflen k (by omega)] at this
            exact this
          have := hcell (j - k * size) hjl
          rw [add_add, show k * size + (j - k * size) = j by omega] at this
          rw [this]
          exact hu
    refine ⟨f, hall, ⟨⟨_, cap, rfl, hl, hm⟩, hlen len (Nat.le_refl _), fun h0 => ⟨x, cap, rfl, by simp, ?_, fun j u hu => hget len (Nat.le_refl _) j u hu⟩⟩, .inr ⟨D, m, by omega, (Prod.mk.inj hx).1⟩⟩
    have hl0 : 0 < ((List.range len).flatMap f).length := by
      rw [hlen len (Nat.le_refl _)]
      exact Nat.mul_pos h0 hpos
    have := hget len (Nat.le_refl _) 0 _ (List.getElem?_eq_getElem hl0)
    exact World.block_lt_of_cell? W (x.add 0) this
theorem list_of {α : Type} {f : Nat → List Value} {g : α → List Value} : ∀ (n : Nat), (∀ i, i < n → ∃ a : α, f i = g a) → ∃ l : List α, l.length = n ∧ (List.range n).flatMap f = l.flatMap g
  | 0, _ => ⟨[], rfl, rfl⟩
  | n + 1, h => by
    obtain ⟨l, hl, he⟩ := list_of n fun i hi => h i (by omega)
    obtain ⟨a, ha⟩ := h n (by omega)
    exact ⟨l ++ [a], by simp [hl], by rw [List.range_succ, List.flatMap_append, List.flatMap_append, he]; simp [ha]⟩
end
end Go.Sx
