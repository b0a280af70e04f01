/- Arguments that are structs with slices in them, and slices of such. -/
import Derived.Test.YtbioemaipghagaaGreatQSxBasB
set_option linter.unusedVariables false
set_option linter.unusedSimpArgs false
namespace Go.Sx
open Go.RowKit Go.ChangeShapes Go.WideShapes
inductive FK2 where
  | i (k : IntKind)
  | b
  | s (size : Nat) (ks : List FK2)
mutual
inductive OneK (W : World) : Value → FK2 → Prop
  | i {k z} : (Lit.int k z).wf = true → OneK W (.int k z) (.i k)
  | b {x} : OneK W (.bool x) .b
  | s {a len cap size ks} {f : Nat → List Value} : (∀ i, i < len → AllK W (f i) ks) → Rd W [] (.slice a len cap) size len ((List.range len).flatMap f) → OneK W (.slice a len cap) (.s size ks)
inductive AllK (W : World) : List Value → List FK2 → Prop
  | n : AllK W [] []
  | c {v k vs ks} : OneK W v k → AllK W vs ks → AllK W (v :: vs) (k :: ks)
end
variable {W : World}
theorem AllK.app {a b : List Value} {k l : List FK2} (h : AllK W a k) (h2 : AllK W b l) : AllK W (a ++ b) (k ++ l) := by
  induction a generalizing k with
  | nil => cases h; exact h2
  | cons v a ih =>
    cases h with
    | c h1 h3 => exact .c h1 (ih h3)
theorem AllK.length : ∀ {a : List Value} {k : List FK2}, AllK W a k → a.length = k.length
  | [], _, h => by cases h; rfl
  | v :: a, _, h => by cases h with | c h1 h2 => simp [AllK.length h2]
section
variable (P : Program)
def flatFs2 (K : TypeId → Option (List FK2)) : Nat → List Field → Option (List FK2)
  | _, [] => some []
  | off, f :: r => (K f.type).bind fun k => if f.offset = off ∧ P.cellsOf f.type = k.length then (flatFs2 K (off + k.length) r).map fun l => k ++ l else none
def flatA2 (k : List FK2) : Nat → List FK2
  | 0 => []
  | n + 1 => k ++ flatA2 k n
def flatK2 : Nat → TypeId → Option (List FK2)
  | 0, _ => none
  | n + 1, t => match P.underlying t with
    | some (.int k) => some [.i k]
    | some .bool => some [.b]
    | some (.slice e) => (flatK2 n e).bind fun k => if P.cellsOf e = k.length ∧ 0 < k.length then some [.s k.length k] else none
    | some (.struct fs) => (flatFs2 P (flatK2 n) 0 fs.toList).bind fun l => if P.cellsOf t = l.length then some l else none
    | some (.array m e) => (flatK2 n e).bind fun k => if P.cellsOf e = k.length ∧ P.cellsOf t = (flatA2 k m).length then some (flatA2 k m) else none
    | _ => none
end
section
variable {H : Type} {enc : TypeId × Value → H} {P : Program} {t e : TypeId} {a : Option Addr} {len cap : Nat}
theorem flatFs2_ok {K : TypeId → Option (List FK2)} {fuel : Nat} {cs : List Value} (IH : ∀ t ks, K t = some ks → ∀ cs x, DataW.trod enc P W 0 (fun _ => true) true fuel t cs = some x → AllK W cs ks) :
    ∀ (fs : List Field) (off : Nat) (ks : List FK2) (xs : List (DataW H × List MemPlace)), flatFs2 P K off fs = some ks →
      (fs.mapM fun f => DataW.trod enc P W 0 (fun _ => true) true fuel f.type ((cs.drop f.offset).take (P.cellsOf f.type))) = some xs → cs.length = off + ks.length → AllK W (cs.drop off) ks := by
  intro fs
  induction fs with
  | nil =>
    intro off ks xs h _ hl
    simp only [flatFs2, Option.some.injEq] at h
    subst h
    rw [List.drop_of_length_le (by simp at hl; omega)]
    exact .n
  | cons f r ih =>
    intro off ks xs h hx hl
    simp only [flatFs2, Option.bind_eq_some_iff] at h
    obtain ⟨k, hk, h⟩ := h
    split at h
    · rename_i hc
      obtain ⟨hoff, hck⟩ := hc
      simp only [Option.map_eq_some_iff] at h
      obtain ⟨l, hl2, rfl⟩ := h
      simp only [List.mapM_cons, Option.bind_eq_bind, Option.bind_eq_some_iff] at hx
      obtain ⟨y, hy, ys, hys, _⟩ := hx
      have h1 := IH _ _ hk _ _ hy
      rw [hoff, hck] at h1
      have h2 := ih (off + k.length) l ys hl2 hys (by simp at hl; omega)
      have h3 := h1.app h2
      rw [← List.drop_drop, List.take_append_drop] at h3
      exact h3
    · cases h
theorem flatA2_ok {e : TypeId} {fuel : Nat} {cs : List Value} {k : List FK2} (IH : ∀ cs x, DataW.trod enc P W 0 (fun _ => true) true fuel e cs = some x → AllK W cs k) (hk : P.cellsOf e = k.length) :
    ∀ (n i : Nat) (xs : List (DataW H × List MemPlace)), ((List.range' i n).mapM fun i => DataW.trod enc P W 0 (fun _ => true) true fuel e ((cs.drop (i * P.cellsOf e)).take (P.cellsOf e))) = some xs → cs.length = i * k.length + (flatA2 k n).length → AllK W (cs.drop (i * k.length)) (flatA2 k n) := by
  intro n
  induction n with
  | zero =>
    intro i xs _ hl
    rw [List.drop_of_length_le (by simp [flatA2] at hl; omega)]
    exact .n
  | succ n ih =>
    intro i xs hx hl
    simp only [List.range'_succ, List.mapM_cons, Option.bind_eq_bind, Option.bind_eq_some_iff] at hx
    obtain ⟨y, hy, ys, hys, _⟩ := hx
    have h1 := IH _ _ hy
    rw [hk] at h1
    have h2 := ih (i + 1) ys hys (by simp only [flatA2, List.length_append] at hl; rw [hl, Nat.add_mul]; omega)
    have h3 := h1.app h2
    rw [Nat.add_mul, Nat.one_mul, ← List.drop_drop, List.take_append_drop] at h3
    exact h3
/-- A slice's elements, whatever is known of them. -/
theorem open_rd_of {fuel size : Nat} {Pr : List Value → Prop} {x : DataW H × List MemPlace} {cs : List Value} (ht : P.underlying t = some (.slice e)) (hc : P.cellsOf e = size) (hpos : 0 < size) (hlen' : ∀ cs, Pr cs → cs.length = size)
    (IH : ∀ fuel cs x, DataW.trod enc P W 0 (fun _ => true) true fuel e cs = some x → Pr cs) (hf : DataW.trod enc P W 0 (fun _ => true) true fuel t cs = some x) :
    ∃ a len cap, cs = [.slice a len cap] ∧ ∃ f : Nat → List Value, (∀ i, i < len → Pr (f i)) ∧ Rd W [] (.slice a len cap) size len ((List.range len).flatMap f) := by
  rcases Go.Deep.open_slice ht hf with ⟨hcs, hx⟩ | ⟨x, l, c, m, n', D, Pl, hcs, _, hl, hm, hmm, hx, hel⟩
  · exact ⟨none, 0, 0, hcs, fun _ => [], by simp, rd_nil W [] size⟩
  · refine ⟨some x, l, c, hcs, ?_⟩
    have hmc : m = c := by simpa using hmm
    obtain ⟨f, hfc⟩ := Go.Deep.choose_lt (α := List Value) (p := fun i v => W.cells? 0 (x.add (i * P.cellsOf e)) (P.cellsOf e) = some v ∧ DataW.trod enc P W 0 (fun _ => true) true n' e v = some (D i, Pl i)) hel
    have hall : ∀ i, i < l → Pr (f i) := fun i hi => IH n' (f i) _ (hfc i (by omega)).2
    have hflen : ∀ i, i < l → (f i).length = size := fun i hi => hlen' _ (hall i hi)
    have hlen : ∀ k, k ≤ l → ((List.range k).flatMap f).length = k * size := by
      intro k
      induction k with
      | zero => simp
      | succ k ih =>
        intro hk
        rw [List.range_succ, List.flatMap_append, List.length_append, ih (by omega)]
        simp [hflen k (by omega), Nat.add_mul]
    have hget : ∀ k, k ≤ l → ∀ j u, ((List.range k).flatMap f)[j]? = some u → W.cell? (x.add j) = some u := by
      intro k
      induction k with
      | zero => intro _ j u hu; simp at hu
      | succ k ih =>
        intro hk j u hu
        rw [List.range_succ, List.flatMap_append] at hu
        by_cases hj : j < k * size
        · rw [List.getElem?_append_left (by rw [hlen k (by omega)]; exact hj)] at hu
          exact ih (by omega) j u hu
        · rw [List.getElem?_append_right (by rw [hlen k (by omega)]; omega), hlen k (by omega)] at hu
          simp only [List.flatMap_cons, List.flatMap_nil, List.append_nil] at hu
          obtain ⟨_, _, hcell⟩ := World.cells?_some (hfc k (by omega)).1
          rw [hc] at hcell
          have hjl : j - k * size < size := by
            have := (List.getElem?_eq_some_iff.1 hu).1
            rw [hflen k (by omega)] at this
            exact this
          have := hcell (j - k * size) hjl
          rw [add_add, show k * size + (j - k * size) = j by omega] at this
          rw [this]
          exact hu
    refine ⟨f, hall, ⟨⟨_, c, rfl, hl, hm⟩, hlen l (Nat.le_refl _), fun h0 => ⟨x, c, rfl, by simp, ?_, fun j u hu => hget l (Nat.le_refl _) j u hu⟩⟩⟩
    have hl0 : 0 < ((List.range l).flatMap f).length := by
      rw [hlen l (Nat.le_refl _)]
      exact Nat.mul_pos h0 hpos
    have := hget l (Nat.le_refl _) 0 _ (List.getElem?_eq_getElem hl0)
    exact World.block_lt_of_cell? W (x.add 0) this
theorem flatK2_ok : ∀ (n : Nat) (t : TypeId) (ks : List FK2), flatK2 P n t = some ks → ∀ (fuel : Nat) (cs : List Value) (x : DataW H × List MemPlace), DataW.trod enc P W 0 (fun _ => true) true fuel t cs = some x → AllK W cs ks := by
  intro n
  induction n with
  | zero => intro t ks h; simp [flatK2] at h
  | succ n ih =>
    intro t ks h fuel cs x hx
    cases fuel with
    | zero => simp [DataW.trod] at hx
    | succ fuel =>
      simp only [flatK2] at h
      split at h
      · rename_i k hu
        simp only [Option.some.injEq] at h
        subst h
        obtain ⟨m, rfl, rfl, hw⟩ := DataW.trod_int hu hx
        exact .c (.i hw) .n
      · rename_i hu
        simp only [Option.some.injEq] at h
        subst h
        obtain ⟨m, rfl, rfl⟩ := DataW.trod_bool hu hx
        exact .c .b .n
      · rename_i e hu
        simp only [Option.bind_eq_some_iff] at h
        obtain ⟨k, hk, h⟩ := h
        split at h
        · rename_i hc
          simp only [Option.some.injEq] at h
          subst h
          obtain ⟨a, len, cap, rfl, f, hf, hr⟩ := open_rd_of (Pr := fun cs => AllK W cs k) hu hc.1 hc.2 (fun cs h => h.length) (fun fuel cs x h => ih e k hk fuel cs x h) hx
          exact .c (.s hf hr) .n
        · cases h
      · rename_i fs hu
        simp only [Option.bind_eq_some_iff] at h
        obtain ⟨l, hl, h⟩ := h
        split at h
        · rename_i hc
          simp only [Option.some.injEq] at h
          subst h
          unfold DataW.trod at hx
          rw [hu] at hx
          simp only at hx
          split at hx
          · rename_i hcl
            simp only [Option.map_eq_some_iff] at hx
            obtain ⟨xs, hxs, _⟩ := hx
            exact flatFs2_ok (fun t ks hk cs x hx => ih t ks hk fuel cs x hx) fs.toList 0 l xs hl hxs (by omega)
          · cases hx
        · cases h
      · rename_i m e hu
        simp only [Option.bind_eq_some_iff] at h
        obtain ⟨k, hk, h⟩ := h
        split at h
        · rename_i hc
          simp only [Option.some.injEq] at h
          subst h
          unfold DataW.trod at hx
          rw [hu] at hx
          simp only at hx
          split at hx
          · rename_i hcl
            simp only [Option.map_eq_some_iff] at hx
            obtain ⟨xs, hxs, _⟩ := hx
            rw [List.range_eq_range'] at hxs
            have := flatA2_ok (cs := cs) (fun cs x hx => ih e k hk fuel cs x hx) hc.1 m 0 xs hxs (by omega)
            simpa using this
          · cases hx
        · cases h
      · cases h
/-- A struct that came in, with slices in it. -/
theorem open_deep {m : Nat} {fs : Array Field} {ks : List FK2} {v : Value} {dd : DataW H} {p : List MemPlace} (hu : P.underlying t = some (.struct fs)) (hk : flatK2 P m t = some ks) (hv : Value.okWide P W .any 0 t v) (h : DataW.Trod enc P W 0 (fun _ => true) true t v dd p) : ∃ cs : List Value, v = .agg cs.toArray ∧ AllK W cs ks := by
  obtain ⟨cs, rfl, _⟩ := okWide_struct hu hv
  obtain ⟨fuel, hf⟩ := h
  exact ⟨cs.toList, by simp, flatK2_ok m t ks hk fuel _ _ hf⟩
end
def FK.up : FK → FK2
  | .i k => .i k
  | .b => .b
theorem AllK.flat : ∀ {cs : List Value} {ks : List FK}, AllK W cs (ks.map FK.up) → AllFK cs ks
  | [], [], _ => .n
  | [], k :: ks, h => by cases h
  | v :: cs, [], h => by cases h
  | v :: cs, k :: ks, h => by
    cases h with
    | c h1 h2 =>
      refine .c ?_ (AllK.flat h2)
      cases k with
      | i k => cases h1 with | i w => exact .i w
      | b => cases h1; exact .b
theorem AllK.split {c : List Value} {k : FK2} {ks : List FK2} (h : AllK W c (k :: ks)) : ∃ u us, c = u :: us ∧ OneK W u k ∧ AllK W us ks := by
  cases h with
  | c h1 h2 => exact ⟨_, _, rfl, h1, h2⟩
theorem AllK.none {c : List Value} (h : AllK W c []) : c = [] := by cases h; rfl
theorem OneK.i64 {v : Value} (h : OneK W v (.i .i64)) : ∃ z : Int, v = .int .i64 z ∧ -9223372036854775808 ≤ z ∧ z ≤ 9223372036854775807 := by
  cases h with
  | i w => exact ⟨_, rfl, i64_of_wf w⟩
theorem OneK.sl {v : Value} {size : Nat} {ks : List FK2} (h : OneK W v (.s size ks)) : ∃ (len : Nat) (f : Nat → List Value), (∀ i, i < len → AllK W (f i) ks) ∧ Rd W [] v size len ((List.range len).flatMap f) := by
  cases h with
  | s h1 h2 => exact ⟨_, _, h1, h2⟩
end Go.Sx
