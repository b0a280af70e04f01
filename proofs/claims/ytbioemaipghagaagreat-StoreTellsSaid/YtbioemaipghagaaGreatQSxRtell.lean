/- Rows' arguments: slices of snapshots, slices of truths. -/
import Derived.Test.YtbioemaipghagaaGreatQSxPtell
import Derived.Test.YtbioemaipghagaaGreatQSxRsto
import Derived.Test.YtbioemaipghagaaGreatQSxRdelta
set_option linter.unusedVariables false
set_option linter.unusedSimpArgs false
namespace Go.Sx
open Go.RowKit Go.ChangeShapes Go.WideShapes
variable {W : World}
theorem sn_cells {c : List Value} (h : AllK W c [.i .i64, .i .i64, .s 9 entK]) : ∃ x : RI, c = snV x ∧ SnOk W x := by
 obtain ⟨t, tm, u, l, rfl, h1, h2, h3, h4⟩ := snap_of h
 exact ⟨⟨t, tm, l, u⟩, rfl, h1, h2, h4, h3⟩
theorem open_snaps {H : Type} {enc : TypeId × Value → H} {P : Program} {t e : TypeId} {a : Option Addr} {len cap m : Nat} {dd : DataW H} {p : List MemPlace} (hu : P.underlying t = some (.slice e)) (hk : flatK2 P m t = some [.s 3 [.i .i64, .i .i64, .s 9 entK]]) (h : DataW.Trod enc P W 0 (fun _ => true) true t (.slice a len cap) dd p) :
   ∃ L : List RI, Rd W [] (.slice a len cap) 3 L.length (L.flatMap snV) ∧ ∀ x ∈ L, SnOk W x := by
 obtain ⟨f, hf, hr⟩ := open_slice2 hu hk h
 obtain ⟨l, hl, he, hp⟩ := list_ofP (g := snV) (p := fun x : RI => SnOk W x) len fun i hi => sn_cells (hf i hi)
 subst hl
 rw [he] at hr
 exact ⟨l, hr, hp⟩
theorem bool_cells {c : List Value} (h : AllK W c [.b]) : ∃ b : Bool, c = [.bool b] ∧ True := by
 obtain ⟨u, us, rfl, h1, h2⟩ := h.split
 rw [h2.none]
 cases h1 with
 | b => exact ⟨_, rfl, trivial⟩
theorem open_bools {H : Type} {enc : TypeId × Value → H} {P : Program} {t e : TypeId} {a : Option Addr} {len cap m : Nat} {dd : DataW H} {p : List MemPlace} (hu : P.underlying t = some (.slice e)) (hk : flatK2 P m t = some [.s 1 [.b]]) (h : DataW.Trod enc P W 0 (fun _ => true) true t (.slice a len cap) dd p) :
   ∃ B : List Bool, Rd W [] (.slice a len cap) 1 B.length (B.map Value.bool) := by
 obtain ⟨f, hf, hr⟩ := open_slice2 hu hk h
 obtain ⟨l, hl, he, hp⟩ := list_ofP (g := fun b : Bool => [Value.bool b]) (p := fun _ => True) len fun i hi => bool_cells (hf i hi)
 subst hl
 rw [he, flat_one] at hr
 exact ⟨l, hr⟩
end Go.Sx
