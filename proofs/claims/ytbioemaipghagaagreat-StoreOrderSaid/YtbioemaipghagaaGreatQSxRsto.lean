/- Rows' arguments: slices of bytes' slices. -/
import Derived.Test.YtbioemaipghagaaGreatQSxPsto
import Derived.Test.YtbioemaipghagaaGreatQSxBasB
import Derived.Test.YtbioemaipghagaaGreatQSxGrams
set_option linter.unusedVariables false
set_option linter.unusedSimpArgs false
namespace Go.Sx
open Go.RowKit Go.ChangeShapes Go.WideShapes
variable {W : World}
theorem byte_cells {c : List Value} (h : AllK W c [.i .u8]) : ∃ b : Byte, c = [byteV b] := by
  obtain ⟨u, us, rfl, h1, h2⟩ := h.split
  rw [h2.none]
  cases h1 with
  | i w =>
    obtain ⟨X, hX⟩ := bv_of_wf_u8 w
    exact ⟨X, by rw [hX]; rfl⟩
theorem flat_one {α : Type} (f : α → Value) : ∀ (l : List α), (l.flatMap fun x => [f x]) = l.map f
  | [] => rfl
  | a :: l => by simp [flat_one f l]
theorem br_cells {c : List Value} (h : AllK W c [.s 1 [.i .u8]]) : ∃ x : BR, c = [x.v] ∧ Rd W [] x.v 1 x.bs.length (bytesV x.bs) := by
  obtain ⟨u, us, rfl, h1, h2⟩ := h.split
  rw [h2.none]
  obtain ⟨len, f, hf, hr⟩ := h1.sl
  obtain ⟨bs, hl, he⟩ := list_of (g := fun b : Byte => [byteV b]) len fun i hi => byte_cells (hf i hi)
  rw [he, flat_one] at hr
  rw [← hl] at hr
  exact ⟨⟨u, bs⟩, rfl, hr⟩
theorem open_brs {H : Type} {enc : TypeId × Value → H} {P : Program} {t e : TypeId} {a : Option Addr} {len cap m : Nat} {dd : DataW H} {p : List MemPlace} (hu : P.underlying t = some (.slice e)) (hk : flatK2 P m t = some [.s 1 [.s 1 [.i .u8]]]) (h : DataW.Trod enc P W 0 (fun _ => true) true t (.slice a len cap) dd p) :
    ∃ L : List BR, Rd W [] (.slice a len cap) 1 L.length (L.map BR.v) ∧ ∀ x ∈ L, Rd W [] x.v 1 x.bs.length (bytesV x.bs) := by
  obtain ⟨f, hf, hr⟩ := open_slice2 hu hk h
  obtain ⟨l, hl, he, hp⟩ := list_ofP (g := fun x : BR => [x.v]) (p := fun x : BR => Rd W [] x.v 1 x.bs.length (bytesV x.bs)) len fun i hi => br_cells (hf i hi)
  subst hl
  rw [he, flat_one] at hr
  exact ⟨l, hr, hp⟩
end Go.Sx
