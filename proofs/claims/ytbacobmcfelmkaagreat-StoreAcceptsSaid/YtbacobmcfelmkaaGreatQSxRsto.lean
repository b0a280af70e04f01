/- Rows' arguments: slices of bytes' slices. -/
import Derived.Test.YtbacobmcfelmkaaGreatQSxPsto
import Derived.Test.YtbacobmcfelmkaaGreatQSxBasB
import Derived.Test.YtbacobmcfelmkaaGreatQSxGrams
set_option linter.unusedVariables false
set_option linter.unusedSimpArgs false
namespace Go.Sx
open Go.RowKit Go.ChangeShapes Go.WideShapes
variable {W : World}
theorem zN1 {c : List Value} (h : AllK W c [.i .u8]) : ∃ b : zR, c = [zIc b] := by
 obtain ⟨u, us, rfl, h1, h2⟩ := h.split
 rw [h2.none]
 cases h1 with
 | i w =>
   obtain ⟨X, hX⟩ := zIQ w
   exact ⟨X, by rw [hX]; rfl⟩
theorem zJU {α : Type} (f : α → Value) : ∀ (l : List α), (l.flatMap fun x => [f x]) = l.map f
 | [] => rfl
 | a :: l => by simp [zJU f l]
theorem zRr {c : List Value} (h : AllK W c [.s 1 [.i .u8]]) : ∃ x : BR, c = [x.v] ∧ Rd W [] x.v 1 x.bs.length (zF x.bs) := by
 obtain ⟨u, us, rfl, h1, h2⟩ := h.split
 rw [h2.none]
 obtain ⟨len, f, hf, hr⟩ := h1.sl
 obtain ⟨bs, hl, he⟩ := zOc (g := fun b : zR => [zIc b]) len fun i hi => zN1 (hf i hi)
 rw [he, zJU] at hr
 rw [← hl] at hr
 exact ⟨⟨u, bs⟩, rfl, hr⟩
theorem zSF {H : Type} {enc : TypeId × Value → H} {P : Program} {t e : TypeId} {a : Option Addr} {len cap m : Nat} {dd : DataW H} {p : List MemPlace} (hu : P.underlying t = some (.slice e)) (hk : zG0 P m t = some [.s 1 [.s 1 [.i .u8]]]) (h : DataW.Trod enc P W 0 (fun _ => true) true t (.slice a len cap) dd p) :
   ∃ L : List BR, Rd W [] (.slice a len cap) 1 L.length (L.map BR.v) ∧ ∀ x ∈ L, Rd W [] x.v 1 x.bs.length (zF x.bs) := by
 obtain ⟨f, hf, hr⟩ := zLY hu hk h
 obtain ⟨l, hl, he, hp⟩ := zL6 (g := fun x : BR => [x.v]) (p := fun x : BR => Rd W [] x.v 1 x.bs.length (zF x.bs)) len fun i hi => zRr (hf i hi)
 subst hl
 rw [he, zJU] at hr
 exact ⟨l, hr, hp⟩
end Go.Sx
