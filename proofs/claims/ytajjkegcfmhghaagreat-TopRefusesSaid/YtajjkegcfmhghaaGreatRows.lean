/-
  No cell of these rows narrows 'for every input' (looked for: loops, veiled, ifaces, maps, wideKeys, modest, calm, conditions, laid).
  DERIVED. THE GIVEN ROWS OF THIS SEAT. 3 by the template 'for every input the law returns true; each argument reads behind the call as it read before'; 0 by the template 'total and deterministic' (their statements: YtajjkegcfmhghaaGreatTotals.lean).
  GIVEN WITH THE SEED: the statements are not yours to turn. If you find one false, say at which input.
  Laid BY PROGRAM, IN A SANDBOX (cutbox-rows.mjs): the forced cells as the released guide's own fill.sh prints them over the translation 61ab1498872b9ca2… (all of the seat's roots in one cut). By AI agents, Wed Nov 11 2026. No macro, syntax, notation, axiom, sorry.
-/
import Derived.Test.YtajjkegcfmhghaaGreatChecked
import GoSem.Claim
import GoSem.ClaimJoined
import GoSem.ClaimMapViews
import Derived.JoinedTies
import Derived.KernelRfl
namespace Go.Proofs.YtajjkegcfmhghaaGreat
/- THE CELL 'sum', in the pinned program and in every row, IS THE sha256 OF THE DUMP (.gsa) THAT YtajjkegcfmhghaaGreatProg.lean LOADS. Nothing in Lean hashes anything: it is a label: what it is worth is what the hold of that sum in a sandbox is worth. -/
noncomputable def Tryz.pinned : Pinned := { name := "ytajjkegcfmhghaagreat", sum := "61ab1498872b9ca2a7e9e8fddc3e9c8c7a4e38603989074075c662695cd6b97e", checked := Tryz.checked }
namespace Rows
def none {H : Type} : Left H := { results := [], args := [] }

/-- 'afterimagetop.TopBetween': WHATEVER THE INPUT: true; the input reads as it did. -/
def topBetweenSpec : ChangeSpec := { name := "topBetween", fn := fun _ => fun
  | [d1, d2] => { results := [.lit (.bool true)], args := [d1, d2] }
  | _ => none }
def topBetweenRow : OpenClaim := { program := "ytajjkegcfmhghaagreat", sum := "61ab1498872b9ca2a7e9e8fddc3e9c8c7a4e38603989074075c662695cd6b97e", func := "afterimage/afterimagetop.TopBetween", spec := "topBetween", inPlace := ["slices.overlaps[afterimage/ring.one[afterimage/api.Snap]]"], unfollowed := true, recurses := true, named := ["math/bits.divideError", "math/bits.overflowError"], apart := false }
def TopBetweenSaid : Prop := topBetweenRow.holds Tryz.pinned (OpenSpec.ofChange topBetweenSpec)

/-- ITS FALSE NEIGHBOUR: 'it returns false'. Refute it at one input. -/
def topBetweenWrong : ChangeSpec := { name := "topBetween", fn := fun _ => fun
  | [d1, d2] => { results := [.lit (.bool false)], args := [d1, d2] }
  | _ => none }
def TopBetweenWrongFalsely : Prop := topBetweenRow.holds Tryz.pinned (OpenSpec.ofChange topBetweenWrong)

/-- 'afterimagetop.TopBases': WHATEVER THE INPUT: true; the input reads as it did. -/
def topBasesSpec : ChangeSpec := { name := "topBases", fn := fun _ => fun
  | [d1, d2, d3] => { results := [.lit (.bool true)], args := [d1, d2, d3] }
  | _ => none }
def topBasesRow : OpenClaim := { program := "ytajjkegcfmhghaagreat", sum := "61ab1498872b9ca2a7e9e8fddc3e9c8c7a4e38603989074075c662695cd6b97e", func := "afterimage/afterimagetop.TopBases", spec := "topBases", inPlace := ["slices.overlaps[afterimage/ring.one[afterimage/api.Snap]]"], unfollowed := true, recurses := true, named := ["math/bits.divideError", "math/bits.overflowError"], apart := false }
def TopBasesSaid : Prop := topBasesRow.holds Tryz.pinned (OpenSpec.ofChange topBasesSpec)

/-- ITS FALSE NEIGHBOUR: 'it returns false'. Refute it at one input. -/
def topBasesWrong : ChangeSpec := { name := "topBases", fn := fun _ => fun
  | [d1, d2, d3] => { results := [.lit (.bool false)], args := [d1, d2, d3] }
  | _ => none }
def TopBasesWrongFalsely : Prop := topBasesRow.holds Tryz.pinned (OpenSpec.ofChange topBasesWrong)

/-- 'afterimagetop.TopRefuses': WHATEVER THE INPUT: true; the input reads as it did. -/
def topRefusesSpec : ChangeSpec := { name := "topRefuses", fn := fun _ => fun
  | [d1, d2, d3] => { results := [.lit (.bool true)], args := [d1, d2, d3] }
  | _ => none }
def topRefusesRow : OpenClaim := { program := "ytajjkegcfmhghaagreat", sum := "61ab1498872b9ca2a7e9e8fddc3e9c8c7a4e38603989074075c662695cd6b97e", func := "afterimage/afterimagetop.TopRefuses", spec := "topRefuses", inPlace := ["slices.overlaps[afterimage/ring.one[afterimage/api.Snap]]"], unfollowed := true, recurses := true, named := ["math/bits.divideError", "math/bits.overflowError"], apart := false }
def TopRefusesSaid : Prop := topRefusesRow.holds Tryz.pinned (OpenSpec.ofChange topRefusesSpec)

/-- ITS FALSE NEIGHBOUR: 'it returns false'. Refute it at one input. -/
def topRefusesWrong : ChangeSpec := { name := "topRefuses", fn := fun _ => fun
  | [d1, d2, d3] => { results := [.lit (.bool false)], args := [d1, d2, d3] }
  | _ => none }
def TopRefusesWrongFalsely : Prop := topRefusesRow.holds Tryz.pinned (OpenSpec.ofChange topRefusesWrong)

/- THE SECOND FORM. 'bulk': how many values and letters a reading holds, each counted each time it is reached (what is shared counts as often as it is met; a slice's spare places count too). A statement '..UptoSaid' is the law's where the arguments, and the package variables that the reading takes, are together of bulk at most 1048576: NARROWER than '..Said'. Prove '..Said' where nothing that the law and all that it calls make is longer than what came in: it says more and counts as full. Else prove '..UptoSaid'. A law counts once. -/
mutual
def uptoBulk {H : Type} : DataW H → Nat
  | .lit (.string bytes) => bytes.length + 1
  | .lit _ => 1
  | .nil => 1
  | .ptr d => uptoBulk d + 1
  | .slice elems spare => uptoBulkAll elems + uptoBulkAll spare + 1
  | .agg parts => uptoBulkAll parts + 1
  | .iface _ d => uptoBulk d + 1
  | .map entries => uptoBulkEntries entries + 1
  | .held _ => 1
def uptoBulkAll {H : Type} : List (DataW H) → Nat
  | [] => 0
  | d :: r => uptoBulk d + uptoBulkAll r
def uptoBulkEntries {H : Type} : List (Lit × DataW H) → Nat
  | [] => 0
  | x :: r => uptoBulkEntry x + uptoBulkEntries r
def uptoBulkEntry {H : Type} : Lit × DataW H → Nat
  | (.string bytes, d) => bytes.length + uptoBulk d + 1
  | (_, d) => uptoBulk d + 1
 end
def uptoSmall : (H : Type) → List (DataW H) → Bool := fun _ ds => decide (uptoBulkAll ds ≤ 1048576)
def OpenSpec.upto (s : _root_.Go.ChangeSpec) : _root_.Go.OpenSpec := { _root_.Go.OpenSpec.ofChange s with cond := some uptoSmall }

/-- 'afterimagetop.TopBetween', WHERE WHAT IT READS IS OF BULK AT MOST 1048576: true; the input reads as it did. -/
def topBetweenUptoRow : OpenClaim := { program := "ytajjkegcfmhghaagreat", sum := "61ab1498872b9ca2a7e9e8fddc3e9c8c7a4e38603989074075c662695cd6b97e", func := "afterimage/afterimagetop.TopBetween", spec := "topBetween", inPlace := ["slices.overlaps[afterimage/ring.one[afterimage/api.Snap]]"], unfollowed := true, recurses := true, named := ["math/bits.divideError", "math/bits.overflowError"], apart := false, narrowed := true }
def TopBetweenUptoSaid : Prop := topBetweenUptoRow.holds Tryz.pinned (OpenSpec.upto topBetweenSpec)

/-- 'afterimagetop.TopBases', WHERE WHAT IT READS IS OF BULK AT MOST 1048576: true; the input reads as it did. -/
def topBasesUptoRow : OpenClaim := { program := "ytajjkegcfmhghaagreat", sum := "61ab1498872b9ca2a7e9e8fddc3e9c8c7a4e38603989074075c662695cd6b97e", func := "afterimage/afterimagetop.TopBases", spec := "topBases", inPlace := ["slices.overlaps[afterimage/ring.one[afterimage/api.Snap]]"], unfollowed := true, recurses := true, named := ["math/bits.divideError", "math/bits.overflowError"], apart := false, narrowed := true }
def TopBasesUptoSaid : Prop := topBasesUptoRow.holds Tryz.pinned (OpenSpec.upto topBasesSpec)

/-- 'afterimagetop.TopRefuses', WHERE WHAT IT READS IS OF BULK AT MOST 1048576: true; the input reads as it did. -/
def topRefusesUptoRow : OpenClaim := { program := "ytajjkegcfmhghaagreat", sum := "61ab1498872b9ca2a7e9e8fddc3e9c8c7a4e38603989074075c662695cd6b97e", func := "afterimage/afterimagetop.TopRefuses", spec := "topRefuses", inPlace := ["slices.overlaps[afterimage/ring.one[afterimage/api.Snap]]"], unfollowed := true, recurses := true, named := ["math/bits.divideError", "math/bits.overflowError"], apart := false, narrowed := true }
def TopRefusesUptoSaid : Prop := topRefusesUptoRow.holds Tryz.pinned (OpenSpec.upto topRefusesSpec)

end Rows
end Go.Proofs.YtajjkegcfmhghaaGreat
