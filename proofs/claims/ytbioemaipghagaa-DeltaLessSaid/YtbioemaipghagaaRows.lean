/-
  No cell of these rows narrows 'for every input' (looked for: loops, veiled, ifaces, maps, wideKeys, modest, calm, conditions, laid).
  DERIVED. THE GIVEN ROWS OF THIS SEAT. 6 by the template 'for every input the law returns true; each argument reads behind the call as it read before'; 0 by the template 'total and deterministic' (their statements: YtbioemaipghagaaTotals.lean).
  GIVEN WITH THE SEED: the statements are not yours to turn. If you find one false, say at which input.
  Laid BY PROGRAM, IN A SANDBOX (cutbox-rows.mjs): the forced cells as the released guide's own fill.sh prints them over the translation 3126e4ccd57ab1b6… (all of the seat's roots in one cut). By AI agents, Wed Nov 11 2026. No macro, syntax, notation, axiom, sorry.
-/
import Derived.Test.YtbioemaipghagaaChecked
import GoSem.Claim
import GoSem.ClaimJoined
import GoSem.ClaimMapViews
import Derived.JoinedTies
import Derived.KernelRfl
namespace Go.Proofs.Ytbioemaipghagaa
/- THE CELL 'sum', in the pinned program and in every row, IS THE sha256 OF THE DUMP (.gsa) THAT YtbioemaipghagaaProg.lean LOADS. Nothing in Lean hashes anything: it is a label: what it is worth is what the hold of that sum in a sandbox is worth. -/
noncomputable def Try.pinned : Pinned := { name := "ytbioemaipghagaa", sum := "3126e4ccd57ab1b6614b102708bdf84a1d011d0a63e1605fa7fdd5556128d415", checked := Try.checked }
namespace Rows
def none {H : Type} : Left H := { results := [], args := [] }

/-- 'afterimagelaw10.DeltaApplies': WHATEVER THE INPUT: true; the input reads as it did. -/
def deltaAppliesSpec : ChangeSpec := { name := "deltaApplies", fn := fun _ => fun
  | [d1, d2] => { results := [.lit (.bool true)], args := [d1, d2] }
  | _ => none }
def deltaAppliesRow : OpenClaim := { program := "ytbioemaipghagaa", sum := "3126e4ccd57ab1b6614b102708bdf84a1d011d0a63e1605fa7fdd5556128d415", func := "afterimage/afterimagelaw10.DeltaApplies", spec := "deltaApplies", unfollowed := true, recurses := true, apart := false }
def DeltaAppliesSaid : Prop := deltaAppliesRow.holds Try.pinned (OpenSpec.ofChange deltaAppliesSpec)

/-- ITS FALSE NEIGHBOUR: 'it returns false'. Refute it at one input. -/
def deltaAppliesWrong : ChangeSpec := { name := "deltaApplies", fn := fun _ => fun
  | [d1, d2] => { results := [.lit (.bool false)], args := [d1, d2] }
  | _ => none }
def DeltaAppliesWrongFalsely : Prop := deltaAppliesRow.holds Try.pinned (OpenSpec.ofChange deltaAppliesWrong)

/-- 'afterimagelaw10.DeltaTwo': WHATEVER THE INPUT: true; the input reads as it did. -/
def deltaTwoSpec : ChangeSpec := { name := "deltaTwo", fn := fun _ => fun
  | [d1, d2, d3] => { results := [.lit (.bool true)], args := [d1, d2, d3] }
  | _ => none }
def deltaTwoRow : OpenClaim := { program := "ytbioemaipghagaa", sum := "3126e4ccd57ab1b6614b102708bdf84a1d011d0a63e1605fa7fdd5556128d415", func := "afterimage/afterimagelaw10.DeltaTwo", spec := "deltaTwo", unfollowed := true, recurses := true, apart := false }
def DeltaTwoSaid : Prop := deltaTwoRow.holds Try.pinned (OpenSpec.ofChange deltaTwoSpec)

/-- ITS FALSE NEIGHBOUR: 'it returns false'. Refute it at one input. -/
def deltaTwoWrong : ChangeSpec := { name := "deltaTwo", fn := fun _ => fun
  | [d1, d2, d3] => { results := [.lit (.bool false)], args := [d1, d2, d3] }
  | _ => none }
def DeltaTwoWrongFalsely : Prop := deltaTwoRow.holds Try.pinned (OpenSpec.ofChange deltaTwoWrong)

/-- 'afterimagelaw10.DeltaCuts': WHATEVER THE INPUT: true; the input reads as it did. -/
def deltaCutsSpec : ChangeSpec := { name := "deltaCuts", fn := fun _ => fun
  | [d1, d2] => { results := [.lit (.bool true)], args := [d1, d2] }
  | _ => none }
def deltaCutsRow : OpenClaim := { program := "ytbioemaipghagaa", sum := "3126e4ccd57ab1b6614b102708bdf84a1d011d0a63e1605fa7fdd5556128d415", func := "afterimage/afterimagelaw10.DeltaCuts", spec := "deltaCuts", unfollowed := true, recurses := true, apart := false }
def DeltaCutsSaid : Prop := deltaCutsRow.holds Try.pinned (OpenSpec.ofChange deltaCutsSpec)

/-- ITS FALSE NEIGHBOUR: 'it returns false'. Refute it at one input. -/
def deltaCutsWrong : ChangeSpec := { name := "deltaCuts", fn := fun _ => fun
  | [d1, d2] => { results := [.lit (.bool false)], args := [d1, d2] }
  | _ => none }
def DeltaCutsWrongFalsely : Prop := deltaCutsRow.holds Try.pinned (OpenSpec.ofChange deltaCutsWrong)

/-- 'afterimagelaw10.DeltaLess': WHATEVER THE INPUT: true; the input reads as it did. -/
def deltaLessSpec : ChangeSpec := { name := "deltaLess", fn := fun _ => fun
  | [d1, d2, d3] => { results := [.lit (.bool true)], args := [d1, d2, d3] }
  | _ => none }
def deltaLessRow : OpenClaim := { program := "ytbioemaipghagaa", sum := "3126e4ccd57ab1b6614b102708bdf84a1d011d0a63e1605fa7fdd5556128d415", func := "afterimage/afterimagelaw10.DeltaLess", spec := "deltaLess", unfollowed := true, recurses := true, apart := false }
def DeltaLessSaid : Prop := deltaLessRow.holds Try.pinned (OpenSpec.ofChange deltaLessSpec)

/-- ITS FALSE NEIGHBOUR: 'it returns false'. Refute it at one input. -/
def deltaLessWrong : ChangeSpec := { name := "deltaLess", fn := fun _ => fun
  | [d1, d2, d3] => { results := [.lit (.bool false)], args := [d1, d2, d3] }
  | _ => none }
def DeltaLessWrongFalsely : Prop := deltaLessRow.holds Try.pinned (OpenSpec.ofChange deltaLessWrong)

/-- 'afterimagelaw10.DeltaRecords': WHATEVER THE INPUT: true; the input reads as it did. -/
def deltaRecordsSpec : ChangeSpec := { name := "deltaRecords", fn := fun _ => fun
  | [d1, d2] => { results := [.lit (.bool true)], args := [d1, d2] }
  | _ => none }
def deltaRecordsRow : OpenClaim := { program := "ytbioemaipghagaa", sum := "3126e4ccd57ab1b6614b102708bdf84a1d011d0a63e1605fa7fdd5556128d415", func := "afterimage/afterimagelaw10.DeltaRecords", spec := "deltaRecords", unfollowed := true, recurses := true, apart := false }
def DeltaRecordsSaid : Prop := deltaRecordsRow.holds Try.pinned (OpenSpec.ofChange deltaRecordsSpec)

/-- ITS FALSE NEIGHBOUR: 'it returns false'. Refute it at one input. -/
def deltaRecordsWrong : ChangeSpec := { name := "deltaRecords", fn := fun _ => fun
  | [d1, d2] => { results := [.lit (.bool false)], args := [d1, d2] }
  | _ => none }
def DeltaRecordsWrongFalsely : Prop := deltaRecordsRow.holds Try.pinned (OpenSpec.ofChange deltaRecordsWrong)

/-- 'afterimagelaw10.DeltaDiffs': WHATEVER THE INPUT: true; the input reads as it did. -/
def deltaDiffsSpec : ChangeSpec := { name := "deltaDiffs", fn := fun _ => fun
  | [d1, d2, d3] => { results := [.lit (.bool true)], args := [d1, d2, d3] }
  | _ => none }
def deltaDiffsRow : OpenClaim := { program := "ytbioemaipghagaa", sum := "3126e4ccd57ab1b6614b102708bdf84a1d011d0a63e1605fa7fdd5556128d415", func := "afterimage/afterimagelaw10.DeltaDiffs", spec := "deltaDiffs", unfollowed := true, recurses := true, apart := false }
def DeltaDiffsSaid : Prop := deltaDiffsRow.holds Try.pinned (OpenSpec.ofChange deltaDiffsSpec)

/-- ITS FALSE NEIGHBOUR: 'it returns false'. Refute it at one input. -/
def deltaDiffsWrong : ChangeSpec := { name := "deltaDiffs", fn := fun _ => fun
  | [d1, d2, d3] => { results := [.lit (.bool false)], args := [d1, d2, d3] }
  | _ => none }
def DeltaDiffsWrongFalsely : Prop := deltaDiffsRow.holds Try.pinned (OpenSpec.ofChange deltaDiffsWrong)

/- THE SECOND FORM. 'bulk': how many values and letters a reading holds, each counted each time it is reached (what is shared counts as often as it is met; a slice's spare places count too). A statement '..UptoSaid' is the law's where the arguments, and the package variables that the reading takes, are together of bulk at most 1048576: NARROWER than '..Said'. Prove '..Said' where nothing that the law and all that it calls make is longer than what came in: it says more and counts as full. Else prove '..UptoSaid'. A law counts once. -/
mutual
def uptoBulk {H : Type} : DataW H → Nat
  | .lit (.string bytes) => bytes.length + 1
  | .lit _ => 1
  | .nil => 1
  | .ptr d => uptoBulk d + 1
  | .slice elems spare => uptoBulkAll elems + uptoBulkAll spare + 1
  | .agg parts => uptoBulkAll parts + 1
  | .iface _ d => uptoBulk d + 1
  | .map entries => uptoBulkEntries entries + 1
  | .held _ => 1
def uptoBulkAll {H : Type} : List (DataW H) → Nat
  | [] => 0
  | d :: r => uptoBulk d + uptoBulkAll r
def uptoBulkEntries {H : Type} : List (Lit × DataW H) → Nat
  | [] => 0
  | x :: r => uptoBulkEntry x + uptoBulkEntries r
def uptoBulkEntry {H : Type} : Lit × DataW H → Nat
  | (.string bytes, d) => bytes.length + uptoBulk d + 1
  | (_, d) => uptoBulk d + 1
 end
def uptoSmall : (H : Type) → List (DataW H) → Bool := fun _ ds => decide (uptoBulkAll ds ≤ 1048576)
def OpenSpec.upto (s : _root_.Go.ChangeSpec) : _root_.Go.OpenSpec := { _root_.Go.OpenSpec.ofChange s with cond := some uptoSmall }

/-- 'afterimagelaw10.DeltaApplies', WHERE WHAT IT READS IS OF BULK AT MOST 1048576: true; the input reads as it did. -/
def deltaAppliesUptoRow : OpenClaim := { program := "ytbioemaipghagaa", sum := "3126e4ccd57ab1b6614b102708bdf84a1d011d0a63e1605fa7fdd5556128d415", func := "afterimage/afterimagelaw10.DeltaApplies", spec := "deltaApplies", unfollowed := true, recurses := true, apart := false, narrowed := true }
def DeltaAppliesUptoSaid : Prop := deltaAppliesUptoRow.holds Try.pinned (OpenSpec.upto deltaAppliesSpec)

/-- 'afterimagelaw10.DeltaTwo', WHERE WHAT IT READS IS OF BULK AT MOST 1048576: true; the input reads as it did. -/
def deltaTwoUptoRow : OpenClaim := { program := "ytbioemaipghagaa", sum := "3126e4ccd57ab1b6614b102708bdf84a1d011d0a63e1605fa7fdd5556128d415", func := "afterimage/afterimagelaw10.DeltaTwo", spec := "deltaTwo", unfollowed := true, recurses := true, apart := false, narrowed := true }
def DeltaTwoUptoSaid : Prop := deltaTwoUptoRow.holds Try.pinned (OpenSpec.upto deltaTwoSpec)

/-- 'afterimagelaw10.DeltaCuts', WHERE WHAT IT READS IS OF BULK AT MOST 1048576: true; the input reads as it did. -/
def deltaCutsUptoRow : OpenClaim := { program := "ytbioemaipghagaa", sum := "3126e4ccd57ab1b6614b102708bdf84a1d011d0a63e1605fa7fdd5556128d415", func := "afterimage/afterimagelaw10.DeltaCuts", spec := "deltaCuts", unfollowed := true, recurses := true, apart := false, narrowed := true }
def DeltaCutsUptoSaid : Prop := deltaCutsUptoRow.holds Try.pinned (OpenSpec.upto deltaCutsSpec)

/-- 'afterimagelaw10.DeltaLess', WHERE WHAT IT READS IS OF BULK AT MOST 1048576: true; the input reads as it did. -/
def deltaLessUptoRow : OpenClaim := { program := "ytbioemaipghagaa", sum := "3126e4ccd57ab1b6614b102708bdf84a1d011d0a63e1605fa7fdd5556128d415", func := "afterimage/afterimagelaw10.DeltaLess", spec := "deltaLess", unfollowed := true, recurses := true, apart := false, narrowed := true }
def DeltaLessUptoSaid : Prop := deltaLessUptoRow.holds Try.pinned (OpenSpec.upto deltaLessSpec)

/-- 'afterimagelaw10.DeltaRecords', WHERE WHAT IT READS IS OF BULK AT MOST 1048576: true; the input reads as it did. -/
def deltaRecordsUptoRow : OpenClaim := { program := "ytbioemaipghagaa", sum := "3126e4ccd57ab1b6614b102708bdf84a1d011d0a63e1605fa7fdd5556128d415", func := "afterimage/afterimagelaw10.DeltaRecords", spec := "deltaRecords", unfollowed := true, recurses := true, apart := false, narrowed := true }
def DeltaRecordsUptoSaid : Prop := deltaRecordsUptoRow.holds Try.pinned (OpenSpec.upto deltaRecordsSpec)

/-- 'afterimagelaw10.DeltaDiffs', WHERE WHAT IT READS IS OF BULK AT MOST 1048576: true; the input reads as it did. -/
def deltaDiffsUptoRow : OpenClaim := { program := "ytbioemaipghagaa", sum := "3126e4ccd57ab1b6614b102708bdf84a1d011d0a63e1605fa7fdd5556128d415", func := "afterimage/afterimagelaw10.DeltaDiffs", spec := "deltaDiffs", unfollowed := true, recurses := true, apart := false, narrowed := true }
def DeltaDiffsUptoSaid : Prop := deltaDiffsUptoRow.holds Try.pinned (OpenSpec.upto deltaDiffsSpec)

end Rows
end Go.Proofs.Ytbioemaipghagaa
