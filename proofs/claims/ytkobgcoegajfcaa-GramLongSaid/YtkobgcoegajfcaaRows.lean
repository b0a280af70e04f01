/-
  No cell of these rows narrows 'for every input' (looked for: loops, veiled, ifaces, maps, wideKeys, modest, calm, conditions, laid).
  DERIVED. THE GIVEN ROWS OF THIS SEAT. 15 by the template 'for every input the law returns true; each argument reads behind the call as it read before'; 0 by the template 'total and deterministic' (their statements: YtkobgcoegajfcaaTotals.lean).
  GIVEN WITH THE SEED: the statements are not yours to turn. If you find one false, say at which input.
  Laid BY PROGRAM, IN A SANDBOX (cutbox-rows.mjs): the forced cells as the released guide's own fill.sh prints them over the translation 7fb93981b3d6352c… (all of the seat's roots in one cut). By AI agents, Wed Nov 11 2026. No macro, syntax, notation, axiom, sorry.
-/
import Derived.Test.YtkobgcoegajfcaaChecked
import GoSem.Claim
import GoSem.ClaimJoined
import GoSem.ClaimMapViews
import Derived.JoinedTies
import Derived.KernelRfl
namespace Go.Proofs.Ytkobgcoegajfcaa
/- THE CELL 'sum', in the pinned program and in every row, IS THE sha256 OF THE DUMP (.gsa) THAT YtkobgcoegajfcaaProg.lean LOADS. Nothing in Lean hashes anything: it is a label: what it is worth is what the hold of that sum in a sandbox is worth. -/
noncomputable def Try.pinned : Pinned := { name := "ytkobgcoegajfcaa", sum := "7fb93981b3d6352cd74f5229bf7d8ce6e64e2b6e605ca1403bfdbccf0adca41e", checked := Try.checked }
namespace Rows
def none {H : Type} : Left H := { results := [], args := [] }

/-- 'afterimagelaw08.RecordWrites': WHATEVER THE INPUT: true; the input reads as it did. -/
def recordWritesSpec : ChangeSpec := { name := "recordWrites", fn := fun _ => fun
  | [d1, d2] => { results := [.lit (.bool true)], args := [d1, d2] }
  | _ => none }
def recordWritesRow : OpenClaim := { program := "ytkobgcoegajfcaa", sum := "7fb93981b3d6352cd74f5229bf7d8ce6e64e2b6e605ca1403bfdbccf0adca41e", func := "afterimage/afterimagelaw08.RecordWrites", spec := "recordWrites", unfollowed := true, recurses := true, apart := false }
def RecordWritesSaid : Prop := recordWritesRow.holds Try.pinned (OpenSpec.ofChange recordWritesSpec)

/-- ITS FALSE NEIGHBOUR: 'it returns false'. Refute it at one input. -/
def recordWritesWrong : ChangeSpec := { name := "recordWrites", fn := fun _ => fun
  | [d1, d2] => { results := [.lit (.bool false)], args := [d1, d2] }
  | _ => none }
def RecordWritesWrongFalsely : Prop := recordWritesRow.holds Try.pinned (OpenSpec.ofChange recordWritesWrong)

/-- 'afterimagelaw08.RecordSizes': WHATEVER THE INPUT: true; the input reads as it did. -/
def recordSizesSpec : ChangeSpec := { name := "recordSizes", fn := fun _ => fun
  | [d1, d2] => { results := [.lit (.bool true)], args := [d1, d2] }
  | _ => none }
def recordSizesRow : OpenClaim := { program := "ytkobgcoegajfcaa", sum := "7fb93981b3d6352cd74f5229bf7d8ce6e64e2b6e605ca1403bfdbccf0adca41e", func := "afterimage/afterimagelaw08.RecordSizes", spec := "recordSizes", unfollowed := true, recurses := true, apart := false }
def RecordSizesSaid : Prop := recordSizesRow.holds Try.pinned (OpenSpec.ofChange recordSizesSpec)

/-- ITS FALSE NEIGHBOUR: 'it returns false'. Refute it at one input. -/
def recordSizesWrong : ChangeSpec := { name := "recordSizes", fn := fun _ => fun
  | [d1, d2] => { results := [.lit (.bool false)], args := [d1, d2] }
  | _ => none }
def RecordSizesWrongFalsely : Prop := recordSizesRow.holds Try.pinned (OpenSpec.ofChange recordSizesWrong)

/-- 'afterimagelaw08.RecordReads': WHATEVER THE INPUT: true; the input reads as it did. -/
def recordReadsSpec : ChangeSpec := { name := "recordReads", fn := fun _ => fun
  | [d1, d2] => { results := [.lit (.bool true)], args := [d1, d2] }
  | _ => none }
def recordReadsRow : OpenClaim := { program := "ytkobgcoegajfcaa", sum := "7fb93981b3d6352cd74f5229bf7d8ce6e64e2b6e605ca1403bfdbccf0adca41e", func := "afterimage/afterimagelaw08.RecordReads", spec := "recordReads", unfollowed := true, recurses := true, apart := false }
def RecordReadsSaid : Prop := recordReadsRow.holds Try.pinned (OpenSpec.ofChange recordReadsSpec)

/-- ITS FALSE NEIGHBOUR: 'it returns false'. Refute it at one input. -/
def recordReadsWrong : ChangeSpec := { name := "recordReads", fn := fun _ => fun
  | [d1, d2] => { results := [.lit (.bool false)], args := [d1, d2] }
  | _ => none }
def RecordReadsWrongFalsely : Prop := recordReadsRow.holds Try.pinned (OpenSpec.ofChange recordReadsWrong)

/-- 'afterimagelaw08.RecordBack': WHATEVER THE INPUT: true; the input reads as it did. -/
def recordBackSpec : ChangeSpec := { name := "recordBack", fn := fun _ => fun
  | [d1, d2, d3] => { results := [.lit (.bool true)], args := [d1, d2, d3] }
  | _ => none }
def recordBackRow : OpenClaim := { program := "ytkobgcoegajfcaa", sum := "7fb93981b3d6352cd74f5229bf7d8ce6e64e2b6e605ca1403bfdbccf0adca41e", func := "afterimage/afterimagelaw08.RecordBack", spec := "recordBack", unfollowed := true, recurses := true, apart := false }
def RecordBackSaid : Prop := recordBackRow.holds Try.pinned (OpenSpec.ofChange recordBackSpec)

/-- ITS FALSE NEIGHBOUR: 'it returns false'. Refute it at one input. -/
def recordBackWrong : ChangeSpec := { name := "recordBack", fn := fun _ => fun
  | [d1, d2, d3] => { results := [.lit (.bool false)], args := [d1, d2, d3] }
  | _ => none }
def RecordBackWrongFalsely : Prop := recordBackRow.holds Try.pinned (OpenSpec.ofChange recordBackWrong)

/-- 'afterimagelaw08.RecordOne': WHATEVER THE INPUT: true; the input reads as it did. -/
def recordOneSpec : ChangeSpec := { name := "recordOne", fn := fun _ => fun
  | [d1, d2] => { results := [.lit (.bool true)], args := [d1, d2] }
  | _ => none }
def recordOneRow : OpenClaim := { program := "ytkobgcoegajfcaa", sum := "7fb93981b3d6352cd74f5229bf7d8ce6e64e2b6e605ca1403bfdbccf0adca41e", func := "afterimage/afterimagelaw08.RecordOne", spec := "recordOne", unfollowed := true, recurses := true, apart := false }
def RecordOneSaid : Prop := recordOneRow.holds Try.pinned (OpenSpec.ofChange recordOneSpec)

/-- ITS FALSE NEIGHBOUR: 'it returns false'. Refute it at one input. -/
def recordOneWrong : ChangeSpec := { name := "recordOne", fn := fun _ => fun
  | [d1, d2] => { results := [.lit (.bool false)], args := [d1, d2] }
  | _ => none }
def RecordOneWrongFalsely : Prop := recordOneRow.holds Try.pinned (OpenSpec.ofChange recordOneWrong)

/-- 'afterimagelaw08.RecordApplies': WHATEVER THE INPUT: true; the input reads as it did. -/
def recordAppliesSpec : ChangeSpec := { name := "recordApplies", fn := fun _ => fun
  | [d1, d2, d3] => { results := [.lit (.bool true)], args := [d1, d2, d3] }
  | _ => none }
def recordAppliesRow : OpenClaim := { program := "ytkobgcoegajfcaa", sum := "7fb93981b3d6352cd74f5229bf7d8ce6e64e2b6e605ca1403bfdbccf0adca41e", func := "afterimage/afterimagelaw08.RecordApplies", spec := "recordApplies", unfollowed := true, recurses := true, apart := false }
def RecordAppliesSaid : Prop := recordAppliesRow.holds Try.pinned (OpenSpec.ofChange recordAppliesSpec)

/-- ITS FALSE NEIGHBOUR: 'it returns false'. Refute it at one input. -/
def recordAppliesWrong : ChangeSpec := { name := "recordApplies", fn := fun _ => fun
  | [d1, d2, d3] => { results := [.lit (.bool false)], args := [d1, d2, d3] }
  | _ => none }
def RecordAppliesWrongFalsely : Prop := recordAppliesRow.holds Try.pinned (OpenSpec.ofChange recordAppliesWrong)

/-- 'afterimagelaw08.RecordMakes': WHATEVER THE INPUT: true; the input reads as it did. -/
def recordMakesSpec : ChangeSpec := { name := "recordMakes", fn := fun _ => fun
  | [d1, d2, d3] => { results := [.lit (.bool true)], args := [d1, d2, d3] }
  | _ => none }
def recordMakesRow : OpenClaim := { program := "ytkobgcoegajfcaa", sum := "7fb93981b3d6352cd74f5229bf7d8ce6e64e2b6e605ca1403bfdbccf0adca41e", func := "afterimage/afterimagelaw08.RecordMakes", spec := "recordMakes", unfollowed := true, recurses := true, apart := false }
def RecordMakesSaid : Prop := recordMakesRow.holds Try.pinned (OpenSpec.ofChange recordMakesSpec)

/-- ITS FALSE NEIGHBOUR: 'it returns false'. Refute it at one input. -/
def recordMakesWrong : ChangeSpec := { name := "recordMakes", fn := fun _ => fun
  | [d1, d2, d3] => { results := [.lit (.bool false)], args := [d1, d2, d3] }
  | _ => none }
def RecordMakesWrongFalsely : Prop := recordMakesRow.holds Try.pinned (OpenSpec.ofChange recordMakesWrong)

/-- 'afterimagelaw08.RecordSteps': WHATEVER THE INPUT: true; the input reads as it did. -/
def recordStepsSpec : ChangeSpec := { name := "recordSteps", fn := fun _ => fun
  | [d1, d2, d3] => { results := [.lit (.bool true)], args := [d1, d2, d3] }
  | _ => none }
def recordStepsRow : OpenClaim := { program := "ytkobgcoegajfcaa", sum := "7fb93981b3d6352cd74f5229bf7d8ce6e64e2b6e605ca1403bfdbccf0adca41e", func := "afterimage/afterimagelaw08.RecordSteps", spec := "recordSteps", unfollowed := true, recurses := true, apart := false }
def RecordStepsSaid : Prop := recordStepsRow.holds Try.pinned (OpenSpec.ofChange recordStepsSpec)

/-- ITS FALSE NEIGHBOUR: 'it returns false'. Refute it at one input. -/
def recordStepsWrong : ChangeSpec := { name := "recordSteps", fn := fun _ => fun
  | [d1, d2, d3] => { results := [.lit (.bool false)], args := [d1, d2, d3] }
  | _ => none }
def RecordStepsWrongFalsely : Prop := recordStepsRow.holds Try.pinned (OpenSpec.ofChange recordStepsWrong)

/-- 'afterimagelaw08.RecordRow': WHATEVER THE INPUT: true; the input reads as it did. -/
def recordRowSpec : ChangeSpec := { name := "recordRow", fn := fun _ => fun
  | [d] => { results := [.lit (.bool true)], args := [d] }
  | _ => none }
def recordRowRow : OpenClaim := { program := "ytkobgcoegajfcaa", sum := "7fb93981b3d6352cd74f5229bf7d8ce6e64e2b6e605ca1403bfdbccf0adca41e", func := "afterimage/afterimagelaw08.RecordRow", spec := "recordRow", unfollowed := true, recurses := true, apart := false }
def RecordRowSaid : Prop := recordRowRow.holds Try.pinned (OpenSpec.ofChange recordRowSpec)

/-- ITS FALSE NEIGHBOUR: 'it returns false'. Refute it at one input. -/
def recordRowWrong : ChangeSpec := { name := "recordRow", fn := fun _ => fun
  | [d] => { results := [.lit (.bool false)], args := [d] }
  | _ => none }
def RecordRowWrongFalsely : Prop := recordRowRow.holds Try.pinned (OpenSpec.ofChange recordRowWrong)

/-- 'afterimagelaw09.GramParts': WHATEVER THE INPUT: true; the input reads as it did. -/
def gramPartsSpec : ChangeSpec := { name := "gramParts", fn := fun _ => fun
  | [d] => { results := [.lit (.bool true)], args := [d] }
  | _ => none }
def gramPartsRow : OpenClaim := { program := "ytkobgcoegajfcaa", sum := "7fb93981b3d6352cd74f5229bf7d8ce6e64e2b6e605ca1403bfdbccf0adca41e", func := "afterimage/afterimagelaw09.GramParts", spec := "gramParts", unfollowed := true, recurses := true, apart := false }
def GramPartsSaid : Prop := gramPartsRow.holds Try.pinned (OpenSpec.ofChange gramPartsSpec)

/-- ITS FALSE NEIGHBOUR: 'it returns false'. Refute it at one input. -/
def gramPartsWrong : ChangeSpec := { name := "gramParts", fn := fun _ => fun
  | [d] => { results := [.lit (.bool false)], args := [d] }
  | _ => none }
def GramPartsWrongFalsely : Prop := gramPartsRow.holds Try.pinned (OpenSpec.ofChange gramPartsWrong)

/-- 'afterimagelaw09.GramWrites': WHATEVER THE INPUT: true; the input reads as it did. -/
def gramWritesSpec : ChangeSpec := { name := "gramWrites", fn := fun _ => fun
  | [d] => { results := [.lit (.bool true)], args := [d] }
  | _ => none }
def gramWritesRow : OpenClaim := { program := "ytkobgcoegajfcaa", sum := "7fb93981b3d6352cd74f5229bf7d8ce6e64e2b6e605ca1403bfdbccf0adca41e", func := "afterimage/afterimagelaw09.GramWrites", spec := "gramWrites", unfollowed := true, recurses := true, apart := false }
def GramWritesSaid : Prop := gramWritesRow.holds Try.pinned (OpenSpec.ofChange gramWritesSpec)

/-- ITS FALSE NEIGHBOUR: 'it returns false'. Refute it at one input. -/
def gramWritesWrong : ChangeSpec := { name := "gramWrites", fn := fun _ => fun
  | [d] => { results := [.lit (.bool false)], args := [d] }
  | _ => none }
def GramWritesWrongFalsely : Prop := gramWritesRow.holds Try.pinned (OpenSpec.ofChange gramWritesWrong)

/-- 'afterimagelaw09.GramReads': WHATEVER THE INPUT: true; the input reads as it did. -/
def gramReadsSpec : ChangeSpec := { name := "gramReads", fn := fun _ => fun
  | [d] => { results := [.lit (.bool true)], args := [d] }
  | _ => none }
def gramReadsRow : OpenClaim := { program := "ytkobgcoegajfcaa", sum := "7fb93981b3d6352cd74f5229bf7d8ce6e64e2b6e605ca1403bfdbccf0adca41e", func := "afterimage/afterimagelaw09.GramReads", spec := "gramReads", unfollowed := true, recurses := true, apart := false }
def GramReadsSaid : Prop := gramReadsRow.holds Try.pinned (OpenSpec.ofChange gramReadsSpec)

/-- ITS FALSE NEIGHBOUR: 'it returns false'. Refute it at one input. -/
def gramReadsWrong : ChangeSpec := { name := "gramReads", fn := fun _ => fun
  | [d] => { results := [.lit (.bool false)], args := [d] }
  | _ => none }
def GramReadsWrongFalsely : Prop := gramReadsRow.holds Try.pinned (OpenSpec.ofChange gramReadsWrong)

/-- 'afterimagelaw09.GramBack': WHATEVER THE INPUT: true; the input reads as it did. -/
def gramBackSpec : ChangeSpec := { name := "gramBack", fn := fun _ => fun
  | [d1, d2] => { results := [.lit (.bool true)], args := [d1, d2] }
  | _ => none }
def gramBackRow : OpenClaim := { program := "ytkobgcoegajfcaa", sum := "7fb93981b3d6352cd74f5229bf7d8ce6e64e2b6e605ca1403bfdbccf0adca41e", func := "afterimage/afterimagelaw09.GramBack", spec := "gramBack", unfollowed := true, recurses := true, apart := false }
def GramBackSaid : Prop := gramBackRow.holds Try.pinned (OpenSpec.ofChange gramBackSpec)

/-- ITS FALSE NEIGHBOUR: 'it returns false'. Refute it at one input. -/
def gramBackWrong : ChangeSpec := { name := "gramBack", fn := fun _ => fun
  | [d1, d2] => { results := [.lit (.bool false)], args := [d1, d2] }
  | _ => none }
def GramBackWrongFalsely : Prop := gramBackRow.holds Try.pinned (OpenSpec.ofChange gramBackWrong)

/-- 'afterimagelaw09.GramLong': WHATEVER THE INPUT: true; the input reads as it did. -/
def gramLongSpec : ChangeSpec := { name := "gramLong", fn := fun _ => fun
  | [d1, d2] => { results := [.lit (.bool true)], args := [d1, d2] }
  | _ => none }
def gramLongRow : OpenClaim := { program := "ytkobgcoegajfcaa", sum := "7fb93981b3d6352cd74f5229bf7d8ce6e64e2b6e605ca1403bfdbccf0adca41e", func := "afterimage/afterimagelaw09.GramLong", spec := "gramLong", unfollowed := true, recurses := true, apart := false }
def GramLongSaid : Prop := gramLongRow.holds Try.pinned (OpenSpec.ofChange gramLongSpec)

/-- ITS FALSE NEIGHBOUR: 'it returns false'. Refute it at one input. -/
def gramLongWrong : ChangeSpec := { name := "gramLong", fn := fun _ => fun
  | [d1, d2] => { results := [.lit (.bool false)], args := [d1, d2] }
  | _ => none }
def GramLongWrongFalsely : Prop := gramLongRow.holds Try.pinned (OpenSpec.ofChange gramLongWrong)

/-- 'afterimagelaw09.GramOne': WHATEVER THE INPUT: true; the input reads as it did. -/
def gramOneSpec : ChangeSpec := { name := "gramOne", fn := fun _ => fun
  | [d] => { results := [.lit (.bool true)], args := [d] }
  | _ => none }
def gramOneRow : OpenClaim := { program := "ytkobgcoegajfcaa", sum := "7fb93981b3d6352cd74f5229bf7d8ce6e64e2b6e605ca1403bfdbccf0adca41e", func := "afterimage/afterimagelaw09.GramOne", spec := "gramOne", unfollowed := true, recurses := true, apart := false }
def GramOneSaid : Prop := gramOneRow.holds Try.pinned (OpenSpec.ofChange gramOneSpec)

/-- ITS FALSE NEIGHBOUR: 'it returns false'. Refute it at one input. -/
def gramOneWrong : ChangeSpec := { name := "gramOne", fn := fun _ => fun
  | [d] => { results := [.lit (.bool false)], args := [d] }
  | _ => none }
def GramOneWrongFalsely : Prop := gramOneRow.holds Try.pinned (OpenSpec.ofChange gramOneWrong)

/- THE SECOND FORM. 'bulk': how many values and letters a reading holds, each counted each time it is reached (what is shared counts as often as it is met; a slice's spare places count too). A statement '..UptoSaid' is the law's where the arguments, and the package variables that the reading takes, are together of bulk at most 1048576: NARROWER than '..Said'. Prove '..Said' where nothing that the law and all that it calls make is longer than what came in: it says more and counts as full. Else prove '..UptoSaid'. A law counts once. -/
mutual
def uptoBulk {H : Type} : DataW H → Nat
  | .lit (.string bytes) => bytes.length + 1
  | .lit _ => 1
  | .nil => 1
  | .ptr d => uptoBulk d + 1
  | .slice elems spare => uptoBulkAll elems + uptoBulkAll spare + 1
  | .agg parts => uptoBulkAll parts + 1
  | .iface _ d => uptoBulk d + 1
  | .map entries => uptoBulkEntries entries + 1
  | .held _ => 1
def uptoBulkAll {H : Type} : List (DataW H) → Nat
  | [] => 0
  | d :: r => uptoBulk d + uptoBulkAll r
def uptoBulkEntries {H : Type} : List (Lit × DataW H) → Nat
  | [] => 0
  | x :: r => uptoBulkEntry x + uptoBulkEntries r
def uptoBulkEntry {H : Type} : Lit × DataW H → Nat
  | (.string bytes, d) => bytes.length + uptoBulk d + 1
  | (_, d) => uptoBulk d + 1
 end
def uptoSmall : (H : Type) → List (DataW H) → Bool := fun _ ds => decide (uptoBulkAll ds ≤ 1048576)
def OpenSpec.upto (s : _root_.Go.ChangeSpec) : _root_.Go.OpenSpec := { _root_.Go.OpenSpec.ofChange s with cond := some uptoSmall }

/-- 'afterimagelaw08.RecordWrites', WHERE WHAT IT READS IS OF BULK AT MOST 1048576: true; the input reads as it did. -/
def recordWritesUptoRow : OpenClaim := { program := "ytkobgcoegajfcaa", sum := "7fb93981b3d6352cd74f5229bf7d8ce6e64e2b6e605ca1403bfdbccf0adca41e", func := "afterimage/afterimagelaw08.RecordWrites", spec := "recordWrites", unfollowed := true, recurses := true, apart := false, narrowed := true }
def RecordWritesUptoSaid : Prop := recordWritesUptoRow.holds Try.pinned (OpenSpec.upto recordWritesSpec)

/-- 'afterimagelaw08.RecordSizes', WHERE WHAT IT READS IS OF BULK AT MOST 1048576: true; the input reads as it did. -/
def recordSizesUptoRow : OpenClaim := { program := "ytkobgcoegajfcaa", sum := "7fb93981b3d6352cd74f5229bf7d8ce6e64e2b6e605ca1403bfdbccf0adca41e", func := "afterimage/afterimagelaw08.RecordSizes", spec := "recordSizes", unfollowed := true, recurses := true, apart := false, narrowed := true }
def RecordSizesUptoSaid : Prop := recordSizesUptoRow.holds Try.pinned (OpenSpec.upto recordSizesSpec)

/-- 'afterimagelaw08.RecordReads', WHERE WHAT IT READS IS OF BULK AT MOST 1048576: true; the input reads as it did. -/
def recordReadsUptoRow : OpenClaim := { program := "ytkobgcoegajfcaa", sum := "7fb93981b3d6352cd74f5229bf7d8ce6e64e2b6e605ca1403bfdbccf0adca41e", func := "afterimage/afterimagelaw08.RecordReads", spec := "recordReads", unfollowed := true, recurses := true, apart := false, narrowed := true }
def RecordReadsUptoSaid : Prop := recordReadsUptoRow.holds Try.pinned (OpenSpec.upto recordReadsSpec)

/-- 'afterimagelaw08.RecordBack', WHERE WHAT IT READS IS OF BULK AT MOST 1048576: true; the input reads as it did. -/
def recordBackUptoRow : OpenClaim := { program := "ytkobgcoegajfcaa", sum := "7fb93981b3d6352cd74f5229bf7d8ce6e64e2b6e605ca1403bfdbccf0adca41e", func := "afterimage/afterimagelaw08.RecordBack", spec := "recordBack", unfollowed := true, recurses := true, apart := false, narrowed := true }
def RecordBackUptoSaid : Prop := recordBackUptoRow.holds Try.pinned (OpenSpec.upto recordBackSpec)

/-- 'afterimagelaw08.RecordOne', WHERE WHAT IT READS IS OF BULK AT MOST 1048576: true; the input reads as it did. -/
def recordOneUptoRow : OpenClaim := { program := "ytkobgcoegajfcaa", sum := "7fb93981b3d6352cd74f5229bf7d8ce6e64e2b6e605ca1403bfdbccf0adca41e", func := "afterimage/afterimagelaw08.RecordOne", spec := "recordOne", unfollowed := true, recurses := true, apart := false, narrowed := true }
def RecordOneUptoSaid : Prop := recordOneUptoRow.holds Try.pinned (OpenSpec.upto recordOneSpec)

/-- 'afterimagelaw08.RecordApplies', WHERE WHAT IT READS IS OF BULK AT MOST 1048576: true; the input reads as it did. -/
def recordAppliesUptoRow : OpenClaim := { program := "ytkobgcoegajfcaa", sum := "7fb93981b3d6352cd74f5229bf7d8ce6e64e2b6e605ca1403bfdbccf0adca41e", func := "afterimage/afterimagelaw08.RecordApplies", spec := "recordApplies", unfollowed := true, recurses := true, apart := false, narrowed := true }
def RecordAppliesUptoSaid : Prop := recordAppliesUptoRow.holds Try.pinned (OpenSpec.upto recordAppliesSpec)

/-- 'afterimagelaw08.RecordMakes', WHERE WHAT IT READS IS OF BULK AT MOST 1048576: true; the input reads as it did. -/
def recordMakesUptoRow : OpenClaim := { program := "ytkobgcoegajfcaa", sum := "7fb93981b3d6352cd74f5229bf7d8ce6e64e2b6e605ca1403bfdbccf0adca41e", func := "afterimage/afterimagelaw08.RecordMakes", spec := "recordMakes", unfollowed := true, recurses := true, apart := false, narrowed := true }
def RecordMakesUptoSaid : Prop := recordMakesUptoRow.holds Try.pinned (OpenSpec.upto recordMakesSpec)

/-- 'afterimagelaw08.RecordSteps', WHERE WHAT IT READS IS OF BULK AT MOST 1048576: true; the input reads as it did. -/
def recordStepsUptoRow : OpenClaim := { program := "ytkobgcoegajfcaa", sum := "7fb93981b3d6352cd74f5229bf7d8ce6e64e2b6e605ca1403bfdbccf0adca41e", func := "afterimage/afterimagelaw08.RecordSteps", spec := "recordSteps", unfollowed := true, recurses := true, apart := false, narrowed := true }
def RecordStepsUptoSaid : Prop := recordStepsUptoRow.holds Try.pinned (OpenSpec.upto recordStepsSpec)

/-- 'afterimagelaw08.RecordRow', WHERE WHAT IT READS IS OF BULK AT MOST 1048576: true; the input reads as it did. -/
def recordRowUptoRow : OpenClaim := { program := "ytkobgcoegajfcaa", sum := "7fb93981b3d6352cd74f5229bf7d8ce6e64e2b6e605ca1403bfdbccf0adca41e", func := "afterimage/afterimagelaw08.RecordRow", spec := "recordRow", unfollowed := true, recurses := true, apart := false, narrowed := true }
def RecordRowUptoSaid : Prop := recordRowUptoRow.holds Try.pinned (OpenSpec.upto recordRowSpec)

/-- 'afterimagelaw09.GramParts', WHERE WHAT IT READS IS OF BULK AT MOST 1048576: true; the input reads as it did. -/
def gramPartsUptoRow : OpenClaim := { program := "ytkobgcoegajfcaa", sum := "7fb93981b3d6352cd74f5229bf7d8ce6e64e2b6e605ca1403bfdbccf0adca41e", func := "afterimage/afterimagelaw09.GramParts", spec := "gramParts", unfollowed := true, recurses := true, apart := false, narrowed := true }
def GramPartsUptoSaid : Prop := gramPartsUptoRow.holds Try.pinned (OpenSpec.upto gramPartsSpec)

/-- 'afterimagelaw09.GramWrites', WHERE WHAT IT READS IS OF BULK AT MOST 1048576: true; the input reads as it did. -/
def gramWritesUptoRow : OpenClaim := { program := "ytkobgcoegajfcaa", sum := "7fb93981b3d6352cd74f5229bf7d8ce6e64e2b6e605ca1403bfdbccf0adca41e", func := "afterimage/afterimagelaw09.GramWrites", spec := "gramWrites", unfollowed := true, recurses := true, apart := false, narrowed := true }
def GramWritesUptoSaid : Prop := gramWritesUptoRow.holds Try.pinned (OpenSpec.upto gramWritesSpec)

/-- 'afterimagelaw09.GramReads', WHERE WHAT IT READS IS OF BULK AT MOST 1048576: true; the input reads as it did. -/
def gramReadsUptoRow : OpenClaim := { program := "ytkobgcoegajfcaa", sum := "7fb93981b3d6352cd74f5229bf7d8ce6e64e2b6e605ca1403bfdbccf0adca41e", func := "afterimage/afterimagelaw09.GramReads", spec := "gramReads", unfollowed := true, recurses := true, apart := false, narrowed := true }
def GramReadsUptoSaid : Prop := gramReadsUptoRow.holds Try.pinned (OpenSpec.upto gramReadsSpec)

/-- 'afterimagelaw09.GramBack', WHERE WHAT IT READS IS OF BULK AT MOST 1048576: true; the input reads as it did. -/
def gramBackUptoRow : OpenClaim := { program := "ytkobgcoegajfcaa", sum := "7fb93981b3d6352cd74f5229bf7d8ce6e64e2b6e605ca1403bfdbccf0adca41e", func := "afterimage/afterimagelaw09.GramBack", spec := "gramBack", unfollowed := true, recurses := true, apart := false, narrowed := true }
def GramBackUptoSaid : Prop := gramBackUptoRow.holds Try.pinned (OpenSpec.upto gramBackSpec)

/-- 'afterimagelaw09.GramLong', WHERE WHAT IT READS IS OF BULK AT MOST 1048576: true; the input reads as it did. -/
def gramLongUptoRow : OpenClaim := { program := "ytkobgcoegajfcaa", sum := "7fb93981b3d6352cd74f5229bf7d8ce6e64e2b6e605ca1403bfdbccf0adca41e", func := "afterimage/afterimagelaw09.GramLong", spec := "gramLong", unfollowed := true, recurses := true, apart := false, narrowed := true }
def GramLongUptoSaid : Prop := gramLongUptoRow.holds Try.pinned (OpenSpec.upto gramLongSpec)

/-- 'afterimagelaw09.GramOne', WHERE WHAT IT READS IS OF BULK AT MOST 1048576: true; the input reads as it did. -/
def gramOneUptoRow : OpenClaim := { program := "ytkobgcoegajfcaa", sum := "7fb93981b3d6352cd74f5229bf7d8ce6e64e2b6e605ca1403bfdbccf0adca41e", func := "afterimage/afterimagelaw09.GramOne", spec := "gramOne", unfollowed := true, recurses := true, apart := false, narrowed := true }
def GramOneUptoSaid : Prop := gramOneUptoRow.holds Try.pinned (OpenSpec.upto gramOneSpec)

end Rows
end Go.Proofs.Ytkobgcoegajfcaa
