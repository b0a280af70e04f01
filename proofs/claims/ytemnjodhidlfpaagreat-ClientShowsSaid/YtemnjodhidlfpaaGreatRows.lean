/-
  No cell of these rows narrows 'for every input' (looked for: loops, veiled, ifaces, maps, wideKeys, modest, calm, conditions, laid).
  DERIVED. THE GIVEN ROWS OF THIS SEAT. 5 by the template 'for every input the law returns true; each argument reads behind the call as it read before'; 0 by the template 'total and deterministic' (their statements: YtemnjodhidlfpaaGreatTotals.lean).
  GIVEN WITH THE SEED: the statements are not yours to turn. If you find one false, say at which input.
  Laid BY PROGRAM, IN A SANDBOX (cutbox-rows.mjs): the forced cells as the released guide's own fill.sh prints them over the translation b57d27ac19c3d2e5… (all of the seat's roots in one cut). By AI agents, Wed Nov 11 2026. No macro, syntax, notation, axiom, sorry.
-/
import Derived.Test.YtemnjodhidlfpaaGreatChecked
import GoSem.Claim
import GoSem.ClaimJoined
import GoSem.ClaimMapViews
import Derived.JoinedTies
import Derived.KernelRfl
namespace Go.Proofs.YtemnjodhidlfpaaGreat
/- THE CELL 'sum', in the pinned program and in every row, IS THE sha256 OF THE DUMP (.gsa) THAT YtemnjodhidlfpaaGreatProg.lean LOADS. Nothing in Lean hashes anything: it is a label: what it is worth is what the hold of that sum in a sandbox is worth. -/
noncomputable def Tryz.pinned : Pinned := { name := "ytemnjodhidlfpaagreat", sum := "b57d27ac19c3d2e5db6778e7fdd57931f2e8d598a0f0a6abb172e2c7ffa8b62a", checked := Tryz.checked }
namespace Rows
def none {H : Type} : Left H := { results := [], args := [] }

/-- 'afterimagelaw20.ClientShows': WHATEVER THE INPUT: true; the input reads as it did. -/
def clientShowsSpec : ChangeSpec := { name := "clientShows", fn := fun _ => fun
  | [d1, d2] => { results := [.lit (.bool true)], args := [d1, d2] }
  | _ => none }
def clientShowsRow : OpenClaim := { program := "ytemnjodhidlfpaagreat", sum := "b57d27ac19c3d2e5db6778e7fdd57931f2e8d598a0f0a6abb172e2c7ffa8b62a", func := "afterimage/afterimagelaw20.ClientShows", spec := "clientShows", inPlace := ["slices.overlaps[afterimage/ring.one[afterimage/api.Snap]]"], unfollowed := true, recurses := true, named := ["math/bits.divideError", "math/bits.overflowError"], apart := false }
def ClientShowsSaid : Prop := clientShowsRow.holds Tryz.pinned (OpenSpec.ofChange clientShowsSpec)

/-- ITS FALSE NEIGHBOUR: 'it returns false'. Refute it at one input. -/
def clientShowsWrong : ChangeSpec := { name := "clientShows", fn := fun _ => fun
  | [d1, d2] => { results := [.lit (.bool false)], args := [d1, d2] }
  | _ => none }
def ClientShowsWrongFalsely : Prop := clientShowsRow.holds Tryz.pinned (OpenSpec.ofChange clientShowsWrong)

/-- 'afterimagelaw20.ClientCounts': WHATEVER THE INPUT: true; the input reads as it did. -/
def clientCountsSpec : ChangeSpec := { name := "clientCounts", fn := fun _ => fun
  | [d1, d2] => { results := [.lit (.bool true)], args := [d1, d2] }
  | _ => none }
def clientCountsRow : OpenClaim := { program := "ytemnjodhidlfpaagreat", sum := "b57d27ac19c3d2e5db6778e7fdd57931f2e8d598a0f0a6abb172e2c7ffa8b62a", func := "afterimage/afterimagelaw20.ClientCounts", spec := "clientCounts", inPlace := ["slices.overlaps[afterimage/ring.one[afterimage/api.Snap]]"], unfollowed := true, recurses := true, named := ["math/bits.divideError", "math/bits.overflowError"], apart := false }
def ClientCountsSaid : Prop := clientCountsRow.holds Tryz.pinned (OpenSpec.ofChange clientCountsSpec)

/-- ITS FALSE NEIGHBOUR: 'it returns false'. Refute it at one input. -/
def clientCountsWrong : ChangeSpec := { name := "clientCounts", fn := fun _ => fun
  | [d1, d2] => { results := [.lit (.bool false)], args := [d1, d2] }
  | _ => none }
def ClientCountsWrongFalsely : Prop := clientCountsRow.holds Tryz.pinned (OpenSpec.ofChange clientCountsWrong)

/-- 'afterimagelaw20.ClientRefuses': WHATEVER THE INPUT: true; the input reads as it did. -/
def clientRefusesSpec : ChangeSpec := { name := "clientRefuses", fn := fun _ => fun
  | [d1, d2, d3] => { results := [.lit (.bool true)], args := [d1, d2, d3] }
  | _ => none }
def clientRefusesRow : OpenClaim := { program := "ytemnjodhidlfpaagreat", sum := "b57d27ac19c3d2e5db6778e7fdd57931f2e8d598a0f0a6abb172e2c7ffa8b62a", func := "afterimage/afterimagelaw20.ClientRefuses", spec := "clientRefuses", inPlace := ["slices.overlaps[afterimage/ring.one[afterimage/api.Snap]]"], unfollowed := true, recurses := true, named := ["math/bits.divideError", "math/bits.overflowError"], apart := false }
def ClientRefusesSaid : Prop := clientRefusesRow.holds Tryz.pinned (OpenSpec.ofChange clientRefusesSpec)

/-- ITS FALSE NEIGHBOUR: 'it returns false'. Refute it at one input. -/
def clientRefusesWrong : ChangeSpec := { name := "clientRefuses", fn := fun _ => fun
  | [d1, d2, d3] => { results := [.lit (.bool false)], args := [d1, d2, d3] }
  | _ => none }
def ClientRefusesWrongFalsely : Prop := clientRefusesRow.holds Tryz.pinned (OpenSpec.ofChange clientRefusesWrong)

/-- 'afterimagelaw20.ClientFrames': WHATEVER THE INPUT: true; the input reads as it did. -/
def clientFramesSpec : ChangeSpec := { name := "clientFrames", fn := fun _ => fun
  | [d1, d2] => { results := [.lit (.bool true)], args := [d1, d2] }
  | _ => none }
def clientFramesRow : OpenClaim := { program := "ytemnjodhidlfpaagreat", sum := "b57d27ac19c3d2e5db6778e7fdd57931f2e8d598a0f0a6abb172e2c7ffa8b62a", func := "afterimage/afterimagelaw20.ClientFrames", spec := "clientFrames", inPlace := ["slices.overlaps[afterimage/ring.one[afterimage/api.Snap]]"], unfollowed := true, recurses := true, named := ["math/bits.divideError", "math/bits.overflowError"], apart := false }
def ClientFramesSaid : Prop := clientFramesRow.holds Tryz.pinned (OpenSpec.ofChange clientFramesSpec)

/-- ITS FALSE NEIGHBOUR: 'it returns false'. Refute it at one input. -/
def clientFramesWrong : ChangeSpec := { name := "clientFrames", fn := fun _ => fun
  | [d1, d2] => { results := [.lit (.bool false)], args := [d1, d2] }
  | _ => none }
def ClientFramesWrongFalsely : Prop := clientFramesRow.holds Tryz.pinned (OpenSpec.ofChange clientFramesWrong)

/-- 'afterimagelaw20.ClientNone': WHATEVER THE INPUT: true; the input reads as it did. -/
def clientNoneSpec : ChangeSpec := { name := "clientNone", fn := fun _ => fun
  | [d1, d2] => { results := [.lit (.bool true)], args := [d1, d2] }
  | _ => none }
def clientNoneRow : OpenClaim := { program := "ytemnjodhidlfpaagreat", sum := "b57d27ac19c3d2e5db6778e7fdd57931f2e8d598a0f0a6abb172e2c7ffa8b62a", func := "afterimage/afterimagelaw20.ClientNone", spec := "clientNone", inPlace := ["slices.overlaps[afterimage/ring.one[afterimage/api.Snap]]"], unfollowed := true, recurses := true, named := ["math/bits.divideError", "math/bits.overflowError"], apart := false }
def ClientNoneSaid : Prop := clientNoneRow.holds Tryz.pinned (OpenSpec.ofChange clientNoneSpec)

/-- ITS FALSE NEIGHBOUR: 'it returns false'. Refute it at one input. -/
def clientNoneWrong : ChangeSpec := { name := "clientNone", fn := fun _ => fun
  | [d1, d2] => { results := [.lit (.bool false)], args := [d1, d2] }
  | _ => none }
def ClientNoneWrongFalsely : Prop := clientNoneRow.holds Tryz.pinned (OpenSpec.ofChange clientNoneWrong)

/- THE SECOND FORM. 'bulk': how many values and letters a reading holds, each counted each time it is reached (what is shared counts as often as it is met; a slice's spare places count too). A statement '..UptoSaid' is the law's where the arguments, and the package variables that the reading takes, are together of bulk at most 1048576: NARROWER than '..Said'. Prove '..Said' where nothing that the law and all that it calls make is longer than what came in: it says more and counts as full. Else prove '..UptoSaid'. A law counts once. -/
mutual
def uptoBulk {H : Type} : DataW H → Nat
  | .lit (.string bytes) => bytes.length + 1
  | .lit _ => 1
  | .nil => 1
  | .ptr d => uptoBulk d + 1
  | .slice elems spare => uptoBulkAll elems + uptoBulkAll spare + 1
  | .agg parts => uptoBulkAll parts + 1
  | .iface _ d => uptoBulk d + 1
  | .map entries => uptoBulkEntries entries + 1
  | .held _ => 1
def uptoBulkAll {H : Type} : List (DataW H) → Nat
  | [] => 0
  | d :: r => uptoBulk d + uptoBulkAll r
def uptoBulkEntries {H : Type} : List (Lit × DataW H) → Nat
  | [] => 0
  | x :: r => uptoBulkEntry x + uptoBulkEntries r
def uptoBulkEntry {H : Type} : Lit × DataW H → Nat
  | (.string bytes, d) => bytes.length + uptoBulk d + 1
  | (_, d) => uptoBulk d + 1
 end
def uptoSmall : (H : Type) → List (DataW H) → Bool := fun _ ds => decide (uptoBulkAll ds ≤ 1048576)
def OpenSpec.upto (s : _root_.Go.ChangeSpec) : _root_.Go.OpenSpec := { _root_.Go.OpenSpec.ofChange s with cond := some uptoSmall }

/-- 'afterimagelaw20.ClientShows', WHERE WHAT IT READS IS OF BULK AT MOST 1048576: true; the input reads as it did. -/
def clientShowsUptoRow : OpenClaim := { program := "ytemnjodhidlfpaagreat", sum := "b57d27ac19c3d2e5db6778e7fdd57931f2e8d598a0f0a6abb172e2c7ffa8b62a", func := "afterimage/afterimagelaw20.ClientShows", spec := "clientShows", inPlace := ["slices.overlaps[afterimage/ring.one[afterimage/api.Snap]]"], unfollowed := true, recurses := true, named := ["math/bits.divideError", "math/bits.overflowError"], apart := false, narrowed := true }
def ClientShowsUptoSaid : Prop := clientShowsUptoRow.holds Tryz.pinned (OpenSpec.upto clientShowsSpec)

/-- 'afterimagelaw20.ClientCounts', WHERE WHAT IT READS IS OF BULK AT MOST 1048576: true; the input reads as it did. -/
def clientCountsUptoRow : OpenClaim := { program := "ytemnjodhidlfpaagreat", sum := "b57d27ac19c3d2e5db6778e7fdd57931f2e8d598a0f0a6abb172e2c7ffa8b62a", func := "afterimage/afterimagelaw20.ClientCounts", spec := "clientCounts", inPlace := ["slices.overlaps[afterimage/ring.one[afterimage/api.Snap]]"], unfollowed := true, recurses := true, named := ["math/bits.divideError", "math/bits.overflowError"], apart := false, narrowed := true }
def ClientCountsUptoSaid : Prop := clientCountsUptoRow.holds Tryz.pinned (OpenSpec.upto clientCountsSpec)

/-- 'afterimagelaw20.ClientRefuses', WHERE WHAT IT READS IS OF BULK AT MOST 1048576: true; the input reads as it did. -/
def clientRefusesUptoRow : OpenClaim := { program := "ytemnjodhidlfpaagreat", sum := "b57d27ac19c3d2e5db6778e7fdd57931f2e8d598a0f0a6abb172e2c7ffa8b62a", func := "afterimage/afterimagelaw20.ClientRefuses", spec := "clientRefuses", inPlace := ["slices.overlaps[afterimage/ring.one[afterimage/api.Snap]]"], unfollowed := true, recurses := true, named := ["math/bits.divideError", "math/bits.overflowError"], apart := false, narrowed := true }
def ClientRefusesUptoSaid : Prop := clientRefusesUptoRow.holds Tryz.pinned (OpenSpec.upto clientRefusesSpec)

/-- 'afterimagelaw20.ClientFrames', WHERE WHAT IT READS IS OF BULK AT MOST 1048576: true; the input reads as it did. -/
def clientFramesUptoRow : OpenClaim := { program := "ytemnjodhidlfpaagreat", sum := "b57d27ac19c3d2e5db6778e7fdd57931f2e8d598a0f0a6abb172e2c7ffa8b62a", func := "afterimage/afterimagelaw20.ClientFrames", spec := "clientFrames", inPlace := ["slices.overlaps[afterimage/ring.one[afterimage/api.Snap]]"], unfollowed := true, recurses := true, named := ["math/bits.divideError", "math/bits.overflowError"], apart := false, narrowed := true }
def ClientFramesUptoSaid : Prop := clientFramesUptoRow.holds Tryz.pinned (OpenSpec.upto clientFramesSpec)

/-- 'afterimagelaw20.ClientNone', WHERE WHAT IT READS IS OF BULK AT MOST 1048576: true; the input reads as it did. -/
def clientNoneUptoRow : OpenClaim := { program := "ytemnjodhidlfpaagreat", sum := "b57d27ac19c3d2e5db6778e7fdd57931f2e8d598a0f0a6abb172e2c7ffa8b62a", func := "afterimage/afterimagelaw20.ClientNone", spec := "clientNone", inPlace := ["slices.overlaps[afterimage/ring.one[afterimage/api.Snap]]"], unfollowed := true, recurses := true, named := ["math/bits.divideError", "math/bits.overflowError"], apart := false, narrowed := true }
def ClientNoneUptoSaid : Prop := clientNoneUptoRow.holds Tryz.pinned (OpenSpec.upto clientNoneSpec)

end Rows
end Go.Proofs.YtemnjodhidlfpaaGreat
