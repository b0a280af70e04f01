/-
  No cell of these rows narrows 'for every input' (looked for: loops, veiled, ifaces, maps, wideKeys, modest, calm, conditions, laid).
  DERIVED. THE GIVEN ROWS OF THIS SEAT. 8 by the template 'for every input the law returns true; each argument reads behind the call as it read before'; 0 by the template 'total and deterministic' (their statements: YtbioemaipghagaaGreatTotals.lean).
  GIVEN WITH THE SEED: the statements are not yours to turn. If you find one false, say at which input.
  Laid BY PROGRAM, IN A SANDBOX (cutbox-rows.mjs): the forced cells as the released guide's own fill.sh prints them over the translation 30a0806ab22bcf17… (all of the seat's roots in one cut). By AI agents, Wed Nov 11 2026. No macro, syntax, notation, axiom, sorry.
-/
import Derived.Test.YtbioemaipghagaaGreatChecked
import GoSem.Claim
import GoSem.ClaimJoined
import GoSem.ClaimMapViews
import Derived.JoinedTies
import Derived.KernelRfl
namespace Go.Proofs.YtbioemaipghagaaGreat
/- THE CELL 'sum', in the pinned program and in every row, IS THE sha256 OF THE DUMP (.gsa) THAT YtbioemaipghagaaGreatProg.lean LOADS. Nothing in Lean hashes anything: it is a label: what it is worth is what the hold of that sum in a sandbox is worth. -/
noncomputable def Tryz.pinned : Pinned := { name := "ytbioemaipghagaagreat", sum := "30a0806ab22bcf17ed32e8b57a9beb4e981173fa5ec2ae84cb535c4dfa5385f7", checked := Tryz.checked }
namespace Rows
def none {H : Type} : Left H := { results := [], args := [] }

/-- 'afterimagelaw10.DeltaBack': WHATEVER THE INPUT: true; the input reads as it did. -/
def deltaBackSpec : ChangeSpec := { name := "deltaBack", fn := fun _ => fun
  | [d1, d2] => { results := [.lit (.bool true)], args := [d1, d2] }
  | _ => none }
def deltaBackRow : OpenClaim := { program := "ytbioemaipghagaagreat", sum := "30a0806ab22bcf17ed32e8b57a9beb4e981173fa5ec2ae84cb535c4dfa5385f7", func := "afterimage/afterimagelaw10.DeltaBack", spec := "deltaBack", unfollowed := true, recurses := true, apart := false }
def DeltaBackSaid : Prop := deltaBackRow.holds Tryz.pinned (OpenSpec.ofChange deltaBackSpec)

/-- ITS FALSE NEIGHBOUR: 'it returns false'. Refute it at one input. -/
def deltaBackWrong : ChangeSpec := { name := "deltaBack", fn := fun _ => fun
  | [d1, d2] => { results := [.lit (.bool false)], args := [d1, d2] }
  | _ => none }
def DeltaBackWrongFalsely : Prop := deltaBackRow.holds Tryz.pinned (OpenSpec.ofChange deltaBackWrong)

/-- 'afterimagelaw12.StoreOrder': WHATEVER THE INPUT: true; the input reads as it did. -/
def storeOrderSpec : ChangeSpec := { name := "storeOrder", fn := fun _ => fun
  | [d1, d2] => { results := [.lit (.bool true)], args := [d1, d2] }
  | _ => none }
def storeOrderRow : OpenClaim := { program := "ytbioemaipghagaagreat", sum := "30a0806ab22bcf17ed32e8b57a9beb4e981173fa5ec2ae84cb535c4dfa5385f7", func := "afterimage/afterimagelaw12.StoreOrder", spec := "storeOrder", inPlace := ["slices.overlaps[afterimage/ring.one[afterimage/api.Snap]]"], unfollowed := true, recurses := true, apart := false }
def StoreOrderSaid : Prop := storeOrderRow.holds Tryz.pinned (OpenSpec.ofChange storeOrderSpec)

/-- ITS FALSE NEIGHBOUR: 'it returns false'. Refute it at one input. -/
def storeOrderWrong : ChangeSpec := { name := "storeOrder", fn := fun _ => fun
  | [d1, d2] => { results := [.lit (.bool false)], args := [d1, d2] }
  | _ => none }
def StoreOrderWrongFalsely : Prop := storeOrderRow.holds Tryz.pinned (OpenSpec.ofChange storeOrderWrong)

/-- 'afterimagelaw12.StoreSums': WHATEVER THE INPUT: true; the input reads as it did. -/
def storeSumsSpec : ChangeSpec := { name := "storeSums", fn := fun _ => fun
  | [d1, d2] => { results := [.lit (.bool true)], args := [d1, d2] }
  | _ => none }
def storeSumsRow : OpenClaim := { program := "ytbioemaipghagaagreat", sum := "30a0806ab22bcf17ed32e8b57a9beb4e981173fa5ec2ae84cb535c4dfa5385f7", func := "afterimage/afterimagelaw12.StoreSums", spec := "storeSums", inPlace := ["slices.overlaps[afterimage/ring.one[afterimage/api.Snap]]"], unfollowed := true, recurses := true, apart := false }
def StoreSumsSaid : Prop := storeSumsRow.holds Tryz.pinned (OpenSpec.ofChange storeSumsSpec)

/-- ITS FALSE NEIGHBOUR: 'it returns false'. Refute it at one input. -/
def storeSumsWrong : ChangeSpec := { name := "storeSums", fn := fun _ => fun
  | [d1, d2] => { results := [.lit (.bool false)], args := [d1, d2] }
  | _ => none }
def StoreSumsWrongFalsely : Prop := storeSumsRow.holds Tryz.pinned (OpenSpec.ofChange storeSumsWrong)

/-- 'afterimagelaw12.StoreAccepts': WHATEVER THE INPUT: true; the input reads as it did. -/
def storeAcceptsSpec : ChangeSpec := { name := "storeAccepts", fn := fun _ => fun
  | [d1, d2] => { results := [.lit (.bool true)], args := [d1, d2] }
  | _ => none }
def storeAcceptsRow : OpenClaim := { program := "ytbioemaipghagaagreat", sum := "30a0806ab22bcf17ed32e8b57a9beb4e981173fa5ec2ae84cb535c4dfa5385f7", func := "afterimage/afterimagelaw12.StoreAccepts", spec := "storeAccepts", inPlace := ["slices.overlaps[afterimage/ring.one[afterimage/api.Snap]]"], unfollowed := true, recurses := true, apart := false }
def StoreAcceptsSaid : Prop := storeAcceptsRow.holds Tryz.pinned (OpenSpec.ofChange storeAcceptsSpec)

/-- ITS FALSE NEIGHBOUR: 'it returns false'. Refute it at one input. -/
def storeAcceptsWrong : ChangeSpec := { name := "storeAccepts", fn := fun _ => fun
  | [d1, d2] => { results := [.lit (.bool false)], args := [d1, d2] }
  | _ => none }
def StoreAcceptsWrongFalsely : Prop := storeAcceptsRow.holds Tryz.pinned (OpenSpec.ofChange storeAcceptsWrong)

/-- 'afterimagelaw12.StoreNone': WHATEVER THE INPUT: true; the input reads as it did. -/
def storeNoneSpec : ChangeSpec := { name := "storeNone", fn := fun _ => fun
  | [d1, d2, d3] => { results := [.lit (.bool true)], args := [d1, d2, d3] }
  | _ => none }
def storeNoneRow : OpenClaim := { program := "ytbioemaipghagaagreat", sum := "30a0806ab22bcf17ed32e8b57a9beb4e981173fa5ec2ae84cb535c4dfa5385f7", func := "afterimage/afterimagelaw12.StoreNone", spec := "storeNone", inPlace := ["slices.overlaps[afterimage/ring.one[afterimage/api.Snap]]"], unfollowed := true, recurses := true, apart := false }
def StoreNoneSaid : Prop := storeNoneRow.holds Tryz.pinned (OpenSpec.ofChange storeNoneSpec)

/-- ITS FALSE NEIGHBOUR: 'it returns false'. Refute it at one input. -/
def storeNoneWrong : ChangeSpec := { name := "storeNone", fn := fun _ => fun
  | [d1, d2, d3] => { results := [.lit (.bool false)], args := [d1, d2, d3] }
  | _ => none }
def StoreNoneWrongFalsely : Prop := storeNoneRow.holds Tryz.pinned (OpenSpec.ofChange storeNoneWrong)

/-- 'afterimagelaw12.StoreTwice': WHATEVER THE INPUT: true; the input reads as it did. -/
def storeTwiceSpec : ChangeSpec := { name := "storeTwice", fn := fun _ => fun
  | [d1, d2] => { results := [.lit (.bool true)], args := [d1, d2] }
  | _ => none }
def storeTwiceRow : OpenClaim := { program := "ytbioemaipghagaagreat", sum := "30a0806ab22bcf17ed32e8b57a9beb4e981173fa5ec2ae84cb535c4dfa5385f7", func := "afterimage/afterimagelaw12.StoreTwice", spec := "storeTwice", inPlace := ["slices.overlaps[afterimage/ring.one[afterimage/api.Snap]]"], unfollowed := true, recurses := true, apart := false }
def StoreTwiceSaid : Prop := storeTwiceRow.holds Tryz.pinned (OpenSpec.ofChange storeTwiceSpec)

/-- ITS FALSE NEIGHBOUR: 'it returns false'. Refute it at one input. -/
def storeTwiceWrong : ChangeSpec := { name := "storeTwice", fn := fun _ => fun
  | [d1, d2] => { results := [.lit (.bool false)], args := [d1, d2] }
  | _ => none }
def StoreTwiceWrongFalsely : Prop := storeTwiceRow.holds Tryz.pinned (OpenSpec.ofChange storeTwiceWrong)

/-- 'afterimagelaw12.StoreOwn': WHATEVER THE INPUT: true; the input reads as it did. -/
def storeOwnSpec : ChangeSpec := { name := "storeOwn", fn := fun _ => fun
  | [d1, d2] => { results := [.lit (.bool true)], args := [d1, d2] }
  | _ => none }
def storeOwnRow : OpenClaim := { program := "ytbioemaipghagaagreat", sum := "30a0806ab22bcf17ed32e8b57a9beb4e981173fa5ec2ae84cb535c4dfa5385f7", func := "afterimage/afterimagelaw12.StoreOwn", spec := "storeOwn", inPlace := ["slices.overlaps[afterimage/ring.one[afterimage/api.Snap]]"], unfollowed := true, recurses := true, apart := false }
def StoreOwnSaid : Prop := storeOwnRow.holds Tryz.pinned (OpenSpec.ofChange storeOwnSpec)

/-- ITS FALSE NEIGHBOUR: 'it returns false'. Refute it at one input. -/
def storeOwnWrong : ChangeSpec := { name := "storeOwn", fn := fun _ => fun
  | [d1, d2] => { results := [.lit (.bool false)], args := [d1, d2] }
  | _ => none }
def StoreOwnWrongFalsely : Prop := storeOwnRow.holds Tryz.pinned (OpenSpec.ofChange storeOwnWrong)

/-- 'afterimagelaw12.StoreTells': WHATEVER THE INPUT: true; the input reads as it did. -/
def storeTellsSpec : ChangeSpec := { name := "storeTells", fn := fun _ => fun
  | [d1, d2, d3] => { results := [.lit (.bool true)], args := [d1, d2, d3] }
  | _ => none }
def storeTellsRow : OpenClaim := { program := "ytbioemaipghagaagreat", sum := "30a0806ab22bcf17ed32e8b57a9beb4e981173fa5ec2ae84cb535c4dfa5385f7", func := "afterimage/afterimagelaw12.StoreTells", spec := "storeTells", inPlace := ["slices.overlaps[afterimage/ring.one[afterimage/api.Snap]]"], unfollowed := true, recurses := true, apart := false }
def StoreTellsSaid : Prop := storeTellsRow.holds Tryz.pinned (OpenSpec.ofChange storeTellsSpec)

/-- ITS FALSE NEIGHBOUR: 'it returns false'. Refute it at one input. -/
def storeTellsWrong : ChangeSpec := { name := "storeTells", fn := fun _ => fun
  | [d1, d2, d3] => { results := [.lit (.bool false)], args := [d1, d2, d3] }
  | _ => none }
def StoreTellsWrongFalsely : Prop := storeTellsRow.holds Tryz.pinned (OpenSpec.ofChange storeTellsWrong)

/- THE SECOND FORM. 'bulk': how many values and letters a reading holds, each counted each time it is reached (what is shared counts as often as it is met; a slice's spare places count too). A statement '..UptoSaid' is the law's where the arguments, and the package variables that the reading takes, are together of bulk at most 1048576: NARROWER than '..Said'. Prove '..Said' where nothing that the law and all that it calls make is longer than what came in: it says more and counts as full. Else prove '..UptoSaid'. A law counts once. -/
mutual
def uptoBulk {H : Type} : DataW H → Nat
  | .lit (.string bytes) => bytes.length + 1
  | .lit _ => 1
  | .nil => 1
  | .ptr d => uptoBulk d + 1
  | .slice elems spare => uptoBulkAll elems + uptoBulkAll spare + 1
  | .agg parts => uptoBulkAll parts + 1
  | .iface _ d => uptoBulk d + 1
  | .map entries => uptoBulkEntries entries + 1
  | .held _ => 1
def uptoBulkAll {H : Type} : List (DataW H) → Nat
  | [] => 0
  | d :: r => uptoBulk d + uptoBulkAll r
def uptoBulkEntries {H : Type} : List (Lit × DataW H) → Nat
  | [] => 0
  | x :: r => uptoBulkEntry x + uptoBulkEntries r
def uptoBulkEntry {H : Type} : Lit × DataW H → Nat
  | (.string bytes, d) => bytes.length + uptoBulk d + 1
  | (_, d) => uptoBulk d + 1
 end
def uptoSmall : (H : Type) → List (DataW H) → Bool := fun _ ds => decide (uptoBulkAll ds ≤ 1048576)
def OpenSpec.upto (s : _root_.Go.ChangeSpec) : _root_.Go.OpenSpec := { _root_.Go.OpenSpec.ofChange s with cond := some uptoSmall }

/-- 'afterimagelaw10.DeltaBack', WHERE WHAT IT READS IS OF BULK AT MOST 1048576: true; the input reads as it did. -/
def deltaBackUptoRow : OpenClaim := { program := "ytbioemaipghagaagreat", sum := "30a0806ab22bcf17ed32e8b57a9beb4e981173fa5ec2ae84cb535c4dfa5385f7", func := "afterimage/afterimagelaw10.DeltaBack", spec := "deltaBack", unfollowed := true, recurses := true, apart := false, narrowed := true }
def DeltaBackUptoSaid : Prop := deltaBackUptoRow.holds Tryz.pinned (OpenSpec.upto deltaBackSpec)

/-- 'afterimagelaw12.StoreOrder', WHERE WHAT IT READS IS OF BULK AT MOST 1048576: true; the input reads as it did. -/
def storeOrderUptoRow : OpenClaim := { program := "ytbioemaipghagaagreat", sum := "30a0806ab22bcf17ed32e8b57a9beb4e981173fa5ec2ae84cb535c4dfa5385f7", func := "afterimage/afterimagelaw12.StoreOrder", spec := "storeOrder", inPlace := ["slices.overlaps[afterimage/ring.one[afterimage/api.Snap]]"], unfollowed := true, recurses := true, apart := false, narrowed := true }
def StoreOrderUptoSaid : Prop := storeOrderUptoRow.holds Tryz.pinned (OpenSpec.upto storeOrderSpec)

/-- 'afterimagelaw12.StoreSums', WHERE WHAT IT READS IS OF BULK AT MOST 1048576: true; the input reads as it did. -/
def storeSumsUptoRow : OpenClaim := { program := "ytbioemaipghagaagreat", sum := "30a0806ab22bcf17ed32e8b57a9beb4e981173fa5ec2ae84cb535c4dfa5385f7", func := "afterimage/afterimagelaw12.StoreSums", spec := "storeSums", inPlace := ["slices.overlaps[afterimage/ring.one[afterimage/api.Snap]]"], unfollowed := true, recurses := true, apart := false, narrowed := true }
def StoreSumsUptoSaid : Prop := storeSumsUptoRow.holds Tryz.pinned (OpenSpec.upto storeSumsSpec)

/-- 'afterimagelaw12.StoreAccepts', WHERE WHAT IT READS IS OF BULK AT MOST 1048576: true; the input reads as it did. -/
def storeAcceptsUptoRow : OpenClaim := { program := "ytbioemaipghagaagreat", sum := "30a0806ab22bcf17ed32e8b57a9beb4e981173fa5ec2ae84cb535c4dfa5385f7", func := "afterimage/afterimagelaw12.StoreAccepts", spec := "storeAccepts", inPlace := ["slices.overlaps[afterimage/ring.one[afterimage/api.Snap]]"], unfollowed := true, recurses := true, apart := false, narrowed := true }
def StoreAcceptsUptoSaid : Prop := storeAcceptsUptoRow.holds Tryz.pinned (OpenSpec.upto storeAcceptsSpec)

/-- 'afterimagelaw12.StoreNone', WHERE WHAT IT READS IS OF BULK AT MOST 1048576: true; the input reads as it did. -/
def storeNoneUptoRow : OpenClaim := { program := "ytbioemaipghagaagreat", sum := "30a0806ab22bcf17ed32e8b57a9beb4e981173fa5ec2ae84cb535c4dfa5385f7", func := "afterimage/afterimagelaw12.StoreNone", spec := "storeNone", inPlace := ["slices.overlaps[afterimage/ring.one[afterimage/api.Snap]]"], unfollowed := true, recurses := true, apart := false, narrowed := true }
def StoreNoneUptoSaid : Prop := storeNoneUptoRow.holds Tryz.pinned (OpenSpec.upto storeNoneSpec)

/-- 'afterimagelaw12.StoreTwice', WHERE WHAT IT READS IS OF BULK AT MOST 1048576: true; the input reads as it did. -/
def storeTwiceUptoRow : OpenClaim := { program := "ytbioemaipghagaagreat", sum := "30a0806ab22bcf17ed32e8b57a9beb4e981173fa5ec2ae84cb535c4dfa5385f7", func := "afterimage/afterimagelaw12.StoreTwice", spec := "storeTwice", inPlace := ["slices.overlaps[afterimage/ring.one[afterimage/api.Snap]]"], unfollowed := true, recurses := true, apart := false, narrowed := true }
def StoreTwiceUptoSaid : Prop := storeTwiceUptoRow.holds Tryz.pinned (OpenSpec.upto storeTwiceSpec)

/-- 'afterimagelaw12.StoreOwn', WHERE WHAT IT READS IS OF BULK AT MOST 1048576: true; the input reads as it did. -/
def storeOwnUptoRow : OpenClaim := { program := "ytbioemaipghagaagreat", sum := "30a0806ab22bcf17ed32e8b57a9beb4e981173fa5ec2ae84cb535c4dfa5385f7", func := "afterimage/afterimagelaw12.StoreOwn", spec := "storeOwn", inPlace := ["slices.overlaps[afterimage/ring.one[afterimage/api.Snap]]"], unfollowed := true, recurses := true, apart := false, narrowed := true }
def StoreOwnUptoSaid : Prop := storeOwnUptoRow.holds Tryz.pinned (OpenSpec.upto storeOwnSpec)

/-- 'afterimagelaw12.StoreTells', WHERE WHAT IT READS IS OF BULK AT MOST 1048576: true; the input reads as it did. -/
def storeTellsUptoRow : OpenClaim := { program := "ytbioemaipghagaagreat", sum := "30a0806ab22bcf17ed32e8b57a9beb4e981173fa5ec2ae84cb535c4dfa5385f7", func := "afterimage/afterimagelaw12.StoreTells", spec := "storeTells", inPlace := ["slices.overlaps[afterimage/ring.one[afterimage/api.Snap]]"], unfollowed := true, recurses := true, apart := false, narrowed := true }
def StoreTellsUptoSaid : Prop := storeTellsUptoRow.holds Tryz.pinned (OpenSpec.upto storeTellsSpec)

end Rows
end Go.Proofs.YtbioemaipghagaaGreat
