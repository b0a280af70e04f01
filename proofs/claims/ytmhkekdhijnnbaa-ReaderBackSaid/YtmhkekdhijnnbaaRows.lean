/-
  No cell of these rows narrows 'for every input' (looked for: loops, veiled, ifaces, maps, wideKeys, modest, calm, conditions, laid).
  DERIVED. THE GIVEN ROWS OF THIS SEAT. 16 by the template 'for every input the law returns true; each argument reads behind the call as it read before'; 0 by the template 'total and deterministic' (their statements: YtmhkekdhijnnbaaTotals.lean).
  GIVEN WITH THE SEED: the statements are not yours to turn. If you find one false, say at which input.
  Laid BY PROGRAM, IN A SANDBOX (cutbox-rows.mjs): the forced cells as the released guide's own fill.sh prints them over the translation 4a4e6130628a9c1f… (all of the seat's roots in one cut). By AI agents, Wed Nov 11 2026. No macro, syntax, notation, axiom, sorry.
-/
import Derived.Test.YtmhkekdhijnnbaaChecked
import GoSem.Claim
import GoSem.ClaimJoined
import GoSem.ClaimMapViews
import Derived.JoinedTies
import Derived.KernelRfl
namespace Go.Proofs.Ytmhkekdhijnnbaa
/- THE CELL 'sum', in the pinned program and in every row, IS THE sha256 OF THE DUMP (.gsa) THAT YtmhkekdhijnnbaaProg.lean LOADS. Nothing in Lean hashes anything: it is a label: what it is worth is what the hold of that sum in a sandbox is worth. -/
noncomputable def Try.pinned : Pinned := { name := "ytmhkekdhijnnbaa", sum := "4a4e6130628a9c1f5d3bbf8deb7ef8f7b139acd809f24f5905bed69452427943", checked := Try.checked }
namespace Rows
def none {H : Type} : Left H := { results := [], args := [] }

/-- 'afterimagelaw06.CrcPieces': WHATEVER THE INPUT: true; the input reads as it did. -/
def crcPiecesSpec : ChangeSpec := { name := "crcPieces", fn := fun _ => fun
  | [d1, d2] => { results := [.lit (.bool true)], args := [d1, d2] }
  | _ => none }
def crcPiecesRow : OpenClaim := { program := "ytmhkekdhijnnbaa", sum := "4a4e6130628a9c1f5d3bbf8deb7ef8f7b139acd809f24f5905bed69452427943", func := "afterimage/afterimagelaw06.CrcPieces", spec := "crcPieces", unfollowed := true, recurses := true, apart := false }
def CrcPiecesSaid : Prop := crcPiecesRow.holds Try.pinned (OpenSpec.ofChange crcPiecesSpec)

/-- ITS FALSE NEIGHBOUR: 'it returns false'. Refute it at one input. -/
def crcPiecesWrong : ChangeSpec := { name := "crcPieces", fn := fun _ => fun
  | [d1, d2] => { results := [.lit (.bool false)], args := [d1, d2] }
  | _ => none }
def CrcPiecesWrongFalsely : Prop := crcPiecesRow.holds Try.pinned (OpenSpec.ofChange crcPiecesWrong)

/-- 'afterimagelaw06.CrcUnlike': WHATEVER THE INPUT: true; the input reads as it did. -/
def crcUnlikeSpec : ChangeSpec := { name := "crcUnlike", fn := fun _ => fun
  | [d1, d2, d3] => { results := [.lit (.bool true)], args := [d1, d2, d3] }
  | _ => none }
def crcUnlikeRow : OpenClaim := { program := "ytmhkekdhijnnbaa", sum := "4a4e6130628a9c1f5d3bbf8deb7ef8f7b139acd809f24f5905bed69452427943", func := "afterimage/afterimagelaw06.CrcUnlike", spec := "crcUnlike", unfollowed := true, recurses := true, apart := false }
def CrcUnlikeSaid : Prop := crcUnlikeRow.holds Try.pinned (OpenSpec.ofChange crcUnlikeSpec)

/-- ITS FALSE NEIGHBOUR: 'it returns false'. Refute it at one input. -/
def crcUnlikeWrong : ChangeSpec := { name := "crcUnlike", fn := fun _ => fun
  | [d1, d2, d3] => { results := [.lit (.bool false)], args := [d1, d2, d3] }
  | _ => none }
def CrcUnlikeWrongFalsely : Prop := crcUnlikeRow.holds Try.pinned (OpenSpec.ofChange crcUnlikeWrong)

/-- 'afterimagelaw06.CrcSums': WHATEVER THE INPUT: true; the input reads as it did. -/
def crcSumsSpec : ChangeSpec := { name := "crcSums", fn := fun _ => fun
  | [d1, d2] => { results := [.lit (.bool true)], args := [d1, d2] }
  | _ => none }
def crcSumsRow : OpenClaim := { program := "ytmhkekdhijnnbaa", sum := "4a4e6130628a9c1f5d3bbf8deb7ef8f7b139acd809f24f5905bed69452427943", func := "afterimage/afterimagelaw06.CrcSums", spec := "crcSums", unfollowed := true, recurses := true, apart := false }
def CrcSumsSaid : Prop := crcSumsRow.holds Try.pinned (OpenSpec.ofChange crcSumsSpec)

/-- ITS FALSE NEIGHBOUR: 'it returns false'. Refute it at one input. -/
def crcSumsWrong : ChangeSpec := { name := "crcSums", fn := fun _ => fun
  | [d1, d2] => { results := [.lit (.bool false)], args := [d1, d2] }
  | _ => none }
def CrcSumsWrongFalsely : Prop := crcSumsRow.holds Try.pinned (OpenSpec.ofChange crcSumsWrong)

/-- 'afterimagelaw06.CrcOpens': WHATEVER THE INPUT: true; the input reads as it did. -/
def crcOpensSpec : ChangeSpec := { name := "crcOpens", fn := fun _ => fun
  | [d] => { results := [.lit (.bool true)], args := [d] }
  | _ => none }
def crcOpensRow : OpenClaim := { program := "ytmhkekdhijnnbaa", sum := "4a4e6130628a9c1f5d3bbf8deb7ef8f7b139acd809f24f5905bed69452427943", func := "afterimage/afterimagelaw06.CrcOpens", spec := "crcOpens", unfollowed := true, recurses := true, apart := false }
def CrcOpensSaid : Prop := crcOpensRow.holds Try.pinned (OpenSpec.ofChange crcOpensSpec)

/-- ITS FALSE NEIGHBOUR: 'it returns false'. Refute it at one input. -/
def crcOpensWrong : ChangeSpec := { name := "crcOpens", fn := fun _ => fun
  | [d] => { results := [.lit (.bool false)], args := [d] }
  | _ => none }
def CrcOpensWrongFalsely : Prop := crcOpensRow.holds Try.pinned (OpenSpec.ofChange crcOpensWrong)

/-- 'afterimagelaw06.CrcTurns': WHATEVER THE INPUT: true; the input reads as it did. -/
def crcTurnsSpec : ChangeSpec := { name := "crcTurns", fn := fun _ => fun
  | [d1, d2] => { results := [.lit (.bool true)], args := [d1, d2] }
  | _ => none }
def crcTurnsRow : OpenClaim := { program := "ytmhkekdhijnnbaa", sum := "4a4e6130628a9c1f5d3bbf8deb7ef8f7b139acd809f24f5905bed69452427943", func := "afterimage/afterimagelaw06.CrcTurns", spec := "crcTurns", unfollowed := true, recurses := true, apart := false }
def CrcTurnsSaid : Prop := crcTurnsRow.holds Try.pinned (OpenSpec.ofChange crcTurnsSpec)

/-- ITS FALSE NEIGHBOUR: 'it returns false'. Refute it at one input. -/
def crcTurnsWrong : ChangeSpec := { name := "crcTurns", fn := fun _ => fun
  | [d1, d2] => { results := [.lit (.bool false)], args := [d1, d2] }
  | _ => none }
def CrcTurnsWrongFalsely : Prop := crcTurnsRow.holds Try.pinned (OpenSpec.ofChange crcTurnsWrong)

/-- 'afterimagelaw05.VarintPuts': WHATEVER THE INPUT: true; the input reads as it did. -/
def varintPutsSpec : ChangeSpec := { name := "varintPuts", fn := fun _ => fun
  | [d] => { results := [.lit (.bool true)], args := [d] }
  | _ => none }
def varintPutsRow : OpenClaim := { program := "ytmhkekdhijnnbaa", sum := "4a4e6130628a9c1f5d3bbf8deb7ef8f7b139acd809f24f5905bed69452427943", func := "afterimage/afterimagelaw05.VarintPuts", spec := "varintPuts", apart := false }
def VarintPutsSaid : Prop := varintPutsRow.holds Try.pinned (OpenSpec.ofChange varintPutsSpec)

/-- ITS FALSE NEIGHBOUR: 'it returns false'. Refute it at one input. -/
def varintPutsWrong : ChangeSpec := { name := "varintPuts", fn := fun _ => fun
  | [d] => { results := [.lit (.bool false)], args := [d] }
  | _ => none }
def VarintPutsWrongFalsely : Prop := varintPutsRow.holds Try.pinned (OpenSpec.ofChange varintPutsWrong)

/-- 'afterimagelaw05.VarintGets': WHATEVER THE INPUT: true; the input reads as it did. -/
def varintGetsSpec : ChangeSpec := { name := "varintGets", fn := fun _ => fun
  | [d] => { results := [.lit (.bool true)], args := [d] }
  | _ => none }
def varintGetsRow : OpenClaim := { program := "ytmhkekdhijnnbaa", sum := "4a4e6130628a9c1f5d3bbf8deb7ef8f7b139acd809f24f5905bed69452427943", func := "afterimage/afterimagelaw05.VarintGets", spec := "varintGets", apart := false }
def VarintGetsSaid : Prop := varintGetsRow.holds Try.pinned (OpenSpec.ofChange varintGetsSpec)

/-- ITS FALSE NEIGHBOUR: 'it returns false'. Refute it at one input. -/
def varintGetsWrong : ChangeSpec := { name := "varintGets", fn := fun _ => fun
  | [d] => { results := [.lit (.bool false)], args := [d] }
  | _ => none }
def VarintGetsWrongFalsely : Prop := varintGetsRow.holds Try.pinned (OpenSpec.ofChange varintGetsWrong)

/-- 'afterimagelaw05.VarintBack': WHATEVER THE INPUT: true; the input reads as it did. -/
def varintBackSpec : ChangeSpec := { name := "varintBack", fn := fun _ => fun
  | [d1, d2] => { results := [.lit (.bool true)], args := [d1, d2] }
  | _ => none }
def varintBackRow : OpenClaim := { program := "ytmhkekdhijnnbaa", sum := "4a4e6130628a9c1f5d3bbf8deb7ef8f7b139acd809f24f5905bed69452427943", func := "afterimage/afterimagelaw05.VarintBack", spec := "varintBack", apart := false }
def VarintBackSaid : Prop := varintBackRow.holds Try.pinned (OpenSpec.ofChange varintBackSpec)

/-- ITS FALSE NEIGHBOUR: 'it returns false'. Refute it at one input. -/
def varintBackWrong : ChangeSpec := { name := "varintBack", fn := fun _ => fun
  | [d1, d2] => { results := [.lit (.bool false)], args := [d1, d2] }
  | _ => none }
def VarintBackWrongFalsely : Prop := varintBackRow.holds Try.pinned (OpenSpec.ofChange varintBackWrong)

/-- 'afterimagelaw05.VarintRows': WHATEVER THE INPUT: true; the input reads as it did. -/
def varintRowsSpec : ChangeSpec := { name := "varintRows", fn := fun _ => fun
  | [d] => { results := [.lit (.bool true)], args := [d] }
  | _ => none }
def varintRowsRow : OpenClaim := { program := "ytmhkekdhijnnbaa", sum := "4a4e6130628a9c1f5d3bbf8deb7ef8f7b139acd809f24f5905bed69452427943", func := "afterimage/afterimagelaw05.VarintRows", spec := "varintRows", apart := false }
def VarintRowsSaid : Prop := varintRowsRow.holds Try.pinned (OpenSpec.ofChange varintRowsSpec)

/-- ITS FALSE NEIGHBOUR: 'it returns false'. Refute it at one input. -/
def varintRowsWrong : ChangeSpec := { name := "varintRows", fn := fun _ => fun
  | [d] => { results := [.lit (.bool false)], args := [d] }
  | _ => none }
def VarintRowsWrongFalsely : Prop := varintRowsRow.holds Try.pinned (OpenSpec.ofChange varintRowsWrong)

/-- 'afterimagelaw05.VarintSigns': WHATEVER THE INPUT: true; the input reads as it did. -/
def varintSignsSpec : ChangeSpec := { name := "varintSigns", fn := fun _ => fun
  | [d1, d2] => { results := [.lit (.bool true)], args := [d1, d2] }
  | _ => none }
def varintSignsRow : OpenClaim := { program := "ytmhkekdhijnnbaa", sum := "4a4e6130628a9c1f5d3bbf8deb7ef8f7b139acd809f24f5905bed69452427943", func := "afterimage/afterimagelaw05.VarintSigns", spec := "varintSigns", apart := false }
def VarintSignsSaid : Prop := varintSignsRow.holds Try.pinned (OpenSpec.ofChange varintSignsSpec)

/-- ITS FALSE NEIGHBOUR: 'it returns false'. Refute it at one input. -/
def varintSignsWrong : ChangeSpec := { name := "varintSigns", fn := fun _ => fun
  | [d1, d2] => { results := [.lit (.bool false)], args := [d1, d2] }
  | _ => none }
def VarintSignsWrongFalsely : Prop := varintSignsRow.holds Try.pinned (OpenSpec.ofChange varintSignsWrong)

/-- 'afterimagelaw05.VarintOrder': WHATEVER THE INPUT: true; the input reads as it did. -/
def varintOrderSpec : ChangeSpec := { name := "varintOrder", fn := fun _ => fun
  | [d1, d2] => { results := [.lit (.bool true)], args := [d1, d2] }
  | _ => none }
def varintOrderRow : OpenClaim := { program := "ytmhkekdhijnnbaa", sum := "4a4e6130628a9c1f5d3bbf8deb7ef8f7b139acd809f24f5905bed69452427943", func := "afterimage/afterimagelaw05.VarintOrder", spec := "varintOrder", unfollowed := true, recurses := true, apart := false }
def VarintOrderSaid : Prop := varintOrderRow.holds Try.pinned (OpenSpec.ofChange varintOrderSpec)

/-- ITS FALSE NEIGHBOUR: 'it returns false'. Refute it at one input. -/
def varintOrderWrong : ChangeSpec := { name := "varintOrder", fn := fun _ => fun
  | [d1, d2] => { results := [.lit (.bool false)], args := [d1, d2] }
  | _ => none }
def VarintOrderWrongFalsely : Prop := varintOrderRow.holds Try.pinned (OpenSpec.ofChange varintOrderWrong)

/-- 'afterimagelaw07.ReaderCounts': WHATEVER THE INPUT: true; the input reads as it did. -/
def readerCountsSpec : ChangeSpec := { name := "readerCounts", fn := fun _ => fun
  | [d1, d2] => { results := [.lit (.bool true)], args := [d1, d2] }
  | _ => none }
def readerCountsRow : OpenClaim := { program := "ytmhkekdhijnnbaa", sum := "4a4e6130628a9c1f5d3bbf8deb7ef8f7b139acd809f24f5905bed69452427943", func := "afterimage/afterimagelaw07.ReaderCounts", spec := "readerCounts", unfollowed := true, recurses := true, apart := false }
def ReaderCountsSaid : Prop := readerCountsRow.holds Try.pinned (OpenSpec.ofChange readerCountsSpec)

/-- ITS FALSE NEIGHBOUR: 'it returns false'. Refute it at one input. -/
def readerCountsWrong : ChangeSpec := { name := "readerCounts", fn := fun _ => fun
  | [d1, d2] => { results := [.lit (.bool false)], args := [d1, d2] }
  | _ => none }
def ReaderCountsWrongFalsely : Prop := readerCountsRow.holds Try.pinned (OpenSpec.ofChange readerCountsWrong)

/-- 'afterimagelaw07.ReaderActs': WHATEVER THE INPUT: true; the input reads as it did. -/
def readerActsSpec : ChangeSpec := { name := "readerActs", fn := fun _ => fun
  | [d1, d2] => { results := [.lit (.bool true)], args := [d1, d2] }
  | _ => none }
def readerActsRow : OpenClaim := { program := "ytmhkekdhijnnbaa", sum := "4a4e6130628a9c1f5d3bbf8deb7ef8f7b139acd809f24f5905bed69452427943", func := "afterimage/afterimagelaw07.ReaderActs", spec := "readerActs", unfollowed := true, recurses := true, apart := false }
def ReaderActsSaid : Prop := readerActsRow.holds Try.pinned (OpenSpec.ofChange readerActsSpec)

/-- ITS FALSE NEIGHBOUR: 'it returns false'. Refute it at one input. -/
def readerActsWrong : ChangeSpec := { name := "readerActs", fn := fun _ => fun
  | [d1, d2] => { results := [.lit (.bool false)], args := [d1, d2] }
  | _ => none }
def ReaderActsWrongFalsely : Prop := readerActsRow.holds Try.pinned (OpenSpec.ofChange readerActsWrong)

/-- 'afterimagelaw07.ReaderNone': WHATEVER THE INPUT: true; the input reads as it did. -/
def readerNoneSpec : ChangeSpec := { name := "readerNone", fn := fun _ => fun
  | [d1, d2] => { results := [.lit (.bool true)], args := [d1, d2] }
  | _ => none }
def readerNoneRow : OpenClaim := { program := "ytmhkekdhijnnbaa", sum := "4a4e6130628a9c1f5d3bbf8deb7ef8f7b139acd809f24f5905bed69452427943", func := "afterimage/afterimagelaw07.ReaderNone", spec := "readerNone", unfollowed := true, recurses := true, apart := false }
def ReaderNoneSaid : Prop := readerNoneRow.holds Try.pinned (OpenSpec.ofChange readerNoneSpec)

/-- ITS FALSE NEIGHBOUR: 'it returns false'. Refute it at one input. -/
def readerNoneWrong : ChangeSpec := { name := "readerNone", fn := fun _ => fun
  | [d1, d2] => { results := [.lit (.bool false)], args := [d1, d2] }
  | _ => none }
def ReaderNoneWrongFalsely : Prop := readerNoneRow.holds Try.pinned (OpenSpec.ofChange readerNoneWrong)

/-- 'afterimagelaw07.ReaderSticks': WHATEVER THE INPUT: true; the input reads as it did. -/
def readerSticksSpec : ChangeSpec := { name := "readerSticks", fn := fun _ => fun
  | [d1, d2, d3] => { results := [.lit (.bool true)], args := [d1, d2, d3] }
  | _ => none }
def readerSticksRow : OpenClaim := { program := "ytmhkekdhijnnbaa", sum := "4a4e6130628a9c1f5d3bbf8deb7ef8f7b139acd809f24f5905bed69452427943", func := "afterimage/afterimagelaw07.ReaderSticks", spec := "readerSticks", unfollowed := true, recurses := true, apart := false }
def ReaderSticksSaid : Prop := readerSticksRow.holds Try.pinned (OpenSpec.ofChange readerSticksSpec)

/-- ITS FALSE NEIGHBOUR: 'it returns false'. Refute it at one input. -/
def readerSticksWrong : ChangeSpec := { name := "readerSticks", fn := fun _ => fun
  | [d1, d2, d3] => { results := [.lit (.bool false)], args := [d1, d2, d3] }
  | _ => none }
def ReaderSticksWrongFalsely : Prop := readerSticksRow.holds Try.pinned (OpenSpec.ofChange readerSticksWrong)

/-- 'afterimagelaw07.ReaderBack': WHATEVER THE INPUT: true; the input reads as it did. -/
def readerBackSpec : ChangeSpec := { name := "readerBack", fn := fun _ => fun
  | [d1, d2] => { results := [.lit (.bool true)], args := [d1, d2] }
  | _ => none }
def readerBackRow : OpenClaim := { program := "ytmhkekdhijnnbaa", sum := "4a4e6130628a9c1f5d3bbf8deb7ef8f7b139acd809f24f5905bed69452427943", func := "afterimage/afterimagelaw07.ReaderBack", spec := "readerBack", unfollowed := true, recurses := true, apart := false }
def ReaderBackSaid : Prop := readerBackRow.holds Try.pinned (OpenSpec.ofChange readerBackSpec)

/-- ITS FALSE NEIGHBOUR: 'it returns false'. Refute it at one input. -/
def readerBackWrong : ChangeSpec := { name := "readerBack", fn := fun _ => fun
  | [d1, d2] => { results := [.lit (.bool false)], args := [d1, d2] }
  | _ => none }
def ReaderBackWrongFalsely : Prop := readerBackRow.holds Try.pinned (OpenSpec.ofChange readerBackWrong)

/- THE SECOND FORM. 'bulk': how many values and letters a reading holds, each counted each time it is reached (what is shared counts as often as it is met; a slice's spare places count too). A statement '..UptoSaid' is the law's where the arguments, and the package variables that the reading takes, are together of bulk at most 1048576: NARROWER than '..Said'. Prove '..Said' where nothing that the law and all that it calls make is longer than what came in: it says more and counts as full. Else prove '..UptoSaid'. A law counts once. -/
mutual
def uptoBulk {H : Type} : DataW H → Nat
  | .lit (.string bytes) => bytes.length + 1
  | .lit _ => 1
  | .nil => 1
  | .ptr d => uptoBulk d + 1
  | .slice elems spare => uptoBulkAll elems + uptoBulkAll spare + 1
  | .agg parts => uptoBulkAll parts + 1
  | .iface _ d => uptoBulk d + 1
  | .map entries => uptoBulkEntries entries + 1
  | .held _ => 1
def uptoBulkAll {H : Type} : List (DataW H) → Nat
  | [] => 0
  | d :: r => uptoBulk d + uptoBulkAll r
def uptoBulkEntries {H : Type} : List (Lit × DataW H) → Nat
  | [] => 0
  | x :: r => uptoBulkEntry x + uptoBulkEntries r
def uptoBulkEntry {H : Type} : Lit × DataW H → Nat
  | (.string bytes, d) => bytes.length + uptoBulk d + 1
  | (_, d) => uptoBulk d + 1
 end
def uptoSmall : (H : Type) → List (DataW H) → Bool := fun _ ds => decide (uptoBulkAll ds ≤ 1048576)
def OpenSpec.upto (s : _root_.Go.ChangeSpec) : _root_.Go.OpenSpec := { _root_.Go.OpenSpec.ofChange s with cond := some uptoSmall }

/-- 'afterimagelaw06.CrcPieces', WHERE WHAT IT READS IS OF BULK AT MOST 1048576: true; the input reads as it did. -/
def crcPiecesUptoRow : OpenClaim := { program := "ytmhkekdhijnnbaa", sum := "4a4e6130628a9c1f5d3bbf8deb7ef8f7b139acd809f24f5905bed69452427943", func := "afterimage/afterimagelaw06.CrcPieces", spec := "crcPieces", unfollowed := true, recurses := true, apart := false, narrowed := true }
def CrcPiecesUptoSaid : Prop := crcPiecesUptoRow.holds Try.pinned (OpenSpec.upto crcPiecesSpec)

/-- 'afterimagelaw06.CrcUnlike', WHERE WHAT IT READS IS OF BULK AT MOST 1048576: true; the input reads as it did. -/
def crcUnlikeUptoRow : OpenClaim := { program := "ytmhkekdhijnnbaa", sum := "4a4e6130628a9c1f5d3bbf8deb7ef8f7b139acd809f24f5905bed69452427943", func := "afterimage/afterimagelaw06.CrcUnlike", spec := "crcUnlike", unfollowed := true, recurses := true, apart := false, narrowed := true }
def CrcUnlikeUptoSaid : Prop := crcUnlikeUptoRow.holds Try.pinned (OpenSpec.upto crcUnlikeSpec)

/-- 'afterimagelaw06.CrcSums', WHERE WHAT IT READS IS OF BULK AT MOST 1048576: true; the input reads as it did. -/
def crcSumsUptoRow : OpenClaim := { program := "ytmhkekdhijnnbaa", sum := "4a4e6130628a9c1f5d3bbf8deb7ef8f7b139acd809f24f5905bed69452427943", func := "afterimage/afterimagelaw06.CrcSums", spec := "crcSums", unfollowed := true, recurses := true, apart := false, narrowed := true }
def CrcSumsUptoSaid : Prop := crcSumsUptoRow.holds Try.pinned (OpenSpec.upto crcSumsSpec)

/-- 'afterimagelaw06.CrcOpens', WHERE WHAT IT READS IS OF BULK AT MOST 1048576: true; the input reads as it did. -/
def crcOpensUptoRow : OpenClaim := { program := "ytmhkekdhijnnbaa", sum := "4a4e6130628a9c1f5d3bbf8deb7ef8f7b139acd809f24f5905bed69452427943", func := "afterimage/afterimagelaw06.CrcOpens", spec := "crcOpens", unfollowed := true, recurses := true, apart := false, narrowed := true }
def CrcOpensUptoSaid : Prop := crcOpensUptoRow.holds Try.pinned (OpenSpec.upto crcOpensSpec)

/-- 'afterimagelaw06.CrcTurns', WHERE WHAT IT READS IS OF BULK AT MOST 1048576: true; the input reads as it did. -/
def crcTurnsUptoRow : OpenClaim := { program := "ytmhkekdhijnnbaa", sum := "4a4e6130628a9c1f5d3bbf8deb7ef8f7b139acd809f24f5905bed69452427943", func := "afterimage/afterimagelaw06.CrcTurns", spec := "crcTurns", unfollowed := true, recurses := true, apart := false, narrowed := true }
def CrcTurnsUptoSaid : Prop := crcTurnsUptoRow.holds Try.pinned (OpenSpec.upto crcTurnsSpec)

/-- 'afterimagelaw05.VarintPuts', WHERE WHAT IT READS IS OF BULK AT MOST 1048576: true; the input reads as it did. -/
def varintPutsUptoRow : OpenClaim := { program := "ytmhkekdhijnnbaa", sum := "4a4e6130628a9c1f5d3bbf8deb7ef8f7b139acd809f24f5905bed69452427943", func := "afterimage/afterimagelaw05.VarintPuts", spec := "varintPuts", apart := false, narrowed := true }
def VarintPutsUptoSaid : Prop := varintPutsUptoRow.holds Try.pinned (OpenSpec.upto varintPutsSpec)

/-- 'afterimagelaw05.VarintGets', WHERE WHAT IT READS IS OF BULK AT MOST 1048576: true; the input reads as it did. -/
def varintGetsUptoRow : OpenClaim := { program := "ytmhkekdhijnnbaa", sum := "4a4e6130628a9c1f5d3bbf8deb7ef8f7b139acd809f24f5905bed69452427943", func := "afterimage/afterimagelaw05.VarintGets", spec := "varintGets", apart := false, narrowed := true }
def VarintGetsUptoSaid : Prop := varintGetsUptoRow.holds Try.pinned (OpenSpec.upto varintGetsSpec)

/-- 'afterimagelaw05.VarintBack', WHERE WHAT IT READS IS OF BULK AT MOST 1048576: true; the input reads as it did. -/
def varintBackUptoRow : OpenClaim := { program := "ytmhkekdhijnnbaa", sum := "4a4e6130628a9c1f5d3bbf8deb7ef8f7b139acd809f24f5905bed69452427943", func := "afterimage/afterimagelaw05.VarintBack", spec := "varintBack", apart := false, narrowed := true }
def VarintBackUptoSaid : Prop := varintBackUptoRow.holds Try.pinned (OpenSpec.upto varintBackSpec)

/-- 'afterimagelaw05.VarintRows', WHERE WHAT IT READS IS OF BULK AT MOST 1048576: true; the input reads as it did. -/
def varintRowsUptoRow : OpenClaim := { program := "ytmhkekdhijnnbaa", sum := "4a4e6130628a9c1f5d3bbf8deb7ef8f7b139acd809f24f5905bed69452427943", func := "afterimage/afterimagelaw05.VarintRows", spec := "varintRows", apart := false, narrowed := true }
def VarintRowsUptoSaid : Prop := varintRowsUptoRow.holds Try.pinned (OpenSpec.upto varintRowsSpec)

/-- 'afterimagelaw05.VarintSigns', WHERE WHAT IT READS IS OF BULK AT MOST 1048576: true; the input reads as it did. -/
def varintSignsUptoRow : OpenClaim := { program := "ytmhkekdhijnnbaa", sum := "4a4e6130628a9c1f5d3bbf8deb7ef8f7b139acd809f24f5905bed69452427943", func := "afterimage/afterimagelaw05.VarintSigns", spec := "varintSigns", apart := false, narrowed := true }
def VarintSignsUptoSaid : Prop := varintSignsUptoRow.holds Try.pinned (OpenSpec.upto varintSignsSpec)

/-- 'afterimagelaw05.VarintOrder', WHERE WHAT IT READS IS OF BULK AT MOST 1048576: true; the input reads as it did. -/
def varintOrderUptoRow : OpenClaim := { program := "ytmhkekdhijnnbaa", sum := "4a4e6130628a9c1f5d3bbf8deb7ef8f7b139acd809f24f5905bed69452427943", func := "afterimage/afterimagelaw05.VarintOrder", spec := "varintOrder", unfollowed := true, recurses := true, apart := false, narrowed := true }
def VarintOrderUptoSaid : Prop := varintOrderUptoRow.holds Try.pinned (OpenSpec.upto varintOrderSpec)

/-- 'afterimagelaw07.ReaderCounts', WHERE WHAT IT READS IS OF BULK AT MOST 1048576: true; the input reads as it did. -/
def readerCountsUptoRow : OpenClaim := { program := "ytmhkekdhijnnbaa", sum := "4a4e6130628a9c1f5d3bbf8deb7ef8f7b139acd809f24f5905bed69452427943", func := "afterimage/afterimagelaw07.ReaderCounts", spec := "readerCounts", unfollowed := true, recurses := true, apart := false, narrowed := true }
def ReaderCountsUptoSaid : Prop := readerCountsUptoRow.holds Try.pinned (OpenSpec.upto readerCountsSpec)

/-- 'afterimagelaw07.ReaderActs', WHERE WHAT IT READS IS OF BULK AT MOST 1048576: true; the input reads as it did. -/
def readerActsUptoRow : OpenClaim := { program := "ytmhkekdhijnnbaa", sum := "4a4e6130628a9c1f5d3bbf8deb7ef8f7b139acd809f24f5905bed69452427943", func := "afterimage/afterimagelaw07.ReaderActs", spec := "readerActs", unfollowed := true, recurses := true, apart := false, narrowed := true }
def ReaderActsUptoSaid : Prop := readerActsUptoRow.holds Try.pinned (OpenSpec.upto readerActsSpec)

/-- 'afterimagelaw07.ReaderNone', WHERE WHAT IT READS IS OF BULK AT MOST 1048576: true; the input reads as it did. -/
def readerNoneUptoRow : OpenClaim := { program := "ytmhkekdhijnnbaa", sum := "4a4e6130628a9c1f5d3bbf8deb7ef8f7b139acd809f24f5905bed69452427943", func := "afterimage/afterimagelaw07.ReaderNone", spec := "readerNone", unfollowed := true, recurses := true, apart := false, narrowed := true }
def ReaderNoneUptoSaid : Prop := readerNoneUptoRow.holds Try.pinned (OpenSpec.upto readerNoneSpec)

/-- 'afterimagelaw07.ReaderSticks', WHERE WHAT IT READS IS OF BULK AT MOST 1048576: true; the input reads as it did. -/
def readerSticksUptoRow : OpenClaim := { program := "ytmhkekdhijnnbaa", sum := "4a4e6130628a9c1f5d3bbf8deb7ef8f7b139acd809f24f5905bed69452427943", func := "afterimage/afterimagelaw07.ReaderSticks", spec := "readerSticks", unfollowed := true, recurses := true, apart := false, narrowed := true }
def ReaderSticksUptoSaid : Prop := readerSticksUptoRow.holds Try.pinned (OpenSpec.upto readerSticksSpec)

/-- 'afterimagelaw07.ReaderBack', WHERE WHAT IT READS IS OF BULK AT MOST 1048576: true; the input reads as it did. -/
def readerBackUptoRow : OpenClaim := { program := "ytmhkekdhijnnbaa", sum := "4a4e6130628a9c1f5d3bbf8deb7ef8f7b139acd809f24f5905bed69452427943", func := "afterimage/afterimagelaw07.ReaderBack", spec := "readerBack", unfollowed := true, recurses := true, apart := false, narrowed := true }
def ReaderBackUptoSaid : Prop := readerBackUptoRow.holds Try.pinned (OpenSpec.upto readerBackSpec)

end Rows
end Go.Proofs.Ytmhkekdhijnnbaa
