/- Walks of reader: New, the document's, the example: what each function does, over the program of this seat. Printed by a program of this session. -/
import Derived.Test.YtbioemaipghagaaGreatQWrd
import Derived.Test.YtbioemaipghagaaGreatQSxRecs
import Derived.Test.YtbioemaipghagaaGreatQSxBasB
namespace Go.Proofs.YtbioemaipghagaaGreat
open Go Go.Sx Go.RowKit
set_option linter.unusedVariables false
set_option linter.unusedSimpArgs false
set_option maxRecDepth 4000
set_option maxHeartbeats 1000000

theorem new_ok (v : Value) (m : Nat) (bs : List Byte) (w0 : World) (hb : Rd w0 [] v 1 m (bytesV bs)) : Calls Tryz.prog 44 #[v] w0 (Ret w0 [] fun u N => ∃ g, u = .pointer (some ⟨g, 0, none⟩) ∧ N = [blk g [v, .int .i64 (((⟨0, 0⟩ : Rs).p : Nat) : Int), .int .i64 (((⟨0, 0⟩ : Rs).e : Nat) : Int)] 127]) := by
 have hbl : bs.length = m := by have := hb.len; simpa [bytesV] using this
 have hbe : m ≤ maxLen := hb.le
 simp only [maxLen] at hbe
 refine enterG (F0 := [(0, v)]) Tryz.func44 rfl rfl rfl (.c .n) (Mem.nil _) fun a w hs => ?_
 refine go 2 [] [3] hs .n ?_; clear hs w a; intro a w hs
 refine st_build (it := Tryz.t127) (zs := [.slice none 0 0, .int .i64 (0), .int .i64 (0)]) (places := [(0, 1), (1, 1), (2, 1)]) hs (.c rfl .n) Tryz.underlying127 rfl rfl rfl rfl (.c rfl (hs.rd0 hb).isSl.lcells (.z (.c .n)) .n) rfl ?_; clear hs w a; intro a w hs
 refine goL 2 [0] [2] hs .n (fun g1 => ?_); clear hs w a; intro a w hs
 exact fin hs rfl rfl ⟨_, rfl, rfl⟩
end Go.Proofs.YtbioemaipghagaaGreat
