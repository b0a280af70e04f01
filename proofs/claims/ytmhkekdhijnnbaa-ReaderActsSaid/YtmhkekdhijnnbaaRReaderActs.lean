/- The Go function afterimagelaw07.ReaderActs returns true for every input, and each argument reads afterwards as it read before. Conditions: none beyond the row's own. -/
import Derived.Test.YtmhkekdhijnnbaaRows
import Derived.Test.YtmhkekdhijnnbaaLReaderActs
import Derived.Test.YtmhkekdhijnnbaaSxH
import Derived.Test.YtmhkekdhijnnbaaSxRrd
import Derived.ProofKit
import Derived.OpenShut
import Derived.ShutString
import Derived.ChangeOld
namespace Go.Proofs.Ytmhkekdhijnnbaa.readerActs
open Go Go.Sx Go.ChangeShapes Go.WideShapes Go.ChangeAt Go.RowKit
open Go.ChangeMaps (open_string shut_string)
set_option linter.unusedVariables false
set_option linter.unusedSimpArgs false
theorem own : ownKnob Try.prog.godebug = none := by kernel_rfl
theorem laidOut : laidOutB Try.prog = true := by kernel_rfl
set_option maxRecDepth 100000 in
theorem lifted (os : Os) (started : os.Started) (H : Type) (enc : TypeId × Value → H) :
    ReturnsInHanded {} Try.checked os 15 .any (Rows.readerActsSpec.pre6 enc Try.prog Try.f15 Rows.readerActsRow.domain false) (Rows.readerActsSpec.post enc Try.prog Try.f15 false true false false) := by
  refine returnsInHanded_of_change_sized (C := Try.checked) own started (by kernel_rfl) Try.func15
    (ChangeSpec.witness6 (enc := enc) (C := Try.checked) false ⟨#[], #[.slice none 0 0, .slice none 0 0], []⟩ 8 (by kernel_rfl) (by kernel_rfl) (by kernel_rfl) (by kernel_rfl)) ?_
  intro W base args ds gs before hval0 hW hcnd hsz0 _
  have hsz : (DataW.weightsEach Try.prog (Try.f15.params.toList ++ Rows.readerActsSpec.plain.varTypes Try.prog) (ds ++ gs)).all (· ≤ reachBytes) = true := hsz0
  have hval : ∀ (j : Nat) t v, Try.f15.params[j]? = some t → args[j]? = some v → Value.okWide Try.prog W .any base t v := hval0
  have hW' := hW
  obtain ⟨p, q, hA0, hV, rfl, hfz, hnd⟩ := hW
  have hA : DataW.TrodAll enc Try.prog W 0 (fun _ => true) true Try.f15.params.toList args.toList ds p := hA0
  rw [Try.params15] at hA hval hsz
  obtain ⟨v0, vs0, d0, ds0, p0, q0, hargs, rfl, rfl, h0, r0⟩ := trodAll_cons hA
  obtain ⟨v1, vs1, d1, ds1, p1, q1, rfl, rfl, rfl, h1, r1⟩ := trodAll_cons r0
  obtain ⟨rfl, rfl, rfl⟩ := trodAll_nil r1
  obtain rfl : args = #[v0, v1] := by cases args; simp_all
  obtain ⟨rfl, rfl⟩ := trodVars_none hV
  obtain ⟨a0, len0, cap0, rfl⟩ := okWide_slice Try.underlying22 (hval 0 22 v0 rfl rfl)
  have k0 := h0
  have lt0 : ∀ x ∈ p0, x.block < W.heap.size := by obtain ⟨m, hm⟩ := k0; exact DataW.trod_lt m _ _ _ hm
  have y0 : len0 * 1 ≤ 140737488351232 := sized_ints hsz (j := 0) (t := 22) rfl rfl Try.underlying22 Try.underlying5 (by kernel_rfl) (by kernel_rfl) h0
  obtain ⟨bs0, hb0⟩ := open_rd_bytes (P := Try.prog) (W := W) (a := a0) (len := len0) (cap := cap0) (p := p0) (d := d0) (enc := enc) Try.underlying22 Try.underlying5 (by kernel_rfl) h0
  obtain ⟨a1, len1, cap1, rfl⟩ := okWide_slice Try.underlying51 (hval 1 51 v1 rfl rfl)
  have k1 := h1
  have lt1 : ∀ x ∈ p1, x.block < W.heap.size := by obtain ⟨m, hm⟩ := k1; exact DataW.trod_lt m _ _ _ hm
  obtain ⟨f1, hf1, hb1, _⟩ := open_rd_flat (P := Try.prog) (W := W) (a := a1) (len := len1) (cap := cap1) (p := p1) (d := d1) (enc := enc) (n := 4) (size := 3) (ks := [.i .i64, .i .u64, .i .u8]) Try.underlying51 (by kernel_rfl) (by kernel_rfl) rfl (by decide) h1
  obtain ⟨l1, _, hl1⟩ := list_of (g := actV) len1 (fun i hi => act_of (hf1 i hi))
  rw [hl1] at hb1
  clear hA0 hval0 hsz0 hsz
  refine (Calls.mono (readerActs_ok _ len0 bs0 _ len1 l1 W hb0 hb1) ?_)
  rintro e W' ⟨_, _, rfl, ⟨rfl, rfl⟩, hmem⟩
  have bel := hmem.chg.below
  exact ⟨_, rfl, _, _, _, [], _, [], hW', trodAll_mk1 (shut_bool Try.underlying4 _), (trodAll_cons_mk (Below.trod laidOut (by kernel_rfl) (of_decide_eq_true (by kernel_rfl)) k0 bel lt0) (trodAll_cons_mk (Below.trod laidOut (by kernel_rfl) (of_decide_eq_true (by kernel_rfl)) k1 bel lt1) trodAll_mk0)), rfl, bel.frame _, fun h => by cases h⟩
theorem over : Rows.readerActsRow.holds Try.pinned (OpenSpec.ofChange Rows.readerActsSpec) :=
  OpenClaim.holds_of_wide 15 Try.f15 rfl rfl rfl rfl rfl rfl rfl ⟨rfl, rfl, rfl, rfl, rfl⟩ rfl rfl rfl rfl rfl (by kernel_rfl) Try.func15 (by kernel_rfl)
    (of_decide_eq_true (by kernel_rfl)) (by unfold Func.isWrapper; first | (rw [if_pos (by decide +kernel)]; kernel_rfl) | (rw [if_neg (by decide +kernel)]; exact ⟨rfl, rfl⟩))
    (fun os started H enc _ => lifted os started H enc)
theorem proved : Rows.ReaderActsSaid := over
end Go.Proofs.Ytmhkekdhijnnbaa.readerActs
namespace Go.Proofs.Ytmhkekdhijnnbaa
/-- The row, under a short name, for the claim. -/
theorem readerActs_holds : Rows.ReaderActsSaid := readerActs.proved
#print axioms readerActs_holds
end Go.Proofs.Ytmhkekdhijnnbaa
