/- From a row's arguments to what the walks are told. -/
import Derived.Test.YtkobgcoegajfcaaSxG
import Derived.OpenShut
import Derived.SizedLaws
import Derived.ChangeSlices
namespace Go.Sx
open Go.RowKit Go.ChangeShapes Go.WideShapes
set_option linter.unusedVariables false
section
variable {H : Type} {enc : TypeId × Value → H} {P : Program} {W : World} {t e : TypeId} {a : Option Addr} {len cap : Nat} {d : DataW H} {p : List MemPlace}
/-- What a slice of whole numbers that came in holds, and that it is no longer than the row lets it be. -/
theorem open_row {k : IntKind} (ht : P.underlying t = some (.slice e)) (he : P.underlying e = some (.int k)) (hc : P.cellsOf e = 1) (h : DataW.Trod enc P W 0 (fun _ => true) true t (.slice a len cap) d p) :
    ∃ zs : List Int, Rd W [] (.slice a len cap) 1 len (zs.map (Value.int k)) ∧ (∀ z ∈ zs, (Lit.int k z).wf = true) ∧ ∃ ys : List Int, len ≤ ys.length ∧ (d = .nil ∧ len = 0 ∨ d = .slice (lits k (ys.take len)) (lits k (ys.drop len))) := by
  obtain ⟨fuel, hf⟩ := h
  rcases open_ints ht he hc hf with ⟨hcs, hx⟩ | ⟨x, l, c, zs, hcs, _, hl, hm, hz, hx, hcell, hwz⟩
  · simp [Value.cells] at hcs
    obtain ⟨rfl, rfl, rfl⟩ := hcs
    exact ⟨[], rd_nil W [] 1, by simp, [], by simp, .inl ⟨(Prod.mk.inj hx).1, rfl⟩⟩
  · simp [Value.cells] at hcs
    obtain ⟨rfl, rfl, rfl⟩ := hcs
    have hz' : zs.length = cap := by simpa using hz
    refine ⟨zs.take len, ⟨⟨_, cap, rfl, hl, hm⟩, by simp; omega, fun h0 => ⟨x, cap, rfl, by simp, ?_, fun j u hu => ?_⟩⟩, fun z hz => hwz z (List.mem_of_mem_take hz), zs, by omega, .inr (Prod.mk.inj hx).1⟩
    · have := hcell 0 (by omega)
      exact World.block_lt_of_cell? W (x.add 0) this
    · rw [List.getElem?_map, List.getElem?_take] at hu
      split at hu
      · rename_i hj
        have hj' : j < zs.length := by omega
        rw [hcell j hj']
        simpa [List.getD_eq_getElem?_getD, List.getElem?_eq_getElem hj'] using hu
      · cases hu
theorem sized_ints {ts : List TypeId} {ds : List (DataW H)} {j : Nat} {k : IntKind} (hsz : (DataW.weightsEach P ts ds).all (· ≤ reachBytes) = true) (hj : ts[j]? = some t) (hd : ds[j]? = some d) (ht : P.underlying t = some (.slice e)) (he : P.underlying e = some (.int k)) (hc : P.cellsOf e = 1) {B : Nat} (hB : P.bytesOf e = B)
    (h : DataW.Trod enc P W 0 (fun _ => true) true t (.slice a len cap) d p) : len * B ≤ 140737488351232 := by
  obtain ⟨_, _, _, ys, hl, h2⟩ := open_row ht he hc h
  rcases h2 with ⟨_, rfl⟩ | rfl
  · simp
  · have z := sized_slice hsz hj hd ht
    rw [hB] at z
    have h1 : (lits (H := H) k (ys.take len)).length + (lits (H := H) k (ys.drop len)).length = ys.length := by
      simp [lits]; omega
    rw [h1] at z
    exact Nat.le_trans (Nat.mul_le_mul_right _ hl) z
theorem bv8_of {z : Int} (h : (Lit.int .u8 z).wf = true) : ∃ b : Byte, z = (b.toNat : Int) := by
  have hb := bounds_u8 h
  refine ⟨BitVec.ofNat 8 z.toNat, ?_⟩
  rw [BitVec.toNat_ofNat, Nat.mod_eq_of_lt (by omega)]
  omega
theorem bytes_of_ints : ∀ (zs : List Int), (∀ z ∈ zs, (Lit.int .u8 z).wf = true) → ∃ bs : List Byte, zs.map (Value.int .u8) = bytesV bs
  | [], _ => ⟨[], rfl⟩
  | z :: zs, h => by
    obtain ⟨b, hb⟩ := bv8_of (h z (by simp))
    obtain ⟨bs, hbs⟩ := bytes_of_ints zs fun y hy => h y (by simp [hy])
    exact ⟨b :: bs, by rw [List.map_cons, hbs, hb]; rfl⟩
theorem open_rd_bytes (ht : P.underlying t = some (.slice e)) (he : P.underlying e = some (.int .u8)) (hc : P.cellsOf e = 1) (h : DataW.Trod enc P W 0 (fun _ => true) true t (.slice a len cap) d p) :
    ∃ bs : List Byte, Rd W [] (.slice a len cap) 1 len (bytesV bs) := by
  obtain ⟨zs, hr, hw, _⟩ := open_row ht he hc h
  obtain ⟨bs, hbs⟩ := bytes_of_ints zs hw
  exact ⟨bs, hbs ▸ hr⟩
theorem open_rd_ints {k : IntKind} (ht : P.underlying t = some (.slice e)) (he : P.underlying e = some (.int k)) (hc : P.cellsOf e = 1) (h : DataW.Trod enc P W 0 (fun _ => true) true t (.slice a len cap) d p) :
    ∃ zs : List Int, Rd W [] (.slice a len cap) 1 len (zs.map (Value.int k)) ∧ ∀ z ∈ zs, (Lit.int k z).wf = true := by
  obtain ⟨zs, hr, hw, _⟩ := open_row ht he hc h
  exact ⟨zs, hr, hw⟩
end
theorem bv_of_wf_u8 {z : Int} (h : (Lit.int .u8 z).wf = true) : ∃ b : BitVec 8, z = ((b.toNat : Nat) : Int) := bv8_of h
theorem bv_of_wf_u16 {z : Int} (h : (Lit.int .u16 z).wf = true) : ∃ b : BitVec 16, z = ((b.toNat : Nat) : Int) := by
  have hb := bounds_u16 h
  exact ⟨BitVec.ofNat 16 z.toNat, by rw [BitVec.toNat_ofNat, Nat.mod_eq_of_lt (by omega)]; omega⟩
theorem bv_of_wf_u32 {z : Int} (h : (Lit.int .u32 z).wf = true) : ∃ b : BitVec 32, z = ((b.toNat : Nat) : Int) := by
  have hb := bounds_u32 h
  exact ⟨BitVec.ofNat 32 z.toNat, by rw [BitVec.toNat_ofNat, Nat.mod_eq_of_lt (by omega)]; omega⟩
theorem bv_of_wf_u64 {z : Int} (h : (Lit.int .u64 z).wf = true) : ∃ b : BitVec 64, z = ((b.toNat : Nat) : Int) := by
  have hb := bounds_u64 h
  exact ⟨BitVec.ofNat 64 z.toNat, by rw [BitVec.toNat_ofNat, Nat.mod_eq_of_lt (by omega)]; omega⟩
theorem i64_of_wf {z : Int} (h : (Lit.int .i64 z).wf = true) : -9223372036854775808 ≤ z ∧ z ≤ 9223372036854775807 := by
  have hb := bounds_i64 h
  omega
theorem u64s_of_wf : ∀ (zs : List Int), (∀ z ∈ zs, (Lit.int .u64 z).wf = true) → ∃ l : List (BitVec 64), zs.map (Value.int .u64) = l.map fun X => Value.int .u64 ((X.toNat : Nat) : Int)
  | [], _ => ⟨[], rfl⟩
  | z :: zs, h => by
    obtain ⟨X, hX⟩ := bv_of_wf_u64 (h z (by simp))
    obtain ⟨l, hl⟩ := u64s_of_wf zs fun y hy => h y (by simp [hy])
    exact ⟨X :: l, by simp [hl, hX]⟩
end Go.Sx
