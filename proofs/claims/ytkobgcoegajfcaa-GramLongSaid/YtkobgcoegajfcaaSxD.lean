/- Steps that make memory, write it, call. -/
import Derived.Test.YtkobgcoegajfcaaSxC
import Derived.Great.BuildSlice
set_option linter.unusedVariables false
set_option linter.unusedSimpArgs false
namespace Go.Sx
open Go.RowKit
variable {P : Program} {ops : Array Oper} {Q : Exit → Act → World → Prop} {rest : List Oper} {n : Nat} {F : List (Nat × Value)} {w0 : World} {S : List Nat} {M : List HA} {a : Act} {w : World}
variable {d : Nat} {ty : TypeId} {pos : String} {af : Array Edge}

/-! ### New blocks -/
theorem mem_new {w w' : World} {v' : Value} {e size n' : Nat} {xs' : List Value} (hg : w.grownBy w' none) (ho : w'.ownsRow 0 e size v' n' xs') (hat : ∀ k, v'.ownBlock = some k → w.heap.size ≤ k) : Mem w (feet []) [row v' e size n' xs'] w' := by
  refine ⟨⟨hg.os, hg.tape, hg.output, hg.size, fun k hk hS => hg.block k hk (by simp)⟩, ?_, ?_, ?_⟩
  · intro h hh
    simp only [List.mem_singleton] at hh
    subst hh
    exact ho
  · cases hv : v'.ownBlock <;> simp [feet, row, hv]
  · intro k hk
    exact .inr (hat k (by simpa [feet, row] using hk))
theorem St.alloc (hs : St n F w0 S M a w) (cs : List Value) (t : TypeId) : St n F w0 S (blk w.heap.size cs t :: M) a (w.alloc (.cells cs.toArray t)) := by
  have := hs.frame (Dels.n (M := M)) (mem_alloc w cs.toArray t)
  simpa using this
theorem run_newRow (cs : List Value) (t : TypeId) : (newRow t cs.toArray).run P w = .ok ⟨w.heap.size, 0, none⟩ (w.alloc (.cells cs.toArray t)) := rfl
theorem st_alloc {t : TypeId} {z : Value} {cs : List Value} (hs : St n F w0 S M a w) (hz : ∀ w, (zeroValue t).run P w = .ok z w) (hc : z.cells = cs.toArray) (hd : Nat.blt d n = true)
    (k : ∀ g a w, St n ((d, .pointer (some ⟨g, 0, none⟩)) :: F) w0 S (blk g cs t :: M) a w → wpList P ops Q rest a w) : wpList P ops Q (⟨some d, .alloc t, ty, pos, af, none⟩ :: rest) a w :=
  st_val rfl rfl (by simp [execOp, Instr.alloc, hz, newVar, hc, run_newRow]) (k _ _ _ ((hs.alloc cs t).put hd _))
theorem st_box {t : TypeId} {x : Operand} {v : Value} {cs : List Value} (hs : St n F w0 S M a w) (hx : evo F x = some v) (hc : v.cells = cs.toArray) (hd : Nat.blt d n = true)
    (k : ∀ g a w, St n ((d, .pointer (some ⟨g, 0, none⟩)) :: F) w0 S (blk g cs t :: M) a w → wpList P ops Q rest a w) : wpList P ops Q (⟨some d, .box t x, ty, pos, af, none⟩ :: rest) a w :=
  st_val rfl rfl (by simp [execOp, Instr.box, hs.ev hx, newVar, hc, run_newRow]) (k _ _ _ ((hs.alloc cs t).put hd _))
theorem st_mf {fn : Fn} {fs cs : List Operand} {vs us : List Value} (hs : St n F w0 S M a w) (hf : Evs F fs vs) (hc : Evs F cs us) (hd : Nat.blt d n = true)
    (k : ∀ a w, St n ((d, .func fn vs.toArray us.toArray) :: F) w0 S M a w → wpList P ops Q rest a w) : wpList P ops Q (⟨some d, .makeFunc fn fs.toArray cs.toArray, ty, pos, af, none⟩ :: rest) a w :=
  st_pure hs (by simp [execOp, Instr.makeFunc, hs.evs hf, hs.evs hc]) hd k

/-! ### Cells of a block -/
theorem cell_blk {g : Nat} {cs : List Value} {t : TypeId} {i : Nat} (h : w.heap[g]? = some (.cells cs.toArray t (0, 0))) : w.cell? ⟨g, i, none⟩ = cs[i]? := by
  simp [World.cell?, h]
theorem frozen_blk {g : Nat} {cs : List Value} {t : TypeId} {i : Nat} (h : w.heap[g]? = some (.cells cs.toArray t (0, 0))) : w.frozen? ⟨g, i, none⟩ = false := by
  simp [World.frozen?, h]
theorem st_ldB {x : Operand} {v : Value} {t t2 : TypeId} {g i : Nat} {cs : List Value} {M' : List HA} (hs : St n F w0 S M a w) (hx : evo F x = some (.pointer (some ⟨g, i, none⟩))) (hb : Del M (blk g cs t2) M') (hv : Nth cs i v)
    (hag : ∀ w, (isAgg t).run P w = .ok false w) (hd : Nat.blt d n = true)
    (k : ∀ a w, St n ((d, v) :: F) w0 S M a w → wpList P ops Q rest a w) : wpList P ops Q (⟨some d, .load t x, ty, pos, af, none⟩ :: rest) a w := by
  have hc := (cell_blk (i := i) (hs.mem.del hb)).trans hv.get
  exact st_pure hs (by simp [execOp, Instr.loadAt, Instr.sureAddr, loadVar, hs.ev hx, hag, run_load, hc]) hd k
theorem st_ldBA {x : Operand} {vs : List Value} {t t2 : TypeId} {g i sz : Nat} {cs : List Value} {M' : List HA} (hs : St n F w0 S M a w) (hx : evo F x = some (.pointer (some ⟨g, i, none⟩))) (hb : Del M (blk g cs t2) M') (hv : Cut cs i sz vs)
    (hag : ∀ w, (isAgg t).run P w = .ok true w) (hsz : ∀ w, (sizeOf t).run P w = .ok sz w) (hd : Nat.blt d n = true)
    (k : ∀ a w, St n ((d, .agg vs.toArray) :: F) w0 S M a w → wpList P ops Q rest a w) : wpList P ops Q (⟨some d, .load t x, ty, pos, af, none⟩ :: rest) a w := by
  have he := hv.eq
  have hcl : vs.length = sz := by rw [he.1]; simp; omega
  have hrun := run_loadCells_list (P := P) w ⟨g, i, none⟩ vs (fun j u hj => by
    have ha : (⟨g, i, none⟩ : Addr).add j = ⟨g, i + j, none⟩ := by unfold Addr.add; split <;> simp_all
    rw [ha, cell_blk (hs.mem.del hb)]
    rw [he.1, List.getElem?_take] at hj
    split at hj
    · simpa using hj
    · cases hj)
  rw [hcl] at hrun
  exact st_pure hs (by simp [execOp, Instr.loadAt, Instr.sureAddr, loadVar, hs.ev hx, hag, hsz, hrun]) hd k
theorem run_storeOne {g i : Nat} {cs : List Value} {t2 : TypeId} {u : Value} (h : w.heap[g]? = some (.cells cs.toArray t2 (0, 0))) (hi : i < cs.length) (h1 : u.oneCell' = true) :
    (store ⟨g, i, none⟩ u).run P w = .ok () (w.setCell ⟨g, i, none⟩ u) := by
  have hc := (cell_blk (i := i) h).trans (List.getElem?_eq_getElem hi)
  have hf := frozen_blk (i := i) h
  unfold store
  cases u <;> first | (simp [Value.oneCell'] at h1; done) | simp [Sem.run, hc, hf]
theorem st_stB {x y : Operand} {u : Value} {t t2 : TypeId} {g i : Nat} {cs cs' : List Value} {M' : List HA} (hs : St n F w0 S M a w) (hx : evo F x = some (.pointer (some ⟨g, i, none⟩))) (hy : evo F y = some u) (hb : Del M (blk g cs t2) M') (hv : SetAt cs i u cs')
    (h1 : u.oneCell' = true) (hsz : ∀ w, (sizeOf t).run P w = .ok 1 w)
    (k : ∀ a w, St n F w0 S (blk g cs' t2 :: M') a w → wpList P ops Q rest a w) : wpList P ops Q (⟨none, .store t x y, ty, pos, af, none⟩ :: rest) a w := by
  have hm := hs.mem.del hb
  have hrun := run_storeOne (P := P) hm hv.eq.2 h1
  have hcells : u.cells = #[u] := by cases u <;> first | rfl | (simp [Value.oneCell'] at h1; done)
  refine st_skip rfl rfl (w' := w.setCell ⟨g, i, none⟩ u) ?_ (k _ _ ?_)
  · have h0 : (⟨g, i, none⟩ : Addr).add 0 = ⟨g, i, none⟩ := rfl
    simp [h0, execOp, Instr.storeAt, Instr.sureAddr, storeVar, hs.ev hx, hs.ev hy, hsz, hcells, storeCells, hrun]
  · have := hs.frame (.c hb .n) (mem_setBlk w g i cs t2 u hm)
    rw [← hv.eq.1] at this
    exact this
theorem setRow_blk {g i : Nat} {cs : List Value} {t2 : TypeId} {vs cs' : List Value} (h : w.heap[g]? = some (.cells cs.toArray t2 (0, 0))) : Mem w (feet [blk g cs t2]) [blk g cs' t2] (w.setRow g cs'.toArray) := by
  refine ⟨⟨rfl, rfl, rfl, by simp, fun k hk hS => setRow_other w g k _ (by simpa [feet, blk] using hS)⟩, ?_, by simp [feet, blk], by simp [feet, blk]⟩
  intro y hy
  simp only [List.mem_singleton] at hy
  subst hy
  exact setRow_heap w g cs.toArray cs'.toArray t2 (0, 0) h
theorem st_stBA {x y : Operand} {vs : List Value} {t t2 : TypeId} {g i sz : Nat} {cs cs' : List Value} {M' : List HA} (hs : St n F w0 S M a w) (hx : evo F x = some (.pointer (some ⟨g, i, none⟩))) (hy : evo F y = some (.agg vs.toArray)) (hb : Del M (blk g cs t2) M') (hv : PutAt cs i vs cs')
    (h1 : ∀ u ∈ vs, u.oneCell' = true) (hsz : ∀ w, (sizeOf t).run P w = .ok sz w) (hl : vs.length = sz)
    (k : ∀ a w, St n F w0 S (blk g cs' t2 :: M') a w → wpList P ops Q rest a w) : wpList P ops Q (⟨none, .store t x y, ty, pos, af, none⟩ :: rest) a w := by
  have hm := hs.mem.del hb
  have hrun := run_storeCells_at P g i t2 vs 0 cs.toArray w hm (by simpa using hv.eq.2) h1
  have e : (cs.toArray.toList.take (i + 0) ++ vs ++ cs.toArray.toList.drop (i + 0 + vs.length)) = cs' := by simpa using hv.eq.1.symm
  rw [e] at hrun
  refine st_skip rfl rfl (w' := w.setRow g cs'.toArray) ?_ (k _ _ ?_)
  · simp [execOp, Instr.storeAt, Instr.sureAddr, storeVar, hs.ev hx, hs.ev hy, hsz, Value.cells, hl, hrun]
  · exact hs.frame (.c hb .n) (setRow_blk (i := i) (vs := vs) hm)
theorem st_fa {x : Operand} {t : TypeId} {g i f o : Nat} {fs : Array Field} {fd : Field} {sz : Nat} (hs : St n F w0 S M a w) (hx : evo F x = some (.pointer (some ⟨g, i, none⟩))) (ht : P.underlying t = some (.struct fs)) (hf : fs[f]? = some fd)
    (hsz : ∀ w, (sizeOf fd.type).run P w = .ok sz w) (h0 : sz ≠ 0) (ho : i + fd.offset = o) (hd : Nat.blt d n = true)
    (k : ∀ a w, St n ((d, .pointer (some ⟨g, o, none⟩)) :: F) w0 S M a w → wpList P ops Q rest a w) : wpList P ops Q (⟨some d, .fieldAddr t x f, ty, pos, af, none⟩ :: rest) a w := by
  have ha : (⟨g, i, none⟩ : Addr).add fd.offset = ⟨g, i + fd.offset, none⟩ := by unfold Addr.add; split <;> simp_all
  subst ho
  exact st_pure hs (by simp [execOp, Instr.fieldAt, Instr.sureAddr, hs.ev hx, run_underlying ht, hf, fieldPlace, hsz, h0, ha]) hd k
/-- The address of an array's element. -/
theorem st_iaB {x i : Operand} {t e : TypeId} {g o o' len size : Nat} {kd : IntKind} {q : Int} (hs : St n F w0 S M a w) (hx : evo F x = some (.pointer (some ⟨g, o, none⟩))) (hi : evo F i = some (.int kd q)) (ht : P.underlying t = some (.array len e))
    (h0 : 0 ≤ q) (h1 : q < len) (hsz : ∀ w, (sizeOf e).run P w = .ok size w) (ho : o + q.toNat * size = o') (hd : Nat.blt d n = true)
    (k : ∀ a w, St n ((d, .pointer (some ⟨g, o', none⟩)) :: F) w0 S M a w → wpList P ops Q rest a w) : wpList P ops Q (⟨some d, .indexAddr t x i, ty, pos, af, none⟩ :: rest) a w := by
  have ha : (⟨g, o, none⟩ : Addr).add (q.toNat * size) = ⟨g, o + q.toNat * size, none⟩ := by unfold Addr.add; split <;> simp_all
  have hb : 0 ≤ q ∧ q < (len : Int) := ⟨h0, h1⟩
  subst ho
  exact st_pure hs (by simp [execOp, Instr.indexAt, Instr.sureAddr, asIntOf, hs.ev hx, hs.ev hi, run_underlying ht, hb, hsz, ha]) hd k
theorem st_nc {x : Operand} {ad : Addr} (hs : St n F w0 S M a w) (hx : evo F x = some (.pointer (some ad))) (hd : Nat.blt d n = true)
    (k : ∀ a w, St n ((d, .pointer (some ad)) :: F) w0 S M a w → wpList P ops Q rest a w) : wpList P ops Q (⟨some d, .nilCheck x, ty, pos, af, none⟩ :: rest) a w :=
  st_pure hs (by simp [execOp, hs.ev hx]) hd k
theorem st_ncF {x : Operand} {f : FuncId} {fs cs : Array Value} (hs : St n F w0 S M a w) (hx : evo F x = some (.func (.func f) fs cs)) (hd : Nat.blt d n = true)
    (k : ∀ a w, St n ((d, .func (.func f) fs cs) :: F) w0 S M a w → wpList P ops Q rest a w) : wpList P ops Q (⟨some d, .nilCheck x, ty, pos, af, none⟩ :: rest) a w :=
  st_pure hs (by simp [execOp, hs.ev hx]) hd k
theorem run_eqp' (D : Nat) {t e : TypeId} {p : Option Addr} (ht : P.underlying t = some (.pointer e)) : (Op.equalIn (D + 1) t (.pointer p) (.pointer none)).run P w = .ok p.isNone w := by
  cases p <;> simp [Op.equalIn, run_underlying ht]
theorem st_eqnil {x y : Operand} {p : Option Addr} {t t2 e : TypeId} (hs : St n F w0 S M a w) (hx : evo F x = some (.pointer p)) (hy : evo F y = some (.pointer none)) (ht : P.underlying t = some (.pointer e)) (hd : Nat.blt d n = true)
    (k : ∀ a w, St n ((d, .bool p.isNone) :: F) w0 S M a w → wpList P ops Q rest a w) : wpList P ops Q (⟨some d, .binOp .eql t x y t2, ty, pos, af, none⟩ :: rest) a w := by
  have := run_eqp' (P := P) (w := w) 9999 (p := p) ht
  exact st_pure hs (by simp only [execOp, hs.ev hx, hs.ev hy, binOp, eqGuard, Op.equal]; simp [Op.maxDepth, this]) hd k
theorem st_neqnil {x y : Operand} {p : Option Addr} {t t2 e : TypeId} (hs : St n F w0 S M a w) (hx : evo F x = some (.pointer p)) (hy : evo F y = some (.pointer none)) (ht : P.underlying t = some (.pointer e)) (hd : Nat.blt d n = true)
    (k : ∀ a w, St n ((d, .bool (!p.isNone)) :: F) w0 S M a w → wpList P ops Q rest a w) : wpList P ops Q (⟨some d, .binOp .neq t x y t2, ty, pos, af, none⟩ :: rest) a w := by
  have := run_eqp' (P := P) (w := w) 9999 (p := p) ht
  exact st_pure hs (by simp only [execOp, hs.ev hx, hs.ev hy, binOp, eqGuard, Op.equal]; simp [Op.maxDepth, this]) hd k

/-! ### Aggregates as values, tuples -/
theorem st_ex {x : Operand} {vs : List Value} {v : Value} {i : Nat} (hs : St n F w0 S M a w) (hx : evo F x = some (.tuple vs.toArray)) (hv : Nth vs i v) (hd : Nat.blt d n = true)
    (k : ∀ a w, St n ((d, v) :: F) w0 S M a w → wpList P ops Q rest a w) : wpList P ops Q (⟨some d, .extract x i, ty, pos, af, none⟩ :: rest) a w := by
  have hg := hv.get
  exact st_pure hs (by simp [execOp, Instr.extract, hs.ev hx, hg]) hd k
theorem st_fl {x : Operand} {vs : List Value} {v : Value} {t : TypeId} {f : Nat} {fs : Array Field} {fd : Field} (hs : St n F w0 S M a w) (hx : evo F x = some (.agg vs.toArray)) (ht : P.underlying t = some (.struct fs)) (hf : fs[f]? = some fd) (hv : Nth vs fd.offset v)
    (hag : ∀ w, (isAgg fd.type).run P w = .ok false w) (hd : Nat.blt d n = true)
    (k : ∀ a w, St n ((d, v) :: F) w0 S M a w → wpList P ops Q rest a w) : wpList P ops Q (⟨some d, .field t x f, ty, pos, af, none⟩ :: rest) a w := by
  have hg := hv.get
  exact st_pure hs (by simp [execOp, Instr.field, hs.ev hx, run_underlying ht, hf, asAgg, part, hag, hg]) hd k
theorem st_flA {x : Operand} {vs us : List Value} {t : TypeId} {f sz : Nat} {fs : Array Field} {fd : Field} (hs : St n F w0 S M a w) (hx : evo F x = some (.agg vs.toArray)) (ht : P.underlying t = some (.struct fs)) (hf : fs[f]? = some fd) (hv : Cut vs fd.offset sz us)
    (hag : ∀ w, (isAgg fd.type).run P w = .ok true w) (hsz : ∀ w, (sizeOf fd.type).run P w = .ok sz w) (hd : Nat.blt d n = true)
    (k : ∀ a w, St n ((d, .agg us.toArray) :: F) w0 S M a w → wpList P ops Q rest a w) : wpList P ops Q (⟨some d, .field t x f, ty, pos, af, none⟩ :: rest) a w := by
  have he := hv.eq.1
  exact st_pure hs (by simp [execOp, Instr.field, hs.ev hx, run_underlying ht, hf, asAgg, part, hag, hsz, he]) hd k
theorem st_ix {x i : Operand} {vs : List Value} {v : Value} {t e : TypeId} {len : Nat} {kd : IntKind} {q : Int} (hs : St n F w0 S M a w) (hx : evo F x = some (.agg vs.toArray)) (hi : evo F i = some (.int kd q)) (ht : P.underlying t = some (.array len e))
    (h0 : 0 ≤ q) (h1 : q < len) (hv : vs[q.toNat]? = some v) (hag : ∀ w, (isAgg e).run P w = .ok false w) (hsz : ∀ w, (sizeOf e).run P w = .ok 1 w) (hd : Nat.blt d n = true)
    (k : ∀ a w, St n ((d, v) :: F) w0 S M a w → wpList P ops Q rest a w) : wpList P ops Q (⟨some d, .index t x i, ty, pos, af, none⟩ :: rest) a w := by
  have hb : 0 ≤ q ∧ q < (len : Int) := ⟨h0, h1⟩
  exact st_pure hs (by simp [execOp, Instr.index, asIntOf, hs.ev hx, hs.ev hi, run_underlying ht, hb, part, hag, hsz, hv]) hd k
theorem st_ixS {x i : Operand} {s : ByteArray} {t : TypeId} {kd : IntKind} {q : Int} {b : UInt8} (hs : St n F w0 S M a w) (hx : evo F x = some (.string s)) (hi : evo F i = some (.int kd q)) (ht : P.underlying t = some .string)
    (h0 : 0 ≤ q) (hb : s[q.toNat]? = some b) (hd : Nat.blt d n = true)
    (k : ∀ a w, St n ((d, .int .u8 (b.toNat : Int)) :: F) w0 S M a w → wpList P ops Q rest a w) : wpList P ops Q (⟨some d, .index t x i, ty, pos, af, none⟩ :: rest) a w :=
  st_pure hs (by simp [execOp, Instr.index, asIntOf, hs.ev hx, hs.ev hi, run_underlying ht, h0, hb]) hd k

/-! ### Slices that are made -/
theorem St.toRow {g : Nat} {cs : List Value} {e : TypeId} {size m : Nat} {M' : List HA} (hs : St n F w0 S M a w) (hb : Del M (blk g cs e) M') (hl : cs.length = m * size) (hm : m ≤ maxLen) :
    St n F w0 S (row (.slice (some ⟨g, 0, none⟩) m m) e size m cs :: M') a w := by
  refine hs.frame (N := [row (.slice (some ⟨g, 0, none⟩) m m) e size m cs]) (.c hb .n) ⟨Chg.refl _ _, ?_, by simp [feet, row, Value.ownBlock], by simp [feet, row, Value.ownBlock, blk]⟩
  intro h hh
  simp only [List.mem_singleton] at hh
  subst hh
  refine ⟨hl, .inr ⟨g, m, cs.toArray, rfl, by omega, hs.mem.del hb, Nat.le_refl _, hm, by simpa using hl, ?_⟩⟩
  rw [← hl]
  simp
theorem St.addNil (hs : St n F w0 S M a w) (e size : Nat) : St n F w0 S (row (.slice none 0 0) e size 0 [] :: M) a w := by
  refine hs.frame (N := [row (.slice none 0 0) e size 0 []]) .n ⟨Chg.refl _ _, ?_, by simp [feet, row, Value.ownBlock], by simp [feet, row, Value.ownBlock]⟩
  intro h hh
  simp only [List.mem_singleton] at hh
  subst hh
  exact World.ownsRow_nil _ _ _ _
inductive Parts : Nat → List (Nat × Operand) → List Operand → Prop
  | n {i} : Parts i [] []
  | c {i x ps xs} : Parts (i + 1) ps xs → Parts i ((i, x) :: ps) (x :: xs)
theorem Parts.eval {a : Act} {i : Nat} {ps : List (Nat × Operand)} {xs : List Operand} (h : Parts i ps xs) : ps.map (fun (i, x) => (i, a.eval x)) = ((xs.map a.eval).zipIdx i).map fun x => (x.2, x.1) := by
  induction h with
  | n => rfl
  | c _ ih => simp [ih]
theorem st_bs0 {t e : TypeId} (hs : St n F w0 S M a w) (ht : P.underlying t = some (.slice e)) (hd : Nat.blt d n = true)
    (k : ∀ g a w, St n ((d, .slice (some ⟨g, 0, none⟩) 0 0) :: F) w0 S (blk g [] e :: M) a w → wpList P ops Q rest a w) (hsz : ∃ s, ∀ w, (sizeOf e).run P w = .ok s w) : wpList P ops Q (⟨some d, .buildSlice t 0 #[], ty, pos, af, none⟩ :: rest) a w := by
  obtain ⟨s, hsz⟩ := hsz
  refine st_val rfl rfl (w' := w.alloc (.cells #[] e)) (v := .slice (some ⟨w.heap.size, 0, none⟩) 0 0) ?_ (k _ _ _ ((hs.alloc [] e).put hd _))
  have hr : (Instr.buildSlice t 0 #[]).run P w = .ok (.slice (some ⟨w.heap.size, 0, none⟩) 0 0) (w.alloc (.cells #[] e)) := by
    simp [Instr.buildSlice, run_underlying ht, hsz, Instr.fill, newRow]
    congr 2
    apply Array.eq_empty_of_size_eq_zero
    simp
  simp [execOp, hr]
theorem st_bs {t e : TypeId} {m size : Nat} {parts : List (Nat × Operand)} {xs : List Operand} {vs cs : List Value} {ie : TypeInfo} {z : Value} (hs : St n F w0 S M a w) (hp : Parts 0 parts xs) (hv : Evs F xs vs)
    (ht : P.underlying t = some (.slice e)) (hie : P.info? e = some ie) (hz : ie.zero = some z) (hsize : ie.size = size) (hzs : z.cells.size = size) (hpos : 0 < size) (hpos2 : 0 < m) (hm : vs.length = m) (hsmall : m * size ≤ 2 ^ 24)
    (h1 : (vs.all fun v => Nat.beq v.cells.size size) = true) (hcs : (vs.flatMap fun v => v.cells.toList) = cs) (hd : Nat.blt d n = true)
    (k : ∀ g a w, St n ((d, .slice (some ⟨g, 0, none⟩) m m) :: F) w0 S (blk g cs e :: M) a w → wpList P ops Q rest a w) : wpList P ops Q (⟨some d, .buildSlice t m parts.toArray, ty, pos, af, none⟩ :: rest) a w := by
  subst hsize
  have hf := Great.fill_whole hpos vs ((Array.range (m * ie.size)).map (z.cells[· % z.cells.size]!)) (fun v hv => by
    have := List.all_eq_true.1 h1 v hv
    exact Nat.eq_of_beq_eq_true this) (by simp [hm])
  have he : ((parts.toArray.map fun (i, x) => (i, a.eval x)).toList) = (vs.zipIdx 0).map fun x => (x.2, x.1) := by
    simp [hp.eval, hs.evs hv]
  rw [hcs] at hf
  have hp0 : 0 < m * ie.size := Nat.mul_pos hpos2 hpos
  refine st_val rfl rfl (w' := w.alloc (.cells cs.toArray e)) (v := .slice (some ⟨w.heap.size, 0, none⟩) m m) ?_ (k _ _ _ ((hs.alloc cs e).put hd _))
  have := run_buildSlice (P := P) w t e m (parts.toArray.map fun (i, x) => (i, a.eval x)) cs.toArray ie z ht hie hz (by omega) (by omega) (by rw [he]; exact hf)
  unfold execOp
  simp only [Sem.run_bind]
  rw [this]
  rfl
theorem st_app {x y : Operand} {v u z : Value} {t e : TypeId} {m m2 size bytes : Nat} {xs news : List Value} {T : List Nat} {M' : List HA} {i : TypeInfo}
    (hs : St n F w0 S M a w) (hx : evo F x = some v) (hy : evo F y = some u) (hb : Del M (row v e size m xs) M') (hr : Rd w T u size m2 news) (h1 : ∀ z ∈ news, z.oneCell' = true)
    (ht : P.underlying t = some (.slice e)) (hi : P.info? e = some i) (hz : i.zero = some z) (hsize : i.size = size) (hby : i.bytes = bytes) (hzs : z.cells.size = size) (hsz : 0 < size)
    (hbytes : (m + m2) * bytes ≤ 140737488355328) (h63 : m + m2 ≤ maxLen) (hd : Nat.blt d n = true)
    (k : ∀ v' a w, St n ((d, v') :: F) w0 S (row v' e size (m + m2) (xs ++ news) :: M') a w → wpList P ops Q rest a w) :
    wpList P ops Q (⟨some d, .call { callee := .builtin .append, args := #[x, y], argTypes := #[t, t] }, ty, pos, af, none⟩ :: rest) a w := by
  have how : w.ownsRow 0 e size v m xs := hs.mem.del hb
  rcases Nat.eq_zero_or_pos m2 with h0 | h0
  · subst h0
    have hn : news = [] := List.eq_nil_of_length_eq_zero (by simpa using hr.len)
    subst hn
    obtain ⟨A, c, rfl⟩ := hr.isSl
    refine st_val rfl rfl (v := v) (w' := w) ?_ ?_
    · have hsl : ∃ B c', v = .slice B m c' ∧ m ≤ c' := by
        rcases how.2 with ⟨rfl, rfl⟩ | ⟨g, cap, cur, rfl, _, _, h, _⟩
        · exact ⟨_, _, rfl, Nat.le_refl _⟩
        · exact ⟨_, _, rfl, h⟩
      obtain ⟨B, c', rfl, hle⟩ := hsl
      have hfc : ∀ q, (Builtin.firstCells size 0 (.slice A 0 c)).run P q = .ok #[] q := fun q => by cases A <;> simp [Builtin.firstCells, loadCells, loadCellsFrom]
      cases B <;> simp [execOp, resolve, invoke, builtin, Builtin.append_, hs.ev hx, hs.ev hy, run_underlying ht, sizeOf, typeInfo, hi, hsize, Builtin.lenOf, hle, hfc, storeCells]
    · have hM : Mem w (feet [row v e size m xs]) [row v e size (m + 0) (xs ++ [])] w := by
        refine ⟨Chg.refl _ _, ?_, by cases hv : v.ownBlock <;> simp [feet, row, hv], fun k hk => .inl (by simpa [feet, row] using hk)⟩
        intro h hh
        simp only [List.mem_singleton] at hh
        subst hh
        show w.ownsRow 0 e size v (m + 0) (xs ++ [])
        simpa using how
      exact k v _ _ ((hs.frame (.c hb .n) hM).put hd v)
  · obtain ⟨ad, c, rfl, hT, hlt, hcell⟩ := hr.at_ h0
    refine wpList_append_own_at w (o := ⟨some d, .call { callee := .builtin .append, args := #[x, y], argTypes := #[t, t] }, ty, pos, af, none⟩) rfl x y t rfl 0 e i z size bytes ht hi hz hsize hby hzs hsz v m xs (hs.ev hx) how ad m2 c news (hs.ev hy) hr.len hcell h1 h63 hbytes (Nat.zero_le _) ?_
    intro v' w' hown hg _ hat
    exact k v' _ _ ((hs.frame (.c hb .n) (mem_grown hg hown (hat.imp id fun h => ⟨_, h, Nat.le_refl _⟩) (xs := xs) (n := m))).put hd v')
theorem st_mk {x y : Operand} {t e : TypeId} {m bytes : Nat} {z : Value} {i : TypeInfo} (hs : St n F w0 S M a w) (hx : evo F x = some (.int .i64 (m : Int))) (hy : evo F y = some (.int .i64 (m : Int))) (ht : P.underlying t = some (.slice e)) (hi : P.info? e = some i)
    (hz : i.zero = some z) (hsize : i.size = 1) (hzs : z.cells = #[z]) (hbytes : i.bytes * m ≤ 281474976710656) (hm : m ≤ 281474976710656) (hd : Nat.blt d n = true)
    (k : ∀ v a w, St n ((d, v) :: F) w0 S (row v e 1 m (List.replicate m z) :: M) a w → wpList P ops Q rest a w) : wpList P ops Q (⟨some d, .makeSlice t x y, ty, pos, af, none⟩ :: rest) a w := by
  obtain ⟨w', hrun, hown, hg⟩ := run_make_full (P := P) w 0 t e i z 1 ht hi hz hsize .i64 .i64 m hbytes (by simp only [maxLen]; omega) (Nat.zero_le _)
  rw [hzs, Nat.mul_one, toList_madeCells_one] at hown
  refine st_val rfl rfl (by simp [execOp, hs.ev hx, hs.ev hy, hrun]) (k _ _ _ ((hs.frame .n (mem_new hg hown ?_)).put hd _))
  simp [Value.ownBlock]

theorem St.rerow {v : Value} {e size m m' : Nat} {xs xs' : List Value} {M' : List HA} (hs : St n F w0 S M a w) (hb : Del M (row v e size m xs) M') (hm : m = m') (hx : xs = xs') : St n F w0 S (row v e size m' xs' :: M') a w := by
  subst hm hx
  refine hs.frame (N := [row v e size m xs]) (.c hb .n) ⟨Chg.refl _ _, ?_, ?_, fun k hk => .inl (by simpa [feet] using hk)⟩
  · intro h hh
    simp only [List.mem_singleton] at hh
    subst hh
    exact hs.mem.del hb
  · cases hv : v.ownBlock <;> simp [feet, row, hv]
/-- A store into a row of the call's own, whose elements are of one cell. -/
theorem st_stR {x y : Operand} {v u : Value} {t e : TypeId} {m j : Nat} {xs : List Value} {M' : List HA} (hs : St n F w0 S M a w) (hx : evo F x = some (.pointer (some (adr v j)))) (hy : evo F y = some u) (hb : Del M (row v e 1 m xs) M') (hj : j < m)
    (h1 : u.oneCell' = true) (hsz : ∀ w, (sizeOf t).run P w = .ok 1 w)
    (k : ∀ a w, St n F w0 S (row v e 1 m (xs.set j u) :: M') a w → wpList P ops Q rest a w) : wpList P ops Q (⟨none, .store t x y, ty, pos, af, none⟩ :: rest) a w := by
  have how : w.ownsRow 0 e 1 v m xs := hs.mem.del hb
  obtain ⟨g, cap, rfl, _, _⟩ := how.form (by omega)
  have hlen : xs.length = m := by have := how.1; omega
  have hc : w.cell? ⟨g, j, none⟩ = some (xs[j]'(by omega)) := (how.cellAt j (by omega)).trans (List.getElem?_eq_getElem (by omega))
  have hf : w.frozen? ⟨g, j, none⟩ = false := how.frozenAt j
  have ha : adr (.slice (some ⟨g, 0, none⟩) m cap) j = ⟨g, j, none⟩ := by
    show (⟨g, 0, none⟩ : Addr).add j = _
    unfold Addr.add; split <;> simp_all
  have hrun : (store ⟨g, j, none⟩ u).run P w = .ok () (w.setCell ⟨g, j, none⟩ u) := by
    unfold store
    cases u <;> first | (simp [Value.oneCell'] at h1; done) | simp [Sem.run, hc, hf]
  have hcells : u.cells = #[u] := by cases u <;> first | rfl | (simp [Value.oneCell'] at h1; done)
  have hst := how.stored j u
  rw [ha] at hx
  refine st_skip rfl rfl (w' := w.setCell ⟨g, j, none⟩ u) ?_ (k _ _ ?_)
  · have h0 : (⟨g, j, none⟩ : Addr).add 0 = ⟨g, j, none⟩ := rfl
    simp [h0, execOp, Instr.storeAt, Instr.sureAddr, storeVar, hs.ev hx, hs.ev hy, hsz, hcells, storeCells, hrun]
  · refine hs.frame (N := [row (.slice (some ⟨g, 0, none⟩) m cap) e 1 m (xs.set j u)]) (.c hb .n) ⟨⟨rfl, rfl, rfl, by simp [World.setCell], fun k hk hS => Below.heap_setCell w _ _ k (by simpa [feet, row, Value.ownBlock] using hS)⟩, ?_, by simp [feet, row, Value.ownBlock], by simp [feet, row, Value.ownBlock]⟩
    intro y hy
    simp only [List.mem_singleton] at hy
    subst hy
    exact hst.1
theorem rd_nil (w : World) (T : List Nat) (size : Nat) : Rd w T (.slice none 0 0) size 0 [] := ⟨⟨none, 0, rfl, Nat.le_refl _, by simp [maxLen]⟩, by simp, fun h => by omega⟩
theorem rd_nilB (w : World) (T : List Nat) : Rd w T (.slice none 0 0) 1 0 (bytesV []) := rd_nil w T 1
/-- A block whose end may be marked. -/
def blkf (g : Nat) (cs : List Value) (t : TypeId) : HA where
  foot := [g]
  p w := ∃ fr, w.heap[g]? = some (.cells cs.toArray t fr)
  loc w w' h hp := by obtain ⟨fr, hp⟩ := hp; exact ⟨fr, by rw [h g (by simp)]; exact hp⟩
  lt w h k hk := by
    have : k = g := by simpa using hk
    subst this
    obtain ⟨fr, h⟩ := h
    exact (Array.getElem?_eq_some_iff.1 h).1
theorem rd_blkf {g : Nat} {cs : List Value} {t : TypeId} {size m : Nat} (h : (blkf g cs t).p w) (hl : cs.length = m * size) (hm : m ≤ maxLen) : Rd w [] (.slice (some ⟨g, 0, none⟩) m m) size m cs := by
  obtain ⟨fr, h⟩ := h
  exact ⟨⟨_, m, rfl, Nat.le_refl _, hm⟩, hl, fun _ => ⟨_, m, rfl, by simp, (Array.getElem?_eq_some_iff.1 h).1, fun j u hu => World.news_of_block h j u (by simpa using hu)⟩⟩
theorem mem_freeze (w : World) (g off : Nat) (cs : List Value) (t : TypeId) (h : w.heap[g]? = some (.cells cs.toArray t (0, 0))) :
    Mem w (feet [blk g cs t]) [blkf g cs t] (w.freeze ⟨g, off, none⟩ 1) := by
  refine ⟨⟨rfl, rfl, rfl, by simp [World.freeze], fun k hk hS => ?_⟩, ?_, by simp [feet, blkf], by simp [feet, blkf, blk]⟩
  · have : ¬ g = k := fun e => hS (by simp [feet, blk, e])
    simp [World.freeze, Array.getElem?_modify, this]
  · intro y hy
    simp only [List.mem_singleton] at hy
    subst hy
    exact ⟨(off, off + 1), by simp [World.freeze, Array.getElem?_modify, h]⟩
theorem st_mark {x : Operand} {t e : TypeId} {g m c : Nat} {cs : List Value} {M' : List HA} (hs : St n F w0 S M a w) (hx : evo F x = some (.slice (some ⟨g, 0, none⟩) m c)) (hb : Del M (blk g cs e) M') (ht : P.underlying t = some (.slice e)) (he : P.underlying e = some (.int .u8)) (hd : Nat.blt d n = true)
    (k : ∀ a w, St n ((d, .slice (some ⟨g, 0, none⟩) m c) :: F) w0 S (blkf g cs e :: M') a w → wpList P ops Q rest a w) : wpList P ops Q (⟨some d, .convert t t x, ty, pos, af, none⟩ :: rest) a w := by
  have hm := hs.mem.del hb
  have hsh : w.shape? g = some (e, cs.length) := by
    have h2 : w.heap[g]? = some (.cells cs.toArray e (0, 0)) := hm
    simp [World.shape?, h2]
  refine st_val rfl rfl (w' := w.freeze ⟨g, cs.length, none⟩ 1) ?_ (k _ _ ((hs.frame (.c hb .n) (mem_freeze w g cs.length cs e hm)).put hd _))
  simp [execOp, hs.ev hx, convert, run_underlying ht, run_underlying he, markStringish, shape, Sem.run, hsh, freeze]

end Go.Sx
