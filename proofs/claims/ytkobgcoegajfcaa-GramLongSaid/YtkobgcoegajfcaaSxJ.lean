/- Structs that are built, results in memory, loops by rounds, what a call may read of what it was handed. -/
import Derived.Test.YtkobgcoegajfcaaSxG
import Derived.Test.YtkobgcoegajfcaaSxI
import Derived.Laws.Tables
import Derived.Laws.StructEq
import Derived.LoopN
set_option linter.unusedVariables false
set_option linter.unusedSimpArgs false
namespace Go.Sx
open Go.RowKit
variable {P : Program} {ops : Array Oper} {Q : Exit → Act → World → Prop} {rest : List Oper} {n : Nat} {F : List (Nat × Value)} {w0 : World} {S : List Nat} {M : List HA} {a : Act} {w : World}
variable {d : Nat} {ty : TypeId} {pos : String} {af : Array Edge}

theorem one_cells {v : Value} (h : v.oneCell' = true) : v.cells = #[v] := by cases v <;> first | rfl | (simp [Value.oneCell'] at h; done)
theorem one_cellsL {v : Value} (h : v.oneCell' = true) : v.cells.toList = [v] := by rw [one_cells h]
theorem IsSl.one {v : Value} {m : Nat} (h : IsSl v m) : v.oneCell' = true := by obtain ⟨A, c, rfl⟩ := h; rfl
theorem IsSl.lcells {v : Value} {m : Nat} (h : IsSl v m) : v.cells.toList = [v] := one_cellsL h.one

/-! ### Values that are built -/
theorem foldset : ∀ (us : List Value) (k off : Nat) (cs : List Value), off + k + us.length ≤ cs.length →
    (us.zipIdx k).foldl (fun (l : List Value) x => l.set (off + x.2) x.1) cs = cs.take (off + k) ++ us ++ cs.drop (off + k + us.length)
  | [], k, off, cs, _ => by simp
  | u :: us, k, off, cs, h => by
    simp only [List.length_cons] at h
    simp only [List.zipIdx_cons, List.foldl_cons]
    rw [foldset us (k + 1) off (cs.set (off + k) u) (by simp; omega)]
    rw [show off + (k + 1) = off + k + 1 by omega, List.take_add_one, List.getElem?_set_self (by omega), List.take_set_of_le (Nat.le_refl _), List.drop_set_of_lt (by omega)]
    simp only [Option.toList_some, List.append_assoc, List.singleton_append, List.length_cons]
    rw [show off + k + 1 + us.length = off + k + (us.length + 1) by omega]
inductive Fills (place : Nat → Option (Nat × Nat)) : List Value → List (Nat × Value) → List Value → Prop
  | n {cs} : Fills place cs [] cs
  | c {cs i off v us cs' r cs''} : place i = some (off, us.length) → v.cells.toList = us → PutAt cs off us cs' → Fills place cs' r cs'' → Fills place cs ((i, v) :: r) cs''
theorem Fills.fill {place : Nat → Option (Nat × Nat)} {cs : List Value} {r : List (Nat × Value)} {cs' : List Value} (h : Fills place cs r cs') : Instr.fill place cs.toArray r = some cs'.toArray := by
  induction h with
  | n => rfl
  | @c cs i off v us cs' r cs'' hp hu hput _ ih =>
    have he := hput.eq
    have hsz : v.cells.size = us.length := by rw [← hu]; simp
    have hcv : v.cells = us.toArray := by rw [← hu]
    simp only [Instr.fill, hp]
    have h2 : ¬ off + us.length > cs.length := by omega
    have hf : (v.cells.zipIdx.foldl (fun cs x => cs.setIfInBounds (off + x.2) x.1) cs.toArray) = cs'.toArray := by
      rw [hcv]
      have h3 := foldset us 0 off cs (by omega)
      simp only [Nat.add_zero] at h3
      rw [he.1, ← h3]
      have : ∀ (l : List (Value × Nat)) (c : List Value), List.foldl (fun (cs : Array Value) x => cs.setIfInBounds (off + x.2) x.1) c.toArray l = (List.foldl (fun (l : List Value) x => l.set (off + x.2) x.1) c l).toArray := by
        intro l
        induction l with
        | nil => intro c; rfl
        | cons x l ih => intro c; simp only [List.foldl_cons, List.setIfInBounds_toArray]; exact ih _
      have h4 := this us.zipIdx cs
      rw [← h4]
      simp
    rw [show (decide (v.cells.size ≠ us.length) || decide (off + v.cells.size > cs.toArray.size)) = false by simp [hsz]; omega]
    simp only [Bool.false_eq_true, if_false]
    exact (congrArg (fun z => Instr.fill place z r) hf).trans ih
inductive EvP (F : List (Nat × Value)) : List (Nat × Operand) → List (Nat × Value) → Prop
  | n : EvP F [] []
  | c {i x v ps vs} : evo F x = some v → EvP F ps vs → EvP F ((i, x) :: ps) ((i, v) :: vs)
theorem EvP.eval {ps : List (Nat × Operand)} {vs : List (Nat × Value)} (h : EvP F ps vs) (hs : St n F w0 S M a w) : (ps.map fun (i, x) => (i, a.eval x)) = vs := by
  induction h with
  | n => rfl
  | c hx _ ih => simp [hs.ev hx, ih]
theorem st_build {t : TypeId} {fs : Array Field} {parts : List (Nat × Operand)} {vs : List (Nat × Value)} {cs zs : List Value} {it : TypeInfo} {z : Value} {places : List (Nat × Nat)} (hs : St n F w0 S M a w) (hp : EvP F parts vs)
    (ht : P.underlying t = some (.struct fs)) (hit : P.info? t = some it) (hz : it.zero = some z) (hzc : z.cells.toList = zs) (hpl : fs.toList.mapM (fun f => (P.info? f.type).map fun i => (f.offset, i.size)) = some places)
    (hf : Fills (places.toArray[·]?) zs vs cs) (hd : Nat.blt d n = true)
    (k : ∀ a w, St n ((d, .agg cs.toArray) :: F) w0 S M a w → wpList P ops Q rest a w) : wpList P ops Q (⟨some d, .build t parts.toArray, ty, pos, af, none⟩ :: rest) a w := by
  refine st_pure hs ?_ hd k
  have hb : P.built t vs = some cs.toArray := by
    unfold Program.built
    simp only [hit, ht, hz, hpl]
    have := hf.fill
    rw [← hzc] at this
    simpa using this
  have he : (parts.toArray.map fun (i, x) => (i, a.eval x)).toList = vs := by simpa using hp.eval hs
  unfold execOp
  simp only [Sem.run_bind]
  rw [run_build w t _ cs.toArray (by rw [he]; exact hb)]
  rfl
theorem st_buildA {t e : TypeId} {len : Nat} {parts : List (Nat × Operand)} {vs : List (Nat × Value)} {cs zs : List Value} {it ie : TypeInfo} {z : Value} {sz : Nat} (hs : St n F w0 S M a w) (hp : EvP F parts vs)
    (ht : P.underlying t = some (.array len e)) (hit : P.info? t = some it) (hz : it.zero = some z) (hzc : z.cells.toList = zs) (hie : P.info? e = some ie) (hsz : ie.size = sz)
    (hf : Fills (fun i => some (i * sz, sz)) zs vs cs) (hd : Nat.blt d n = true)
    (k : ∀ a w, St n ((d, .agg cs.toArray) :: F) w0 S M a w → wpList P ops Q rest a w) : wpList P ops Q (⟨some d, .build t parts.toArray, ty, pos, af, none⟩ :: rest) a w := by
  refine st_pure hs ?_ hd k
  subst hsz
  have hb : P.built t vs = some cs.toArray := by
    unfold Program.built
    simp only [hit, ht, hz, hie]
    have := hf.fill
    rw [← hzc] at this
    simpa using this
  have he : (parts.toArray.map fun (i, x) => (i, a.eval x)).toList = vs := by simpa using hp.eval hs
  unfold execOp
  simp only [Sem.run_bind]
  rw [run_build w t _ cs.toArray (by rw [he]; exact hb)]
  rfl
/-! ### Results in memory -/
theorem finC {fn : Func} {post : Value → List HA → Prop} {t : Nat} {rt bt : TypeId} {g i sz : Nat} {cs vs : List Value} {M' : List HA} (hs : St n F w0 S M a w) (hr : fn.results = #[.cell t rt]) (hv : lk F t = some (.pointer (some ⟨g, i, none⟩))) (hb : Del M (blk g cs bt) M') (hc : Cut cs i sz vs)
    (hag : ∀ w, (isAgg rt).run P w = .ok true w) (hsz : ∀ w, (sizeOf rt).run P w = .ok sz w) {X N : List HA} (hD : Dels M X N) (hp : post (.agg vs.toArray) N) : bodyPost P fn (Ret w0 S post) .ret a w := by
  have hg := hs.agr t _ hv
  have he := hc.eq
  have hcl : vs.length = sz := by rw [he.1]; simp; omega
  have hrun := run_loadCells_list (P := P) w ⟨g, i, none⟩ vs (fun j u hj => by
    have ha : (⟨g, i, none⟩ : Addr).add j = ⟨g, i + j, none⟩ := by unfold Addr.add; split <;> simp_all
    rw [ha, cell_blk (hs.mem.del hb)]
    rw [he.1, List.getElem?_take] at hj
    split at hj
    · simpa using hj
    · cases hj)
  rw [hcl] at hrun
  refine bodyPost_ret (v := .agg vs.toArray) ?_ hs.dfr ⟨_, N, rfl, hp, hs.mem.drop hD⟩
  simp [results, hr, Array.getD_eq_getD_getElem?, hg, asAddr, loadVar, hag, hsz, hrun]
theorem finC1 {fn : Func} {post : Value → List HA → Prop} {t : Nat} {rt bt : TypeId} {g i : Nat} {cs : List Value} {v : Value} {M' : List HA} (hs : St n F w0 S M a w) (hr : fn.results = #[.cell t rt]) (hv : lk F t = some (.pointer (some ⟨g, i, none⟩))) (hb : Del M (blk g cs bt) M') (hc : Nth cs i v)
    (hag : ∀ w, (isAgg rt).run P w = .ok false w) {X N : List HA} (hD : Dels M X N) (hp : post v N) : bodyPost P fn (Ret w0 S post) .ret a w := by
  have hg := hs.agr t _ hv
  have hc := (cell_blk (i := i) (hs.mem.del hb)).trans hc.get
  refine bodyPost_ret (v := v) ?_ hs.dfr ⟨_, N, rfl, hp, hs.mem.drop hD⟩
  simp [results, hr, Array.getD_eq_getD_getElem?, hg, asAddr, loadVar, hag, run_load, hc]
/-! ### Loads from a block that one knows of -/
theorem st_ldE {x : Operand} {v : Value} {t t2 : TypeId} {g i : Nat} {cs : List Value} (hs : St n F w0 S M a w) (hx : evo F x = some (.pointer (some ⟨g, i, none⟩))) (hb : (blk g cs t2).p w) (hv : Nth cs i v)
    (hag : ∀ w, (isAgg t).run P w = .ok false w) (hd : Nat.blt d n = true)
    (k : ∀ a w, St n ((d, v) :: F) w0 S M a w → wpList P ops Q rest a w) : wpList P ops Q (⟨some d, .load t x, ty, pos, af, none⟩ :: rest) a w := by
  have hc := (cell_blk (i := i) hb).trans hv.get
  exact st_pure hs (by simp [execOp, Instr.loadAt, Instr.sureAddr, loadVar, hs.ev hx, hag, run_load, hc]) hd k
theorem st_ldEA {x : Operand} {vs : List Value} {t t2 : TypeId} {g i sz : Nat} {cs : List Value} (hs : St n F w0 S M a w) (hx : evo F x = some (.pointer (some ⟨g, i, none⟩))) (hb : (blk g cs t2).p w) (hv : Cut cs i sz vs)
    (hag : ∀ w, (isAgg t).run P w = .ok true w) (hsz : ∀ w, (sizeOf t).run P w = .ok sz w) (hd : Nat.blt d n = true)
    (k : ∀ a w, St n ((d, .agg vs.toArray) :: F) w0 S M a w → wpList P ops Q rest a w) : wpList P ops Q (⟨some d, .load t x, ty, pos, af, none⟩ :: rest) a w := by
  have he := hv.eq
  have hcl : vs.length = sz := by rw [he.1]; simp; omega
  have hrun := run_loadCells_list (P := P) w ⟨g, i, none⟩ vs (fun j u hj => by
    have ha : (⟨g, i, none⟩ : Addr).add j = ⟨g, i + j, none⟩ := by unfold Addr.add; split <;> simp_all
    rw [ha, cell_blk hb]
    rw [he.1, List.getElem?_take] at hj
    split at hj
    · simpa using hj
    · cases hj)
  rw [hcl] at hrun
  exact st_pure hs (by simp [execOp, Instr.loadAt, Instr.sureAddr, loadVar, hs.ev hx, hag, hsz, hrun]) hd k
/-! ### Arrays of three numbers -/
theorem run_eq3 (m : Nat) {t e : TypeId} {k k2 : IntKind} (w : World) {a1 a2 a3 b1 b2 b3 : Int} (ht : P.underlying t = some (.array 3 e)) (he : P.underlying e = some (.int k2)) (hsz : ∀ w, (sizeOf e).run P w = .ok 1 w) (hag : ∀ w, (isAgg e).run P w = .ok false w) :
    (Op.equalIn (m + 2) t (.agg #[.int k a1, .int k a2, .int k a3]) (.agg #[.int k b1, .int k b2, .int k b3])).run P w = .ok (a1 == b1 && a2 == b2 && a3 == b3) w := by
  have h1 : ∀ (x y : Int) w, (Op.equalIn (m + 1) e (.int k x) (.int k y)).run P w = .ok (x == y) w := fun x y w => by simp [Op.equalIn, run_underlying he]
  rw [Op.equalIn]
  simp only [Sem.run_bind, run_underlying ht, hsz, Result.andThen_ok]
  simp [Std.Legacy.Range.forIn_eq_forIn_range', List.range', part, hag, h1, Std.Legacy.Range.size]
  by_cases e1 : a1 = b1 <;> by_cases e2 : a2 = b2 <;> by_cases e3 : a3 = b3 <;> simp [e1, e2, e3]
theorem st_eq3 {x y : Operand} {t t2 e : TypeId} {kd k2 : IntKind} {a1 a2 a3 b1 b2 b3 : Int} (hs : St n F w0 S M a w) (hx : evo F x = some (.agg #[.int kd a1, .int kd a2, .int kd a3])) (hy : evo F y = some (.agg #[.int kd b1, .int kd b2, .int kd b3]))
    (hg : P.eqGuardType P.depth t = false) (ht : P.underlying t = some (.array 3 e)) (he : P.underlying e = some (.int k2)) (hsz : ∀ w, (sizeOf e).run P w = .ok 1 w) (hag : ∀ w, (isAgg e).run P w = .ok false w) (hd : Nat.blt d n = true)
    (k : ∀ a w, St n ((d, .bool (a1 == b1 && a2 == b2 && a3 == b3)) :: F) w0 S M a w → wpList P ops Q rest a w) : wpList P ops Q (⟨some d, .binOp .eql t x y t2, ty, pos, af, none⟩ :: rest) a w :=
  st_pure hs (by simp [execOp, hs.ev hx, hs.ev hy, run_eqGuard_agg w .eql t x y _ _ hg, run_eql_struct, run_eq3 9998 w ht he hsz hag]) hd k
theorem st_neq3 {x y : Operand} {t t2 e : TypeId} {kd k2 : IntKind} {a1 a2 a3 b1 b2 b3 : Int} (hs : St n F w0 S M a w) (hx : evo F x = some (.agg #[.int kd a1, .int kd a2, .int kd a3])) (hy : evo F y = some (.agg #[.int kd b1, .int kd b2, .int kd b3]))
    (hg : P.eqGuardType P.depth t = false) (ht : P.underlying t = some (.array 3 e)) (he : P.underlying e = some (.int k2)) (hsz : ∀ w, (sizeOf e).run P w = .ok 1 w) (hag : ∀ w, (isAgg e).run P w = .ok false w) (hd : Nat.blt d n = true)
    (k : ∀ a w, St n ((d, .bool (!(a1 == b1 && a2 == b2 && a3 == b3))) :: F) w0 S M a w → wpList P ops Q rest a w) : wpList P ops Q (⟨some d, .binOp .neq t x y t2, ty, pos, af, none⟩ :: rest) a w :=
  st_pure hs (by simp [execOp, hs.ev hx, hs.ev hy, run_eqGuard_agg w .neq t x y _ _ hg, run_neq_struct, run_eq3 9998 w ht he hsz hag]) hd k
/-! ### Rounds -/
theorem rounds_in {c : Code} {k : Nat} (h : c.wp P (Exit.then (Code.rounds P c Q k) Q) a w) : Code.rounds P c Q (k + 1) a w := h
/-! ### What is handed to a call -/
theorem Mem.rd1 {v : Value} {size m : Nat} {xs : List Value} {M' X : List HA} (hm : Mem w0 S M w) (h : Rd w0 S v size m xs) (d : Dels M X M') : Rd w (feet X) v size m xs := hm.rd h d.sub
theorem Mem.rdblk {g m size : Nat} {cs : List Value} {t : TypeId} {M' M'' X : List HA} (hm : Mem w0 S M w) (dl : Del M (blk g cs t) M') (d2 : Dels M' X M'') (hl : cs.length = m * size) (hle : m ≤ maxLen) : Rd w (feet X) (.slice (some ⟨g, 0, none⟩) m m) size m cs := by
  have h1 := rd_blk (hm.del dl) hl hle
  refine ⟨h1.form, h1.len, fun h0 => ?_⟩
  obtain ⟨ad, c, e, _, hlt, h3⟩ := h1.at_ h0
  refine ⟨ad, c, e, fun hk => ?_, hlt, h3⟩
  have hn := List.nodup_append.1 (dl.perm.nodup_iff.1 hm.nd)
  have he : ad.block = g := by injection e with e _ _; injection e with e; rw [← e]
  exact hn.2.2 ad.block (by simp [blk, he]) ad.block (d2.sub _ hk) rfl
/-- A block that one knew of at the entry, and that is none of those that are written. -/
theorem Mem.keep {g : Nat} {cs : List Value} {t : TypeId} (hm : Mem w0 S M w) (h : (blk g cs t).p w0) (hn : g ∉ S) : (blk g cs t).p w :=
  (blk g cs t).loc w0 w (fun k hk => by
    simp only [blk, List.mem_singleton] at hk
    subst hk
    exact hm.chg.block _ ((blk k cs t).lt w0 h k (by simp [blk])) hn) h
theorem Mem.apart {g k : Nat} {cs ds : List Value} {t u : TypeId} {M' M'' : List HA} (hm : Mem w0 S M w) (dl : Del M (blk g cs t) M') (d2 : Dels M' [blk k ds u] M'') : g ≠ k := by
  intro e
  subst e
  have hn := List.nodup_append.1 (dl.perm.nodup_iff.1 hm.nd)
  exact hn.2.2 g (by simp [blk]) g (d2.sub _ (by simp [feet, blk])) rfl
theorem ones_n : ∀ u ∈ ([] : List Value), u.oneCell' = true := by simp
theorem ones_c {v : Value} {r : List Value} (h : v.oneCell' = true) (h2 : ∀ u ∈ r, u.oneCell' = true) : ∀ u ∈ v :: r, u.oneCell' = true := by
  intro u hu
  rcases List.mem_cons.1 hu with rfl | hu
  · exact h
  · exact h2 u hu
end Go.Sx
