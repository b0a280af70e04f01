/- Texts of the small logic, one behind the other: SxG, SxI, SxJ, SxK, SxH, SxL, SxN, SxO. -/
import Derived.Test.YtbioemaipghagaaGreatQSxBasA
import Derived.Orders
import Derived.Laws.Tables
import Derived.Laws.StructEq
import Derived.LoopN
import Derived.OpenShut
import Derived.SizedLaws
import Derived.ChangeSlices
import Derived.Deep.Slices
set_option linter.unusedVariables false
set_option linter.unusedSimpArgs false
namespace Go.Sx
open Go.RowKit
variable {P : Program} {ops : Array Oper} {Q : Exit → Act → World → Prop} {n : Nat} {F : List (Nat × Value)} {w0 : World} {S : List Nat} {M : List HA} {a : Act} {w : World}

/-- What is told of a slot, and stays told when memory grows. -/
structure PP where
  p : Value → World → Prop
  mono : ∀ v w w', p v w → Chg [] w w' → p v w'
theorem lk_mem {F : List (Nat × Value)} {t : Nat} {u : Value} (hu : lk F t = some u) : ∃ p ∈ F, p.1 = t := by
  induction F with
  | nil => simp [lk] at hu
  | cons p F ih =>
    obtain ⟨x, y⟩ := p
    rw [lk_cons] at hu
    by_cases e : x = t
    · exact ⟨(x, y), by simp, e⟩
    · rw [if_neg e] at hu
      obtain ⟨q, hq, e'⟩ := ih hu
      exact ⟨q, by simp [hq], e'⟩
theorem lk_append (F R : List (Nat × Value)) (t : Nat) : lk (F ++ R) t = (lk F t).or (lk R t) := by
  induction F with
  | nil => simp [lk]
  | cons p F ih =>
    obtain ⟨d, v⟩ := p
    rw [List.cons_append, lk_cons, lk_cons, ih]
    by_cases h : d = t <;> simp [h]
def allOf (n : Nat) (a : Act) : List (Nat × Value) := (List.range n).map fun t => (t, a.tmps.getD t undef)
theorem lk_map {f : Nat → Value} : ∀ (l : List Nat) (t : Nat), lk (l.map fun t => (t, f t)) t = if t ∈ l then some (f t) else none
  | [], t => by simp [lk]
  | x :: l, t => by
    rw [List.map_cons, lk_cons, lk_map l t]
    by_cases h : x = t
    · subst h; simp
    · have h' : ¬ t = x := fun e => h e.symm
      simp [h, h']
theorem lk_allOf (n : Nat) (a : Act) (t : Nat) : lk (allOf n a) t = if t < n then some (a.tmps.getD t undef) else none := by
  unfold allOf
  rw [lk_map]
  simp [List.mem_range]
theorem St.full (hs : St n F w0 S M a w) : St n (F ++ allOf n a) w [] [] a w := by
  refine ⟨hs.size, hs.dfr, fun t v h => ?_, Mem.nil w⟩
  rw [lk_append] at h
  cases hF : lk F t with
  | some u =>
    rw [hF] at h
    simp only [Option.some_or, Option.some.injEq] at h
    subst h
    exact hs.agr t u hF
  | none =>
    rw [hF, Option.none_or, lk_allOf] at h
    split at h
    · rename_i hlt
      have : t < a.tmps.size := by rw [hs.size]; exact hlt
      simp only [Option.some.injEq] at h
      subst h
      simp [Array.getD_eq_getD_getElem?, Array.getElem?_eq_getElem this]
    · cases h
inductive Covers (G : List (Nat × Value)) : List (Nat × Value) → Prop
  | r : Covers G G
  | c {d v G'} : Covers G G' → Covers G ((d, v) :: G')
theorem Covers.get {G G' : List (Nat × Value)} (h : Covers G G') : ∀ t u, lk G t = some u → ∃ u', lk G' t = some u' := by
  induction h with
  | r => exact fun t u h => ⟨u, h⟩
  | @c d v G' _ ih =>
    intro t u hu
    rw [lk_cons]
    by_cases e : d = t
    · exact ⟨v, by simp [e]⟩
    · obtain ⟨u', h'⟩ := ih t u hu
      exact ⟨u', by simp [e, h']⟩
theorem St.keeps {F' G' : List (Nat × Value)} {d : Nat} {v : Value} {N : List HA} {a' : Act} {w' : World} (h0 : St n G' w [] [] a w) (hc : Covers (F' ++ allOf n a) G') (hs' : St n ((d, v) :: G') w [] N a' w') : ∀ t, t ≠ d → a'.tmps[t]? = a.tmps[t]? := by
  intro t ht
  rcases Nat.lt_or_ge t n with hlt | hge
  · have hcov : ∃ u, lk (F' ++ allOf n a) t = some u := by
      rw [lk_append, lk_allOf, if_pos hlt]
      cases lk F' t <;> simp
    obtain ⟨u, hu⟩ := hcov
    obtain ⟨u', hu'⟩ := hc.get t u hu
    rw [h0.agr t u' hu', hs'.agr t u' (by rw [lk_cons, if_neg (fun e => ht e.symm)]; exact hu')]
  · rw [Array.getElem?_eq_none (by rw [hs'.size]; exact hge), Array.getElem?_eq_none (by rw [h0.size]; exact hge)]
theorem St.learn (hs : St n F w0 S M a w) {d : Nat} {v : Value} (h : a.tmps[d]? = some v) : St n ((d, v) :: F) w0 S M a w :=
  ⟨hs.size, hs.dfr, fun t u hu => by
    rw [lk_cons] at hu
    by_cases e : d = t
    · subst e; simp only [if_true, Option.some.injEq] at hu; subst hu; exact h
    · rw [if_neg e] at hu; exact hs.agr t u hu, hs.mem⟩

def Fact (ops : Array Oper) (Ps : List PP) (i : Nat) (a : Act) (w : World) : Prop := ∃ o d v p, ops[i]? = some o ∧ o.dst = some d ∧ a.tmps[d]? = some v ∧ Ps[i]? = some p ∧ p.p v w
theorem Fact.get {Ps : List PP} {i : Nat} {l : List Oper} {d : Nat} {p : PP} (h : Fact l.toArray Ps i a w) (h1 : (l[i]?).bind (·.dst) = some d) (h2 : Ps[i]? = some p) : ∃ v, a.tmps[d]? = some v ∧ p.p v w := by
  obtain ⟨o', d', v, p', e1, e2, h3, e4, h5⟩ := h
  simp only [List.getElem?_toArray] at e1
  rw [e1] at h1
  simp only [Option.bind_some, e2, Option.some.injEq] at h1
  rw [e4] at h2
  injection h2 with h2
  subst h1 h2
  exact ⟨v, h3, h5⟩
/-- What one operation owes. -/
def QN (n : Nat) (F : List (Nat × Value)) (a : Act) (w : World) (o : Oper) (p : PP) : Exit → Act → World → Prop := fun e a' w' => e = .normal ∧ ∃ d v N G, o.dst = some d ∧ St n G w [] [] a w ∧ Covers F G ∧ St n ((d, v) :: G) w [] N a' w' ∧ p.p v w'
def Stp (P : Program) (ops : Array Oper) (n : Nat) (F : List (Nat × Value)) (w0 : World) (S : List Nat) (M : List HA) (Ps : List PP) (o : Oper) (p : PP) : Prop :=
  ∀ a w R, Mem w0 S M w → St n (F ++ R) w [] [] a w → (∀ j, (∃ e ∈ o.after, Region.binds .any e = true ∧ e.on = j) → Fact ops Ps j a w) → wpList P ops (QN n (F ++ R) a w o p) [o] a w
inductive Stps (P : Program) (ops : Array Oper) (n : Nat) (F : List (Nat × Value)) (w0 : World) (S : List Nat) (M : List HA) (Ps : List PP) : List Oper → List PP → Prop
  | n : Stps P ops n F w0 S M Ps [] []
  | c {o l p ps} : Stp P ops n F w0 S M Ps o p → Stps P ops n F w0 S M Ps l ps → Stps P ops n F w0 S M Ps (o :: l) (p :: ps)
theorem Stps.get {Ps : List PP} {l : List Oper} {ps : List PP} (h : Stps P ops n F w0 S M Ps l ps) : ∀ (i : Nat) (o : Oper), l[i]? = some o → ∃ p, ps[i]? = some p ∧ Stp P ops n F w0 S M Ps o p := by
  induction h with
  | n => intro i o h; simp at h
  | c h _ ih =>
    intro i o hi
    cases i with
    | zero => simp only [List.getElem?_cons_zero, Option.some.injEq] at hi; subst hi; exact ⟨_, rfl, h⟩
    | succ i => exact ih i o (by simpa using hi)
/-- Edges lead back; the slots are each written once, and none is the base's. -/
def goodOps (F : List (Nat × Value)) (l : List Oper) : Bool :=
  (l.zipIdx.all fun x => x.1.after.all fun e => Nat.blt e.on x.2) && (l.all fun o => o.dst.isSome && F.all fun p => !(o.dst == some p.1)) && (l.zipIdx.all fun x => l.zipIdx.all fun y => Nat.beq x.2 y.2 || !(x.1.dst == y.1.dst))
theorem goodOps_spec {l : List Oper} (h : goodOps F l = true) : (∀ (i : Nat) (o : Oper), l[i]? = some o → ∀ e ∈ o.after, e.on < i) ∧ (∀ (i : Nat) (o : Oper), l[i]? = some o → ∃ d, o.dst = some d ∧ ∀ p ∈ F, d ≠ p.1) ∧
    (∀ (i j : Nat) (o o' : Oper), l[i]? = some o → l[j]? = some o' → i ≠ j → o.dst ≠ o'.dst) := by
  simp only [goodOps, Bool.and_eq_true, List.all_eq_true] at h
  have hz : ∀ (i : Nat) (o : Oper), l[i]? = some o → (o, i) ∈ l.zipIdx := fun i o hi => by
    rw [List.mem_zipIdx_iff_getElem?]; exact hi
  refine ⟨fun i o hi e he => ?_, fun i o hi => ?_, fun i j o o' hi hj hne => ?_⟩
  · have h1 := h.1.1 _ (hz i o hi)
    rw [Array.all_eq_true_iff_forall_mem] at h1
    have := h1 e he
    simpa using this
  · have h1 := h.1.2 o (List.mem_of_getElem? hi)
    obtain ⟨d, hd⟩ := Option.isSome_iff_exists.1 h1.1
    refine ⟨d, hd, fun p hp e => ?_⟩
    have := h1.2 p hp
    simp [hd, e] at this
  · have h1 := h.2 _ (hz i o hi) _ (hz j o' hj)
    simp only [Bool.or_eq_true] at h1
    rcases h1 with h1 | h1
    · exact absurd (Nat.eq_of_beq_eq_true h1) hne
    · simpa using h1
/-- What is known when these operations have come up. -/
structure Inv (ops : Array Oper) (n : Nat) (F : List (Nat × Value)) (w0 : World) (S : List Nat) (M : List HA) (Ps : List PP) (listed : Array Bool) (a : Act) (w : World) : Prop where
  st : St n F w0 S M a w
  sz : listed.size = ops.size
  fact : ∀ i, i < ops.size → listed.getD i false = true → Fact ops Ps i a w
theorem Inv.step {Ps : List PP} {l : List Oper} {listed : Array Bool} {i : Nat} {o : Oper} {p : PP} {a' : Act} {w' : World} (hg : goodOps F l = true) (h : Inv l.toArray n F w0 S M Ps listed a w) (ho : l[i]? = some o) (hp : Ps[i]? = some p)
    (hq : QN n (F ++ allOf n a) a w o p .normal a' w') : Inv l.toArray n F w0 S M Ps (listed.setIfInBounds i true) a' w' := by
  obtain ⟨hfw, hbase, hdis⟩ := goodOps_spec hg
  obtain ⟨_, d, v, N, G, hd, hs0, hcov, hs', hpv⟩ := hq
  have hk := hs0.keeps hcov hs'
  have hdl : d < n := by
    obtain ⟨d', hd', hb⟩ := hbase i o ho
    rcases Nat.lt_or_ge d n with hh | hh
    · exact hh
    · have h1 := hs'.agr d v (by rw [lk_cons, if_pos rfl])
      rw [Array.getElem?_eq_none (by rw [hs'.size]; exact hh)] at h1
      cases h1
  refine ⟨⟨hs'.size, hs'.dfr, fun t u hu => ?_, ?_⟩, by simp [h.sz], fun j hj hl => ?_⟩
  · have hne : t ≠ d := by
      obtain ⟨d', hd', hb⟩ := hbase i o ho
      rw [hd] at hd'
      injection hd' with hd'
      subst hd'
      intro e
      subst e
      have := lk_mem hu
      obtain ⟨q, hq, e⟩ := this
      exact hb q hq e.symm
    rw [hk t hne]
    exact h.st.agr t u hu
  · have := h.st.mem.frame (Dels.n (M := M)) hs'.mem
    refine ⟨this.chg, fun y hy => this.all y (List.mem_append.2 (.inr hy)), ?_, fun k hk => this.ge k (by rw [feet_append]; exact List.mem_append.2 (.inr hk))⟩
    have hn := this.nd
    rw [feet_append] at hn
    exact (List.nodup_append.1 hn).2.1
  · by_cases e : j = i
    · subst e
      exact ⟨o, d, v, p, by simpa using ho, hd, hs'.agr d v (by rw [lk_cons, if_pos rfl]), hp, hpv⟩
    · have hl' : listed.getD j false = true := by
        have hne : ¬ i = j := fun h => e h.symm
        simpa [Array.getD_eq_getD_getElem?, Array.getElem?_setIfInBounds, hne] using hl
      obtain ⟨o', d', v', p', h1, h2, h3, h4, h5⟩ := h.fact j hj hl'
      refine ⟨o', d', v', p', h1, h2, ?_, h4, p'.mono _ _ _ h5 hs'.mem.chg⟩
      rw [hk d' ?_]
      · exact h3
      · intro e'
        subst e'
        exact hdis j i o' o (by simpa using h1) ho e (by rw [h2, hd])
theorem count_set : ∀ (l : List Bool) (i : Nat) (h : i < l.length), l[i] = false → (l.set i true).count false + 1 = l.count false
  | [], i, h, _ => by simp at h
  | x :: l, 0, _, h => by
    simp only [List.getElem_cons_zero] at h
    subst h
    simp
  | x :: l, i + 1, h, h' => by
    have ih := count_set l i (by simpa using h) (by simpa using h')
    simp only [List.set_cons_succ, List.count_cons]
    omega
/-! ### The last operation writes, and waits for all others -/
end Go.Sx

set_option linter.unusedVariables false
set_option linter.unusedSimpArgs false
namespace Go.Sx
open Go.RowKit
variable {P : Program} {ops : Array Oper} {Q : Exit → Act → World → Prop} {rest : List Oper} {n : Nat} {F : List (Nat × Value)} {w0 : World} {S : List Nat} {M : List HA} {a : Act} {w : World}
theorem st_shlI {x y : Operand} {p q : Int} {kd : IntKind} {t t2 : TypeId} {d : Nat} {ty : TypeId} {pos : String} {af : Array Edge} (hs : St n F w0 S M a w)
    (hx : evo F x = some (.int .i64 p)) (hy : evo F y = some (.int kd q)) {m : Nat} (hm : q = (m : Int)) (hd : Nat.blt d n = true)
    (k : ∀ a w, St n ((d, .int .i64 (IntKind.i64.wrap (p * 2 ^ (min m 64)))) :: F) w0 S M a w → wpList P ops Q rest a w) : wpList P ops Q (⟨some d, .binOp .shl t x y t2, ty, pos, af, none⟩ :: rest) a w :=
  st_pure hs (by subst hm; have h1 : ¬ (m : Int) < 0 := (by omega); simp only [execOp, hs.ev hx, hs.ev hy, binOp, eqGuard, Op.shift, h1]; simp [IntKind.bits]) hd k
theorem st_shrI {x y : Operand} {p q : Int} {kd : IntKind} {t t2 : TypeId} {d : Nat} {ty : TypeId} {pos : String} {af : Array Edge} (hs : St n F w0 S M a w)
    (hx : evo F x = some (.int .i64 p)) (hy : evo F y = some (.int kd q)) {m : Nat} (hm : q = (m : Int)) (hd : Nat.blt d n = true)
    (k : ∀ a w, St n ((d, .int .i64 (p.fdiv (2 ^ (min m 64)))) :: F) w0 S M a w → wpList P ops Q rest a w) : wpList P ops Q (⟨some d, .binOp .shr t x y t2, ty, pos, af, none⟩ :: rest) a w :=
  st_pure hs (by subst hm; have h1 : ¬ (m : Int) < 0 := (by omega); simp only [execOp, hs.ev hx, hs.ev hy, binOp, eqGuard, Op.shift, h1]; simp [IntKind.bits]) hd k
theorem wrap_toInt (X : BitVec 64) : IntKind.i64.wrap (X.toNat : Int) = X.toInt := wcv_i64 X
theorem st_xorI {x y : Operand} {p q : Int} {t t2 : TypeId} {d : Nat} {ty : TypeId} {pos : String} {af : Array Edge} (hs : St n F w0 S M a w)
    (hx : evo F x = some (.int .i64 p)) (hy : evo F y = some (.int .i64 q)) (hd : Nat.blt d n = true)
    (k : ∀ a w, St n ((d, .int .i64 (BitVec.ofInt 64 p ^^^ BitVec.ofInt 64 q).toInt) :: F) w0 S M a w → wpList P ops Q rest a w) : wpList P ops Q (⟨some d, .binOp .xor t x y t2, ty, pos, af, none⟩ :: rest) a w :=
  st_pure hs (by simp only [execOp, hs.ev hx, hs.ev hy, binOp, eqGuard, Op.intBits]; simp [IntKind.bits, -BitVec.toNat_xor, -BitVec.toInt_xor]; exact wrap_toInt _) hd k
theorem st_negR {x : Operand} {p : Int} {t : TypeId} {d : Nat} {ty : TypeId} {pos : String} {af : Array Edge} (hs : St n F w0 S M a w)
    (hx : evo F x = some (.int .i64 p)) (hr : -9223372036854775807 ≤ p ∧ p ≤ 9223372036854775808) (hd : Nat.blt d n = true)
    (k : ∀ a w, St n ((d, .int .i64 (-p)) :: F) w0 S M a w → wpList P ops Q rest a w) : wpList P ops Q (⟨some d, .unOp .neg t x, ty, pos, af, none⟩ :: rest) a w :=
  st_pure hs (by have h := IntWalk.i64_in (-p) (by omega); simp [execOp, hs.ev hx, Op.unary, Op.intArith, h]) hd k
theorem st_ixT {x i : Operand} {s : ByteArray} {f : BitVec 8 → BitVec 8} {t : TypeId} {kd : IntKind} {q : Int} {Y : BitVec 8} {d : Nat} {ty : TypeId} {pos : String} {af : Array Edge} (hs : St n F w0 S M a w)
    (hx : evo F x = some (.string s)) (hi : evo F i = some (.int kd q)) (hq : q = ((Y.toNat : Nat) : Int)) (ht : P.underlying t = some .string) (hf : ∀ Y : BitVec 8, s[Y.toNat]? = some (UInt8.ofBitVec (f Y))) (hd : Nat.blt d n = true)
    (k : ∀ a w, St n ((d, .int .u8 (((f Y).toNat : Nat) : Int)) :: F) w0 S M a w → wpList P ops Q rest a w) : wpList P ops Q (⟨some d, .index t x i, ty, pos, af, none⟩ :: rest) a w :=
  st_ixS hs hx hi ht (by omega) (by subst hq; exact hf Y) hd k
theorem st_callPV {x : Operand} {f : FuncId} {xs : List Operand} {ats : Array TypeId} {vs us all : List Value} {v : Value} {d : Nat} {ty : TypeId} {pos : String} {af : Array Edge} (hs : St n F w0 S M a w) (hx : evo F x = some (.func (.func f) #[] us.toArray)) (hv : Evs F xs vs) (hall : vs ++ us = all) (hcall : ∀ args w, (callFunc f args).run P w = .ok (.enter f args) w)
    (hc : Calls P f all.toArray w (RetV w v)) (hd : Nat.blt d n = true)
    (k : ∀ a w, St n ((d, v) :: F) w0 S M a w → wpList P ops Q rest a w) :
    wpList P ops Q (⟨some d, .call { callee := .value x, args := xs.toArray, argTypes := ats }, ty, pos, af, none⟩ :: rest) a w := by
  refine st_callV hs hx hv hall hcall .n hc hd ?_
  rintro v' N a' w' ⟨rfl, rfl⟩ hs'
  exact k _ _ hs'
end Go.Sx

set_option linter.unusedVariables false
set_option linter.unusedSimpArgs false
namespace Go.Sx
open Go.RowKit
variable {P : Program} {ops : Array Oper} {Q : Exit → Act → World → Prop} {rest : List Oper} {n : Nat} {F : List (Nat × Value)} {w0 : World} {S : List Nat} {M : List HA} {a : Act} {w : World}
variable {d : Nat} {ty : TypeId} {pos : String} {af : Array Edge}

theorem one_cells {v : Value} (h : v.oneCell' = true) : v.cells = #[v] := by cases v <;> first | rfl | (simp [Value.oneCell'] at h; done)
theorem one_cellsL {v : Value} (h : v.oneCell' = true) : v.cells.toList = [v] := by rw [one_cells h]
theorem IsSl.one {v : Value} {m : Nat} (h : IsSl v m) : v.oneCell' = true := by obtain ⟨A, c, rfl⟩ := h; rfl
theorem IsSl.lcells {v : Value} {m : Nat} (h : IsSl v m) : v.cells.toList = [v] := one_cellsL h.one

/-! ### Values that are built -/
theorem foldset : ∀ (us : List Value) (k off : Nat) (cs : List Value), off + k + us.length ≤ cs.length →
    (us.zipIdx k).foldl (fun (l : List Value) x => l.set (off + x.2) x.1) cs = cs.take (off + k) ++ us ++ cs.drop (off + k + us.length)
  | [], k, off, cs, _ => by simp
  | u :: us, k, off, cs, h => by
    simp only [List.length_cons] at h
    simp only [List.zipIdx_cons, List.foldl_cons]
    rw [foldset us (k + 1) off (cs.set (off + k) u) (by simp; omega)]
    rw [show off + (k + 1) = off + k + 1 by omega, List.take_add_one, List.getElem?_set_self (by omega), List.take_set_of_le (Nat.le_refl _), List.drop_set_of_lt (by omega)]
    simp only [Option.toList_some, List.append_assoc, List.singleton_append, List.length_cons]
    rw [show off + k + 1 + us.length = off + k + (us.length + 1) by omega]
inductive Fills (place : Nat → Option (Nat × Nat)) : List Value → List (Nat × Value) → List Value → Prop
  | n {cs} : Fills place cs [] cs
  | c {cs i off v us cs' r cs''} : place i = some (off, us.length) → v.cells.toList = us → PutAt cs off us cs' → Fills place cs' r cs'' → Fills place cs ((i, v) :: r) cs''
theorem Fills.fill {place : Nat → Option (Nat × Nat)} {cs : List Value} {r : List (Nat × Value)} {cs' : List Value} (h : Fills place cs r cs') : Instr.fill place cs.toArray r = some cs'.toArray := by
  induction h with
  | n => rfl
  | @c cs i off v us cs' r cs'' hp hu hput _ ih =>
    have he := hput.eq
    have hsz : v.cells.size = us.length := by rw [← hu]; simp
    have hcv : v.cells = us.toArray := by rw [← hu]
    simp only [Instr.fill, hp]
    have h2 : ¬ off + us.length > cs.length := by omega
    have hf : (v.cells.zipIdx.foldl (fun cs x => cs.setIfInBounds (off + x.2) x.1) cs.toArray) = cs'.toArray := by
      rw [hcv]
      have h3 := foldset us 0 off cs (by omega)
      simp only [Nat.add_zero] at h3
      rw [he.1, ← h3]
      have : ∀ (l : List (Value × Nat)) (c : List Value), List.foldl (fun (cs : Array Value) x => cs.setIfInBounds (off + x.2) x.1) c.toArray l = (List.foldl (fun (l : List Value) x => l.set (off + x.2) x.1) c l).toArray := by
        intro l
        induction l with
        | nil => intro c; rfl
        | cons x l ih => intro c; simp only [List.foldl_cons, List.setIfInBounds_toArray]; exact ih _
      have h4 := this us.zipIdx cs
      rw [← h4]
      simp
    rw [show (decide (v.cells.size ≠ us.length) || decide (off + v.cells.size > cs.toArray.size)) = false by simp [hsz]; omega]
    simp only [Bool.false_eq_true, if_false]
    exact (congrArg (fun z => Instr.fill place z r) hf).trans ih
inductive EvP (F : List (Nat × Value)) : List (Nat × Operand) → List (Nat × Value) → Prop
  | n : EvP F [] []
  | c {i x v ps vs} : evo F x = some v → EvP F ps vs → EvP F ((i, x) :: ps) ((i, v) :: vs)
theorem EvP.eval {ps : List (Nat × Operand)} {vs : List (Nat × Value)} (h : EvP F ps vs) (hs : St n F w0 S M a w) : (ps.map fun (i, x) => (i, a.eval x)) = vs := by
  induction h with
  | n => rfl
  | c hx _ ih => simp [hs.ev hx, ih]
theorem st_build {t : TypeId} {fs : Array Field} {parts : List (Nat × Operand)} {vs : List (Nat × Value)} {cs zs : List Value} {it : TypeInfo} {z : Value} {places : List (Nat × Nat)} (hs : St n F w0 S M a w) (hp : EvP F parts vs)
    (ht : P.underlying t = some (.struct fs)) (hit : P.info? t = some it) (hz : it.zero = some z) (hzc : z.cells.toList = zs) (hpl : fs.toList.mapM (fun f => (P.info? f.type).map fun i => (f.offset, i.size)) = some places)
    (hf : Fills (places.toArray[·]?) zs vs cs) (hd : Nat.blt d n = true)
    (k : ∀ a w, St n ((d, .agg cs.toArray) :: F) w0 S M a w → wpList P ops Q rest a w) : wpList P ops Q (⟨some d, .build t parts.toArray, ty, pos, af, none⟩ :: rest) a w := by
  refine st_pure hs ?_ hd k
  have hb : P.built t vs = some cs.toArray := by
    unfold Program.built
    simp only [hit, ht, hz, hpl]
    have := hf.fill
    rw [← hzc] at this
    simpa using this
  have he : (parts.toArray.map fun (i, x) => (i, a.eval x)).toList = vs := by simpa using hp.eval hs
  unfold execOp
  simp only [Sem.run_bind]
  rw [run_build w t _ cs.toArray (by rw [he]; exact hb)]
  rfl
theorem st_buildA {t e : TypeId} {len : Nat} {parts : List (Nat × Operand)} {vs : List (Nat × Value)} {cs zs : List Value} {it ie : TypeInfo} {z : Value} {sz : Nat} (hs : St n F w0 S M a w) (hp : EvP F parts vs)
    (ht : P.underlying t = some (.array len e)) (hit : P.info? t = some it) (hz : it.zero = some z) (hzc : z.cells.toList = zs) (hie : P.info? e = some ie) (hsz : ie.size = sz)
    (hf : Fills (fun i => some (i * sz, sz)) zs vs cs) (hd : Nat.blt d n = true)
    (k : ∀ a w, St n ((d, .agg cs.toArray) :: F) w0 S M a w → wpList P ops Q rest a w) : wpList P ops Q (⟨some d, .build t parts.toArray, ty, pos, af, none⟩ :: rest) a w := by
  refine st_pure hs ?_ hd k
  subst hsz
  have hb : P.built t vs = some cs.toArray := by
    unfold Program.built
    simp only [hit, ht, hz, hie]
    have := hf.fill
    rw [← hzc] at this
    simpa using this
  have he : (parts.toArray.map fun (i, x) => (i, a.eval x)).toList = vs := by simpa using hp.eval hs
  unfold execOp
  simp only [Sem.run_bind]
  rw [run_build w t _ cs.toArray (by rw [he]; exact hb)]
  rfl
/-! ### Results in memory -/
theorem finC {fn : Func} {post : Value → List HA → Prop} {t : Nat} {rt bt : TypeId} {g i sz : Nat} {cs vs : List Value} {M' : List HA} (hs : St n F w0 S M a w) (hr : fn.results = #[.cell t rt]) (hv : lk F t = some (.pointer (some ⟨g, i, none⟩))) (hb : Del M (blk g cs bt) M') (hc : Cut cs i sz vs)
    (hag : ∀ w, (isAgg rt).run P w = .ok true w) (hsz : ∀ w, (sizeOf rt).run P w = .ok sz w) {X N : List HA} (hD : Dels M X N) (hp : post (.agg vs.toArray) N) : bodyPost P fn (Ret w0 S post) .ret a w := by
  have hg := hs.agr t _ hv
  have he := hc.eq
  have hcl : vs.length = sz := by rw [he.1]; simp; omega
  have hrun := run_loadCells_list (P := P) w ⟨g, i, none⟩ vs (fun j u hj => by
    have ha : (⟨g, i, none⟩ : Addr).add j = ⟨g, i + j, none⟩ := by unfold Addr.add; split <;> simp_all
    rw [ha, cell_blk (hs.mem.del hb)]
    rw [he.1, List.getElem?_take] at hj
    split at hj
    · simpa using hj
    · cases hj)
  rw [hcl] at hrun
  refine bodyPost_ret (v := .agg vs.toArray) ?_ hs.dfr ⟨_, N, rfl, hp, hs.mem.drop hD⟩
  simp [results, hr, Array.getD_eq_getD_getElem?, hg, asAddr, loadVar, hag, hsz, hrun]
/-! ### Loads from a block that one knows of -/
theorem st_ldE {x : Operand} {v : Value} {t t2 : TypeId} {g i : Nat} {cs : List Value} (hs : St n F w0 S M a w) (hx : evo F x = some (.pointer (some ⟨g, i, none⟩))) (hb : (blk g cs t2).p w) (hv : Nth cs i v)
    (hag : ∀ w, (isAgg t).run P w = .ok false w) (hd : Nat.blt d n = true)
    (k : ∀ a w, St n ((d, v) :: F) w0 S M a w → wpList P ops Q rest a w) : wpList P ops Q (⟨some d, .load t x, ty, pos, af, none⟩ :: rest) a w := by
  have hc := (cell_blk (i := i) hb).trans hv.get
  exact st_pure hs (by simp [execOp, Instr.loadAt, Instr.sureAddr, loadVar, hs.ev hx, hag, run_load, hc]) hd k
/-! ### Arrays of three numbers -/
/-! ### Rounds -/
theorem rounds_in {c : Code} {k : Nat} (h : c.wp P (Exit.then (Code.rounds P c Q k) Q) a w) : Code.rounds P c Q (k + 1) a w := h
/-! ### What is handed to a call -/
theorem Mem.rd1 {v : Value} {size m : Nat} {xs : List Value} {M' X : List HA} (hm : Mem w0 S M w) (h : Rd w0 S v size m xs) (d : Dels M X M') : Rd w (feet X) v size m xs := hm.rd h d.sub
/-- A block that one knew of at the entry, and that is none of those that are written. -/
theorem Mem.keep {g : Nat} {cs : List Value} {t : TypeId} (hm : Mem w0 S M w) (h : (blk g cs t).p w0) (hn : g ∉ S) : (blk g cs t).p w :=
  (blk g cs t).loc w0 w (fun k hk => by
    simp only [blk, List.mem_singleton] at hk
    subst hk
    exact hm.chg.block _ ((blk k cs t).lt w0 h k (by simp [blk])) hn) h
theorem Mem.apart {g k : Nat} {cs ds : List Value} {t u : TypeId} {M' M'' : List HA} (hm : Mem w0 S M w) (dl : Del M (blk g cs t) M') (d2 : Dels M' [blk k ds u] M'') : g ≠ k := by
  intro e
  subst e
  have hn := List.nodup_append.1 (dl.perm.nodup_iff.1 hm.nd)
  exact hn.2.2 g (by simp [blk]) g (d2.sub _ (by simp [feet, blk])) rfl
theorem ones_n : ∀ u ∈ ([] : List Value), u.oneCell' = true := by simp
theorem ones_c {v : Value} {r : List Value} (h : v.oneCell' = true) (h2 : ∀ u ∈ r, u.oneCell' = true) : ∀ u ∈ v :: r, u.oneCell' = true := by
  intro u hu
  rcases List.mem_cons.1 hu with rfl | hu
  · exact h
  · exact h2 u hu
end Go.Sx

set_option linter.unusedVariables false
set_option linter.unusedSimpArgs false
namespace Go.Sx
open Go.RowKit
variable {P : Program} {ops : Array Oper} {Q : Exit → Act → World → Prop} {n : Nat} {F : List (Nat × Value)} {w0 : World} {S : List Nat} {M M0 : List HA} {a : Act} {w : World}

theorem Mem.perm {M M' : List HA} (h : Mem w0 S M w) (hp : M.Perm M') : Mem w0 S M' w := by
  have hf : (feet M).Perm (feet M') := hp.flatMap_right _
  exact ⟨h.chg, fun y hy => h.all y (hp.mem_iff.2 hy), hf.nodup_iff.1 h.nd, fun k hk => h.ge k (hf.mem_iff.2 hk)⟩
theorem Dels.app : ∀ (X M : List HA), Dels (X ++ M) X M
  | [], M => .n
  | x :: X, M => .c .z (Dels.app X M)
/-- The pile, by place. -/
theorem flat_out {c : Nat → List HA} {k : Nat} : ∀ (L : List Nat), L.Nodup → k ∈ L → (L.flatMap c).Perm (c k ++ L.flatMap fun i => if i = k then [] else c i)
  | [], _, h => by simp at h
  | x :: L, hn, h => by
    obtain ⟨hx, hn⟩ := List.nodup_cons.1 hn
    by_cases e : x = k
    · subst e
      have : (L.flatMap fun i => if i = x then [] else c i) = L.flatMap c := by
        rw [List.flatMap_def, List.flatMap_def]
        congr 1
        refine List.map_congr_left fun i hi => ?_
        rw [if_neg (show ¬ i = x from fun e => hx (by rw [← e]; exact hi))]
      simp only [List.flatMap_cons, if_pos, List.nil_append, this]
      exact List.Perm.refl _
    · have hk : k ∈ L := by simpa [Ne.symm e] using h
      simp only [List.flatMap_cons, if_neg e]
      refine (List.Perm.append_left _ (flat_out L hn hk)).trans ?_
      rw [← List.append_assoc, ← List.append_assoc]
      exact List.Perm.append_right _ List.perm_append_comm
theorem flat_outs {L : List Nat} (hL : L.Nodup) : ∀ (ks : List Nat) (c : Nat → List HA), ks.Nodup → (∀ k ∈ ks, k ∈ L) → (L.flatMap c).Perm (ks.flatMap c ++ L.flatMap fun i => if i ∈ ks then [] else c i)
  | [], c, _, _ => by simp
  | k :: ks, c, hn, hs => by
    obtain ⟨hk, hn⟩ := List.nodup_cons.1 hn
    refine (flat_out L hL (hs k (by simp))).trans ?_
    simp only [List.flatMap_cons, List.append_assoc]
    refine List.Perm.append_left _ ?_
    refine (flat_outs hL ks (fun i => if i = k then [] else c i) hn fun i hi => hs i (by simp [hi])).trans ?_
    have e1 : (ks.flatMap fun i => if i = k then [] else c i) = ks.flatMap c := by
      rw [List.flatMap_def, List.flatMap_def]
      congr 1
      refine List.map_congr_left fun i hi => ?_
      rw [if_neg (show ¬ i = k from fun e => hk (by rw [← e]; exact hi))]
    have e2 : (fun i => if i ∈ ks then [] else if i = k then [] else c i) = fun i => if i ∈ k :: ks then [] else c i := by
      funext i
      by_cases h1 : i = k
      · simp [h1]
      · by_cases h2 : i ∈ ks <;> simp [h1, h2]
    rw [e1, e2]

/-- What one operation does with memory. -/
structure OS where
  X : List HA
  use : List Nat
  dep : List Nat
  vp : (Nat → Value) → Prop
  N : (Nat → Value) → List HA
  was : Option Value
def OS.nil : OS := ⟨[], [], [], fun _ => True, fun _ => [], none⟩
/-- An operation that touches no memory, and whose value is v. -/
abbrev Pv (i : Nat) (v : Value) : OS := ⟨[], [], [], fun vs => vs i = v, fun _ => [], none⟩
/-- The values that it may speak of: its own, and those of the ones it names. -/
def OS.m (D : OS) (i : Nat) (vs : Nat → Value) : Nat → Value := fun k => bif k == i || D.dep.elem k then vs k else undef
def osAt (Ds : List OS) (i : Nat) : OS := (Ds[i]?).getD OS.nil
def taken (Ds : List OS) (ls : Nat → Bool) (i : Nat) : Prop := ∃ j, ls j = true ∧ i ∈ (osAt Ds j).use
open Classical in
noncomputable def cont (Ds : List OS) (ls : Nat → Bool) (vs : Nat → Value) (i : Nat) : List HA := if ls i = true then (if taken Ds ls i then [] else (osAt Ds i).N ((osAt Ds i).m i vs)) else (osAt Ds i).X
def SlotIs (l : List Oper) (i : Nat) (v : Value) (a : Act) : Prop := ∀ o d, l[i]? = some o → o.dst = some d → a.tmps[d]? = some v
def Waits (l : List Oper) (j i : Nat) : Prop := ∃ o, l[j]? = some o ∧ ∃ e ∈ o.after, Region.binds .any e = true ∧ e.on = i
/-- The values, one of them anew. -/
def setv (vs : Nat → Value) (i : Nat) (v : Value) : Nat → Value := fun k => bif k == i then v else vs k
def RG (n : Nat) (F : List (Nat × Value)) (a : Act) (w : World) (o : Oper) (own : List HA) (D : OS) (i : Nat) (vs : Nat → Value) (a' : Act) (w' : World) : Prop :=
  ∃ v G, St n G w [] [] a w ∧ Covers F G ∧ St n ((o.dst.toList.map fun d => (d, v)) ++ G) w (feet own) (D.N (D.m i (setv vs i v))) a' w' ∧ D.vp (D.m i (setv vs i v))
def QG (n : Nat) (F : List (Nat × Value)) (a : Act) (w : World) (o : Oper) (own : List HA) (D : OS) (i : Nat) (vs : Nat → Value) : Exit → Act → World → Prop :=
  fun e a' w' => e = .normal ∧ RG n F a w o own D i vs a' w'
def ownOf (D : OS) (Ds : List OS) (vs : Nat → Value) : List HA := D.X ++ D.use.flatMap fun k => (osAt Ds k).N ((osAt Ds k).m k vs)
inductive TW (l : List Oper) : Nat → Nat → Prop
  | one {j k} : Waits l j k → TW l j k
  | more {j m k} : Waits l j m → TW l m k → TW l j k
def twB (l : List Oper) (k : Nat) : Nat → Nat → Bool
  | 0, _ => false
  | f + 1, j => match l[j]? with
    | none => false
    | some o => o.after.any fun e => Region.binds .any e && (Nat.beq e.on k || (Nat.blt k e.on && twB l k f e.on))
theorem twB_spec {l : List Oper} {k : Nat} : ∀ (f j : Nat), twB l k f j = true → TW l j k := by
  intro f
  induction f with
  | zero => intro j h; simp [twB] at h
  | succ f ih =>
    intro j h
    simp only [twB] at h
    split at h
    · cases h
    · rename_i o ho
      rw [← Array.any_toList, List.any_eq_true] at h
      obtain ⟨e, he, h2⟩ := h
      simp only [Bool.and_eq_true, Bool.or_eq_true] at h2
      have hw : Waits l j e.on := ⟨o, ho, e, Array.mem_toList_iff.1 he, h2.1, rfl⟩
      rcases h2.2 with h3 | h3
      · have := Nat.eq_of_beq_eq_true h3
        subst this
        exact .one hw
      · exact .more hw (ih _ h3.2)
/-- What an operation is told of one that it waits for. -/
def Told (l : List Oper) (Ds : List OS) (rest : List HA) (vs : Nat → Value) (i k : Nat) (a : Act) : Prop := SlotIs l k (vs k) a ∧ (osAt Ds k).vp ((osAt Ds k).m k vs) ∧ ((∀ j, k ∈ (osAt Ds j).use → TW l j i) → ∀ h ∈ (osAt Ds k).N ((osAt Ds k).m k vs), h ∈ rest)
/-- Whoever takes over from k waits for i. -/
def laterB (l : List Oper) (i k n : Nat) : Nat → List OS → Bool
  | _, [] => true
  | j, D :: Ds => (!(D.use.elem k) || twB l i n j) && laterB l i k n (j + 1) Ds
theorem laterB_spec {l : List Oper} {i k n : Nat} : ∀ (Ds : List OS) (j0 : Nat), laterB l i k n j0 Ds = true → ∀ j, k ∈ (osAt Ds j).use → TW l (j0 + j) i := by
  intro Ds
  induction Ds with
  | nil => intro j0 _ j hj; unfold osAt at hj; simp [OS.nil] at hj
  | cons D Ds ih =>
    intro j0 h j hj
    simp only [laterB, Bool.and_eq_true, Bool.or_eq_true, Bool.not_eq_true'] at h
    cases j with
    | zero =>
      have hj' : k ∈ D.use := by simpa [osAt] using hj
      rcases h.1 with h1 | h1
      · rw [show List.elem k D.use = true from List.elem_iff.2 hj'] at h1; cases h1
      · exact twB_spec _ _ h1
    | succ j =>
      have := ih (j0 + 1) h.2 j (by simpa [osAt] using hj)
      rwa [show j0 + 1 + j = j0 + (j + 1) by omega] at this
theorem later {l : List Oper} {Ds : List OS} {i k n : Nat} (h : laterB l i k n 0 Ds = true) : ∀ j, k ∈ (osAt Ds j).use → TW l j i := fun j hj => by
  have := laterB_spec Ds 0 h j hj
  rwa [Nat.zero_add] at this
def Trip (P : Program) (l : List Oper) (n : Nat) (F : List (Nat × Value)) (w0 : World) (S : List Nat) (M0 : List HA) (Ds : List OS) (i : Nat) (o : Oper) (D : OS) : Prop :=
  ∀ a w R rest vs, Mem w0 S (ownOf D Ds vs ++ (M0 ++ rest)) w → St n (F ++ R) w (feet (ownOf D Ds vs)) (ownOf D Ds vs) a w → (∀ k, TW l i k → Told l Ds rest vs i k a) → (∀ j, TW l j i → (∀ h ∈ (osAt Ds j).X, h ∈ rest) ∧ ∀ u, (osAt Ds j).was = some u → SlotIs l j u a) →
    wpList P l.toArray (QG n (F ++ R) a w o (ownOf D Ds vs) D i vs) [o] a w
inductive Trips (P : Program) (l : List Oper) (n : Nat) (F : List (Nat × Value)) (w0 : World) (S : List Nat) (M0 : List HA) (Ds : List OS) : Nat → List Oper → List OS → Prop
  | n {i} : Trips P l n F w0 S M0 Ds i [] []
  | c {i o r D ds} : Trip P l n F w0 S M0 Ds i o D → Trips P l n F w0 S M0 Ds (i + 1) r ds → Trips P l n F w0 S M0 Ds i (o :: r) (D :: ds)
theorem Trips.get {l : List Oper} {Ds : List OS} {r : List Oper} {ds : List OS} {j : Nat} (h : Trips P l n F w0 S M0 Ds j r ds) : r.length = ds.length ∧ ∀ (i : Nat) (o : Oper), r[i]? = some o → Trip P l n F w0 S M0 Ds (j + i) o (osAt ds i) := by
  induction h with
  | n => exact ⟨rfl, fun i o h => by simp at h⟩
  | @c j o' r D ds h _ ih =>
    refine ⟨by simp [ih.1], fun i o hi => ?_⟩
    cases i with
    | zero => simp only [List.getElem?_cons_zero, Option.some.injEq] at hi; subst hi; exact h
    | succ i => have := ih.2 i o (by simpa using hi); rw [show j + (i + 1) = j + 1 + i by omega]; exact this
/-- Edges lead back; the slots are each written once, and none is the base's; what is taken over is waited for, and by one alone. -/
def goodG (F : List (Nat × Value)) (l : List Oper) : Bool :=
  (l.zipIdx.all fun x => x.1.after.all fun e => !(Region.binds .any e) || Nat.blt e.on x.2) && (l.all fun o => F.all fun p => !(o.dst == some p.1)) && (l.zipIdx.all fun x => l.zipIdx.all fun y => Nat.beq x.2 y.2 || x.1.dst.isNone || !(x.1.dst == y.1.dst))
def goodU (l : List Oper) (us ds : List (List Nat)) : Bool :=
  (us.zipIdx.all fun x => x.1.all fun k => twB l k l.length x.2) && (ds.zipIdx.all fun x => x.1.all fun k => twB l k l.length x.2) && us.flatten.Nodup
theorem goodG_spec {l : List Oper} (h : goodG F l = true) : (∀ (i : Nat) (o : Oper), l[i]? = some o → ∀ e ∈ o.after, Region.binds .any e = true → e.on < i) ∧ (∀ (i : Nat) (o : Oper), l[i]? = some o → ∀ d, o.dst = some d → ∀ p ∈ F, d ≠ p.1) ∧
    (∀ (i j : Nat) (o o' : Oper), l[i]? = some o → l[j]? = some o' → i ≠ j → ∀ d, o.dst = some d → o'.dst ≠ some d) := by
  simp only [goodG, Bool.and_eq_true, List.all_eq_true] at h
  have hz : ∀ (i : Nat) (o : Oper), l[i]? = some o → (o, i) ∈ l.zipIdx := fun i o hi => by
    rw [List.mem_zipIdx_iff_getElem?]; exact hi
  refine ⟨fun i o hi e he hb => ?_, fun i o hi d hd p hp e => ?_, fun i j o o' hi hj hne d hd hd' => ?_⟩
  · have h1 := h.1.1 _ (hz i o hi)
    rw [Array.all_eq_true_iff_forall_mem] at h1
    have := h1 e he
    simpa [hb] using this
  · have h1 := h.1.2 o (List.mem_of_getElem? hi) p hp
    simp [hd, e] at h1
  · have h1 := h.2 _ (hz i o hi) _ (hz j o' hj)
    simp only [Bool.or_eq_true] at h1
    rcases h1 with (h1 | h1) | h1
    · exact absurd (Nat.eq_of_beq_eq_true h1) hne
    · simp [hd] at h1
    · simp [hd, hd'] at h1
theorem goodU_spec {l : List Oper} {Ds : List OS} (h : goodU l (Ds.map (·.use)) (Ds.map (·.dep)) = true) : (∀ j k, k ∈ (osAt Ds j).use → TW l j k) ∧ (∀ j, (osAt Ds j).use.Nodup) ∧ (∀ i j k, k ∈ (osAt Ds i).use → k ∈ (osAt Ds j).use → i = j) ∧ (∀ j k, k ∈ (osAt Ds j).dep → TW l j k) := by
  simp only [goodU, Bool.and_eq_true, List.all_eq_true] at h
  have hn : ((Ds.map (·.use)).flatten).Nodup := of_decide_eq_true h.2
  have hget : ∀ (f : OS → List Nat), f OS.nil = [] → ∀ j k, k ∈ f (osAt Ds j) → ∃ hj : j < Ds.length, k ∈ f (Ds[j]) := fun f hf j k hk => by
    unfold osAt at hk
    rcases Nat.lt_or_ge j Ds.length with hj | hj
    · rw [List.getElem?_eq_getElem hj] at hk; exact ⟨hj, hk⟩
    · rw [List.getElem?_eq_none hj] at hk; simp [hf] at hk
  rw [List.Nodup, List.pairwise_flatten] at hn
  refine ⟨fun j k hk => ?_, fun j => ?_, fun i j k hi hj => ?_, fun j k hk => ?_⟩
  · obtain ⟨hj, hk⟩ := hget (·.use) rfl j k hk
    exact twB_spec _ _ (h.1.1 ((Ds[j]).use, j) (by rw [List.mem_zipIdx_iff_getElem?]; simp [hj]) k hk)
  · unfold osAt
    rcases Nat.lt_or_ge j Ds.length with hj | hj
    · rw [List.getElem?_eq_getElem hj]
      exact hn.1 _ (List.mem_map.2 ⟨Ds[j], List.getElem_mem hj, rfl⟩)
    · rw [List.getElem?_eq_none hj]; simp [OS.nil]
  · obtain ⟨hi', hi⟩ := hget (·.use) rfl i k hi
    obtain ⟨hj', hj⟩ := hget (·.use) rfl j k hj
    have hp := hn.2
    rw [List.pairwise_iff_getElem] at hp
    rcases Nat.lt_trichotomy i j with h1 | h1 | h1
    · have := hp i j (by simpa using hi') (by simpa using hj') h1
      simp only [List.getElem_map] at this
      exact absurd rfl (this k hi k hj)
    · exact h1
    · have := hp j i (by simpa using hj') (by simpa using hi') h1
      simp only [List.getElem_map] at this
      exact absurd rfl (this k hj k hi)
  · obtain ⟨hj, hk⟩ := hget (·.dep) rfl j k hk
    exact twB_spec _ _ (h.1.2 ((Ds[j]).dep, j) (by rw [List.mem_zipIdx_iff_getElem?]; simp [hj]) k hk)
theorem wp_of_norm {o : Oper} {R : Act → World → Prop} {a : Act} {w : World} {K : Act → World → Prop} (h : wpList P ops (fun e a w => e = .normal ∧ R a w) [o] a w) (hK : ∀ a' w', R a' w' → K a' w') :
    if Region.wanted o (yielded ops a.tmps) then o.wp P a w K Q ∨ (o.asks P a w ∧ LetsOut Q) else K (a.put o.dst undef) w := by
  unfold wpList at h
  split
  · rename_i hw
    rw [if_pos hw] at h
    rcases h with h | ⟨_, a₀, w₀, hq, _⟩
    · left
      unfold Oper.wp at *
      generalize (execOp a.eval o).run P w = r at *
      cases r with
      | ok nx w' =>
        cases nx <;> simp only [Oper.upon] at h ⊢ <;>
          first
            | exact hK _ _ h.2
            | exact Calls.mono h (fun e w'' he => by
                cases e with
                | returned v => exact hK _ _ he.2
                | panicked c => exact absurd he.1 (by simp)
                | outgrown => obtain ⟨_, _, he, _⟩ := he; exact absurd he (by simp))
            | exact Rows.mono h (fun _ _ he => hK _ _ he.2)
      | halt hh w' =>
        cases hh <;> simp only [Oper.upon] at h ⊢
        exact absurd h.1 (by simp)
    · exact absurd hq (by simp)
  · rename_i hw
    rw [if_neg hw] at h
    exact hK _ _ h.2
theorem keepsG {F' G' H : List (Nat × Value)} {SS : List Nat} {N : List HA} {a' : Act} {w' : World} (h0 : St n G' w [] [] a w) (hc : Covers (F' ++ allOf n a) G') (hs' : St n (H ++ G') w SS N a' w') : ∀ t, lk H t = none → a'.tmps[t]? = a.tmps[t]? := by
  intro t ht
  rcases Nat.lt_or_ge t n with hlt | hge
  · have hcov : ∃ u, lk (F' ++ allOf n a) t = some u := by
      rw [lk_append, lk_allOf, if_pos hlt]
      cases lk F' t <;> simp
    obtain ⟨u, hu⟩ := hcov
    obtain ⟨u', hu'⟩ := hc.get t u hu
    rw [h0.agr t u' hu', hs'.agr t u' (by rw [lk_append, ht, Option.none_or]; exact hu')]
  · rw [Array.getElem?_eq_none (by rw [hs'.size]; exact hge), Array.getElem?_eq_none (by rw [h0.size]; exact hge)]
structure InvG (l : List Oper) (n : Nat) (F : List (Nat × Value)) (w0 : World) (S : List Nat) (M0 : List HA) (Ds : List OS) (listed : Array Bool) (vs : Nat → Value) (a : Act) (w : World) : Prop where
  st : St n F w0 S (M0 ++ (List.range l.length).flatMap (cont Ds (fun i => listed.getD i false) vs)) a w
  sz : listed.size = l.length
  fact : ∀ i, i < l.length → listed.getD i false = true → SlotIs l i (vs i) a ∧ (osAt Ds i).vp ((osAt Ds i).m i vs)
  closed : ∀ i, listed.getD i false = true → ∀ k, TW l i k → listed.getD k false = true
  old : ∀ j, j < l.length → listed.getD j false = false → ∀ u, (osAt Ds j).was = some u → SlotIs l j u a
theorem InvG.own {l : List Oper} {Ds : List OS} {listed : Array Bool} {vs : Nat → Value} {i : Nat} {o : Oper} (hg : goodG F l = true) (hu : goodU l (Ds.map (·.use)) (Ds.map (·.dep)) = true) (h : InvG l n F w0 S M0 Ds listed vs a w) (ho : l[i]? = some o)
    (hno : listed.getD i false = false) (hall : ∀ k, TW l i k → listed.getD k false = true) : (∀ i k, TW l i k → k < i) ∧ (i :: (osAt Ds i).use).Nodup ∧ (∀ k ∈ i :: (osAt Ds i).use, k ∈ List.range l.length) ∧
    (i :: (osAt Ds i).use).flatMap (cont Ds (fun i => listed.getD i false) vs) = ownOf (osAt Ds i) Ds vs := by
  obtain ⟨hfw, _, _⟩ := goodG_spec hg
  obtain ⟨hw, hnd, huq, hdp⟩ := goodU_spec hu
  have hil : i < l.length := (List.getElem?_eq_some_iff.1 ho).1
  have hback1 : ∀ i k, Waits l i k → k < i := by
    rintro i k ⟨o', ho', e, he, hb, rfl⟩
    exact hfw i o' ho' e he hb
  have hback : ∀ i k, TW l i k → k < i := by
    intro i k h
    induction h with
    | one h => exact hback1 _ _ h
    | more h _ ih => exact Nat.lt_trans ih (hback1 _ _ h)
  refine ⟨hback, List.nodup_cons.2 ⟨fun hi => Nat.lt_irrefl _ (hback i i (hw i i hi)), hnd i⟩, fun k hk => ?_, ?_⟩
  · rw [List.mem_range]
    rcases List.mem_cons.1 hk with rfl | hk
    · exact hil
    · exact Nat.lt_trans (hback i k (hw i k hk)) hil
  · unfold ownOf
    rw [List.flatMap_cons]
    congr 1
    · unfold cont
      rw [if_neg (by show ¬ listed.getD i false = true; rw [hno]; simp)]
    · rw [List.flatMap_def, List.flatMap_def]
      congr 1
      refine List.map_congr_left fun k hk => ?_
      have hlk := hall k (hw i k hk)
      unfold cont
      rw [if_pos hlk, if_neg]
      rintro ⟨j, hj, hkj⟩
      have := huq j i k hkj hk
      subst this
      have hj : listed.getD j false = true := hj
      rw [hno] at hj
      cases hj
theorem swap_perm {A B C : List HA} : (A ++ (B ++ C)).Perm (B ++ (A ++ C)) := by
  rw [← List.append_assoc, ← List.append_assoc]
  exact List.Perm.append_right _ List.perm_append_comm
theorem InvG.step {l : List Oper} {Ds : List OS} {listed : Array Bool} {vs : Nat → Value} {i : Nat} {o : Oper} (hg : goodG F l = true) (hu : goodU l (Ds.map (·.use)) (Ds.map (·.dep)) = true) (h : InvG l n F w0 S M0 Ds listed vs a w) (ho : l[i]? = some o)
    (hno : listed.getD i false = false) (hall : ∀ k, TW l i k → listed.getD k false = true) {a' : Act} {w' : World} (hr : RG n (F ++ allOf n a) a w o (ownOf (osAt Ds i) Ds vs) (osAt Ds i) i vs a' w') :
    ∃ vs', InvG l n F w0 S M0 Ds (listed.setIfInBounds i true) vs' a' w' := by
  obtain ⟨hback, hknd, hkr, hown⟩ := h.own hg hu ho hno hall
  obtain ⟨hfw, hbase, hdis⟩ := goodG_spec hg
  obtain ⟨hw, hnd, huq, hdp⟩ := goodU_spec hu
  obtain ⟨v, G, hs0, hcov, hs', hvp⟩ := hr
  have hk := keepsG hs0 hcov hs'
  have hil : i < l.length := (List.getElem?_eq_some_iff.1 ho).1
  have hsz : i < listed.size := by rw [h.sz]; exact hil
  have hls : ∀ k, (listed.setIfInBounds i true).getD k false = if k = i then true else listed.getD k false := fun k => by
    by_cases e : k = i
    · subst e; simp [Array.getD_eq_getD_getElem?, Array.getElem?_setIfInBounds, hsz]
    · have hne : ¬ i = k := fun e' => e e'.symm
      simp [Array.getD_eq_getD_getElem?, Array.getElem?_setIfInBounds, e, hne]
  have hdn : ∀ t, (∀ d, o.dst = some d → t ≠ d) → lk (o.dst.toList.map fun d => (d, v)) t = none := fun t ht => by
    cases hd : o.dst with
    | none => rfl
    | some d =>
      have := ht d hd
      simp only [Option.toList_some, List.map_cons, List.map_nil]
      rw [lk_cons, if_neg (fun e => this e.symm)]
      rfl
  let vs' : Nat → Value := setv vs i v
  have hvi : vs' i = v := by simp [vs', setv]
  have hvo : ∀ k, k ≠ i → vs' k = vs k := fun k hk => by
    have : (k == i) = false := beq_eq_false_iff_ne.2 hk
    simp [vs', setv, this]
  have hmo : ∀ k, k ≠ i → listed.getD k false = true → (osAt Ds k).m k vs' = (osAt Ds k).m k vs := fun k hki hlk => by
    funext j
    unfold OS.m
    cases hb : j == k || (osAt Ds k).dep.elem j with
    | false => rfl
    | true =>
      simp only [cond_true]
      refine hvo j fun e => ?_
      subst e
      rw [Bool.or_eq_true] at hb
      rcases hb with hb | hb
      · exact hki (by simpa using (eq_of_beq hb).symm)
      · have := h.closed k hlk j (hdp k j (List.elem_iff.1 hb))
        rw [hno] at this
        cases this
  have hmem := h.st.mem.perm ((List.Perm.append_left M0 ((flat_outs List.nodup_range (i :: (osAt Ds i).use) _ hknd hkr).trans (List.Perm.append_right _ (by rw [hown])))).trans swap_perm)
  have hfr := hmem.frame (Dels.app _ _) hs'.mem
  refine ⟨vs', ⟨hs'.size, hs'.dfr, fun t u hu => ?_, ?_⟩, by simp [h.sz], fun j hj hl => ?_, fun j hj k hwk => ?_, fun j hj hl u hu => ?_⟩
  · rw [hk t (hdn t fun d hd e => ?_)]
    · exact h.st.agr t u hu
    · obtain ⟨q, hq, e'⟩ := lk_mem hu
      exact hbase i o ho d hd q hq (e.symm.trans e'.symm)
  · refine hfr.perm ?_
    have hp := flat_outs List.nodup_range (i :: (osAt Ds i).use) (cont Ds (fun i_1 => (listed.setIfInBounds i true).getD i_1 false) vs') hknd hkr
    have hi : cont Ds (fun i_1 => (listed.setIfInBounds i true).getD i_1 false) vs' i = (osAt Ds i).N ((osAt Ds i).m i vs') := by
      unfold cont
      rw [if_pos ((hls i).trans (if_pos rfl)), if_neg]
      · rintro ⟨j, hj, hij⟩
        have hwj := hw j i hij
        replace hj := (hls j).symm.trans hj
        by_cases e : j = i
        · subst e
          exact Nat.lt_irrefl _ (hback j j hwj)
        · rw [if_neg e] at hj
          have := h.closed j hj i hwj
          rw [hno] at this
          cases this
    have huse : (osAt Ds i).use.flatMap (cont Ds (fun i_1 => (listed.setIfInBounds i true).getD i_1 false) vs') = [] := by
      rw [List.flatMap_eq_nil_iff]
      intro k hk
      unfold cont
      have hki : k ≠ i := fun e => by subst e; exact Nat.lt_irrefl _ (hback k k (hw k k hk))
      rw [if_pos ((hls k).trans ((if_neg hki).trans (hall k (hw i k hk)))), if_pos ⟨i, (hls i).trans (if_pos rfl), hk⟩]
    have hrest : (fun k => if k ∈ i :: (osAt Ds i).use then [] else cont Ds (fun i_1 => (listed.setIfInBounds i true).getD i_1 false) vs' k) = fun k => if k ∈ i :: (osAt Ds i).use then [] else cont Ds (fun i => listed.getD i false) vs k := by
      funext k
      by_cases hm : k ∈ i :: (osAt Ds i).use
      · rw [if_pos hm, if_pos hm]
      · rw [if_neg hm, if_neg hm]
        have hki : ¬ k = i := fun e => hm (by simp [e])
        have hku : k ∉ (osAt Ds i).use := fun e => hm (by simp [e])
        have ht : taken Ds (fun i_1 => (listed.setIfInBounds i true).getD i_1 false) k ↔ taken Ds (fun i => listed.getD i false) k := by
          constructor
          · rintro ⟨j, hj, hkj⟩
            replace hj := (hls j).symm.trans hj
            by_cases e : j = i
            · subst e; exact absurd hkj hku
            · rw [if_neg e] at hj; exact ⟨j, hj, hkj⟩
          · rintro ⟨j, hj, hkj⟩
            exact ⟨j, (hls j).trans (by split <;> simp_all), hkj⟩
        unfold cont
        simp only [hls, if_neg hki]
        by_cases hlk : listed.getD k false = true
        case neg => rw [if_neg hlk, if_neg hlk]
        rw [if_pos hlk, if_pos hlk, hmo k hki hlk]
        by_cases ht1 : taken Ds (fun i => listed.getD i false) k
        · rw [if_pos (ht.2 ht1), if_pos ht1]
        · rw [if_neg (fun h => ht1 (ht.1 h)), if_neg ht1]
    rw [List.flatMap_cons, hi, huse, List.append_nil, hrest] at hp
    exact swap_perm.trans (List.Perm.append_left M0 hp.symm)
  · by_cases e : j = i
    · subst e
      refine ⟨fun o' d h1 h2 => ?_, hvp⟩
      rw [ho] at h1
      injection h1 with h1
      subst h1
      have := hs'.agr d v (by rw [h2]; simp [lk_cons])
      rw [hvi]
      exact this
    · rw [hls, if_neg e] at hl
      obtain ⟨h1, h2⟩ := h.fact j hj hl
      refine ⟨fun o' d h3 h4 => ?_, by rw [hmo j e hl]; exact h2⟩
      rw [hk d (hdn d fun d' hd' e' => ?_)]
      · rw [hvo j e]; exact h1 o' d h3 h4
      · subst e'
        exact hdis j i o' o h3 ho e d h4 hd'
  · rw [hls] at hj ⊢
    split
    · rfl
    · by_cases e : j = i
      · subst e; exact hall k hwk
      · rw [if_neg e] at hj; exact h.closed j hj k hwk
  · rw [hls] at hl
    by_cases e : j = i
    · rw [if_pos e] at hl; cases hl
    · rw [if_neg e] at hl
      have h1 := h.old j hj hl u hu
      intro o' d h3 h4
      rw [hk d (hdn d fun d' hd' e' => ?_)]
      · exact h1 o' d h3 h4
      · subst e'
        exact hdis j i o' o h3 ho e d h4 hd'
theorem all_listedB {l : List Oper} {listed : Array Bool} (hfw : ∀ (i : Nat) (o : Oper), l[i]? = some o → ∀ e ∈ o.after, Region.binds .any e = true → e.on < i) (hsz : listed.size = l.toArray.size) (hr : Region.ready .any l.toArray listed = []) : ∀ i, i < l.length → listed.getD i false = true := by
  intro i
  induction i using Nat.strongRecOn with
  | _ i ih =>
    intro hi
    cases hb : listed.getD i false with
    | true => rfl
    | false =>
      exfalso
      have hmem : i ∈ Region.ready .any l.toArray listed := by
        rw [mem_ready]
        refine ⟨?_, l[i], by simp, fun e he hbi => ih e.on (hfw i l[i] (by simp) e he hbi) (Nat.lt_trans (hfw i l[i] (by simp) e he hbi) hi)⟩
        have : i < listed.size := by rw [hsz]; simpa using hi
        simp only [Array.getD_eq_getD_getElem?, Array.getElem?_eq_getElem this] at hb ⊢
        exact hb
      rw [hr] at hmem
      cases hmem
theorem wpAny_invG {l : List Oper} {Ds : List OS} (hg : goodG F l = true) (hu : goodU l (Ds.map (·.use)) (Ds.map (·.dep)) = true) (hst : Trips P l n F w0 S M0 Ds 0 l Ds)
    (hfin : ∀ listed vs a w, InvG l n F w0 S M0 Ds listed vs a w → (∀ i, i < l.length → listed.getD i false = true) → Q .normal a w) :
    ∀ (fuel : Nat) (listed : Array Bool) (vs : Nat → Value) (a : Act) (w : World), listed.toList.count false ≤ fuel → InvG l n F w0 S M0 Ds listed vs a w → wpAny P .any l.toArray Q fuel listed a w := by
  obtain ⟨hfw, hbase, hdis⟩ := goodG_spec hg
  have hend : ∀ (listed : Array Bool) (vs : Nat → Value) (a : Act) (w : World), InvG l n F w0 S M0 Ds listed vs a w → Region.ready .any l.toArray listed = [] → Q .normal a w := fun listed vs a w h hr =>
    hfin listed vs a w h fun i hi => all_listedB hfw (by simpa using h.sz) hr i hi
  intro fuel
  induction fuel with
  | zero =>
    intro listed vs a w hc h
    have hr : Region.ready .any l.toArray listed = [] := by
      rw [List.eq_nil_iff_forall_not_mem]
      intro j hj
      obtain ⟨h1, o, ho, _⟩ := mem_ready.1 hj
      have hlt : j < listed.size := by rw [h.sz]; simpa using (Array.getElem?_eq_some_iff.1 ho).1
      have h2 : listed[j] = false := by simpa [Array.getD_eq_getD_getElem?, Array.getElem?_eq_getElem hlt] using h1
      have h3 : false ∈ listed.toList := by rw [← h2]; simp
      have := List.count_pos_iff.2 h3
      omega
    exact ⟨hr, hend listed vs a w h hr⟩
  | succ fuel ih =>
    intro listed vs a w hc h
    refine ⟨hend listed vs a w h, fun i hi => ?_⟩
    obtain ⟨h1, o, ho, hall⟩ := mem_ready.1 hi
    have ho' : l[i]? = some o := by simpa using ho
    have hlt : i < listed.size := by rw [h.sz]; simpa using (Array.getElem?_eq_some_iff.1 ho).1
    have h2 : listed[i] = false := by simpa [Array.getD_eq_getD_getElem?, Array.getElem?_eq_getElem hlt] using h1
    have hno : listed.getD i false = false := by simp [Array.getD_eq_getD_getElem?, Array.getElem?_eq_getElem hlt, h2]
    have hall1 : ∀ k, Waits l i k → listed.getD k false = true := by
      rintro k ⟨o', ho2, e, he, hb, rfl⟩
      rw [ho'] at ho2
      injection ho2 with ho2
      subst ho2
      exact hall e he hb
    have hall' : ∀ k, TW l i k → listed.getD k false = true := by
      intro k hk
      cases hk with
      | one h1 => exact hall1 _ h1
      | more h1 h2 => exact h.closed _ (hall1 _ h1) _ h2
    obtain ⟨hback, hknd, hkr, hown⟩ := h.own hg hu ho' hno hall'
    have hmem := h.st.mem.perm ((List.Perm.append_left M0 ((flat_outs List.nodup_range (i :: (osAt Ds i).use) _ hknd hkr).trans (List.Perm.append_right _ (by rw [hown])))).trans swap_perm)
    have hil : i < l.length := by simpa using (Array.getElem?_eq_some_iff.1 ho).1
    have hnd := hmem.nd
    rw [feet_append] at hnd
    have htr := hst.get.2 i o ho'
    rw [Nat.zero_add] at htr
    have hq := htr a w (allOf n a) _ vs hmem ⟨h.st.size, h.st.dfr, h.st.full.agr, ⟨Chg.refl _ _, fun y hy => hmem.all y (by simp [hy]), (List.nodup_append.1 hnd).1, fun k hk => .inl hk⟩⟩ (fun k hwk => by
      have hlk := hall' _ hwk
      have hke : k < i := hback i _ hwk
      obtain ⟨f1, f2⟩ := h.fact k (by omega) hlk
      refine ⟨f1, f2, fun hfree y hy => ?_⟩
      have hii : ¬ TW l i i := fun h1 => Nat.lt_irrefl _ (hback i i h1)
      refine List.mem_flatMap.2 ⟨k, by rw [List.mem_range]; omega, ?_⟩
      rw [if_neg (by
        rintro hm
        rcases List.mem_cons.1 hm with hm | hm
        · omega
        · exact hii (hfree i hm))]
      unfold cont
      rw [if_pos hlk, if_neg (by
        rintro ⟨j, hlj, hj⟩
        have := h.closed j hlj i (hfree j hj)
        rw [hno] at this
        cases this)]
      exact hy) (fun j hj => by
      have hij : i < j := hback j i hj
      have hlj : listed.getD j false = false := by
        cases hb : listed.getD j false with
        | false => rfl
        | true =>
          have := h.closed j hb i hj
          rw [hno] at this
          cases this
      have hjl : j < l.length := by
        rcases hj with ⟨o', ho2, _⟩ | ⟨⟨o', ho2, _⟩, _⟩ <;> exact (List.getElem?_eq_some_iff.1 ho2).1
      refine ⟨fun y hy => ?_, fun u hu => h.old j hjl hlj u hu⟩
      refine List.mem_flatMap.2 ⟨j, by rw [List.mem_range]; exact hjl, ?_⟩
      rw [if_neg (by
        rintro hm
        rcases List.mem_cons.1 hm with hm | hm
        · omega
        · have := hback i j ((goodU_spec hu).1 i j hm)
          omega)]
      unfold cont
      rw [if_neg (by show ¬ listed.getD j false = true; rw [hlj]; simp)]
      exact hy)
    unfold wpOp
    rw [ho]
    refine wp_of_norm hq fun a' w' hn => ?_
    obtain ⟨vs', h'⟩ := h.step hg hu ho' hno hall' hn
    refine ih _ vs' a' w' ?_ h'
    have hcount : (listed.setIfInBounds i true).toList.count false + 1 = listed.toList.count false := by
      rw [Array.toList_setIfInBounds]
      have hi2 : i < listed.toList.length := by simpa using hlt
      have h3 : listed.toList[i] = false := by simpa using h2
      exact count_set listed.toList i hi2 h3
    omega
/-- What is left at the end. -/
def endP (us : List Nat) (vs : Nat → Value) : Nat → List OS → List HA
  | _, [] => []
  | i, D :: Ds => (if us.elem i then [] else D.N (D.m i vs)) ++ endP us vs (i + 1) Ds
theorem endP_eq {us : List Nat} {vs : Nat → Value} : ∀ (Ds : List OS) (i : Nat), endP us vs i Ds = (List.range' i Ds.length).flatMap fun k => if us.elem k then [] else (osAt Ds (k - i)).N ((osAt Ds (k - i)).m k vs)
  | [], i => by simp [endP]
  | D :: Ds, i => by
    simp only [endP, List.length_cons, List.range'_succ, List.flatMap_cons]
    congr 1
    · simp [osAt]
    · rw [endP_eq Ds (i + 1), List.flatMap_def, List.flatMap_def]
      congr 1
      refine List.map_congr_left fun k hk => ?_
      rw [List.mem_range'_1] at hk
      have : k - i = (k - (i + 1)) + 1 := by omega
      simp [osAt, this]
inductive DelsL : List HA → List HA → List HA → Prop
  | n {L} : DelsL L [] L
  | c {L x L1 X L2} : Del L x L1 → DelsL L1 X L2 → DelsL L (x :: X) L2
theorem Del.permL {L : List HA} {x : HA} {L' : List HA} (h : Del L x L') : L.Perm (x :: L') := by
  induction h with
  | z => exact List.Perm.refl _
  | @s u r x r' _ ih => exact (List.Perm.cons u ih).trans (List.Perm.swap x u r')
theorem DelsL.permL {L X L' : List HA} (h : DelsL L X L') : L.Perm (X ++ L') := by
  induction h with
  | n => exact List.Perm.refl _
  | c h _ ih => exact h.permL.trans (List.Perm.cons _ ih)
inductive WasL (F1 : List (Nat × Value)) : List Oper → List OS → Prop
  | n : WasL F1 [] []
  | z {o r D ds} : D.was = none → WasL F1 r ds → WasL F1 (o :: r) (D :: ds)
  | s {o r D ds d u} : o.dst = some d → D.was = some u → lk F1 d = some u → WasL F1 r ds → WasL F1 (o :: r) (D :: ds)
theorem WasL.get {F1 : List (Nat × Value)} {l : List Oper} {Ds : List OS} (h : WasL F1 l Ds) {M1 : List HA} (hs : St n F1 w0 S M1 a w) : ∀ j, j < l.length → ∀ u, (osAt Ds j).was = some u → SlotIs l j u a := by
  induction h with
  | n => intro j hj; simp at hj
  | @z o r D ds h1 _ ih =>
    intro j hj u hu
    cases j with
    | zero => rw [show osAt (D :: ds) 0 = D from rfl, h1] at hu; cases hu
    | succ j =>
      intro o' d h3 h4
      exact ih j (by simpa using hj) u hu o' d (by simpa using h3) h4
  | @s o r D ds d u' h1 h2 h3 _ ih =>
    intro j hj u hu
    cases j with
    | zero =>
      rw [show osAt (D :: ds) 0 = D from rfl, h2] at hu
      injection hu with hu
      subst hu
      intro o' d' h4 h5
      have h4' : o = o' := by simpa using h4
      subst h4'
      rw [h1] at h5
      injection h5 with h5
      subst h5
      exact hs.agr _ _ h3
    | succ j =>
      intro o' d' h4 h5
      exact ih j (by simpa using hj) u hu o' d' (by simpa using h4) h5
theorem wp_drawGw {id : Nat} {Ds : List OS} {l : List Oper} {X : List HA} (hm : P.follows .mixedOrders = true) (hs : St n F w0 S M a w) (hX : Ds.flatMap (·.X) = X) (hd : DelsL M X M0) (hg : goodG F l = true) (hu : goodU l (Ds.map (·.use)) (Ds.map (·.dep)) = true) (hst : Trips P l n F w0 S M0 Ds 0 l Ds)
    (hwas : ∀ j, j < l.length → ∀ u, (osAt Ds j).was = some u → SlotIs l j u a)
    (hfin : ∀ a w vs, St n F w0 S (M0 ++ endP (Ds.flatMap (·.use)) vs 0 Ds) a w → (∀ i, i < l.length → SlotIs l i (vs i) a ∧ (osAt Ds i).vp ((osAt Ds i).m i vs)) → Q .normal a w) : (Code.region id l.toArray true).wp P Q a w := by
  have hlen : l.length = Ds.length := hst.get.1
  refine wp_region_any hm (wpAny_invG (Ds := Ds) hg hu hst ?_ _ _ (fun _ => undef) _ _ (by simp) ⟨?_, by simp, ?_, ?_, fun j hj _ u hu => hwas j hj u hu⟩)
  · intro listed vs a w h hall
    have hst := h.st
    refine hfin a w vs ?_ fun i hi => h.fact i hi (hall i hi)
    have e : (List.range l.length).flatMap (cont Ds (fun i => listed.getD i false) vs) = endP (Ds.flatMap (·.use)) vs 0 Ds := by
      rw [endP_eq, ← hlen, List.range_eq_range', List.flatMap_def, List.flatMap_def]
      congr 1
      refine List.map_congr_left fun k hk => ?_
      rw [List.mem_range'_1] at hk
      unfold cont
      rw [if_pos (hall k (by omega)), Nat.sub_zero]
      have ht : taken Ds (fun i => listed.getD i false) k ↔ (Ds.flatMap (·.use)).elem k = true := by
        rw [List.elem_iff, List.mem_flatMap]
        constructor
        · rintro ⟨j, hj, hkj⟩
          unfold osAt at hkj
          rcases Nat.lt_or_ge j Ds.length with hj | hj
          · rw [List.getElem?_eq_getElem hj] at hkj; exact ⟨Ds[j], List.getElem_mem hj, hkj⟩
          · rw [List.getElem?_eq_none hj] at hkj; simp [OS.nil] at hkj
        · rintro ⟨D, hD, hkD⟩
          obtain ⟨j, hj, rfl⟩ := List.mem_iff_getElem.1 hD
          exact ⟨j, hall j (by omega), by unfold osAt; rw [List.getElem?_eq_getElem hj]; exact hkD⟩
      by_cases h1 : taken Ds (fun i => listed.getD i false) k
      · rw [if_pos h1, if_pos (ht.1 h1)]
      · rw [if_neg h1, if_neg (fun h => h1 (ht.2 h))]
    rw [← e]
    exact hst
  · have h1 := hs.frame (Dels.n (M := M)) (mem_drew w (w.drawn + 1))
    simp only [List.nil_append] at h1
    refine ⟨h1.size, h1.dfr, h1.agr, h1.mem.perm (hd.permL.trans (List.perm_append_comm.trans (List.Perm.append_left M0 ?_)))⟩
    have e : (List.range l.length).flatMap (cont Ds (fun i => (Array.replicate l.toArray.size false).getD i false) fun _ => undef) = Ds.flatMap (·.X) := by
      have hc : (cont Ds (fun i => (Array.replicate l.toArray.size false).getD i false) fun _ => undef) = fun i => (osAt Ds i).X := by
        funext i
        unfold cont
        rw [if_neg]
        simp [Array.getD_eq_getD_getElem?, Array.getElem?_replicate]
        split <;> simp
      rw [hc, hlen]
      clear hc hst hg hu hfin hX hlen hwas
      induction Ds with
      | nil => rfl
      | cons D Ds ih =>
        rw [List.length_cons, List.range_succ_eq_map, List.flatMap_cons, List.flatMap_cons, List.flatMap_map]
        congr 1
    rw [e, hX]
  · intro i hi hl
    simp [Array.getD_eq_getD_getElem?, Array.getElem?_replicate] at hl
    split at hl <;> simp at hl
  · intro i hl
    simp [Array.getD_eq_getD_getElem?, Array.getElem?_replicate] at hl
    split at hl <;> simp at hl
/-- The block that a pointer, or a slice, is of. -/
theorem wp_drawG {id : Nat} {Ds : List OS} {l : List Oper} {X : List HA} (hm : P.follows .mixedOrders = true) (hs : St n F w0 S M a w) (hX : Ds.flatMap (·.X) = X) (hd : DelsL M X M0) (hg : goodG F l = true) (hu : goodU l (Ds.map (·.use)) (Ds.map (·.dep)) = true) (hn : (Ds.all fun D => D.was.isNone) = true) (hst : Trips P l n F w0 S M0 Ds 0 l Ds)
    (hfin : ∀ a w vs, St n F w0 S (M0 ++ endP (Ds.flatMap (·.use)) vs 0 Ds) a w → (∀ i, i < l.length → SlotIs l i (vs i) a ∧ (osAt Ds i).vp ((osAt Ds i).m i vs)) → Q .normal a w) : (Code.region id l.toArray true).wp P Q a w :=
  wp_drawGw hm hs hX hd hg hu hst (fun j hj u hu => by
    exfalso
    rw [List.all_eq_true] at hn
    unfold osAt at hu
    rcases Nat.lt_or_ge j Ds.length with h | h
    · rw [List.getElem?_eq_getElem h] at hu
      have := hn _ (List.getElem_mem h)
      rw [show (Ds[j]).was = some u from hu] at this
      cases this
    · rw [List.getElem?_eq_none h] at hu
      simp [OS.nil] at hu) hfin
def ptrG : Value → Nat
  | .pointer (some a) => a.block
  | .slice (some a) _ _ => a.block
  | _ => 0
theorem Mem.mid {A B C : List HA} (h : Mem w0 S (A ++ (B ++ C)) w) : Mem w0 S B w := by
  have h1 : Mem w0 S (A ++ (C ++ B)) w := h.perm (List.Perm.append_left A List.perm_append_comm)
  have h2 : Mem w0 S ((A ++ C) ++ B) w := by rw [List.append_assoc]; exact h1
  exact h2.drop (Dels.app _ _)
theorem Mem.own {A B : List HA} (h : Mem w0 S (A ++ B) w) {y : HA} (hy : y ∈ B) : y.p w := h.all y (by simp [hy])
theorem St.bare {G : List (Nat × Value)} {SS : List Nat} {N : List HA} (h : St n G w SS N a w) : St n G w [] [] a w := ⟨h.size, h.dfr, h.agr, Mem.nil w⟩
theorem Told.val {l : List Oper} {Ds : List OS} {rest : List HA} {vs : Nat → Value} {i k : Nat} {d : Nat} (h : Told l Ds rest vs i k a) (hd : (l[k]?).bind (·.dst) = some d) : a.tmps[d]? = some (vs k) := by
  cases ho : l[k]? with
  | none => rw [ho] at hd; cases hd
  | some o => rw [ho] at hd; exact h.1 o d ho hd
theorem SlotIs.val {l : List Oper} {k : Nat} {d : Nat} {v : Value} (h : SlotIs l k v a) (hd : (l[k]?).bind (·.dst) = some d) : a.tmps[d]? = some v := by
  cases ho : l[k]? with
  | none => rw [ho] at hd; cases hd
  | some o => rw [ho] at hd; exact h o d ho hd
theorem St.reorder {M X : List HA} (hs : St n F w0 S M a w) (d : DelsL M X []) : St n F w0 S X a w := hs.memTo (by
  have := hs.mem.perm d.permL
  rwa [List.append_nil] at this)
end Go.Sx

namespace Go.Sx
open Go.RowKit Go.ChangeShapes Go.WideShapes
set_option linter.unusedVariables false
section
variable {H : Type} {enc : TypeId × Value → H} {P : Program} {W : World} {t e : TypeId} {a : Option Addr} {len cap : Nat} {d : DataW H} {p : List MemPlace}
theorem bv8_of {z : Int} (h : (Lit.int .u8 z).wf = true) : ∃ b : Byte, z = (b.toNat : Int) := by
  have hb := bounds_u8 h
  refine ⟨BitVec.ofNat 8 z.toNat, ?_⟩
  rw [BitVec.toNat_ofNat, Nat.mod_eq_of_lt (by omega)]
  omega
end
theorem bv_of_wf_u8 {z : Int} (h : (Lit.int .u8 z).wf = true) : ∃ b : BitVec 8, z = ((b.toNat : Nat) : Int) := bv8_of h
theorem bv_of_wf_u16 {z : Int} (h : (Lit.int .u16 z).wf = true) : ∃ b : BitVec 16, z = ((b.toNat : Nat) : Int) := by
  have hb := bounds_u16 h
  exact ⟨BitVec.ofNat 16 z.toNat, by rw [BitVec.toNat_ofNat, Nat.mod_eq_of_lt (by omega)]; omega⟩
theorem bv_of_wf_u64 {z : Int} (h : (Lit.int .u64 z).wf = true) : ∃ b : BitVec 64, z = ((b.toNat : Nat) : Int) := by
  have hb := bounds_u64 h
  exact ⟨BitVec.ofNat 64 z.toNat, by rw [BitVec.toNat_ofNat, Nat.mod_eq_of_lt (by omega)]; omega⟩
theorem i64_of_wf {z : Int} (h : (Lit.int .i64 z).wf = true) : -9223372036854775808 ≤ z ∧ z ≤ 9223372036854775807 := by
  have hb := bounds_i64 h
  omega
end Go.Sx

namespace Go.Sx
open Go.RowKit Go.ChangeShapes Go.WideShapes
set_option linter.unusedVariables false
set_option linter.unusedSimpArgs false
/-- The kinds of the cells of a type that holds no address. -/
inductive FK where
  | i (k : IntKind)
  | b
inductive OneFK : Value → FK → Prop
  | i {k z} : (Lit.int k z).wf = true → OneFK (.int k z) (.i k)
  | b {x} : OneFK (.bool x) .b
inductive AllFK : List Value → List FK → Prop
  | n : AllFK [] []
  | c {v k vs ks} : OneFK v k → AllFK vs ks → AllFK (v :: vs) (k :: ks)
theorem AllFK.app {a b : List Value} {k l : List FK} (h : AllFK a k) (h2 : AllFK b l) : AllFK (a ++ b) (k ++ l) := by
  induction h with
  | n => exact h2
  | c h _ ih => exact .c h ih
theorem AllFK.length {a : List Value} {k : List FK} (h : AllFK a k) : a.length = k.length := by
  induction h with
  | n => rfl
  | c _ _ ih => simp [ih]
section
variable (P : Program)
def flatFs (K : TypeId → Option (List FK)) : Nat → List Field → Option (List FK)
  | _, [] => some []
  | off, f :: r => (K f.type).bind fun k => if f.offset = off ∧ P.cellsOf f.type = k.length then (flatFs K (off + k.length) r).map fun l => k ++ l else none
def flatA (k : List FK) : Nat → List FK
  | 0 => []
  | n + 1 => k ++ flatA k n
def flatK : Nat → TypeId → Option (List FK)
  | 0, _ => none
  | n + 1, t => match P.underlying t with
    | some (.int k) => some [.i k]
    | some .bool => some [.b]
    | some (.struct fs) => (flatFs P (flatK n) 0 fs.toList).bind fun l => if P.cellsOf t = l.length then some l else none
    | some (.array m e) => (flatK n e).bind fun k => if P.cellsOf e = k.length ∧ P.cellsOf t = (flatA k m).length then some (flatA k m) else none
    | _ => none
end
section
variable {H : Type} {enc : TypeId × Value → H} {P : Program} {W : World} {t e : TypeId} {a : Option Addr} {len cap : Nat} {d : DataW H} {p : List MemPlace} {base : Nat} {spare : Nat → Bool} {held : Bool}
end
end Go.Sx

set_option linter.unusedVariables false
set_option linter.unusedSimpArgs false
namespace Go.Sx
open Go.RowKit
variable {P : Program}
def vEq : Value → Value → Bool
  | .int _ a, .int _ b => a == b
  | .bool a, .bool b => a == b
  | _, _ => false
def eqCells : List Value → List Value → Bool
  | x :: xs, y :: ys => vEq x y && eqCells xs ys
  | _, _ => true
theorem eqCells_app : ∀ {a b c d : List Value}, a.length = b.length → eqCells (a ++ c) (b ++ d) = (eqCells a b && eqCells c d)
  | [], [], _, _, _ => by simp [eqCells]
  | x :: a, y :: b, c, d, h => by
    simp only [List.cons_append, eqCells]
    rw [eqCells_app (by simpa using h), Bool.and_assoc]
  | [], _ :: _, _, _, h => by simp at h
  | _ :: _, [], _, _, h => by simp at h
/-- The kinds alone. -/
inductive KFK : List Value → List FK → Prop
  | n : KFK [] []
  | i {k z vs ks} : KFK vs ks → KFK (.int k z :: vs) (.i k :: ks)
  | b {x vs ks} : KFK vs ks → KFK (.bool x :: vs) (.b :: ks)
theorem KFK.length {vs : List Value} {ks : List FK} (h : KFK vs ks) : vs.length = ks.length := by
  induction h <;> simp_all
theorem KFK.split : ∀ {k : List FK} {l : List FK} {vs : List Value}, KFK vs (k ++ l) → KFK (vs.take k.length) k ∧ KFK (vs.drop k.length) l
  | [], l, vs, h => by simpa using ⟨KFK.n, h⟩
  | .i kd :: k, l, vs, h => by
    cases h with
    | i h => obtain ⟨h1, h2⟩ := KFK.split h; exact ⟨.i h1, h2⟩
  | .b :: k, l, vs, h => by
    cases h with
    | b h => obtain ⟨h1, h2⟩ := KFK.split h; exact ⟨.b h1, h2⟩
def isAggB (P : Program) (t : TypeId) : Bool := match P.underlying t with
  | some (.struct _) => true
  | some (.array _ _) => true
  | _ => false
end Go.Sx
namespace Go.Sx
open Go.RowKit
variable {P : Program}
def aggOf (P : Program) (t : TypeId) (cs : List Value) : Value := if isAggB P t then .agg cs.toArray else cs.headD undef
def flatQs (P : Program) (K : TypeId → Option (List FK)) : Nat → List Field → Option (List FK)
  | _, [] => some []
  | off, f :: r => (K f.type).bind fun k => if f.offset = off ∧ f.name ≠ "_" ∧ (P.info? f.type).map (·.size) = some k.length ∧ (isAggB P f.type = true ∨ k.length = 1) then (flatQs P K (off + k.length) r).map fun l => k ++ l else none
def flatQ (P : Program) : Nat → TypeId → Option (List FK)
  | 0, _ => none
  | n + 1, t => match P.underlying t with
    | some (.int k) => some [.i k]
    | some .bool => some [.b]
    | some (.struct fs) => if P.stoodInHeld t = false then flatQs P (flatQ P n) 0 fs.toList else none
    | some (.array m e) => (flatQ P n e).bind fun k => if (P.info? e).map (·.size) = some k.length ∧ (isAggB P e = true ∨ k.length = 1) then some (flatA k m) else none
    | _ => none
theorem run_isAgg {t : TypeId} {ds : TypeDesc} (w : World) (h : P.underlying t = some ds) : (isAgg t).run P w = .ok (isAggB P t) w := by
  unfold isAgg isAggB
  simp only [Sem.run_bind, run_underlying h, Result.andThen_ok, h]
  cases ds <;> simp
end Go.Sx
namespace Go.Sx
open Go.RowKit
variable {P : Program}
theorem run_partF {t : TypeId} {cs : List Value} {off k : Nat} {ds : TypeDesc} (w : World) (hu : P.underlying t = some ds) (hsz : (P.info? t).map (·.size) = some k) (hk : isAggB P t = true ∨ k = 1) (hlen : off + k ≤ cs.length) :
    (part t cs.toArray off).run P w = .ok (aggOf P t ((cs.drop off).take k)) w := by
  obtain ⟨i, hi, hik⟩ := Option.map_eq_some_iff.1 hsz
  unfold part aggOf
  simp only [Sem.run_bind, run_isAgg w hu, Result.andThen_ok]
  cases hb : isAggB P t with
  | true =>
    subst hik
    simp [sizeOf, typeInfo, hi, List.extract_toArray]
  | false =>
    rcases hk with hk | hk
    · rw [hb] at hk; cases hk
    · subst hk
      have h1 : off < cs.length := by omega
      simp [h1, List.headD_eq_head?_getD, List.head?_take, List.head?_drop]
theorem flatQ_und : ∀ (n : Nat) (t : TypeId) (ks : List FK), flatQ P n t = some ks → ∃ ds, P.underlying t = some ds := by
  intro n t ks h
  cases n with
  | zero => simp [flatQ] at h
  | succ n =>
    simp only [flatQ] at h
    cases hu : P.underlying t with
    | none => rw [hu] at h; cases h
    | some ds => exact ⟨ds, rfl⟩
end Go.Sx
namespace Go.Sx
open Go.RowKit
variable {P : Program}
theorem run_eqFs {K : TypeId → Option (List FK)} {d : Nat} (hK : ∀ t ks, K t = some ks → (∃ ds, P.underlying t = some ds) ∧ ∀ xs ys, KFK xs ks → KFK ys ks → ∀ w, (Op.equalIn d t (aggOf P t xs) (aggOf P t ys)).run P w = .ok (eqCells xs ys) w) :
    ∀ (fs : List Field) (off : Nat) (ks : List FK), flatQs P K off fs = some ks → ∀ (xs ys : List Value), xs.length = off + ks.length → ys.length = off + ks.length → KFK (xs.drop off) ks → KFK (ys.drop off) ks →
      ∀ w, (Op.eqFields d xs.toArray ys.toArray fs).run P w = .ok (eqCells (xs.drop off) (ys.drop off)) w := by
  intro fs
  induction fs with
  | nil =>
    intro off ks h xs ys hx hy _ _ w
    simp only [flatQs, Option.some.injEq] at h
    subst h
    simp only [List.length_nil, Nat.add_zero] at hx hy
    rw [List.drop_of_length_le (by omega), List.drop_of_length_le (by omega)]
    simp [Op.eqFields, eqCells]
  | cons f r ih =>
    intro off ks h xs ys hx hy kx ky w
    simp only [flatQs, Option.bind_eq_some_iff] at h
    obtain ⟨k, hk, h⟩ := h
    split at h
    · rename_i hc
      obtain ⟨hoff, hnm, hsz, hag⟩ := hc
      simp only [Option.map_eq_some_iff] at h
      obtain ⟨l, hl, rfl⟩ := h
      simp only [List.length_append] at hx hy
      obtain ⟨⟨ds, hu⟩, hKq⟩ := hK _ _ hk
      obtain ⟨kx1, kx2⟩ := kx.split
      obtain ⟨ky1, ky2⟩ := ky.split
      rw [List.drop_drop] at kx2 ky2
      have hr := ih (off + k.length) l hl xs ys (by omega) (by omega) kx2 ky2 w
      have hcell : eqCells (xs.drop off) (ys.drop off) = (eqCells ((xs.drop off).take k.length) ((ys.drop off).take k.length) && eqCells (xs.drop (off + k.length)) (ys.drop (off + k.length))) := by
        rw [← eqCells_app (by simp; omega), ← List.drop_drop, ← List.drop_drop, List.take_append_drop, List.take_append_drop]
      simp only [Op.eqFields]
      rw [if_pos hnm]
      simp only [Sem.run_bind, hoff, run_partF w hu hsz hag (by omega : off + k.length ≤ xs.length), run_partF w hu hsz hag (by omega : off + k.length ≤ ys.length), Result.andThen_ok, hKq _ _ kx1 ky1 w]
      rw [hcell]
      cases he : eqCells ((xs.drop off).take k.length) ((ys.drop off).take k.length) with
      | false => simp
      | true => simpa using hr
    · cases h
def eqRound (P : Program) (d : Nat) (e : TypeId) (sz : Nat) (xs ys : Array Value) (i : Nat) : Sem (ForInStep (Option Bool × Unit)) := do
  let a ← part e xs (i * sz)
  let b ← part e ys (i * sz)
  let c ← Op.equalIn d e a b
  if (!c) = true then pure (ForInStep.done (some false, ())) else pure (ForInStep.yield (none, ()))
theorem run_eqArr {e : TypeId} {k : List FK} {d : Nat} (hu : ∃ ds, P.underlying e = some ds) (hsz : (P.info? e).map (·.size) = some k.length) (hag : isAggB P e = true ∨ k.length = 1)
    (hK : ∀ xs ys, KFK xs k → KFK ys k → ∀ w, (Op.equalIn d e (aggOf P e xs) (aggOf P e ys)).run P w = .ok (eqCells xs ys) w) (xs ys : List Value) :
    ∀ (m i : Nat), xs.length = i * k.length + (flatA k m).length → ys.length = i * k.length + (flatA k m).length → KFK (xs.drop (i * k.length)) (flatA k m) → KFK (ys.drop (i * k.length)) (flatA k m) → ∀ w,
      (forIn (List.range' i m) ((none, ()) : Option Bool × Unit) (fun j _ => eqRound P d e k.length xs.toArray ys.toArray j)).run P w
        = .ok (if eqCells (xs.drop (i * k.length)) (ys.drop (i * k.length)) then (none, ()) else (some false, ())) w := by
  intro m
  induction m with
  | zero =>
    intro i hx hy _ _ w
    simp only [flatA, List.length_nil, Nat.add_zero] at hx hy
    rw [List.drop_of_length_le (by omega), List.drop_of_length_le (by omega)]
    simp [eqCells]
  | succ m ih =>
    intro i hx hy kx ky w
    obtain ⟨ds, hu'⟩ := hu
    simp only [flatA] at hx hy kx ky
    simp only [List.length_append] at hx hy
    obtain ⟨kx1, kx2⟩ := kx.split
    obtain ⟨ky1, ky2⟩ := ky.split
    rw [List.drop_drop, show i * k.length + k.length = (i + 1) * k.length by rw [Nat.add_mul]; omega] at kx2 ky2
    have hr := ih (i + 1) (by rw [hx, Nat.add_mul]; omega) (by rw [hy, Nat.add_mul]; omega) kx2 ky2 w
    have hcell : eqCells (xs.drop (i * k.length)) (ys.drop (i * k.length)) = (eqCells ((xs.drop (i * k.length)).take k.length) ((ys.drop (i * k.length)).take k.length) && eqCells (xs.drop ((i + 1) * k.length)) (ys.drop ((i + 1) * k.length))) := by
      rw [← eqCells_app (by simp; omega), show (i + 1) * k.length = i * k.length + k.length by rw [Nat.add_mul]; omega, ← List.drop_drop, ← List.drop_drop, List.take_append_drop, List.take_append_drop]
    have hround : (eqRound P d e k.length xs.toArray ys.toArray i).run P w = .ok (if eqCells ((xs.drop (i * k.length)).take k.length) ((ys.drop (i * k.length)).take k.length) then ForInStep.yield (none, ()) else ForInStep.done (some false, ())) w := by
      unfold eqRound
      simp only [Sem.run_bind, run_partF w hu' hsz hag (by omega : i * k.length + k.length ≤ xs.length), run_partF w hu' hsz hag (by omega : i * k.length + k.length ≤ ys.length), Result.andThen_ok, hK _ _ kx1 ky1 w]
      cases eqCells ((xs.drop (i * k.length)).take k.length) ((ys.drop (i * k.length)).take k.length) <;> simp
    rw [List.range'_succ, List.forIn_cons]
    simp only [Sem.run_bind, hround, Result.andThen_ok]
    rw [hcell]
    cases eqCells ((xs.drop (i * k.length)).take k.length) ((ys.drop (i * k.length)).take k.length) with
    | false => simp
    | true => simpa using hr
theorem run_eqF : ∀ (n : Nat) (t : TypeId) (ks : List FK), flatQ P n t = some ks → ∀ (xs ys : List Value), KFK xs ks → KFK ys ks → ∀ (d : Nat) (w : World), n ≤ d → (Op.equalIn d t (aggOf P t xs) (aggOf P t ys)).run P w = .ok (eqCells xs ys) w := by
  intro n
  induction n with
  | zero => intro t ks h; simp [flatQ] at h
  | succ n ih =>
    intro t ks h xs ys kx ky d w hd
    obtain ⟨d, rfl⟩ : ∃ d', d = d' + 1 := ⟨d - 1, by omega⟩
    simp only [flatQ] at h
    split at h
    · rename_i k hu
      simp only [Option.some.injEq] at h
      subst h
      have hb : isAggB P t = false := by simp [isAggB, hu]
      cases kx with
      | i kx =>
        cases kx
        cases ky with
        | i ky =>
          cases ky
          simp [aggOf, hb, eqCells, vEq, Op.equalIn, run_underlying hu]
    · rename_i hu
      simp only [Option.some.injEq] at h
      subst h
      have hb : isAggB P t = false := by simp [isAggB, hu]
      cases kx with
      | b kx =>
        cases kx
        cases ky with
        | b ky =>
          cases ky
          simp [aggOf, hb, eqCells, vEq, Op.equalIn, run_underlying hu]
    · rename_i fs hu
      split at h
      · rename_i hst
        have hb : isAggB P t = true := by simp [isAggB, hu]
        have hf : P.fieldsOf t = fs := by simp [Program.fieldsOf, hu]
        have hlx := kx.length
        have hly := ky.length
        have := run_eqFs (K := flatQ P n) (d := d) (fun t ks hk => ⟨flatQ_und n t ks hk, fun xs ys hx hy w => ih t ks hk xs ys hx hy d w (by omega)⟩) fs.toList 0 ks h xs ys (by omega) (by omega) (by simpa using kx) (by simpa using ky) w
        simp only [aggOf, hb, if_true]
        rw [run_equalIn_struct w d t _ _ (by rw [hf]; exact hu) hst, hf]
        simpa using this
      · cases h
    · rename_i m e hu
      simp only [Option.bind_eq_some_iff] at h
      obtain ⟨k, hk, h⟩ := h
      split at h
      · rename_i hc
        simp only [Option.some.injEq] at h
        subst h
        have hb : isAggB P t = true := by simp [isAggB, hu]
        have hlx := kx.length
        have hly := ky.length
        have hs : ∀ w, (sizeOf e).run P w = .ok k.length w := fun w => by
          obtain ⟨i, hi, hik⟩ := Option.map_eq_some_iff.1 hc.1
          simp [sizeOf, typeInfo, hi, hik]
        have hr := run_eqArr (d := d) (flatQ_und n e k hk) hc.1 hc.2 (fun xs ys hx hy w => ih e k hk xs ys hx hy d w (by omega)) xs ys m 0 (by omega) (by omega) (by simpa using kx) (by simpa using ky) w
        simp only [aggOf, hb, if_true]
        rw [Op.equalIn]
        simp only [Sem.run_bind, run_underlying hu, hs, Result.andThen_ok]
        simp only [Std.Legacy.Range.forIn_eq_forIn_range']
        rw [show ([:m] : Std.Legacy.Range).size = m by simp [Std.Legacy.Range.size]]
        simp only [Nat.zero_mul, List.drop_zero] at hr
        refine Eq.trans (congrArg (fun r => Result.andThen r _) hr) ?_
        cases eqCells xs ys <;> simp
      · cases h
    · cases h
end Go.Sx
namespace Go.Sx
open Go.RowKit
variable {P : Program} {ops : Array Oper} {Q : Exit → Act → World → Prop} {rest : List Oper} {n : Nat} {F : List (Nat × Value)} {w0 : World} {S : List Nat} {M : List HA} {a : Act} {w : World}
variable {d : Nat} {ty : TypeId} {pos : String} {af : Array Edge}
theorem st_eqF {x y : Operand} {t t2 : TypeId} {xs ys : List Value} {ks : List FK} (q : Nat) (hs : St n F w0 S M a w) (hx : evo F x = some (.agg xs.toArray)) (hy : evo F y = some (.agg ys.toArray))
    (hg : P.eqGuardType P.depth t = false) (hq : flatQ P q t = some ks) (hb : isAggB P t = true) (hn : q ≤ 10000) (kx : KFK xs ks) (ky : KFK ys ks) (hd : Nat.blt d n = true)
    (k : ∀ a w, St n ((d, .bool (eqCells xs ys)) :: F) w0 S M a w → wpList P ops Q rest a w) : wpList P ops Q (⟨some d, .binOp .eql t x y t2, ty, pos, af, none⟩ :: rest) a w := by
  have h := run_eqF q t ks hq xs ys kx ky 10000 w hn
  simp only [aggOf, hb, if_true] at h
  exact st_pure hs (by simp [execOp, hs.ev hx, hs.ev hy, run_eqGuard_agg w .eql t x y _ _ hg, run_eql_struct, h]) hd k
theorem st_neqF {x y : Operand} {t t2 : TypeId} {xs ys : List Value} {ks : List FK} (q : Nat) (hs : St n F w0 S M a w) (hx : evo F x = some (.agg xs.toArray)) (hy : evo F y = some (.agg ys.toArray))
    (hg : P.eqGuardType P.depth t = false) (hq : flatQ P q t = some ks) (hb : isAggB P t = true) (hn : q ≤ 10000) (kx : KFK xs ks) (ky : KFK ys ks) (hd : Nat.blt d n = true)
    (k : ∀ a w, St n ((d, .bool (!(eqCells xs ys))) :: F) w0 S M a w → wpList P ops Q rest a w) : wpList P ops Q (⟨some d, .binOp .neq t x y t2, ty, pos, af, none⟩ :: rest) a w := by
  have h := run_eqF q t ks hq xs ys kx ky 10000 w hn
  simp only [aggOf, hb, if_true] at h
  exact st_pure hs (by simp [execOp, hs.ev hx, hs.ev hy, run_eqGuard_agg w .neq t x y _ _ hg, run_neq_struct, h]) hd k
end Go.Sx

set_option linter.unusedVariables false
set_option linter.unusedSimpArgs false
namespace Go.Sx
open Go.RowKit
variable {P : Program} {Q : Exit → Act → World → Prop} {a : Act} {w : World}
theorem wp_cut {c : Code} (I : Act → World → Prop) (h : c.wp P (Exit.then I Q) a w) (h2 : ∀ a w, I a w → Q .normal a w) : c.wp P Q a w :=
  wp_mono h (fun e a w he => by cases e <;> first | exact h2 _ _ he | exact he)
variable {ops : Array Oper} {rest : List Oper} {n : Nat} {F : List (Nat × Value)} {w0 : World} {S : List Nat} {M : List HA} {d : Nat} {ty : TypeId} {pos : String} {af : Array Edge}
/-- A field of a slice's element. -/
theorem st_faV {x : Operand} {v : Value} {t : TypeId} {j f o m size : Nat} {T : List Nat} {xs : List Value} {fs : Array Field} {fd : Field} {sz : Nat} (hs : St n F w0 S M a w) (hx : evo F x = some (.pointer (some (adr v j)))) (hr : Rd w T v size m xs) (hm : 0 < m) (ht : P.underlying t = some (.struct fs)) (hf : fs[f]? = some fd)
    (hsz : ∀ w, (sizeOf fd.type).run P w = .ok sz w) (h0 : sz ≠ 0) (ho : j + fd.offset = o) (hd : Nat.blt d n = true)
    (k : ∀ a w, St n ((d, .pointer (some (adr v o))) :: F) w0 S M a w → wpList P ops Q rest a w) : wpList P ops Q (⟨some d, .fieldAddr t x f, ty, pos, af, none⟩ :: rest) a w := by
  subst ho
  have ha : (adr v j).add fd.offset = adr v (j + fd.offset) := by rw [adr_add hr hm]
  exact st_pure hs (by simp [execOp, Instr.fieldAt, Instr.sureAddr, hs.ev hx, run_underlying ht, hf, fieldPlace, hsz, h0, ha]) hd k
/-- A call of a method value. -/
theorem st_callM {x : Operand} {f : FuncId} {xs : List Operand} {ats : Array TypeId} {fs vs us all : List Value} {post : Value → List HA → Prop} {X M' : List HA} (hs : St n F w0 S M a w) (hx : evo F x = some (.func (.func f) fs.toArray us.toArray)) (hv : Evs F xs vs) (hall : fs ++ vs ++ us = all) (hcall : ∀ args w, (callFunc f args).run P w = .ok (.enter f args) w)
    (hX : Dels M X M') (hc : Calls P f all.toArray w (Ret w (feet X) post)) (hd : Nat.blt d n = true)
    (k : ∀ v N a w, post v N → St n ((d, v) :: F) w0 S (N ++ M') a w → wpList P ops Q rest a w) :
    wpList P ops Q (⟨some d, .call { callee := .value x, args := xs.toArray, argTypes := ats }, ty, pos, af, none⟩ :: rest) a w := by
  subst hall
  refine wp_enter rfl (run_callV (fs := fs) (cs := us) hs hx hv hcall) hc ?_
  intro v N w' hp hm
  exact k v N _ _ hp ((hs.frame hX hm).put hd v)
theorem mem_three {w : World} {h h2 h3 : HA} (hp : h.p w) (hp2 : h2.p w) (hp3 : h3.p w) (hnd : (feet [h, h2, h3]).Nodup) : Mem w (feet [h, h2, h3]) [h, h2, h3] w :=
  Mem.start (by simpa using ⟨hp, hp2, hp3⟩) rfl hnd
theorem row_nd {v : Value} {e size m : Nat} {xs : List Value} : (row v e size m xs).foot.Nodup := by
  show v.ownBlock.toList.Nodup
  cases v.ownBlock <;> simp
/-- A row and a block of other types lie apart. -/
theorem row_blk {w : World} {v : Value} {e size m g : Nat} {t : TypeId} {xs cs : List Value} (h : (row v e size m xs).p w) (h2 : (blk g cs t).p w) (hne : e ≠ t) : g ∉ feet [row v e size m xs] := by
  intro hg
  have hg' : g ∈ v.ownBlock.toList := by simpa [feet, row] using hg
  rcases h.2 with ⟨rfl, _⟩ | ⟨g', cap, cur, rfl, _, hb, _⟩
  · simp [Value.ownBlock] at hg'
  · have : g = g' := by simpa [Value.ownBlock] using hg'
    subst this
    have h3 : w.heap[g]? = some (.cells cs.toArray t (0, 0)) := h2
    rw [hb] at h3
    injection h3 with h3
    injection h3 with _ h3 _
    exact hne h3
theorem blk_ne {w : World} {g g' : Nat} {t t' : TypeId} {cs cs' : List Value} (h : (blk g cs t).p w) (h2 : (blk g' cs' t').p w) (hne : t ≠ t') : g ≠ g' := by
  intro e
  subst e
  have h1 : w.heap[g]? = some (.cells cs.toArray t (0, 0)) := h
  have h3 : w.heap[g]? = some (.cells cs'.toArray t' (0, 0)) := h2
  rw [h1] at h3
  injection h3 with h3
  injection h3 with _ h3 _
  exact hne h3
theorem mem_two {w : World} {h h2 : HA} (hp : h.p w) (hp2 : h2.p w) (hnd : (feet [h, h2]).Nodup) : Mem w (feet [h, h2]) [h, h2] w :=
  Mem.start (by simpa using ⟨hp, hp2⟩) rfl hnd
theorem St.recell {v v' : Value} (hs : St n ((d, v) :: F) w0 S M a w) (e : v = v') : St n ((d, v') :: F) w0 S M a w := e ▸ hs
theorem St.reslot {v v' : Value} (hs : St n F w0 S M a w) (h : lk F d = some v) (e : v = v') : St n ((d, v') :: F) w0 S M a w := by
  subst e
  refine ⟨hs.size, hs.dfr, fun t u hu => ?_, hs.mem⟩
  rw [lk_cons] at hu
  by_cases e : d = t
  · subst e; rw [if_pos rfl] at hu; rw [← hu]; exact hs.agr _ _ h
  · rw [if_neg e] at hu; exact hs.agr _ _ hu
theorem St.reblk {g : Nat} {cs cs' : List Value} {t : TypeId} {M' : List HA} (hs : St n F w0 S M a w) (hb : Del M (blk g cs t) M') (e : cs = cs') : St n F w0 S (blk g cs' t :: M') a w := by
  subst e
  exact hs.frame (N := [blk g cs t]) (.c hb .n) ⟨Chg.refl _ _, by intro h hh; simp only [List.mem_singleton] at hh; subst hh; exact hs.mem.del hb, by simp [feet, blk], by simp [feet, blk]⟩
/-- A result in memory ahead of one in a slot. -/
theorem finC2 {fn : Func} {post : Value → List HA → Prop} {t t2 : Nat} {rt bt : TypeId} {g i sz : Nat} {cs vs : List Value} {v2 : Value} {M' : List HA} (hs : St n F w0 S M a w) (hr : fn.results = #[.cell t rt, .tmp t2]) (hv : lk F t = some (.pointer (some ⟨g, i, none⟩))) (hv2 : lk F t2 = some v2) (hb : Del M (blk g cs bt) M') (hc : Cut cs i sz vs)
    (hag : ∀ w, (isAgg rt).run P w = .ok true w) (hsz : ∀ w, (sizeOf rt).run P w = .ok sz w) {X N : List HA} (hD : Dels M X N) (hp : post (.tuple #[.agg vs.toArray, v2]) N) : bodyPost P fn (Ret w0 S post) .ret a w := by
  have hg := hs.agr t _ hv
  have hg2 := hs.agr t2 _ hv2
  have he := hc.eq
  have hcl : vs.length = sz := by rw [he.1]; simp; omega
  have hrun := run_loadCells_list (P := P) w ⟨g, i, none⟩ vs (fun j u hj => by
    have ha : (⟨g, i, none⟩ : Addr).add j = ⟨g, i + j, none⟩ := by unfold Addr.add; split <;> simp_all
    rw [ha, cell_blk (hs.mem.del hb)]
    rw [he.1, List.getElem?_take] at hj
    split at hj
    · simpa using hj
    · cases hj)
  rw [hcl] at hrun
  refine bodyPost_ret (v := .tuple #[.agg vs.toArray, v2]) ?_ hs.dfr ⟨_, N, rfl, hp, hs.mem.drop hD⟩
  simp [results, hr, Array.getD_eq_getD_getElem?, hg, hg2, asAddr, loadVar, hag, hsz, hrun]
/-! ### A flat struct that came in -/
section
open Go.ChangeShapes Go.WideShapes
variable {H : Type} {enc : TypeId × Value → H} {W : World} {t : TypeId} {v : Value} {dd : DataW H} {p : List MemPlace}
theorem AllFK.split {c : List Value} {k : FK} {ks : List FK} (h : AllFK c (k :: ks)) : ∃ u us, c = u :: us ∧ OneFK u k ∧ AllFK us ks := by
  cases h with
  | c h1 h2 => exact ⟨_, _, rfl, h1, h2⟩
theorem AllFK.none {c : List Value} (h : AllFK c []) : c = [] := by cases h; rfl
theorem OneFK.i64 {v : Value} (h : OneFK v (.i .i64)) : ∃ z : Int, v = .int .i64 z ∧ -9223372036854775808 ≤ z ∧ z ≤ 9223372036854775807 := by
  cases h with
  | i w => exact ⟨_, rfl, i64_of_wf w⟩
theorem OneFK.u64 {v : Value} (h : OneFK v (.i .u64)) : ∃ z : BitVec 64, v = .int .u64 ((z.toNat : Nat) : Int) := by
  cases h with
  | i w => obtain ⟨X, hX⟩ := bv_of_wf_u64 w; exact ⟨X, by rw [hX]⟩
theorem OneFK.u16 {v : Value} (h : OneFK v (.i .u16)) : ∃ z : BitVec 16, v = .int .u16 ((z.toNat : Nat) : Int) := by
  cases h with
  | i w => obtain ⟨X, hX⟩ := bv_of_wf_u16 w; exact ⟨X, by rw [hX]⟩
theorem OneFK.u8 {v : Value} (h : OneFK v (.i .u8)) : ∃ z : BitVec 8, v = .int .u8 ((z.toNat : Nat) : Int) := by
  cases h with
  | i w => obtain ⟨X, hX⟩ := bv_of_wf_u8 w; exact ⟨X, by rw [hX]⟩
end
end Go.Sx
