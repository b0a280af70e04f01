/- Regions that draw their order: each operation by itself, over what those that it waits for have left. -/
import Derived.Test.YtkobgcoegajfcaaSxE
import Derived.Orders
set_option linter.unusedVariables false
set_option linter.unusedSimpArgs false
namespace Go.Sx
open Go.RowKit
variable {P : Program} {ops : Array Oper} {Q : Exit → Act → World → Prop} {n : Nat} {F : List (Nat × Value)} {w0 : World} {S : List Nat} {M : List HA} {a : Act} {w : World}

/-- What is told of a slot, and stays told when memory grows. -/
structure PP where
  p : Value → World → Prop
  mono : ∀ v w w', p v w → Chg [] w w' → p v w'
def eqv (u : Value) : PP := ⟨fun v _ => v = u, fun _ _ _ h _ => h⟩
def rdv (size m : Nat) (xs : List Value) : PP := ⟨fun v w => Rd w [] v size m xs, fun _ _ _ h hc => h.chg hc⟩
def anyv : PP := ⟨fun _ _ => True, fun _ _ _ h _ => h⟩
/-- A pair, the first of them a slice. -/
def rdp (size m : Nat) (xs : List Value) (u : Value) : PP := ⟨fun v w => ∃ s, v = .tuple #[s, u] ∧ Rd w [] s size m xs, fun _ _ _ ⟨s, e, h⟩ hc => ⟨s, e, h.chg hc⟩⟩

theorem lk_mem {F : List (Nat × Value)} {t : Nat} {u : Value} (hu : lk F t = some u) : ∃ p ∈ F, p.1 = t := by
  induction F with
  | nil => simp [lk] at hu
  | cons p F ih =>
    obtain ⟨x, y⟩ := p
    rw [lk_cons] at hu
    by_cases e : x = t
    · exact ⟨(x, y), by simp, e⟩
    · rw [if_neg e] at hu
      obtain ⟨q, hq, e'⟩ := ih hu
      exact ⟨q, by simp [hq], e'⟩
theorem lk_append (F R : List (Nat × Value)) (t : Nat) : lk (F ++ R) t = (lk F t).or (lk R t) := by
  induction F with
  | nil => simp [lk]
  | cons p F ih =>
    obtain ⟨d, v⟩ := p
    rw [List.cons_append, lk_cons, lk_cons, ih]
    by_cases h : d = t <;> simp [h]
def allOf (n : Nat) (a : Act) : List (Nat × Value) := (List.range n).map fun t => (t, a.tmps.getD t undef)
theorem lk_map {f : Nat → Value} : ∀ (l : List Nat) (t : Nat), lk (l.map fun t => (t, f t)) t = if t ∈ l then some (f t) else none
  | [], t => by simp [lk]
  | x :: l, t => by
    rw [List.map_cons, lk_cons, lk_map l t]
    by_cases h : x = t
    · subst h; simp
    · have h' : ¬ t = x := fun e => h e.symm
      simp [h, h']
theorem lk_allOf (n : Nat) (a : Act) (t : Nat) : lk (allOf n a) t = if t < n then some (a.tmps.getD t undef) else none := by
  unfold allOf
  rw [lk_map]
  simp [List.mem_range]
theorem St.full (hs : St n F w0 S M a w) : St n (F ++ allOf n a) w [] [] a w := by
  refine ⟨hs.size, hs.dfr, fun t v h => ?_, Mem.nil w⟩
  rw [lk_append] at h
  cases hF : lk F t with
  | some u =>
    rw [hF] at h
    simp only [Option.some_or, Option.some.injEq] at h
    subst h
    exact hs.agr t u hF
  | none =>
    rw [hF, Option.none_or, lk_allOf] at h
    split at h
    · rename_i hlt
      have : t < a.tmps.size := by rw [hs.size]; exact hlt
      simp only [Option.some.injEq] at h
      subst h
      simp [Array.getD_eq_getD_getElem?, Array.getElem?_eq_getElem this]
    · cases h
inductive Covers (G : List (Nat × Value)) : List (Nat × Value) → Prop
  | r : Covers G G
  | c {d v G'} : Covers G G' → Covers G ((d, v) :: G')
theorem Covers.get {G G' : List (Nat × Value)} (h : Covers G G') : ∀ t u, lk G t = some u → ∃ u', lk G' t = some u' := by
  induction h with
  | r => exact fun t u h => ⟨u, h⟩
  | @c d v G' _ ih =>
    intro t u hu
    rw [lk_cons]
    by_cases e : d = t
    · exact ⟨v, by simp [e]⟩
    · obtain ⟨u', h'⟩ := ih t u hu
      exact ⟨u', by simp [e, h']⟩
theorem St.keeps {F' G' : List (Nat × Value)} {d : Nat} {v : Value} {N : List HA} {a' : Act} {w' : World} (h0 : St n G' w [] [] a w) (hc : Covers (F' ++ allOf n a) G') (hs' : St n ((d, v) :: G') w [] N a' w') : ∀ t, t ≠ d → a'.tmps[t]? = a.tmps[t]? := by
  intro t ht
  rcases Nat.lt_or_ge t n with hlt | hge
  · have hcov : ∃ u, lk (F' ++ allOf n a) t = some u := by
      rw [lk_append, lk_allOf, if_pos hlt]
      cases lk F' t <;> simp
    obtain ⟨u, hu⟩ := hcov
    obtain ⟨u', hu'⟩ := hc.get t u hu
    rw [h0.agr t u' hu', hs'.agr t u' (by rw [lk_cons, if_neg (fun e => ht e.symm)]; exact hu')]
  · rw [Array.getElem?_eq_none (by rw [hs'.size]; exact hge), Array.getElem?_eq_none (by rw [h0.size]; exact hge)]
theorem St.learn (hs : St n F w0 S M a w) {d : Nat} {v : Value} (h : a.tmps[d]? = some v) : St n ((d, v) :: F) w0 S M a w :=
  ⟨hs.size, hs.dfr, fun t u hu => by
    rw [lk_cons] at hu
    by_cases e : d = t
    · subst e; simp only [if_true, Option.some.injEq] at hu; subst hu; exact h
    · rw [if_neg e] at hu; exact hs.agr t u hu, hs.mem⟩

def Fact (ops : Array Oper) (Ps : List PP) (i : Nat) (a : Act) (w : World) : Prop := ∃ o d v p, ops[i]? = some o ∧ o.dst = some d ∧ a.tmps[d]? = some v ∧ Ps[i]? = some p ∧ p.p v w
theorem Fact.get {Ps : List PP} {i : Nat} {l : List Oper} {d : Nat} {p : PP} (h : Fact l.toArray Ps i a w) (h1 : (l[i]?).bind (·.dst) = some d) (h2 : Ps[i]? = some p) : ∃ v, a.tmps[d]? = some v ∧ p.p v w := by
  obtain ⟨o', d', v, p', e1, e2, h3, e4, h5⟩ := h
  simp only [List.getElem?_toArray] at e1
  rw [e1] at h1
  simp only [Option.bind_some, e2, Option.some.injEq] at h1
  rw [e4] at h2
  injection h2 with h2
  subst h1 h2
  exact ⟨v, h3, h5⟩
theorem mem_arr {α : Type} {e : α} {l : List α} (h : List.Mem e l) : e ∈ l.toArray := List.mem_toArray.2 h
/-- What one operation owes. -/
def QN (n : Nat) (F : List (Nat × Value)) (a : Act) (w : World) (o : Oper) (p : PP) : Exit → Act → World → Prop := fun e a' w' => e = .normal ∧ ∃ d v N G, o.dst = some d ∧ St n G w [] [] a w ∧ Covers F G ∧ St n ((d, v) :: G) w [] N a' w' ∧ p.p v w'
def Stp (P : Program) (ops : Array Oper) (n : Nat) (F : List (Nat × Value)) (w0 : World) (S : List Nat) (M : List HA) (Ps : List PP) (o : Oper) (p : PP) : Prop :=
  ∀ a w R, Mem w0 S M w → St n (F ++ R) w [] [] a w → (∀ j, (∃ e ∈ o.after, Region.binds .any e = true ∧ e.on = j) → Fact ops Ps j a w) → wpList P ops (QN n (F ++ R) a w o p) [o] a w
inductive Stps (P : Program) (ops : Array Oper) (n : Nat) (F : List (Nat × Value)) (w0 : World) (S : List Nat) (M : List HA) (Ps : List PP) : List Oper → List PP → Prop
  | n : Stps P ops n F w0 S M Ps [] []
  | c {o l p ps} : Stp P ops n F w0 S M Ps o p → Stps P ops n F w0 S M Ps l ps → Stps P ops n F w0 S M Ps (o :: l) (p :: ps)
theorem Stps.get {Ps : List PP} {l : List Oper} {ps : List PP} (h : Stps P ops n F w0 S M Ps l ps) : ∀ (i : Nat) (o : Oper), l[i]? = some o → ∃ p, ps[i]? = some p ∧ Stp P ops n F w0 S M Ps o p := by
  induction h with
  | n => intro i o h; simp at h
  | c h _ ih =>
    intro i o hi
    cases i with
    | zero => simp only [List.getElem?_cons_zero, Option.some.injEq] at hi; subst hi; exact ⟨_, rfl, h⟩
    | succ i => exact ih i o (by simpa using hi)
/-- Edges lead back; the slots are each written once, and none is the base's. -/
def goodOps (F : List (Nat × Value)) (l : List Oper) : Bool :=
  (l.zipIdx.all fun x => x.1.after.all fun e => Nat.blt e.on x.2) && (l.all fun o => o.dst.isSome && F.all fun p => !(o.dst == some p.1)) && (l.zipIdx.all fun x => l.zipIdx.all fun y => Nat.beq x.2 y.2 || !(x.1.dst == y.1.dst))
theorem goodOps_spec {l : List Oper} (h : goodOps F l = true) : (∀ (i : Nat) (o : Oper), l[i]? = some o → ∀ e ∈ o.after, e.on < i) ∧ (∀ (i : Nat) (o : Oper), l[i]? = some o → ∃ d, o.dst = some d ∧ ∀ p ∈ F, d ≠ p.1) ∧
    (∀ (i j : Nat) (o o' : Oper), l[i]? = some o → l[j]? = some o' → i ≠ j → o.dst ≠ o'.dst) := by
  simp only [goodOps, Bool.and_eq_true, List.all_eq_true] at h
  have hz : ∀ (i : Nat) (o : Oper), l[i]? = some o → (o, i) ∈ l.zipIdx := fun i o hi => by
    rw [List.mem_zipIdx_iff_getElem?]; exact hi
  refine ⟨fun i o hi e he => ?_, fun i o hi => ?_, fun i j o o' hi hj hne => ?_⟩
  · have h1 := h.1.1 _ (hz i o hi)
    rw [Array.all_eq_true_iff_forall_mem] at h1
    have := h1 e he
    simpa using this
  · have h1 := h.1.2 o (List.mem_of_getElem? hi)
    obtain ⟨d, hd⟩ := Option.isSome_iff_exists.1 h1.1
    refine ⟨d, hd, fun p hp e => ?_⟩
    have := h1.2 p hp
    simp [hd, e] at this
  · have h1 := h.2 _ (hz i o hi) _ (hz j o' hj)
    simp only [Bool.or_eq_true] at h1
    rcases h1 with h1 | h1
    · exact absurd (Nat.eq_of_beq_eq_true h1) hne
    · simpa using h1
theorem wp_of_QN {o : Oper} {p : PP} {a : Act} {w : World} {K : Act → World → Prop} {F : List (Nat × Value)} (h : wpList P ops (QN n F a w o p) [o] a w) (hK : ∀ a' w', QN n F a w o p .normal a' w' → K a' w') :
    if Region.wanted o (yielded ops a.tmps) then o.wp P a w K Q ∨ (o.asks P a w ∧ LetsOut Q) else K (a.put o.dst undef) w := by
  unfold wpList at h
  split
  · rename_i hw
    rw [if_pos hw] at h
    rcases h with h | ⟨_, a₀, w₀, hq, _⟩
    · left
      unfold Oper.wp at *
      generalize (execOp a.eval o).run P w = r at *
      cases r with
      | ok nx w' =>
        cases nx <;> simp only [Oper.upon] at h ⊢ <;>
          first
            | exact hK _ _ h
            | exact Calls.mono h (fun e w'' he => by
                cases e with
                | returned v => exact hK _ _ he
                | panicked c => exact absurd he.1 (by simp)
                | outgrown => obtain ⟨_, _, he, _⟩ := he; exact absurd he (by simp))
            | exact Rows.mono h (fun _ _ he => hK _ _ he)
      | halt hh w' =>
        cases hh <;> simp only [Oper.upon] at h ⊢
        exact absurd h.1 (by simp)
    · exact absurd hq (by simp)
  · rename_i hw
    rw [if_neg hw] at h
    exact hK _ _ h
/-- What is known when these operations have come up. -/
structure Inv (ops : Array Oper) (n : Nat) (F : List (Nat × Value)) (w0 : World) (S : List Nat) (M : List HA) (Ps : List PP) (listed : Array Bool) (a : Act) (w : World) : Prop where
  st : St n F w0 S M a w
  sz : listed.size = ops.size
  fact : ∀ i, i < ops.size → listed.getD i false = true → Fact ops Ps i a w
theorem Inv.step {Ps : List PP} {l : List Oper} {listed : Array Bool} {i : Nat} {o : Oper} {p : PP} {a' : Act} {w' : World} (hg : goodOps F l = true) (h : Inv l.toArray n F w0 S M Ps listed a w) (ho : l[i]? = some o) (hp : Ps[i]? = some p)
    (hq : QN n (F ++ allOf n a) a w o p .normal a' w') : Inv l.toArray n F w0 S M Ps (listed.setIfInBounds i true) a' w' := by
  obtain ⟨hfw, hbase, hdis⟩ := goodOps_spec hg
  obtain ⟨_, d, v, N, G, hd, hs0, hcov, hs', hpv⟩ := hq
  have hk := hs0.keeps hcov hs'
  have hdl : d < n := by
    obtain ⟨d', hd', hb⟩ := hbase i o ho
    rcases Nat.lt_or_ge d n with hh | hh
    · exact hh
    · have h1 := hs'.agr d v (by rw [lk_cons, if_pos rfl])
      rw [Array.getElem?_eq_none (by rw [hs'.size]; exact hh)] at h1
      cases h1
  refine ⟨⟨hs'.size, hs'.dfr, fun t u hu => ?_, ?_⟩, by simp [h.sz], fun j hj hl => ?_⟩
  · have hne : t ≠ d := by
      obtain ⟨d', hd', hb⟩ := hbase i o ho
      rw [hd] at hd'
      injection hd' with hd'
      subst hd'
      intro e
      subst e
      have := lk_mem hu
      obtain ⟨q, hq, e⟩ := this
      exact hb q hq e.symm
    rw [hk t hne]
    exact h.st.agr t u hu
  · have := h.st.mem.frame (Dels.n (M := M)) hs'.mem
    refine ⟨this.chg, fun y hy => this.all y (List.mem_append.2 (.inr hy)), ?_, fun k hk => this.ge k (by rw [feet_append]; exact List.mem_append.2 (.inr hk))⟩
    have hn := this.nd
    rw [feet_append] at hn
    exact (List.nodup_append.1 hn).2.1
  · by_cases e : j = i
    · subst e
      exact ⟨o, d, v, p, by simpa using ho, hd, hs'.agr d v (by rw [lk_cons, if_pos rfl]), hp, hpv⟩
    · have hl' : listed.getD j false = true := by
        have hne : ¬ i = j := fun h => e h.symm
        simpa [Array.getD_eq_getD_getElem?, Array.getElem?_setIfInBounds, hne] using hl
      obtain ⟨o', d', v', p', h1, h2, h3, h4, h5⟩ := h.fact j hj hl'
      refine ⟨o', d', v', p', h1, h2, ?_, h4, p'.mono _ _ _ h5 hs'.mem.chg⟩
      rw [hk d' ?_]
      · exact h3
      · intro e'
        subst e'
        exact hdis j i o' o (by simpa using h1) ho e (by rw [h2, hd])
theorem all_listed {l : List Oper} {listed : Array Bool} (hfw : ∀ (i : Nat) (o : Oper), l[i]? = some o → ∀ e ∈ o.after, e.on < i) (hsz : listed.size = l.toArray.size) (hr : Region.ready .any l.toArray listed = []) : ∀ i, i < l.length → listed.getD i false = true := by
  intro i
  induction i using Nat.strongRecOn with
  | _ i ih =>
    intro hi
    cases hb : listed.getD i false with
    | true => rfl
    | false =>
      exfalso
      have hmem : i ∈ Region.ready .any l.toArray listed := by
        rw [mem_ready]
        refine ⟨?_, l[i], by simp, fun e he _ => ih e.on (hfw i l[i] (by simp) e he) (Nat.lt_trans (hfw i l[i] (by simp) e he) hi)⟩
        have : i < listed.size := by rw [hsz]; simpa using hi
        simp only [Array.getD_eq_getD_getElem?, Array.getElem?_eq_getElem this] at hb ⊢
        exact hb
      rw [hr] at hmem
      cases hmem
theorem count_set : ∀ (l : List Bool) (i : Nat) (h : i < l.length), l[i] = false → (l.set i true).count false + 1 = l.count false
  | [], i, h, _ => by simp at h
  | x :: l, 0, _, h => by
    simp only [List.getElem_cons_zero] at h
    subst h
    simp
  | x :: l, i + 1, h, h' => by
    have ih := count_set l i (by simpa using h) (by simpa using h')
    simp only [List.set_cons_succ, List.count_cons]
    omega
theorem wpAny_inv {Ps : List PP} {l : List Oper} (hg : goodOps F l = true) (hst : Stps P l.toArray n F w0 S M Ps l Ps)
    (hfin : ∀ a w, St n F w0 S M a w → (∀ i, i < l.length → Fact l.toArray Ps i a w) → Q .normal a w) :
    ∀ (fuel : Nat) (listed : Array Bool) (a : Act) (w : World), listed.toList.count false ≤ fuel → Inv l.toArray n F w0 S M Ps listed a w → wpAny P .any l.toArray Q fuel listed a w := by
  obtain ⟨hfw, hbase, hdis⟩ := goodOps_spec hg
  have hend : ∀ (listed : Array Bool) (a : Act) (w : World), Inv l.toArray n F w0 S M Ps listed a w → Region.ready .any l.toArray listed = [] → Q .normal a w := fun listed a w h hr =>
    hfin a w h.st fun i hi => h.fact i (by simpa using hi) (all_listed hfw h.sz hr i hi)
  intro fuel
  induction fuel with
  | zero =>
    intro listed a w hc h
    have hr : Region.ready .any l.toArray listed = [] := by
      rw [List.eq_nil_iff_forall_not_mem]
      intro j hj
      obtain ⟨h1, o, ho, _⟩ := mem_ready.1 hj
      have hlt : j < listed.size := by rw [h.sz]; exact (Array.getElem?_eq_some_iff.1 ho).1
      have h2 : listed[j] = false := by simpa [Array.getD_eq_getD_getElem?, Array.getElem?_eq_getElem hlt] using h1
      have h3 : false ∈ listed.toList := by rw [← h2]; simp
      have := List.count_pos_iff.2 h3
      omega
    exact ⟨hr, hend listed a w h hr⟩
  | succ fuel ih =>
    intro listed a w hc h
    refine ⟨hend listed a w h, fun i hi => ?_⟩
    obtain ⟨h1, o, ho, hall⟩ := mem_ready.1 hi
    have ho' : l[i]? = some o := by simpa using ho
    obtain ⟨p, hp, hstp⟩ := hst.get i o ho'
    have hlt : i < listed.size := by rw [h.sz]; exact (Array.getElem?_eq_some_iff.1 ho).1
    have h2 : listed[i] = false := by simpa [Array.getD_eq_getD_getElem?, Array.getElem?_eq_getElem hlt] using h1
    have hfacts : ∀ j, (∃ e ∈ o.after, Region.binds .any e = true ∧ e.on = j) → Fact l.toArray Ps j a w := by
      rintro j ⟨e, he, hbi, rfl⟩
      have hlt2 : e.on < l.toArray.size := by
        have := hfw i o ho' e he
        have h3 := (Array.getElem?_eq_some_iff.1 ho).1
        omega
      exact h.fact e.on hlt2 (hall e he hbi)
    have hq := hstp a w (allOf n a) h.st.mem h.st.full hfacts
    unfold wpOp
    rw [ho]
    refine wp_of_QN hq fun a' w' hn => ih _ a' w' ?_ (h.step hg ho' hp hn)
    have hcount : (listed.setIfInBounds i true).toList.count false + 1 = listed.toList.count false := by
      rw [Array.toList_setIfInBounds]
      have hi2 : i < listed.toList.length := by simpa using hlt
      have h3 : listed.toList[i] = false := by simpa using h2
      exact count_set listed.toList i hi2 h3
    omega
theorem wp_draw {id : Nat} {Ps : List PP} {l : List Oper} (hm : P.follows .mixedOrders = true) (hs : St n F w0 S M a w) (hg : goodOps F l = true) (hst : Stps P l.toArray n F w0 S M Ps l Ps)
    (hfin : ∀ a w, St n F w0 S M a w → (∀ i, i < l.length → Fact l.toArray Ps i a w) → Q .normal a w) : (Code.region id l.toArray true).wp P Q a w := by
  refine wp_region_any hm (wpAny_inv hg hst hfin _ _ _ _ (by simp) ⟨?_, by simp, ?_⟩)
  · have := hs.frame (Dels.n (M := M)) (mem_drew w (w.drawn + 1))
    simpa using this
  · intro i hi hl
    simp [Array.getD_eq_getD_getElem?, Array.getElem?_replicate] at hl
    split at hl <;> simp at hl

/-! ### The last operation writes, and waits for all others -/
/-- Each of the first operations is waited for by a later one. -/
def tailOk (l0 : List Oper) (z : Oper) : Bool :=
  (List.range l0.length).all fun i => (z.after.any fun e => Region.binds .any e && Nat.beq e.on i) || (l0.zipIdx.any fun x => Nat.blt i x.2 && x.1.after.any fun e => Region.binds .any e && Nat.beq e.on i)
theorem tailOk_spec {l0 : List Oper} {z : Oper} (h : tailOk l0 z = true) : ∀ i, i < l0.length → (∃ e ∈ z.after, Region.binds .any e = true ∧ e.on = i) ∨ ∃ j o, i < j ∧ l0[j]? = some o ∧ ∃ e ∈ o.after, Region.binds .any e = true ∧ e.on = i := by
  intro i hi
  simp only [tailOk, List.all_eq_true, List.mem_range, Bool.or_eq_true] at h
  rcases h i hi with h1 | h1
  · left
    rw [← Array.any_toList, List.any_eq_true] at h1
    obtain ⟨e, he, h2⟩ := h1
    simp only [Bool.and_eq_true] at h2
    exact ⟨e, Array.mem_toList_iff.1 he, h2.1, Nat.eq_of_beq_eq_true h2.2⟩
  · right
    obtain ⟨x, hx, h2⟩ := List.any_eq_true.1 h1
    simp only [Bool.and_eq_true] at h2
    obtain ⟨h3, h4⟩ := h2
    rw [← Array.any_toList, List.any_eq_true] at h4
    obtain ⟨e, he, h5⟩ := h4
    simp only [Bool.and_eq_true] at h5
    exact ⟨x.2, x.1, by simpa using h3, by rw [List.mem_zipIdx_iff_getElem?] at hx; exact hx, e, Array.mem_toList_iff.1 he, h5.1, Nat.eq_of_beq_eq_true h5.2⟩
structure InvT (l0 : List Oper) (z : Oper) (n : Nat) (F : List (Nat × Value)) (w0 : World) (S : List Nat) (M : List HA) (Ps : List PP) (listed : Array Bool) (a : Act) (w : World) : Prop where
  inv : Inv l0.toArray n F w0 S M Ps (listed.extract 0 l0.length) a w
  sz : listed.size = l0.length + 1
  zno : listed.getD l0.length true = false
  closed : ∀ (i : Nat) (o : Oper), l0[i]? = some o → listed.getD i false = true → ∀ e ∈ o.after, Region.binds .any e = true → listed.getD e.on false = true
theorem Stp.of_ext {l0 : List Oper} {z o : Oper} {Ps : List PP} {p : PP} (h : Stp P (l0 ++ [z]).toArray n F w0 S M Ps o p) (hb : ∀ e ∈ o.after, e.on < l0.length) :
    ∀ a w R, Mem w0 S M w → St n (F ++ R) w [] [] a w → (∀ j, (∃ e ∈ o.after, Region.binds .any e = true ∧ e.on = j) → Fact l0.toArray Ps j a w) → wpList P (l0 ++ [z]).toArray (QN n (F ++ R) a w o p) [o] a w := by
  intro a w R hm hs hf
  refine h a w R hm hs fun j hj => ?_
  obtain ⟨o', d, v, p', h1, h2⟩ := hf j hj
  obtain ⟨e, he, _, rfl⟩ := hj
  have hlt := hb e he
  refine ⟨o', d, v, p', ?_, h2⟩
  simp only [List.getElem?_toArray] at h1 ⊢
  rw [List.getElem?_append_left hlt]
  exact h1
theorem wp_drawT {id : Nat} {Ps : List PP} {l0 : List Oper} {z : Oper} (hm : P.follows .mixedOrders = true) (hs : St n F w0 S M a w) (hg : goodOps F l0 = true) (hz : tailOk l0 z = true) (hzb : (z.after.all fun e => Nat.blt e.on l0.length) = true) (hst : Stps P (l0 ++ [z]).toArray n F w0 S M Ps l0 Ps)
    (htail : ∀ a w, St n F w0 S M a w → (∀ i, i < l0.length → Fact l0.toArray Ps i a w) → wpList P (l0 ++ [z]).toArray Q [z] a w) : (Code.region id (l0 ++ [z]).toArray true).wp P Q a w := by
  obtain ⟨hfw, hbase, hdis⟩ := goodOps_spec hg
  have key : ∀ (fuel : Nat) (listed : Array Bool) (a : Act) (w : World), listed.toList.count false ≤ fuel → InvT l0 z n F w0 S M Ps listed a w → wpAny P .any (l0 ++ [z]).toArray Q fuel listed a w := by
    intro fuel
    induction fuel with
    | zero =>
      intro listed a w hc h
      exfalso
      have h1 := h.zno
      have hlt : l0.length < listed.size := by rw [h.sz]; omega
      have h2 : listed[l0.length] = false := by simpa [Array.getD_eq_getD_getElem?, Array.getElem?_eq_getElem hlt] using h1
      have h3 : false ∈ listed.toList := by rw [← h2]; simp
      have := List.count_pos_iff.2 h3
      omega
    | succ fuel ih =>
      intro listed a w hc h
      have hcz : ∀ i, i < l0.length → listed.getD i false = (listed.extract 0 l0.length).getD i false := fun i hi => by
        have h1 : i < listed.size := by rw [h.sz]; omega
        have h2 : i < (listed.extract 0 l0.length).size := by simp [h.sz]; omega
        simp [Array.getD_eq_getD_getElem?, Array.getElem?_eq_getElem h1, Array.getElem?_eq_getElem h2]
      refine ⟨fun hr => ?_, fun i hi => ?_⟩
      · exfalso
        -- something is ready
        have hall : ∀ i, i < l0.length → listed.getD i false = true := by
          intro i
          induction i using Nat.strongRecOn with
          | _ i ih2 =>
            intro hi
            cases hb : listed.getD i false with
            | true => rfl
            | false =>
              exfalso
              have hmem : i ∈ Region.ready .any (l0 ++ [z]).toArray listed := by
                rw [mem_ready]
                refine ⟨?_, l0[i], by simp [List.getElem?_append_left hi], fun e he _ => ih2 e.on (hfw i l0[i] (by simp) e he) (Nat.lt_trans (hfw i l0[i] (by simp) e he) hi)⟩
                have : i < listed.size := by rw [h.sz]; omega
                simp only [Array.getD_eq_getD_getElem?, Array.getElem?_eq_getElem this] at hb ⊢
                exact hb
              rw [hr] at hmem
              cases hmem
        have hmem : l0.length ∈ Region.ready .any (l0 ++ [z]).toArray listed := by
          rw [mem_ready]
          refine ⟨h.zno, z, by simp, fun e he _ => hall e.on ?_⟩
          rw [Array.all_eq_true_iff_forall_mem] at hzb
          simpa using hzb e he
        rw [hr] at hmem
        cases hmem
      · obtain ⟨h1, o, ho, hall⟩ := mem_ready.1 hi
        have hlt : i < l0.length + 1 := by
          have := (Array.getElem?_eq_some_iff.1 ho).1
          simpa using this
        rcases Nat.lt_or_ge i l0.length with hil | hil
        · have ho' : l0[i]? = some o := by simpa [List.getElem?_append_left hil] using ho
          obtain ⟨p, hp, hstp⟩ := hst.get i o ho'
          have hfacts : ∀ j, (∃ e ∈ o.after, Region.binds .any e = true ∧ e.on = j) → Fact l0.toArray Ps j a w := by
            rintro j ⟨e, he, hbi, rfl⟩
            have hlt2 : e.on < l0.length := Nat.lt_trans (hfw i o ho' e he) hil
            refine h.inv.fact e.on (by simpa using hlt2) ?_
            rw [← hcz _ hlt2]
            exact hall e he hbi
          have hq := hstp.of_ext (fun e he => Nat.lt_trans (hfw i o ho' e he) hil) a w (allOf n a) h.inv.st.mem h.inv.st.full hfacts
          unfold wpOp
          rw [ho]
          refine wp_of_QN hq fun a' w' hn => ih _ a' w' ?_ ?_
          · have hls : i < listed.size := by rw [h.sz]; omega
            have h2 : listed[i] = false := by simpa [Array.getD_eq_getD_getElem?, Array.getElem?_eq_getElem hls] using h1
            have hcount : (listed.setIfInBounds i true).toList.count false + 1 = listed.toList.count false := by
              rw [Array.toList_setIfInBounds]
              have hi2 : i < listed.toList.length := by simpa using hls
              have h3 : listed.toList[i] = false := by simpa using h2
              exact count_set listed.toList i hi2 h3
            omega
          · have hstep := h.inv.step hg ho' hp hn
            refine ⟨?_, by simp [h.sz], ?_, fun j oj hoj hlj e he hbi => ?_⟩
            · have : (listed.setIfInBounds i true).extract 0 l0.length = (listed.extract 0 l0.length).setIfInBounds i true := by
                apply Array.ext_getElem?
                intro j
                simp only [Array.getElem?_extract, Array.getElem?_setIfInBounds, Array.size_extract, Nat.zero_add, Array.size_setIfInBounds, h.sz]
                by_cases e : i = j
                · subst e
                  have hils : i < listed.size := by rw [h.sz]; omega
                  simp [hil, h.sz]; omega
                · simp [e]
              rw [this]
              exact hstep
            · have hne : ¬ i = l0.length := by omega
              have := h.zno
              simpa [Array.getD_eq_getD_getElem?, Array.getElem?_setIfInBounds, hne] using this
            · have hmono : ∀ k, listed.getD k false = true → (listed.setIfInBounds i true).getD k false = true := fun k hk => by
                by_cases e : i = k
                · subst e
                  have : i < listed.size := by rw [h.sz]; omega
                  simp [Array.getD_eq_getD_getElem?, Array.getElem?_setIfInBounds, this]
                · simpa [Array.getD_eq_getD_getElem?, Array.getElem?_setIfInBounds, e] using hk
              by_cases e' : j = i
              · subst e'
                rw [ho'] at hoj
                injection hoj with hoj
                subst hoj
                exact hmono _ (hall e he hbi)
              · refine hmono _ (h.closed j oj hoj ?_ e he hbi)
                have hne : ¬ i = j := fun h => e' h.symm
                simpa [Array.getD_eq_getD_getElem?, Array.getElem?_setIfInBounds, hne] using hlj
        · have hie : i = l0.length := by omega
          subst hie
          have hoz : o = z := by simpa using ho.symm
          subst hoz
          have hlisted : ∀ j, j < l0.length → listed.getD j false = true := by
            have hdown : ∀ k j, l0.length - j = k → j < l0.length → listed.getD j false = true := by
              intro k
              induction k using Nat.strongRecOn with
              | _ k ihk =>
                intro j hk hj
                rcases tailOk_spec hz j hj with ⟨e, he, hbi, rfl⟩ | ⟨j', o', hjj, ho', e, he, hbi, rfl⟩
                · exact hall e he hbi
                · have hj' : j' < l0.length := by
                    rcases Nat.lt_or_ge j' l0.length with hh | hh
                    · exact hh
                    · simp [List.getElem?_eq_none hh] at ho'
                  exact h.closed j' o' ho' (ihk (l0.length - j') (by omega) j' rfl hj') e he hbi
            exact fun j hj => hdown _ j rfl hj
          have ht := htail a w h.inv.st fun j hj => h.inv.fact j (by simpa using hj) (by rw [← hcz j hj]; exact hlisted j hj)
          have hend : ∀ a' w', Q .normal a' w' → wpAny P .any (l0 ++ [o]).toArray Q fuel (listed.setIfInBounds l0.length true) a' w' := fun a' w' hQ => by
            have hr : Region.ready .any (l0 ++ [o]).toArray (listed.setIfInBounds l0.length true) = [] := by
              rw [List.eq_nil_iff_forall_not_mem]
              intro j hj
              obtain ⟨h1', o', ho', _⟩ := mem_ready.1 hj
              have hlt' : j < l0.length + 1 := by
                have := (Array.getElem?_eq_some_iff.1 ho').1
                simpa using this
              by_cases e : l0.length = j
              · subst e
                have : l0.length < listed.size := by rw [h.sz]; omega
                simp [Array.getD_eq_getD_getElem?, Array.getElem?_setIfInBounds, this] at h1'
              · have hl2 := hlisted j (by omega)
                have hls : j < listed.size := by rw [h.sz]; omega
                simp [Array.getD_eq_getD_getElem?, Array.getElem?_setIfInBounds, e, Array.getElem?_eq_getElem hls] at h1' hl2
                rw [h1'] at hl2
                cases hl2
            cases fuel with
            | zero => exact ⟨hr, hQ⟩
            | succ fuel => exact ⟨fun _ => hQ, fun j hj => by rw [hr] at hj; cases hj⟩
          unfold wpOp
          rw [ho]
          unfold wpList at ht
          dsimp only
          split
          · rename_i hw
            rw [if_pos hw] at ht
            exact ht.imp (Oper.wp_mono hend) (fun x => x)
          · rename_i hw
            rw [if_neg hw] at ht
            exact hend _ _ ht
  refine wp_region_any hm (key _ _ _ _ (by simp) ⟨⟨?_, by simp, ?_⟩, by simp, ?_, ?_⟩)
  · have := hs.frame (Dels.n (M := M)) (mem_drew w (w.drawn + 1))
    simpa using this
  · intro i hi hl
    simp [Array.getD_eq_getD_getElem?, Array.getElem?_extract, Array.getElem?_replicate] at hl
    split at hl <;> simp at hl
  · simp [Array.getD_eq_getD_getElem?, Array.getElem?_replicate]
  · intro i o ho hl
    simp [Array.getD_eq_getD_getElem?, Array.getElem?_replicate] at hl
    split at hl <;> simp at hl

end Go.Sx
