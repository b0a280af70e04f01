/- Ranges over a function, in the small logic. -/
import Derived.Test.YtbioemaipghagaaGreatQSxMe
import Derived.RangeFuncRecord
import Derived.RangeFuncLeaves
import Derived.RangeFuncIn
import Derived.RangeFuncSeq
import Derived.TacticsIn
set_option linter.unusedVariables false
set_option linter.unusedSimpArgs false
namespace Go.Sx
open Go.RowKit
variable {P : Program} {ops : Array Oper} {Q : Exit → Act → World → Prop} {rest : List Oper} {n : Nat} {F : List (Nat × Value)} {w0 : World} {S : List Nat} {M : List HA} {a : Act} {w : World}
variable {d : Nat} {ty : TypeId} {pos : String} {af : Array Edge}
/-- A block of any kind. -/
def obj (g : Nat) (o : Obj) : HA where
  foot := [g]
  p w := w.heap[g]? = some o
  loc w w' h hp := by rw [h g (by simp)]; exact hp
  lt w h k hk := by
    have : k = g := by simpa using hk
    subst this
    exact (Array.getElem?_eq_some_iff.1 h).1
/-- Several, as one. -/
def sepL (M : List HA) : HA where
  foot := feet M
  p w := (∀ h ∈ M, h.p w) ∧ (feet M).Nodup
  loc w w' hk hp := ⟨fun h hh => h.loc w w' (fun k hkf => hk k (List.mem_flatMap.2 ⟨h, hh, hkf⟩)) (hp.1 h hh), hp.2⟩
  lt w h k hk := by obtain ⟨y, hy, hk⟩ := List.mem_flatMap.1 hk; exact y.lt w (h.1 y hy) k hk
theorem feet_sep (M : List HA) : feet [sepL M] = feet M := by simp [feet, sepL]
theorem sep_in {M : List HA} (h : (sepL M).p w) : Mem w (feet [sepL M]) M w := by rw [feet_sep]; exact Mem.start h.1 rfl h.2
theorem Mem.sep {w' : World} (h : Mem w S M w') : Mem w S [sepL M] w' := ⟨h.chg, by intro h' hh; simp only [List.mem_singleton] at hh; subst hh; exact ⟨h.all, h.nd⟩, by rw [feet_sep]; exact h.nd, by rw [feet_sep]; exact h.ge⟩
theorem mem_obj {g : Nat} {o o' : Obj} (h : w.heap[g]? = some o) : Mem w (feet [obj g o]) [obj g o'] (w.putObj g o') := by
  have hlt := (Array.getElem?_eq_some_iff.1 h).1
  refine ⟨⟨rfl, rfl, rfl, by simp, fun k hk hS => World.putObj_heap_other (by simpa [feet, obj] using hS)⟩, ?_, by simp [feet, obj], fun k hk => .inl (by simpa [feet, obj] using hk)⟩
  intro y hy
  simp only [List.mem_singleton] at hy
  subst hy
  exact World.putObj_heap_same hlt
theorem mem_newObj (w : World) (o : Obj) : Mem w (feet []) [obj w.heap.size o] (w.alloc o) := by
  refine ⟨⟨rfl, rfl, rfl, by simp, fun k hk _ => heap_alloc_old w _ hk⟩, ?_, by simp [feet, obj], fun k hk => .inr (by simp [feet, obj] at hk; omega)⟩
  intro h hh
  simp only [List.mem_singleton] at hh
  subst hh
  exact World.alloc_heap_new w o
abbrev Fw (r : Option Nat) : Fence := { Fence.wide with round := r }
def nodef (l : List Oper) : Prop := ∀ o ∈ l, ∀ c, o.op ≠ .defer c
/-- A run of operations, walked as everywhere, in a round too. -/
theorem listIn_app {r : Option Nat} {m : Nat} {l2 : List Oper} (hQ : ∀ a w, ¬ Q .outgrown a w) : ∀ (l1 : List Oper) (a : Act) (w : World), nodef l1 →
    wpList P ops (fun e a w => match e with | .normal => wpListIn (Fw r) m P ops Q l2 a w | e => Q e a w) l1 a w → wpListIn (Fw r) m P ops Q (l1 ++ l2) a w := by
  intro l1
  induction l1 with
  | nil => intro a w _ h; exact h
  | cons o l1 ih =>
    intro a w hd h
    have ih' := fun a w => ih a w (fun o ho => hd o (by simp [ho]))
    simp only [wpList] at h
    show wpListIn (Fw r) m P ops Q (o :: (l1 ++ l2)) a w
    simp only [wpListIn]
    by_cases hw : Region.wanted o (yielded ops a.tmps) = true
    · rw [if_pos hw] at h ⊢
      rcases h with h | ⟨_, a0, w0, h0⟩
      · refine ⟨fun _ _ => trivial, ?_⟩
        rw [Oper.semAt_eq _ _ _ (hd o (by simp))]
        unfold Oper.wp at h
        generalize (execOp a.eval o).run P w = x at h
        cases x with
        | ok nx w' =>
          cases nx with
          | value v => exact ih' _ _ h
          | skip => exact ih' _ _ h
          | defer dd => exact ih' _ _ h
          | enter f args =>
            have h : Calls P f args w' _ := h
            refine ⟨fun hx => (by cases hx), ?_⟩
            refine CallsIn.mono (callsIn_wide.2 h) ?_
            intro e w'' he
            cases e with
            | returned v => exact ih' _ _ he
            | panicked ch => exact he
            | outgrown => obtain ⟨a1, w1, h1⟩ := he; exact absurd h1 (hQ a1 w1)
          | row row args =>
            have h : Rows P row args w' _ := h
            refine ⟨fun hx => (by cases hx), fun c cs _ => ?_⟩
            obtain ⟨v, w'', hv, hs⟩ := h c cs
            exact ⟨v, w'', ih' _ _ hv, stepsIn_wide.2 hs⟩
          | _ => exact h.elim
        | halt hl w' =>
          cases hl with
          | panic v => exact h
          | _ => exact h.elim
      · exact absurd h0 (hQ a0 w0)
    · rw [if_neg hw] at h ⊢
      exact ⟨fun _ _ => trivial, ih' _ _ h⟩
theorem listIn {r : Option Nat} {m : Nat} {l : List Oper} (hQ : ∀ a w, ¬ Q .outgrown a w) (hd : nodef l) (h : wpList P ops Q l a w) : wpListIn (Fw r) m P ops Q l a w := by
  have := listIn_app (P := P) (ops := ops) (Q := Q) (r := r) (m := m) (l2 := []) hQ l a w hd (by
    have e : (fun e a w => match e with | .normal => wpListIn (Fw r) m P ops Q [] a w | e => Q e a w : Exit → Act → World → Prop) = Q := by
      funext e a w
      cases e <;> rfl
    rw [e]
    exact h)
  simpa using this
theorem regionIn {r : Option Nat} {m id : Nat} {l : List Oper} (hQ : ∀ a w, ¬ Q .outgrown a w) (hd : nodef l) (h : wpList P l.toArray Q l a w) : (Code.region id l.toArray false).wpIn (Fw r) m P Q a w := wpIn_region_lit (listIn hQ hd h)
/-- A call of yield. -/
theorem st_yield {m L : Nat} {x : Operand} {xs : List Operand} {ats : Array TypeId} {vs : List Value} {X M' : List HA} {post : List HA → Prop} (hs : St n F w0 S M a w) (hx : evo F x = some (.func (.yield L) #[] #[])) (hv : Evs F xs vs) (hX : Dels M X M')
    (hy : ∀ W : World, (∀ h ∈ X, h.p W) → (feet X).Nodup → YieldAt Fence.wide (m - 1) P L vs.toArray W fun e W' => e = .returned (.bool true) ∧ ∃ N, post N ∧ Mem W (feet X) N W') (hd : Nat.blt d n = true)
    (k : ∀ N a w, post N → St n ((d, .bool true) :: F) w0 S (N ++ M') a w → wpListIn (Fw none) m P ops Q rest a w) : wpListIn (Fw none) m P ops Q (⟨some d, .call { callee := .value x, args := xs.toArray, argTypes := ats }, ty, pos, af, none⟩ :: rest) a w := by
  have hall : ∀ h ∈ X, h.p w := fun h hh => hs.mem.all h ((hX.mem h).2 (.inl hh))
  have hnd : (feet X).Nodup := (List.nodup_append.1 (hX.perm.nodup_iff.1 hs.mem.nd)).1
  obtain ⟨fn, tmps, assign, body, hy1, hy2⟩ := hy w hall hnd
  have hr : (execOp a.eval ⟨some d, .call { callee := .value x, args := xs.toArray, argTypes := ats }, ty, pos, af, none⟩).run P w = .ok (.round L fn tmps assign body) w := by
    simp [execOp, resolve, invoke, Deferred.ofValue, hs.ev hx, hs.evs hv, hy1]
  simp only [wpListIn]
  rw [if_pos (by simp [Region.wanted])]
  refine ⟨fun _ _ => trivial, ?_⟩
  have hr' : (Oper.semAt (Fw none).round a.eval ⟨some d, .call { callee := .value x, args := xs.toArray, argTypes := ats }, ty, pos, af, none⟩).run P w = .ok (.round L fn tmps assign body) w := hr
  rw [hr', Oper.uponIn_round]
  refine ⟨fun hx => (by cases hx), RoundIn.mono hy2 ?_⟩
  rintro e W' ⟨rfl, N, hp, hm⟩
  exact k N _ _ hp ((hs.frame hX hm).put hd _)
/-- A loop's record, by its state. -/
def Rec (rec : LoopState → Loop) (fn : FuncId) (tmps : Array Value) (ps : Array Tmp) (assign body : Code) (D : Nat) : Prop := ∀ s, rec s = { state := s, pending := none, fn, tmps, params := ps, assign, body, defers := D }
/-- The one call of a range over a function. -/
theorem st_rangeFunc {m gf : Nat} {g : Operand} {ps : Array Tmp} {assign body : Code} {lb : List Value} (hs : St n F w0 S M a w) (hg : evo F g = some (.func (.func gf) #[] lb.toArray)) (eg : ∀ args w, (callFunc gf args).run P w = .ok (.enter gf args) w)
    (h : ∀ fn D L W rec, Rec rec fn a.tmps ps assign body D → Mem w0 S (obj L (.loop (rec .ready)) :: obj D (.deferred (some [])) :: M) W →
      Calls P gf (.func (.yield L) #[] #[] :: lb).toArray W fun e W' => (∃ v, e = .returned v) ∧ ∃ M2, Mem w0 S (obj L (.loop (rec .ready)) :: obj D (.deferred (some [])) :: M2) W' ∧
        ∀ W'', Mem w0 S (obj L (.loop (rec .exhausted)) :: obj D (.deferred (some [])) :: M2) W'' → Q .normal { a with defers := { target := .collected D, args := #[] } :: a.defers } W'') :
    (Code.rangeFunc g ps assign body).wpIn (Fw none) m P Q a w := by
  refine wpIn_rangeFunc fun fn _ => ?_
  have h1 := hs.mem.frame (Dels.n (M := M)) (mem_newObj w (.deferred (some [])))
  have h2 := h1.frame (Dels.n (M := [obj w.heap.size (.deferred (some []))] ++ M)) (mem_newObj (w.alloc (.deferred (some []))) (.loop { state := .ready, pending := none, fn, tmps := a.tmps, params := ps, assign, body, defers := w.heap.size }))
  rw [World.size_alloc] at h2
  have he := run_enterLoop_outer (P := P) (w := w) fn a.tmps ps assign body
  generalize (w.alloc (.deferred (some []))).alloc (.loop { state := .ready, pending := none, fn := fn, tmps := a.tmps, params := ps, assign := assign, body := body, defers := w.heap.size }) = W1 at h2 he
  obtain ⟨rec, hrec⟩ : ∃ rec : LoopState → Loop, Rec rec fn a.tmps ps assign body w.heap.size := ⟨fun s => { state := s, pending := none, fn, tmps := a.tmps, params := ps, assign, body, defers := w.heap.size }, fun _ => rfl⟩
  rw [← hrec .ready] at h2
  have hc := h fn w.heap.size (w.heap.size + 1) _ rec hrec h2
  refine ⟨w.heap.size + 1, [{ target := .collected w.heap.size, args := #[] }], W1, { target := .fn (.func gf) lb.toArray, args := #[.func (.yield (w.heap.size + 1)) #[] #[]] }, W1, gf, (.func (.yield (w.heap.size + 1)) #[] #[] :: lb).toArray, W1, he, ?_, fun _ _ => trivial, ?_, fun hx => (by cases hx), ?_⟩
  · have hge := hs.ev hg
    have hce : a.eval (.const (.func (.yield (w.heap.size + 1)) #[] #[])) = .func (.yield (w.heap.size + 1)) #[] #[] := rfl
    simp [resolve, Deferred.ofValue, hge, hce]
  · simp [invoke, eg]
  · refine CallsIn.mono (callsIn_wide.2 hc) ?_
    rintro e W' ⟨⟨v, rfl⟩, M2, hm, hq⟩
    have hl := hm.all _ (List.mem_cons_self)
    have hr := run_endLoop (P := P) hl (by rw [hrec]; simp)
    have hx : ({ rec .ready with state := .exhausted } : Loop) = rec .exhausted := by rw [hrec, hrec]
    rw [hx] at hr
    have hp : (rec .ready).pending = none := by rw [hrec]
    rw [hp] at hr
    exact ⟨none, _, hr, hq _ (hm.frame (.c .z .n) (mem_obj hl))⟩
def nodefB : List Oper → Bool
  | [] => true
  | o :: l => (match o.op with | .defer _ => false | _ => true) && nodefB l
theorem nodef_of : ∀ {l : List Oper}, nodefB l = true → nodef l
  | [], _ => fun o ho => by cases ho
  | o :: l, h => by
    simp only [nodefB, Bool.and_eq_true] at h
    intro o' ho c hc
    rcases List.mem_cons.1 ho with e | e
    · rw [e] at hc; rw [hc] at h; cases h.1
    · exact nodef_of h.2 o' e c hc
theorem enterM {f : FuncId} {fn : Func} {c : Code} {args : List Value} {F0 : List (Nat × Value)} {R : Ending → World → Prop} (hf : P.funcs[f]? = some fn) (hb : fn.body = some c) (hn : fn.ntmps = n) (hle : Nat.ble args.length n = true) (hini : Ini 0 args F0) (hM : Mem w S M w)
    (h : ∀ a w', St n F0 w S M a w' → c.wpIn (Fw none) 1 P (bodyPostM (Fw none) 1 P fn R) a w') : Calls P f args.toArray w R := by
  refine callsIn_wide.1 (callsIn_of_wp_marks (F := Fw none) (n := 1) hf hb trivial (h _ _ ?_) rfl)
  have hle' : args.length ≤ n := by simpa using hle
  subst hn
  refine ⟨by simp; omega, rfl, fun t v hv => ?_, hM⟩
  obtain ⟨_, h2⟩ := hini.get t v hv
  simp only [Nat.sub_zero] at h2
  have hlt : t < args.length := by
    rcases Nat.lt_or_ge t args.length with h | h
    · exact h
    · simp [List.getElem?_eq_none h] at h2
  rw [Array.getElem?_append_left (by simpa using hlt)]
  simpa using h2
theorem listIn_val {m : Nat} {o : Oper} {v : Value} {w' : World} (hg : o.guard = none) (hd : ∀ c, o.op ≠ .defer c) (hrun : (execOp a.eval o).run P w = .ok (.value v) w') (k : wpListIn (Fw none) m P ops Q rest (a.put o.dst v) w') : wpListIn (Fw none) m P ops Q (o :: rest) a w := by
  simp only [wpListIn]
  rw [if_pos (by simp [Region.wanted, hg])]
  refine ⟨fun _ _ => trivial, ?_⟩
  have hr' : (Oper.semAt (Fw none).round a.eval o).run P w = .ok (.value v) w' := hrun
  rw [hr']
  exact k
theorem run_ldB {x : Operand} {v : Value} {t t2 : TypeId} {g i : Nat} {cs : List Value} {ds : Option Nat} (hx : a.eval x = .pointer (some ⟨g, i, none⟩)) (hb : w.heap[g]? = some (.cells cs.toArray t2 (0, 0))) (hv : Nth cs i v)
    (hag : ∀ w, (isAgg t).run P w = .ok false w) : (execOp a.eval ⟨ds, .load t x, ty, pos, af, none⟩).run P w = .ok (.value v) w := by
  have hc := (cell_blk (i := i) hb).trans hv.get
  simp [execOp, Instr.loadAt, Instr.sureAddr, loadVar, hx, hag, run_load, hc]
theorem St.round {p : Nat} (hs : St n F w0 S M a w) (hd : Nat.blt p n = true) (v : Value) {W : World} {S' : List Nat} {M' : List HA} (hm : Mem W S' M' W) : St n ((p, v) :: F) W S' M' { tmps := a.tmps.setIfInBounds p v, defers := [] } W :=
  ⟨(hs.put hd v).size, rfl, (hs.put hd v).agr, hm⟩
theorem feet_unsep (A B : List HA) : feet (A ++ [sepL B]) = feet (A ++ B) := by rw [feet_append, feet_append, feet_sep]
theorem Mem.unsep {A B : List HA} {w' : World} (h : Mem w S (A ++ [sepL B]) w') : Mem w S (A ++ B) w' := by
  refine ⟨h.chg, fun y hy => ?_, by rw [← feet_unsep]; exact h.nd, by rw [← feet_unsep]; exact h.ge⟩
  rcases List.mem_append.1 hy with e | e
  · exact h.all y (by simp [e])
  · exact (h.all (sepL B) (by simp)).1 y e
/-- What is asked of a round's call of yield at x: the caller's resource turns from what it is behind 'done' to what it is behind one more. -/
def YieldsE (P : Program) (L : Nat) (l : List EntR) (R : List EntR → HA → Prop) : Prop :=
  ∀ (done : List EntR) (x : EntR) (X : HA) (W : World), R done X → X.p W → X.foot.Nodup → x ∈ l → done.length < l.length → YieldAt Fence.wide 0 P L #[entAg x] W fun e W' => e = .returned (.bool true) ∧ ∃ N, (∃ X', N = [X'] ∧ R (done ++ [x]) X') ∧ Mem W (feet [X]) N W'
theorem YieldsE.at {L : Nat} {l done : List EntR} {R : List EntR → HA → Prop} {x : EntR} {X : HA} (h : YieldsE P L l R) (hR : R done X) (hx : x ∈ l) (hl : done.length < l.length) : ∀ W : World, (∀ h ∈ [X], h.p W) → (feet [X]).Nodup → YieldAt Fence.wide (1 - 1) P L ([entAg x] : List Value).toArray W fun e W' => e = .returned (.bool true) ∧ ∃ N, (∃ X', N = [X'] ∧ R (done ++ [x]) X') ∧ Mem W (feet [X]) N W' :=
  fun W ha hn => h done x X W hR (ha X (by simp)) (by simpa [feet] using hn) hx hl
/-- One round: its assignment and its body, walked in the small logic. -/
theorem round_at {L D fn p : Nat} {assign body : Code} {rec : LoopState → Loop} {ps : Array Tmp} {v : Value} {W : World} {S' : List Nat} {Mr : List HA} {post : List HA → Prop} (hs : St n F w0 S M a w) (hrec : Rec rec fn a.tmps ps assign body D) (hps : ps = #[p]) (hd : Nat.blt p n = true)
    (hM : Mem W S' (obj L (.loop (rec .ready)) :: Mr) W)
    (walk : ∀ a1 w1, St n ((p, v) :: F) W S' (obj L (.loop (rec .ready)) :: Mr) a1 w1 → assign.wpIn (Fw (some L)) 0 P (Exit.then (fun a2 w2 => ∃ F2 M2, St n F2 W S' (obj L (.loop (rec .ready)) :: M2) a2 w2 ∧
      ∀ w3, St n F2 W S' (obj L (.loop (rec .busy)) :: M2) a2 w3 → body.wpIn (Fw (some L)) 0 P (fun e _ w4 => e = .normal ∧ ∃ N, post N ∧ Mem W S' (obj L (.loop (rec .busy)) :: N) w4) a2 w3) (fun _ _ _ => False)) a1 w1) :
    YieldAt Fence.wide 0 P L #[v] W fun e W' => e = .returned (.bool true) ∧ ∃ N, post N ∧ Mem W S' (obj L (.loop (rec .ready)) :: N) W' := by
  subst hps
  have hL : W.heap[L]? = some (.loop (rec .ready)) := hM.all _ (List.mem_cons_self)
  have hy := run_yield (P := P) (args := #[v]) hL (by rw [hrec]; rfl)
  rw [hrec] at hy
  have e1 : (((#[p] : Array Tmp).zip #[v]).foldl (fun tmps (t, a) => tmps.setIfInBounds t a) a.tmps) = a.tmps.setIfInBounds p v := by simp
  dsimp only at hy
  rw [e1] at hy
  refine ⟨_, _, _, _, hy, roundIn_of_wpIn trivial ?_⟩
  refine wpIn_mono (walk _ _ (hs.round hd v hM)) ?_
  intro e a2 w2 he
  cases e with
  | normal =>
    obtain ⟨F2, M2, hst, hb⟩ := he
    have hL2 : w2.heap[L]? = some (.loop (rec .ready)) := hst.mem.all _ (List.mem_cons_self)
    have hbr := run_beginRound (P := P) hL2 (by rw [hrec])
    have ex : ({ rec .ready with state := .busy } : Loop) = rec .busy := by rw [hrec, hrec]
    rw [ex] at hbr
    refine ⟨_, hbr, wpIn_mono (hb _ (hst.frame (.c .z .n) (mem_obj hL2))) ?_⟩
    rintro e a4 w4 ⟨rfl, N, hp, hm⟩
    have hL4 : w4.heap[L]? = some (.loop (rec .busy)) := hm.all _ (List.mem_cons_self)
    have her := run_endRound (P := P) none hL4
    have ey : ({ rec .busy with state := if (none : Option Code).isNone = true then .ready else .done, pending := none } : Loop) = rec .ready := by rw [hrec, hrec]; rfl
    rw [ey] at her
    exact ⟨_, _, her, rfl, N, hp, hm.frame (.c .z .n) (mem_obj hL4)⟩
  | exit id => exact he.elim
  | goto t => exact he.elim
  | ret => exact he.elim
  | panic ch => exact he.elim
  | outgrown => exact he.elim
theorem Mem.reorder {X : List HA} (h : Mem w0 S M w) (dl : Dels M X []) : Mem w0 S X w := by
  have hp := dl.perm
  simp only [feet, List.flatMap_nil, List.append_nil] at hp
  exact ⟨h.chg, fun y hy => h.all y ((dl.mem y).2 (.inl hy)), hp.nodup_iff.1 h.nd, fun k hk => h.ge k (hp.mem_iff.2 hk)⟩
theorem Mem.parts {A B : List HA} (h : Mem w0 S (A ++ B) w) : (∀ y ∈ A, y.p w) ∧ (sepL B).p w ∧ (feet (A ++ [sepL B])).Nodup := by
  have hn := h.nd
  refine ⟨fun y hy => h.all y (by simp [hy]), ⟨fun y hy => h.all y (by simp [hy]), ?_⟩, by rw [feet_unsep]; exact hn⟩
  rw [feet_append] at hn
  exact (List.nodup_append.1 hn).2.1
theorem Mem.unsep2 {A B A' B' : List HA} {w' : World} (h : Mem w (feet (A ++ [sepL B])) (A' ++ [sepL B']) w') : Mem w (feet (A ++ B)) (A' ++ B') w' := by
  rw [feet_unsep] at h
  exact h.unsep
theorem yield_mono {m L : Nat} {args : Array Value} {R R' : Ending → World → Prop} (h : YieldAt Fence.wide m P L args w R) (hr : ∀ e w', R e w' → R' e w') : YieldAt Fence.wide m P L args w R' := by
  obtain ⟨fn, tmps, assign, body, h1, h2⟩ := h
  exact ⟨fn, tmps, assign, body, h1, h2.mono hr⟩
/-- A function that held a range over a function comes out. -/
theorem leaveM {fn : Func} {R : Ending → World → Prop} {D : Nat} {tmps : Array Value} {v : Value} {t : Nat} (hr : fn.results = #[.tmp t]) (hv : tmps.getD t undef = v) (hD : w.heap[D]? = some (.deferred (some []))) (hR : R (.returned v) (w.putObj D (.deferred none))) : bodyPostM (Fw none) 1 P fn R .ret { tmps := tmps, defers := [{ target := .collected D, args := #[] }] } w := by
  refine ⟨by simp, .inl ⟨_, _, rfl, run_takeDeferred hD, ?_⟩⟩
  exact ⟨_, results_tmp hr _ _ _, by rw [hv]; exact hR⟩
end Go.Sx
