/- Calls, and code. -/
import Derived.Test.YtkobgcoegajfcaaSxD
set_option linter.unusedVariables false
set_option linter.unusedSimpArgs false
namespace Go.Sx
open Go.RowKit
variable {P : Program} {ops : Array Oper} {Q : Exit → Act → World → Prop} {rest : List Oper} {n : Nat} {F : List (Nat × Value)} {w0 : World} {S : List Nat} {M : List HA} {a : Act} {w : World}
variable {d : Nat} {ty : TypeId} {pos : String} {af : Array Edge}

theorem calls_ret {R : Ending → World → Prop} {f : FuncId} {args : Array Value} {post : Value → List HA → Prop} (hc : Calls P f args w (Ret w S post)) (hR : ∀ v w', (∃ N, post v N ∧ Mem w S N w') → R (.returned v) w') : Calls P f args w R :=
  hc.mono fun e w' ⟨v, N, he, hp, hm⟩ => by subst he; exact hR v w' ⟨N, hp, hm⟩
theorem wp_enter {o : Oper} {f : FuncId} {args : Array Value} {post : Value → List HA → Prop} {X : List Nat} (hg : o.guard = none) (hrun : (execOp a.eval o).run P w = .ok (.enter f args) w) (hc : Calls P f args w (Ret w X post))
    (k : ∀ v N w', post v N → Mem w X N w' → wpList P ops Q rest (a.put o.dst v) w') : wpList P ops Q (o :: rest) a w :=
  wpList_plain hg fun K hK => by
    unfold Oper.wp
    rw [hrun, Oper.upon_enter]
    refine hc.mono fun e w' ⟨v, N, he, hp, hm⟩ => ?_
    subst he
    exact hK _ _ (k v N w' hp hm)
theorem run_callV {x : Operand} {xs : List Operand} {ats : Array TypeId} {f : FuncId} {fs cs : List Value} {vs : List Value} {ds : Option Nat} {g : Option (Nat × Bool)} (hs : St n F w0 S M a w) (hx : evo F x = some (.func (.func f) fs.toArray cs.toArray)) (hv : Evs F xs vs)
    (hcall : ∀ args w, (callFunc f args).run P w = .ok (.enter f args) w) : (execOp a.eval ⟨ds, .call { callee := .value x, args := xs.toArray, argTypes := ats }, ty, pos, af, g⟩).run P w = .ok (.enter f (fs ++ vs ++ cs).toArray) w := by
  simp [execOp, resolve, invoke, Deferred.ofValue, hs.ev hx, hs.evs hv, hcall]
/-- A call of a named function. -/
theorem st_call {f : FuncId} {xs : List Operand} {ats : Array TypeId} {vs : List Value} {post : Value → List HA → Prop} {X M' : List HA} (hs : St n F w0 S M a w) (hv : Evs F xs vs) (hcall : ∀ args w, (callFunc f args).run P w = .ok (.enter f args) w)
    (hX : Dels M X M') (hc : Calls P f vs.toArray w (Ret w (feet X) post)) (hd : Nat.blt d n = true)
    (k : ∀ v N a w, post v N → St n ((d, v) :: F) w0 S (N ++ M') a w → wpList P ops Q rest a w) :
    wpList P ops Q (⟨some d, .call { callee := .value (.func f), args := xs.toArray, argTypes := ats }, ty, pos, af, none⟩ :: rest) a w := by
  refine wp_enter rfl (run_callV (fs := []) (cs := []) hs rfl hv hcall) (by simpa using hc) ?_
  intro v N w' hp hm
  exact k v N _ _ hp ((hs.frame hX hm).put hd v)
/-- A call of a function value. -/
theorem st_callV {x : Operand} {f : FuncId} {xs : List Operand} {ats : Array TypeId} {vs us all : List Value} {post : Value → List HA → Prop} {X M' : List HA} (hs : St n F w0 S M a w) (hx : evo F x = some (.func (.func f) #[] us.toArray)) (hv : Evs F xs vs) (hall : vs ++ us = all) (hcall : ∀ args w, (callFunc f args).run P w = .ok (.enter f args) w)
    (hX : Dels M X M') (hc : Calls P f all.toArray w (Ret w (feet X) post)) (hd : Nat.blt d n = true)
    (k : ∀ v N a w, post v N → St n ((d, v) :: F) w0 S (N ++ M') a w → wpList P ops Q rest a w) :
    wpList P ops Q (⟨some d, .call { callee := .value x, args := xs.toArray, argTypes := ats }, ty, pos, af, none⟩ :: rest) a w := by
  subst hall
  refine wp_enter rfl (run_callV (fs := []) (cs := us) hs hx hv hcall) (by simpa using hc) ?_
  intro v N w' hp hm
  exact k v N _ _ hp ((hs.frame hX hm).put hd v)
/-- A call that hands back one known value, and touches nothing. -/
abbrev RetV (w : World) (v : Value) : Ending → World → Prop := Ret w [] (fun v' N => v' = v ∧ N = [])
theorem st_callP {f : FuncId} {xs : List Operand} {ats : Array TypeId} {vs : List Value} {v : Value} (hs : St n F w0 S M a w) (hv : Evs F xs vs) (hcall : ∀ args w, (callFunc f args).run P w = .ok (.enter f args) w)
    (hc : Calls P f vs.toArray w (RetV w v)) (hd : Nat.blt d n = true)
    (k : ∀ a w, St n ((d, v) :: F) w0 S M a w → wpList P ops Q rest a w) :
    wpList P ops Q (⟨some d, .call { callee := .value (.func f), args := xs.toArray, argTypes := ats }, ty, pos, af, none⟩ :: rest) a w := by
  refine st_call hs hv hcall .n hc hd ?_
  rintro v' N a' w' ⟨rfl, rfl⟩ hs'
  exact k _ _ hs'
theorem st_str {x : Operand} {v : Value} {t t2 e : TypeId} {m : Nat} {bs : List Byte} {T : List Nat} (hs : St n F w0 S M a w) (hx : evo F x = some v) (hr : Rd w T v 1 m (bytesV bs)) (ht : P.underlying t = some (.slice e)) (he : P.underlying e = some (.int .u8)) (ht2 : P.underlying t2 = some .string) (hd : Nat.blt d n = true)
    (k : ∀ a w, St n ((d, .string (strB bs)) :: F) w0 S M a w → wpList P ops Q rest a w) : wpList P ops Q (⟨some d, .convert t t2 x, ty, pos, af, none⟩ :: rest) a w := by
  have hl := hr.len
  have hl' : bs.length = m := by simpa [bytesV] using hl
  have hrun : (convert t t2 v).run P w = .ok (.string (strB bs)) w := by
    rcases Nat.eq_zero_or_pos m with h0 | h0
    · subst h0
      obtain rfl : bs = [] := List.eq_nil_of_length_eq_zero hl'
      obtain ⟨A, c, rfl⟩ := hr.isSl
      cases A with
      | none => exact run_convert_bytes_nil w t e ht he 0 c t2 ht2
      | some ad => simp [convert, run_underlying ht, run_underlying ht2, run_underlying he, Conv.bytesToString, loadCells, loadCellsFrom, strB]; rfl
    · obtain ⟨ad, c, rfl, _, _, hcell⟩ := hr.at_ h0
      obtain ⟨b, off, spot⟩ := ad
      have h0c : ∃ u, (bytesV bs)[0]? = some u := by
        cases bs with
        | nil => simp at hl'; omega
        | cons x r => exact ⟨_, rfl⟩
      obtain ⟨u, hu⟩ := h0c
      have hc0 := hcell 0 u hu
      have hsp : spot = none := by
        cases spot with
        | none => rfl
        | some z =>
          exfalso
          simp only [Addr.add, if_true, World.cell?, Option.isSome_some] at hc0
          split at hc0 <;> cases hc0
      subst hsp
      have hsb : strOfNums (bs.map fun b => ((BitVec.toNat b : Nat) : Int)) = strB bs := by
        simp only [strOfNums, strB, List.map_map]
        congr 1
        congr 1
        apply List.map_congr_left
        intro b _
        apply UInt8.toBitVec_inj.1
        apply BitVec.eq_of_toNat_eq
        simp
      rw [← hsb]
      refine run_convert_bytes_arg w t e ht he b off m c _ (by simpa using hl') (fun i hi => ?_) t2 ht2
      have hi' : i < bs.length := by omega
      have := hcell i _ (bytesV_get bs hi')
      have ha : (⟨b, off, none⟩ : Addr).add i = ⟨b, off + i, none⟩ := by unfold Addr.add; split <;> simp_all
      rw [ha] at this
      rw [this]
      simp [List.getD_eq_getElem?_getD, hi']
  exact st_pure hs (by simp [execOp, hs.ev hx, hrun]) hd k

/-! ### Functions -/
inductive Ini : Nat → List Value → List (Nat × Value) → Prop
  | n {i} : Ini i [] []
  | c {i v vs F} : Ini (i + 1) vs F → Ini i (v :: vs) ((i, v) :: F)
theorem Ini.get {i : Nat} {vs : List Value} {F : List (Nat × Value)} (h : Ini i vs F) : ∀ t v, lk F t = some v → i ≤ t ∧ vs[t - i]? = some v := by
  induction h with
  | n => intro t v h; simp [lk] at h
  | @c i u vs F _ ih =>
    intro t v h
    rw [lk_cons] at h
    by_cases e : i = t
    · subst e; simp only [if_true, Option.some.injEq] at h; subst h; simp
    · rw [if_neg e] at h
      obtain ⟨h1, h2⟩ := ih t v h
      refine ⟨by omega, ?_⟩
      rw [show t - i = (t - (i + 1)) + 1 by omega]
      simpa using h2
theorem enter {f : FuncId} {fn : Func} {c : Code} {args : List Value} {F0 : List (Nat × Value)} {R : Ending → World → Prop} (hf : P.funcs[f]? = some fn) (hb : fn.body = some c) (hn : fn.ntmps = n) (hle : Nat.ble args.length n = true) (hini : Ini 0 args F0) (hM : Mem w S M w)
    (h : ∀ a w', St n F0 w S M a w' → c.wp P (bodyPost P fn R) a w') : Calls P f args.toArray w R := by
  refine calls_of_wp hf hb (h _ _ ?_)
  have hle' : args.length ≤ n := by simpa using hle
  subst hn
  refine ⟨by simp; omega, rfl, fun t v hv => ?_, hM⟩
  obtain ⟨_, h2⟩ := hini.get t v hv
  simp only [Nat.sub_zero] at h2
  have hlt : t < args.length := by
    rcases Nat.lt_or_ge t args.length with h | h
    · exact h
    · simp [List.getElem?_eq_none h] at h2
  rw [Array.getElem?_append_left (by simpa using hlt)]
  simpa using h2
theorem fin {fn : Func} {post : Value → List HA → Prop} {t : Nat} {v : Value} (hs : St n F w0 S M a w) (hr : fn.results = #[.tmp t]) (hv : lk F t = some v) (hp : post v M) : bodyPost P fn (Ret w0 S post) .ret a w := by
  have hg := hs.agr t v hv
  exact bodyPost_ret (results_tmp hr _ _ _) hs.dfr ⟨_, M, rfl, by simp [Array.getD_eq_getD_getElem?, hg]; exact hp, hs.mem⟩
theorem fin2 {fn : Func} {post : Value → List HA → Prop} {t t2 : Nat} {v v2 : Value} (hs : St n F w0 S M a w) (hr : fn.results = #[.tmp t, .tmp t2]) (hv : lk F t = some v) (hv2 : lk F t2 = some v2) (hp : post (.tuple #[v, v2]) M) : bodyPost P fn (Ret w0 S post) .ret a w := by
  have hg := hs.agr t v hv
  have hg2 := hs.agr t2 v2 hv2
  exact bodyPost_ret (results_tmp2 hr _ _ _) hs.dfr ⟨_, M, rfl, by simp [Array.getD_eq_getD_getElem?, hg, hg2]; exact hp, hs.mem⟩
theorem fin3 {fn : Func} {post : Value → List HA → Prop} {t t2 t3 : Nat} {v v2 v3 : Value} (hs : St n F w0 S M a w) (hr : fn.results = #[.tmp t, .tmp t2, .tmp t3]) (hv : lk F t = some v) (hv2 : lk F t2 = some v2) (hv3 : lk F t3 = some v3) (hp : post (.tuple #[v, v2, v3]) M) : bodyPost P fn (Ret w0 S post) .ret a w := by
  have hg := hs.agr t v hv
  have hg2 := hs.agr t2 v2 hv2
  have hg3 := hs.agr t3 v3 hv3
  exact ⟨hs.dfr, .tuple #[v, v2, v3], by simp [results, hr, Array.getD_eq_getD_getElem?, hg, hg2, hg3], _, M, rfl, hp, hs.mem⟩
theorem fin0 {fn : Func} {post : Value → List HA → Prop} (hs : St n F w0 S M a w) (hr : fn.results = #[]) (hp : post (.tuple #[]) M) : bodyPost P fn (Ret w0 S post) .normal a w :=
  bodyPost_end (results_none hr _ _ _) hs.dfr ⟨_, M, rfl, hp, hs.mem⟩

/-! ### Code -/
theorem wp_loopI {c : Code} (I : Nat → Act → World → Prop) {m : Nat} (h0 : I m a w) (step : ∀ m a w, I m a w → c.wp P (Exit.then (fun a' w' => ∃ m', m' < m ∧ I m' a' w') Q) a w) : (Code.loop c).wp P Q a w := by
  intro b k cs
  have key : ∀ m a w, I m a w → ∃ e a' w', Q e a' w' ∧ Arrives P (lone (b.at a (.code c :: .inLoop c :: k)) cs w) b k cs e a' w' := by
    intro m
    induction m using Nat.strongRecOn with
    | _ m ih =>
      intro a w hI
      obtain ⟨e, a₁, w₁, hq, harr⟩ := step m a w hI b (.inLoop c :: k) cs
      cases e with
      | normal =>
        obtain ⟨m', hlt, hI'⟩ := hq
        obtain ⟨e₂, a₂, w₂, hq₂, harr₂⟩ := ih m' hlt a₁ w₁ hI'
        exact ⟨e₂, a₂, w₂, hq₂, .of_steps (Steps.trans harr (.one step_inLoop)) harr₂⟩
      | exit id => exact ⟨_, a₁, w₁, hq, .pass (x := .inLoop c) rfl (fun _ _ => .inl (by simp)) harr⟩
      | goto l => exact ⟨_, a₁, w₁, hq, .pass (x := .inLoop c) rfl (fun _ _ => .inl (by simp)) harr⟩
      | ret => exact ⟨_, a₁, w₁, hq, .pass (x := .inLoop c) rfl (fun _ _ => .inl (by simp)) harr⟩
      | panic ch => exact ⟨_, a₁, w₁, hq, .pass (x := .inLoop c) rfl (fun _ _ => .inl (by simp)) harr⟩
      | outgrown => exact ⟨_, a₁, w₁, hq, .pass (x := .inLoop c) rfl (fun _ _ => .inl (by simp)) harr⟩
  obtain ⟨e, a', w', hq, harr⟩ := key _ a w h0
  exact ⟨e, a', w', hq, .of_steps (.one step_loop) harr⟩
theorem wp_if {c : Operand} {x y : Code} {t : Bool} (hs : St n F w0 S M a w) (hc : evo F c = some (.bool t)) (ht : t = true → x.wp P Q a w) (hf : t = false → y.wp P Q a w) : (Code.cond c x y).wp P Q a w := wp_cond_split (hs.ev hc) ht hf
theorem then_n {K : Act → World → Prop} (h : K a w) : Exit.then K Q .normal a w := h
theorem in_n {id : Nat} (h : Q .normal a w) : Exit.inBlock id Q .normal a w := h
theorem in_hit {id : Nat} (h : Q .normal a w) : Exit.inBlock id Q (.exit id) a w := by simpa [Exit.inBlock] using h
theorem in_miss {id j : Nat} (hne : Nat.beq j id = false) (h : Q (.exit j) a w) : Exit.inBlock id Q (.exit j) a w := by
  have : ¬ j = id := fun e => by subst e; simp at hne
  simpa [Exit.inBlock, this] using h

theorem th_e {K : Act → World → Prop} {i : Nat} (h : Q (.exit i) a w) : Exit.then K Q (.exit i) a w := h
theorem th_r {K : Act → World → Prop} (h : Q .ret a w) : Exit.then K Q .ret a w := h
theorem in_r {id : Nat} (h : Q .ret a w) : Exit.inBlock id Q .ret a w := h
theorem fin0r {fn : Func} {post : Value → List HA → Prop} (hs : St n F w0 S M a w) (hr : fn.results = #[]) (hp : post (.tuple #[]) M) : bodyPost P fn (Ret w0 S post) .ret a w :=
  ⟨hs.dfr, .tuple #[], by simp [results, hr], _, M, rfl, hp, hs.mem⟩
theorem not_t {b : Bool} (h : (!b) = true) : b = false := by simpa using h
theorem not_f {b : Bool} (h : (!b) = false) : b = true := by simpa using h
theorem ne_of_beq_f {p q : Int} (h : (p == q) = false) : p ≠ q := by simpa using h
theorem st_part {p : Prop} {b : Bool} (ht : b = true → p) (hf : b = false → p) : p := match b, ht, hf with
  | true, h, _ => h rfl
  | false, _, h => h rfl
theorem St.rd0 (hs : St n F w0 S M a w) {v : Value} {size m : Nat} {xs : List Value} (h : Rd w0 S v size m xs) : Rd w [] v size m xs := hs.mem.rd h (by simp)
theorem bvr {w : Nat} (X : BitVec w) (hw : w < 64 := by omega) : -9223372036854775808 ≤ (X.toNat : Int) ∧ (X.toNat : Int) ≤ 9223372036854775807 := by
  have h := X.isLt
  have : (2 : Nat) ^ w ≤ 2 ^ 63 := Nat.pow_le_pow_right (by omega) (by omega)
  have h2 : (2 : Nat) ^ 63 = 9223372036854775808 := by decide
  omega
/-- A guarded operation whose guard says yes, or no. -/
theorem st_guardT {ds : Option Nat} {op : Op} {j t : Nat} {b : Bool} {oj : Oper} (hs : St n F w0 S M a w) (hj : ops[j]? = some oj) (hoj : oj.dst = some t) (hv : lk F t = some (.bool b))
    (k : wpList P ops Q (⟨ds, op, ty, pos, af, none⟩ :: rest) a w) : wpList P ops Q (⟨ds, op, ty, pos, af, some (j, b)⟩ :: rest) a w := by
  have hg := hs.agr t _ hv
  have hy : yielded ops a.tmps j = some b := by simp [yielded, hj, hoj, hg]
  simp only [wpList, Region.wanted, hy, beq_self_eq_true, if_true] at k ⊢
  exact k
theorem st_guardF {d : Nat} {op : Op} {j t : Nat} {b b' : Bool} {oj : Oper} (hs : St n F w0 S M a w) (hj : ops[j]? = some oj) (hoj : oj.dst = some t) (hv : lk F t = some (.bool b')) (hb : b' = !b) (hd : Nat.blt d n = true)
    (k : ∀ a w, St n ((d, undef) :: F) w0 S M a w → wpList P ops Q rest a w) : wpList P ops Q (⟨some d, op, ty, pos, af, some (j, b)⟩ :: rest) a w := by
  have hg := hs.agr t _ hv
  subst hb
  have hy : yielded ops a.tmps j = some (!b) := by simp [yielded, hj, hoj, hg]
  have hne : ((some (!b)) == some b) = false := by cases b <;> rfl
  simp only [wpList, Region.wanted, hy, hne, Bool.false_eq_true, if_false]
  exact k _ _ (hs.put hd undef)
theorem st_min {x y : Operand} {p q : Int} {ts : Array TypeId} (hs : St n F w0 S M a w) (hx : evo F x = some (.int .i64 p)) (hy : evo F y = some (.int .i64 q)) (hd : Nat.blt d n = true)
    (k : ∀ a w, St n ((d, .int .i64 (min p q)) :: F) w0 S M a w → wpList P ops Q rest a w) : wpList P ops Q (⟨some d, .call { callee := .builtin .min, args := #[x, y], argTypes := ts }, ty, pos, af, none⟩ :: rest) a w := by
  have e : (if q < p then q else p) = min p q := by omega
  exact st_pure hs (by simp [execOp, resolve, invoke, builtin, Builtin.min_, Builtin.min2, hs.ev hx, hs.ev hy, e]) hd k
theorem st_max {x y : Operand} {p q : Int} {ts : Array TypeId} (hs : St n F w0 S M a w) (hx : evo F x = some (.int .i64 p)) (hy : evo F y = some (.int .i64 q)) (hd : Nat.blt d n = true)
    (k : ∀ a w, St n ((d, .int .i64 (max p q)) :: F) w0 S M a w → wpList P ops Q rest a w) : wpList P ops Q (⟨some d, .call { callee := .builtin .max, args := #[x, y], argTypes := ts }, ty, pos, af, none⟩ :: rest) a w := by
  have e : (if q > p then q else p) = max p q := by omega
  exact st_pure hs (by simp [execOp, resolve, invoke, builtin, Builtin.max_, Builtin.max2, hs.ev hx, hs.ev hy, e]) hd k

end Go.Sx
