/- Structs and arrays of whole numbers compared. -/
import Derived.Test.YtkobgcoegajfcaaSxJ
import Derived.Test.YtkobgcoegajfcaaSxL
set_option linter.unusedVariables false
set_option linter.unusedSimpArgs false
namespace Go.Sx
open Go.RowKit
variable {P : Program}
def vEq : Value → Value → Bool
  | .int _ a, .int _ b => a == b
  | .bool a, .bool b => a == b
  | _, _ => false
def eqCells : List Value → List Value → Bool
  | x :: xs, y :: ys => vEq x y && eqCells xs ys
  | _, _ => true
theorem eqCells_app : ∀ {a b c d : List Value}, a.length = b.length → eqCells (a ++ c) (b ++ d) = (eqCells a b && eqCells c d)
  | [], [], _, _, _ => by simp [eqCells]
  | x :: a, y :: b, c, d, h => by
    simp only [List.cons_append, eqCells]
    rw [eqCells_app (by simpa using h), Bool.and_assoc]
  | [], _ :: _, _, _, h => by simp at h
  | _ :: _, [], _, _, h => by simp at h
/-- The kinds alone. -/
inductive KFK : List Value → List FK → Prop
  | n : KFK [] []
  | i {k z vs ks} : KFK vs ks → KFK (.int k z :: vs) (.i k :: ks)
  | b {x vs ks} : KFK vs ks → KFK (.bool x :: vs) (.b :: ks)
theorem KFK.length {vs : List Value} {ks : List FK} (h : KFK vs ks) : vs.length = ks.length := by
  induction h <;> simp_all
theorem KFK.split : ∀ {k : List FK} {l : List FK} {vs : List Value}, KFK vs (k ++ l) → KFK (vs.take k.length) k ∧ KFK (vs.drop k.length) l
  | [], l, vs, h => by simpa using ⟨KFK.n, h⟩
  | .i kd :: k, l, vs, h => by
    cases h with
    | i h => obtain ⟨h1, h2⟩ := KFK.split h; exact ⟨.i h1, h2⟩
  | .b :: k, l, vs, h => by
    cases h with
    | b h => obtain ⟨h1, h2⟩ := KFK.split h; exact ⟨.b h1, h2⟩
def isAggB (P : Program) (t : TypeId) : Bool := match P.underlying t with
  | some (.struct _) => true
  | some (.array _ _) => true
  | _ => false
end Go.Sx
namespace Go.Sx
open Go.RowKit
variable {P : Program}
def aggOf (P : Program) (t : TypeId) (cs : List Value) : Value := if isAggB P t then .agg cs.toArray else cs.headD undef
def flatQs (P : Program) (K : TypeId → Option (List FK)) : Nat → List Field → Option (List FK)
  | _, [] => some []
  | off, f :: r => (K f.type).bind fun k => if f.offset = off ∧ f.name ≠ "_" ∧ (P.info? f.type).map (·.size) = some k.length ∧ (isAggB P f.type = true ∨ k.length = 1) then (flatQs P K (off + k.length) r).map fun l => k ++ l else none
def flatQ (P : Program) : Nat → TypeId → Option (List FK)
  | 0, _ => none
  | n + 1, t => match P.underlying t with
    | some (.int k) => some [.i k]
    | some .bool => some [.b]
    | some (.struct fs) => if P.stoodInHeld t = false then flatQs P (flatQ P n) 0 fs.toList else none
    | some (.array m e) => (flatQ P n e).bind fun k => if (P.info? e).map (·.size) = some k.length ∧ (isAggB P e = true ∨ k.length = 1) then some (flatA k m) else none
    | _ => none
theorem run_isAgg {t : TypeId} {ds : TypeDesc} (w : World) (h : P.underlying t = some ds) : (isAgg t).run P w = .ok (isAggB P t) w := by
  unfold isAgg isAggB
  simp only [Sem.run_bind, run_underlying h, Result.andThen_ok, h]
  cases ds <;> simp
end Go.Sx
namespace Go.Sx
open Go.RowKit
variable {P : Program}
theorem run_partF {t : TypeId} {cs : List Value} {off k : Nat} {ds : TypeDesc} (w : World) (hu : P.underlying t = some ds) (hsz : (P.info? t).map (·.size) = some k) (hk : isAggB P t = true ∨ k = 1) (hlen : off + k ≤ cs.length) :
    (part t cs.toArray off).run P w = .ok (aggOf P t ((cs.drop off).take k)) w := by
  obtain ⟨i, hi, hik⟩ := Option.map_eq_some_iff.1 hsz
  unfold part aggOf
  simp only [Sem.run_bind, run_isAgg w hu, Result.andThen_ok]
  cases hb : isAggB P t with
  | true =>
    subst hik
    simp [sizeOf, typeInfo, hi, List.extract_toArray]
  | false =>
    rcases hk with hk | hk
    · rw [hb] at hk; cases hk
    · subst hk
      have h1 : off < cs.length := by omega
      simp [h1, List.headD_eq_head?_getD, List.head?_take, List.head?_drop]
theorem flatQ_und : ∀ (n : Nat) (t : TypeId) (ks : List FK), flatQ P n t = some ks → ∃ ds, P.underlying t = some ds := by
  intro n t ks h
  cases n with
  | zero => simp [flatQ] at h
  | succ n =>
    simp only [flatQ] at h
    cases hu : P.underlying t with
    | none => rw [hu] at h; cases h
    | some ds => exact ⟨ds, rfl⟩
end Go.Sx
namespace Go.Sx
open Go.RowKit
variable {P : Program}
theorem run_eqFs {K : TypeId → Option (List FK)} {d : Nat} (hK : ∀ t ks, K t = some ks → (∃ ds, P.underlying t = some ds) ∧ ∀ xs ys, KFK xs ks → KFK ys ks → ∀ w, (Op.equalIn d t (aggOf P t xs) (aggOf P t ys)).run P w = .ok (eqCells xs ys) w) :
    ∀ (fs : List Field) (off : Nat) (ks : List FK), flatQs P K off fs = some ks → ∀ (xs ys : List Value), xs.length = off + ks.length → ys.length = off + ks.length → KFK (xs.drop off) ks → KFK (ys.drop off) ks →
      ∀ w, (Op.eqFields d xs.toArray ys.toArray fs).run P w = .ok (eqCells (xs.drop off) (ys.drop off)) w := by
  intro fs
  induction fs with
  | nil =>
    intro off ks h xs ys hx hy _ _ w
    simp only [flatQs, Option.some.injEq] at h
    subst h
    simp only [List.length_nil, Nat.add_zero] at hx hy
    rw [List.drop_of_length_le (by omega), List.drop_of_length_le (by omega)]
    simp [Op.eqFields, eqCells]
  | cons f r ih =>
    intro off ks h xs ys hx hy kx ky w
    simp only [flatQs, Option.bind_eq_some_iff] at h
    obtain ⟨k, hk, h⟩ := h
    split at h
    · rename_i hc
      obtain ⟨hoff, hnm, hsz, hag⟩ := hc
      simp only [Option.map_eq_some_iff] at h
      obtain ⟨l, hl, rfl⟩ := h
      simp only [List.length_append] at hx hy
      obtain ⟨⟨ds, hu⟩, hKq⟩ := hK _ _ hk
      obtain ⟨kx1, kx2⟩ := kx.split
      obtain ⟨ky1, ky2⟩ := ky.split
      rw [List.drop_drop] at kx2 ky2
      have hr := ih (off + k.length) l hl xs ys (by omega) (by omega) kx2 ky2 w
      have hcell : eqCells (xs.drop off) (ys.drop off) = (eqCells ((xs.drop off).take k.length) ((ys.drop off).take k.length) && eqCells (xs.drop (off + k.length)) (ys.drop (off + k.length))) := by
        rw [← eqCells_app (by simp; omega), ← List.drop_drop, ← List.drop_drop, List.take_append_drop, List.take_append_drop]
      simp only [Op.eqFields]
      rw [if_pos hnm]
      simp only [Sem.run_bind, hoff, run_partF w hu hsz hag (by omega : off + k.length ≤ xs.length), run_partF w hu hsz hag (by omega : off + k.length ≤ ys.length), Result.andThen_ok, hKq _ _ kx1 ky1 w]
      rw [hcell]
      cases he : eqCells ((xs.drop off).take k.length) ((ys.drop off).take k.length) with
      | false => simp
      | true => simpa using hr
    · cases h
def eqRound (P : Program) (d : Nat) (e : TypeId) (sz : Nat) (xs ys : Array Value) (i : Nat) : Sem (ForInStep (Option Bool × Unit)) := do
  let a ← part e xs (i * sz)
  let b ← part e ys (i * sz)
  let c ← Op.equalIn d e a b
  if (!c) = true then pure (ForInStep.done (some false, ())) else pure (ForInStep.yield (none, ()))
theorem run_eqArr {e : TypeId} {k : List FK} {d : Nat} (hu : ∃ ds, P.underlying e = some ds) (hsz : (P.info? e).map (·.size) = some k.length) (hag : isAggB P e = true ∨ k.length = 1)
    (hK : ∀ xs ys, KFK xs k → KFK ys k → ∀ w, (Op.equalIn d e (aggOf P e xs) (aggOf P e ys)).run P w = .ok (eqCells xs ys) w) (xs ys : List Value) :
    ∀ (m i : Nat), xs.length = i * k.length + (flatA k m).length → ys.length = i * k.length + (flatA k m).length → KFK (xs.drop (i * k.length)) (flatA k m) → KFK (ys.drop (i * k.length)) (flatA k m) → ∀ w,
      (forIn (List.range' i m) ((none, ()) : Option Bool × Unit) (fun j _ => eqRound P d e k.length xs.toArray ys.toArray j)).run P w
        = .ok (if eqCells (xs.drop (i * k.length)) (ys.drop (i * k.length)) then (none, ()) else (some false, ())) w := by
  intro m
  induction m with
  | zero =>
    intro i hx hy _ _ w
    simp only [flatA, List.length_nil, Nat.add_zero] at hx hy
    rw [List.drop_of_length_le (by omega), List.drop_of_length_le (by omega)]
    simp [eqCells]
  | succ m ih =>
    intro i hx hy kx ky w
    obtain ⟨ds, hu'⟩ := hu
    simp only [flatA] at hx hy kx ky
    simp only [List.length_append] at hx hy
    obtain ⟨kx1, kx2⟩ := kx.split
    obtain ⟨ky1, ky2⟩ := ky.split
    rw [List.drop_drop, show i * k.length + k.length = (i + 1) * k.length by rw [Nat.add_mul]; omega] at kx2 ky2
    have hr := ih (i + 1) (by rw [hx, Nat.add_mul]; omega) (by rw [hy, Nat.add_mul]; omega) kx2 ky2 w
    have hcell : eqCells (xs.drop (i * k.length)) (ys.drop (i * k.length)) = (eqCells ((xs.drop (i * k.length)).take k.length) ((ys.drop (i * k.length)).take k.length) && eqCells (xs.drop ((i + 1) * k.length)) (ys.drop ((i + 1) * k.length))) := by
      rw [← eqCells_app (by simp; omega), show (i + 1) * k.length = i * k.length + k.length by rw [Nat.add_mul]; omega, ← List.drop_drop, ← List.drop_drop, List.take_append_drop, List.take_append_drop]
    have hround : (eqRound P d e k.length xs.toArray ys.toArray i).run P w = .ok (if eqCells ((xs.drop (i * k.length)).take k.length) ((ys.drop (i * k.length)).take k.length) then ForInStep.yield (none, ()) else ForInStep.done (some false, ())) w := by
      unfold eqRound
      simp only [Sem.run_bind, run_partF w hu' hsz hag (by omega : i * k.length + k.length ≤ xs.length), run_partF w hu' hsz hag (by omega : i * k.length + k.length ≤ ys.length), Result.andThen_ok, hK _ _ kx1 ky1 w]
      cases eqCells ((xs.drop (i * k.length)).take k.length) ((ys.drop (i * k.length)).take k.length) <;> simp
    rw [List.range'_succ, List.forIn_cons]
    simp only [Sem.run_bind, hround, Result.andThen_ok]
    rw [hcell]
    cases eqCells ((xs.drop (i * k.length)).take k.length) ((ys.drop (i * k.length)).take k.length) with
    | false => simp
    | true => simpa using hr
theorem run_eqF : ∀ (n : Nat) (t : TypeId) (ks : List FK), flatQ P n t = some ks → ∀ (xs ys : List Value), KFK xs ks → KFK ys ks → ∀ (d : Nat) (w : World), n ≤ d → (Op.equalIn d t (aggOf P t xs) (aggOf P t ys)).run P w = .ok (eqCells xs ys) w := by
  intro n
  induction n with
  | zero => intro t ks h; simp [flatQ] at h
  | succ n ih =>
    intro t ks h xs ys kx ky d w hd
    obtain ⟨d, rfl⟩ : ∃ d', d = d' + 1 := ⟨d - 1, by omega⟩
    simp only [flatQ] at h
    split at h
    · rename_i k hu
      simp only [Option.some.injEq] at h
      subst h
      have hb : isAggB P t = false := by simp [isAggB, hu]
      cases kx with
      | i kx =>
        cases kx
        cases ky with
        | i ky =>
          cases ky
          simp [aggOf, hb, eqCells, vEq, Op.equalIn, run_underlying hu]
    · rename_i hu
      simp only [Option.some.injEq] at h
      subst h
      have hb : isAggB P t = false := by simp [isAggB, hu]
      cases kx with
      | b kx =>
        cases kx
        cases ky with
        | b ky =>
          cases ky
          simp [aggOf, hb, eqCells, vEq, Op.equalIn, run_underlying hu]
    · rename_i fs hu
      split at h
      · rename_i hst
        have hb : isAggB P t = true := by simp [isAggB, hu]
        have hf : P.fieldsOf t = fs := by simp [Program.fieldsOf, hu]
        have hlx := kx.length
        have hly := ky.length
        have := run_eqFs (K := flatQ P n) (d := d) (fun t ks hk => ⟨flatQ_und n t ks hk, fun xs ys hx hy w => ih t ks hk xs ys hx hy d w (by omega)⟩) fs.toList 0 ks h xs ys (by omega) (by omega) (by simpa using kx) (by simpa using ky) w
        simp only [aggOf, hb, if_true]
        rw [run_equalIn_struct w d t _ _ (by rw [hf]; exact hu) hst, hf]
        simpa using this
      · cases h
    · rename_i m e hu
      simp only [Option.bind_eq_some_iff] at h
      obtain ⟨k, hk, h⟩ := h
      split at h
      · rename_i hc
        simp only [Option.some.injEq] at h
        subst h
        have hb : isAggB P t = true := by simp [isAggB, hu]
        have hlx := kx.length
        have hly := ky.length
        have hs : ∀ w, (sizeOf e).run P w = .ok k.length w := fun w => by
          obtain ⟨i, hi, hik⟩ := Option.map_eq_some_iff.1 hc.1
          simp [sizeOf, typeInfo, hi, hik]
        have hr := run_eqArr (d := d) (flatQ_und n e k hk) hc.1 hc.2 (fun xs ys hx hy w => ih e k hk xs ys hx hy d w (by omega)) xs ys m 0 (by omega) (by omega) (by simpa using kx) (by simpa using ky) w
        simp only [aggOf, hb, if_true]
        rw [Op.equalIn]
        simp only [Sem.run_bind, run_underlying hu, hs, Result.andThen_ok]
        simp only [Std.Legacy.Range.forIn_eq_forIn_range']
        rw [show ([:m] : Std.Legacy.Range).size = m by simp [Std.Legacy.Range.size]]
        simp only [Nat.zero_mul, List.drop_zero] at hr
        refine Eq.trans (congrArg (fun r => Result.andThen r _) hr) ?_
        cases eqCells xs ys <;> simp
      · cases h
    · cases h
end Go.Sx
namespace Go.Sx
open Go.RowKit
variable {P : Program} {ops : Array Oper} {Q : Exit → Act → World → Prop} {rest : List Oper} {n : Nat} {F : List (Nat × Value)} {w0 : World} {S : List Nat} {M : List HA} {a : Act} {w : World}
variable {d : Nat} {ty : TypeId} {pos : String} {af : Array Edge}
theorem st_eqF {x y : Operand} {t t2 : TypeId} {xs ys : List Value} {ks : List FK} (q : Nat) (hs : St n F w0 S M a w) (hx : evo F x = some (.agg xs.toArray)) (hy : evo F y = some (.agg ys.toArray))
    (hg : P.eqGuardType P.depth t = false) (hq : flatQ P q t = some ks) (hb : isAggB P t = true) (hn : q ≤ 10000) (kx : KFK xs ks) (ky : KFK ys ks) (hd : Nat.blt d n = true)
    (k : ∀ a w, St n ((d, .bool (eqCells xs ys)) :: F) w0 S M a w → wpList P ops Q rest a w) : wpList P ops Q (⟨some d, .binOp .eql t x y t2, ty, pos, af, none⟩ :: rest) a w := by
  have h := run_eqF q t ks hq xs ys kx ky 10000 w hn
  simp only [aggOf, hb, if_true] at h
  exact st_pure hs (by simp [execOp, hs.ev hx, hs.ev hy, run_eqGuard_agg w .eql t x y _ _ hg, run_eql_struct, h]) hd k
theorem st_neqF {x y : Operand} {t t2 : TypeId} {xs ys : List Value} {ks : List FK} (q : Nat) (hs : St n F w0 S M a w) (hx : evo F x = some (.agg xs.toArray)) (hy : evo F y = some (.agg ys.toArray))
    (hg : P.eqGuardType P.depth t = false) (hq : flatQ P q t = some ks) (hb : isAggB P t = true) (hn : q ≤ 10000) (kx : KFK xs ks) (ky : KFK ys ks) (hd : Nat.blt d n = true)
    (k : ∀ a w, St n ((d, .bool (!(eqCells xs ys))) :: F) w0 S M a w → wpList P ops Q rest a w) : wpList P ops Q (⟨some d, .binOp .neq t x y t2, ty, pos, af, none⟩ :: rest) a w := by
  have h := run_eqF q t ks hq xs ys kx ky 10000 w hn
  simp only [aggOf, hb, if_true] at h
  exact st_pure hs (by simp [execOp, hs.ev hx, hs.ev hy, run_eqGuard_agg w .neq t x y _ _ hg, run_neq_struct, h]) hd k
end Go.Sx
