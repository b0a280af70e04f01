/- Runs of plain operations, carried out by a function. -/
import Derived.Test.YtbioemaipghagaaGreatQSxBasB
set_option linter.unusedVariables false
set_option linter.unusedSimpArgs false
namespace Go.Sx
open Go.RowKit
variable {P : Program} {ops : Array Oper} {Q : Exit → Act → World → Prop} {rest : List Oper} {n : Nat} {F : List (Nat × Value)} {w0 : World} {S : List Nat} {M : List HA} {a : Act} {w : World}
def sizeB (P : Program) (t : TypeId) : Option Nat := (P.info? t).map (·.size)
theorem run_sizeB {t : TypeId} {k : Nat} (w : World) (h : sizeB P t = some k) : (sizeOf t).run P w = .ok k w := by
  obtain ⟨i, hi, hik⟩ := Option.map_eq_some_iff.1 h
  subst hik
  simp [sizeOf, typeInfo, hi]
inductive BBs (w : World) : List (Nat × List Value) → Prop
  | n : BBs w []
  | c {g cs t r} : (blk g cs t).p w → BBs w r → BBs w ((g, cs) :: r)
theorem BBs.head {Bs : List (Nat × List Value)} (h : BBs w Bs) {g : Nat} {cs : List Value} (hb : Bs.head? = some (g, cs)) : ∃ t, (blk g cs t).p w := by
  cases h with
  | n => cases hb
  | c h1 _ => simp only [List.head?_cons, Option.some.injEq, Prod.mk.injEq] at hb; obtain ⟨rfl, rfl⟩ := hb; exact ⟨_, h1⟩
theorem BBs.tail {Bs : List (Nat × List Value)} (h : BBs w Bs) : BBs w Bs.tail := by
  cases h with
  | n => exact .n
  | c _ h2 => exact h2
/-- A part of cells: of a struct or an array all of its cells, else one. -/
def cutV (P : Program) (t : TypeId) (cs : List Value) (off : Nat) : Option Value :=
  match P.underlying t, sizeB P t with
  | some _, some k => bif isAggB P t then (bif Nat.ble (off + k) cs.length then some (.agg ((cs.drop off).take k).toArray) else none) else cs[off]?
  | _, _ => none
theorem run_cutV {t : TypeId} {cs : List Value} {off : Nat} {v : Value} (w : World) (h : cutV P t cs off = some v) : (part t cs.toArray off).run P w = .ok v w := by
  unfold cutV at h
  split at h
  case h_2 => cases h
  rename_i ds k hu hsz
  cases hb : isAggB P t with
  | true =>
    rw [hb] at h
    simp only [cond_true] at h
    cases hl : Nat.ble (off + k) cs.length with
    | false => rw [hl] at h; cases h
    | true =>
      rw [hl] at h
      simp only [cond_true] at h
      injection h with h
      subst h
      rw [run_partF w hu hsz (.inl hb) (Nat.le_of_ble_eq_true hl), aggOf, if_pos hb]
  | false =>
    rw [hb] at h
    simp only [cond_false] at h
    unfold part
    simp [run_isAgg w hu, hb, h]
theorem run_loadV {t : TypeId} {cs : List Value} {off g : Nat} {t2 : TypeId} {v : Value} (w : World) (hb : (blk g cs t2).p w) (h : cutV P t cs off = some v) : (loadVar t ⟨g, off, none⟩).run P w = .ok v w := by
  unfold cutV at h
  split at h
  case h_2 => cases h
  rename_i ds k hu hsz
  cases hag : isAggB P t with
  | true =>
    rw [hag] at h
    simp only [cond_true] at h
    cases hl : Nat.ble (off + k) cs.length with
    | false => rw [hl] at h; cases h
    | true =>
      rw [hl] at h
      simp only [cond_true] at h
      injection h with h
      subst h
      have hle := Nat.le_of_ble_eq_true hl
      have hcl : ((cs.drop off).take k).length = k := by simp; omega
      have hrun := run_loadCells_list (P := P) w ⟨g, off, none⟩ ((cs.drop off).take k) (fun j u hj => by
        have ha : (⟨g, off, none⟩ : Addr).add j = ⟨g, off + j, none⟩ := by unfold Addr.add; split <;> simp_all
        rw [ha, cell_blk hb]
        rw [List.getElem?_take] at hj
        split at hj
        · simpa using hj
        · cases hj)
      rw [hcl] at hrun
      simp [loadVar, run_isAgg w hu, hag, run_sizeB w hsz, hrun]
  | false =>
    rw [hag] at h
    simp only [cond_false] at h
    have hc := (cell_blk (i := off) hb).trans h
    simp [loadVar, run_isAgg w hu, hag, run_load, hc]
/-- What a plain operation comes to. -/
def sim1 (P : Program) (F : List (Nat × Value)) (B : Option (Nat × List Value)) : Op → Option Value
  | .move x => evo F x
  | .assign x => evo F x
  | .extract x i => match evo F x with
    | some (.tuple vs) => vs.toList[i]?
    | _ => none
  | .nilCheck x => match evo F x with
    | some (.pointer (some ad)) => some (.pointer (some ad))
    | some (.func (.func f) fs cs) => some (.func (.func f) fs cs)
    | _ => none
  | .fieldAddr t x f => match evo F x with
    | some (.pointer (some ⟨g, i, none⟩)) => match P.underlying t with
      | some (.struct fs) => match fs.toList[f]? with
        | some fd => match sizeB P fd.type with
          | some (_ + 1) => some (.pointer (some ⟨g, i + fd.offset, none⟩))
          | _ => none
        | none => none
      | _ => none
    | _ => none
  | .indexAddr t x i => match evo F x, evo F i with
    | some (.pointer (some ⟨g, o, none⟩)), some (.int _ (.ofNat q)) => match P.underlying t with
      | some (.array len e) => match sizeB P e with
        | some size => bif Nat.blt q len then some (.pointer (some ⟨g, o + q * size, none⟩)) else none
        | none => none
      | _ => none
    | _, _ => none
  | .field t x f => match evo F x with
    | some (.agg vs) => match P.underlying t with
      | some (.struct fs) => match fs.toList[f]? with
        | some fd => cutV P fd.type vs.toList fd.offset
        | none => none
      | _ => none
    | _ => none
  | .index t x i => match evo F x, evo F i with
    | some (.agg vs), some (.int _ (.ofNat q)) => match P.underlying t with
      | some (.array len e) => match sizeB P e with
        | some size => bif Nat.blt q len then cutV P e vs.toList (q * size) else none
        | none => none
      | _ => none
    | _, _ => none
  | .load t x => match evo F x with
    | some (.pointer (some ⟨_, i, none⟩)) => match B with
      | some (_, cs) => cutV P t cs i
      | none => none
    | _ => none
  | .pick c x y => match evo F c with
    | some (.bool true) => evo F x
    | some (.bool false) => evo F y
    | _ => none
  | .unOp .not _ x => match evo F x with
    | some (.bool b) => some (.bool (!b))
    | _ => none
  | .binOp op _ x y _ => match evo F x, evo F y with
    | some (.int k p), some (.int k2 q) => if k = k2 then
        match op with
        | .lss => some (.bool (decide (p < q)))
        | .leq => some (.bool (decide (p ≤ q)))
        | .gtr => some (.bool (decide (q < p)))
        | .geq => some (.bool (decide (q ≤ p)))
        | .eql => some (.bool (p == q))
        | .neq => some (.bool (!(p == q)))
        | .add => some (.int k (k.wrap (p + q)))
        | .sub => some (.int k (k.wrap (p - q)))
        | _ => none
      else none
    | _, _ => none
  | _ => none
/-- Which blocks must be the same. -/
def eq1 (F : List (Nat × Value)) (B : Option (Nat × List Value)) : Op → List (Nat × Nat)
  | .load _ x => match evo F x, B with
    | some (.pointer (some ⟨g, _, none⟩)), some (g', _) => [(g, g')]
    | _, _ => []
  | _ => []
def headB (Bs : List (Nat × List Value)) : Op → Option (Nat × List Value)
  | .load _ _ => Bs.head?
  | _ => none
def tailB (Bs : List (Nat × List Value)) : Op → List (Nat × List Value)
  | .load _ _ => Bs.tail
  | _ => Bs
theorem headB_ok {Bs : List (Nat × List Value)} {op : Op} (h : BBs w Bs) {g : Nat} {cs : List Value} (hb : headB Bs op = some (g, cs)) : ∃ t, (blk g cs t).p w := by
  unfold headB at hb
  split at hb
  · exact h.head hb
  · cases hb
theorem tailB_ok {Bs : List (Nat × List Value)} {op : Op} (h : BBs w Bs) : BBs w (tailB Bs op) := by
  unfold tailB
  split
  · exact h.tail
  · exact h
theorem arr_get {α : Type} {xs : Array α} {i : Nat} {v : α} (h : xs.toList[i]? = some v) : xs[i]? = some v := by simpa using h
theorem sim1_ok {op : Op} {v : Value} {B : Option (Nat × List Value)} {d : Nat} {ty : TypeId} {pos : String} {af : Array Edge} (h : sim1 P F B op = some v) (hs : St n F w0 S M a w) (hB : ∀ {g cs}, B = some (g, cs) → ∃ t, (blk g cs t).p w) (he : ∀ p ∈ eq1 F B op, p.1 = p.2) : (execOp a.eval ⟨some d, op, ty, pos, af, none⟩).run P w = .ok (.value v) w := by
  unfold sim1 at h
  split at h
  · simp [execOp, hs.ev h]
  · simp [execOp, hs.ev h]
  · split at h
    · rename_i hx
      have hg := arr_get h
      simp [execOp, Instr.extract, hs.ev hx, hg]
    · cases h
  · split at h
    · rename_i hx; injection h with h; subst h; simp [execOp, hs.ev hx]
    · rename_i hx; injection h with h; subst h; simp [execOp, hs.ev hx]
    · cases h
  · split at h
    · rename_i g i hx
      split at h
      · rename_i ht
        split at h
        · rename_i fd hf
          have hf' := arr_get hf
          split at h
          · rename_i hsz
            injection h with h
            subst h
            have ha : (⟨g, i, none⟩ : Addr).add fd.offset = ⟨g, i + fd.offset, none⟩ := by unfold Addr.add; split <;> simp_all
            simp [execOp, Instr.fieldAt, Instr.sureAddr, hs.ev hx, run_underlying ht, hf', fieldPlace, run_sizeB _ hsz, ha]
          · cases h
        · cases h
      · cases h
    · cases h
  · split at h
    · rename_i g o _ q hx hi
      split at h
      · rename_i ht
        split at h
        · rename_i size hsz
          cases hb : Nat.blt q _ with
          | false => rw [hb] at h; cases h
          | true =>
            rw [hb] at h
            injection h with h
            subst h
            have hb' : 0 ≤ (Int.ofNat q) ∧ (Int.ofNat q) < ((_ : Nat) : Int) := ⟨Int.natCast_nonneg q, Int.ofNat_lt.2 (by simpa using hb)⟩
            have ha : (⟨g, o, none⟩ : Addr).add (q * size) = ⟨g, o + q * size, none⟩ := by unfold Addr.add; split <;> simp_all
            have hq : (Int.ofNat q).toNat = q := rfl
            simp only [execOp, Instr.indexAt, Instr.sureAddr, asIntOf, hs.ev hx, hs.ev hi]
            have hb2 := hb
            simp only [Nat.blt_eq] at hb2
            simp [run_underlying ht, run_sizeB _ hsz, ha]
            intro hle
            omega
        · cases h
      · cases h
    · cases h
  · split at h
    · rename_i vs hx
      split at h
      · rename_i ht
        split at h
        · rename_i fd hf
          have hf' := arr_get hf
          have hp := run_cutV (P := P) w h
          simp only [Array.toArray_toList] at hp
          simp [execOp, Instr.field, hs.ev hx, run_underlying ht, hf', asAgg, hp]
        · cases h
      · cases h
    · cases h
  · split at h
    · rename_i vs _ q hx hi
      split at h
      · rename_i ht
        split at h
        · rename_i size hsz
          cases hb : Nat.blt q _ with
          | false => rw [hb] at h; cases h
          | true =>
            rw [hb] at h
            simp only [cond_true] at h
            have hp := run_cutV (P := P) w h
            simp only [Array.toArray_toList] at hp
            have hb2 := hb
            simp only [Nat.blt_eq] at hb2
            simp only [execOp, Instr.index, asIntOf, hs.ev hx, hs.ev hi]
            simp [run_underlying ht, run_sizeB _ hsz, hp, hb2]
        · cases h
      · cases h
    · cases h
  · split at h
    · rename_i g i hx
      split at h
      · rename_i g' cs
        obtain ⟨t2, hbl⟩ := hB rfl
        have hg : g = g' := he (g, g') (by simp [eq1, hx])
        subst hg
        have hp := run_loadV (P := P) w hbl h
        simp [execOp, Instr.loadAt, Instr.sureAddr, hs.ev hx, hp]
      · cases h
    · cases h
  · split at h
    · rename_i hc; simp [execOp, hs.ev hc, hs.ev h, asBool]
    · rename_i hc; simp [execOp, hs.ev hc, hs.ev h, asBool]
    · cases h
  · split at h
    · rename_i hx; injection h with h; subst h; simp [execOp, hs.ev hx, Op.unary]
    · cases h
  · split at h
    · rename_i hx hy
      split at h
      · rename_i hk
        subst hk
        split at h
        all_goals first
          | (injection h with h; subst h; simp [execOp, hs.ev hx, hs.ev hy, binOp, eqGuard, Op.intArith, Op.intCmp]; done)
          | (injection h with h; subst h; simp [execOp, hs.ev hx, hs.ev hy, binOp, eqGuard, Op.intArith, Op.intCmp] <;> rfl)
          | cases h
      · cases h
    · cases h
  · cases h
/-- A run of k operations: what the slots hold behind it, and which blocks must be the same. -/
def simL (P : Program) (n : Nat) (ops : Array Oper) : Nat → List Oper → List (Nat × List Value) → List (Nat × Nat) → List (Nat × Value) → Option (List (Nat × Value) × List (Nat × Nat))
  | 0, _, _, E, F => some (F, E)
  | _ + 1, [], _, _, _ => none
  | k + 1, ⟨some d, op, _, _, _, gd⟩ :: l, Bs, E, F => bif Nat.blt d n then
      match gd with
      | none => match sim1 P F (headB Bs op) op with
        | some v => simL P n ops k l (tailB Bs op) (eq1 F (headB Bs op) op ++ E) ((d, v) :: F)
        | none => none
      | some (j, b) => match (ops.toList[j]?).bind (·.dst) with
        | some t => match lk F t with
          | some (.bool true) => match b, sim1 P F (headB Bs op) op with
            | true, some v => simL P n ops k l (tailB Bs op) (eq1 F (headB Bs op) op ++ E) ((d, v) :: F)
            | true, none => none
            | false, _ => simL P n ops k l Bs E ((d, undef) :: F)
          | some (.bool false) => match b, sim1 P F (headB Bs op) op with
            | false, some v => simL P n ops k l (tailB Bs op) (eq1 F (headB Bs op) op ++ E) ((d, v) :: F)
            | false, none => none
            | true, _ => simL P n ops k l Bs E ((d, undef) :: F)
          | some (.tuple vs) => match vs.toList with
            | [] => simL P n ops k l Bs E ((d, undef) :: F)
            | _ => none
          | _ => none
        | none => none
      else none
  | _ + 1, ⟨none, _, _, _, _, _⟩ :: _, _, _, _ => none
theorem bind_dst {ops : Array Oper} {j t : Nat} (h : (ops.toList[j]?).bind (·.dst) = some t) : ∃ oj, ops[j]? = some oj ∧ oj.dst = some t := by
  obtain ⟨oj, h1, h2⟩ := Option.bind_eq_some_iff.1 h
  exact ⟨oj, arr_get h1, h2⟩
/-- What must be the same is asked for to the end. -/
theorem simL_eqs : ∀ (k : Nat) (l : List Oper) (Bs : List (Nat × List Value)) (E : List (Nat × Nat)) (F : List (Nat × Value)) {F' : List (Nat × Value)} {E' : List (Nat × Nat)}, simL P n ops k l Bs E F = some (F', E') → ∀ p ∈ E, p ∈ E'
  | 0, l, Bs, E, F, F', E', h, p, hp => by simp only [simL, Option.some.injEq, Prod.mk.injEq] at h; rw [← h.2]; exact hp
  | k + 1, [], Bs, E, F, F', E', h, p, hp => by simp [simL] at h
  | k + 1, ⟨none, op, ty, pos, af, gd⟩ :: l, Bs, E, F, F', E', h, p, hp => by simp [simL] at h
  | k + 1, ⟨some d, op, ty, pos, af, gd⟩ :: l, Bs, E, F, F', E', h, p, hp => by
    simp only [simL] at h
    cases hd : Nat.blt d n with
    | false => rw [hd] at h; cases h
    | true =>
      rw [hd] at h
      simp only [cond_true] at h
      repeat' split at h
      all_goals first
        | exact simL_eqs k l _ _ _ h p (by simp [hp])
        | cases h
theorem sim_run {F' : List (Nat × Value)} {E' : List (Nat × Nat)} (hE : ∀ p ∈ E', p.1 = p.2) : ∀ (k : Nat) (l : List Oper) (Bs : List (Nat × List Value)) (E : List (Nat × Nat)) (F : List (Nat × Value)) (a : Act), simL P n ops k l Bs E F = some (F', E') → St n F w0 S M a w → BBs w Bs → (∀ a, St n F' w0 S M a w → wpList P ops Q (l.drop k) a w) → wpList P ops Q l a w
  | 0, l, Bs, E, F, a, h, hs, hB, K => by
    simp only [simL, Option.some.injEq, Prod.mk.injEq] at h
    rw [← h.1] at K
    exact K a hs
  | k + 1, [], Bs, E, F, a, h, hs, hB, K => by simp [simL] at h
  | k + 1, ⟨none, op, ty, pos, af, gd⟩ :: l, Bs, E, F, a, h, hs, hB, K => by simp [simL] at h
  | k + 1, ⟨some d, op, ty, pos, af, gd⟩ :: l, Bs, E, F, a, h, hs, hB, K => by
    simp only [simL] at h
    cases hd : Nat.blt d n with
    | false => rw [hd] at h; cases h
    | true =>
      rw [hd] at h
      simp only [cond_true] at h
      have one : ∀ v, sim1 P F (headB Bs op) op = some v → simL P n ops k l (tailB Bs op) (eq1 F (headB Bs op) op ++ E) ((d, v) :: F) = some (F', E') → wpList P ops Q (⟨some d, op, ty, pos, af, none⟩ :: l) a w := fun v hv h =>
        st_val rfl rfl (sim1_ok hv hs (headB_ok hB) fun p hp => hE p (simL_eqs k l _ _ _ h p (by simp [hp]))) (sim_run hE k l _ _ _ _ h (hs.put hd v) (tailB_ok hB) K)
      cases gd with
      | none =>
        simp only at h
        split at h
        · rename_i v hv
          exact one v hv h
        · cases h
      | some jb =>
        obtain ⟨j, b⟩ := jb
        simp only at h
        split at h
        case h_2 => cases h
        rename_i t ht
        obtain ⟨oj, hj, hoj⟩ := bind_dst ht
        split at h
        · rename_i hv
          split at h
          · rename_i v hsv
            exact st_guardT hs hj hoj hv (one v hsv h)
          · cases h
          · have hg := hs.agr t _ hv
            have hy : yielded ops a.tmps j = some true := by simp [yielded, hj, hoj, hg]
            have hne : ((some true) == some false) = false := rfl
            simp only [wpList, Region.wanted, hy, hne]
            exact sim_run hE k l _ _ _ _ h (hs.put hd undef) hB K
        · rename_i hv
          split at h
          · rename_i v hsv
            exact st_guardT hs hj hoj hv (one v hsv h)
          · cases h
          · have hg := hs.agr t _ hv
            have hy : yielded ops a.tmps j = some false := by simp [yielded, hj, hoj, hg]
            have hne : ((some false) == some true) = false := rfl
            simp only [wpList, Region.wanted, hy, hne]
            exact sim_run hE k l _ _ _ _ h (hs.put hd undef) hB K
        · rename_i vs hv
          split at h
          · rename_i hvs
            have he : (Value.tuple vs) = undef := by
              cases vs; simp at hvs; subst hvs; rfl
            rw [he] at hv
            have hg := hs.agr t _ hv
            have hy : yielded ops a.tmps j = none := by simp [yielded, hj, hoj, hg, undef]
            have hne : (none == some b) = false := rfl
            simp only [wpList, Region.wanted, hy, hne]
            exact sim_run hE k l _ _ _ _ h (hs.put hd undef) hB K
          · cases h
        · cases h
/-- Whatever the run puts is told anew, or wasn't told before. -/
def coverB (vs F : List (Nat × Value)) : Nat → List Oper → Bool
  | 0, _ => true
  | _ + 1, [] => true
  | k + 1, ⟨some d, _, _, _, _, _⟩ :: l => ((lk vs d).isSome || (lk F d).isNone) && coverB vs F k l
  | k + 1, ⟨none, _, _, _, _, _⟩ :: l => coverB vs F k l
theorem simL_keep : ∀ (k : Nat) (l : List Oper) (Bs : List (Nat × List Value)) (E : List (Nat × Nat)) (F : List (Nat × Value)) {F' : List (Nat × Value)} {E' : List (Nat × Nat)} (t : Nat), simL P n ops k l Bs E F = some (F', E') → (∀ o ∈ l.take k, o.dst ≠ some t) → lk F' t = lk F t
  | 0, l, Bs, E, F, F', E', t, h, hn => by simp only [simL, Option.some.injEq, Prod.mk.injEq] at h; rw [h.1]
  | k + 1, [], Bs, E, F, F', E', t, h, hn => by simp [simL] at h
  | k + 1, ⟨none, op, ty, pos, af, gd⟩ :: l, Bs, E, F, F', E', t, h, hn => by simp [simL] at h
  | k + 1, ⟨some d, op, ty, pos, af, gd⟩ :: l, Bs, E, F, F', E', t, h, hn => by
    have hdt : ¬ d = t := fun e => hn ⟨some d, op, ty, pos, af, gd⟩ (by simp) (by rw [e])
    have hn' : ∀ o ∈ l.take k, o.dst ≠ some t := fun o ho => hn o (by simp [ho])
    have key : ∀ v Bs E, simL P n ops k l Bs E ((d, v) :: F) = some (F', E') → lk F' t = lk F t := fun v Bs E h => by
      rw [simL_keep k l _ _ _ t h hn', lk_cons, if_neg hdt]
    simp only [simL] at h
    cases hd : Nat.blt d n with
    | false => rw [hd] at h; cases h
    | true =>
      rw [hd] at h
      simp only [cond_true] at h
      repeat' split at h
      all_goals first
        | exact key _ _ _ h
        | cases h
theorem coverB_spec {vs F : List (Nat × Value)} : ∀ (k : Nat) (l : List Oper), coverB vs F k l = true → ∀ o ∈ l.take k, ∀ d, o.dst = some d → (lk vs d).isSome = true ∨ lk F d = none
  | 0, l, h, o, ho, d, hd => by simp at ho
  | k + 1, [], h, o, ho, d, hd => by simp at ho
  | k + 1, ⟨some d', op, ty, pos, af, gd⟩ :: l, h, o, ho, d, hd => by
    simp only [coverB, Bool.and_eq_true, Bool.or_eq_true, Option.isNone_iff_eq_none] at h
    simp only [List.take_succ_cons, List.mem_cons] at ho
    rcases ho with rfl | ho
    · injection hd with hd
      subst hd
      exact h.1
    · exact coverB_spec k l h.2 o ho d hd
  | k + 1, ⟨none, op, ty, pos, af, gd⟩ :: l, h, o, ho, d, hd => by
    simp only [coverB] at h
    simp only [List.take_succ_cons, List.mem_cons] at ho
    rcases ho with rfl | ho
    · cases hd
    · exact coverB_spec k l h o ho d hd
theorem lk_app (A B : List (Nat × Value)) (t : Nat) : lk (A ++ B) t = (lk A t).or (lk B t) := by
  induction A with
  | nil => simp [lk]
  | cons p A ih =>
    obtain ⟨d, v⟩ := p
    rw [List.cons_append, lk_cons, lk_cons, ih]
    split <;> simp
theorem lk_mem' : ∀ {vs : List (Nat × Value)} {t : Nat} {v : Value}, lk vs t = some v → (t, v) ∈ vs
  | (d, u) :: vs, t, v, h => by
    rw [lk_cons] at h
    split at h
    · rename_i e; subst e; injection h with h; subst h; simp
    · exact List.mem_cons_of_mem _ (lk_mem' h)
theorem St.run {F' vs : List (Nat × Value)} {k : Nat} {l : List Oper} (hs : St n F' w0 S M a w) (hv : ∀ p ∈ vs, lk F' p.1 = some p.2) (hk : ∀ t, (∀ o ∈ l.take k, o.dst ≠ some t) → lk F' t = lk F t) (hc : coverB vs F k l = true) : St n (vs ++ F) w0 S M a w := by
  refine ⟨hs.size, hs.dfr, fun t u hu => ?_, hs.mem⟩
  rw [lk_app] at hu
  cases h1 : lk vs t with
  | some v =>
    rw [h1, Option.some_or] at hu
    injection hu with hu
    subst hu
    exact hs.agr t _ (hv _ (lk_mem' h1))
  | none =>
    rw [h1, Option.none_or] at hu
    refine hs.agr t u ?_
    rw [hk t (fun o ho e => ?_)]
    · exact hu
    · rcases coverB_spec k l hc o ho t e with h2 | h2
      · rw [h1] at h2; cases h2
      · rw [h2] at hu; cases hu
/-- A run of plain operations. -/
theorem st_run {Bs : List (Nat × List Value)} (k : Nat) (vs : List (Nat × Value)) {l : List Oper} (hs : St n F w0 S M a w) (hB : BBs w Bs) (h : (simL P n ops k l Bs [] F).map (fun R => (vs.map fun p => lk R.1 p.1, R.2.map Prod.fst)) = (simL P n ops k l Bs [] F).map (fun R => (vs.map fun p => some p.2, R.2.map Prod.snd)))
    (hd : (simL P n ops k l Bs [] F).isSome = true) (hc : coverB vs F k l = true) (K : ∀ a, St n (vs ++ F) w0 S M a w → wpList P ops Q (l.drop k) a w) : wpList P ops Q l a w := by
  obtain ⟨⟨F', E'⟩, h1⟩ := Option.isSome_iff_exists.1 hd
  rw [h1] at h
  simp only [Option.map_some, Option.some.injEq, Prod.mk.injEq] at h
  refine sim_run (fun p hp => List.map_inj_left.1 h.2 p hp) k l Bs [] F a h1 hs hB fun a hs' => K a (hs'.run (fun p hp => ?_) (fun t ht => simL_keep k l Bs [] F t h1 ht) hc)
  exact List.map_inj_left.1 h.1 p hp
/-! ### Plain operations of regions that draw their order -/
def dstOf (l : List Oper) (k : Nat) : Option Nat := (l[k]?).bind (·.dst)
inductive Deps (l : List Oper) (Ds : List OS) (i m : Nat) : List (Nat × Value) → Prop
  | n : Deps l Ds i m []
  | c {k d v r} : twB l k m i = true → osAt Ds k = Pv k v → dstOf l k = some d → Deps l Ds i m r → Deps l Ds i m ((d, v) :: r)
  | o {j d u r} : twB l i m j = true → (osAt Ds j).was = some u → dstOf l j = some d → Deps l Ds i m r → Deps l Ds i m ((d, u) :: r)
theorem SlotIs.at_ {l : List Oper} {k d : Nat} {v : Value} (h : SlotIs l k v a) (hd : dstOf l k = some d) : a.tmps[d]? = some v := by
  obtain ⟨o, h1, h2⟩ := Option.bind_eq_some_iff.1 hd
  exact h o d h1 h2
variable {l : List Oper} {Ds : List OS} {M0 : List HA}
theorem Deps.get {i m : Nat} {F' : List (Nat × Value)} (h : Deps l Ds i m F') {rest : List HA} {vs : Nat → Value} (ht : ∀ k, TW l i k → Told l Ds rest vs i k a) (hx : ∀ j, TW l j i → (∀ h ∈ (osAt Ds j).X, h ∈ rest) ∧ ∀ u, (osAt Ds j).was = some u → SlotIs l j u a) :
    ∀ t v, lk F' t = some v → a.tmps[t]? = some v := by
  induction h with
  | n => intro t v h; cases h
  | @c k d v r h1 h2 h3 _ ih =>
    intro t u hu
    rw [lk_cons] at hu
    split at hu
    · rename_i e
      subst e
      injection hu with hu
      subst hu
      have hk := ht k (twB_spec _ _ h1)
      have hv : vs k = v := by
        have := hk.2.1
        rw [h2] at this
        simpa [OS.m] using this
      rw [← hv]
      exact hk.1.at_ h3
    · exact ih t u hu
  | @o j d u' r h1 h2 h3 _ ih =>
    intro t u hu
    rw [lk_cons] at hu
    split at hu
    · rename_i e
      subst e
      injection hu with hu
      subst hu
      exact ((hx j (twB_spec _ _ h1)).2 _ h2).at_ h3
    · exact ih t u hu
theorem St.told {F' R : List (Nat × Value)} {S' : List Nat} {N : List HA} {w' : World} (hs : St n (F ++ R) w' S' N a w) (h : ∀ t v, lk F' t = some v → a.tmps[t]? = some v) : St n (F' ++ F) w' S' N a w := by
  refine ⟨hs.size, hs.dfr, fun t u hu => ?_, hs.mem⟩
  rw [lk_app] at hu
  cases h1 : lk F' t with
  | some v => rw [h1, Option.some_or] at hu; injection hu with hu; subst hu; exact h t _ h1
  | none =>
    rw [h1, Option.none_or] at hu
    exact hs.agr t u (by rw [lk_app, hu, Option.some_or])
inductive BB1 (w : World) : Option (Nat × List Value) → Prop
  | n : BB1 w none
  | c {g cs t} : (blk g cs t).p w → BB1 w (some (g, cs))
theorem BB1.get {B : Option (Nat × List Value)} (h : BB1 w B) {g : Nat} {cs : List Value} (e : B = some (g, cs)) : ∃ t, (blk g cs t).p w := by
  subst e
  cases h with
  | c h => exact ⟨_, h⟩
theorem St.lrn {F1 : List (Nat × Value)} {S' : List Nat} {N : List HA} {w' : World} {rest : List HA} {vs : Nat → Value} {i k d : Nat} {v : Value} (hs : St n F1 w' S' N a w) (h : Told l Ds rest vs i k a) (hp : osAt Ds k = Pv k v) (hd : dstOf l k = some d) : St n ((d, v) :: F1) w' S' N a w := by
  refine hs.learn ?_
  have hv : vs k = v := by
    have := h.2.1
    rw [hp] at this
    simpa [OS.m] using this
  rw [← hv]
  exact h.1.at_ hd
abbrev LateOk (l : List Oper) (Ds : List OS) (i : Nat) (rest : List HA) (a : Act) : Prop := ∀ j, TW l j i → (∀ h ∈ (osAt Ds j).X, h ∈ rest) ∧ ∀ u, (osAt Ds j).was = some u → SlotIs l j u a
theorem trip_pv {i m d : Nat} {op : Op} {v : Value} {F' : List (Nat × Value)} {B : Option (Nat × List Value)} {ty : TypeId} {pos : String} {af : Array Edge} (hdp : Deps l Ds i m F')
    (hB : ∀ {w : World} {rest : List HA} {a : Act}, Mem w0 S M0 w → Mem w0 S ([] ++ (M0 ++ rest)) w → LateOk l Ds i rest a → BB1 w B) (h : sim1 P (F' ++ F) B op = some v) (he : (eq1 (F' ++ F) B op).map Prod.fst = (eq1 (F' ++ F) B op).map Prod.snd) (hd : Nat.blt d n = true) :
    Trip P l n F w0 S M0 Ds i ⟨some d, op, ty, pos, af, none⟩ (Pv i v) := by
  intro a w R rest vs hm hs ht hx
  have hsG := hs.told (hdp.get ht hx)
  exact st_val rfl rfl (sim1_ok h hsG (hB hm.mid hm hx).get fun p hp => List.map_inj_left.1 he p hp) (wpList_nil ⟨rfl, v, _, hs.bare, .r, hs.put hd v, by simp [OS.m, setv]⟩)
end Go.Sx
