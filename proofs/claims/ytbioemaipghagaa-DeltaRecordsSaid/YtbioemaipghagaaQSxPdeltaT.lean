/- What a telling's records are of; a map of truths. -/
import Derived.Test.YtbioemaipghagaaQSxDel
import Derived.Test.YtbioemaipghagaaQSxMe
set_option linter.unusedVariables false
set_option linter.unusedSimpArgs false
namespace Go.Sx
open Go.RowKit
theorem told_a {a b : List EntR} {r : RecR} (h : ToldR a b r) : (eget r.id a).isSome = !((r.k : Int) == 0) := by
  rcases h.of with ⟨h1, ⟨x, hx, e⟩, _⟩ | ⟨h1, _, h2⟩ | ⟨h1, h2, x, hx, _, _, e, _⟩
  · rw [h1]
    cases hg : eget r.id a with
    | none => exact absurd e (eget_none.1 hg x hx)
    | some _ => rfl
  · rw [h1, eget_none.2 h2]; rfl
  · have : ((r.k : Int) == 0) = false := by simpa using h1
    rw [this]
    cases hg : eget r.id a with
    | none => exact absurd e (eget_none.1 hg x hx)
    | some _ => rfl
theorem told_b {a b : List EntR} {r : RecR} (h : ToldR a b r) : (eget r.id b).isSome = !((r.k : Int) == 2) := by
  rcases h.of with ⟨h1, _, h2⟩ | ⟨h1, ⟨x, hx, e⟩, _⟩ | ⟨h1, h2, _, _, x, hx, _, e, _⟩
  · rw [h1, eget_none.2 h2]; rfl
  · rw [h1]
    cases hg : eget r.id b with
    | none => exact absurd e (eget_none.1 hg x hx)
    | some _ => rfl
  · have : ((r.k : Int) == 2) = false := by simpa using h2
    rw [this]
    cases hg : eget r.id b with
    | none => exact absurd e (eget_none.1 hg x hx)
    | some _ => rfl
theorem told_ne {a b : List EntR} {r : RecR} (h : ToldR a b r) (ha : Uniq a) (hb : Uniq b) (h1 : (eget r.id a).isSome = true) (h2 : (eget r.id b).isSome = true) : eqCells (entV ((eget r.id a).getD entZ)) (entV ((eget r.id b).getD entZ)) = false := by
  have e1 := told_a h
  have e2 := told_b h
  rw [h1] at e1
  rw [h2] at e2
  rcases h.of with ⟨q, _⟩ | ⟨q, _⟩ | ⟨_, _, x, hx, y, hy, ex, ey, hne⟩
  · rw [q] at e2; cases e2
  · rw [q] at e1; cases e1
  · have g1 : eget r.id a = some x := by rw [← ex]; exact eget_of_mem ha hx
    have g2 : eget r.id b = some y := by rw [← ey]; exact eget_of_mem hb hy
    rw [g1, g2]
    cases hc : eqCells (entV x) (entV y) with
    | false => exact hc
    | true => exact absurd (entV_eq.1 hc) hne
section
variable {at_ atm bt btm : Int} {a b : List EntR}
theorem recs_all (h : dErr at_ atm a bt btm b = 0) (hwa : ∀ x ∈ a, x.wf) (hwb : ∀ x ∈ b, x.wf) :
    bodyErr (dG at_ atm a bt btm b).t (dG at_ atm a bt btm b).tm (dG at_ atm a bt btm b).b (dG at_ atm a bt btm b).l = 0 ∧ RSrt (dG at_ atm a bt btm b).l ∧ (∀ r ∈ (dG at_ atm a bt btm b).l, ToldR a b r) ∧ (∀ y ∈ b, (∃ r ∈ (dG at_ atm a bt btm b).l, r.id = y.id) ∨ y ∈ a) ∧ (dG at_ atm a bt btm b).l.length ≤ 128 ∧ Uniq a ∧ Uniq b ∧
    (dG at_ atm a bt btm b).t = bt ∧ (dG at_ atm a bt btm b).tm = btm ∧ (dG at_ atm a bt btm b).b = at_ := by
  obtain ⟨h1, h2, h3, h4⟩ := dErr_parts h
  have ht := diff_two h hwa hwb
  have hm := mL_told ht h4
  have p1 := snapErr_parts h1
  have p2 := snapErr_parts h2
  rw [dG_0 h]
  exact ⟨body_diff h hwa hwb, hm.1, hm.2.1, hm.2.2.2.2, by have := hm.2.2.2.1; dsimp only; omega, ht.sa.uniq, ht.sb.uniq, rfl, rfl, rfl⟩
end
theorem rs_lt {L : List RecR} (h : RSrt L) {j : Nat} (h0 : 0 < j) (hj : j < L.length) : (L.getD (j - 1) default).id < (L.getD j default).id := by
  rw [rec_getD (by omega), rec_getD hj]
  exact List.pairwise_iff_getElem.1 h (j - 1) j (by omega) hj (by omega)
theorem rs_mem {L : List RecR} {j : Nat} (hj : j < L.length) : L.getD j default ∈ L := by rw [rec_getD hj]; exact List.getElem_mem hj
theorem es_mem {L : List EntR} {j : Nat} (hj : j < L.length) : L.getD j default ∈ L := by rw [ent_getD hj]; exact List.getElem_mem hj
theorem told_has {L : List RecR} {a b : List EntR} {y : EntR} (hB : ∀ y ∈ b, (∃ r ∈ L, r.id = y.id) ∨ y ∈ a) (hu : Uniq a) (hy : y ∈ b) (h : (L.any fun r => r.id == y.id) = false) : eget y.id a = some y := by
  rcases hB y hy with ⟨r, hr, e⟩ | hm
  · rw [List.any_eq_false] at h
    exact absurd (by simpa using e) (h r hr)
  · exact eget_of_mem hu hm
/-! ### A map of truths, of the Ids of records -/
def bkv (l : List RecR) : List (Int × Value) := l.map fun r => (r.id, .bool true)
theorem mget_bkv (k : Int) : ∀ l, (mget k (bkv l)).getD (.bool false) = .bool (l.any fun r => r.id == k)
  | [] => rfl
  | r :: l => by
    show (if r.id = k then some (.bool true) else mget k (bkv l)).getD _ = _
    by_cases h : r.id = k
    · rw [if_pos h, List.any_cons]
      simp [h]
    · rw [if_neg h, mget_bkv k l, List.any_cons]
      simp [h]
theorem mget_bkv_none {k : Int} : ∀ {l : List RecR}, (∀ r ∈ l, r.id ≠ k) → mget k (bkv l) = none
  | [], _ => rfl
  | r :: l, h => by
    show (if r.id = k then some (.bool true) else mget k (bkv l)) = none
    rw [if_neg (h r (by simp)), mget_bkv_none fun x hx => h x (by simp [hx])]
theorem bkv_next {L : List RecR} (h : RSrt L) {j : Nat} (hj : j < L.length) : mset (L.getD j default).id (.bool true) (bkv (L.take j)) = bkv (L.take (j + 1)) := by
  rw [mset_none (mget_bkv_none fun r hr => ?_), take_next hj]
  · simp [bkv]
  · obtain ⟨i, hi, rfl⟩ := List.mem_iff_getElem.1 hr
    rw [rec_getD hj, List.getElem_take]
    have := List.pairwise_iff_getElem.1 h i j (by simp at hi; omega) hj (by simp at hi; omega)
    omega
variable {P : Program} {ops : Array Oper} {Q : Exit → Act → World → Prop} {rest : List Oper} {n : Nat} {F : List (Nat × Value)} {w0 : World} {S : List Nat} {M : List HA} {a : Act} {w : World}
variable {d : Nat} {ty : TypeId} {pos : String} {af : Array Edge}
theorem st_mkB {t : TypeId} (hs : St n F w0 S M a w) (hd : Nat.blt d n = true)
    (k : ∀ g a w, St n ((d, .map (some g)) :: F) w0 S (mpr g (bkv []) :: M) a w → wpList P ops Q rest a w) : wpList P ops Q (⟨some d, .makeMap t none, ty, pos, af, none⟩ :: rest) a w := st_mkmap hs hd k
theorem look1_run {t kt e : TypeId} {g : Nat} {k : Int} {kv : List (Int × Value)} {z : Value} (hb : (mpr g kv).p w) (ht : P.underlying t = some (.map kt e)) (hkt : P.underlying kt = some (.int .i64)) (hz : ∀ w, (zeroValue e).run P w = .ok z w) :
    (Instr.lookup t (.map (some g)) (.int .i64 k) false).run P w = .ok ((mget k kv).getD z) w := by
  obtain ⟨es, clock, he, hm⟩ := hb
  obtain ⟨f1, f2⟩ := findNow_at k es.toList kv 0 hm.kvs
  have hck := @MapKept.run_checkKey P w kt (.int .i64) (.int .i64 k) hkt rfl es.isEmpty 9999
  cases hg : mget k kv with
  | none =>
    have hf := MapKept.run_findKey (w := w) hkt (f1 hg)
    simp [Instr.lookup, run_underlying ht, MapKept.run_getObj_map he, hck, hf, hz, Result.andThen]
  | some v =>
    obtain ⟨j, q1, _⟩ := f2 v hg
    have hf := MapKept.run_findKey (w := w) hkt q1
    simp [Instr.lookup, run_underlying ht, MapKept.run_getObj_map he, hck, hf, Result.andThen]
theorem st_lookB {t kt e : TypeId} {m x : Operand} {g : Nat} {k : Int} {l : List RecR} {M' : List HA} (hs : St n F w0 S M a w) (hm : evo F m = some (.map (some g))) (hx : evo F x = some (.int .i64 k)) (hb : Del M (mpr g (bkv l)) M')
    (ht : P.underlying t = some (.map kt e)) (hkt : P.underlying kt = some (.int .i64)) (hz : ∀ w, (zeroValue e).run P w = .ok (.bool false) w) (hd : Nat.blt d n = true)
    (c : ∀ a w, St n ((d, .bool (l.any fun r => r.id == k)) :: F) w0 S M a w → wpList P ops Q rest a w) : wpList P ops Q (⟨some d, .lookup t m x false, ty, pos, af, none⟩ :: rest) a w := by
  rw [← mget_bkv] at c
  exact st_pure hs (by simp [execOp, hs.ev hm, hs.ev hx, look1_run (hs.mem.del hb) ht hkt hz]) hd c
theorem st_updB {t kt e : TypeId} {m x y : Operand} {g : Nat} {k : Int} {l l' : List RecR} {M' : List HA} (hs : St n F w0 S M a w) (hm : evo F m = some (.map (some g))) (hx : evo F x = some (.int .i64 k)) (hy : evo F y = some (.bool true)) (hb : Del M (mpr g (bkv l)) M') (hl : mset k (.bool true) (bkv l) = bkv l')
    (ht : P.underlying t = some (.map kt e)) (hkt : P.underlying kt = some (.int .i64))
    (c : ∀ a w, St n F w0 S (mpr g (bkv l') :: M') a w → wpList P ops Q rest a w) : wpList P ops Q (⟨none, .mapUpdate t m x y, ty, pos, af, none⟩ :: rest) a w := by
  refine st_upd hs hm hx (u := .bool true) hy hb ht hkt ?_
  rw [hl]
  exact c
theorem St.remapB {g : Nat} {l l' : List RecR} {M' : List HA} (hs : St n F w0 S M a w) (hb : Del M (mpr g (bkv l)) M') (e : l = l') : St n F w0 S (mpr g (bkv l') :: M') a w := by
  subst e
  refine hs.frame (N := [mpr g (bkv l)]) (.c hb .n) ⟨Chg.refl _ _, by intro h hh; simp only [List.mem_singleton] at hh; subst hh; exact hs.mem.del hb, by simp [feet, mpr], fun k hk => .inl hk⟩
end Go.Sx
