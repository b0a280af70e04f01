/- Steps over memory, calls and code. -/
import Derived.Test.YtkobgcoegajfcaaSxB
import Derived.Laws.BytesArg
import Derived.Maps.AppendAt
import Derived.Deep.AppendLies
set_option linter.unusedVariables false
set_option linter.unusedSimpArgs false
namespace Go.Sx
open Go.RowKit
variable {P : Program} {ops : Array Oper} {Q : Exit → Act → World → Prop} {rest : List Oper} {n : Nat} {F : List (Nat × Value)} {w0 : World} {S : List Nat} {M : List HA} {a : Act} {w : World}
variable {d : Nat} {ty : TypeId} {pos : String} {af : Array Edge}

/-! ### Lists by place -/
inductive Nth : List Value → Nat → Value → Prop
  | z {x r} : Nth (x :: r) 0 x
  | s {x r i v} : Nth r i v → Nth (x :: r) (i + 1) v
theorem Nth.get {cs : List Value} {i : Nat} {v : Value} (h : Nth cs i v) : cs[i]? = some v := by
  induction h with
  | z => rfl
  | s _ ih => simpa using ih
inductive SetAt : List Value → Nat → Value → List Value → Prop
  | z {x r v} : SetAt (x :: r) 0 v (v :: r)
  | s {x r i v r'} : SetAt r i v r' → SetAt (x :: r) (i + 1) v (x :: r')
theorem SetAt.eq {cs : List Value} {i : Nat} {v : Value} {cs' : List Value} (h : SetAt cs i v cs') : cs' = cs.set i v ∧ i < cs.length := by
  induction h with
  | z => simp
  | s _ ih => simp [ih.1, ih.2]
inductive Pre : List Value → Nat → List Value → Prop
  | n {r} : Pre r 0 []
  | c {x r k r'} : Pre r k r' → Pre (x :: r) (k + 1) (x :: r')
theorem Pre.eq {cs : List Value} {k : Nat} {cs' : List Value} (h : Pre cs k cs') : cs' = cs.take k ∧ k ≤ cs.length := by
  induction h with
  | n => simp
  | c _ ih => simp [ih.1, ih.2]
inductive Cut : List Value → Nat → Nat → List Value → Prop
  | z {r k r'} : Pre r k r' → Cut r 0 k r'
  | s {x r i k r'} : Cut r i k r' → Cut (x :: r) (i + 1) k r'
theorem Cut.eq {cs : List Value} {i k : Nat} {cs' : List Value} (h : Cut cs i k cs') : cs' = (cs.drop i).take k ∧ i + k ≤ cs.length := by
  induction h with
  | z h => simp [h.eq.1, h.eq.2]
  | s _ ih => simp [ih.1]; omega
inductive Cov : List Value → List Value → List Value → Prop
  | n {r} : Cov r [] r
  | c {x r v vs r'} : Cov r vs r' → Cov (x :: r) (v :: vs) (v :: r')
theorem Cov.eq {cs vs cs' : List Value} (h : Cov cs vs cs') : cs' = vs ++ cs.drop vs.length ∧ vs.length ≤ cs.length := by
  induction h with
  | n => simp
  | c _ ih => simp [ih.1, ih.2]
inductive PutAt : List Value → Nat → List Value → List Value → Prop
  | z {r vs r'} : Cov r vs r' → PutAt r 0 vs r'
  | s {x r i vs r'} : PutAt r i vs r' → PutAt (x :: r) (i + 1) vs (x :: r')
theorem PutAt.eq {cs : List Value} {i : Nat} {vs cs' : List Value} (h : PutAt cs i vs cs') : cs' = cs.take i ++ vs ++ cs.drop (i + vs.length) ∧ i + vs.length ≤ cs.length := by
  induction h with
  | z h => simpa using h.eq
  | @s x r i vs r' _ ih =>
    rw [show i + 1 + vs.length = (i + vs.length) + 1 by omega]
    simp [ih.1, ih.2]

/-! ### Rows that are read -/
def adr (v : Value) (k : Nat) : Addr := match v with
  | .slice (some ad) _ _ => ad.add k
  | _ => ⟨0, 0, none⟩
def IsSl (v : Value) (n : Nat) : Prop := ∃ A c, v = .slice A n c
structure Rd (w : World) (T : List Nat) (v : Value) (size n : Nat) (xs : List Value) : Prop where
  form : ∃ A c, v = .slice A n c ∧ n ≤ c ∧ c ≤ maxLen
  len : xs.length = n * size
  at_ : 0 < n → ∃ ad c, v = .slice (some ad) n c ∧ ad.block ∉ T ∧ ad.block < w.heap.size ∧ ∀ j u, xs[j]? = some u → w.cell? (ad.add j) = some u
theorem Rd.isSl {T : List Nat} {v : Value} {size m : Nat} {xs : List Value} (h : Rd w T v size m xs) : IsSl v m := by
  obtain ⟨A, c, e, _⟩ := h.form
  exact ⟨A, c, e⟩
theorem Rd.le {T : List Nat} {v : Value} {size m : Nat} {xs : List Value} (h : Rd w T v size m xs) : m ≤ maxLen := by
  obtain ⟨A, c, e, h1, h2⟩ := h.form
  omega
theorem Rd.anti {T T' : List Nat} {v : Value} {size m : Nat} {xs : List Value} (h : Rd w T v size m xs) (hT : ∀ k ∈ T', k ∈ T) : Rd w T' v size m xs :=
  ⟨h.form, h.len, fun h0 => by
    obtain ⟨ad, c, e, h1, h2, h3⟩ := h.at_ h0
    exact ⟨ad, c, e, fun hk => h1 (hT _ hk), h2, h3⟩⟩
theorem Rd.chg {T : List Nat} {w' : World} {v : Value} {size m : Nat} {xs : List Value} (h : Rd w T v size m xs) (hc : Chg T w w') : Rd w' T v size m xs :=
  ⟨h.form, h.len, fun h0 => by
    obtain ⟨ad, c, e, h1, h2, h3⟩ := h.at_ h0
    refine ⟨ad, c, e, h1, Nat.lt_of_lt_of_le h2 hc.size, fun j u hu => ?_⟩
    have hb : (ad.add j).block = ad.block := by unfold Addr.add; split <;> rfl
    rw [World.cell?_of_block (w := w) (by rw [hb]; exact hc.block _ h2 h1)]
    exact h3 j u hu⟩
theorem Dels.sub {M X M' : List HA} (d : Dels M X M') : ∀ k ∈ feet X, k ∈ feet M := fun k hk => d.perm.mem_iff.2 (by simp [hk])
/-- What came in and is none of what is written reads as it did. -/
theorem Mem.rd {T : List Nat} {v : Value} {size m : Nat} {xs : List Value} (hm : Mem w0 S M w) (h : Rd w0 S v size m xs) (hT : ∀ k ∈ T, k ∈ feet M) : Rd w T v size m xs := by
  refine Rd.anti (T := feet M) ?_ hT
  have h2 := h.chg hm.chg
  refine ⟨h2.form, h2.len, fun h0 => ?_⟩
  obtain ⟨ad, c, e, h1, hlt, h3⟩ := h2.at_ h0
  obtain ⟨ad', c', e', h1', hlt', _⟩ := h.at_ h0
  have : ad' = ad := by rw [e'] at e; injection e with e _ _; injection e
  subst this
  exact ⟨ad', c, e, fun hk => by rcases hm.ge _ hk with h5 | h5; exact h1' h5; omega, hlt, h3⟩
theorem Mem.rd0 {v : Value} {size m : Nat} {xs : List Value} (hm : Mem w0 S M w) (h : Rd w0 S v size m xs) : Rd w [] v size m xs := hm.rd h (by simp)
theorem rd_row {v : Value} {e size m : Nat} {xs : List Value} (h : w.ownsRow 0 e size v m xs) : Rd w [] v size m xs := by
  refine ⟨?_, h.1, fun h0 => ?_⟩
  · rcases h.2 with ⟨rfl, rfl⟩ | ⟨g, cap, cur, rfl, _, _, h1, h2, _⟩
    · exact ⟨none, 0, rfl, Nat.le_refl _, by simp [maxLen]⟩
    · exact ⟨_, cap, rfl, h1, h2⟩
  · rcases h.2 with ⟨rfl, rfl⟩ | ⟨g, cap, cur, rfl, _, hh, _⟩
    · omega
    · exact ⟨_, cap, rfl, by simp, (Array.getElem?_eq_some_iff.1 hh).1, fun j u hu => h.cells (g := g) rfl j u hu⟩
theorem Mem.rdrow {M' X M'' : List HA} {v : Value} {e size m : Nat} {xs : List Value} (hm : Mem w0 S M w) (dl : Del M (row v e size m xs) M') (d2 : Dels M' X M'') : Rd w (feet X) v size m xs := by
  have h1 := rd_row (hm.del dl)
  refine ⟨h1.form, h1.len, fun h0 => ?_⟩
  obtain ⟨ad, c, e, _, hlt, h3⟩ := h1.at_ h0
  refine ⟨ad, c, e, fun hk => ?_, hlt, h3⟩
  have hn := List.nodup_append.1 (dl.perm.nodup_iff.1 hm.nd)
  exact hn.2.2 ad.block (by simp [row, e, Value.ownBlock]) ad.block (d2.sub _ hk) rfl
theorem rd_blk {g : Nat} {cs : List Value} {t : TypeId} {size m : Nat} (h : w.heap[g]? = some (.cells cs.toArray t (0, 0))) (hl : cs.length = m * size) (hm : m ≤ maxLen) : Rd w [] (.slice (some ⟨g, 0, none⟩) m m) size m cs :=
  ⟨⟨_, m, rfl, Nat.le_refl _, hm⟩, hl, fun _ => ⟨_, m, rfl, by simp, (Array.getElem?_eq_some_iff.1 h).1, fun j u hu => World.news_of_block h j u (by simpa using hu)⟩⟩
theorem adr_some (ad : Addr) (m c k : Nat) : adr (.slice (some ad) m c) k = ad.add k := rfl
theorem add_add (ad : Addr) (i j : Nat) : (ad.add i).add j = ad.add (i + j) := by
  unfold Addr.add
  by_cases h : i = 0
  · subst h; simp
  · by_cases h' : j = 0
    · subst h'; simp [h]
    · have : ¬ (i + j = 0) := by omega
      simp [h, h']; omega
def slcV (v : Value) (size l h : Nat) : Value := match v with
  | .slice A _ cap => .slice (if cap = l then A else A.map (·.add (l * size))) (h - l) (cap - l)
  | v => v
theorem Rd.slc {T : List Nat} {v : Value} {size m : Nat} {xs : List Value} (hr : Rd w T v size m xs) {l h : Nat} (h1 : l ≤ h) (h2 : h ≤ m) :
    Rd w T (slcV v size l h) size (h - l) ((xs.drop (l * size)).take ((h - l) * size)) := by
  obtain ⟨A, c, e, hc, hm⟩ := hr.form
  have hlen := hr.len
  refine ⟨?_, ?_, fun h0 => ?_⟩
  · subst e; exact ⟨_, c - l, rfl, by omega, by omega⟩
  · have : (h - l) * size ≤ xs.length - l * size := by rw [hlen, ← Nat.sub_mul]; exact Nat.mul_le_mul_right _ (by omega)
    simp; omega
  · obtain ⟨ad, c', e', hT, hlt, hcell⟩ := hr.at_ (by omega)
    subst e'
    have hne : ¬ c' = l := by injection e with _ _ e3; omega
    refine ⟨ad.add (l * size), c' - l, ?_, ?_, ?_, fun j u hu => ?_⟩
    · simp [slcV, hne]
    · have hb : (ad.add (l * size)).block = ad.block := by unfold Addr.add; split <;> rfl
      rw [hb]; exact hT
    · have hb : (ad.add (l * size)).block = ad.block := by unfold Addr.add; split <;> rfl
      rw [hb]; exact hlt
    · rw [add_add]
      refine hcell _ u ?_
      rw [List.getElem?_take] at hu
      split at hu
      · simpa using hu
      · cases hu

/-! ### Operations on slices -/
theorem st_len {x : Operand} {v : Value} {t e : TypeId} {m : Nat} (hs : St n F w0 S M a w) (hx : evo F x = some v) (hf : IsSl v m) (ht : P.underlying t = some (.slice e)) (hd : Nat.blt d n = true)
    (k : ∀ a w, St n ((d, .int .i64 (m : Int)) :: F) w0 S M a w → wpList P ops Q rest a w) : wpList P ops Q (⟨some d, .call { callee := .builtin .len, args := #[x], argTypes := #[t] }, ty, pos, af, none⟩ :: rest) a w := by
  obtain ⟨A, c, rfl⟩ := hf
  exact st_pure hs (by simp [execOp, resolve, invoke, builtin, Builtin.len_, hs.ev hx, run_underlying ht, goInt]) hd k
theorem st_ia {x i : Operand} {v : Value} {t e : TypeId} {m size : Nat} {xs : List Value} {T : List Nat} {kd : IntKind} {q : Int} (hs : St n F w0 S M a w) (hx : evo F x = some v) (hi : evo F i = some (.int kd q))
    (hr : Rd w T v size m xs) {j : Nat} (hj : q = (j : Int)) (h1 : j < m) (ht : P.underlying t = some (.slice e)) (hsz : ∀ w, (sizeOf e).run P w = .ok size w) (hd : Nat.blt d n = true)
    (k : ∀ a w, St n ((d, .pointer (some (adr v (j * size)))) :: F) w0 S M a w → wpList P ops Q rest a w) : wpList P ops Q (⟨some d, .indexAddr t x i, ty, pos, af, none⟩ :: rest) a w := by
  subst hj
  obtain ⟨ad, c, rfl, _, _, _⟩ := hr.at_ (by omega)
  have hb : (0 : Int) ≤ (j : Int) ∧ (j : Int) < (m : Int) := ⟨by omega, by omega⟩
  exact st_pure hs (by simp [execOp, Instr.indexAt, asIntOf, hs.ev hx, hs.ev hi, run_underlying ht, hb, hsz, adr]; intro; omega) hd k
theorem st_ia1 {x i : Operand} {v : Value} {t e : TypeId} {m : Nat} {xs : List Value} {T : List Nat} {kd : IntKind} {q : Int} (hs : St n F w0 S M a w) (hx : evo F x = some v) (hi : evo F i = some (.int kd q))
    (hr : Rd w T v 1 m xs) {j : Nat} (hj : q = (j : Int)) (h1 : j < m) (ht : P.underlying t = some (.slice e)) (hsz : ∀ w, (sizeOf e).run P w = .ok 1 w) (hd : Nat.blt d n = true)
    (k : ∀ a w, St n ((d, .pointer (some (adr v j))) :: F) w0 S M a w → wpList P ops Q rest a w) : wpList P ops Q (⟨some d, .indexAddr t x i, ty, pos, af, none⟩ :: rest) a w :=
  st_ia hs hx hi hr hj h1 ht hsz hd (by rw [Nat.mul_one]; exact k)
theorem Rd.cell {T : List Nat} {v : Value} {size m : Nat} {xs : List Value} (hr : Rd w T v size m xs) {j : Nat} {u : Value} (hu : xs[j]? = some u) : w.cell? (adr v j) = some u := by
  have hj : j < xs.length := by
    rcases Nat.lt_or_ge j xs.length with h | h
    · exact h
    · simp [List.getElem?_eq_none h] at hu
  have h0 : 0 < m := by
    rcases Nat.eq_zero_or_pos m with h | h
    · rw [hr.len, h] at hj; omega
    · exact h
  obtain ⟨ad, c, rfl, _, _, h3⟩ := hr.at_ h0
  exact h3 j u hu
theorem st_ld {x : Operand} {v u : Value} {t : TypeId} {j : Nat} {m size : Nat} {xs : List Value} {T : List Nat} (hs : St n F w0 S M a w) (hx : evo F x = some (.pointer (some (adr v j))))
    (hr : Rd w T v size m xs) (hu : xs[j]? = some u) (hag : ∀ w, (isAgg t).run P w = .ok false w) (hd : Nat.blt d n = true)
    (k : ∀ a w, St n ((d, u) :: F) w0 S M a w → wpList P ops Q rest a w) : wpList P ops Q (⟨some d, .load t x, ty, pos, af, none⟩ :: rest) a w :=
  st_pure hs (by simp [execOp, Instr.loadAt, Instr.sureAddr, loadVar, hs.ev hx, hag, run_load, hr.cell hu]) hd k
theorem adr_add {T : List Nat} {v : Value} {size m : Nat} {xs : List Value} (hr : Rd w T v size m xs) (h0 : 0 < m) (j i : Nat) : (adr v j).add i = adr v (j + i) := by
  obtain ⟨ad, c, rfl, _, _, _⟩ := hr.at_ h0
  exact add_add ad j i
theorem st_ldA {x : Operand} {v : Value} {t : TypeId} {j : Nat} {m size sz : Nat} {xs cs : List Value} {T : List Nat} (hs : St n F w0 S M a w) (hx : evo F x = some (.pointer (some (adr v j))))
    (hr : Rd w T v size m xs) (hu : (xs.drop j).take sz = cs) (hl : j + sz ≤ xs.length) (h0 : 0 < m) (hag : ∀ w, (isAgg t).run P w = .ok true w) (hsz : ∀ w, (sizeOf t).run P w = .ok sz w) (hd : Nat.blt d n = true)
    (k : ∀ a w, St n ((d, .agg cs.toArray) :: F) w0 S M a w → wpList P ops Q rest a w) : wpList P ops Q (⟨some d, .load t x, ty, pos, af, none⟩ :: rest) a w := by
  have hcl : cs.length = sz := by rw [← hu]; simp; omega
  have hrun := run_loadCells_list (P := P) w (adr v j) cs (fun i u hi => by
    rw [adr_add hr h0]
    refine hr.cell ?_
    rw [← hu, List.getElem?_take] at hi
    split at hi
    · simpa using hi
    · cases hi)
  rw [hcl] at hrun
  exact st_pure hs (by simp [execOp, Instr.loadAt, Instr.sureAddr, loadVar, hs.ev hx, hag, hsz, hrun]) hd k
theorem st_slcL {x l : Operand} {v : Value} {t e : TypeId} {m size : Nat} {kd : IntKind} {q : Int} (hs : St n F w0 S M a w) (hx : evo F x = some v) (hl : evo F l = some (.int kd q)) {j : Nat} (hj : q = (j : Int)) (hf : IsSl v m) (h1 : j ≤ m)
    (ht : P.underlying t = some (.slice e)) (hsz : ∀ w, (sizeOf e).run P w = .ok size w) (hd : Nat.blt d n = true)
    (k : ∀ a w, St n ((d, slcV v size j m) :: F) w0 S M a w → wpList P ops Q rest a w) : wpList P ops Q (⟨some d, .slice t x (some l) none none, ty, pos, af, none⟩ :: rest) a w := by
  subst hj
  obtain ⟨A, c, rfl⟩ := hf
  have hb : (0 : Int) ≤ (j : Int) ∧ (j : Int) ≤ (m : Int) := ⟨by omega, by omega⟩
  exact st_pure hs (by simp [execOp, Instr.sliceAt, Instr.slice, Instr.sliceBounds, Instr.sliceBound, asIntOf, hs.ev hx, hs.ev hl, run_underlying ht, hb, hsz, slcV]; intro; omega) hd k
theorem st_slcH {x h : Operand} {v : Value} {t e : TypeId} {m size : Nat} {kd : IntKind} {q : Int} {T : List Nat} {xs : List Value} (hs : St n F w0 S M a w) (hx : evo F x = some v) (hh : evo F h = some (.int kd q)) {j : Nat} (hj : q = (j : Int)) (hr : Rd w T v size m xs) (h1 : j ≤ m)
    (ht : P.underlying t = some (.slice e)) (hsz : ∀ w, (sizeOf e).run P w = .ok size w) (hd : Nat.blt d n = true)
    (k : ∀ a w, St n ((d, slcV v size 0 j) :: F) w0 S M a w → wpList P ops Q rest a w) : wpList P ops Q (⟨some d, .slice t x none (some h) none, ty, pos, af, none⟩ :: rest) a w := by
  subst hj
  obtain ⟨A, c, rfl, hc, _⟩ := hr.form
  have hb : (0 : Int) ≤ (j : Int) ∧ (j : Int) ≤ (c : Int) := ⟨by omega, by omega⟩
  exact st_pure hs (by simp [execOp, Instr.sliceAt, Instr.slice, Instr.sliceBounds, Instr.sliceBound, asIntOf, hs.ev hx, hs.ev hh, run_underlying ht, hb, hsz, slcV]; intro; omega) hd k
theorem st_slcLH {x l h : Operand} {v : Value} {t e : TypeId} {m size : Nat} {kd kd2 : IntKind} {p q : Int} {T : List Nat} {xs : List Value} (hs : St n F w0 S M a w) (hx : evo F x = some v) (hl : evo F l = some (.int kd p)) (hh : evo F h = some (.int kd2 q)) {j j2 : Nat} (hj : p = (j : Int)) (hj2 : q = (j2 : Int)) (hr : Rd w T v size m xs) (h01 : j ≤ j2) (h1 : j2 ≤ m)
    (ht : P.underlying t = some (.slice e)) (hsz : ∀ w, (sizeOf e).run P w = .ok size w) (hd : Nat.blt d n = true)
    (k : ∀ a w, St n ((d, slcV v size j j2) :: F) w0 S M a w → wpList P ops Q rest a w) : wpList P ops Q (⟨some d, .slice t x (some l) (some h) none, ty, pos, af, none⟩ :: rest) a w := by
  subst hj hj2
  obtain ⟨A, c, rfl, hc, _⟩ := hr.form
  have hb : (0 : Int) ≤ (j2 : Int) ∧ (j2 : Int) ≤ (c : Int) := ⟨by omega, by omega⟩
  have hb2 : (0 : Int) ≤ (j : Int) ∧ (j : Int) ≤ (j2 : Int) := ⟨by omega, by omega⟩
  have h3 : j2 ≤ c := by omega
  exact st_pure hs (by simp [execOp, Instr.sliceAt, Instr.slice, Instr.sliceBounds, Instr.sliceBound, asIntOf, hs.ev hx, hs.ev hl, hs.ev hh, run_underlying ht, hb, hb2, hsz, slcV]; rw [if_pos h3, if_pos h01]) hd k

/-! ### Bytes -/
abbrev Byte := BitVec 8
def byteV (b : Byte) : Value := .int .u8 (b.toNat : Int)
def bytesV (bs : List Byte) : List Value := bs.map byteV
def strB (bs : List Byte) : ByteArray := ⟨(bs.map UInt8.ofBitVec).toArray⟩
theorem length_bytesV (bs : List Byte) : (bytesV bs).length = bs.length := by simp [bytesV]
theorem bytesV_get (bs : List Byte) {i : Nat} (h : i < bs.length) : (bytesV bs)[i]? = some (.int .u8 ((bs[i].toNat : Nat) : Int)) := by simp [bytesV, byteV, h]
theorem bytesV_getD (bs : List Byte) {i : Nat} (h : i < bs.length) : (bytesV bs)[i]? = some (.int .u8 (((bs.getD i 0).toNat : Nat) : Int)) := by
  rw [bytesV_get bs h]; simp [List.getD_eq_getElem?_getD, h]
theorem oneCell_bytesV (bs : List Byte) : ∀ z ∈ bytesV bs, z.oneCell' = true := by
  intro z hz
  obtain ⟨b, _, rfl⟩ := List.mem_map.1 hz
  rfl
theorem bytesV_set (bs : List Byte) (i : Nat) (b : Byte) : bytesV (bs.set i b) = (bytesV bs).set i (.int .u8 ((b.toNat : Nat) : Int)) := by simp [bytesV, byteV, List.map_set]
theorem bytesV_append (xs ys : List Byte) : bytesV (xs ++ ys) = bytesV xs ++ bytesV ys := by simp [bytesV]
theorem toList_strB (bs : List Byte) : (strB bs).toList = bs.map UInt8.ofBitVec := by
  rw [ByteArray.toList_eq]
  rfl
theorem map_inj {α β : Type} {f : α → β} (hf : ∀ x y, f x = f y → x = y) : ∀ {xs ys : List α}, xs.map f = ys.map f → xs = ys
  | [], [], _ => rfl
  | [], _ :: _, h => by simp at h
  | _ :: _, [], h => by simp at h
  | x :: xs, y :: ys, h => by
    simp only [List.map_cons, List.cons.injEq] at h
    rw [hf _ _ h.1, map_inj hf h.2]
theorem ofBitVec_inj {x y : Byte} (h : UInt8.ofBitVec x = UInt8.ofBitVec y) : x = y := congrArg UInt8.toBitVec h
theorem strB_eq (xs ys : List Byte) : ((strB xs).toList == (strB ys).toList) = decide (xs = ys) := by
  rw [toList_strB, toList_strB]
  by_cases h : xs = ys
  · subst h; simp
  · have : ¬ xs.map UInt8.ofBitVec = ys.map UInt8.ofBitVec := fun e => h (map_inj (fun _ _ h => ofBitVec_inj h) e)
    simp [h, this]

theorem Rd.slcB {T : List Nat} {v : Value} {m : Nat} {bs : List Byte} (hr : Rd w T v 1 m (bytesV bs)) {l h : Nat} (h1 : l ≤ h) (h2 : h ≤ m) : Rd w T (slcV v 1 l h) 1 (h - l) (bytesV ((bs.drop l).take (h - l))) := by
  have := hr.slc h1 h2
  rw [Nat.mul_one, Nat.mul_one] at this
  simpa [bytesV, List.map_drop, List.map_take] using this
theorem Rd.slcL {T : List Nat} {v : Value} {m : Nat} {bs : List Byte} (hr : Rd w T v 1 m (bytesV bs)) {l : Nat} (h1 : l ≤ m) : Rd w T (slcV v 1 l m) 1 (m - l) (bytesV (bs.drop l)) := by
  have := hr.slcB h1 (Nat.le_refl m)
  have hl : bs.length = m := by have := hr.len; simpa [bytesV] using this
  rwa [List.take_of_length_le (by simp; omega)] at this
theorem Rd.slcT {T : List Nat} {v : Value} {m : Nat} {bs : List Byte} (hr : Rd w T v 1 m (bytesV bs)) {h : Nat} (h1 : h ≤ m) : Rd w T (slcV v 1 0 h) 1 h (bytesV (bs.take h)) := by
  have := hr.slcB (Nat.zero_le h) h1
  simpa using this

end Go.Sx
