/- Ways that meet: a piece of code comes to one state, whichever way it took. -/
import Derived.Test.YtkobgcoegajfcaaSxN
import Derived.Test.YtkobgcoegajfcaaSxJ
import Derived.Test.YtkobgcoegajfcaaSxK
import Derived.Test.YtkobgcoegajfcaaSxL
import Derived.Test.YtkobgcoegajfcaaSxH
set_option linter.unusedVariables false
set_option linter.unusedSimpArgs false
namespace Go.Sx
open Go.RowKit
variable {P : Program} {Q : Exit → Act → World → Prop} {a : Act} {w : World}
theorem wp_cut {c : Code} (I : Act → World → Prop) (h : c.wp P (Exit.then I Q) a w) (h2 : ∀ a w, I a w → Q .normal a w) : c.wp P Q a w :=
  wp_mono h (fun e a w he => by cases e <;> first | exact h2 _ _ he | exact he)
variable {ops : Array Oper} {rest : List Oper} {n : Nat} {F : List (Nat × Value)} {w0 : World} {S : List Nat} {M : List HA} {d : Nat} {ty : TypeId} {pos : String} {af : Array Edge}
/-- An array's element that is itself a struct. -/
theorem st_ixA {x i : Operand} {vs us : List Value} {t e : TypeId} {len sz o : Nat} {kd : IntKind} {q : Int} (hs : St n F w0 S M a w) (hx : evo F x = some (.agg vs.toArray)) (hi : evo F i = some (.int kd q)) (ht : P.underlying t = some (.array len e))
    (h0 : 0 ≤ q) (h1 : q < len) (ho : q.toNat * sz = o) (hv : Cut vs o sz us) (hag : ∀ w, (isAgg e).run P w = .ok true w) (hsz : ∀ w, (sizeOf e).run P w = .ok sz w) (hd : Nat.blt d n = true)
    (k : ∀ a w, St n ((d, .agg us.toArray) :: F) w0 S M a w → wpList P ops Q rest a w) : wpList P ops Q (⟨some d, .index t x i, ty, pos, af, none⟩ :: rest) a w := by
  have hb : 0 ≤ q ∧ q < (len : Int) := ⟨h0, h1⟩
  have he := hv.eq.1
  subst ho
  exact st_pure hs (by simp [execOp, Instr.index, asIntOf, hs.ev hx, hs.ev hi, run_underlying ht, hb, part, hag, hsz, he]) hd k
/-- A field of a slice's element. -/
theorem st_faV {x : Operand} {v : Value} {t : TypeId} {j f o m size : Nat} {T : List Nat} {xs : List Value} {fs : Array Field} {fd : Field} {sz : Nat} (hs : St n F w0 S M a w) (hx : evo F x = some (.pointer (some (adr v j)))) (hr : Rd w T v size m xs) (hm : 0 < m) (ht : P.underlying t = some (.struct fs)) (hf : fs[f]? = some fd)
    (hsz : ∀ w, (sizeOf fd.type).run P w = .ok sz w) (h0 : sz ≠ 0) (ho : j + fd.offset = o) (hd : Nat.blt d n = true)
    (k : ∀ a w, St n ((d, .pointer (some (adr v o))) :: F) w0 S M a w → wpList P ops Q rest a w) : wpList P ops Q (⟨some d, .fieldAddr t x f, ty, pos, af, none⟩ :: rest) a w := by
  subst ho
  have ha : (adr v j).add fd.offset = adr v (j + fd.offset) := by rw [adr_add hr hm]
  exact st_pure hs (by simp [execOp, Instr.fieldAt, Instr.sureAddr, hs.ev hx, run_underlying ht, hf, fieldPlace, hsz, h0, ha]) hd k
/-- A call of a method value. -/
theorem st_callM {x : Operand} {f : FuncId} {xs : List Operand} {ats : Array TypeId} {fs vs us all : List Value} {post : Value → List HA → Prop} {X M' : List HA} (hs : St n F w0 S M a w) (hx : evo F x = some (.func (.func f) fs.toArray us.toArray)) (hv : Evs F xs vs) (hall : fs ++ vs ++ us = all) (hcall : ∀ args w, (callFunc f args).run P w = .ok (.enter f args) w)
    (hX : Dels M X M') (hc : Calls P f all.toArray w (Ret w (feet X) post)) (hd : Nat.blt d n = true)
    (k : ∀ v N a w, post v N → St n ((d, v) :: F) w0 S (N ++ M') a w → wpList P ops Q rest a w) :
    wpList P ops Q (⟨some d, .call { callee := .value x, args := xs.toArray, argTypes := ats }, ty, pos, af, none⟩ :: rest) a w := by
  subst hall
  refine wp_enter rfl (run_callV (fs := fs) (cs := us) hs hx hv hcall) hc ?_
  intro v N w' hp hm
  exact k v N _ _ hp ((hs.frame hX hm).put hd v)
theorem mem_three {w : World} {h h2 h3 : HA} (hp : h.p w) (hp2 : h2.p w) (hp3 : h3.p w) (hnd : (feet [h, h2, h3]).Nodup) : Mem w (feet [h, h2, h3]) [h, h2, h3] w :=
  Mem.start (by simpa using ⟨hp, hp2, hp3⟩) rfl hnd
theorem row_nd {v : Value} {e size m : Nat} {xs : List Value} : (row v e size m xs).foot.Nodup := by
  show v.ownBlock.toList.Nodup
  cases v.ownBlock <;> simp
/-- A row and a block of other types lie apart. -/
theorem row_blk {w : World} {v : Value} {e size m g : Nat} {t : TypeId} {xs cs : List Value} (h : (row v e size m xs).p w) (h2 : (blk g cs t).p w) (hne : e ≠ t) : g ∉ feet [row v e size m xs] := by
  intro hg
  have hg' : g ∈ v.ownBlock.toList := by simpa [feet, row] using hg
  rcases h.2 with ⟨rfl, _⟩ | ⟨g', cap, cur, rfl, _, hb, _⟩
  · simp [Value.ownBlock] at hg'
  · have : g = g' := by simpa [Value.ownBlock] using hg'
    subst this
    have h3 : w.heap[g]? = some (.cells cs.toArray t (0, 0)) := h2
    rw [hb] at h3
    injection h3 with h3
    injection h3 with _ h3 _
    exact hne h3
theorem blk_ne {w : World} {g g' : Nat} {t t' : TypeId} {cs cs' : List Value} (h : (blk g cs t).p w) (h2 : (blk g' cs' t').p w) (hne : t ≠ t') : g ≠ g' := by
  intro e
  subst e
  have h1 : w.heap[g]? = some (.cells cs.toArray t (0, 0)) := h
  have h3 : w.heap[g]? = some (.cells cs'.toArray t' (0, 0)) := h2
  rw [h1] at h3
  injection h3 with h3
  injection h3 with _ h3 _
  exact hne h3
theorem mem_two {w : World} {h h2 : HA} (hp : h.p w) (hp2 : h2.p w) (hnd : (feet [h, h2]).Nodup) : Mem w (feet [h, h2]) [h, h2] w :=
  Mem.start (by simpa using ⟨hp, hp2⟩) rfl hnd
theorem St.recell {v v' : Value} (hs : St n ((d, v) :: F) w0 S M a w) (e : v = v') : St n ((d, v') :: F) w0 S M a w := e ▸ hs
theorem St.reslot {v v' : Value} (hs : St n F w0 S M a w) (h : lk F d = some v) (e : v = v') : St n ((d, v') :: F) w0 S M a w := by
  subst e
  refine ⟨hs.size, hs.dfr, fun t u hu => ?_, hs.mem⟩
  rw [lk_cons] at hu
  by_cases e : d = t
  · subst e; rw [if_pos rfl] at hu; rw [← hu]; exact hs.agr _ _ h
  · rw [if_neg e] at hu; exact hs.agr _ _ hu
theorem St.reblk {g : Nat} {cs cs' : List Value} {t : TypeId} {M' : List HA} (hs : St n F w0 S M a w) (hb : Del M (blk g cs t) M') (e : cs = cs') : St n F w0 S (blk g cs' t :: M') a w := by
  subst e
  exact hs.frame (N := [blk g cs t]) (.c hb .n) ⟨Chg.refl _ _, by intro h hh; simp only [List.mem_singleton] at hh; subst hh; exact hs.mem.del hb, by simp [feet, blk], by simp [feet, blk]⟩
/-- A result in memory ahead of one in a slot. -/
theorem finC2 {fn : Func} {post : Value → List HA → Prop} {t t2 : Nat} {rt bt : TypeId} {g i sz : Nat} {cs vs : List Value} {v2 : Value} {M' : List HA} (hs : St n F w0 S M a w) (hr : fn.results = #[.cell t rt, .tmp t2]) (hv : lk F t = some (.pointer (some ⟨g, i, none⟩))) (hv2 : lk F t2 = some v2) (hb : Del M (blk g cs bt) M') (hc : Cut cs i sz vs)
    (hag : ∀ w, (isAgg rt).run P w = .ok true w) (hsz : ∀ w, (sizeOf rt).run P w = .ok sz w) {X N : List HA} (hD : Dels M X N) (hp : post (.tuple #[.agg vs.toArray, v2]) N) : bodyPost P fn (Ret w0 S post) .ret a w := by
  have hg := hs.agr t _ hv
  have hg2 := hs.agr t2 _ hv2
  have he := hc.eq
  have hcl : vs.length = sz := by rw [he.1]; simp; omega
  have hrun := run_loadCells_list (P := P) w ⟨g, i, none⟩ vs (fun j u hj => by
    have ha : (⟨g, i, none⟩ : Addr).add j = ⟨g, i + j, none⟩ := by unfold Addr.add; split <;> simp_all
    rw [ha, cell_blk (hs.mem.del hb)]
    rw [he.1, List.getElem?_take] at hj
    split at hj
    · simpa using hj
    · cases hj)
  rw [hcl] at hrun
  refine bodyPost_ret (v := .tuple #[.agg vs.toArray, v2]) ?_ hs.dfr ⟨_, N, rfl, hp, hs.mem.drop hD⟩
  simp [results, hr, Array.getD_eq_getD_getElem?, hg, hg2, asAddr, loadVar, hag, hsz, hrun]
/-! ### A flat struct that came in -/
section
open Go.ChangeShapes Go.WideShapes
variable {H : Type} {enc : TypeId × Value → H} {W : World} {t : TypeId} {v : Value} {dd : DataW H} {p : List MemPlace}
theorem open_flat {m : Nat} {fs : Array Field} {ks : List FK} (hu : P.underlying t = some (.struct fs)) (hk : flatK P m t = some ks) (hv : Value.okWide P W .any 0 t v) (h : DataW.Trod enc P W 0 (fun _ => true) true t v dd p) : ∃ cs : List Value, v = .agg cs.toArray ∧ AllFK cs ks := by
  obtain ⟨cs, rfl, _⟩ := okWide_struct hu hv
  obtain ⟨fuel, hf⟩ := h
  exact ⟨cs.toList, by simp, flatK_ok m t ks hk fuel _ _ hf⟩
theorem AllFK.split {c : List Value} {k : FK} {ks : List FK} (h : AllFK c (k :: ks)) : ∃ u us, c = u :: us ∧ OneFK u k ∧ AllFK us ks := by
  cases h with
  | c h1 h2 => exact ⟨_, _, rfl, h1, h2⟩
theorem AllFK.none {c : List Value} (h : AllFK c []) : c = [] := by cases h; rfl
theorem OneFK.i64 {v : Value} (h : OneFK v (.i .i64)) : ∃ z : Int, v = .int .i64 z ∧ -9223372036854775808 ≤ z ∧ z ≤ 9223372036854775807 := by
  cases h with
  | i w => exact ⟨_, rfl, i64_of_wf w⟩
theorem OneFK.u64 {v : Value} (h : OneFK v (.i .u64)) : ∃ z : BitVec 64, v = .int .u64 ((z.toNat : Nat) : Int) := by
  cases h with
  | i w => obtain ⟨X, hX⟩ := bv_of_wf_u64 w; exact ⟨X, by rw [hX]⟩
theorem OneFK.u16 {v : Value} (h : OneFK v (.i .u16)) : ∃ z : BitVec 16, v = .int .u16 ((z.toNat : Nat) : Int) := by
  cases h with
  | i w => obtain ⟨X, hX⟩ := bv_of_wf_u16 w; exact ⟨X, by rw [hX]⟩
theorem OneFK.u8 {v : Value} (h : OneFK v (.i .u8)) : ∃ z : BitVec 8, v = .int .u8 ((z.toNat : Nat) : Int) := by
  cases h with
  | i w => obtain ⟨X, hX⟩ := bv_of_wf_u8 w; exact ⟨X, by rw [hX]⟩
end
end Go.Sx
