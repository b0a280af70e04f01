/- Steps over operations: what each does to the slots. Printed by gen_sxb.py. -/
import Derived.Test.YtkobgcoegajfcaaSxA
set_option linter.unusedVariables false
set_option linter.unusedSimpArgs false
namespace Go.Sx
open Go.RowKit
variable {P : Program} {ops : Array Oper} {Q : Exit → Act → World → Prop} {rest : List Oper} {n : Nat} {F : List (Nat × Value)} {w0 : World} {S : List Nat} {M : List HA} {a : Act} {w : World}

theorem st_val {o : Oper} {d : Nat} {v : Value} {w' : World} (hg : o.guard = none) (hdst : o.dst = some d) (hrun : (execOp a.eval o).run P w = .ok (.value v) w')
    (k : wpList P ops Q rest (a.put (some d) v) w') : wpList P ops Q (o :: rest) a w :=
  wpList_plain hg fun K hK => by
    unfold Oper.wp
    rw [hrun, Oper.upon_value, hdst]
    exact hK _ _ k
theorem st_skip {o : Oper} {w' : World} (hg : o.guard = none) (hdst : o.dst = none) (hrun : (execOp a.eval o).run P w = .ok .skip w')
    (k : wpList P ops Q rest a w') : wpList P ops Q (o :: rest) a w :=
  wpList_plain hg fun K hK => by
    unfold Oper.wp
    rw [hrun, Oper.upon_skip, hdst]
    exact hK _ _ k
/-- A value that hangs on the slots alone. -/
theorem st_pure {op : Op} {d : Nat} {v : Value} {ty : TypeId} {pos : String} {af : Array Edge} (hs : St n F w0 S M a w) (hrun : (execOp a.eval ⟨some d, op, ty, pos, af, none⟩).run P w = .ok (.value v) w) (hd : Nat.blt d n = true)
    (k : ∀ a w, St n ((d, v) :: F) w0 S M a w → wpList P ops Q rest a w) : wpList P ops Q (⟨some d, op, ty, pos, af, none⟩ :: rest) a w :=
  st_val rfl rfl hrun (k _ _ (hs.put hd v))

theorem st_mv {x : Operand} {v : Value} {d : Nat} {ty : TypeId} {pos : String} {af : Array Edge} (hs : St n F w0 S M a w) (hx : evo F x = some v) (hd : Nat.blt d n = true) (k : ∀ a w, St n ((d, v) :: F) w0 S M a w → wpList P ops Q rest a w) : wpList P ops Q (⟨some d, .move x, ty, pos, af, none⟩ :: rest) a w :=
  st_pure hs (by simp [execOp, hs.ev hx]) hd k
theorem st_as {x : Operand} {v : Value} {d : Nat} {ty : TypeId} {pos : String} {af : Array Edge} (hs : St n F w0 S M a w) (hx : evo F x = some v) (hd : Nat.blt d n = true) (k : ∀ a w, St n ((d, v) :: F) w0 S M a w → wpList P ops Q rest a w) : wpList P ops Q (⟨some d, .assign x, ty, pos, af, none⟩ :: rest) a w :=
  st_pure hs (by simp [execOp, hs.ev hx]) hd k
theorem st_pickT {c x y : Operand} {v : Value} {d : Nat} {ty : TypeId} {pos : String} {af : Array Edge} (hs : St n F w0 S M a w) (hc : evo F c = some (.bool true)) (hx : evo F x = some v) (hd : Nat.blt d n = true) (k : ∀ a w, St n ((d, v) :: F) w0 S M a w → wpList P ops Q rest a w) : wpList P ops Q (⟨some d, .pick c x y, ty, pos, af, none⟩ :: rest) a w :=
  st_pure hs (by simp [execOp, hs.ev hc, hs.ev hx, asBool]) hd k
theorem st_pickF {c x y : Operand} {v : Value} {d : Nat} {ty : TypeId} {pos : String} {af : Array Edge} (hs : St n F w0 S M a w) (hc : evo F c = some (.bool false)) (hy : evo F y = some v) (hd : Nat.blt d n = true) (k : ∀ a w, St n ((d, v) :: F) w0 S M a w → wpList P ops Q rest a w) : wpList P ops Q (⟨some d, .pick c x y, ty, pos, af, none⟩ :: rest) a w :=
  st_pure hs (by simp [execOp, hs.ev hc, hs.ev hy, asBool]) hd k
theorem st_not {x : Operand} {b : Bool} {t : TypeId} {d : Nat} {ty : TypeId} {pos : String} {af : Array Edge} (hs : St n F w0 S M a w) (hx : evo F x = some (.bool b)) (hd : Nat.blt d n = true) (k : ∀ a w, St n ((d, .bool (!b)) :: F) w0 S M a w → wpList P ops Q rest a w) : wpList P ops Q (⟨some d, .unOp .not t x, ty, pos, af, none⟩ :: rest) a w :=
  st_pure hs (by simp [execOp, hs.ev hx, Op.unary]) hd k
theorem run_eqb' (d : Nat) {t : TypeId} {p q : Bool} (ht : P.underlying t = some .bool) : (Op.equalIn (d + 1) t (.bool p) (.bool q)).run P w = .ok (p == q) w := by
  simp [Op.equalIn, run_underlying ht]
theorem run_eqb {t : TypeId} {p q : Bool} (ht : P.underlying t = some .bool) : (Op.equalIn Op.maxDepth t (.bool p) (.bool q)).run P w = .ok (p == q) w := run_eqb' 9999 ht
theorem st_add {x y : Operand} {kd : IntKind} {p q : Int} {t t2 : TypeId} {d : Nat} {ty : TypeId} {pos : String} {af : Array Edge} (hs : St n F w0 S M a w) (hx : evo F x = some (.int kd p)) (hy : evo F y = some (.int kd q)) (hd : Nat.blt d n = true) (k : ∀ a w, St n ((d, .int kd (kd.wrap (p + q))) :: F) w0 S M a w → wpList P ops Q rest a w) : wpList P ops Q (⟨some d, .binOp .add t x y t2, ty, pos, af, none⟩ :: rest) a w :=
  st_pure hs (by simp [execOp, hs.ev hx, hs.ev hy, binOp, eqGuard, Op.intArith, Op.intCmp]) hd k
theorem st_addR {x y : Operand} {p q : Int} {t t2 : TypeId} {d : Nat} {ty : TypeId} {pos : String} {af : Array Edge} (hs : St n F w0 S M a w) (hx : evo F x = some (.int .i64 p)) (hy : evo F y = some (.int .i64 q)) (hr : -9223372036854775808 ≤ p + q ∧ p + q ≤ 9223372036854775807) (hd : Nat.blt d n = true) (k : ∀ a w, St n ((d, .int .i64 (p + q)) :: F) w0 S M a w → wpList P ops Q rest a w) : wpList P ops Q (⟨some d, .binOp .add t x y t2, ty, pos, af, none⟩ :: rest) a w :=
  st_pure hs (by simp [execOp, hs.ev hx, hs.ev hy, binOp, eqGuard, Op.intArith, Op.intCmp, IntWalk.i64_in _ hr]) hd k
theorem st_sub {x y : Operand} {kd : IntKind} {p q : Int} {t t2 : TypeId} {d : Nat} {ty : TypeId} {pos : String} {af : Array Edge} (hs : St n F w0 S M a w) (hx : evo F x = some (.int kd p)) (hy : evo F y = some (.int kd q)) (hd : Nat.blt d n = true) (k : ∀ a w, St n ((d, .int kd (kd.wrap (p - q))) :: F) w0 S M a w → wpList P ops Q rest a w) : wpList P ops Q (⟨some d, .binOp .sub t x y t2, ty, pos, af, none⟩ :: rest) a w :=
  st_pure hs (by simp [execOp, hs.ev hx, hs.ev hy, binOp, eqGuard, Op.intArith, Op.intCmp]) hd k
theorem st_subR {x y : Operand} {p q : Int} {t t2 : TypeId} {d : Nat} {ty : TypeId} {pos : String} {af : Array Edge} (hs : St n F w0 S M a w) (hx : evo F x = some (.int .i64 p)) (hy : evo F y = some (.int .i64 q)) (hr : -9223372036854775808 ≤ p - q ∧ p - q ≤ 9223372036854775807) (hd : Nat.blt d n = true) (k : ∀ a w, St n ((d, .int .i64 (p - q)) :: F) w0 S M a w → wpList P ops Q rest a w) : wpList P ops Q (⟨some d, .binOp .sub t x y t2, ty, pos, af, none⟩ :: rest) a w :=
  st_pure hs (by simp [execOp, hs.ev hx, hs.ev hy, binOp, eqGuard, Op.intArith, Op.intCmp, IntWalk.i64_in _ hr]) hd k
theorem st_mul {x y : Operand} {kd : IntKind} {p q : Int} {t t2 : TypeId} {d : Nat} {ty : TypeId} {pos : String} {af : Array Edge} (hs : St n F w0 S M a w) (hx : evo F x = some (.int kd p)) (hy : evo F y = some (.int kd q)) (hd : Nat.blt d n = true) (k : ∀ a w, St n ((d, .int kd (kd.wrap (p * q))) :: F) w0 S M a w → wpList P ops Q rest a w) : wpList P ops Q (⟨some d, .binOp .mul t x y t2, ty, pos, af, none⟩ :: rest) a w :=
  st_pure hs (by simp [execOp, hs.ev hx, hs.ev hy, binOp, eqGuard, Op.intArith, Op.intCmp]) hd k
theorem st_mulR {x y : Operand} {p q : Int} {t t2 : TypeId} {d : Nat} {ty : TypeId} {pos : String} {af : Array Edge} (hs : St n F w0 S M a w) (hx : evo F x = some (.int .i64 p)) (hy : evo F y = some (.int .i64 q)) (hr : -9223372036854775808 ≤ p * q ∧ p * q ≤ 9223372036854775807) (hd : Nat.blt d n = true) (k : ∀ a w, St n ((d, .int .i64 (p * q)) :: F) w0 S M a w → wpList P ops Q rest a w) : wpList P ops Q (⟨some d, .binOp .mul t x y t2, ty, pos, af, none⟩ :: rest) a w :=
  st_pure hs (by simp [execOp, hs.ev hx, hs.ev hy, binOp, eqGuard, Op.intArith, Op.intCmp, IntWalk.i64_in _ hr]) hd k
theorem st_lss {x y : Operand} {kd : IntKind} {p q : Int} {t t2 : TypeId} {d : Nat} {ty : TypeId} {pos : String} {af : Array Edge} (hs : St n F w0 S M a w) (hx : evo F x = some (.int kd p)) (hy : evo F y = some (.int kd q)) (hd : Nat.blt d n = true) (k : ∀ a w, St n ((d, .bool (decide (p < q))) :: F) w0 S M a w → wpList P ops Q rest a w) : wpList P ops Q (⟨some d, .binOp .lss t x y t2, ty, pos, af, none⟩ :: rest) a w :=
  st_pure hs (by simp [execOp, hs.ev hx, hs.ev hy, binOp, eqGuard, Op.intArith, Op.intCmp]) hd k
theorem st_leq {x y : Operand} {kd : IntKind} {p q : Int} {t t2 : TypeId} {d : Nat} {ty : TypeId} {pos : String} {af : Array Edge} (hs : St n F w0 S M a w) (hx : evo F x = some (.int kd p)) (hy : evo F y = some (.int kd q)) (hd : Nat.blt d n = true) (k : ∀ a w, St n ((d, .bool (decide (p ≤ q))) :: F) w0 S M a w → wpList P ops Q rest a w) : wpList P ops Q (⟨some d, .binOp .leq t x y t2, ty, pos, af, none⟩ :: rest) a w :=
  st_pure hs (by simp [execOp, hs.ev hx, hs.ev hy, binOp, eqGuard, Op.intArith, Op.intCmp]) hd k
theorem st_gtr {x y : Operand} {kd : IntKind} {p q : Int} {t t2 : TypeId} {d : Nat} {ty : TypeId} {pos : String} {af : Array Edge} (hs : St n F w0 S M a w) (hx : evo F x = some (.int kd p)) (hy : evo F y = some (.int kd q)) (hd : Nat.blt d n = true) (k : ∀ a w, St n ((d, .bool (decide (q < p))) :: F) w0 S M a w → wpList P ops Q rest a w) : wpList P ops Q (⟨some d, .binOp .gtr t x y t2, ty, pos, af, none⟩ :: rest) a w :=
  st_pure hs (by simp [execOp, hs.ev hx, hs.ev hy, binOp, eqGuard, Op.intArith, Op.intCmp]) hd k
theorem st_geq {x y : Operand} {kd : IntKind} {p q : Int} {t t2 : TypeId} {d : Nat} {ty : TypeId} {pos : String} {af : Array Edge} (hs : St n F w0 S M a w) (hx : evo F x = some (.int kd p)) (hy : evo F y = some (.int kd q)) (hd : Nat.blt d n = true) (k : ∀ a w, St n ((d, .bool (decide (q ≤ p))) :: F) w0 S M a w → wpList P ops Q rest a w) : wpList P ops Q (⟨some d, .binOp .geq t x y t2, ty, pos, af, none⟩ :: rest) a w :=
  st_pure hs (by simp [execOp, hs.ev hx, hs.ev hy, binOp, eqGuard, Op.intArith, Op.intCmp]) hd k
theorem st_eql {x y : Operand} {kd : IntKind} {p q : Int} {t t2 : TypeId} {d : Nat} {ty : TypeId} {pos : String} {af : Array Edge} (hs : St n F w0 S M a w) (hx : evo F x = some (.int kd p)) (hy : evo F y = some (.int kd q)) (hd : Nat.blt d n = true) (k : ∀ a w, St n ((d, .bool ((p == q))) :: F) w0 S M a w → wpList P ops Q rest a w) : wpList P ops Q (⟨some d, .binOp .eql t x y t2, ty, pos, af, none⟩ :: rest) a w :=
  st_pure hs (by simp [execOp, hs.ev hx, hs.ev hy, binOp, eqGuard, Op.intArith, Op.intCmp]) hd k
theorem st_neq {x y : Operand} {kd : IntKind} {p q : Int} {t t2 : TypeId} {d : Nat} {ty : TypeId} {pos : String} {af : Array Edge} (hs : St n F w0 S M a w) (hx : evo F x = some (.int kd p)) (hy : evo F y = some (.int kd q)) (hd : Nat.blt d n = true) (k : ∀ a w, St n ((d, .bool (!(p == q))) :: F) w0 S M a w → wpList P ops Q rest a w) : wpList P ops Q (⟨some d, .binOp .neq t x y t2, ty, pos, af, none⟩ :: rest) a w :=
  st_pure hs (by simp [execOp, hs.ev hx, hs.ev hy, binOp, eqGuard, Op.intArith, Op.intCmp] <;> rfl) hd k
theorem st_eqb {x y : Operand} {p q : Bool} {t t2 : TypeId} {d : Nat} {ty : TypeId} {pos : String} {af : Array Edge} (hs : St n F w0 S M a w) (hx : evo F x = some (.bool p)) (hy : evo F y = some (.bool q)) (ht : P.underlying t = some .bool) (hd : Nat.blt d n = true) (k : ∀ a w, St n ((d, .bool ((p == q))) :: F) w0 S M a w → wpList P ops Q rest a w) : wpList P ops Q (⟨some d, .binOp .eql t x y t2, ty, pos, af, none⟩ :: rest) a w :=
  st_pure hs (by simp only [execOp, hs.ev hx, hs.ev hy, binOp, eqGuard, Op.equal]; simp [run_eqb ht]) hd k
theorem st_neb {x y : Operand} {p q : Bool} {t t2 : TypeId} {d : Nat} {ty : TypeId} {pos : String} {af : Array Edge} (hs : St n F w0 S M a w) (hx : evo F x = some (.bool p)) (hy : evo F y = some (.bool q)) (ht : P.underlying t = some .bool) (hd : Nat.blt d n = true) (k : ∀ a w, St n ((d, .bool (!(p == q))) :: F) w0 S M a w → wpList P ops Q rest a w) : wpList P ops Q (⟨some d, .binOp .neq t x y t2, ty, pos, af, none⟩ :: rest) a w :=
  st_pure hs (by simp only [execOp, hs.ev hx, hs.ev hy, binOp, eqGuard, Op.equal]; simp [run_eqb ht]) hd k
theorem st_eqs {x y : Operand} {p q : ByteArray} {t t2 : TypeId} {d : Nat} {ty : TypeId} {pos : String} {af : Array Edge} (hs : St n F w0 S M a w) (hx : evo F x = some (.string p)) (hy : evo F y = some (.string q)) (hd : Nat.blt d n = true) (k : ∀ a w, St n ((d, .bool ((p.toList == q.toList))) :: F) w0 S M a w → wpList P ops Q rest a w) : wpList P ops Q (⟨some d, .binOp .eql t x y t2, ty, pos, af, none⟩ :: rest) a w :=
  st_pure hs (by simp [execOp, hs.ev hx, hs.ev hy, binOp, eqGuard, Op.stringOp]) hd k
theorem st_nes {x y : Operand} {p q : ByteArray} {t t2 : TypeId} {d : Nat} {ty : TypeId} {pos : String} {af : Array Edge} (hs : St n F w0 S M a w) (hx : evo F x = some (.string p)) (hy : evo F y = some (.string q)) (hd : Nat.blt d n = true) (k : ∀ a w, St n ((d, .bool (!(p.toList == q.toList))) :: F) w0 S M a w → wpList P ops Q rest a w) : wpList P ops Q (⟨some d, .binOp .neq t x y t2, ty, pos, af, none⟩ :: rest) a w :=
  st_pure hs (by simp [execOp, hs.ev hx, hs.ev hy, binOp, eqGuard, Op.stringOp] <;> rfl) hd k
theorem st_quoN {x y : Operand} {p q : Int} {t t2 : TypeId} {d : Nat} {ty : TypeId} {pos : String} {af : Array Edge} (hs : St n F w0 S M a w) (hx : evo F x = some (.int .i64 p)) (hy : evo F y = some (.int .i64 q)) (hr : 0 ≤ p ∧ p ≤ 9223372036854775807 ∧ 1 ≤ q) (hd : Nat.blt d n = true) (k : ∀ a w, St n ((d, .int .i64 (p / q)) :: F) w0 S M a w → wpList P ops Q rest a w) : wpList P ops Q (⟨some d, .binOp .quo t x y t2, ty, pos, af, none⟩ :: rest) a w :=
  st_pure hs (by have h0 : ¬ q = 0 := (by omega); simp [execOp, hs.ev hx, hs.ev hy, binOp, eqGuard, Op.intDiv, h0, IntWalk.i64_quo p q hr]) hd k
theorem st_remN {x y : Operand} {p q : Int} {t t2 : TypeId} {d : Nat} {ty : TypeId} {pos : String} {af : Array Edge} (hs : St n F w0 S M a w) (hx : evo F x = some (.int .i64 p)) (hy : evo F y = some (.int .i64 q)) (hr : 0 ≤ p ∧ p ≤ 9223372036854775807 ∧ 1 ≤ q) (hd : Nat.blt d n = true) (k : ∀ a w, St n ((d, .int .i64 (p % q)) :: F) w0 S M a w → wpList P ops Q rest a w) : wpList P ops Q (⟨some d, .binOp .rem t x y t2, ty, pos, af, none⟩ :: rest) a w :=
  st_pure hs (by have h0 : ¬ q = 0 := (by omega); simp [execOp, hs.ev hx, hs.ev hy, binOp, eqGuard, Op.intDiv, h0, IntWalk.rem_in p q hr.1]) hd k

theorem wrap_unsigned {k : IntKind} (hk : k.signed = false) (z : Int) : k.wrap z = ((BitVec.ofInt k.bits z).toNat : Int) := by
  simp only [IntKind.wrap, hk, Bool.false_and, Bool.false_eq_true, if_false, BitVec.toNat_ofInt]
  have h2 : (0 : Int) < 2 ^ k.bits := Int.pow_pos (by omega)
  have := Int.emod_nonneg z (Int.ne_of_gt h2)
  have e : (((2 : Nat) ^ k.bits : Nat) : Int) = (2 : Int) ^ k.bits := by simp
  rw [e]
  omega
theorem ofInt_nat {w : Nat} (x : BitVec w) : BitVec.ofInt w (x.toNat : Int) = x := by
  apply BitVec.eq_of_toNat_eq
  simp

theorem wadd_u8 (X Y : BitVec 8) : IntKind.u8.wrap ((X.toNat : Int) + Y.toNat) = ((X + Y).toNat : Int) := by
  rw [wrap_unsigned rfl]
  show ((BitVec.ofInt 8 ((X.toNat : Int) + Y.toNat)).toNat : Int) = _
  rw [BitVec.ofInt_add, ofInt_nat, ofInt_nat]
theorem st_add_u8 {x y : Operand} {p q : Int} {X Y : BitVec 8} {t t2 : TypeId} {d : Nat} {ty : TypeId} {pos : String} {af : Array Edge} (hs : St n F w0 S M a w) (hx : evo F x = some (.int .u8 p)) (hp : p = (X.toNat : Int)) (hy : evo F y = some (.int .u8 q)) (hq : q = (Y.toNat : Int)) (hd : Nat.blt d n = true) (k : ∀ a w, St n ((d, .int .u8 (((X + Y).toNat : Nat) : Int)) :: F) w0 S M a w → wpList P ops Q rest a w) : wpList P ops Q (⟨some d, .binOp .add t x y t2, ty, pos, af, none⟩ :: rest) a w :=
  st_pure hs (by simp [execOp, hs.ev hx, hs.ev hy, binOp, eqGuard, Op.intArith, hp, hq, -BitVec.toNat_add, -BitVec.toNat_sub, -BitVec.toNat_mul]; exact wadd_u8 X Y) hd k
theorem wsub_u8 (X Y : BitVec 8) : IntKind.u8.wrap ((X.toNat : Int) - Y.toNat) = ((X - Y).toNat : Int) := by
  rw [wrap_unsigned rfl]
  show ((BitVec.ofInt 8 ((X.toNat : Int) - Y.toNat)).toNat : Int) = _
  rw [Int.sub_eq_add_neg, BitVec.ofInt_add, BitVec.ofInt_neg, ofInt_nat, ofInt_nat, BitVec.sub_eq_add_neg]
theorem st_sub_u8 {x y : Operand} {p q : Int} {X Y : BitVec 8} {t t2 : TypeId} {d : Nat} {ty : TypeId} {pos : String} {af : Array Edge} (hs : St n F w0 S M a w) (hx : evo F x = some (.int .u8 p)) (hp : p = (X.toNat : Int)) (hy : evo F y = some (.int .u8 q)) (hq : q = (Y.toNat : Int)) (hd : Nat.blt d n = true) (k : ∀ a w, St n ((d, .int .u8 (((X - Y).toNat : Nat) : Int)) :: F) w0 S M a w → wpList P ops Q rest a w) : wpList P ops Q (⟨some d, .binOp .sub t x y t2, ty, pos, af, none⟩ :: rest) a w :=
  st_pure hs (by simp [execOp, hs.ev hx, hs.ev hy, binOp, eqGuard, Op.intArith, hp, hq, -BitVec.toNat_add, -BitVec.toNat_sub, -BitVec.toNat_mul]; exact wsub_u8 X Y) hd k
theorem wmul_u8 (X Y : BitVec 8) : IntKind.u8.wrap ((X.toNat : Int) * Y.toNat) = ((X * Y).toNat : Int) := by
  rw [wrap_unsigned rfl]
  show ((BitVec.ofInt 8 ((X.toNat : Int) * Y.toNat)).toNat : Int) = _
  rw [BitVec.ofInt_mul, ofInt_nat, ofInt_nat]
theorem st_mul_u8 {x y : Operand} {p q : Int} {X Y : BitVec 8} {t t2 : TypeId} {d : Nat} {ty : TypeId} {pos : String} {af : Array Edge} (hs : St n F w0 S M a w) (hx : evo F x = some (.int .u8 p)) (hp : p = (X.toNat : Int)) (hy : evo F y = some (.int .u8 q)) (hq : q = (Y.toNat : Int)) (hd : Nat.blt d n = true) (k : ∀ a w, St n ((d, .int .u8 (((X * Y).toNat : Nat) : Int)) :: F) w0 S M a w → wpList P ops Q rest a w) : wpList P ops Q (⟨some d, .binOp .mul t x y t2, ty, pos, af, none⟩ :: rest) a w :=
  st_pure hs (by simp [execOp, hs.ev hx, hs.ev hy, binOp, eqGuard, Op.intArith, hp, hq, -BitVec.toNat_add, -BitVec.toNat_sub, -BitVec.toNat_mul]; exact wmul_u8 X Y) hd k
theorem band_u8 (X Y : BitVec 8) : IntKind.u8.wrap ((X &&& Y).toNat : Int) = (((X &&& Y).toNat : Nat) : Int) := by
  rw [wrap_unsigned rfl]
  show ((BitVec.ofInt 8 _).toNat : Int) = _
  rw [ofInt_nat]
theorem st_and_u8 {x y : Operand} {p q : Int} {X Y : BitVec 8} {t t2 : TypeId} {d : Nat} {ty : TypeId} {pos : String} {af : Array Edge} (hs : St n F w0 S M a w) (hx : evo F x = some (.int .u8 p)) (hp : p = (X.toNat : Int)) (hy : evo F y = some (.int .u8 q)) (hq : q = (Y.toNat : Int)) (hd : Nat.blt d n = true) (k : ∀ a w, St n ((d, .int .u8 (((X &&& Y).toNat : Nat) : Int)) :: F) w0 S M a w → wpList P ops Q rest a w) : wpList P ops Q (⟨some d, .binOp .and t x y t2, ty, pos, af, none⟩ :: rest) a w :=
  st_pure hs (by simp only [execOp, hs.ev hx, hs.ev hy, binOp, eqGuard, Op.intBits, hp, hq]; simp [IntKind.bits, ofInt_nat, -BitVec.toNat_and, -BitVec.toNat_or, -BitVec.toNat_xor, -BitVec.toNat_not]; exact band_u8 X Y) hd k
theorem bor_u8 (X Y : BitVec 8) : IntKind.u8.wrap ((X ||| Y).toNat : Int) = (((X ||| Y).toNat : Nat) : Int) := by
  rw [wrap_unsigned rfl]
  show ((BitVec.ofInt 8 _).toNat : Int) = _
  rw [ofInt_nat]
theorem st_or_u8 {x y : Operand} {p q : Int} {X Y : BitVec 8} {t t2 : TypeId} {d : Nat} {ty : TypeId} {pos : String} {af : Array Edge} (hs : St n F w0 S M a w) (hx : evo F x = some (.int .u8 p)) (hp : p = (X.toNat : Int)) (hy : evo F y = some (.int .u8 q)) (hq : q = (Y.toNat : Int)) (hd : Nat.blt d n = true) (k : ∀ a w, St n ((d, .int .u8 (((X ||| Y).toNat : Nat) : Int)) :: F) w0 S M a w → wpList P ops Q rest a w) : wpList P ops Q (⟨some d, .binOp .or t x y t2, ty, pos, af, none⟩ :: rest) a w :=
  st_pure hs (by simp only [execOp, hs.ev hx, hs.ev hy, binOp, eqGuard, Op.intBits, hp, hq]; simp [IntKind.bits, ofInt_nat, -BitVec.toNat_and, -BitVec.toNat_or, -BitVec.toNat_xor, -BitVec.toNat_not]; exact bor_u8 X Y) hd k
theorem bxor_u8 (X Y : BitVec 8) : IntKind.u8.wrap ((X ^^^ Y).toNat : Int) = (((X ^^^ Y).toNat : Nat) : Int) := by
  rw [wrap_unsigned rfl]
  show ((BitVec.ofInt 8 _).toNat : Int) = _
  rw [ofInt_nat]
theorem st_xor_u8 {x y : Operand} {p q : Int} {X Y : BitVec 8} {t t2 : TypeId} {d : Nat} {ty : TypeId} {pos : String} {af : Array Edge} (hs : St n F w0 S M a w) (hx : evo F x = some (.int .u8 p)) (hp : p = (X.toNat : Int)) (hy : evo F y = some (.int .u8 q)) (hq : q = (Y.toNat : Int)) (hd : Nat.blt d n = true) (k : ∀ a w, St n ((d, .int .u8 (((X ^^^ Y).toNat : Nat) : Int)) :: F) w0 S M a w → wpList P ops Q rest a w) : wpList P ops Q (⟨some d, .binOp .xor t x y t2, ty, pos, af, none⟩ :: rest) a w :=
  st_pure hs (by simp only [execOp, hs.ev hx, hs.ev hy, binOp, eqGuard, Op.intBits, hp, hq]; simp [IntKind.bits, ofInt_nat, -BitVec.toNat_and, -BitVec.toNat_or, -BitVec.toNat_xor, -BitVec.toNat_not]; exact bxor_u8 X Y) hd k
theorem bandNot_u8 (X Y : BitVec 8) : IntKind.u8.wrap ((X &&& ~~~Y).toNat : Int) = (((X &&& ~~~Y).toNat : Nat) : Int) := by
  rw [wrap_unsigned rfl]
  show ((BitVec.ofInt 8 _).toNat : Int) = _
  rw [ofInt_nat]
theorem st_andNot_u8 {x y : Operand} {p q : Int} {X Y : BitVec 8} {t t2 : TypeId} {d : Nat} {ty : TypeId} {pos : String} {af : Array Edge} (hs : St n F w0 S M a w) (hx : evo F x = some (.int .u8 p)) (hp : p = (X.toNat : Int)) (hy : evo F y = some (.int .u8 q)) (hq : q = (Y.toNat : Int)) (hd : Nat.blt d n = true) (k : ∀ a w, St n ((d, .int .u8 (((X &&& ~~~Y).toNat : Nat) : Int)) :: F) w0 S M a w → wpList P ops Q rest a w) : wpList P ops Q (⟨some d, .binOp .andNot t x y t2, ty, pos, af, none⟩ :: rest) a w :=
  st_pure hs (by simp only [execOp, hs.ev hx, hs.ev hy, binOp, eqGuard, Op.intBits, hp, hq]; simp [IntKind.bits, ofInt_nat, -BitVec.toNat_and, -BitVec.toNat_or, -BitVec.toNat_xor, -BitVec.toNat_not]; exact bandNot_u8 X Y) hd k
theorem shl_u8 (X : BitVec 8) (m : Nat) : IntKind.u8.wrap ((X.toNat : Int) * 2 ^ (min m IntKind.u8.bits)) = ((X <<< m).toNat : Int) := by
  rw [wrap_unsigned rfl]
  show ((BitVec.ofInt 8 _).toNat : Int) = _
  have e : (X.toNat : Int) * 2 ^ (min m IntKind.u8.bits) = ((X.toNat * 2 ^ (min m 8) : Nat) : Int) := by simp [IntKind.bits]
  rw [e, BitVec.ofInt_natCast]
  congr 1
  simp only [BitVec.toNat_ofNat, BitVec.toNat_shiftLeft, Nat.shiftLeft_eq]
  rcases Nat.le_total m 8 with h | h
  · rw [Nat.min_eq_left h]
  · rw [Nat.min_eq_right h]
    obtain ⟨c, rfl⟩ := Nat.exists_eq_add_of_le h
    rw [Nat.pow_add, ← Nat.mul_assoc, Nat.mul_right_comm]
    simp
theorem shr_u8 (X : BitVec 8) (m : Nat) : (X.toNat : Int).fdiv (2 ^ (min m IntKind.u8.bits)) = ((X >>> m).toNat : Int) := by
  have e : (2 : Int) ^ (min m IntKind.u8.bits) = ((2 ^ (min m 8) : Nat) : Int) := by simp [IntKind.bits]
  rw [e, Int.fdiv_eq_ediv_of_nonneg _ (Int.natCast_nonneg _), ← Int.natCast_ediv]
  congr 1
  simp only [BitVec.toNat_ushiftRight, Nat.shiftRight_eq_div_pow]
  rcases Nat.le_total m 8 with h | h
  · rw [Nat.min_eq_left h]
  · rw [Nat.min_eq_right h, Nat.div_eq_of_lt X.isLt, Nat.div_eq_of_lt (Nat.lt_of_lt_of_le X.isLt (Nat.pow_le_pow_right (by omega) h))]
theorem st_shl_u8 {x y : Operand} {p q : Int} {kd : IntKind} {X : BitVec 8} {t t2 : TypeId} {d : Nat} {ty : TypeId} {pos : String} {af : Array Edge} (hs : St n F w0 S M a w) (hx : evo F x = some (.int .u8 p)) (hp : p = (X.toNat : Int)) (hy : evo F y = some (.int kd q)) {m : Nat} (hm : q = (m : Int)) (hd : Nat.blt d n = true) (k : ∀ a w, St n ((d, .int .u8 (((X <<< m).toNat : Nat) : Int)) :: F) w0 S M a w → wpList P ops Q rest a w) : wpList P ops Q (⟨some d, .binOp .shl t x y t2, ty, pos, af, none⟩ :: rest) a w :=
  st_pure hs (by subst hm; have h1 : ¬ (m : Int) < 0 := (by omega); simp only [execOp, hs.ev hx, hs.ev hy, binOp, eqGuard, Op.shift, hp, h1]; simp [-BitVec.toNat_shiftLeft]; exact shl_u8 X m) hd k
theorem st_shr_u8 {x y : Operand} {p q : Int} {kd : IntKind} {X : BitVec 8} {t t2 : TypeId} {d : Nat} {ty : TypeId} {pos : String} {af : Array Edge} (hs : St n F w0 S M a w) (hx : evo F x = some (.int .u8 p)) (hp : p = (X.toNat : Int)) (hy : evo F y = some (.int kd q)) {m : Nat} (hm : q = (m : Int)) (hd : Nat.blt d n = true) (k : ∀ a w, St n ((d, .int .u8 (((X >>> m).toNat : Nat) : Int)) :: F) w0 S M a w → wpList P ops Q rest a w) : wpList P ops Q (⟨some d, .binOp .shr t x y t2, ty, pos, af, none⟩ :: rest) a w :=
  st_pure hs (by subst hm; have h1 : ¬ (m : Int) < 0 := (by omega); simp only [execOp, hs.ev hx, hs.ev hy, binOp, eqGuard, Op.shift, hp, h1]; simp [-BitVec.toNat_ushiftRight]; exact shr_u8 X m) hd k
theorem wneg_u8 (X : BitVec 8) : IntKind.u8.wrap (0 - (X.toNat : Int)) = ((-X).toNat : Int) := by
  rw [wrap_unsigned rfl]
  show ((BitVec.ofInt 8 _).toNat : Int) = _
  rw [Int.zero_sub, BitVec.ofInt_neg, ofInt_nat]
theorem st_neg_u8 {x : Operand} {p : Int} {X : BitVec 8} {t : TypeId} {d : Nat} {ty : TypeId} {pos : String} {af : Array Edge} (hs : St n F w0 S M a w) (hx : evo F x = some (.int .u8 p)) (hp : p = (X.toNat : Int)) (hd : Nat.blt d n = true) (k : ∀ a w, St n ((d, .int .u8 (((-X).toNat : Nat) : Int)) :: F) w0 S M a w → wpList P ops Q rest a w) : wpList P ops Q (⟨some d, .unOp .neg t x, ty, pos, af, none⟩ :: rest) a w :=
  st_pure hs (by simp only [execOp, hs.ev hx, Op.unary, Op.intArith, hp]; simp [-BitVec.toNat_neg, -Int.zero_sub]; exact wneg_u8 X) hd k
theorem wnot_u8 (X : BitVec 8) : IntKind.u8.wrap ((BitVec.ofInt 8 IntKind.u8.max ^^^ BitVec.ofInt 8 (X.toNat : Int)).toNat : Int) = ((~~~X).toNat : Int) := by
  rw [wrap_unsigned rfl]
  show ((BitVec.ofInt 8 _).toNat : Int) = _
  rw [ofInt_nat, ofInt_nat]
  have e : BitVec.ofInt 8 IntKind.u8.max = BitVec.allOnes 8 := by decide
  rw [e, BitVec.allOnes_xor]
theorem st_not_u8 {x : Operand} {p : Int} {X : BitVec 8} {t : TypeId} {d : Nat} {ty : TypeId} {pos : String} {af : Array Edge} (hs : St n F w0 S M a w) (hx : evo F x = some (.int .u8 p)) (hp : p = (X.toNat : Int)) (hd : Nat.blt d n = true) (k : ∀ a w, St n ((d, .int .u8 (((~~~X).toNat : Nat) : Int)) :: F) w0 S M a w → wpList P ops Q rest a w) : wpList P ops Q (⟨some d, .unOp .xor t x, ty, pos, af, none⟩ :: rest) a w :=
  st_pure hs (by simp only [execOp, hs.ev hx, Op.unary, Op.intBits, hp]; simp [-BitVec.toNat_not, -BitVec.toNat_xor, IntKind.signed, -BitVec.ofInt_natCast]; exact wnot_u8 X) hd k
theorem wquo_u8 (X Y : BitVec 8) : IntKind.u8.wrap ((X.toNat : Int).tdiv (Y.toNat : Int)) = ((X / Y).toNat : Int) := by
  rw [Int.tdiv_eq_ediv_of_nonneg (by omega), ← Int.natCast_ediv, ← BitVec.toNat_udiv, wrap_unsigned rfl]
  show ((BitVec.ofInt 8 _).toNat : Int) = _
  rw [ofInt_nat]
theorem st_quo_u8 {x y : Operand} {p q : Int} {X Y : BitVec 8} {t t2 : TypeId} {d : Nat} {ty : TypeId} {pos : String} {af : Array Edge} (hs : St n F w0 S M a w) (hx : evo F x = some (.int .u8 p)) (hp : p = (X.toNat : Int)) (hy : evo F y = some (.int .u8 q)) (hq : q = (Y.toNat : Int)) (h0 : Y ≠ 0) (hd : Nat.blt d n = true) (k : ∀ a w, St n ((d, .int .u8 (((X / Y).toNat : Nat) : Int)) :: F) w0 S M a w → wpList P ops Q rest a w) : wpList P ops Q (⟨some d, .binOp .quo t x y t2, ty, pos, af, none⟩ :: rest) a w :=
  st_pure hs (by have h1 : ¬ (Y.toNat : Int) = 0 := fun e => h0 (BitVec.eq_of_toNat_eq (by simpa using Int.natCast_eq_zero.1 e)); simp only [execOp, hs.ev hx, hs.ev hy, binOp, eqGuard, Op.intDiv, hp, hq, h1]; simp [-BitVec.toNat_udiv, -BitVec.toNat_umod]; exact wquo_u8 X Y) hd k
theorem wrem_u8 (X Y : BitVec 8) : (X.toNat : Int).tmod (Y.toNat : Int) = ((X % Y).toNat : Int) := by
  rw [Int.tmod_eq_emod_of_nonneg (by omega), ← Int.natCast_emod, ← BitVec.toNat_umod]
theorem st_rem_u8 {x y : Operand} {p q : Int} {X Y : BitVec 8} {t t2 : TypeId} {d : Nat} {ty : TypeId} {pos : String} {af : Array Edge} (hs : St n F w0 S M a w) (hx : evo F x = some (.int .u8 p)) (hp : p = (X.toNat : Int)) (hy : evo F y = some (.int .u8 q)) (hq : q = (Y.toNat : Int)) (h0 : Y ≠ 0) (hd : Nat.blt d n = true) (k : ∀ a w, St n ((d, .int .u8 (((X % Y).toNat : Nat) : Int)) :: F) w0 S M a w → wpList P ops Q rest a w) : wpList P ops Q (⟨some d, .binOp .rem t x y t2, ty, pos, af, none⟩ :: rest) a w :=
  st_pure hs (by have h1 : ¬ (Y.toNat : Int) = 0 := fun e => h0 (BitVec.eq_of_toNat_eq (by simpa using Int.natCast_eq_zero.1 e)); simp only [execOp, hs.ev hx, hs.ev hy, binOp, eqGuard, Op.intDiv, hp, hq, h1]; simp [-BitVec.toNat_udiv, -BitVec.toNat_umod]; exact wrem_u8 X Y) hd k
theorem wadd_u16 (X Y : BitVec 16) : IntKind.u16.wrap ((X.toNat : Int) + Y.toNat) = ((X + Y).toNat : Int) := by
  rw [wrap_unsigned rfl]
  show ((BitVec.ofInt 16 ((X.toNat : Int) + Y.toNat)).toNat : Int) = _
  rw [BitVec.ofInt_add, ofInt_nat, ofInt_nat]
theorem st_add_u16 {x y : Operand} {p q : Int} {X Y : BitVec 16} {t t2 : TypeId} {d : Nat} {ty : TypeId} {pos : String} {af : Array Edge} (hs : St n F w0 S M a w) (hx : evo F x = some (.int .u16 p)) (hp : p = (X.toNat : Int)) (hy : evo F y = some (.int .u16 q)) (hq : q = (Y.toNat : Int)) (hd : Nat.blt d n = true) (k : ∀ a w, St n ((d, .int .u16 (((X + Y).toNat : Nat) : Int)) :: F) w0 S M a w → wpList P ops Q rest a w) : wpList P ops Q (⟨some d, .binOp .add t x y t2, ty, pos, af, none⟩ :: rest) a w :=
  st_pure hs (by simp [execOp, hs.ev hx, hs.ev hy, binOp, eqGuard, Op.intArith, hp, hq, -BitVec.toNat_add, -BitVec.toNat_sub, -BitVec.toNat_mul]; exact wadd_u16 X Y) hd k
theorem wsub_u16 (X Y : BitVec 16) : IntKind.u16.wrap ((X.toNat : Int) - Y.toNat) = ((X - Y).toNat : Int) := by
  rw [wrap_unsigned rfl]
  show ((BitVec.ofInt 16 ((X.toNat : Int) - Y.toNat)).toNat : Int) = _
  rw [Int.sub_eq_add_neg, BitVec.ofInt_add, BitVec.ofInt_neg, ofInt_nat, ofInt_nat, BitVec.sub_eq_add_neg]
theorem st_sub_u16 {x y : Operand} {p q : Int} {X Y : BitVec 16} {t t2 : TypeId} {d : Nat} {ty : TypeId} {pos : String} {af : Array Edge} (hs : St n F w0 S M a w) (hx : evo F x = some (.int .u16 p)) (hp : p = (X.toNat : Int)) (hy : evo F y = some (.int .u16 q)) (hq : q = (Y.toNat : Int)) (hd : Nat.blt d n = true) (k : ∀ a w, St n ((d, .int .u16 (((X - Y).toNat : Nat) : Int)) :: F) w0 S M a w → wpList P ops Q rest a w) : wpList P ops Q (⟨some d, .binOp .sub t x y t2, ty, pos, af, none⟩ :: rest) a w :=
  st_pure hs (by simp [execOp, hs.ev hx, hs.ev hy, binOp, eqGuard, Op.intArith, hp, hq, -BitVec.toNat_add, -BitVec.toNat_sub, -BitVec.toNat_mul]; exact wsub_u16 X Y) hd k
theorem wmul_u16 (X Y : BitVec 16) : IntKind.u16.wrap ((X.toNat : Int) * Y.toNat) = ((X * Y).toNat : Int) := by
  rw [wrap_unsigned rfl]
  show ((BitVec.ofInt 16 ((X.toNat : Int) * Y.toNat)).toNat : Int) = _
  rw [BitVec.ofInt_mul, ofInt_nat, ofInt_nat]
theorem st_mul_u16 {x y : Operand} {p q : Int} {X Y : BitVec 16} {t t2 : TypeId} {d : Nat} {ty : TypeId} {pos : String} {af : Array Edge} (hs : St n F w0 S M a w) (hx : evo F x = some (.int .u16 p)) (hp : p = (X.toNat : Int)) (hy : evo F y = some (.int .u16 q)) (hq : q = (Y.toNat : Int)) (hd : Nat.blt d n = true) (k : ∀ a w, St n ((d, .int .u16 (((X * Y).toNat : Nat) : Int)) :: F) w0 S M a w → wpList P ops Q rest a w) : wpList P ops Q (⟨some d, .binOp .mul t x y t2, ty, pos, af, none⟩ :: rest) a w :=
  st_pure hs (by simp [execOp, hs.ev hx, hs.ev hy, binOp, eqGuard, Op.intArith, hp, hq, -BitVec.toNat_add, -BitVec.toNat_sub, -BitVec.toNat_mul]; exact wmul_u16 X Y) hd k
theorem band_u16 (X Y : BitVec 16) : IntKind.u16.wrap ((X &&& Y).toNat : Int) = (((X &&& Y).toNat : Nat) : Int) := by
  rw [wrap_unsigned rfl]
  show ((BitVec.ofInt 16 _).toNat : Int) = _
  rw [ofInt_nat]
theorem st_and_u16 {x y : Operand} {p q : Int} {X Y : BitVec 16} {t t2 : TypeId} {d : Nat} {ty : TypeId} {pos : String} {af : Array Edge} (hs : St n F w0 S M a w) (hx : evo F x = some (.int .u16 p)) (hp : p = (X.toNat : Int)) (hy : evo F y = some (.int .u16 q)) (hq : q = (Y.toNat : Int)) (hd : Nat.blt d n = true) (k : ∀ a w, St n ((d, .int .u16 (((X &&& Y).toNat : Nat) : Int)) :: F) w0 S M a w → wpList P ops Q rest a w) : wpList P ops Q (⟨some d, .binOp .and t x y t2, ty, pos, af, none⟩ :: rest) a w :=
  st_pure hs (by simp only [execOp, hs.ev hx, hs.ev hy, binOp, eqGuard, Op.intBits, hp, hq]; simp [IntKind.bits, ofInt_nat, -BitVec.toNat_and, -BitVec.toNat_or, -BitVec.toNat_xor, -BitVec.toNat_not]; exact band_u16 X Y) hd k
theorem bor_u16 (X Y : BitVec 16) : IntKind.u16.wrap ((X ||| Y).toNat : Int) = (((X ||| Y).toNat : Nat) : Int) := by
  rw [wrap_unsigned rfl]
  show ((BitVec.ofInt 16 _).toNat : Int) = _
  rw [ofInt_nat]
theorem st_or_u16 {x y : Operand} {p q : Int} {X Y : BitVec 16} {t t2 : TypeId} {d : Nat} {ty : TypeId} {pos : String} {af : Array Edge} (hs : St n F w0 S M a w) (hx : evo F x = some (.int .u16 p)) (hp : p = (X.toNat : Int)) (hy : evo F y = some (.int .u16 q)) (hq : q = (Y.toNat : Int)) (hd : Nat.blt d n = true) (k : ∀ a w, St n ((d, .int .u16 (((X ||| Y).toNat : Nat) : Int)) :: F) w0 S M a w → wpList P ops Q rest a w) : wpList P ops Q (⟨some d, .binOp .or t x y t2, ty, pos, af, none⟩ :: rest) a w :=
  st_pure hs (by simp only [execOp, hs.ev hx, hs.ev hy, binOp, eqGuard, Op.intBits, hp, hq]; simp [IntKind.bits, ofInt_nat, -BitVec.toNat_and, -BitVec.toNat_or, -BitVec.toNat_xor, -BitVec.toNat_not]; exact bor_u16 X Y) hd k
theorem bxor_u16 (X Y : BitVec 16) : IntKind.u16.wrap ((X ^^^ Y).toNat : Int) = (((X ^^^ Y).toNat : Nat) : Int) := by
  rw [wrap_unsigned rfl]
  show ((BitVec.ofInt 16 _).toNat : Int) = _
  rw [ofInt_nat]
theorem st_xor_u16 {x y : Operand} {p q : Int} {X Y : BitVec 16} {t t2 : TypeId} {d : Nat} {ty : TypeId} {pos : String} {af : Array Edge} (hs : St n F w0 S M a w) (hx : evo F x = some (.int .u16 p)) (hp : p = (X.toNat : Int)) (hy : evo F y = some (.int .u16 q)) (hq : q = (Y.toNat : Int)) (hd : Nat.blt d n = true) (k : ∀ a w, St n ((d, .int .u16 (((X ^^^ Y).toNat : Nat) : Int)) :: F) w0 S M a w → wpList P ops Q rest a w) : wpList P ops Q (⟨some d, .binOp .xor t x y t2, ty, pos, af, none⟩ :: rest) a w :=
  st_pure hs (by simp only [execOp, hs.ev hx, hs.ev hy, binOp, eqGuard, Op.intBits, hp, hq]; simp [IntKind.bits, ofInt_nat, -BitVec.toNat_and, -BitVec.toNat_or, -BitVec.toNat_xor, -BitVec.toNat_not]; exact bxor_u16 X Y) hd k
theorem bandNot_u16 (X Y : BitVec 16) : IntKind.u16.wrap ((X &&& ~~~Y).toNat : Int) = (((X &&& ~~~Y).toNat : Nat) : Int) := by
  rw [wrap_unsigned rfl]
  show ((BitVec.ofInt 16 _).toNat : Int) = _
  rw [ofInt_nat]
theorem st_andNot_u16 {x y : Operand} {p q : Int} {X Y : BitVec 16} {t t2 : TypeId} {d : Nat} {ty : TypeId} {pos : String} {af : Array Edge} (hs : St n F w0 S M a w) (hx : evo F x = some (.int .u16 p)) (hp : p = (X.toNat : Int)) (hy : evo F y = some (.int .u16 q)) (hq : q = (Y.toNat : Int)) (hd : Nat.blt d n = true) (k : ∀ a w, St n ((d, .int .u16 (((X &&& ~~~Y).toNat : Nat) : Int)) :: F) w0 S M a w → wpList P ops Q rest a w) : wpList P ops Q (⟨some d, .binOp .andNot t x y t2, ty, pos, af, none⟩ :: rest) a w :=
  st_pure hs (by simp only [execOp, hs.ev hx, hs.ev hy, binOp, eqGuard, Op.intBits, hp, hq]; simp [IntKind.bits, ofInt_nat, -BitVec.toNat_and, -BitVec.toNat_or, -BitVec.toNat_xor, -BitVec.toNat_not]; exact bandNot_u16 X Y) hd k
theorem shl_u16 (X : BitVec 16) (m : Nat) : IntKind.u16.wrap ((X.toNat : Int) * 2 ^ (min m IntKind.u16.bits)) = ((X <<< m).toNat : Int) := by
  rw [wrap_unsigned rfl]
  show ((BitVec.ofInt 16 _).toNat : Int) = _
  have e : (X.toNat : Int) * 2 ^ (min m IntKind.u16.bits) = ((X.toNat * 2 ^ (min m 16) : Nat) : Int) := by simp [IntKind.bits]
  rw [e, BitVec.ofInt_natCast]
  congr 1
  simp only [BitVec.toNat_ofNat, BitVec.toNat_shiftLeft, Nat.shiftLeft_eq]
  rcases Nat.le_total m 16 with h | h
  · rw [Nat.min_eq_left h]
  · rw [Nat.min_eq_right h]
    obtain ⟨c, rfl⟩ := Nat.exists_eq_add_of_le h
    rw [Nat.pow_add, ← Nat.mul_assoc, Nat.mul_right_comm]
    simp
theorem shr_u16 (X : BitVec 16) (m : Nat) : (X.toNat : Int).fdiv (2 ^ (min m IntKind.u16.bits)) = ((X >>> m).toNat : Int) := by
  have e : (2 : Int) ^ (min m IntKind.u16.bits) = ((2 ^ (min m 16) : Nat) : Int) := by simp [IntKind.bits]
  rw [e, Int.fdiv_eq_ediv_of_nonneg _ (Int.natCast_nonneg _), ← Int.natCast_ediv]
  congr 1
  simp only [BitVec.toNat_ushiftRight, Nat.shiftRight_eq_div_pow]
  rcases Nat.le_total m 16 with h | h
  · rw [Nat.min_eq_left h]
  · rw [Nat.min_eq_right h, Nat.div_eq_of_lt X.isLt, Nat.div_eq_of_lt (Nat.lt_of_lt_of_le X.isLt (Nat.pow_le_pow_right (by omega) h))]
theorem st_shl_u16 {x y : Operand} {p q : Int} {kd : IntKind} {X : BitVec 16} {t t2 : TypeId} {d : Nat} {ty : TypeId} {pos : String} {af : Array Edge} (hs : St n F w0 S M a w) (hx : evo F x = some (.int .u16 p)) (hp : p = (X.toNat : Int)) (hy : evo F y = some (.int kd q)) {m : Nat} (hm : q = (m : Int)) (hd : Nat.blt d n = true) (k : ∀ a w, St n ((d, .int .u16 (((X <<< m).toNat : Nat) : Int)) :: F) w0 S M a w → wpList P ops Q rest a w) : wpList P ops Q (⟨some d, .binOp .shl t x y t2, ty, pos, af, none⟩ :: rest) a w :=
  st_pure hs (by subst hm; have h1 : ¬ (m : Int) < 0 := (by omega); simp only [execOp, hs.ev hx, hs.ev hy, binOp, eqGuard, Op.shift, hp, h1]; simp [-BitVec.toNat_shiftLeft]; exact shl_u16 X m) hd k
theorem st_shr_u16 {x y : Operand} {p q : Int} {kd : IntKind} {X : BitVec 16} {t t2 : TypeId} {d : Nat} {ty : TypeId} {pos : String} {af : Array Edge} (hs : St n F w0 S M a w) (hx : evo F x = some (.int .u16 p)) (hp : p = (X.toNat : Int)) (hy : evo F y = some (.int kd q)) {m : Nat} (hm : q = (m : Int)) (hd : Nat.blt d n = true) (k : ∀ a w, St n ((d, .int .u16 (((X >>> m).toNat : Nat) : Int)) :: F) w0 S M a w → wpList P ops Q rest a w) : wpList P ops Q (⟨some d, .binOp .shr t x y t2, ty, pos, af, none⟩ :: rest) a w :=
  st_pure hs (by subst hm; have h1 : ¬ (m : Int) < 0 := (by omega); simp only [execOp, hs.ev hx, hs.ev hy, binOp, eqGuard, Op.shift, hp, h1]; simp [-BitVec.toNat_ushiftRight]; exact shr_u16 X m) hd k
theorem wneg_u16 (X : BitVec 16) : IntKind.u16.wrap (0 - (X.toNat : Int)) = ((-X).toNat : Int) := by
  rw [wrap_unsigned rfl]
  show ((BitVec.ofInt 16 _).toNat : Int) = _
  rw [Int.zero_sub, BitVec.ofInt_neg, ofInt_nat]
theorem st_neg_u16 {x : Operand} {p : Int} {X : BitVec 16} {t : TypeId} {d : Nat} {ty : TypeId} {pos : String} {af : Array Edge} (hs : St n F w0 S M a w) (hx : evo F x = some (.int .u16 p)) (hp : p = (X.toNat : Int)) (hd : Nat.blt d n = true) (k : ∀ a w, St n ((d, .int .u16 (((-X).toNat : Nat) : Int)) :: F) w0 S M a w → wpList P ops Q rest a w) : wpList P ops Q (⟨some d, .unOp .neg t x, ty, pos, af, none⟩ :: rest) a w :=
  st_pure hs (by simp only [execOp, hs.ev hx, Op.unary, Op.intArith, hp]; simp [-BitVec.toNat_neg, -Int.zero_sub]; exact wneg_u16 X) hd k
theorem wnot_u16 (X : BitVec 16) : IntKind.u16.wrap ((BitVec.ofInt 16 IntKind.u16.max ^^^ BitVec.ofInt 16 (X.toNat : Int)).toNat : Int) = ((~~~X).toNat : Int) := by
  rw [wrap_unsigned rfl]
  show ((BitVec.ofInt 16 _).toNat : Int) = _
  rw [ofInt_nat, ofInt_nat]
  have e : BitVec.ofInt 16 IntKind.u16.max = BitVec.allOnes 16 := by decide
  rw [e, BitVec.allOnes_xor]
theorem st_not_u16 {x : Operand} {p : Int} {X : BitVec 16} {t : TypeId} {d : Nat} {ty : TypeId} {pos : String} {af : Array Edge} (hs : St n F w0 S M a w) (hx : evo F x = some (.int .u16 p)) (hp : p = (X.toNat : Int)) (hd : Nat.blt d n = true) (k : ∀ a w, St n ((d, .int .u16 (((~~~X).toNat : Nat) : Int)) :: F) w0 S M a w → wpList P ops Q rest a w) : wpList P ops Q (⟨some d, .unOp .xor t x, ty, pos, af, none⟩ :: rest) a w :=
  st_pure hs (by simp only [execOp, hs.ev hx, Op.unary, Op.intBits, hp]; simp [-BitVec.toNat_not, -BitVec.toNat_xor, IntKind.signed, -BitVec.ofInt_natCast]; exact wnot_u16 X) hd k
theorem wquo_u16 (X Y : BitVec 16) : IntKind.u16.wrap ((X.toNat : Int).tdiv (Y.toNat : Int)) = ((X / Y).toNat : Int) := by
  rw [Int.tdiv_eq_ediv_of_nonneg (by omega), ← Int.natCast_ediv, ← BitVec.toNat_udiv, wrap_unsigned rfl]
  show ((BitVec.ofInt 16 _).toNat : Int) = _
  rw [ofInt_nat]
theorem st_quo_u16 {x y : Operand} {p q : Int} {X Y : BitVec 16} {t t2 : TypeId} {d : Nat} {ty : TypeId} {pos : String} {af : Array Edge} (hs : St n F w0 S M a w) (hx : evo F x = some (.int .u16 p)) (hp : p = (X.toNat : Int)) (hy : evo F y = some (.int .u16 q)) (hq : q = (Y.toNat : Int)) (h0 : Y ≠ 0) (hd : Nat.blt d n = true) (k : ∀ a w, St n ((d, .int .u16 (((X / Y).toNat : Nat) : Int)) :: F) w0 S M a w → wpList P ops Q rest a w) : wpList P ops Q (⟨some d, .binOp .quo t x y t2, ty, pos, af, none⟩ :: rest) a w :=
  st_pure hs (by have h1 : ¬ (Y.toNat : Int) = 0 := fun e => h0 (BitVec.eq_of_toNat_eq (by simpa using Int.natCast_eq_zero.1 e)); simp only [execOp, hs.ev hx, hs.ev hy, binOp, eqGuard, Op.intDiv, hp, hq, h1]; simp [-BitVec.toNat_udiv, -BitVec.toNat_umod]; exact wquo_u16 X Y) hd k
theorem wrem_u16 (X Y : BitVec 16) : (X.toNat : Int).tmod (Y.toNat : Int) = ((X % Y).toNat : Int) := by
  rw [Int.tmod_eq_emod_of_nonneg (by omega), ← Int.natCast_emod, ← BitVec.toNat_umod]
theorem st_rem_u16 {x y : Operand} {p q : Int} {X Y : BitVec 16} {t t2 : TypeId} {d : Nat} {ty : TypeId} {pos : String} {af : Array Edge} (hs : St n F w0 S M a w) (hx : evo F x = some (.int .u16 p)) (hp : p = (X.toNat : Int)) (hy : evo F y = some (.int .u16 q)) (hq : q = (Y.toNat : Int)) (h0 : Y ≠ 0) (hd : Nat.blt d n = true) (k : ∀ a w, St n ((d, .int .u16 (((X % Y).toNat : Nat) : Int)) :: F) w0 S M a w → wpList P ops Q rest a w) : wpList P ops Q (⟨some d, .binOp .rem t x y t2, ty, pos, af, none⟩ :: rest) a w :=
  st_pure hs (by have h1 : ¬ (Y.toNat : Int) = 0 := fun e => h0 (BitVec.eq_of_toNat_eq (by simpa using Int.natCast_eq_zero.1 e)); simp only [execOp, hs.ev hx, hs.ev hy, binOp, eqGuard, Op.intDiv, hp, hq, h1]; simp [-BitVec.toNat_udiv, -BitVec.toNat_umod]; exact wrem_u16 X Y) hd k
theorem wadd_u32 (X Y : BitVec 32) : IntKind.u32.wrap ((X.toNat : Int) + Y.toNat) = ((X + Y).toNat : Int) := by
  rw [wrap_unsigned rfl]
  show ((BitVec.ofInt 32 ((X.toNat : Int) + Y.toNat)).toNat : Int) = _
  rw [BitVec.ofInt_add, ofInt_nat, ofInt_nat]
theorem st_add_u32 {x y : Operand} {p q : Int} {X Y : BitVec 32} {t t2 : TypeId} {d : Nat} {ty : TypeId} {pos : String} {af : Array Edge} (hs : St n F w0 S M a w) (hx : evo F x = some (.int .u32 p)) (hp : p = (X.toNat : Int)) (hy : evo F y = some (.int .u32 q)) (hq : q = (Y.toNat : Int)) (hd : Nat.blt d n = true) (k : ∀ a w, St n ((d, .int .u32 (((X + Y).toNat : Nat) : Int)) :: F) w0 S M a w → wpList P ops Q rest a w) : wpList P ops Q (⟨some d, .binOp .add t x y t2, ty, pos, af, none⟩ :: rest) a w :=
  st_pure hs (by simp [execOp, hs.ev hx, hs.ev hy, binOp, eqGuard, Op.intArith, hp, hq, -BitVec.toNat_add, -BitVec.toNat_sub, -BitVec.toNat_mul]; exact wadd_u32 X Y) hd k
theorem wsub_u32 (X Y : BitVec 32) : IntKind.u32.wrap ((X.toNat : Int) - Y.toNat) = ((X - Y).toNat : Int) := by
  rw [wrap_unsigned rfl]
  show ((BitVec.ofInt 32 ((X.toNat : Int) - Y.toNat)).toNat : Int) = _
  rw [Int.sub_eq_add_neg, BitVec.ofInt_add, BitVec.ofInt_neg, ofInt_nat, ofInt_nat, BitVec.sub_eq_add_neg]
theorem st_sub_u32 {x y : Operand} {p q : Int} {X Y : BitVec 32} {t t2 : TypeId} {d : Nat} {ty : TypeId} {pos : String} {af : Array Edge} (hs : St n F w0 S M a w) (hx : evo F x = some (.int .u32 p)) (hp : p = (X.toNat : Int)) (hy : evo F y = some (.int .u32 q)) (hq : q = (Y.toNat : Int)) (hd : Nat.blt d n = true) (k : ∀ a w, St n ((d, .int .u32 (((X - Y).toNat : Nat) : Int)) :: F) w0 S M a w → wpList P ops Q rest a w) : wpList P ops Q (⟨some d, .binOp .sub t x y t2, ty, pos, af, none⟩ :: rest) a w :=
  st_pure hs (by simp [execOp, hs.ev hx, hs.ev hy, binOp, eqGuard, Op.intArith, hp, hq, -BitVec.toNat_add, -BitVec.toNat_sub, -BitVec.toNat_mul]; exact wsub_u32 X Y) hd k
theorem wmul_u32 (X Y : BitVec 32) : IntKind.u32.wrap ((X.toNat : Int) * Y.toNat) = ((X * Y).toNat : Int) := by
  rw [wrap_unsigned rfl]
  show ((BitVec.ofInt 32 ((X.toNat : Int) * Y.toNat)).toNat : Int) = _
  rw [BitVec.ofInt_mul, ofInt_nat, ofInt_nat]
theorem st_mul_u32 {x y : Operand} {p q : Int} {X Y : BitVec 32} {t t2 : TypeId} {d : Nat} {ty : TypeId} {pos : String} {af : Array Edge} (hs : St n F w0 S M a w) (hx : evo F x = some (.int .u32 p)) (hp : p = (X.toNat : Int)) (hy : evo F y = some (.int .u32 q)) (hq : q = (Y.toNat : Int)) (hd : Nat.blt d n = true) (k : ∀ a w, St n ((d, .int .u32 (((X * Y).toNat : Nat) : Int)) :: F) w0 S M a w → wpList P ops Q rest a w) : wpList P ops Q (⟨some d, .binOp .mul t x y t2, ty, pos, af, none⟩ :: rest) a w :=
  st_pure hs (by simp [execOp, hs.ev hx, hs.ev hy, binOp, eqGuard, Op.intArith, hp, hq, -BitVec.toNat_add, -BitVec.toNat_sub, -BitVec.toNat_mul]; exact wmul_u32 X Y) hd k
theorem band_u32 (X Y : BitVec 32) : IntKind.u32.wrap ((X &&& Y).toNat : Int) = (((X &&& Y).toNat : Nat) : Int) := by
  rw [wrap_unsigned rfl]
  show ((BitVec.ofInt 32 _).toNat : Int) = _
  rw [ofInt_nat]
theorem st_and_u32 {x y : Operand} {p q : Int} {X Y : BitVec 32} {t t2 : TypeId} {d : Nat} {ty : TypeId} {pos : String} {af : Array Edge} (hs : St n F w0 S M a w) (hx : evo F x = some (.int .u32 p)) (hp : p = (X.toNat : Int)) (hy : evo F y = some (.int .u32 q)) (hq : q = (Y.toNat : Int)) (hd : Nat.blt d n = true) (k : ∀ a w, St n ((d, .int .u32 (((X &&& Y).toNat : Nat) : Int)) :: F) w0 S M a w → wpList P ops Q rest a w) : wpList P ops Q (⟨some d, .binOp .and t x y t2, ty, pos, af, none⟩ :: rest) a w :=
  st_pure hs (by simp only [execOp, hs.ev hx, hs.ev hy, binOp, eqGuard, Op.intBits, hp, hq]; simp [IntKind.bits, ofInt_nat, -BitVec.toNat_and, -BitVec.toNat_or, -BitVec.toNat_xor, -BitVec.toNat_not]; exact band_u32 X Y) hd k
theorem bor_u32 (X Y : BitVec 32) : IntKind.u32.wrap ((X ||| Y).toNat : Int) = (((X ||| Y).toNat : Nat) : Int) := by
  rw [wrap_unsigned rfl]
  show ((BitVec.ofInt 32 _).toNat : Int) = _
  rw [ofInt_nat]
theorem st_or_u32 {x y : Operand} {p q : Int} {X Y : BitVec 32} {t t2 : TypeId} {d : Nat} {ty : TypeId} {pos : String} {af : Array Edge} (hs : St n F w0 S M a w) (hx : evo F x = some (.int .u32 p)) (hp : p = (X.toNat : Int)) (hy : evo F y = some (.int .u32 q)) (hq : q = (Y.toNat : Int)) (hd : Nat.blt d n = true) (k : ∀ a w, St n ((d, .int .u32 (((X ||| Y).toNat : Nat) : Int)) :: F) w0 S M a w → wpList P ops Q rest a w) : wpList P ops Q (⟨some d, .binOp .or t x y t2, ty, pos, af, none⟩ :: rest) a w :=
  st_pure hs (by simp only [execOp, hs.ev hx, hs.ev hy, binOp, eqGuard, Op.intBits, hp, hq]; simp [IntKind.bits, ofInt_nat, -BitVec.toNat_and, -BitVec.toNat_or, -BitVec.toNat_xor, -BitVec.toNat_not]; exact bor_u32 X Y) hd k
theorem bxor_u32 (X Y : BitVec 32) : IntKind.u32.wrap ((X ^^^ Y).toNat : Int) = (((X ^^^ Y).toNat : Nat) : Int) := by
  rw [wrap_unsigned rfl]
  show ((BitVec.ofInt 32 _).toNat : Int) = _
  rw [ofInt_nat]
theorem st_xor_u32 {x y : Operand} {p q : Int} {X Y : BitVec 32} {t t2 : TypeId} {d : Nat} {ty : TypeId} {pos : String} {af : Array Edge} (hs : St n F w0 S M a w) (hx : evo F x = some (.int .u32 p)) (hp : p = (X.toNat : Int)) (hy : evo F y = some (.int .u32 q)) (hq : q = (Y.toNat : Int)) (hd : Nat.blt d n = true) (k : ∀ a w, St n ((d, .int .u32 (((X ^^^ Y).toNat : Nat) : Int)) :: F) w0 S M a w → wpList P ops Q rest a w) : wpList P ops Q (⟨some d, .binOp .xor t x y t2, ty, pos, af, none⟩ :: rest) a w :=
  st_pure hs (by simp only [execOp, hs.ev hx, hs.ev hy, binOp, eqGuard, Op.intBits, hp, hq]; simp [IntKind.bits, ofInt_nat, -BitVec.toNat_and, -BitVec.toNat_or, -BitVec.toNat_xor, -BitVec.toNat_not]; exact bxor_u32 X Y) hd k
theorem bandNot_u32 (X Y : BitVec 32) : IntKind.u32.wrap ((X &&& ~~~Y).toNat : Int) = (((X &&& ~~~Y).toNat : Nat) : Int) := by
  rw [wrap_unsigned rfl]
  show ((BitVec.ofInt 32 _).toNat : Int) = _
  rw [ofInt_nat]
theorem st_andNot_u32 {x y : Operand} {p q : Int} {X Y : BitVec 32} {t t2 : TypeId} {d : Nat} {ty : TypeId} {pos : String} {af : Array Edge} (hs : St n F w0 S M a w) (hx : evo F x = some (.int .u32 p)) (hp : p = (X.toNat : Int)) (hy : evo F y = some (.int .u32 q)) (hq : q = (Y.toNat : Int)) (hd : Nat.blt d n = true) (k : ∀ a w, St n ((d, .int .u32 (((X &&& ~~~Y).toNat : Nat) : Int)) :: F) w0 S M a w → wpList P ops Q rest a w) : wpList P ops Q (⟨some d, .binOp .andNot t x y t2, ty, pos, af, none⟩ :: rest) a w :=
  st_pure hs (by simp only [execOp, hs.ev hx, hs.ev hy, binOp, eqGuard, Op.intBits, hp, hq]; simp [IntKind.bits, ofInt_nat, -BitVec.toNat_and, -BitVec.toNat_or, -BitVec.toNat_xor, -BitVec.toNat_not]; exact bandNot_u32 X Y) hd k
theorem shl_u32 (X : BitVec 32) (m : Nat) : IntKind.u32.wrap ((X.toNat : Int) * 2 ^ (min m IntKind.u32.bits)) = ((X <<< m).toNat : Int) := by
  rw [wrap_unsigned rfl]
  show ((BitVec.ofInt 32 _).toNat : Int) = _
  have e : (X.toNat : Int) * 2 ^ (min m IntKind.u32.bits) = ((X.toNat * 2 ^ (min m 32) : Nat) : Int) := by simp [IntKind.bits]
  rw [e, BitVec.ofInt_natCast]
  congr 1
  simp only [BitVec.toNat_ofNat, BitVec.toNat_shiftLeft, Nat.shiftLeft_eq]
  rcases Nat.le_total m 32 with h | h
  · rw [Nat.min_eq_left h]
  · rw [Nat.min_eq_right h]
    obtain ⟨c, rfl⟩ := Nat.exists_eq_add_of_le h
    rw [Nat.pow_add, ← Nat.mul_assoc, Nat.mul_right_comm]
    simp
theorem shr_u32 (X : BitVec 32) (m : Nat) : (X.toNat : Int).fdiv (2 ^ (min m IntKind.u32.bits)) = ((X >>> m).toNat : Int) := by
  have e : (2 : Int) ^ (min m IntKind.u32.bits) = ((2 ^ (min m 32) : Nat) : Int) := by simp [IntKind.bits]
  rw [e, Int.fdiv_eq_ediv_of_nonneg _ (Int.natCast_nonneg _), ← Int.natCast_ediv]
  congr 1
  simp only [BitVec.toNat_ushiftRight, Nat.shiftRight_eq_div_pow]
  rcases Nat.le_total m 32 with h | h
  · rw [Nat.min_eq_left h]
  · rw [Nat.min_eq_right h, Nat.div_eq_of_lt X.isLt, Nat.div_eq_of_lt (Nat.lt_of_lt_of_le X.isLt (Nat.pow_le_pow_right (by omega) h))]
theorem st_shl_u32 {x y : Operand} {p q : Int} {kd : IntKind} {X : BitVec 32} {t t2 : TypeId} {d : Nat} {ty : TypeId} {pos : String} {af : Array Edge} (hs : St n F w0 S M a w) (hx : evo F x = some (.int .u32 p)) (hp : p = (X.toNat : Int)) (hy : evo F y = some (.int kd q)) {m : Nat} (hm : q = (m : Int)) (hd : Nat.blt d n = true) (k : ∀ a w, St n ((d, .int .u32 (((X <<< m).toNat : Nat) : Int)) :: F) w0 S M a w → wpList P ops Q rest a w) : wpList P ops Q (⟨some d, .binOp .shl t x y t2, ty, pos, af, none⟩ :: rest) a w :=
  st_pure hs (by subst hm; have h1 : ¬ (m : Int) < 0 := (by omega); simp only [execOp, hs.ev hx, hs.ev hy, binOp, eqGuard, Op.shift, hp, h1]; simp [-BitVec.toNat_shiftLeft]; exact shl_u32 X m) hd k
theorem st_shr_u32 {x y : Operand} {p q : Int} {kd : IntKind} {X : BitVec 32} {t t2 : TypeId} {d : Nat} {ty : TypeId} {pos : String} {af : Array Edge} (hs : St n F w0 S M a w) (hx : evo F x = some (.int .u32 p)) (hp : p = (X.toNat : Int)) (hy : evo F y = some (.int kd q)) {m : Nat} (hm : q = (m : Int)) (hd : Nat.blt d n = true) (k : ∀ a w, St n ((d, .int .u32 (((X >>> m).toNat : Nat) : Int)) :: F) w0 S M a w → wpList P ops Q rest a w) : wpList P ops Q (⟨some d, .binOp .shr t x y t2, ty, pos, af, none⟩ :: rest) a w :=
  st_pure hs (by subst hm; have h1 : ¬ (m : Int) < 0 := (by omega); simp only [execOp, hs.ev hx, hs.ev hy, binOp, eqGuard, Op.shift, hp, h1]; simp [-BitVec.toNat_ushiftRight]; exact shr_u32 X m) hd k
theorem wneg_u32 (X : BitVec 32) : IntKind.u32.wrap (0 - (X.toNat : Int)) = ((-X).toNat : Int) := by
  rw [wrap_unsigned rfl]
  show ((BitVec.ofInt 32 _).toNat : Int) = _
  rw [Int.zero_sub, BitVec.ofInt_neg, ofInt_nat]
theorem st_neg_u32 {x : Operand} {p : Int} {X : BitVec 32} {t : TypeId} {d : Nat} {ty : TypeId} {pos : String} {af : Array Edge} (hs : St n F w0 S M a w) (hx : evo F x = some (.int .u32 p)) (hp : p = (X.toNat : Int)) (hd : Nat.blt d n = true) (k : ∀ a w, St n ((d, .int .u32 (((-X).toNat : Nat) : Int)) :: F) w0 S M a w → wpList P ops Q rest a w) : wpList P ops Q (⟨some d, .unOp .neg t x, ty, pos, af, none⟩ :: rest) a w :=
  st_pure hs (by simp only [execOp, hs.ev hx, Op.unary, Op.intArith, hp]; simp [-BitVec.toNat_neg, -Int.zero_sub]; exact wneg_u32 X) hd k
theorem wnot_u32 (X : BitVec 32) : IntKind.u32.wrap ((BitVec.ofInt 32 IntKind.u32.max ^^^ BitVec.ofInt 32 (X.toNat : Int)).toNat : Int) = ((~~~X).toNat : Int) := by
  rw [wrap_unsigned rfl]
  show ((BitVec.ofInt 32 _).toNat : Int) = _
  rw [ofInt_nat, ofInt_nat]
  have e : BitVec.ofInt 32 IntKind.u32.max = BitVec.allOnes 32 := by decide
  rw [e, BitVec.allOnes_xor]
theorem st_not_u32 {x : Operand} {p : Int} {X : BitVec 32} {t : TypeId} {d : Nat} {ty : TypeId} {pos : String} {af : Array Edge} (hs : St n F w0 S M a w) (hx : evo F x = some (.int .u32 p)) (hp : p = (X.toNat : Int)) (hd : Nat.blt d n = true) (k : ∀ a w, St n ((d, .int .u32 (((~~~X).toNat : Nat) : Int)) :: F) w0 S M a w → wpList P ops Q rest a w) : wpList P ops Q (⟨some d, .unOp .xor t x, ty, pos, af, none⟩ :: rest) a w :=
  st_pure hs (by simp only [execOp, hs.ev hx, Op.unary, Op.intBits, hp]; simp [-BitVec.toNat_not, -BitVec.toNat_xor, IntKind.signed, -BitVec.ofInt_natCast]; exact wnot_u32 X) hd k
theorem wquo_u32 (X Y : BitVec 32) : IntKind.u32.wrap ((X.toNat : Int).tdiv (Y.toNat : Int)) = ((X / Y).toNat : Int) := by
  rw [Int.tdiv_eq_ediv_of_nonneg (by omega), ← Int.natCast_ediv, ← BitVec.toNat_udiv, wrap_unsigned rfl]
  show ((BitVec.ofInt 32 _).toNat : Int) = _
  rw [ofInt_nat]
theorem st_quo_u32 {x y : Operand} {p q : Int} {X Y : BitVec 32} {t t2 : TypeId} {d : Nat} {ty : TypeId} {pos : String} {af : Array Edge} (hs : St n F w0 S M a w) (hx : evo F x = some (.int .u32 p)) (hp : p = (X.toNat : Int)) (hy : evo F y = some (.int .u32 q)) (hq : q = (Y.toNat : Int)) (h0 : Y ≠ 0) (hd : Nat.blt d n = true) (k : ∀ a w, St n ((d, .int .u32 (((X / Y).toNat : Nat) : Int)) :: F) w0 S M a w → wpList P ops Q rest a w) : wpList P ops Q (⟨some d, .binOp .quo t x y t2, ty, pos, af, none⟩ :: rest) a w :=
  st_pure hs (by have h1 : ¬ (Y.toNat : Int) = 0 := fun e => h0 (BitVec.eq_of_toNat_eq (by simpa using Int.natCast_eq_zero.1 e)); simp only [execOp, hs.ev hx, hs.ev hy, binOp, eqGuard, Op.intDiv, hp, hq, h1]; simp [-BitVec.toNat_udiv, -BitVec.toNat_umod]; exact wquo_u32 X Y) hd k
theorem wrem_u32 (X Y : BitVec 32) : (X.toNat : Int).tmod (Y.toNat : Int) = ((X % Y).toNat : Int) := by
  rw [Int.tmod_eq_emod_of_nonneg (by omega), ← Int.natCast_emod, ← BitVec.toNat_umod]
theorem st_rem_u32 {x y : Operand} {p q : Int} {X Y : BitVec 32} {t t2 : TypeId} {d : Nat} {ty : TypeId} {pos : String} {af : Array Edge} (hs : St n F w0 S M a w) (hx : evo F x = some (.int .u32 p)) (hp : p = (X.toNat : Int)) (hy : evo F y = some (.int .u32 q)) (hq : q = (Y.toNat : Int)) (h0 : Y ≠ 0) (hd : Nat.blt d n = true) (k : ∀ a w, St n ((d, .int .u32 (((X % Y).toNat : Nat) : Int)) :: F) w0 S M a w → wpList P ops Q rest a w) : wpList P ops Q (⟨some d, .binOp .rem t x y t2, ty, pos, af, none⟩ :: rest) a w :=
  st_pure hs (by have h1 : ¬ (Y.toNat : Int) = 0 := fun e => h0 (BitVec.eq_of_toNat_eq (by simpa using Int.natCast_eq_zero.1 e)); simp only [execOp, hs.ev hx, hs.ev hy, binOp, eqGuard, Op.intDiv, hp, hq, h1]; simp [-BitVec.toNat_udiv, -BitVec.toNat_umod]; exact wrem_u32 X Y) hd k
theorem wadd_u64 (X Y : BitVec 64) : IntKind.u64.wrap ((X.toNat : Int) + Y.toNat) = ((X + Y).toNat : Int) := by
  rw [wrap_unsigned rfl]
  show ((BitVec.ofInt 64 ((X.toNat : Int) + Y.toNat)).toNat : Int) = _
  rw [BitVec.ofInt_add, ofInt_nat, ofInt_nat]
theorem st_add_u64 {x y : Operand} {p q : Int} {X Y : BitVec 64} {t t2 : TypeId} {d : Nat} {ty : TypeId} {pos : String} {af : Array Edge} (hs : St n F w0 S M a w) (hx : evo F x = some (.int .u64 p)) (hp : p = (X.toNat : Int)) (hy : evo F y = some (.int .u64 q)) (hq : q = (Y.toNat : Int)) (hd : Nat.blt d n = true) (k : ∀ a w, St n ((d, .int .u64 (((X + Y).toNat : Nat) : Int)) :: F) w0 S M a w → wpList P ops Q rest a w) : wpList P ops Q (⟨some d, .binOp .add t x y t2, ty, pos, af, none⟩ :: rest) a w :=
  st_pure hs (by simp [execOp, hs.ev hx, hs.ev hy, binOp, eqGuard, Op.intArith, hp, hq, -BitVec.toNat_add, -BitVec.toNat_sub, -BitVec.toNat_mul]; exact wadd_u64 X Y) hd k
theorem wsub_u64 (X Y : BitVec 64) : IntKind.u64.wrap ((X.toNat : Int) - Y.toNat) = ((X - Y).toNat : Int) := by
  rw [wrap_unsigned rfl]
  show ((BitVec.ofInt 64 ((X.toNat : Int) - Y.toNat)).toNat : Int) = _
  rw [Int.sub_eq_add_neg, BitVec.ofInt_add, BitVec.ofInt_neg, ofInt_nat, ofInt_nat, BitVec.sub_eq_add_neg]
theorem st_sub_u64 {x y : Operand} {p q : Int} {X Y : BitVec 64} {t t2 : TypeId} {d : Nat} {ty : TypeId} {pos : String} {af : Array Edge} (hs : St n F w0 S M a w) (hx : evo F x = some (.int .u64 p)) (hp : p = (X.toNat : Int)) (hy : evo F y = some (.int .u64 q)) (hq : q = (Y.toNat : Int)) (hd : Nat.blt d n = true) (k : ∀ a w, St n ((d, .int .u64 (((X - Y).toNat : Nat) : Int)) :: F) w0 S M a w → wpList P ops Q rest a w) : wpList P ops Q (⟨some d, .binOp .sub t x y t2, ty, pos, af, none⟩ :: rest) a w :=
  st_pure hs (by simp [execOp, hs.ev hx, hs.ev hy, binOp, eqGuard, Op.intArith, hp, hq, -BitVec.toNat_add, -BitVec.toNat_sub, -BitVec.toNat_mul]; exact wsub_u64 X Y) hd k
theorem wmul_u64 (X Y : BitVec 64) : IntKind.u64.wrap ((X.toNat : Int) * Y.toNat) = ((X * Y).toNat : Int) := by
  rw [wrap_unsigned rfl]
  show ((BitVec.ofInt 64 ((X.toNat : Int) * Y.toNat)).toNat : Int) = _
  rw [BitVec.ofInt_mul, ofInt_nat, ofInt_nat]
theorem st_mul_u64 {x y : Operand} {p q : Int} {X Y : BitVec 64} {t t2 : TypeId} {d : Nat} {ty : TypeId} {pos : String} {af : Array Edge} (hs : St n F w0 S M a w) (hx : evo F x = some (.int .u64 p)) (hp : p = (X.toNat : Int)) (hy : evo F y = some (.int .u64 q)) (hq : q = (Y.toNat : Int)) (hd : Nat.blt d n = true) (k : ∀ a w, St n ((d, .int .u64 (((X * Y).toNat : Nat) : Int)) :: F) w0 S M a w → wpList P ops Q rest a w) : wpList P ops Q (⟨some d, .binOp .mul t x y t2, ty, pos, af, none⟩ :: rest) a w :=
  st_pure hs (by simp [execOp, hs.ev hx, hs.ev hy, binOp, eqGuard, Op.intArith, hp, hq, -BitVec.toNat_add, -BitVec.toNat_sub, -BitVec.toNat_mul]; exact wmul_u64 X Y) hd k
theorem band_u64 (X Y : BitVec 64) : IntKind.u64.wrap ((X &&& Y).toNat : Int) = (((X &&& Y).toNat : Nat) : Int) := by
  rw [wrap_unsigned rfl]
  show ((BitVec.ofInt 64 _).toNat : Int) = _
  rw [ofInt_nat]
theorem st_and_u64 {x y : Operand} {p q : Int} {X Y : BitVec 64} {t t2 : TypeId} {d : Nat} {ty : TypeId} {pos : String} {af : Array Edge} (hs : St n F w0 S M a w) (hx : evo F x = some (.int .u64 p)) (hp : p = (X.toNat : Int)) (hy : evo F y = some (.int .u64 q)) (hq : q = (Y.toNat : Int)) (hd : Nat.blt d n = true) (k : ∀ a w, St n ((d, .int .u64 (((X &&& Y).toNat : Nat) : Int)) :: F) w0 S M a w → wpList P ops Q rest a w) : wpList P ops Q (⟨some d, .binOp .and t x y t2, ty, pos, af, none⟩ :: rest) a w :=
  st_pure hs (by simp only [execOp, hs.ev hx, hs.ev hy, binOp, eqGuard, Op.intBits, hp, hq]; simp [IntKind.bits, ofInt_nat, -BitVec.toNat_and, -BitVec.toNat_or, -BitVec.toNat_xor, -BitVec.toNat_not]; exact band_u64 X Y) hd k
theorem bor_u64 (X Y : BitVec 64) : IntKind.u64.wrap ((X ||| Y).toNat : Int) = (((X ||| Y).toNat : Nat) : Int) := by
  rw [wrap_unsigned rfl]
  show ((BitVec.ofInt 64 _).toNat : Int) = _
  rw [ofInt_nat]
theorem st_or_u64 {x y : Operand} {p q : Int} {X Y : BitVec 64} {t t2 : TypeId} {d : Nat} {ty : TypeId} {pos : String} {af : Array Edge} (hs : St n F w0 S M a w) (hx : evo F x = some (.int .u64 p)) (hp : p = (X.toNat : Int)) (hy : evo F y = some (.int .u64 q)) (hq : q = (Y.toNat : Int)) (hd : Nat.blt d n = true) (k : ∀ a w, St n ((d, .int .u64 (((X ||| Y).toNat : Nat) : Int)) :: F) w0 S M a w → wpList P ops Q rest a w) : wpList P ops Q (⟨some d, .binOp .or t x y t2, ty, pos, af, none⟩ :: rest) a w :=
  st_pure hs (by simp only [execOp, hs.ev hx, hs.ev hy, binOp, eqGuard, Op.intBits, hp, hq]; simp [IntKind.bits, ofInt_nat, -BitVec.toNat_and, -BitVec.toNat_or, -BitVec.toNat_xor, -BitVec.toNat_not]; exact bor_u64 X Y) hd k
theorem bxor_u64 (X Y : BitVec 64) : IntKind.u64.wrap ((X ^^^ Y).toNat : Int) = (((X ^^^ Y).toNat : Nat) : Int) := by
  rw [wrap_unsigned rfl]
  show ((BitVec.ofInt 64 _).toNat : Int) = _
  rw [ofInt_nat]
theorem st_xor_u64 {x y : Operand} {p q : Int} {X Y : BitVec 64} {t t2 : TypeId} {d : Nat} {ty : TypeId} {pos : String} {af : Array Edge} (hs : St n F w0 S M a w) (hx : evo F x = some (.int .u64 p)) (hp : p = (X.toNat : Int)) (hy : evo F y = some (.int .u64 q)) (hq : q = (Y.toNat : Int)) (hd : Nat.blt d n = true) (k : ∀ a w, St n ((d, .int .u64 (((X ^^^ Y).toNat : Nat) : Int)) :: F) w0 S M a w → wpList P ops Q rest a w) : wpList P ops Q (⟨some d, .binOp .xor t x y t2, ty, pos, af, none⟩ :: rest) a w :=
  st_pure hs (by simp only [execOp, hs.ev hx, hs.ev hy, binOp, eqGuard, Op.intBits, hp, hq]; simp [IntKind.bits, ofInt_nat, -BitVec.toNat_and, -BitVec.toNat_or, -BitVec.toNat_xor, -BitVec.toNat_not]; exact bxor_u64 X Y) hd k
theorem bandNot_u64 (X Y : BitVec 64) : IntKind.u64.wrap ((X &&& ~~~Y).toNat : Int) = (((X &&& ~~~Y).toNat : Nat) : Int) := by
  rw [wrap_unsigned rfl]
  show ((BitVec.ofInt 64 _).toNat : Int) = _
  rw [ofInt_nat]
theorem st_andNot_u64 {x y : Operand} {p q : Int} {X Y : BitVec 64} {t t2 : TypeId} {d : Nat} {ty : TypeId} {pos : String} {af : Array Edge} (hs : St n F w0 S M a w) (hx : evo F x = some (.int .u64 p)) (hp : p = (X.toNat : Int)) (hy : evo F y = some (.int .u64 q)) (hq : q = (Y.toNat : Int)) (hd : Nat.blt d n = true) (k : ∀ a w, St n ((d, .int .u64 (((X &&& ~~~Y).toNat : Nat) : Int)) :: F) w0 S M a w → wpList P ops Q rest a w) : wpList P ops Q (⟨some d, .binOp .andNot t x y t2, ty, pos, af, none⟩ :: rest) a w :=
  st_pure hs (by simp only [execOp, hs.ev hx, hs.ev hy, binOp, eqGuard, Op.intBits, hp, hq]; simp [IntKind.bits, ofInt_nat, -BitVec.toNat_and, -BitVec.toNat_or, -BitVec.toNat_xor, -BitVec.toNat_not]; exact bandNot_u64 X Y) hd k
theorem shl_u64 (X : BitVec 64) (m : Nat) : IntKind.u64.wrap ((X.toNat : Int) * 2 ^ (min m IntKind.u64.bits)) = ((X <<< m).toNat : Int) := by
  rw [wrap_unsigned rfl]
  show ((BitVec.ofInt 64 _).toNat : Int) = _
  have e : (X.toNat : Int) * 2 ^ (min m IntKind.u64.bits) = ((X.toNat * 2 ^ (min m 64) : Nat) : Int) := by simp [IntKind.bits]
  rw [e, BitVec.ofInt_natCast]
  congr 1
  simp only [BitVec.toNat_ofNat, BitVec.toNat_shiftLeft, Nat.shiftLeft_eq]
  rcases Nat.le_total m 64 with h | h
  · rw [Nat.min_eq_left h]
  · rw [Nat.min_eq_right h]
    obtain ⟨c, rfl⟩ := Nat.exists_eq_add_of_le h
    rw [Nat.pow_add, ← Nat.mul_assoc, Nat.mul_right_comm]
    simp
theorem shr_u64 (X : BitVec 64) (m : Nat) : (X.toNat : Int).fdiv (2 ^ (min m IntKind.u64.bits)) = ((X >>> m).toNat : Int) := by
  have e : (2 : Int) ^ (min m IntKind.u64.bits) = ((2 ^ (min m 64) : Nat) : Int) := by simp [IntKind.bits]
  rw [e, Int.fdiv_eq_ediv_of_nonneg _ (Int.natCast_nonneg _), ← Int.natCast_ediv]
  congr 1
  simp only [BitVec.toNat_ushiftRight, Nat.shiftRight_eq_div_pow]
  rcases Nat.le_total m 64 with h | h
  · rw [Nat.min_eq_left h]
  · rw [Nat.min_eq_right h, Nat.div_eq_of_lt X.isLt, Nat.div_eq_of_lt (Nat.lt_of_lt_of_le X.isLt (Nat.pow_le_pow_right (by omega) h))]
theorem st_shl_u64 {x y : Operand} {p q : Int} {kd : IntKind} {X : BitVec 64} {t t2 : TypeId} {d : Nat} {ty : TypeId} {pos : String} {af : Array Edge} (hs : St n F w0 S M a w) (hx : evo F x = some (.int .u64 p)) (hp : p = (X.toNat : Int)) (hy : evo F y = some (.int kd q)) {m : Nat} (hm : q = (m : Int)) (hd : Nat.blt d n = true) (k : ∀ a w, St n ((d, .int .u64 (((X <<< m).toNat : Nat) : Int)) :: F) w0 S M a w → wpList P ops Q rest a w) : wpList P ops Q (⟨some d, .binOp .shl t x y t2, ty, pos, af, none⟩ :: rest) a w :=
  st_pure hs (by subst hm; have h1 : ¬ (m : Int) < 0 := (by omega); simp only [execOp, hs.ev hx, hs.ev hy, binOp, eqGuard, Op.shift, hp, h1]; simp [-BitVec.toNat_shiftLeft]; exact shl_u64 X m) hd k
theorem st_shr_u64 {x y : Operand} {p q : Int} {kd : IntKind} {X : BitVec 64} {t t2 : TypeId} {d : Nat} {ty : TypeId} {pos : String} {af : Array Edge} (hs : St n F w0 S M a w) (hx : evo F x = some (.int .u64 p)) (hp : p = (X.toNat : Int)) (hy : evo F y = some (.int kd q)) {m : Nat} (hm : q = (m : Int)) (hd : Nat.blt d n = true) (k : ∀ a w, St n ((d, .int .u64 (((X >>> m).toNat : Nat) : Int)) :: F) w0 S M a w → wpList P ops Q rest a w) : wpList P ops Q (⟨some d, .binOp .shr t x y t2, ty, pos, af, none⟩ :: rest) a w :=
  st_pure hs (by subst hm; have h1 : ¬ (m : Int) < 0 := (by omega); simp only [execOp, hs.ev hx, hs.ev hy, binOp, eqGuard, Op.shift, hp, h1]; simp [-BitVec.toNat_ushiftRight]; exact shr_u64 X m) hd k
theorem wneg_u64 (X : BitVec 64) : IntKind.u64.wrap (0 - (X.toNat : Int)) = ((-X).toNat : Int) := by
  rw [wrap_unsigned rfl]
  show ((BitVec.ofInt 64 _).toNat : Int) = _
  rw [Int.zero_sub, BitVec.ofInt_neg, ofInt_nat]
theorem st_neg_u64 {x : Operand} {p : Int} {X : BitVec 64} {t : TypeId} {d : Nat} {ty : TypeId} {pos : String} {af : Array Edge} (hs : St n F w0 S M a w) (hx : evo F x = some (.int .u64 p)) (hp : p = (X.toNat : Int)) (hd : Nat.blt d n = true) (k : ∀ a w, St n ((d, .int .u64 (((-X).toNat : Nat) : Int)) :: F) w0 S M a w → wpList P ops Q rest a w) : wpList P ops Q (⟨some d, .unOp .neg t x, ty, pos, af, none⟩ :: rest) a w :=
  st_pure hs (by simp only [execOp, hs.ev hx, Op.unary, Op.intArith, hp]; simp [-BitVec.toNat_neg, -Int.zero_sub]; exact wneg_u64 X) hd k
theorem wnot_u64 (X : BitVec 64) : IntKind.u64.wrap ((BitVec.ofInt 64 IntKind.u64.max ^^^ BitVec.ofInt 64 (X.toNat : Int)).toNat : Int) = ((~~~X).toNat : Int) := by
  rw [wrap_unsigned rfl]
  show ((BitVec.ofInt 64 _).toNat : Int) = _
  rw [ofInt_nat, ofInt_nat]
  have e : BitVec.ofInt 64 IntKind.u64.max = BitVec.allOnes 64 := by decide
  rw [e, BitVec.allOnes_xor]
theorem st_not_u64 {x : Operand} {p : Int} {X : BitVec 64} {t : TypeId} {d : Nat} {ty : TypeId} {pos : String} {af : Array Edge} (hs : St n F w0 S M a w) (hx : evo F x = some (.int .u64 p)) (hp : p = (X.toNat : Int)) (hd : Nat.blt d n = true) (k : ∀ a w, St n ((d, .int .u64 (((~~~X).toNat : Nat) : Int)) :: F) w0 S M a w → wpList P ops Q rest a w) : wpList P ops Q (⟨some d, .unOp .xor t x, ty, pos, af, none⟩ :: rest) a w :=
  st_pure hs (by simp only [execOp, hs.ev hx, Op.unary, Op.intBits, hp]; simp [-BitVec.toNat_not, -BitVec.toNat_xor, IntKind.signed, -BitVec.ofInt_natCast]; exact wnot_u64 X) hd k
theorem wquo_u64 (X Y : BitVec 64) : IntKind.u64.wrap ((X.toNat : Int).tdiv (Y.toNat : Int)) = ((X / Y).toNat : Int) := by
  rw [Int.tdiv_eq_ediv_of_nonneg (by omega), ← Int.natCast_ediv, ← BitVec.toNat_udiv, wrap_unsigned rfl]
  show ((BitVec.ofInt 64 _).toNat : Int) = _
  rw [ofInt_nat]
theorem st_quo_u64 {x y : Operand} {p q : Int} {X Y : BitVec 64} {t t2 : TypeId} {d : Nat} {ty : TypeId} {pos : String} {af : Array Edge} (hs : St n F w0 S M a w) (hx : evo F x = some (.int .u64 p)) (hp : p = (X.toNat : Int)) (hy : evo F y = some (.int .u64 q)) (hq : q = (Y.toNat : Int)) (h0 : Y ≠ 0) (hd : Nat.blt d n = true) (k : ∀ a w, St n ((d, .int .u64 (((X / Y).toNat : Nat) : Int)) :: F) w0 S M a w → wpList P ops Q rest a w) : wpList P ops Q (⟨some d, .binOp .quo t x y t2, ty, pos, af, none⟩ :: rest) a w :=
  st_pure hs (by have h1 : ¬ (Y.toNat : Int) = 0 := fun e => h0 (BitVec.eq_of_toNat_eq (by simpa using Int.natCast_eq_zero.1 e)); simp only [execOp, hs.ev hx, hs.ev hy, binOp, eqGuard, Op.intDiv, hp, hq, h1]; simp [-BitVec.toNat_udiv, -BitVec.toNat_umod]; exact wquo_u64 X Y) hd k
theorem wrem_u64 (X Y : BitVec 64) : (X.toNat : Int).tmod (Y.toNat : Int) = ((X % Y).toNat : Int) := by
  rw [Int.tmod_eq_emod_of_nonneg (by omega), ← Int.natCast_emod, ← BitVec.toNat_umod]
theorem st_rem_u64 {x y : Operand} {p q : Int} {X Y : BitVec 64} {t t2 : TypeId} {d : Nat} {ty : TypeId} {pos : String} {af : Array Edge} (hs : St n F w0 S M a w) (hx : evo F x = some (.int .u64 p)) (hp : p = (X.toNat : Int)) (hy : evo F y = some (.int .u64 q)) (hq : q = (Y.toNat : Int)) (h0 : Y ≠ 0) (hd : Nat.blt d n = true) (k : ∀ a w, St n ((d, .int .u64 (((X % Y).toNat : Nat) : Int)) :: F) w0 S M a w → wpList P ops Q rest a w) : wpList P ops Q (⟨some d, .binOp .rem t x y t2, ty, pos, af, none⟩ :: rest) a w :=
  st_pure hs (by have h1 : ¬ (Y.toNat : Int) = 0 := fun e => h0 (BitVec.eq_of_toNat_eq (by simpa using Int.natCast_eq_zero.1 e)); simp only [execOp, hs.ev hx, hs.ev hy, binOp, eqGuard, Op.intDiv, hp, hq, h1]; simp [-BitVec.toNat_udiv, -BitVec.toNat_umod]; exact wrem_u64 X Y) hd k
theorem st_cv_u8 {x : Operand} {p : Int} {kd : IntKind} {t t2 : TypeId} {ds : TypeDesc} {d : Nat} {ty : TypeId} {pos : String} {af : Array Edge} (hs : St n F w0 S M a w) (hx : evo F x = some (.int kd p))  (hsrc : P.underlying t = some ds) (hdst : P.underlying t2 = some (.int .u8)) (hd : Nat.blt d n = true) (k : ∀ a w, St n ((d, .int .u8 (((BitVec.ofInt 8 p).toNat : Nat) : Int)) :: F) w0 S M a w → wpList P ops Q rest a w) : wpList P ops Q (⟨some d, .convert t t2 x, ty, pos, af, none⟩ :: rest) a w :=
  st_pure hs (by simp only [execOp, hs.ev hx, convert, Sem.run_bind, run_underlying hsrc, run_underlying hdst, Conv.intToInt]; simp [-BitVec.toNat_setWidth, -BitVec.toNat_ofInt]; exact wrap_unsigned (k := .u8) rfl p) hd k
theorem wcv_u8_u8 (X : BitVec 8) : IntKind.u8.wrap (X.toNat : Int) = ((X.setWidth 8).toNat : Int) := by
  rw [wrap_unsigned rfl]
  show ((BitVec.ofInt 8 _).toNat : Int) = _
  rw [BitVec.ofInt_natCast]
  simp
theorem st_cv_u8_u8 {x : Operand} {p : Int} {kd : IntKind} {t t2 : TypeId} {ds : TypeDesc} {X : BitVec 8} {d : Nat} {ty : TypeId} {pos : String} {af : Array Edge} (hs : St n F w0 S M a w) (hx : evo F x = some (.int kd p)) (hp : p = (X.toNat : Int)) (hsrc : P.underlying t = some ds) (hdst : P.underlying t2 = some (.int .u8)) (hd : Nat.blt d n = true) (k : ∀ a w, St n ((d, .int .u8 (((X.setWidth 8).toNat : Nat) : Int)) :: F) w0 S M a w → wpList P ops Q rest a w) : wpList P ops Q (⟨some d, .convert t t2 x, ty, pos, af, none⟩ :: rest) a w :=
  st_pure hs (by simp only [execOp, hs.ev hx, convert, Sem.run_bind, run_underlying hsrc, run_underlying hdst, Conv.intToInt]; simp [-BitVec.toNat_setWidth, -BitVec.toNat_ofInt]; rw [hp]; exact wcv_u8_u8 X) hd k
theorem wcv_u16_u8 (X : BitVec 16) : IntKind.u8.wrap (X.toNat : Int) = ((X.setWidth 8).toNat : Int) := by
  rw [wrap_unsigned rfl]
  show ((BitVec.ofInt 8 _).toNat : Int) = _
  rw [BitVec.ofInt_natCast]
  simp
theorem st_cv_u16_u8 {x : Operand} {p : Int} {kd : IntKind} {t t2 : TypeId} {ds : TypeDesc} {X : BitVec 16} {d : Nat} {ty : TypeId} {pos : String} {af : Array Edge} (hs : St n F w0 S M a w) (hx : evo F x = some (.int kd p)) (hp : p = (X.toNat : Int)) (hsrc : P.underlying t = some ds) (hdst : P.underlying t2 = some (.int .u8)) (hd : Nat.blt d n = true) (k : ∀ a w, St n ((d, .int .u8 (((X.setWidth 8).toNat : Nat) : Int)) :: F) w0 S M a w → wpList P ops Q rest a w) : wpList P ops Q (⟨some d, .convert t t2 x, ty, pos, af, none⟩ :: rest) a w :=
  st_pure hs (by simp only [execOp, hs.ev hx, convert, Sem.run_bind, run_underlying hsrc, run_underlying hdst, Conv.intToInt]; simp [-BitVec.toNat_setWidth, -BitVec.toNat_ofInt]; rw [hp]; exact wcv_u16_u8 X) hd k
theorem wcv_u32_u8 (X : BitVec 32) : IntKind.u8.wrap (X.toNat : Int) = ((X.setWidth 8).toNat : Int) := by
  rw [wrap_unsigned rfl]
  show ((BitVec.ofInt 8 _).toNat : Int) = _
  rw [BitVec.ofInt_natCast]
  simp
theorem st_cv_u32_u8 {x : Operand} {p : Int} {kd : IntKind} {t t2 : TypeId} {ds : TypeDesc} {X : BitVec 32} {d : Nat} {ty : TypeId} {pos : String} {af : Array Edge} (hs : St n F w0 S M a w) (hx : evo F x = some (.int kd p)) (hp : p = (X.toNat : Int)) (hsrc : P.underlying t = some ds) (hdst : P.underlying t2 = some (.int .u8)) (hd : Nat.blt d n = true) (k : ∀ a w, St n ((d, .int .u8 (((X.setWidth 8).toNat : Nat) : Int)) :: F) w0 S M a w → wpList P ops Q rest a w) : wpList P ops Q (⟨some d, .convert t t2 x, ty, pos, af, none⟩ :: rest) a w :=
  st_pure hs (by simp only [execOp, hs.ev hx, convert, Sem.run_bind, run_underlying hsrc, run_underlying hdst, Conv.intToInt]; simp [-BitVec.toNat_setWidth, -BitVec.toNat_ofInt]; rw [hp]; exact wcv_u32_u8 X) hd k
theorem wcv_u64_u8 (X : BitVec 64) : IntKind.u8.wrap (X.toNat : Int) = ((X.setWidth 8).toNat : Int) := by
  rw [wrap_unsigned rfl]
  show ((BitVec.ofInt 8 _).toNat : Int) = _
  rw [BitVec.ofInt_natCast]
  simp
theorem st_cv_u64_u8 {x : Operand} {p : Int} {kd : IntKind} {t t2 : TypeId} {ds : TypeDesc} {X : BitVec 64} {d : Nat} {ty : TypeId} {pos : String} {af : Array Edge} (hs : St n F w0 S M a w) (hx : evo F x = some (.int kd p)) (hp : p = (X.toNat : Int)) (hsrc : P.underlying t = some ds) (hdst : P.underlying t2 = some (.int .u8)) (hd : Nat.blt d n = true) (k : ∀ a w, St n ((d, .int .u8 (((X.setWidth 8).toNat : Nat) : Int)) :: F) w0 S M a w → wpList P ops Q rest a w) : wpList P ops Q (⟨some d, .convert t t2 x, ty, pos, af, none⟩ :: rest) a w :=
  st_pure hs (by simp only [execOp, hs.ev hx, convert, Sem.run_bind, run_underlying hsrc, run_underlying hdst, Conv.intToInt]; simp [-BitVec.toNat_setWidth, -BitVec.toNat_ofInt]; rw [hp]; exact wcv_u64_u8 X) hd k
theorem st_cv_u16 {x : Operand} {p : Int} {kd : IntKind} {t t2 : TypeId} {ds : TypeDesc} {d : Nat} {ty : TypeId} {pos : String} {af : Array Edge} (hs : St n F w0 S M a w) (hx : evo F x = some (.int kd p))  (hsrc : P.underlying t = some ds) (hdst : P.underlying t2 = some (.int .u16)) (hd : Nat.blt d n = true) (k : ∀ a w, St n ((d, .int .u16 (((BitVec.ofInt 16 p).toNat : Nat) : Int)) :: F) w0 S M a w → wpList P ops Q rest a w) : wpList P ops Q (⟨some d, .convert t t2 x, ty, pos, af, none⟩ :: rest) a w :=
  st_pure hs (by simp only [execOp, hs.ev hx, convert, Sem.run_bind, run_underlying hsrc, run_underlying hdst, Conv.intToInt]; simp [-BitVec.toNat_setWidth, -BitVec.toNat_ofInt]; exact wrap_unsigned (k := .u16) rfl p) hd k
theorem wcv_u8_u16 (X : BitVec 8) : IntKind.u16.wrap (X.toNat : Int) = ((X.setWidth 16).toNat : Int) := by
  rw [wrap_unsigned rfl]
  show ((BitVec.ofInt 16 _).toNat : Int) = _
  rw [BitVec.ofInt_natCast]
  simp
theorem st_cv_u8_u16 {x : Operand} {p : Int} {kd : IntKind} {t t2 : TypeId} {ds : TypeDesc} {X : BitVec 8} {d : Nat} {ty : TypeId} {pos : String} {af : Array Edge} (hs : St n F w0 S M a w) (hx : evo F x = some (.int kd p)) (hp : p = (X.toNat : Int)) (hsrc : P.underlying t = some ds) (hdst : P.underlying t2 = some (.int .u16)) (hd : Nat.blt d n = true) (k : ∀ a w, St n ((d, .int .u16 (((X.setWidth 16).toNat : Nat) : Int)) :: F) w0 S M a w → wpList P ops Q rest a w) : wpList P ops Q (⟨some d, .convert t t2 x, ty, pos, af, none⟩ :: rest) a w :=
  st_pure hs (by simp only [execOp, hs.ev hx, convert, Sem.run_bind, run_underlying hsrc, run_underlying hdst, Conv.intToInt]; simp [-BitVec.toNat_setWidth, -BitVec.toNat_ofInt]; rw [hp]; exact wcv_u8_u16 X) hd k
theorem wcv_u16_u16 (X : BitVec 16) : IntKind.u16.wrap (X.toNat : Int) = ((X.setWidth 16).toNat : Int) := by
  rw [wrap_unsigned rfl]
  show ((BitVec.ofInt 16 _).toNat : Int) = _
  rw [BitVec.ofInt_natCast]
  simp
theorem st_cv_u16_u16 {x : Operand} {p : Int} {kd : IntKind} {t t2 : TypeId} {ds : TypeDesc} {X : BitVec 16} {d : Nat} {ty : TypeId} {pos : String} {af : Array Edge} (hs : St n F w0 S M a w) (hx : evo F x = some (.int kd p)) (hp : p = (X.toNat : Int)) (hsrc : P.underlying t = some ds) (hdst : P.underlying t2 = some (.int .u16)) (hd : Nat.blt d n = true) (k : ∀ a w, St n ((d, .int .u16 (((X.setWidth 16).toNat : Nat) : Int)) :: F) w0 S M a w → wpList P ops Q rest a w) : wpList P ops Q (⟨some d, .convert t t2 x, ty, pos, af, none⟩ :: rest) a w :=
  st_pure hs (by simp only [execOp, hs.ev hx, convert, Sem.run_bind, run_underlying hsrc, run_underlying hdst, Conv.intToInt]; simp [-BitVec.toNat_setWidth, -BitVec.toNat_ofInt]; rw [hp]; exact wcv_u16_u16 X) hd k
theorem wcv_u32_u16 (X : BitVec 32) : IntKind.u16.wrap (X.toNat : Int) = ((X.setWidth 16).toNat : Int) := by
  rw [wrap_unsigned rfl]
  show ((BitVec.ofInt 16 _).toNat : Int) = _
  rw [BitVec.ofInt_natCast]
  simp
theorem st_cv_u32_u16 {x : Operand} {p : Int} {kd : IntKind} {t t2 : TypeId} {ds : TypeDesc} {X : BitVec 32} {d : Nat} {ty : TypeId} {pos : String} {af : Array Edge} (hs : St n F w0 S M a w) (hx : evo F x = some (.int kd p)) (hp : p = (X.toNat : Int)) (hsrc : P.underlying t = some ds) (hdst : P.underlying t2 = some (.int .u16)) (hd : Nat.blt d n = true) (k : ∀ a w, St n ((d, .int .u16 (((X.setWidth 16).toNat : Nat) : Int)) :: F) w0 S M a w → wpList P ops Q rest a w) : wpList P ops Q (⟨some d, .convert t t2 x, ty, pos, af, none⟩ :: rest) a w :=
  st_pure hs (by simp only [execOp, hs.ev hx, convert, Sem.run_bind, run_underlying hsrc, run_underlying hdst, Conv.intToInt]; simp [-BitVec.toNat_setWidth, -BitVec.toNat_ofInt]; rw [hp]; exact wcv_u32_u16 X) hd k
theorem wcv_u64_u16 (X : BitVec 64) : IntKind.u16.wrap (X.toNat : Int) = ((X.setWidth 16).toNat : Int) := by
  rw [wrap_unsigned rfl]
  show ((BitVec.ofInt 16 _).toNat : Int) = _
  rw [BitVec.ofInt_natCast]
  simp
theorem st_cv_u64_u16 {x : Operand} {p : Int} {kd : IntKind} {t t2 : TypeId} {ds : TypeDesc} {X : BitVec 64} {d : Nat} {ty : TypeId} {pos : String} {af : Array Edge} (hs : St n F w0 S M a w) (hx : evo F x = some (.int kd p)) (hp : p = (X.toNat : Int)) (hsrc : P.underlying t = some ds) (hdst : P.underlying t2 = some (.int .u16)) (hd : Nat.blt d n = true) (k : ∀ a w, St n ((d, .int .u16 (((X.setWidth 16).toNat : Nat) : Int)) :: F) w0 S M a w → wpList P ops Q rest a w) : wpList P ops Q (⟨some d, .convert t t2 x, ty, pos, af, none⟩ :: rest) a w :=
  st_pure hs (by simp only [execOp, hs.ev hx, convert, Sem.run_bind, run_underlying hsrc, run_underlying hdst, Conv.intToInt]; simp [-BitVec.toNat_setWidth, -BitVec.toNat_ofInt]; rw [hp]; exact wcv_u64_u16 X) hd k
theorem st_cv_u32 {x : Operand} {p : Int} {kd : IntKind} {t t2 : TypeId} {ds : TypeDesc} {d : Nat} {ty : TypeId} {pos : String} {af : Array Edge} (hs : St n F w0 S M a w) (hx : evo F x = some (.int kd p))  (hsrc : P.underlying t = some ds) (hdst : P.underlying t2 = some (.int .u32)) (hd : Nat.blt d n = true) (k : ∀ a w, St n ((d, .int .u32 (((BitVec.ofInt 32 p).toNat : Nat) : Int)) :: F) w0 S M a w → wpList P ops Q rest a w) : wpList P ops Q (⟨some d, .convert t t2 x, ty, pos, af, none⟩ :: rest) a w :=
  st_pure hs (by simp only [execOp, hs.ev hx, convert, Sem.run_bind, run_underlying hsrc, run_underlying hdst, Conv.intToInt]; simp [-BitVec.toNat_setWidth, -BitVec.toNat_ofInt]; exact wrap_unsigned (k := .u32) rfl p) hd k
theorem wcv_u8_u32 (X : BitVec 8) : IntKind.u32.wrap (X.toNat : Int) = ((X.setWidth 32).toNat : Int) := by
  rw [wrap_unsigned rfl]
  show ((BitVec.ofInt 32 _).toNat : Int) = _
  rw [BitVec.ofInt_natCast]
  simp
theorem st_cv_u8_u32 {x : Operand} {p : Int} {kd : IntKind} {t t2 : TypeId} {ds : TypeDesc} {X : BitVec 8} {d : Nat} {ty : TypeId} {pos : String} {af : Array Edge} (hs : St n F w0 S M a w) (hx : evo F x = some (.int kd p)) (hp : p = (X.toNat : Int)) (hsrc : P.underlying t = some ds) (hdst : P.underlying t2 = some (.int .u32)) (hd : Nat.blt d n = true) (k : ∀ a w, St n ((d, .int .u32 (((X.setWidth 32).toNat : Nat) : Int)) :: F) w0 S M a w → wpList P ops Q rest a w) : wpList P ops Q (⟨some d, .convert t t2 x, ty, pos, af, none⟩ :: rest) a w :=
  st_pure hs (by simp only [execOp, hs.ev hx, convert, Sem.run_bind, run_underlying hsrc, run_underlying hdst, Conv.intToInt]; simp [-BitVec.toNat_setWidth, -BitVec.toNat_ofInt]; rw [hp]; exact wcv_u8_u32 X) hd k
theorem wcv_u16_u32 (X : BitVec 16) : IntKind.u32.wrap (X.toNat : Int) = ((X.setWidth 32).toNat : Int) := by
  rw [wrap_unsigned rfl]
  show ((BitVec.ofInt 32 _).toNat : Int) = _
  rw [BitVec.ofInt_natCast]
  simp
theorem st_cv_u16_u32 {x : Operand} {p : Int} {kd : IntKind} {t t2 : TypeId} {ds : TypeDesc} {X : BitVec 16} {d : Nat} {ty : TypeId} {pos : String} {af : Array Edge} (hs : St n F w0 S M a w) (hx : evo F x = some (.int kd p)) (hp : p = (X.toNat : Int)) (hsrc : P.underlying t = some ds) (hdst : P.underlying t2 = some (.int .u32)) (hd : Nat.blt d n = true) (k : ∀ a w, St n ((d, .int .u32 (((X.setWidth 32).toNat : Nat) : Int)) :: F) w0 S M a w → wpList P ops Q rest a w) : wpList P ops Q (⟨some d, .convert t t2 x, ty, pos, af, none⟩ :: rest) a w :=
  st_pure hs (by simp only [execOp, hs.ev hx, convert, Sem.run_bind, run_underlying hsrc, run_underlying hdst, Conv.intToInt]; simp [-BitVec.toNat_setWidth, -BitVec.toNat_ofInt]; rw [hp]; exact wcv_u16_u32 X) hd k
theorem wcv_u32_u32 (X : BitVec 32) : IntKind.u32.wrap (X.toNat : Int) = ((X.setWidth 32).toNat : Int) := by
  rw [wrap_unsigned rfl]
  show ((BitVec.ofInt 32 _).toNat : Int) = _
  rw [BitVec.ofInt_natCast]
  simp
theorem st_cv_u32_u32 {x : Operand} {p : Int} {kd : IntKind} {t t2 : TypeId} {ds : TypeDesc} {X : BitVec 32} {d : Nat} {ty : TypeId} {pos : String} {af : Array Edge} (hs : St n F w0 S M a w) (hx : evo F x = some (.int kd p)) (hp : p = (X.toNat : Int)) (hsrc : P.underlying t = some ds) (hdst : P.underlying t2 = some (.int .u32)) (hd : Nat.blt d n = true) (k : ∀ a w, St n ((d, .int .u32 (((X.setWidth 32).toNat : Nat) : Int)) :: F) w0 S M a w → wpList P ops Q rest a w) : wpList P ops Q (⟨some d, .convert t t2 x, ty, pos, af, none⟩ :: rest) a w :=
  st_pure hs (by simp only [execOp, hs.ev hx, convert, Sem.run_bind, run_underlying hsrc, run_underlying hdst, Conv.intToInt]; simp [-BitVec.toNat_setWidth, -BitVec.toNat_ofInt]; rw [hp]; exact wcv_u32_u32 X) hd k
theorem wcv_u64_u32 (X : BitVec 64) : IntKind.u32.wrap (X.toNat : Int) = ((X.setWidth 32).toNat : Int) := by
  rw [wrap_unsigned rfl]
  show ((BitVec.ofInt 32 _).toNat : Int) = _
  rw [BitVec.ofInt_natCast]
  simp
theorem st_cv_u64_u32 {x : Operand} {p : Int} {kd : IntKind} {t t2 : TypeId} {ds : TypeDesc} {X : BitVec 64} {d : Nat} {ty : TypeId} {pos : String} {af : Array Edge} (hs : St n F w0 S M a w) (hx : evo F x = some (.int kd p)) (hp : p = (X.toNat : Int)) (hsrc : P.underlying t = some ds) (hdst : P.underlying t2 = some (.int .u32)) (hd : Nat.blt d n = true) (k : ∀ a w, St n ((d, .int .u32 (((X.setWidth 32).toNat : Nat) : Int)) :: F) w0 S M a w → wpList P ops Q rest a w) : wpList P ops Q (⟨some d, .convert t t2 x, ty, pos, af, none⟩ :: rest) a w :=
  st_pure hs (by simp only [execOp, hs.ev hx, convert, Sem.run_bind, run_underlying hsrc, run_underlying hdst, Conv.intToInt]; simp [-BitVec.toNat_setWidth, -BitVec.toNat_ofInt]; rw [hp]; exact wcv_u64_u32 X) hd k
theorem st_cv_u64 {x : Operand} {p : Int} {kd : IntKind} {t t2 : TypeId} {ds : TypeDesc} {d : Nat} {ty : TypeId} {pos : String} {af : Array Edge} (hs : St n F w0 S M a w) (hx : evo F x = some (.int kd p))  (hsrc : P.underlying t = some ds) (hdst : P.underlying t2 = some (.int .u64)) (hd : Nat.blt d n = true) (k : ∀ a w, St n ((d, .int .u64 (((BitVec.ofInt 64 p).toNat : Nat) : Int)) :: F) w0 S M a w → wpList P ops Q rest a w) : wpList P ops Q (⟨some d, .convert t t2 x, ty, pos, af, none⟩ :: rest) a w :=
  st_pure hs (by simp only [execOp, hs.ev hx, convert, Sem.run_bind, run_underlying hsrc, run_underlying hdst, Conv.intToInt]; simp [-BitVec.toNat_setWidth, -BitVec.toNat_ofInt]; exact wrap_unsigned (k := .u64) rfl p) hd k
theorem wcv_u8_u64 (X : BitVec 8) : IntKind.u64.wrap (X.toNat : Int) = ((X.setWidth 64).toNat : Int) := by
  rw [wrap_unsigned rfl]
  show ((BitVec.ofInt 64 _).toNat : Int) = _
  rw [BitVec.ofInt_natCast]
  simp
theorem st_cv_u8_u64 {x : Operand} {p : Int} {kd : IntKind} {t t2 : TypeId} {ds : TypeDesc} {X : BitVec 8} {d : Nat} {ty : TypeId} {pos : String} {af : Array Edge} (hs : St n F w0 S M a w) (hx : evo F x = some (.int kd p)) (hp : p = (X.toNat : Int)) (hsrc : P.underlying t = some ds) (hdst : P.underlying t2 = some (.int .u64)) (hd : Nat.blt d n = true) (k : ∀ a w, St n ((d, .int .u64 (((X.setWidth 64).toNat : Nat) : Int)) :: F) w0 S M a w → wpList P ops Q rest a w) : wpList P ops Q (⟨some d, .convert t t2 x, ty, pos, af, none⟩ :: rest) a w :=
  st_pure hs (by simp only [execOp, hs.ev hx, convert, Sem.run_bind, run_underlying hsrc, run_underlying hdst, Conv.intToInt]; simp [-BitVec.toNat_setWidth, -BitVec.toNat_ofInt]; rw [hp]; exact wcv_u8_u64 X) hd k
theorem wcv_u16_u64 (X : BitVec 16) : IntKind.u64.wrap (X.toNat : Int) = ((X.setWidth 64).toNat : Int) := by
  rw [wrap_unsigned rfl]
  show ((BitVec.ofInt 64 _).toNat : Int) = _
  rw [BitVec.ofInt_natCast]
  simp
theorem st_cv_u16_u64 {x : Operand} {p : Int} {kd : IntKind} {t t2 : TypeId} {ds : TypeDesc} {X : BitVec 16} {d : Nat} {ty : TypeId} {pos : String} {af : Array Edge} (hs : St n F w0 S M a w) (hx : evo F x = some (.int kd p)) (hp : p = (X.toNat : Int)) (hsrc : P.underlying t = some ds) (hdst : P.underlying t2 = some (.int .u64)) (hd : Nat.blt d n = true) (k : ∀ a w, St n ((d, .int .u64 (((X.setWidth 64).toNat : Nat) : Int)) :: F) w0 S M a w → wpList P ops Q rest a w) : wpList P ops Q (⟨some d, .convert t t2 x, ty, pos, af, none⟩ :: rest) a w :=
  st_pure hs (by simp only [execOp, hs.ev hx, convert, Sem.run_bind, run_underlying hsrc, run_underlying hdst, Conv.intToInt]; simp [-BitVec.toNat_setWidth, -BitVec.toNat_ofInt]; rw [hp]; exact wcv_u16_u64 X) hd k
theorem wcv_u32_u64 (X : BitVec 32) : IntKind.u64.wrap (X.toNat : Int) = ((X.setWidth 64).toNat : Int) := by
  rw [wrap_unsigned rfl]
  show ((BitVec.ofInt 64 _).toNat : Int) = _
  rw [BitVec.ofInt_natCast]
  simp
theorem st_cv_u32_u64 {x : Operand} {p : Int} {kd : IntKind} {t t2 : TypeId} {ds : TypeDesc} {X : BitVec 32} {d : Nat} {ty : TypeId} {pos : String} {af : Array Edge} (hs : St n F w0 S M a w) (hx : evo F x = some (.int kd p)) (hp : p = (X.toNat : Int)) (hsrc : P.underlying t = some ds) (hdst : P.underlying t2 = some (.int .u64)) (hd : Nat.blt d n = true) (k : ∀ a w, St n ((d, .int .u64 (((X.setWidth 64).toNat : Nat) : Int)) :: F) w0 S M a w → wpList P ops Q rest a w) : wpList P ops Q (⟨some d, .convert t t2 x, ty, pos, af, none⟩ :: rest) a w :=
  st_pure hs (by simp only [execOp, hs.ev hx, convert, Sem.run_bind, run_underlying hsrc, run_underlying hdst, Conv.intToInt]; simp [-BitVec.toNat_setWidth, -BitVec.toNat_ofInt]; rw [hp]; exact wcv_u32_u64 X) hd k
theorem wcv_u64_u64 (X : BitVec 64) : IntKind.u64.wrap (X.toNat : Int) = ((X.setWidth 64).toNat : Int) := by
  rw [wrap_unsigned rfl]
  show ((BitVec.ofInt 64 _).toNat : Int) = _
  rw [BitVec.ofInt_natCast]
  simp
theorem st_cv_u64_u64 {x : Operand} {p : Int} {kd : IntKind} {t t2 : TypeId} {ds : TypeDesc} {X : BitVec 64} {d : Nat} {ty : TypeId} {pos : String} {af : Array Edge} (hs : St n F w0 S M a w) (hx : evo F x = some (.int kd p)) (hp : p = (X.toNat : Int)) (hsrc : P.underlying t = some ds) (hdst : P.underlying t2 = some (.int .u64)) (hd : Nat.blt d n = true) (k : ∀ a w, St n ((d, .int .u64 (((X.setWidth 64).toNat : Nat) : Int)) :: F) w0 S M a w → wpList P ops Q rest a w) : wpList P ops Q (⟨some d, .convert t t2 x, ty, pos, af, none⟩ :: rest) a w :=
  st_pure hs (by simp only [execOp, hs.ev hx, convert, Sem.run_bind, run_underlying hsrc, run_underlying hdst, Conv.intToInt]; simp [-BitVec.toNat_setWidth, -BitVec.toNat_ofInt]; rw [hp]; exact wcv_u64_u64 X) hd k
theorem st_cv_i64 {x : Operand} {p : Int} {kd : IntKind} {t t2 : TypeId} {ds : TypeDesc} {d : Nat} {ty : TypeId} {pos : String} {af : Array Edge} (hs : St n F w0 S M a w) (hx : evo F x = some (.int kd p)) (hr : -9223372036854775808 ≤ p ∧ p ≤ 9223372036854775807) (hsrc : P.underlying t = some ds) (hdst : P.underlying t2 = some (.int .i64)) (hd : Nat.blt d n = true) (k : ∀ a w, St n ((d, .int .i64 p) :: F) w0 S M a w → wpList P ops Q rest a w) : wpList P ops Q (⟨some d, .convert t t2 x, ty, pos, af, none⟩ :: rest) a w :=
  st_pure hs (by simp only [execOp, hs.ev hx, convert, Sem.run_bind, run_underlying hsrc, run_underlying hdst, Conv.intToInt]; simp [-BitVec.toNat_setWidth, -BitVec.toNat_ofInt]; exact IntWalk.i64_in p hr) hd k
theorem wcv_i64 (X : BitVec 64) : IntKind.i64.wrap (X.toNat : Int) = X.toInt := by
  rw [IntKind.wrap_i64, BitVec.toInt_eq_toNat_cond]
  have := X.isLt
  split <;> omega
theorem st_cv_u64_i64 {x : Operand} {p : Int} {kd : IntKind} {t t2 : TypeId} {ds : TypeDesc} {X : BitVec 64} {d : Nat} {ty : TypeId} {pos : String} {af : Array Edge} (hs : St n F w0 S M a w) (hx : evo F x = some (.int kd p)) (hp : p = (X.toNat : Int)) (hsrc : P.underlying t = some ds) (hdst : P.underlying t2 = some (.int .i64)) (hd : Nat.blt d n = true) (k : ∀ a w, St n ((d, .int .i64 X.toInt) :: F) w0 S M a w → wpList P ops Q rest a w) : wpList P ops Q (⟨some d, .convert t t2 x, ty, pos, af, none⟩ :: rest) a w :=
  st_pure hs (by simp only [execOp, hs.ev hx, convert, Sem.run_bind, run_underlying hsrc, run_underlying hdst, Conv.intToInt]; simp [-BitVec.toNat_setWidth, -BitVec.toNat_ofInt]; rw [hp]; exact wcv_i64 X) hd k
theorem st_cvw {x : Operand} {p : Int} {kd : IntKind} {t t2 : TypeId} {ds : TypeDesc} {d : Nat} {ty : TypeId} {pos : String} {af : Array Edge} (hs : St n F w0 S M a w) (hx : evo F x = some (.int kd p))  (hsrc : P.underlying t = some ds) (hdst : P.underlying t2 = some (.int .i64)) (hd : Nat.blt d n = true) (k : ∀ a w, St n ((d, .int .i64 (IntKind.i64.wrap p)) :: F) w0 S M a w → wpList P ops Q rest a w) : wpList P ops Q (⟨some d, .convert t t2 x, ty, pos, af, none⟩ :: rest) a w :=
  st_pure hs (by simp only [execOp, hs.ev hx, convert, Sem.run_bind, run_underlying hsrc, run_underlying hdst, Conv.intToInt]; simp [-BitVec.toNat_setWidth, -BitVec.toNat_ofInt]; skip) hd k
end Go.Sx
