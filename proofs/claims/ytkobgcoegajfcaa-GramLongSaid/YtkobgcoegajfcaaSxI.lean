/- More steps: signed shifts and bits, bytes of constant strings. -/
import Derived.Test.YtkobgcoegajfcaaSxE
set_option linter.unusedVariables false
set_option linter.unusedSimpArgs false
namespace Go.Sx
open Go.RowKit
variable {P : Program} {ops : Array Oper} {Q : Exit → Act → World → Prop} {rest : List Oper} {n : Nat} {F : List (Nat × Value)} {w0 : World} {S : List Nat} {M : List HA} {a : Act} {w : World}
theorem st_shlI {x y : Operand} {p q : Int} {kd : IntKind} {t t2 : TypeId} {d : Nat} {ty : TypeId} {pos : String} {af : Array Edge} (hs : St n F w0 S M a w)
    (hx : evo F x = some (.int .i64 p)) (hy : evo F y = some (.int kd q)) {m : Nat} (hm : q = (m : Int)) (hd : Nat.blt d n = true)
    (k : ∀ a w, St n ((d, .int .i64 (IntKind.i64.wrap (p * 2 ^ (min m 64)))) :: F) w0 S M a w → wpList P ops Q rest a w) : wpList P ops Q (⟨some d, .binOp .shl t x y t2, ty, pos, af, none⟩ :: rest) a w :=
  st_pure hs (by subst hm; have h1 : ¬ (m : Int) < 0 := (by omega); simp only [execOp, hs.ev hx, hs.ev hy, binOp, eqGuard, Op.shift, h1]; simp [IntKind.bits]) hd k
theorem st_shrI {x y : Operand} {p q : Int} {kd : IntKind} {t t2 : TypeId} {d : Nat} {ty : TypeId} {pos : String} {af : Array Edge} (hs : St n F w0 S M a w)
    (hx : evo F x = some (.int .i64 p)) (hy : evo F y = some (.int kd q)) {m : Nat} (hm : q = (m : Int)) (hd : Nat.blt d n = true)
    (k : ∀ a w, St n ((d, .int .i64 (p.fdiv (2 ^ (min m 64)))) :: F) w0 S M a w → wpList P ops Q rest a w) : wpList P ops Q (⟨some d, .binOp .shr t x y t2, ty, pos, af, none⟩ :: rest) a w :=
  st_pure hs (by subst hm; have h1 : ¬ (m : Int) < 0 := (by omega); simp only [execOp, hs.ev hx, hs.ev hy, binOp, eqGuard, Op.shift, h1]; simp [IntKind.bits]) hd k
theorem wrap_toInt (X : BitVec 64) : IntKind.i64.wrap (X.toNat : Int) = X.toInt := wcv_i64 X
theorem st_xorI {x y : Operand} {p q : Int} {t t2 : TypeId} {d : Nat} {ty : TypeId} {pos : String} {af : Array Edge} (hs : St n F w0 S M a w)
    (hx : evo F x = some (.int .i64 p)) (hy : evo F y = some (.int .i64 q)) (hd : Nat.blt d n = true)
    (k : ∀ a w, St n ((d, .int .i64 (BitVec.ofInt 64 p ^^^ BitVec.ofInt 64 q).toInt) :: F) w0 S M a w → wpList P ops Q rest a w) : wpList P ops Q (⟨some d, .binOp .xor t x y t2, ty, pos, af, none⟩ :: rest) a w :=
  st_pure hs (by simp only [execOp, hs.ev hx, hs.ev hy, binOp, eqGuard, Op.intBits]; simp [IntKind.bits, -BitVec.toNat_xor, -BitVec.toInt_xor]; exact wrap_toInt _) hd k
theorem st_andI {x y : Operand} {p q : Int} {t t2 : TypeId} {d : Nat} {ty : TypeId} {pos : String} {af : Array Edge} (hs : St n F w0 S M a w)
    (hx : evo F x = some (.int .i64 p)) (hy : evo F y = some (.int .i64 q)) (hd : Nat.blt d n = true)
    (k : ∀ a w, St n ((d, .int .i64 (BitVec.ofInt 64 p &&& BitVec.ofInt 64 q).toInt) :: F) w0 S M a w → wpList P ops Q rest a w) : wpList P ops Q (⟨some d, .binOp .and t x y t2, ty, pos, af, none⟩ :: rest) a w :=
  st_pure hs (by simp only [execOp, hs.ev hx, hs.ev hy, binOp, eqGuard, Op.intBits]; simp [IntKind.bits, -BitVec.toNat_and, -BitVec.toInt_and]; exact wrap_toInt _) hd k
theorem st_orI {x y : Operand} {p q : Int} {t t2 : TypeId} {d : Nat} {ty : TypeId} {pos : String} {af : Array Edge} (hs : St n F w0 S M a w)
    (hx : evo F x = some (.int .i64 p)) (hy : evo F y = some (.int .i64 q)) (hd : Nat.blt d n = true)
    (k : ∀ a w, St n ((d, .int .i64 (BitVec.ofInt 64 p ||| BitVec.ofInt 64 q).toInt) :: F) w0 S M a w → wpList P ops Q rest a w) : wpList P ops Q (⟨some d, .binOp .or t x y t2, ty, pos, af, none⟩ :: rest) a w :=
  st_pure hs (by simp only [execOp, hs.ev hx, hs.ev hy, binOp, eqGuard, Op.intBits]; simp [IntKind.bits, -BitVec.toNat_or, -BitVec.toInt_or]; exact wrap_toInt _) hd k
theorem st_negR {x : Operand} {p : Int} {t : TypeId} {d : Nat} {ty : TypeId} {pos : String} {af : Array Edge} (hs : St n F w0 S M a w)
    (hx : evo F x = some (.int .i64 p)) (hr : -9223372036854775807 ≤ p ∧ p ≤ 9223372036854775808) (hd : Nat.blt d n = true)
    (k : ∀ a w, St n ((d, .int .i64 (-p)) :: F) w0 S M a w → wpList P ops Q rest a w) : wpList P ops Q (⟨some d, .unOp .neg t x, ty, pos, af, none⟩ :: rest) a w :=
  st_pure hs (by have h := IntWalk.i64_in (-p) (by omega); simp [execOp, hs.ev hx, Op.unary, Op.intArith, h]) hd k
theorem st_ixT {x i : Operand} {s : ByteArray} {f : BitVec 8 → BitVec 8} {t : TypeId} {kd : IntKind} {q : Int} {Y : BitVec 8} {d : Nat} {ty : TypeId} {pos : String} {af : Array Edge} (hs : St n F w0 S M a w)
    (hx : evo F x = some (.string s)) (hi : evo F i = some (.int kd q)) (hq : q = ((Y.toNat : Nat) : Int)) (ht : P.underlying t = some .string) (hf : ∀ Y : BitVec 8, s[Y.toNat]? = some (UInt8.ofBitVec (f Y))) (hd : Nat.blt d n = true)
    (k : ∀ a w, St n ((d, .int .u8 (((f Y).toNat : Nat) : Int)) :: F) w0 S M a w → wpList P ops Q rest a w) : wpList P ops Q (⟨some d, .index t x i, ty, pos, af, none⟩ :: rest) a w :=
  st_ixS hs hx hi ht (by omega) (by subst hq; exact hf Y) hd k
theorem byte_ix {s : ByteArray} {f : BitVec 8 → BitVec 8} (hf : ∀ Y : BitVec 8, s[Y.toNat]? = some (UInt8.ofBitVec (f Y))) (Y : BitVec 8) : s[((Y.toNat : Nat) : Int).toNat]? = some (UInt8.ofBitVec (f Y)) := hf Y
theorem st_guardU {d : Nat} {op : Op} {j t : Nat} {b : Bool} {oj : Oper} {ty : TypeId} {pos : String} {af : Array Edge} (hs : St n F w0 S M a w) (hj : ops[j]? = some oj) (hoj : oj.dst = some t) (hv : lk F t = some undef) (hd : Nat.blt d n = true)
    (k : ∀ a w, St n ((d, undef) :: F) w0 S M a w → wpList P ops Q rest a w) : wpList P ops Q (⟨some d, op, ty, pos, af, some (j, b)⟩ :: rest) a w := by
  have hg := hs.agr t _ hv
  have hy : yielded ops a.tmps j = none := by simp [yielded, hj, hoj, hg, undef]
  have hne : ((none : Option Bool) == some b) = false := by cases b <;> rfl
  simp only [wpList, Region.wanted, hy, hne, Bool.false_eq_true, if_false]
  exact k _ _ (hs.put hd undef)
theorem st_minK {x y : Operand} {kd : IntKind} {p q : Int} {ts : Array TypeId} {d : Nat} {ty : TypeId} {pos : String} {af : Array Edge} (hs : St n F w0 S M a w) (hx : evo F x = some (.int kd p)) (hy : evo F y = some (.int kd q)) (hd : Nat.blt d n = true)
    (k : ∀ a w, St n ((d, .int kd (min p q)) :: F) w0 S M a w → wpList P ops Q rest a w) : wpList P ops Q (⟨some d, .call { callee := .builtin .min, args := #[x, y], argTypes := ts }, ty, pos, af, none⟩ :: rest) a w := by
  have e : (if q < p then q else p) = min p q := by omega
  exact st_pure hs (by simp [execOp, resolve, invoke, builtin, Builtin.min_, Builtin.min2, hs.ev hx, hs.ev hy, e]) hd k
theorem st_maxK {x y : Operand} {kd : IntKind} {p q : Int} {ts : Array TypeId} {d : Nat} {ty : TypeId} {pos : String} {af : Array Edge} (hs : St n F w0 S M a w) (hx : evo F x = some (.int kd p)) (hy : evo F y = some (.int kd q)) (hd : Nat.blt d n = true)
    (k : ∀ a w, St n ((d, .int kd (max p q)) :: F) w0 S M a w → wpList P ops Q rest a w) : wpList P ops Q (⟨some d, .call { callee := .builtin .max, args := #[x, y], argTypes := ts }, ty, pos, af, none⟩ :: rest) a w := by
  have e : (if q > p then q else p) = max p q := by omega
  exact st_pure hs (by simp [execOp, resolve, invoke, builtin, Builtin.max_, Builtin.max2, hs.ev hx, hs.ev hy, e]) hd k
theorem st_callPV {x : Operand} {f : FuncId} {xs : List Operand} {ats : Array TypeId} {vs us all : List Value} {v : Value} {d : Nat} {ty : TypeId} {pos : String} {af : Array Edge} (hs : St n F w0 S M a w) (hx : evo F x = some (.func (.func f) #[] us.toArray)) (hv : Evs F xs vs) (hall : vs ++ us = all) (hcall : ∀ args w, (callFunc f args).run P w = .ok (.enter f args) w)
    (hc : Calls P f all.toArray w (RetV w v)) (hd : Nat.blt d n = true)
    (k : ∀ a w, St n ((d, v) :: F) w0 S M a w → wpList P ops Q rest a w) :
    wpList P ops Q (⟨some d, .call { callee := .value x, args := xs.toArray, argTypes := ats }, ty, pos, af, none⟩ :: rest) a w := by
  refine st_callV hs hx hv hall hcall .n hc hd ?_
  rintro v' N a' w' ⟨rfl, rfl⟩ hs'
  exact k _ _ hs'
end Go.Sx
