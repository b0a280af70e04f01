/- Walks of VarintGets: what each function does, over the program of this seat. Printed by a program of this session. -/
import Derived.Test.YtmhkekdhijnnbaaWvar
namespace Go.Proofs.Ytmhkekdhijnnbaa
open Go Go.Sx Go.RowKit
set_option linter.unusedVariables false
set_option linter.unusedSimpArgs false
set_option maxRecDepth 4000

theorem varintGets_ok (v : Value) (m : Nat) (bs : List Byte) (w0 : World) (hb : Rd w0 [] v 1 m (bytesV bs)) : Calls Try.prog 9 #[v] w0 (RetV w0 (.bool true)) := by
  have hbl : bs.length = m := by have := hb.len; simpa [bytesV] using this
  have hbe : m ≤ maxLen := hb.le
  simp only [maxLen] at hbe
  refine enter (F0 := [(0, v)]) Try.func9 rfl rfl rfl (.c .n) (Mem.nil _) fun a w hs => ?_
  refine wp_seq_k fun K1 hK2 => ?_
  refine wp_region_lit ?_
  refine st_as hs rfl rfl ?_; clear hs w a; intro a w hs
  refine wpList_nil ?_
  refine then_n (hK2 _ _ ?_)
  refine wp_seq_k fun K3 hK4 => ?_
  refine wp_region_lit ?_
  refine st_mv hs rfl rfl ?_; clear hs w a; intro a w hs
  refine st_callP (v := .tuple #[.int .u64 (((((vget bs).1).toNat : Nat) : Int)), .int .i64 ((((vget bs).2.1 : Nat) : Int)), .int .i64 ((((vget bs).2.2 : Nat) : Int))]) hs (.c rfl .n) Try.call31 (get_ok _ _ bs _ (hs.rd0 hb)) rfl ?_; clear hs w a; intro a w hs
  refine st_mv hs rfl rfl ?_; clear hs w a; intro a w hs
  refine st_ex hs rfl .z rfl ?_; clear hs w a; intro a w hs
  refine st_ex hs rfl (.s .z) rfl ?_; clear hs w a; intro a w hs
  refine st_ex hs rfl (.s (.s .z)) rfl ?_; clear hs w a; intro a w hs
  refine st_as hs rfl rfl ?_; clear hs w a; intro a w hs
  refine st_as hs rfl rfl ?_; clear hs w a; intro a w hs
  refine st_as hs rfl rfl ?_; clear hs w a; intro a w hs
  refine wpList_nil ?_
  refine then_n (hK4 _ _ ?_)
  refine wp_seq_k fun K5 hK6 => ?_
  refine wp_region_lit ?_
  refine st_mv hs rfl rfl ?_; clear hs w a; intro a w hs
  refine st_callP (v := .tuple #[.int .u64 (((((vget bs).1).toNat : Nat) : Int)), .int .i64 ((((vget bs).2.1 : Nat) : Int)), .int .i64 ((((vget bs).2.2 : Nat) : Int))]) hs (.c rfl .n) Try.call32 (rget_ok _ _ bs _ (hs.rd0 hb)) rfl ?_; clear hs w a; intro a w hs
  refine st_mv hs rfl rfl ?_; clear hs w a; intro a w hs
  refine st_ex hs rfl .z rfl ?_; clear hs w a; intro a w hs
  refine st_ex hs rfl (.s .z) rfl ?_; clear hs w a; intro a w hs
  refine st_ex hs rfl (.s (.s .z)) rfl ?_; clear hs w a; intro a w hs
  refine st_as hs rfl rfl ?_; clear hs w a; intro a w hs
  refine st_as hs rfl rfl ?_; clear hs w a; intro a w hs
  refine st_as hs rfl rfl ?_; clear hs w a; intro a w hs
  refine wpList_nil ?_
  refine then_n (hK6 _ _ ?_)
  refine wp_seq_k fun K7 hK8 => ?_
  refine wp_region_lit ?_
  refine st_callP (v := .bool (true)) hs .n Try.call28 (alive05_ok _) rfl ?_; clear hs w a; intro a w hs
  refine st_mv hs rfl rfl ?_; clear hs w a; intro a w hs
  refine st_guardT hs rfl rfl rfl ?_
  refine st_mv hs rfl rfl ?_; clear hs w a; intro a w hs
  refine st_guardT hs rfl rfl rfl ?_
  refine st_mv hs rfl rfl ?_; clear hs w a; intro a w hs
  refine st_guardT hs rfl rfl rfl ?_
  refine st_eql hs rfl rfl rfl ?_; clear hs w a; intro a w hs
  have hb_ : ((((((vget bs).1).toNat : Nat) : Int) : Int) == (((((vget bs).1).toNat : Nat) : Int))) = true := beq_self_eq_true _
  rw [hb_] at hs; clear hb_
  refine st_pickT hs rfl rfl rfl ?_; clear hs w a; intro a w hs
  refine st_mv hs rfl rfl ?_; clear hs w a; intro a w hs
  refine st_guardT hs rfl rfl rfl ?_
  refine st_mv hs rfl rfl ?_; clear hs w a; intro a w hs
  refine st_guardT hs rfl rfl rfl ?_
  refine st_mv hs rfl rfl ?_; clear hs w a; intro a w hs
  refine st_guardT hs rfl rfl rfl ?_
  refine st_eql hs rfl rfl rfl ?_; clear hs w a; intro a w hs
  have hb_ : (((((vget bs).2.1 : Nat) : Int) : Int) == ((((vget bs).2.1 : Nat) : Int))) = true := beq_self_eq_true _
  rw [hb_] at hs; clear hb_
  refine st_pickT hs rfl rfl rfl ?_; clear hs w a; intro a w hs
  refine st_mv hs rfl rfl ?_; clear hs w a; intro a w hs
  refine st_guardT hs rfl rfl rfl ?_
  refine st_mv hs rfl rfl ?_; clear hs w a; intro a w hs
  refine st_guardT hs rfl rfl rfl ?_
  refine st_mv hs rfl rfl ?_; clear hs w a; intro a w hs
  refine st_guardT hs rfl rfl rfl ?_
  refine st_eql hs rfl rfl rfl ?_; clear hs w a; intro a w hs
  have hb_ : (((((vget bs).2.2 : Nat) : Int) : Int) == ((((vget bs).2.2 : Nat) : Int))) = true := beq_self_eq_true _
  rw [hb_] at hs; clear hb_
  refine st_pickT hs rfl rfl rfl ?_; clear hs w a; intro a w hs
  refine st_as hs rfl rfl ?_; clear hs w a; intro a w hs
  refine wpList_nil ?_
  refine then_n (hK8 _ _ ?_)
  refine wp_ret ?_
  exact fin hs rfl rfl ⟨rfl, rfl⟩
end Go.Proofs.Ytmhkekdhijnnbaa
