/- Walks of CrcOpens: what each function does, over the program of this seat. Printed by a program of this session. -/
import Derived.Test.YtmhkekdhijnnbaaWcrc
namespace Go.Proofs.Ytmhkekdhijnnbaa
open Go Go.Sx Go.RowKit
set_option linter.unusedVariables false
set_option linter.unusedSimpArgs false
set_option maxRecDepth 4000

theorem crcOpens_none (v : Value) (m : Nat) (bs : List Byte) (w0 : World) (hb : Rd w0 [] v 1 m (bytesV bs)) (ho : open_ bs = none) : Calls Try.prog 6 #[v] w0 (RetV w0 (.bool true)) := by
  have hbl : bs.length = m := by have := hb.len; simpa [bytesV] using this
  have hbe : m ≤ maxLen := hb.le
  simp only [maxLen] at hbe
  refine enter (F0 := [(0, v)]) Try.func6 rfl rfl rfl (.c .n) (Mem.nil _) fun a w hs => ?_
  refine wp_seq_k fun K1 hK2 => ?_
  refine wp_region_lit ?_
  refine st_as hs rfl rfl ?_; clear hs w a; intro a w hs
  refine wpList_nil ?_
  refine then_n (hK2 _ _ ?_)
  refine wp_seq_k fun K3 hK4 => ?_
  refine wp_seq_k fun K5 hK6 => ?_
  refine wp_region_lit ?_
  refine st_mv hs rfl rfl ?_; clear hs w a; intro a w hs
  refine st_len hs rfl (hs.rd0 hb).isSl Try.underlying22 rfl ?_; clear hs w a; intro a w hs
  refine st_gtr hs rfl rfl rfl ?_; clear hs w a; intro a w hs
  refine wpList_nil ?_
  refine then_n (hK6 _ _ ?_)
  refine wp_if hs rfl (fun hc7 => ?_) (fun hc7 => ?_)
  ·
    replace hc7 := of_decide_eq_true hc7
    refine wp_seq_k fun K8 hK9 => ?_
    refine wp_region_lit ?_
    refine st_callP (v := .bool (true)) hs .n Try.call19 (alive06_ok _) rfl ?_; clear hs w a; intro a w hs
    refine st_as hs rfl rfl ?_; clear hs w a; intro a w hs
    refine wpList_nil ?_
    refine then_n (hK9 _ _ ?_)
    refine wp_ret ?_
    refine th_r ?_
    exact fin hs rfl rfl ⟨rfl, rfl⟩
  ·
    replace hc7 := of_decide_eq_false hc7
    refine wp_skip ?_
    refine then_n (hK4 _ _ ?_)
    refine wp_seq_k fun K10 hK11 => ?_
    refine wp_region_lit ?_
    refine st_mv hs rfl rfl ?_; clear hs w a; intro a w hs
    refine st_callP hs (.c rfl .n) Try.call25 (open_none _ _ bs _ (hs.rd0 hb) (by omega) ho) rfl ?_; clear hs w a; intro a w hs
    refine st_mv hs rfl rfl ?_; clear hs w a; intro a w hs
    refine st_ex hs rfl .z rfl ?_; clear hs w a; intro a w hs
    refine st_ex hs rfl (.s .z) rfl ?_; clear hs w a; intro a w hs
    refine st_as hs rfl rfl ?_; clear hs w a; intro a w hs
    refine st_as hs rfl rfl ?_; clear hs w a; intro a w hs
    refine wpList_nil ?_
    refine then_n (hK11 _ _ ?_)
    refine wp_seq_k fun K12 hK13 => ?_
    refine wp_region_lit ?_
    refine st_mv hs rfl rfl ?_; clear hs w a; intro a w hs
    refine st_callP hs (.c rfl .n) Try.call26 (ropen_none _ _ bs _ (hs.rd0 hb) (by omega) ho) rfl ?_; clear hs w a; intro a w hs
    refine st_mv hs rfl rfl ?_; clear hs w a; intro a w hs
    refine st_ex hs rfl .z rfl ?_; clear hs w a; intro a w hs
    refine st_ex hs rfl (.s .z) rfl ?_; clear hs w a; intro a w hs
    refine st_as hs rfl rfl ?_; clear hs w a; intro a w hs
    refine st_as hs rfl rfl ?_; clear hs w a; intro a w hs
    refine wpList_nil ?_
    refine then_n (hK13 _ _ ?_)
    refine wp_seq_k fun K14 hK15 => ?_
    refine wp_region_lit ?_
    refine st_callP (v := .bool (true)) hs .n Try.call19 (alive06_ok _) rfl ?_; clear hs w a; intro a w hs
    refine st_mv hs rfl rfl ?_; clear hs w a; intro a w hs
    refine st_guardT hs rfl rfl rfl ?_
    refine st_mv hs rfl rfl ?_; clear hs w a; intro a w hs
    refine st_guardT hs rfl rfl rfl ?_
    refine st_str (bs := []) hs rfl (rd_nilB w []) Try.underlying22 Try.underlying5 Try.underlying9 rfl ?_; clear hs w a; intro a w hs
    refine st_guardT hs rfl rfl rfl ?_
    refine st_mv hs rfl rfl ?_; clear hs w a; intro a w hs
    refine st_guardT hs rfl rfl rfl ?_
    refine st_str (bs := []) hs rfl (rd_nilB w []) Try.underlying22 Try.underlying5 Try.underlying9 rfl ?_; clear hs w a; intro a w hs
    refine st_guardT hs rfl rfl rfl ?_
    refine st_eqs hs rfl rfl rfl ?_; clear hs w a; intro a w hs
    have hb_ : ((strB ([])).toList == (strB ([])).toList) = true := beq_self_eq_true _
    rw [hb_] at hs; clear hb_
    refine st_pickT hs rfl rfl rfl ?_; clear hs w a; intro a w hs
    refine st_mv hs rfl rfl ?_; clear hs w a; intro a w hs
    refine st_guardT hs rfl rfl rfl ?_
    refine st_mv hs rfl rfl ?_; clear hs w a; intro a w hs
    refine st_guardT hs rfl rfl rfl ?_
    refine st_mv hs rfl rfl ?_; clear hs w a; intro a w hs
    refine st_guardT hs rfl rfl rfl ?_
    refine st_eqb hs rfl rfl Try.underlying4 rfl ?_; clear hs w a; intro a w hs
    have hb_ : ((false : Bool) == false) = true := rfl
    rw [hb_] at hs; clear hb_
    refine st_pickT hs rfl rfl rfl ?_; clear hs w a; intro a w hs
    refine st_as hs rfl rfl ?_; clear hs w a; intro a w hs
    refine wpList_nil ?_
    refine then_n (hK15 _ _ ?_)
    refine wp_ret ?_
    exact fin hs rfl rfl ⟨rfl, rfl⟩
theorem crcOpens_some (v : Value) (m : Nat) (bs : List Byte) (w0 : World) (hb : Rd w0 [] v 1 m (bytesV bs)) (x : List Byte) (ho : open_ bs = some x) : Calls Try.prog 6 #[v] w0 (RetV w0 (.bool true)) := by
  have hbl : bs.length = m := by have := hb.len; simpa [bytesV] using this
  have hbe : m ≤ maxLen := hb.le
  simp only [maxLen] at hbe
  have hxl : x.length ≤ m := by have := congrArg List.length ((open_spec bs x).1 ho); rw [length_seal] at this; omega
  refine enter (F0 := [(0, v)]) Try.func6 rfl rfl rfl (.c .n) (Mem.nil _) fun a w hs => ?_
  refine wp_seq_k fun K1 hK2 => ?_
  refine wp_region_lit ?_
  refine st_as hs rfl rfl ?_; clear hs w a; intro a w hs
  refine wpList_nil ?_
  refine then_n (hK2 _ _ ?_)
  refine wp_seq_k fun K3 hK4 => ?_
  refine wp_seq_k fun K5 hK6 => ?_
  refine wp_region_lit ?_
  refine st_mv hs rfl rfl ?_; clear hs w a; intro a w hs
  refine st_len hs rfl (hs.rd0 hb).isSl Try.underlying22 rfl ?_; clear hs w a; intro a w hs
  refine st_gtr hs rfl rfl rfl ?_; clear hs w a; intro a w hs
  refine wpList_nil ?_
  refine then_n (hK6 _ _ ?_)
  refine wp_if hs rfl (fun hc7 => ?_) (fun hc7 => ?_)
  ·
    replace hc7 := of_decide_eq_true hc7
    refine wp_seq_k fun K8 hK9 => ?_
    refine wp_region_lit ?_
    refine st_callP (v := .bool (true)) hs .n Try.call19 (alive06_ok _) rfl ?_; clear hs w a; intro a w hs
    refine st_as hs rfl rfl ?_; clear hs w a; intro a w hs
    refine wpList_nil ?_
    refine then_n (hK9 _ _ ?_)
    refine wp_ret ?_
    refine th_r ?_
    exact fin hs rfl rfl ⟨rfl, rfl⟩
  ·
    replace hc7 := of_decide_eq_false hc7
    refine wp_skip ?_
    refine then_n (hK4 _ _ ?_)
    refine wp_seq_k fun K10 hK11 => ?_
    refine wp_region_lit ?_
    refine st_mv hs rfl rfl ?_; clear hs w a; intro a w hs
    refine st_call hs (.c rfl .n) Try.call25 .n (open_some _ _ bs _ (hs.rd0 hb) _ (by omega) ho) rfl ?_; clear hs w a; rintro _ _ a w ⟨v12, rfl, rfl⟩ hs; simp only [List.cons_append, List.nil_append] at hs
    refine st_mv hs rfl rfl ?_; clear hs w a; intro a w hs
    refine st_ex hs rfl .z rfl ?_; clear hs w a; intro a w hs
    refine st_ex hs rfl (.s .z) rfl ?_; clear hs w a; intro a w hs
    refine st_as hs rfl rfl ?_; clear hs w a; intro a w hs
    refine st_as hs rfl rfl ?_; clear hs w a; intro a w hs
    refine wpList_nil ?_
    refine then_n (hK11 _ _ ?_)
    refine wp_seq_k fun K13 hK14 => ?_
    refine wp_region_lit ?_
    refine st_mv hs rfl rfl ?_; clear hs w a; intro a w hs
    refine st_call hs (.c rfl .n) Try.call26 .n (ropen_some _ _ bs _ (hs.rd0 hb) _ (by omega) ho) rfl ?_; clear hs w a; rintro _ _ a w ⟨v15, rfl, rfl⟩ hs; simp only [List.cons_append, List.nil_append] at hs
    refine st_mv hs rfl rfl ?_; clear hs w a; intro a w hs
    refine st_ex hs rfl .z rfl ?_; clear hs w a; intro a w hs
    refine st_ex hs rfl (.s .z) rfl ?_; clear hs w a; intro a w hs
    refine st_as hs rfl rfl ?_; clear hs w a; intro a w hs
    refine st_as hs rfl rfl ?_; clear hs w a; intro a w hs
    refine wpList_nil ?_
    refine then_n (hK14 _ _ ?_)
    refine wp_seq_k fun K16 hK17 => ?_
    refine wp_region_lit ?_
    refine st_callP (v := .bool (true)) hs .n Try.call19 (alive06_ok _) rfl ?_; clear hs w a; intro a w hs
    refine st_mv hs rfl rfl ?_; clear hs w a; intro a w hs
    refine st_guardT hs rfl rfl rfl ?_
    refine st_mv hs rfl rfl ?_; clear hs w a; intro a w hs
    refine st_guardT hs rfl rfl rfl ?_
    refine st_str (bs := x) hs rfl (rd_row (hs.mem.del (.s .z))) Try.underlying22 Try.underlying5 Try.underlying9 rfl ?_; clear hs w a; intro a w hs
    refine st_guardT hs rfl rfl rfl ?_
    refine st_mv hs rfl rfl ?_; clear hs w a; intro a w hs
    refine st_guardT hs rfl rfl rfl ?_
    refine st_str (bs := x) hs rfl (rd_row (hs.mem.del .z)) Try.underlying22 Try.underlying5 Try.underlying9 rfl ?_; clear hs w a; intro a w hs
    refine st_guardT hs rfl rfl rfl ?_
    refine st_eqs hs rfl rfl rfl ?_; clear hs w a; intro a w hs
    have hb_ : ((strB x).toList == (strB x).toList) = true := beq_self_eq_true _
    rw [hb_] at hs; clear hb_
    refine st_pickT hs rfl rfl rfl ?_; clear hs w a; intro a w hs
    refine st_mv hs rfl rfl ?_; clear hs w a; intro a w hs
    refine st_guardT hs rfl rfl rfl ?_
    refine st_mv hs rfl rfl ?_; clear hs w a; intro a w hs
    refine st_guardT hs rfl rfl rfl ?_
    refine st_mv hs rfl rfl ?_; clear hs w a; intro a w hs
    refine st_guardT hs rfl rfl rfl ?_
    refine st_eqb hs rfl rfl Try.underlying4 rfl ?_; clear hs w a; intro a w hs
    have hb_ : ((true : Bool) == true) = true := rfl
    rw [hb_] at hs; clear hb_
    refine st_pickT hs rfl rfl rfl ?_; clear hs w a; intro a w hs
    refine st_as hs rfl rfl ?_; clear hs w a; intro a w hs
    refine wpList_nil ?_
    refine then_n (hK17 _ _ ?_)
    refine wp_ret ?_
    replace hs := hs.drop (.c (.s .z) (.c .z .n))
    exact fin hs rfl rfl ⟨rfl, rfl⟩
theorem crcOpens_ok (v : Value) (m : Nat) (bs : List Byte) (w0 : World) (hb : Rd w0 [] v 1 m (bytesV bs)) : Calls Try.prog 6 #[v] w0 (RetV w0 (.bool true)) := by
  cases ho : open_ bs with
  | none => exact crcOpens_none v m bs w0 hb ho
  | some x => exact crcOpens_some v m bs w0 hb x ho
end Go.Proofs.Ytmhkekdhijnnbaa
