/- Walks of RecordBack: what each function does, over the program of this seat. Printed by a program of this session. -/
import Derived.Test.YtkobgcoegajfcaaWrec2
import Derived.Test.YtkobgcoegajfcaaWrec5
import Derived.Test.YtkobgcoegajfcaaSxRrec
namespace Go.Proofs.Ytkobgcoegajfcaa
open Go Go.Sx Go.RowKit
set_option linter.unusedVariables false
set_option linter.unusedSimpArgs false
set_option maxRecDepth 4000
set_option maxHeartbeats 1000000

theorem recordBack_ok (r : RecR) (last : Int) (v : Value) (m : Nat) (bs : List Byte) (w0 : World) (hw : r.wf) (hl : -9223372036854775808 ≤ last ∧ last ≤ 9223372036854775807) (hb : Rd w0 [] v 1 m (bytesV bs)) : Calls Try.prog 6 #[.agg #[.int .i64 (r.k), .int .i64 (r.id), .int .i64 (r.p0), .int .i64 (r.p1), .int .i64 (r.p2), .int .i64 (r.v0), .int .i64 (r.v1), .int .i64 (r.v2), .int .u16 ((((r.a).toNat : Nat) : Int))], .int .i64 last, v] w0 (RetV w0 (.bool true)) := by
  have hwf := hw.facts
  have hbl : bs.length = m := by have := hb.len; simpa [bytesV] using this
  have hbe : m ≤ maxLen := hb.le
  simp only [maxLen] at hbe
  have hlb := length_recB r last
  refine enter (F0 := [(0, .agg #[.int .i64 (r.k), .int .i64 (r.id), .int .i64 (r.p0), .int .i64 (r.p1), .int .i64 (r.p2), .int .i64 (r.v0), .int .i64 (r.v1), .int .i64 (r.v2), .int .u16 ((((r.a).toNat : Nat) : Int))]), (1, .int .i64 (last)), (2, v)]) Try.func6 rfl rfl rfl (.c (.c (.c .n))) (Mem.nil _) fun a w hs => ?_
  refine wp_seq_k fun K1 hK2 => ?_
  refine wp_region_lit ?_
  refine st_box (cs := [.int .i64 (r.k), .int .i64 (r.id), .int .i64 (r.p0), .int .i64 (r.p1), .int .i64 (r.p2), .int .i64 (r.v0), .int .i64 (r.v1), .int .i64 (r.v2), .int .u16 ((((r.a).toNat : Nat) : Int))]) hs rfl rfl rfl ?_; clear hs w a; intro g3 a w hs
  refine st_as hs rfl rfl ?_; clear hs w a; intro a w hs
  refine wpList_nil ?_
  refine then_n (hK2 _ _ ?_)
  refine wp_seq_k fun K4 hK5 => ?_
  refine wp_region_lit ?_
  refine st_ldBA hs rfl .z (.z (.c (.c (.c (.c (.c (.c (.c (.c (.c .n)))))))))) Try.isAgg25 Try.sizeOf25 rfl ?_; clear hs w a; intro a w hs
  refine st_mv hs rfl rfl ?_; clear hs w a; intro a w hs
  refine st_call hs (.c rfl (.c rfl .n)) Try.call18 .n (write_ok r last _ hw (by omega)) rfl ?_; clear hs w a; rintro _ _ a w ⟨v6, rfl, rfl⟩ hs; simp only [List.cons_append, List.nil_append] at hs
  have hk7 := length_recB r last
  refine st_mv hs rfl rfl ?_; clear hs w a; intro a w hs
  refine st_ex hs rfl .z rfl ?_; clear hs w a; intro a w hs
  refine st_ex hs rfl (.s .z) rfl ?_; clear hs w a; intro a w hs
  refine st_as hs rfl rfl ?_; clear hs w a; intro a w hs
  refine st_as hs rfl rfl ?_; clear hs w a; intro a w hs
  refine wpList_nil ?_
  refine then_n (hK5 _ _ ?_)
  refine wp_seq_k fun K8 hK9 => ?_
  refine wp_seq_k fun K10 hK11 => ?_
  refine wp_region_lit ?_
  refine st_mv hs rfl rfl ?_; clear hs w a; intro a w hs
  refine st_neq hs rfl rfl rfl ?_; clear hs w a; intro a w hs
  refine st_mv hs rfl rfl ?_; clear hs w a; intro a w hs
  refine st_part (b := !((((recErr r last : Nat) : Int) : Int) == 0)) (fun hc12 => ?_) (fun hc12 => ?_)
  ·
   rw [hc12] at hs
   replace hc12 := not_t hc12
   replace hc12 := ne_of_beq_f hc12
   refine st_guardF hs rfl rfl rfl rfl rfl ?_; clear hs w a; intro a w hs
   refine st_guardF hs rfl rfl rfl rfl rfl ?_; clear hs w a; intro a w hs
   refine st_guardF hs rfl rfl rfl rfl rfl ?_; clear hs w a; intro a w hs
   refine st_pickT hs rfl rfl rfl ?_; clear hs w a; intro a w hs
   refine wpList_nil ?_
   refine then_n (hK11 _ _ ?_)
   refine wp_cond_true (hs.ev rfl) ?_
   refine wp_seq_k fun K13 hK14 => ?_
   refine wp_region_lit ?_
   refine st_callP (v := .bool (true)) hs .n Try.call20 (alive08_ok _) rfl ?_; clear hs w a; intro a w hs
   refine st_mv hs rfl rfl ?_; clear hs w a; intro a w hs
   refine st_guardT hs rfl rfl rfl ?_
   refine st_mv hs rfl rfl ?_; clear hs w a; intro a w hs
   refine st_guardT hs rfl rfl rfl ?_
   refine st_eql hs rfl rfl rfl ?_; clear hs w a; intro a w hs
   refine st_guardT hs rfl rfl rfl ?_
   refine st_mv hs rfl rfl ?_; clear hs w a; intro a w hs
   refine st_part (b := (((recErr r last : Nat) : Int) : Int) == 0) (fun hc15 => ?_) (fun hc15 => ?_)
   ·
    rw [hc15] at hs
    replace hc15 := eq_of_beq hc15
    refine st_guardF hs rfl rfl rfl rfl rfl ?_; clear hs w a; intro a w hs
    refine st_guardF hs rfl rfl rfl rfl rfl ?_; clear hs w a; intro a w hs
    refine st_guardF hs rfl rfl rfl rfl rfl ?_; clear hs w a; intro a w hs
    refine st_guardT hs rfl rfl rfl ?_
    refine st_pickT hs rfl rfl rfl ?_; clear hs w a; intro a w hs
    refine st_pickT hs rfl rfl rfl ?_; clear hs w a; intro a w hs
    refine st_as hs rfl rfl ?_; clear hs w a; intro a w hs
    refine wpList_nil ?_
    refine then_n (hK14 _ _ ?_)
    refine wp_ret ?_
    refine th_r ?_
    replace hs := hs.drop (.c (.s .z) (.c .z .n))
    exact fin hs rfl rfl ⟨rfl, rfl⟩
   rw [hc15] at hs
   replace hc15 := ne_of_beq_f hc15
   refine st_guardT hs rfl rfl rfl ?_
   refine st_mv hs rfl rfl ?_; clear hs w a; intro a w hs
   refine st_guardT hs rfl rfl rfl ?_
   refine st_len hs rfl (rd_row (hs.mem.del .z)).isSl Try.underlying26 rfl ?_; clear hs w a; intro a w hs
   refine st_guardT hs rfl rfl rfl ?_
   refine st_eql hs rfl rfl rfl ?_; clear hs w a; intro a w hs
   have hb_ : (((((recB r last).length : Nat) : Int) : Int) == 0) = true := by rw [recB_err (by omega)]; rfl
   rw [hb_] at hs; clear hb_
   refine st_guardT hs rfl rfl rfl ?_
   refine st_pickF hs rfl rfl rfl ?_; clear hs w a; intro a w hs
   refine st_pickT hs rfl rfl rfl ?_; clear hs w a; intro a w hs
   refine st_as hs rfl rfl ?_; clear hs w a; intro a w hs
   refine wpList_nil ?_
   refine then_n (hK14 _ _ ?_)
   refine wp_ret ?_
   refine th_r ?_
   replace hs := hs.drop (.c (.s .z) (.c .z .n))
   exact fin hs rfl rfl ⟨rfl, rfl⟩
  rw [hc12] at hs
  replace hc12 := not_f hc12
  replace hc12 := eq_of_beq hc12
  refine st_guardT hs rfl rfl rfl ?_
  refine st_mv hs rfl rfl ?_; clear hs w a; intro a w hs
  refine st_guardT hs rfl rfl rfl ?_
  refine st_len hs rfl (hs.rd0 hb).isSl Try.underlying26 rfl ?_; clear hs w a; intro a w hs
  refine st_guardT hs rfl rfl rfl ?_
  refine st_gtr hs rfl rfl rfl ?_; clear hs w a; intro a w hs
  refine st_pickF hs rfl rfl rfl ?_; clear hs w a; intro a w hs
  refine wpList_nil ?_
  refine then_n (hK11 _ _ ?_)
  refine wp_if hs rfl (fun hc16 => ?_) (fun hc16 => ?_)
  ·
   replace hc16 := of_decide_eq_true hc16
   refine wp_seq_k fun K17 hK18 => ?_
   refine wp_region_lit ?_
   refine st_callP (v := .bool (true)) hs .n Try.call20 (alive08_ok _) rfl ?_; clear hs w a; intro a w hs
   refine st_mv hs rfl rfl ?_; clear hs w a; intro a w hs
   refine st_guardT hs rfl rfl rfl ?_
   refine st_mv hs rfl rfl ?_; clear hs w a; intro a w hs
   refine st_guardT hs rfl rfl rfl ?_
   refine st_eql hs rfl rfl rfl ?_; clear hs w a; intro a w hs
   refine st_guardT hs rfl rfl rfl ?_
   refine st_mv hs rfl rfl ?_; clear hs w a; intro a w hs
   refine st_part (b := (((recErr r last : Nat) : Int) : Int) == 0) (fun hc19 => ?_) (fun hc19 => ?_)
   ·
    rw [hc19] at hs
    replace hc19 := eq_of_beq hc19
    refine st_guardF hs rfl rfl rfl rfl rfl ?_; clear hs w a; intro a w hs
    refine st_guardF hs rfl rfl rfl rfl rfl ?_; clear hs w a; intro a w hs
    refine st_guardF hs rfl rfl rfl rfl rfl ?_; clear hs w a; intro a w hs
    refine st_guardT hs rfl rfl rfl ?_
    refine st_pickT hs rfl rfl rfl ?_; clear hs w a; intro a w hs
    refine st_pickT hs rfl rfl rfl ?_; clear hs w a; intro a w hs
    refine st_as hs rfl rfl ?_; clear hs w a; intro a w hs
    refine wpList_nil ?_
    refine then_n (hK18 _ _ ?_)
    refine wp_ret ?_
    refine th_r ?_
    replace hs := hs.drop (.c (.s .z) (.c .z .n))
    exact fin hs rfl rfl ⟨rfl, rfl⟩
   rw [hc19] at hs
   replace hc19 := ne_of_beq_f hc19
   refine st_guardT hs rfl rfl rfl ?_
   refine st_mv hs rfl rfl ?_; clear hs w a; intro a w hs
   refine st_guardT hs rfl rfl rfl ?_
   refine st_len hs rfl (rd_row (hs.mem.del .z)).isSl Try.underlying26 rfl ?_; clear hs w a; intro a w hs
   refine st_guardT hs rfl rfl rfl ?_
   refine st_eql hs rfl rfl rfl ?_; clear hs w a; intro a w hs
   have hb_ : (((((recB r last).length : Nat) : Int) : Int) == 0) = true := by rw [recB_err (by omega)]; rfl
   rw [hb_] at hs; clear hb_
   refine st_guardT hs rfl rfl rfl ?_
   refine st_pickF hs rfl rfl rfl ?_; clear hs w a; intro a w hs
   refine st_pickT hs rfl rfl rfl ?_; clear hs w a; intro a w hs
   refine st_as hs rfl rfl ?_; clear hs w a; intro a w hs
   refine wpList_nil ?_
   refine then_n (hK18 _ _ ?_)
   refine wp_ret ?_
   refine th_r ?_
   replace hs := hs.drop (.c (.s .z) (.c .z .n))
   exact fin hs rfl rfl ⟨rfl, rfl⟩
  replace hc16 := of_decide_eq_false hc16
  have hre : recErr r last = 0 := by omega
  have hF := rd_full (bs := recB r last ++ bs) (rest := bs) (p := 0) hw hre (Nat.zero_le _) rfl
  refine wp_skip ?_
  refine then_n (hK9 _ _ ?_)
  refine wp_seq_k fun K20 hK21 => ?_
  refine wp_region_lit ?_
  refine st_bs0 hs Try.underlying26 rfl ?_ ⟨_, Try.sizeOf5⟩; clear hs w a; intro g22 a w hs
  refine st_mv hs rfl rfl ?_; clear hs w a; intro a w hs
  replace hs := hs.toRow (size := 1) (m := 0) .z rfl (by decide)
  refine st_app (size := 1) (bytes := 1) hs rfl rfl .z (rd_row (hs.mem.del (.s .z))) (oneCell_bytesV _) Try.underlying26 (i := Try.t5) rfl rfl rfl rfl rfl (by decide) (by omega) (by simp only [maxLen]; omega) rfl ?_; clear hs w a; intro v23 a w hs
  refine st_mv hs rfl rfl ?_; clear hs w a; intro a w hs
  refine st_app (size := 1) (bytes := 1) hs rfl rfl .z (hs.rd0 hb) (oneCell_bytesV _) Try.underlying26 (i := Try.t5) rfl rfl rfl rfl rfl (by decide) (by omega) (by simp only [maxLen]; omega) rfl ?_; clear hs w a; intro v24 a w hs
  replace hs := hs.rerow .z (m' := (recB r last).length + m) (xs' := bytesV (recB r last ++ bs)) (by omega) (by simp [bytesV])
  refine st_call hs (.c rfl .n) Try.call25 .n (new_ok _ _ (recB r last ++ bs) _ (rd_row (hs.mem.del .z))) rfl ?_; clear hs w a; rintro _ _ a w ⟨g25, rfl, rfl⟩ hs; simp only [List.cons_append, List.nil_append] at hs
  have hleg25 : (⟨0, 0⟩ : Rs).p ≤ (recB r last ++ bs).length := Nat.zero_le _
  refine st_as hs rfl rfl ?_; clear hs w a; intro a w hs
  refine wpList_nil ?_
  refine then_n (hK21 _ _ ?_)
  refine wp_seq_k fun K26 hK27 => ?_
  refine wp_region_lit ?_
  refine st_mv hs rfl rfl ?_; clear hs w a; intro a w hs
  refine st_mv hs rfl rfl ?_; clear hs w a; intro a w hs
  refine st_call hs (.c rfl (.c rfl .n)) Try.call26 (.c .z .n) (read_ok g25 _ _ (recB r last ++ bs) (⟨0, 0⟩ : Rs) last _ (hs.mem.rdrow (.s .z) (.c .z .n)) (hs.mem.del .z) (by omega) (by omega)) rfl ?_; clear hs w a; rintro _ _ a w ⟨rfl, rfl⟩ hs; simp only [List.cons_append, List.nil_append] at hs
  have hk28 := rdRec_le (bs := (recB r last ++ bs)) (last := last) (R := (⟨0, 0⟩ : Rs)) (by omega)
  refine st_mv hs rfl rfl ?_; clear hs w a; intro a w hs
  refine st_ex hs rfl .z rfl ?_; clear hs w a; intro a w hs
  refine st_ex hs rfl (.s .z) rfl ?_; clear hs w a; intro a w hs
  refine st_alloc (cs := [.int .i64 (0), .int .i64 (0), .int .i64 (0), .int .i64 (0), .int .i64 (0), .int .i64 (0), .int .i64 (0), .int .i64 (0), .int .u16 (0)]) hs Try.zeroValue25 rfl rfl ?_; clear hs w a; intro g29 a w hs
  refine st_stBA hs rfl rfl .z (.z (.c (.c (.c (.c (.c (.c (.c (.c (.c .n)))))))))) (ones_c rfl (ones_c rfl (ones_c rfl (ones_c rfl (ones_c rfl (ones_c rfl (ones_c rfl (ones_c rfl (ones_c rfl ones_n))))))))) Try.sizeOf25 rfl ?_; clear hs w a; intro a w hs
  refine st_as hs rfl rfl ?_; clear hs w a; intro a w hs
  refine wpList_nil ?_
  refine then_n (hK27 _ _ ?_)
  refine wp_seq_k fun K30 hK31 => ?_
  refine wp_seq_k fun K32 hK33 => ?_
  refine wp_region_lit ?_
  refine st_mv hs rfl rfl ?_; clear hs w a; intro a w hs
  refine st_neq hs rfl rfl rfl ?_; clear hs w a; intro a w hs
  have hb_ : (!(((((rdRec (recB r last ++ bs) last (⟨0, 0⟩ : Rs)).2.1 : Nat) : Int) : Int) == 0)) = false := by rw [hF]; rfl
  rw [hb_] at hs; clear hb_
  refine st_mv hs rfl rfl ?_; clear hs w a; intro a w hs
  refine st_guardT hs rfl rfl rfl ?_
  refine st_ldBA hs rfl .z (.z (.c (.c (.c (.c (.c (.c (.c (.c (.c .n)))))))))) Try.isAgg25 Try.sizeOf25 rfl ?_; clear hs w a; intro a w hs
  refine st_guardT hs rfl rfl rfl ?_
  refine st_ldBA hs rfl (.s (.s (.s (.s .z)))) (.z (.c (.c (.c (.c (.c (.c (.c (.c (.c .n)))))))))) Try.isAgg25 Try.sizeOf25 rfl ?_; clear hs w a; intro a w hs
  refine st_guardT hs rfl rfl rfl ?_
  refine st_neqF (xs := [.int .i64 (((rdRec (recB r last ++ bs) last (⟨0, 0⟩ : Rs)).1).k), .int .i64 (((rdRec (recB r last ++ bs) last (⟨0, 0⟩ : Rs)).1).id), .int .i64 (((rdRec (recB r last ++ bs) last (⟨0, 0⟩ : Rs)).1).p0), .int .i64 (((rdRec (recB r last ++ bs) last (⟨0, 0⟩ : Rs)).1).p1), .int .i64 (((rdRec (recB r last ++ bs) last (⟨0, 0⟩ : Rs)).1).p2), .int .i64 (((rdRec (recB r last ++ bs) last (⟨0, 0⟩ : Rs)).1).v0), .int .i64 (((rdRec (recB r last ++ bs) last (⟨0, 0⟩ : Rs)).1).v1), .int .i64 (((rdRec (recB r last ++ bs) last (⟨0, 0⟩ : Rs)).1).v2), .int .u16 ((((((rdRec (recB r last ++ bs) last (⟨0, 0⟩ : Rs)).1).a).toNat : Nat) : Int))]) (ys := [.int .i64 (r.k), .int .i64 (r.id), .int .i64 (r.p0), .int .i64 (r.p1), .int .i64 (r.p2), .int .i64 (r.v0), .int .i64 (r.v1), .int .i64 (r.v2), .int .u16 ((((r.a).toNat : Nat) : Int))]) (ks := [.i .i64, .i .i64, .i .i64, .i .i64, .i .i64, .i .i64, .i .i64, .i .i64, .i .u16]) 6 hs rfl rfl (by kernel_rfl) (by kernel_rfl) (by kernel_rfl) (by decide) (.i (.i (.i (.i (.i (.i (.i (.i (.i .n))))))))) (.i (.i (.i (.i (.i (.i (.i (.i (.i .n))))))))) rfl ?_; clear hs w a; intro a w hs
  have hb_ : (!(eqCells [.int .i64 (((rdRec (recB r last ++ bs) last (⟨0, 0⟩ : Rs)).1).k), .int .i64 (((rdRec (recB r last ++ bs) last (⟨0, 0⟩ : Rs)).1).id), .int .i64 (((rdRec (recB r last ++ bs) last (⟨0, 0⟩ : Rs)).1).p0), .int .i64 (((rdRec (recB r last ++ bs) last (⟨0, 0⟩ : Rs)).1).p1), .int .i64 (((rdRec (recB r last ++ bs) last (⟨0, 0⟩ : Rs)).1).p2), .int .i64 (((rdRec (recB r last ++ bs) last (⟨0, 0⟩ : Rs)).1).v0), .int .i64 (((rdRec (recB r last ++ bs) last (⟨0, 0⟩ : Rs)).1).v1), .int .i64 (((rdRec (recB r last ++ bs) last (⟨0, 0⟩ : Rs)).1).v2), .int .u16 ((((((rdRec (recB r last ++ bs) last (⟨0, 0⟩ : Rs)).1).a).toNat : Nat) : Int))] [.int .i64 (r.k), .int .i64 (r.id), .int .i64 (r.p0), .int .i64 (r.p1), .int .i64 (r.p2), .int .i64 (r.v0), .int .i64 (r.v1), .int .i64 (r.v2), .int .u16 ((((r.a).toNat : Nat) : Int))])) = false := by rw [hF]; exact congrArg (!·) (recV_refl r)
  rw [hb_] at hs; clear hb_
  refine st_pickF hs rfl rfl rfl ?_; clear hs w a; intro a w hs
  refine st_mv hs rfl rfl ?_; clear hs w a; intro a w hs
  refine st_guardT hs rfl rfl rfl ?_
  refine st_mv hs rfl rfl ?_; clear hs w a; intro a w hs
  refine st_guardT hs rfl rfl rfl ?_
  refine st_callP (v := .int .i64 ((((((rdRec (recB r last ++ bs) last (⟨0, 0⟩ : Rs)).2.2)).p : Nat) : Int))) hs (.c rfl .n) Try.call29 (rat_ok g25 _ _ (recB r last ++ bs) (((rdRec (recB r last ++ bs) last (⟨0, 0⟩ : Rs)).2.2)) _ (rd_row (hs.mem.del (.s (.s .z)))) (hs.mem.del (.s .z)) (by omega)) rfl ?_; clear hs w a; intro a w hs
  refine st_guardT hs rfl rfl rfl ?_
  refine st_mv hs rfl rfl ?_; clear hs w a; intro a w hs
  refine st_guardT hs rfl rfl rfl ?_
  refine st_len hs rfl (rd_row (hs.mem.del (.s (.s (.s .z))))).isSl Try.underlying26 rfl ?_; clear hs w a; intro a w hs
  refine st_guardT hs rfl rfl rfl ?_
  refine st_neq hs rfl rfl rfl ?_; clear hs w a; intro a w hs
  have hb_ : (!(((((((rdRec (recB r last ++ bs) last (⟨0, 0⟩ : Rs)).2.2)).p : Nat) : Int) : Int) == ((((recB r last).length : Nat) : Int)))) = false := by rw [hF]; simp
  rw [hb_] at hs; clear hb_
  refine st_pickF hs rfl rfl rfl ?_; clear hs w a; intro a w hs
  refine wpList_nil ?_
  refine then_n (hK33 _ _ ?_)
  refine wp_cond_false (hs.ev rfl) ?_
  refine wp_skip ?_
  refine then_n (hK31 _ _ ?_)
  refine wp_seq_k fun K34 hK35 => ?_
  refine wp_seq_k fun K36 hK37 => ?_
  refine wp_region_lit ?_
  refine st_mv hs rfl rfl ?_; clear hs w a; intro a w hs
  refine st_len hs rfl (rd_row (hs.mem.del (.s (.s (.s .z))))).isSl Try.underlying26 rfl ?_; clear hs w a; intro a w hs
  refine st_mv hs rfl rfl ?_; clear hs w a; intro a w hs
  refine wpList_nil ?_
  refine then_n (hK37 _ _ ?_)
  refine wp_block ?_
  replace hs := hs.drop (.c (.s (.s .z)) (.c (.s .z) (.c .z .n)))
  refine wp_loopI (fun mm_ a w => ∃ i : Nat, mm_ = (recB r last).length - i ∧ St 87 [(1, .int .i64 (last)), (3, .pointer (some ⟨g3, 0, none⟩)), (7, v6), (65, .int .i64 ((((recB r last).length : Nat) : Int))), (66, .int .i64 ((i : Int)))] w0 [] [row v6 5 1 ((recB r last).length) (bytesV (recB r last)), blk g3 [.int .i64 (r.k), .int .i64 (r.id), .int .i64 (r.p0), .int .i64 (r.p1), .int .i64 (r.p2), .int .i64 (r.v0), .int .i64 (r.v1), .int .i64 (r.v2), .int .u16 ((((r.a).toNat : Nat) : Int))] 25] a w ∧ i ≤ (recB r last).length) ⟨0, rfl, hs.sub (.c rfl (.c rfl (.c rfl (.c rfl (.c rfl .n))))), by omega⟩ ?_
  clear hs w a; rintro mm_ a w ⟨i, rfl, hs, hI1_0⟩
  refine wp_seq_k fun K38 hK39 => ?_
  refine wp_region_lit ?_
  refine st_lss hs rfl rfl rfl ?_; clear hs w a; intro a w hs
  refine wpList_nil ?_
  refine then_n (hK39 _ _ ?_)
  refine wp_seq_k fun K40 hK41 => ?_
  refine wp_if hs rfl (fun hc42 => ?_) (fun hc42 => ?_)
  ·
   replace hc42 := of_decide_eq_true hc42
   have hS := (rd_take (bs := (recB r last).take i) (rest := []) (p := 0) (n := i) hw hre (Nat.zero_le _) (by simp)).2 (by omega)
   refine wp_skip ?_
   refine then_n (hK41 _ _ ?_)
   refine wp_seq_k fun K43 hK44 => ?_
   refine wp_block ?_
   refine wp_seq_k fun K45 hK46 => ?_
   refine wp_region_lit ?_
   refine st_mv hs rfl rfl ?_; clear hs w a; intro a w hs
   refine st_as hs rfl rfl ?_; clear hs w a; intro a w hs
   refine wpList_nil ?_
   refine then_n (hK46 _ _ ?_)
   refine wp_seq_k fun K47 hK48 => ?_
   refine wp_region_lit ?_
   refine st_mv hs rfl rfl ?_; clear hs w a; intro a w hs
   refine st_mv hs rfl rfl ?_; clear hs w a; intro a w hs
   refine st_slcH (j := i) hs rfl rfl rfl (rd_row (hs.mem.del .z)) (by omega) Try.underlying26 Try.sizeOf5 rfl ?_; clear hs w a; intro a w hs
   refine st_call hs (.c rfl .n) Try.call25 .n (new_ok _ _ (((recB r last).take i)) _ ((rd_row (hs.mem.del .z)).slcT (h := i) (by omega))) rfl ?_; clear hs w a; rintro _ _ a w ⟨g49, rfl, rfl⟩ hs; simp only [List.cons_append, List.nil_append] at hs
   have hleg49 : (⟨0, 0⟩ : Rs).p ≤ (((recB r last).take i)).length := Nat.zero_le _
   refine st_mv hs rfl rfl ?_; clear hs w a; intro a w hs
   refine st_call hs (.c rfl (.c rfl .n)) Try.call26 (.c .z .n) (read_ok g49 _ _ (((recB r last).take i)) (⟨0, 0⟩ : Rs) last _ ((hs.mem.rdrow (.s .z) (.c .z .n)).slcT (h := i) (by omega)) (hs.mem.del .z) (by omega) (by omega)) rfl ?_; clear hs w a; rintro _ _ a w ⟨rfl, rfl⟩ hs; simp only [List.cons_append, List.nil_append] at hs
   have hk50 := rdRec_le (bs := (((recB r last).take i))) (last := last) (R := (⟨0, 0⟩ : Rs)) (by omega)
   refine st_mv hs rfl rfl ?_; clear hs w a; intro a w hs
   refine st_ex hs rfl .z rfl ?_; clear hs w a; intro a w hs
   refine st_ex hs rfl (.s .z) rfl ?_; clear hs w a; intro a w hs
   refine st_alloc (cs := [.int .i64 (0), .int .i64 (0), .int .i64 (0), .int .i64 (0), .int .i64 (0), .int .i64 (0), .int .i64 (0), .int .i64 (0), .int .u16 (0)]) hs Try.zeroValue25 rfl rfl ?_; clear hs w a; intro g51 a w hs
   refine st_stBA hs rfl rfl .z (.z (.c (.c (.c (.c (.c (.c (.c (.c (.c .n)))))))))) (ones_c rfl (ones_c rfl (ones_c rfl (ones_c rfl (ones_c rfl (ones_c rfl (ones_c rfl (ones_c rfl (ones_c rfl ones_n))))))))) Try.sizeOf25 rfl ?_; clear hs w a; intro a w hs
   refine st_as hs rfl rfl ?_; clear hs w a; intro a w hs
   refine wpList_nil ?_
   refine then_n (hK48 _ _ ?_)
   refine wp_seq_k fun K52 hK53 => ?_
   refine wp_region_lit ?_
   refine st_mv hs rfl rfl ?_; clear hs w a; intro a w hs
   refine st_neq hs rfl rfl rfl ?_; clear hs w a; intro a w hs
   have hb_ : (!(((((rdRec (((recB r last).take i)) last (⟨0, 0⟩ : Rs)).2.1 : Nat) : Int) : Int) == 6)) = false := by rw [hS.2]; rfl
   rw [hb_] at hs; clear hb_
   refine st_mv hs rfl rfl ?_; clear hs w a; intro a w hs
   refine st_guardT hs rfl rfl rfl ?_
   refine st_ldBA hs rfl .z (.z (.c (.c (.c (.c (.c (.c (.c (.c (.c .n)))))))))) Try.isAgg25 Try.sizeOf25 rfl ?_; clear hs w a; intro a w hs
   refine st_guardT hs rfl rfl rfl ?_
   refine st_build (it := Try.t25) (zs := [.int .i64 (0), .int .i64 (0), .int .i64 (0), .int .i64 (0), .int .i64 (0), .int .i64 (0), .int .i64 (0), .int .i64 (0), .int .u16 (0)]) (places := [(0, 1), (1, 1), (2, 3), (5, 3), (8, 1)]) hs .n Try.underlying25 rfl rfl rfl rfl .n rfl ?_; clear hs w a; intro a w hs
   refine st_guardT hs rfl rfl rfl ?_
   refine st_neqF (xs := [.int .i64 (((rdRec (((recB r last).take i)) last (⟨0, 0⟩ : Rs)).1).k), .int .i64 (((rdRec (((recB r last).take i)) last (⟨0, 0⟩ : Rs)).1).id), .int .i64 (((rdRec (((recB r last).take i)) last (⟨0, 0⟩ : Rs)).1).p0), .int .i64 (((rdRec (((recB r last).take i)) last (⟨0, 0⟩ : Rs)).1).p1), .int .i64 (((rdRec (((recB r last).take i)) last (⟨0, 0⟩ : Rs)).1).p2), .int .i64 (((rdRec (((recB r last).take i)) last (⟨0, 0⟩ : Rs)).1).v0), .int .i64 (((rdRec (((recB r last).take i)) last (⟨0, 0⟩ : Rs)).1).v1), .int .i64 (((rdRec (((recB r last).take i)) last (⟨0, 0⟩ : Rs)).1).v2), .int .u16 ((((((rdRec (((recB r last).take i)) last (⟨0, 0⟩ : Rs)).1).a).toNat : Nat) : Int))]) (ys := [.int .i64 (0), .int .i64 (0), .int .i64 (0), .int .i64 (0), .int .i64 (0), .int .i64 (0), .int .i64 (0), .int .i64 (0), .int .u16 (0)]) (ks := [.i .i64, .i .i64, .i .i64, .i .i64, .i .i64, .i .i64, .i .i64, .i .i64, .i .u16]) 6 hs rfl rfl (by kernel_rfl) (by kernel_rfl) (by kernel_rfl) (by decide) (.i (.i (.i (.i (.i (.i (.i (.i (.i .n))))))))) (.i (.i (.i (.i (.i (.i (.i (.i (.i .n))))))))) rfl ?_; clear hs w a; intro a w hs
   have hb_ : (!(eqCells [.int .i64 (((rdRec (((recB r last).take i)) last (⟨0, 0⟩ : Rs)).1).k), .int .i64 (((rdRec (((recB r last).take i)) last (⟨0, 0⟩ : Rs)).1).id), .int .i64 (((rdRec (((recB r last).take i)) last (⟨0, 0⟩ : Rs)).1).p0), .int .i64 (((rdRec (((recB r last).take i)) last (⟨0, 0⟩ : Rs)).1).p1), .int .i64 (((rdRec (((recB r last).take i)) last (⟨0, 0⟩ : Rs)).1).p2), .int .i64 (((rdRec (((recB r last).take i)) last (⟨0, 0⟩ : Rs)).1).v0), .int .i64 (((rdRec (((recB r last).take i)) last (⟨0, 0⟩ : Rs)).1).v1), .int .i64 (((rdRec (((recB r last).take i)) last (⟨0, 0⟩ : Rs)).1).v2), .int .u16 ((((((rdRec (((recB r last).take i)) last (⟨0, 0⟩ : Rs)).1).a).toNat : Nat) : Int))] [.int .i64 (0), .int .i64 (0), .int .i64 (0), .int .i64 (0), .int .i64 (0), .int .i64 (0), .int .i64 (0), .int .i64 (0), .int .u16 (0)])) = false := by rw [hS.1]; rfl
   rw [hb_] at hs; clear hb_
   refine st_pickF hs rfl rfl rfl ?_; clear hs w a; intro a w hs
   refine wpList_nil ?_
   refine then_n (hK53 _ _ ?_)
   refine wp_cond_false (hs.ev rfl) ?_
   refine wp_skip ?_
   refine in_n ?_
   refine then_n (hK44 _ _ ?_)
   refine wp_region_lit ?_
   refine st_addR hs rfl rfl (by omega) rfl ?_; clear hs w a; intro a w hs
   refine st_mv hs rfl rfl ?_; clear hs w a; intro a w hs
   refine wpList_nil ?_
   refine then_n ?_
   replace hs := hs.drop (.c (.s .z) (.c .z .n))
   refine ⟨_, ?_, i + 1, rfl, hs.sub (.c rfl (.c rfl (.c rfl (.c rfl (.c rfl .n))))), by omega⟩
   omega
  replace hc42 := of_decide_eq_false hc42
  refine wp_exit ?_
  refine th_e ?_
  refine th_e ?_
  refine in_hit ?_
  refine then_n (hK35 _ _ ?_)
  refine wp_seq_k fun K54 hK55 => ?_
  refine wp_region_lit ?_
  refine st_callP (v := .bool (true)) hs .n Try.call20 (alive08_ok _) rfl ?_; clear hs w a; intro a w hs
  refine st_as hs rfl rfl ?_; clear hs w a; intro a w hs
  refine wpList_nil ?_
  refine then_n (hK55 _ _ ?_)
  refine wp_ret ?_
  replace hs := hs.drop (.c (.s .z) (.c .z .n))
  exact fin hs rfl rfl ⟨rfl, rfl⟩
end Go.Proofs.Ytkobgcoegajfcaa
