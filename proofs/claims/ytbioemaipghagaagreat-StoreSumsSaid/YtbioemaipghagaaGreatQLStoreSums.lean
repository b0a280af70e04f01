/- Walks of StoreSums: what each function does, over the program of this seat. Printed by a program of this session. -/
import Derived.Test.YtbioemaipghagaaGreatQWstoA
import Derived.Test.YtbioemaipghagaaGreatQWcrc
import Derived.Test.YtbioemaipghagaaGreatQSxGrams
import Derived.Test.YtbioemaipghagaaGreatQSxBasB
namespace Go.Proofs.YtbioemaipghagaaGreat
open Go Go.Sx Go.RowKit
set_option linter.unusedVariables false
set_option linter.unusedSimpArgs false
set_option maxRecDepth 4000
set_option maxHeartbeats 1000000

theorem storeSums_ok (t tm b : Int) (u : Value) (l : List RecR) (w0 : World) (ht : R64 t) (hm : R64 tm) (hb : R64 b) (hc : Rd w0 [] u 9 l.length (l.flatMap recV)) (hl : ∀ x ∈ l, x.wf) (at_ : Int) (hat : R64 at_) : Calls Tryz.prog 5 #[.agg #[.int .i64 (t), .int .i64 (tm), .int .i64 (b), u], .int .i64 at_] w0 (RetV w0 (.bool true)) := by
  have hce := hc.le
  simp only [maxLen] at hce
  refine enterG (F0 := [(0, .agg #[.int .i64 (t), .int .i64 (tm), .int .i64 (b), u]), (1, .int .i64 (at_))]) Tryz.func5 rfl rfl rfl (.c (.c .n)) (Mem.nil _) fun a w hs => ?_
  refine go 3 [0, 0] [18, 1] hs .n (fun g1 => ⟨rfl, ?_⟩); clear hs w a; intro a w hs
  refine st_call hs (.c rfl .n) Tryz.call17 .n (gwrite_ok t tm b _ l _ (by omega) (by omega) (by omega) (hs.rd0 hc) hl) rfl ?_; clear hs w a; rintro _ _ a w ⟨v2, rfl, rfl⟩ hs; simp only [List.cons_append, List.nil_append] at hs
  have hk3 := length_gwB t tm b l
  refine goL 5 [] [6, 5, 1] hs .n ?_; clear hs w a; intro a w hs
  refine st_call hs (.c rfl .n) Tryz.call21 .n (new_st 3 _ ⟨by decide, by decide⟩) rfl ?_; clear hs w a; rintro _ _ a w ⟨g4, X5, rfl, rfl, hX6⟩ hs; simp only [List.cons_append, List.nil_append] at hs
  refine goL 8 [] [28, 8, 7, 5, 1] hs .n ?_; clear hs w a; intro a w hs
  refine st_part (b := !((((gwErr t tm b l : Nat) : Int) : Int) == 0)) (fun c_7 => ?_) (fun c_7 => ?_)
  ·
   rw [c_7] at hs
   replace c_7 := not_t c_7
   replace c_7 := ne_of_beq_f c_7
   refine go 17 [] [] hs .n ?_; clear hs w a; intro a w hs
   refine st_callP (v := .bool (true)) hs .n Tryz.call23 (alive12_ok _) rfl ?_; clear hs w a; intro a w hs
   refine goL 1 [] [4] hs .n ?_; clear hs w a; intro a w hs
   replace hs := hs.drop (.c (.s (.s .z)) (.c (.s .z) (.c .z .n)))
   exact fin hs rfl rfl ⟨rfl, rfl⟩
  rw [c_7] at hs
  replace c_7 := not_f c_7
  replace c_7 := eq_of_beq c_7
  refine st_guardT hs rfl rfl rfl ?_
  refine st_callP (v := .bool (true)) hs .n Tryz.call23 (alive12_ok _) rfl ?_; clear hs w a; intro a w hs
  refine goL 12 [] [41, 40, 7, 5, 1] hs .n ?_; clear hs w a; intro a w hs
  refine st_guardT hs rfl rfl rfl ?_
  refine st_len hs rfl (rd_row (hs.mem.del (.s .z))).isSl Tryz.underlying37 rfl ?_; clear hs w a; intro a w hs
  refine goL 1 [] [43, 40, 7, 5, 1] hs .n ?_; clear hs w a; intro a w hs
  have hb_ : (((((gwB t tm b l).length : Nat) : Int) : Int) == 0) = false := by have := gw_long (t := t) (tm := tm) (b := b) (l := l) (by omega); rw [beq_eq_false_iff_ne]; omega
  rw [hb_] at hs; clear hb_
  refine go 3 [] [46, 7, 5] hs .n ?_; clear hs w a; intro a w hs
  have hw0 : gwErr t tm b l = 0 := by omega
  have hXl := gw_long hw0
  have hXm := length_gwB t tm b l
  refine st_cv_u64 hs rfl Tryz.underlying3 Tryz.underlying55 rfl ?_; clear hs w a; intro a w hs
  refine goL 1 [] [48, 47, 7, 5] hs .n ?_; clear hs w a; intro a w hs
  refine st_len hs rfl (rd_row (hs.mem.del (.s .z))).isSl Tryz.underlying37 rfl ?_; clear hs w a; intro a w hs
  refine goL 1 [] [50, 47, 7, 5] hs .n ⟨(by omega), ?_⟩; clear hs w a; intro a w hs
  have hv_ : (8 * ((((gwB t tm b l).length : Nat) : Int)) : Int) = (((8 * (gwB t tm b l).length : Nat) : Int) : Int) := by omega
  rw [hv_] at hs; clear hv_
  refine st_cv_u64 hs rfl Tryz.underlying3 Tryz.underlying55 rfl ?_; clear hs w a; intro a w hs
  refine st_rem_u64 (X := BitVec.ofInt 64 at_) (Y := BitVec.ofInt 64 (((8 * (gwB t tm b l).length : Nat) : Int))) hs rfl rfl rfl rfl (ofInt_ne _ (by omega) (by omega)) rfl ?_; clear hs w a; intro a w hs
  refine st_cv_u64_i64 (X := (BitVec.ofInt 64 at_) % (BitVec.ofInt 64 (((8 * (gwB t tm b l).length : Nat) : Int)))) hs rfl rfl Tryz.underlying55 Tryz.underlying3 rfl ?_; clear hs w a; intro a w hs
  obtain ⟨kk, hkb, hkk⟩ := idx_mod (BitVec.ofInt 64 at_) (8 * (gwB t tm b l).length) (by omega) (by omega)
  rw [hkk] at hs; clear hkk
  refine goL 1 [] [9, 7, 5] hs .n ?_; clear hs w a; intro a w hs
  refine st_bs0 hs Tryz.underlying37 rfl ?_ ⟨_, Tryz.sizeOf5⟩; clear hs w a; intro g8 a w hs
  refine goL 1 [] [55, 54, 9, 7] hs .n ?_; clear hs w a; intro a w hs
  replace hs := hs.toRow (size := 1) (m := 0) .z rfl (by decide)
  refine st_app (size := 1) (bytes := 1) hs rfl rfl .z (rd_row (hs.mem.del (.s (.s .z)))) (oneCell_bytesV _) Tryz.underlying37 (i := Tryz.t5) rfl rfl rfl rfl rfl (by decide) (by omega) (by simp only [maxLen]; omega) rfl ?_; clear hs w a; intro v9 a w hs
  replace hs := hs.rerow .z (m' := (gwB t tm b l).length) (xs' := bytesV (gwB t tm b l)) (by omega) (by rw [List.nil_append])
  refine goL 1 [] [10, 9, 7] hs .n ?_; clear hs w a; intro a w hs
  replace hs := hs.sub (F' := [(10, v9), (9, .int .i64 ((kk : Int))), (7, .pointer (some ⟨g4, 0, none⟩))]) (.c rfl (.c rfl (.c rfl .n)))
  refine wp_drawG (M0 := [X5, row v2 5 1 ((gwB t tm b l).length) (bytesV (gwB t tm b l)), blk g1 [.int .i64 (t), .int .i64 (tm), .int .i64 (b), u] 29]) (Ds := [Pv 0 v9, Pv 1 (.int .i64 ((kk : Int))), Pv 2 (.int .i64 (((kk / 8 : Nat) : Int))), Pv 3 (.pointer (some (adr v9 (kk / 8)))), Pv 4 (.int .u8 (((((gwB t tm b l).getD (kk / 8) 0).toNat : Nat) : Int))), Pv 5 (.int .i64 ((kk : Int))), Pv 6 (.int .i64 (((kk % 8 : Nat) : Int))), Pv 7 (.int .u8 (((((1#8) <<< (kk % 8)).toNat : Nat) : Int))), Pv 8 (.int .u8 ((((((gwB t tm b l).getD (kk / 8) 0) ^^^ ((1#8) <<< (kk % 8))).toNat : Nat) : Int))), Pv 9 (.pointer (some (adr v9 (kk / 8)))), ⟨[row v9 5 1 ((gwB t tm b l).length) (bytesV (gwB t tm b l))], [], [], fun vs10 => True, fun vs10 => [row v9 5 1 ((gwB t tm b l).length) (bytesV ((gwB t tm b l).set (kk / 8) (((gwB t tm b l).getD (kk / 8) 0) ^^^ ((1#8) <<< (kk % 8)))))], none⟩]) (by kernel_rfl) hs rfl (.c .z .n) (by kernel_rfl) (by kernel_rfl) (by kernel_rfl) ?_ ?_
  ·
   refine (.c ?_ (.c ?_ (.c ?_ (.c ?_ (.c ?_ (.c ?_ (.c ?_ (.c ?_ (.c ?_ (.c ?_ (.c ?_ .n)))))))))))
   · exact trip_pv (m := 11) .n (fun hm0 hm hx => .n) (by kernel_rfl) (by kernel_rfl) rfl
   · exact trip_pv (m := 11) .n (fun hm0 hm hx => .n) (by kernel_rfl) (by kernel_rfl) rfl
   ·
    intro a_ w_ R_ rest_ vs10 hm hs ht hx
    have hm0 := hm.mid
    replace hs := hs.lrn (ht 1 (twB_spec 11 _ (by kernel_rfl))) rfl rfl
    have hs0 := hs.bare
    refine st_quoN hs rfl rfl (by omega) rfl ?_; clear hs; intro a w hs
    have hv_ : ((kk : Int) / 8 : Int) = (((kk / 8 : Nat) : Int) : Int) := by omega
    rw [hv_] at hs; clear hv_
    exact wpList_nil ⟨rfl, _, _, hs0, (.c .r), hs, rfl⟩
   ·
    intro a_ w_ R_ rest_ vs10 hm hs ht hx
    have hm0 := hm.mid
    replace hs := hs.lrn (ht 0 (twB_spec 11 _ (by kernel_rfl))) rfl rfl
    replace hs := hs.lrn (ht 2 (twB_spec 11 _ (by kernel_rfl))) rfl rfl
    have hs0 := hs.bare
    refine st_ia1 (j := (kk / 8)) hs rfl rfl (rd_row (hm.own (List.mem_append.2 (.inr ((hx 10 (twB_spec 11 _ (by kernel_rfl))).1 _ (List.Mem.head _)))))) rfl (by omega) Tryz.underlying37 Tryz.sizeOf5 rfl ?_; clear hs; intro a w hs
    exact wpList_nil ⟨rfl, _, _, hs0, (.c (.c .r)), hs, rfl⟩
   ·
    intro a_ w_ R_ rest_ vs10 hm hs ht hx
    have hm0 := hm.mid
    replace hs := hs.lrn (ht 3 (twB_spec 11 _ (by kernel_rfl))) rfl rfl
    have hs0 := hs.bare
    refine st_ld hs rfl (rd_row (hm.own (List.mem_append.2 (.inr ((hx 10 (twB_spec 11 _ (by kernel_rfl))).1 _ (List.Mem.head _)))))) (bytesV_getD (gwB t tm b l) (by first | omega | (simp; omega))) Tryz.isAgg5 rfl ?_; clear hs; intro a w hs
    exact wpList_nil ⟨rfl, _, _, hs0, (.c .r), hs, rfl⟩
   · exact trip_pv (m := 11) .n (fun hm0 hm hx => .n) (by kernel_rfl) (by kernel_rfl) rfl
   ·
    intro a_ w_ R_ rest_ vs10 hm hs ht hx
    have hm0 := hm.mid
    replace hs := hs.lrn (ht 5 (twB_spec 11 _ (by kernel_rfl))) rfl rfl
    have hs0 := hs.bare
    refine st_remN hs rfl rfl (by omega) rfl ?_; clear hs; intro a w hs
    have hv_ : ((kk : Int) % 8 : Int) = (((kk % 8 : Nat) : Int) : Int) := by omega
    rw [hv_] at hs; clear hv_
    exact wpList_nil ⟨rfl, _, _, hs0, (.c .r), hs, rfl⟩
   ·
    intro a_ w_ R_ rest_ vs10 hm hs ht hx
    have hm0 := hm.mid
    replace hs := hs.lrn (ht 6 (twB_spec 11 _ (by kernel_rfl))) rfl rfl
    have hs0 := hs.bare
    refine st_shl_u8 (X := 1#8) (m := (kk % 8)) hs rfl (by decide) rfl rfl rfl ?_; clear hs; intro a w hs
    exact wpList_nil ⟨rfl, _, _, hs0, (.c .r), hs, rfl⟩
   ·
    intro a_ w_ R_ rest_ vs10 hm hs ht hx
    have hm0 := hm.mid
    replace hs := hs.lrn (ht 4 (twB_spec 11 _ (by kernel_rfl))) rfl rfl
    replace hs := hs.lrn (ht 7 (twB_spec 11 _ (by kernel_rfl))) rfl rfl
    have hs0 := hs.bare
    refine st_xor_u8 (X := (gwB t tm b l).getD (kk / 8) 0) (Y := (1#8) <<< (kk % 8)) hs rfl rfl rfl rfl rfl ?_; clear hs; intro a w hs
    exact wpList_nil ⟨rfl, _, _, hs0, (.c (.c .r)), hs, rfl⟩
   ·
    intro a_ w_ R_ rest_ vs10 hm hs ht hx
    have hm0 := hm.mid
    replace hs := hs.lrn (ht 0 (twB_spec 11 _ (by kernel_rfl))) rfl rfl
    replace hs := hs.lrn (ht 2 (twB_spec 11 _ (by kernel_rfl))) rfl rfl
    have hs0 := hs.bare
    refine st_ia1 (j := (kk / 8)) hs rfl rfl (rd_row (hm.own (List.mem_append.2 (.inr ((hx 10 (twB_spec 11 _ (by kernel_rfl))).1 _ (List.Mem.head _)))))) rfl (by omega) Tryz.underlying37 Tryz.sizeOf5 rfl ?_; clear hs; intro a w hs
    exact wpList_nil ⟨rfl, _, _, hs0, (.c (.c .r)), hs, rfl⟩
   intro a_ w_ R_ rest_ vs10 hm hs ht hx
   replace hs : St _ _ _ (feet [row v9 5 1 ((gwB t tm b l).length) (bytesV (gwB t tm b l))]) [row v9 5 1 ((gwB t tm b l).length) (bytesV (gwB t tm b l))] _ _ := hs
   have hm0 := hm.mid
   replace hs := hs.lrn (ht 8 (twB_spec 11 _ (by kernel_rfl))) rfl rfl
   replace hs := hs.lrn (ht 9 (twB_spec 11 _ (by kernel_rfl))) rfl rfl
   have hs0 := hs.bare
   refine st_stR hs rfl rfl .z (by omega) rfl Tryz.sizeOf5 ?_; clear hs; intro a w hs
   replace hs := hs.rerow .z (m' := (gwB t tm b l).length) (xs' := bytesV ((gwB t tm b l).set (kk / 8) (((gwB t tm b l).getD (kk / 8) 0) ^^^ ((1#8) <<< (kk % 8))))) (rfl) ((bytesV_set _ _ _).symm)
   exact wpList_nil ⟨rfl, .tuple #[], _, hs0, (.c (.c .r)), hs, trivial⟩
  clear hs w a; intro a w vs10 hs hf
  replace hs : St _ _ _ _ [X5, row v2 5 1 ((gwB t tm b l).length) (bytesV (gwB t tm b l)), blk g1 [.int .i64 (t), .int .i64 (tm), .int .i64 (b), u] 29, row v9 5 1 ((gwB t tm b l).length) (bytesV ((gwB t tm b l).set (kk / 8) (((gwB t tm b l).getD (kk / 8) 0) ^^^ ((1#8) <<< (kk % 8)))))] _ _ := hs
  clear hf
  refine goE 2 [] [69, 68, 10, 7] hs .n ?_; clear hs w a; intro a w hs
  refine st_call hs (.c rfl (.c rfl .n)) Tryz.call27 (.c .z .n) (accept_st hX6 (fun i => Nat.le_trans ((fun _ => Nat.le_refl 0) i) (by decide)) _ (hs.mem.del .z) (hs.mem.rdrow (.s (.s (.s .z))) (.c .z .n))) rfl ?_; clear hs w a; rintro _ _ a w ⟨rfl, X11, rfl, hX12⟩ hs; simp only [List.cons_append, List.nil_append] at hs
  have sa := sums_all (gread_turned hw0 (kk / 8) ((1#8) <<< (kk % 8)) (by omega) (bit_ne _ (by omega)))
  refine goL 6 [] [74, 12, 7] hs .n ?_; clear hs w a; intro a w hs
  refine st_callP hs (.c rfl .n) Tryz.call28 (open_none _ _ (((gwB t tm b l).set (kk / 8) (((gwB t tm b l).getD (kk / 8) 0) ^^^ ((1#8) <<< (kk % 8))))) _ (rd_row (hs.mem.del (.s (.s (.s .z))))) (by omega) (gopen_turned hw0 (kk / 8) ((1#8) <<< (kk % 8)) (by omega) (bit_ne _ (by omega)))) rfl ?_; clear hs w a; intro a w hs
  refine goL 6 [] [79, 14, 12, 7] hs .n ?_; clear hs w a; intro a w hs
  refine st_call hs (.c rfl (.c rfl .n)) Tryz.call27 (.c .z .n) (accept_st hX12 (fun i => Nat.le_trans ((accS_k (fun _ => Nat.le_refl 0)) i) (by decide)) _ (hs.mem.del .z) (rd_nilB _ _)) rfl ?_; clear hs w a; rintro _ _ a w ⟨rfl, X13, rfl, hX14⟩ hs; simp only [List.cons_append, List.nil_append] at hs
  refine goL 10 [] [87, 85, 16, 7] hs .n ?_; clear hs w a; intro a w hs
  have hb_ : ((((accE stt0.l 3 stt0.floor stt0.gone (gRead (((gwB t tm b l).set (kk / 8) (((gwB t tm b l).getD (kk / 8) 0) ^^^ ((1#8) <<< (kk % 8)))))) : Nat) : Int) : Int) == 9) = true := by rw [sa.1] <;> rfl
  rw [hb_] at hs; clear hb_
  refine go 4 [] [91, 89, 7] hs .n ?_; clear hs w a; intro a w hs
  have hb_ : ((((accE ((accS 3 stt0 (gRead (((gwB t tm b l).set (kk / 8) (((gwB t tm b l).getD (kk / 8) 0) ^^^ ((1#8) <<< (kk % 8)))))))).l 3 ((accS 3 stt0 (gRead (((gwB t tm b l).set (kk / 8) (((gwB t tm b l).getD (kk / 8) 0) ^^^ ((1#8) <<< (kk % 8)))))))).floor ((accS 3 stt0 (gRead (((gwB t tm b l).set (kk / 8) (((gwB t tm b l).getD (kk / 8) 0) ^^^ ((1#8) <<< (kk % 8)))))))).gone (gRead ([])) : Nat) : Int) : Int) == 9) = true := by rw [sa.2.1] <;> rfl
  rw [hb_] at hs; clear hb_
  refine go 3 [] [94, 93, 7] hs .n ?_; clear hs w a; intro a w hs
  refine st_guardT hs rfl rfl rfl ?_
  refine st_callP (v := .int .i64 (((nref ((accS 3 ((accS 3 stt0 (gRead (((gwB t tm b l).set (kk / 8) (((gwB t tm b l).getD (kk / 8) 0) ^^^ ((1#8) <<< (kk % 8)))))))) (gRead ([])))).n 9 : Nat) : Int))) hs (.c rfl (.c rfl .n)) Tryz.call29 (refused_st hX14 9 _ (hs.mem.del .z) (by omega)) rfl ?_; clear hs w a; intro a w hs
  refine goL 1 [] [96, 93, 7] hs .n ?_; clear hs w a; intro a w hs
  have hb_ : ((((nref ((accS 3 ((accS 3 stt0 (gRead (((gwB t tm b l).set (kk / 8) (((gwB t tm b l).getD (kk / 8) 0) ^^^ ((1#8) <<< (kk % 8)))))))) (gRead ([])))).n 9 : Nat) : Int) : Int) == 2) = true := by rw [sa.2.2.1] <;> rfl
  rw [hb_] at hs; clear hb_
  refine go 3 [] [99, 98, 7] hs .n ?_; clear hs w a; intro a w hs
  refine st_guardT hs rfl rfl rfl ?_
  refine st_callP (v := .int .i64 (((((accS 3 ((accS 3 stt0 (gRead (((gwB t tm b l).set (kk / 8) (((gwB t tm b l).getD (kk / 8) 0) ^^^ ((1#8) <<< (kk % 8)))))))) (gRead ([])))).l.length : Nat) : Int))) hs (.c rfl .n) Tryz.call25 (len_st hX14 _ (hs.mem.del .z)) rfl ?_; clear hs w a; intro a w hs
  refine goL 1 [] [101, 98, 7] hs .n ?_; clear hs w a; intro a w hs
  have hb_ : ((((((accS 3 ((accS 3 stt0 (gRead (((gwB t tm b l).set (kk / 8) (((gwB t tm b l).getD (kk / 8) 0) ^^^ ((1#8) <<< (kk % 8)))))))) (gRead ([])))).l.length : Nat) : Int) : Int) == 0) = true := by rw [sa.2.2.2.1] <;> rfl
  rw [hb_] at hs; clear hb_
  refine go 3 [] [104, 103] hs .n ?_; clear hs w a; intro a w hs
  refine st_guardT hs rfl rfl rfl ?_
  refine st_callP (v := .int .i64 (((((accS 3 ((accS 3 stt0 (gRead (((gwB t tm b l).set (kk / 8) (((gwB t tm b l).getD (kk / 8) 0) ^^^ ((1#8) <<< (kk % 8)))))))) (gRead ([])))).n 0 : Nat) : Int))) hs (.c rfl .n) Tryz.call30 (taken_st hX14 _ (hs.mem.del .z)) rfl ?_; clear hs w a; intro a w hs
  refine goL 1 [] [106, 103] hs .n ?_; clear hs w a; intro a w hs
  have hb_ : ((((((accS 3 ((accS 3 stt0 (gRead (((gwB t tm b l).set (kk / 8) (((gwB t tm b l).getD (kk / 8) 0) ^^^ ((1#8) <<< (kk % 8)))))))) (gRead ([])))).n 0 : Nat) : Int) : Int) == 0) = true := by rw [sa.2.2.2.2] <;> rfl
  rw [hb_] at hs; clear hb_
  refine go 2 [] [4] hs .n ?_; clear hs w a; intro a w hs
  replace hs := hs.drop (.c (.s (.s (.s .z))) (.c (.s (.s .z)) (.c (.s .z) (.c .z .n))))
  exact fin hs rfl rfl ⟨rfl, rfl⟩
end Go.Proofs.YtbioemaipghagaaGreat
