/- Walks of StoreTells: what each function does, over the program of this seat. Printed by a program of this session. -/
import Derived.Test.YtbioemaipghagaaGreatQWstoA
import Derived.Test.YtbioemaipghagaaGreatQWstoB
import Derived.Test.YtbioemaipghagaaGreatQWdelm
import Derived.Test.YtbioemaipghagaaGreatQWdel2
import Derived.Test.YtbioemaipghagaaGreatQSxPtell
import Derived.Test.YtbioemaipghagaaGreatQSxBasB
namespace Go.Proofs.YtbioemaipghagaaGreat
open Go Go.Sx Go.RowKit
set_option linter.unusedVariables false
set_option linter.unusedSimpArgs false
set_option maxRecDepth 4000
set_option maxHeartbeats 1000000

theorem storeTells_ok (n : Int) (u f : Value) (L : List RI) (B : List Bool) (w0 : World) (hn : R64 n) (hu : Rd w0 [] u 3 L.length (L.flatMap snV)) (hLx : ∀ x ∈ L, SnOk w0 x) (hf : Rd w0 [] f 1 B.length (B.map Value.bool)) : Calls Tryz.prog 10 #[.int .i64 n, u, f] w0 (RetV w0 (.bool true)) := by
 have hue := hu.le
 have hfe := hf.le
 simp only [maxLen] at hue hfe
 have hmr := mostN_rng n
 refine enterG (F0 := [(0, .int .i64 (n)), (1, u), (2, f)]) Tryz.func10 rfl rfl rfl (.c (.c (.c .n))) (Mem.nil _) fun a w hs => ?_
 refine go 2 [] [24, 0, 1, 2] hs .n ?_; clear hs w a; intro a w hs
 refine st_callP (v := .int .i64 (((mostN n : Nat) : Int))) hs (.c rfl .n) Tryz.call22 (most12_ok n _ (by omega)) rfl ?_; clear hs w a; intro a w hs
 refine st_call hs (.c rfl .n) Tryz.call21 .n (new_st (mostN n) _ (mostN_rng n)) rfl ?_; clear hs w a; rintro _ _ a w ⟨g1, X2, rfl, rfl, hX3⟩ hs; simp only [List.cons_append, List.nil_append] at hs
 refine goL 5 [] [8, 7, 0, 1, 2] hs .n ?_; clear hs w a; intro a w hs
 refine st_callP (v := .bool (true)) hs .n Tryz.call23 (alive12_ok _) rfl ?_; clear hs w a; intro a w hs
 refine goL 11 [] [40, 39, 7, 0, 1, 2] hs .n ?_; clear hs w a; intro a w hs
 refine st_guardT hs rfl rfl rfl ?_
 refine st_len hs rfl (hs.rd0 hu).isSl Tryz.underlying49 rfl ?_; clear hs w a; intro a w hs
 refine goL 2 [] [43, 7, 0, 1, 2] hs .n ?_; clear hs w a; intro a w hs
 refine ifG hs rfl (fun c_4 => ?_) (fun c_4 => ?_)
 ·
  replace c_4 := of_decide_eq_true c_4
  refine go 0 [] [] hs .n ?_; clear hs w a; intro a w hs
  refine st_callP (v := .bool (true)) hs .n Tryz.call23 (alive12_ok _) rfl ?_; clear hs w a; intro a w hs
  refine goL 1 [] [6] hs .n ?_; clear hs w a; intro a w hs
  replace hs := hs.drop (.c .z .n)
  exact fin hs rfl rfl ⟨rfl, rfl⟩
 replace c_4 := of_decide_eq_false c_4
 refine go 2 [] [45, 9, 7, 0, 2] hs .n ?_; clear hs w a; intro a w hs
 refine st_len hs rfl (hs.rd0 hu).isSl Tryz.underlying49 rfl ?_; clear hs w a; intro a w hs
 refine goL 1 [] [47, 46, 45, 9, 7, 0, 2] hs .n ?_; clear hs w a; intro a w hs
 replace hs := hs.addNil 24 3
 replace hs := hs.rerow .z (m' := ([] : List RI).length) (xs' := (([] : List RI).flatMap snV)) (rfl) (rfl)
 replace hs := hs.reorder (.c (.s .z) (.c .z .n))
 refine loopG (fun mm_ a w => ∃ j : Nat, ∃ K : List RI, ∃ q : Value, ∃ X : HA, ∃ σ : Stt, mm_ = L.length - j ∧ St 177 [(0, .int .i64 (n)), (2, f), (7, .pointer (some ⟨g1, 0, none⟩)), (9, q), (45, u), (46, .int .i64 (((L.length : Nat) : Int))), (47, .int .i64 (((j : Nat) : Int)))] w0 [] [X, row q 24 3 K.length (K.flatMap snV)] a w ∧ j ≤ L.length ∧ (∀ x ∈ K, x ∈ L) ∧ K.length ≤ j ∧ Sto g1 (mostN n) σ X ∧ Tells (mostN n) σ (sns K) ∧ (∀ i, σ.n i ≤ j)) ⟨0, [], .slice none 0 0, X2, stt0, rfl, hs.sub (.c rfl (.c rfl (.c rfl (.c rfl (.c rfl (.c rfl (.c rfl .n))))))), by omega, (by simp), (Nat.le_refl 0), hX3, (Tells.start (mostN_rng n)), (fun _ => Nat.le_refl 0)⟩ ?_
 clear hs w a; rintro mm_ a w ⟨j, K, q, X, σ, rfl, hs, hI1_0, hI1_1, hI1_2, hI1_3, hI1_4, hI1_5⟩
 refine go 1 [] [48, 0, 2, 7, 9, 45, 46, 47] hs .n ?_; clear hs w a; intro a w hs
 refine ifG hs rfl (fun c_5 => ?_) (fun c_5 => ?_)
 ·
  replace c_5 := of_decide_eq_true c_5
  refine go 1 [] [49, 0, 2, 7, 9, 45, 46, 47] hs .n ?_; clear hs w a; intro a w hs
  refine st_ia (j := j) hs rfl rfl (hs.rd0 hu) rfl (by omega) Tryz.underlying49 Tryz.sizeOf24 rfl ?_; clear hs w a; intro a w hs
  refine st_ldA (cs := snV (L.getD j default)) hs rfl (hs.rd0 hu) (flat_get snV_len L j (by omega)) (by rw [flat_len snV_len]; omega) (by omega) Tryz.isAgg24 Tryz.sizeOf24 rfl ?_; clear hs w a; intro a w hs
  obtain ⟨ht1, hm1, hw1, _⟩ := hLx (L.getD j default) (ri_in (by omega))
  refine goL 2 [] [10, 11, 51, 0, 2, 7, 9, 45, 46, 47] hs .n (fun g6 => ?_); clear hs w a; intro a w hs
  refine st_stBA hs rfl rfl .z (.z (.c (.c (.c .n)))) (ones_c rfl (ones_c rfl (ones_c (hs.rd0 (hLx (L.getD j default) (ri_in (by omega))).rd).isSl.one ones_n))) Tryz.sizeOf24 rfl ?_; clear hs w a; intro a w hs
  refine goL 2 [0] [53, 10, 11, 0, 2, 7, 9, 45, 46, 47] hs (.c .z .n) ⟨rfl, ?_⟩; clear hs w a; intro a w hs
  refine st_len hs rfl (hs.rd0 (hLx (L.getD j default) (ri_in (by omega))).rd).isSl Tryz.underlying22 rfl ?_; clear hs w a; intro a w hs
  refine goL 1 [] [55, 10, 11, 0, 2, 7, 9, 45, 46, 47] hs .n ?_; clear hs w a; intro a w hs
  refine ifG hs rfl (fun c_7 => ?_) (fun c_7 => ?_)
  ·
   replace c_7 := of_decide_eq_true c_7
   refine go 2 [] [47, 0, 2, 7, 9, 45, 46] hs .n ⟨(by omega), ?_⟩; clear hs w a; intro a w hs
   replace hs := hs.drop (.c .z .n)
   refine ⟨_, ?_, j + 1, K, q, X, σ, rfl, hs.sub (.c rfl (.c rfl (.c rfl (.c rfl (.c rfl (.c rfl (.c rfl .n))))))), by omega, hI1_1, (by omega), hI1_3, hI1_4, (fun i => Nat.le_succ_of_le (hI1_5 i))⟩
   omega
  replace c_7 := of_decide_eq_false c_7
  refine go 1 [0] [57, 10, 11, 0, 2, 7, 9, 45, 46, 47] hs (.c .z .n) ⟨rfl, ?_⟩; clear hs w a; intro a w hs
  refine st_call hs (.c rfl .n) Tryz.call20 .n (full_ok ((L.getD j default).t) ((L.getD j default).tm) _ ((L.getD j default).l) _ (by omega) (by omega) (hs.rd0 (hLx (L.getD j default) (ri_in (by omega))).rd) (hLx _ (ri_in (by omega))).wf) rfl ?_; clear hs w a; rintro _ _ a w ⟨v8, rfl, rfl⟩ hs; simp only [List.cons_append, List.nil_append] at hs
  have hk9 := fG_rng (bt := ((L.getD j default).t)) (btm := ((L.getD j default).tm)) (b := (L.getD j default).l)
  refine goL 4 [] [12, 60, 59, 10, 11, 0, 2, 7, 9, 45, 46, 47] hs .n (fun g10 => ?_); clear hs w a; intro a w hs
  refine st_stBA hs rfl rfl .z (.z (.c (.c (.c (.c .n))))) (ones_c rfl (ones_c rfl (ones_c rfl (ones_c (rd_row (hs.mem.del (.s .z))).isSl.one ones_n)))) Tryz.sizeOf29 rfl ?_; clear hs w a; intro a w hs
  refine goL 2 [] [61, 13, 12, 10, 11, 0, 2, 7, 9, 45, 46, 47] hs .n ?_; clear hs w a; intro a w hs
  refine st_len hs rfl (rd_row (hs.mem.del (.s (.s (.s (.s .z)))))).isSl Tryz.underlying49 rfl ?_; clear hs w a; intro a w hs
  refine goL 1 [] [63, 13, 12, 10, 11, 0, 2, 7, 9, 45, 46, 47] hs .n ?_; clear hs w a; intro a w hs
  refine ifG hs rfl (fun c_11 => ?_) (fun c_11 => ?_)
  ·
   replace c_11 := of_decide_eq_true c_11
   refine go 2 [] [65, 64, 13, 12, 10, 11, 0, 2, 7, 9, 45, 46, 47] hs .n ?_; clear hs w a; intro a w hs
   refine st_len hs rfl (rd_row (hs.mem.del (.s (.s (.s (.s .z)))))).isSl Tryz.underlying49 rfl ?_; clear hs w a; intro a w hs
   refine goL 1 [] [67, 64, 13, 12, 10, 11, 0, 2, 7, 9, 45, 46, 47] hs .n ⟨(by omega), ?_⟩; clear hs w a; intro a w hs
   have hv_ : ((((K.length : Nat) : Int)) - 1 : Int) = (((K.length - 1 : Nat) : Int) : Int) := by omega
   rw [hv_] at hs; clear hv_
   refine st_ia (j := (K.length - 1)) hs rfl rfl (rd_row (hs.mem.del (.s (.s (.s (.s .z)))))) rfl (by omega) Tryz.underlying49 Tryz.sizeOf24 rfl ?_; clear hs w a; intro a w hs
   refine st_ldA (cs := snV (K.getD (K.length - 1) default)) hs rfl (rd_row (hs.mem.del (.s (.s (.s (.s .z)))))) (flat_get snV_len K (K.length - 1) (by omega)) (by rw [flat_len snV_len]; omega) (by omega) Tryz.isAgg24 Tryz.sizeOf24 rfl ?_; clear hs w a; intro a w hs
   obtain ⟨ht2, hm2, hw2, _⟩ := hLx (K.getD (K.length - 1) default) (hI1_1 _ (ri_in (by omega)))
   refine goL 1 [] [14, 69, 13, 12, 10, 11, 0, 2, 7, 9, 45, 46, 47] hs .n (fun g12 => ?_); clear hs w a; intro a w hs
   refine st_stBA hs rfl rfl .z (.z (.c (.c (.c .n)))) (ones_c rfl (ones_c rfl (ones_c (hs.rd0 (hLx (K.getD (K.length - 1) default) (hI1_1 _ (ri_in (by omega)))).rd).isSl.one ones_n))) Tryz.sizeOf24 rfl ?_; clear hs w a; intro a w hs
   refine goL 6 [0, 1] [75, 14, 13, 12, 10, 11, 0, 2, 7, 9, 45, 46, 47] hs (.c .z (.c (.s (.s .z)) .n)) ⟨rfl, rfl, ?_⟩; clear hs w a; intro a w hs
   refine st_part (b := decide (((L.getD j default).t) ≤ ((K.getD (K.length - 1) default).t))) (fun c_13 => ?_) (fun c_13 => ?_)
   ·
    rw [c_13] at hs
    replace c_13 := of_decide_eq_true c_13
    refine go 9 [] [47, 0, 2, 7, 9, 45, 46] hs .n ⟨(by omega), ?_⟩; clear hs w a; intro a w hs
    replace hs := hs.drop (.c (.s (.s (.s .z))) (.c (.s (.s .z)) (.c (.s .z) (.c .z .n))))
    refine ⟨_, ?_, j + 1, K, q, X, σ, rfl, hs.sub (.c rfl (.c rfl (.c rfl (.c rfl (.c rfl (.c rfl (.c rfl .n))))))), by omega, hI1_1, (by omega), hI1_3, hI1_4, (fun i => Nat.le_succ_of_le (hI1_5 i))⟩
    omega
   rw [c_13] at hs
   replace c_13 := of_decide_eq_false c_13
   refine go 6 [0, 1] [81, 14, 13, 12, 10, 11, 0, 2, 7, 9, 45, 46, 47] hs (.c .z (.c .z .n)) ⟨rfl, rfl, ?_⟩; clear hs w a; intro a w hs
   refine ifG hs rfl (fun c_14 => ?_) (fun c_14 => ?_)
   ·
    replace c_14 := of_decide_eq_true c_14
    refine go 2 [] [47, 0, 2, 7, 9, 45, 46] hs .n ⟨(by omega), ?_⟩; clear hs w a; intro a w hs
    replace hs := hs.drop (.c (.s (.s (.s .z))) (.c (.s (.s .z)) (.c (.s .z) (.c .z .n))))
    refine ⟨_, ?_, j + 1, K, q, X, σ, rfl, hs.sub (.c rfl (.c rfl (.c rfl (.c rfl (.c rfl (.c rfl (.c rfl .n))))))), by omega, hI1_1, (by omega), hI1_3, hI1_4, (fun i => Nat.le_succ_of_le (hI1_5 i))⟩
    omega
   replace c_14 := of_decide_eq_false c_14
   refine goF 3 0 [] [14, 13, 12, 10, 11, 0, 2, 7, 9, 45, 46, 47] hs .n ?_; clear hs w a; intro a w hs
   refine rejG (fun a w => St 177 [(0, .int .i64 (n)), (2, f), (7, .pointer (some ⟨g1, 0, none⟩)), (9, q), (11, .pointer (some ⟨g6, 0, none⟩)), (12, .pointer (some ⟨g10, 0, none⟩)), (13, .int .i64 (((fErr ((L.getD j default).t) ((L.getD j default).tm) ((L.getD j default).l) : Nat) : Int))), (14, .pointer (some ⟨g12, 0, none⟩)), (45, u), (46, .int .i64 (((L.length : Nat) : Int))), (47, .int .i64 (((j : Nat) : Int))), (96, .bool (true))] w0 [] [blk g12 [.int .i64 ((K.getD (K.length - 1) default).t), .int .i64 ((K.getD (K.length - 1) default).tm), (K.getD (K.length - 1) default).v] 24, blk g6 [.int .i64 ((L.getD j default).t), .int .i64 ((L.getD j default).tm), (L.getD j default).v] 24, blk g10 [.int .i64 ((fG ((L.getD j default).t) ((L.getD j default).tm) ((L.getD j default).l)).t), .int .i64 ((fG ((L.getD j default).t) ((L.getD j default).tm) ((L.getD j default).l)).tm), .int .i64 ((fG ((L.getD j default).t) ((L.getD j default).tm) ((L.getD j default).l)).b), v8] 29, row v8 78 9 ((fG ((L.getD j default).t) ((L.getD j default).tm) ((L.getD j default).l)).l.length) (((fG ((L.getD j default).t) ((L.getD j default).tm) ((L.getD j default).l)).l.flatMap recV)), X, row q 24 3 K.length (K.flatMap snV)] a w ∧ (True)) ?_ ?_
   ·
    clear hs w a; rintro a w ⟨hs, hfact_⟩
    refine go 3 [0, 1] [99, 98, 0, 2, 7, 9, 11, 12, 45, 46, 47] hs (.c .z (.c .z .n)) ⟨rfl, rfl, ?_⟩; clear hs w a; intro a w hs
    refine st_call hs (.c rfl (.c rfl .n)) Tryz.call13 .n (ddiff_ok ((K.getD (K.length - 1) default).t) ((K.getD (K.length - 1) default).tm) _ ((K.getD (K.length - 1) default).l) ((L.getD j default).t) ((L.getD j default).tm) _ ((L.getD j default).l) _ (by omega) (by omega) (by omega) (by omega) (hs.rd0 (hLx (K.getD (K.length - 1) default) (hI1_1 _ (ri_in (by omega)))).rd) (hs.rd0 (hLx (L.getD j default) (ri_in (by omega))).rd) (hLx _ (hI1_1 _ (ri_in (by omega)))).wf (hLx _ (ri_in (by omega))).wf) rfl ?_; clear hs w a; rintro _ _ a w ⟨v16, rfl, rfl⟩ hs; simp only [List.cons_append, List.nil_append] at hs
    have hk17 := dG_rng (at_ := ((K.getD (K.length - 1) default).t)) (atm := ((K.getD (K.length - 1) default).tm)) (a := (K.getD (K.length - 1) default).l) (bt := ((L.getD j default).t)) (btm := ((L.getD j default).tm)) (b := (L.getD j default).l)
    refine goL 3 [] [102, 101, 0, 2, 7, 9, 11, 12, 45, 46, 47] hs .n ?_; clear hs w a; intro a w hs
    refine st_stBA hs rfl rfl (.s (.s (.s .z))) (.z (.c (.c (.c (.c .n))))) (ones_c rfl (ones_c rfl (ones_c rfl (ones_c (rd_row (hs.mem.del .z)).isSl.one ones_n)))) Tryz.sizeOf29 rfl ?_; clear hs w a; intro a w hs
    refine goL 2 [0] [104, 13, 0, 2, 7, 9, 11, 45, 46, 47] hs (.c .z .n) ⟨rfl, ?_⟩; clear hs w a; intro a w hs
    refine st_call hs (.c rfl .n) Tryz.call17 .n (gwrite_ok ((dG ((K.getD (K.length - 1) default).t) ((K.getD (K.length - 1) default).tm) ((K.getD (K.length - 1) default).l) ((L.getD j default).t) ((L.getD j default).tm) ((L.getD j default).l)).t) ((dG ((K.getD (K.length - 1) default).t) ((K.getD (K.length - 1) default).tm) ((K.getD (K.length - 1) default).l) ((L.getD j default).t) ((L.getD j default).tm) ((L.getD j default).l)).tm) ((dG ((K.getD (K.length - 1) default).t) ((K.getD (K.length - 1) default).tm) ((K.getD (K.length - 1) default).l) ((L.getD j default).t) ((L.getD j default).tm) ((L.getD j default).l)).b) _ ((dG ((K.getD (K.length - 1) default).t) ((K.getD (K.length - 1) default).tm) ((K.getD (K.length - 1) default).l) ((L.getD j default).t) ((L.getD j default).tm) ((L.getD j default).l)).l) _ (by omega) (by omega) (by omega) (rd_row (hs.mem.del (.s .z))) (dG_wf hw2 hw1)) rfl ?_; clear hs w a; rintro _ _ a w ⟨v18, rfl, rfl⟩ hs; simp only [List.cons_append, List.nil_append] at hs
    have hk19 := length_gwB ((dG ((K.getD (K.length - 1) default).t) ((K.getD (K.length - 1) default).tm) ((K.getD (K.length - 1) default).l) ((L.getD j default).t) ((L.getD j default).tm) ((L.getD j default).l)).t) ((dG ((K.getD (K.length - 1) default).t) ((K.getD (K.length - 1) default).tm) ((K.getD (K.length - 1) default).l) ((L.getD j default).t) ((L.getD j default).tm) ((L.getD j default).l)).tm) ((dG ((K.getD (K.length - 1) default).t) ((K.getD (K.length - 1) default).tm) ((K.getD (K.length - 1) default).l) ((L.getD j default).t) ((L.getD j default).tm) ((L.getD j default).l)).b) ((dG ((K.getD (K.length - 1) default).t) ((K.getD (K.length - 1) default).tm) ((K.getD (K.length - 1) default).l) ((L.getD j default).t) ((L.getD j default).tm) ((L.getD j default).l)).l)
    refine goL 8 [] [110, 16, 15, 0, 2, 7, 9, 11, 45, 46, 47] hs .n ?_; clear hs w a; intro a w hs
    refine st_part (b := !((((dErr ((K.getD (K.length - 1) default).t) ((K.getD (K.length - 1) default).tm) ((K.getD (K.length - 1) default).l) ((L.getD j default).t) ((L.getD j default).tm) ((L.getD j default).l) : Nat) : Int) : Int) == 0)) (fun c_20 => ?_) (fun c_20 => ?_)
    ·
     rw [c_20] at hs
     replace c_20 := not_t c_20
     replace c_20 := ne_of_beq_f c_20
     refine go 6 [] [47, 0, 2, 7, 9, 45, 46] hs .n ⟨(by omega), ?_⟩; clear hs w a; intro a w hs
     replace hs := hs.drop (.c (.s (.s (.s (.s (.s .z))))) (.c (.s (.s (.s (.s .z)))) (.c (.s (.s (.s .z))) (.c (.s (.s .z)) (.c (.s .z) (.c .z .n))))))
     refine ⟨_, ?_, j + 1, K, q, X, σ, rfl, hs.sub (.c rfl (.c rfl (.c rfl (.c rfl (.c rfl (.c rfl (.c rfl .n))))))), by omega, hI1_1, (by omega), hI1_3, hI1_4, (fun i => Nat.le_succ_of_le (hI1_5 i))⟩
     omega
    rw [c_20] at hs
    replace c_20 := not_f c_20
    replace c_20 := eq_of_beq c_20
    refine go 3 [] [113, 15, 0, 2, 7, 9, 11, 45, 46, 47] hs .n ?_; clear hs w a; intro a w hs
    refine ifG hs rfl (fun c_21 => ?_) (fun c_21 => ?_)
    ·
     replace c_21 := not_t c_21
     replace c_21 := ne_of_beq_f c_21
     refine go 2 [] [47, 0, 2, 7, 9, 45, 46] hs .n ⟨(by omega), ?_⟩; clear hs w a; intro a w hs
     replace hs := hs.drop (.c (.s (.s (.s (.s (.s .z))))) (.c (.s (.s (.s (.s .z)))) (.c (.s (.s (.s .z))) (.c (.s (.s .z)) (.c (.s .z) (.c .z .n))))))
     refine ⟨_, ?_, j + 1, K, q, X, σ, rfl, hs.sub (.c rfl (.c rfl (.c rfl (.c rfl (.c rfl (.c rfl (.c rfl .n))))))), by omega, hI1_1, (by omega), hI1_3, hI1_4, (fun i => Nat.le_succ_of_le (hI1_5 i))⟩
     omega
    replace c_21 := not_f c_21
    replace c_21 := eq_of_beq c_21
    refine go 2 [] [116, 115, 0, 2, 7, 9, 11, 45, 46, 47] hs .n ?_; clear hs w a; intro a w hs
    refine st_call hs (.c rfl (.c rfl .n)) Tryz.call27 (.c (.s (.s (.s (.s (.s (.s .z)))))) .n) (accept_st hI1_3 (fun i => by have := hI1_5 i; omega) _ (hs.mem.del (.s (.s (.s (.s (.s (.s .z))))))) (hs.mem.rdrow .z (.c (.s (.s (.s (.s (.s .z))))) .n))) rfl ?_; clear hs w a; rintro _ _ a w ⟨rfl, X22, rfl, hX23⟩ hs; simp only [List.cons_append, List.nil_append] at hs
    refine goL 1 [] [114, 0, 2, 7, 9, 11, 45, 46, 47] hs .n ?_; clear hs w a; intro a w hs
    have T := hI1_4.diffR (x := (L.getD j default)) (by omega) (by omega) (by omega : dErr (K.getD (K.length - 1) default).t (K.getD (K.length - 1) default).tm (K.getD (K.length - 1) default).l (L.getD j default).t (L.getD j default).tm (L.getD j default).l = 0) hw2 hw1 (by omega : gwErr (dG (K.getD (K.length - 1) default).t (K.getD (K.length - 1) default).tm (K.getD (K.length - 1) default).l (L.getD j default).t (L.getD j default).tm (L.getD j default).l).t (dG (K.getD (K.length - 1) default).t (K.getD (K.length - 1) default).tm (K.getD (K.length - 1) default).l (L.getD j default).t (L.getD j default).tm (L.getD j default).l).tm (dG (K.getD (K.length - 1) default).t (K.getD (K.length - 1) default).tm (K.getD (K.length - 1) default).l (L.getD j default).t (L.getD j default).tm (L.getD j default).l).b (dG (K.getD (K.length - 1) default).t (K.getD (K.length - 1) default).tm (K.getD (K.length - 1) default).l (L.getD j default).t (L.getD j default).tm (L.getD j default).l).l = 0) rfl
    refine go 6 [] [121, 17, 0, 2, 7, 9, 11, 45, 46, 47] hs .n ?_; clear hs w a; intro a w hs
    have hb_ : (!((((accE σ.l (mostN n) σ.floor σ.gone (gRead ((gwB ((dG ((K.getD (K.length - 1) default).t) ((K.getD (K.length - 1) default).tm) ((K.getD (K.length - 1) default).l) ((L.getD j default).t) ((L.getD j default).tm) ((L.getD j default).l)).t) ((dG ((K.getD (K.length - 1) default).t) ((K.getD (K.length - 1) default).tm) ((K.getD (K.length - 1) default).l) ((L.getD j default).t) ((L.getD j default).tm) ((L.getD j default).l)).tm) ((dG ((K.getD (K.length - 1) default).t) ((K.getD (K.length - 1) default).tm) ((K.getD (K.length - 1) default).l) ((L.getD j default).t) ((L.getD j default).tm) ((L.getD j default).l)).b) ((dG ((K.getD (K.length - 1) default).t) ((K.getD (K.length - 1) default).tm) ((K.getD (K.length - 1) default).l) ((L.getD j default).t) ((L.getD j default).tm) ((L.getD j default).l)).l)))) : Nat) : Int) : Int) == 0)) = false := by rw [T.1]; rfl
    rw [hb_] at hs; clear hb_
    refine go 5 [0] [126, 122, 0, 2, 7, 9, 11, 45, 46, 47] hs (.c (.s (.s (.s (.s (.s .z))))) .n) ⟨rfl, ?_⟩; clear hs w a; intro a w hs
    have hb_ : (!((accT σ.l (mostN n) σ.floor σ.gone (gRead ((gwB ((dG ((K.getD (K.length - 1) default).t) ((K.getD (K.length - 1) default).tm) ((K.getD (K.length - 1) default).l) ((L.getD j default).t) ((L.getD j default).tm) ((L.getD j default).l)).t) ((dG ((K.getD (K.length - 1) default).t) ((K.getD (K.length - 1) default).tm) ((K.getD (K.length - 1) default).l) ((L.getD j default).t) ((L.getD j default).tm) ((L.getD j default).l)).tm) ((dG ((K.getD (K.length - 1) default).t) ((K.getD (K.length - 1) default).tm) ((K.getD (K.length - 1) default).l) ((L.getD j default).t) ((L.getD j default).tm) ((L.getD j default).l)).b) ((dG ((K.getD (K.length - 1) default).t) ((K.getD (K.length - 1) default).tm) ((K.getD (K.length - 1) default).l) ((L.getD j default).t) ((L.getD j default).tm) ((L.getD j default).l)).l)))) : Int) == ((L.getD j default).t))) = false := by rw [T.2.1]; exact congrArg (!·) (beq_self_eq_true _)
    rw [hb_] at hs; clear hb_
    refine go 5 [0] [130, 128, 0, 2, 7, 45, 46, 47] hs (.c .z .n) ⟨rfl, fun g24 => ?_⟩; clear hs w a; intro a w hs
    refine st_app (size := 3) (bytes := 40) hs rfl rfl (.s (.s (.s (.s (.s (.s (.s (.s .z)))))))) (rd_blk (m := 1) (size := 3) (hs.mem.del .z) rfl (by decide)) (ones_c rfl (ones_c rfl (ones_c (hs.rd0 (hLx (L.getD j default) (ri_in (by omega))).rd).isSl.one ones_n))) Tryz.underlying49 (i := Tryz.t24) rfl rfl rfl rfl rfl (by decide) (by omega) (by simp only [maxLen]; omega) rfl ?_; clear hs w a; intro v25 a w hs
    replace hs := hs.drop (.c (.s .z) .n)
    replace hs := hs.rerow .z (m' := (K ++ [(L.getD j default)]).length) (xs' := ((K ++ [(L.getD j default)]).flatMap snV)) (by rw [List.length_append]; rfl) (by rw [List.flatMap_append]; rfl)
    refine goL 3 [] [47, 9, 0, 2, 7, 45, 46] hs .n ⟨(by omega), ?_⟩; clear hs w a; intro a w hs
    replace hs := hs.drop (.c (.s (.s (.s (.s (.s (.s (.s .z))))))) (.c (.s (.s (.s (.s (.s (.s .z)))))) (.c (.s (.s (.s (.s (.s .z))))) (.c (.s (.s (.s (.s .z)))) (.c (.s (.s (.s .z))) (.c (.s .z) .n))))))
    replace hs := hs.reorder (.c (.s .z) (.c .z .n))
    refine ⟨_, ?_, j + 1, (K ++ [(L.getD j default)]), v25, X22, (accS (mostN n) σ (gRead ((gwB ((dG ((K.getD (K.length - 1) default).t) ((K.getD (K.length - 1) default).tm) ((K.getD (K.length - 1) default).l) ((L.getD j default).t) ((L.getD j default).tm) ((L.getD j default).l)).t) ((dG ((K.getD (K.length - 1) default).t) ((K.getD (K.length - 1) default).tm) ((K.getD (K.length - 1) default).l) ((L.getD j default).t) ((L.getD j default).tm) ((L.getD j default).l)).tm) ((dG ((K.getD (K.length - 1) default).t) ((K.getD (K.length - 1) default).tm) ((K.getD (K.length - 1) default).l) ((L.getD j default).t) ((L.getD j default).tm) ((L.getD j default).l)).b) ((dG ((K.getD (K.length - 1) default).t) ((K.getD (K.length - 1) default).tm) ((K.getD (K.length - 1) default).l) ((L.getD j default).t) ((L.getD j default).tm) ((L.getD j default).l)).l))))), rfl, hs.sub (.c rfl (.c rfl (.c rfl (.c rfl (.c rfl (.c rfl (.c rfl .n))))))), by omega, (fun x hx => by rcases List.mem_append.1 hx with hx | hx; exact hI1_1 x hx; rw [List.mem_singleton.1 hx]; exact ri_in (by omega)), (by rw [List.length_append]; show _ + 1 ≤ _; omega), hX23, T.2.2, (accS_k hI1_5)⟩
    omega
   refine go 2 [] [83, 82, 14, 13, 12, 10, 11, 0, 2, 7, 9, 45, 46, 47] hs .n ?_; clear hs w a; intro a w hs
   refine st_len hs rfl (hs.rd0 hf).isSl Tryz.underlying75 rfl ?_; clear hs w a; intro a w hs
   refine goL 2 [] [86, 14, 13, 12, 10, 11, 0, 2, 7, 9, 45, 46, 47] hs .n ?_; clear hs w a; intro a w hs
   refine st_part (b := decide ((((j : Nat) : Int)) < (((B.length : Nat) : Int)))) (fun c_26 => ?_) (fun c_26 => ?_)
   ·
    rw [c_26] at hs
    replace c_26 := of_decide_eq_true c_26
    refine go 2 [] [88, 87, 86, 14, 13, 12, 11, 0, 2, 7, 9, 45, 46, 47] hs .n ?_; clear hs w a; intro a w hs
    refine st_guardT hs rfl rfl rfl ?_
    refine st_ia1 (j := j) hs rfl rfl (hs.rd0 hf) rfl (by omega) Tryz.underlying75 Tryz.sizeOf4 rfl ?_; clear hs w a; intro a w hs
    refine st_guardT hs rfl rfl rfl ?_
    refine st_ld (u := .bool (B.getD j false)) hs rfl (hs.rd0 hf) (bools_get (by omega)) Tryz.isAgg4 rfl ?_; clear hs w a; intro a w hs
    refine goL 3 [] [93, 14, 13, 12, 11, 0, 2, 7, 9, 45, 46, 47] hs .n ?_; clear hs w a; intro a w hs
    refine st_part (b := !(B.getD j false)) (fun c_27 => ?_) (fun c_27 => ?_)
    ·
     rw [c_27] at hs
     replace c_27 := not_t c_27
     refine go 3 [] [96, 14, 13, 12, 11, 0, 2, 7, 9, 45, 46, 47] hs .n ?_; clear hs w a; intro a w hs
     exact Or.inl ⟨hs.sub (.c rfl (.c rfl (.c rfl (.c rfl (.c rfl (.c rfl (.c rfl (.c rfl (.c rfl (.c rfl (.c rfl (.c rfl .n)))))))))))), trivial⟩
    rw [c_27] at hs
    replace c_27 := not_f c_27
    refine go 3 [] [96, 14, 13, 12, 11, 0, 2, 7, 9, 45, 46, 47] hs .n ?_; clear hs w a; intro a w hs
    refine st_part (b := !((((fErr ((L.getD j default).t) ((L.getD j default).tm) ((L.getD j default).l) : Nat) : Int) : Int) == 0)) (fun c_28 => ?_) (fun c_28 => ?_)
    ·
     rw [c_28] at hs
     replace c_28 := not_t c_28
     replace c_28 := ne_of_beq_f c_28
     exact Or.inl ⟨hs.sub (.c rfl (.c rfl (.c rfl (.c rfl (.c rfl (.c rfl (.c rfl (.c rfl (.c rfl (.c rfl (.c rfl (.c rfl .n)))))))))))), trivial⟩
    rw [c_28] at hs
    replace c_28 := not_f c_28
    replace c_28 := eq_of_beq c_28
    refine Or.inr ?_
    refine go 2 [0] [104, 13, 11, 0, 2, 7, 9, 45, 46, 47] hs (.c (.s (.s .z)) .n) ⟨rfl, ?_⟩; clear hs w a; intro a w hs
    refine st_call hs (.c rfl .n) Tryz.call17 .n (gwrite_ok ((fG ((L.getD j default).t) ((L.getD j default).tm) ((L.getD j default).l)).t) ((fG ((L.getD j default).t) ((L.getD j default).tm) ((L.getD j default).l)).tm) ((fG ((L.getD j default).t) ((L.getD j default).tm) ((L.getD j default).l)).b) _ ((fG ((L.getD j default).t) ((L.getD j default).tm) ((L.getD j default).l)).l) _ (by omega) (by omega) (by omega) (rd_row (hs.mem.del (.s (.s (.s .z))))) (fG_wf hw1)) rfl ?_; clear hs w a; rintro _ _ a w ⟨v29, rfl, rfl⟩ hs; simp only [List.cons_append, List.nil_append] at hs
    have hk30 := length_gwB ((fG ((L.getD j default).t) ((L.getD j default).tm) ((L.getD j default).l)).t) ((fG ((L.getD j default).t) ((L.getD j default).tm) ((L.getD j default).l)).tm) ((fG ((L.getD j default).t) ((L.getD j default).tm) ((L.getD j default).l)).b) ((fG ((L.getD j default).t) ((L.getD j default).tm) ((L.getD j default).l)).l)
    refine goL 8 [] [110, 16, 15, 11, 0, 2, 7, 9, 45, 46, 47] hs .n ?_; clear hs w a; intro a w hs
    refine st_part (b := !((((fErr ((L.getD j default).t) ((L.getD j default).tm) ((L.getD j default).l) : Nat) : Int) : Int) == 0)) (fun c_31 => ?_) (fun c_31 => ?_)
    ·
     rw [c_31] at hs
     replace c_31 := not_t c_31
     replace c_31 := ne_of_beq_f c_31
     refine go 6 [] [47, 0, 2, 7, 9, 45, 46] hs .n ⟨(by omega), ?_⟩; clear hs w a; intro a w hs
     replace hs := hs.drop (.c (.s (.s (.s (.s .z)))) (.c (.s (.s (.s .z))) (.c (.s (.s .z)) (.c (.s .z) (.c .z .n)))))
     refine ⟨_, ?_, j + 1, K, q, X, σ, rfl, hs.sub (.c rfl (.c rfl (.c rfl (.c rfl (.c rfl (.c rfl (.c rfl .n))))))), by omega, hI1_1, (by omega), hI1_3, hI1_4, (fun i => Nat.le_succ_of_le (hI1_5 i))⟩
     omega
    rw [c_31] at hs
    replace c_31 := not_f c_31
    replace c_31 := eq_of_beq c_31
    refine go 3 [] [113, 15, 11, 0, 2, 7, 9, 45, 46, 47] hs .n ?_; clear hs w a; intro a w hs
    refine ifG hs rfl (fun c_32 => ?_) (fun c_32 => ?_)
    ·
     replace c_32 := not_t c_32
     replace c_32 := ne_of_beq_f c_32
     refine go 2 [] [47, 0, 2, 7, 9, 45, 46] hs .n ⟨(by omega), ?_⟩; clear hs w a; intro a w hs
     replace hs := hs.drop (.c (.s (.s (.s (.s .z)))) (.c (.s (.s (.s .z))) (.c (.s (.s .z)) (.c (.s .z) (.c .z .n)))))
     refine ⟨_, ?_, j + 1, K, q, X, σ, rfl, hs.sub (.c rfl (.c rfl (.c rfl (.c rfl (.c rfl (.c rfl (.c rfl .n))))))), by omega, hI1_1, (by omega), hI1_3, hI1_4, (fun i => Nat.le_succ_of_le (hI1_5 i))⟩
     omega
    replace c_32 := not_f c_32
    replace c_32 := eq_of_beq c_32
    refine go 2 [] [116, 115, 11, 0, 2, 7, 9, 45, 46, 47] hs .n ?_; clear hs w a; intro a w hs
    refine st_call hs (.c rfl (.c rfl .n)) Tryz.call27 (.c (.s (.s (.s (.s (.s .z))))) .n) (accept_st hI1_3 (fun i => by have := hI1_5 i; omega) _ (hs.mem.del (.s (.s (.s (.s (.s .z)))))) (hs.mem.rdrow .z (.c (.s (.s (.s (.s .z)))) .n))) rfl ?_; clear hs w a; rintro _ _ a w ⟨rfl, X33, rfl, hX34⟩ hs; simp only [List.cons_append, List.nil_append] at hs
    refine goL 1 [] [114, 11, 0, 2, 7, 9, 45, 46, 47] hs .n ?_; clear hs w a; intro a w hs
    have T := hI1_4.fullR (x := (L.getD j default)) (fun h0 => by omega) (by omega : fErr (L.getD j default).t (L.getD j default).tm (L.getD j default).l = 0) hw1 (by omega : gwErr (fG (L.getD j default).t (L.getD j default).tm (L.getD j default).l).t (fG (L.getD j default).t (L.getD j default).tm (L.getD j default).l).tm (fG (L.getD j default).t (L.getD j default).tm (L.getD j default).l).b (fG (L.getD j default).t (L.getD j default).tm (L.getD j default).l).l = 0)
    refine go 6 [] [121, 17, 11, 0, 2, 7, 9, 45, 46, 47] hs .n ?_; clear hs w a; intro a w hs
    have hb_ : (!((((accE σ.l (mostN n) σ.floor σ.gone (gRead ((gwB ((fG ((L.getD j default).t) ((L.getD j default).tm) ((L.getD j default).l)).t) ((fG ((L.getD j default).t) ((L.getD j default).tm) ((L.getD j default).l)).tm) ((fG ((L.getD j default).t) ((L.getD j default).tm) ((L.getD j default).l)).b) ((fG ((L.getD j default).t) ((L.getD j default).tm) ((L.getD j default).l)).l)))) : Nat) : Int) : Int) == 0)) = false := by rw [T.1]; rfl
    rw [hb_] at hs; clear hb_
    refine go 5 [0] [126, 122, 11, 0, 2, 7, 9, 45, 46, 47] hs (.c (.s (.s (.s (.s .z)))) .n) ⟨rfl, ?_⟩; clear hs w a; intro a w hs
    have hb_ : (!((accT σ.l (mostN n) σ.floor σ.gone (gRead ((gwB ((fG ((L.getD j default).t) ((L.getD j default).tm) ((L.getD j default).l)).t) ((fG ((L.getD j default).t) ((L.getD j default).tm) ((L.getD j default).l)).tm) ((fG ((L.getD j default).t) ((L.getD j default).tm) ((L.getD j default).l)).b) ((fG ((L.getD j default).t) ((L.getD j default).tm) ((L.getD j default).l)).l)))) : Int) == ((L.getD j default).t))) = false := by rw [T.2.1]; exact congrArg (!·) (beq_self_eq_true _)
    rw [hb_] at hs; clear hb_
    refine go 5 [0] [130, 128, 0, 2, 7, 45, 46, 47] hs (.c .z .n) ⟨rfl, fun g35 => ?_⟩; clear hs w a; intro a w hs
    refine st_app (size := 3) (bytes := 40) hs rfl rfl (.s (.s (.s (.s (.s (.s (.s .z))))))) (rd_blk (m := 1) (size := 3) (hs.mem.del .z) rfl (by decide)) (ones_c rfl (ones_c rfl (ones_c (hs.rd0 (hLx (L.getD j default) (ri_in (by omega))).rd).isSl.one ones_n))) Tryz.underlying49 (i := Tryz.t24) rfl rfl rfl rfl rfl (by decide) (by omega) (by simp only [maxLen]; omega) rfl ?_; clear hs w a; intro v36 a w hs
    replace hs := hs.drop (.c (.s .z) .n)
    replace hs := hs.rerow .z (m' := (K ++ [(L.getD j default)]).length) (xs' := ((K ++ [(L.getD j default)]).flatMap snV)) (by rw [List.length_append]; rfl) (by rw [List.flatMap_append]; rfl)
    refine goL 3 [] [47, 9, 0, 2, 7, 45, 46] hs .n ⟨(by omega), ?_⟩; clear hs w a; intro a w hs
    replace hs := hs.drop (.c (.s (.s (.s (.s (.s (.s .z)))))) (.c (.s (.s (.s (.s (.s .z))))) (.c (.s (.s (.s (.s .z)))) (.c (.s (.s (.s .z))) (.c (.s .z) .n)))))
    replace hs := hs.reorder (.c (.s .z) (.c .z .n))
    refine ⟨_, ?_, j + 1, (K ++ [(L.getD j default)]), v36, X33, (accS (mostN n) σ (gRead ((gwB ((fG ((L.getD j default).t) ((L.getD j default).tm) ((L.getD j default).l)).t) ((fG ((L.getD j default).t) ((L.getD j default).tm) ((L.getD j default).l)).tm) ((fG ((L.getD j default).t) ((L.getD j default).tm) ((L.getD j default).l)).b) ((fG ((L.getD j default).t) ((L.getD j default).tm) ((L.getD j default).l)).l))))), rfl, hs.sub (.c rfl (.c rfl (.c rfl (.c rfl (.c rfl (.c rfl (.c rfl .n))))))), by omega, (fun x hx => by rcases List.mem_append.1 hx with hx | hx; exact hI1_1 x hx; rw [List.mem_singleton.1 hx]; exact ri_in (by omega)), (by rw [List.length_append]; show _ + 1 ≤ _; omega), hX34, T.2.2, (accS_k hI1_5)⟩
    omega
   rw [c_26] at hs
   replace c_26 := of_decide_eq_false c_26
   refine go 10 [] [96, 14, 13, 12, 11, 0, 2, 7, 9, 45, 46, 47] hs .n ?_; clear hs w a; intro a w hs
   refine st_part (b := !((((fErr ((L.getD j default).t) ((L.getD j default).tm) ((L.getD j default).l) : Nat) : Int) : Int) == 0)) (fun c_37 => ?_) (fun c_37 => ?_)
   ·
    rw [c_37] at hs
    replace c_37 := not_t c_37
    replace c_37 := ne_of_beq_f c_37
    exact Or.inl ⟨hs.sub (.c rfl (.c rfl (.c rfl (.c rfl (.c rfl (.c rfl (.c rfl (.c rfl (.c rfl (.c rfl (.c rfl (.c rfl .n)))))))))))), trivial⟩
   rw [c_37] at hs
   replace c_37 := not_f c_37
   replace c_37 := eq_of_beq c_37
   refine Or.inr ?_
   refine go 2 [0] [104, 13, 11, 0, 2, 7, 9, 45, 46, 47] hs (.c (.s (.s .z)) .n) ⟨rfl, ?_⟩; clear hs w a; intro a w hs
   refine st_call hs (.c rfl .n) Tryz.call17 .n (gwrite_ok ((fG ((L.getD j default).t) ((L.getD j default).tm) ((L.getD j default).l)).t) ((fG ((L.getD j default).t) ((L.getD j default).tm) ((L.getD j default).l)).tm) ((fG ((L.getD j default).t) ((L.getD j default).tm) ((L.getD j default).l)).b) _ ((fG ((L.getD j default).t) ((L.getD j default).tm) ((L.getD j default).l)).l) _ (by omega) (by omega) (by omega) (rd_row (hs.mem.del (.s (.s (.s .z))))) (fG_wf hw1)) rfl ?_; clear hs w a; rintro _ _ a w ⟨v38, rfl, rfl⟩ hs; simp only [List.cons_append, List.nil_append] at hs
   have hk39 := length_gwB ((fG ((L.getD j default).t) ((L.getD j default).tm) ((L.getD j default).l)).t) ((fG ((L.getD j default).t) ((L.getD j default).tm) ((L.getD j default).l)).tm) ((fG ((L.getD j default).t) ((L.getD j default).tm) ((L.getD j default).l)).b) ((fG ((L.getD j default).t) ((L.getD j default).tm) ((L.getD j default).l)).l)
   refine goL 8 [] [110, 16, 15, 11, 0, 2, 7, 9, 45, 46, 47] hs .n ?_; clear hs w a; intro a w hs
   refine st_part (b := !((((fErr ((L.getD j default).t) ((L.getD j default).tm) ((L.getD j default).l) : Nat) : Int) : Int) == 0)) (fun c_40 => ?_) (fun c_40 => ?_)
   ·
    rw [c_40] at hs
    replace c_40 := not_t c_40
    replace c_40 := ne_of_beq_f c_40
    refine go 6 [] [47, 0, 2, 7, 9, 45, 46] hs .n ⟨(by omega), ?_⟩; clear hs w a; intro a w hs
    replace hs := hs.drop (.c (.s (.s (.s (.s .z)))) (.c (.s (.s (.s .z))) (.c (.s (.s .z)) (.c (.s .z) (.c .z .n)))))
    refine ⟨_, ?_, j + 1, K, q, X, σ, rfl, hs.sub (.c rfl (.c rfl (.c rfl (.c rfl (.c rfl (.c rfl (.c rfl .n))))))), by omega, hI1_1, (by omega), hI1_3, hI1_4, (fun i => Nat.le_succ_of_le (hI1_5 i))⟩
    omega
   rw [c_40] at hs
   replace c_40 := not_f c_40
   replace c_40 := eq_of_beq c_40
   refine go 3 [] [113, 15, 11, 0, 2, 7, 9, 45, 46, 47] hs .n ?_; clear hs w a; intro a w hs
   refine ifG hs rfl (fun c_41 => ?_) (fun c_41 => ?_)
   ·
    replace c_41 := not_t c_41
    replace c_41 := ne_of_beq_f c_41
    refine go 2 [] [47, 0, 2, 7, 9, 45, 46] hs .n ⟨(by omega), ?_⟩; clear hs w a; intro a w hs
    replace hs := hs.drop (.c (.s (.s (.s (.s .z)))) (.c (.s (.s (.s .z))) (.c (.s (.s .z)) (.c (.s .z) (.c .z .n)))))
    refine ⟨_, ?_, j + 1, K, q, X, σ, rfl, hs.sub (.c rfl (.c rfl (.c rfl (.c rfl (.c rfl (.c rfl (.c rfl .n))))))), by omega, hI1_1, (by omega), hI1_3, hI1_4, (fun i => Nat.le_succ_of_le (hI1_5 i))⟩
    omega
   replace c_41 := not_f c_41
   replace c_41 := eq_of_beq c_41
   refine go 2 [] [116, 115, 11, 0, 2, 7, 9, 45, 46, 47] hs .n ?_; clear hs w a; intro a w hs
   refine st_call hs (.c rfl (.c rfl .n)) Tryz.call27 (.c (.s (.s (.s (.s (.s .z))))) .n) (accept_st hI1_3 (fun i => by have := hI1_5 i; omega) _ (hs.mem.del (.s (.s (.s (.s (.s .z)))))) (hs.mem.rdrow .z (.c (.s (.s (.s (.s .z)))) .n))) rfl ?_; clear hs w a; rintro _ _ a w ⟨rfl, X42, rfl, hX43⟩ hs; simp only [List.cons_append, List.nil_append] at hs
   refine goL 1 [] [114, 11, 0, 2, 7, 9, 45, 46, 47] hs .n ?_; clear hs w a; intro a w hs
   have T := hI1_4.fullR (x := (L.getD j default)) (fun h0 => by omega) (by omega : fErr (L.getD j default).t (L.getD j default).tm (L.getD j default).l = 0) hw1 (by omega : gwErr (fG (L.getD j default).t (L.getD j default).tm (L.getD j default).l).t (fG (L.getD j default).t (L.getD j default).tm (L.getD j default).l).tm (fG (L.getD j default).t (L.getD j default).tm (L.getD j default).l).b (fG (L.getD j default).t (L.getD j default).tm (L.getD j default).l).l = 0)
   refine go 6 [] [121, 17, 11, 0, 2, 7, 9, 45, 46, 47] hs .n ?_; clear hs w a; intro a w hs
   have hb_ : (!((((accE σ.l (mostN n) σ.floor σ.gone (gRead ((gwB ((fG ((L.getD j default).t) ((L.getD j default).tm) ((L.getD j default).l)).t) ((fG ((L.getD j default).t) ((L.getD j default).tm) ((L.getD j default).l)).tm) ((fG ((L.getD j default).t) ((L.getD j default).tm) ((L.getD j default).l)).b) ((fG ((L.getD j default).t) ((L.getD j default).tm) ((L.getD j default).l)).l)))) : Nat) : Int) : Int) == 0)) = false := by rw [T.1]; rfl
   rw [hb_] at hs; clear hb_
   refine go 5 [0] [126, 122, 11, 0, 2, 7, 9, 45, 46, 47] hs (.c (.s (.s (.s (.s .z)))) .n) ⟨rfl, ?_⟩; clear hs w a; intro a w hs
   have hb_ : (!((accT σ.l (mostN n) σ.floor σ.gone (gRead ((gwB ((fG ((L.getD j default).t) ((L.getD j default).tm) ((L.getD j default).l)).t) ((fG ((L.getD j default).t) ((L.getD j default).tm) ((L.getD j default).l)).tm) ((fG ((L.getD j default).t) ((L.getD j default).tm) ((L.getD j default).l)).b) ((fG ((L.getD j default).t) ((L.getD j default).tm) ((L.getD j default).l)).l)))) : Int) == ((L.getD j default).t))) = false := by rw [T.2.1]; exact congrArg (!·) (beq_self_eq_true _)
   rw [hb_] at hs; clear hb_
   refine go 5 [0] [130, 128, 0, 2, 7, 45, 46, 47] hs (.c .z .n) ⟨rfl, fun g44 => ?_⟩; clear hs w a; intro a w hs
   refine st_app (size := 3) (bytes := 40) hs rfl rfl (.s (.s (.s (.s (.s (.s (.s .z))))))) (rd_blk (m := 1) (size := 3) (hs.mem.del .z) rfl (by decide)) (ones_c rfl (ones_c rfl (ones_c (hs.rd0 (hLx (L.getD j default) (ri_in (by omega))).rd).isSl.one ones_n))) Tryz.underlying49 (i := Tryz.t24) rfl rfl rfl rfl rfl (by decide) (by omega) (by simp only [maxLen]; omega) rfl ?_; clear hs w a; intro v45 a w hs
   replace hs := hs.drop (.c (.s .z) .n)
   replace hs := hs.rerow .z (m' := (K ++ [(L.getD j default)]).length) (xs' := ((K ++ [(L.getD j default)]).flatMap snV)) (by rw [List.length_append]; rfl) (by rw [List.flatMap_append]; rfl)
   refine goL 3 [] [47, 9, 0, 2, 7, 45, 46] hs .n ⟨(by omega), ?_⟩; clear hs w a; intro a w hs
   replace hs := hs.drop (.c (.s (.s (.s (.s (.s (.s .z)))))) (.c (.s (.s (.s (.s (.s .z))))) (.c (.s (.s (.s (.s .z)))) (.c (.s (.s (.s .z))) (.c (.s .z) .n)))))
   replace hs := hs.reorder (.c (.s .z) (.c .z .n))
   refine ⟨_, ?_, j + 1, (K ++ [(L.getD j default)]), v45, X42, (accS (mostN n) σ (gRead ((gwB ((fG ((L.getD j default).t) ((L.getD j default).tm) ((L.getD j default).l)).t) ((fG ((L.getD j default).t) ((L.getD j default).tm) ((L.getD j default).l)).tm) ((fG ((L.getD j default).t) ((L.getD j default).tm) ((L.getD j default).l)).b) ((fG ((L.getD j default).t) ((L.getD j default).tm) ((L.getD j default).l)).l))))), rfl, hs.sub (.c rfl (.c rfl (.c rfl (.c rfl (.c rfl (.c rfl (.c rfl .n))))))), by omega, (fun x hx => by rcases List.mem_append.1 hx with hx | hx; exact hI1_1 x hx; rw [List.mem_singleton.1 hx]; exact ri_in (by omega)), (by rw [List.length_append]; show _ + 1 ≤ _; omega), hX43, T.2.2, (accS_k hI1_5)⟩
   omega
  replace c_11 := of_decide_eq_false c_11
  refine go 1 [0] [104, 13, 11, 0, 2, 7, 9, 45, 46, 47] hs (.c .z .n) ⟨rfl, ?_⟩; clear hs w a; intro a w hs
  refine st_call hs (.c rfl .n) Tryz.call17 .n (gwrite_ok ((fG ((L.getD j default).t) ((L.getD j default).tm) ((L.getD j default).l)).t) ((fG ((L.getD j default).t) ((L.getD j default).tm) ((L.getD j default).l)).tm) ((fG ((L.getD j default).t) ((L.getD j default).tm) ((L.getD j default).l)).b) _ ((fG ((L.getD j default).t) ((L.getD j default).tm) ((L.getD j default).l)).l) _ (by omega) (by omega) (by omega) (rd_row (hs.mem.del (.s .z))) (fG_wf hw1)) rfl ?_; clear hs w a; rintro _ _ a w ⟨v46, rfl, rfl⟩ hs; simp only [List.cons_append, List.nil_append] at hs
  have hk47 := length_gwB ((fG ((L.getD j default).t) ((L.getD j default).tm) ((L.getD j default).l)).t) ((fG ((L.getD j default).t) ((L.getD j default).tm) ((L.getD j default).l)).tm) ((fG ((L.getD j default).t) ((L.getD j default).tm) ((L.getD j default).l)).b) ((fG ((L.getD j default).t) ((L.getD j default).tm) ((L.getD j default).l)).l)
  refine goL 8 [] [110, 16, 15, 11, 0, 2, 7, 9, 45, 46, 47] hs .n ?_; clear hs w a; intro a w hs
  refine st_part (b := !((((fErr ((L.getD j default).t) ((L.getD j default).tm) ((L.getD j default).l) : Nat) : Int) : Int) == 0)) (fun c_48 => ?_) (fun c_48 => ?_)
  ·
   rw [c_48] at hs
   replace c_48 := not_t c_48
   replace c_48 := ne_of_beq_f c_48
   refine go 6 [] [47, 0, 2, 7, 9, 45, 46] hs .n ⟨(by omega), ?_⟩; clear hs w a; intro a w hs
   replace hs := hs.drop (.c (.s (.s (.s .z))) (.c (.s (.s .z)) (.c (.s .z) (.c .z .n))))
   refine ⟨_, ?_, j + 1, K, q, X, σ, rfl, hs.sub (.c rfl (.c rfl (.c rfl (.c rfl (.c rfl (.c rfl (.c rfl .n))))))), by omega, hI1_1, (by omega), hI1_3, hI1_4, (fun i => Nat.le_succ_of_le (hI1_5 i))⟩
   omega
  rw [c_48] at hs
  replace c_48 := not_f c_48
  replace c_48 := eq_of_beq c_48
  refine go 3 [] [113, 15, 11, 0, 2, 7, 9, 45, 46, 47] hs .n ?_; clear hs w a; intro a w hs
  refine ifG hs rfl (fun c_49 => ?_) (fun c_49 => ?_)
  ·
   replace c_49 := not_t c_49
   replace c_49 := ne_of_beq_f c_49
   refine go 2 [] [47, 0, 2, 7, 9, 45, 46] hs .n ⟨(by omega), ?_⟩; clear hs w a; intro a w hs
   replace hs := hs.drop (.c (.s (.s (.s .z))) (.c (.s (.s .z)) (.c (.s .z) (.c .z .n))))
   refine ⟨_, ?_, j + 1, K, q, X, σ, rfl, hs.sub (.c rfl (.c rfl (.c rfl (.c rfl (.c rfl (.c rfl (.c rfl .n))))))), by omega, hI1_1, (by omega), hI1_3, hI1_4, (fun i => Nat.le_succ_of_le (hI1_5 i))⟩
   omega
  replace c_49 := not_f c_49
  replace c_49 := eq_of_beq c_49
  refine go 2 [] [116, 115, 11, 0, 2, 7, 9, 45, 46, 47] hs .n ?_; clear hs w a; intro a w hs
  refine st_call hs (.c rfl (.c rfl .n)) Tryz.call27 (.c (.s (.s (.s (.s .z)))) .n) (accept_st hI1_3 (fun i => by have := hI1_5 i; omega) _ (hs.mem.del (.s (.s (.s (.s .z))))) (hs.mem.rdrow .z (.c (.s (.s (.s .z))) .n))) rfl ?_; clear hs w a; rintro _ _ a w ⟨rfl, X50, rfl, hX51⟩ hs; simp only [List.cons_append, List.nil_append] at hs
  refine goL 1 [] [114, 11, 0, 2, 7, 9, 45, 46, 47] hs .n ?_; clear hs w a; intro a w hs
  have T := hI1_4.fullR (x := (L.getD j default)) (fun h0 => by omega) (by omega : fErr (L.getD j default).t (L.getD j default).tm (L.getD j default).l = 0) hw1 (by omega : gwErr (fG (L.getD j default).t (L.getD j default).tm (L.getD j default).l).t (fG (L.getD j default).t (L.getD j default).tm (L.getD j default).l).tm (fG (L.getD j default).t (L.getD j default).tm (L.getD j default).l).b (fG (L.getD j default).t (L.getD j default).tm (L.getD j default).l).l = 0)
  refine go 6 [] [121, 17, 11, 0, 2, 7, 9, 45, 46, 47] hs .n ?_; clear hs w a; intro a w hs
  have hb_ : (!((((accE σ.l (mostN n) σ.floor σ.gone (gRead ((gwB ((fG ((L.getD j default).t) ((L.getD j default).tm) ((L.getD j default).l)).t) ((fG ((L.getD j default).t) ((L.getD j default).tm) ((L.getD j default).l)).tm) ((fG ((L.getD j default).t) ((L.getD j default).tm) ((L.getD j default).l)).b) ((fG ((L.getD j default).t) ((L.getD j default).tm) ((L.getD j default).l)).l)))) : Nat) : Int) : Int) == 0)) = false := by rw [T.1]; rfl
  rw [hb_] at hs; clear hb_
  refine go 5 [0] [126, 122, 11, 0, 2, 7, 9, 45, 46, 47] hs (.c (.s (.s (.s (.s .z)))) .n) ⟨rfl, ?_⟩; clear hs w a; intro a w hs
  have hb_ : (!((accT σ.l (mostN n) σ.floor σ.gone (gRead ((gwB ((fG ((L.getD j default).t) ((L.getD j default).tm) ((L.getD j default).l)).t) ((fG ((L.getD j default).t) ((L.getD j default).tm) ((L.getD j default).l)).tm) ((fG ((L.getD j default).t) ((L.getD j default).tm) ((L.getD j default).l)).b) ((fG ((L.getD j default).t) ((L.getD j default).tm) ((L.getD j default).l)).l)))) : Int) == ((L.getD j default).t))) = false := by rw [T.2.1]; exact congrArg (!·) (beq_self_eq_true _)
  rw [hb_] at hs; clear hb_
  refine go 5 [0] [130, 128, 0, 2, 7, 45, 46, 47] hs (.c .z .n) ⟨rfl, fun g52 => ?_⟩; clear hs w a; intro a w hs
  refine st_app (size := 3) (bytes := 40) hs rfl rfl (.s (.s (.s (.s (.s (.s .z)))))) (rd_blk (m := 1) (size := 3) (hs.mem.del .z) rfl (by decide)) (ones_c rfl (ones_c rfl (ones_c (hs.rd0 (hLx (L.getD j default) (ri_in (by omega))).rd).isSl.one ones_n))) Tryz.underlying49 (i := Tryz.t24) rfl rfl rfl rfl rfl (by decide) (by omega) (by simp only [maxLen]; omega) rfl ?_; clear hs w a; intro v53 a w hs
  replace hs := hs.drop (.c (.s .z) .n)
  replace hs := hs.rerow .z (m' := (K ++ [(L.getD j default)]).length) (xs' := ((K ++ [(L.getD j default)]).flatMap snV)) (by rw [List.length_append]; rfl) (by rw [List.flatMap_append]; rfl)
  refine goL 3 [] [47, 9, 0, 2, 7, 45, 46] hs .n ⟨(by omega), ?_⟩; clear hs w a; intro a w hs
  replace hs := hs.drop (.c (.s (.s (.s (.s (.s .z))))) (.c (.s (.s (.s (.s .z)))) (.c (.s (.s (.s .z))) (.c (.s .z) .n))))
  replace hs := hs.reorder (.c (.s .z) (.c .z .n))
  refine ⟨_, ?_, j + 1, (K ++ [(L.getD j default)]), v53, X50, (accS (mostN n) σ (gRead ((gwB ((fG ((L.getD j default).t) ((L.getD j default).tm) ((L.getD j default).l)).t) ((fG ((L.getD j default).t) ((L.getD j default).tm) ((L.getD j default).l)).tm) ((fG ((L.getD j default).t) ((L.getD j default).tm) ((L.getD j default).l)).b) ((fG ((L.getD j default).t) ((L.getD j default).tm) ((L.getD j default).l)).l))))), rfl, hs.sub (.c rfl (.c rfl (.c rfl (.c rfl (.c rfl (.c rfl (.c rfl .n))))))), by omega, (fun x hx => by rcases List.mem_append.1 hx with hx | hx; exact hI1_1 x hx; rw [List.mem_singleton.1 hx]; exact ri_in (by omega)), (by rw [List.length_append]; show _ + 1 ≤ _; omega), hX51, T.2.2, (accS_k hI1_5)⟩
  omega
 replace c_5 := of_decide_eq_false c_5
 have hTl := hI1_4.len
 have hTn := hI1_4.num
 rw [sns_len] at hTl hTn
 have hdl : (K.drop (K.length - σ.l.length)).length = K.length - (K.length - σ.l.length) := List.length_drop
 refine go 1 [] [133, 0, 7, 9] hs .n ?_; clear hs w a; intro a w hs
 refine st_callP (v := .int .i64 (((σ.l.length : Nat) : Int))) hs (.c rfl .n) Tryz.call25 (len_st hI1_3 _ (hs.mem.del .z)) rfl ?_; clear hs w a; intro a w hs
 refine goL 1 [] [135, 134, 0, 7, 9] hs .n ?_; clear hs w a; intro a w hs
 refine st_len hs rfl (rd_row (hs.mem.del (.s .z))).isSl Tryz.underlying49 rfl ?_; clear hs w a; intro a w hs
 refine goL 1 [] [137, 136, 134, 7, 9] hs .n ?_; clear hs w a; intro a w hs
 refine st_callP (v := .int .i64 (((mostN n : Nat) : Int))) hs (.c rfl .n) Tryz.call22 (most12_ok n _ (by omega)) rfl ?_; clear hs w a; intro a w hs
 refine goL 2 [] [140, 7, 9] hs .n ?_; clear hs w a; intro a w hs
 have hb_ : (!((((σ.l.length : Nat) : Int) : Int) == (min (((K.length : Nat) : Int)) (((mostN n : Nat) : Int))))) = false := by rw [Bool.not_eq_false', beq_iff_eq]; omega
 rw [hb_] at hs; clear hb_
 refine go 2 [] [142, 141, 7, 9] hs .n ?_; clear hs w a; intro a w hs
 refine st_guardT hs rfl rfl rfl ?_
 refine st_callP (v := .int .i64 (((σ.n 0 : Nat) : Int))) hs (.c rfl .n) Tryz.call30 (taken_st hI1_3 _ (hs.mem.del .z)) rfl ?_; clear hs w a; intro a w hs
 refine goL 1 [] [144, 143, 141, 7, 9] hs .n ?_; clear hs w a; intro a w hs
 refine st_guardT hs rfl rfl rfl ?_
 refine st_len hs rfl (rd_row (hs.mem.del (.s .z))).isSl Tryz.underlying49 rfl ?_; clear hs w a; intro a w hs
 refine goL 1 [] [146, 141, 7, 9] hs .n ?_; clear hs w a; intro a w hs
 have hb_ : (!((((σ.n 0 : Nat) : Int) : Int) == (((K.length : Nat) : Int)))) = false := by rw [Bool.not_eq_false', beq_iff_eq]; omega
 rw [hb_] at hs; clear hb_
 refine go 4 [] [149, 148, 7] hs .n ?_; clear hs w a; intro a w hs
 refine st_len hs rfl (rd_row (hs.mem.del (.s .z))).isSl Tryz.underlying49 rfl ?_; clear hs w a; intro a w hs
 refine goL 1 [] [151, 150, 148, 7] hs .n ?_; clear hs w a; intro a w hs
 refine st_callP (v := .int .i64 (((σ.l.length : Nat) : Int))) hs (.c rfl .n) Tryz.call25 (len_st hI1_3 _ (hs.mem.del .z)) rfl ?_; clear hs w a; intro a w hs
 refine goL 1 [] [153, 148, 7] hs .n ⟨(by omega), ?_⟩; clear hs w a; intro a w hs
 have hv_ : ((((K.length : Nat) : Int)) - (((σ.l.length : Nat) : Int)) : Int) = (((K.length - σ.l.length : Nat) : Int) : Int) := by omega
 rw [hv_] at hs; clear hv_
 refine st_slcL (j := (K.length - σ.l.length)) hs rfl rfl rfl (rd_row (hs.mem.del (.s .z))).isSl (by omega) Tryz.underlying49 Tryz.sizeOf24 rfl ?_; clear hs w a; intro a w hs
 refine goL 2 [] [155, 7] hs .n ?_; clear hs w a; intro a w hs
 refine st_len hs rfl (rd_dropV (by omega : K.length - σ.l.length ≤ K.length) _ _ (rd_row (hs.mem.del (.s .z)))).isSl Tryz.underlying49 rfl ?_; clear hs w a; intro a w hs
 refine goL 1 [] [157, 156, 155, 7] hs .n ?_; clear hs w a; intro a w hs
 refine loopG (fun mm_ a w => ∃ i : Nat, mm_ = (K.drop (K.length - σ.l.length)).length - i ∧ St 177 [(7, .pointer (some ⟨g1, 0, none⟩)), (155, slcV q 3 (K.length - σ.l.length) K.length), (156, .int .i64 ((((K.drop (K.length - σ.l.length)).length : Nat) : Int))), (157, .int .i64 (((i : Nat) : Int)))] w0 [] [X, row q 24 3 K.length (K.flatMap snV)] a w ∧ i ≤ (K.drop (K.length - σ.l.length)).length) ⟨0, rfl, hs.sub (.c rfl (.c rfl (.c rfl (.c rfl .n)))), by omega⟩ ?_
 clear hs w a; rintro mm_ a w ⟨i, rfl, hs, hI2_0⟩
 refine go 1 [] [158, 7, 155, 156, 157] hs .n ?_; clear hs w a; intro a w hs
 refine ifG hs rfl (fun c_54 => ?_) (fun c_54 => ?_)
 ·
  replace c_54 := of_decide_eq_true c_54
  refine go 1 [] [159, 7, 155, 156, 157] hs .n ?_; clear hs w a; intro a w hs
  refine st_ia (j := i) hs rfl rfl (rd_dropV (by omega : K.length - σ.l.length ≤ K.length) _ _ (rd_row (hs.mem.del (.s .z)))) rfl (by omega) Tryz.underlying49 Tryz.sizeOf24 rfl ?_; clear hs w a; intro a w hs
  refine st_ldA (cs := snV ((K.drop (K.length - σ.l.length)).getD i default)) hs rfl (rd_dropV (by omega : K.length - σ.l.length ≤ K.length) _ _ (rd_row (hs.mem.del (.s .z)))) (flat_get snV_len (K.drop (K.length - σ.l.length)) i (by omega)) (by rw [flat_len snV_len]; omega) (by omega) Tryz.isAgg24 Tryz.sizeOf24 rfl ?_; clear hs w a; intro a w hs
  obtain ⟨ht3, hm3, hw3, _⟩ := hLx ((K.drop (K.length - σ.l.length)).getD i default) (hI1_1 _ (List.mem_of_mem_drop (ri_in (by omega))))
  refine goL 2 [] [19, 20, 161, 7, 155, 156, 157] hs .n (fun g55 => ?_); clear hs w a; intro a w hs
  refine st_stBA hs rfl rfl .z (.z (.c (.c (.c .n)))) (ones_c rfl (ones_c rfl (ones_c (hs.rd0 (hLx ((K.drop (K.length - σ.l.length)).getD i default) (hI1_1 _ (List.mem_of_mem_drop (ri_in (by omega))))).rd).isSl.one ones_n))) Tryz.sizeOf24 rfl ?_; clear hs w a; intro a w hs
  refine goL 2 [] [164, 163, 20, 7, 155, 156, 157] hs .n ?_; clear hs w a; intro a w hs
  have hA := hI1_4.kept (i := i) (by omega)
  refine st_call hs (.c rfl (.c rfl .n)) Tryz.call26 .n (at_st hI1_3 (((i : Nat) : Int)) _ (hs.mem.del (.s .z))) rfl ?_; clear hs w a; rintro _ _ a w ⟨v56, rfl, rfl⟩ hs; simp only [List.cons_append, List.nil_append] at hs
  have hk57 := sat_rng (l := σ.l) hI1_4.ok (((i : Nat) : Int))
  refine goL 4 [] [21, 167, 166, 20, 7, 155, 156, 157] hs .n (fun g58 => ?_); clear hs w a; intro a w hs
  refine st_stBA hs rfl rfl .z (.z (.c (.c (.c .n)))) (ones_c rfl (ones_c rfl (ones_c (rd_row (hs.mem.del (.s .z))).isSl.one ones_n))) Tryz.sizeOf24 rfl ?_; clear hs w a; intro a w hs
  refine goL 3 [] [169, 21, 20, 7, 155, 156, 157] hs .n ?_; clear hs w a; intro a w hs
  have hb_ : (!((((ratE σ.l (((i : Nat) : Int)) : Nat) : Int) : Int) == 0)) = false := by rw [hA.2]; rfl
  rw [hb_] at hs; clear hb_
  refine go 3 [0, 1] [172, 171, 170, 7, 155, 156, 157] hs (.c (.s (.s .z)) (.c .z .n)) ⟨rfl, rfl, ?_⟩; clear hs w a; intro a w hs
  refine st_guardT hs rfl rfl rfl ?_
  refine st_callP (v := .bool (sSame (((K.drop (K.length - σ.l.length)).getD i default).t) (((K.drop (K.length - σ.l.length)).getD i default).tm) (((K.drop (K.length - σ.l.length)).getD i default).l) ((sat σ.l (((i : Nat) : Int))).t) ((sat σ.l (((i : Nat) : Int))).tm) ((sat σ.l (((i : Nat) : Int))).l))) hs (.c rfl (.c rfl .n)) Tryz.call15 (ssame_ok (((K.drop (K.length - σ.l.length)).getD i default).t) (((K.drop (K.length - σ.l.length)).getD i default).tm) _ (((K.drop (K.length - σ.l.length)).getD i default).l) ((sat σ.l (((i : Nat) : Int))).t) ((sat σ.l (((i : Nat) : Int))).tm) _ ((sat σ.l (((i : Nat) : Int))).l) _ (hs.rd0 (hLx ((K.drop (K.length - σ.l.length)).getD i default) (hI1_1 _ (List.mem_of_mem_drop (ri_in (by omega))))).rd) (rd_row (hs.mem.del (.s (.s .z))))) rfl ?_; clear hs w a; intro a w hs
  refine goL 1 [] [174, 170, 7, 155, 156, 157] hs .n ?_; clear hs w a; intro a w hs
  have hb_ : (!(sSame (((K.drop (K.length - σ.l.length)).getD i default).t) (((K.drop (K.length - σ.l.length)).getD i default).tm) (((K.drop (K.length - σ.l.length)).getD i default).l) ((sat σ.l (((i : Nat) : Int))).t) ((sat σ.l (((i : Nat) : Int))).tm) ((sat σ.l (((i : Nat) : Int))).l))) = false := by rw [hA.1]; exact congrArg (!·) (sSame_refl _ _ _)
  rw [hb_] at hs; clear hb_
  refine go 4 [] [157, 7, 155, 156] hs .n ⟨(by omega), ?_⟩; clear hs w a; intro a w hs
  replace hs := hs.drop (.c (.s (.s .z)) (.c (.s .z) (.c .z .n)))
  refine ⟨_, ?_, i + 1, rfl, hs.sub (.c rfl (.c rfl (.c rfl (.c rfl .n)))), by omega⟩
  omega
 replace c_54 := of_decide_eq_false c_54
 refine go 1 [] [6] hs .n ?_; clear hs w a; intro a w hs
 replace hs := hs.drop (.c (.s .z) (.c .z .n))
 exact fin hs rfl rfl ⟨rfl, rfl⟩
end Go.Proofs.YtbioemaipghagaaGreat
