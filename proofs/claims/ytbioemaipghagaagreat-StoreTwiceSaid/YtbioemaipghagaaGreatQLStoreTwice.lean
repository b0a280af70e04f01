/- Walks of StoreTwice: what each function does, over the program of this seat. Printed by a program of this session. -/
import Derived.Test.YtbioemaipghagaaGreatQWstoA
import Derived.Test.YtbioemaipghagaaGreatQWstoB
import Derived.Test.YtbioemaipghagaaGreatQSxBasB
namespace Go.Proofs.YtbioemaipghagaaGreat
open Go Go.Sx Go.RowKit
set_option linter.unusedVariables false
set_option linter.unusedSimpArgs false
set_option maxRecDepth 4000
set_option maxHeartbeats 1000000

theorem storeTwice_ok (n : Int) (u : Value) (L : List BR) (w0 : World) (hn : R64 n) (hu : Rd w0 [] u 1 L.length (L.map BR.v)) (hLb : ∀ x ∈ L, Rd w0 [] x.v 1 x.bs.length (bytesV x.bs)) : Calls Tryz.prog 8 #[.int .i64 n, u] w0 (RetV w0 (.bool true)) := by
  have hue := hu.le
  simp only [maxLen] at hue
  have hmr := mostN_rng n
  refine enterG (F0 := [(0, .int .i64 (n)), (1, u)]) Tryz.func8 rfl rfl rfl (.c (.c .n)) (Mem.nil _) fun a w hs => ?_
  refine go 2 [] [24, 1] hs .n ?_; clear hs w a; intro a w hs
  refine st_callP (v := .int .i64 (((mostN n : Nat) : Int))) hs (.c rfl .n) Tryz.call22 (most12_ok n _ (by omega)) rfl ?_; clear hs w a; intro a w hs
  refine st_call hs (.c rfl .n) Tryz.call21 .n (new_st (mostN n) _ (mostN_rng n)) rfl ?_; clear hs w a; rintro _ _ a w ⟨g1, X2, rfl, rfl, hX3⟩ hs; simp only [List.cons_append, List.nil_append] at hs
  refine goL 5 [] [6, 5, 1] hs .n ?_; clear hs w a; intro a w hs
  refine st_callP (v := .bool (true)) hs .n Tryz.call23 (alive12_ok _) rfl ?_; clear hs w a; intro a w hs
  refine goL 11 [] [40, 39, 5, 1] hs .n ?_; clear hs w a; intro a w hs
  refine st_guardT hs rfl rfl rfl ?_
  refine st_call hs (.c rfl .n) Tryz.call24 .n (great12_ok _ L _ (hs.rd0 hu) (fun x hx => hs.rd0 (hLb x hx))) rfl ?_; clear hs w a; rintro _ _ a w ⟨b4, rfl, hg5, rfl⟩ hs; simp only [List.cons_append, List.nil_append] at hs
  refine goL 1 [] [42, 5, 1] hs .n ?_; clear hs w a; intro a w hs
  refine ifG hs rfl (fun c_6 => ?_) (fun c_6 => ?_)
  ·
   refine go 0 [] [] hs .n ?_; clear hs w a; intro a w hs
   refine st_callP (v := .bool (true)) hs .n Tryz.call23 (alive12_ok _) rfl ?_; clear hs w a; intro a w hs
   refine goL 1 [] [4] hs .n ?_; clear hs w a; intro a w hs
   replace hs := hs.drop (.c .z .n)
   exact fin hs rfl rfl ⟨rfl, rfl⟩
  have hL60 := hg5 (by assumption)
  refine go 2 [] [44, 7, 5] hs .n ?_; clear hs w a; intro a w hs
  refine st_len hs rfl (hs.rd0 hu).isSl Tryz.underlying43 rfl ?_; clear hs w a; intro a w hs
  refine goL 1 [] [46, 45, 44, 7, 5] hs .n ?_; clear hs w a; intro a w hs
  replace hs := hs.addNil 37 1
  replace hs := hs.rerow .z (m' := ([] : List BR).length) (xs' := (([] : List BR).map BR.v)) (rfl) (rfl)
  replace hs := hs.reorder (.c (.s .z) (.c .z .n))
  refine loopG (fun mm_ a w => ∃ j : Nat, ∃ K : List BR, ∃ q : Value, ∃ X : HA, ∃ σ : Stt, mm_ = L.length - j ∧ St 126 [(5, .pointer (some ⟨g1, 0, none⟩)), (7, q), (44, u), (45, .int .i64 (((L.length : Nat) : Int))), (46, .int .i64 (((j : Nat) : Int)))] w0 [] [X, row q 37 1 K.length (K.map BR.v)] a w ∧ j ≤ L.length ∧ K.length ≤ j ∧ (∀ x ∈ K, x ∈ L) ∧ Sto g1 (mostN n) σ X ∧ Twice (mostN n) σ (K.map BR.bs) ∧ (∀ i, σ.n i ≤ 2 * j)) ⟨0, [], .slice none 0 0, X2, stt0, rfl, hs.sub (.c rfl (.c rfl (.c rfl (.c rfl (.c rfl .n))))), by omega, (Nat.zero_le _), (by simp), hX3, (Twice.start (mostN_rng n)), (fun _ => Nat.zero_le _)⟩ ?_
  clear hs w a; rintro mm_ a w ⟨j, K, q, X, σ, rfl, hs, hI1_0, hI1_1, hI1_2, hI1_3, hI1_4, hI1_5⟩
  refine go 1 [] [47, 5, 7, 44, 45, 46] hs .n ?_; clear hs w a; intro a w hs
  refine ifG hs rfl (fun c_7 => ?_) (fun c_7 => ?_)
  ·
   replace c_7 := of_decide_eq_true c_7
   refine go 0 [] [5, 7, 44, 45, 46] hs .n ?_; clear hs w a; intro a w hs
   refine st_ia1 (j := j) hs rfl rfl (hs.rd0 hu) rfl (by omega) Tryz.underlying43 Tryz.sizeOf37 rfl ?_; clear hs w a; intro a w hs
   refine st_ld (u := (L.getD j default).v) hs rfl (hs.rd0 hu) (brv_get (by omega)) Tryz.isAgg37 rfl ?_; clear hs w a; intro a w hs
   refine goL 3 [] [52, 51, 9, 5, 7, 44, 45, 46] hs .n ?_; clear hs w a; intro a w hs
   refine st_call hs (.c rfl (.c rfl .n)) Tryz.call27 (.c .z .n) (accept_st hI1_3 (fun i => Nat.le_trans (hI1_5 i) (by omega)) _ (hs.mem.del .z) (hs.mem.rd1 (hLb (L.getD j default) (br_in (by omega))) (.c .z .n))) rfl ?_; clear hs w a; rintro _ _ a w ⟨rfl, X8, rfl, hX9⟩ hs; simp only [List.cons_append, List.nil_append] at hs
   refine goL 7 [] [57, 9, 5, 7, 44, 45, 46] hs .n ?_; clear hs w a; intro a w hs
   refine ifG hs rfl (fun c_10 => ?_) (fun c_10 => ?_)
   ·
    replace c_10 := eq_of_beq c_10
    have hE1 : accE σ.l (mostN n) σ.floor σ.gone (gRead (L.getD j default).bs) = 0 := by omega
    have hT2 := hI1_4.yes hE1
    refine go 2 [] [59, 58, 9, 5, 44, 45, 46] hs .n ?_; clear hs w a; intro a w hs
    refine st_bs (cs := [(L.getD j default).v]) hs (.c .n) (.c rfl .n) Tryz.underlying43 (ie := Tryz.t37) rfl rfl rfl rfl (by decide) (by decide) rfl (by decide) (by simp only [List.all_cons, List.all_nil, ← Array.length_toList, (hs.rd0 (hLb (L.getD j default) (br_in (by omega)))).isSl.lcells]; rfl) (by simp only [List.flatMap_cons, List.flatMap_nil, List.append_nil, List.cons_append, List.nil_append, (hs.rd0 (hLb (L.getD j default) (br_in (by omega)))).isSl.lcells]) rfl ?_; clear hs w a; intro g11 a w hs
    refine st_app (size := 1) (bytes := 24) hs rfl rfl (.s (.s .z)) (rd_blk (m := 1) (size := 1) (hs.mem.del .z) rfl (by decide)) (ones_c (hLb (L.getD j default) (br_in (by omega))).isSl.one ones_n) Tryz.underlying43 (i := Tryz.t37) rfl rfl rfl rfl rfl (by decide) (by omega) (by simp only [maxLen]; omega) rfl ?_; clear hs w a; intro v12 a w hs
    replace hs := hs.drop (.c (.s .z) .n)
    replace hs := hs.rerow .z (m' := (K ++ [(L.getD j default)]).length) (xs' := ((K ++ [(L.getD j default)]).map BR.v)) (by rw [List.length_append]; rfl) (by rw [List.map_append]; rfl)
    refine goL 3 [] [64, 63, 7, 5, 44, 45, 46] hs .n ?_; clear hs w a; intro a w hs
    refine st_call hs (.c rfl (.c rfl .n)) Tryz.call27 (.c (.s .z) .n) (accept_st hX9 (fun i => Nat.le_trans ((accS_k hI1_5) i) (by omega)) _ (hs.mem.del (.s .z)) (hs.mem.rd1 (hLb (L.getD j default) (br_in (by omega))) (.c (.s .z) .n))) rfl ?_; clear hs w a; rintro _ _ a w ⟨rfl, X13, rfl, hX14⟩ hs; simp only [List.cons_append, List.nil_append] at hs
    refine goFL 11 7 [] [69, 7, 5, 44, 45, 46] hs .n ?_; clear hs w a; intro a w hs
    have hb_ : (!((((accE ((accS (mostN n) σ (gRead ((L.getD j default).bs)))).l (mostN n) ((accS (mostN n) σ (gRead ((L.getD j default).bs)))).floor ((accS (mostN n) σ (gRead ((L.getD j default).bs)))).gone (gRead ((L.getD j default).bs)) : Nat) : Int) : Int) == 12)) = false := by rw [hT2.1]; rfl
    rw [hb_] at hs; clear hb_
    refine go 3 [] [46, 7, 5, 44, 45] hs .n ⟨(by omega), ?_⟩; clear hs w a; intro a w hs
    refine ⟨_, ?_, j + 1, (K ++ [(L.getD j default)]), v12, X13, (accS (mostN n) ((accS (mostN n) σ (gRead ((L.getD j default).bs)))) (gRead ((L.getD j default).bs))), rfl, hs.sub (.c rfl (.c rfl (.c rfl (.c rfl (.c rfl .n))))), by omega, (by rw [List.length_append]; show _ + 1 ≤ _; omega), (fun x hx => by rcases List.mem_append.1 hx with hx | hx; exact hI1_2 x hx; rw [List.mem_singleton.1 hx]; exact br_in (by omega)), hX14, (by rw [List.map_append]; exact hT2.2), (fun i => Nat.le_trans (accS_k (accS_k hI1_5) i) (by omega))⟩
    omega
   replace c_10 := ne_of_beq_f c_10
   have hE1 : accE σ.l (mostN n) σ.floor σ.gone (gRead (L.getD j default).bs) ≠ 0 := by omega
   have hT2 := hI1_4.no hE1
   refine go 2 [] [46, 5, 7, 44, 45] hs .n ⟨(by omega), ?_⟩; clear hs w a; intro a w hs
   refine ⟨_, ?_, j + 1, K, q, X8, (accS (mostN n) σ (gRead ((L.getD j default).bs))), rfl, hs.sub (.c rfl (.c rfl (.c rfl (.c rfl (.c rfl .n))))), by omega, by omega, hI1_2, hX9, hT2, (fun i => Nat.le_trans (accS_k hI1_5 i) (by omega))⟩
   omega
  replace c_7 := of_decide_eq_false c_7
  refine go 1 [] [71, 5, 7] hs .n ?_; clear hs w a; intro a w hs
  refine st_callP (v := .int .i64 (((σ.n 0 : Nat) : Int))) hs (.c rfl .n) Tryz.call30 (taken_st hI1_3 _ (hs.mem.del .z)) rfl ?_; clear hs w a; intro a w hs
  refine goL 2 [] [73, 14, 5, 7] hs .n ?_; clear hs w a; intro a w hs
  refine st_len hs rfl (rd_row (hs.mem.del (.s .z))).isSl Tryz.underlying43 rfl ?_; clear hs w a; intro a w hs
  refine goL 1 [] [75, 74, 73, 14, 5, 7] hs .n ?_; clear hs w a; intro a w hs
  refine loopG (fun mm_ a w => ∃ i : Nat, ∃ X : HA, ∃ σ' : Stt, mm_ = K.length - i ∧ St 126 [(5, .pointer (some ⟨g1, 0, none⟩)), (7, q), (14, .int .i64 (((σ.n 0 : Nat) : Int))), (73, q), (74, .int .i64 (((K.length : Nat) : Int))), (75, .int .i64 (((i : Nat) : Int)))] w0 [] [X, row q 37 1 K.length (K.map BR.v)] a w ∧ i ≤ K.length ∧ Sto g1 (mostN n) σ' X ∧ Twice (mostN n) σ' (K.map BR.bs) ∧ (∀ i', σ'.n i' ≤ 120 + i)) ⟨0, X, σ, rfl, hs.sub (.c rfl (.c rfl (.c rfl (.c rfl (.c rfl (.c rfl .n)))))), by omega, hI1_3, hI1_4, (fun i => by have := hI1_5 i; omega)⟩ ?_
  clear hs w a; rintro mm_ a w ⟨i, X, σ', rfl, hs, hI2_0, hI2_1, hI2_2, hI2_3⟩
  refine go 1 [] [76, 5, 7, 14, 73, 74, 75] hs .n ?_; clear hs w a; intro a w hs
  refine ifG hs rfl (fun c_15 => ?_) (fun c_15 => ?_)
  ·
   replace c_15 := of_decide_eq_true c_15
   refine go 0 [] [5, 7, 14, 73, 74, 75] hs .n ?_; clear hs w a; intro a w hs
   refine st_ia1 (j := i) hs rfl rfl (rd_row (hs.mem.del (.s .z))) rfl (by omega) Tryz.underlying43 Tryz.sizeOf37 rfl ?_; clear hs w a; intro a w hs
   refine st_ld (u := (K.getD i default).v) hs rfl (rd_row (hs.mem.del (.s .z))) (brv_get (by omega)) Tryz.isAgg37 rfl ?_; clear hs w a; intro a w hs
   have ha := hI2_2.again (List.mem_map.2 ⟨_, br_in (by omega : i < K.length), rfl⟩)
   refine goL 2 [] [80, 16, 5, 7, 14, 73, 74, 75] hs .n ?_; clear hs w a; intro a w hs
   refine st_call hs (.c rfl .n) Tryz.call18 .n (gread_ok _ _ ((K.getD i default).bs) _ (hs.rd0 (hLb (K.getD i default) (hI1_2 _ (br_in (by omega)))))) rfl ?_; clear hs w a; rintro _ _ a w ⟨v16, rfl, rfl⟩ hs; simp only [List.cons_append, List.nil_append] at hs
   have hk17 := gRead_le ((K.getD i default).bs)
   refine goL 4 [] [17, 83, 82, 16, 5, 7, 14, 73, 74, 75] hs .n (fun g18 => ?_); clear hs w a; intro a w hs
   refine st_stBA hs rfl rfl .z (.z (.c (.c (.c (.c .n))))) (ones_c rfl (ones_c rfl (ones_c rfl (ones_c (rd_row (hs.mem.del (.s .z))).isSl.one ones_n)))) Tryz.sizeOf29 rfl ?_; clear hs w a; intro a w hs
   refine goL 4 [0] [87, 85, 18, 16, 5, 7, 14, 73, 74, 75] hs (.c .z .n) ⟨rfl, ?_⟩; clear hs w a; intro a w hs
   refine st_call hs (.c rfl (.c rfl .n)) Tryz.call33 .n (get_st hI2_1 ((gRead ((K.getD i default).bs)).t) _ (hs.mem.del (.s (.s .z)))) rfl ?_; clear hs w a; rintro _ _ a w ⟨v19, rfl, rfl⟩ hs; simp only [List.cons_append, List.nil_append] at hs
   refine goL 4 [] [19, 90, 89, 18, 16, 5, 7, 14, 73, 74, 75] hs .n (fun g20 => ?_); clear hs w a; intro a w hs
   refine st_stBA hs rfl rfl .z (.z (.c (.c (.c .n)))) (ones_c rfl (ones_c rfl (ones_c (rd_row (hs.mem.del (.s .z))).isSl.one ones_n))) Tryz.sizeOf24 rfl ?_; clear hs w a; intro a w hs
   refine goL 3 [] [93, 92, 20, 18, 5, 7, 14, 73, 74, 75] hs .n ?_; clear hs w a; intro a w hs
   refine st_call hs (.c rfl (.c rfl .n)) Tryz.call27 (.c (.s (.s (.s (.s .z)))) .n) (accept_st hI2_1 (fun i => Nat.le_trans (hI2_3 i) (by omega)) _ (hs.mem.del (.s (.s (.s (.s .z))))) (hs.mem.rd1 (hLb (K.getD i default) (hI1_2 _ (br_in (by omega)))) (.c (.s (.s (.s (.s .z)))) .n))) rfl ?_; clear hs w a; rintro _ _ a w ⟨rfl, X21, rfl, hX22⟩ hs; simp only [List.cons_append, List.nil_append] at hs
   refine goL 7 [] [98, 22, 20, 5, 7, 14, 73, 74, 75] hs .n ?_; clear hs w a; intro a w hs
   have hb_ : (!(((((gRead ((K.getD i default).bs)).e : Nat) : Int) : Int) == 0)) = false := by rw [ha.1]; rfl
   rw [hb_] at hs; clear hb_
   refine go 3 [] [101, 99, 22, 20, 5, 7, 14, 73, 74, 75] hs .n ?_; clear hs w a; intro a w hs
   refine st_part (b := khas σ'.l ((gRead ((K.getD i default).bs)).t)) (fun c_23 => ?_) (fun c_23 => ?_)
   ·
    rw [c_23] at hs
    refine go 2 [] [103, 101, 99, 22, 20, 5, 7, 14, 73, 74, 75] hs .n ?_; clear hs w a; intro a w hs
    have hb_ : (!((((accE σ'.l (mostN n) σ'.floor σ'.gone (gRead ((K.getD i default).bs)) : Nat) : Int) : Int) == 12)) = false := by rw [ha.2.1, if_pos (by assumption)]; rfl
    rw [hb_] at hs; clear hb_
    refine go 13 [] [75, 5, 7, 14, 73, 74] hs .n ⟨(by omega), ?_⟩; clear hs w a; intro a w hs
    replace hs := hs.drop (.c (.s (.s (.s (.s .z)))) (.c (.s (.s (.s .z))) (.c (.s (.s .z)) (.c (.s .z) .n))))
    refine ⟨_, ?_, i + 1, X21, (accS (mostN n) σ' (gRead ((K.getD i default).bs))), rfl, hs.sub (.c rfl (.c rfl (.c rfl (.c rfl (.c rfl (.c rfl .n)))))), by omega, hX22, ha.2.2, (fun i' => Nat.le_trans (accS_k hI2_3 i') (by omega))⟩
    omega
   rw [c_23] at hs
   refine go 10 [] [111, 109, 106, 5, 7, 14, 73, 74, 75] hs .n ?_; clear hs w a; intro a w hs
   have hb_ : (!((((accE σ'.l (mostN n) σ'.floor σ'.gone (gRead ((K.getD i default).bs)) : Nat) : Int) : Int) == 13)) = false := by rw [ha.2.1, if_neg (by simp_all)]; rfl
   rw [hb_] at hs; clear hb_
   refine go 5 [] [75, 5, 7, 14, 73, 74] hs .n ⟨(by omega), ?_⟩; clear hs w a; intro a w hs
   replace hs := hs.drop (.c (.s (.s (.s (.s .z)))) (.c (.s (.s (.s .z))) (.c (.s (.s .z)) (.c (.s .z) .n))))
   refine ⟨_, ?_, i + 1, X21, (accS (mostN n) σ' (gRead ((K.getD i default).bs))), rfl, hs.sub (.c rfl (.c rfl (.c rfl (.c rfl (.c rfl (.c rfl .n)))))), by omega, hX22, ha.2.2, (fun i' => Nat.le_trans (accS_k hI2_3 i') (by omega))⟩
   omega
  replace c_15 := of_decide_eq_false c_15
  refine go 1 [] [115, 5, 7, 14] hs .n ?_; clear hs w a; intro a w hs
  refine st_callP (v := .int .i64 (((σ'.n 0 : Nat) : Int))) hs (.c rfl .n) Tryz.call30 (taken_st hI2_1 _ (hs.mem.del .z)) rfl ?_; clear hs w a; intro a w hs
  refine goL 2 [] [118, 5, 7] hs .n ?_; clear hs w a; intro a w hs
  have hb_ : ((((σ'.n 0 : Nat) : Int) : Int) == (((σ.n 0 : Nat) : Int))) = true := by rw [hI2_2.num, hI1_4.num]; exact beq_self_eq_true _
  rw [hb_] at hs; clear hb_
  refine go 2 [] [120, 119, 7] hs .n ?_; clear hs w a; intro a w hs
  refine st_guardT hs rfl rfl rfl ?_
  refine st_callP (v := .int .i64 (((σ'.n 0 : Nat) : Int))) hs (.c rfl .n) Tryz.call30 (taken_st hI2_1 _ (hs.mem.del .z)) rfl ?_; clear hs w a; intro a w hs
  refine goL 1 [] [122, 121, 119] hs .n ?_; clear hs w a; intro a w hs
  refine st_guardT hs rfl rfl rfl ?_
  refine st_len hs rfl (rd_row (hs.mem.del (.s .z))).isSl Tryz.underlying43 rfl ?_; clear hs w a; intro a w hs
  refine goL 1 [] [124, 119] hs .n ?_; clear hs w a; intro a w hs
  have hb_ : ((((σ'.n 0 : Nat) : Int) : Int) == (((K.length : Nat) : Int))) = true := by rw [hI2_2.num, List.length_map]; exact beq_self_eq_true _
  rw [hb_] at hs; clear hb_
  refine go 2 [] [4] hs .n ?_; clear hs w a; intro a w hs
  replace hs := hs.drop (.c (.s .z) (.c .z .n))
  exact fin hs rfl rfl ⟨rfl, rfl⟩
end Go.Proofs.YtbioemaipghagaaGreat
