/- Walks of StoreOrder: what each function does, over the program of this seat. Printed by a program of this session. -/
import Derived.Test.YtbioemaipghagaaGreatQWstoA
import Derived.Test.YtbioemaipghagaaGreatQWstoB
import Derived.Test.YtbioemaipghagaaGreatQWdelm
import Derived.Test.YtbioemaipghagaaGreatQWdel
import Derived.Test.YtbioemaipghagaaGreatQSxBasB
namespace Go.Proofs.YtbioemaipghagaaGreat
open Go Go.Sx Go.RowKit
set_option linter.unusedVariables false
set_option linter.unusedSimpArgs false
set_option maxRecDepth 4000
set_option maxHeartbeats 1000000

theorem storeOrder_ok (n : Int) (u : Value) (L : List BR) (w0 : World) (hn : R64 n) (hu : Rd w0 [] u 1 L.length (L.map BR.v)) (hLb : ∀ x ∈ L, Rd w0 [] x.v 1 x.bs.length (bytesV x.bs)) : Calls Tryz.prog 4 #[.int .i64 n, u] w0 (RetV w0 (.bool true)) := by
  have hue := hu.le
  simp only [maxLen] at hue
  have hmr := mostN_rng n
  refine enterG (F0 := [(0, .int .i64 (n)), (1, u)]) Tryz.func4 rfl rfl rfl (.c (.c .n)) (Mem.nil _) fun a w hs => ?_
  refine go 2 [] [21, 0, 1] hs .n ?_; clear hs w a; intro a w hs
  refine st_callP (v := .int .i64 (((mostN n : Nat) : Int))) hs (.c rfl .n) Tryz.call22 (most12_ok n _ (by omega)) rfl ?_; clear hs w a; intro a w hs
  refine st_call hs (.c rfl .n) Tryz.call21 .n (new_st (mostN n) _ (mostN_rng n)) rfl ?_; clear hs w a; rintro _ _ a w ⟨g1, X2, rfl, rfl, hX3⟩ hs; simp only [List.cons_append, List.nil_append] at hs
  refine goL 5 [] [6, 5, 0, 1] hs .n ?_; clear hs w a; intro a w hs
  refine st_callP (v := .bool (true)) hs .n Tryz.call23 (alive12_ok _) rfl ?_; clear hs w a; intro a w hs
  refine goL 11 [] [37, 36, 5, 0, 1] hs .n ?_; clear hs w a; intro a w hs
  refine st_guardT hs rfl rfl rfl ?_
  refine st_call hs (.c rfl .n) Tryz.call24 .n (great12_ok _ L _ (hs.rd0 hu) (fun x hx => hs.rd0 (hLb x hx))) rfl ?_; clear hs w a; rintro _ _ a w ⟨b4, rfl, hg5, rfl⟩ hs; simp only [List.cons_append, List.nil_append] at hs
  refine goL 1 [] [39, 5, 0, 1] hs .n ?_; clear hs w a; intro a w hs
  refine ifG hs rfl (fun c_6 => ?_) (fun c_6 => ?_)
  ·
   refine go 0 [] [] hs .n ?_; clear hs w a; intro a w hs
   refine st_callP (v := .bool (true)) hs .n Tryz.call23 (alive12_ok _) rfl ?_; clear hs w a; intro a w hs
   refine goL 1 [] [4] hs .n ?_; clear hs w a; intro a w hs
   replace hs := hs.drop (.c .z .n)
   exact fin hs rfl rfl ⟨rfl, rfl⟩
  have hL60 := hg5 (by assumption)
  refine go 1 [] [41, 5, 0] hs .n ?_; clear hs w a; intro a w hs
  refine st_len hs rfl (hs.rd0 hu).isSl Tryz.underlying43 rfl ?_; clear hs w a; intro a w hs
  refine goL 1 [] [43, 42, 41, 5, 0] hs .n ?_; clear hs w a; intro a w hs
  refine loopG (fun mm_ a w => ∃ j : Nat, ∃ X : HA, ∃ σ : Stt, mm_ = L.length - j ∧ St 139 [(0, .int .i64 (n)), (5, .pointer (some ⟨g1, 0, none⟩)), (41, u), (42, .int .i64 (((L.length : Nat) : Int))), (43, .int .i64 (((j : Nat) : Int)))] w0 [] [X] a w ∧ j ≤ L.length ∧ Sto g1 (mostN n) σ X ∧ GoodS σ (mostN n) ∧ (∀ i, σ.n i ≤ j)) ⟨0, X2, stt0, rfl, hs.sub (.c rfl (.c rfl (.c rfl (.c rfl (.c rfl .n))))), by omega, hX3, (GoodS.start (mostN_rng n)), (fun _ => Nat.zero_le _)⟩ ?_
  clear hs w a; rintro mm_ a w ⟨j, X, σ, rfl, hs, hI1_0, hI1_1, hI1_2, hI1_3⟩
  refine go 1 [] [44, 0, 5, 41, 42, 43] hs .n ?_; clear hs w a; intro a w hs
  refine ifG hs rfl (fun c_7 => ?_) (fun c_7 => ?_)
  ·
   replace c_7 := of_decide_eq_true c_7
   refine go 0 [] [0, 5, 41, 42, 43] hs .n ?_; clear hs w a; intro a w hs
   refine st_ia1 (j := j) hs rfl rfl (hs.rd0 hu) rfl (by omega) Tryz.underlying43 Tryz.sizeOf37 rfl ?_; clear hs w a; intro a w hs
   refine st_ld (u := (L.getD j default).v) hs rfl (hs.rd0 hu) (brv_get (by omega)) Tryz.isAgg37 rfl ?_; clear hs w a; intro a w hs
   refine goL 3 [] [47, 9, 8, 0, 5, 41, 42, 43] hs .n ?_; clear hs w a; intro a w hs
   refine st_callP (v := .int .i64 (((σ.l.length : Nat) : Int))) hs (.c rfl .n) Tryz.call25 (len_st hI1_1 _ (hs.mem.del .z)) rfl ?_; clear hs w a; intro a w hs
   refine goL 1 [] [49, 48, 9, 8, 0, 5, 41, 42, 43] hs .n ?_; clear hs w a; intro a w hs
   replace hs := hs.addNil 24 3
   replace hs := hs.rerow .z (m' := ([] : List RI).length) (xs' := (([] : List RI).flatMap snV)) (rfl) (rfl)
   replace hs := hs.addRws 73
   replace hs := hs.reorder (.c (.s (.s .z)) (.c (.s .z) (.c .z .n)))
   refine loopG (fun mm_ a w => ∃ i : Nat, ∃ lw : List RI, ∃ q : Value, mm_ = σ.l.length - i ∧ St 139 [(0, .int .i64 (n)), (5, .pointer (some ⟨g1, 0, none⟩)), (8, (L.getD j default).v), (9, q), (41, u), (42, .int .i64 (((L.length : Nat) : Int))), (43, .int .i64 (((j : Nat) : Int))), (48, .int .i64 (((σ.l.length : Nat) : Int))), (49, .int .i64 (((i : Nat) : Int)))] w0 [] [X, row q 24 3 lw.length (lw.flatMap snV), rws 73 lw] a w ∧ i ≤ σ.l.length ∧ sns lw = σ.l.take i ∧ lw.length = i) ⟨0, [], .slice none 0 0, rfl, hs.sub (.c rfl (.c rfl (.c rfl (.c rfl (.c rfl (.c rfl (.c rfl (.c rfl (.c rfl .n))))))))), by omega, rfl, rfl⟩ ?_
   clear hs w a; rintro mm_ a w ⟨i, lw, q, rfl, hs, hI2_0, hI2_1, hI2_2⟩
   have hol := hI1_2.ok.le
   have hom := hI1_2.ok.m64
   refine go 1 [] [50, 0, 5, 8, 9, 41, 42, 43, 48, 49] hs .n ?_; clear hs w a; intro a w hs
   refine ifG hs rfl (fun c_8 => ?_) (fun c_8 => ?_)
   ·
    replace c_8 := of_decide_eq_true c_8
    refine go 4 [] [54, 53, 0, 5, 8, 9, 41, 42, 43, 48, 49] hs .n ?_; clear hs w a; intro a w hs
    refine st_call hs (.c rfl (.c rfl .n)) Tryz.call26 .n (at_st hI1_1 (((i : Nat) : Int)) _ (hs.mem.del .z)) rfl ?_; clear hs w a; rintro _ _ a w ⟨v9, rfl, rfl⟩ hs; simp only [List.cons_append, List.nil_append] at hs
    have hk10 := sat_rng (l := σ.l) hI1_2.ok (((i : Nat) : Int))
    have hA := hI1_2.at_ (i := i) (by omega)
    refine goL 4 [] [11, 57, 56, 0, 5, 8, 9, 41, 42, 43, 48, 49] hs .n (fun g11 => ?_); clear hs w a; intro a w hs
    refine st_stBA hs rfl rfl .z (.z (.c (.c (.c .n)))) (ones_c rfl (ones_c rfl (ones_c (rd_row (hs.mem.del (.s .z))).isSl.one ones_n))) Tryz.sizeOf24 rfl ?_; clear hs w a; intro a w hs
    refine goL 4 [0] [60, 58, 0, 5, 8, 41, 42, 43, 48, 49] hs (.c .z .n) ⟨rfl, fun g12 => ?_⟩; clear hs w a; intro a w hs
    refine st_app (size := 3) (bytes := 40) hs rfl rfl (.s (.s (.s (.s .z)))) (rd_blk (m := 1) (size := 3) (hs.mem.del .z) rfl (by decide)) (ones_c rfl (ones_c rfl (ones_c (rd_row (hs.mem.del (.s (.s .z)))).isSl.one ones_n))) Tryz.underlying49 (i := Tryz.t24) rfl rfl rfl rfl rfl (by decide) (by omega) (by simp only [maxLen]; omega) rfl ?_; clear hs w a; intro v13 a w hs
    replace hs := hs.drop (.c (.s .z) .n)
    replace hs := hs.rerow .z (m' := (lw ++ [(⟨(sat σ.l i).t, (sat σ.l i).tm, (sat σ.l i).l, v9⟩ : RI)]).length) (xs' := ((lw ++ [(⟨(sat σ.l i).t, (sat σ.l i).tm, (sat σ.l i).l, v9⟩ : RI)]).flatMap snV)) (by rw [List.length_append]; rfl) (by rw [List.flatMap_append]; rfl)
    replace hs := hs.rwsSnoc (x := (⟨(sat σ.l i).t, (sat σ.l i).tm, (sat σ.l i).l, v9⟩ : RI)) (.c (.s (.s (.s (.s .z)))) (.c (.s (.s .z)) .n))
    refine goL 3 [] [49, 9, 0, 5, 8, 41, 42, 43, 48] hs .n ⟨(by omega), ?_⟩; clear hs w a; intro a w hs
    replace hs := hs.drop (.c (.s (.s .z)) .n)
    replace hs := hs.reorder (.c (.s (.s .z)) (.c (.s .z) (.c .z .n)))
    refine ⟨_, ?_, i + 1, (lw ++ [(⟨(sat σ.l i).t, (sat σ.l i).tm, (sat σ.l i).l, v9⟩ : RI)]), v13, rfl, hs.sub (.c rfl (.c rfl (.c rfl (.c rfl (.c rfl (.c rfl (.c rfl (.c rfl (.c rfl .n))))))))), by omega, (sns_snoc hI2_1 (by omega) hA.2.1), (by rw [List.length_append]; show _ + 1 = _; omega)⟩
    omega
   replace c_8 := of_decide_eq_false c_8
   have hlw : sns lw = σ.l := by rw [hI2_1]; exact List.take_of_length_le (by omega)
   refine go 2 [] [65, 64, 0, 5, 9, 41, 42, 43] hs .n ?_; clear hs w a; intro a w hs
   refine st_call hs (.c rfl (.c rfl .n)) Tryz.call27 (.c .z .n) (accept_st hI1_1 (fun i => by have := hI1_3 i; omega) _ (hs.mem.del .z) (hs.mem.rd1 (hLb (L.getD j default) (br_in (by omega))) (.c .z .n))) rfl ?_; clear hs w a; rintro _ _ a w ⟨rfl, X14, rfl, hX15⟩ hs; simp only [List.cons_append, List.nil_append] at hs
   have hG := hI1_2.acc (bs := (L.getD j default).bs)
   have hok := hG.ok.le
   refine goFL 9 5 [] [14, 0, 5, 9, 41, 42, 43] hs .n ?_; clear hs w a; intro a w hs
   refine rejG (fun a w => St 139 [(0, .int .i64 (n)), (5, .pointer (some ⟨g1, 0, none⟩)), (9, q), (14, .int .i64 (((accE σ.l (mostN n) σ.floor σ.gone (gRead ((L.getD j default).bs)) : Nat) : Int))), (41, u), (42, .int .i64 (((L.length : Nat) : Int))), (43, .int .i64 (((j : Nat) : Int))), (84, .bool (false))] w0 [] [X14, row q 24 3 lw.length (lw.flatMap snV), rws 73 lw] a w ∧ (True)) ?_ ?_
   ·
    clear hs w a; rintro a w ⟨hs, hfact_⟩
    refine go 2 [] [85, 0, 5, 9, 14, 41, 42, 43] hs .n ?_; clear hs w a; intro a w hs
    refine st_callP (v := .int .i64 (((((accS (mostN n) σ (gRead ((L.getD j default).bs)))).l.length : Nat) : Int))) hs (.c rfl .n) Tryz.call25 (len_st hX15 _ (hs.mem.del .z)) rfl ?_; clear hs w a; intro a w hs
    refine goL 1 [] [87, 86, 0, 5, 9, 14, 41, 42, 43] hs .n ?_; clear hs w a; intro a w hs
    refine loopG (fun mm_ a w => ∃ k : Nat, mm_ = (accS (mostN n) σ (gRead (L.getD j default).bs)).l.length - k ∧ St 139 [(0, .int .i64 (n)), (5, .pointer (some ⟨g1, 0, none⟩)), (9, q), (14, .int .i64 (((accE σ.l (mostN n) σ.floor σ.gone (gRead ((L.getD j default).bs)) : Nat) : Int))), (41, u), (42, .int .i64 (((L.length : Nat) : Int))), (43, .int .i64 (((j : Nat) : Int))), (86, .int .i64 (((((accS (mostN n) σ (gRead ((L.getD j default).bs)))).l.length : Nat) : Int))), (87, .int .i64 (((k : Nat) : Int)))] w0 [] [X14, row q 24 3 lw.length (lw.flatMap snV), rws 73 lw] a w ∧ k ≤ (accS (mostN n) σ (gRead (L.getD j default).bs)).l.length) ⟨0, rfl, hs.sub (.c rfl (.c rfl (.c rfl (.c rfl (.c rfl (.c rfl (.c rfl (.c rfl (.c rfl .n))))))))), by omega⟩ ?_
    clear hs w a; rintro mm_ a w ⟨k, rfl, hs, hI3_0⟩
    refine go 1 [] [88, 0, 5, 9, 14, 41, 42, 43, 86, 87] hs .n ?_; clear hs w a; intro a w hs
    refine ifG hs rfl (fun c_17 => ?_) (fun c_17 => ?_)
    ·
     replace c_17 := of_decide_eq_true c_17
     refine go 4 [] [92, 91, 15, 0, 5, 9, 14, 41, 42, 43, 86, 87] hs .n ?_; clear hs w a; intro a w hs
     refine st_call hs (.c rfl (.c rfl .n)) Tryz.call26 .n (at_st hX15 (((k : Nat) : Int)) _ (hs.mem.del .z)) rfl ?_; clear hs w a; rintro _ _ a w ⟨v18, rfl, rfl⟩ hs; simp only [List.cons_append, List.nil_append] at hs
     have hk19 := sat_rng (l := ((accS (mostN n) σ (gRead ((L.getD j default).bs)))).l) hG.ok (((k : Nat) : Int))
     have hA := hG.at_ (i := k) (by omega)
     refine goL 4 [] [16, 95, 94, 15, 0, 5, 9, 14, 41, 42, 43, 86, 87] hs .n (fun g20 => ?_); clear hs w a; intro a w hs
     refine st_stBA hs rfl rfl .z (.z (.c (.c (.c .n)))) (ones_c rfl (ones_c rfl (ones_c (rd_row (hs.mem.del (.s .z))).isSl.one ones_n))) Tryz.sizeOf24 rfl ?_; clear hs w a; intro a w hs
     refine goL 1 [] [17, 16, 15, 0, 5, 9, 14, 41, 42, 43, 86, 87] hs .n ?_; clear hs w a; intro a w hs
     by_cases cf : accE σ.l (mostN n) σ.floor σ.gone (gRead (L.getD j default).bs) = 0
     ·
      replace hs := hs.sub (F' := [(17, .int .i64 (((ratE ((accS (mostN n) σ (gRead ((L.getD j default).bs)))).l (((k : Nat) : Int)) : Nat) : Int))), (16, .pointer (some ⟨g20, 0, none⟩)), (15, .int .i64 (((k : Nat) : Int))), (0, .int .i64 (n)), (5, .pointer (some ⟨g1, 0, none⟩)), (9, q), (14, .int .i64 (((accE σ.l (mostN n) σ.floor σ.gone (gRead ((L.getD j default).bs)) : Nat) : Int))), (41, u), (42, .int .i64 (((L.length : Nat) : Int))), (43, .int .i64 (((j : Nat) : Int))), (86, .int .i64 (((((accS (mostN n) σ (gRead ((L.getD j default).bs)))).l.length : Nat) : Int))), (87, .int .i64 (((k : Nat) : Int)))]) (.c rfl (.c rfl (.c rfl (.c rfl (.c rfl (.c rfl (.c rfl (.c rfl (.c rfl (.c rfl (.c rfl (.c rfl .n))))))))))))
      refine wp_drawN [.p [] [], .v [0] (.bool (false)), .p [1] [], .p [2] [0], .v [3, 2] (.int .i64 (((snapErr ((sat ((accS (mostN n) σ (gRead ((L.getD j default).bs)))).l (((k : Nat) : Int))).t) ((sat ((accS (mostN n) σ (gRead ((L.getD j default).bs)))).l (((k : Nat) : Int))).tm) ((sat ((accS (mostN n) σ (gRead ((L.getD j default).bs)))).l (((k : Nat) : Int))).l) : Nat) : Int))), .v [4, 2] (.bool (false)), .p [5, 2] [], .p [6] [], .p [7] [], .v [8, 7] (.bool (false)), .p [9, 7] [], .p [10] [], .p [10] [], .p [10] [], .p [13, 12, 10] [], .p [14, 10] [], .p [15, 11, 10] [], .v [16, 10] undef, .p [17, 10, 7] [], .p [18, 7] []] [19] hs (.c .z .n) (by kernel_rfl) ⟨?_, rfl, ?_, ?_, ?_, ?_, ⟨rfl, by kernel_rfl, fun _ => rfl, trivial⟩, ?_⟩
      ·
       intro a_ w_ R_ Q_ hm hs K_
       refine st_neq hs rfl rfl rfl ?_; clear hs; intro a w hs
       have hb_ : (!((((ratE ((accS (mostN n) σ (gRead ((L.getD j default).bs)))).l (((k : Nat) : Int)) : Nat) : Int) : Int) == 0)) = false := by rw [hA.1]; rfl
       rw [hb_] at hs; clear hb_
       exact wpList_nil (K_ _ _ hs)
      ·
       intro a_ w_ R_ Q_ hm hs K_
       have hm0 := hm
       refine st_guardT hs rfl rfl rfl ?_
       refine st_callP (v := .int .i64 (((snapErr ((sat ((accS (mostN n) σ (gRead ((L.getD j default).bs)))).l (((k : Nat) : Int))).t) ((sat ((accS (mostN n) σ (gRead ((L.getD j default).bs)))).l (((k : Nat) : Int))).tm) ((sat ((accS (mostN n) σ (gRead ((L.getD j default).bs)))).l (((k : Nat) : Int))).l) : Nat) : Int))) hs (.c rfl .n) Tryz.call16 (scheck_ok ((sat ((accS (mostN n) σ (gRead ((L.getD j default).bs)))).l (((k : Nat) : Int))).t) ((sat ((accS (mostN n) σ (gRead ((L.getD j default).bs)))).l (((k : Nat) : Int))).tm) _ ((sat ((accS (mostN n) σ (gRead ((L.getD j default).bs)))).l (((k : Nat) : Int))).l) _ (by omega) (by omega) (rd_row (hm0.del (.s .z)))) rfl ?_; clear hs; intro a w hs
       exact wpList_nil (K_ _ _ hs)
      ·
       intro a_ w_ R_ Q_ hm hs K_
       refine st_guardT hs rfl rfl rfl ?_
       refine st_neq hs rfl rfl rfl ?_; clear hs; intro a w hs
       have hb_ : (!((((snapErr ((sat ((accS (mostN n) σ (gRead ((L.getD j default).bs)))).l (((k : Nat) : Int))).t) ((sat ((accS (mostN n) σ (gRead ((L.getD j default).bs)))).l (((k : Nat) : Int))).tm) ((sat ((accS (mostN n) σ (gRead ((L.getD j default).bs)))).l (((k : Nat) : Int))).l) : Nat) : Int) : Int) == 0)) = false := by rw [hA.2.1, hA.2.2.1]; rfl
       rw [hb_] at hs; clear hb_
       exact wpList_nil (K_ _ _ hs)
      ·
       intro a_ w_ R_ Q_ hm hs K_
       refine st_guardT hs rfl rfl rfl ?_
       refine st_neq hs rfl rfl rfl ?_; clear hs; intro a w hs
       have hb_ : (!((((accE σ.l (mostN n) σ.floor σ.gone (gRead ((L.getD j default).bs)) : Nat) : Int) : Int) == 0)) = false := by rw [cf]; rfl
       rw [hb_] at hs; clear hb_
       exact wpList_nil (K_ _ _ hs)
      ·
       intro a_ w_ R_ Q_ hm hs K_
       refine st_guardF hs rfl rfl rfl rfl rfl ?_; clear hs; intro a w hs
       exact wpList_nil (K_ _ _ hs)
      clear hs w a; intro a w hs
      refine goE 3 [] [117, 16, 15, 0, 5, 9, 14, 41, 42, 43, 86, 87] hs .n ?_; clear hs w a; intro a w hs
      refine ifG hs rfl (fun c_22 => ?_) (fun c_22 => ?_)
      ·
       replace c_22 := of_decide_eq_true c_22
       refine go 3 [] [121, 119, 16, 0, 5, 9, 14, 41, 42, 43, 86, 87] hs .n ⟨(by omega), ?_⟩; clear hs w a; intro a w hs
       have hv_ : ((((k : Nat) : Int)) - 1 : Int) = (((k - 1 : Nat) : Int) : Int) := by omega
       rw [hv_] at hs; clear hv_
       refine st_call hs (.c rfl (.c rfl .n)) Tryz.call26 .n (at_st hX15 (((k - 1 : Nat) : Int)) _ (hs.mem.del (.s (.s .z)))) rfl ?_; clear hs w a; rintro _ _ a w ⟨v23, rfl, rfl⟩ hs; simp only [List.cons_append, List.nil_append] at hs
       have hk24 := sat_rng (l := ((accS (mostN n) σ (gRead ((L.getD j default).bs)))).l) hG.ok (((k - 1 : Nat) : Int))
       have hB := hG.at_ (i := k - 1) (by omega)
       refine goL 4 [] [18, 124, 123, 16, 0, 5, 9, 14, 41, 42, 43, 86, 87] hs .n (fun g25 => ?_); clear hs w a; intro a w hs
       refine st_stBA hs rfl rfl .z (.z (.c (.c (.c .n)))) (ones_c rfl (ones_c rfl (ones_c (rd_row (hs.mem.del (.s .z))).isSl.one ones_n))) Tryz.sizeOf24 rfl ?_; clear hs w a; intro a w hs
       refine goL 6 [0, 1] [129, 18, 16, 0, 5, 9, 14, 41, 42, 43, 86, 87] hs (.c .z (.c (.s .z) .n)) ⟨rfl, rfl, ?_⟩; clear hs w a; intro a w hs
       have hb_ : (decide (((sat ((accS (mostN n) σ (gRead ((L.getD j default).bs)))).l (((k : Nat) : Int))).t) ≤ ((sat ((accS (mostN n) σ (gRead ((L.getD j default).bs)))).l (((k - 1 : Nat) : Int))).t))) = false := decide_eq_false (by rw [hA.2.1, hB.2.1]; have := (hA.2.2.2 (by omega)).1; omega)
       rw [hb_] at hs; clear hb_
       refine go 6 [0, 1] [135, 130, 0, 5, 9, 14, 41, 42, 43, 86, 87] hs (.c .z (.c .z .n)) ⟨rfl, rfl, ?_⟩; clear hs w a; intro a w hs
       have hb_ : (decide (((sat ((accS (mostN n) σ (gRead ((L.getD j default).bs)))).l (((k : Nat) : Int))).tm) ≤ ((sat ((accS (mostN n) σ (gRead ((L.getD j default).bs)))).l (((k - 1 : Nat) : Int))).tm))) = false := decide_eq_false (by rw [hA.2.1, hB.2.1]; have := (hA.2.2.2 (by omega)).2; omega)
       rw [hb_] at hs; clear hb_
       refine go 4 [] [87, 0, 5, 9, 14, 41, 42, 43, 86] hs .n ⟨(by omega), ?_⟩; clear hs w a; intro a w hs
       replace hs := hs.drop (.c (.s (.s (.s .z))) (.c (.s (.s .z)) (.c (.s .z) (.c .z .n))))
       refine ⟨_, ?_, k + 1, rfl, hs.sub (.c rfl (.c rfl (.c rfl (.c rfl (.c rfl (.c rfl (.c rfl (.c rfl (.c rfl .n))))))))), by omega⟩
       omega
      replace c_22 := of_decide_eq_false c_22
      refine go 2 [] [87, 0, 5, 9, 14, 41, 42, 43, 86] hs .n ⟨(by omega), ?_⟩; clear hs w a; intro a w hs
      replace hs := hs.drop (.c (.s .z) (.c .z .n))
      refine ⟨_, ?_, k + 1, rfl, hs.sub (.c rfl (.c rfl (.c rfl (.c rfl (.c rfl (.c rfl (.c rfl (.c rfl (.c rfl .n))))))))), by omega⟩
      omega
     have hS := order_same (k := k) cf hlw (by omega)
     have hS1 := hS.1
     replace hs := hs.sub (F' := [(17, .int .i64 (((ratE ((accS (mostN n) σ (gRead ((L.getD j default).bs)))).l (((k : Nat) : Int)) : Nat) : Int))), (16, .pointer (some ⟨g20, 0, none⟩)), (15, .int .i64 (((k : Nat) : Int))), (0, .int .i64 (n)), (5, .pointer (some ⟨g1, 0, none⟩)), (9, q), (14, .int .i64 (((accE σ.l (mostN n) σ.floor σ.gone (gRead ((L.getD j default).bs)) : Nat) : Int))), (41, u), (42, .int .i64 (((L.length : Nat) : Int))), (43, .int .i64 (((j : Nat) : Int))), (86, .int .i64 (((((accS (mostN n) σ (gRead ((L.getD j default).bs)))).l.length : Nat) : Int))), (87, .int .i64 (((k : Nat) : Int)))]) (.c rfl (.c rfl (.c rfl (.c rfl (.c rfl (.c rfl (.c rfl (.c rfl (.c rfl (.c rfl (.c rfl (.c rfl .n))))))))))))
     refine wp_drawN [.p [] [], .v [0] (.bool (false)), .p [1] [], .p [2] [0], .v [3, 2] (.int .i64 (((snapErr ((sat ((accS (mostN n) σ (gRead ((L.getD j default).bs)))).l (((k : Nat) : Int))).t) ((sat ((accS (mostN n) σ (gRead ((L.getD j default).bs)))).l (((k : Nat) : Int))).tm) ((sat ((accS (mostN n) σ (gRead ((L.getD j default).bs)))).l (((k : Nat) : Int))).l) : Nat) : Int))), .v [4, 2] (.bool (false)), .p [5, 2] [], .p [6] [], .p [7] [], .v [8, 7] (.bool (true)), .p [9, 7] [], .p [10] [0], .p [10] [], .p [10] [], .v [13, 12, 10] (.pointer (some (adr q (k * 3)))), .v [14, 10] (.agg #[.int .i64 ((lw.getD k default).t), .int .i64 ((lw.getD k default).tm), (lw.getD k default).v]), .v [15, 11, 10] (.bool (sSame ((sat ((accS (mostN n) σ (gRead ((L.getD j default).bs)))).l (((k : Nat) : Int))).t) ((sat ((accS (mostN n) σ (gRead ((L.getD j default).bs)))).l (((k : Nat) : Int))).tm) ((sat ((accS (mostN n) σ (gRead ((L.getD j default).bs)))).l (((k : Nat) : Int))).l) ((lw.getD k default).t) ((lw.getD k default).tm) ((lw.getD k default).l))), .v [16, 10] (.bool (false)), .p [17, 10, 7] [], .p [18, 7] []] [19] hs (.c .z .n) (by kernel_rfl) ⟨?_, rfl, ?_, ?_, ?_, rfl, ?_, ?_, ?_, ?_, ⟨rfl, by kernel_rfl, fun _ => rfl, trivial⟩, ?_⟩
     ·
      intro a_ w_ R_ Q_ hm hs K_
      refine st_neq hs rfl rfl rfl ?_; clear hs; intro a w hs
      have hb_ : (!((((ratE ((accS (mostN n) σ (gRead ((L.getD j default).bs)))).l (((k : Nat) : Int)) : Nat) : Int) : Int) == 0)) = false := by rw [hA.1]; rfl
      rw [hb_] at hs; clear hb_
      exact wpList_nil (K_ _ _ hs)
     ·
      intro a_ w_ R_ Q_ hm hs K_
      have hm0 := hm
      refine st_guardT hs rfl rfl rfl ?_
      refine st_callP (v := .int .i64 (((snapErr ((sat ((accS (mostN n) σ (gRead ((L.getD j default).bs)))).l (((k : Nat) : Int))).t) ((sat ((accS (mostN n) σ (gRead ((L.getD j default).bs)))).l (((k : Nat) : Int))).tm) ((sat ((accS (mostN n) σ (gRead ((L.getD j default).bs)))).l (((k : Nat) : Int))).l) : Nat) : Int))) hs (.c rfl .n) Tryz.call16 (scheck_ok ((sat ((accS (mostN n) σ (gRead ((L.getD j default).bs)))).l (((k : Nat) : Int))).t) ((sat ((accS (mostN n) σ (gRead ((L.getD j default).bs)))).l (((k : Nat) : Int))).tm) _ ((sat ((accS (mostN n) σ (gRead ((L.getD j default).bs)))).l (((k : Nat) : Int))).l) _ (by omega) (by omega) (rd_row (hm0.del (.s .z)))) rfl ?_; clear hs; intro a w hs
      exact wpList_nil (K_ _ _ hs)
     ·
      intro a_ w_ R_ Q_ hm hs K_
      refine st_guardT hs rfl rfl rfl ?_
      refine st_neq hs rfl rfl rfl ?_; clear hs; intro a w hs
      have hb_ : (!((((snapErr ((sat ((accS (mostN n) σ (gRead ((L.getD j default).bs)))).l (((k : Nat) : Int))).t) ((sat ((accS (mostN n) σ (gRead ((L.getD j default).bs)))).l (((k : Nat) : Int))).tm) ((sat ((accS (mostN n) σ (gRead ((L.getD j default).bs)))).l (((k : Nat) : Int))).l) : Nat) : Int) : Int) == 0)) = false := by rw [hA.2.1, hA.2.2.1]; rfl
      rw [hb_] at hs; clear hb_
      exact wpList_nil (K_ _ _ hs)
     ·
      intro a_ w_ R_ Q_ hm hs K_
      refine st_guardT hs rfl rfl rfl ?_
      refine st_neq hs rfl rfl rfl ?_; clear hs; intro a w hs
      have hb_ : (!((((accE σ.l (mostN n) σ.floor σ.gone (gRead ((L.getD j default).bs)) : Nat) : Int) : Int) == 0)) = true := by rw [Bool.not_eq_true', beq_eq_false_iff_ne]; omega
      rw [hb_] at hs; clear hb_
      exact wpList_nil (K_ _ _ hs)
     ·
      intro a_ w_ R_ Q_ hm hs K_
      have hm0 := hm
      refine st_guardT hs rfl rfl rfl ?_
      refine st_ia (j := k) hs rfl rfl (rd_row (hm0.del (.s (.s (.s .z))))) rfl (by omega) Tryz.underlying49 Tryz.sizeOf24 rfl ?_; clear hs; intro a w hs
      exact wpList_nil (K_ _ _ hs)
     ·
      intro a_ w_ R_ Q_ hm hs K_
      have hm0 := hm
      refine st_guardT hs rfl rfl rfl ?_
      refine st_ldA (cs := snV (lw.getD k default)) hs rfl (rd_row (hm0.del (.s (.s (.s .z))))) (flat_get snV_len lw k (by omega)) (by rw [flat_len snV_len]; omega) (by omega) Tryz.isAgg24 Tryz.sizeOf24 rfl ?_; clear hs; intro a w hs
      exact wpList_nil (K_ _ _ hs)
     ·
      intro a_ w_ R_ Q_ hm hs K_
      have hm0 := hm
      refine st_guardT hs rfl rfl rfl ?_
      refine st_callP (v := .bool (sSame ((sat ((accS (mostN n) σ (gRead ((L.getD j default).bs)))).l (((k : Nat) : Int))).t) ((sat ((accS (mostN n) σ (gRead ((L.getD j default).bs)))).l (((k : Nat) : Int))).tm) ((sat ((accS (mostN n) σ (gRead ((L.getD j default).bs)))).l (((k : Nat) : Int))).l) ((lw.getD k default).t) ((lw.getD k default).tm) ((lw.getD k default).l))) hs (.c rfl (.c rfl .n)) Tryz.call15 (ssame_ok ((sat ((accS (mostN n) σ (gRead ((L.getD j default).bs)))).l (((k : Nat) : Int))).t) ((sat ((accS (mostN n) σ (gRead ((L.getD j default).bs)))).l (((k : Nat) : Int))).tm) _ ((sat ((accS (mostN n) σ (gRead ((L.getD j default).bs)))).l (((k : Nat) : Int))).l) ((lw.getD k default).t) ((lw.getD k default).tm) _ ((lw.getD k default).l) _ (rd_row (hm0.del (.s .z))) (rws_rd (hm0.del (.s (.s (.s (.s .z))))) (.inl (ri_in (by omega))))) rfl ?_; clear hs; intro a w hs
      exact wpList_nil (K_ _ _ hs)
     ·
      intro a_ w_ R_ Q_ hm hs K_
      refine st_guardT hs rfl rfl rfl ?_
      refine st_not hs rfl rfl ?_; clear hs; intro a w hs
      have hb_ : (!(sSame ((sat ((accS (mostN n) σ (gRead ((L.getD j default).bs)))).l (((k : Nat) : Int))).t) ((sat ((accS (mostN n) σ (gRead ((L.getD j default).bs)))).l (((k : Nat) : Int))).tm) ((sat ((accS (mostN n) σ (gRead ((L.getD j default).bs)))).l (((k : Nat) : Int))).l) ((lw.getD k default).t) ((lw.getD k default).tm) ((lw.getD k default).l))) = false := by rw [hS.2]; rfl
      rw [hb_] at hs; clear hb_
      exact wpList_nil (K_ _ _ hs)
     clear hs w a; intro a w hs
     refine goE 3 [] [117, 16, 15, 0, 5, 9, 14, 41, 42, 43, 86, 87] hs .n ?_; clear hs w a; intro a w hs
     refine ifG hs rfl (fun c_27 => ?_) (fun c_27 => ?_)
     ·
      replace c_27 := of_decide_eq_true c_27
      refine go 3 [] [121, 119, 16, 0, 5, 9, 14, 41, 42, 43, 86, 87] hs .n ⟨(by omega), ?_⟩; clear hs w a; intro a w hs
      have hv_ : ((((k : Nat) : Int)) - 1 : Int) = (((k - 1 : Nat) : Int) : Int) := by omega
      rw [hv_] at hs; clear hv_
      refine st_call hs (.c rfl (.c rfl .n)) Tryz.call26 .n (at_st hX15 (((k - 1 : Nat) : Int)) _ (hs.mem.del (.s (.s .z)))) rfl ?_; clear hs w a; rintro _ _ a w ⟨v28, rfl, rfl⟩ hs; simp only [List.cons_append, List.nil_append] at hs
      have hk29 := sat_rng (l := ((accS (mostN n) σ (gRead ((L.getD j default).bs)))).l) hG.ok (((k - 1 : Nat) : Int))
      have hB := hG.at_ (i := k - 1) (by omega)
      refine goL 4 [] [18, 124, 123, 16, 0, 5, 9, 14, 41, 42, 43, 86, 87] hs .n (fun g30 => ?_); clear hs w a; intro a w hs
      refine st_stBA hs rfl rfl .z (.z (.c (.c (.c .n)))) (ones_c rfl (ones_c rfl (ones_c (rd_row (hs.mem.del (.s .z))).isSl.one ones_n))) Tryz.sizeOf24 rfl ?_; clear hs w a; intro a w hs
      refine goL 6 [0, 1] [129, 18, 16, 0, 5, 9, 14, 41, 42, 43, 86, 87] hs (.c .z (.c (.s .z) .n)) ⟨rfl, rfl, ?_⟩; clear hs w a; intro a w hs
      have hb_ : (decide (((sat ((accS (mostN n) σ (gRead ((L.getD j default).bs)))).l (((k : Nat) : Int))).t) ≤ ((sat ((accS (mostN n) σ (gRead ((L.getD j default).bs)))).l (((k - 1 : Nat) : Int))).t))) = false := decide_eq_false (by rw [hA.2.1, hB.2.1]; have := (hA.2.2.2 (by omega)).1; omega)
      rw [hb_] at hs; clear hb_
      refine go 6 [0, 1] [135, 130, 0, 5, 9, 14, 41, 42, 43, 86, 87] hs (.c .z (.c .z .n)) ⟨rfl, rfl, ?_⟩; clear hs w a; intro a w hs
      have hb_ : (decide (((sat ((accS (mostN n) σ (gRead ((L.getD j default).bs)))).l (((k : Nat) : Int))).tm) ≤ ((sat ((accS (mostN n) σ (gRead ((L.getD j default).bs)))).l (((k - 1 : Nat) : Int))).tm))) = false := decide_eq_false (by rw [hA.2.1, hB.2.1]; have := (hA.2.2.2 (by omega)).2; omega)
      rw [hb_] at hs; clear hb_
      refine go 4 [] [87, 0, 5, 9, 14, 41, 42, 43, 86] hs .n ⟨(by omega), ?_⟩; clear hs w a; intro a w hs
      replace hs := hs.drop (.c (.s (.s (.s .z))) (.c (.s (.s .z)) (.c (.s .z) (.c .z .n))))
      refine ⟨_, ?_, k + 1, rfl, hs.sub (.c rfl (.c rfl (.c rfl (.c rfl (.c rfl (.c rfl (.c rfl (.c rfl (.c rfl .n))))))))), by omega⟩
      omega
     replace c_27 := of_decide_eq_false c_27
     refine go 2 [] [87, 0, 5, 9, 14, 41, 42, 43, 86] hs .n ⟨(by omega), ?_⟩; clear hs w a; intro a w hs
     replace hs := hs.drop (.c (.s .z) (.c .z .n))
     refine ⟨_, ?_, k + 1, rfl, hs.sub (.c rfl (.c rfl (.c rfl (.c rfl (.c rfl (.c rfl (.c rfl (.c rfl (.c rfl .n))))))))), by omega⟩
     omega
    replace c_17 := of_decide_eq_false c_17
    refine go 2 [] [43, 0, 5, 41, 42] hs .n ⟨(by omega), ?_⟩; clear hs w a; intro a w hs
    replace hs := hs.drop (.c (.s (.s .z)) (.c (.s .z) .n))
    refine ⟨_, ?_, j + 1, X14, (accS (mostN n) σ (gRead ((L.getD j default).bs))), rfl, hs.sub (.c rfl (.c rfl (.c rfl (.c rfl (.c rfl .n))))), by omega, hX15, hI1_2.acc, (accS_k hI1_3)⟩
    omega
   refine go 3 [] [71, 14, 0, 5, 9, 41, 42, 43] hs .n ?_; clear hs w a; intro a w hs
   refine st_part (b := !((((accE σ.l (mostN n) σ.floor σ.gone (gRead ((L.getD j default).bs)) : Nat) : Int) : Int) == 0)) (fun c_31 => ?_) (fun c_31 => ?_)
   ·
    rw [c_31] at hs
    replace c_31 := not_t c_31
    replace c_31 := ne_of_beq_f c_31
    refine go 1 [] [72, 71, 14, 0, 5, 9, 41, 42, 43] hs .n ?_; clear hs w a; intro a w hs
    refine st_guardT hs rfl rfl rfl ?_
    refine st_callP (v := .int .i64 (((((accS (mostN n) σ (gRead ((L.getD j default).bs)))).l.length : Nat) : Int))) hs (.c rfl .n) Tryz.call25 (len_st hX15 _ (hs.mem.del .z)) rfl ?_; clear hs w a; intro a w hs
    refine goL 1 [] [74, 73, 71, 14, 0, 5, 9, 41, 42, 43] hs .n ?_; clear hs w a; intro a w hs
    refine st_guardT hs rfl rfl rfl ?_
    refine st_len hs rfl (rd_row (hs.mem.del (.s .z))).isSl Tryz.underlying49 rfl ?_; clear hs w a; intro a w hs
    refine goL 1 [] [76, 71, 14, 0, 5, 9, 41, 42, 43] hs .n ?_; clear hs w a; intro a w hs
    have hb_ : (!((((((accS (mostN n) σ (gRead ((L.getD j default).bs)))).l.length : Nat) : Int) : Int) == (((lw.length : Nat) : Int)))) = false := by rw [acc_no (by omega : accE σ.l (mostN n) σ.floor σ.gone (gRead (L.getD j default).bs) ≠ 0), ← sns_len, hlw]; exact congrArg (!·) (beq_self_eq_true _)
    rw [hb_] at hs; clear hb_
    refine go 3 [] [79, 78, 14, 0, 5, 9, 41, 42, 43] hs .n ?_; clear hs w a; intro a w hs
    refine st_guardT hs rfl rfl rfl ?_
    refine st_callP (v := .int .i64 (((((accS (mostN n) σ (gRead ((L.getD j default).bs)))).l.length : Nat) : Int))) hs (.c rfl .n) Tryz.call25 (len_st hX15 _ (hs.mem.del .z)) rfl ?_; clear hs w a; intro a w hs
    refine goL 1 [] [81, 80, 78, 14, 0, 5, 9, 41, 42, 43] hs .n ?_; clear hs w a; intro a w hs
    refine st_guardT hs rfl rfl rfl ?_
    refine st_callP (v := .int .i64 (((mostN n : Nat) : Int))) hs (.c rfl .n) Tryz.call22 (most12_ok n _ (by omega)) rfl ?_; clear hs w a; intro a w hs
    refine goL 1 [] [83, 78, 14, 0, 5, 9, 41, 42, 43] hs .n ?_; clear hs w a; intro a w hs
    have hb_ : (decide ((((mostN n : Nat) : Int)) < (((((accS (mostN n) σ (gRead ((L.getD j default).bs)))).l.length : Nat) : Int)))) = false := decide_eq_false (by omega)
    rw [hb_] at hs; clear hb_
    refine go 1 [] [84, 14, 0, 5, 9, 41, 42, 43] hs .n ?_; clear hs w a; intro a w hs
    exact Or.inl ⟨hs.sub (.c rfl (.c rfl (.c rfl (.c rfl (.c rfl (.c rfl (.c rfl (.c rfl .n)))))))), trivial⟩
   rw [c_31] at hs
   replace c_31 := not_f c_31
   replace c_31 := eq_of_beq c_31
   refine go 8 [] [79, 78, 14, 0, 5, 9, 41, 42, 43] hs .n ?_; clear hs w a; intro a w hs
   refine st_guardT hs rfl rfl rfl ?_
   refine st_callP (v := .int .i64 (((((accS (mostN n) σ (gRead ((L.getD j default).bs)))).l.length : Nat) : Int))) hs (.c rfl .n) Tryz.call25 (len_st hX15 _ (hs.mem.del .z)) rfl ?_; clear hs w a; intro a w hs
   refine goL 1 [] [81, 80, 78, 14, 0, 5, 9, 41, 42, 43] hs .n ?_; clear hs w a; intro a w hs
   refine st_guardT hs rfl rfl rfl ?_
   refine st_callP (v := .int .i64 (((mostN n : Nat) : Int))) hs (.c rfl .n) Tryz.call22 (most12_ok n _ (by omega)) rfl ?_; clear hs w a; intro a w hs
   refine goL 1 [] [83, 78, 14, 0, 5, 9, 41, 42, 43] hs .n ?_; clear hs w a; intro a w hs
   have hb_ : (decide ((((mostN n : Nat) : Int)) < (((((accS (mostN n) σ (gRead ((L.getD j default).bs)))).l.length : Nat) : Int)))) = false := decide_eq_false (by omega)
   rw [hb_] at hs; clear hb_
   refine go 1 [] [84, 14, 0, 5, 9, 41, 42, 43] hs .n ?_; clear hs w a; intro a w hs
   exact Or.inl ⟨hs.sub (.c rfl (.c rfl (.c rfl (.c rfl (.c rfl (.c rfl (.c rfl (.c rfl .n)))))))), trivial⟩
  replace c_7 := of_decide_eq_false c_7
  refine go 1 [] [4] hs .n ?_; clear hs w a; intro a w hs
  replace hs := hs.drop (.c .z .n)
  exact fin hs rfl rfl ⟨rfl, rfl⟩
end Go.Proofs.YtbioemaipghagaaGreat
