/- Walks of rings: what each function does, over the program of this seat. Printed by a program of this session. -/
import Derived.Test.YtbioemaipghagaaGreatQWins
import Derived.Test.YtbioemaipghagaaGreatQSxStos
import Derived.Test.YtbioemaipghagaaGreatQSxBasB
import Derived.Test.YtbioemaipghagaaGreatQSxRecs
import Derived.Test.YtbioemaipghagaaGreatQSxPdeltaN
namespace Go.Proofs.YtbioemaipghagaaGreat
open Go Go.Sx Go.RowKit
set_option linter.unusedVariables false
set_option linter.unusedSimpArgs false
set_option maxRecDepth 4000
set_option maxHeartbeats 1000000

theorem ins_one {v : Value} {l : List RI} {i vb : Nat} {x : RI} {w : World} (hr : (row v 140 4 l.length (l.flatMap riV)).p w) (hb : (blk vb [.int .i64 x.t, .int .i64 x.t, .int .i64 x.tm, x.v] 140).p w) (hnd : (feet [row v 140 4 l.length (l.flatMap riV), blk vb [.int .i64 x.t, .int .i64 x.t, .int .i64 x.tm, x.v] 140]).Nodup) (hi : i ≤ l.length) (hiv : ∀ x ∈ l, IsSl x.v x.l.length) (hx : IsSl x.v x.l.length) (hn : l.length ≤ 100000) :
   Calls Tryz.prog 82 #[v, .int .i64 ((i : Nat) : Int), .slice (some ⟨vb, 0, none⟩) 1 1] w (Ret w (feet [row v 140 4 l.length (l.flatMap riV), blk vb [.int .i64 x.t, .int .i64 x.t, .int .i64 x.tm, x.v] 140]) fun u N => N = [row u 140 4 (kins l i x).length ((kins l i x).flatMap riV)]) := by
 have hvb : vb ∉ feet [row v 140 4 l.length (l.flatMap riV)] := by
   have : (feet ([row v 140 4 l.length (l.flatMap riV)] ++ [blk vb [.int .i64 x.t, .int .i64 x.t, .int .i64 x.tm, x.v] 140])).Nodup := hnd
   rw [feet_append] at this
   exact fun h => (List.nodup_append.1 this).2.2 vb h vb (by simp [feet, blk]) rfl
 have h1c := one_riVs hiv
 have h1v := one_riV hx
 have hlen := flat_len riV_len l
 rw [kins_len l x hi, ← flat_kins riV_len l i x]
 rcases Nat.eq_or_lt_of_le hi with rfl | hlt
 · refine (ins_end hr hb rfl h1v hn).mono fun e w' h => ?_
   have e1 : (l.flatMap riV).take (l.length * 4) = l.flatMap riV := List.take_of_length_le (by omega)
   have e2 : (l.flatMap riV).drop (l.length * 4) = [] := List.drop_eq_nil_of_le (by omega)
   rw [e1, e2, List.append_nil]
   exact weak_S h (fun k hk => by rw [feet_cons]; exact List.mem_append.2 (.inl (by simpa [feet] using hk)))
 · obtain ⟨g, cap, sp, rfl, hc, hm, hlc, hl, hg⟩ := row_open hr (by omega)
   have hgb : vb ≠ g := by rintro rfl; exact hvb (by simp [feet, row, Value.ownBlock])
   by_cases hroom : l.length + 1 ≤ cap
   · refine (ins_shift hg hl hlc hm hlt hroom hb hgb rfl h1c h1v hn).mono fun e w' h => ?_
     exact weak_S h (fun k hk => by rw [feet_cons]; exact List.mem_append.2 (.inl (by simpa [row, Value.ownBlock] using hk)))
   · refine (ins_grow hg hl hlt hc (by omega) hb rfl h1c h1v hn).mono fun e w' h => ?_
     exact weak_S h (fun k hk => absurd hk (by simp))
theorem del_one {v : Value} {l : List RI} {w : World} (hr : (row v 140 4 l.length (l.flatMap riV)).p w) (hn2 : 2 ≤ l.length) (hiv : ∀ x ∈ l, IsSl x.v x.l.length) (hn : l.length ≤ 100001) :
   Calls Tryz.prog 83 #[v, .int .i64 0, .int .i64 1] w (Ret w (feet [row v 140 4 l.length (l.flatMap riV)]) fun u N => N = [row u 140 4 (l.drop 1).length ((l.drop 1).flatMap riV)]) := by
 obtain ⟨g, cap, sp, rfl, hc, hm, hlc, hl, hg⟩ := row_open hr (by omega)
 rw [List.length_drop, ← (flat_cut riV_len l 1).2]
 refine (del_first hg hl hlc hm hn2 hc (one_riVs hiv) hn).mono fun e w' h => ?_
 exact weak_S h (fun k hk => by simpa [feet, row, Value.ownBlock] using hk)

theorem pcmp_ok (x : RI) (hx : IsSl x.v x.l.length) (k : Int) (w0 : World) : Calls Tryz.prog 103 #[.agg #[.int .i64 (x.t), .int .i64 (x.t), .int .i64 (x.tm), x.v], .int .i64 k] w0 (RetV w0 (.int .i64 (cmpK x.t k))) := by
 obtain ⟨A_, c_, hxv⟩ := hx
 obtain ⟨xt, xtm, xl, xv⟩ := x
 simp only at hxv
 subst hxv
 refine enterG (F0 := [(0, .agg #[.int .i64 (xt), .int .i64 (xt), .int .i64 (xtm), .slice A_ xl.length c_]), (1, .int .i64 (k))]) Tryz.func103 rfl rfl rfl (.c (.c .n)) (Mem.nil _) fun a w hs => ?_
 refine go 7 [0, 0] [5, 2, 1] hs .n (fun g1 => ⟨rfl, ?_⟩); clear hs w a; intro a w hs
 refine ifG hs rfl (fun c_2 => ?_) (fun c_2 => ?_)
 ·
  replace c_2 := of_decide_eq_true c_2
  refine go 1 [] [4] hs .n ?_; clear hs w a; intro a w hs
  replace hs := hs.drop (.c .z .n)
  exact fin hs rfl rfl ⟨congrArg (Value.int .i64) (by show _ = cmpK xt k; unfold cmpK; first | rw [if_pos (by omega)] | (rw [if_neg (by omega), if_pos (by omega)]) | (rw [if_neg (by omega), if_neg (by omega)])), rfl⟩
 replace c_2 := of_decide_eq_false c_2
 refine go 5 [0] [10] hs (.c .z .n) ⟨rfl, ?_⟩; clear hs w a; intro a w hs
 refine ifG hs rfl (fun c_3 => ?_) (fun c_3 => ?_)
 ·
  replace c_3 := of_decide_eq_true c_3
  refine go 1 [] [4] hs .n ?_; clear hs w a; intro a w hs
  replace hs := hs.drop (.c .z .n)
  exact fin hs rfl rfl ⟨congrArg (Value.int .i64) (by show _ = cmpK xt k; unfold cmpK; first | rw [if_pos (by omega)] | (rw [if_neg (by omega), if_pos (by omega)]) | (rw [if_neg (by omega), if_neg (by omega)])), rfl⟩
 replace c_3 := of_decide_eq_false c_3
 refine go 1 [] [4] hs .n ?_; clear hs w a; intro a w hs
 replace hs := hs.drop (.c .z .n)
 exact fin hs rfl rfl ⟨congrArg (Value.int .i64) (by show _ = cmpK xt k; unfold cmpK; first | rw [if_pos (by omega)] | (rw [if_neg (by omega), if_pos (by omega)]) | (rw [if_neg (by omega), if_neg (by omega)])), rfl⟩
theorem search_ok (u : Value) (l : List RI) (k : Int) (w0 : World) (hu : Rd w0 [] u 4 l.length (l.flatMap riV)) (hsr : srt (sns l)) (hll : l.length ≤ 100000) (hiv : ∀ x ∈ l, IsSl x.v x.l.length) : Calls Tryz.prog 102 #[u, .int .i64 k, .func (.func 103) #[] #[]] w0 (RetV w0 (.tuple #[.int .i64 ((kpos (sns l) k : Nat) : Int), .bool (khas (sns l) k)])) := by
 have hsl := sns_len l
 refine enterG (F0 := [(0, u), (1, .int .i64 (k)), (2, .func (.func 103) #[] #[])]) Tryz.func102 rfl rfl rfl (.c (.c (.c .n))) (Mem.nil _) fun a w hs => ?_
 refine go 3 [] [12, 0, 1, 2] hs .n ?_; clear hs w a; intro a w hs
 refine st_len hs rfl (hs.rd0 hu).isSl Tryz.underlying136 rfl ?_; clear hs w a; intro a w hs
 refine goL 4 [] [10, 9, 8, 0, 1, 2] hs .n ?_; clear hs w a; intro a w hs
 refine loopG (fun mm_ a w => ∃ lo : Nat, ∃ hi : Nat, mm_ = hi - lo ∧ St 49 [(0, u), (1, .int .i64 (k)), (2, .func (.func 103) #[] #[]), (8, .int .i64 (((l.length : Nat) : Int))), (9, .int .i64 (((lo : Nat) : Int))), (10, .int .i64 (((hi : Nat) : Int)))] w0 [] [] a w ∧ lo ≤ hi ∧ hi ≤ l.length ∧ (∀ t, t < lo → ((sns l).getD t default).t < k) ∧ (∀ t, hi ≤ t → t < l.length → k ≤ ((sns l).getD t default).t)) ⟨0, l.length, rfl, hs.sub (.c rfl (.c rfl (.c rfl (.c rfl (.c rfl (.c rfl .n)))))), by omega, by omega, (fun t ht => absurd ht (by omega)), (fun t ht hl => absurd hl (by omega))⟩ ?_
 clear hs w a; rintro mm_ a w ⟨lo, hi, rfl, hs, hI1_0, hI1_1, hI1_2, hI1_3⟩
 refine go 3 [] [17, 0, 1, 2, 8, 9, 10] hs .n ?_; clear hs w a; intro a w hs
 refine ifG hs rfl (fun c_1 => ?_) (fun c_1 => ?_)
 ·
  replace c_1 := of_decide_eq_true c_1
  refine go 3 [] [20, 0, 1, 2, 8, 9, 10] hs .n ⟨(by omega), ?_⟩; clear hs w a; intro a w hs
  refine st_cv_u64 hs rfl Tryz.underlying3 Tryz.underlying55 rfl ?_; clear hs w a; intro a w hs
  refine st_shr_u64 (X := BitVec.ofInt 64 ((((lo : Nat) : Int)) + (((hi : Nat) : Int)))) (m := 1) hs rfl rfl rfl (by decide) rfl ?_; clear hs w a; intro a w hs
  refine st_cv_u64_i64 (X := (BitVec.ofInt 64 ((((lo : Nat) : Int)) + (((hi : Nat) : Int)))) >>> 1) hs rfl rfl Tryz.underlying55 Tryz.underlying3 rfl ?_; clear hs w a; intro a w hs
  replace hs := hs.recell (v' := .int .i64 (((((lo + hi) / 2) : Nat) : Int))) (Option.some.inj (congrArg (fun z => some (Value.int .i64 z)) (half_mid (by omega))))
  refine goL 4 [] [26, 25, 24, 11, 0, 1, 2, 8, 9, 10] hs .n ?_; clear hs w a; intro a w hs
  refine st_ia (j := ((lo + hi) / 2)) hs rfl rfl (hs.rd0 hu) rfl (by omega) Tryz.underlying136 Tryz.sizeOf140 rfl ?_; clear hs w a; intro a w hs
  refine st_ldA (cs := riV (l.getD (((lo + hi) / 2)) default)) hs rfl (hs.rd0 hu) (flat_get riV_len l (((lo + hi) / 2)) (by omega)) (by rw [flat_len riV_len]; omega) (by omega) Tryz.isAgg140 Tryz.sizeOf140 rfl ?_; clear hs w a; intro a w hs
  refine goL 1 [] [29, 28, 24, 11, 0, 1, 2, 8, 9, 10] hs .n ?_; clear hs w a; intro a w hs
  refine st_callPV (us := []) (v := .int .i64 (cmpK (l.getD (((lo + hi) / 2)) default).t k)) hs rfl (.c rfl (.c rfl .n)) rfl Tryz.call103 (pcmp_ok (l.getD (((lo + hi) / 2)) default) (hiv _ (ri_in (by omega))) k _) rfl ?_; clear hs w a; intro a w hs
  refine goFL 1 1 [] [31, 11, 0, 1, 2, 8, 9, 10] hs .n ?_; clear hs w a; intro a w hs
  rw [show decide (cmpK (l.getD ((lo + hi) / 2) default).t k < 0) = decide ((l.getD ((lo + hi) / 2) default).t < k) from decide_eq_decide.2 cmpK_neg] at hs
  refine go 0 [] [31, 11, 0, 1, 2, 8, 9, 10] hs .n ?_; clear hs w a; intro a w hs
  refine ifG hs rfl (fun c_2 => ?_) (fun c_2 => ?_)
  ·
   replace c_2 := of_decide_eq_true c_2
   have hcm : ((l.getD ((lo + hi) / 2) default).t < k) := by assumption
   refine go 3 [] [9, 0, 1, 2, 8, 10] hs .n ⟨(by omega), ?_⟩; clear hs w a; intro a w hs
   refine ⟨_, ?_, ((lo + hi) / 2) + 1, hi, rfl, hs.sub (.c rfl (.c rfl (.c rfl (.c rfl (.c rfl (.c rfl .n)))))), by omega, by omega, (fun t ht => by have h1 := srt_le hsr (i := t) (j := ((lo + hi) / 2)) (by omega) (by omega); rw [sns_get l (i := ((lo + hi) / 2)) (by omega)] at h1; have h2 : (l.getD ((lo + hi) / 2) default).sn.t < k := hcm; omega), hI1_3⟩
   omega
  replace c_2 := of_decide_eq_false c_2
  have hcm : ¬ ((l.getD ((lo + hi) / 2) default).t < k) := by assumption
  refine go 2 [] [10, 0, 1, 2, 8, 9] hs .n ?_; clear hs w a; intro a w hs
  refine ⟨_, ?_, lo, ((lo + hi) / 2), rfl, hs.sub (.c rfl (.c rfl (.c rfl (.c rfl (.c rfl (.c rfl .n)))))), by omega, by omega, hI1_2, (fun t ht hl => by have h1 := srt_le hsr (i := ((lo + hi) / 2)) (j := t) (by omega) (by omega); rw [sns_get l (i := ((lo + hi) / 2)) (by omega)] at h1; have h2 : ¬ (l.getD ((lo + hi) / 2) default).sn.t < k := hcm; omega)⟩
  omega
 replace c_1 := of_decide_eq_false c_1
 obtain rfl : lo = hi := by omega
 have hkp : kpos (sns l) k = lo := kpos_eq hI1_2 (by rw [hsl]; exact hI1_3) (by omega)
 refine go 5 [] [39, 35, 0, 1, 2, 9] hs .n ?_; clear hs w a; intro a w hs
 refine st_part (b := decide ((((lo : Nat) : Int)) < (((l.length : Nat) : Int)))) (fun c_3 => ?_) (fun c_3 => ?_)
 ·
  rw [c_3] at hs
  replace c_3 := of_decide_eq_true c_3
  refine go 3 [] [42, 41, 40, 39, 35, 1] hs .n ?_; clear hs w a; intro a w hs
  refine st_guardT hs rfl rfl rfl ?_
  refine st_ia (j := lo) hs rfl rfl (hs.rd0 hu) rfl (by omega) Tryz.underlying136 Tryz.sizeOf140 rfl ?_; clear hs w a; intro a w hs
  refine st_guardT hs rfl rfl rfl ?_
  refine st_ldA (cs := riV (l.getD lo default)) hs rfl (hs.rd0 hu) (flat_get riV_len l lo (by omega)) (by rw [flat_len riV_len]; omega) (by omega) Tryz.isAgg140 Tryz.sizeOf140 rfl ?_; clear hs w a; intro a w hs
  refine goL 1 [] [45, 44, 40, 39, 35] hs .n ?_; clear hs w a; intro a w hs
  refine st_guardT hs rfl rfl rfl ?_
  refine st_callPV (us := []) (v := .int .i64 (cmpK (l.getD lo default).t k)) hs rfl (.c rfl (.c rfl .n)) rfl Tryz.call103 (pcmp_ok (l.getD lo default) (hiv _ (ri_in (by omega))) k _) rfl ?_; clear hs w a; intro a w hs
  refine goL 4 [] [7, 6] hs .n ?_; clear hs w a; intro a w hs
  have hke := khas_at hsr (k := k) (by omega)
  rw [hkp, sns_get l (i := lo) (by omega)] at hke
  exact fin2 hs rfl rfl rfl ⟨by rw [hkp, hke]; rfl, rfl⟩
 rw [c_3] at hs
 replace c_3 := of_decide_eq_false c_3
 refine go 11 [] [7, 6] hs .n ?_; clear hs w a; intro a w hs
 exact fin2 hs rfl rfl rfl ⟨by rw [khas_end hsr (by omega), hkp], rfl⟩
theorem place_ok (g : Nat) (u : Value) (l : List RI) (most : Nat) (fl : Int) (gone : Bool) (k : Int) (w0 : World) (hu : Rd w0 [] u 4 l.length (l.flatMap riV)) (hg : (blk g [u, .int .i64 (((most : Nat) : Int)), .int .i64 (fl), .bool (gone)] 138).p w0) (hsr : srt (sns l)) (hll : l.length ≤ 100000) (hiv : ∀ x ∈ l, IsSl x.v x.l.length) : Calls Tryz.prog 81 #[.pointer (some ⟨g, 0, none⟩), .int .i64 k] w0 (RetV w0 (.tuple #[.int .i64 ((kpos (sns l) k : Nat) : Int), .bool (khas (sns l) k)])) := by
 have hsl := sns_len l
 have hkl := kpos_le (sns l)
 refine enterG (F0 := [(0, .pointer (some ⟨g, 0, none⟩)), (1, .int .i64 (k))]) Tryz.func81 rfl rfl rfl (.c (.c .n)) (Mem.nil _) fun a w hs => ?_
 refine go 5 [] [8, 1] hs .n ?_; clear hs w a; intro a w hs
 refine st_ldE hs rfl (hs.mem.keep hg (by simp [feet, blk])) .z Tryz.isAgg136 rfl ?_; clear hs w a; intro a w hs
 refine goL 1 [] [10, 9] hs .n ?_; clear hs w a; intro a w hs
 refine st_callP (v := .tuple #[.int .i64 (((kpos (sns l) k : Nat) : Int)), .bool (khas (sns l) k)]) hs (.c rfl (.c rfl (.c rfl .n))) Tryz.call102 (search_ok _ l k _ (hs.rd0 hu) hsr hll hiv) rfl ?_; clear hs w a; intro a w hs
 refine goL 4 [] [5, 4] hs .n ?_; clear hs w a; intro a w hs
 exact fin2 hs rfl rfl rfl ⟨rfl, rfl⟩
theorem ringget_ok (g : Nat) (u : Value) (l : List RI) (most : Nat) (fl : Int) (gone : Bool) (k : Int) (w0 : World) (hu : Rd w0 [] u 4 l.length (l.flatMap riV)) (hg : (blk g [u, .int .i64 (((most : Nat) : Int)), .int .i64 (fl), .bool (gone)] 138).p w0) (hsr : srt (sns l)) (hll : l.length ≤ 100000) (hiv : ∀ x ∈ l, IsSl x.v x.l.length) : Calls Tryz.prog 59 #[.pointer (some ⟨g, 0, none⟩), .int .i64 k] w0 (RetV w0 (.tuple #[.agg #[.int .i64 ((rget l k).t), .int .i64 ((rget l k).tm), (rget l k).v], .bool (khas (sns l) k)])) := by
 have hsl := sns_len l
 have hkl := kpos_le (sns l)
 refine enterG (F0 := [(0, .pointer (some ⟨g, 0, none⟩)), (1, .int .i64 (k))]) Tryz.func59 rfl rfl rfl (.c (.c .n)) (Mem.nil _) fun a w hs => ?_
 refine go 7 [] [12, 11, 4, 0] hs .n (fun g1 => ?_); clear hs w a; intro a w hs
 refine st_callP (v := .tuple #[.int .i64 (((kpos (sns l) k : Nat) : Int)), .bool (khas (sns l) k)]) hs (.c rfl (.c rfl .n)) Tryz.call81 (place_ok g _ l most fl gone k _ (hs.rd0 hu) (hs.mem.keep hg (by simp [feet, blk])) hsr hll hiv) rfl ?_; clear hs w a; intro a w hs
 refine goL 6 [] [16, 5, 6, 4, 0] hs .n ?_; clear hs w a; intro a w hs
 refine ifG hs rfl (fun c_2 => ?_) (fun c_2 => ?_)
 ·
  have hh_ : khas (sns l) k = true := by assumption
  have hkb := ((khas_iff hsr).1 hh_).1
  have hrg : rget l k = l.getD (kpos (sns l) k) default := if_pos hh_
  refine go 3 [] [19, 5, 6, 4] hs .n ?_; clear hs w a; intro a w hs
  refine st_ldE hs rfl (hs.mem.keep hg (by simp [feet, blk])) .z Tryz.isAgg136 rfl ?_; clear hs w a; intro a w hs
  refine goL 1 [] [21, 20, 5, 4] hs .n ?_; clear hs w a; intro a w hs
  refine st_ia (j := kpos (sns l) k) hs rfl rfl (hs.rd0 hu) rfl (by omega) Tryz.underlying136 Tryz.sizeOf140 rfl ?_; clear hs w a; intro a w hs
  refine st_faV hs rfl (hs.rd0 hu) (by omega) Tryz.underlying140 rfl Tryz.sizeOf24 (by decide) (o := (kpos (sns l) k) * 4 + 1) rfl rfl ?_; clear hs w a; intro a w hs
  refine st_ldA (cs := [.int .i64 ((l.getD (kpos (sns l) k) default).t), .int .i64 ((l.getD (kpos (sns l) k) default).tm), (l.getD (kpos (sns l) k) default).v]) hs rfl (hs.rd0 hu) ((flat_getS riV_len l (kpos (sns l) k) 1 3 (by omega)).trans rfl) (by rw [flat_len riV_len]; omega) (by omega) Tryz.isAgg24 Tryz.sizeOf24 rfl ?_; clear hs w a; intro a w hs
  refine goL 5 [50, 0, 50] [5, 4] hs (.c .z .n) ⟨rfl, (ones_c rfl (ones_c rfl (ones_c (hiv _ (ri_in (by omega))).one ones_n))), rfl, rfl, (ones_c rfl (ones_c rfl (ones_c (hiv _ (ri_in (by omega))).one ones_n))), ?_⟩; clear hs w a; intro a w hs
  exact finC2 hs rfl rfl rfl .z (.z (.c (.c (.c .n)))) Tryz.isAgg24 Tryz.sizeOf24 (.c .z .n) ⟨by rw [hrg] <;> rfl, rfl⟩
 have hh_ : khas (sns l) k = false := by assumption
 have hrg : rget l k = default := if_neg (by rw [hh_]; simp)
 refine go 4 [0, 0] [5, 4] hs (.c .z .n) ⟨rfl, rfl, ?_⟩; clear hs w a; intro a w hs
 exact finC2 hs rfl rfl rfl .z (.z (.c (.c (.c .n)))) Tryz.isAgg24 Tryz.sizeOf24 (.c .z .n) ⟨by rw [hrg] <;> rfl, rfl⟩
theorem ringat_ok (g : Nat) (u : Value) (l : List RI) (most : Nat) (fl : Int) (gone : Bool) (i : Int) (w0 : World) (hu : Rd w0 [] u 4 l.length (l.flatMap riV)) (hg : (blk g [u, .int .i64 (((most : Nat) : Int)), .int .i64 (fl), .bool (gone)] 138).p w0) (hsr : srt (sns l)) (hll : l.length ≤ 100000) (hiv : ∀ x ∈ l, IsSl x.v x.l.length) : Calls Tryz.prog 53 #[.pointer (some ⟨g, 0, none⟩), .int .i64 i] w0 (RetV w0 (.tuple #[.int .i64 (rat l i).t, .agg #[.int .i64 ((rat l i).t), .int .i64 ((rat l i).tm), (rat l i).v], .int .i64 ((ratE (sns l) i : Nat) : Int)])) := by
 have hsl := sns_len l
 have hkl := kpos_le (sns l)
 refine enterG (F0 := [(0, .pointer (some ⟨g, 0, none⟩)), (1, .int .i64 (i))]) Tryz.func53 rfl rfl rfl (.c (.c .n)) (Mem.nil _) fun a w hs => ?_
 refine go 11 [] [15, 7, 5, 0, 1] hs .n (fun g1 => fun g2 => ?_); clear hs w a; intro a w hs
 refine st_part (b := decide (i < 0)) (fun c_3 => ?_) (fun c_3 => ?_)
 ·
  rw [c_3] at hs
  replace c_3 := of_decide_eq_true c_3
  refine go 10 [] [7, 5] hs .n ?_; clear hs w a; intro a w hs
  refine wp_drawS [.p [] [0], .p [] [], .x [0] ⟨[blk g1 [.int .i64 (0), .int .i64 (0), .slice none 0 0] 24], [], [], fun vs4 => True, fun vs4 => [blk g1 [.int .i64 (0), .int .i64 (0), .slice none 0 0] 24], none⟩, .p [] []] [1, 3] hs (.c (.s .z) .n) (.c .z .n) (by kernel_rfl) ⟨rfl, ⟨rfl, by kernel_rfl, fun _ => rfl⟩, ⟨?_, trivial⟩, ?_⟩
  ·
   intro a_ w_ R_ rest_ vs4 hm hs ht hx
   have hs0 := hs.bare
   refine st_stBA hs rfl rfl .z (.z (.c (.c (.c .n)))) (ones_c rfl (ones_c rfl (ones_c rfl ones_n))) Tryz.sizeOf24 rfl ?_; clear hs; intro a w hs
   exact wpList_nil ⟨rfl, .tuple #[], _, hs0, (.c .r), hs, trivial⟩
  clear hs w a; intro vs4 a w hs hf
  clear hf
  refine goE 0 [] [6, 4, 5] hs .n ?_; clear hs w a; intro a w hs
  exact finC3 hs rfl rfl rfl rfl (.s .z) (.z (.c (.c (.c .n)))) Tryz.isAgg24 Tryz.sizeOf24 (.c (.s .z) (.c .z .n)) ⟨by first | (rw [show rat l i = default from if_neg (by omega), show ratE (sns l) i = 3 from if_neg (by rw [sns_len]; omega)] <;> rfl) | (rw [show rat l i = l.getD i.toNat default from if_pos ⟨by omega, by omega⟩, show ratE (sns l) i = 0 from if_pos ⟨by omega, by rw [sns_len]; omega⟩] <;> rfl), rfl⟩
 rw [c_3] at hs
 replace c_3 := of_decide_eq_false c_3
 refine go 4 [] [19, 16, 15, 7, 5, 0, 1] hs .n ?_; clear hs w a; intro a w hs
 refine st_guardT hs rfl rfl rfl ?_
 refine st_ldE hs rfl (hs.mem.keep hg (by simp [feet, blk])) .z Tryz.isAgg136 rfl ?_; clear hs w a; intro a w hs
 refine st_guardT hs rfl rfl rfl ?_
 refine st_len hs rfl (hs.rd0 hu).isSl Tryz.underlying136 rfl ?_; clear hs w a; intro a w hs
 refine goL 3 [] [12, 7, 5, 0, 1] hs .n ?_; clear hs w a; intro a w hs
 refine ifG hs rfl (fun c_5 => ?_) (fun c_5 => ?_)
 ·
  replace c_5 := of_decide_eq_true c_5
  refine go 0 [] [7, 5] hs .n ?_; clear hs w a; intro a w hs
  refine wp_drawS [.p [] [0], .p [] [], .x [0] ⟨[blk g1 [.int .i64 (0), .int .i64 (0), .slice none 0 0] 24], [], [], fun vs6 => True, fun vs6 => [blk g1 [.int .i64 (0), .int .i64 (0), .slice none 0 0] 24], none⟩, .p [] []] [1, 3] hs (.c (.s .z) .n) (.c .z .n) (by kernel_rfl) ⟨rfl, ⟨rfl, by kernel_rfl, fun _ => rfl⟩, ⟨?_, trivial⟩, ?_⟩
  ·
   intro a_ w_ R_ rest_ vs6 hm hs ht hx
   have hs0 := hs.bare
   refine st_stBA hs rfl rfl .z (.z (.c (.c (.c .n)))) (ones_c rfl (ones_c rfl (ones_c rfl ones_n))) Tryz.sizeOf24 rfl ?_; clear hs; intro a w hs
   exact wpList_nil ⟨rfl, .tuple #[], _, hs0, (.c .r), hs, trivial⟩
  clear hs w a; intro vs6 a w hs hf
  clear hf
  refine goE 0 [] [6, 4, 5] hs .n ?_; clear hs w a; intro a w hs
  exact finC3 hs rfl rfl rfl rfl (.s .z) (.z (.c (.c (.c .n)))) Tryz.isAgg24 Tryz.sizeOf24 (.c (.s .z) (.c .z .n)) ⟨by first | (rw [show rat l i = default from if_neg (by omega), show ratE (sns l) i = 3 from if_neg (by rw [sns_len]; omega)] <;> rfl) | (rw [show rat l i = l.getD i.toNat default from if_pos ⟨by omega, by omega⟩, show ratE (sns l) i = 0 from if_pos ⟨by omega, by rw [sns_len]; omega⟩] <;> rfl), rfl⟩
 replace c_5 := of_decide_eq_false c_5
 refine go 0 [] [5, 0, 1] hs .n ?_; clear hs w a; intro a w hs
 refine wp_drawS [.p [] [], .p [0] [], .p [1] [], .v [2] u, .p [] [], .v [4, 3] (.pointer (some (adr u (((i).toNat) * 4)))), .v [5] (.pointer (some (adr u (((i).toNat) * 4 + 0)))), .v [6] (.int .i64 ((l.getD ((i).toNat) default).t)), .p [] [], .p [8] [], .p [9] [], .v [10] u, .p [] [], .v [12, 11] (.pointer (some (adr u (((i).toNat) * 4)))), .v [13] (.pointer (some (adr u (((i).toNat) * 4 + 1)))), .v [14] (.agg #[.int .i64 ((l.getD ((i).toNat) default).t), .int .i64 ((l.getD ((i).toNat) default).tm), (l.getD ((i).toNat) default).v]), .p [7] [], .x [15] ⟨[blk g1 [.int .i64 (0), .int .i64 (0), .slice none 0 0] 24], [], [], fun vs7 => True, fun vs7 => [blk g1 [.int .i64 ((l.getD ((i).toNat) default).t), .int .i64 ((l.getD ((i).toNat) default).tm), (l.getD ((i).toNat) default).v] 24], none⟩, .p [] []] [16, 18] hs (.c (.s .z) .n) .n (by kernel_rfl) ⟨?_, ?_, ?_, ?_, ?_, ?_, ?_, ?_, ⟨rfl, by kernel_rfl, fun _ => rfl⟩, ⟨?_, trivial⟩, ?_⟩
 ·
  intro a_ w_ R_ Q_ hm hs K_
  refine st_ldE hs rfl (hm.keep hg (by simp [feet, blk])) .z Tryz.isAgg136 rfl ?_; clear hs; intro a w hs
  exact wpList_nil (K_ _ _ hs)
 ·
  intro a_ w_ R_ Q_ hm hs K_
  refine st_ia (j := (i).toNat) hs rfl rfl (hm.rd0 hu) (by omega) (by omega) Tryz.underlying136 Tryz.sizeOf140 rfl ?_; clear hs; intro a w hs
  exact wpList_nil (K_ _ _ hs)
 ·
  intro a_ w_ R_ Q_ hm hs K_
  refine st_faV hs rfl (hm.rd0 hu) (by omega) Tryz.underlying140 rfl Tryz.sizeOf2 (by decide) (o := ((i).toNat) * 4 + 0) rfl rfl ?_; clear hs; intro a w hs
  exact wpList_nil (K_ _ _ hs)
 ·
  intro a_ w_ R_ Q_ hm hs K_
  refine st_ld (u := .int .i64 ((l.getD ((i).toNat) default).t)) hs rfl (hm.rd0 hu) ((flat_get1 riV_len l ((i).toNat) 0 (by omega) (by decide)).trans rfl) Tryz.isAgg2 rfl ?_; clear hs; intro a w hs
  exact wpList_nil (K_ _ _ hs)
 ·
  intro a_ w_ R_ Q_ hm hs K_
  refine st_ldE hs rfl (hm.keep hg (by simp [feet, blk])) .z Tryz.isAgg136 rfl ?_; clear hs; intro a w hs
  exact wpList_nil (K_ _ _ hs)
 ·
  intro a_ w_ R_ Q_ hm hs K_
  refine st_ia (j := (i).toNat) hs rfl rfl (hm.rd0 hu) (by omega) (by omega) Tryz.underlying136 Tryz.sizeOf140 rfl ?_; clear hs; intro a w hs
  exact wpList_nil (K_ _ _ hs)
 ·
  intro a_ w_ R_ Q_ hm hs K_
  refine st_faV hs rfl (hm.rd0 hu) (by omega) Tryz.underlying140 rfl Tryz.sizeOf24 (by decide) (o := ((i).toNat) * 4 + 1) rfl rfl ?_; clear hs; intro a w hs
  exact wpList_nil (K_ _ _ hs)
 ·
  intro a_ w_ R_ Q_ hm hs K_
  refine st_ldA (cs := [.int .i64 ((l.getD ((i).toNat) default).t), .int .i64 ((l.getD ((i).toNat) default).tm), (l.getD ((i).toNat) default).v]) hs rfl (hm.rd0 hu) ((flat_getS riV_len l ((i).toNat) 1 3 (by omega)).trans rfl) (by rw [flat_len riV_len]; omega) (by omega) Tryz.isAgg24 Tryz.sizeOf24 rfl ?_; clear hs; intro a w hs
  exact wpList_nil (K_ _ _ hs)
 ·
  intro a_ w_ R_ rest_ vs7 hm hs ht hx
  have hs0 := hs.bare
  refine st_stBA hs rfl rfl .z (.z (.c (.c (.c .n)))) (ones_c rfl (ones_c rfl (ones_c (hiv _ (ri_in (by omega))).one ones_n))) Tryz.sizeOf24 rfl ?_; clear hs; intro a w hs
  exact wpList_nil ⟨rfl, .tuple #[], _, hs0, (.c .r), hs, trivial⟩
 clear hs w a; intro vs7 a w hs hf
 clear hf
 refine goE 0 [] [6, 4, 5] hs .n ?_; clear hs w a; intro a w hs
 exact finC3 hs rfl rfl rfl rfl (.s .z) (.z (.c (.c (.c .n)))) Tryz.isAgg24 Tryz.sizeOf24 (.c (.s .z) (.c .z .n)) ⟨by first | (rw [show rat l i = default from if_neg (by omega), show ratE (sns l) i = 3 from if_neg (by rw [sns_len]; omega)] <;> rfl) | (rw [show rat l i = l.getD i.toNat default from if_pos ⟨by omega, by omega⟩, show ratE (sns l) i = 0 from if_pos ⟨by omega, by rw [sns_len]; omega⟩] <;> rfl), rfl⟩
theorem runtil_ok (g : Nat) (u : Value) (l : List RI) (most : Nat) (fl : Int) (gone : Bool) (k : Int) (w0 : World) (hu : Rd w0 [] u 4 l.length (l.flatMap riV)) (hg : (blk g [u, .int .i64 (((most : Nat) : Int)), .int .i64 (fl), .bool (gone)] 138).p w0) (hsr : srt (sns l)) (hll : l.length ≤ 100000) (hiv : ∀ x ∈ l, IsSl x.v x.l.length) : Calls Tryz.prog 101 #[.pointer (some ⟨g, 0, none⟩), .int .i64 k] w0 (RetV w0 (.int .i64 ((kuntil (sns l) k : Nat) : Int))) := by
 have hsl := sns_len l
 have hkl := kpos_le (sns l)
 refine enterG (F0 := [(0, .pointer (some ⟨g, 0, none⟩)), (1, .int .i64 (k))]) Tryz.func101 rfl rfl rfl (.c (.c .n)) (Mem.nil _) fun a w hs => ?_
 refine go 6 [] [11, 10] hs .n ?_; clear hs w a; intro a w hs
 refine st_callP (v := .tuple #[.int .i64 (((kpos (sns l) k : Nat) : Int)), .bool (khas (sns l) k)]) hs (.c rfl (.c rfl .n)) Tryz.call81 (place_ok g _ l most fl gone k _ (hs.rd0 hu) (hs.mem.keep hg (by simp [feet, blk])) hsr hll hiv) rfl ?_; clear hs w a; intro a w hs
 refine goL 6 [] [15, 5] hs .n ?_; clear hs w a; intro a w hs
 refine ifG hs rfl (fun c_1 => ?_) (fun c_1 => ?_)
 ·
  have hku : kuntil (sns l) k = kpos (sns l) k + 1 := by unfold kuntil; rw [if_pos (by assumption)]
  have hkl := hkl k
  refine go 5 [] [4] hs .n ⟨(by omega), ?_⟩; clear hs w a; intro a w hs
  exact fin hs rfl rfl ⟨by rw [hku] <;> rfl, rfl⟩
 have hh_ : khas (sns l) k = false := by assumption
 have hku : kuntil (sns l) k = kpos (sns l) k := by unfold kuntil; rw [if_neg (by rw [hh_]; simp)]; rfl
 refine go 2 [] [4] hs .n ?_; clear hs w a; intro a w hs
 exact fin hs rfl rfl ⟨by rw [hku] <;> rfl, rfl⟩
theorem ringlen_ok (g : Nat) (u : Value) (l : List RI) (most : Nat) (fl : Int) (gone : Bool) (w0 : World) (hu : Rd w0 [] u 4 l.length (l.flatMap riV)) (hg : (blk g [u, .int .i64 (((most : Nat) : Int)), .int .i64 (fl), .bool (gone)] 138).p w0) (hsr : srt (sns l)) (hll : l.length ≤ 100000) (hiv : ∀ x ∈ l, IsSl x.v x.l.length) : Calls Tryz.prog 52 #[.pointer (some ⟨g, 0, none⟩)] w0 (RetV w0 (.int .i64 ((l.length : Nat) : Int))) := by
 have hsl := sns_len l
 have hkl := kpos_le (sns l)
 refine enterG (F0 := [(0, .pointer (some ⟨g, 0, none⟩))]) Tryz.func52 rfl rfl rfl (.c .n) (Mem.nil _) fun a w hs => ?_
 refine go 7 [] [7] hs .n ?_; clear hs w a; intro a w hs
 refine st_ldE hs rfl (hs.mem.keep hg (by simp [feet, blk])) .z Tryz.isAgg136 rfl ?_; clear hs w a; intro a w hs
 refine st_len hs rfl (hs.rd0 hu).isSl Tryz.underlying136 rfl ?_; clear hs w a; intro a w hs
 refine goL 1 [] [2] hs .n ?_; clear hs w a; intro a w hs
 exact fin hs rfl rfl ⟨rfl, rfl⟩
theorem rfloor_ok (g : Nat) (u : Value) (l : List RI) (most : Nat) (fl : Int) (gone : Bool) (w0 : World) (hg : (blk g [u, .int .i64 (((most : Nat) : Int)), .int .i64 (fl), .bool (gone)] 138).p w0) : Calls Tryz.prog 100 #[.pointer (some ⟨g, 0, none⟩)] w0 (RetV w0 (.tuple #[.int .i64 fl, .bool gone])) := by
 refine enterG (F0 := [(0, .pointer (some ⟨g, 0, none⟩))]) Tryz.func100 rfl rfl rfl (.c .n) (Mem.nil _) fun a w hs => ?_
 refine go 5 [] [0] hs .n ?_; clear hs w a; intro a w hs
 refine wp_drawN [.p [] [], .p [0] [], .p [1] [], .v [2] (.int .i64 (fl)), .p [] [], .p [4] [], .p [5] [], .v [6] (.bool (gone)), .p [3] [], .p [7] []] [8, 9] hs .n (by kernel_rfl) ⟨?_, ?_, ⟨rfl, by kernel_rfl, fun _ => rfl, trivial⟩, ?_⟩
 ·
  intro a_ w_ R_ Q_ hm hs K_
  refine st_ldE hs rfl (hm.keep hg (by simp [feet, blk])) (.s (.s .z)) Tryz.isAgg2 rfl ?_; clear hs; intro a w hs
  exact wpList_nil (K_ _ _ hs)
 ·
  intro a_ w_ R_ Q_ hm hs K_
  refine st_ldE hs rfl (hm.keep hg (by simp [feet, blk])) (.s (.s (.s .z))) Tryz.isAgg4 rfl ?_; clear hs; intro a w hs
  exact wpList_nil (K_ _ _ hs)
 clear hs w a; intro a w hs
 refine goE 0 [] [3, 2] hs .n ?_; clear hs w a; intro a w hs
 exact fin2 hs rfl rfl rfl ⟨rfl, rfl⟩
theorem ringlay_ok (g : Nat) (u : Value) (l : List RI) (most : Nat) (fl : Int) (gone : Bool) (x : RI) (w0 : World) (hr : (row u 140 4 l.length (l.flatMap riV)).p w0) (hg : (blk g [u, .int .i64 (((most : Nat) : Int)), .int .i64 (fl), .bool (gone)] 138).p w0) (hnd : (feet [row u 140 4 l.length (l.flatMap riV), blk g [u, .int .i64 (((most : Nat) : Int)), .int .i64 (fl), .bool (gone)] 138]).Nodup) (hsr : srt (sns l)) (hll : l.length ≤ most) (hmo : most ≤ 64) (hm1 : 1 ≤ most) (hiv : ∀ x ∈ l, IsSl x.v x.l.length) (hxs : IsSl x.v x.l.length) (hk : khas (sns l) x.t = false) (hst : ¬ (gone = true ∧ x.t ≤ fl)) (hz : ¬ (kpos (sns l) x.t = 0 ∧ l.length = most)) : Calls Tryz.prog 56 #[.pointer (some ⟨g, 0, none⟩), .int .i64 x.t, .agg #[.int .i64 (x.t), .int .i64 (x.tm), x.v]] w0 (Ret w0 (feet [row u 140 4 l.length (l.flatMap riV), blk g [u, .int .i64 (((most : Nat) : Int)), .int .i64 (fl), .bool (gone)] 138]) fun z N => ∃ u', z = .tuple #[.int .i64 (layP l most x), .bool (layQ l most x), .int .i64 0] ∧ N = [blk g [u', .int .i64 (((most : Nat) : Int)), .int .i64 (layF l most fl x), .bool (layG l most gone x)] 138, row u' 140 4 ((layL l most x).length) (((layL l most x).flatMap riV))]) := by
 have hkl := kpos_le (sns l) x.t
 rw [sns_len] at hkl
 have hK := kins_len l x hkl
 have hiK := isl_kins hiv hxs (kpos (sns l) x.t)
 refine enterG (F0 := [(0, .pointer (some ⟨g, 0, none⟩)), (1, .int .i64 (x.t)), (2, .agg #[.int .i64 (x.t), .int .i64 (x.tm), x.v])]) Tryz.func56 rfl rfl rfl (.c (.c (.c .n))) (mem_two hr hg hnd) fun a w hs => ?_
 refine go 9 [0] [15, 14, 5, 0, 1] hs .n (fun g1 => ?_); clear hs w a; intro a w hs
 refine st_callP (v := .tuple #[.int .i64 (((kpos (sns l) x.t : Nat) : Int)), .bool (khas (sns l) x.t)]) hs (.c rfl (.c rfl .n)) Tryz.call81 (place_ok g _ l most fl gone x.t _ (rd_row (hs.mem.del (.s .z))) (hs.mem.del (.s (.s .z))) hsr (by omega) hiv) rfl ?_; clear hs w a; intro a w hs
 refine goFL 13 7 [] [19, 9, 5, 0, 1] hs .n ?_; clear hs w a; intro a w hs
 have hb_ : (khas (sns l) x.t) = false := by exact hk
 rw [hb_] at hs; clear hb_
 refine go 5 [0] [25, 9, 5, 0, 1] hs (.c (.s (.s .z)) .n) ⟨rfl, ?_⟩; clear hs w a; intro a w hs
 replace hs := hs.recell (v' := .bool (id gone)) (Option.some.inj rfl)
 refine go 1 [] [26, 9, 5, 0, 1] hs .n ?_; clear hs w a; intro a w hs
 refine st_part (b := id gone) (fun c_2 => ?_) (fun c_2 => ?_)
 ·
  rw [c_2] at hs
  refine go 6 [0] [32, 26, 9, 5, 0, 1] hs (.c .z .n) ⟨rfl, ?_⟩; clear hs w a; intro a w hs
  have hb_ : (decide (x.t ≤ fl)) = false := decide_eq_false (fun h => hst ⟨(by assumption : id gone = true), h⟩)
  rw [hb_] at hs; clear hb_
  refine go 3 [] [9, 5, 0, 1] hs .n ?_; clear hs w a; intro a w hs
  by_cases kz : kpos (sns l) x.t = 0
  ·
   refine wp_drawN [.p [] [], .v [0] (.bool (true)), .p [1] [], .p [2] [], .p [3, 2] [], .p [4, 2] [], .p [5, 2] [0], .v [6, 2] (.int .i64 (((l.length : Nat) : Int))), .p [2] [], .p [8, 2] [], .p [9, 2] [], .p [10, 2] [0], .v [11, 7, 2] (.bool (false)), .p [12, 2] [], .p [13] []] [14] hs (.c .z .n) (by kernel_rfl) ⟨?_, rfl, ?_, rfl, ?_, ⟨rfl, by kernel_rfl, fun _ => rfl, trivial⟩, ?_⟩
   ·
    intro a_ w_ R_ Q_ hm hs K_
    refine st_eql hs rfl rfl rfl ?_; clear hs; intro a w hs
    have hb_ : ((((kpos (sns l) x.t : Nat) : Int) : Int) == 0) = true := by rw [beq_iff_eq]; omega
    rw [hb_] at hs; clear hb_
    exact wpList_nil (K_ _ _ hs)
   ·
    intro a_ w_ R_ Q_ hm hs K_
    have hm0 := hm
    refine st_guardT hs rfl rfl rfl ?_
    refine st_len hs rfl (rd_row (hm0.del (.s (.s .z)))).isSl Tryz.underlying136 rfl ?_; clear hs; intro a w hs
    exact wpList_nil (K_ _ _ hs)
   ·
    intro a_ w_ R_ Q_ hm hs K_
    refine st_guardT hs rfl rfl rfl ?_
    refine st_eql hs rfl rfl rfl ?_; clear hs; intro a w hs
    have hb_ : ((((l.length : Nat) : Int) : Int) == (((most : Nat) : Int))) = false := by rw [beq_eq_false_iff_ne]; intro h; exact hz ⟨by omega, by omega⟩
    rw [hb_] at hs; clear hb_
    exact wpList_nil (K_ _ _ hs)
   clear hs w a; intro a w hs
   refine goE 1 [] [9, 5, 0, 1] hs .n ?_; clear hs w a; intro a w hs
   refine wp_drawS [.p [] [], .p [] [], .p [1] [], .p [2] [], .x [3] ⟨[], [], [], fun vs4 => vs4 4 = u, fun vs4 => [], none⟩, .p [] [], .p [] [], .p [] [0], .p [7, 6] [], .x [8] ⟨[], [], [], fun vs4 => vs4 9 = .slice (some ⟨(ptrG (vs4 9)), 0, none⟩) 1 1, fun vs4 => [blk (ptrG (vs4 9)) [.int .i64 (x.t), .int .i64 (x.t), .int .i64 (x.tm), x.v] 140], none⟩, .x [5] ⟨[row u 140 4 l.length (l.flatMap riV)], [9], [], fun vs4 => True, fun vs4 => [row (vs4 10) 140 4 ((kins l (kpos (sns l) x.t) x).length) (((kins l (kpos (sns l) x.t) x).flatMap riV))], none⟩, .p [0] [], .p [11] [], .x [12] ⟨[blk g [u, .int .i64 (((most : Nat) : Int)), .int .i64 (fl), .bool (gone)] 138], [], [10], fun vs4 => True, fun vs4 => [blk g [(vs4 10), .int .i64 (((most : Nat) : Int)), .int .i64 (fl), .bool (gone)] 138], none⟩] [] hs (.c (.s (.s .z)) (.c .z .n)) (.c .z .n) (by kernel_rfl) ⟨rfl, ⟨rfl, by kernel_rfl, fun _ => rfl⟩, ⟨?_, ?_, ?_, ?_, trivial⟩, ?_⟩
   ·
    intro a_ w_ R_ rest_ vs4 hm hs ht hx
    have hs0 := hs.bare
    refine st_ldE hs rfl (hm.own (List.mem_append.2 (.inr ((hx 13 (twB_spec 14 _ (by kernel_rfl))).1 _ (List.Mem.head _))))) .z Tryz.isAgg136 rfl ?_; clear hs; intro a w hs
    exact wpList_nil ⟨rfl, _, _, hs0, (.c .r), hs, rfl⟩
   ·
    intro a_ w_ R_ rest_ vs4 hm hs ht hx
    have hs0 := hs.bare
    refine st_bs (cs := [.int .i64 (x.t), .int .i64 (x.t), .int .i64 (x.tm), x.v]) hs (.c .n) (.c rfl .n) Tryz.underlying136 (ie := Tryz.t140) rfl rfl rfl rfl (by decide) (by decide) rfl (by decide) rfl rfl rfl ?_; clear hs; intro g5 a w hs
    exact wpList_nil ⟨rfl, _, _, hs0, (.c .r), hs, rfl⟩
   ·
    intro a_ w_ R_ rest_ vs4 hm hs ht hx
    have t4 := ht 4 (twB_spec 14 _ (by kernel_rfl))
    have e4 : _ = some (vs4 4) := t4.val rfl
    rw [show vs4 4 = u from t4.2.1] at e4
    replace hs := hs.learn e4
    have t9 := ht 9 (twB_spec 14 _ (by kernel_rfl))
    have e9 : _ = some (vs4 9) := t9.val rfl
    rw [show vs4 9 = .slice (some ⟨(ptrG (vs4 9)), 0, none⟩) 1 1 from t9.2.1] at e9
    replace hs := hs.learn e9
    have hs0 := hs.bare
    refine st_call hs (.c rfl (.c rfl (.c rfl .n))) Tryz.call82 (.c .z (.c .z .n)) (ins_one (x := x) (hs.mem.del .z) (hs.mem.del (.s .z)) (hs.mem.ndX (.c .z (.c .z .n))) (by omega) hiv hxs (by omega)) rfl ?_; clear hs; rintro v6 _ a w rfl hs; simp only [List.cons_append, List.nil_append] at hs
    exact wpList_nil ⟨rfl, _, _, hs0, (.c (.c (.c .r))), hs, trivial⟩
   ·
    intro a_ w_ R_ rest_ vs4 hm hs ht hx
    have t10 := ht 10 (twB_spec 14 _ (by kernel_rfl))
    have e10 : _ = some (vs4 10) := t10.val rfl
    replace hs := hs.learn e10
    have hs0 := hs.bare
    refine st_stB hs rfl rfl .z .z (rd_row (hm.own (List.mem_append.2 (.inr ((ht 10 (twB_spec 14 _ (by kernel_rfl))).2.2 (later (n := 14) (by kernel_rfl)) _ (List.Mem.head _)))))).isSl.one Tryz.sizeOf136 ?_; clear hs; intro a w hs
    exact wpList_nil ⟨rfl, .tuple #[], _, hs0, (.c (.c .r)), hs, trivial⟩
   clear hs w a; intro vs4 a w hs hf
   generalize vs4 10 = v7 at hs
   clear hf
   refine goE 0 [] [0] hs .n ?_; clear hs w a; intro a w hs
   refine wp_drawN [.p [] [], .p [0] [], .p [1] [], .p [2] [0], .v [3] (.int .i64 ((((kins l (kpos (sns l) x.t) x).length : Nat) : Int))), .p [] [], .p [5] [], .p [6] [], .p [7] [0], .p [8, 4] []] [9] hs (.c (.s (.s .z)) .n) (by kernel_rfl) ⟨rfl, ?_, rfl, ⟨rfl, by kernel_rfl, fun _ => rfl, trivial⟩, ?_⟩
   ·
    intro a_ w_ R_ Q_ hm hs K_
    have hm0 := hm
    refine st_len hs rfl (rd_row (hm0.del (.s .z))).isSl Tryz.underlying136 rfl ?_; clear hs; intro a w hs
    exact wpList_nil (K_ _ _ hs)
   clear hs w a; intro a w hs
   refine goE 0 [] [70, 0] hs .n ?_; clear hs w a; intro a w hs
   refine ifG hs rfl (fun c_9 => ?_) (fun c_9 => ?_)
   ·
    replace c_9 := of_decide_eq_true c_9
    refine go 3 [] [8, 7, 6] hs .n ?_; clear hs w a; intro a w hs
    replace hs := hs.drop (.c .z .n)
    replace hs := hs.reorder (.c (.s .z) (.c .z .n))
    first | exact fin3 hs rfl rfl rfl rfl ⟨_, by unfold layP layQ; rw [if_pos (by omega), if_pos (by omega)], by unfold layL layF layG; rw [if_pos (by omega), if_pos (by omega), if_pos (by omega)]⟩ | exact fin3 hs rfl rfl rfl rfl ⟨_, by unfold layP layQ; rw [if_neg (by omega), if_neg (by omega)], by unfold layL layF layG; rw [if_neg (by omega), if_neg (by omega), if_neg (by omega)]⟩
   replace c_9 := of_decide_eq_false c_9
   refine go 6 [0] [76, 72, 71, 0] hs (.c (.s (.s .z)) .n) ⟨rfl, ?_⟩; clear hs w a; intro a w hs
   refine st_ia (j := 0) hs rfl rfl (rd_row (hs.mem.del (.s (.s .z)))) (by decide) (by omega) Tryz.underlying136 Tryz.sizeOf140 rfl ?_; clear hs w a; intro a w hs
   refine st_faV hs rfl (rd_row (hs.mem.del (.s (.s .z)))) (by omega) Tryz.underlying140 rfl Tryz.sizeOf2 (by decide) (o := 0 * 4 + 0) rfl rfl ?_; clear hs w a; intro a w hs
   refine st_ld (u := .int .i64 (((kins l (kpos (sns l) x.t) x).getD 0 default).t)) hs rfl (rd_row (hs.mem.del (.s (.s .z)))) ((flat_get1 riV_len (kins l (kpos (sns l) x.t) x) 0 0 (by omega) (by decide)).trans rfl) Tryz.isAgg2 rfl ?_; clear hs w a; intro a w hs
   refine goL 11 [0, 0, 0] [88, 84, 0] hs (.c .z .n) ⟨rfl, rfl, rfl, ?_⟩; clear hs w a; intro a w hs
   refine st_call hs (.c rfl (.c rfl (.c rfl .n))) Tryz.call83 (.c (.s (.s .z)) .n) (del_one (hs.mem.del (.s (.s .z))) (by omega) hiK (by omega)) rfl ?_; clear hs w a; rintro v10 _ a w rfl hs; simp only [List.cons_append, List.nil_append] at hs
   refine goL 2 [] [91, 89, 0] hs .n ?_; clear hs w a; intro a w hs
   refine st_stB hs rfl rfl (.s .z) .z (rd_row (hs.mem.del .z)).isSl.one Tryz.sizeOf136 ?_; clear hs w a; intro a w hs
   refine goL 7 [0] [8, 7, 6] hs (.c .z .n) ⟨rfl, ?_⟩; clear hs w a; intro a w hs
   replace hs := hs.drop (.c (.s (.s .z)) .n)
   first | exact fin3 hs rfl rfl rfl rfl ⟨_, by unfold layP layQ; rw [if_pos (by omega), if_pos (by omega)], by unfold layL layF layG; rw [if_pos (by omega), if_pos (by omega), if_pos (by omega)]⟩ | exact fin3 hs rfl rfl rfl rfl ⟨_, by unfold layP layQ; rw [if_neg (by omega), if_neg (by omega)], by unfold layL layF layG; rw [if_neg (by omega), if_neg (by omega), if_neg (by omega)]⟩
  refine wp_drawN [.p [] [], .v [0] (.bool (false)), .p [1] [], .p [2] [], .p [3, 2] [], .p [4, 2] [], .p [5, 2] [], .p [6, 2] [], .p [2] [], .p [8, 2] [], .p [9, 2] [], .p [10, 2] [], .v [11, 7, 2] undef, .p [12, 2] [], .p [13] []] [14] hs .n (by kernel_rfl) ⟨?_, ?_, ⟨rfl, by kernel_rfl, fun _ => rfl, trivial⟩, ?_⟩
  ·
   intro a_ w_ R_ Q_ hm hs K_
   refine st_eql hs rfl rfl rfl ?_; clear hs; intro a w hs
   have hb_ : ((((kpos (sns l) x.t : Nat) : Int) : Int) == 0) = false := by rw [beq_eq_false_iff_ne]; omega
   rw [hb_] at hs; clear hb_
   exact wpList_nil (K_ _ _ hs)
  ·
   intro a_ w_ R_ Q_ hm hs K_
   refine st_guardF hs rfl rfl rfl rfl rfl ?_; clear hs; intro a w hs
   exact wpList_nil (K_ _ _ hs)
  clear hs w a; intro a w hs
  refine goE 1 [] [9, 5, 0, 1] hs .n ?_; clear hs w a; intro a w hs
  refine wp_drawS [.p [] [], .p [] [], .p [1] [], .p [2] [], .x [3] ⟨[], [], [], fun vs12 => vs12 4 = u, fun vs12 => [], none⟩, .p [] [], .p [] [], .p [] [0], .p [7, 6] [], .x [8] ⟨[], [], [], fun vs12 => vs12 9 = .slice (some ⟨(ptrG (vs12 9)), 0, none⟩) 1 1, fun vs12 => [blk (ptrG (vs12 9)) [.int .i64 (x.t), .int .i64 (x.t), .int .i64 (x.tm), x.v] 140], none⟩, .x [5] ⟨[row u 140 4 l.length (l.flatMap riV)], [9], [], fun vs12 => True, fun vs12 => [row (vs12 10) 140 4 ((kins l (kpos (sns l) x.t) x).length) (((kins l (kpos (sns l) x.t) x).flatMap riV))], none⟩, .p [0] [], .p [11] [], .x [12] ⟨[blk g [u, .int .i64 (((most : Nat) : Int)), .int .i64 (fl), .bool (gone)] 138], [], [10], fun vs12 => True, fun vs12 => [blk g [(vs12 10), .int .i64 (((most : Nat) : Int)), .int .i64 (fl), .bool (gone)] 138], none⟩] [] hs (.c (.s (.s .z)) (.c .z .n)) (.c .z .n) (by kernel_rfl) ⟨rfl, ⟨rfl, by kernel_rfl, fun _ => rfl⟩, ⟨?_, ?_, ?_, ?_, trivial⟩, ?_⟩
  ·
   intro a_ w_ R_ rest_ vs12 hm hs ht hx
   have hs0 := hs.bare
   refine st_ldE hs rfl (hm.own (List.mem_append.2 (.inr ((hx 13 (twB_spec 14 _ (by kernel_rfl))).1 _ (List.Mem.head _))))) .z Tryz.isAgg136 rfl ?_; clear hs; intro a w hs
   exact wpList_nil ⟨rfl, _, _, hs0, (.c .r), hs, rfl⟩
  ·
   intro a_ w_ R_ rest_ vs12 hm hs ht hx
   have hs0 := hs.bare
   refine st_bs (cs := [.int .i64 (x.t), .int .i64 (x.t), .int .i64 (x.tm), x.v]) hs (.c .n) (.c rfl .n) Tryz.underlying136 (ie := Tryz.t140) rfl rfl rfl rfl (by decide) (by decide) rfl (by decide) rfl rfl rfl ?_; clear hs; intro g13 a w hs
   exact wpList_nil ⟨rfl, _, _, hs0, (.c .r), hs, rfl⟩
  ·
   intro a_ w_ R_ rest_ vs12 hm hs ht hx
   have t4 := ht 4 (twB_spec 14 _ (by kernel_rfl))
   have e4 : _ = some (vs12 4) := t4.val rfl
   rw [show vs12 4 = u from t4.2.1] at e4
   replace hs := hs.learn e4
   have t9 := ht 9 (twB_spec 14 _ (by kernel_rfl))
   have e9 : _ = some (vs12 9) := t9.val rfl
   rw [show vs12 9 = .slice (some ⟨(ptrG (vs12 9)), 0, none⟩) 1 1 from t9.2.1] at e9
   replace hs := hs.learn e9
   have hs0 := hs.bare
   refine st_call hs (.c rfl (.c rfl (.c rfl .n))) Tryz.call82 (.c .z (.c .z .n)) (ins_one (x := x) (hs.mem.del .z) (hs.mem.del (.s .z)) (hs.mem.ndX (.c .z (.c .z .n))) (by omega) hiv hxs (by omega)) rfl ?_; clear hs; rintro v14 _ a w rfl hs; simp only [List.cons_append, List.nil_append] at hs
   exact wpList_nil ⟨rfl, _, _, hs0, (.c (.c (.c .r))), hs, trivial⟩
  ·
   intro a_ w_ R_ rest_ vs12 hm hs ht hx
   have t10 := ht 10 (twB_spec 14 _ (by kernel_rfl))
   have e10 : _ = some (vs12 10) := t10.val rfl
   replace hs := hs.learn e10
   have hs0 := hs.bare
   refine st_stB hs rfl rfl .z .z (rd_row (hm.own (List.mem_append.2 (.inr ((ht 10 (twB_spec 14 _ (by kernel_rfl))).2.2 (later (n := 14) (by kernel_rfl)) _ (List.Mem.head _)))))).isSl.one Tryz.sizeOf136 ?_; clear hs; intro a w hs
   exact wpList_nil ⟨rfl, .tuple #[], _, hs0, (.c (.c .r)), hs, trivial⟩
  clear hs w a; intro vs12 a w hs hf
  generalize vs12 10 = v15 at hs
  clear hf
  refine goE 0 [] [0] hs .n ?_; clear hs w a; intro a w hs
  refine wp_drawN [.p [] [], .p [0] [], .p [1] [], .p [2] [0], .v [3] (.int .i64 ((((kins l (kpos (sns l) x.t) x).length : Nat) : Int))), .p [] [], .p [5] [], .p [6] [], .p [7] [0], .p [8, 4] []] [9] hs (.c (.s (.s .z)) .n) (by kernel_rfl) ⟨rfl, ?_, rfl, ⟨rfl, by kernel_rfl, fun _ => rfl, trivial⟩, ?_⟩
  ·
   intro a_ w_ R_ Q_ hm hs K_
   have hm0 := hm
   refine st_len hs rfl (rd_row (hm0.del (.s .z))).isSl Tryz.underlying136 rfl ?_; clear hs; intro a w hs
   exact wpList_nil (K_ _ _ hs)
  clear hs w a; intro a w hs
  refine goE 0 [] [70, 0] hs .n ?_; clear hs w a; intro a w hs
  refine ifG hs rfl (fun c_17 => ?_) (fun c_17 => ?_)
  ·
   replace c_17 := of_decide_eq_true c_17
   refine go 3 [] [8, 7, 6] hs .n ?_; clear hs w a; intro a w hs
   replace hs := hs.drop (.c .z .n)
   replace hs := hs.reorder (.c (.s .z) (.c .z .n))
   first | exact fin3 hs rfl rfl rfl rfl ⟨_, by unfold layP layQ; rw [if_pos (by omega), if_pos (by omega)], by unfold layL layF layG; rw [if_pos (by omega), if_pos (by omega), if_pos (by omega)]⟩ | exact fin3 hs rfl rfl rfl rfl ⟨_, by unfold layP layQ; rw [if_neg (by omega), if_neg (by omega)], by unfold layL layF layG; rw [if_neg (by omega), if_neg (by omega), if_neg (by omega)]⟩
  replace c_17 := of_decide_eq_false c_17
  refine go 6 [0] [76, 72, 71, 0] hs (.c (.s (.s .z)) .n) ⟨rfl, ?_⟩; clear hs w a; intro a w hs
  refine st_ia (j := 0) hs rfl rfl (rd_row (hs.mem.del (.s (.s .z)))) (by decide) (by omega) Tryz.underlying136 Tryz.sizeOf140 rfl ?_; clear hs w a; intro a w hs
  refine st_faV hs rfl (rd_row (hs.mem.del (.s (.s .z)))) (by omega) Tryz.underlying140 rfl Tryz.sizeOf2 (by decide) (o := 0 * 4 + 0) rfl rfl ?_; clear hs w a; intro a w hs
  refine st_ld (u := .int .i64 (((kins l (kpos (sns l) x.t) x).getD 0 default).t)) hs rfl (rd_row (hs.mem.del (.s (.s .z)))) ((flat_get1 riV_len (kins l (kpos (sns l) x.t) x) 0 0 (by omega) (by decide)).trans rfl) Tryz.isAgg2 rfl ?_; clear hs w a; intro a w hs
  refine goL 11 [0, 0, 0] [88, 84, 0] hs (.c .z .n) ⟨rfl, rfl, rfl, ?_⟩; clear hs w a; intro a w hs
  refine st_call hs (.c rfl (.c rfl (.c rfl .n))) Tryz.call83 (.c (.s (.s .z)) .n) (del_one (hs.mem.del (.s (.s .z))) (by omega) hiK (by omega)) rfl ?_; clear hs w a; rintro v18 _ a w rfl hs; simp only [List.cons_append, List.nil_append] at hs
  refine goL 2 [] [91, 89, 0] hs .n ?_; clear hs w a; intro a w hs
  refine st_stB hs rfl rfl (.s .z) .z (rd_row (hs.mem.del .z)).isSl.one Tryz.sizeOf136 ?_; clear hs w a; intro a w hs
  refine goL 7 [0] [8, 7, 6] hs (.c .z .n) ⟨rfl, ?_⟩; clear hs w a; intro a w hs
  replace hs := hs.drop (.c (.s (.s .z)) .n)
  first | exact fin3 hs rfl rfl rfl rfl ⟨_, by unfold layP layQ; rw [if_pos (by omega), if_pos (by omega)], by unfold layL layF layG; rw [if_pos (by omega), if_pos (by omega), if_pos (by omega)]⟩ | exact fin3 hs rfl rfl rfl rfl ⟨_, by unfold layP layQ; rw [if_neg (by omega), if_neg (by omega)], by unfold layL layF layG; rw [if_neg (by omega), if_neg (by omega), if_neg (by omega)]⟩
 rw [c_2] at hs
 refine go 9 [] [9, 5, 0, 1] hs .n ?_; clear hs w a; intro a w hs
 by_cases kz : kpos (sns l) x.t = 0
 ·
  refine wp_drawN [.p [] [], .v [0] (.bool (true)), .p [1] [], .p [2] [], .p [3, 2] [], .p [4, 2] [], .p [5, 2] [0], .v [6, 2] (.int .i64 (((l.length : Nat) : Int))), .p [2] [], .p [8, 2] [], .p [9, 2] [], .p [10, 2] [0], .v [11, 7, 2] (.bool (false)), .p [12, 2] [], .p [13] []] [14] hs (.c .z .n) (by kernel_rfl) ⟨?_, rfl, ?_, rfl, ?_, ⟨rfl, by kernel_rfl, fun _ => rfl, trivial⟩, ?_⟩
  ·
   intro a_ w_ R_ Q_ hm hs K_
   refine st_eql hs rfl rfl rfl ?_; clear hs; intro a w hs
   have hb_ : ((((kpos (sns l) x.t : Nat) : Int) : Int) == 0) = true := by rw [beq_iff_eq]; omega
   rw [hb_] at hs; clear hb_
   exact wpList_nil (K_ _ _ hs)
  ·
   intro a_ w_ R_ Q_ hm hs K_
   have hm0 := hm
   refine st_guardT hs rfl rfl rfl ?_
   refine st_len hs rfl (rd_row (hm0.del (.s (.s .z)))).isSl Tryz.underlying136 rfl ?_; clear hs; intro a w hs
   exact wpList_nil (K_ _ _ hs)
  ·
   intro a_ w_ R_ Q_ hm hs K_
   refine st_guardT hs rfl rfl rfl ?_
   refine st_eql hs rfl rfl rfl ?_; clear hs; intro a w hs
   have hb_ : ((((l.length : Nat) : Int) : Int) == (((most : Nat) : Int))) = false := by rw [beq_eq_false_iff_ne]; intro h; exact hz ⟨by omega, by omega⟩
   rw [hb_] at hs; clear hb_
   exact wpList_nil (K_ _ _ hs)
  clear hs w a; intro a w hs
  refine goE 1 [] [9, 5, 0, 1] hs .n ?_; clear hs w a; intro a w hs
  refine wp_drawS [.p [] [], .p [] [], .p [1] [], .p [2] [], .x [3] ⟨[], [], [], fun vs20 => vs20 4 = u, fun vs20 => [], none⟩, .p [] [], .p [] [], .p [] [0], .p [7, 6] [], .x [8] ⟨[], [], [], fun vs20 => vs20 9 = .slice (some ⟨(ptrG (vs20 9)), 0, none⟩) 1 1, fun vs20 => [blk (ptrG (vs20 9)) [.int .i64 (x.t), .int .i64 (x.t), .int .i64 (x.tm), x.v] 140], none⟩, .x [5] ⟨[row u 140 4 l.length (l.flatMap riV)], [9], [], fun vs20 => True, fun vs20 => [row (vs20 10) 140 4 ((kins l (kpos (sns l) x.t) x).length) (((kins l (kpos (sns l) x.t) x).flatMap riV))], none⟩, .p [0] [], .p [11] [], .x [12] ⟨[blk g [u, .int .i64 (((most : Nat) : Int)), .int .i64 (fl), .bool (gone)] 138], [], [10], fun vs20 => True, fun vs20 => [blk g [(vs20 10), .int .i64 (((most : Nat) : Int)), .int .i64 (fl), .bool (gone)] 138], none⟩] [] hs (.c (.s (.s .z)) (.c .z .n)) (.c .z .n) (by kernel_rfl) ⟨rfl, ⟨rfl, by kernel_rfl, fun _ => rfl⟩, ⟨?_, ?_, ?_, ?_, trivial⟩, ?_⟩
  ·
   intro a_ w_ R_ rest_ vs20 hm hs ht hx
   have hs0 := hs.bare
   refine st_ldE hs rfl (hm.own (List.mem_append.2 (.inr ((hx 13 (twB_spec 14 _ (by kernel_rfl))).1 _ (List.Mem.head _))))) .z Tryz.isAgg136 rfl ?_; clear hs; intro a w hs
   exact wpList_nil ⟨rfl, _, _, hs0, (.c .r), hs, rfl⟩
  ·
   intro a_ w_ R_ rest_ vs20 hm hs ht hx
   have hs0 := hs.bare
   refine st_bs (cs := [.int .i64 (x.t), .int .i64 (x.t), .int .i64 (x.tm), x.v]) hs (.c .n) (.c rfl .n) Tryz.underlying136 (ie := Tryz.t140) rfl rfl rfl rfl (by decide) (by decide) rfl (by decide) rfl rfl rfl ?_; clear hs; intro g21 a w hs
   exact wpList_nil ⟨rfl, _, _, hs0, (.c .r), hs, rfl⟩
  ·
   intro a_ w_ R_ rest_ vs20 hm hs ht hx
   have t4 := ht 4 (twB_spec 14 _ (by kernel_rfl))
   have e4 : _ = some (vs20 4) := t4.val rfl
   rw [show vs20 4 = u from t4.2.1] at e4
   replace hs := hs.learn e4
   have t9 := ht 9 (twB_spec 14 _ (by kernel_rfl))
   have e9 : _ = some (vs20 9) := t9.val rfl
   rw [show vs20 9 = .slice (some ⟨(ptrG (vs20 9)), 0, none⟩) 1 1 from t9.2.1] at e9
   replace hs := hs.learn e9
   have hs0 := hs.bare
   refine st_call hs (.c rfl (.c rfl (.c rfl .n))) Tryz.call82 (.c .z (.c .z .n)) (ins_one (x := x) (hs.mem.del .z) (hs.mem.del (.s .z)) (hs.mem.ndX (.c .z (.c .z .n))) (by omega) hiv hxs (by omega)) rfl ?_; clear hs; rintro v22 _ a w rfl hs; simp only [List.cons_append, List.nil_append] at hs
   exact wpList_nil ⟨rfl, _, _, hs0, (.c (.c (.c .r))), hs, trivial⟩
  ·
   intro a_ w_ R_ rest_ vs20 hm hs ht hx
   have t10 := ht 10 (twB_spec 14 _ (by kernel_rfl))
   have e10 : _ = some (vs20 10) := t10.val rfl
   replace hs := hs.learn e10
   have hs0 := hs.bare
   refine st_stB hs rfl rfl .z .z (rd_row (hm.own (List.mem_append.2 (.inr ((ht 10 (twB_spec 14 _ (by kernel_rfl))).2.2 (later (n := 14) (by kernel_rfl)) _ (List.Mem.head _)))))).isSl.one Tryz.sizeOf136 ?_; clear hs; intro a w hs
   exact wpList_nil ⟨rfl, .tuple #[], _, hs0, (.c (.c .r)), hs, trivial⟩
  clear hs w a; intro vs20 a w hs hf
  generalize vs20 10 = v23 at hs
  clear hf
  refine goE 0 [] [0] hs .n ?_; clear hs w a; intro a w hs
  refine wp_drawN [.p [] [], .p [0] [], .p [1] [], .p [2] [0], .v [3] (.int .i64 ((((kins l (kpos (sns l) x.t) x).length : Nat) : Int))), .p [] [], .p [5] [], .p [6] [], .p [7] [0], .p [8, 4] []] [9] hs (.c (.s (.s .z)) .n) (by kernel_rfl) ⟨rfl, ?_, rfl, ⟨rfl, by kernel_rfl, fun _ => rfl, trivial⟩, ?_⟩
  ·
   intro a_ w_ R_ Q_ hm hs K_
   have hm0 := hm
   refine st_len hs rfl (rd_row (hm0.del (.s .z))).isSl Tryz.underlying136 rfl ?_; clear hs; intro a w hs
   exact wpList_nil (K_ _ _ hs)
  clear hs w a; intro a w hs
  refine goE 0 [] [70, 0] hs .n ?_; clear hs w a; intro a w hs
  refine ifG hs rfl (fun c_25 => ?_) (fun c_25 => ?_)
  ·
   replace c_25 := of_decide_eq_true c_25
   refine go 3 [] [8, 7, 6] hs .n ?_; clear hs w a; intro a w hs
   replace hs := hs.drop (.c .z .n)
   replace hs := hs.reorder (.c (.s .z) (.c .z .n))
   first | exact fin3 hs rfl rfl rfl rfl ⟨_, by unfold layP layQ; rw [if_pos (by omega), if_pos (by omega)], by unfold layL layF layG; rw [if_pos (by omega), if_pos (by omega), if_pos (by omega)]⟩ | exact fin3 hs rfl rfl rfl rfl ⟨_, by unfold layP layQ; rw [if_neg (by omega), if_neg (by omega)], by unfold layL layF layG; rw [if_neg (by omega), if_neg (by omega), if_neg (by omega)]⟩
  replace c_25 := of_decide_eq_false c_25
  refine go 6 [0] [76, 72, 71, 0] hs (.c (.s (.s .z)) .n) ⟨rfl, ?_⟩; clear hs w a; intro a w hs
  refine st_ia (j := 0) hs rfl rfl (rd_row (hs.mem.del (.s (.s .z)))) (by decide) (by omega) Tryz.underlying136 Tryz.sizeOf140 rfl ?_; clear hs w a; intro a w hs
  refine st_faV hs rfl (rd_row (hs.mem.del (.s (.s .z)))) (by omega) Tryz.underlying140 rfl Tryz.sizeOf2 (by decide) (o := 0 * 4 + 0) rfl rfl ?_; clear hs w a; intro a w hs
  refine st_ld (u := .int .i64 (((kins l (kpos (sns l) x.t) x).getD 0 default).t)) hs rfl (rd_row (hs.mem.del (.s (.s .z)))) ((flat_get1 riV_len (kins l (kpos (sns l) x.t) x) 0 0 (by omega) (by decide)).trans rfl) Tryz.isAgg2 rfl ?_; clear hs w a; intro a w hs
  refine goL 11 [0, 0, 0] [88, 84, 0] hs (.c .z .n) ⟨rfl, rfl, rfl, ?_⟩; clear hs w a; intro a w hs
  refine st_call hs (.c rfl (.c rfl (.c rfl .n))) Tryz.call83 (.c (.s (.s .z)) .n) (del_one (hs.mem.del (.s (.s .z))) (by omega) hiK (by omega)) rfl ?_; clear hs w a; rintro v26 _ a w rfl hs; simp only [List.cons_append, List.nil_append] at hs
  refine goL 2 [] [91, 89, 0] hs .n ?_; clear hs w a; intro a w hs
  refine st_stB hs rfl rfl (.s .z) .z (rd_row (hs.mem.del .z)).isSl.one Tryz.sizeOf136 ?_; clear hs w a; intro a w hs
  refine goL 7 [0] [8, 7, 6] hs (.c .z .n) ⟨rfl, ?_⟩; clear hs w a; intro a w hs
  replace hs := hs.drop (.c (.s (.s .z)) .n)
  first | exact fin3 hs rfl rfl rfl rfl ⟨_, by unfold layP layQ; rw [if_pos (by omega), if_pos (by omega)], by unfold layL layF layG; rw [if_pos (by omega), if_pos (by omega), if_pos (by omega)]⟩ | exact fin3 hs rfl rfl rfl rfl ⟨_, by unfold layP layQ; rw [if_neg (by omega), if_neg (by omega)], by unfold layL layF layG; rw [if_neg (by omega), if_neg (by omega), if_neg (by omega)]⟩
 refine wp_drawN [.p [] [], .v [0] (.bool (false)), .p [1] [], .p [2] [], .p [3, 2] [], .p [4, 2] [], .p [5, 2] [], .p [6, 2] [], .p [2] [], .p [8, 2] [], .p [9, 2] [], .p [10, 2] [], .v [11, 7, 2] undef, .p [12, 2] [], .p [13] []] [14] hs .n (by kernel_rfl) ⟨?_, ?_, ⟨rfl, by kernel_rfl, fun _ => rfl, trivial⟩, ?_⟩
 ·
  intro a_ w_ R_ Q_ hm hs K_
  refine st_eql hs rfl rfl rfl ?_; clear hs; intro a w hs
  have hb_ : ((((kpos (sns l) x.t : Nat) : Int) : Int) == 0) = false := by rw [beq_eq_false_iff_ne]; omega
  rw [hb_] at hs; clear hb_
  exact wpList_nil (K_ _ _ hs)
 ·
  intro a_ w_ R_ Q_ hm hs K_
  refine st_guardF hs rfl rfl rfl rfl rfl ?_; clear hs; intro a w hs
  exact wpList_nil (K_ _ _ hs)
 clear hs w a; intro a w hs
 refine goE 1 [] [9, 5, 0, 1] hs .n ?_; clear hs w a; intro a w hs
 refine wp_drawS [.p [] [], .p [] [], .p [1] [], .p [2] [], .x [3] ⟨[], [], [], fun vs28 => vs28 4 = u, fun vs28 => [], none⟩, .p [] [], .p [] [], .p [] [0], .p [7, 6] [], .x [8] ⟨[], [], [], fun vs28 => vs28 9 = .slice (some ⟨(ptrG (vs28 9)), 0, none⟩) 1 1, fun vs28 => [blk (ptrG (vs28 9)) [.int .i64 (x.t), .int .i64 (x.t), .int .i64 (x.tm), x.v] 140], none⟩, .x [5] ⟨[row u 140 4 l.length (l.flatMap riV)], [9], [], fun vs28 => True, fun vs28 => [row (vs28 10) 140 4 ((kins l (kpos (sns l) x.t) x).length) (((kins l (kpos (sns l) x.t) x).flatMap riV))], none⟩, .p [0] [], .p [11] [], .x [12] ⟨[blk g [u, .int .i64 (((most : Nat) : Int)), .int .i64 (fl), .bool (gone)] 138], [], [10], fun vs28 => True, fun vs28 => [blk g [(vs28 10), .int .i64 (((most : Nat) : Int)), .int .i64 (fl), .bool (gone)] 138], none⟩] [] hs (.c (.s (.s .z)) (.c .z .n)) (.c .z .n) (by kernel_rfl) ⟨rfl, ⟨rfl, by kernel_rfl, fun _ => rfl⟩, ⟨?_, ?_, ?_, ?_, trivial⟩, ?_⟩
 ·
  intro a_ w_ R_ rest_ vs28 hm hs ht hx
  have hs0 := hs.bare
  refine st_ldE hs rfl (hm.own (List.mem_append.2 (.inr ((hx 13 (twB_spec 14 _ (by kernel_rfl))).1 _ (List.Mem.head _))))) .z Tryz.isAgg136 rfl ?_; clear hs; intro a w hs
  exact wpList_nil ⟨rfl, _, _, hs0, (.c .r), hs, rfl⟩
 ·
  intro a_ w_ R_ rest_ vs28 hm hs ht hx
  have hs0 := hs.bare
  refine st_bs (cs := [.int .i64 (x.t), .int .i64 (x.t), .int .i64 (x.tm), x.v]) hs (.c .n) (.c rfl .n) Tryz.underlying136 (ie := Tryz.t140) rfl rfl rfl rfl (by decide) (by decide) rfl (by decide) rfl rfl rfl ?_; clear hs; intro g29 a w hs
  exact wpList_nil ⟨rfl, _, _, hs0, (.c .r), hs, rfl⟩
 ·
  intro a_ w_ R_ rest_ vs28 hm hs ht hx
  have t4 := ht 4 (twB_spec 14 _ (by kernel_rfl))
  have e4 : _ = some (vs28 4) := t4.val rfl
  rw [show vs28 4 = u from t4.2.1] at e4
  replace hs := hs.learn e4
  have t9 := ht 9 (twB_spec 14 _ (by kernel_rfl))
  have e9 : _ = some (vs28 9) := t9.val rfl
  rw [show vs28 9 = .slice (some ⟨(ptrG (vs28 9)), 0, none⟩) 1 1 from t9.2.1] at e9
  replace hs := hs.learn e9
  have hs0 := hs.bare
  refine st_call hs (.c rfl (.c rfl (.c rfl .n))) Tryz.call82 (.c .z (.c .z .n)) (ins_one (x := x) (hs.mem.del .z) (hs.mem.del (.s .z)) (hs.mem.ndX (.c .z (.c .z .n))) (by omega) hiv hxs (by omega)) rfl ?_; clear hs; rintro v30 _ a w rfl hs; simp only [List.cons_append, List.nil_append] at hs
  exact wpList_nil ⟨rfl, _, _, hs0, (.c (.c (.c .r))), hs, trivial⟩
 ·
  intro a_ w_ R_ rest_ vs28 hm hs ht hx
  have t10 := ht 10 (twB_spec 14 _ (by kernel_rfl))
  have e10 : _ = some (vs28 10) := t10.val rfl
  replace hs := hs.learn e10
  have hs0 := hs.bare
  refine st_stB hs rfl rfl .z .z (rd_row (hm.own (List.mem_append.2 (.inr ((ht 10 (twB_spec 14 _ (by kernel_rfl))).2.2 (later (n := 14) (by kernel_rfl)) _ (List.Mem.head _)))))).isSl.one Tryz.sizeOf136 ?_; clear hs; intro a w hs
  exact wpList_nil ⟨rfl, .tuple #[], _, hs0, (.c (.c .r)), hs, trivial⟩
 clear hs w a; intro vs28 a w hs hf
 generalize vs28 10 = v31 at hs
 clear hf
 refine goE 0 [] [0] hs .n ?_; clear hs w a; intro a w hs
 refine wp_drawN [.p [] [], .p [0] [], .p [1] [], .p [2] [0], .v [3] (.int .i64 ((((kins l (kpos (sns l) x.t) x).length : Nat) : Int))), .p [] [], .p [5] [], .p [6] [], .p [7] [0], .p [8, 4] []] [9] hs (.c (.s (.s .z)) .n) (by kernel_rfl) ⟨rfl, ?_, rfl, ⟨rfl, by kernel_rfl, fun _ => rfl, trivial⟩, ?_⟩
 ·
  intro a_ w_ R_ Q_ hm hs K_
  have hm0 := hm
  refine st_len hs rfl (rd_row (hm0.del (.s .z))).isSl Tryz.underlying136 rfl ?_; clear hs; intro a w hs
  exact wpList_nil (K_ _ _ hs)
 clear hs w a; intro a w hs
 refine goE 0 [] [70, 0] hs .n ?_; clear hs w a; intro a w hs
 refine ifG hs rfl (fun c_33 => ?_) (fun c_33 => ?_)
 ·
  replace c_33 := of_decide_eq_true c_33
  refine go 3 [] [8, 7, 6] hs .n ?_; clear hs w a; intro a w hs
  replace hs := hs.drop (.c .z .n)
  replace hs := hs.reorder (.c (.s .z) (.c .z .n))
  first | exact fin3 hs rfl rfl rfl rfl ⟨_, by unfold layP layQ; rw [if_pos (by omega), if_pos (by omega)], by unfold layL layF layG; rw [if_pos (by omega), if_pos (by omega), if_pos (by omega)]⟩ | exact fin3 hs rfl rfl rfl rfl ⟨_, by unfold layP layQ; rw [if_neg (by omega), if_neg (by omega)], by unfold layL layF layG; rw [if_neg (by omega), if_neg (by omega), if_neg (by omega)]⟩
 replace c_33 := of_decide_eq_false c_33
 refine go 6 [0] [76, 72, 71, 0] hs (.c (.s (.s .z)) .n) ⟨rfl, ?_⟩; clear hs w a; intro a w hs
 refine st_ia (j := 0) hs rfl rfl (rd_row (hs.mem.del (.s (.s .z)))) (by decide) (by omega) Tryz.underlying136 Tryz.sizeOf140 rfl ?_; clear hs w a; intro a w hs
 refine st_faV hs rfl (rd_row (hs.mem.del (.s (.s .z)))) (by omega) Tryz.underlying140 rfl Tryz.sizeOf2 (by decide) (o := 0 * 4 + 0) rfl rfl ?_; clear hs w a; intro a w hs
 refine st_ld (u := .int .i64 (((kins l (kpos (sns l) x.t) x).getD 0 default).t)) hs rfl (rd_row (hs.mem.del (.s (.s .z)))) ((flat_get1 riV_len (kins l (kpos (sns l) x.t) x) 0 0 (by omega) (by decide)).trans rfl) Tryz.isAgg2 rfl ?_; clear hs w a; intro a w hs
 refine goL 11 [0, 0, 0] [88, 84, 0] hs (.c .z .n) ⟨rfl, rfl, rfl, ?_⟩; clear hs w a; intro a w hs
 refine st_call hs (.c rfl (.c rfl (.c rfl .n))) Tryz.call83 (.c (.s (.s .z)) .n) (del_one (hs.mem.del (.s (.s .z))) (by omega) hiK (by omega)) rfl ?_; clear hs w a; rintro v34 _ a w rfl hs; simp only [List.cons_append, List.nil_append] at hs
 refine goL 2 [] [91, 89, 0] hs .n ?_; clear hs w a; intro a w hs
 refine st_stB hs rfl rfl (.s .z) .z (rd_row (hs.mem.del .z)).isSl.one Tryz.sizeOf136 ?_; clear hs w a; intro a w hs
 refine goL 7 [0] [8, 7, 6] hs (.c .z .n) ⟨rfl, ?_⟩; clear hs w a; intro a w hs
 replace hs := hs.drop (.c (.s (.s .z)) .n)
 first | exact fin3 hs rfl rfl rfl rfl ⟨_, by unfold layP layQ; rw [if_pos (by omega), if_pos (by omega)], by unfold layL layF layG; rw [if_pos (by omega), if_pos (by omega), if_pos (by omega)]⟩ | exact fin3 hs rfl rfl rfl rfl ⟨_, by unfold layP layQ; rw [if_neg (by omega), if_neg (by omega)], by unfold layL layF layG; rw [if_neg (by omega), if_neg (by omega), if_neg (by omega)]⟩
end Go.Proofs.YtbioemaipghagaaGreat
