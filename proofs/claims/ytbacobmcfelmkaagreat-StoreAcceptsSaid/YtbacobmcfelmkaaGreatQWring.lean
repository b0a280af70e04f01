/- Walks of rings: what each function does, over the program of this seat. Printed by a program of this session. -/
import Derived.Test.YtbacobmcfelmkaaGreatQWins
import Derived.Test.YtbacobmcfelmkaaGreatQSxStos
import Derived.Test.YtbacobmcfelmkaaGreatQSxBasB
import Derived.Test.YtbacobmcfelmkaaGreatQSxRecs
import Derived.Test.YtbacobmcfelmkaaGreatQSxPdeltaN
namespace Go.Proofs.YtbacobmcfelmkaaGreat
open Tryz
open Go Go.Sx Go.RowKit
set_option linter.unusedVariables false
set_option linter.unusedSimpArgs false
set_option maxRecDepth 4000
set_option maxHeartbeats 1000000

theorem zJR {v : Value} {l : List RI} {i vb : Nat} {x : RI} {w : World} (hr : (row v 88 4 l.length (l.flatMap riV)).p w) (hb : (blk vb [.int .i64 x.t, .int .i64 x.t, .int .i64 x.tm, x.v] 88).p w) (hnd : (zX [row v 88 4 l.length (l.flatMap riV), blk vb [.int .i64 x.t, .int .i64 x.t, .int .i64 x.tm, x.v] 88]).Nodup) (hi : i ≤ l.length) (hiv : ∀ x ∈ l, zFu x.v x.l.length) (hx : zFu x.v x.l.length) (hn : l.length ≤ 100000) :
   Calls Tryz.prog 33 #[v, nI i, .slice (some ⟨vb, 0, none⟩) 1 1] w (Ret w (zX [row v 88 4 l.length (l.flatMap riV), blk vb [.int .i64 x.t, .int .i64 x.t, .int .i64 x.tm, x.v] 88]) fun u N => N = [row u 88 4 (zB2 l i x).length ((zB2 l i x).flatMap riV)]) := by
 have hvb : vb ∉ zX [row v 88 4 l.length (l.flatMap riV)] := by
   have : (zX ([row v 88 4 l.length (l.flatMap riV)] ++ [blk vb [.int .i64 x.t, .int .i64 x.t, .int .i64 x.tm, x.v] 88])).Nodup := hnd
   rw [zBi] at this
   exact fun h => (List.nodup_append.1 this).2.2 vb h vb (by simp [zX, blk]) rfl
 have h1c := zMU hiv
 have h1v := zPj hx
 have hlen := zBH zCO l
 rw [zEy l x hi, ← zKB zCO l i x]
 rcases Nat.eq_or_lt_of_le hi with rfl | hlt
 · refine (zTI hr hb rfl h1v hn).mono fun e w' h => ?_
   have e1 : (l.flatMap riV).take (l.length * 4) = l.flatMap riV := List.take_of_length_le (by omega)
   have e2 : (l.flatMap riV).drop (l.length * 4) = [] := List.drop_eq_nil_of_le (by omega)
   rw [e1, e2, List.append_nil]
   exact zM1 h (fun k hk => by rw [zEe]; exact List.mem_append.2 (.inl (by simpa [zX] using hk)))
 · obtain ⟨g, cap, sp, rfl, hc, hm, hlc, hl, hg⟩ := zMx hr (by omega)
   have hgb : vb ≠ g := by rintro rfl; exact hvb (by simp [zX, row, Value.ownBlock])
   by_cases hroom : l.length + 1 ≤ cap
   · refine (zOf hg hl hlc hm hlt hroom hb hgb rfl h1c h1v hn).mono fun e w' h => ?_
     exact zM1 h (fun k hk => by rw [zEe]; exact List.mem_append.2 (.inl (by simpa [row, Value.ownBlock] using hk)))
   · refine (zQ7 hg hl hlt hc (by omega) hb rfl h1c h1v hn).mono fun e w' h => ?_
     exact zM1 h (fun k hk => absurd hk (by simp))
theorem zJI {v : Value} {l : List RI} {w : World} (hr : (row v 88 4 l.length (l.flatMap riV)).p w) (hn2 : 2 ≤ l.length) (hiv : ∀ x ∈ l, zFu x.v x.l.length) (hn : l.length ≤ 100001) :
   Calls Tryz.prog 34 #[v, .int .i64 0, .int .i64 1] w (Ret w (zX [row v 88 4 l.length (l.flatMap riV)]) fun u N => N = [row u 88 4 (l.drop 1).length ((l.drop 1).flatMap riV)]) := by
 obtain ⟨g, cap, sp, rfl, hc, hm, hlc, hl, hg⟩ := zMx hr (by omega)
 rw [List.length_drop, ← (zGA zCO l 1).2]
 refine (zOn hg hl hlc hm hn2 hc (zMU hiv) hn).mono fun e w' h => ?_
 exact zM1 h (fun k hk => by simpa [zX, row, Value.ownBlock] using hk)

theorem zOt (x : RI) (hx : zFu x.v x.l.length) (k : Int) (w0 : World) : Calls Tryz.prog 57 #[.agg #[zI x.t, zI x.t, zI x.tm, x.v], .int .i64 k] w0 (zCn w0 (zI (zLL x.t k))) := by
 obtain ⟨A_, c_, hxv⟩ := hx
 obtain ⟨xt, xtm, xl, xv⟩ := x
 simp only at hxv
 subst hxv
 refine zT (F0 := [(0, .agg #[zI xt, zI xt, zI xtm, .slice A_ xl.length c_]), (1, zI k)]) func57 rfl rfl rfl (.c (.c .n)) (Mem.nil _) ?_
 refine go 7 [0, 0] [5, 2, 1] .n (fun g1 => ⟨rfl, ?_⟩)
 refine ifG rfl (fun c_2 => ?_) (fun c_2 => ?_)
 ·
  refine go 1 [] [4] .n ?_
  refine cl (·.drop (.c .z .n)) ?_
  intro a w hs; exact fin hs rfl rfl ⟨congrArg (Value.int .i64) (by show _ = zLL xt k; unfold zLL; first | rw [if_pos (by omega)] | (rw [if_neg (by omega), if_pos (by omega)]) | (rw [if_neg (by omega), if_neg (by omega)])), rfl⟩
 refine go 5 [0] [10] (.c .z .n) ⟨rfl, ?_⟩
 refine ifG rfl (fun c_3 => ?_) (fun c_3 => ?_)
 ·
  refine go 1 [] [4] .n ?_
  refine cl (·.drop (.c .z .n)) ?_
  intro a w hs; exact fin hs rfl rfl ⟨congrArg (Value.int .i64) (by show _ = zLL xt k; unfold zLL; first | rw [if_pos (by omega)] | (rw [if_neg (by omega), if_pos (by omega)]) | (rw [if_neg (by omega), if_neg (by omega)])), rfl⟩
 refine go 1 [] [4] .n ?_
 refine cl (·.drop (.c .z .n)) ?_
 intro a w hs; exact fin hs rfl rfl ⟨congrArg (Value.int .i64) (by show _ = zLL xt k; unfold zLL; first | rw [if_pos (by omega)] | (rw [if_neg (by omega), if_pos (by omega)]) | (rw [if_neg (by omega), if_neg (by omega)])), rfl⟩
theorem zQC (u : Value) (l : List RI) (k : Int) (w0 : World) (hu : Rd w0 [] u 4 l.length (l.flatMap riV)) (hsr : srt (sns l)) (hll : l.length ≤ 100000) (hiv : ∀ x ∈ l, zFu x.v x.l.length) : Calls Tryz.prog 56 #[u, .int .i64 k, .func (.func 57) #[] #[]] w0 (zCn w0 (.tuple #[nI (zU (sns l) k), .bool (zB9 (sns l) k)])) := by
 have hsl := zAJ l
 refine zT (F0 := [(0, u), (1, zI k), (2, .func (.func 57) #[] #[])]) func56 rfl rfl rfl (.c (.c (.c .n))) (Mem.nil _) ?_
 refine go 3 [] [12, 0, 1, 2] .n ?_
 intro a w hs; refine zAG hs rfl (hs.rd0 hu).isSl underlying73 rfl ?_
 refine goL 4 [] [10, 9, 8, 0, 1, 2] .n ?_
 intro a w hs; refine zCA (fun mm_ a w => ∃ lo : Nat, ∃ hi : Nat, mm_ = hi - lo ∧ St 49 [(0, u), (1, zI k), (2, .func (.func 57) #[] #[]), (8, nI l.length), (9, nI lo), (10, nI hi)] w0 [] [] a w ∧ lo ≤ hi ∧ hi ≤ l.length ∧ (∀ t, t < lo → ((sns l).getD t default).t < k) ∧ (∀ t, hi ≤ t → t < l.length → k ≤ ((sns l).getD t default).t)) ⟨0, l.length, rfl, hs.sub (.c rfl (.c rfl (.c rfl (.c rfl (.c rfl (.c rfl .n)))))), by omega, by omega, (fun t ht => absurd ht (by omega)), (fun t ht hl => absurd hl (by omega))⟩ ?_
 clear hs w a; rintro mm_ a w ⟨lo, hi, rfl, hs, hI1_0, hI1_1, hI1_2, hI1_3⟩
 revert a w hs
 refine go 3 [] [17, 0, 1, 2, 8, 9, 10] .n ?_
 refine ifG rfl (fun c_1 => ?_) (fun c_1 => ?_)
 ·
  refine go 3 [] [20, 0, 1, 2, 8, 9, 10] .n ⟨(by omega), ?_⟩
  intro a w hs; refine zA0 hs rfl underlying3 underlying57 rfl ?_
  intro a w hs; refine zBz (X := BitVec.ofInt 64 (((lo : Nat) : Int) + ((hi : Nat) : Int))) (m := 1) hs rfl rfl rfl (by decide) rfl ?_
  intro a w hs; refine zAh (X := (BitVec.ofInt 64 (((lo : Nat) : Int) + ((hi : Nat) : Int))) >>> 1) hs rfl rfl underlying57 underlying3 rfl ?_
  refine cl (·.recell (v' := nI ((lo + hi) / 2)) (Option.some.inj (congrArg (fun z => some (Value.int .i64 z)) (zQx (by omega))))) ?_
  refine goL 4 [] [26, 25, 24, 11, 0, 1, 2, 8, 9, 10] .n ?_
  intro a w hs; refine zBj (j := ((lo + hi) / 2)) hs rfl rfl (hs.rd0 hu) rfl (by omega) underlying73 sizeOf88 rfl ?_
  intro a w hs; refine zCm (cs := riV (l.getD ((lo + hi) / 2) default)) hs rfl (hs.rd0 hu) (zBe zCO l ((lo + hi) / 2) (by omega)) (by rw [zBH zCO]; omega) (by omega) isAgg88 sizeOf88 rfl ?_
  refine goL 1 [] [29, 28, 24, 11, 0, 1, 2, 8, 9, 10] .n ?_
  intro a w hs; refine zEi (us := []) (v := zI (zLL (l.getD ((lo + hi) / 2) default).t k)) hs rfl (.c rfl (.c rfl .n)) rfl call57 (zOt (l.getD ((lo + hi) / 2) default) (hiv _ (zJr (by omega))) k _) rfl ?_
  refine zHA 1 1 [] [31, 11, 0, 1, 2, 8, 9, 10] .n ?_
  intro a w hs; rw [show decide (zLL (l.getD ((lo + hi) / 2) default).t k < 0) = decide ((l.getD ((lo + hi) / 2) default).t < k) from decide_eq_decide.2 zQp] at hs
  revert a w hs
  refine go 0 [] [31, 11, 0, 1, 2, 8, 9, 10] .n ?_
  refine ifG rfl (fun c_2 => ?_) (fun c_2 => ?_)
  ·
   have hcm : ((l.getD ((lo + hi) / 2) default).t < k) := by assumption
   refine go 3 [] [9, 0, 1, 2, 8, 10] .n ⟨(by omega), ?_⟩
   intro a w hs; refine ⟨_, ?_, ((lo + hi) / 2) + 1, hi, rfl, hs.sub (.c rfl (.c rfl (.c rfl (.c rfl (.c rfl (.c rfl .n)))))), by omega, by omega, (fun t ht => by have h1 := zSY hsr (i := t) (j := ((lo + hi) / 2)) (by omega) (by omega); rw [zCH l (i := ((lo + hi) / 2)) (by omega)] at h1; have h2 : (l.getD ((lo + hi) / 2) default).sn.t < k := hcm; omega), hI1_3⟩
   omega
  have hcm : ¬ ((l.getD ((lo + hi) / 2) default).t < k) := by assumption
  refine go 2 [] [10, 0, 1, 2, 8, 9] .n ?_
  intro a w hs; refine ⟨_, ?_, lo, ((lo + hi) / 2), rfl, hs.sub (.c rfl (.c rfl (.c rfl (.c rfl (.c rfl (.c rfl .n)))))), by omega, by omega, hI1_2, (fun t ht hl => by have h1 := zSY hsr (i := ((lo + hi) / 2)) (j := t) (by omega) (by omega); rw [zCH l (i := ((lo + hi) / 2)) (by omega)] at h1; have h2 : ¬ (l.getD ((lo + hi) / 2) default).sn.t < k := hcm; omega)⟩
  omega
 obtain rfl : lo = hi := by omega
 have hkp : zU (sns l) k = lo := zOj hI1_2 (by rw [hsl]; exact hI1_3) (by omega)
 refine go 5 [] [39, 35, 0, 1, 2, 9] .n ?_
 intro a w hs; refine zAB (b := decide (((lo : Nat) : Int) < ((l.length : Nat) : Int))) (fun c_3 => ?_) (fun c_3 => ?_)
 ·
  rw [c_3] at hs
  replace c_3 := of_decide_eq_true c_3
  revert a w hs
  refine go 3 [] [42, 41, 40, 39, 35, 1] .n ?_
  intro a w hs; refine zC hs rfl rfl rfl ?_
  refine zBj (j := lo) hs rfl rfl (hs.rd0 hu) rfl (by omega) underlying73 sizeOf88 rfl ?_
  intro a w hs; refine zC hs rfl rfl rfl ?_
  refine zCm (cs := riV (l.getD lo default)) hs rfl (hs.rd0 hu) (zBe zCO l lo (by omega)) (by rw [zBH zCO]; omega) (by omega) isAgg88 sizeOf88 rfl ?_
  refine goL 1 [] [45, 44, 40, 39, 35] .n ?_
  intro a w hs; refine zC hs rfl rfl rfl ?_
  refine zEi (us := []) (v := zI (zLL (l.getD lo default).t k)) hs rfl (.c rfl (.c rfl .n)) rfl call57 (zOt (l.getD lo default) (hiv _ (zJr (by omega))) k _) rfl ?_
  refine goL 4 [] [7, 6] .n ?_
  have hke := zOq hsr (k := k) (by omega)
  intro a w hs; rw [hkp, zCH l (i := lo) (by omega)] at hke
  exact zCF hs rfl rfl rfl ⟨by rw [hkp, hke]; rfl, rfl⟩
 rw [c_3] at hs
 replace c_3 := of_decide_eq_false c_3
 revert a w hs
 refine go 11 [] [7, 6] .n ?_
 intro a w hs; exact zCF hs rfl rfl rfl ⟨by rw [zSO hsr (by omega), hkp], rfl⟩
theorem zJu (g : Nat) (u : Value) (l : List RI) (most : Nat) (fl : Int) (gone : Bool) (k : Int) (w0 : World) (hu : Rd w0 [] u 4 l.length (l.flatMap riV)) (hg : (blk g [u, nI most, zI fl, .bool (gone)] 75).p w0) (hsr : srt (sns l)) (hll : l.length ≤ 100000) (hiv : ∀ x ∈ l, zFu x.v x.l.length) : Calls Tryz.prog 32 #[pt g 0, .int .i64 k] w0 (zCn w0 (.tuple #[nI (zU (sns l) k), .bool (zB9 (sns l) k)])) := by
 have hsl := zAJ l
 have hkl := zCN (sns l)
 refine zT (F0 := [(0, pt g 0), (1, zI k)]) func32 rfl rfl rfl (.c (.c .n)) (Mem.nil _) ?_
 refine go 5 [] [8, 1] .n ?_
 intro a w hs; refine zAI hs rfl (hs.mem.keep hg (by simp [zX, blk])) .z isAgg73 rfl ?_
 refine goL 1 [] [10, 9] .n ?_
 intro a w hs; refine zH (v := .tuple #[nI (zU (sns l) k), .bool (zB9 (sns l) k)]) hs (.c rfl (.c rfl (.c rfl .n))) call56 (zQC _ l k _ (hs.rd0 hu) hsr hll hiv) rfl ?_
 refine goL 4 [] [5, 4] .n ?_
 intro a w hs; exact zCF hs rfl rfl rfl ⟨rfl, rfl⟩
theorem zGa (g : Nat) (u : Value) (l : List RI) (most : Nat) (fl : Int) (gone : Bool) (k : Int) (w0 : World) (hu : Rd w0 [] u 4 l.length (l.flatMap riV)) (hg : (blk g [u, nI most, zI fl, .bool (gone)] 75).p w0) (hsr : srt (sns l)) (hll : l.length ≤ 100000) (hiv : ∀ x ∈ l, zFu x.v x.l.length) : Calls Tryz.prog 25 #[pt g 0, .int .i64 k] w0 (zCn w0 (.tuple #[.agg #[zI ((zK l k).t), zI ((zK l k).tm), (zK l k).v], .bool (zB9 (sns l) k)])) := by
 have hsl := zAJ l
 have hkl := zCN (sns l)
 refine zT (F0 := [(0, pt g 0), (1, zI k)]) func25 rfl rfl rfl (.c (.c .n)) (Mem.nil _) ?_
 refine go 7 [] [12, 11, 4, 0] .n (fun g1 => ?_)
 intro a w hs; refine zH (v := .tuple #[nI (zU (sns l) k), .bool (zB9 (sns l) k)]) hs (.c rfl (.c rfl .n)) call32 (zJu g _ l most fl gone k _ (hs.rd0 hu) (hs.mem.keep hg (by simp [zX, blk])) hsr hll hiv) rfl ?_
 refine goL 6 [] [16, 5, 6, 4, 0] .n ?_
 refine ifG rfl (fun c_2 => ?_) (fun c_2 => ?_)
 ·
  have hh_ : zB9 (sns l) k = true := by assumption
  have hkb := ((zCj hsr).1 hh_).1
  have hrg : zK l k = l.getD (zU (sns l) k) default := if_pos hh_
  refine go 3 [] [19, 5, 6, 4] .n ?_
  intro a w hs; refine zAI hs rfl (hs.mem.keep hg (by simp [zX, blk])) .z isAgg73 rfl ?_
  refine goL 1 [] [21, 20, 5, 4] .n ?_
  intro a w hs; refine zBj (j := zU (sns l) k) hs rfl rfl (hs.rd0 hu) rfl (by omega) underlying73 sizeOf88 rfl ?_
  intro a w hs; refine zBn hs rfl (hs.rd0 hu) (by omega) underlying88 rfl sizeOf45 (by decide) (o := (zU (sns l) k) * 4 + 1) rfl rfl ?_
  intro a w hs; refine zCm (cs := [zI ((l.getD (zU (sns l) k) default).t), zI ((l.getD (zU (sns l) k) default).tm), (l.getD (zU (sns l) k) default).v]) hs rfl (hs.rd0 hu) ((zKS zCO l (zU (sns l) k) 1 3 (by omega)).trans rfl) (by rw [zBH zCO]; omega) (by omega) isAgg45 sizeOf45 rfl ?_
  refine goL 5 [50, 0, 50] [5, 4] (.c .z .n) ⟨rfl, (zN rfl (zN rfl (zN (hiv _ (zJr (by omega))).one zBS))), rfl, rfl, (zN rfl (zN rfl (zN (hiv _ (zJr (by omega))).one zBS))), ?_⟩
  intro a w hs; exact zBV hs rfl rfl rfl .z (.z (.c (.c (.c .n)))) isAgg45 sizeOf45 (.c .z .n) ⟨by rw [hrg] <;> rfl, rfl⟩
 have hh_ : zB9 (sns l) k = false := by assumption
 have hrg : zK l k = default := if_neg (by rw [hh_]; simp)
 refine go 4 [0, 0] [5, 4] (.c .z .n) ⟨rfl, rfl, ?_⟩
 intro a w hs; exact zBV hs rfl rfl rfl .z (.z (.c (.c (.c .n)))) isAgg45 sizeOf45 (.c .z .n) ⟨by rw [hrg] <;> rfl, rfl⟩
theorem zIG (g : Nat) (u : Value) (l : List RI) (most : Nat) (fl : Int) (gone : Bool) (i : Int) (w0 : World) (hu : Rd w0 [] u 4 l.length (l.flatMap riV)) (hg : (blk g [u, nI most, zI fl, .bool (gone)] 75).p w0) (hsr : srt (sns l)) (hll : l.length ≤ 100000) (hiv : ∀ x ∈ l, zFu x.v x.l.length) : Calls Tryz.prog 24 #[pt g 0, .int .i64 i] w0 (zCn w0 (.tuple #[zI (rat l i).t, .agg #[zI ((rat l i).t), zI ((rat l i).tm), (rat l i).v], nI (zH5 (sns l) i)])) := by
 have hsl := zAJ l
 have hkl := zCN (sns l)
 refine zT (F0 := [(0, pt g 0), (1, zI i)]) func24 rfl rfl rfl (.c (.c .n)) (Mem.nil _) ?_
 refine go 11 [] [15, 7, 5, 0, 1] .n (fun g1 => fun g2 => ?_)
 intro a w hs; refine zAB (b := decide (i < 0)) (fun c_3 => ?_) (fun c_3 => ?_)
 ·
  rw [c_3] at hs
  replace c_3 := of_decide_eq_true c_3
  revert a w hs
  refine go 10 [] [7, 5] .n ?_
  intro a w hs
  refine zS [.p [] [0], .p [] [], .s [0] [0] [0] [], .p [] []] [1, 3] hs (.c (.s .z) .n) (.c .z .n) (by kernel_rfl) ⟨rfl, rfl, ⟨rfl, by kernel_rfl, fun _ => rfl, rfl, rfl, trivial⟩, fun _ => rfl, ?_⟩
  refine goE 0 [] [6, 4, 5] .n ?_
  intro a w hs; exact zUI hs rfl rfl rfl rfl (.s .z) (.z (.c (.c (.c .n)))) isAgg45 sizeOf45 (.c (.s .z) (.c .z .n)) ⟨by first | (rw [show rat l i = default from if_neg (by omega), show zH5 (sns l) i = 3 from if_neg (by rw [zAJ]; omega)] <;> rfl) | (rw [show rat l i = l.getD i.toNat default from if_pos ⟨by omega, by omega⟩, show zH5 (sns l) i = 0 from if_pos ⟨by omega, by rw [zAJ]; omega⟩] <;> rfl), rfl⟩
 rw [c_3] at hs
 replace c_3 := of_decide_eq_false c_3
 revert a w hs
 refine go 4 [] [19, 16, 15, 7, 5, 0, 1] .n ?_
 intro a w hs; refine zC hs rfl rfl rfl ?_
 refine zAI hs rfl (hs.mem.keep hg (by simp [zX, blk])) .z isAgg73 rfl ?_
 intro a w hs; refine zC hs rfl rfl rfl ?_
 refine zAG hs rfl (hs.rd0 hu).isSl underlying73 rfl ?_
 refine goL 3 [] [12, 7, 5, 0, 1] .n ?_
 refine ifG rfl (fun c_5 => ?_) (fun c_5 => ?_)
 ·
  refine go 0 [] [7, 5] .n ?_
  intro a w hs
  refine zS [.p [] [0], .p [] [], .s [0] [0] [0] [], .p [] []] [1, 3] hs (.c (.s .z) .n) (.c .z .n) (by kernel_rfl) ⟨rfl, rfl, ⟨rfl, by kernel_rfl, fun _ => rfl, rfl, rfl, trivial⟩, fun _ => rfl, ?_⟩
  refine goE 0 [] [6, 4, 5] .n ?_
  intro a w hs; exact zUI hs rfl rfl rfl rfl (.s .z) (.z (.c (.c (.c .n)))) isAgg45 sizeOf45 (.c (.s .z) (.c .z .n)) ⟨by first | (rw [show rat l i = default from if_neg (by omega), show zH5 (sns l) i = 3 from if_neg (by rw [zAJ]; omega)] <;> rfl) | (rw [show rat l i = l.getD i.toNat default from if_pos ⟨by omega, by omega⟩, show zH5 (sns l) i = 0 from if_pos ⟨by omega, by rw [zAJ]; omega⟩] <;> rfl), rfl⟩
 refine go 0 [] [5, 0, 1] .n ?_
 intro a w hs
 refine zS [.p [] [], .p [0] [], .p [1] [], .v [2] u, .p [] [], .v [4, 3] (.pointer (some (adr u (((i).toNat) * 4)))), .v [5] (.pointer (some (adr u (((i).toNat) * 4 + 0)))), .v [6] (zI ((l.getD ((i).toNat) default).t)), .p [] [], .p [8] [], .p [9] [], .v [10] u, .p [] [], .v [12, 11] (.pointer (some (adr u (((i).toNat) * 4)))), .v [13] (.pointer (some (adr u (((i).toNat) * 4 + 1)))), .v [14] (.agg #[zI ((l.getD ((i).toNat) default).t), zI ((l.getD ((i).toNat) default).tm), (l.getD ((i).toNat) default).v]), .p [7] [], .s [15] [50] [0] [], .p [] []] [16, 18] hs (.c (.s .z) .n) .n (by kernel_rfl) ⟨fun _ _ _ _ hm hs K => zAI hs rfl (hm.keep hg (by simp [zX, blk])) .z isAgg73 rfl (vk K), fun _ _ _ _ hm hs K => zBj (j := (i).toNat) hs rfl rfl (hm.rd0 hu) (by omega) (by omega) underlying73 sizeOf88 rfl (vk K), fun _ _ _ _ hm hs K => zBn hs rfl (hm.rd0 hu) (by omega) underlying88 rfl sizeOf2 (by decide) (o := ((i).toNat) * 4 + 0) rfl rfl (vk K), fun _ _ _ _ hm hs K => zA7 (u := zI ((l.getD ((i).toNat) default).t)) hs rfl (hm.rd0 hu) ((zAf zCO l ((i).toNat) 0 (by omega) (by decide)).trans rfl) isAgg2 rfl (vk K), fun _ _ _ _ hm hs K => zAI hs rfl (hm.keep hg (by simp [zX, blk])) .z isAgg73 rfl (vk K), fun _ _ _ _ hm hs K => zBj (j := (i).toNat) hs rfl rfl (hm.rd0 hu) (by omega) (by omega) underlying73 sizeOf88 rfl (vk K), fun _ _ _ _ hm hs K => zBn hs rfl (hm.rd0 hu) (by omega) underlying88 rfl sizeOf45 (by decide) (o := ((i).toNat) * 4 + 1) rfl rfl (vk K), fun _ _ _ _ hm hs K => zCm (cs := [zI ((l.getD ((i).toNat) default).t), zI ((l.getD ((i).toNat) default).tm), (l.getD ((i).toNat) default).v]) hs rfl (hm.rd0 hu) ((zKS zCO l ((i).toNat) 1 3 (by omega)).trans rfl) (by rw [zBH zCO]; omega) (by omega) isAgg45 sizeOf45 rfl (vk K), rfl, (zN rfl (zN rfl (zN (hiv _ (zJr (by omega))).one zBS))), ⟨rfl, by kernel_rfl, fun _ => rfl, rfl, rfl, trivial⟩, fun _ => rfl, ?_⟩
 refine goE 0 [] [6, 4, 5] .n ?_
 intro a w hs; exact zUI hs rfl rfl rfl rfl (.s .z) (.z (.c (.c (.c .n)))) isAgg45 sizeOf45 (.c (.s .z) (.c .z .n)) ⟨by first | (rw [show rat l i = default from if_neg (by omega), show zH5 (sns l) i = 3 from if_neg (by rw [zAJ]; omega)] <;> rfl) | (rw [show rat l i = l.getD i.toNat default from if_pos ⟨by omega, by omega⟩, show zH5 (sns l) i = 0 from if_pos ⟨by omega, by rw [zAJ]; omega⟩] <;> rfl), rfl⟩
theorem zEh (g : Nat) (u : Value) (l : List RI) (most : Nat) (fl : Int) (gone : Bool) (k : Int) (w0 : World) (hu : Rd w0 [] u 4 l.length (l.flatMap riV)) (hg : (blk g [u, nI most, zI fl, .bool (gone)] 75).p w0) (hsr : srt (sns l)) (hll : l.length ≤ 100000) (hiv : ∀ x ∈ l, zFu x.v x.l.length) : Calls Tryz.prog 47 #[pt g 0, .int .i64 k] w0 (zCn w0 (nI (zAO (sns l) k))) := by
 have hsl := zAJ l
 have hkl := zCN (sns l)
 refine zT (F0 := [(0, pt g 0), (1, zI k)]) func47 rfl rfl rfl (.c (.c .n)) (Mem.nil _) ?_
 refine go 6 [] [11, 10] .n ?_
 intro a w hs; refine zH (v := .tuple #[nI (zU (sns l) k), .bool (zB9 (sns l) k)]) hs (.c rfl (.c rfl .n)) call32 (zJu g _ l most fl gone k _ (hs.rd0 hu) (hs.mem.keep hg (by simp [zX, blk])) hsr hll hiv) rfl ?_
 refine goL 6 [] [15, 5] .n ?_
 refine ifG rfl (fun c_1 => ?_) (fun c_1 => ?_)
 ·
  have hku : zAO (sns l) k = zU (sns l) k + 1 := by unfold zAO; rw [if_pos (by assumption)]
  have hkl := hkl k
  refine go 5 [] [4] .n ⟨(by omega), ?_⟩
  intro a w hs; exact fin hs rfl rfl ⟨by rw [hku] <;> rfl, rfl⟩
 have hh_ : zB9 (sns l) k = false := by assumption
 have hku : zAO (sns l) k = zU (sns l) k := by unfold zAO; rw [if_neg (by rw [hh_]; simp)]; rfl
 refine go 2 [] [4] .n ?_
 intro a w hs; exact fin hs rfl rfl ⟨by rw [hku] <;> rfl, rfl⟩
theorem zCv (g : Nat) (u : Value) (l : List RI) (most : Nat) (fl : Int) (gone : Bool) (w0 : World) (hu : Rd w0 [] u 4 l.length (l.flatMap riV)) (hg : (blk g [u, nI most, zI fl, .bool (gone)] 75).p w0) (hsr : srt (sns l)) (hll : l.length ≤ 100000) (hiv : ∀ x ∈ l, zFu x.v x.l.length) : Calls Tryz.prog 23 #[pt g 0] w0 (zCn w0 (nI l.length)) := by
 have hsl := zAJ l
 have hkl := zCN (sns l)
 refine zT (F0 := [(0, pt g 0)]) func23 rfl rfl rfl (.c .n) (Mem.nil _) ?_
 refine go 7 [] [7] .n ?_
 intro a w hs; refine zAI hs rfl (hs.mem.keep hg (by simp [zX, blk])) .z isAgg73 rfl ?_
 intro a w hs; refine zAG hs rfl (hs.rd0 hu).isSl underlying73 rfl ?_
 refine goL 1 [] [2] .n ?_
 intro a w hs; exact fin hs rfl rfl ⟨rfl, rfl⟩
theorem zOR (g : Nat) (u : Value) (l : List RI) (most : Nat) (fl : Int) (gone : Bool) (w0 : World) (hg : (blk g [u, nI most, zI fl, .bool (gone)] 75).p w0) : Calls Tryz.prog 46 #[pt g 0] w0 (zCn w0 (.tuple #[.int .i64 fl, .bool gone])) := by
 refine zT (F0 := [(0, pt g 0)]) func46 rfl rfl rfl (.c .n) (Mem.nil _) ?_
 refine go 5 [] [0] .n ?_
 intro a w hs
 refine zS [.p [] [], .p [0] [], .p [1] [], .v [2] (zI fl), .p [] [], .p [4] [], .p [5] [], .v [6] (.bool (gone)), .p [3] [], .p [7] []] [8, 9] hs .n .n (by kernel_rfl) ⟨fun _ _ _ _ hm hs K => zAI hs rfl (hm.keep hg (by simp [zX, blk])) (.s (.s .z)) isAgg2 rfl (vk K), fun _ _ _ _ hm hs K => zAI hs rfl (hm.keep hg (by simp [zX, blk])) (.s (.s (.s .z))) isAgg4 rfl (vk K), ⟨rfl, by kernel_rfl, fun _ => rfl, rfl, rfl, trivial⟩, fun _ => rfl, ?_⟩
 refine goE 0 [] [3, 2] .n ?_
 intro a w hs; exact zCF hs rfl rfl rfl ⟨rfl, rfl⟩
theorem zNZ (g : Nat) (u : Value) (l : List RI) (most : Nat) (fl : Int) (gone : Bool) (x : RI) (w0 : World) (hr : (row u 88 4 l.length (l.flatMap riV)).p w0) (hg : (blk g [u, nI most, zI fl, .bool (gone)] 75).p w0) (hnd : (zX [row u 88 4 l.length (l.flatMap riV), blk g [u, nI most, zI fl, .bool (gone)] 75]).Nodup) (hsr : srt (sns l)) (hll : l.length ≤ most) (hmo : most ≤ 64) (hm1 : 1 ≤ most) (hiv : ∀ x ∈ l, zFu x.v x.l.length) (hxs : zFu x.v x.l.length) (hk : zB9 (sns l) x.t = false) (hst : ¬ (gone = true ∧ x.t ≤ fl)) (hz : ¬ (zU (sns l) x.t = 0 ∧ l.length = most)) : Calls Tryz.prog 20 #[pt g 0, .int .i64 x.t, .agg #[zI x.t, zI x.tm, x.v]] w0 (Ret w0 (zX [row u 88 4 l.length (l.flatMap riV), blk g [u, nI most, zI fl, .bool (gone)] 75]) fun z N => ∃ u', z = .tuple #[zI (zHN l most x), .bool (zHU l most x), .int .i64 0] ∧ N = [blk g [u', nI most, zI (zIS l most fl x), .bool (zIT l most gone x)] 75, row u' 88 4 ((zEY l most x).length) ((zEY l most x).flatMap riV)]) := by
 have hkl := zCN (sns l) x.t
 rw [zAJ] at hkl
 have hK := zEy l x hkl
 have hiK := zRh hiv hxs (zU (sns l) x.t)
 refine zT (F0 := [(0, pt g 0), (1, zI x.t), (2, .agg #[zI x.t, zI x.tm, x.v])]) func20 rfl rfl rfl (.c (.c (.c .n))) (zDo hr hg hnd) ?_
 refine go 9 [0] [15, 14, 5, 0, 1] .n (fun g1 => ?_)
 intro a w hs; refine zH (v := .tuple #[nI (zU (sns l) x.t), .bool (zB9 (sns l) x.t)]) hs (.c rfl (.c rfl .n)) call32 (zJu g _ l most fl gone x.t _ (zM (hs.mem.del (.s .z))) (hs.mem.del (.s (.s .z))) hsr (by omega) hiv) rfl ?_
 refine zHA 13 7 [] [19, 9, 5, 0, 1] .n ?_
 have hb_ : (zB9 (sns l) x.t) = false := by exact hk
 intro a w hs; rw [hb_] at hs; clear hb_
 revert a w hs
 refine go 5 [0] [25, 9, 5, 0, 1] (.c (.s (.s .z)) .n) ⟨rfl, ?_⟩
 refine cl (·.recell (v' := .bool (id gone)) (Option.some.inj rfl)) ?_
 refine go 1 [] [26, 9, 5, 0, 1] .n ?_
 intro a w hs; refine zAB (b := id gone) (fun c_2 => ?_) (fun c_2 => ?_)
 ·
  rw [c_2] at hs
  revert a w hs
  refine go 6 [0] [32, 26, 9, 5, 0, 1] (.c .z .n) ⟨rfl, ?_⟩
  have hb_ : (decide (x.t ≤ fl)) = false := decide_eq_false (fun h => hst ⟨(by assumption : id gone = true), h⟩)
  intro a w hs; rw [hb_] at hs; clear hb_
  revert a w hs
  refine go 3 [] [9, 5, 0, 1] .n ?_
  by_cases kz : zU (sns l) x.t = 0
  ·
   intro a w hs
   refine zS [.p [] [], .v [0] (.bool (true)), .p [1] [], .p [2] [], .p [3, 2] [], .p [4, 2] [], .p [5, 2] [0], .v [6, 2] (nI l.length), .p [2] [], .p [8, 2] [], .p [9, 2] [], .p [10, 2] [0], .v [11, 7, 2] (.bool (false)), .p [12, 2] [], .p [13] []] [14] hs .n (.c .z .n) (by kernel_rfl) ⟨fun _ _ _ _ hm hs K => zCB hs rfl rfl rfl (fun a w hs => wpList_nil (K _ _ (by rw [show ((((zU (sns l) x.t : Nat) : Int) : Int) == 0) = true from by rw [beq_iff_eq]; omega] at hs; exact hs))), rfl, fun _ _ _ _ hm hs K => zC hs rfl rfl rfl (zAG hs rfl (zM (hm.del (.s (.s .z)))).isSl underlying73 rfl (vk K)), rfl, fun _ _ _ _ hm hs K => zC hs rfl rfl rfl (zCB hs rfl rfl rfl (fun a w hs => wpList_nil (K _ _ (by rw [show ((((l.length : Nat) : Int) : Int) == ((most : Nat) : Int)) = false from by rw [beq_eq_false_iff_ne]; intro h; exact hz ⟨by omega, by omega⟩] at hs; exact hs)))), ⟨rfl, by kernel_rfl, fun _ => rfl, rfl, rfl, trivial⟩, fun _ => rfl, ?_⟩
   refine goE 1 [] [9, 5, 0, 1] .n ?_
   intro a w hs
   refine zAx [.p [] [], .p [] [], .p [1] [], .p [2] [], .y [3] u [] [] [] fun vs4 => [], .p [] [], .p [] [], .p [] [0], .p [7, 6] [], .x [8] ⟨[], [], [], fun vs4 => vs4 9 = .slice (some ⟨(zCQ (vs4 9)), 0, none⟩) 1 1, fun vs4 => [blk (zCQ (vs4 9)) [zI x.t, zI x.t, zI x.tm, x.v] 88], none⟩, .x [5, 4] ⟨[row u 88 4 l.length (l.flatMap riV)], [9], [], fun vs4 => True, fun vs4 => [row (vs4 10) 88 4 ((zB2 l (zU (sns l) x.t) x).length) ((zB2 l (zU (sns l) x.t) x).flatMap riV)], none⟩, .p [0] [], .p [11] [], .x [12] ⟨[blk g [u, nI most, zI fl, .bool (gone)] 75], [], [10], fun vs4 => True, fun vs4 => [blk g [(vs4 10), nI most, zI fl, .bool (gone)] 75], none⟩] [] hs .n (.c (.s (.s .z)) (.c .z .n)) (.c .z .n) (by kernel_rfl) ⟨rfl, ⟨(.c .z (.c .z .n)), by kernel_rfl, fun _ => rfl, rfl, rfl⟩, ⟨?_, ?_, ?_, ?_, trivial⟩, ?_⟩
   ·
    intro a_ w_ R_ rest_ vs4 hm hs ht hx
    have hs0 := hs.bare
    refine zAI hs rfl (hm.own (List.mem_append.2 (.inr ((hx 13 (zL 14 _ (by kernel_rfl))).1 _ (List.Mem.head _))))) .z isAgg73 rfl ?_; clear hs; intro a w hs
    exact wpList_nil ⟨rfl, _, _, hs0, (.c .r), hs, rfl⟩
   ·
    intro a_ w_ R_ rest_ vs4 hm hs ht hx
    have hs0 := hs.bare
    refine zFv (cs := [zI x.t, zI x.t, zI x.tm, x.v]) hs (.c .n) (.c rfl .n) underlying73 (ie := Tryz.t88) rfl rfl rfl rfl (by decide) (by decide) rfl (by decide) rfl rfl rfl ?_; clear hs; intro g5 a w hs
    exact wpList_nil ⟨rfl, _, _, hs0, (.c .r), hs, rfl⟩
   ·
    intro a_ w_ R_ rest_ vs4 hm hs ht hx
    have t9 := ht 9 (zL 14 _ (by kernel_rfl))
    have e9 : _ = some (vs4 9) := t9.val rfl
    rw [show vs4 9 = .slice (some ⟨(zCQ (vs4 9)), 0, none⟩) 1 1 from t9.2.1] at e9
    replace hs := hs.learn e9
    have hs0 := hs.bare
    refine zO hs (.c rfl (.c rfl (.c rfl .n))) call33 (.c .z (.c .z .n)) (zJR (x := x) (hs.mem.del .z) (hs.mem.del (.s .z)) (hs.mem.ndX (.c .z (.c .z .n))) (by omega) hiv hxs (by omega)) rfl ?_; clear hs; rintro v6 _ a w rfl hs
    exact wpList_nil ⟨rfl, _, _, hs0, (.c (.c (.c .r))), hs, trivial⟩
   ·
    intro a_ w_ R_ rest_ vs4 hm hs ht hx
    have t10 := ht 10 (zL 14 _ (by kernel_rfl))
    have e10 : _ = some (vs4 10) := t10.val rfl
    replace hs := hs.learn e10
    have hs0 := hs.bare
    refine zB4 hs rfl rfl .z .z (zM (hm.own (List.mem_append.2 (.inr ((ht 10 (zL 14 _ (by kernel_rfl))).2.2 (zFR (n := 14) (by kernel_rfl)) _ (List.Mem.head _)))))).isSl.one sizeOf73 ?_; clear hs; intro a w hs
    exact wpList_nil ⟨rfl, .tuple #[], _, hs0, (.c (.c .r)), hs, trivial⟩
   clear hs w a; intro vs4 a w hs hf
   generalize vs4 10 = v7 at hs
   clear hf
   revert a w hs
   refine goE 0 [] [0] .n ?_
   intro a w hs
   refine zS [.p [] [], .p [0] [], .p [1] [], .p [2] [0], .v [3] (nI ((zB2 l (zU (sns l) x.t) x).length)), .p [] [], .p [5] [], .p [6] [], .p [7] [0], .p [8, 4] []] [9] hs .n (.c (.s (.s .z)) .n) (by kernel_rfl) ⟨rfl, fun _ _ _ _ hm hs K => zAG hs rfl (zM (hm.del (.s .z))).isSl underlying73 rfl (vk K), rfl, ⟨rfl, by kernel_rfl, fun _ => rfl, rfl, rfl, trivial⟩, fun _ => rfl, ?_⟩
   refine goE 0 [] [70, 0] .n ?_
   refine ifG rfl (fun c_9 => ?_) (fun c_9 => ?_)
   ·
    refine go 3 [] [8, 7, 6] .n ?_
    refine cl (·.drop (.c .z .n)) ?_
    refine cl (·.reorder (.c (.s .z) (.c .z .n))) ?_
    intro a w hs; first | exact zDE hs rfl rfl rfl rfl ⟨_, by unfold zHN zHU; rw [if_pos (by omega), if_pos (by omega)], by unfold zEY zIS zIT; rw [if_pos (by omega), if_pos (by omega), if_pos (by omega)]⟩ | exact zDE hs rfl rfl rfl rfl ⟨_, by unfold zHN zHU; rw [if_neg (by omega), if_neg (by omega)], by unfold zEY zIS zIT; rw [if_neg (by omega), if_neg (by omega), if_neg (by omega)]⟩
   refine go 6 [0] [76, 72, 71, 0] (.c (.s (.s .z)) .n) ⟨rfl, ?_⟩
   intro a w hs; refine zBj (j := 0) hs rfl rfl (zM (hs.mem.del (.s (.s .z)))) (by decide) (by omega) underlying73 sizeOf88 rfl ?_
   intro a w hs; refine zBn hs rfl (zM (hs.mem.del (.s (.s .z)))) (by omega) underlying88 rfl sizeOf2 (by decide) (o := 0 * 4 + 0) rfl rfl ?_
   intro a w hs; refine zA7 (u := zI (((zB2 l (zU (sns l) x.t) x).getD 0 default).t)) hs rfl (zM (hs.mem.del (.s (.s .z)))) ((zAf zCO (zB2 l (zU (sns l) x.t) x) 0 0 (by omega) (by decide)).trans rfl) isAgg2 rfl ?_
   refine goL 11 [0, 0, 0] [88, 84, 0] (.c .z .n) ⟨rfl, rfl, rfl, ?_⟩
   intro a w hs; refine zO hs (.c rfl (.c rfl (.c rfl .n))) call34 (.c (.s (.s .z)) .n) (zJI (hs.mem.del (.s (.s .z))) (by omega) hiK (by omega)) rfl ?_; clear hs w a; rintro v10 _ a w rfl hs
   revert a w hs
   refine goL 2 [] [91, 89, 0] .n ?_
   intro a w hs; refine zB4 hs rfl rfl (.s .z) .z (zM (hs.mem.del .z)).isSl.one sizeOf73 ?_
   refine goL 7 [0] [8, 7, 6] (.c .z .n) ⟨rfl, ?_⟩
   refine cl (·.drop (.c (.s (.s .z)) .n)) ?_
   intro a w hs; first | exact zDE hs rfl rfl rfl rfl ⟨_, by unfold zHN zHU; rw [if_pos (by omega), if_pos (by omega)], by unfold zEY zIS zIT; rw [if_pos (by omega), if_pos (by omega), if_pos (by omega)]⟩ | exact zDE hs rfl rfl rfl rfl ⟨_, by unfold zHN zHU; rw [if_neg (by omega), if_neg (by omega)], by unfold zEY zIS zIT; rw [if_neg (by omega), if_neg (by omega), if_neg (by omega)]⟩
  intro a w hs
  refine zS [.p [] [], .v [0] (.bool (false)), .p [1] [], .p [2] [], .p [3, 2] [], .p [4, 2] [], .p [5, 2] [], .p [6, 2] [], .p [2] [], .p [8, 2] [], .p [9, 2] [], .p [10, 2] [], .v [11, 7, 2] undef, .p [12, 2] [], .p [13] []] [14] hs .n .n (by kernel_rfl) ⟨fun _ _ _ _ hm hs K => zCB hs rfl rfl rfl (fun a w hs => wpList_nil (K _ _ (by rw [show ((((zU (sns l) x.t : Nat) : Int) : Int) == 0) = false from by rw [beq_eq_false_iff_ne]; omega] at hs; exact hs))), fun _ _ _ _ hm hs K => zAz hs rfl rfl rfl rfl rfl (vk K), ⟨rfl, by kernel_rfl, fun _ => rfl, rfl, rfl, trivial⟩, fun _ => rfl, ?_⟩
  refine goE 1 [] [9, 5, 0, 1] .n ?_
  intro a w hs
  refine zAx [.p [] [], .p [] [], .p [1] [], .p [2] [], .y [3] u [] [] [] fun vs12 => [], .p [] [], .p [] [], .p [] [0], .p [7, 6] [], .x [8] ⟨[], [], [], fun vs12 => vs12 9 = .slice (some ⟨(zCQ (vs12 9)), 0, none⟩) 1 1, fun vs12 => [blk (zCQ (vs12 9)) [zI x.t, zI x.t, zI x.tm, x.v] 88], none⟩, .x [5, 4] ⟨[row u 88 4 l.length (l.flatMap riV)], [9], [], fun vs12 => True, fun vs12 => [row (vs12 10) 88 4 ((zB2 l (zU (sns l) x.t) x).length) ((zB2 l (zU (sns l) x.t) x).flatMap riV)], none⟩, .p [0] [], .p [11] [], .x [12] ⟨[blk g [u, nI most, zI fl, .bool (gone)] 75], [], [10], fun vs12 => True, fun vs12 => [blk g [(vs12 10), nI most, zI fl, .bool (gone)] 75], none⟩] [] hs .n (.c (.s (.s .z)) (.c .z .n)) (.c .z .n) (by kernel_rfl) ⟨rfl, ⟨(.c .z (.c .z .n)), by kernel_rfl, fun _ => rfl, rfl, rfl⟩, ⟨?_, ?_, ?_, ?_, trivial⟩, ?_⟩
  ·
   intro a_ w_ R_ rest_ vs12 hm hs ht hx
   have hs0 := hs.bare
   refine zAI hs rfl (hm.own (List.mem_append.2 (.inr ((hx 13 (zL 14 _ (by kernel_rfl))).1 _ (List.Mem.head _))))) .z isAgg73 rfl ?_; clear hs; intro a w hs
   exact wpList_nil ⟨rfl, _, _, hs0, (.c .r), hs, rfl⟩
  ·
   intro a_ w_ R_ rest_ vs12 hm hs ht hx
   have hs0 := hs.bare
   refine zFv (cs := [zI x.t, zI x.t, zI x.tm, x.v]) hs (.c .n) (.c rfl .n) underlying73 (ie := Tryz.t88) rfl rfl rfl rfl (by decide) (by decide) rfl (by decide) rfl rfl rfl ?_; clear hs; intro g13 a w hs
   exact wpList_nil ⟨rfl, _, _, hs0, (.c .r), hs, rfl⟩
  ·
   intro a_ w_ R_ rest_ vs12 hm hs ht hx
   have t9 := ht 9 (zL 14 _ (by kernel_rfl))
   have e9 : _ = some (vs12 9) := t9.val rfl
   rw [show vs12 9 = .slice (some ⟨(zCQ (vs12 9)), 0, none⟩) 1 1 from t9.2.1] at e9
   replace hs := hs.learn e9
   have hs0 := hs.bare
   refine zO hs (.c rfl (.c rfl (.c rfl .n))) call33 (.c .z (.c .z .n)) (zJR (x := x) (hs.mem.del .z) (hs.mem.del (.s .z)) (hs.mem.ndX (.c .z (.c .z .n))) (by omega) hiv hxs (by omega)) rfl ?_; clear hs; rintro v14 _ a w rfl hs
   exact wpList_nil ⟨rfl, _, _, hs0, (.c (.c (.c .r))), hs, trivial⟩
  ·
   intro a_ w_ R_ rest_ vs12 hm hs ht hx
   have t10 := ht 10 (zL 14 _ (by kernel_rfl))
   have e10 : _ = some (vs12 10) := t10.val rfl
   replace hs := hs.learn e10
   have hs0 := hs.bare
   refine zB4 hs rfl rfl .z .z (zM (hm.own (List.mem_append.2 (.inr ((ht 10 (zL 14 _ (by kernel_rfl))).2.2 (zFR (n := 14) (by kernel_rfl)) _ (List.Mem.head _)))))).isSl.one sizeOf73 ?_; clear hs; intro a w hs
   exact wpList_nil ⟨rfl, .tuple #[], _, hs0, (.c (.c .r)), hs, trivial⟩
  clear hs w a; intro vs12 a w hs hf
  generalize vs12 10 = v15 at hs
  clear hf
  revert a w hs
  refine goE 0 [] [0] .n ?_
  intro a w hs
  refine zS [.p [] [], .p [0] [], .p [1] [], .p [2] [0], .v [3] (nI ((zB2 l (zU (sns l) x.t) x).length)), .p [] [], .p [5] [], .p [6] [], .p [7] [0], .p [8, 4] []] [9] hs .n (.c (.s (.s .z)) .n) (by kernel_rfl) ⟨rfl, fun _ _ _ _ hm hs K => zAG hs rfl (zM (hm.del (.s .z))).isSl underlying73 rfl (vk K), rfl, ⟨rfl, by kernel_rfl, fun _ => rfl, rfl, rfl, trivial⟩, fun _ => rfl, ?_⟩
  refine goE 0 [] [70, 0] .n ?_
  refine ifG rfl (fun c_17 => ?_) (fun c_17 => ?_)
  ·
   refine go 3 [] [8, 7, 6] .n ?_
   refine cl (·.drop (.c .z .n)) ?_
   refine cl (·.reorder (.c (.s .z) (.c .z .n))) ?_
   intro a w hs; first | exact zDE hs rfl rfl rfl rfl ⟨_, by unfold zHN zHU; rw [if_pos (by omega), if_pos (by omega)], by unfold zEY zIS zIT; rw [if_pos (by omega), if_pos (by omega), if_pos (by omega)]⟩ | exact zDE hs rfl rfl rfl rfl ⟨_, by unfold zHN zHU; rw [if_neg (by omega), if_neg (by omega)], by unfold zEY zIS zIT; rw [if_neg (by omega), if_neg (by omega), if_neg (by omega)]⟩
  refine go 6 [0] [76, 72, 71, 0] (.c (.s (.s .z)) .n) ⟨rfl, ?_⟩
  intro a w hs; refine zBj (j := 0) hs rfl rfl (zM (hs.mem.del (.s (.s .z)))) (by decide) (by omega) underlying73 sizeOf88 rfl ?_
  intro a w hs; refine zBn hs rfl (zM (hs.mem.del (.s (.s .z)))) (by omega) underlying88 rfl sizeOf2 (by decide) (o := 0 * 4 + 0) rfl rfl ?_
  intro a w hs; refine zA7 (u := zI (((zB2 l (zU (sns l) x.t) x).getD 0 default).t)) hs rfl (zM (hs.mem.del (.s (.s .z)))) ((zAf zCO (zB2 l (zU (sns l) x.t) x) 0 0 (by omega) (by decide)).trans rfl) isAgg2 rfl ?_
  refine goL 11 [0, 0, 0] [88, 84, 0] (.c .z .n) ⟨rfl, rfl, rfl, ?_⟩
  intro a w hs; refine zO hs (.c rfl (.c rfl (.c rfl .n))) call34 (.c (.s (.s .z)) .n) (zJI (hs.mem.del (.s (.s .z))) (by omega) hiK (by omega)) rfl ?_; clear hs w a; rintro v18 _ a w rfl hs
  revert a w hs
  refine goL 2 [] [91, 89, 0] .n ?_
  intro a w hs; refine zB4 hs rfl rfl (.s .z) .z (zM (hs.mem.del .z)).isSl.one sizeOf73 ?_
  refine goL 7 [0] [8, 7, 6] (.c .z .n) ⟨rfl, ?_⟩
  refine cl (·.drop (.c (.s (.s .z)) .n)) ?_
  intro a w hs; first | exact zDE hs rfl rfl rfl rfl ⟨_, by unfold zHN zHU; rw [if_pos (by omega), if_pos (by omega)], by unfold zEY zIS zIT; rw [if_pos (by omega), if_pos (by omega), if_pos (by omega)]⟩ | exact zDE hs rfl rfl rfl rfl ⟨_, by unfold zHN zHU; rw [if_neg (by omega), if_neg (by omega)], by unfold zEY zIS zIT; rw [if_neg (by omega), if_neg (by omega), if_neg (by omega)]⟩
 rw [c_2] at hs
 revert a w hs
 refine go 9 [] [9, 5, 0, 1] .n ?_
 by_cases kz : zU (sns l) x.t = 0
 ·
  intro a w hs
  refine zS [.p [] [], .v [0] (.bool (true)), .p [1] [], .p [2] [], .p [3, 2] [], .p [4, 2] [], .p [5, 2] [0], .v [6, 2] (nI l.length), .p [2] [], .p [8, 2] [], .p [9, 2] [], .p [10, 2] [0], .v [11, 7, 2] (.bool (false)), .p [12, 2] [], .p [13] []] [14] hs .n (.c .z .n) (by kernel_rfl) ⟨fun _ _ _ _ hm hs K => zCB hs rfl rfl rfl (fun a w hs => wpList_nil (K _ _ (by rw [show ((((zU (sns l) x.t : Nat) : Int) : Int) == 0) = true from by rw [beq_iff_eq]; omega] at hs; exact hs))), rfl, fun _ _ _ _ hm hs K => zC hs rfl rfl rfl (zAG hs rfl (zM (hm.del (.s (.s .z)))).isSl underlying73 rfl (vk K)), rfl, fun _ _ _ _ hm hs K => zC hs rfl rfl rfl (zCB hs rfl rfl rfl (fun a w hs => wpList_nil (K _ _ (by rw [show ((((l.length : Nat) : Int) : Int) == ((most : Nat) : Int)) = false from by rw [beq_eq_false_iff_ne]; intro h; exact hz ⟨by omega, by omega⟩] at hs; exact hs)))), ⟨rfl, by kernel_rfl, fun _ => rfl, rfl, rfl, trivial⟩, fun _ => rfl, ?_⟩
  refine goE 1 [] [9, 5, 0, 1] .n ?_
  intro a w hs
  refine zAx [.p [] [], .p [] [], .p [1] [], .p [2] [], .y [3] u [] [] [] fun vs20 => [], .p [] [], .p [] [], .p [] [0], .p [7, 6] [], .x [8] ⟨[], [], [], fun vs20 => vs20 9 = .slice (some ⟨(zCQ (vs20 9)), 0, none⟩) 1 1, fun vs20 => [blk (zCQ (vs20 9)) [zI x.t, zI x.t, zI x.tm, x.v] 88], none⟩, .x [5, 4] ⟨[row u 88 4 l.length (l.flatMap riV)], [9], [], fun vs20 => True, fun vs20 => [row (vs20 10) 88 4 ((zB2 l (zU (sns l) x.t) x).length) ((zB2 l (zU (sns l) x.t) x).flatMap riV)], none⟩, .p [0] [], .p [11] [], .x [12] ⟨[blk g [u, nI most, zI fl, .bool (gone)] 75], [], [10], fun vs20 => True, fun vs20 => [blk g [(vs20 10), nI most, zI fl, .bool (gone)] 75], none⟩] [] hs .n (.c (.s (.s .z)) (.c .z .n)) (.c .z .n) (by kernel_rfl) ⟨rfl, ⟨(.c .z (.c .z .n)), by kernel_rfl, fun _ => rfl, rfl, rfl⟩, ⟨?_, ?_, ?_, ?_, trivial⟩, ?_⟩
  ·
   intro a_ w_ R_ rest_ vs20 hm hs ht hx
   have hs0 := hs.bare
   refine zAI hs rfl (hm.own (List.mem_append.2 (.inr ((hx 13 (zL 14 _ (by kernel_rfl))).1 _ (List.Mem.head _))))) .z isAgg73 rfl ?_; clear hs; intro a w hs
   exact wpList_nil ⟨rfl, _, _, hs0, (.c .r), hs, rfl⟩
  ·
   intro a_ w_ R_ rest_ vs20 hm hs ht hx
   have hs0 := hs.bare
   refine zFv (cs := [zI x.t, zI x.t, zI x.tm, x.v]) hs (.c .n) (.c rfl .n) underlying73 (ie := Tryz.t88) rfl rfl rfl rfl (by decide) (by decide) rfl (by decide) rfl rfl rfl ?_; clear hs; intro g21 a w hs
   exact wpList_nil ⟨rfl, _, _, hs0, (.c .r), hs, rfl⟩
  ·
   intro a_ w_ R_ rest_ vs20 hm hs ht hx
   have t9 := ht 9 (zL 14 _ (by kernel_rfl))
   have e9 : _ = some (vs20 9) := t9.val rfl
   rw [show vs20 9 = .slice (some ⟨(zCQ (vs20 9)), 0, none⟩) 1 1 from t9.2.1] at e9
   replace hs := hs.learn e9
   have hs0 := hs.bare
   refine zO hs (.c rfl (.c rfl (.c rfl .n))) call33 (.c .z (.c .z .n)) (zJR (x := x) (hs.mem.del .z) (hs.mem.del (.s .z)) (hs.mem.ndX (.c .z (.c .z .n))) (by omega) hiv hxs (by omega)) rfl ?_; clear hs; rintro v22 _ a w rfl hs
   exact wpList_nil ⟨rfl, _, _, hs0, (.c (.c (.c .r))), hs, trivial⟩
  ·
   intro a_ w_ R_ rest_ vs20 hm hs ht hx
   have t10 := ht 10 (zL 14 _ (by kernel_rfl))
   have e10 : _ = some (vs20 10) := t10.val rfl
   replace hs := hs.learn e10
   have hs0 := hs.bare
   refine zB4 hs rfl rfl .z .z (zM (hm.own (List.mem_append.2 (.inr ((ht 10 (zL 14 _ (by kernel_rfl))).2.2 (zFR (n := 14) (by kernel_rfl)) _ (List.Mem.head _)))))).isSl.one sizeOf73 ?_; clear hs; intro a w hs
   exact wpList_nil ⟨rfl, .tuple #[], _, hs0, (.c (.c .r)), hs, trivial⟩
  clear hs w a; intro vs20 a w hs hf
  generalize vs20 10 = v23 at hs
  clear hf
  revert a w hs
  refine goE 0 [] [0] .n ?_
  intro a w hs
  refine zS [.p [] [], .p [0] [], .p [1] [], .p [2] [0], .v [3] (nI ((zB2 l (zU (sns l) x.t) x).length)), .p [] [], .p [5] [], .p [6] [], .p [7] [0], .p [8, 4] []] [9] hs .n (.c (.s (.s .z)) .n) (by kernel_rfl) ⟨rfl, fun _ _ _ _ hm hs K => zAG hs rfl (zM (hm.del (.s .z))).isSl underlying73 rfl (vk K), rfl, ⟨rfl, by kernel_rfl, fun _ => rfl, rfl, rfl, trivial⟩, fun _ => rfl, ?_⟩
  refine goE 0 [] [70, 0] .n ?_
  refine ifG rfl (fun c_25 => ?_) (fun c_25 => ?_)
  ·
   refine go 3 [] [8, 7, 6] .n ?_
   refine cl (·.drop (.c .z .n)) ?_
   refine cl (·.reorder (.c (.s .z) (.c .z .n))) ?_
   intro a w hs; first | exact zDE hs rfl rfl rfl rfl ⟨_, by unfold zHN zHU; rw [if_pos (by omega), if_pos (by omega)], by unfold zEY zIS zIT; rw [if_pos (by omega), if_pos (by omega), if_pos (by omega)]⟩ | exact zDE hs rfl rfl rfl rfl ⟨_, by unfold zHN zHU; rw [if_neg (by omega), if_neg (by omega)], by unfold zEY zIS zIT; rw [if_neg (by omega), if_neg (by omega), if_neg (by omega)]⟩
  refine go 6 [0] [76, 72, 71, 0] (.c (.s (.s .z)) .n) ⟨rfl, ?_⟩
  intro a w hs; refine zBj (j := 0) hs rfl rfl (zM (hs.mem.del (.s (.s .z)))) (by decide) (by omega) underlying73 sizeOf88 rfl ?_
  intro a w hs; refine zBn hs rfl (zM (hs.mem.del (.s (.s .z)))) (by omega) underlying88 rfl sizeOf2 (by decide) (o := 0 * 4 + 0) rfl rfl ?_
  intro a w hs; refine zA7 (u := zI (((zB2 l (zU (sns l) x.t) x).getD 0 default).t)) hs rfl (zM (hs.mem.del (.s (.s .z)))) ((zAf zCO (zB2 l (zU (sns l) x.t) x) 0 0 (by omega) (by decide)).trans rfl) isAgg2 rfl ?_
  refine goL 11 [0, 0, 0] [88, 84, 0] (.c .z .n) ⟨rfl, rfl, rfl, ?_⟩
  intro a w hs; refine zO hs (.c rfl (.c rfl (.c rfl .n))) call34 (.c (.s (.s .z)) .n) (zJI (hs.mem.del (.s (.s .z))) (by omega) hiK (by omega)) rfl ?_; clear hs w a; rintro v26 _ a w rfl hs
  revert a w hs
  refine goL 2 [] [91, 89, 0] .n ?_
  intro a w hs; refine zB4 hs rfl rfl (.s .z) .z (zM (hs.mem.del .z)).isSl.one sizeOf73 ?_
  refine goL 7 [0] [8, 7, 6] (.c .z .n) ⟨rfl, ?_⟩
  refine cl (·.drop (.c (.s (.s .z)) .n)) ?_
  intro a w hs; first | exact zDE hs rfl rfl rfl rfl ⟨_, by unfold zHN zHU; rw [if_pos (by omega), if_pos (by omega)], by unfold zEY zIS zIT; rw [if_pos (by omega), if_pos (by omega), if_pos (by omega)]⟩ | exact zDE hs rfl rfl rfl rfl ⟨_, by unfold zHN zHU; rw [if_neg (by omega), if_neg (by omega)], by unfold zEY zIS zIT; rw [if_neg (by omega), if_neg (by omega), if_neg (by omega)]⟩
 intro a w hs
 refine zS [.p [] [], .v [0] (.bool (false)), .p [1] [], .p [2] [], .p [3, 2] [], .p [4, 2] [], .p [5, 2] [], .p [6, 2] [], .p [2] [], .p [8, 2] [], .p [9, 2] [], .p [10, 2] [], .v [11, 7, 2] undef, .p [12, 2] [], .p [13] []] [14] hs .n .n (by kernel_rfl) ⟨fun _ _ _ _ hm hs K => zCB hs rfl rfl rfl (fun a w hs => wpList_nil (K _ _ (by rw [show ((((zU (sns l) x.t : Nat) : Int) : Int) == 0) = false from by rw [beq_eq_false_iff_ne]; omega] at hs; exact hs))), fun _ _ _ _ hm hs K => zAz hs rfl rfl rfl rfl rfl (vk K), ⟨rfl, by kernel_rfl, fun _ => rfl, rfl, rfl, trivial⟩, fun _ => rfl, ?_⟩
 refine goE 1 [] [9, 5, 0, 1] .n ?_
 intro a w hs
 refine zAx [.p [] [], .p [] [], .p [1] [], .p [2] [], .y [3] u [] [] [] fun vs28 => [], .p [] [], .p [] [], .p [] [0], .p [7, 6] [], .x [8] ⟨[], [], [], fun vs28 => vs28 9 = .slice (some ⟨(zCQ (vs28 9)), 0, none⟩) 1 1, fun vs28 => [blk (zCQ (vs28 9)) [zI x.t, zI x.t, zI x.tm, x.v] 88], none⟩, .x [5, 4] ⟨[row u 88 4 l.length (l.flatMap riV)], [9], [], fun vs28 => True, fun vs28 => [row (vs28 10) 88 4 ((zB2 l (zU (sns l) x.t) x).length) ((zB2 l (zU (sns l) x.t) x).flatMap riV)], none⟩, .p [0] [], .p [11] [], .x [12] ⟨[blk g [u, nI most, zI fl, .bool (gone)] 75], [], [10], fun vs28 => True, fun vs28 => [blk g [(vs28 10), nI most, zI fl, .bool (gone)] 75], none⟩] [] hs .n (.c (.s (.s .z)) (.c .z .n)) (.c .z .n) (by kernel_rfl) ⟨rfl, ⟨(.c .z (.c .z .n)), by kernel_rfl, fun _ => rfl, rfl, rfl⟩, ⟨?_, ?_, ?_, ?_, trivial⟩, ?_⟩
 ·
  intro a_ w_ R_ rest_ vs28 hm hs ht hx
  have hs0 := hs.bare
  refine zAI hs rfl (hm.own (List.mem_append.2 (.inr ((hx 13 (zL 14 _ (by kernel_rfl))).1 _ (List.Mem.head _))))) .z isAgg73 rfl ?_; clear hs; intro a w hs
  exact wpList_nil ⟨rfl, _, _, hs0, (.c .r), hs, rfl⟩
 ·
  intro a_ w_ R_ rest_ vs28 hm hs ht hx
  have hs0 := hs.bare
  refine zFv (cs := [zI x.t, zI x.t, zI x.tm, x.v]) hs (.c .n) (.c rfl .n) underlying73 (ie := Tryz.t88) rfl rfl rfl rfl (by decide) (by decide) rfl (by decide) rfl rfl rfl ?_; clear hs; intro g29 a w hs
  exact wpList_nil ⟨rfl, _, _, hs0, (.c .r), hs, rfl⟩
 ·
  intro a_ w_ R_ rest_ vs28 hm hs ht hx
  have t9 := ht 9 (zL 14 _ (by kernel_rfl))
  have e9 : _ = some (vs28 9) := t9.val rfl
  rw [show vs28 9 = .slice (some ⟨(zCQ (vs28 9)), 0, none⟩) 1 1 from t9.2.1] at e9
  replace hs := hs.learn e9
  have hs0 := hs.bare
  refine zO hs (.c rfl (.c rfl (.c rfl .n))) call33 (.c .z (.c .z .n)) (zJR (x := x) (hs.mem.del .z) (hs.mem.del (.s .z)) (hs.mem.ndX (.c .z (.c .z .n))) (by omega) hiv hxs (by omega)) rfl ?_; clear hs; rintro v30 _ a w rfl hs
  exact wpList_nil ⟨rfl, _, _, hs0, (.c (.c (.c .r))), hs, trivial⟩
 ·
  intro a_ w_ R_ rest_ vs28 hm hs ht hx
  have t10 := ht 10 (zL 14 _ (by kernel_rfl))
  have e10 : _ = some (vs28 10) := t10.val rfl
  replace hs := hs.learn e10
  have hs0 := hs.bare
  refine zB4 hs rfl rfl .z .z (zM (hm.own (List.mem_append.2 (.inr ((ht 10 (zL 14 _ (by kernel_rfl))).2.2 (zFR (n := 14) (by kernel_rfl)) _ (List.Mem.head _)))))).isSl.one sizeOf73 ?_; clear hs; intro a w hs
  exact wpList_nil ⟨rfl, .tuple #[], _, hs0, (.c (.c .r)), hs, trivial⟩
 clear hs w a; intro vs28 a w hs hf
 generalize vs28 10 = v31 at hs
 clear hf
 revert a w hs
 refine goE 0 [] [0] .n ?_
 intro a w hs
 refine zS [.p [] [], .p [0] [], .p [1] [], .p [2] [0], .v [3] (nI ((zB2 l (zU (sns l) x.t) x).length)), .p [] [], .p [5] [], .p [6] [], .p [7] [0], .p [8, 4] []] [9] hs .n (.c (.s (.s .z)) .n) (by kernel_rfl) ⟨rfl, fun _ _ _ _ hm hs K => zAG hs rfl (zM (hm.del (.s .z))).isSl underlying73 rfl (vk K), rfl, ⟨rfl, by kernel_rfl, fun _ => rfl, rfl, rfl, trivial⟩, fun _ => rfl, ?_⟩
 refine goE 0 [] [70, 0] .n ?_
 refine ifG rfl (fun c_33 => ?_) (fun c_33 => ?_)
 ·
  refine go 3 [] [8, 7, 6] .n ?_
  refine cl (·.drop (.c .z .n)) ?_
  refine cl (·.reorder (.c (.s .z) (.c .z .n))) ?_
  intro a w hs; first | exact zDE hs rfl rfl rfl rfl ⟨_, by unfold zHN zHU; rw [if_pos (by omega), if_pos (by omega)], by unfold zEY zIS zIT; rw [if_pos (by omega), if_pos (by omega), if_pos (by omega)]⟩ | exact zDE hs rfl rfl rfl rfl ⟨_, by unfold zHN zHU; rw [if_neg (by omega), if_neg (by omega)], by unfold zEY zIS zIT; rw [if_neg (by omega), if_neg (by omega), if_neg (by omega)]⟩
 refine go 6 [0] [76, 72, 71, 0] (.c (.s (.s .z)) .n) ⟨rfl, ?_⟩
 intro a w hs; refine zBj (j := 0) hs rfl rfl (zM (hs.mem.del (.s (.s .z)))) (by decide) (by omega) underlying73 sizeOf88 rfl ?_
 intro a w hs; refine zBn hs rfl (zM (hs.mem.del (.s (.s .z)))) (by omega) underlying88 rfl sizeOf2 (by decide) (o := 0 * 4 + 0) rfl rfl ?_
 intro a w hs; refine zA7 (u := zI (((zB2 l (zU (sns l) x.t) x).getD 0 default).t)) hs rfl (zM (hs.mem.del (.s (.s .z)))) ((zAf zCO (zB2 l (zU (sns l) x.t) x) 0 0 (by omega) (by decide)).trans rfl) isAgg2 rfl ?_
 refine goL 11 [0, 0, 0] [88, 84, 0] (.c .z .n) ⟨rfl, rfl, rfl, ?_⟩
 intro a w hs; refine zO hs (.c rfl (.c rfl (.c rfl .n))) call34 (.c (.s (.s .z)) .n) (zJI (hs.mem.del (.s (.s .z))) (by omega) hiK (by omega)) rfl ?_; clear hs w a; rintro v34 _ a w rfl hs
 revert a w hs
 refine goL 2 [] [91, 89, 0] .n ?_
 intro a w hs; refine zB4 hs rfl rfl (.s .z) .z (zM (hs.mem.del .z)).isSl.one sizeOf73 ?_
 refine goL 7 [0] [8, 7, 6] (.c .z .n) ⟨rfl, ?_⟩
 refine cl (·.drop (.c (.s (.s .z)) .n)) ?_
 intro a w hs; first | exact zDE hs rfl rfl rfl rfl ⟨_, by unfold zHN zHU; rw [if_pos (by omega), if_pos (by omega)], by unfold zEY zIS zIT; rw [if_pos (by omega), if_pos (by omega), if_pos (by omega)]⟩ | exact zDE hs rfl rfl rfl rfl ⟨_, by unfold zHN zHU; rw [if_neg (by omega), if_neg (by omega)], by unfold zEY zIS zIT; rw [if_neg (by omega), if_neg (by omega), if_neg (by omega)]⟩
end Go.Proofs.YtbacobmcfelmkaaGreat
