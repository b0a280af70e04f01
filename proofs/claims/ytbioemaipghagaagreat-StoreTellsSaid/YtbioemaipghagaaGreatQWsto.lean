/- Walks of stores: what each function does, over the program of this seat. Printed by a program of this session. -/
import Derived.Test.YtbioemaipghagaaGreatQWring
import Derived.Test.YtbioemaipghagaaGreatQSxStos
import Derived.Test.YtbioemaipghagaaGreatQSxBasB
namespace Go.Proofs.YtbioemaipghagaaGreat
open Go Go.Sx Go.RowKit
set_option linter.unusedVariables false
set_option linter.unusedSimpArgs false
set_option maxRecDepth 4000
set_option maxHeartbeats 1000000

theorem own_ok (t tm : Int) (v : Value) (l : List EntR) (w0 : World) (hc : Rd w0 [] v 9 l.length (l.flatMap entV)) (hl : l.length ≤ 100000) : Calls Tryz.prog 54 #[.agg #[.int .i64 (t), .int .i64 (tm), v]] w0 (Ret w0 [] fun u N => ∃ v', u = .agg #[.int .i64 t, .int .i64 tm, v'] ∧ N = [row v' 73 9 l.length (l.flatMap entV)]) := by
 refine enterG (F0 := [(0, .agg #[.int .i64 (t), .int .i64 (tm), v])]) Tryz.func54 rfl rfl rfl (.c .n) (Mem.nil _) fun a w hs => ?_
 refine go 2 [0] [2, 1] hs .n (fun g1 => fun g2 => ?_); clear hs w a; intro a w hs
 refine st_bs0 hs Tryz.underlying22 rfl ?_ ⟨_, Tryz.sizeOf73⟩; clear hs w a; intro g3 a w hs
 refine goL 2 [0] [5, 3, 2, 1] hs (.c (.s (.s .z)) .n) ⟨rfl, ?_⟩; clear hs w a; intro a w hs
 replace hs := hs.toRow (size := 9) (m := 0) (.s .z) rfl (by decide)
 refine st_app (size := 9) (bytes := 64) hs rfl rfl .z (hs.rd0 hc) (one_entsA _) Tryz.underlying22 (i := Tryz.t73) rfl rfl rfl rfl rfl (by decide) (by omega) (by simp only [maxLen]; omega) rfl ?_; clear hs w a; intro v4 a w hs
 replace hs := hs.rerow .z (m' := l.length) (xs' := (l.flatMap entV)) (by omega) (by simp)
 refine goL 1 [] [7, 6, 2, 1] hs .n ?_; clear hs w a; intro a w hs
 refine st_stB hs rfl rfl (.s .z) (.s (.s .z)) (rd_row (hs.mem.del .z)).isSl.one Tryz.sizeOf22 ?_; clear hs w a; intro a w hs
 refine goL 1 [0] [8, 2] hs (.c .z .n) ⟨rfl, ?_⟩; clear hs w a; intro a w hs
 refine st_stBA hs rfl rfl (.s (.s .z)) (.z (.c (.c (.c .n)))) (ones_c rfl (ones_c rfl (ones_c (rd_row (hs.mem.del (.s .z))).isSl.one ones_n))) Tryz.sizeOf24 rfl ?_; clear hs w a; intro a w hs
 refine goL 0 [] [2] hs .n ?_; clear hs w a; intro a w hs
 exact finC hs rfl rfl .z (.z (.c (.c (.c .n)))) Tryz.isAgg24 Tryz.sizeOf24 (.c (.s .z) (.c .z .n)) ⟨_, rfl, rfl⟩
theorem refu_ok (b : Bool) (why e ge : Nat) (te : Nat) (w0 : World) (hb : (blk ge [.int .i64 ((e : Nat) : Int)] te).p w0) : Calls Tryz.prog 78 #[.bool b, .int .i64 ((why : Nat) : Int), .pointer (some ⟨ge, 0, none⟩)] w0 (Ret w0 [ge] fun u N => u = .tuple #[] ∧ N = [blk ge [.int .i64 ((refu e b why : Nat) : Int)] te]) := by
 refine enterG (F0 := [(0, .bool (b)), (1, .int .i64 (((why : Nat) : Int))), (2, .pointer (some ⟨ge, 0, none⟩))]) Tryz.func78 rfl rfl rfl (.c (.c (.c .n))) (mem_one hb) fun a w hs => ?_
 refine go 3 [0] [7, 0, 1, 2] hs (.c .z .n) ⟨rfl, ?_⟩; clear hs w a; intro a w hs
 refine st_part (b := (((e : Nat) : Int) : Int) == 0) (fun c_1 => ?_) (fun c_1 => ?_)
 ·
  rw [c_1] at hs
  replace c_1 := eq_of_beq c_1
  refine go 2 [] [9, 1, 2] hs .n ?_; clear hs w a; intro a w hs
  refine ifG hs rfl (fun c_2 => ?_) (fun c_2 => ?_)
  ·
   refine go 2 [0] [] hs (.c .z .n) ⟨rfl, ?_⟩; clear hs w a; intro a w hs
   exact fin0 hs rfl ⟨rfl, by first | (rw [refu_t (by omega) (by assumption)] <;> rfl) | (rw [refu_n (by omega)] <;> rfl) | (rw [refu_f (by assumption)] <;> rfl)⟩
  refine go 0 [] [] hs .n ?_; clear hs w a; intro a w hs
  exact fin0 hs rfl ⟨rfl, by first | (rw [refu_t (by omega) (by assumption)] <;> rfl) | (rw [refu_n (by omega)] <;> rfl) | (rw [refu_f (by assumption)] <;> rfl)⟩
 rw [c_1] at hs
 replace c_1 := ne_of_beq_f c_1
 refine go 3 [] [] hs .n ?_; clear hs w a; intro a w hs
 exact fin0 hs rfl ⟨rfl, by first | (rw [refu_t (by omega) (by assumption)] <;> rfl) | (rw [refu_n (by omega)] <;> rfl) | (rw [refu_f (by assumption)] <;> rfl)⟩
theorem stale_ok (p g : Nat) (u : Value) (l : List RI) (most : Nat) (fl : Int) (gone : Bool) (N : Nat → Nat) (k : Int) (w0 : World) (hp : (blk p [.pointer (some ⟨g, 0, none⟩), .int .i64 (((most : Nat) : Int)), .int .i64 (((N 0 : Nat) : Int)), .int .i64 (((N 1 : Nat) : Int)), .int .i64 (((N 2 : Nat) : Int)), .int .i64 (((N 3 : Nat) : Int)), .int .i64 (((N 4 : Nat) : Int)), .int .i64 (((N 5 : Nat) : Int)), .int .i64 (((N 6 : Nat) : Int)), .int .i64 (((N 7 : Nat) : Int)), .int .i64 (((N 8 : Nat) : Int)), .int .i64 (((N 9 : Nat) : Int)), .int .i64 (((N 10 : Nat) : Int)), .int .i64 (((N 11 : Nat) : Int)), .int .i64 (((N 12 : Nat) : Int)), .int .i64 (((N 13 : Nat) : Int)), .int .i64 (((N 14 : Nat) : Int)), .int .i64 (((N 15 : Nat) : Int)), .int .i64 (((N 16 : Nat) : Int)), .int .i64 (((N 17 : Nat) : Int))] 105).p w0) (hg : (blk g [u, .int .i64 (((most : Nat) : Int)), .int .i64 (fl), .bool (gone)] 138).p w0) (hu : Rd w0 [] u 4 l.length (l.flatMap riV)) (hrw : (rws 73 l).p w0) (ho : Oks (sns l) most) : Calls Tryz.prog 79 #[.pointer (some ⟨p, 0, none⟩), .int .i64 k] w0 (RetV w0 (.bool (stl (sns l) most fl gone k))) := by
 have hiv := rws_isl hrw
 have hsr := ho.srt
 have hll : l.length ≤ 100000 := by have := ho.le; have := ho.m64; rw [sns_len] at *; omega
 have hm64 := ho.m64
 refine enterG (F0 := [(0, .pointer (some ⟨p, 0, none⟩)), (1, .int .i64 (k))]) Tryz.func79 rfl rfl rfl (.c (.c .n)) (Mem.nil _) fun a w hs => ?_
 refine go 4 [] [10, 0, 1] hs .n ?_; clear hs w a; intro a w hs
 refine st_ldE hs rfl (hs.mem.keep hp (by simp [feet, blk])) .z Tryz.isAgg101 rfl ?_; clear hs w a; intro a w hs
 refine st_callP (v := .tuple #[.int .i64 (fl), .bool (gone)]) hs (.c rfl .n) Tryz.call100 (rfloor_ok g _ l most fl gone _ (hs.mem.keep hg (by simp [feet, blk]))) rfl ?_; clear hs w a; intro a w hs
 refine goL 5 [] [6, 5, 0, 1] hs .n ?_; clear hs w a; intro a w hs
 by_cases cg : gone = true
 ·
  rw [cg] at hs
  by_cases ck : k ≤ fl
  ·
   refine wp_drawN [.p [] [], .p [0] [], .p [1] [], .p [1] [], .v [3, 2, 1] (.bool (true)), .p [4, 1] [], .p [5] [], .p [6] [], .p [7, 6] [], .p [8, 6] [], .p [9, 6] [], .p [10, 6] [], .p [6] [], .p [12, 6] [], .p [13, 6] [], .p [14, 6] [], .v [15, 11, 6] undef, .p [16, 6] [], .p [17] [], .p [18, 17] [], .p [19, 17] [], .p [20, 17] [], .p [17] [], .p [22, 21, 17] [], .v [23, 17] undef, .p [24, 17, 6] [], .p [25, 6] [], .p [26] []] [27] hs .n (by kernel_rfl) ⟨?_, ?_, ?_, ⟨rfl, by kernel_rfl, fun _ => rfl, trivial⟩, ?_⟩
   ·
    intro a_ w_ R_ Q_ hm hs K_
    refine st_guardT hs rfl rfl rfl ?_
    refine st_leq hs rfl rfl rfl ?_; clear hs; intro a w hs
    have hb_ : (decide (k ≤ fl)) = true := decide_eq_true ck
    rw [hb_] at hs; clear hb_
    exact wpList_nil (K_ _ _ hs)
   ·
    intro a_ w_ R_ Q_ hm hs K_
    refine st_guardF hs rfl rfl rfl rfl rfl ?_; clear hs; intro a w hs
    exact wpList_nil (K_ _ _ hs)
   ·
    intro a_ w_ R_ Q_ hm hs K_
    refine st_guardU hs rfl rfl rfl rfl ?_; clear hs; intro a w hs
    exact wpList_nil (K_ _ _ hs)
   clear hs w a; intro a w hs
   refine goE 0 [] [4] hs .n ?_; clear hs w a; intro a w hs
   exact fin hs rfl rfl ⟨congrArg Value.bool (by unfold stl; rw [sns_len]; simp_all), rfl⟩
  by_cases cl : l.length = most
  ·
   by_cases cu : kuntil (sns l) k = 0
   ·
    refine wp_drawN [.p [] [], .p [0] [], .p [1] [], .p [1] [], .v [3, 2, 1] (.bool (false)), .p [4, 1] [], .p [5] [], .p [6] [], .p [7, 6] [], .p [8, 6] [], .v [9, 6] (.pointer (some ⟨g, 0, none⟩)), .v [10, 6] (.int .i64 (((l.length : Nat) : Int))), .p [6] [], .p [12, 6] [], .p [13, 6] [], .v [14, 6] (.int .i64 (((most : Nat) : Int))), .v [15, 11, 6] (.bool (true)), .p [16, 6] [], .p [17] [], .p [18, 17] [], .p [19, 17] [], .v [20, 17] (.pointer (some ⟨g, 0, none⟩)), .p [17] [], .v [22, 21, 17] (.int .i64 (((kuntil (sns l) k : Nat) : Int))), .v [23, 17] (.bool (true)), .p [24, 17, 6] [], .p [25, 6] [], .p [26] []] [27] hs .n (by kernel_rfl) ⟨?_, ?_, ?_, ?_, ?_, ?_, ?_, ?_, ⟨rfl, by kernel_rfl, fun _ => rfl, trivial⟩, ?_⟩
    ·
     intro a_ w_ R_ Q_ hm hs K_
     refine st_guardT hs rfl rfl rfl ?_
     refine st_leq hs rfl rfl rfl ?_; clear hs; intro a w hs
     have hb_ : (decide (k ≤ fl)) = false := decide_eq_false ck
     rw [hb_] at hs; clear hb_
     exact wpList_nil (K_ _ _ hs)
    ·
     intro a_ w_ R_ Q_ hm hs K_
     refine st_guardT hs rfl rfl rfl ?_
     refine st_ldE hs rfl (hm.keep hp (by simp [feet, blk])) .z Tryz.isAgg101 rfl ?_; clear hs; intro a w hs
     exact wpList_nil (K_ _ _ hs)
    ·
     intro a_ w_ R_ Q_ hm hs K_
     refine st_guardT hs rfl rfl rfl ?_
     refine st_callP (v := .int .i64 (((l.length : Nat) : Int))) hs (.c rfl .n) Tryz.call52 (ringlen_ok g _ l most fl gone _ (hm.rd0 hu) (hm.keep hg (by simp [feet, blk])) hsr (by omega) hiv) rfl ?_; clear hs; intro a w hs
     exact wpList_nil (K_ _ _ hs)
    ·
     intro a_ w_ R_ Q_ hm hs K_
     refine st_guardT hs rfl rfl rfl ?_
     refine st_ldE hs rfl (hm.keep hp (by simp [feet, blk])) (.s .z) Tryz.isAgg3 rfl ?_; clear hs; intro a w hs
     exact wpList_nil (K_ _ _ hs)
    ·
     intro a_ w_ R_ Q_ hm hs K_
     refine st_guardT hs rfl rfl rfl ?_
     refine st_eql hs rfl rfl rfl ?_; clear hs; intro a w hs
     have hb_ : ((((l.length : Nat) : Int) : Int) == (((most : Nat) : Int))) = true := by rw [beq_iff_eq]; omega
     rw [hb_] at hs; clear hb_
     exact wpList_nil (K_ _ _ hs)
    ·
     intro a_ w_ R_ Q_ hm hs K_
     refine st_guardT hs rfl rfl rfl ?_
     refine st_ldE hs rfl (hm.keep hp (by simp [feet, blk])) .z Tryz.isAgg101 rfl ?_; clear hs; intro a w hs
     exact wpList_nil (K_ _ _ hs)
    ·
     intro a_ w_ R_ Q_ hm hs K_
     refine st_guardT hs rfl rfl rfl ?_
     refine st_callP (v := .int .i64 (((kuntil (sns l) k : Nat) : Int))) hs (.c rfl (.c rfl .n)) Tryz.call101 (runtil_ok g _ l most fl gone k _ (hm.rd0 hu) (hm.keep hg (by simp [feet, blk])) hsr (by omega) hiv) rfl ?_; clear hs; intro a w hs
     exact wpList_nil (K_ _ _ hs)
    ·
     intro a_ w_ R_ Q_ hm hs K_
     refine st_guardT hs rfl rfl rfl ?_
     refine st_eql hs rfl rfl rfl ?_; clear hs; intro a w hs
     have hb_ : ((((kuntil (sns l) k : Nat) : Int) : Int) == 0) = true := by rw [beq_iff_eq]; omega
     rw [hb_] at hs; clear hb_
     exact wpList_nil (K_ _ _ hs)
    clear hs w a; intro a w hs
    refine goE 0 [] [4] hs .n ?_; clear hs w a; intro a w hs
    exact fin hs rfl rfl ⟨congrArg Value.bool (by unfold stl; rw [sns_len]; simp_all), rfl⟩
   refine wp_drawN [.p [] [], .p [0] [], .p [1] [], .p [1] [], .v [3, 2, 1] (.bool (false)), .p [4, 1] [], .p [5] [], .p [6] [], .p [7, 6] [], .p [8, 6] [], .v [9, 6] (.pointer (some ⟨g, 0, none⟩)), .v [10, 6] (.int .i64 (((l.length : Nat) : Int))), .p [6] [], .p [12, 6] [], .p [13, 6] [], .v [14, 6] (.int .i64 (((most : Nat) : Int))), .v [15, 11, 6] (.bool (true)), .p [16, 6] [], .p [17] [], .p [18, 17] [], .p [19, 17] [], .v [20, 17] (.pointer (some ⟨g, 0, none⟩)), .p [17] [], .v [22, 21, 17] (.int .i64 (((kuntil (sns l) k : Nat) : Int))), .v [23, 17] (.bool (false)), .p [24, 17, 6] [], .p [25, 6] [], .p [26] []] [27] hs .n (by kernel_rfl) ⟨?_, ?_, ?_, ?_, ?_, ?_, ?_, ?_, ⟨rfl, by kernel_rfl, fun _ => rfl, trivial⟩, ?_⟩
   ·
    intro a_ w_ R_ Q_ hm hs K_
    refine st_guardT hs rfl rfl rfl ?_
    refine st_leq hs rfl rfl rfl ?_; clear hs; intro a w hs
    have hb_ : (decide (k ≤ fl)) = false := decide_eq_false ck
    rw [hb_] at hs; clear hb_
    exact wpList_nil (K_ _ _ hs)
   ·
    intro a_ w_ R_ Q_ hm hs K_
    refine st_guardT hs rfl rfl rfl ?_
    refine st_ldE hs rfl (hm.keep hp (by simp [feet, blk])) .z Tryz.isAgg101 rfl ?_; clear hs; intro a w hs
    exact wpList_nil (K_ _ _ hs)
   ·
    intro a_ w_ R_ Q_ hm hs K_
    refine st_guardT hs rfl rfl rfl ?_
    refine st_callP (v := .int .i64 (((l.length : Nat) : Int))) hs (.c rfl .n) Tryz.call52 (ringlen_ok g _ l most fl gone _ (hm.rd0 hu) (hm.keep hg (by simp [feet, blk])) hsr (by omega) hiv) rfl ?_; clear hs; intro a w hs
    exact wpList_nil (K_ _ _ hs)
   ·
    intro a_ w_ R_ Q_ hm hs K_
    refine st_guardT hs rfl rfl rfl ?_
    refine st_ldE hs rfl (hm.keep hp (by simp [feet, blk])) (.s .z) Tryz.isAgg3 rfl ?_; clear hs; intro a w hs
    exact wpList_nil (K_ _ _ hs)
   ·
    intro a_ w_ R_ Q_ hm hs K_
    refine st_guardT hs rfl rfl rfl ?_
    refine st_eql hs rfl rfl rfl ?_; clear hs; intro a w hs
    have hb_ : ((((l.length : Nat) : Int) : Int) == (((most : Nat) : Int))) = true := by rw [beq_iff_eq]; omega
    rw [hb_] at hs; clear hb_
    exact wpList_nil (K_ _ _ hs)
   ·
    intro a_ w_ R_ Q_ hm hs K_
    refine st_guardT hs rfl rfl rfl ?_
    refine st_ldE hs rfl (hm.keep hp (by simp [feet, blk])) .z Tryz.isAgg101 rfl ?_; clear hs; intro a w hs
    exact wpList_nil (K_ _ _ hs)
   ·
    intro a_ w_ R_ Q_ hm hs K_
    refine st_guardT hs rfl rfl rfl ?_
    refine st_callP (v := .int .i64 (((kuntil (sns l) k : Nat) : Int))) hs (.c rfl (.c rfl .n)) Tryz.call101 (runtil_ok g _ l most fl gone k _ (hm.rd0 hu) (hm.keep hg (by simp [feet, blk])) hsr (by omega) hiv) rfl ?_; clear hs; intro a w hs
    exact wpList_nil (K_ _ _ hs)
   ·
    intro a_ w_ R_ Q_ hm hs K_
    refine st_guardT hs rfl rfl rfl ?_
    refine st_eql hs rfl rfl rfl ?_; clear hs; intro a w hs
    have hb_ : ((((kuntil (sns l) k : Nat) : Int) : Int) == 0) = false := by rw [beq_eq_false_iff_ne]; omega
    rw [hb_] at hs; clear hb_
    exact wpList_nil (K_ _ _ hs)
   clear hs w a; intro a w hs
   refine goE 0 [] [4] hs .n ?_; clear hs w a; intro a w hs
   exact fin hs rfl rfl ⟨congrArg Value.bool (by unfold stl; rw [sns_len]; simp_all), rfl⟩
  refine wp_drawN [.p [] [], .p [0] [], .p [1] [], .p [1] [], .v [3, 2, 1] (.bool (false)), .p [4, 1] [], .p [5] [], .p [6] [], .p [7, 6] [], .p [8, 6] [], .v [9, 6] (.pointer (some ⟨g, 0, none⟩)), .v [10, 6] (.int .i64 (((l.length : Nat) : Int))), .p [6] [], .p [12, 6] [], .p [13, 6] [], .v [14, 6] (.int .i64 (((most : Nat) : Int))), .v [15, 11, 6] (.bool (false)), .p [16, 6] [], .p [17] [], .p [18, 17] [], .p [19, 17] [], .p [20, 17] [], .p [17] [], .p [22, 21, 17] [], .v [23, 17] undef, .p [24, 17, 6] [], .p [25, 6] [], .p [26] []] [27] hs .n (by kernel_rfl) ⟨?_, ?_, ?_, ?_, ?_, ?_, ⟨rfl, by kernel_rfl, fun _ => rfl, trivial⟩, ?_⟩
  ·
   intro a_ w_ R_ Q_ hm hs K_
   refine st_guardT hs rfl rfl rfl ?_
   refine st_leq hs rfl rfl rfl ?_; clear hs; intro a w hs
   have hb_ : (decide (k ≤ fl)) = false := decide_eq_false ck
   rw [hb_] at hs; clear hb_
   exact wpList_nil (K_ _ _ hs)
  ·
   intro a_ w_ R_ Q_ hm hs K_
   refine st_guardT hs rfl rfl rfl ?_
   refine st_ldE hs rfl (hm.keep hp (by simp [feet, blk])) .z Tryz.isAgg101 rfl ?_; clear hs; intro a w hs
   exact wpList_nil (K_ _ _ hs)
  ·
   intro a_ w_ R_ Q_ hm hs K_
   refine st_guardT hs rfl rfl rfl ?_
   refine st_callP (v := .int .i64 (((l.length : Nat) : Int))) hs (.c rfl .n) Tryz.call52 (ringlen_ok g _ l most fl gone _ (hm.rd0 hu) (hm.keep hg (by simp [feet, blk])) hsr (by omega) hiv) rfl ?_; clear hs; intro a w hs
   exact wpList_nil (K_ _ _ hs)
  ·
   intro a_ w_ R_ Q_ hm hs K_
   refine st_guardT hs rfl rfl rfl ?_
   refine st_ldE hs rfl (hm.keep hp (by simp [feet, blk])) (.s .z) Tryz.isAgg3 rfl ?_; clear hs; intro a w hs
   exact wpList_nil (K_ _ _ hs)
  ·
   intro a_ w_ R_ Q_ hm hs K_
   refine st_guardT hs rfl rfl rfl ?_
   refine st_eql hs rfl rfl rfl ?_; clear hs; intro a w hs
   have hb_ : ((((l.length : Nat) : Int) : Int) == (((most : Nat) : Int))) = false := by rw [beq_eq_false_iff_ne]; omega
   rw [hb_] at hs; clear hb_
   exact wpList_nil (K_ _ _ hs)
  ·
   intro a_ w_ R_ Q_ hm hs K_
   refine st_guardF hs rfl rfl rfl rfl rfl ?_; clear hs; intro a w hs
   exact wpList_nil (K_ _ _ hs)
  clear hs w a; intro a w hs
  refine goE 0 [] [4] hs .n ?_; clear hs w a; intro a w hs
  exact fin hs rfl rfl ⟨congrArg Value.bool (by unfold stl; rw [sns_len]; simp_all), rfl⟩
 replace cg := Bool.eq_false_iff.2 cg; rw [cg] at hs
 by_cases cl : l.length = most
 ·
  by_cases cu : kuntil (sns l) k = 0
  ·
   refine wp_drawN [.p [] [], .p [0] [], .p [1] [], .p [1] [], .v [3, 2, 1] undef, .p [4, 1] [], .p [5] [], .p [6] [], .p [7, 6] [], .p [8, 6] [], .v [9, 6] (.pointer (some ⟨g, 0, none⟩)), .v [10, 6] (.int .i64 (((l.length : Nat) : Int))), .p [6] [], .p [12, 6] [], .p [13, 6] [], .v [14, 6] (.int .i64 (((most : Nat) : Int))), .v [15, 11, 6] (.bool (true)), .p [16, 6] [], .p [17] [], .p [18, 17] [], .p [19, 17] [], .v [20, 17] (.pointer (some ⟨g, 0, none⟩)), .p [17] [], .v [22, 21, 17] (.int .i64 (((kuntil (sns l) k : Nat) : Int))), .v [23, 17] (.bool (true)), .p [24, 17, 6] [], .p [25, 6] [], .p [26] []] [27] hs .n (by kernel_rfl) ⟨?_, ?_, ?_, ?_, ?_, ?_, ?_, ?_, ⟨rfl, by kernel_rfl, fun _ => rfl, trivial⟩, ?_⟩
   ·
    intro a_ w_ R_ Q_ hm hs K_
    refine st_guardF hs rfl rfl rfl rfl rfl ?_; clear hs; intro a w hs
    exact wpList_nil (K_ _ _ hs)
   ·
    intro a_ w_ R_ Q_ hm hs K_
    refine st_guardT hs rfl rfl rfl ?_
    refine st_ldE hs rfl (hm.keep hp (by simp [feet, blk])) .z Tryz.isAgg101 rfl ?_; clear hs; intro a w hs
    exact wpList_nil (K_ _ _ hs)
   ·
    intro a_ w_ R_ Q_ hm hs K_
    refine st_guardT hs rfl rfl rfl ?_
    refine st_callP (v := .int .i64 (((l.length : Nat) : Int))) hs (.c rfl .n) Tryz.call52 (ringlen_ok g _ l most fl gone _ (hm.rd0 hu) (hm.keep hg (by simp [feet, blk])) hsr (by omega) hiv) rfl ?_; clear hs; intro a w hs
    exact wpList_nil (K_ _ _ hs)
   ·
    intro a_ w_ R_ Q_ hm hs K_
    refine st_guardT hs rfl rfl rfl ?_
    refine st_ldE hs rfl (hm.keep hp (by simp [feet, blk])) (.s .z) Tryz.isAgg3 rfl ?_; clear hs; intro a w hs
    exact wpList_nil (K_ _ _ hs)
   ·
    intro a_ w_ R_ Q_ hm hs K_
    refine st_guardT hs rfl rfl rfl ?_
    refine st_eql hs rfl rfl rfl ?_; clear hs; intro a w hs
    have hb_ : ((((l.length : Nat) : Int) : Int) == (((most : Nat) : Int))) = true := by rw [beq_iff_eq]; omega
    rw [hb_] at hs; clear hb_
    exact wpList_nil (K_ _ _ hs)
   ·
    intro a_ w_ R_ Q_ hm hs K_
    refine st_guardT hs rfl rfl rfl ?_
    refine st_ldE hs rfl (hm.keep hp (by simp [feet, blk])) .z Tryz.isAgg101 rfl ?_; clear hs; intro a w hs
    exact wpList_nil (K_ _ _ hs)
   ·
    intro a_ w_ R_ Q_ hm hs K_
    refine st_guardT hs rfl rfl rfl ?_
    refine st_callP (v := .int .i64 (((kuntil (sns l) k : Nat) : Int))) hs (.c rfl (.c rfl .n)) Tryz.call101 (runtil_ok g _ l most fl gone k _ (hm.rd0 hu) (hm.keep hg (by simp [feet, blk])) hsr (by omega) hiv) rfl ?_; clear hs; intro a w hs
    exact wpList_nil (K_ _ _ hs)
   ·
    intro a_ w_ R_ Q_ hm hs K_
    refine st_guardT hs rfl rfl rfl ?_
    refine st_eql hs rfl rfl rfl ?_; clear hs; intro a w hs
    have hb_ : ((((kuntil (sns l) k : Nat) : Int) : Int) == 0) = true := by rw [beq_iff_eq]; omega
    rw [hb_] at hs; clear hb_
    exact wpList_nil (K_ _ _ hs)
   clear hs w a; intro a w hs
   refine goE 0 [] [4] hs .n ?_; clear hs w a; intro a w hs
   exact fin hs rfl rfl ⟨congrArg Value.bool (by unfold stl; rw [sns_len]; simp_all), rfl⟩
  refine wp_drawN [.p [] [], .p [0] [], .p [1] [], .p [1] [], .v [3, 2, 1] undef, .p [4, 1] [], .p [5] [], .p [6] [], .p [7, 6] [], .p [8, 6] [], .v [9, 6] (.pointer (some ⟨g, 0, none⟩)), .v [10, 6] (.int .i64 (((l.length : Nat) : Int))), .p [6] [], .p [12, 6] [], .p [13, 6] [], .v [14, 6] (.int .i64 (((most : Nat) : Int))), .v [15, 11, 6] (.bool (true)), .p [16, 6] [], .p [17] [], .p [18, 17] [], .p [19, 17] [], .v [20, 17] (.pointer (some ⟨g, 0, none⟩)), .p [17] [], .v [22, 21, 17] (.int .i64 (((kuntil (sns l) k : Nat) : Int))), .v [23, 17] (.bool (false)), .p [24, 17, 6] [], .p [25, 6] [], .p [26] []] [27] hs .n (by kernel_rfl) ⟨?_, ?_, ?_, ?_, ?_, ?_, ?_, ?_, ⟨rfl, by kernel_rfl, fun _ => rfl, trivial⟩, ?_⟩
  ·
   intro a_ w_ R_ Q_ hm hs K_
   refine st_guardF hs rfl rfl rfl rfl rfl ?_; clear hs; intro a w hs
   exact wpList_nil (K_ _ _ hs)
  ·
   intro a_ w_ R_ Q_ hm hs K_
   refine st_guardT hs rfl rfl rfl ?_
   refine st_ldE hs rfl (hm.keep hp (by simp [feet, blk])) .z Tryz.isAgg101 rfl ?_; clear hs; intro a w hs
   exact wpList_nil (K_ _ _ hs)
  ·
   intro a_ w_ R_ Q_ hm hs K_
   refine st_guardT hs rfl rfl rfl ?_
   refine st_callP (v := .int .i64 (((l.length : Nat) : Int))) hs (.c rfl .n) Tryz.call52 (ringlen_ok g _ l most fl gone _ (hm.rd0 hu) (hm.keep hg (by simp [feet, blk])) hsr (by omega) hiv) rfl ?_; clear hs; intro a w hs
   exact wpList_nil (K_ _ _ hs)
  ·
   intro a_ w_ R_ Q_ hm hs K_
   refine st_guardT hs rfl rfl rfl ?_
   refine st_ldE hs rfl (hm.keep hp (by simp [feet, blk])) (.s .z) Tryz.isAgg3 rfl ?_; clear hs; intro a w hs
   exact wpList_nil (K_ _ _ hs)
  ·
   intro a_ w_ R_ Q_ hm hs K_
   refine st_guardT hs rfl rfl rfl ?_
   refine st_eql hs rfl rfl rfl ?_; clear hs; intro a w hs
   have hb_ : ((((l.length : Nat) : Int) : Int) == (((most : Nat) : Int))) = true := by rw [beq_iff_eq]; omega
   rw [hb_] at hs; clear hb_
   exact wpList_nil (K_ _ _ hs)
  ·
   intro a_ w_ R_ Q_ hm hs K_
   refine st_guardT hs rfl rfl rfl ?_
   refine st_ldE hs rfl (hm.keep hp (by simp [feet, blk])) .z Tryz.isAgg101 rfl ?_; clear hs; intro a w hs
   exact wpList_nil (K_ _ _ hs)
  ·
   intro a_ w_ R_ Q_ hm hs K_
   refine st_guardT hs rfl rfl rfl ?_
   refine st_callP (v := .int .i64 (((kuntil (sns l) k : Nat) : Int))) hs (.c rfl (.c rfl .n)) Tryz.call101 (runtil_ok g _ l most fl gone k _ (hm.rd0 hu) (hm.keep hg (by simp [feet, blk])) hsr (by omega) hiv) rfl ?_; clear hs; intro a w hs
   exact wpList_nil (K_ _ _ hs)
  ·
   intro a_ w_ R_ Q_ hm hs K_
   refine st_guardT hs rfl rfl rfl ?_
   refine st_eql hs rfl rfl rfl ?_; clear hs; intro a w hs
   have hb_ : ((((kuntil (sns l) k : Nat) : Int) : Int) == 0) = false := by rw [beq_eq_false_iff_ne]; omega
   rw [hb_] at hs; clear hb_
   exact wpList_nil (K_ _ _ hs)
  clear hs w a; intro a w hs
  refine goE 0 [] [4] hs .n ?_; clear hs w a; intro a w hs
  exact fin hs rfl rfl ⟨congrArg Value.bool (by unfold stl; rw [sns_len]; simp_all), rfl⟩
 refine wp_drawN [.p [] [], .p [0] [], .p [1] [], .p [1] [], .v [3, 2, 1] undef, .p [4, 1] [], .p [5] [], .p [6] [], .p [7, 6] [], .p [8, 6] [], .v [9, 6] (.pointer (some ⟨g, 0, none⟩)), .v [10, 6] (.int .i64 (((l.length : Nat) : Int))), .p [6] [], .p [12, 6] [], .p [13, 6] [], .v [14, 6] (.int .i64 (((most : Nat) : Int))), .v [15, 11, 6] (.bool (false)), .p [16, 6] [], .p [17] [], .p [18, 17] [], .p [19, 17] [], .p [20, 17] [], .p [17] [], .p [22, 21, 17] [], .v [23, 17] undef, .p [24, 17, 6] [], .p [25, 6] [], .p [26] []] [27] hs .n (by kernel_rfl) ⟨?_, ?_, ?_, ?_, ?_, ?_, ⟨rfl, by kernel_rfl, fun _ => rfl, trivial⟩, ?_⟩
 ·
  intro a_ w_ R_ Q_ hm hs K_
  refine st_guardF hs rfl rfl rfl rfl rfl ?_; clear hs; intro a w hs
  exact wpList_nil (K_ _ _ hs)
 ·
  intro a_ w_ R_ Q_ hm hs K_
  refine st_guardT hs rfl rfl rfl ?_
  refine st_ldE hs rfl (hm.keep hp (by simp [feet, blk])) .z Tryz.isAgg101 rfl ?_; clear hs; intro a w hs
  exact wpList_nil (K_ _ _ hs)
 ·
  intro a_ w_ R_ Q_ hm hs K_
  refine st_guardT hs rfl rfl rfl ?_
  refine st_callP (v := .int .i64 (((l.length : Nat) : Int))) hs (.c rfl .n) Tryz.call52 (ringlen_ok g _ l most fl gone _ (hm.rd0 hu) (hm.keep hg (by simp [feet, blk])) hsr (by omega) hiv) rfl ?_; clear hs; intro a w hs
  exact wpList_nil (K_ _ _ hs)
 ·
  intro a_ w_ R_ Q_ hm hs K_
  refine st_guardT hs rfl rfl rfl ?_
  refine st_ldE hs rfl (hm.keep hp (by simp [feet, blk])) (.s .z) Tryz.isAgg3 rfl ?_; clear hs; intro a w hs
  exact wpList_nil (K_ _ _ hs)
 ·
  intro a_ w_ R_ Q_ hm hs K_
  refine st_guardT hs rfl rfl rfl ?_
  refine st_eql hs rfl rfl rfl ?_; clear hs; intro a w hs
  have hb_ : ((((l.length : Nat) : Int) : Int) == (((most : Nat) : Int))) = false := by rw [beq_eq_false_iff_ne]; omega
  rw [hb_] at hs; clear hb_
  exact wpList_nil (K_ _ _ hs)
 ·
  intro a_ w_ R_ Q_ hm hs K_
  refine st_guardF hs rfl rfl rfl rfl rfl ?_; clear hs; intro a w hs
  exact wpList_nil (K_ _ _ hs)
 clear hs w a; intro a w hs
 refine goE 0 [] [4] hs .n ?_; clear hs w a; intro a w hs
 exact fin hs rfl rfl ⟨congrArg Value.bool (by unfold stl; rw [sns_len]; simp_all), rfl⟩
theorem ktimely_ok (p g : Nat) (u : Value) (l : List RI) (most : Nat) (fl : Int) (gone : Bool) (N : Nat → Nat) (t tm : Int) (v : Value) (mv : Nat) (hv : IsSl v mv) (w0 : World) (hp : (blk p [.pointer (some ⟨g, 0, none⟩), .int .i64 (((most : Nat) : Int)), .int .i64 (((N 0 : Nat) : Int)), .int .i64 (((N 1 : Nat) : Int)), .int .i64 (((N 2 : Nat) : Int)), .int .i64 (((N 3 : Nat) : Int)), .int .i64 (((N 4 : Nat) : Int)), .int .i64 (((N 5 : Nat) : Int)), .int .i64 (((N 6 : Nat) : Int)), .int .i64 (((N 7 : Nat) : Int)), .int .i64 (((N 8 : Nat) : Int)), .int .i64 (((N 9 : Nat) : Int)), .int .i64 (((N 10 : Nat) : Int)), .int .i64 (((N 11 : Nat) : Int)), .int .i64 (((N 12 : Nat) : Int)), .int .i64 (((N 13 : Nat) : Int)), .int .i64 (((N 14 : Nat) : Int)), .int .i64 (((N 15 : Nat) : Int)), .int .i64 (((N 16 : Nat) : Int)), .int .i64 (((N 17 : Nat) : Int))] 105).p w0) (hg : (blk g [u, .int .i64 (((most : Nat) : Int)), .int .i64 (fl), .bool (gone)] 138).p w0) (hu : Rd w0 [] u 4 l.length (l.flatMap riV)) (hrw : (rws 73 l).p w0) (ho : Oks (sns l) most) : Calls Tryz.prog 80 #[.pointer (some ⟨p, 0, none⟩), .agg #[.int .i64 (t), .int .i64 (tm), v]] w0 (RetV w0 (.bool (tml (sns l) t tm))) := by
 have hiv := rws_isl hrw
 have hsr := ho.srt
 have hll : l.length ≤ 100000 := by have := ho.le; have := ho.m64; rw [sns_len] at *; omega
 have hm64 := ho.m64
 have hku := kuntil_le hsr (k := t)
 rw [sns_len] at hku
 refine enterG (F0 := [(0, .pointer (some ⟨p, 0, none⟩)), (1, .agg #[.int .i64 (t), .int .i64 (tm), v])]) Tryz.func80 rfl rfl rfl (.c (.c .n)) (Mem.nil _) fun a w hs => ?_
 refine go 2 [0] [3, 0] hs .n (fun g1 => ?_); clear hs w a; intro a w hs
 refine wp_drawN [.p [] [], .p [0] [], .p [1] [], .v [2] (.pointer (some ⟨g, 0, none⟩)), .p [] [], .p [4] [0], .v [5, 3] (.int .i64 (((kuntil (sns l) t : Nat) : Int))), .p [6] []] [7] hs (.c .z .n) (by kernel_rfl) ⟨?_, rfl, ?_, ⟨rfl, by kernel_rfl, fun _ => rfl, trivial⟩, ?_⟩
 ·
  intro a_ w_ R_ Q_ hm hs K_
  refine st_ldE hs rfl (hm.keep hp (by simp [feet, blk])) .z Tryz.isAgg101 rfl ?_; clear hs; intro a w hs
  exact wpList_nil (K_ _ _ hs)
 ·
  intro a_ w_ R_ Q_ hm hs K_
  refine st_callP (v := .int .i64 (((kuntil (sns l) t : Nat) : Int))) hs (.c rfl (.c rfl .n)) Tryz.call101 (runtil_ok g _ l most fl gone t _ (hm.rd0 hu) (hm.keep hg (by simp [feet, blk])) hsr (by omega) hiv) rfl ?_; clear hs; intro a w hs
  exact wpList_nil (K_ _ _ hs)
 clear hs w a; intro a w hs
 refine goE 3 [] [22, 5, 3, 0] hs .n ?_; clear hs w a; intro a w hs
 refine st_ldE hs rfl (hs.mem.keep hp (by simp [feet, blk])) .z Tryz.isAgg101 rfl ?_; clear hs w a; intro a w hs
 refine goL 2 [] [25, 23, 5, 3, 0] hs .n ⟨(by omega), ?_⟩; clear hs w a; intro a w hs
 refine st_callP (v := .tuple #[.int .i64 ((rat l ((((kuntil (sns l) t : Nat) : Int)) - 1)).t), .agg #[.int .i64 ((rat l ((((kuntil (sns l) t : Nat) : Int)) - 1)).t), .int .i64 ((rat l ((((kuntil (sns l) t : Nat) : Int)) - 1)).tm), (rat l ((((kuntil (sns l) t : Nat) : Int)) - 1)).v], .int .i64 (((ratE (sns l) ((((kuntil (sns l) t : Nat) : Int)) - 1) : Nat) : Int))]) hs (.c rfl (.c rfl .n)) Tryz.call53 (ringat_ok g _ l most fl gone ((((kuntil (sns l) t : Nat) : Int)) - 1) _ (hs.rd0 hu) (hs.mem.keep hg (by simp [feet, blk])) hsr (by omega) hiv) rfl ?_; clear hs w a; intro a w hs
 refine goL 6 [] [7, 29, 28, 5, 3, 0] hs .n (fun g3 => ?_); clear hs w a; intro a w hs
 refine st_stBA hs rfl rfl .z (.z (.c (.c (.c .n)))) (ones_c rfl (ones_c rfl (ones_c (rws_rd (hs.mem.keepH hrw (by simp)) (rat_mem l ((((kuntil (sns l) t : Nat) : Int)) - 1))).isSl.one ones_n))) Tryz.sizeOf24 rfl ?_; clear hs w a; intro a w hs
 refine goL 4 [] [33, 8, 7, 5, 3] hs .n ?_; clear hs w a; intro a w hs
 refine st_ldE hs rfl (hs.mem.keep hp (by simp [feet, blk])) .z Tryz.isAgg101 rfl ?_; clear hs w a; intro a w hs
 refine goL 1 [] [35, 34, 8, 7, 3] hs .n ?_; clear hs w a; intro a w hs
 refine st_callP (v := .tuple #[.int .i64 ((rat l (((kuntil (sns l) t : Nat) : Int))).t), .agg #[.int .i64 ((rat l (((kuntil (sns l) t : Nat) : Int))).t), .int .i64 ((rat l (((kuntil (sns l) t : Nat) : Int))).tm), (rat l (((kuntil (sns l) t : Nat) : Int))).v], .int .i64 (((ratE (sns l) (((kuntil (sns l) t : Nat) : Int)) : Nat) : Int))]) hs (.c rfl (.c rfl .n)) Tryz.call53 (ringat_ok g _ l most fl gone (((kuntil (sns l) t : Nat) : Int)) _ (hs.rd0 hu) (hs.mem.keep hg (by simp [feet, blk])) hsr (by omega) hiv) rfl ?_; clear hs w a; intro a w hs
 refine goL 6 [] [10, 39, 38, 8, 7, 3] hs .n (fun g4 => ?_); clear hs w a; intro a w hs
 refine st_stBA hs rfl rfl .z (.z (.c (.c (.c .n)))) (ones_c rfl (ones_c rfl (ones_c (rws_rd (hs.mem.keepH hrw (by simp)) (rat_mem l (((kuntil (sns l) t : Nat) : Int)))).isSl.one ones_n))) Tryz.sizeOf24 rfl ?_; clear hs w a; intro a w hs
 refine goL 4 [] [42, 11, 10, 7, 3] hs .n ?_; clear hs w a; intro a w hs
 refine st_part (b := !((((ratE (sns l) ((((kuntil (sns l) t : Nat) : Int)) - 1) : Nat) : Int) : Int) == 0)) (fun c_5 => ?_) (fun c_5 => ?_)
 ·
  rw [c_5] at hs
  replace c_5 := not_t c_5
  replace c_5 := ne_of_beq_f c_5
  refine go 10 [] [52, 49, 10, 3] hs .n ?_; clear hs w a; intro a w hs
  refine st_part (b := !((((ratE (sns l) (((kuntil (sns l) t : Nat) : Int)) : Nat) : Int) : Int) == 0)) (fun c_6 => ?_) (fun c_6 => ?_)
  ·
   rw [c_6] at hs
   replace c_6 := not_t c_6
   replace c_6 := ne_of_beq_f c_6
   refine go 8 [] [4] hs .n ?_; clear hs w a; intro a w hs
   replace hs := hs.drop (.c (.s (.s .z)) (.c (.s .z) (.c .z .n)))
   have ht1 : (rat l ((kuntil (sns l) t : Nat) - 1 : Int)).tm = _ := congrArg SnapR.tm (rat_sn l ((kuntil (sns l) t : Nat) - 1 : Int))
   have ht2 : (rat l ((kuntil (sns l) t : Nat) : Int)).tm = _ := congrArg SnapR.tm (rat_sn l ((kuntil (sns l) t : Nat) : Int))
   exact fin hs rfl rfl ⟨congrArg Value.bool (by unfold tml; rw [← ht1, ← ht2]; clear ht1 ht2; first | (simp_all; done) | (simp_all <;> omega)), rfl⟩
  rw [c_6] at hs
  replace c_6 := not_f c_6
  replace c_6 := eq_of_beq c_6
  refine go 8 [0, 1] [4] hs (.c .z (.c (.s .z) .n)) ⟨rfl, rfl, ?_⟩; clear hs w a; intro a w hs
  replace hs := hs.drop (.c (.s (.s .z)) (.c (.s .z) (.c .z .n)))
  have ht1 : (rat l ((kuntil (sns l) t : Nat) - 1 : Int)).tm = _ := congrArg SnapR.tm (rat_sn l ((kuntil (sns l) t : Nat) - 1 : Int))
  have ht2 : (rat l ((kuntil (sns l) t : Nat) : Int)).tm = _ := congrArg SnapR.tm (rat_sn l ((kuntil (sns l) t : Nat) : Int))
  exact fin hs rfl rfl ⟨congrArg Value.bool (by unfold tml; rw [← ht1, ← ht2]; clear ht1 ht2; first | (simp_all; done) | (simp_all <;> omega)), rfl⟩
 rw [c_5] at hs
 replace c_5 := not_f c_5
 replace c_5 := eq_of_beq c_5
 refine go 7 [0, 1] [49, 11, 10, 3] hs (.c (.s .z) (.c (.s .z) .n)) ⟨rfl, rfl, ?_⟩; clear hs w a; intro a w hs
 refine st_part (b := decide (((rat l ((((kuntil (sns l) t : Nat) : Int)) - 1)).tm) < tm)) (fun c_7 => ?_) (fun c_7 => ?_)
 ·
  rw [c_7] at hs
  replace c_7 := of_decide_eq_true c_7
  refine go 3 [] [52, 49, 10, 3] hs .n ?_; clear hs w a; intro a w hs
  refine st_part (b := !((((ratE (sns l) (((kuntil (sns l) t : Nat) : Int)) : Nat) : Int) : Int) == 0)) (fun c_8 => ?_) (fun c_8 => ?_)
  ·
   rw [c_8] at hs
   replace c_8 := not_t c_8
   replace c_8 := ne_of_beq_f c_8
   refine go 8 [] [4] hs .n ?_; clear hs w a; intro a w hs
   replace hs := hs.drop (.c (.s (.s .z)) (.c (.s .z) (.c .z .n)))
   have ht1 : (rat l ((kuntil (sns l) t : Nat) - 1 : Int)).tm = _ := congrArg SnapR.tm (rat_sn l ((kuntil (sns l) t : Nat) - 1 : Int))
   have ht2 : (rat l ((kuntil (sns l) t : Nat) : Int)).tm = _ := congrArg SnapR.tm (rat_sn l ((kuntil (sns l) t : Nat) : Int))
   exact fin hs rfl rfl ⟨congrArg Value.bool (by unfold tml; rw [← ht1, ← ht2]; clear ht1 ht2; first | (simp_all; done) | (simp_all <;> omega)), rfl⟩
  rw [c_8] at hs
  replace c_8 := not_f c_8
  replace c_8 := eq_of_beq c_8
  refine go 8 [0, 1] [4] hs (.c (.s (.s .z)) (.c (.s .z) .n)) ⟨rfl, rfl, ?_⟩; clear hs w a; intro a w hs
  replace hs := hs.drop (.c (.s (.s .z)) (.c (.s .z) (.c .z .n)))
  have ht1 : (rat l ((kuntil (sns l) t : Nat) - 1 : Int)).tm = _ := congrArg SnapR.tm (rat_sn l ((kuntil (sns l) t : Nat) - 1 : Int))
  have ht2 : (rat l ((kuntil (sns l) t : Nat) : Int)).tm = _ := congrArg SnapR.tm (rat_sn l ((kuntil (sns l) t : Nat) : Int))
  exact fin hs rfl rfl ⟨congrArg Value.bool (by unfold tml; rw [← ht1, ← ht2]; clear ht1 ht2; first | (simp_all; done) | (simp_all <;> omega)), rfl⟩
 rw [c_7] at hs
 replace c_7 := of_decide_eq_false c_7
 refine go 11 [] [4] hs .n ?_; clear hs w a; intro a w hs
 replace hs := hs.drop (.c (.s (.s .z)) (.c (.s .z) (.c .z .n)))
 have ht1 : (rat l ((kuntil (sns l) t : Nat) - 1 : Int)).tm = _ := congrArg SnapR.tm (rat_sn l ((kuntil (sns l) t : Nat) - 1 : Int))
 have ht2 : (rat l ((kuntil (sns l) t : Nat) : Int)).tm = _ := congrArg SnapR.tm (rat_sn l ((kuntil (sns l) t : Nat) : Int))
 exact fin hs rfl rfl ⟨congrArg Value.bool (by unfold tml; rw [← ht1, ← ht2]; clear ht1 ht2; first | (simp_all; done) | (simp_all <;> omega)), rfl⟩
end Go.Proofs.YtbioemaipghagaaGreat
