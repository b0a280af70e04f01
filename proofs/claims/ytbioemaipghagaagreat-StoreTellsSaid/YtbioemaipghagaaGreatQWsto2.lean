/- Walks of what bytes tell: what each function does, over the program of this seat. Printed by a program of this session. -/
import Derived.Test.YtbioemaipghagaaGreatQWsto
import Derived.Test.YtbioemaipghagaaGreatQWgramS
import Derived.Test.YtbioemaipghagaaGreatQWdel3
import Derived.Test.YtbioemaipghagaaGreatQSxBasB
namespace Go.Proofs.YtbioemaipghagaaGreat
open Go Go.Sx Go.RowKit
set_option linter.unusedVariables false
set_option linter.unusedSimpArgs false
set_option maxRecDepth 4000
set_option maxHeartbeats 1000000

theorem snap_ok (p g : Nat) (u : Value) (l : List RI) (most : Nat) (fl : Int) (gone : Bool) (N : Nat → Nat) (v : Value) (m : Nat) (bs : List Byte) (w0 : World) (hp : (blk p [.pointer (some ⟨g, 0, none⟩), .int .i64 (((most : Nat) : Int)), .int .i64 (((N 0 : Nat) : Int)), .int .i64 (((N 1 : Nat) : Int)), .int .i64 (((N 2 : Nat) : Int)), .int .i64 (((N 3 : Nat) : Int)), .int .i64 (((N 4 : Nat) : Int)), .int .i64 (((N 5 : Nat) : Int)), .int .i64 (((N 6 : Nat) : Int)), .int .i64 (((N 7 : Nat) : Int)), .int .i64 (((N 8 : Nat) : Int)), .int .i64 (((N 9 : Nat) : Int)), .int .i64 (((N 10 : Nat) : Int)), .int .i64 (((N 11 : Nat) : Int)), .int .i64 (((N 12 : Nat) : Int)), .int .i64 (((N 13 : Nat) : Int)), .int .i64 (((N 14 : Nat) : Int)), .int .i64 (((N 15 : Nat) : Int)), .int .i64 (((N 16 : Nat) : Int)), .int .i64 (((N 17 : Nat) : Int))] 105).p w0) (hg : (blk g [u, .int .i64 (((most : Nat) : Int)), .int .i64 (fl), .bool (gone)] 138).p w0) (hu : Rd w0 [] u 4 l.length (l.flatMap riV)) (hrw : (rws 73 l).p w0) (ho : Oks (sns l) most) (hb : Rd w0 [] v 1 m (bytesV bs)) : Calls Tryz.prog 55 #[.pointer (some ⟨p, 0, none⟩), v] w0 (Ret w0 [] fun z Nn => ∃ (X : SnapR) (xv : Value), z = .tuple #[.agg #[.int .i64 X.t, .int .i64 X.tm, xv], .int .i64 ((accE (sns l) most fl gone (gRead bs) : Nat) : Int)] ∧ (accE (sns l) most fl gone (gRead bs) = 0 → X = (accA (sns l) (gRead bs))) ∧ Nn = [row xv 73 9 X.l.length (X.l.flatMap entV)]) := by
 have hbl : bs.length = m := by have := hb.len; simpa [bytesV] using this
 have hbe : m ≤ maxLen := hb.le
 simp only [maxLen] at hbe
 have hiv := rws_isl hrw
 have hsr := ho.srt
 have hll : l.length ≤ 100000 := by have := ho.le; have := ho.m64; rw [sns_len] at *; omega
 have hgl := gRead_le bs
 have hbr := rget_rng ho (gRead bs).b
 refine enterG (F0 := [(0, .pointer (some ⟨p, 0, none⟩)), (1, v)]) Tryz.func55 rfl rfl rfl (.c (.c .n)) (Mem.nil _) fun a w hs => ?_
 refine go 3 [] [13, 5, 4, 0] hs .n (fun g1 => fun g2 => ?_); clear hs w a; intro a w hs
 refine st_call hs (.c rfl .n) Tryz.call18 .n (gread_ok _ _ bs _ (hs.rd0 hb)) rfl ?_; clear hs w a; rintro _ _ a w ⟨v3, rfl, rfl⟩ hs; simp only [List.cons_append, List.nil_append] at hs
 have hk4 := gRead_le bs
 refine goL 4 [] [6, 16, 15, 5, 4, 0] hs .n (fun g5 => ?_); clear hs w a; intro a w hs
 refine st_stBA hs rfl rfl .z (.z (.c (.c (.c (.c .n))))) (ones_c rfl (ones_c rfl (ones_c rfl (ones_c (rd_row (hs.mem.del (.s .z))).isSl.one ones_n)))) Tryz.sizeOf29 rfl ?_; clear hs w a; intro a w hs
 refine goL 3 [0, 0] [18, 6, 5, 4, 0] hs (.c (.s (.s .z)) .n) ⟨rfl, rfl, ?_⟩; clear hs w a; intro a w hs
 refine ifG hs rfl (fun c_6 => ?_) (fun c_6 => ?_)
 ·
  replace c_6 := not_t c_6
  replace c_6 := ne_of_beq_f c_6
  replace hs := hs.addNil 73 9
  refine go 0 [] [5, 4] hs .n ?_; clear hs w a; intro a w hs
  refine wp_drawS [.x [] ⟨[], [], [], fun vs7 => vs7 0 = .agg #[.int .i64 (0), .int .i64 (0), .slice none 0 0], fun vs7 => [], none⟩, .x [] ⟨[], [], [], fun vs7 => vs7 1 = .int .i64 ((((gRead bs).e : Nat) : Int)), fun vs7 => [], none⟩, .x [] ⟨[blk g1 [.int .i64 (0), .int .i64 (0), .slice none 0 0] 24], [], [], fun vs7 => True, fun vs7 => [blk g1 [.int .i64 (0), .int .i64 (0), .slice none 0 0] 24], none⟩, .x [] ⟨[blk g2 [.int .i64 ((((gRead bs).e : Nat) : Int))] 30], [], [], fun vs7 => True, fun vs7 => [blk g2 [.int .i64 ((((gRead bs).e : Nat) : Int))] 30], none⟩] [] hs (.c (.s (.s (.s (.s .z)))) (.c (.s .z) .n)) .n (by kernel_rfl) ⟨⟨rfl, by kernel_rfl, fun _ => rfl⟩, ⟨?_, ?_, ?_, ?_, trivial⟩, ?_⟩
  ·
   intro a_ w_ R_ rest_ vs7 hm hs ht hx
   have hs0 := hs.bare
   refine st_ldEA hs rfl (hm.own (List.mem_append.2 (.inr ((hx 2 (twB_spec 4 _ (by kernel_rfl))).1 _ (List.Mem.head _))))) (.z (.c (.c (.c .n)))) Tryz.isAgg24 Tryz.sizeOf24 rfl ?_; clear hs; intro a w hs
   exact wpList_nil ⟨rfl, _, _, hs0, .r, hs, rfl⟩
  ·
   intro a_ w_ R_ rest_ vs7 hm hs ht hx
   have hs0 := hs.bare
   refine st_ldE hs rfl (hm.own (List.mem_append.2 (.inr ((hx 3 (twB_spec 4 _ (by kernel_rfl))).1 _ (List.Mem.head _))))) .z Tryz.isAgg30 rfl ?_; clear hs; intro a w hs
   exact wpList_nil ⟨rfl, _, _, hs0, .r, hs, rfl⟩
  ·
   intro a_ w_ R_ rest_ vs7 hm hs ht hx
   have t0 := ht 0 (twB_spec 4 _ (by kernel_rfl))
   have e0 : _ = some (vs7 0) := t0.val rfl
   rw [show vs7 0 = .agg #[.int .i64 (0), .int .i64 (0), .slice none 0 0] from t0.2.1] at e0
   replace hs := hs.learn e0
   have hs0 := hs.bare
   refine st_stBA hs rfl rfl .z (.z (.c (.c (.c .n)))) (ones_c rfl (ones_c rfl (ones_c rfl ones_n))) Tryz.sizeOf24 rfl ?_; clear hs; intro a w hs
   exact wpList_nil ⟨rfl, .tuple #[], _, hs0, (.c .r), hs, trivial⟩
  ·
   intro a_ w_ R_ rest_ vs7 hm hs ht hx
   have t1 := ht 1 (twB_spec 4 _ (by kernel_rfl))
   have e1 : _ = some (vs7 1) := t1.val rfl
   rw [show vs7 1 = .int .i64 ((((gRead bs).e : Nat) : Int)) from t1.2.1] at e1
   replace hs := hs.learn e1
   have hs0 := hs.bare
   refine st_stB hs rfl rfl .z .z rfl Tryz.sizeOf30 ?_; clear hs; intro a w hs
   exact wpList_nil ⟨rfl, .tuple #[], _, hs0, (.c .r), hs, trivial⟩
  clear hs w a; intro vs7 a w hs hf
  clear hf
  refine goE 0 [] [5, 4] hs .n ?_; clear hs w a; intro a w hs
  exact finCC hs rfl rfl rfl (.s (.s (.s .z))) (.z (.c (.c (.c .n)))) Tryz.isAgg24 Tryz.sizeOf24 (.s (.s (.s (.s .z)))) .z Tryz.isAgg30 (.c (.s (.s (.s (.s .z)))) (.c (.s (.s (.s .z))) (.c (.s (.s .z)) (.c (.s .z) .n)))) ⟨default, _, by rw [accE_1 (by omega)] <;> rfl, fun h => absurd h (by rw [accE_1 (by omega)]; omega), rfl⟩
 replace c_6 := not_f c_6
 replace c_6 := eq_of_beq c_6
 refine go 2 [] [7, 6, 5, 4, 0] hs .n ?_; clear hs w a; intro a w hs
 refine wp_drawS [.p [] [], .p [0] [], .p [1] [], .v [2] (.pointer (some ⟨g, 0, none⟩)), .p [] [], .p [4] [0], .v [5, 3] (.tuple #[.agg #[.int .i64 ((rget l ((gRead bs).t)).t), .int .i64 ((rget l ((gRead bs).t)).tm), (rget l ((gRead bs).t)).v], .bool (khas (sns l) ((gRead bs).t))]), .p [6] [], .p [7] [], .p [7] [], .x [] ⟨[], [], [], fun vs8 => vs8 10 = .pointer (some ⟨(ptrG (vs8 10)), 0, none⟩), fun vs8 => [blk (ptrG (vs8 10)) [.int .i64 (0), .int .i64 (0), .slice none 0 0] 24], none⟩, .x [8] ⟨[], [10], [10], fun vs8 => True, fun vs8 => [blk (ptrG (vs8 10)) [.int .i64 ((rget l ((gRead bs).t)).t), .int .i64 ((rget l ((gRead bs).t)).tm), (rget l ((gRead bs).t)).v] 24], none⟩, .p [9] []] [12] hs .n (.c (.s .z) .n) (by kernel_rfl) ⟨?_, rfl, ?_, ⟨rfl, by kernel_rfl, fun _ => rfl⟩, ⟨?_, ?_, trivial⟩, ?_⟩
 ·
  intro a_ w_ R_ Q_ hm hs K_
  refine st_ldE hs rfl (hm.keep hp (by simp [feet, blk])) .z Tryz.isAgg101 rfl ?_; clear hs; intro a w hs
  exact wpList_nil (K_ _ _ hs)
 ·
  intro a_ w_ R_ Q_ hm hs K_
  refine st_callP (v := .tuple #[.agg #[.int .i64 ((rget l ((gRead bs).t)).t), .int .i64 ((rget l ((gRead bs).t)).tm), (rget l ((gRead bs).t)).v], .bool (khas (sns l) ((gRead bs).t))]) hs (.c rfl (.c rfl .n)) Tryz.call59 (ringget_ok g _ l most fl gone ((gRead bs).t) _ (hm.rd0 hu) (hm.keep hg (by simp [feet, blk])) hsr (by omega) hiv) rfl ?_; clear hs; intro a w hs
  exact wpList_nil (K_ _ _ hs)
 ·
  intro a_ w_ R_ rest_ vs8 hm hs ht hx
  have hs0 := hs.bare
  refine st_alloc (cs := [.int .i64 (0), .int .i64 (0), .slice none 0 0]) hs Tryz.zeroValue24 rfl rfl ?_; clear hs; intro g9 a w hs
  exact wpList_nil ⟨rfl, _, _, hs0, .r, hs, rfl⟩
 ·
  intro a_ w_ R_ rest_ vs8 hm hs ht hx
  have t10 := ht 10 (twB_spec 13 _ (by kernel_rfl))
  have e10 : _ = some (vs8 10) := t10.val rfl
  rw [show vs8 10 = .pointer (some ⟨(ptrG (vs8 10)), 0, none⟩) from t10.2.1] at e10
  replace hs := hs.learn e10
  have hs0 := hs.bare
  refine st_stBA hs rfl rfl .z (.z (.c (.c (.c .n)))) (ones_c rfl (ones_c rfl (ones_c (rws_rd (hm.keepH hrw (by simp)) (rget_mem l ((gRead bs).t) hsr)).isSl.one ones_n))) Tryz.sizeOf24 rfl ?_; clear hs; intro a w hs
  exact wpList_nil ⟨rfl, .tuple #[], _, hs0, (.c (.c .r)), hs, trivial⟩
 clear hs w a; intro vs8 a w hs hf
 generalize ptrG (vs8 10) = g10 at hs
 clear hf
 refine goE 2 [] [33, 32, 7, 6, 5, 4, 0] hs .n ?_; clear hs w a; intro a w hs
 refine st_callV (us := [.pointer (some ⟨g2, 0, none⟩)]) hs rfl (.c rfl (.c rfl .n)) rfl Tryz.call78 (.c .z .n) (refu_ok (khas (sns l) ((gRead bs).t)) 12 ((gRead bs).e) g2 _ _ (hs.mem.del .z)) rfl ?_; clear hs w a; rintro _ _ a w ⟨rfl, rfl⟩ hs; simp only [List.cons_append, List.nil_append] at hs
 refine goL 4 [0] [38, 36, 35, 7, 6, 5, 4, 0] hs (.c (.s .z) .n) ⟨rfl, ?_⟩; clear hs w a; intro a w hs
 refine st_callP (v := .bool (stl (sns l) most fl gone ((gRead bs).t))) hs (.c rfl (.c rfl .n)) Tryz.call79 (stale_ok p g _ l most fl gone N ((gRead bs).t) _ (hs.mem.keep hp (by simp [feet, blk])) (hs.mem.keep hg (by simp [feet, blk])) (hs.rd0 hu) (hs.mem.keepH hrw (by simp)) ho) rfl ?_; clear hs w a; intro a w hs
 refine st_callV (us := [.pointer (some ⟨g2, 0, none⟩)]) hs rfl (.c rfl (.c rfl .n)) rfl Tryz.call78 (.c (.s .z) .n) (refu_ok (stl (sns l) most fl gone ((gRead bs).t)) 13 (refu ((gRead bs).e) (khas (sns l) ((gRead bs).t)) 12) g2 _ _ (hs.mem.del (.s .z))) rfl ?_; clear hs w a; rintro _ _ a w ⟨rfl, rfl⟩ hs; simp only [List.cons_append, List.nil_append] at hs
 refine goL 0 [] [7, 6, 5, 4, 0] hs .n ?_; clear hs w a; intro a w hs
 refine wp_drawS [.p [] [], .p [0] [], .p [1] [], .v [2] (.pointer (some ⟨g, 0, none⟩)), .p [] [], .p [4] [0], .v [5, 3] (.tuple #[.agg #[.int .i64 ((rget l ((gRead bs).b)).t), .int .i64 ((rget l ((gRead bs).b)).tm), (rget l ((gRead bs).b)).v], .bool (khas (sns l) ((gRead bs).b))]), .p [6] [], .p [7] [], .p [7] [], .x [] ⟨[], [], [], fun vs11 => vs11 10 = .pointer (some ⟨(ptrG (vs11 10)), 0, none⟩), fun vs11 => [blk (ptrG (vs11 10)) [.int .i64 (0), .int .i64 (0), .slice none 0 0] 24], none⟩, .x [8] ⟨[], [10], [10], fun vs11 => True, fun vs11 => [blk (ptrG (vs11 10)) [.int .i64 ((rget l ((gRead bs).b)).t), .int .i64 ((rget l ((gRead bs).b)).tm), (rget l ((gRead bs).b)).v] 24], none⟩, .p [9] []] [12] hs .n (.c (.s .z) .n) (by kernel_rfl) ⟨?_, rfl, ?_, ⟨rfl, by kernel_rfl, fun _ => rfl⟩, ⟨?_, ?_, trivial⟩, ?_⟩
 ·
  intro a_ w_ R_ Q_ hm hs K_
  refine st_ldE hs rfl (hm.keep hp (by simp [feet, blk])) .z Tryz.isAgg101 rfl ?_; clear hs; intro a w hs
  exact wpList_nil (K_ _ _ hs)
 ·
  intro a_ w_ R_ Q_ hm hs K_
  refine st_callP (v := .tuple #[.agg #[.int .i64 ((rget l ((gRead bs).b)).t), .int .i64 ((rget l ((gRead bs).b)).tm), (rget l ((gRead bs).b)).v], .bool (khas (sns l) ((gRead bs).b))]) hs (.c rfl (.c rfl .n)) Tryz.call59 (ringget_ok g _ l most fl gone ((gRead bs).b) _ (hm.rd0 hu) (hm.keep hg (by simp [feet, blk])) hsr (by omega) hiv) rfl ?_; clear hs; intro a w hs
  exact wpList_nil (K_ _ _ hs)
 ·
  intro a_ w_ R_ rest_ vs11 hm hs ht hx
  have hs0 := hs.bare
  refine st_alloc (cs := [.int .i64 (0), .int .i64 (0), .slice none 0 0]) hs Tryz.zeroValue24 rfl rfl ?_; clear hs; intro g12 a w hs
  exact wpList_nil ⟨rfl, _, _, hs0, .r, hs, rfl⟩
 ·
  intro a_ w_ R_ rest_ vs11 hm hs ht hx
  have t10 := ht 10 (twB_spec 13 _ (by kernel_rfl))
  have e10 : _ = some (vs11 10) := t10.val rfl
  rw [show vs11 10 = .pointer (some ⟨(ptrG (vs11 10)), 0, none⟩) from t10.2.1] at e10
  replace hs := hs.learn e10
  have hs0 := hs.bare
  refine st_stBA hs rfl rfl .z (.z (.c (.c (.c .n)))) (ones_c rfl (ones_c rfl (ones_c (rws_rd (hm.keepH hrw (by simp)) (rget_mem l ((gRead bs).b) hsr)).isSl.one ones_n))) Tryz.sizeOf24 rfl ?_; clear hs; intro a w hs
  exact wpList_nil ⟨rfl, .tuple #[], _, hs0, (.c (.c .r)), hs, trivial⟩
 clear hs w a; intro vs11 a w hs hf
 obtain ⟨e10, q10⟩ := hf 10 (by decide)
 replace e10 : _ = some (vs11 10) := e10.val rfl
 rw [show vs11 10 = .pointer (some ⟨(ptrG (vs11 10)), 0, none⟩) from q10] at e10
 replace hs := hs.learn e10; clear e10 q10
 generalize ptrG (vs11 10) = g13 at hs
 clear hf
 refine goE 4 [] [54, 51, 10, 7, 6, 5, 4, 0] hs .n ?_; clear hs w a; intro a w hs
 refine st_part (b := !(khas (sns l) ((gRead bs).b))) (fun c_14 => ?_) (fun c_14 => ?_)
 ·
  rw [c_14] at hs
  replace c_14 := not_t c_14
  refine go 4 [0] [58, 51, 10, 7, 6, 5, 4, 0] hs (.c (.s .z) .n) ⟨rfl, ?_⟩; clear hs w a; intro a w hs
  replace hs := hs.reslot (d := 58) (v := .bool (decide (0 ≤ ((gRead bs).b)))) (v' := .bool (bad14 (sns l) (gRead bs).b)) rfl (Option.some.inj (congrArg (fun b => some (Value.bool b)) (by unfold bad14; simp_all)))
  refine st_callV (us := [.pointer (some ⟨g2, 0, none⟩)]) hs rfl (.c rfl (.c rfl .n)) rfl Tryz.call78 (.c (.s .z) .n) (refu_ok (bad14 (sns l) (gRead bs).b) 14 (refu (refu ((gRead bs).e) (khas (sns l) ((gRead bs).t)) 12) (stl (sns l) most fl gone ((gRead bs).t)) 13) g2 _ _ (hs.mem.del (.s .z))) rfl ?_; clear hs w a; rintro _ _ a w ⟨rfl, rfl⟩ hs; simp only [List.cons_append, List.nil_append] at hs
  refine goL 2 [0] [61, 10, 7, 6, 5, 4, 0] hs (.c .z .n) ⟨rfl, ?_⟩; clear hs w a; intro a w hs
  refine ifG hs rfl (fun c_15 => ?_) (fun c_15 => ?_)
  ·
   replace c_15 := eq_of_beq c_15
   refine go 2 [0, 1] [64, 63, 7, 5, 4, 0] hs (.c (.s (.s (.s (.s (.s .z))))) (.c (.s .z) .n)) ⟨rfl, rfl, ?_⟩; clear hs w a; intro a w hs
   refine st_call hs (.c rfl (.c rfl .n)) Tryz.call14 .n (dapply_ok ((rget l ((gRead bs).b)).t) ((rget l ((gRead bs).b)).tm) _ ((rget l ((gRead bs).b)).l) ((gRead bs).t) ((gRead bs).tm) ((gRead bs).b) _ ((gRead bs).l) _ (by omega) (by omega) (by omega) (by omega) (by omega) (rws_rd (hs.mem.keepH hrw (by simp)) (rget_mem l ((gRead bs).b) hsr)) (rd_row (hs.mem.del (.s (.s (.s .z))))) (gread_wf bs)) rfl ?_; clear hs w a; rintro _ _ a w ⟨v16, rfl, rfl⟩ hs; simp only [List.cons_append, List.nil_append] at hs
   have hk17 := aS_rng (at_ := ((rget l ((gRead bs).b)).t)) (atm := ((rget l ((gRead bs).b)).tm)) (a := (rget l ((gRead bs).b)).l) (gt := ((gRead bs).t)) (gtm := ((gRead bs).tm)) (gb := ((gRead bs).b)) (rl := (gRead bs).l)
   refine goL 3 [] [67, 66, 7, 5, 4, 0] hs .n ?_; clear hs w a; intro a w hs
   refine st_stBA hs rfl rfl (.s (.s (.s (.s (.s .z))))) (.z (.c (.c (.c .n)))) (ones_c rfl (ones_c rfl (ones_c (rd_row (hs.mem.del .z)).isSl.one ones_n))) Tryz.sizeOf24 rfl ?_; clear hs w a; intro a w hs
   refine goL 4 [0, 1] [70, 69, 68, 5, 4] hs (.c (.s (.s (.s (.s .z)))) (.c .z .n)) ⟨rfl, rfl, ?_⟩; clear hs w a; intro a w hs
   refine st_callP (v := .bool (tml (sns l) ((aS ((rget l ((gRead bs).b)).t) ((rget l ((gRead bs).b)).tm) ((rget l ((gRead bs).b)).l) ((gRead bs).t) ((gRead bs).tm) ((gRead bs).b) ((gRead bs).l)).t) ((aS ((rget l ((gRead bs).b)).t) ((rget l ((gRead bs).b)).tm) ((rget l ((gRead bs).b)).l) ((gRead bs).t) ((gRead bs).tm) ((gRead bs).b) ((gRead bs).l)).tm))) hs (.c rfl (.c rfl .n)) Tryz.call80 (ktimely_ok p g _ l most fl gone N ((aS ((rget l ((gRead bs).b)).t) ((rget l ((gRead bs).b)).tm) ((rget l ((gRead bs).b)).l) ((gRead bs).t) ((gRead bs).tm) ((gRead bs).b) ((gRead bs).l)).t) ((aS ((rget l ((gRead bs).b)).t) ((rget l ((gRead bs).b)).tm) ((rget l ((gRead bs).b)).l) ((gRead bs).t) ((gRead bs).tm) ((gRead bs).b) ((gRead bs).l)).tm) _ _ (rd_row (hs.mem.del (.s (.s .z)))).isSl _ (hs.mem.keep hp (by simp [feet, blk])) (hs.mem.keep hg (by simp [feet, blk])) (hs.rd0 hu) (hs.mem.keepH hrw (by simp)) ho) rfl ?_; clear hs w a; intro a w hs
   refine goL 1 [] [72, 68, 5, 4] hs .n ?_; clear hs w a; intro a w hs
   refine st_callV (us := [.pointer (some ⟨g2, 0, none⟩)]) hs rfl (.c rfl (.c rfl .n)) rfl Tryz.call78 (.c .z .n) (refu_ok (!(tml (sns l) ((aS ((rget l ((gRead bs).b)).t) ((rget l ((gRead bs).b)).tm) ((rget l ((gRead bs).b)).l) ((gRead bs).t) ((gRead bs).tm) ((gRead bs).b) ((gRead bs).l)).t) ((aS ((rget l ((gRead bs).b)).t) ((rget l ((gRead bs).b)).tm) ((rget l ((gRead bs).b)).l) ((gRead bs).t) ((gRead bs).tm) ((gRead bs).b) ((gRead bs).l)).tm))) 16 (aE ((rget l ((gRead bs).b)).t) ((rget l ((gRead bs).b)).tm) ((rget l ((gRead bs).b)).l) ((gRead bs).t) ((gRead bs).tm) ((gRead bs).b) ((gRead bs).l)) g2 _ _ (hs.mem.del .z)) rfl ?_; clear hs w a; rintro _ _ a w ⟨rfl, rfl⟩ hs; simp only [List.cons_append, List.nil_append] at hs
   refine goL 0 [] [5, 4] hs .n ?_; clear hs w a; intro a w hs
   refine wp_drawS [.x [] ⟨[], [], [], fun vs18 => vs18 0 = .agg #[.int .i64 ((aS ((rget l ((gRead bs).b)).t) ((rget l ((gRead bs).b)).tm) ((rget l ((gRead bs).b)).l) ((gRead bs).t) ((gRead bs).tm) ((gRead bs).b) ((gRead bs).l)).t), .int .i64 ((aS ((rget l ((gRead bs).b)).t) ((rget l ((gRead bs).b)).tm) ((rget l ((gRead bs).b)).l) ((gRead bs).t) ((gRead bs).tm) ((gRead bs).b) ((gRead bs).l)).tm), v16], fun vs18 => [], none⟩, .x [] ⟨[], [], [], fun vs18 => vs18 1 = .int .i64 (((refu (aE ((rget l ((gRead bs).b)).t) ((rget l ((gRead bs).b)).tm) ((rget l ((gRead bs).b)).l) ((gRead bs).t) ((gRead bs).tm) ((gRead bs).b) ((gRead bs).l)) (!(tml (sns l) ((aS ((rget l ((gRead bs).b)).t) ((rget l ((gRead bs).b)).tm) ((rget l ((gRead bs).b)).l) ((gRead bs).t) ((gRead bs).tm) ((gRead bs).b) ((gRead bs).l)).t) ((aS ((rget l ((gRead bs).b)).t) ((rget l ((gRead bs).b)).tm) ((rget l ((gRead bs).b)).l) ((gRead bs).t) ((gRead bs).tm) ((gRead bs).b) ((gRead bs).l)).tm))) 16 : Nat) : Int)), fun vs18 => [], none⟩, .x [] ⟨[blk g1 [.int .i64 ((aS ((rget l ((gRead bs).b)).t) ((rget l ((gRead bs).b)).tm) ((rget l ((gRead bs).b)).l) ((gRead bs).t) ((gRead bs).tm) ((gRead bs).b) ((gRead bs).l)).t), .int .i64 ((aS ((rget l ((gRead bs).b)).t) ((rget l ((gRead bs).b)).tm) ((rget l ((gRead bs).b)).l) ((gRead bs).t) ((gRead bs).tm) ((gRead bs).b) ((gRead bs).l)).tm), v16] 24], [], [], fun vs18 => True, fun vs18 => [blk g1 [.int .i64 ((aS ((rget l ((gRead bs).b)).t) ((rget l ((gRead bs).b)).tm) ((rget l ((gRead bs).b)).l) ((gRead bs).t) ((gRead bs).tm) ((gRead bs).b) ((gRead bs).l)).t), .int .i64 ((aS ((rget l ((gRead bs).b)).t) ((rget l ((gRead bs).b)).tm) ((rget l ((gRead bs).b)).l) ((gRead bs).t) ((gRead bs).tm) ((gRead bs).b) ((gRead bs).l)).tm), v16] 24], none⟩, .x [] ⟨[blk g2 [.int .i64 (((refu (aE ((rget l ((gRead bs).b)).t) ((rget l ((gRead bs).b)).tm) ((rget l ((gRead bs).b)).l) ((gRead bs).t) ((gRead bs).tm) ((gRead bs).b) ((gRead bs).l)) (!(tml (sns l) ((aS ((rget l ((gRead bs).b)).t) ((rget l ((gRead bs).b)).tm) ((rget l ((gRead bs).b)).l) ((gRead bs).t) ((gRead bs).tm) ((gRead bs).b) ((gRead bs).l)).t) ((aS ((rget l ((gRead bs).b)).t) ((rget l ((gRead bs).b)).tm) ((rget l ((gRead bs).b)).l) ((gRead bs).t) ((gRead bs).tm) ((gRead bs).b) ((gRead bs).l)).tm))) 16 : Nat) : Int))] 30], [], [], fun vs18 => True, fun vs18 => [blk g2 [.int .i64 (((refu (aE ((rget l ((gRead bs).b)).t) ((rget l ((gRead bs).b)).tm) ((rget l ((gRead bs).b)).l) ((gRead bs).t) ((gRead bs).tm) ((gRead bs).b) ((gRead bs).l)) (!(tml (sns l) ((aS ((rget l ((gRead bs).b)).t) ((rget l ((gRead bs).b)).tm) ((rget l ((gRead bs).b)).l) ((gRead bs).t) ((gRead bs).tm) ((gRead bs).b) ((gRead bs).l)).t) ((aS ((rget l ((gRead bs).b)).t) ((rget l ((gRead bs).b)).tm) ((rget l ((gRead bs).b)).l) ((gRead bs).t) ((gRead bs).tm) ((gRead bs).b) ((gRead bs).l)).tm))) 16 : Nat) : Int))] 30], none⟩] [] hs (.c (.s .z) (.c .z .n)) .n (by kernel_rfl) ⟨⟨rfl, by kernel_rfl, fun _ => rfl⟩, ⟨?_, ?_, ?_, ?_, trivial⟩, ?_⟩
   ·
    intro a_ w_ R_ rest_ vs18 hm hs ht hx
    have hs0 := hs.bare
    refine st_ldEA hs rfl (hm.own (List.mem_append.2 (.inr ((hx 2 (twB_spec 4 _ (by kernel_rfl))).1 _ (List.Mem.head _))))) (.z (.c (.c (.c .n)))) Tryz.isAgg24 Tryz.sizeOf24 rfl ?_; clear hs; intro a w hs
    exact wpList_nil ⟨rfl, _, _, hs0, .r, hs, rfl⟩
   ·
    intro a_ w_ R_ rest_ vs18 hm hs ht hx
    have hs0 := hs.bare
    refine st_ldE hs rfl (hm.own (List.mem_append.2 (.inr ((hx 3 (twB_spec 4 _ (by kernel_rfl))).1 _ (List.Mem.head _))))) .z Tryz.isAgg30 rfl ?_; clear hs; intro a w hs
    exact wpList_nil ⟨rfl, _, _, hs0, .r, hs, rfl⟩
   ·
    intro a_ w_ R_ rest_ vs18 hm hs ht hx
    have hm0 := hm.mid
    have t0 := ht 0 (twB_spec 4 _ (by kernel_rfl))
    have e0 : _ = some (vs18 0) := t0.val rfl
    rw [show vs18 0 = .agg #[.int .i64 ((aS ((rget l ((gRead bs).b)).t) ((rget l ((gRead bs).b)).tm) ((rget l ((gRead bs).b)).l) ((gRead bs).t) ((gRead bs).tm) ((gRead bs).b) ((gRead bs).l)).t), .int .i64 ((aS ((rget l ((gRead bs).b)).t) ((rget l ((gRead bs).b)).tm) ((rget l ((gRead bs).b)).l) ((gRead bs).t) ((gRead bs).tm) ((gRead bs).b) ((gRead bs).l)).tm), v16] from t0.2.1] at e0
    replace hs := hs.learn e0
    have hs0 := hs.bare
    refine st_stBA hs rfl rfl .z (.z (.c (.c (.c .n)))) (ones_c rfl (ones_c rfl (ones_c (rd_row (hm0.del .z)).isSl.one ones_n))) Tryz.sizeOf24 rfl ?_; clear hs; intro a w hs
    exact wpList_nil ⟨rfl, .tuple #[], _, hs0, (.c .r), hs, trivial⟩
   ·
    intro a_ w_ R_ rest_ vs18 hm hs ht hx
    have t1 := ht 1 (twB_spec 4 _ (by kernel_rfl))
    have e1 : _ = some (vs18 1) := t1.val rfl
    rw [show vs18 1 = .int .i64 (((refu (aE ((rget l ((gRead bs).b)).t) ((rget l ((gRead bs).b)).tm) ((rget l ((gRead bs).b)).l) ((gRead bs).t) ((gRead bs).tm) ((gRead bs).b) ((gRead bs).l)) (!(tml (sns l) ((aS ((rget l ((gRead bs).b)).t) ((rget l ((gRead bs).b)).tm) ((rget l ((gRead bs).b)).l) ((gRead bs).t) ((gRead bs).tm) ((gRead bs).b) ((gRead bs).l)).t) ((aS ((rget l ((gRead bs).b)).t) ((rget l ((gRead bs).b)).tm) ((rget l ((gRead bs).b)).l) ((gRead bs).t) ((gRead bs).tm) ((gRead bs).b) ((gRead bs).l)).tm))) 16 : Nat) : Int)) from t1.2.1] at e1
    replace hs := hs.learn e1
    have hs0 := hs.bare
    refine st_stB hs rfl rfl .z .z rfl Tryz.sizeOf30 ?_; clear hs; intro a w hs
    exact wpList_nil ⟨rfl, .tuple #[], _, hs0, (.c .r), hs, trivial⟩
   clear hs w a; intro vs18 a w hs hf
   clear hf
   refine goE 0 [] [5, 4] hs .n ?_; clear hs w a; intro a w hs
   exact finCC hs rfl rfl rfl (.s (.s (.s (.s (.s .z))))) (.z (.c (.c (.c .n)))) Tryz.isAgg24 Tryz.sizeOf24 (.s (.s (.s (.s (.s (.s .z)))))) .z Tryz.isAgg30 (.c (.s (.s (.s (.s (.s (.s .z)))))) (.c (.s (.s (.s (.s (.s .z))))) (.c (.s (.s (.s (.s .z)))) (.c (.s (.s (.s .z))) (.c (.s (.s .z)) (.c (.s .z) .n)))))) ⟨_, _, by rw [accE_3 (by omega) (by show refu _ _ _ = 0; omega), accAE_rget hsr, accA_rget hsr] <;> rfl, fun _ => (accA_rget hsr).symm, rfl⟩
  replace c_15 := ne_of_beq_f c_15
  replace hs := hs.addNil 73 9
  refine go 3 [0] [70, 69, 68, 5, 4] hs (.c (.s (.s (.s (.s .z)))) .n) ⟨rfl, ?_⟩; clear hs w a; intro a w hs
  refine st_callP (v := .bool (tml (sns l) 0 0)) hs (.c rfl (.c rfl .n)) Tryz.call80 (ktimely_ok p g _ l most fl gone N 0 0 _ _ ⟨_, _, rfl⟩ _ (hs.mem.keep hp (by simp [feet, blk])) (hs.mem.keep hg (by simp [feet, blk])) (hs.rd0 hu) (hs.mem.keepH hrw (by simp)) ho) rfl ?_; clear hs w a; intro a w hs
  refine goL 1 [] [72, 68, 5, 4] hs .n ?_; clear hs w a; intro a w hs
  refine st_callV (us := [.pointer (some ⟨g2, 0, none⟩)]) hs rfl (.c rfl (.c rfl .n)) rfl Tryz.call78 (.c (.s (.s .z)) .n) (refu_ok (!(tml (sns l) 0 0)) 16 (refu (refu (refu ((gRead bs).e) (khas (sns l) ((gRead bs).t)) 12) (stl (sns l) most fl gone ((gRead bs).t)) 13) (bad14 (sns l) (gRead bs).b) 14) g2 _ _ (hs.mem.del (.s (.s .z)))) rfl ?_; clear hs w a; rintro _ _ a w ⟨rfl, rfl⟩ hs; simp only [List.cons_append, List.nil_append] at hs
  refine goL 0 [] [5, 4] hs .n ?_; clear hs w a; intro a w hs
  refine wp_drawS [.x [] ⟨[], [], [], fun vs19 => vs19 0 = .agg #[.int .i64 (0), .int .i64 (0), .slice none 0 0], fun vs19 => [], none⟩, .x [] ⟨[], [], [], fun vs19 => vs19 1 = .int .i64 (((refu (refu (refu (refu ((gRead bs).e) (khas (sns l) ((gRead bs).t)) 12) (stl (sns l) most fl gone ((gRead bs).t)) 13) (bad14 (sns l) (gRead bs).b) 14) (!(tml (sns l) 0 0)) 16 : Nat) : Int)), fun vs19 => [], none⟩, .x [] ⟨[blk g1 [.int .i64 (0), .int .i64 (0), .slice none 0 0] 24], [], [], fun vs19 => True, fun vs19 => [blk g1 [.int .i64 (0), .int .i64 (0), .slice none 0 0] 24], none⟩, .x [] ⟨[blk g2 [.int .i64 (((refu (refu (refu (refu ((gRead bs).e) (khas (sns l) ((gRead bs).t)) 12) (stl (sns l) most fl gone ((gRead bs).t)) 13) (bad14 (sns l) (gRead bs).b) 14) (!(tml (sns l) 0 0)) 16 : Nat) : Int))] 30], [], [], fun vs19 => True, fun vs19 => [blk g2 [.int .i64 (((refu (refu (refu (refu ((gRead bs).e) (khas (sns l) ((gRead bs).t)) 12) (stl (sns l) most fl gone ((gRead bs).t)) 13) (bad14 (sns l) (gRead bs).b) 14) (!(tml (sns l) 0 0)) 16 : Nat) : Int))] 30], none⟩] [] hs (.c (.s .z) (.c .z .n)) .n (by kernel_rfl) ⟨⟨rfl, by kernel_rfl, fun _ => rfl⟩, ⟨?_, ?_, ?_, ?_, trivial⟩, ?_⟩
  ·
   intro a_ w_ R_ rest_ vs19 hm hs ht hx
   have hs0 := hs.bare
   refine st_ldEA hs rfl (hm.own (List.mem_append.2 (.inr ((hx 2 (twB_spec 4 _ (by kernel_rfl))).1 _ (List.Mem.head _))))) (.z (.c (.c (.c .n)))) Tryz.isAgg24 Tryz.sizeOf24 rfl ?_; clear hs; intro a w hs
   exact wpList_nil ⟨rfl, _, _, hs0, .r, hs, rfl⟩
  ·
   intro a_ w_ R_ rest_ vs19 hm hs ht hx
   have hs0 := hs.bare
   refine st_ldE hs rfl (hm.own (List.mem_append.2 (.inr ((hx 3 (twB_spec 4 _ (by kernel_rfl))).1 _ (List.Mem.head _))))) .z Tryz.isAgg30 rfl ?_; clear hs; intro a w hs
   exact wpList_nil ⟨rfl, _, _, hs0, .r, hs, rfl⟩
  ·
   intro a_ w_ R_ rest_ vs19 hm hs ht hx
   have t0 := ht 0 (twB_spec 4 _ (by kernel_rfl))
   have e0 : _ = some (vs19 0) := t0.val rfl
   rw [show vs19 0 = .agg #[.int .i64 (0), .int .i64 (0), .slice none 0 0] from t0.2.1] at e0
   replace hs := hs.learn e0
   have hs0 := hs.bare
   refine st_stBA hs rfl rfl .z (.z (.c (.c (.c .n)))) (ones_c rfl (ones_c rfl (ones_c rfl ones_n))) Tryz.sizeOf24 rfl ?_; clear hs; intro a w hs
   exact wpList_nil ⟨rfl, .tuple #[], _, hs0, (.c .r), hs, trivial⟩
  ·
   intro a_ w_ R_ rest_ vs19 hm hs ht hx
   have t1 := ht 1 (twB_spec 4 _ (by kernel_rfl))
   have e1 : _ = some (vs19 1) := t1.val rfl
   rw [show vs19 1 = .int .i64 (((refu (refu (refu (refu ((gRead bs).e) (khas (sns l) ((gRead bs).t)) 12) (stl (sns l) most fl gone ((gRead bs).t)) 13) (bad14 (sns l) (gRead bs).b) 14) (!(tml (sns l) 0 0)) 16 : Nat) : Int)) from t1.2.1] at e1
   replace hs := hs.learn e1
   have hs0 := hs.bare
   refine st_stB hs rfl rfl .z .z rfl Tryz.sizeOf30 ?_; clear hs; intro a w hs
   exact wpList_nil ⟨rfl, .tuple #[], _, hs0, (.c .r), hs, trivial⟩
  clear hs w a; intro vs19 a w hs hf
  clear hf
  refine goE 0 [] [5, 4] hs .n ?_; clear hs w a; intro a w hs
  exact finCC hs rfl rfl rfl (.s (.s (.s (.s (.s .z))))) (.z (.c (.c (.c .n)))) Tryz.isAgg24 Tryz.sizeOf24 (.s (.s (.s (.s (.s (.s .z)))))) .z Tryz.isAgg30 (.c (.s (.s (.s (.s (.s (.s .z)))))) (.c (.s (.s (.s (.s (.s .z))))) (.c (.s (.s (.s (.s .z)))) (.c (.s (.s (.s .z))) (.c (.s (.s .z)) (.c (.s .z) .n)))))) ⟨default, _, by rw [accE_2 (by omega) (by show refu _ _ _ ≠ 0; omega), refu_n (by omega)] <;> rfl, fun h => absurd h (by rw [accE_2 (by omega) (by show refu _ _ _ ≠ 0; omega)]; show ¬ refu _ _ _ = 0; omega), rfl⟩
 rw [c_14] at hs
 replace c_14 := not_f c_14
 refine go 4 [] [58, 51, 10, 7, 6, 5, 4, 0] hs .n ?_; clear hs w a; intro a w hs
 replace hs := hs.reslot (d := 58) (v := .bool (false)) (v' := .bool (bad14 (sns l) (gRead bs).b)) rfl (Option.some.inj (congrArg (fun b => some (Value.bool b)) (by unfold bad14; simp_all)))
 refine st_callV (us := [.pointer (some ⟨g2, 0, none⟩)]) hs rfl (.c rfl (.c rfl .n)) rfl Tryz.call78 (.c .z .n) (refu_ok (bad14 (sns l) (gRead bs).b) 14 (refu (refu ((gRead bs).e) (khas (sns l) ((gRead bs).t)) 12) (stl (sns l) most fl gone ((gRead bs).t)) 13) g2 _ _ (hs.mem.del .z)) rfl ?_; clear hs w a; rintro _ _ a w ⟨rfl, rfl⟩ hs; simp only [List.cons_append, List.nil_append] at hs
 refine goL 2 [0] [61, 10, 7, 6, 5, 4, 0] hs (.c .z .n) ⟨rfl, ?_⟩; clear hs w a; intro a w hs
 refine ifG hs rfl (fun c_20 => ?_) (fun c_20 => ?_)
 ·
  replace c_20 := eq_of_beq c_20
  refine go 2 [0, 1] [64, 63, 7, 5, 4, 0] hs (.c (.s (.s (.s (.s (.s .z))))) (.c (.s .z) .n)) ⟨rfl, rfl, ?_⟩; clear hs w a; intro a w hs
  refine st_call hs (.c rfl (.c rfl .n)) Tryz.call14 .n (dapply_ok ((rget l ((gRead bs).b)).t) ((rget l ((gRead bs).b)).tm) _ ((rget l ((gRead bs).b)).l) ((gRead bs).t) ((gRead bs).tm) ((gRead bs).b) _ ((gRead bs).l) _ (by omega) (by omega) (by omega) (by omega) (by omega) (rws_rd (hs.mem.keepH hrw (by simp)) (rget_mem l ((gRead bs).b) hsr)) (rd_row (hs.mem.del (.s (.s (.s .z))))) (gread_wf bs)) rfl ?_; clear hs w a; rintro _ _ a w ⟨v21, rfl, rfl⟩ hs; simp only [List.cons_append, List.nil_append] at hs
  have hk22 := aS_rng (at_ := ((rget l ((gRead bs).b)).t)) (atm := ((rget l ((gRead bs).b)).tm)) (a := (rget l ((gRead bs).b)).l) (gt := ((gRead bs).t)) (gtm := ((gRead bs).tm)) (gb := ((gRead bs).b)) (rl := (gRead bs).l)
  refine goL 3 [] [67, 66, 7, 5, 4, 0] hs .n ?_; clear hs w a; intro a w hs
  refine st_stBA hs rfl rfl (.s (.s (.s (.s (.s .z))))) (.z (.c (.c (.c .n)))) (ones_c rfl (ones_c rfl (ones_c (rd_row (hs.mem.del .z)).isSl.one ones_n))) Tryz.sizeOf24 rfl ?_; clear hs w a; intro a w hs
  refine goL 4 [0, 1] [70, 69, 68, 5, 4] hs (.c (.s (.s (.s (.s .z)))) (.c .z .n)) ⟨rfl, rfl, ?_⟩; clear hs w a; intro a w hs
  refine st_callP (v := .bool (tml (sns l) ((aS ((rget l ((gRead bs).b)).t) ((rget l ((gRead bs).b)).tm) ((rget l ((gRead bs).b)).l) ((gRead bs).t) ((gRead bs).tm) ((gRead bs).b) ((gRead bs).l)).t) ((aS ((rget l ((gRead bs).b)).t) ((rget l ((gRead bs).b)).tm) ((rget l ((gRead bs).b)).l) ((gRead bs).t) ((gRead bs).tm) ((gRead bs).b) ((gRead bs).l)).tm))) hs (.c rfl (.c rfl .n)) Tryz.call80 (ktimely_ok p g _ l most fl gone N ((aS ((rget l ((gRead bs).b)).t) ((rget l ((gRead bs).b)).tm) ((rget l ((gRead bs).b)).l) ((gRead bs).t) ((gRead bs).tm) ((gRead bs).b) ((gRead bs).l)).t) ((aS ((rget l ((gRead bs).b)).t) ((rget l ((gRead bs).b)).tm) ((rget l ((gRead bs).b)).l) ((gRead bs).t) ((gRead bs).tm) ((gRead bs).b) ((gRead bs).l)).tm) _ _ (rd_row (hs.mem.del (.s (.s .z)))).isSl _ (hs.mem.keep hp (by simp [feet, blk])) (hs.mem.keep hg (by simp [feet, blk])) (hs.rd0 hu) (hs.mem.keepH hrw (by simp)) ho) rfl ?_; clear hs w a; intro a w hs
  refine goL 1 [] [72, 68, 5, 4] hs .n ?_; clear hs w a; intro a w hs
  refine st_callV (us := [.pointer (some ⟨g2, 0, none⟩)]) hs rfl (.c rfl (.c rfl .n)) rfl Tryz.call78 (.c .z .n) (refu_ok (!(tml (sns l) ((aS ((rget l ((gRead bs).b)).t) ((rget l ((gRead bs).b)).tm) ((rget l ((gRead bs).b)).l) ((gRead bs).t) ((gRead bs).tm) ((gRead bs).b) ((gRead bs).l)).t) ((aS ((rget l ((gRead bs).b)).t) ((rget l ((gRead bs).b)).tm) ((rget l ((gRead bs).b)).l) ((gRead bs).t) ((gRead bs).tm) ((gRead bs).b) ((gRead bs).l)).tm))) 16 (aE ((rget l ((gRead bs).b)).t) ((rget l ((gRead bs).b)).tm) ((rget l ((gRead bs).b)).l) ((gRead bs).t) ((gRead bs).tm) ((gRead bs).b) ((gRead bs).l)) g2 _ _ (hs.mem.del .z)) rfl ?_; clear hs w a; rintro _ _ a w ⟨rfl, rfl⟩ hs; simp only [List.cons_append, List.nil_append] at hs
  refine goL 0 [] [5, 4] hs .n ?_; clear hs w a; intro a w hs
  refine wp_drawS [.x [] ⟨[], [], [], fun vs23 => vs23 0 = .agg #[.int .i64 ((aS ((rget l ((gRead bs).b)).t) ((rget l ((gRead bs).b)).tm) ((rget l ((gRead bs).b)).l) ((gRead bs).t) ((gRead bs).tm) ((gRead bs).b) ((gRead bs).l)).t), .int .i64 ((aS ((rget l ((gRead bs).b)).t) ((rget l ((gRead bs).b)).tm) ((rget l ((gRead bs).b)).l) ((gRead bs).t) ((gRead bs).tm) ((gRead bs).b) ((gRead bs).l)).tm), v21], fun vs23 => [], none⟩, .x [] ⟨[], [], [], fun vs23 => vs23 1 = .int .i64 (((refu (aE ((rget l ((gRead bs).b)).t) ((rget l ((gRead bs).b)).tm) ((rget l ((gRead bs).b)).l) ((gRead bs).t) ((gRead bs).tm) ((gRead bs).b) ((gRead bs).l)) (!(tml (sns l) ((aS ((rget l ((gRead bs).b)).t) ((rget l ((gRead bs).b)).tm) ((rget l ((gRead bs).b)).l) ((gRead bs).t) ((gRead bs).tm) ((gRead bs).b) ((gRead bs).l)).t) ((aS ((rget l ((gRead bs).b)).t) ((rget l ((gRead bs).b)).tm) ((rget l ((gRead bs).b)).l) ((gRead bs).t) ((gRead bs).tm) ((gRead bs).b) ((gRead bs).l)).tm))) 16 : Nat) : Int)), fun vs23 => [], none⟩, .x [] ⟨[blk g1 [.int .i64 ((aS ((rget l ((gRead bs).b)).t) ((rget l ((gRead bs).b)).tm) ((rget l ((gRead bs).b)).l) ((gRead bs).t) ((gRead bs).tm) ((gRead bs).b) ((gRead bs).l)).t), .int .i64 ((aS ((rget l ((gRead bs).b)).t) ((rget l ((gRead bs).b)).tm) ((rget l ((gRead bs).b)).l) ((gRead bs).t) ((gRead bs).tm) ((gRead bs).b) ((gRead bs).l)).tm), v21] 24], [], [], fun vs23 => True, fun vs23 => [blk g1 [.int .i64 ((aS ((rget l ((gRead bs).b)).t) ((rget l ((gRead bs).b)).tm) ((rget l ((gRead bs).b)).l) ((gRead bs).t) ((gRead bs).tm) ((gRead bs).b) ((gRead bs).l)).t), .int .i64 ((aS ((rget l ((gRead bs).b)).t) ((rget l ((gRead bs).b)).tm) ((rget l ((gRead bs).b)).l) ((gRead bs).t) ((gRead bs).tm) ((gRead bs).b) ((gRead bs).l)).tm), v21] 24], none⟩, .x [] ⟨[blk g2 [.int .i64 (((refu (aE ((rget l ((gRead bs).b)).t) ((rget l ((gRead bs).b)).tm) ((rget l ((gRead bs).b)).l) ((gRead bs).t) ((gRead bs).tm) ((gRead bs).b) ((gRead bs).l)) (!(tml (sns l) ((aS ((rget l ((gRead bs).b)).t) ((rget l ((gRead bs).b)).tm) ((rget l ((gRead bs).b)).l) ((gRead bs).t) ((gRead bs).tm) ((gRead bs).b) ((gRead bs).l)).t) ((aS ((rget l ((gRead bs).b)).t) ((rget l ((gRead bs).b)).tm) ((rget l ((gRead bs).b)).l) ((gRead bs).t) ((gRead bs).tm) ((gRead bs).b) ((gRead bs).l)).tm))) 16 : Nat) : Int))] 30], [], [], fun vs23 => True, fun vs23 => [blk g2 [.int .i64 (((refu (aE ((rget l ((gRead bs).b)).t) ((rget l ((gRead bs).b)).tm) ((rget l ((gRead bs).b)).l) ((gRead bs).t) ((gRead bs).tm) ((gRead bs).b) ((gRead bs).l)) (!(tml (sns l) ((aS ((rget l ((gRead bs).b)).t) ((rget l ((gRead bs).b)).tm) ((rget l ((gRead bs).b)).l) ((gRead bs).t) ((gRead bs).tm) ((gRead bs).b) ((gRead bs).l)).t) ((aS ((rget l ((gRead bs).b)).t) ((rget l ((gRead bs).b)).tm) ((rget l ((gRead bs).b)).l) ((gRead bs).t) ((gRead bs).tm) ((gRead bs).b) ((gRead bs).l)).tm))) 16 : Nat) : Int))] 30], none⟩] [] hs (.c (.s .z) (.c .z .n)) .n (by kernel_rfl) ⟨⟨rfl, by kernel_rfl, fun _ => rfl⟩, ⟨?_, ?_, ?_, ?_, trivial⟩, ?_⟩
  ·
   intro a_ w_ R_ rest_ vs23 hm hs ht hx
   have hs0 := hs.bare
   refine st_ldEA hs rfl (hm.own (List.mem_append.2 (.inr ((hx 2 (twB_spec 4 _ (by kernel_rfl))).1 _ (List.Mem.head _))))) (.z (.c (.c (.c .n)))) Tryz.isAgg24 Tryz.sizeOf24 rfl ?_; clear hs; intro a w hs
   exact wpList_nil ⟨rfl, _, _, hs0, .r, hs, rfl⟩
  ·
   intro a_ w_ R_ rest_ vs23 hm hs ht hx
   have hs0 := hs.bare
   refine st_ldE hs rfl (hm.own (List.mem_append.2 (.inr ((hx 3 (twB_spec 4 _ (by kernel_rfl))).1 _ (List.Mem.head _))))) .z Tryz.isAgg30 rfl ?_; clear hs; intro a w hs
   exact wpList_nil ⟨rfl, _, _, hs0, .r, hs, rfl⟩
  ·
   intro a_ w_ R_ rest_ vs23 hm hs ht hx
   have hm0 := hm.mid
   have t0 := ht 0 (twB_spec 4 _ (by kernel_rfl))
   have e0 : _ = some (vs23 0) := t0.val rfl
   rw [show vs23 0 = .agg #[.int .i64 ((aS ((rget l ((gRead bs).b)).t) ((rget l ((gRead bs).b)).tm) ((rget l ((gRead bs).b)).l) ((gRead bs).t) ((gRead bs).tm) ((gRead bs).b) ((gRead bs).l)).t), .int .i64 ((aS ((rget l ((gRead bs).b)).t) ((rget l ((gRead bs).b)).tm) ((rget l ((gRead bs).b)).l) ((gRead bs).t) ((gRead bs).tm) ((gRead bs).b) ((gRead bs).l)).tm), v21] from t0.2.1] at e0
   replace hs := hs.learn e0
   have hs0 := hs.bare
   refine st_stBA hs rfl rfl .z (.z (.c (.c (.c .n)))) (ones_c rfl (ones_c rfl (ones_c (rd_row (hm0.del .z)).isSl.one ones_n))) Tryz.sizeOf24 rfl ?_; clear hs; intro a w hs
   exact wpList_nil ⟨rfl, .tuple #[], _, hs0, (.c .r), hs, trivial⟩
  ·
   intro a_ w_ R_ rest_ vs23 hm hs ht hx
   have t1 := ht 1 (twB_spec 4 _ (by kernel_rfl))
   have e1 : _ = some (vs23 1) := t1.val rfl
   rw [show vs23 1 = .int .i64 (((refu (aE ((rget l ((gRead bs).b)).t) ((rget l ((gRead bs).b)).tm) ((rget l ((gRead bs).b)).l) ((gRead bs).t) ((gRead bs).tm) ((gRead bs).b) ((gRead bs).l)) (!(tml (sns l) ((aS ((rget l ((gRead bs).b)).t) ((rget l ((gRead bs).b)).tm) ((rget l ((gRead bs).b)).l) ((gRead bs).t) ((gRead bs).tm) ((gRead bs).b) ((gRead bs).l)).t) ((aS ((rget l ((gRead bs).b)).t) ((rget l ((gRead bs).b)).tm) ((rget l ((gRead bs).b)).l) ((gRead bs).t) ((gRead bs).tm) ((gRead bs).b) ((gRead bs).l)).tm))) 16 : Nat) : Int)) from t1.2.1] at e1
   replace hs := hs.learn e1
   have hs0 := hs.bare
   refine st_stB hs rfl rfl .z .z rfl Tryz.sizeOf30 ?_; clear hs; intro a w hs
   exact wpList_nil ⟨rfl, .tuple #[], _, hs0, (.c .r), hs, trivial⟩
  clear hs w a; intro vs23 a w hs hf
  clear hf
  refine goE 0 [] [5, 4] hs .n ?_; clear hs w a; intro a w hs
  exact finCC hs rfl rfl rfl (.s (.s (.s (.s (.s .z))))) (.z (.c (.c (.c .n)))) Tryz.isAgg24 Tryz.sizeOf24 (.s (.s (.s (.s (.s (.s .z)))))) .z Tryz.isAgg30 (.c (.s (.s (.s (.s (.s (.s .z)))))) (.c (.s (.s (.s (.s (.s .z))))) (.c (.s (.s (.s (.s .z)))) (.c (.s (.s (.s .z))) (.c (.s (.s .z)) (.c (.s .z) .n)))))) ⟨_, _, by rw [accE_3 (by omega) (by show refu _ _ _ = 0; omega), accAE_rget hsr, accA_rget hsr] <;> rfl, fun _ => (accA_rget hsr).symm, rfl⟩
 replace c_20 := ne_of_beq_f c_20
 replace hs := hs.addNil 73 9
 refine go 3 [0] [70, 69, 68, 5, 4] hs (.c (.s (.s (.s (.s .z)))) .n) ⟨rfl, ?_⟩; clear hs w a; intro a w hs
 refine st_callP (v := .bool (tml (sns l) 0 0)) hs (.c rfl (.c rfl .n)) Tryz.call80 (ktimely_ok p g _ l most fl gone N 0 0 _ _ ⟨_, _, rfl⟩ _ (hs.mem.keep hp (by simp [feet, blk])) (hs.mem.keep hg (by simp [feet, blk])) (hs.rd0 hu) (hs.mem.keepH hrw (by simp)) ho) rfl ?_; clear hs w a; intro a w hs
 refine goL 1 [] [72, 68, 5, 4] hs .n ?_; clear hs w a; intro a w hs
 refine st_callV (us := [.pointer (some ⟨g2, 0, none⟩)]) hs rfl (.c rfl (.c rfl .n)) rfl Tryz.call78 (.c (.s (.s .z)) .n) (refu_ok (!(tml (sns l) 0 0)) 16 (refu (refu (refu ((gRead bs).e) (khas (sns l) ((gRead bs).t)) 12) (stl (sns l) most fl gone ((gRead bs).t)) 13) (bad14 (sns l) (gRead bs).b) 14) g2 _ _ (hs.mem.del (.s (.s .z)))) rfl ?_; clear hs w a; rintro _ _ a w ⟨rfl, rfl⟩ hs; simp only [List.cons_append, List.nil_append] at hs
 refine goL 0 [] [5, 4] hs .n ?_; clear hs w a; intro a w hs
 refine wp_drawS [.x [] ⟨[], [], [], fun vs24 => vs24 0 = .agg #[.int .i64 (0), .int .i64 (0), .slice none 0 0], fun vs24 => [], none⟩, .x [] ⟨[], [], [], fun vs24 => vs24 1 = .int .i64 (((refu (refu (refu (refu ((gRead bs).e) (khas (sns l) ((gRead bs).t)) 12) (stl (sns l) most fl gone ((gRead bs).t)) 13) (bad14 (sns l) (gRead bs).b) 14) (!(tml (sns l) 0 0)) 16 : Nat) : Int)), fun vs24 => [], none⟩, .x [] ⟨[blk g1 [.int .i64 (0), .int .i64 (0), .slice none 0 0] 24], [], [], fun vs24 => True, fun vs24 => [blk g1 [.int .i64 (0), .int .i64 (0), .slice none 0 0] 24], none⟩, .x [] ⟨[blk g2 [.int .i64 (((refu (refu (refu (refu ((gRead bs).e) (khas (sns l) ((gRead bs).t)) 12) (stl (sns l) most fl gone ((gRead bs).t)) 13) (bad14 (sns l) (gRead bs).b) 14) (!(tml (sns l) 0 0)) 16 : Nat) : Int))] 30], [], [], fun vs24 => True, fun vs24 => [blk g2 [.int .i64 (((refu (refu (refu (refu ((gRead bs).e) (khas (sns l) ((gRead bs).t)) 12) (stl (sns l) most fl gone ((gRead bs).t)) 13) (bad14 (sns l) (gRead bs).b) 14) (!(tml (sns l) 0 0)) 16 : Nat) : Int))] 30], none⟩] [] hs (.c (.s .z) (.c .z .n)) .n (by kernel_rfl) ⟨⟨rfl, by kernel_rfl, fun _ => rfl⟩, ⟨?_, ?_, ?_, ?_, trivial⟩, ?_⟩
 ·
  intro a_ w_ R_ rest_ vs24 hm hs ht hx
  have hs0 := hs.bare
  refine st_ldEA hs rfl (hm.own (List.mem_append.2 (.inr ((hx 2 (twB_spec 4 _ (by kernel_rfl))).1 _ (List.Mem.head _))))) (.z (.c (.c (.c .n)))) Tryz.isAgg24 Tryz.sizeOf24 rfl ?_; clear hs; intro a w hs
  exact wpList_nil ⟨rfl, _, _, hs0, .r, hs, rfl⟩
 ·
  intro a_ w_ R_ rest_ vs24 hm hs ht hx
  have hs0 := hs.bare
  refine st_ldE hs rfl (hm.own (List.mem_append.2 (.inr ((hx 3 (twB_spec 4 _ (by kernel_rfl))).1 _ (List.Mem.head _))))) .z Tryz.isAgg30 rfl ?_; clear hs; intro a w hs
  exact wpList_nil ⟨rfl, _, _, hs0, .r, hs, rfl⟩
 ·
  intro a_ w_ R_ rest_ vs24 hm hs ht hx
  have t0 := ht 0 (twB_spec 4 _ (by kernel_rfl))
  have e0 : _ = some (vs24 0) := t0.val rfl
  rw [show vs24 0 = .agg #[.int .i64 (0), .int .i64 (0), .slice none 0 0] from t0.2.1] at e0
  replace hs := hs.learn e0
  have hs0 := hs.bare
  refine st_stBA hs rfl rfl .z (.z (.c (.c (.c .n)))) (ones_c rfl (ones_c rfl (ones_c rfl ones_n))) Tryz.sizeOf24 rfl ?_; clear hs; intro a w hs
  exact wpList_nil ⟨rfl, .tuple #[], _, hs0, (.c .r), hs, trivial⟩
 ·
  intro a_ w_ R_ rest_ vs24 hm hs ht hx
  have t1 := ht 1 (twB_spec 4 _ (by kernel_rfl))
  have e1 : _ = some (vs24 1) := t1.val rfl
  rw [show vs24 1 = .int .i64 (((refu (refu (refu (refu ((gRead bs).e) (khas (sns l) ((gRead bs).t)) 12) (stl (sns l) most fl gone ((gRead bs).t)) 13) (bad14 (sns l) (gRead bs).b) 14) (!(tml (sns l) 0 0)) 16 : Nat) : Int)) from t1.2.1] at e1
  replace hs := hs.learn e1
  have hs0 := hs.bare
  refine st_stB hs rfl rfl .z .z rfl Tryz.sizeOf30 ?_; clear hs; intro a w hs
  exact wpList_nil ⟨rfl, .tuple #[], _, hs0, (.c .r), hs, trivial⟩
 clear hs w a; intro vs24 a w hs hf
 clear hf
 refine goE 0 [] [5, 4] hs .n ?_; clear hs w a; intro a w hs
 exact finCC hs rfl rfl rfl (.s (.s (.s (.s (.s .z))))) (.z (.c (.c (.c .n)))) Tryz.isAgg24 Tryz.sizeOf24 (.s (.s (.s (.s (.s (.s .z)))))) .z Tryz.isAgg30 (.c (.s (.s (.s (.s (.s (.s .z)))))) (.c (.s (.s (.s (.s (.s .z))))) (.c (.s (.s (.s (.s .z)))) (.c (.s (.s (.s .z))) (.c (.s (.s .z)) (.c (.s .z) .n)))))) ⟨default, _, by rw [accE_2 (by omega) (by show refu _ _ _ ≠ 0; omega), refu_n (by omega)] <;> rfl, fun h => absurd h (by rw [accE_2 (by omega) (by show refu _ _ _ ≠ 0; omega)]; show ¬ refu _ _ _ = 0; omega), rfl⟩
end Go.Proofs.YtbioemaipghagaaGreat
