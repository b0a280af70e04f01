/- Walks of accepting: what each function does, over the program of this seat. Printed by a program of this session. -/
import Derived.Test.YtbioemaipghagaaGreatQWsto2
import Derived.Test.YtbioemaipghagaaGreatQSxBasB
namespace Go.Proofs.YtbioemaipghagaaGreat
open Go Go.Sx Go.RowKit
set_option linter.unusedVariables false
set_option linter.unusedSimpArgs false
set_option maxRecDepth 4000
set_option maxHeartbeats 1000000

theorem accept_in (p g : Nat) (u : Value) (l : List RI) (most : Nat) (fl : Int) (gone : Bool) (N : Nat → Nat) (v : Value) (m : Nat) (bs : List Byte) (w0 : World) (hM : ∀ h ∈ [blk p [.pointer (some ⟨g, 0, none⟩), .int .i64 (((most : Nat) : Int)), .int .i64 (((N 0 : Nat) : Int)), .int .i64 (((N 1 : Nat) : Int)), .int .i64 (((N 2 : Nat) : Int)), .int .i64 (((N 3 : Nat) : Int)), .int .i64 (((N 4 : Nat) : Int)), .int .i64 (((N 5 : Nat) : Int)), .int .i64 (((N 6 : Nat) : Int)), .int .i64 (((N 7 : Nat) : Int)), .int .i64 (((N 8 : Nat) : Int)), .int .i64 (((N 9 : Nat) : Int)), .int .i64 (((N 10 : Nat) : Int)), .int .i64 (((N 11 : Nat) : Int)), .int .i64 (((N 12 : Nat) : Int)), .int .i64 (((N 13 : Nat) : Int)), .int .i64 (((N 14 : Nat) : Int)), .int .i64 (((N 15 : Nat) : Int)), .int .i64 (((N 16 : Nat) : Int)), .int .i64 (((N 17 : Nat) : Int))] 105, blk g [u, .int .i64 (((most : Nat) : Int)), .int .i64 (fl), .bool (gone)] 138, row u 140 4 l.length (l.flatMap riV), rws 73 l], h.p w0) (hnd : (feet [blk p [.pointer (some ⟨g, 0, none⟩), .int .i64 (((most : Nat) : Int)), .int .i64 (((N 0 : Nat) : Int)), .int .i64 (((N 1 : Nat) : Int)), .int .i64 (((N 2 : Nat) : Int)), .int .i64 (((N 3 : Nat) : Int)), .int .i64 (((N 4 : Nat) : Int)), .int .i64 (((N 5 : Nat) : Int)), .int .i64 (((N 6 : Nat) : Int)), .int .i64 (((N 7 : Nat) : Int)), .int .i64 (((N 8 : Nat) : Int)), .int .i64 (((N 9 : Nat) : Int)), .int .i64 (((N 10 : Nat) : Int)), .int .i64 (((N 11 : Nat) : Int)), .int .i64 (((N 12 : Nat) : Int)), .int .i64 (((N 13 : Nat) : Int)), .int .i64 (((N 14 : Nat) : Int)), .int .i64 (((N 15 : Nat) : Int)), .int .i64 (((N 16 : Nat) : Int)), .int .i64 (((N 17 : Nat) : Int))] 105, blk g [u, .int .i64 (((most : Nat) : Int)), .int .i64 (fl), .bool (gone)] 138, row u 140 4 l.length (l.flatMap riV), rws 73 l]).Nodup) (ho : Oks (sns l) most) (hN : ∀ i, N i ≤ 1000000) (hb : Rd w0 (feet [blk p [.pointer (some ⟨g, 0, none⟩), .int .i64 (((most : Nat) : Int)), .int .i64 (((N 0 : Nat) : Int)), .int .i64 (((N 1 : Nat) : Int)), .int .i64 (((N 2 : Nat) : Int)), .int .i64 (((N 3 : Nat) : Int)), .int .i64 (((N 4 : Nat) : Int)), .int .i64 (((N 5 : Nat) : Int)), .int .i64 (((N 6 : Nat) : Int)), .int .i64 (((N 7 : Nat) : Int)), .int .i64 (((N 8 : Nat) : Int)), .int .i64 (((N 9 : Nat) : Int)), .int .i64 (((N 10 : Nat) : Int)), .int .i64 (((N 11 : Nat) : Int)), .int .i64 (((N 12 : Nat) : Int)), .int .i64 (((N 13 : Nat) : Int)), .int .i64 (((N 14 : Nat) : Int)), .int .i64 (((N 15 : Nat) : Int)), .int .i64 (((N 16 : Nat) : Int)), .int .i64 (((N 17 : Nat) : Int))] 105, blk g [u, .int .i64 (((most : Nat) : Int)), .int .i64 (fl), .bool (gone)] 138, row u 140 4 l.length (l.flatMap riV), rws 73 l]) v 1 m (bytesV bs)) : Calls Tryz.prog 27 #[.pointer (some ⟨p, 0, none⟩), v] w0 (Ret w0 (feet [blk p [.pointer (some ⟨g, 0, none⟩), .int .i64 (((most : Nat) : Int)), .int .i64 (((N 0 : Nat) : Int)), .int .i64 (((N 1 : Nat) : Int)), .int .i64 (((N 2 : Nat) : Int)), .int .i64 (((N 3 : Nat) : Int)), .int .i64 (((N 4 : Nat) : Int)), .int .i64 (((N 5 : Nat) : Int)), .int .i64 (((N 6 : Nat) : Int)), .int .i64 (((N 7 : Nat) : Int)), .int .i64 (((N 8 : Nat) : Int)), .int .i64 (((N 9 : Nat) : Int)), .int .i64 (((N 10 : Nat) : Int)), .int .i64 (((N 11 : Nat) : Int)), .int .i64 (((N 12 : Nat) : Int)), .int .i64 (((N 13 : Nat) : Int)), .int .i64 (((N 14 : Nat) : Int)), .int .i64 (((N 15 : Nat) : Int)), .int .i64 (((N 16 : Nat) : Int)), .int .i64 (((N 17 : Nat) : Int))] 105, blk g [u, .int .i64 (((most : Nat) : Int)), .int .i64 (fl), .bool (gone)] 138, row u 140 4 l.length (l.flatMap riV), rws 73 l]) fun z Nn => z = .tuple #[.int .i64 (accT (sns l) most fl gone (gRead bs)), .int .i64 (((accE (sns l) most fl gone (gRead bs)) : Nat) : Int)] ∧ ∃ (u' : Value) (l' : List RI), (accS most ⟨sns l, fl, gone, N⟩ (gRead bs)).l = sns l' ∧ Nn = [blk p [.pointer (some ⟨g, 0, none⟩), .int .i64 (((most : Nat) : Int)), .int .i64 (((((accS most ⟨sns l, fl, gone, N⟩ (gRead bs)).n) 0 : Nat) : Int)), .int .i64 (((((accS most ⟨sns l, fl, gone, N⟩ (gRead bs)).n) 1 : Nat) : Int)), .int .i64 (((((accS most ⟨sns l, fl, gone, N⟩ (gRead bs)).n) 2 : Nat) : Int)), .int .i64 (((((accS most ⟨sns l, fl, gone, N⟩ (gRead bs)).n) 3 : Nat) : Int)), .int .i64 (((((accS most ⟨sns l, fl, gone, N⟩ (gRead bs)).n) 4 : Nat) : Int)), .int .i64 (((((accS most ⟨sns l, fl, gone, N⟩ (gRead bs)).n) 5 : Nat) : Int)), .int .i64 (((((accS most ⟨sns l, fl, gone, N⟩ (gRead bs)).n) 6 : Nat) : Int)), .int .i64 (((((accS most ⟨sns l, fl, gone, N⟩ (gRead bs)).n) 7 : Nat) : Int)), .int .i64 (((((accS most ⟨sns l, fl, gone, N⟩ (gRead bs)).n) 8 : Nat) : Int)), .int .i64 (((((accS most ⟨sns l, fl, gone, N⟩ (gRead bs)).n) 9 : Nat) : Int)), .int .i64 (((((accS most ⟨sns l, fl, gone, N⟩ (gRead bs)).n) 10 : Nat) : Int)), .int .i64 (((((accS most ⟨sns l, fl, gone, N⟩ (gRead bs)).n) 11 : Nat) : Int)), .int .i64 (((((accS most ⟨sns l, fl, gone, N⟩ (gRead bs)).n) 12 : Nat) : Int)), .int .i64 (((((accS most ⟨sns l, fl, gone, N⟩ (gRead bs)).n) 13 : Nat) : Int)), .int .i64 (((((accS most ⟨sns l, fl, gone, N⟩ (gRead bs)).n) 14 : Nat) : Int)), .int .i64 (((((accS most ⟨sns l, fl, gone, N⟩ (gRead bs)).n) 15 : Nat) : Int)), .int .i64 (((((accS most ⟨sns l, fl, gone, N⟩ (gRead bs)).n) 16 : Nat) : Int)), .int .i64 (((((accS most ⟨sns l, fl, gone, N⟩ (gRead bs)).n) 17 : Nat) : Int))] 105, blk g [u', .int .i64 (((most : Nat) : Int)), .int .i64 ((accS most ⟨sns l, fl, gone, N⟩ (gRead bs)).floor), .bool ((accS most ⟨sns l, fl, gone, N⟩ (gRead bs)).gone)] 138, row u' 140 4 l'.length (l'.flatMap riV), rws 73 l']) := by
 have hbl : bs.length = m := by have := hb.len; simpa [bytesV] using this
 have hbe : m ≤ maxLen := hb.le
 simp only [maxLen] at hbe
 have hrw : (rws 73 l).p w0 := hM _ (by simp)
 have hiv := rws_isl hrw
 have hsr := ho.srt
 have hll : l.length ≤ most := by have := ho.le; rw [sns_len] at this; omega
 have hm64 := ho.m64
 have hm1 := ho.m1
 have he17 := accE_le (l := sns l) (most := most) (fl := fl) (gone := gone) (bs := bs)
 have hN0 := hN 0
 have hN1 := hN 1
 have hN2 := hN 2
 have hN3 := hN 3
 have hN4 := hN 4
 have hN5 := hN 5
 have hN6 := hN 6
 have hN7 := hN 7
 have hN8 := hN 8
 have hN9 := hN 9
 have hN10 := hN 10
 have hN11 := hN 11
 have hN12 := hN 12
 have hN13 := hN 13
 have hN14 := hN 14
 have hN15 := hN 15
 have hN16 := hN 16
 have hN17 := hN 17
 refine enterG (F0 := [(0, .pointer (some ⟨p, 0, none⟩)), (1, v)]) Tryz.func27 rfl rfl rfl (.c (.c .n)) (Mem.start hM rfl hnd) fun a w hs => ?_
 refine go 7 [] [12, 11, 0] hs .n ?_; clear hs w a; intro a w hs
 refine st_call hs (.c rfl (.c rfl .n)) Tryz.call55 .n (snap_ok p g _ l most fl gone N _ _ bs _ (hs.mem.del .z) (hs.mem.del (.s .z)) (rd_row (hs.mem.del (.s (.s .z)))) (hs.mem.del (.s (.s (.s .z)))) ho (hs.rd0 hb)) rfl ?_; clear hs w a; rintro _ _ a w ⟨X1, v2, rfl, hX3, rfl⟩ hs; simp only [List.cons_append, List.nil_append] at hs
 refine goL 4 [] [6, 15, 14, 0] hs .n (fun g4 => ?_); clear hs w a; intro a w hs
 refine st_stBA hs rfl rfl .z (.z (.c (.c (.c .n)))) (ones_c rfl (ones_c rfl (ones_c (rd_row (hs.mem.del (.s .z))).isSl.one ones_n))) Tryz.sizeOf24 rfl ?_; clear hs w a; intro a w hs
 refine goL 3 [] [17, 7, 6, 0] hs .n ?_; clear hs w a; intro a w hs
 refine ifG hs rfl (fun c_5 => ?_) (fun c_5 => ?_)
 ·
  replace c_5 := eq_of_beq c_5
  have h0 : (accE (sns l) most fl gone (gRead bs)) = 0 := by omega
  have hXe := hX3 h0; subst hXe
  have hlp := lay_pre h0; have hA0 := (accE_0 h0).2.2.2.2.1; have hAr := accA_rng hA0
  replace hs := hs.sub (F' := [(6, .pointer (some ⟨g4, 0, none⟩)), (0, .pointer (some ⟨p, 0, none⟩))]) (.c rfl (.c rfl .n))
  refine wp_drawGg (Γ := Value) (M0 := [blk g4 [.int .i64 ((accA (sns l) (gRead bs)).t), .int .i64 ((accA (sns l) (gRead bs)).tm), v2] 24, row v2 73 9 ((accA (sns l) (gRead bs)).l.length) (((accA (sns l) (gRead bs)).l.flatMap entV)), blk p [.pointer (some ⟨g, 0, none⟩), .int .i64 (((most : Nat) : Int)), .int .i64 (((N 0 : Nat) : Int)), .int .i64 (((N 1 : Nat) : Int)), .int .i64 (((N 2 : Nat) : Int)), .int .i64 (((N 3 : Nat) : Int)), .int .i64 (((N 4 : Nat) : Int)), .int .i64 (((N 5 : Nat) : Int)), .int .i64 (((N 6 : Nat) : Int)), .int .i64 (((N 7 : Nat) : Int)), .int .i64 (((N 8 : Nat) : Int)), .int .i64 (((N 9 : Nat) : Int)), .int .i64 (((N 10 : Nat) : Int)), .int .i64 (((N 11 : Nat) : Int)), .int .i64 (((N 12 : Nat) : Int)), .int .i64 (((N 13 : Nat) : Int)), .int .i64 (((N 14 : Nat) : Int)), .int .i64 (((N 15 : Nat) : Int)), .int .i64 (((N 16 : Nat) : Int)), .int .i64 (((N 17 : Nat) : Int))] 105, rws 73 l]) (Ds := fun gs => [Pv 0 (.pointer (some ⟨p, 0, none⟩)), Pv 1 (.pointer (some ⟨p, 0, none⟩)), Pv 2 (.pointer (some ⟨p, 0, none⟩)), Pv 3 (.pointer (some ⟨g, 0, none⟩)), Pv 4 (.pointer (some ⟨g4, 0, none⟩)), Pv 5 (.int .i64 ((accA (sns l) (gRead bs)).t)), Pv 6 (.agg #[.int .i64 ((accA (sns l) (gRead bs)).t), .int .i64 ((accA (sns l) (gRead bs)).tm), v2]), ⟨[], [], [], fun vs6 => vs6 7 = .agg #[.int .i64 ((accA (sns l) (gRead bs)).t), .int .i64 ((accA (sns l) (gRead bs)).tm), (aggG 2 (vs6 7))], fun vs6 => [row ((aggG 2 (vs6 7))) 73 9 (((accA (sns l) (gRead bs)).l).length) ((((accA (sns l) (gRead bs)).l).flatMap entV))], none⟩, ⟨[row u 140 4 l.length (l.flatMap riV), blk g [u, .int .i64 (((most : Nat) : Int)), .int .i64 (fl), .bool (gone)] 138], [], [7], fun vs6 => vs6 8 = .tuple #[.int .i64 (layP l most (⟨(accA (sns l) (gRead bs)).t, (accA (sns l) (gRead bs)).tm, ((accA (sns l) (gRead bs)).l), (aggG 2 (vs6 7))⟩ : RI)), .bool (layQ l most (⟨(accA (sns l) (gRead bs)).t, (accA (sns l) (gRead bs)).tm, ((accA (sns l) (gRead bs)).l), (aggG 2 (vs6 7))⟩ : RI)), .int .i64 (0)], fun vs6 => [blk g [(gs 8), .int .i64 (((most : Nat) : Int)), .int .i64 (layF l most fl (⟨(accA (sns l) (gRead bs)).t, (accA (sns l) (gRead bs)).tm, ((accA (sns l) (gRead bs)).l), (aggG 2 (vs6 7))⟩ : RI)), .bool (layG l most gone (⟨(accA (sns l) (gRead bs)).t, (accA (sns l) (gRead bs)).tm, ((accA (sns l) (gRead bs)).l), (aggG 2 (vs6 7))⟩ : RI))] 138, row (gs 8) 140 4 ((layL l most (⟨(accA (sns l) (gRead bs)).t, (accA (sns l) (gRead bs)).tm, ((accA (sns l) (gRead bs)).l), (aggG 2 (vs6 7))⟩ : RI)).length) (((layL l most (⟨(accA (sns l) (gRead bs)).t, (accA (sns l) (gRead bs)).tm, ((accA (sns l) (gRead bs)).l), (aggG 2 (vs6 7))⟩ : RI)).flatMap riV))], none⟩, ⟨[], [], [7], fun vs6 => vs6 9 = .tuple #[.int .i64 (layP l most (⟨(accA (sns l) (gRead bs)).t, (accA (sns l) (gRead bs)).tm, ((accA (sns l) (gRead bs)).l), (aggG 2 (vs6 7))⟩ : RI)), .bool (layQ l most (⟨(accA (sns l) (gRead bs)).t, (accA (sns l) (gRead bs)).tm, ((accA (sns l) (gRead bs)).l), (aggG 2 (vs6 7))⟩ : RI)), .int .i64 (0)], fun vs6 => [], none⟩, ⟨[], [], [7], fun vs6 => vs6 10 = .int .i64 (layP l most (⟨(accA (sns l) (gRead bs)).t, (accA (sns l) (gRead bs)).tm, ((accA (sns l) (gRead bs)).l), (aggG 2 (vs6 7))⟩ : RI)), fun vs6 => [], none⟩, ⟨[], [], [7], fun vs6 => vs6 11 = .bool (layQ l most (⟨(accA (sns l) (gRead bs)).t, (accA (sns l) (gRead bs)).tm, ((accA (sns l) (gRead bs)).l), (aggG 2 (vs6 7))⟩ : RI)), fun vs6 => [], none⟩, Pv 12 (.int .i64 (0)), Pv 13 (.int .i64 (0))]) [[], [], [], [], [], [], [], [], [8], [], [], [], [], []] ((.slice none 0 0 : Value)) (by kernel_rfl) hs rfl (.c (.s (.s (.s (.s .z)))) (.c (.s (.s (.s .z))) .n)) (by kernel_rfl) (fun _ => by kernel_rfl) (fun _ _ => rfl) (fun us_ us'_ => (.c (fun _ => rfl) (.c (fun _ => rfl) (.c (fun _ => rfl) (.c (fun _ => rfl) (.c (fun _ => rfl) (.c (fun _ => rfl) (.c (fun _ => rfl) (.c (fun _ => rfl) (.c (fun h => by have e8 := h 8 (by simp); simp only [e8]) (.c (fun _ => rfl) (.c (fun _ => rfl) (.c (fun _ => rfl) (.c (fun _ => rfl) (.c (fun _ => rfl) .n))))))))))))))) (by kernel_rfl) rfl (by kernel_rfl) (fun gs => ?_) ?_
  ·
   refine (.c ?_ (.c ?_ (.c ?_ (.c ?_ (.c ?_ (.c ?_ (.c ?_ (.c ?_ (.g ?_ (.c ?_ (.c ?_ (.c ?_ (.c ?_ (.c ?_ .n))))))))))))))
   · exact trip_pv (m := 14) .n (fun hm0 hm hx => .n) (by kernel_rfl) (by kernel_rfl) rfl
   · exact trip_pv (m := 14) (.c (k := 0) (by kernel_rfl) rfl rfl .n) (fun hm0 hm hx => .n) (by kernel_rfl) (by kernel_rfl) rfl
   · exact trip_pv (m := 14) (.c (k := 1) (by kernel_rfl) rfl rfl .n) (fun hm0 hm hx => .n) (by kernel_rfl) (by kernel_rfl) rfl
   · exact trip_pv (m := 14) (.c (k := 2) (by kernel_rfl) rfl rfl .n) (fun hm0 hm hx => (.c (hm0.del (.s (.s .z))))) (by kernel_rfl) (by kernel_rfl) rfl
   · exact trip_pv (m := 14) .n (fun hm0 hm hx => .n) (by kernel_rfl) (by kernel_rfl) rfl
   · exact trip_pv (m := 14) (.c (k := 4) (by kernel_rfl) rfl rfl .n) (fun hm0 hm hx => (.c (hm0.del .z))) (by kernel_rfl) (by kernel_rfl) rfl
   · exact trip_pv (m := 14) .n (fun hm0 hm hx => (.c (hm0.del .z))) (by kernel_rfl) (by kernel_rfl) rfl
   ·
    intro a_ w_ R_ rest_ vs6 hm hs ht hx
    have hm0 := hm.mid
    replace hs := hs.lrn (ht 6 (twB_spec 14 _ (by kernel_rfl))) rfl rfl
    have hs0 := hs.bare
    refine st_call hs (.c rfl .n) Tryz.call54 .n (own_ok ((accA (sns l) (gRead bs)).t) ((accA (sns l) (gRead bs)).tm) _ ((accA (sns l) (gRead bs)).l) _ (rd_row (hm0.del (.s .z))) (by omega)) rfl ?_; clear hs; rintro _ _ a w ⟨v7, rfl, rfl⟩ hs; simp only [List.cons_append, List.nil_append] at hs
    exact wpList_nil ⟨rfl, _, _, hs0, (.c .r), hs, rfl⟩
   ·
    intro a_ w_ R_ rest_ vs6 hm hs ht hx
    replace hs : St _ _ _ (feet [row u 140 4 l.length (l.flatMap riV), blk g [u, .int .i64 (((most : Nat) : Int)), .int .i64 (fl), .bool (gone)] 138]) [row u 140 4 l.length (l.flatMap riV), blk g [u, .int .i64 (((most : Nat) : Int)), .int .i64 (fl), .bool (gone)] 138] _ _ := hs
    have hm0 := hm.mid
    replace hs := hs.lrn (ht 3 (twB_spec 14 _ (by kernel_rfl))) rfl rfl
    replace hs := hs.lrn (ht 5 (twB_spec 14 _ (by kernel_rfl))) rfl rfl
    have t7 := ht 7 (twB_spec 14 _ (by kernel_rfl))
    have e7 : _ = some (vs6 7) := t7.val rfl
    rw [show vs6 7 = .agg #[.int .i64 ((accA (sns l) (gRead bs)).t), .int .i64 ((accA (sns l) (gRead bs)).tm), (aggG 2 (vs6 7))] from t7.2.1] at e7
    replace hs := hs.learn e7
    have hs0 := hs.bare
    refine st_call hs (.c rfl (.c rfl (.c rfl .n))) Tryz.call56 (.c .z (.c .z .n)) (ringlay_ok g u l most fl gone (⟨(accA (sns l) (gRead bs)).t, (accA (sns l) (gRead bs)).tm, ((accA (sns l) (gRead bs)).l), (aggG 2 (vs6 7))⟩ : RI) _ (hs.mem.del .z) (hs.mem.del (.s .z)) (hs.mem.ndX (.c .z (.c .z .n))) hsr hll hm64 hm1 hiv (rd_row (hm.own (List.mem_append.2 (.inr ((ht 7 (twB_spec 14 _ (by kernel_rfl))).2.2 (later (n := 14) (by kernel_rfl)) _ (List.Mem.head _)))))).isSl hlp.1 hlp.2.1 hlp.2.2) rfl ?_; clear hs; rintro _ _ a w ⟨v8, rfl, rfl⟩ hs; simp only [List.cons_append, List.nil_append] at hs
    exact wpList_nil ⟨rfl, (v8), _, _, hs0, (.c (.c (.c .r))), hs, rfl⟩
   ·
    intro a_ w_ R_ rest_ vs6 hm hs ht hx
    have hm0 := hm.mid
    have t8 := ht 8 (twB_spec 14 _ (by kernel_rfl))
    have e8 : _ = some (vs6 8) := t8.val rfl
    rw [show vs6 8 = .tuple #[.int .i64 (layP l most (⟨(accA (sns l) (gRead bs)).t, (accA (sns l) (gRead bs)).tm, ((accA (sns l) (gRead bs)).l), (aggG 2 (vs6 7))⟩ : RI)), .bool (layQ l most (⟨(accA (sns l) (gRead bs)).t, (accA (sns l) (gRead bs)).tm, ((accA (sns l) (gRead bs)).l), (aggG 2 (vs6 7))⟩ : RI)), .int .i64 (0)] from t8.2.1] at e8
    replace hs := hs.learn e8
    have hs0 := hs.bare
    refine st_mv hs rfl rfl ?_; clear hs; intro a w hs
    exact wpList_nil ⟨rfl, _, _, hs0, (.c .r), hs, rfl⟩
   ·
    intro a_ w_ R_ rest_ vs6 hm hs ht hx
    have hm0 := hm.mid
    have t9 := ht 9 (twB_spec 14 _ (by kernel_rfl))
    have e9 : _ = some (vs6 9) := t9.val rfl
    rw [show vs6 9 = .tuple #[.int .i64 (layP l most (⟨(accA (sns l) (gRead bs)).t, (accA (sns l) (gRead bs)).tm, ((accA (sns l) (gRead bs)).l), (aggG 2 (vs6 7))⟩ : RI)), .bool (layQ l most (⟨(accA (sns l) (gRead bs)).t, (accA (sns l) (gRead bs)).tm, ((accA (sns l) (gRead bs)).l), (aggG 2 (vs6 7))⟩ : RI)), .int .i64 (0)] from t9.2.1] at e9
    replace hs := hs.learn e9
    have hs0 := hs.bare
    refine st_ex hs rfl .z rfl ?_; clear hs; intro a w hs
    exact wpList_nil ⟨rfl, _, _, hs0, (.c .r), hs, rfl⟩
   ·
    intro a_ w_ R_ rest_ vs6 hm hs ht hx
    have hm0 := hm.mid
    have t9 := ht 9 (twB_spec 14 _ (by kernel_rfl))
    have e9 : _ = some (vs6 9) := t9.val rfl
    rw [show vs6 9 = .tuple #[.int .i64 (layP l most (⟨(accA (sns l) (gRead bs)).t, (accA (sns l) (gRead bs)).tm, ((accA (sns l) (gRead bs)).l), (aggG 2 (vs6 7))⟩ : RI)), .bool (layQ l most (⟨(accA (sns l) (gRead bs)).t, (accA (sns l) (gRead bs)).tm, ((accA (sns l) (gRead bs)).l), (aggG 2 (vs6 7))⟩ : RI)), .int .i64 (0)] from t9.2.1] at e9
    replace hs := hs.learn e9
    have hs0 := hs.bare
    refine st_ex hs rfl (.s .z) rfl ?_; clear hs; intro a w hs
    exact wpList_nil ⟨rfl, _, _, hs0, (.c .r), hs, rfl⟩
   ·
    intro a_ w_ R_ rest_ vs6 hm hs ht hx
    have hm0 := hm.mid
    have t9 := ht 9 (twB_spec 14 _ (by kernel_rfl))
    have e9 : _ = some (vs6 9) := t9.val rfl
    rw [show vs6 9 = .tuple #[.int .i64 (layP l most (⟨(accA (sns l) (gRead bs)).t, (accA (sns l) (gRead bs)).tm, ((accA (sns l) (gRead bs)).l), (aggG 2 (vs6 7))⟩ : RI)), .bool (layQ l most (⟨(accA (sns l) (gRead bs)).t, (accA (sns l) (gRead bs)).tm, ((accA (sns l) (gRead bs)).l), (aggG 2 (vs6 7))⟩ : RI)), .int .i64 (0)] from t9.2.1] at e9
    replace hs := hs.learn e9
    have hs0 := hs.bare
    refine st_ex hs rfl (.s (.s .z)) rfl ?_; clear hs; intro a w hs
    exact wpList_nil ⟨rfl, _, _, hs0, (.c .r), hs, rfl⟩
   exact trip_pv (m := 14) (.c (k := 12) (by kernel_rfl) rfl rfl .n) (fun hm0 hm hx => .n) (by kernel_rfl) (by kernel_rfl) rfl
  clear hs w a; intro a w vs6 gs hs hf
  replace hs : St _ _ _ _ [blk g4 [.int .i64 ((accA (sns l) (gRead bs)).t), .int .i64 ((accA (sns l) (gRead bs)).tm), v2] 24, row v2 73 9 ((accA (sns l) (gRead bs)).l.length) (((accA (sns l) (gRead bs)).l.flatMap entV)), blk p [.pointer (some ⟨g, 0, none⟩), .int .i64 (((most : Nat) : Int)), .int .i64 (((N 0 : Nat) : Int)), .int .i64 (((N 1 : Nat) : Int)), .int .i64 (((N 2 : Nat) : Int)), .int .i64 (((N 3 : Nat) : Int)), .int .i64 (((N 4 : Nat) : Int)), .int .i64 (((N 5 : Nat) : Int)), .int .i64 (((N 6 : Nat) : Int)), .int .i64 (((N 7 : Nat) : Int)), .int .i64 (((N 8 : Nat) : Int)), .int .i64 (((N 9 : Nat) : Int)), .int .i64 (((N 10 : Nat) : Int)), .int .i64 (((N 11 : Nat) : Int)), .int .i64 (((N 12 : Nat) : Int)), .int .i64 (((N 13 : Nat) : Int)), .int .i64 (((N 14 : Nat) : Int)), .int .i64 (((N 15 : Nat) : Int)), .int .i64 (((N 16 : Nat) : Int)), .int .i64 (((N 17 : Nat) : Int))] 105, rws 73 l, row ((aggG 2 (vs6 7))) 73 9 (((accA (sns l) (gRead bs)).l).length) ((((accA (sns l) (gRead bs)).l).flatMap entV)), blk g [(gs 8), .int .i64 (((most : Nat) : Int)), .int .i64 (layF l most fl (⟨(accA (sns l) (gRead bs)).t, (accA (sns l) (gRead bs)).tm, ((accA (sns l) (gRead bs)).l), (aggG 2 (vs6 7))⟩ : RI)), .bool (layG l most gone (⟨(accA (sns l) (gRead bs)).t, (accA (sns l) (gRead bs)).tm, ((accA (sns l) (gRead bs)).l), (aggG 2 (vs6 7))⟩ : RI))] 138, row (gs 8) 140 4 ((layL l most (⟨(accA (sns l) (gRead bs)).t, (accA (sns l) (gRead bs)).tm, ((accA (sns l) (gRead bs)).l), (aggG 2 (vs6 7))⟩ : RI)).length) (((layL l most (⟨(accA (sns l) (gRead bs)).t, (accA (sns l) (gRead bs)).tm, ((accA (sns l) (gRead bs)).l), (aggG 2 (vs6 7))⟩ : RI)).flatMap riV))] _ _ := hs
  obtain ⟨e13, q13⟩ := hf 13 (by decide)
  replace e13 : _ = some (vs6 13) := e13.val rfl
  rw [show vs6 13 = .int .i64 (0) from q13] at e13
  replace hs := hs.learn e13; clear e13 q13
  generalize (gs 8) = v9 at hs
  generalize aggG 2 (vs6 7) = v10 at hs
  clear hf
  refine goE 0 [] [7, 6, 0] hs .n ?_; clear hs w a; intro a w hs
  refine wp_drawS [.p [] [], .p [] [], .p [0] [], .p [2] [], .p [3, 1] [], .x [4] ⟨[], [], [], fun vs11 => vs11 5 = .int .i64 (((N 0 : Nat) : Int)), fun vs11 => [], none⟩, .x [] ⟨[], [], [], fun vs11 => vs11 6 = .int .i64 ((((N 0 : Nat) : Int)) + 1), fun vs11 => [], none⟩, .p [0] [], .p [7] [], .p [8, 1] [], .x [9] ⟨[blk p [.pointer (some ⟨g, 0, none⟩), .int .i64 (((most : Nat) : Int)), .int .i64 (((N 0 : Nat) : Int)), .int .i64 (((N 1 : Nat) : Int)), .int .i64 (((N 2 : Nat) : Int)), .int .i64 (((N 3 : Nat) : Int)), .int .i64 (((N 4 : Nat) : Int)), .int .i64 (((N 5 : Nat) : Int)), .int .i64 (((N 6 : Nat) : Int)), .int .i64 (((N 7 : Nat) : Int)), .int .i64 (((N 8 : Nat) : Int)), .int .i64 (((N 9 : Nat) : Int)), .int .i64 (((N 10 : Nat) : Int)), .int .i64 (((N 11 : Nat) : Int)), .int .i64 (((N 12 : Nat) : Int)), .int .i64 (((N 13 : Nat) : Int)), .int .i64 (((N 14 : Nat) : Int)), .int .i64 (((N 15 : Nat) : Int)), .int .i64 (((N 16 : Nat) : Int)), .int .i64 (((N 17 : Nat) : Int))] 105], [], [], fun vs11 => True, fun vs11 => [blk p [.pointer (some ⟨g, 0, none⟩), .int .i64 (((most : Nat) : Int)), .int .i64 ((((N 0 : Nat) : Int)) + 1), .int .i64 (((N 1 : Nat) : Int)), .int .i64 (((N 2 : Nat) : Int)), .int .i64 (((N 3 : Nat) : Int)), .int .i64 (((N 4 : Nat) : Int)), .int .i64 (((N 5 : Nat) : Int)), .int .i64 (((N 6 : Nat) : Int)), .int .i64 (((N 7 : Nat) : Int)), .int .i64 (((N 8 : Nat) : Int)), .int .i64 (((N 9 : Nat) : Int)), .int .i64 (((N 10 : Nat) : Int)), .int .i64 (((N 11 : Nat) : Int)), .int .i64 (((N 12 : Nat) : Int)), .int .i64 (((N 13 : Nat) : Int)), .int .i64 (((N 14 : Nat) : Int)), .int .i64 (((N 15 : Nat) : Int)), .int .i64 (((N 16 : Nat) : Int)), .int .i64 (((N 17 : Nat) : Int))] 105], none⟩] [] hs (.c (.s (.s .z)) .n) .n (by kernel_rfl) ⟨⟨rfl, by kernel_rfl, fun _ => rfl⟩, ⟨?_, ?_, ?_, trivial⟩, ?_⟩
  ·
   intro a_ w_ R_ rest_ vs11 hm hs ht hx
   have hs0 := hs.bare
   refine st_ldE hs rfl (hm.own (List.mem_append.2 (.inr ((hx 10 (twB_spec 11 _ (by kernel_rfl))).1 _ (List.Mem.head _))))) (.s (.s .z)) Tryz.isAgg3 rfl ?_; clear hs; intro a w hs
   exact wpList_nil ⟨rfl, _, _, hs0, (.c .r), hs, rfl⟩
  ·
   intro a_ w_ R_ rest_ vs11 hm hs ht hx
   have t5 := ht 5 (twB_spec 11 _ (by kernel_rfl))
   have e5 : _ = some (vs11 5) := t5.val rfl
   rw [show vs11 5 = .int .i64 (((N 0 : Nat) : Int)) from t5.2.1] at e5
   replace hs := hs.learn e5
   have hs0 := hs.bare
   refine st_addR hs rfl rfl (by have := hN (accE (sns l) most fl gone (gRead bs)); omega) rfl ?_; clear hs; intro a w hs
   exact wpList_nil ⟨rfl, _, _, hs0, (.c .r), hs, rfl⟩
  ·
   intro a_ w_ R_ rest_ vs11 hm hs ht hx
   have t6 := ht 6 (twB_spec 11 _ (by kernel_rfl))
   have e6 : _ = some (vs11 6) := t6.val rfl
   rw [show vs11 6 = .int .i64 ((((N 0 : Nat) : Int)) + 1) from t6.2.1] at e6
   replace hs := hs.learn e6
   have hs0 := hs.bare
   refine st_stB hs rfl rfl .z (.s (.s .z)) rfl Tryz.sizeOf3 ?_; clear hs; intro a w hs
   exact wpList_nil ⟨rfl, .tuple #[], _, hs0, (.c (.c .r)), hs, trivial⟩
  clear hs w a; intro vs11 a w hs hf
  clear hf
  refine goFE 6 2 [] [42, 7, 6] hs .n ?_; clear hs w a; intro a w hs
  refine go 5 [0] [5, 4] hs (.c .z .n) ⟨rfl, ?_⟩; clear hs w a; intro a w hs
  replace hs := hs.rwsLay (most := most) (x := (⟨(accA (sns l) (gRead bs)).t, (accA (sns l) (gRead bs)).tm, ((accA (sns l) (gRead bs)).l), v10⟩ : RI)) (.c (.s (.s .z)) (.c (.s (.s .z)) .n))
  replace hs := hs.drop (.c (.s (.s .z)) (.c (.s .z) .n))
  replace hs := hs.reorder (.c (.s (.s (.s .z))) (.c (.s .z) (.c (.s .z) (.c .z .n))))
  replace hs := hs.reblk .z (cs' := [.pointer (some ⟨g, 0, none⟩), .int .i64 (((most : Nat) : Int)), .int .i64 (((bump N 0 0 : Nat) : Int)), .int .i64 (((bump N 0 1 : Nat) : Int)), .int .i64 (((bump N 0 2 : Nat) : Int)), .int .i64 (((bump N 0 3 : Nat) : Int)), .int .i64 (((bump N 0 4 : Nat) : Int)), .int .i64 (((bump N 0 5 : Nat) : Int)), .int .i64 (((bump N 0 6 : Nat) : Int)), .int .i64 (((bump N 0 7 : Nat) : Int)), .int .i64 (((bump N 0 8 : Nat) : Int)), .int .i64 (((bump N 0 9 : Nat) : Int)), .int .i64 (((bump N 0 10 : Nat) : Int)), .int .i64 (((bump N 0 11 : Nat) : Int)), .int .i64 (((bump N 0 12 : Nat) : Int)), .int .i64 (((bump N 0 13 : Nat) : Int)), .int .i64 (((bump N 0 14 : Nat) : Int)), .int .i64 (((bump N 0 15 : Nat) : Int)), .int .i64 (((bump N 0 16 : Nat) : Int)), .int .i64 (((bump N 0 17 : Nat) : Int))]) rfl
  obtain ⟨hT_, hS_⟩ := acc_good (N := N) v10 h0
  exact fin2 hs rfl rfl rfl ⟨by rw [hT_, h0]; rfl, _, layL l most (⟨(accA (sns l) (gRead bs)).t, (accA (sns l) (gRead bs)).tm, ((accA (sns l) (gRead bs)).l), v10⟩ : RI), by rw [hS_], by rw [hS_]⟩
 replace c_5 := ne_of_beq_f c_5
 refine go 0 [] [7, 6, 0] hs .n ?_; clear hs w a; intro a w hs
 refine wp_drawS [.p [] [], .p [] [], .p [0] [], .p [2] [], .v [3, 1] (.pointer (some ⟨p, 2 + (accE (sns l) most fl gone (gRead bs)), none⟩)), .x [4] ⟨[], [], [], fun vs12 => vs12 5 = .int .i64 (((N (accE (sns l) most fl gone (gRead bs)) : Nat) : Int)), fun vs12 => [], none⟩, .x [] ⟨[], [], [], fun vs12 => vs12 6 = .int .i64 ((((N (accE (sns l) most fl gone (gRead bs)) : Nat) : Int)) + 1), fun vs12 => [], none⟩, .p [0] [], .p [7] [], .v [8, 1] (.pointer (some ⟨p, 2 + (accE (sns l) most fl gone (gRead bs)), none⟩)), .x [9] ⟨[blk p [.pointer (some ⟨g, 0, none⟩), .int .i64 (((most : Nat) : Int)), .int .i64 (((N 0 : Nat) : Int)), .int .i64 (((N 1 : Nat) : Int)), .int .i64 (((N 2 : Nat) : Int)), .int .i64 (((N 3 : Nat) : Int)), .int .i64 (((N 4 : Nat) : Int)), .int .i64 (((N 5 : Nat) : Int)), .int .i64 (((N 6 : Nat) : Int)), .int .i64 (((N 7 : Nat) : Int)), .int .i64 (((N 8 : Nat) : Int)), .int .i64 (((N 9 : Nat) : Int)), .int .i64 (((N 10 : Nat) : Int)), .int .i64 (((N 11 : Nat) : Int)), .int .i64 (((N 12 : Nat) : Int)), .int .i64 (((N 13 : Nat) : Int)), .int .i64 (((N 14 : Nat) : Int)), .int .i64 (((N 15 : Nat) : Int)), .int .i64 (((N 16 : Nat) : Int)), .int .i64 (((N 17 : Nat) : Int))] 105], [], [], fun vs12 => True, fun vs12 => [blk p [.pointer (some ⟨g, 0, none⟩), .int .i64 (((most : Nat) : Int)), .int .i64 (((bump N (accE (sns l) most fl gone (gRead bs)) 0 : Nat) : Int)), .int .i64 (((bump N (accE (sns l) most fl gone (gRead bs)) 1 : Nat) : Int)), .int .i64 (((bump N (accE (sns l) most fl gone (gRead bs)) 2 : Nat) : Int)), .int .i64 (((bump N (accE (sns l) most fl gone (gRead bs)) 3 : Nat) : Int)), .int .i64 (((bump N (accE (sns l) most fl gone (gRead bs)) 4 : Nat) : Int)), .int .i64 (((bump N (accE (sns l) most fl gone (gRead bs)) 5 : Nat) : Int)), .int .i64 (((bump N (accE (sns l) most fl gone (gRead bs)) 6 : Nat) : Int)), .int .i64 (((bump N (accE (sns l) most fl gone (gRead bs)) 7 : Nat) : Int)), .int .i64 (((bump N (accE (sns l) most fl gone (gRead bs)) 8 : Nat) : Int)), .int .i64 (((bump N (accE (sns l) most fl gone (gRead bs)) 9 : Nat) : Int)), .int .i64 (((bump N (accE (sns l) most fl gone (gRead bs)) 10 : Nat) : Int)), .int .i64 (((bump N (accE (sns l) most fl gone (gRead bs)) 11 : Nat) : Int)), .int .i64 (((bump N (accE (sns l) most fl gone (gRead bs)) 12 : Nat) : Int)), .int .i64 (((bump N (accE (sns l) most fl gone (gRead bs)) 13 : Nat) : Int)), .int .i64 (((bump N (accE (sns l) most fl gone (gRead bs)) 14 : Nat) : Int)), .int .i64 (((bump N (accE (sns l) most fl gone (gRead bs)) 15 : Nat) : Int)), .int .i64 (((bump N (accE (sns l) most fl gone (gRead bs)) 16 : Nat) : Int)), .int .i64 (((bump N (accE (sns l) most fl gone (gRead bs)) 17 : Nat) : Int))] 105], none⟩] [] hs (.c (.s (.s .z)) .n) .n (by kernel_rfl) ⟨?_, ?_, ⟨rfl, by kernel_rfl, fun _ => rfl⟩, ⟨?_, ?_, ?_, trivial⟩, ?_⟩
 ·
  intro a_ w_ R_ Q_ hm hs K_
  refine st_iaBn (j := accE (sns l) most fl gone (gRead bs)) hs rfl rfl Tryz.underlying64 (by omega) Tryz.sizeOf3 rfl ?_; clear hs; intro a w hs
  exact wpList_nil (K_ _ _ hs)
 ·
  intro a_ w_ R_ Q_ hm hs K_
  refine st_iaBn (j := accE (sns l) most fl gone (gRead bs)) hs rfl rfl Tryz.underlying64 (by omega) Tryz.sizeOf3 rfl ?_; clear hs; intro a w hs
  exact wpList_nil (K_ _ _ hs)
 ·
  intro a_ w_ R_ rest_ vs12 hm hs ht hx
  have hs0 := hs.bare
  refine st_ldEn hs rfl (hm.own (List.mem_append.2 (.inr ((hx 10 (twB_spec 11 _ (by kernel_rfl))).1 _ (List.Mem.head _))))) (cnt_get (by omega)) Tryz.isAgg3 rfl ?_; clear hs; intro a w hs
  exact wpList_nil ⟨rfl, _, _, hs0, (.c .r), hs, rfl⟩
 ·
  intro a_ w_ R_ rest_ vs12 hm hs ht hx
  have t5 := ht 5 (twB_spec 11 _ (by kernel_rfl))
  have e5 : _ = some (vs12 5) := t5.val rfl
  rw [show vs12 5 = .int .i64 (((N (accE (sns l) most fl gone (gRead bs)) : Nat) : Int)) from t5.2.1] at e5
  replace hs := hs.learn e5
  have hs0 := hs.bare
  refine st_addR hs rfl rfl (by have := hN (accE (sns l) most fl gone (gRead bs)); omega) rfl ?_; clear hs; intro a w hs
  exact wpList_nil ⟨rfl, _, _, hs0, (.c .r), hs, rfl⟩
 ·
  intro a_ w_ R_ rest_ vs12 hm hs ht hx
  have t6 := ht 6 (twB_spec 11 _ (by kernel_rfl))
  have e6 : _ = some (vs12 6) := t6.val rfl
  rw [show vs12 6 = .int .i64 ((((N (accE (sns l) most fl gone (gRead bs)) : Nat) : Int)) + 1) from t6.2.1] at e6
  replace hs := hs.learn e6
  have hs0 := hs.bare
  refine st_stBn (cs' := [.pointer (some ⟨g, 0, none⟩), .int .i64 (((most : Nat) : Int)), .int .i64 (((bump N (accE (sns l) most fl gone (gRead bs)) 0 : Nat) : Int)), .int .i64 (((bump N (accE (sns l) most fl gone (gRead bs)) 1 : Nat) : Int)), .int .i64 (((bump N (accE (sns l) most fl gone (gRead bs)) 2 : Nat) : Int)), .int .i64 (((bump N (accE (sns l) most fl gone (gRead bs)) 3 : Nat) : Int)), .int .i64 (((bump N (accE (sns l) most fl gone (gRead bs)) 4 : Nat) : Int)), .int .i64 (((bump N (accE (sns l) most fl gone (gRead bs)) 5 : Nat) : Int)), .int .i64 (((bump N (accE (sns l) most fl gone (gRead bs)) 6 : Nat) : Int)), .int .i64 (((bump N (accE (sns l) most fl gone (gRead bs)) 7 : Nat) : Int)), .int .i64 (((bump N (accE (sns l) most fl gone (gRead bs)) 8 : Nat) : Int)), .int .i64 (((bump N (accE (sns l) most fl gone (gRead bs)) 9 : Nat) : Int)), .int .i64 (((bump N (accE (sns l) most fl gone (gRead bs)) 10 : Nat) : Int)), .int .i64 (((bump N (accE (sns l) most fl gone (gRead bs)) 11 : Nat) : Int)), .int .i64 (((bump N (accE (sns l) most fl gone (gRead bs)) 12 : Nat) : Int)), .int .i64 (((bump N (accE (sns l) most fl gone (gRead bs)) 13 : Nat) : Int)), .int .i64 (((bump N (accE (sns l) most fl gone (gRead bs)) 14 : Nat) : Int)), .int .i64 (((bump N (accE (sns l) most fl gone (gRead bs)) 15 : Nat) : Int)), .int .i64 (((bump N (accE (sns l) most fl gone (gRead bs)) 16 : Nat) : Int)), .int .i64 (((bump N (accE (sns l) most fl gone (gRead bs)) 17 : Nat) : Int))]) hs rfl rfl .z (by show _ < 20; omega) (cnt_set (by omega)) rfl Tryz.sizeOf3 ?_; clear hs; intro a w hs
  exact wpList_nil ⟨rfl, .tuple #[], _, hs0, (.c (.c .r)), hs, trivial⟩
 clear hs w a; intro vs12 a w hs hf
 clear hf
 refine goFE 6 2 [] [42, 7, 6] hs .n ?_; clear hs w a; intro a w hs
 have hb_ : (!((((accE (sns l) most fl gone (gRead bs) : Nat) : Int) : Int) == 0)) = true := by rw [Bool.not_eq_true', beq_eq_false_iff_ne]; omega
 rw [hb_] at hs; clear hb_
 refine go 4 [] [5, 4] hs .n ?_; clear hs w a; intro a w hs
 replace hs := hs.drop (.c (.s .z) (.c .z .n))
 replace hs := hs.reorder (.c (.s (.s (.s .z))) (.c .z (.c .z (.c .z .n))))
 obtain ⟨hT_, hS_⟩ := acc_bad (N := N) (rfl : (accE (sns l) most fl gone (gRead bs)) = _) (by omega)
 exact fin2 hs rfl rfl rfl ⟨by rw [hT_], _, l, by rw [hS_], by rw [hS_]⟩
end Go.Proofs.YtbioemaipghagaaGreat
