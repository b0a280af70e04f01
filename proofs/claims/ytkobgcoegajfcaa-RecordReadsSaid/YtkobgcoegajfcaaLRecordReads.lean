/- Walks of RecordReads: what each function does, over the program of this seat. Printed by a program of this session. -/
import Derived.Test.YtkobgcoegajfcaaWrec2
import Derived.Test.YtkobgcoegajfcaaWrec3
import Derived.Test.YtkobgcoegajfcaaWrec5
import Derived.Test.YtkobgcoegajfcaaSxRrec
namespace Go.Proofs.Ytkobgcoegajfcaa
open Go Go.Sx Go.RowKit
set_option linter.unusedVariables false
set_option linter.unusedSimpArgs false
set_option maxRecDepth 4000
set_option maxHeartbeats 1000000

theorem recordReads_ok (v : Value) (m : Nat) (bs : List Byte) (last : Int) (w0 : World) (hb : Rd w0 [] v 1 m (bytesV bs)) (hl : -9223372036854775808 ≤ last ∧ last ≤ 9223372036854775807) : Calls Try.prog 5 #[v, .int .i64 last] w0 (RetV w0 (.bool true)) := by
  have hbl : bs.length = m := by have := hb.len; simpa [bytesV] using this
  have hbe : m ≤ maxLen := hb.le
  simp only [maxLen] at hbe
  refine enter (F0 := [(0, v), (1, .int .i64 (last))]) Try.func5 rfl rfl rfl (.c (.c .n)) (Mem.nil _) fun a w hs => ?_
  refine wp_seq_k fun K1 hK2 => ?_
  refine wp_region_lit ?_
  refine st_as hs rfl rfl ?_; clear hs w a; intro a w hs
  refine wpList_nil ?_
  refine then_n (hK2 _ _ ?_)
  refine wp_seq_k fun K3 hK4 => ?_
  refine wp_region_lit ?_
  refine st_mv hs rfl rfl ?_; clear hs w a; intro a w hs
  refine st_call hs (.c rfl .n) Try.call25 .n (new_ok _ _ bs _ (hs.rd0 hb)) rfl ?_; clear hs w a; rintro _ _ a w ⟨g5, rfl, rfl⟩ hs; simp only [List.cons_append, List.nil_append] at hs
  have hleg5 : (⟨0, 0⟩ : Rs).p ≤ bs.length := Nat.zero_le _
  refine st_as hs rfl rfl ?_; clear hs w a; intro a w hs
  refine wpList_nil ?_
  refine then_n (hK4 _ _ ?_)
  refine wp_seq_k fun K6 hK7 => ?_
  refine wp_seq_k fun K8 hK9 => ?_
  refine wp_region_lit ?_
  refine st_callP (v := .bool (true)) hs .n Try.call20 (alive08_ok _) rfl ?_; clear hs w a; intro a w hs
  refine st_not hs rfl rfl ?_; clear hs w a; intro a w hs
  refine st_mv hs rfl rfl ?_; clear hs w a; intro a w hs
  refine st_part (b := !(true)) (fun hc10 => ?_) (fun hc10 => ?_)
  ·
   rw [hc10] at hs
   replace hc10 := not_t hc10
   refine st_guardF hs rfl rfl rfl rfl rfl ?_; clear hs w a; intro a w hs
   refine st_guardF hs rfl rfl rfl rfl rfl ?_; clear hs w a; intro a w hs
   refine st_pickT hs rfl rfl rfl ?_; clear hs w a; intro a w hs
   refine st_mv hs rfl rfl ?_; clear hs w a; intro a w hs
   refine st_guardF hs rfl rfl rfl rfl rfl ?_; clear hs w a; intro a w hs
   refine st_guardF hs rfl rfl rfl rfl rfl ?_; clear hs w a; intro a w hs
   refine st_guardF hs rfl rfl rfl rfl rfl ?_; clear hs w a; intro a w hs
   refine st_pickT hs rfl rfl rfl ?_; clear hs w a; intro a w hs
   refine wpList_nil ?_
   refine then_n (hK9 _ _ ?_)
   refine wp_cond_true (hs.ev rfl) ?_
   refine wp_seq_k fun K11 hK12 => ?_
   refine wp_region_lit ?_
   refine st_callP (v := .bool (true)) hs .n Try.call20 (alive08_ok _) rfl ?_; clear hs w a; intro a w hs
   refine st_as hs rfl rfl ?_; clear hs w a; intro a w hs
   refine wpList_nil ?_
   refine then_n (hK12 _ _ ?_)
   refine wp_ret ?_
   refine th_r ?_
   replace hs := hs.drop (.c .z .n)
   exact fin hs rfl rfl ⟨rfl, rfl⟩
  rw [hc10] at hs
  replace hc10 := not_f hc10
  refine st_guardT hs rfl rfl rfl ?_
  refine st_mv hs rfl rfl ?_; clear hs w a; intro a w hs
  refine st_guardT hs rfl rfl rfl ?_
  refine st_eqnil hs rfl rfl Try.underlying40 rfl ?_; clear hs w a; intro a w hs
  refine st_pickF hs rfl rfl rfl ?_; clear hs w a; intro a w hs
  refine st_mv hs rfl rfl ?_; clear hs w a; intro a w hs
  refine st_guardT hs rfl rfl rfl ?_
  refine st_mv hs rfl rfl ?_; clear hs w a; intro a w hs
  refine st_guardT hs rfl rfl rfl ?_
  refine st_len hs rfl (hs.rd0 hb).isSl Try.underlying26 rfl ?_; clear hs w a; intro a w hs
  refine st_guardT hs rfl rfl rfl ?_
  refine st_gtr hs rfl rfl rfl ?_; clear hs w a; intro a w hs
  refine st_pickF hs rfl rfl rfl ?_; clear hs w a; intro a w hs
  refine wpList_nil ?_
  refine then_n (hK9 _ _ ?_)
  refine wp_if hs rfl (fun hc13 => ?_) (fun hc13 => ?_)
  ·
   replace hc13 := of_decide_eq_true hc13
   refine wp_seq_k fun K14 hK15 => ?_
   refine wp_region_lit ?_
   refine st_callP (v := .bool (true)) hs .n Try.call20 (alive08_ok _) rfl ?_; clear hs w a; intro a w hs
   refine st_as hs rfl rfl ?_; clear hs w a; intro a w hs
   refine wpList_nil ?_
   refine then_n (hK15 _ _ ?_)
   refine wp_ret ?_
   refine th_r ?_
   replace hs := hs.drop (.c .z .n)
   exact fin hs rfl rfl ⟨rfl, rfl⟩
  replace hc13 := of_decide_eq_false hc13
  refine wp_skip ?_
  refine then_n (hK7 _ _ ?_)
  refine wp_seq_k fun K16 hK17 => ?_
  refine wp_region_lit ?_
  refine st_mv hs rfl rfl ?_; clear hs w a; intro a w hs
  refine st_build (it := Try.t44) (zs := [.slice none 0 0, .int .i64 (0), .int .i64 (0)]) (places := [(0, 1), (1, 1), (2, 1)]) hs (.c rfl .n) Try.underlying44 rfl rfl rfl rfl (.c rfl (hs.rd0 hb).isSl.lcells (.z (.c .n)) .n) rfl ?_; clear hs w a; intro a w hs
  refine st_box (cs := [v, .int .i64 (0), .int .i64 (0)]) hs rfl rfl rfl ?_; clear hs w a; intro g18 a w hs
  replace hs := hs.reblk .z (cs' := [(id v), .int .i64 ((((⟨0, 0⟩ : Rs).p : Nat) : Int)), .int .i64 ((((⟨0, 0⟩ : Rs).e : Nat) : Int))]) rfl
  have hz0 : (⟨0, 0⟩ : Rs).p ≤ bs.length := Nat.zero_le _
  have hid_ : ∀ w' T, Rd w' T v 1 m (bytesV bs) → Rd w' T (id v) 1 (bs.length - (⟨0, 0⟩ : Rs).p) (bytesV (bs.drop (⟨0, 0⟩ : Rs).p)) := fun w' T h => by simpa [hbl] using h
  refine st_as hs rfl rfl ?_; clear hs w a; intro a w hs
  refine wpList_nil ?_
  refine then_n (hK17 _ _ ?_)
  refine wp_seq_k fun K19 hK20 => ?_
  refine wp_region_lit ?_
  refine st_mv hs rfl rfl ?_; clear hs w a; intro a w hs
  refine st_mv hs rfl rfl ?_; clear hs w a; intro a w hs
  refine st_call hs (.c rfl (.c rfl .n)) Try.call26 (.c (.s .z) .n) (read_ok g5 _ _ bs (⟨0, 0⟩ : Rs) last _ (hs.mem.rd1 hb (.c (.s .z) .n)) (hs.mem.del (.s .z)) (by omega) (by omega)) rfl ?_; clear hs w a; rintro _ _ a w ⟨rfl, rfl⟩ hs; simp only [List.cons_append, List.nil_append] at hs
  have hk21 := rdRec_le (bs := bs) (last := last) (R := (⟨0, 0⟩ : Rs)) (by omega)
  refine st_mv hs rfl rfl ?_; clear hs w a; intro a w hs
  refine st_ex hs rfl .z rfl ?_; clear hs w a; intro a w hs
  refine st_ex hs rfl (.s .z) rfl ?_; clear hs w a; intro a w hs
  refine st_alloc (cs := [.int .i64 (0), .int .i64 (0), .int .i64 (0), .int .i64 (0), .int .i64 (0), .int .i64 (0), .int .i64 (0), .int .i64 (0), .int .u16 (0)]) hs Try.zeroValue25 rfl rfl ?_; clear hs w a; intro g22 a w hs
  refine st_stBA hs rfl rfl .z (.z (.c (.c (.c (.c (.c (.c (.c (.c (.c .n)))))))))) (ones_c rfl (ones_c rfl (ones_c rfl (ones_c rfl (ones_c rfl (ones_c rfl (ones_c rfl (ones_c rfl (ones_c rfl ones_n))))))))) Try.sizeOf25 rfl ?_; clear hs w a; intro a w hs
  refine st_as hs rfl rfl ?_; clear hs w a; intro a w hs
  refine wpList_nil ?_
  refine then_n (hK20 _ _ ?_)
  refine wp_seq_k fun K23 hK24 => ?_
  refine wp_region_lit ?_
  refine st_mv hs rfl rfl ?_; clear hs w a; intro a w hs
  refine st_mv hs rfl rfl ?_; clear hs w a; intro a w hs
  refine st_call hs (.c rfl (.c rfl .n)) Try.call27 (.c (.s (.s .z)) .n) (mread_ok g18 _ bs (⟨0, 0⟩ : Rs) last _ (hid_ _ _ (hs.mem.rd1 hb (.c (.s (.s .z)) .n))) (hs.mem.del (.s (.s .z))) (by omega) (by simp only [maxLen]; omega) (by omega)) rfl ?_; clear hs w a; rintro _ _ a w ⟨u25, rfl, rfl, ht26⟩ hs; simp only [List.cons_append, List.nil_append] at hs
  have hk27 := rdRec_le (bs := bs) (last := last) (R := (⟨0, 0⟩ : Rs)) (by omega)
  refine st_mv hs rfl rfl ?_; clear hs w a; intro a w hs
  refine st_ex hs rfl .z rfl ?_; clear hs w a; intro a w hs
  refine st_ex hs rfl (.s .z) rfl ?_; clear hs w a; intro a w hs
  refine st_alloc (cs := [.int .i64 (0), .int .i64 (0), .int .i64 (0), .int .i64 (0), .int .i64 (0), .int .i64 (0), .int .i64 (0), .int .i64 (0), .int .u16 (0)]) hs Try.zeroValue25 rfl rfl ?_; clear hs w a; intro g28 a w hs
  refine st_stBA hs rfl rfl .z (.z (.c (.c (.c (.c (.c (.c (.c (.c (.c .n)))))))))) (ones_c rfl (ones_c rfl (ones_c rfl (ones_c rfl (ones_c rfl (ones_c rfl (ones_c rfl (ones_c rfl (ones_c rfl ones_n))))))))) Try.sizeOf25 rfl ?_; clear hs w a; intro a w hs
  refine st_as hs rfl rfl ?_; clear hs w a; intro a w hs
  refine wpList_nil ?_
  refine then_n (hK24 _ _ ?_)
  refine wp_seq_k fun K29 hK30 => ?_
  refine wp_seq_k fun K31 hK32 => ?_
  refine wp_region_lit ?_
  refine st_mv hs rfl rfl ?_; clear hs w a; intro a w hs
  refine st_callP (v := .tuple #[.agg #[.int .i64 (0), .int .i64 (0), .int .i64 (0), .int .i64 (0), .int .i64 (0), .int .i64 (0), .int .i64 (0), .int .i64 (0), .int .u16 (0)], .int .i64 (1)]) hs (.c rfl (.c rfl .n)) Try.call26 (read_ok_nil last _) rfl ?_; clear hs w a; intro a w hs
  refine st_mv hs rfl rfl ?_; clear hs w a; intro a w hs
  refine st_ex hs rfl .z rfl ?_; clear hs w a; intro a w hs
  refine st_ex hs rfl (.s .z) rfl ?_; clear hs w a; intro a w hs
  refine st_alloc (cs := [.int .i64 (0), .int .i64 (0), .int .i64 (0), .int .i64 (0), .int .i64 (0), .int .i64 (0), .int .i64 (0), .int .i64 (0), .int .u16 (0)]) hs Try.zeroValue25 rfl rfl ?_; clear hs w a; intro g33 a w hs
  refine st_stBA hs rfl rfl .z (.z (.c (.c (.c (.c (.c (.c (.c (.c (.c .n)))))))))) (ones_c rfl (ones_c rfl (ones_c rfl (ones_c rfl (ones_c rfl (ones_c rfl (ones_c rfl (ones_c rfl (ones_c rfl ones_n))))))))) Try.sizeOf25 rfl ?_; clear hs w a; intro a w hs
  refine st_as hs rfl rfl ?_; clear hs w a; intro a w hs
  refine wpList_nil ?_
  refine then_n (hK32 _ _ ?_)
  refine wp_seq_k fun K34 hK35 => ?_
  refine wp_region_lit ?_
  refine st_mv hs rfl rfl ?_; clear hs w a; intro a w hs
  refine st_neq hs rfl rfl rfl ?_; clear hs w a; intro a w hs
  rw [show (!((1 : Int) == 1)) = false from by decide] at hs
  refine wpList_nil ?_
  refine then_n (hK35 _ _ ?_)
  refine wp_cond_false (hs.ev rfl) ?_
  refine wp_skip ?_
  refine then_n (hK30 _ _ ?_)
  refine wp_seq_k fun K36 hK37 => ?_
  replace hs := hs.sub (F' := [(10, .int .i64 ((((rdRec bs last (⟨0, 0⟩ : Rs)).2.1 : Nat) : Int))), (9, .pointer (some ⟨g28, 0, none⟩)), (8, .int .i64 ((((rdRec bs last (⟨0, 0⟩ : Rs)).2.1 : Nat) : Int))), (7, .pointer (some ⟨g22, 0, none⟩)), (6, .pointer (some ⟨g18, 0, none⟩)), (5, .pointer (some ⟨g5, 0, none⟩))]) (.c rfl (.c rfl (.c rfl (.c rfl (.c rfl (.c rfl .n))))))
  refine wp_drawG (M0 := [blk g33 [.int .i64 (0), .int .i64 (0), .int .i64 (0), .int .i64 (0), .int .i64 (0), .int .i64 (0), .int .i64 (0), .int .i64 (0), .int .u16 (0)] 25, blk g28 [.int .i64 (((rdRec bs last (⟨0, 0⟩ : Rs)).1).k), .int .i64 (((rdRec bs last (⟨0, 0⟩ : Rs)).1).id), .int .i64 (((rdRec bs last (⟨0, 0⟩ : Rs)).1).p0), .int .i64 (((rdRec bs last (⟨0, 0⟩ : Rs)).1).p1), .int .i64 (((rdRec bs last (⟨0, 0⟩ : Rs)).1).p2), .int .i64 (((rdRec bs last (⟨0, 0⟩ : Rs)).1).v0), .int .i64 (((rdRec bs last (⟨0, 0⟩ : Rs)).1).v1), .int .i64 (((rdRec bs last (⟨0, 0⟩ : Rs)).1).v2), .int .u16 ((((((rdRec bs last (⟨0, 0⟩ : Rs)).1).a).toNat : Nat) : Int))] 25, blk g18 [u25, .int .i64 (((((rdRec bs last (⟨0, 0⟩ : Rs)).2.2).p : Nat) : Int)), .int .i64 (((((rdRec bs last (⟨0, 0⟩ : Rs)).2.2).e : Nat) : Int))] 44, blk g22 [.int .i64 (((rdRec bs last (⟨0, 0⟩ : Rs)).1).k), .int .i64 (((rdRec bs last (⟨0, 0⟩ : Rs)).1).id), .int .i64 (((rdRec bs last (⟨0, 0⟩ : Rs)).1).p0), .int .i64 (((rdRec bs last (⟨0, 0⟩ : Rs)).1).p1), .int .i64 (((rdRec bs last (⟨0, 0⟩ : Rs)).1).p2), .int .i64 (((rdRec bs last (⟨0, 0⟩ : Rs)).1).v0), .int .i64 (((rdRec bs last (⟨0, 0⟩ : Rs)).1).v1), .int .i64 (((rdRec bs last (⟨0, 0⟩ : Rs)).1).v2), .int .u16 ((((((rdRec bs last (⟨0, 0⟩ : Rs)).1).a).toNat : Nat) : Int))] 25, blk g5 [v, .int .i64 (((((rdRec bs last (⟨0, 0⟩ : Rs)).2.2).p : Nat) : Int)), .int .i64 (((((rdRec bs last (⟨0, 0⟩ : Rs)).2.2).e : Nat) : Int))] 100]) (Ds := [⟨[], [], [], fun vs38 => vs38 0 = .agg #[.int .i64 (((rdRec bs last (⟨0, 0⟩ : Rs)).1).k), .int .i64 (((rdRec bs last (⟨0, 0⟩ : Rs)).1).id), .int .i64 (((rdRec bs last (⟨0, 0⟩ : Rs)).1).p0), .int .i64 (((rdRec bs last (⟨0, 0⟩ : Rs)).1).p1), .int .i64 (((rdRec bs last (⟨0, 0⟩ : Rs)).1).p2), .int .i64 (((rdRec bs last (⟨0, 0⟩ : Rs)).1).v0), .int .i64 (((rdRec bs last (⟨0, 0⟩ : Rs)).1).v1), .int .i64 (((rdRec bs last (⟨0, 0⟩ : Rs)).1).v2), .int .u16 ((((((rdRec bs last (⟨0, 0⟩ : Rs)).1).a).toNat : Nat) : Int))], fun vs38 => []⟩, ⟨[], [], [], fun vs38 => vs38 1 = .agg #[.int .i64 (((rdRec bs last (⟨0, 0⟩ : Rs)).1).k), .int .i64 (((rdRec bs last (⟨0, 0⟩ : Rs)).1).id), .int .i64 (((rdRec bs last (⟨0, 0⟩ : Rs)).1).p0), .int .i64 (((rdRec bs last (⟨0, 0⟩ : Rs)).1).p1), .int .i64 (((rdRec bs last (⟨0, 0⟩ : Rs)).1).p2), .int .i64 (((rdRec bs last (⟨0, 0⟩ : Rs)).1).v0), .int .i64 (((rdRec bs last (⟨0, 0⟩ : Rs)).1).v1), .int .i64 (((rdRec bs last (⟨0, 0⟩ : Rs)).1).v2), .int .u16 ((((((rdRec bs last (⟨0, 0⟩ : Rs)).1).a).toNat : Nat) : Int))], fun vs38 => []⟩, ⟨[], [], [], fun vs38 => vs38 2 = .bool (true), fun vs38 => []⟩, ⟨[], [], [], fun vs38 => vs38 3 = .bool (true), fun vs38 => []⟩, ⟨[], [], [], fun vs38 => vs38 4 = .int .i64 ((((rdRec bs last (⟨0, 0⟩ : Rs)).2.1 : Nat) : Int)), fun vs38 => []⟩, ⟨[], [], [], fun vs38 => vs38 5 = .int .i64 ((((rdRec bs last (⟨0, 0⟩ : Rs)).2.1 : Nat) : Int)), fun vs38 => []⟩, ⟨[], [], [], fun vs38 => vs38 6 = .bool (true), fun vs38 => []⟩, ⟨[], [], [], fun vs38 => vs38 7 = .bool (true), fun vs38 => []⟩, ⟨[], [], [], fun vs38 => vs38 8 = .bool (true), fun vs38 => []⟩, ⟨[], [], [], fun vs38 => vs38 9 = .pointer (some ⟨g5, 0, none⟩), fun vs38 => []⟩, ⟨[], [], [], fun vs38 => vs38 10 = .int .i64 ((((((rdRec bs last (⟨0, 0⟩ : Rs)).2.2)).e : Nat) : Int)), fun vs38 => []⟩, ⟨[], [], [], fun vs38 => vs38 11 = .pointer (some ⟨g18, 0, none⟩), fun vs38 => []⟩, ⟨[], [], [], fun vs38 => vs38 12 = .pointer (some ⟨g18, 0, none⟩), fun vs38 => []⟩, ⟨[], [], [], fun vs38 => vs38 13 = .pointer (some ⟨g18, 2, none⟩), fun vs38 => []⟩, ⟨[], [], [], fun vs38 => vs38 14 = .int .i64 (((((rdRec bs last (⟨0, 0⟩ : Rs)).2.2).e : Nat) : Int)), fun vs38 => []⟩, ⟨[], [], [], fun vs38 => vs38 15 = .bool (true), fun vs38 => []⟩, ⟨[], [], [], fun vs38 => vs38 16 = .bool (true), fun vs38 => []⟩, ⟨[], [], [], fun vs38 => vs38 17 = .bool (true), fun vs38 => []⟩, ⟨[], [], [], fun vs38 => vs38 18 = .pointer (some ⟨g5, 0, none⟩), fun vs38 => []⟩, ⟨[], [], [], fun vs38 => vs38 19 = .int .i64 ((((((rdRec bs last (⟨0, 0⟩ : Rs)).2.2)).p : Nat) : Int)), fun vs38 => []⟩, ⟨[], [], [], fun vs38 => vs38 20 = .pointer (some ⟨g18, 0, none⟩), fun vs38 => []⟩, ⟨[], [], [], fun vs38 => vs38 21 = .pointer (some ⟨g18, 0, none⟩), fun vs38 => []⟩, ⟨[], [], [], fun vs38 => vs38 22 = .pointer (some ⟨g18, 1, none⟩), fun vs38 => []⟩, ⟨[], [], [], fun vs38 => vs38 23 = .int .i64 (((((rdRec bs last (⟨0, 0⟩ : Rs)).2.2).p : Nat) : Int)), fun vs38 => []⟩, ⟨[], [], [], fun vs38 => vs38 24 = .bool (true), fun vs38 => []⟩, ⟨[], [], [], fun vs38 => vs38 25 = .bool (true), fun vs38 => []⟩, ⟨[], [], [], fun vs38 => vs38 26 = .bool (true), fun vs38 => []⟩]) (by kernel_rfl) hs rfl .n (by kernel_rfl) (by kernel_rfl) ?_ ?_
  ·
   refine (.c ?_ (.c ?_ (.c ?_ (.c ?_ (.c ?_ (.c ?_ (.c ?_ (.c ?_ (.c ?_ (.c ?_ (.c ?_ (.c ?_ (.c ?_ (.c ?_ (.c ?_ (.c ?_ (.c ?_ (.c ?_ (.c ?_ (.c ?_ (.c ?_ (.c ?_ (.c ?_ (.c ?_ (.c ?_ (.c ?_ (.c ?_ .n)))))))))))))))))))))))))))
   ·
    intro a_ w_ R_ rest_ vs38 hm hs ht hx
    replace hs : St _ _ _ (feet []) [] _ _ := hs
    have hm0 := hm.mid
    have hs0 := hs.bare
    refine st_ldEA hs rfl (hm0.del (.s (.s (.s .z)))) (.z (.c (.c (.c (.c (.c (.c (.c (.c (.c .n)))))))))) Try.isAgg25 Try.sizeOf25 rfl ?_; clear hs; intro a w hs
    exact wpList_nil ⟨rfl, _, _, hs0, .r, hs, rfl⟩
   ·
    intro a_ w_ R_ rest_ vs38 hm hs ht hx
    replace hs : St _ _ _ (feet []) [] _ _ := hs
    have hm0 := hm.mid
    have hs0 := hs.bare
    refine st_ldEA hs rfl (hm0.del (.s .z)) (.z (.c (.c (.c (.c (.c (.c (.c (.c (.c .n)))))))))) Try.isAgg25 Try.sizeOf25 rfl ?_; clear hs; intro a w hs
    exact wpList_nil ⟨rfl, _, _, hs0, .r, hs, rfl⟩
   ·
    intro a_ w_ R_ rest_ vs38 hm hs ht hx
    replace hs : St _ _ _ (feet []) [] _ _ := hs
    have hm0 := hm.mid
    have t0 := ht 0 (twB_spec 27 _ (by kernel_rfl))
    have e0 : _ = some (vs38 0) := t0.val rfl
    rw [show vs38 0 = .agg #[.int .i64 (((rdRec bs last (⟨0, 0⟩ : Rs)).1).k), .int .i64 (((rdRec bs last (⟨0, 0⟩ : Rs)).1).id), .int .i64 (((rdRec bs last (⟨0, 0⟩ : Rs)).1).p0), .int .i64 (((rdRec bs last (⟨0, 0⟩ : Rs)).1).p1), .int .i64 (((rdRec bs last (⟨0, 0⟩ : Rs)).1).p2), .int .i64 (((rdRec bs last (⟨0, 0⟩ : Rs)).1).v0), .int .i64 (((rdRec bs last (⟨0, 0⟩ : Rs)).1).v1), .int .i64 (((rdRec bs last (⟨0, 0⟩ : Rs)).1).v2), .int .u16 ((((((rdRec bs last (⟨0, 0⟩ : Rs)).1).a).toNat : Nat) : Int))] from t0.2.1] at e0
    replace hs := hs.learn e0
    have t1 := ht 1 (twB_spec 27 _ (by kernel_rfl))
    have e1 : _ = some (vs38 1) := t1.val rfl
    rw [show vs38 1 = .agg #[.int .i64 (((rdRec bs last (⟨0, 0⟩ : Rs)).1).k), .int .i64 (((rdRec bs last (⟨0, 0⟩ : Rs)).1).id), .int .i64 (((rdRec bs last (⟨0, 0⟩ : Rs)).1).p0), .int .i64 (((rdRec bs last (⟨0, 0⟩ : Rs)).1).p1), .int .i64 (((rdRec bs last (⟨0, 0⟩ : Rs)).1).p2), .int .i64 (((rdRec bs last (⟨0, 0⟩ : Rs)).1).v0), .int .i64 (((rdRec bs last (⟨0, 0⟩ : Rs)).1).v1), .int .i64 (((rdRec bs last (⟨0, 0⟩ : Rs)).1).v2), .int .u16 ((((((rdRec bs last (⟨0, 0⟩ : Rs)).1).a).toNat : Nat) : Int))] from t1.2.1] at e1
    replace hs := hs.learn e1
    have hs0 := hs.bare
    refine st_eqF (xs := [.int .i64 (((rdRec bs last (⟨0, 0⟩ : Rs)).1).k), .int .i64 (((rdRec bs last (⟨0, 0⟩ : Rs)).1).id), .int .i64 (((rdRec bs last (⟨0, 0⟩ : Rs)).1).p0), .int .i64 (((rdRec bs last (⟨0, 0⟩ : Rs)).1).p1), .int .i64 (((rdRec bs last (⟨0, 0⟩ : Rs)).1).p2), .int .i64 (((rdRec bs last (⟨0, 0⟩ : Rs)).1).v0), .int .i64 (((rdRec bs last (⟨0, 0⟩ : Rs)).1).v1), .int .i64 (((rdRec bs last (⟨0, 0⟩ : Rs)).1).v2), .int .u16 ((((((rdRec bs last (⟨0, 0⟩ : Rs)).1).a).toNat : Nat) : Int))]) (ys := [.int .i64 (((rdRec bs last (⟨0, 0⟩ : Rs)).1).k), .int .i64 (((rdRec bs last (⟨0, 0⟩ : Rs)).1).id), .int .i64 (((rdRec bs last (⟨0, 0⟩ : Rs)).1).p0), .int .i64 (((rdRec bs last (⟨0, 0⟩ : Rs)).1).p1), .int .i64 (((rdRec bs last (⟨0, 0⟩ : Rs)).1).p2), .int .i64 (((rdRec bs last (⟨0, 0⟩ : Rs)).1).v0), .int .i64 (((rdRec bs last (⟨0, 0⟩ : Rs)).1).v1), .int .i64 (((rdRec bs last (⟨0, 0⟩ : Rs)).1).v2), .int .u16 ((((((rdRec bs last (⟨0, 0⟩ : Rs)).1).a).toNat : Nat) : Int))]) (ks := [.i .i64, .i .i64, .i .i64, .i .i64, .i .i64, .i .i64, .i .i64, .i .i64, .i .u16]) 6 hs rfl rfl (by kernel_rfl) (by kernel_rfl) (by kernel_rfl) (by decide) (.i (.i (.i (.i (.i (.i (.i (.i (.i .n))))))))) (.i (.i (.i (.i (.i (.i (.i (.i (.i .n))))))))) rfl ?_; clear hs; intro a w hs
    have hb_ : (eqCells [.int .i64 (((rdRec bs last (⟨0, 0⟩ : Rs)).1).k), .int .i64 (((rdRec bs last (⟨0, 0⟩ : Rs)).1).id), .int .i64 (((rdRec bs last (⟨0, 0⟩ : Rs)).1).p0), .int .i64 (((rdRec bs last (⟨0, 0⟩ : Rs)).1).p1), .int .i64 (((rdRec bs last (⟨0, 0⟩ : Rs)).1).p2), .int .i64 (((rdRec bs last (⟨0, 0⟩ : Rs)).1).v0), .int .i64 (((rdRec bs last (⟨0, 0⟩ : Rs)).1).v1), .int .i64 (((rdRec bs last (⟨0, 0⟩ : Rs)).1).v2), .int .u16 ((((((rdRec bs last (⟨0, 0⟩ : Rs)).1).a).toNat : Nat) : Int))] [.int .i64 (((rdRec bs last (⟨0, 0⟩ : Rs)).1).k), .int .i64 (((rdRec bs last (⟨0, 0⟩ : Rs)).1).id), .int .i64 (((rdRec bs last (⟨0, 0⟩ : Rs)).1).p0), .int .i64 (((rdRec bs last (⟨0, 0⟩ : Rs)).1).p1), .int .i64 (((rdRec bs last (⟨0, 0⟩ : Rs)).1).p2), .int .i64 (((rdRec bs last (⟨0, 0⟩ : Rs)).1).v0), .int .i64 (((rdRec bs last (⟨0, 0⟩ : Rs)).1).v1), .int .i64 (((rdRec bs last (⟨0, 0⟩ : Rs)).1).v2), .int .u16 ((((((rdRec bs last (⟨0, 0⟩ : Rs)).1).a).toNat : Nat) : Int))]) = true := recV_refl (rdRec bs last (⟨0, 0⟩ : Rs)).1
    rw [hb_] at hs; clear hb_
    exact wpList_nil ⟨rfl, _, _, hs0, (.c (.c .r)), hs, rfl⟩
   ·
    intro a_ w_ R_ rest_ vs38 hm hs ht hx
    replace hs : St _ _ _ (feet []) [] _ _ := hs
    have hm0 := hm.mid
    have t2 := ht 2 (twB_spec 27 _ (by kernel_rfl))
    have e2 : _ = some (vs38 2) := t2.val rfl
    rw [show vs38 2 = .bool (true) from t2.2.1] at e2
    replace hs := hs.learn e2
    have hs0 := hs.bare
    refine st_mv hs rfl rfl ?_; clear hs; intro a w hs
    exact wpList_nil ⟨rfl, _, _, hs0, (.c .r), hs, rfl⟩
   ·
    intro a_ w_ R_ rest_ vs38 hm hs ht hx
    replace hs : St _ _ _ (feet []) [] _ _ := hs
    have hm0 := hm.mid
    have t3 := ht 3 (twB_spec 27 _ (by kernel_rfl))
    have e3 : _ = some (vs38 3) := t3.val rfl
    rw [show vs38 3 = .bool (true) from t3.2.1] at e3
    replace hs := hs.learn e3
    have hs0 := hs.bare
    refine st_guardT hs rfl rfl rfl ?_
    refine st_mv hs rfl rfl ?_; clear hs; intro a w hs
    exact wpList_nil ⟨rfl, _, _, hs0, (.c .r), hs, rfl⟩
   ·
    intro a_ w_ R_ rest_ vs38 hm hs ht hx
    replace hs : St _ _ _ (feet []) [] _ _ := hs
    have hm0 := hm.mid
    have t3 := ht 3 (twB_spec 27 _ (by kernel_rfl))
    have e3 : _ = some (vs38 3) := t3.val rfl
    rw [show vs38 3 = .bool (true) from t3.2.1] at e3
    replace hs := hs.learn e3
    have hs0 := hs.bare
    refine st_guardT hs rfl rfl rfl ?_
    refine st_mv hs rfl rfl ?_; clear hs; intro a w hs
    exact wpList_nil ⟨rfl, _, _, hs0, (.c .r), hs, rfl⟩
   ·
    intro a_ w_ R_ rest_ vs38 hm hs ht hx
    replace hs : St _ _ _ (feet []) [] _ _ := hs
    have hm0 := hm.mid
    have t3 := ht 3 (twB_spec 27 _ (by kernel_rfl))
    have e3 : _ = some (vs38 3) := t3.val rfl
    rw [show vs38 3 = .bool (true) from t3.2.1] at e3
    replace hs := hs.learn e3
    have t4 := ht 4 (twB_spec 27 _ (by kernel_rfl))
    have e4 : _ = some (vs38 4) := t4.val rfl
    rw [show vs38 4 = .int .i64 ((((rdRec bs last (⟨0, 0⟩ : Rs)).2.1 : Nat) : Int)) from t4.2.1] at e4
    replace hs := hs.learn e4
    have t5 := ht 5 (twB_spec 27 _ (by kernel_rfl))
    have e5 : _ = some (vs38 5) := t5.val rfl
    rw [show vs38 5 = .int .i64 ((((rdRec bs last (⟨0, 0⟩ : Rs)).2.1 : Nat) : Int)) from t5.2.1] at e5
    replace hs := hs.learn e5
    have hs0 := hs.bare
    refine st_guardT hs rfl rfl rfl ?_
    refine st_eql hs rfl rfl rfl ?_; clear hs; intro a w hs
    have hb_ : (((((rdRec bs last (⟨0, 0⟩ : Rs)).2.1 : Nat) : Int) : Int) == ((((rdRec bs last (⟨0, 0⟩ : Rs)).2.1 : Nat) : Int))) = true := beq_self_eq_true _
    rw [hb_] at hs; clear hb_
    exact wpList_nil ⟨rfl, _, _, hs0, (.c (.c (.c .r))), hs, rfl⟩
   ·
    intro a_ w_ R_ rest_ vs38 hm hs ht hx
    replace hs : St _ _ _ (feet []) [] _ _ := hs
    have hm0 := hm.mid
    have t3 := ht 3 (twB_spec 27 _ (by kernel_rfl))
    have e3 : _ = some (vs38 3) := t3.val rfl
    rw [show vs38 3 = .bool (true) from t3.2.1] at e3
    replace hs := hs.learn e3
    have t6 := ht 6 (twB_spec 27 _ (by kernel_rfl))
    have e6 : _ = some (vs38 6) := t6.val rfl
    rw [show vs38 6 = .bool (true) from t6.2.1] at e6
    replace hs := hs.learn e6
    have hs0 := hs.bare
    refine st_pickT hs rfl rfl rfl ?_; clear hs; intro a w hs
    exact wpList_nil ⟨rfl, _, _, hs0, (.c (.c .r)), hs, rfl⟩
   ·
    intro a_ w_ R_ rest_ vs38 hm hs ht hx
    replace hs : St _ _ _ (feet []) [] _ _ := hs
    have hm0 := hm.mid
    have t7 := ht 7 (twB_spec 27 _ (by kernel_rfl))
    have e7 : _ = some (vs38 7) := t7.val rfl
    rw [show vs38 7 = .bool (true) from t7.2.1] at e7
    replace hs := hs.learn e7
    have hs0 := hs.bare
    refine st_mv hs rfl rfl ?_; clear hs; intro a w hs
    exact wpList_nil ⟨rfl, _, _, hs0, (.c .r), hs, rfl⟩
   ·
    intro a_ w_ R_ rest_ vs38 hm hs ht hx
    replace hs : St _ _ _ (feet []) [] _ _ := hs
    have hm0 := hm.mid
    have t8 := ht 8 (twB_spec 27 _ (by kernel_rfl))
    have e8 : _ = some (vs38 8) := t8.val rfl
    rw [show vs38 8 = .bool (true) from t8.2.1] at e8
    replace hs := hs.learn e8
    have hs0 := hs.bare
    refine st_guardT hs rfl rfl rfl ?_
    refine st_mv hs rfl rfl ?_; clear hs; intro a w hs
    exact wpList_nil ⟨rfl, _, _, hs0, (.c .r), hs, rfl⟩
   ·
    intro a_ w_ R_ rest_ vs38 hm hs ht hx
    replace hs : St _ _ _ (feet []) [] _ _ := hs
    have hm0 := hm.mid
    have t8 := ht 8 (twB_spec 27 _ (by kernel_rfl))
    have e8 : _ = some (vs38 8) := t8.val rfl
    rw [show vs38 8 = .bool (true) from t8.2.1] at e8
    replace hs := hs.learn e8
    have t9 := ht 9 (twB_spec 27 _ (by kernel_rfl))
    have e9 : _ = some (vs38 9) := t9.val rfl
    rw [show vs38 9 = .pointer (some ⟨g5, 0, none⟩) from t9.2.1] at e9
    replace hs := hs.learn e9
    have hs0 := hs.bare
    refine st_guardT hs rfl rfl rfl ?_
    refine st_callP (v := .int .i64 ((((((rdRec bs last (⟨0, 0⟩ : Rs)).2.2)).e : Nat) : Int))) hs (.c rfl .n) Try.call28 (rerr_ok g5 _ _ bs (((rdRec bs last (⟨0, 0⟩ : Rs)).2.2)) _ (hm.rd0 hb) (hm0.del (.s (.s (.s (.s .z))))) (by omega)) rfl ?_; clear hs; intro a w hs
    exact wpList_nil ⟨rfl, _, _, hs0, (.c (.c .r)), hs, rfl⟩
   ·
    intro a_ w_ R_ rest_ vs38 hm hs ht hx
    replace hs : St _ _ _ (feet []) [] _ _ := hs
    have hm0 := hm.mid
    have t8 := ht 8 (twB_spec 27 _ (by kernel_rfl))
    have e8 : _ = some (vs38 8) := t8.val rfl
    rw [show vs38 8 = .bool (true) from t8.2.1] at e8
    replace hs := hs.learn e8
    have hs0 := hs.bare
    refine st_guardT hs rfl rfl rfl ?_
    refine st_mv hs rfl rfl ?_; clear hs; intro a w hs
    exact wpList_nil ⟨rfl, _, _, hs0, (.c .r), hs, rfl⟩
   ·
    intro a_ w_ R_ rest_ vs38 hm hs ht hx
    replace hs : St _ _ _ (feet []) [] _ _ := hs
    have hm0 := hm.mid
    have t8 := ht 8 (twB_spec 27 _ (by kernel_rfl))
    have e8 : _ = some (vs38 8) := t8.val rfl
    rw [show vs38 8 = .bool (true) from t8.2.1] at e8
    replace hs := hs.learn e8
    have t11 := ht 11 (twB_spec 27 _ (by kernel_rfl))
    have e11 : _ = some (vs38 11) := t11.val rfl
    rw [show vs38 11 = .pointer (some ⟨g18, 0, none⟩) from t11.2.1] at e11
    replace hs := hs.learn e11
    have hs0 := hs.bare
    refine st_guardT hs rfl rfl rfl ?_
    refine st_nc hs rfl rfl ?_; clear hs; intro a w hs
    exact wpList_nil ⟨rfl, _, _, hs0, (.c (.c .r)), hs, rfl⟩
   ·
    intro a_ w_ R_ rest_ vs38 hm hs ht hx
    replace hs : St _ _ _ (feet []) [] _ _ := hs
    have hm0 := hm.mid
    have t8 := ht 8 (twB_spec 27 _ (by kernel_rfl))
    have e8 : _ = some (vs38 8) := t8.val rfl
    rw [show vs38 8 = .bool (true) from t8.2.1] at e8
    replace hs := hs.learn e8
    have t12 := ht 12 (twB_spec 27 _ (by kernel_rfl))
    have e12 : _ = some (vs38 12) := t12.val rfl
    rw [show vs38 12 = .pointer (some ⟨g18, 0, none⟩) from t12.2.1] at e12
    replace hs := hs.learn e12
    have hs0 := hs.bare
    refine st_guardT hs rfl rfl rfl ?_
    refine st_fa hs rfl Try.underlying44 rfl Try.sizeOf3 (by decide) (o := 2) rfl rfl ?_; clear hs; intro a w hs
    exact wpList_nil ⟨rfl, _, _, hs0, (.c (.c .r)), hs, rfl⟩
   ·
    intro a_ w_ R_ rest_ vs38 hm hs ht hx
    replace hs : St _ _ _ (feet []) [] _ _ := hs
    have hm0 := hm.mid
    have t8 := ht 8 (twB_spec 27 _ (by kernel_rfl))
    have e8 : _ = some (vs38 8) := t8.val rfl
    rw [show vs38 8 = .bool (true) from t8.2.1] at e8
    replace hs := hs.learn e8
    have t13 := ht 13 (twB_spec 27 _ (by kernel_rfl))
    have e13 : _ = some (vs38 13) := t13.val rfl
    rw [show vs38 13 = .pointer (some ⟨g18, 2, none⟩) from t13.2.1] at e13
    replace hs := hs.learn e13
    have hs0 := hs.bare
    refine st_guardT hs rfl rfl rfl ?_
    refine st_ldE hs rfl (hm0.del (.s (.s .z))) (.s (.s .z)) Try.isAgg3 rfl ?_; clear hs; intro a w hs
    exact wpList_nil ⟨rfl, _, _, hs0, (.c (.c .r)), hs, rfl⟩
   ·
    intro a_ w_ R_ rest_ vs38 hm hs ht hx
    replace hs : St _ _ _ (feet []) [] _ _ := hs
    have hm0 := hm.mid
    have t8 := ht 8 (twB_spec 27 _ (by kernel_rfl))
    have e8 : _ = some (vs38 8) := t8.val rfl
    rw [show vs38 8 = .bool (true) from t8.2.1] at e8
    replace hs := hs.learn e8
    have t10 := ht 10 (twB_spec 27 _ (by kernel_rfl))
    have e10 : _ = some (vs38 10) := t10.val rfl
    rw [show vs38 10 = .int .i64 ((((((rdRec bs last (⟨0, 0⟩ : Rs)).2.2)).e : Nat) : Int)) from t10.2.1] at e10
    replace hs := hs.learn e10
    have t14 := ht 14 (twB_spec 27 _ (by kernel_rfl))
    have e14 : _ = some (vs38 14) := t14.val rfl
    rw [show vs38 14 = .int .i64 (((((rdRec bs last (⟨0, 0⟩ : Rs)).2.2).e : Nat) : Int)) from t14.2.1] at e14
    replace hs := hs.learn e14
    have hs0 := hs.bare
    refine st_guardT hs rfl rfl rfl ?_
    refine st_eql hs rfl rfl rfl ?_; clear hs; intro a w hs
    have hb_ : (((((((rdRec bs last (⟨0, 0⟩ : Rs)).2.2)).e : Nat) : Int) : Int) == (((((rdRec bs last (⟨0, 0⟩ : Rs)).2.2).e : Nat) : Int))) = true := beq_self_eq_true _
    rw [hb_] at hs; clear hb_
    exact wpList_nil ⟨rfl, _, _, hs0, (.c (.c (.c .r))), hs, rfl⟩
   ·
    intro a_ w_ R_ rest_ vs38 hm hs ht hx
    replace hs : St _ _ _ (feet []) [] _ _ := hs
    have hm0 := hm.mid
    have t8 := ht 8 (twB_spec 27 _ (by kernel_rfl))
    have e8 : _ = some (vs38 8) := t8.val rfl
    rw [show vs38 8 = .bool (true) from t8.2.1] at e8
    replace hs := hs.learn e8
    have t15 := ht 15 (twB_spec 27 _ (by kernel_rfl))
    have e15 : _ = some (vs38 15) := t15.val rfl
    rw [show vs38 15 = .bool (true) from t15.2.1] at e15
    replace hs := hs.learn e15
    have hs0 := hs.bare
    refine st_pickT hs rfl rfl rfl ?_; clear hs; intro a w hs
    exact wpList_nil ⟨rfl, _, _, hs0, (.c (.c .r)), hs, rfl⟩
   ·
    intro a_ w_ R_ rest_ vs38 hm hs ht hx
    replace hs : St _ _ _ (feet []) [] _ _ := hs
    have hm0 := hm.mid
    have t16 := ht 16 (twB_spec 27 _ (by kernel_rfl))
    have e16 : _ = some (vs38 16) := t16.val rfl
    rw [show vs38 16 = .bool (true) from t16.2.1] at e16
    replace hs := hs.learn e16
    have hs0 := hs.bare
    refine st_mv hs rfl rfl ?_; clear hs; intro a w hs
    exact wpList_nil ⟨rfl, _, _, hs0, (.c .r), hs, rfl⟩
   ·
    intro a_ w_ R_ rest_ vs38 hm hs ht hx
    replace hs : St _ _ _ (feet []) [] _ _ := hs
    have hm0 := hm.mid
    have t17 := ht 17 (twB_spec 27 _ (by kernel_rfl))
    have e17 : _ = some (vs38 17) := t17.val rfl
    rw [show vs38 17 = .bool (true) from t17.2.1] at e17
    replace hs := hs.learn e17
    have hs0 := hs.bare
    refine st_guardT hs rfl rfl rfl ?_
    refine st_mv hs rfl rfl ?_; clear hs; intro a w hs
    exact wpList_nil ⟨rfl, _, _, hs0, (.c .r), hs, rfl⟩
   ·
    intro a_ w_ R_ rest_ vs38 hm hs ht hx
    replace hs : St _ _ _ (feet []) [] _ _ := hs
    have hm0 := hm.mid
    have t17 := ht 17 (twB_spec 27 _ (by kernel_rfl))
    have e17 : _ = some (vs38 17) := t17.val rfl
    rw [show vs38 17 = .bool (true) from t17.2.1] at e17
    replace hs := hs.learn e17
    have t18 := ht 18 (twB_spec 27 _ (by kernel_rfl))
    have e18 : _ = some (vs38 18) := t18.val rfl
    rw [show vs38 18 = .pointer (some ⟨g5, 0, none⟩) from t18.2.1] at e18
    replace hs := hs.learn e18
    have hs0 := hs.bare
    refine st_guardT hs rfl rfl rfl ?_
    refine st_callP (v := .int .i64 ((((((rdRec bs last (⟨0, 0⟩ : Rs)).2.2)).p : Nat) : Int))) hs (.c rfl .n) Try.call29 (rat_ok g5 _ _ bs (((rdRec bs last (⟨0, 0⟩ : Rs)).2.2)) _ (hm.rd0 hb) (hm0.del (.s (.s (.s (.s .z))))) (by omega)) rfl ?_; clear hs; intro a w hs
    exact wpList_nil ⟨rfl, _, _, hs0, (.c (.c .r)), hs, rfl⟩
   ·
    intro a_ w_ R_ rest_ vs38 hm hs ht hx
    replace hs : St _ _ _ (feet []) [] _ _ := hs
    have hm0 := hm.mid
    have t17 := ht 17 (twB_spec 27 _ (by kernel_rfl))
    have e17 : _ = some (vs38 17) := t17.val rfl
    rw [show vs38 17 = .bool (true) from t17.2.1] at e17
    replace hs := hs.learn e17
    have hs0 := hs.bare
    refine st_guardT hs rfl rfl rfl ?_
    refine st_mv hs rfl rfl ?_; clear hs; intro a w hs
    exact wpList_nil ⟨rfl, _, _, hs0, (.c .r), hs, rfl⟩
   ·
    intro a_ w_ R_ rest_ vs38 hm hs ht hx
    replace hs : St _ _ _ (feet []) [] _ _ := hs
    have hm0 := hm.mid
    have t17 := ht 17 (twB_spec 27 _ (by kernel_rfl))
    have e17 : _ = some (vs38 17) := t17.val rfl
    rw [show vs38 17 = .bool (true) from t17.2.1] at e17
    replace hs := hs.learn e17
    have t20 := ht 20 (twB_spec 27 _ (by kernel_rfl))
    have e20 : _ = some (vs38 20) := t20.val rfl
    rw [show vs38 20 = .pointer (some ⟨g18, 0, none⟩) from t20.2.1] at e20
    replace hs := hs.learn e20
    have hs0 := hs.bare
    refine st_guardT hs rfl rfl rfl ?_
    refine st_nc hs rfl rfl ?_; clear hs; intro a w hs
    exact wpList_nil ⟨rfl, _, _, hs0, (.c (.c .r)), hs, rfl⟩
   ·
    intro a_ w_ R_ rest_ vs38 hm hs ht hx
    replace hs : St _ _ _ (feet []) [] _ _ := hs
    have hm0 := hm.mid
    have t17 := ht 17 (twB_spec 27 _ (by kernel_rfl))
    have e17 : _ = some (vs38 17) := t17.val rfl
    rw [show vs38 17 = .bool (true) from t17.2.1] at e17
    replace hs := hs.learn e17
    have t21 := ht 21 (twB_spec 27 _ (by kernel_rfl))
    have e21 : _ = some (vs38 21) := t21.val rfl
    rw [show vs38 21 = .pointer (some ⟨g18, 0, none⟩) from t21.2.1] at e21
    replace hs := hs.learn e21
    have hs0 := hs.bare
    refine st_guardT hs rfl rfl rfl ?_
    refine st_fa hs rfl Try.underlying44 rfl Try.sizeOf3 (by decide) (o := 1) rfl rfl ?_; clear hs; intro a w hs
    exact wpList_nil ⟨rfl, _, _, hs0, (.c (.c .r)), hs, rfl⟩
   ·
    intro a_ w_ R_ rest_ vs38 hm hs ht hx
    replace hs : St _ _ _ (feet []) [] _ _ := hs
    have hm0 := hm.mid
    have t17 := ht 17 (twB_spec 27 _ (by kernel_rfl))
    have e17 : _ = some (vs38 17) := t17.val rfl
    rw [show vs38 17 = .bool (true) from t17.2.1] at e17
    replace hs := hs.learn e17
    have t22 := ht 22 (twB_spec 27 _ (by kernel_rfl))
    have e22 : _ = some (vs38 22) := t22.val rfl
    rw [show vs38 22 = .pointer (some ⟨g18, 1, none⟩) from t22.2.1] at e22
    replace hs := hs.learn e22
    have hs0 := hs.bare
    refine st_guardT hs rfl rfl rfl ?_
    refine st_ldE hs rfl (hm0.del (.s (.s .z))) (.s .z) Try.isAgg3 rfl ?_; clear hs; intro a w hs
    exact wpList_nil ⟨rfl, _, _, hs0, (.c (.c .r)), hs, rfl⟩
   ·
    intro a_ w_ R_ rest_ vs38 hm hs ht hx
    replace hs : St _ _ _ (feet []) [] _ _ := hs
    have hm0 := hm.mid
    have t17 := ht 17 (twB_spec 27 _ (by kernel_rfl))
    have e17 : _ = some (vs38 17) := t17.val rfl
    rw [show vs38 17 = .bool (true) from t17.2.1] at e17
    replace hs := hs.learn e17
    have t19 := ht 19 (twB_spec 27 _ (by kernel_rfl))
    have e19 : _ = some (vs38 19) := t19.val rfl
    rw [show vs38 19 = .int .i64 ((((((rdRec bs last (⟨0, 0⟩ : Rs)).2.2)).p : Nat) : Int)) from t19.2.1] at e19
    replace hs := hs.learn e19
    have t23 := ht 23 (twB_spec 27 _ (by kernel_rfl))
    have e23 : _ = some (vs38 23) := t23.val rfl
    rw [show vs38 23 = .int .i64 (((((rdRec bs last (⟨0, 0⟩ : Rs)).2.2).p : Nat) : Int)) from t23.2.1] at e23
    replace hs := hs.learn e23
    have hs0 := hs.bare
    refine st_guardT hs rfl rfl rfl ?_
    refine st_eql hs rfl rfl rfl ?_; clear hs; intro a w hs
    have hb_ : (((((((rdRec bs last (⟨0, 0⟩ : Rs)).2.2)).p : Nat) : Int) : Int) == (((((rdRec bs last (⟨0, 0⟩ : Rs)).2.2).p : Nat) : Int))) = true := beq_self_eq_true _
    rw [hb_] at hs; clear hb_
    exact wpList_nil ⟨rfl, _, _, hs0, (.c (.c (.c .r))), hs, rfl⟩
   ·
    intro a_ w_ R_ rest_ vs38 hm hs ht hx
    replace hs : St _ _ _ (feet []) [] _ _ := hs
    have hm0 := hm.mid
    have t17 := ht 17 (twB_spec 27 _ (by kernel_rfl))
    have e17 : _ = some (vs38 17) := t17.val rfl
    rw [show vs38 17 = .bool (true) from t17.2.1] at e17
    replace hs := hs.learn e17
    have t24 := ht 24 (twB_spec 27 _ (by kernel_rfl))
    have e24 : _ = some (vs38 24) := t24.val rfl
    rw [show vs38 24 = .bool (true) from t24.2.1] at e24
    replace hs := hs.learn e24
    have hs0 := hs.bare
    refine st_pickT hs rfl rfl rfl ?_; clear hs; intro a w hs
    exact wpList_nil ⟨rfl, _, _, hs0, (.c (.c .r)), hs, rfl⟩
   intro a_ w_ R_ rest_ vs38 hm hs ht hx
   replace hs : St _ _ _ (feet []) [] _ _ := hs
   have hm0 := hm.mid
   have t25 := ht 25 (twB_spec 27 _ (by kernel_rfl))
   have e25 : _ = some (vs38 25) := t25.val rfl
   rw [show vs38 25 = .bool (true) from t25.2.1] at e25
   replace hs := hs.learn e25
   have hs0 := hs.bare
   refine st_as hs rfl rfl ?_; clear hs; intro a w hs
   exact wpList_nil ⟨rfl, _, _, hs0, (.c .r), hs, rfl⟩
  clear hs w a; intro a w vs38 hs hf
  replace hs : St _ _ _ _ [blk g33 [.int .i64 (0), .int .i64 (0), .int .i64 (0), .int .i64 (0), .int .i64 (0), .int .i64 (0), .int .i64 (0), .int .i64 (0), .int .u16 (0)] 25, blk g28 [.int .i64 (((rdRec bs last (⟨0, 0⟩ : Rs)).1).k), .int .i64 (((rdRec bs last (⟨0, 0⟩ : Rs)).1).id), .int .i64 (((rdRec bs last (⟨0, 0⟩ : Rs)).1).p0), .int .i64 (((rdRec bs last (⟨0, 0⟩ : Rs)).1).p1), .int .i64 (((rdRec bs last (⟨0, 0⟩ : Rs)).1).p2), .int .i64 (((rdRec bs last (⟨0, 0⟩ : Rs)).1).v0), .int .i64 (((rdRec bs last (⟨0, 0⟩ : Rs)).1).v1), .int .i64 (((rdRec bs last (⟨0, 0⟩ : Rs)).1).v2), .int .u16 ((((((rdRec bs last (⟨0, 0⟩ : Rs)).1).a).toNat : Nat) : Int))] 25, blk g18 [u25, .int .i64 (((((rdRec bs last (⟨0, 0⟩ : Rs)).2.2).p : Nat) : Int)), .int .i64 (((((rdRec bs last (⟨0, 0⟩ : Rs)).2.2).e : Nat) : Int))] 44, blk g22 [.int .i64 (((rdRec bs last (⟨0, 0⟩ : Rs)).1).k), .int .i64 (((rdRec bs last (⟨0, 0⟩ : Rs)).1).id), .int .i64 (((rdRec bs last (⟨0, 0⟩ : Rs)).1).p0), .int .i64 (((rdRec bs last (⟨0, 0⟩ : Rs)).1).p1), .int .i64 (((rdRec bs last (⟨0, 0⟩ : Rs)).1).p2), .int .i64 (((rdRec bs last (⟨0, 0⟩ : Rs)).1).v0), .int .i64 (((rdRec bs last (⟨0, 0⟩ : Rs)).1).v1), .int .i64 (((rdRec bs last (⟨0, 0⟩ : Rs)).1).v2), .int .u16 ((((((rdRec bs last (⟨0, 0⟩ : Rs)).1).a).toNat : Nat) : Int))] 25, blk g5 [v, .int .i64 (((((rdRec bs last (⟨0, 0⟩ : Rs)).2.2).p : Nat) : Int)), .int .i64 (((((rdRec bs last (⟨0, 0⟩ : Rs)).2.2).e : Nat) : Int))] 100] _ _ := hs
  obtain ⟨e26, q26⟩ := hf 26 (by decide)
  replace e26 : _ = some (vs38 26) := e26.val rfl
  rw [show vs38 26 = .bool (true) from q26] at e26
  replace hs := hs.learn e26; clear e26 q26
  clear hf
  refine then_n (hK37 _ _ ?_)
  refine wp_ret ?_
  replace hs := hs.drop (.c (.s (.s (.s (.s .z)))) (.c (.s (.s (.s .z))) (.c (.s (.s .z)) (.c (.s .z) (.c .z .n)))))
  exact fin hs rfl rfl ⟨rfl, rfl⟩
end Go.Proofs.Ytkobgcoegajfcaa
