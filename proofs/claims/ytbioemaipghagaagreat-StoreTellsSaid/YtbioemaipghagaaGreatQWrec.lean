/- Walks of records: what each function does, over the program of this seat. Printed by a program of this session. -/
import Derived.Test.YtbioemaipghagaaGreatQWrd2
import Derived.Test.YtbioemaipghagaaGreatQSxBasB
import Derived.Test.YtbioemaipghagaaGreatQSxRecs
namespace Go.Proofs.YtbioemaipghagaaGreat
open Go Go.Sx Go.RowKit
set_option linter.unusedVariables false
set_option linter.unusedSimpArgs false
set_option maxRecDepth 4000
set_option maxHeartbeats 1000000

theorem chk_ok (r : RecR) (w0 : World) : Calls Tryz.prog 63 #[.agg #[.int .i64 (r.k), .int .i64 (r.id), .int .i64 (r.p0), .int .i64 (r.p1), .int .i64 (r.p2), .int .i64 (r.v0), .int .i64 (r.v1), .int .i64 (r.v2), .int .u16 ((((r.a).toNat : Nat) : Int))]] w0 (RetV w0 (.int .i64 ((recChk r : Nat) : Int))) := by
 refine enterG (F0 := [(0, .agg #[.int .i64 (r.k), .int .i64 (r.id), .int .i64 (r.p0), .int .i64 (r.p1), .int .i64 (r.p2), .int .i64 (r.v0), .int .i64 (r.v1), .int .i64 (r.v2), .int .u16 ((((r.a).toNat : Nat) : Int))])]) Tryz.func63 rfl rfl rfl (.c .n) (Mem.nil _) fun a w hs => ?_
 refine go 13 [0, 0, 0, 0, 1] [13, 3, 1] hs .n (fun g1 => ⟨rfl, rfl, fun g2 => ⟨rfl, rfl, ?_⟩⟩); clear hs w a; intro a w hs
 refine st_part (b := decide (r.k < 0)) (fun c_3 => ?_) (fun c_3 => ?_)
 ·
  rw [c_3] at hs
  replace c_3 := of_decide_eq_true c_3
  refine go 7 [] [2] hs .n ?_; clear hs w a; intro a w hs
  replace hs := hs.drop (.c (.s .z) (.c .z .n))
  exact fin hs rfl rfl ⟨congrArg (Value.int .i64) (by unfold recChk; first | (rw [if_pos (by omega)]; rfl) | (rw [if_neg (by omega), if_pos (by omega)]; rfl) | (rw [if_neg (by omega), if_neg (by omega), if_pos (by first | exact .inl ⟨by omega, by assumption⟩ | exact .inr ⟨by omega, by assumption⟩)]; rfl) | (rw [if_neg (by omega), if_neg (by omega), if_neg (by rintro (⟨_, h_⟩ | ⟨_, h_⟩) <;> first | omega | simp_all)]; rfl)), rfl⟩
 rw [c_3] at hs
 replace c_3 := of_decide_eq_false c_3
 refine go 5 [0] [9, 3, 1] hs (.c (.s .z) .n) ⟨rfl, ?_⟩; clear hs w a; intro a w hs
 refine ifG hs rfl (fun c_4 => ?_) (fun c_4 => ?_)
 ·
  replace c_4 := of_decide_eq_true c_4
  refine go 1 [] [2] hs .n ?_; clear hs w a; intro a w hs
  replace hs := hs.drop (.c (.s .z) (.c .z .n))
  exact fin hs rfl rfl ⟨congrArg (Value.int .i64) (by unfold recChk; first | (rw [if_pos (by omega)]; rfl) | (rw [if_neg (by omega), if_pos (by omega)]; rfl) | (rw [if_neg (by omega), if_neg (by omega), if_pos (by first | exact .inl ⟨by omega, by assumption⟩ | exact .inr ⟨by omega, by assumption⟩)]; rfl) | (rw [if_neg (by omega), if_neg (by omega), if_neg (by rintro (⟨_, h_⟩ | ⟨_, h_⟩) <;> first | omega | simp_all)]; rfl)), rfl⟩
 replace c_4 := of_decide_eq_false c_4
 refine go 4 [0] [22, 3, 1] hs (.c .z .n) ⟨rfl, ?_⟩; clear hs w a; intro a w hs
 refine st_part (b := decide (r.id < 0)) (fun c_5 => ?_) (fun c_5 => ?_)
 ·
  rw [c_5] at hs
  replace c_5 := of_decide_eq_true c_5
  refine go 7 [] [2] hs .n ?_; clear hs w a; intro a w hs
  replace hs := hs.drop (.c (.s .z) (.c .z .n))
  exact fin hs rfl rfl ⟨congrArg (Value.int .i64) (by unfold recChk; first | (rw [if_pos (by omega)]; rfl) | (rw [if_neg (by omega), if_pos (by omega)]; rfl) | (rw [if_neg (by omega), if_neg (by omega), if_pos (by first | exact .inl ⟨by omega, by assumption⟩ | exact .inr ⟨by omega, by assumption⟩)]; rfl) | (rw [if_neg (by omega), if_neg (by omega), if_neg (by rintro (⟨_, h_⟩ | ⟨_, h_⟩) <;> first | omega | simp_all)]; rfl)), rfl⟩
 rw [c_5] at hs
 replace c_5 := of_decide_eq_false c_5
 refine go 5 [0] [18, 3, 1] hs (.c .z .n) ⟨rfl, ?_⟩; clear hs w a; intro a w hs
 refine ifG hs rfl (fun c_6 => ?_) (fun c_6 => ?_)
 ·
  replace c_6 := of_decide_eq_true c_6
  refine go 1 [] [2] hs .n ?_; clear hs w a; intro a w hs
  replace hs := hs.drop (.c (.s .z) (.c .z .n))
  exact fin hs rfl rfl ⟨congrArg (Value.int .i64) (by unfold recChk; first | (rw [if_pos (by omega)]; rfl) | (rw [if_neg (by omega), if_pos (by omega)]; rfl) | (rw [if_neg (by omega), if_neg (by omega), if_pos (by first | exact .inl ⟨by omega, by assumption⟩ | exact .inr ⟨by omega, by assumption⟩)]; rfl) | (rw [if_neg (by omega), if_neg (by omega), if_neg (by rintro (⟨_, h_⟩ | ⟨_, h_⟩) <;> first | omega | simp_all)]; rfl)), rfl⟩
 replace c_6 := of_decide_eq_false c_6
 refine go 4 [0] [31, 3, 1] hs (.c .z .n) ⟨rfl, ?_⟩; clear hs w a; intro a w hs
 refine st_part (b := (r.k : Int) == 1) (fun c_7 => ?_) (fun c_7 => ?_)
 ·
  rw [c_7] at hs
  replace c_7 := eq_of_beq c_7
  refine go 3 [0, 1] [34, 31, 3, 1] hs (.c .z (.c .z .n)) ⟨rfl, rfl, by kernel_rfl, ?_⟩; clear hs w a; intro a w hs
  rw [show eqCells _ _ = recEmpty r from eq_bare r] at hs
  refine go 2 [] [27, 3, 1] hs .n ?_; clear hs w a; intro a w hs
  refine ifG hs rfl (fun c_8 => ?_) (fun c_8 => ?_)
  ·
   refine go 0 [] [27] hs .n ?_; clear hs w a; intro a w hs
   refine ifG hs rfl (fun c_9 => ?_) (fun c_9 => ?_)
   ·
    refine go 1 [] [2] hs .n ?_; clear hs w a; intro a w hs
    replace hs := hs.drop (.c (.s .z) (.c .z .n))
    exact fin hs rfl rfl ⟨congrArg (Value.int .i64) (by unfold recChk; first | (rw [if_pos (by omega)]; rfl) | (rw [if_neg (by omega), if_pos (by omega)]; rfl) | (rw [if_neg (by omega), if_neg (by omega), if_pos (by first | exact .inl ⟨by omega, by assumption⟩ | exact .inr ⟨by omega, by assumption⟩)]; rfl) | (rw [if_neg (by omega), if_neg (by omega), if_neg (by rintro (⟨_, h_⟩ | ⟨_, h_⟩) <;> first | omega | simp_all)]; rfl)), rfl⟩
   refine go 1 [] [2] hs .n ?_; clear hs w a; intro a w hs
   replace hs := hs.drop (.c (.s .z) (.c .z .n))
   exact fin hs rfl rfl ⟨congrArg (Value.int .i64) (by unfold recChk; first | (rw [if_pos (by omega)]; rfl) | (rw [if_neg (by omega), if_pos (by omega)]; rfl) | (rw [if_neg (by omega), if_neg (by omega), if_pos (by first | exact .inl ⟨by omega, by assumption⟩ | exact .inr ⟨by omega, by assumption⟩)]; rfl) | (rw [if_neg (by omega), if_neg (by omega), if_neg (by rintro (⟨_, h_⟩ | ⟨_, h_⟩) <;> first | omega | simp_all)]; rfl)), rfl⟩
  refine go 4 [0] [39, 3, 1] hs (.c .z .n) ⟨rfl, ?_⟩; clear hs w a; intro a w hs
  refine st_part (b := (r.k : Int) == 2) (fun c_10 => ?_) (fun c_10 => ?_)
  ·
   rw [c_10] at hs
   replace c_10 := eq_of_beq c_10
   refine go 3 [0, 1] [42, 39] hs (.c .z (.c .z .n)) ⟨rfl, rfl, by kernel_rfl, ?_⟩; clear hs w a; intro a w hs
   rw [show eqCells _ _ = recEmpty r from eq_bare r] at hs
   refine go 2 [] [27] hs .n ?_; clear hs w a; intro a w hs
   refine ifG hs rfl (fun c_11 => ?_) (fun c_11 => ?_)
   ·
    replace c_11 := not_t c_11
    refine go 1 [] [2] hs .n ?_; clear hs w a; intro a w hs
    replace hs := hs.drop (.c (.s .z) (.c .z .n))
    exact fin hs rfl rfl ⟨congrArg (Value.int .i64) (by unfold recChk; first | (rw [if_pos (by omega)]; rfl) | (rw [if_neg (by omega), if_pos (by omega)]; rfl) | (rw [if_neg (by omega), if_neg (by omega), if_pos (by first | exact .inl ⟨by omega, by assumption⟩ | exact .inr ⟨by omega, by assumption⟩)]; rfl) | (rw [if_neg (by omega), if_neg (by omega), if_neg (by rintro (⟨_, h_⟩ | ⟨_, h_⟩) <;> first | omega | simp_all)]; rfl)), rfl⟩
   replace c_11 := not_f c_11
   refine go 1 [] [2] hs .n ?_; clear hs w a; intro a w hs
   replace hs := hs.drop (.c (.s .z) (.c .z .n))
   exact fin hs rfl rfl ⟨congrArg (Value.int .i64) (by unfold recChk; first | (rw [if_pos (by omega)]; rfl) | (rw [if_neg (by omega), if_pos (by omega)]; rfl) | (rw [if_neg (by omega), if_neg (by omega), if_pos (by first | exact .inl ⟨by omega, by assumption⟩ | exact .inr ⟨by omega, by assumption⟩)]; rfl) | (rw [if_neg (by omega), if_neg (by omega), if_neg (by rintro (⟨_, h_⟩ | ⟨_, h_⟩) <;> first | omega | simp_all)]; rfl)), rfl⟩
  rw [c_10] at hs
  replace c_10 := ne_of_beq_f c_10
  refine go 7 [] [2] hs .n ?_; clear hs w a; intro a w hs
  replace hs := hs.drop (.c (.s .z) (.c .z .n))
  exact fin hs rfl rfl ⟨congrArg (Value.int .i64) (by unfold recChk; first | (rw [if_pos (by omega)]; rfl) | (rw [if_neg (by omega), if_pos (by omega)]; rfl) | (rw [if_neg (by omega), if_neg (by omega), if_pos (by first | exact .inl ⟨by omega, by assumption⟩ | exact .inr ⟨by omega, by assumption⟩)]; rfl) | (rw [if_neg (by omega), if_neg (by omega), if_neg (by rintro (⟨_, h_⟩ | ⟨_, h_⟩) <;> first | omega | simp_all)]; rfl)), rfl⟩
 rw [c_7] at hs
 replace c_7 := ne_of_beq_f c_7
 refine go 10 [0] [39, 3, 1] hs (.c .z .n) ⟨rfl, ?_⟩; clear hs w a; intro a w hs
 refine st_part (b := (r.k : Int) == 2) (fun c_12 => ?_) (fun c_12 => ?_)
 ·
  rw [c_12] at hs
  replace c_12 := eq_of_beq c_12
  refine go 3 [0, 1] [42, 39] hs (.c .z (.c .z .n)) ⟨rfl, rfl, by kernel_rfl, ?_⟩; clear hs w a; intro a w hs
  rw [show eqCells _ _ = recEmpty r from eq_bare r] at hs
  refine go 2 [] [27] hs .n ?_; clear hs w a; intro a w hs
  refine ifG hs rfl (fun c_13 => ?_) (fun c_13 => ?_)
  ·
   replace c_13 := not_t c_13
   refine go 1 [] [2] hs .n ?_; clear hs w a; intro a w hs
   replace hs := hs.drop (.c (.s .z) (.c .z .n))
   exact fin hs rfl rfl ⟨congrArg (Value.int .i64) (by unfold recChk; first | (rw [if_pos (by omega)]; rfl) | (rw [if_neg (by omega), if_pos (by omega)]; rfl) | (rw [if_neg (by omega), if_neg (by omega), if_pos (by first | exact .inl ⟨by omega, by assumption⟩ | exact .inr ⟨by omega, by assumption⟩)]; rfl) | (rw [if_neg (by omega), if_neg (by omega), if_neg (by rintro (⟨_, h_⟩ | ⟨_, h_⟩) <;> first | omega | simp_all)]; rfl)), rfl⟩
  replace c_13 := not_f c_13
  refine go 1 [] [2] hs .n ?_; clear hs w a; intro a w hs
  replace hs := hs.drop (.c (.s .z) (.c .z .n))
  exact fin hs rfl rfl ⟨congrArg (Value.int .i64) (by unfold recChk; first | (rw [if_pos (by omega)]; rfl) | (rw [if_neg (by omega), if_pos (by omega)]; rfl) | (rw [if_neg (by omega), if_neg (by omega), if_pos (by first | exact .inl ⟨by omega, by assumption⟩ | exact .inr ⟨by omega, by assumption⟩)]; rfl) | (rw [if_neg (by omega), if_neg (by omega), if_neg (by rintro (⟨_, h_⟩ | ⟨_, h_⟩) <;> first | omega | simp_all)]; rfl)), rfl⟩
 rw [c_12] at hs
 replace c_12 := ne_of_beq_f c_12
 refine go 7 [] [2] hs .n ?_; clear hs w a; intro a w hs
 replace hs := hs.drop (.c (.s .z) (.c .z .n))
 exact fin hs rfl rfl ⟨congrArg (Value.int .i64) (by unfold recChk; first | (rw [if_pos (by omega)]; rfl) | (rw [if_neg (by omega), if_pos (by omega)]; rfl) | (rw [if_neg (by omega), if_neg (by omega), if_pos (by first | exact .inl ⟨by omega, by assumption⟩ | exact .inr ⟨by omega, by assumption⟩)]; rfl) | (rw [if_neg (by omega), if_neg (by omega), if_neg (by rintro (⟨_, h_⟩ | ⟨_, h_⟩) <;> first | omega | simp_all)]; rfl)), rfl⟩
theorem nums_ok (g : Nat) (w0 : World) : Calls Tryz.prog 87 #[.pointer (some ⟨g, 0, none⟩)] w0 (RetV w0 (.agg #[.pointer (some ⟨g, 2, none⟩), .pointer (some ⟨g, 3, none⟩), .pointer (some ⟨g, 4, none⟩), .pointer (some ⟨g, 5, none⟩), .pointer (some ⟨g, 6, none⟩), .pointer (some ⟨g, 7, none⟩)])) := by
 refine enterG (F0 := [(0, .pointer (some ⟨g, 0, none⟩))]) Tryz.func87 rfl rfl rfl (.c .n) (Mem.nil _) fun a w hs => ?_
 refine go 1 [] [2, 0] hs .n (fun g1 => ?_); clear hs w a; intro a w hs
 refine wp_drawS [.p [] [], .p [0] [], .p [1] [], .p [2] [], .p [] [], .p [4] [], .p [5] [], .p [6] [], .p [] [], .p [8] [], .p [9] [], .p [10] [], .p [] [], .p [12] [], .p [13] [], .p [14] [], .p [] [], .p [16] [], .p [17] [], .p [18] [], .p [] [], .p [20] [], .p [21] [], .p [22] [], .p [23, 19, 15, 11, 7, 3] [], .x [24] ⟨[blk g1 [.pointer (none), .pointer (none), .pointer (none), .pointer (none), .pointer (none), .pointer (none)] 153], [], [], fun vs2 => True, fun vs2 => [blk g1 [.pointer (some ⟨g, 2, none⟩), .pointer (some ⟨g, 3, none⟩), .pointer (some ⟨g, 4, none⟩), .pointer (some ⟨g, 5, none⟩), .pointer (some ⟨g, 6, none⟩), .pointer (some ⟨g, 7, none⟩)] 153], none⟩] [] hs (.c .z .n) .n (by kernel_rfl) ⟨⟨rfl, by kernel_rfl, fun _ => rfl⟩, ⟨?_, trivial⟩, ?_⟩
 ·
  intro a_ w_ R_ rest_ vs2 hm hs ht hx
  have hs0 := hs.bare
  refine st_stBA hs rfl rfl .z (.z (.c (.c (.c (.c (.c (.c .n))))))) (ones_c rfl (ones_c rfl (ones_c rfl (ones_c rfl (ones_c rfl (ones_c rfl ones_n)))))) Tryz.sizeOf153 rfl ?_; clear hs; intro a w hs
  exact wpList_nil ⟨rfl, .tuple #[], _, hs0, (.c .r), hs, trivial⟩
 clear hs w a; intro vs2 a w hs hf
 clear hf
 refine goE 0 [] [2] hs .n ?_; clear hs w a; intro a w hs
 exact finC hs rfl rfl .z (.z (.c (.c (.c (.c (.c (.c .n))))))) Tryz.isAgg153 Tryz.sizeOf153 (.c .z .n) ⟨rfl, rfl⟩
theorem number_ok (v : Value) (m : Nat) (bs : List Byte) (x : Int) (w0 : World) (hr : (row v 5 1 m (bytesV bs)).p w0) (hm : m ≤ 200000) (hx : -9223372036854775808 ≤ x ∧ x ≤ 9223372036854775807) : Calls Tryz.prog 162 #[v, .int .i64 x] w0 (Ret w0 (feet [row v 5 1 m (bytesV bs)]) fun u N => N = [row u 5 1 (m + (numB x).length) (bytesV (bs ++ numB x))]) := by
 have hvl := vlen_le (zigI x).toNat
 refine enterG (F0 := [(0, v), (1, .int .i64 (x))]) Tryz.func162 rfl rfl rfl (.c (.c .n)) (mem_one hr row_nd) fun a w hs => ?_
 refine go 3 [] [6, 5] hs .n ?_; clear hs w a; intro a w hs
 refine st_callP (v := .int .u64 ((((zigI x).toNat : Nat) : Int))) hs (.c rfl .n) Tryz.call92 (zig_ok x _ (by omega)) rfl ?_; clear hs w a; intro a w hs
 refine st_call hs (.c rfl .n) Tryz.call93 .n (put_ok (zigI x) _) rfl ?_; clear hs w a; rintro v1 _ a w rfl hs; simp only [List.cons_append, List.nil_append] at hs
 refine st_app (size := 1) (bytes := 1) hs rfl rfl (.s .z) (rd_row (hs.mem.del .z)) (oneCell_bytesV _) Tryz.underlying37 (i := Tryz.t5) rfl rfl rfl rfl rfl (by decide) (by omega) (by simp only [maxLen]; omega) rfl ?_; clear hs w a; intro v2 a w hs
 refine goL 1 [] [4] hs .n ?_; clear hs w a; intro a w hs
 replace hs := hs.drop (.c (.s .z) .n)
 replace hs := hs.rerow .z (m' := m + (numB x).length) (xs' := bytesV (bs ++ numB x)) (by simp only [numB, vlen]) (by simp only [bytesV_append, numB])
 exact fin hs rfl rfl rfl
theorem writeAll_ok (v : Value) (m : Nat) (bs : List Byte) (g : Nat) (r : RecR) (w0 : World) (hr : (row v 5 1 m (bytesV bs)).p w0) (hm : m ≤ 100000) (hg : (blk g [.int .i64 (r.k), .int .i64 (r.id), .int .i64 (r.p0), .int .i64 (r.p1), .int .i64 (r.p2), .int .i64 (r.v0), .int .i64 (r.v1), .int .i64 (r.v2), .int .u16 ((((r.a).toNat : Nat) : Int))] 78).p w0) (hw : r.wf) : Calls Tryz.prog 139 #[v, .pointer (some ⟨g, 0, none⟩)] w0 (Ret w0 (feet [row v 5 1 m (bytesV bs)]) fun u N => N = [row u 5 1 (m + (recAll r).length) (bytesV (bs ++ recAll r))]) := by
 have hwf := hw.facts
 have hva := vlen10 r.a.toNat
 refine enterG (F0 := [(0, v), (1, .pointer (some ⟨g, 0, none⟩))]) Tryz.func139 rfl rfl rfl (.c (.c .n)) (mem_one hr row_nd) fun a w hs => ?_
 refine go 2 [] [7, 0, 1] hs .n ?_; clear hs w a; intro a w hs
 refine st_callP (v := .agg #[.pointer (some ⟨g, 2, none⟩), .pointer (some ⟨g, 3, none⟩), .pointer (some ⟨g, 4, none⟩), .pointer (some ⟨g, 5, none⟩), .pointer (some ⟨g, 6, none⟩), .pointer (some ⟨g, 7, none⟩)]) hs (.c rfl .n) Tryz.call87 (nums_ok g _) rfl ?_; clear hs w a; intro a w hs
 refine goL 1 [] [9, 8, 0, 1] hs .n ?_; clear hs w a; intro a w hs
 refine roundsG 6 ?_
 refine go 7 [] [14, 12, 9, 8, 1] hs .n ?_; clear hs w a; intro a w hs
 refine st_ldE hs rfl (hs.mem.keep hg (row_blk hr hg (by decide))) (.s (.s .z)) Tryz.isAgg2 rfl ?_; clear hs w a; intro a w hs
 refine st_call hs (.c rfl (.c rfl .n)) Tryz.call162 (.c .z .n) (number_ok _ _ bs r.p0 _ (hs.mem.del .z) (by omega) (by omega)) rfl ?_; clear hs w a; rintro v1 _ a w rfl hs; simp only [List.cons_append, List.nil_append] at hs
 have hk2 := length_numB r.p0
 refine goL 3 [] [9, 0, 8, 1] hs .n ⟨by decide, ?_⟩; clear hs w a; intro a w hs
 refine againG ?_
 refine go 7 [] [14, 12, 9, 8, 1] hs .n ?_; clear hs w a; intro a w hs
 refine st_ldE hs rfl (hs.mem.keep hg (row_blk hr hg (by decide))) (.s (.s (.s .z))) Tryz.isAgg2 rfl ?_; clear hs w a; intro a w hs
 refine st_call hs (.c rfl (.c rfl .n)) Tryz.call162 (.c .z .n) (number_ok _ _ (bs ++ numB r.p0) r.p1 _ (hs.mem.del .z) (by omega) (by omega)) rfl ?_; clear hs w a; rintro v3 _ a w rfl hs; simp only [List.cons_append, List.nil_append] at hs
 have hk4 := length_numB r.p1
 refine goL 3 [] [9, 0, 8, 1] hs .n ⟨by decide, ?_⟩; clear hs w a; intro a w hs
 refine againG ?_
 refine go 7 [] [14, 12, 9, 8, 1] hs .n ?_; clear hs w a; intro a w hs
 refine st_ldE hs rfl (hs.mem.keep hg (row_blk hr hg (by decide))) (.s (.s (.s (.s .z)))) Tryz.isAgg2 rfl ?_; clear hs w a; intro a w hs
 refine st_call hs (.c rfl (.c rfl .n)) Tryz.call162 (.c .z .n) (number_ok _ _ (((bs ++ numB r.p0) ++ numB r.p1)) r.p2 _ (hs.mem.del .z) (by omega) (by omega)) rfl ?_; clear hs w a; rintro v5 _ a w rfl hs; simp only [List.cons_append, List.nil_append] at hs
 have hk6 := length_numB r.p2
 refine goL 3 [] [9, 0, 8, 1] hs .n ⟨by decide, ?_⟩; clear hs w a; intro a w hs
 refine againG ?_
 refine go 7 [] [14, 12, 9, 8, 1] hs .n ?_; clear hs w a; intro a w hs
 refine st_ldE hs rfl (hs.mem.keep hg (row_blk hr hg (by decide))) (.s (.s (.s (.s (.s .z))))) Tryz.isAgg2 rfl ?_; clear hs w a; intro a w hs
 refine st_call hs (.c rfl (.c rfl .n)) Tryz.call162 (.c .z .n) (number_ok _ _ (((((bs ++ numB r.p0) ++ numB r.p1)) ++ numB r.p2)) r.v0 _ (hs.mem.del .z) (by omega) (by omega)) rfl ?_; clear hs w a; rintro v7 _ a w rfl hs; simp only [List.cons_append, List.nil_append] at hs
 have hk8 := length_numB r.v0
 refine goL 3 [] [9, 0, 8, 1] hs .n ⟨by decide, ?_⟩; clear hs w a; intro a w hs
 refine againG ?_
 refine go 7 [] [14, 12, 9, 8, 1] hs .n ?_; clear hs w a; intro a w hs
 refine st_ldE hs rfl (hs.mem.keep hg (row_blk hr hg (by decide))) (.s (.s (.s (.s (.s (.s .z)))))) Tryz.isAgg2 rfl ?_; clear hs w a; intro a w hs
 refine st_call hs (.c rfl (.c rfl .n)) Tryz.call162 (.c .z .n) (number_ok _ _ (((((((bs ++ numB r.p0) ++ numB r.p1)) ++ numB r.p2)) ++ numB r.v0)) r.v1 _ (hs.mem.del .z) (by omega) (by omega)) rfl ?_; clear hs w a; rintro v9 _ a w rfl hs; simp only [List.cons_append, List.nil_append] at hs
 have hk10 := length_numB r.v1
 refine goL 3 [] [9, 0, 8, 1] hs .n ⟨by decide, ?_⟩; clear hs w a; intro a w hs
 refine againG ?_
 refine go 7 [] [14, 12, 9, 8, 1] hs .n ?_; clear hs w a; intro a w hs
 refine st_ldE hs rfl (hs.mem.keep hg (row_blk hr hg (by decide))) (.s (.s (.s (.s (.s (.s (.s .z))))))) Tryz.isAgg2 rfl ?_; clear hs w a; intro a w hs
 refine st_call hs (.c rfl (.c rfl .n)) Tryz.call162 (.c .z .n) (number_ok _ _ (((((((((bs ++ numB r.p0) ++ numB r.p1)) ++ numB r.p2)) ++ numB r.v0)) ++ numB r.v1)) r.v2 _ (hs.mem.del .z) (by omega) (by omega)) rfl ?_; clear hs w a; rintro v11 _ a w rfl hs; simp only [List.cons_append, List.nil_append] at hs
 have hk12 := length_numB r.v2
 refine goL 3 [] [9, 0, 8, 1] hs .n ⟨by decide, ?_⟩; clear hs w a; intro a w hs
 refine againG ?_
 refine go 6 [] [21, 18] hs .n ?_; clear hs w a; intro a w hs
 refine st_ldE hs rfl (hs.mem.keep hg (row_blk hr hg (by decide))) (.s (.s (.s (.s (.s (.s (.s (.s .z)))))))) Tryz.isAgg70 rfl ?_; clear hs w a; intro a w hs
 refine st_cv_u16_u64 (X := r.a) hs rfl rfl Tryz.underlying70 Tryz.underlying129 rfl ?_; clear hs w a; intro a w hs
 refine st_call hs (.c rfl .n) Tryz.call93 .n (put_ok ((r.a).setWidth 64) _) rfl ?_; clear hs w a; rintro v13 _ a w rfl hs; simp only [List.cons_append, List.nil_append] at hs
 replace hs := hs.rerow .z (m' := (vput r.a.toNat).length) (xs' := bytesV (vput r.a.toNat)) (by rw [sw64]; rfl) (by rw [sw64])
 refine st_app (size := 1) (bytes := 1) hs rfl rfl (.s .z) (rd_row (hs.mem.del .z)) (oneCell_bytesV _) Tryz.underlying37 (i := Tryz.t5) rfl rfl rfl rfl rfl (by decide) (by omega) (by simp only [maxLen]; omega) rfl ?_; clear hs w a; intro v14 a w hs
 refine goL 1 [] [4] hs .n ?_; clear hs w a; intro a w hs
 replace hs := hs.drop (.c (.s .z) .n)
 replace hs := hs.rerow .z (m' := m + (recAll r).length) (xs' := bytesV (bs ++ recAll r)) (by simp only [List.length_append, vlen, recAll]; omega) (by simp only [bytesV_append, List.append_assoc, recAll])
 exact fin hs rfl rfl rfl
theorem writeSome_ok (v : Value) (m : Nat) (bs : List Byte) (g : Nat) (r : RecR) (w0 : World) (hr : (row v 5 1 m (bytesV bs)).p w0) (hm : m ≤ 100000) (hg : (blk g [.int .i64 (r.k), .int .i64 (r.id), .int .i64 (r.p0), .int .i64 (r.p1), .int .i64 (r.p2), .int .i64 (r.v0), .int .i64 (r.v1), .int .i64 (r.v2), .int .u16 ((((r.a).toNat : Nat) : Int))] 78).p w0) (hw : r.wf) : Calls Tryz.prog 141 #[v, .pointer (some ⟨g, 0, none⟩)] w0 (Ret w0 (feet [row v 5 1 m (bytesV bs)]) fun u N => N = [row u 5 1 (m + (recSome r).length) (bytesV (bs ++ recSome r))]) := by
 have hwf := hw.facts
 have hva := vlen10 r.a.toNat
 have hml := hr.1
 rw [show (bytesV bs).length = bs.length by simp [bytesV], Nat.mul_one] at hml
 have hlu_ := length_upRest r 0
 refine enterG (F0 := [(0, v), (1, .pointer (some ⟨g, 0, none⟩))]) Tryz.func141 rfl rfl rfl (.c (.c .n)) (mem_one hr row_nd) fun a w hs => ?_
 refine go 2 [] [8, 0, 1] hs .n ?_; clear hs w a; intro a w hs
 refine st_len hs rfl (rd_row (hs.mem.del .z)).isSl Tryz.underlying37 rfl ?_; clear hs w a; intro a w hs
 refine goL 3 [] [11, 10, 5, 1] hs .n (fun g1 => ?_); clear hs w a; intro a w hs
 refine st_app (size := 1) (bytes := 1) hs rfl rfl (.s .z) (rd_blk (m := 1) (size := 1) (hs.mem.del .z) rfl (by decide)) (by simp [Value.oneCell']) Tryz.underlying37 (i := Tryz.t5) rfl rfl rfl rfl rfl (by decide) (by omega) (by simp only [maxLen]; omega) rfl ?_; clear hs w a; intro v2 a w hs
 replace hs := hs.drop (.c (.s .z) .n)
 replace hs := hs.rerow .z (m' := (m + 1 + (upRest r 0).length)) (xs' := bytesV (bs ++ upMask r 0 :: upRest r 0)) (by simp only [upRest, List.length_nil]) (by simp only [bytesV_append, upMask, upRest]; rfl)
 refine goL 2 [] [13, 0, 5, 1] hs .n ?_; clear hs w a; intro a w hs
 refine st_callP (v := .agg #[.pointer (some ⟨g, 2, none⟩), .pointer (some ⟨g, 3, none⟩), .pointer (some ⟨g, 4, none⟩), .pointer (some ⟨g, 5, none⟩), .pointer (some ⟨g, 6, none⟩), .pointer (some ⟨g, 7, none⟩)]) hs (.c rfl .n) Tryz.call87 (nums_ok g _) rfl ?_; clear hs w a; intro a w hs
 refine goL 1 [] [15, 14, 0, 5, 1] hs .n ?_; clear hs w a; intro a w hs
 refine roundsG 6 ?_
 refine cutG (fun a w => ∃ q : Value, St 57 [(0, q), (1, .pointer (some ⟨g, 0, none⟩)), (5, .int .i64 ((m : Int))), (14, .agg #[.pointer (some ⟨g, 2, none⟩), .pointer (some ⟨g, 3, none⟩), .pointer (some ⟨g, 4, none⟩), .pointer (some ⟨g, 5, none⟩), .pointer (some ⟨g, 6, none⟩), .pointer (some ⟨g, 7, none⟩)]), (15, .int .i64 (1))] w0 (feet [row v 5 1 m (bytesV bs)]) [row q 5 1 ((m + 1 + (upRest r 1).length)) (bytesV (bs ++ upMask r 1 :: upRest r 1))] a w) ?_ ?_
 ·
  refine go 8 [] [20, 7, 6, 15, 14, 0, 5, 1] hs .n ?_; clear hs w a; intro a w hs
  refine st_ldE hs rfl (hs.mem.keep hg (row_blk hr hg (by decide))) (.s (.s .z)) Tryz.isAgg2 rfl ?_; clear hs w a; intro a w hs
  refine goL 1 [] [22, 7, 6, 15, 14, 0, 5, 1] hs .n ?_; clear hs w a; intro a w hs
  refine ifG hs rfl (fun c_3 => ?_) (fun c_3 => ?_)
  ·
   replace c_3 := not_t c_3
   replace c_3 := ne_of_beq_f c_3
   have hn_ : r.num 0 ≠ 0 := by show r.p0 ≠ 0; assumption
   refine go 0 [] [7, 6, 15, 14, 0, 5, 1] hs .n ?_; clear hs w a; intro a w hs
   refine wp_drawS [.p [] [], .p [] [], .x [1, 0] ⟨[], [], [], fun vs4 => vs4 2 = .pointer (some (adr v2 m)), fun vs4 => [], none⟩, .x [] ⟨[], [], [], fun vs4 => vs4 3 = .int .u8 ((((upMask r 0).toNat : Nat) : Int)), fun vs4 => [], none⟩, .p [] [], .v [4] (.int .u8 (((((1#8) <<< 0).toNat : Nat) : Int))), .x [5] ⟨[], [], [], fun vs4 => vs4 6 = .int .u8 (((((upMask r 0) ||| ((1#8) <<< 0)).toNat : Nat) : Int)), fun vs4 => [], none⟩, .x [1, 0] ⟨[], [], [], fun vs4 => vs4 7 = .pointer (some (adr v2 m)), fun vs4 => [], none⟩, .x [] ⟨[row v2 5 1 ((m + 1 + (upRest r 0).length)) (bytesV (bs ++ upMask r 0 :: upRest r 0))], [], [], fun vs4 => True, fun vs4 => [row v2 5 1 ((m + 1 + (upRest r 0).length)) (bytesV ((bs ++ upMask r 0 :: upRest r 0).set m ((upMask r 0) ||| ((1#8) <<< 0))))], none⟩] [] hs (.c .z .n) .n (by kernel_rfl) ⟨?_, ⟨rfl, by kernel_rfl, fun _ => rfl⟩, ⟨?_, ?_, ?_, ?_, ?_, trivial⟩, ?_⟩
   ·
    intro a_ w_ R_ Q_ hm hs K_
    refine st_shl_u8 (X := 1#8) (m := 0) hs rfl (by decide) rfl (by decide) rfl ?_; clear hs; intro a w hs
    exact wpList_nil (K_ _ _ hs)
   ·
    intro a_ w_ R_ rest_ vs4 hm hs ht hx
    have hs0 := hs.bare
    refine st_ia1 (j := m) hs rfl rfl (rd_row (hm.own (List.mem_append.2 (.inr ((hx 8 (twB_spec 9 _ (by kernel_rfl))).1 _ (List.Mem.head _)))))) rfl (by omega) Tryz.underlying37 Tryz.sizeOf5 rfl ?_; clear hs; intro a w hs
    exact wpList_nil ⟨rfl, _, _, hs0, (.c (.c .r)), hs, rfl⟩
   ·
    intro a_ w_ R_ rest_ vs4 hm hs ht hx
    have t2 := ht 2 (twB_spec 9 _ (by kernel_rfl))
    have e2 : _ = some (vs4 2) := t2.val rfl
    rw [show vs4 2 = .pointer (some (adr v2 m)) from t2.2.1] at e2
    replace hs := hs.learn e2
    have hs0 := hs.bare
    refine st_ld hs rfl (rd_row (hm.own (List.mem_append.2 (.inr ((hx 8 (twB_spec 9 _ (by kernel_rfl))).1 _ (List.Mem.head _)))))) (bytesV_getD (bs ++ upMask r 0 :: upRest r 0) (by first | omega | (simp; omega))) Tryz.isAgg5 rfl ?_; clear hs; intro a w hs
    rw [getD_mid hml] at hs
    exact wpList_nil ⟨rfl, _, _, hs0, (.c .r), hs, rfl⟩
   ·
    intro a_ w_ R_ rest_ vs4 hm hs ht hx
    have t3 := ht 3 (twB_spec 9 _ (by kernel_rfl))
    have e3 : _ = some (vs4 3) := t3.val rfl
    rw [show vs4 3 = .int .u8 ((((upMask r 0).toNat : Nat) : Int)) from t3.2.1] at e3
    replace hs := hs.learn e3
    have hs0 := hs.bare
    refine st_or_u8 (X := upMask r 0) (Y := (1#8) <<< 0) hs rfl rfl rfl rfl rfl ?_; clear hs; intro a w hs
    exact wpList_nil ⟨rfl, _, _, hs0, (.c (.c .r)), hs, rfl⟩
   ·
    intro a_ w_ R_ rest_ vs4 hm hs ht hx
    have hs0 := hs.bare
    refine st_ia1 (j := m) hs rfl rfl (rd_row (hm.own (List.mem_append.2 (.inr ((hx 8 (twB_spec 9 _ (by kernel_rfl))).1 _ (List.Mem.head _)))))) rfl (by omega) Tryz.underlying37 Tryz.sizeOf5 rfl ?_; clear hs; intro a w hs
    exact wpList_nil ⟨rfl, _, _, hs0, (.c (.c .r)), hs, rfl⟩
   ·
    intro a_ w_ R_ rest_ vs4 hm hs ht hx
    have t6 := ht 6 (twB_spec 9 _ (by kernel_rfl))
    have e6 : _ = some (vs4 6) := t6.val rfl
    rw [show vs4 6 = .int .u8 (((((upMask r 0) ||| ((1#8) <<< 0)).toNat : Nat) : Int)) from t6.2.1] at e6
    replace hs := hs.learn e6
    have t7 := ht 7 (twB_spec 9 _ (by kernel_rfl))
    have e7 : _ = some (vs4 7) := t7.val rfl
    rw [show vs4 7 = .pointer (some (adr v2 m)) from t7.2.1] at e7
    replace hs := hs.learn e7
    have hs0 := hs.bare
    refine st_stR hs rfl rfl .z (by omega) rfl Tryz.sizeOf5 ?_; clear hs; intro a w hs
    replace hs := hs.rerow .z (m' := (m + 1 + (upRest r 0).length)) (xs' := bytesV ((bs ++ upMask r 0 :: upRest r 0).set m ((upMask r 0) ||| ((1#8) <<< 0)))) (rfl) ((bytesV_set _ _ _).symm)
    exact wpList_nil ⟨rfl, .tuple #[], _, hs0, (.c (.c .r)), hs, trivial⟩
   clear hs w a; intro vs4 a w hs hf
   clear hf
   refine goE 1 [] [31, 7, 15, 14, 5, 1] hs .n ?_; clear hs w a; intro a w hs
   replace hs := hs.rerow .z (m' := (m + 1 + (upRest r 0).length)) (xs' := bytesV (bs ++ (upMask r 0 ||| (1#8 <<< 0)) :: upRest r 0)) (rfl) (by rw [set_mid hml])
   refine go 2 [] [33, 31, 15, 14, 5, 1] hs .n ?_; clear hs w a; intro a w hs
   refine st_ldE hs rfl (hs.mem.keep hg (row_blk hr hg (by decide))) (.s (.s .z)) Tryz.isAgg2 rfl ?_; clear hs w a; intro a w hs
   refine st_call hs (.c rfl (.c rfl .n)) Tryz.call162 (.c .z .n) (number_ok _ _ ((bs ++ (upMask r 0 ||| (1#8 <<< 0)) :: upRest r 0)) r.p0 _ (hs.mem.del .z) (by omega) (by omega)) rfl ?_; clear hs w a; rintro v5 _ a w rfl hs; simp only [List.cons_append, List.nil_append] at hs
   have hk6 := length_numB r.p0
   refine goL 3 [] [15, 0, 14, 5, 1] hs .n ⟨by decide, ?_⟩; clear hs w a; intro a w hs
   replace hs := hs.rerow .z (m' := (m + 1 + (upRest r 1).length)) (xs' := bytesV (bs ++ upMask r 1 :: upRest r 1)) (by first | (rw [upRest_z hz_]) | (rw [upRest_n hn_]; simp only [List.length_append, RecR.num]; omega)) (by first | (rw [upMask_z hz_, upRest_z hz_]) | (rw [upMask_n hn_, upRest_n hn_]; simp [bytesV_append, RecR.num]))
   exact ⟨v5, hs.sub (.c rfl (.c rfl (.c rfl (.c rfl (.c rfl .n)))))⟩
  replace c_3 := not_f c_3
  replace c_3 := eq_of_beq c_3
  have hz_ : r.num 0 = 0 := by show r.p0 = 0; assumption
  refine go 2 [] [15, 14, 0, 5, 1] hs .n ⟨by decide, ?_⟩; clear hs w a; intro a w hs
  replace hs := hs.rerow .z (m' := (m + 1 + (upRest r 1).length)) (xs' := bytesV (bs ++ upMask r 1 :: upRest r 1)) (by first | (rw [upRest_z hz_]) | (rw [upRest_n hn_]; simp only [List.length_append, RecR.num]; omega)) (by first | (rw [upMask_z hz_, upRest_z hz_]) | (rw [upMask_n hn_, upRest_n hn_]; simp [bytesV_append, RecR.num]))
  exact ⟨v2, hs.sub (.c rfl (.c rfl (.c rfl (.c rfl (.c rfl .n)))))⟩
 clear hs w a; rintro a w ⟨q, hs⟩
 have hlu0 := length_upRest r 1
 refine againG ?_
 refine cutG (fun a w => ∃ q : Value, St 57 [(0, q), (1, .pointer (some ⟨g, 0, none⟩)), (5, .int .i64 ((m : Int))), (14, .agg #[.pointer (some ⟨g, 2, none⟩), .pointer (some ⟨g, 3, none⟩), .pointer (some ⟨g, 4, none⟩), .pointer (some ⟨g, 5, none⟩), .pointer (some ⟨g, 6, none⟩), .pointer (some ⟨g, 7, none⟩)]), (15, .int .i64 (2))] w0 (feet [row v 5 1 m (bytesV bs)]) [row q 5 1 ((m + 1 + (upRest r 2).length)) (bytesV (bs ++ upMask r 2 :: upRest r 2))] a w) ?_ ?_
 ·
  refine go 8 [] [20, 7, 6, 0, 1, 5, 14, 15] hs .n ?_; clear hs w a; intro a w hs
  refine st_ldE hs rfl (hs.mem.keep hg (row_blk hr hg (by decide))) (.s (.s (.s .z))) Tryz.isAgg2 rfl ?_; clear hs w a; intro a w hs
  refine goL 1 [] [22, 7, 6, 0, 1, 5, 14, 15] hs .n ?_; clear hs w a; intro a w hs
  refine ifG hs rfl (fun c_7 => ?_) (fun c_7 => ?_)
  ·
   replace c_7 := not_t c_7
   replace c_7 := ne_of_beq_f c_7
   have hn_ : r.num 1 ≠ 0 := by show r.p1 ≠ 0; assumption
   refine go 0 [] [7, 6, 0, 1, 5, 14, 15] hs .n ?_; clear hs w a; intro a w hs
   refine wp_drawS [.p [] [], .p [] [], .x [1, 0] ⟨[], [], [], fun vs8 => vs8 2 = .pointer (some (adr q m)), fun vs8 => [], none⟩, .x [] ⟨[], [], [], fun vs8 => vs8 3 = .int .u8 ((((upMask r 1).toNat : Nat) : Int)), fun vs8 => [], none⟩, .p [] [], .v [4] (.int .u8 (((((1#8) <<< 1).toNat : Nat) : Int))), .x [5] ⟨[], [], [], fun vs8 => vs8 6 = .int .u8 (((((upMask r 1) ||| ((1#8) <<< 1)).toNat : Nat) : Int)), fun vs8 => [], none⟩, .x [1, 0] ⟨[], [], [], fun vs8 => vs8 7 = .pointer (some (adr q m)), fun vs8 => [], none⟩, .x [] ⟨[row q 5 1 ((m + 1 + (upRest r 1).length)) (bytesV (bs ++ upMask r 1 :: upRest r 1))], [], [], fun vs8 => True, fun vs8 => [row q 5 1 ((m + 1 + (upRest r 1).length)) (bytesV ((bs ++ upMask r 1 :: upRest r 1).set m ((upMask r 1) ||| ((1#8) <<< 1))))], none⟩] [] hs (.c .z .n) .n (by kernel_rfl) ⟨?_, ⟨rfl, by kernel_rfl, fun _ => rfl⟩, ⟨?_, ?_, ?_, ?_, ?_, trivial⟩, ?_⟩
   ·
    intro a_ w_ R_ Q_ hm hs K_
    refine st_shl_u8 (X := 1#8) (m := 1) hs rfl (by decide) rfl (by decide) rfl ?_; clear hs; intro a w hs
    exact wpList_nil (K_ _ _ hs)
   ·
    intro a_ w_ R_ rest_ vs8 hm hs ht hx
    have hs0 := hs.bare
    refine st_ia1 (j := m) hs rfl rfl (rd_row (hm.own (List.mem_append.2 (.inr ((hx 8 (twB_spec 9 _ (by kernel_rfl))).1 _ (List.Mem.head _)))))) rfl (by omega) Tryz.underlying37 Tryz.sizeOf5 rfl ?_; clear hs; intro a w hs
    exact wpList_nil ⟨rfl, _, _, hs0, (.c (.c .r)), hs, rfl⟩
   ·
    intro a_ w_ R_ rest_ vs8 hm hs ht hx
    have t2 := ht 2 (twB_spec 9 _ (by kernel_rfl))
    have e2 : _ = some (vs8 2) := t2.val rfl
    rw [show vs8 2 = .pointer (some (adr q m)) from t2.2.1] at e2
    replace hs := hs.learn e2
    have hs0 := hs.bare
    refine st_ld hs rfl (rd_row (hm.own (List.mem_append.2 (.inr ((hx 8 (twB_spec 9 _ (by kernel_rfl))).1 _ (List.Mem.head _)))))) (bytesV_getD (bs ++ upMask r 1 :: upRest r 1) (by first | omega | (simp; omega))) Tryz.isAgg5 rfl ?_; clear hs; intro a w hs
    rw [getD_mid hml] at hs
    exact wpList_nil ⟨rfl, _, _, hs0, (.c .r), hs, rfl⟩
   ·
    intro a_ w_ R_ rest_ vs8 hm hs ht hx
    have t3 := ht 3 (twB_spec 9 _ (by kernel_rfl))
    have e3 : _ = some (vs8 3) := t3.val rfl
    rw [show vs8 3 = .int .u8 ((((upMask r 1).toNat : Nat) : Int)) from t3.2.1] at e3
    replace hs := hs.learn e3
    have hs0 := hs.bare
    refine st_or_u8 (X := upMask r 1) (Y := (1#8) <<< 1) hs rfl rfl rfl rfl rfl ?_; clear hs; intro a w hs
    exact wpList_nil ⟨rfl, _, _, hs0, (.c (.c .r)), hs, rfl⟩
   ·
    intro a_ w_ R_ rest_ vs8 hm hs ht hx
    have hs0 := hs.bare
    refine st_ia1 (j := m) hs rfl rfl (rd_row (hm.own (List.mem_append.2 (.inr ((hx 8 (twB_spec 9 _ (by kernel_rfl))).1 _ (List.Mem.head _)))))) rfl (by omega) Tryz.underlying37 Tryz.sizeOf5 rfl ?_; clear hs; intro a w hs
    exact wpList_nil ⟨rfl, _, _, hs0, (.c (.c .r)), hs, rfl⟩
   ·
    intro a_ w_ R_ rest_ vs8 hm hs ht hx
    have t6 := ht 6 (twB_spec 9 _ (by kernel_rfl))
    have e6 : _ = some (vs8 6) := t6.val rfl
    rw [show vs8 6 = .int .u8 (((((upMask r 1) ||| ((1#8) <<< 1)).toNat : Nat) : Int)) from t6.2.1] at e6
    replace hs := hs.learn e6
    have t7 := ht 7 (twB_spec 9 _ (by kernel_rfl))
    have e7 : _ = some (vs8 7) := t7.val rfl
    rw [show vs8 7 = .pointer (some (adr q m)) from t7.2.1] at e7
    replace hs := hs.learn e7
    have hs0 := hs.bare
    refine st_stR hs rfl rfl .z (by omega) rfl Tryz.sizeOf5 ?_; clear hs; intro a w hs
    replace hs := hs.rerow .z (m' := (m + 1 + (upRest r 1).length)) (xs' := bytesV ((bs ++ upMask r 1 :: upRest r 1).set m ((upMask r 1) ||| ((1#8) <<< 1)))) (rfl) ((bytesV_set _ _ _).symm)
    exact wpList_nil ⟨rfl, .tuple #[], _, hs0, (.c (.c .r)), hs, trivial⟩
   clear hs w a; intro vs8 a w hs hf
   clear hf
   refine goE 1 [] [31, 7, 1, 5, 14, 15] hs .n ?_; clear hs w a; intro a w hs
   replace hs := hs.rerow .z (m' := (m + 1 + (upRest r 1).length)) (xs' := bytesV (bs ++ (upMask r 1 ||| (1#8 <<< 1)) :: upRest r 1)) (rfl) (by rw [set_mid hml])
   refine go 2 [] [33, 31, 1, 5, 14, 15] hs .n ?_; clear hs w a; intro a w hs
   refine st_ldE hs rfl (hs.mem.keep hg (row_blk hr hg (by decide))) (.s (.s (.s .z))) Tryz.isAgg2 rfl ?_; clear hs w a; intro a w hs
   refine st_call hs (.c rfl (.c rfl .n)) Tryz.call162 (.c .z .n) (number_ok _ _ ((bs ++ (upMask r 1 ||| (1#8 <<< 1)) :: upRest r 1)) r.p1 _ (hs.mem.del .z) (by omega) (by omega)) rfl ?_; clear hs w a; rintro v9 _ a w rfl hs; simp only [List.cons_append, List.nil_append] at hs
   have hk10 := length_numB r.p1
   refine goL 3 [] [15, 0, 1, 5, 14] hs .n ⟨by decide, ?_⟩; clear hs w a; intro a w hs
   replace hs := hs.rerow .z (m' := (m + 1 + (upRest r 2).length)) (xs' := bytesV (bs ++ upMask r 2 :: upRest r 2)) (by first | (rw [upRest_z hz_]) | (rw [upRest_n hn_]; simp only [List.length_append, RecR.num]; omega)) (by first | (rw [upMask_z hz_, upRest_z hz_]) | (rw [upMask_n hn_, upRest_n hn_]; simp [bytesV_append, RecR.num]))
   exact ⟨v9, hs.sub (.c rfl (.c rfl (.c rfl (.c rfl (.c rfl .n)))))⟩
  replace c_7 := not_f c_7
  replace c_7 := eq_of_beq c_7
  have hz_ : r.num 1 = 0 := by show r.p1 = 0; assumption
  refine go 2 [] [15, 0, 1, 5, 14] hs .n ⟨by decide, ?_⟩; clear hs w a; intro a w hs
  replace hs := hs.rerow .z (m' := (m + 1 + (upRest r 2).length)) (xs' := bytesV (bs ++ upMask r 2 :: upRest r 2)) (by first | (rw [upRest_z hz_]) | (rw [upRest_n hn_]; simp only [List.length_append, RecR.num]; omega)) (by first | (rw [upMask_z hz_, upRest_z hz_]) | (rw [upMask_n hn_, upRest_n hn_]; simp [bytesV_append, RecR.num]))
  exact ⟨q, hs.sub (.c rfl (.c rfl (.c rfl (.c rfl (.c rfl .n)))))⟩
 clear hs w a; rintro a w ⟨q, hs⟩
 have hlu1 := length_upRest r 2
 refine againG ?_
 refine cutG (fun a w => ∃ q : Value, St 57 [(0, q), (1, .pointer (some ⟨g, 0, none⟩)), (5, .int .i64 ((m : Int))), (14, .agg #[.pointer (some ⟨g, 2, none⟩), .pointer (some ⟨g, 3, none⟩), .pointer (some ⟨g, 4, none⟩), .pointer (some ⟨g, 5, none⟩), .pointer (some ⟨g, 6, none⟩), .pointer (some ⟨g, 7, none⟩)]), (15, .int .i64 (3))] w0 (feet [row v 5 1 m (bytesV bs)]) [row q 5 1 ((m + 1 + (upRest r 3).length)) (bytesV (bs ++ upMask r 3 :: upRest r 3))] a w) ?_ ?_
 ·
  refine go 8 [] [20, 7, 6, 0, 1, 5, 14, 15] hs .n ?_; clear hs w a; intro a w hs
  refine st_ldE hs rfl (hs.mem.keep hg (row_blk hr hg (by decide))) (.s (.s (.s (.s .z)))) Tryz.isAgg2 rfl ?_; clear hs w a; intro a w hs
  refine goL 1 [] [22, 7, 6, 0, 1, 5, 14, 15] hs .n ?_; clear hs w a; intro a w hs
  refine ifG hs rfl (fun c_11 => ?_) (fun c_11 => ?_)
  ·
   replace c_11 := not_t c_11
   replace c_11 := ne_of_beq_f c_11
   have hn_ : r.num 2 ≠ 0 := by show r.p2 ≠ 0; assumption
   refine go 0 [] [7, 6, 0, 1, 5, 14, 15] hs .n ?_; clear hs w a; intro a w hs
   refine wp_drawS [.p [] [], .p [] [], .x [1, 0] ⟨[], [], [], fun vs12 => vs12 2 = .pointer (some (adr q m)), fun vs12 => [], none⟩, .x [] ⟨[], [], [], fun vs12 => vs12 3 = .int .u8 ((((upMask r 2).toNat : Nat) : Int)), fun vs12 => [], none⟩, .p [] [], .v [4] (.int .u8 (((((1#8) <<< 2).toNat : Nat) : Int))), .x [5] ⟨[], [], [], fun vs12 => vs12 6 = .int .u8 (((((upMask r 2) ||| ((1#8) <<< 2)).toNat : Nat) : Int)), fun vs12 => [], none⟩, .x [1, 0] ⟨[], [], [], fun vs12 => vs12 7 = .pointer (some (adr q m)), fun vs12 => [], none⟩, .x [] ⟨[row q 5 1 ((m + 1 + (upRest r 2).length)) (bytesV (bs ++ upMask r 2 :: upRest r 2))], [], [], fun vs12 => True, fun vs12 => [row q 5 1 ((m + 1 + (upRest r 2).length)) (bytesV ((bs ++ upMask r 2 :: upRest r 2).set m ((upMask r 2) ||| ((1#8) <<< 2))))], none⟩] [] hs (.c .z .n) .n (by kernel_rfl) ⟨?_, ⟨rfl, by kernel_rfl, fun _ => rfl⟩, ⟨?_, ?_, ?_, ?_, ?_, trivial⟩, ?_⟩
   ·
    intro a_ w_ R_ Q_ hm hs K_
    refine st_shl_u8 (X := 1#8) (m := 2) hs rfl (by decide) rfl (by decide) rfl ?_; clear hs; intro a w hs
    exact wpList_nil (K_ _ _ hs)
   ·
    intro a_ w_ R_ rest_ vs12 hm hs ht hx
    have hs0 := hs.bare
    refine st_ia1 (j := m) hs rfl rfl (rd_row (hm.own (List.mem_append.2 (.inr ((hx 8 (twB_spec 9 _ (by kernel_rfl))).1 _ (List.Mem.head _)))))) rfl (by omega) Tryz.underlying37 Tryz.sizeOf5 rfl ?_; clear hs; intro a w hs
    exact wpList_nil ⟨rfl, _, _, hs0, (.c (.c .r)), hs, rfl⟩
   ·
    intro a_ w_ R_ rest_ vs12 hm hs ht hx
    have t2 := ht 2 (twB_spec 9 _ (by kernel_rfl))
    have e2 : _ = some (vs12 2) := t2.val rfl
    rw [show vs12 2 = .pointer (some (adr q m)) from t2.2.1] at e2
    replace hs := hs.learn e2
    have hs0 := hs.bare
    refine st_ld hs rfl (rd_row (hm.own (List.mem_append.2 (.inr ((hx 8 (twB_spec 9 _ (by kernel_rfl))).1 _ (List.Mem.head _)))))) (bytesV_getD (bs ++ upMask r 2 :: upRest r 2) (by first | omega | (simp; omega))) Tryz.isAgg5 rfl ?_; clear hs; intro a w hs
    rw [getD_mid hml] at hs
    exact wpList_nil ⟨rfl, _, _, hs0, (.c .r), hs, rfl⟩
   ·
    intro a_ w_ R_ rest_ vs12 hm hs ht hx
    have t3 := ht 3 (twB_spec 9 _ (by kernel_rfl))
    have e3 : _ = some (vs12 3) := t3.val rfl
    rw [show vs12 3 = .int .u8 ((((upMask r 2).toNat : Nat) : Int)) from t3.2.1] at e3
    replace hs := hs.learn e3
    have hs0 := hs.bare
    refine st_or_u8 (X := upMask r 2) (Y := (1#8) <<< 2) hs rfl rfl rfl rfl rfl ?_; clear hs; intro a w hs
    exact wpList_nil ⟨rfl, _, _, hs0, (.c (.c .r)), hs, rfl⟩
   ·
    intro a_ w_ R_ rest_ vs12 hm hs ht hx
    have hs0 := hs.bare
    refine st_ia1 (j := m) hs rfl rfl (rd_row (hm.own (List.mem_append.2 (.inr ((hx 8 (twB_spec 9 _ (by kernel_rfl))).1 _ (List.Mem.head _)))))) rfl (by omega) Tryz.underlying37 Tryz.sizeOf5 rfl ?_; clear hs; intro a w hs
    exact wpList_nil ⟨rfl, _, _, hs0, (.c (.c .r)), hs, rfl⟩
   ·
    intro a_ w_ R_ rest_ vs12 hm hs ht hx
    have t6 := ht 6 (twB_spec 9 _ (by kernel_rfl))
    have e6 : _ = some (vs12 6) := t6.val rfl
    rw [show vs12 6 = .int .u8 (((((upMask r 2) ||| ((1#8) <<< 2)).toNat : Nat) : Int)) from t6.2.1] at e6
    replace hs := hs.learn e6
    have t7 := ht 7 (twB_spec 9 _ (by kernel_rfl))
    have e7 : _ = some (vs12 7) := t7.val rfl
    rw [show vs12 7 = .pointer (some (adr q m)) from t7.2.1] at e7
    replace hs := hs.learn e7
    have hs0 := hs.bare
    refine st_stR hs rfl rfl .z (by omega) rfl Tryz.sizeOf5 ?_; clear hs; intro a w hs
    replace hs := hs.rerow .z (m' := (m + 1 + (upRest r 2).length)) (xs' := bytesV ((bs ++ upMask r 2 :: upRest r 2).set m ((upMask r 2) ||| ((1#8) <<< 2)))) (rfl) ((bytesV_set _ _ _).symm)
    exact wpList_nil ⟨rfl, .tuple #[], _, hs0, (.c (.c .r)), hs, trivial⟩
   clear hs w a; intro vs12 a w hs hf
   clear hf
   refine goE 1 [] [31, 7, 1, 5, 14, 15] hs .n ?_; clear hs w a; intro a w hs
   replace hs := hs.rerow .z (m' := (m + 1 + (upRest r 2).length)) (xs' := bytesV (bs ++ (upMask r 2 ||| (1#8 <<< 2)) :: upRest r 2)) (rfl) (by rw [set_mid hml])
   refine go 2 [] [33, 31, 1, 5, 14, 15] hs .n ?_; clear hs w a; intro a w hs
   refine st_ldE hs rfl (hs.mem.keep hg (row_blk hr hg (by decide))) (.s (.s (.s (.s .z)))) Tryz.isAgg2 rfl ?_; clear hs w a; intro a w hs
   refine st_call hs (.c rfl (.c rfl .n)) Tryz.call162 (.c .z .n) (number_ok _ _ ((bs ++ (upMask r 2 ||| (1#8 <<< 2)) :: upRest r 2)) r.p2 _ (hs.mem.del .z) (by omega) (by omega)) rfl ?_; clear hs w a; rintro v13 _ a w rfl hs; simp only [List.cons_append, List.nil_append] at hs
   have hk14 := length_numB r.p2
   refine goL 3 [] [15, 0, 1, 5, 14] hs .n ⟨by decide, ?_⟩; clear hs w a; intro a w hs
   replace hs := hs.rerow .z (m' := (m + 1 + (upRest r 3).length)) (xs' := bytesV (bs ++ upMask r 3 :: upRest r 3)) (by first | (rw [upRest_z hz_]) | (rw [upRest_n hn_]; simp only [List.length_append, RecR.num]; omega)) (by first | (rw [upMask_z hz_, upRest_z hz_]) | (rw [upMask_n hn_, upRest_n hn_]; simp [bytesV_append, RecR.num]))
   exact ⟨v13, hs.sub (.c rfl (.c rfl (.c rfl (.c rfl (.c rfl .n)))))⟩
  replace c_11 := not_f c_11
  replace c_11 := eq_of_beq c_11
  have hz_ : r.num 2 = 0 := by show r.p2 = 0; assumption
  refine go 2 [] [15, 0, 1, 5, 14] hs .n ⟨by decide, ?_⟩; clear hs w a; intro a w hs
  replace hs := hs.rerow .z (m' := (m + 1 + (upRest r 3).length)) (xs' := bytesV (bs ++ upMask r 3 :: upRest r 3)) (by first | (rw [upRest_z hz_]) | (rw [upRest_n hn_]; simp only [List.length_append, RecR.num]; omega)) (by first | (rw [upMask_z hz_, upRest_z hz_]) | (rw [upMask_n hn_, upRest_n hn_]; simp [bytesV_append, RecR.num]))
  exact ⟨q, hs.sub (.c rfl (.c rfl (.c rfl (.c rfl (.c rfl .n)))))⟩
 clear hs w a; rintro a w ⟨q, hs⟩
 have hlu2 := length_upRest r 3
 refine againG ?_
 refine cutG (fun a w => ∃ q : Value, St 57 [(0, q), (1, .pointer (some ⟨g, 0, none⟩)), (5, .int .i64 ((m : Int))), (14, .agg #[.pointer (some ⟨g, 2, none⟩), .pointer (some ⟨g, 3, none⟩), .pointer (some ⟨g, 4, none⟩), .pointer (some ⟨g, 5, none⟩), .pointer (some ⟨g, 6, none⟩), .pointer (some ⟨g, 7, none⟩)]), (15, .int .i64 (4))] w0 (feet [row v 5 1 m (bytesV bs)]) [row q 5 1 ((m + 1 + (upRest r 4).length)) (bytesV (bs ++ upMask r 4 :: upRest r 4))] a w) ?_ ?_
 ·
  refine go 8 [] [20, 7, 6, 0, 1, 5, 14, 15] hs .n ?_; clear hs w a; intro a w hs
  refine st_ldE hs rfl (hs.mem.keep hg (row_blk hr hg (by decide))) (.s (.s (.s (.s (.s .z))))) Tryz.isAgg2 rfl ?_; clear hs w a; intro a w hs
  refine goL 1 [] [22, 7, 6, 0, 1, 5, 14, 15] hs .n ?_; clear hs w a; intro a w hs
  refine ifG hs rfl (fun c_15 => ?_) (fun c_15 => ?_)
  ·
   replace c_15 := not_t c_15
   replace c_15 := ne_of_beq_f c_15
   have hn_ : r.num 3 ≠ 0 := by show r.v0 ≠ 0; assumption
   refine go 0 [] [7, 6, 0, 1, 5, 14, 15] hs .n ?_; clear hs w a; intro a w hs
   refine wp_drawS [.p [] [], .p [] [], .x [1, 0] ⟨[], [], [], fun vs16 => vs16 2 = .pointer (some (adr q m)), fun vs16 => [], none⟩, .x [] ⟨[], [], [], fun vs16 => vs16 3 = .int .u8 ((((upMask r 3).toNat : Nat) : Int)), fun vs16 => [], none⟩, .p [] [], .v [4] (.int .u8 (((((1#8) <<< 3).toNat : Nat) : Int))), .x [5] ⟨[], [], [], fun vs16 => vs16 6 = .int .u8 (((((upMask r 3) ||| ((1#8) <<< 3)).toNat : Nat) : Int)), fun vs16 => [], none⟩, .x [1, 0] ⟨[], [], [], fun vs16 => vs16 7 = .pointer (some (adr q m)), fun vs16 => [], none⟩, .x [] ⟨[row q 5 1 ((m + 1 + (upRest r 3).length)) (bytesV (bs ++ upMask r 3 :: upRest r 3))], [], [], fun vs16 => True, fun vs16 => [row q 5 1 ((m + 1 + (upRest r 3).length)) (bytesV ((bs ++ upMask r 3 :: upRest r 3).set m ((upMask r 3) ||| ((1#8) <<< 3))))], none⟩] [] hs (.c .z .n) .n (by kernel_rfl) ⟨?_, ⟨rfl, by kernel_rfl, fun _ => rfl⟩, ⟨?_, ?_, ?_, ?_, ?_, trivial⟩, ?_⟩
   ·
    intro a_ w_ R_ Q_ hm hs K_
    refine st_shl_u8 (X := 1#8) (m := 3) hs rfl (by decide) rfl (by decide) rfl ?_; clear hs; intro a w hs
    exact wpList_nil (K_ _ _ hs)
   ·
    intro a_ w_ R_ rest_ vs16 hm hs ht hx
    have hs0 := hs.bare
    refine st_ia1 (j := m) hs rfl rfl (rd_row (hm.own (List.mem_append.2 (.inr ((hx 8 (twB_spec 9 _ (by kernel_rfl))).1 _ (List.Mem.head _)))))) rfl (by omega) Tryz.underlying37 Tryz.sizeOf5 rfl ?_; clear hs; intro a w hs
    exact wpList_nil ⟨rfl, _, _, hs0, (.c (.c .r)), hs, rfl⟩
   ·
    intro a_ w_ R_ rest_ vs16 hm hs ht hx
    have t2 := ht 2 (twB_spec 9 _ (by kernel_rfl))
    have e2 : _ = some (vs16 2) := t2.val rfl
    rw [show vs16 2 = .pointer (some (adr q m)) from t2.2.1] at e2
    replace hs := hs.learn e2
    have hs0 := hs.bare
    refine st_ld hs rfl (rd_row (hm.own (List.mem_append.2 (.inr ((hx 8 (twB_spec 9 _ (by kernel_rfl))).1 _ (List.Mem.head _)))))) (bytesV_getD (bs ++ upMask r 3 :: upRest r 3) (by first | omega | (simp; omega))) Tryz.isAgg5 rfl ?_; clear hs; intro a w hs
    rw [getD_mid hml] at hs
    exact wpList_nil ⟨rfl, _, _, hs0, (.c .r), hs, rfl⟩
   ·
    intro a_ w_ R_ rest_ vs16 hm hs ht hx
    have t3 := ht 3 (twB_spec 9 _ (by kernel_rfl))
    have e3 : _ = some (vs16 3) := t3.val rfl
    rw [show vs16 3 = .int .u8 ((((upMask r 3).toNat : Nat) : Int)) from t3.2.1] at e3
    replace hs := hs.learn e3
    have hs0 := hs.bare
    refine st_or_u8 (X := upMask r 3) (Y := (1#8) <<< 3) hs rfl rfl rfl rfl rfl ?_; clear hs; intro a w hs
    exact wpList_nil ⟨rfl, _, _, hs0, (.c (.c .r)), hs, rfl⟩
   ·
    intro a_ w_ R_ rest_ vs16 hm hs ht hx
    have hs0 := hs.bare
    refine st_ia1 (j := m) hs rfl rfl (rd_row (hm.own (List.mem_append.2 (.inr ((hx 8 (twB_spec 9 _ (by kernel_rfl))).1 _ (List.Mem.head _)))))) rfl (by omega) Tryz.underlying37 Tryz.sizeOf5 rfl ?_; clear hs; intro a w hs
    exact wpList_nil ⟨rfl, _, _, hs0, (.c (.c .r)), hs, rfl⟩
   ·
    intro a_ w_ R_ rest_ vs16 hm hs ht hx
    have t6 := ht 6 (twB_spec 9 _ (by kernel_rfl))
    have e6 : _ = some (vs16 6) := t6.val rfl
    rw [show vs16 6 = .int .u8 (((((upMask r 3) ||| ((1#8) <<< 3)).toNat : Nat) : Int)) from t6.2.1] at e6
    replace hs := hs.learn e6
    have t7 := ht 7 (twB_spec 9 _ (by kernel_rfl))
    have e7 : _ = some (vs16 7) := t7.val rfl
    rw [show vs16 7 = .pointer (some (adr q m)) from t7.2.1] at e7
    replace hs := hs.learn e7
    have hs0 := hs.bare
    refine st_stR hs rfl rfl .z (by omega) rfl Tryz.sizeOf5 ?_; clear hs; intro a w hs
    replace hs := hs.rerow .z (m' := (m + 1 + (upRest r 3).length)) (xs' := bytesV ((bs ++ upMask r 3 :: upRest r 3).set m ((upMask r 3) ||| ((1#8) <<< 3)))) (rfl) ((bytesV_set _ _ _).symm)
    exact wpList_nil ⟨rfl, .tuple #[], _, hs0, (.c (.c .r)), hs, trivial⟩
   clear hs w a; intro vs16 a w hs hf
   clear hf
   refine goE 1 [] [31, 7, 1, 5, 14, 15] hs .n ?_; clear hs w a; intro a w hs
   replace hs := hs.rerow .z (m' := (m + 1 + (upRest r 3).length)) (xs' := bytesV (bs ++ (upMask r 3 ||| (1#8 <<< 3)) :: upRest r 3)) (rfl) (by rw [set_mid hml])
   refine go 2 [] [33, 31, 1, 5, 14, 15] hs .n ?_; clear hs w a; intro a w hs
   refine st_ldE hs rfl (hs.mem.keep hg (row_blk hr hg (by decide))) (.s (.s (.s (.s (.s .z))))) Tryz.isAgg2 rfl ?_; clear hs w a; intro a w hs
   refine st_call hs (.c rfl (.c rfl .n)) Tryz.call162 (.c .z .n) (number_ok _ _ ((bs ++ (upMask r 3 ||| (1#8 <<< 3)) :: upRest r 3)) r.v0 _ (hs.mem.del .z) (by omega) (by omega)) rfl ?_; clear hs w a; rintro v17 _ a w rfl hs; simp only [List.cons_append, List.nil_append] at hs
   have hk18 := length_numB r.v0
   refine goL 3 [] [15, 0, 1, 5, 14] hs .n ⟨by decide, ?_⟩; clear hs w a; intro a w hs
   replace hs := hs.rerow .z (m' := (m + 1 + (upRest r 4).length)) (xs' := bytesV (bs ++ upMask r 4 :: upRest r 4)) (by first | (rw [upRest_z hz_]) | (rw [upRest_n hn_]; simp only [List.length_append, RecR.num]; omega)) (by first | (rw [upMask_z hz_, upRest_z hz_]) | (rw [upMask_n hn_, upRest_n hn_]; simp [bytesV_append, RecR.num]))
   exact ⟨v17, hs.sub (.c rfl (.c rfl (.c rfl (.c rfl (.c rfl .n)))))⟩
  replace c_15 := not_f c_15
  replace c_15 := eq_of_beq c_15
  have hz_ : r.num 3 = 0 := by show r.v0 = 0; assumption
  refine go 2 [] [15, 0, 1, 5, 14] hs .n ⟨by decide, ?_⟩; clear hs w a; intro a w hs
  replace hs := hs.rerow .z (m' := (m + 1 + (upRest r 4).length)) (xs' := bytesV (bs ++ upMask r 4 :: upRest r 4)) (by first | (rw [upRest_z hz_]) | (rw [upRest_n hn_]; simp only [List.length_append, RecR.num]; omega)) (by first | (rw [upMask_z hz_, upRest_z hz_]) | (rw [upMask_n hn_, upRest_n hn_]; simp [bytesV_append, RecR.num]))
  exact ⟨q, hs.sub (.c rfl (.c rfl (.c rfl (.c rfl (.c rfl .n)))))⟩
 clear hs w a; rintro a w ⟨q, hs⟩
 have hlu3 := length_upRest r 4
 refine againG ?_
 refine cutG (fun a w => ∃ q : Value, St 57 [(0, q), (1, .pointer (some ⟨g, 0, none⟩)), (5, .int .i64 ((m : Int))), (14, .agg #[.pointer (some ⟨g, 2, none⟩), .pointer (some ⟨g, 3, none⟩), .pointer (some ⟨g, 4, none⟩), .pointer (some ⟨g, 5, none⟩), .pointer (some ⟨g, 6, none⟩), .pointer (some ⟨g, 7, none⟩)]), (15, .int .i64 (5))] w0 (feet [row v 5 1 m (bytesV bs)]) [row q 5 1 ((m + 1 + (upRest r 5).length)) (bytesV (bs ++ upMask r 5 :: upRest r 5))] a w) ?_ ?_
 ·
  refine go 8 [] [20, 7, 6, 0, 1, 5, 14, 15] hs .n ?_; clear hs w a; intro a w hs
  refine st_ldE hs rfl (hs.mem.keep hg (row_blk hr hg (by decide))) (.s (.s (.s (.s (.s (.s .z)))))) Tryz.isAgg2 rfl ?_; clear hs w a; intro a w hs
  refine goL 1 [] [22, 7, 6, 0, 1, 5, 14, 15] hs .n ?_; clear hs w a; intro a w hs
  refine ifG hs rfl (fun c_19 => ?_) (fun c_19 => ?_)
  ·
   replace c_19 := not_t c_19
   replace c_19 := ne_of_beq_f c_19
   have hn_ : r.num 4 ≠ 0 := by show r.v1 ≠ 0; assumption
   refine go 0 [] [7, 6, 0, 1, 5, 14, 15] hs .n ?_; clear hs w a; intro a w hs
   refine wp_drawS [.p [] [], .p [] [], .x [1, 0] ⟨[], [], [], fun vs20 => vs20 2 = .pointer (some (adr q m)), fun vs20 => [], none⟩, .x [] ⟨[], [], [], fun vs20 => vs20 3 = .int .u8 ((((upMask r 4).toNat : Nat) : Int)), fun vs20 => [], none⟩, .p [] [], .v [4] (.int .u8 (((((1#8) <<< 4).toNat : Nat) : Int))), .x [5] ⟨[], [], [], fun vs20 => vs20 6 = .int .u8 (((((upMask r 4) ||| ((1#8) <<< 4)).toNat : Nat) : Int)), fun vs20 => [], none⟩, .x [1, 0] ⟨[], [], [], fun vs20 => vs20 7 = .pointer (some (adr q m)), fun vs20 => [], none⟩, .x [] ⟨[row q 5 1 ((m + 1 + (upRest r 4).length)) (bytesV (bs ++ upMask r 4 :: upRest r 4))], [], [], fun vs20 => True, fun vs20 => [row q 5 1 ((m + 1 + (upRest r 4).length)) (bytesV ((bs ++ upMask r 4 :: upRest r 4).set m ((upMask r 4) ||| ((1#8) <<< 4))))], none⟩] [] hs (.c .z .n) .n (by kernel_rfl) ⟨?_, ⟨rfl, by kernel_rfl, fun _ => rfl⟩, ⟨?_, ?_, ?_, ?_, ?_, trivial⟩, ?_⟩
   ·
    intro a_ w_ R_ Q_ hm hs K_
    refine st_shl_u8 (X := 1#8) (m := 4) hs rfl (by decide) rfl (by decide) rfl ?_; clear hs; intro a w hs
    exact wpList_nil (K_ _ _ hs)
   ·
    intro a_ w_ R_ rest_ vs20 hm hs ht hx
    have hs0 := hs.bare
    refine st_ia1 (j := m) hs rfl rfl (rd_row (hm.own (List.mem_append.2 (.inr ((hx 8 (twB_spec 9 _ (by kernel_rfl))).1 _ (List.Mem.head _)))))) rfl (by omega) Tryz.underlying37 Tryz.sizeOf5 rfl ?_; clear hs; intro a w hs
    exact wpList_nil ⟨rfl, _, _, hs0, (.c (.c .r)), hs, rfl⟩
   ·
    intro a_ w_ R_ rest_ vs20 hm hs ht hx
    have t2 := ht 2 (twB_spec 9 _ (by kernel_rfl))
    have e2 : _ = some (vs20 2) := t2.val rfl
    rw [show vs20 2 = .pointer (some (adr q m)) from t2.2.1] at e2
    replace hs := hs.learn e2
    have hs0 := hs.bare
    refine st_ld hs rfl (rd_row (hm.own (List.mem_append.2 (.inr ((hx 8 (twB_spec 9 _ (by kernel_rfl))).1 _ (List.Mem.head _)))))) (bytesV_getD (bs ++ upMask r 4 :: upRest r 4) (by first | omega | (simp; omega))) Tryz.isAgg5 rfl ?_; clear hs; intro a w hs
    rw [getD_mid hml] at hs
    exact wpList_nil ⟨rfl, _, _, hs0, (.c .r), hs, rfl⟩
   ·
    intro a_ w_ R_ rest_ vs20 hm hs ht hx
    have t3 := ht 3 (twB_spec 9 _ (by kernel_rfl))
    have e3 : _ = some (vs20 3) := t3.val rfl
    rw [show vs20 3 = .int .u8 ((((upMask r 4).toNat : Nat) : Int)) from t3.2.1] at e3
    replace hs := hs.learn e3
    have hs0 := hs.bare
    refine st_or_u8 (X := upMask r 4) (Y := (1#8) <<< 4) hs rfl rfl rfl rfl rfl ?_; clear hs; intro a w hs
    exact wpList_nil ⟨rfl, _, _, hs0, (.c (.c .r)), hs, rfl⟩
   ·
    intro a_ w_ R_ rest_ vs20 hm hs ht hx
    have hs0 := hs.bare
    refine st_ia1 (j := m) hs rfl rfl (rd_row (hm.own (List.mem_append.2 (.inr ((hx 8 (twB_spec 9 _ (by kernel_rfl))).1 _ (List.Mem.head _)))))) rfl (by omega) Tryz.underlying37 Tryz.sizeOf5 rfl ?_; clear hs; intro a w hs
    exact wpList_nil ⟨rfl, _, _, hs0, (.c (.c .r)), hs, rfl⟩
   ·
    intro a_ w_ R_ rest_ vs20 hm hs ht hx
    have t6 := ht 6 (twB_spec 9 _ (by kernel_rfl))
    have e6 : _ = some (vs20 6) := t6.val rfl
    rw [show vs20 6 = .int .u8 (((((upMask r 4) ||| ((1#8) <<< 4)).toNat : Nat) : Int)) from t6.2.1] at e6
    replace hs := hs.learn e6
    have t7 := ht 7 (twB_spec 9 _ (by kernel_rfl))
    have e7 : _ = some (vs20 7) := t7.val rfl
    rw [show vs20 7 = .pointer (some (adr q m)) from t7.2.1] at e7
    replace hs := hs.learn e7
    have hs0 := hs.bare
    refine st_stR hs rfl rfl .z (by omega) rfl Tryz.sizeOf5 ?_; clear hs; intro a w hs
    replace hs := hs.rerow .z (m' := (m + 1 + (upRest r 4).length)) (xs' := bytesV ((bs ++ upMask r 4 :: upRest r 4).set m ((upMask r 4) ||| ((1#8) <<< 4)))) (rfl) ((bytesV_set _ _ _).symm)
    exact wpList_nil ⟨rfl, .tuple #[], _, hs0, (.c (.c .r)), hs, trivial⟩
   clear hs w a; intro vs20 a w hs hf
   clear hf
   refine goE 1 [] [31, 7, 1, 5, 14, 15] hs .n ?_; clear hs w a; intro a w hs
   replace hs := hs.rerow .z (m' := (m + 1 + (upRest r 4).length)) (xs' := bytesV (bs ++ (upMask r 4 ||| (1#8 <<< 4)) :: upRest r 4)) (rfl) (by rw [set_mid hml])
   refine go 2 [] [33, 31, 1, 5, 14, 15] hs .n ?_; clear hs w a; intro a w hs
   refine st_ldE hs rfl (hs.mem.keep hg (row_blk hr hg (by decide))) (.s (.s (.s (.s (.s (.s .z)))))) Tryz.isAgg2 rfl ?_; clear hs w a; intro a w hs
   refine st_call hs (.c rfl (.c rfl .n)) Tryz.call162 (.c .z .n) (number_ok _ _ ((bs ++ (upMask r 4 ||| (1#8 <<< 4)) :: upRest r 4)) r.v1 _ (hs.mem.del .z) (by omega) (by omega)) rfl ?_; clear hs w a; rintro v21 _ a w rfl hs; simp only [List.cons_append, List.nil_append] at hs
   have hk22 := length_numB r.v1
   refine goL 3 [] [15, 0, 1, 5, 14] hs .n ⟨by decide, ?_⟩; clear hs w a; intro a w hs
   replace hs := hs.rerow .z (m' := (m + 1 + (upRest r 5).length)) (xs' := bytesV (bs ++ upMask r 5 :: upRest r 5)) (by first | (rw [upRest_z hz_]) | (rw [upRest_n hn_]; simp only [List.length_append, RecR.num]; omega)) (by first | (rw [upMask_z hz_, upRest_z hz_]) | (rw [upMask_n hn_, upRest_n hn_]; simp [bytesV_append, RecR.num]))
   exact ⟨v21, hs.sub (.c rfl (.c rfl (.c rfl (.c rfl (.c rfl .n)))))⟩
  replace c_19 := not_f c_19
  replace c_19 := eq_of_beq c_19
  have hz_ : r.num 4 = 0 := by show r.v1 = 0; assumption
  refine go 2 [] [15, 0, 1, 5, 14] hs .n ⟨by decide, ?_⟩; clear hs w a; intro a w hs
  replace hs := hs.rerow .z (m' := (m + 1 + (upRest r 5).length)) (xs' := bytesV (bs ++ upMask r 5 :: upRest r 5)) (by first | (rw [upRest_z hz_]) | (rw [upRest_n hn_]; simp only [List.length_append, RecR.num]; omega)) (by first | (rw [upMask_z hz_, upRest_z hz_]) | (rw [upMask_n hn_, upRest_n hn_]; simp [bytesV_append, RecR.num]))
  exact ⟨q, hs.sub (.c rfl (.c rfl (.c rfl (.c rfl (.c rfl .n)))))⟩
 clear hs w a; rintro a w ⟨q, hs⟩
 have hlu4 := length_upRest r 5
 refine againG ?_
 refine cutG (fun a w => ∃ q : Value, St 57 [(0, q), (1, .pointer (some ⟨g, 0, none⟩)), (5, .int .i64 ((m : Int))), (14, .agg #[.pointer (some ⟨g, 2, none⟩), .pointer (some ⟨g, 3, none⟩), .pointer (some ⟨g, 4, none⟩), .pointer (some ⟨g, 5, none⟩), .pointer (some ⟨g, 6, none⟩), .pointer (some ⟨g, 7, none⟩)]), (15, .int .i64 (6))] w0 (feet [row v 5 1 m (bytesV bs)]) [row q 5 1 ((m + 1 + (upRest r 6).length)) (bytesV (bs ++ upMask r 6 :: upRest r 6))] a w) ?_ ?_
 ·
  refine go 8 [] [20, 7, 6, 0, 1, 5, 14, 15] hs .n ?_; clear hs w a; intro a w hs
  refine st_ldE hs rfl (hs.mem.keep hg (row_blk hr hg (by decide))) (.s (.s (.s (.s (.s (.s (.s .z))))))) Tryz.isAgg2 rfl ?_; clear hs w a; intro a w hs
  refine goL 1 [] [22, 7, 6, 0, 1, 5, 14, 15] hs .n ?_; clear hs w a; intro a w hs
  refine ifG hs rfl (fun c_23 => ?_) (fun c_23 => ?_)
  ·
   replace c_23 := not_t c_23
   replace c_23 := ne_of_beq_f c_23
   have hn_ : r.num 5 ≠ 0 := by show r.v2 ≠ 0; assumption
   refine go 0 [] [7, 6, 0, 1, 5, 14, 15] hs .n ?_; clear hs w a; intro a w hs
   refine wp_drawS [.p [] [], .p [] [], .x [1, 0] ⟨[], [], [], fun vs24 => vs24 2 = .pointer (some (adr q m)), fun vs24 => [], none⟩, .x [] ⟨[], [], [], fun vs24 => vs24 3 = .int .u8 ((((upMask r 5).toNat : Nat) : Int)), fun vs24 => [], none⟩, .p [] [], .v [4] (.int .u8 (((((1#8) <<< 5).toNat : Nat) : Int))), .x [5] ⟨[], [], [], fun vs24 => vs24 6 = .int .u8 (((((upMask r 5) ||| ((1#8) <<< 5)).toNat : Nat) : Int)), fun vs24 => [], none⟩, .x [1, 0] ⟨[], [], [], fun vs24 => vs24 7 = .pointer (some (adr q m)), fun vs24 => [], none⟩, .x [] ⟨[row q 5 1 ((m + 1 + (upRest r 5).length)) (bytesV (bs ++ upMask r 5 :: upRest r 5))], [], [], fun vs24 => True, fun vs24 => [row q 5 1 ((m + 1 + (upRest r 5).length)) (bytesV ((bs ++ upMask r 5 :: upRest r 5).set m ((upMask r 5) ||| ((1#8) <<< 5))))], none⟩] [] hs (.c .z .n) .n (by kernel_rfl) ⟨?_, ⟨rfl, by kernel_rfl, fun _ => rfl⟩, ⟨?_, ?_, ?_, ?_, ?_, trivial⟩, ?_⟩
   ·
    intro a_ w_ R_ Q_ hm hs K_
    refine st_shl_u8 (X := 1#8) (m := 5) hs rfl (by decide) rfl (by decide) rfl ?_; clear hs; intro a w hs
    exact wpList_nil (K_ _ _ hs)
   ·
    intro a_ w_ R_ rest_ vs24 hm hs ht hx
    have hs0 := hs.bare
    refine st_ia1 (j := m) hs rfl rfl (rd_row (hm.own (List.mem_append.2 (.inr ((hx 8 (twB_spec 9 _ (by kernel_rfl))).1 _ (List.Mem.head _)))))) rfl (by omega) Tryz.underlying37 Tryz.sizeOf5 rfl ?_; clear hs; intro a w hs
    exact wpList_nil ⟨rfl, _, _, hs0, (.c (.c .r)), hs, rfl⟩
   ·
    intro a_ w_ R_ rest_ vs24 hm hs ht hx
    have t2 := ht 2 (twB_spec 9 _ (by kernel_rfl))
    have e2 : _ = some (vs24 2) := t2.val rfl
    rw [show vs24 2 = .pointer (some (adr q m)) from t2.2.1] at e2
    replace hs := hs.learn e2
    have hs0 := hs.bare
    refine st_ld hs rfl (rd_row (hm.own (List.mem_append.2 (.inr ((hx 8 (twB_spec 9 _ (by kernel_rfl))).1 _ (List.Mem.head _)))))) (bytesV_getD (bs ++ upMask r 5 :: upRest r 5) (by first | omega | (simp; omega))) Tryz.isAgg5 rfl ?_; clear hs; intro a w hs
    rw [getD_mid hml] at hs
    exact wpList_nil ⟨rfl, _, _, hs0, (.c .r), hs, rfl⟩
   ·
    intro a_ w_ R_ rest_ vs24 hm hs ht hx
    have t3 := ht 3 (twB_spec 9 _ (by kernel_rfl))
    have e3 : _ = some (vs24 3) := t3.val rfl
    rw [show vs24 3 = .int .u8 ((((upMask r 5).toNat : Nat) : Int)) from t3.2.1] at e3
    replace hs := hs.learn e3
    have hs0 := hs.bare
    refine st_or_u8 (X := upMask r 5) (Y := (1#8) <<< 5) hs rfl rfl rfl rfl rfl ?_; clear hs; intro a w hs
    exact wpList_nil ⟨rfl, _, _, hs0, (.c (.c .r)), hs, rfl⟩
   ·
    intro a_ w_ R_ rest_ vs24 hm hs ht hx
    have hs0 := hs.bare
    refine st_ia1 (j := m) hs rfl rfl (rd_row (hm.own (List.mem_append.2 (.inr ((hx 8 (twB_spec 9 _ (by kernel_rfl))).1 _ (List.Mem.head _)))))) rfl (by omega) Tryz.underlying37 Tryz.sizeOf5 rfl ?_; clear hs; intro a w hs
    exact wpList_nil ⟨rfl, _, _, hs0, (.c (.c .r)), hs, rfl⟩
   ·
    intro a_ w_ R_ rest_ vs24 hm hs ht hx
    have t6 := ht 6 (twB_spec 9 _ (by kernel_rfl))
    have e6 : _ = some (vs24 6) := t6.val rfl
    rw [show vs24 6 = .int .u8 (((((upMask r 5) ||| ((1#8) <<< 5)).toNat : Nat) : Int)) from t6.2.1] at e6
    replace hs := hs.learn e6
    have t7 := ht 7 (twB_spec 9 _ (by kernel_rfl))
    have e7 : _ = some (vs24 7) := t7.val rfl
    rw [show vs24 7 = .pointer (some (adr q m)) from t7.2.1] at e7
    replace hs := hs.learn e7
    have hs0 := hs.bare
    refine st_stR hs rfl rfl .z (by omega) rfl Tryz.sizeOf5 ?_; clear hs; intro a w hs
    replace hs := hs.rerow .z (m' := (m + 1 + (upRest r 5).length)) (xs' := bytesV ((bs ++ upMask r 5 :: upRest r 5).set m ((upMask r 5) ||| ((1#8) <<< 5)))) (rfl) ((bytesV_set _ _ _).symm)
    exact wpList_nil ⟨rfl, .tuple #[], _, hs0, (.c (.c .r)), hs, trivial⟩
   clear hs w a; intro vs24 a w hs hf
   clear hf
   refine goE 1 [] [31, 7, 1, 5, 14, 15] hs .n ?_; clear hs w a; intro a w hs
   replace hs := hs.rerow .z (m' := (m + 1 + (upRest r 5).length)) (xs' := bytesV (bs ++ (upMask r 5 ||| (1#8 <<< 5)) :: upRest r 5)) (rfl) (by rw [set_mid hml])
   refine go 2 [] [33, 31, 1, 5, 14, 15] hs .n ?_; clear hs w a; intro a w hs
   refine st_ldE hs rfl (hs.mem.keep hg (row_blk hr hg (by decide))) (.s (.s (.s (.s (.s (.s (.s .z))))))) Tryz.isAgg2 rfl ?_; clear hs w a; intro a w hs
   refine st_call hs (.c rfl (.c rfl .n)) Tryz.call162 (.c .z .n) (number_ok _ _ ((bs ++ (upMask r 5 ||| (1#8 <<< 5)) :: upRest r 5)) r.v2 _ (hs.mem.del .z) (by omega) (by omega)) rfl ?_; clear hs w a; rintro v25 _ a w rfl hs; simp only [List.cons_append, List.nil_append] at hs
   have hk26 := length_numB r.v2
   refine goL 3 [] [15, 0, 1, 5, 14] hs .n ⟨by decide, ?_⟩; clear hs w a; intro a w hs
   replace hs := hs.rerow .z (m' := (m + 1 + (upRest r 6).length)) (xs' := bytesV (bs ++ upMask r 6 :: upRest r 6)) (by first | (rw [upRest_z hz_]) | (rw [upRest_n hn_]; simp only [List.length_append, RecR.num]; omega)) (by first | (rw [upMask_z hz_, upRest_z hz_]) | (rw [upMask_n hn_, upRest_n hn_]; simp [bytesV_append, RecR.num]))
   exact ⟨v25, hs.sub (.c rfl (.c rfl (.c rfl (.c rfl (.c rfl .n)))))⟩
  replace c_23 := not_f c_23
  replace c_23 := eq_of_beq c_23
  have hz_ : r.num 5 = 0 := by show r.v2 = 0; assumption
  refine go 2 [] [15, 0, 1, 5, 14] hs .n ⟨by decide, ?_⟩; clear hs w a; intro a w hs
  replace hs := hs.rerow .z (m' := (m + 1 + (upRest r 6).length)) (xs' := bytesV (bs ++ upMask r 6 :: upRest r 6)) (by first | (rw [upRest_z hz_]) | (rw [upRest_n hn_]; simp only [List.length_append, RecR.num]; omega)) (by first | (rw [upMask_z hz_, upRest_z hz_]) | (rw [upMask_n hn_, upRest_n hn_]; simp [bytesV_append, RecR.num]))
  exact ⟨q, hs.sub (.c rfl (.c rfl (.c rfl (.c rfl (.c rfl .n)))))⟩
 clear hs w a; rintro a w ⟨q, hs⟩
 have hlu5 := length_upRest r 6
 refine againG ?_
 refine go 5 [] [39, 0, 1, 5] hs .n ?_; clear hs w a; intro a w hs
 refine st_ldE hs rfl (hs.mem.keep hg (row_blk hr hg (by decide))) (.s (.s (.s (.s (.s (.s (.s (.s .z)))))))) Tryz.isAgg70 rfl ?_; clear hs w a; intro a w hs
 refine goL 1 [] [41, 0, 1, 5] hs .n ?_; clear hs w a; intro a w hs
 refine ifG hs rfl (fun c_27 => ?_) (fun c_27 => ?_)
 ·
  replace c_27 := not_t c_27
  replace c_27 := ne_of_beq_f c_27
  refine go 2 [] [43, 42, 0, 1] hs .n ?_; clear hs w a; intro a w hs
  refine st_ia1 (j := m) hs rfl rfl (rd_row (hs.mem.del .z)) rfl (by omega) Tryz.underlying37 Tryz.sizeOf5 rfl ?_; clear hs w a; intro a w hs
  refine st_ld hs rfl (rd_row (hs.mem.del .z)) (bytesV_getD (bs ++ upMask r 6 :: upRest r 6) (by first | omega | (simp; omega))) Tryz.isAgg5 rfl ?_; clear hs w a; intro a w hs
  rw [getD_mid hml] at hs
  refine st_or_u8 (X := upMask r 6) (Y := 64#8) hs rfl rfl rfl (by decide) rfl ?_; clear hs w a; intro a w hs
  refine st_ia1 (j := m) hs rfl rfl (rd_row (hs.mem.del .z)) rfl (by omega) Tryz.underlying37 Tryz.sizeOf5 rfl ?_; clear hs w a; intro a w hs
  refine st_stR hs rfl rfl .z (by omega) rfl Tryz.sizeOf5 ?_; clear hs w a; intro a w hs
  replace hs := hs.rerow .z (m' := (m + 1 + (upRest r 6).length)) (xs' := bytesV ((bs ++ upMask r 6 :: upRest r 6).set m ((upMask r 6) ||| (64#8)))) (rfl) ((bytesV_set _ _ _).symm)
  refine goL 1 [] [48, 1] hs .n ?_; clear hs w a; intro a w hs
  replace hs := hs.rerow .z (m' := (m + 1 + (upRest r 6).length)) (xs' := bytesV (bs ++ (upMask r 6 ||| 64#8) :: upRest r 6)) (rfl) (by rw [set_mid hml])
  refine go 3 [] [51, 48] hs .n ?_; clear hs w a; intro a w hs
  refine st_ldE hs rfl (hs.mem.keep hg (row_blk hr hg (by decide))) (.s (.s (.s (.s (.s (.s (.s (.s .z)))))))) Tryz.isAgg70 rfl ?_; clear hs w a; intro a w hs
  refine st_cv_u16_u64 (X := r.a) hs rfl rfl Tryz.underlying70 Tryz.underlying129 rfl ?_; clear hs w a; intro a w hs
  refine st_call hs (.c rfl .n) Tryz.call93 .n (put_ok ((r.a).setWidth 64) _) rfl ?_; clear hs w a; rintro v28 _ a w rfl hs; simp only [List.cons_append, List.nil_append] at hs
  replace hs := hs.rerow .z (m' := (vput r.a.toNat).length) (xs' := bytesV (vput r.a.toNat)) (by rw [sw64]; rfl) (by rw [sw64])
  refine st_app (size := 1) (bytes := 1) hs rfl rfl (.s .z) (rd_row (hs.mem.del .z)) (oneCell_bytesV _) Tryz.underlying37 (i := Tryz.t5) rfl rfl rfl rfl rfl (by decide) (by omega) (by simp only [maxLen]; omega) rfl ?_; clear hs w a; intro v29 a w hs
  refine goL 3 [] [4] hs .n ?_; clear hs w a; intro a w hs
  replace hs := hs.drop (.c (.s .z) .n)
  replace hs := hs.rerow .z (m' := m + (recSome r).length) (xs' := bytesV (bs ++ recSome r)) (by first | (rw [recSome_z (by omega)]; simp only [List.length_append, List.length_cons]; omega) | (rw [recSome_n (by omega)]; simp only [List.length_append, List.length_cons]; omega)) (by first | (rw [recSome_z (by omega)]) | (rw [recSome_n (by omega)]; simp [bytesV]))
  exact fin hs rfl rfl rfl
 replace c_27 := not_f c_27
 replace c_27 := eq_of_beq c_27
 refine go 2 [] [4] hs .n ?_; clear hs w a; intro a w hs
 replace hs := hs.rerow .z (m' := m + (recSome r).length) (xs' := bytesV (bs ++ recSome r)) (by first | (rw [recSome_z (by omega)]; simp only [List.length_append, List.length_cons]; omega) | (rw [recSome_n (by omega)]; simp only [List.length_append, List.length_cons]; omega)) (by first | (rw [recSome_z (by omega)]) | (rw [recSome_n (by omega)]; simp [bytesV]))
 exact fin hs rfl rfl rfl
theorem kinds1_ok (v : Value) (m : Nat) (bs : List Byte) (g : Nat) (w0 : World) (hr : (row v 5 1 m (bytesV bs)).p w0) : Calls Tryz.prog 137 #[v, .pointer (some ⟨g, 0, none⟩)] w0 (Ret w0 (feet [row v 5 1 m (bytesV bs)]) fun u N => u = v ∧ N = [row v 5 1 m (bytesV bs)]) := by
 refine enterG (F0 := [(0, v), (1, .pointer (some ⟨g, 0, none⟩))]) Tryz.func137 rfl rfl rfl (.c (.c .n)) (mem_one hr row_nd) fun a w hs => ?_
 refine go 3 [] [4] hs .n ?_; clear hs w a; intro a w hs
 exact fin hs rfl rfl ⟨rfl, rfl⟩
theorem kinds_ok (w0 : World) : Calls Tryz.prog 94 #[] w0 (RetV w0 (.agg #[.func (.func 139) #[] #[], .func (.func 140) #[] #[], .func (.func 141) #[] #[], .func (.func 142) #[] #[], .func (.func 137) #[] #[], .func (.func 138) #[] #[], .func (.func 139) #[] #[], .func (.func 140) #[] #[]])) := by
 refine enterG (F0 := []) Tryz.func94 rfl rfl rfl .n (Mem.nil _) fun a w hs => ?_
 refine go 10 [0, 0, 1] [0] hs .n (fun g1 => fun g2 => ⟨rfl, rfl, rfl, ?_⟩); clear hs w a; intro a w hs
 exact finC hs rfl rfl (.s .z) (.z (.c (.c (.c (.c (.c (.c (.c (.c .n))))))))) Tryz.isAgg167 Tryz.sizeOf167 (.c (.s .z) (.c .z .n)) ⟨rfl, rfl⟩
theorem write_ok (r : RecR) (last : Int) (w0 : World) (hw : r.wf) (hl : -9223372036854775808 ≤ last ∧ last ≤ 9223372036854775807) : Calls Tryz.prog 69 #[.agg #[.int .i64 (r.k), .int .i64 (r.id), .int .i64 (r.p0), .int .i64 (r.p1), .int .i64 (r.p2), .int .i64 (r.v0), .int .i64 (r.v1), .int .i64 (r.v2), .int .u16 ((((r.a).toNat : Nat) : Int))], .int .i64 last] w0 (Ret w0 [] fun u N => ∃ v, u = .tuple #[v, .int .i64 ((recErr r last : Nat) : Int)] ∧ N = [row v 5 1 (recB r last).length (bytesV (recB r last))]) := by
 have hwf := hw.facts
 have hva := vlen10 r.a.toNat
 have hal := length_recAll r
 have hsl := length_recSome r
 have hul := length_upRest r 6
 have hul0 := length_upRest r 0
 have hhl := length_recHead r last
 have hvX := vlen_le (BitVec.ofInt 64 (r.id - last - 1)).toNat
 refine enterG (F0 := [(0, .agg #[.int .i64 (r.k), .int .i64 (r.id), .int .i64 (r.p0), .int .i64 (r.p1), .int .i64 (r.p2), .int .i64 (r.v0), .int .i64 (r.v1), .int .i64 (r.v2), .int .u16 ((((r.a).toNat : Nat) : Int))]), (1, .int .i64 (last))]) Tryz.func69 rfl rfl rfl (.c (.c .n)) (Mem.nil _) fun a w hs => ?_
 refine go 4 [0, 0] [8, 2, 1] hs .n (fun g1 => ⟨rfl, ?_⟩); clear hs w a; intro a w hs
 refine st_callP (v := .int .i64 (((recChk r : Nat) : Int))) hs (.c rfl .n) Tryz.call63 (chk_ok r _) rfl ?_; clear hs w a; intro a w hs
 refine goL 3 [] [11, 6, 2, 1] hs .n ?_; clear hs w a; intro a w hs
 refine ifG hs rfl (fun c_2 => ?_) (fun c_2 => ?_)
 ·
  replace c_2 := not_t c_2
  replace c_2 := ne_of_beq_f c_2
  refine go 3 [] [5, 4] hs .n ?_; clear hs w a; intro a w hs
  have hre : recErr r last = recChk r := by first | exact recErr_chk (by omega) | exact recErr_rng (by omega) (by omega) | exact recErr_ord (by omega) (by omega) (by omega) | exact recErr_ok (by omega) (by omega) (by omega)
  replace hs := hs.drop (.c .z .n)
  replace hs := hs.addNil 5 1
  replace hs := hs.rerow .z (m' := (recB r last).length) (xs' := bytesV (recB r last)) (by rw [recB_err (by omega)]; rfl) (by rw [recB_err (by omega)]; rfl)
  exact fin2 hs rfl rfl rfl ⟨_, congrArg (fun z : Nat => Value.tuple #[.slice none 0 0, .int .i64 (z : Int)]) hre.symm, rfl⟩
 replace c_2 := not_f c_2
 replace c_2 := eq_of_beq c_2
 have hck := recChk_0 (r := r) (by omega)
 refine go 3 [] [16, 2, 1] hs .n ?_; clear hs w a; intro a w hs
 refine st_part (b := decide (last < (-1))) (fun c_3 => ?_) (fun c_3 => ?_)
 ·
  rw [c_3] at hs
  replace c_3 := of_decide_eq_true c_3
  refine go 7 [] [5, 4] hs .n ?_; clear hs w a; intro a w hs
  have hre : recErr r last = 3 := by first | exact recErr_chk (by omega) | exact recErr_rng (by omega) (by omega) | exact recErr_ord (by omega) (by omega) (by omega) | exact recErr_ok (by omega) (by omega) (by omega)
  replace hs := hs.drop (.c .z .n)
  replace hs := hs.addNil 5 1
  replace hs := hs.rerow .z (m' := (recB r last).length) (xs' := bytesV (recB r last)) (by rw [recB_err (by omega)]; rfl) (by rw [recB_err (by omega)]; rfl)
  exact fin2 hs rfl rfl rfl ⟨_, congrArg (fun z : Nat => Value.tuple #[.slice none 0 0, .int .i64 (z : Int)]) hre.symm, rfl⟩
 rw [c_3] at hs
 replace c_3 := of_decide_eq_false c_3
 refine go 4 [] [13, 2, 1] hs .n ?_; clear hs w a; intro a w hs
 refine ifG hs rfl (fun c_4 => ?_) (fun c_4 => ?_)
 ·
  replace c_4 := of_decide_eq_true c_4
  refine go 2 [] [5, 4] hs .n ?_; clear hs w a; intro a w hs
  have hre : recErr r last = 3 := by first | exact recErr_chk (by omega) | exact recErr_rng (by omega) (by omega) | exact recErr_ord (by omega) (by omega) (by omega) | exact recErr_ok (by omega) (by omega) (by omega)
  replace hs := hs.drop (.c .z .n)
  replace hs := hs.addNil 5 1
  replace hs := hs.rerow .z (m' := (recB r last).length) (xs' := bytesV (recB r last)) (by rw [recB_err (by omega)]; rfl) (by rw [recB_err (by omega)]; rfl)
  exact fin2 hs rfl rfl rfl ⟨_, congrArg (fun z : Nat => Value.tuple #[.slice none 0 0, .int .i64 (z : Int)]) hre.symm, rfl⟩
 replace c_4 := of_decide_eq_false c_4
 refine go 5 [0] [20, 2, 1] hs (.c .z .n) ⟨rfl, ?_⟩; clear hs w a; intro a w hs
 refine ifG hs rfl (fun c_5 => ?_) (fun c_5 => ?_)
 ·
  replace c_5 := of_decide_eq_true c_5
  refine go 2 [] [5, 4] hs .n ?_; clear hs w a; intro a w hs
  have hre : recErr r last = 10 := by first | exact recErr_chk (by omega) | exact recErr_rng (by omega) (by omega) | exact recErr_ord (by omega) (by omega) (by omega) | exact recErr_ok (by omega) (by omega) (by omega)
  replace hs := hs.drop (.c .z .n)
  replace hs := hs.addNil 5 1
  replace hs := hs.rerow .z (m' := (recB r last).length) (xs' := bytesV (recB r last)) (by rw [recB_err (by omega)]; rfl) (by rw [recB_err (by omega)]; rfl)
  exact fin2 hs rfl rfl rfl ⟨_, congrArg (fun z : Nat => Value.tuple #[.slice none 0 0, .int .i64 (z : Int)]) hre.symm, rfl⟩
 replace c_5 := of_decide_eq_false c_5
 refine go 0 [] [2, 1] hs .n ?_; clear hs w a; intro a w hs
 refine wp_drawS [.p [] [], .p [0] [0], .p [] [], .p [2, 1] [], .p [3] [], .v [4] (.int .u64 ((((BitVec.ofInt 64 ((r.id - last) - 1)).toNat : Nat) : Int))), .x [5] ⟨[], [], [], fun vs6 => True, fun vs6 => [row (vs6 6) 5 1 (vlen (BitVec.ofInt 64 ((r.id - last) - 1)).toNat) (bytesV (vput (BitVec.ofInt 64 ((r.id - last) - 1)).toNat))], none⟩, .p [] [], .p [7] [0], .v [8] (.int .u8 ((((BitVec.ofInt 8 r.k).toNat : Nat) : Int))), .x [9] ⟨[], [], [], fun vs6 => vs6 10 = .slice (some ⟨(ptrG (vs6 10)), 0, none⟩) 1 1, fun vs6 => [blk (ptrG (vs6 10)) [.int .u8 ((((BitVec.ofInt 8 r.k).toNat : Nat) : Int))] 5], none⟩, .x [] ⟨[], [6], [], fun vs6 => True, fun vs6 => [row (vs6 11) 5 1 ((recHead r last).length) (bytesV (recHead r last))], none⟩, .x [] ⟨[], [], [11], fun vs6 => vs6 12 = (vs6 11), fun vs6 => [], none⟩] [] hs .n (.c .z .n) (by kernel_rfl) ⟨rfl, (by omega), (by omega), ?_, rfl, ?_, ⟨rfl, by kernel_rfl, fun _ => rfl⟩, ⟨?_, ?_, ?_, ?_, trivial⟩, ?_⟩
 ·
  intro a_ w_ R_ Q_ hm hs K_
  refine st_cv_u64 hs rfl Tryz.underlying3 Tryz.underlying129 rfl ?_; clear hs; intro a w hs
  exact wpList_nil (K_ _ _ hs)
 ·
  intro a_ w_ R_ Q_ hm hs K_
  refine st_cv_u8 hs rfl Tryz.underlying3 Tryz.underlying5 rfl ?_; clear hs; intro a w hs
  exact wpList_nil (K_ _ _ hs)
 ·
  intro a_ w_ R_ rest_ vs6 hm hs ht hx
  have hs0 := hs.bare
  refine st_call hs (.c rfl .n) Tryz.call93 .n (put_ok (BitVec.ofInt 64 ((r.id - last) - 1)) _) rfl ?_; clear hs; rintro v7 _ a w rfl hs; simp only [List.cons_append, List.nil_append] at hs
  exact wpList_nil ⟨rfl, _, _, hs0, (.c .r), hs, trivial⟩
 ·
  intro a_ w_ R_ rest_ vs6 hm hs ht hx
  have hs0 := hs.bare
  refine st_bs (cs := [.int .u8 ((((BitVec.ofInt 8 r.k).toNat : Nat) : Int))]) hs (.c .n) (.c rfl .n) Tryz.underlying37 (ie := Tryz.t5) rfl rfl rfl rfl (by decide) (by decide) rfl (by decide) rfl rfl rfl ?_; clear hs; intro g8 a w hs
  exact wpList_nil ⟨rfl, _, _, hs0, (.c .r), hs, rfl⟩
 ·
  intro a_ w_ R_ rest_ vs6 hm hs ht hx
  have t6 := ht 6 (twB_spec 13 _ (by kernel_rfl))
  have e6 : _ = some (vs6 6) := t6.val rfl
  replace hs := hs.learn e6
  have t10 := ht 10 (twB_spec 13 _ (by kernel_rfl))
  have e10 : _ = some (vs6 10) := t10.val rfl
  rw [show vs6 10 = .slice (some ⟨(ptrG (vs6 10)), 0, none⟩) 1 1 from t10.2.1] at e10
  replace hs := hs.learn e10
  have hs0 := hs.bare
  refine st_app (size := 1) (bytes := 1) hs rfl rfl .z (rd_blk (m := 1) (size := 1) (hm.own (List.mem_append.2 (.inr ((ht 10 (twB_spec 13 _ (by kernel_rfl))).2.2 (later (n := 13) (by kernel_rfl)) _ (List.Mem.head _))))) rfl (by decide)) (by simp [Value.oneCell']) Tryz.underlying37 (i := Tryz.t5) rfl rfl rfl rfl rfl (by decide) (by omega) (by simp only [maxLen]; omega) rfl ?_; clear hs; intro v9 a w hs
  replace hs := hs.rerow .z (m' := (recHead r last).length) (xs' := bytesV (recHead r last)) (by unfold recHead; simp only [List.length_append, List.length_cons, List.length_nil, vlen]) (by unfold recHead; rw [bytesV_append]; rfl)
  exact wpList_nil ⟨rfl, _, _, hs0, (.c (.c .r)), hs, trivial⟩
 ·
  intro a_ w_ R_ rest_ vs6 hm hs ht hx
  have t11 := ht 11 (twB_spec 13 _ (by kernel_rfl))
  have e11 : _ = some (vs6 11) := t11.val rfl
  replace hs := hs.learn e11
  have hs0 := hs.bare
  refine st_as hs rfl rfl ?_; clear hs; intro a w hs
  exact wpList_nil ⟨rfl, _, _, hs0, (.c .r), hs, rfl⟩
 clear hs w a; intro vs6 a w hs hf
 obtain ⟨e12, q12⟩ := hf 12 (by decide)
 replace e12 : _ = some (vs6 12) := e12.val rfl
 rw [show vs6 12 = (vs6 11) from q12] at e12
 replace hs := hs.learn e12; clear e12 q12
 generalize ptrG (vs6 10) = g10 at hs
 generalize vs6 11 = v11 at hs
 clear hf
 refine goE 0 [] [7, 2] hs .n ?_; clear hs w a; intro a w hs
 rcases (show r.k = 0 ∨ r.k = 1 ∨ r.k = 2 ∨ r.k = 3 from by omega) with hk12 | hk12 | hk12 | hk12
 ·
  refine wp_drawS [.v [] (.agg #[.func (.func 139) #[] #[], .func (.func 140) #[] #[], .func (.func 141) #[] #[], .func (.func 142) #[] #[], .func (.func 137) #[] #[], .func (.func 138) #[] #[], .func (.func 139) #[] #[], .func (.func 140) #[] #[]]), .p [] [], .v [1] (.int .i64 (0)), .p [2, 0] [], .p [3] [], .p [] [], .x [5, 4] ⟨[row v11 5 1 ((recHead r last).length) (bytesV (recHead r last))], [], [], fun vs13 => True, fun vs13 => [row (vs13 6) 5 1 (((recHead r last).length) + (recAll r).length) (bytesV ((recHead r last) ++ recAll r))], none⟩, .x [] ⟨[], [], [6], fun vs13 => vs13 7 = (vs13 6), fun vs13 => [], none⟩, .p [] []] [8] hs (.c (.s (.s .z)) .n) .n (by kernel_rfl) ⟨?_, ?_, ⟨rfl, by kernel_rfl, fun _ => rfl⟩, ⟨?_, ?_, trivial⟩, ?_⟩
  ·
   intro a_ w_ R_ Q_ hm hs K_
   refine st_callP (v := .agg #[.func (.func 139) #[] #[], .func (.func 140) #[] #[], .func (.func 141) #[] #[], .func (.func 142) #[] #[], .func (.func 137) #[] #[], .func (.func 138) #[] #[], .func (.func 139) #[] #[], .func (.func 140) #[] #[]]) hs .n Tryz.call94 (kinds_ok _) rfl ?_; clear hs; intro a w hs
   exact wpList_nil (K_ _ _ hs)
  ·
   intro a_ w_ R_ Q_ hm hs K_
   have hm0 := hm
   refine st_ldE hs rfl (hm0.del .z) .z Tryz.isAgg3 rfl ?_; clear hs; intro a w hs
   replace hs := hs.recell (v' := .int .i64 (0)) (Option.some.inj (congrArg (fun z => some (Value.int .i64 z)) hk12))
   exact wpList_nil (K_ _ _ hs)
  ·
   intro a_ w_ R_ rest_ vs13 hm hs ht hx
   have hm0 := hm.mid
   have hs0 := hs.bare
   refine st_callV (us := []) hs rfl (.c rfl (.c rfl .n)) rfl Tryz.call139 (.c .z .n) (writeAll_ok _ _ (recHead r last) g1 r _ (hs.mem.del .z) (by omega) (hm0.del .z) hw) rfl ?_; clear hs; rintro v14 _ a w rfl hs; simp only [List.cons_append, List.nil_append] at hs
   exact wpList_nil ⟨rfl, _, _, hs0, (.c (.c .r)), hs, trivial⟩
  ·
   intro a_ w_ R_ rest_ vs13 hm hs ht hx
   have t6 := ht 6 (twB_spec 9 _ (by kernel_rfl))
   have e6 : _ = some (vs13 6) := t6.val rfl
   replace hs := hs.learn e6
   have hs0 := hs.bare
   refine st_as hs rfl rfl ?_; clear hs; intro a w hs
   exact wpList_nil ⟨rfl, _, _, hs0, (.c .r), hs, rfl⟩
  clear hs w a; intro vs13 a w hs hf
  obtain ⟨e7, q7⟩ := hf 7 (by decide)
  replace e7 : _ = some (vs13 7) := e7.val rfl
  rw [show vs13 7 = (vs13 6) from q7] at e7
  replace hs := hs.learn e7; clear e7 q7
  generalize vs13 6 = v15 at hs
  clear hf
  refine goE 0 [] [4, 5] hs .n ?_; clear hs w a; intro a w hs
  have hre : recErr r last = 0 := by first | exact recErr_chk (by omega) | exact recErr_rng (by omega) (by omega) | exact recErr_ord (by omega) (by omega) (by omega) | exact recErr_ok (by omega) (by omega) (by omega)
  replace hs := hs.drop (.c (.s .z) (.c .z .n))
  replace hs := hs.rerow .z (m' := (recB r last).length) (xs' := bytesV (recB r last)) (by first | ((first | rw [recB_all hre (by omega)] | rw [recB_some hre (by omega)] | rw [recB_none hre (by omega)]) <;> simp only [List.length_append]; done) | ((first | rw [recB_all hre (by omega)] | rw [recB_some hre (by omega), recSome_z (by omega)] | rw [recB_some hre (by omega), recSome_n (by omega)] | rw [recB_none hre (by omega)]) <;> simp only [List.length_append, List.length_cons, List.length_nil, recAll] <;> omega)) (by first | ((first | rw [recB_all hre (by omega)] | rw [recB_some hre (by omega)] | rw [recB_none hre (by omega)]) <;> rfl) | ((first | rw [recB_all hre (by omega)] | rw [recB_some hre (by omega), recSome_z (by omega)] | rw [recB_some hre (by omega), recSome_n (by omega)] | rw [recB_none hre (by omega)]) <;> simp only [recAll, bytesV, List.map_append, List.map_cons, List.map_nil, List.append_assoc, List.cons_append, List.nil_append] <;> rfl))
  exact fin2 hs rfl rfl rfl ⟨_, congrArg (fun z : Nat => Value.tuple #[v15, .int .i64 (z : Int)]) hre.symm, rfl⟩
 ·
  refine wp_drawS [.v [] (.agg #[.func (.func 139) #[] #[], .func (.func 140) #[] #[], .func (.func 141) #[] #[], .func (.func 142) #[] #[], .func (.func 137) #[] #[], .func (.func 138) #[] #[], .func (.func 139) #[] #[], .func (.func 140) #[] #[]]), .p [] [], .v [1] (.int .i64 (1)), .p [2, 0] [], .p [3] [], .p [] [], .x [5, 4] ⟨[row v11 5 1 ((recHead r last).length) (bytesV (recHead r last))], [], [], fun vs16 => True, fun vs16 => [row (vs16 6) 5 1 (((recHead r last).length) + (recSome r).length) (bytesV ((recHead r last) ++ recSome r))], none⟩, .x [] ⟨[], [], [6], fun vs16 => vs16 7 = (vs16 6), fun vs16 => [], none⟩, .p [] []] [8] hs (.c (.s (.s .z)) .n) .n (by kernel_rfl) ⟨?_, ?_, ⟨rfl, by kernel_rfl, fun _ => rfl⟩, ⟨?_, ?_, trivial⟩, ?_⟩
  ·
   intro a_ w_ R_ Q_ hm hs K_
   refine st_callP (v := .agg #[.func (.func 139) #[] #[], .func (.func 140) #[] #[], .func (.func 141) #[] #[], .func (.func 142) #[] #[], .func (.func 137) #[] #[], .func (.func 138) #[] #[], .func (.func 139) #[] #[], .func (.func 140) #[] #[]]) hs .n Tryz.call94 (kinds_ok _) rfl ?_; clear hs; intro a w hs
   exact wpList_nil (K_ _ _ hs)
  ·
   intro a_ w_ R_ Q_ hm hs K_
   have hm0 := hm
   refine st_ldE hs rfl (hm0.del .z) .z Tryz.isAgg3 rfl ?_; clear hs; intro a w hs
   replace hs := hs.recell (v' := .int .i64 (1)) (Option.some.inj (congrArg (fun z => some (Value.int .i64 z)) hk12))
   exact wpList_nil (K_ _ _ hs)
  ·
   intro a_ w_ R_ rest_ vs16 hm hs ht hx
   have hm0 := hm.mid
   have hs0 := hs.bare
   refine st_callV (us := []) hs rfl (.c rfl (.c rfl .n)) rfl Tryz.call141 (.c .z .n) (writeSome_ok _ _ (recHead r last) g1 r _ (hs.mem.del .z) (by omega) (hm0.del .z) hw) rfl ?_; clear hs; rintro v17 _ a w rfl hs; simp only [List.cons_append, List.nil_append] at hs
   exact wpList_nil ⟨rfl, _, _, hs0, (.c (.c .r)), hs, trivial⟩
  ·
   intro a_ w_ R_ rest_ vs16 hm hs ht hx
   have t6 := ht 6 (twB_spec 9 _ (by kernel_rfl))
   have e6 : _ = some (vs16 6) := t6.val rfl
   replace hs := hs.learn e6
   have hs0 := hs.bare
   refine st_as hs rfl rfl ?_; clear hs; intro a w hs
   exact wpList_nil ⟨rfl, _, _, hs0, (.c .r), hs, rfl⟩
  clear hs w a; intro vs16 a w hs hf
  obtain ⟨e7, q7⟩ := hf 7 (by decide)
  replace e7 : _ = some (vs16 7) := e7.val rfl
  rw [show vs16 7 = (vs16 6) from q7] at e7
  replace hs := hs.learn e7; clear e7 q7
  generalize vs16 6 = v18 at hs
  clear hf
  refine goE 0 [] [4, 5] hs .n ?_; clear hs w a; intro a w hs
  have hre : recErr r last = 0 := by first | exact recErr_chk (by omega) | exact recErr_rng (by omega) (by omega) | exact recErr_ord (by omega) (by omega) (by omega) | exact recErr_ok (by omega) (by omega) (by omega)
  replace hs := hs.drop (.c (.s .z) (.c .z .n))
  replace hs := hs.rerow .z (m' := (recB r last).length) (xs' := bytesV (recB r last)) (by first | ((first | rw [recB_all hre (by omega)] | rw [recB_some hre (by omega)] | rw [recB_none hre (by omega)]) <;> simp only [List.length_append]; done) | ((first | rw [recB_all hre (by omega)] | rw [recB_some hre (by omega), recSome_z (by omega)] | rw [recB_some hre (by omega), recSome_n (by omega)] | rw [recB_none hre (by omega)]) <;> simp only [List.length_append, List.length_cons, List.length_nil, recAll] <;> omega)) (by first | ((first | rw [recB_all hre (by omega)] | rw [recB_some hre (by omega)] | rw [recB_none hre (by omega)]) <;> rfl) | ((first | rw [recB_all hre (by omega)] | rw [recB_some hre (by omega), recSome_z (by omega)] | rw [recB_some hre (by omega), recSome_n (by omega)] | rw [recB_none hre (by omega)]) <;> simp only [recAll, bytesV, List.map_append, List.map_cons, List.map_nil, List.append_assoc, List.cons_append, List.nil_append] <;> rfl))
  exact fin2 hs rfl rfl rfl ⟨_, congrArg (fun z : Nat => Value.tuple #[v18, .int .i64 (z : Int)]) hre.symm, rfl⟩
 ·
  refine wp_drawS [.v [] (.agg #[.func (.func 139) #[] #[], .func (.func 140) #[] #[], .func (.func 141) #[] #[], .func (.func 142) #[] #[], .func (.func 137) #[] #[], .func (.func 138) #[] #[], .func (.func 139) #[] #[], .func (.func 140) #[] #[]]), .p [] [], .v [1] (.int .i64 (2)), .p [2, 0] [], .p [3] [], .p [] [], .x [5, 4] ⟨[row v11 5 1 ((recHead r last).length) (bytesV (recHead r last))], [], [], fun vs19 => True, fun vs19 => [row (vs19 6) 5 1 ((recHead r last).length) (bytesV (recHead r last))], none⟩, .x [] ⟨[], [], [6], fun vs19 => vs19 7 = (vs19 6), fun vs19 => [], none⟩, .p [] []] [8] hs (.c (.s (.s .z)) .n) .n (by kernel_rfl) ⟨?_, ?_, ⟨rfl, by kernel_rfl, fun _ => rfl⟩, ⟨?_, ?_, trivial⟩, ?_⟩
  ·
   intro a_ w_ R_ Q_ hm hs K_
   refine st_callP (v := .agg #[.func (.func 139) #[] #[], .func (.func 140) #[] #[], .func (.func 141) #[] #[], .func (.func 142) #[] #[], .func (.func 137) #[] #[], .func (.func 138) #[] #[], .func (.func 139) #[] #[], .func (.func 140) #[] #[]]) hs .n Tryz.call94 (kinds_ok _) rfl ?_; clear hs; intro a w hs
   exact wpList_nil (K_ _ _ hs)
  ·
   intro a_ w_ R_ Q_ hm hs K_
   have hm0 := hm
   refine st_ldE hs rfl (hm0.del .z) .z Tryz.isAgg3 rfl ?_; clear hs; intro a w hs
   replace hs := hs.recell (v' := .int .i64 (2)) (Option.some.inj (congrArg (fun z => some (Value.int .i64 z)) hk12))
   exact wpList_nil (K_ _ _ hs)
  ·
   intro a_ w_ R_ rest_ vs19 hm hs ht hx
   have hs0 := hs.bare
   refine st_callV (us := []) hs rfl (.c rfl (.c rfl .n)) rfl Tryz.call137 (.c .z .n) (kinds1_ok _ _ (recHead r last) g1 _ (hs.mem.del .z)) rfl ?_; clear hs; rintro _ _ a w ⟨rfl, rfl⟩ hs; simp only [List.cons_append, List.nil_append] at hs
   exact wpList_nil ⟨rfl, _, _, hs0, (.c (.c .r)), hs, trivial⟩
  ·
   intro a_ w_ R_ rest_ vs19 hm hs ht hx
   have t6 := ht 6 (twB_spec 9 _ (by kernel_rfl))
   have e6 : _ = some (vs19 6) := t6.val rfl
   replace hs := hs.learn e6
   have hs0 := hs.bare
   refine st_as hs rfl rfl ?_; clear hs; intro a w hs
   exact wpList_nil ⟨rfl, _, _, hs0, (.c .r), hs, rfl⟩
  clear hs w a; intro vs19 a w hs hf
  obtain ⟨e7, q7⟩ := hf 7 (by decide)
  replace e7 : _ = some (vs19 7) := e7.val rfl
  rw [show vs19 7 = (vs19 6) from q7] at e7
  replace hs := hs.learn e7; clear e7 q7
  generalize vs19 6 = v20 at hs
  clear hf
  refine goE 0 [] [4, 5] hs .n ?_; clear hs w a; intro a w hs
  have hre : recErr r last = 0 := by first | exact recErr_chk (by omega) | exact recErr_rng (by omega) (by omega) | exact recErr_ord (by omega) (by omega) (by omega) | exact recErr_ok (by omega) (by omega) (by omega)
  replace hs := hs.drop (.c (.s .z) (.c .z .n))
  replace hs := hs.rerow .z (m' := (recB r last).length) (xs' := bytesV (recB r last)) (by first | ((first | rw [recB_all hre (by omega)] | rw [recB_some hre (by omega)] | rw [recB_none hre (by omega)]) <;> simp only [List.length_append]; done) | ((first | rw [recB_all hre (by omega)] | rw [recB_some hre (by omega), recSome_z (by omega)] | rw [recB_some hre (by omega), recSome_n (by omega)] | rw [recB_none hre (by omega)]) <;> simp only [List.length_append, List.length_cons, List.length_nil, recAll] <;> omega)) (by first | ((first | rw [recB_all hre (by omega)] | rw [recB_some hre (by omega)] | rw [recB_none hre (by omega)]) <;> rfl) | ((first | rw [recB_all hre (by omega)] | rw [recB_some hre (by omega), recSome_z (by omega)] | rw [recB_some hre (by omega), recSome_n (by omega)] | rw [recB_none hre (by omega)]) <;> simp only [recAll, bytesV, List.map_append, List.map_cons, List.map_nil, List.append_assoc, List.cons_append, List.nil_append] <;> rfl))
  exact fin2 hs rfl rfl rfl ⟨_, congrArg (fun z : Nat => Value.tuple #[v20, .int .i64 (z : Int)]) hre.symm, rfl⟩
 refine wp_drawS [.v [] (.agg #[.func (.func 139) #[] #[], .func (.func 140) #[] #[], .func (.func 141) #[] #[], .func (.func 142) #[] #[], .func (.func 137) #[] #[], .func (.func 138) #[] #[], .func (.func 139) #[] #[], .func (.func 140) #[] #[]]), .p [] [], .v [1] (.int .i64 (3)), .p [2, 0] [], .p [3] [], .p [] [], .x [5, 4] ⟨[row v11 5 1 ((recHead r last).length) (bytesV (recHead r last))], [], [], fun vs21 => True, fun vs21 => [row (vs21 6) 5 1 (((recHead r last).length) + (recAll r).length) (bytesV ((recHead r last) ++ recAll r))], none⟩, .x [] ⟨[], [], [6], fun vs21 => vs21 7 = (vs21 6), fun vs21 => [], none⟩, .p [] []] [8] hs (.c (.s (.s .z)) .n) .n (by kernel_rfl) ⟨?_, ?_, ⟨rfl, by kernel_rfl, fun _ => rfl⟩, ⟨?_, ?_, trivial⟩, ?_⟩
 ·
  intro a_ w_ R_ Q_ hm hs K_
  refine st_callP (v := .agg #[.func (.func 139) #[] #[], .func (.func 140) #[] #[], .func (.func 141) #[] #[], .func (.func 142) #[] #[], .func (.func 137) #[] #[], .func (.func 138) #[] #[], .func (.func 139) #[] #[], .func (.func 140) #[] #[]]) hs .n Tryz.call94 (kinds_ok _) rfl ?_; clear hs; intro a w hs
  exact wpList_nil (K_ _ _ hs)
 ·
  intro a_ w_ R_ Q_ hm hs K_
  have hm0 := hm
  refine st_ldE hs rfl (hm0.del .z) .z Tryz.isAgg3 rfl ?_; clear hs; intro a w hs
  replace hs := hs.recell (v' := .int .i64 (3)) (Option.some.inj (congrArg (fun z => some (Value.int .i64 z)) hk12))
  exact wpList_nil (K_ _ _ hs)
 ·
  intro a_ w_ R_ rest_ vs21 hm hs ht hx
  have hm0 := hm.mid
  have hs0 := hs.bare
  refine st_callV (us := []) hs rfl (.c rfl (.c rfl .n)) rfl Tryz.call139 (.c .z .n) (writeAll_ok _ _ (recHead r last) g1 r _ (hs.mem.del .z) (by omega) (hm0.del .z) hw) rfl ?_; clear hs; rintro v22 _ a w rfl hs; simp only [List.cons_append, List.nil_append] at hs
  exact wpList_nil ⟨rfl, _, _, hs0, (.c (.c .r)), hs, trivial⟩
 ·
  intro a_ w_ R_ rest_ vs21 hm hs ht hx
  have t6 := ht 6 (twB_spec 9 _ (by kernel_rfl))
  have e6 : _ = some (vs21 6) := t6.val rfl
  replace hs := hs.learn e6
  have hs0 := hs.bare
  refine st_as hs rfl rfl ?_; clear hs; intro a w hs
  exact wpList_nil ⟨rfl, _, _, hs0, (.c .r), hs, rfl⟩
 clear hs w a; intro vs21 a w hs hf
 obtain ⟨e7, q7⟩ := hf 7 (by decide)
 replace e7 : _ = some (vs21 7) := e7.val rfl
 rw [show vs21 7 = (vs21 6) from q7] at e7
 replace hs := hs.learn e7; clear e7 q7
 generalize vs21 6 = v23 at hs
 clear hf
 refine goE 0 [] [4, 5] hs .n ?_; clear hs w a; intro a w hs
 have hre : recErr r last = 0 := by first | exact recErr_chk (by omega) | exact recErr_rng (by omega) (by omega) | exact recErr_ord (by omega) (by omega) (by omega) | exact recErr_ok (by omega) (by omega) (by omega)
 replace hs := hs.drop (.c (.s .z) (.c .z .n))
 replace hs := hs.rerow .z (m' := (recB r last).length) (xs' := bytesV (recB r last)) (by first | ((first | rw [recB_all hre (by omega)] | rw [recB_some hre (by omega)] | rw [recB_none hre (by omega)]) <;> simp only [List.length_append]; done) | ((first | rw [recB_all hre (by omega)] | rw [recB_some hre (by omega), recSome_z (by omega)] | rw [recB_some hre (by omega), recSome_n (by omega)] | rw [recB_none hre (by omega)]) <;> simp only [List.length_append, List.length_cons, List.length_nil, recAll] <;> omega)) (by first | ((first | rw [recB_all hre (by omega)] | rw [recB_some hre (by omega)] | rw [recB_none hre (by omega)]) <;> rfl) | ((first | rw [recB_all hre (by omega)] | rw [recB_some hre (by omega), recSome_z (by omega)] | rw [recB_some hre (by omega), recSome_n (by omega)] | rw [recB_none hre (by omega)]) <;> simp only [recAll, bytesV, List.map_append, List.map_cons, List.map_nil, List.append_assoc, List.cons_append, List.nil_append] <;> rfl))
 exact fin2 hs rfl rfl rfl ⟨_, congrArg (fun z : Nat => Value.tuple #[v23, .int .i64 (z : Int)]) hre.symm, rfl⟩
end Go.Proofs.YtbioemaipghagaaGreat
