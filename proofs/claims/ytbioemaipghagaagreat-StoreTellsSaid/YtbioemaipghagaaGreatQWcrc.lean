/- Walks of crc: what each function does, over the program of this seat. Printed by a program of this session. -/
import Derived.Test.YtbioemaipghagaaGreatQSxBasB
import Derived.Test.YtbioemaipghagaaGreatQSxGrams
import Derived.KernelRfl
import Derived.Test.YtbioemaipghagaaGreatProg
namespace Go.Proofs.YtbioemaipghagaaGreat
open Go Go.Sx Go.RowKit
set_option linter.unusedVariables false
set_option linter.unusedSimpArgs false
set_option maxRecDepth 4000
set_option maxHeartbeats 1000000

theorem step_ok (s : BitVec 32) (c : Byte) (w0 : World) : Calls Tryz.prog 107 #[.int .u32 (s.toNat : Int), .int .u8 (c.toNat : Int)] w0 (RetV w0 (.int .u32 ((stepC s c).toNat : Int))) := by
 refine enterG (F0 := [(0, .int .u32 ((((s).toNat : Nat) : Int))), (1, .int .u8 ((((c).toNat : Nat) : Int)))]) Tryz.func107 rfl rfl rfl (.c (.c .n)) (Mem.nil _) fun a w hs => ?_
 refine go 3 [] [6, 5] hs .n ?_; clear hs w a; intro a w hs
 refine st_cv_u8_u32 (X := c) hs rfl rfl Tryz.underlying5 Tryz.underlying114 rfl ?_; clear hs w a; intro a w hs
 refine st_xor_u32 (X := s) (Y := (c).setWidth 32) hs rfl rfl rfl rfl rfl ?_; clear hs w a; intro a w hs
 refine goL 2 [] [9, 0] hs .n ?_; clear hs w a; intro a w hs
 refine loopG (fun mm_ a w => ∃ k : Nat, mm_ = 8 - k ∧ St 20 [(0, .int .u32 ((((stepN k (s ^^^ c.setWidth 32)).toNat : Nat) : Int))), (9, .int .i64 ((k : Int)))] w0 [] [] a w ∧ k ≤ 8) ⟨0, rfl, hs.sub (.c rfl (.c rfl .n)), by omega⟩ ?_
 clear hs w a; rintro mm_ a w ⟨k, rfl, hs, hI1_0⟩
 refine go 1 [] [10, 0, 9] hs .n ?_; clear hs w a; intro a w hs
 refine ifG hs rfl (fun c_1 => ?_) (fun c_1 => ?_)
 ·
  replace c_1 := of_decide_eq_true c_1
  refine go 1 [] [11, 0, 9] hs .n ?_; clear hs w a; intro a w hs
  refine st_shr_u32 (X := stepN k (s ^^^ c.setWidth 32)) (m := 1) hs rfl rfl rfl (by decide) rfl ?_; clear hs w a; intro a w hs
  refine goL 1 [] [13, 12, 9] hs .n ?_; clear hs w a; intro a w hs
  refine st_and_u32 (X := stepN k (s ^^^ c.setWidth 32)) (Y := 1#32) hs rfl rfl rfl (by decide) rfl ?_; clear hs w a; intro a w hs
  refine st_neg_u32 (X := (stepN k (s ^^^ c.setWidth 32)) &&& (1#32)) hs rfl rfl rfl ?_; clear hs w a; intro a w hs
  refine st_and_u32 (X := 3988292384#32) (Y := -((stepN k (s ^^^ c.setWidth 32)) &&& (1#32))) hs rfl (by decide) rfl rfl rfl ?_; clear hs w a; intro a w hs
  refine st_xor_u32 (X := (stepN k (s ^^^ c.setWidth 32)) >>> 1) (Y := (3988292384#32) &&& (-((stepN k (s ^^^ c.setWidth 32)) &&& (1#32)))) hs rfl rfl rfl rfl rfl ?_; clear hs w a; intro a w hs
  refine goL 3 [] [9, 0] hs .n ⟨(by omega), ?_⟩; clear hs w a; intro a w hs
  refine ⟨_, ?_, k + 1, rfl, hs.sub (.c rfl (.c rfl .n)), by omega⟩
  omega
 replace c_1 := of_decide_eq_false c_1
 refine go 2 [] [4] hs .n ?_; clear hs w a; intro a w hs
 exact fin hs rfl rfl ⟨by have h : k = 8 := (by omega); subst h; rfl, rfl⟩
theorem more1_ok (s : BitVec 32) (c : Byte) (g : Nat) (w0 : World) (hb : (blk g [.int .u32 (s.toNat : Int)] 114).p w0) : Calls Tryz.prog 106 #[.int .u8 (c.toNat : Int), .pointer (some ⟨g, 0, none⟩)] w0 (Ret w0 (feet [blk g [.int .u32 (s.toNat : Int)] 114]) fun v N => v = .tuple #[] ∧ N = [blk g [.int .u32 ((stepC s c).toNat : Int)] 114]) := by
 refine enterG (F0 := [(0, .int .u8 ((((c).toNat : Nat) : Int))), (1, .pointer (some ⟨g, 0, none⟩))]) Tryz.func106 rfl rfl rfl (.c (.c .n)) (mem_one hb) fun a w hs => ?_
 refine go 2 [0] [4, 3, 1] hs (.c .z .n) ⟨rfl, ?_⟩; clear hs w a; intro a w hs
 refine st_callP (v := .int .u32 ((((stepC s c).toNat : Nat) : Int))) hs (.c rfl (.c rfl .n)) Tryz.call107 (step_ok s c _) rfl ?_; clear hs w a; intro a w hs
 refine goL 1 [0] [] hs (.c .z .n) ⟨rfl, ?_⟩; clear hs w a; intro a w hs
 exact fin0 hs rfl ⟨rfl, rfl⟩
theorem more_ok (s : BitVec 32) (v : Value) (m : Nat) (bs : List Byte) (w0 : World) (hb : Rd w0 [] v 1 m (bytesV bs)) : Calls Tryz.prog 84 #[.int .u32 (s.toNat : Int), v] w0 (RetV w0 (.int .u32 ((crcMore s bs).toNat : Int))) := by
 have hbl : bs.length = m := by have := hb.len; simpa [bytesV] using this
 have hle : m ≤ maxLen := hb.le
 simp only [maxLen] at hle
 refine enterG (F0 := [(0, .int .u32 ((((s).toNat : Nat) : Int))), (1, v)]) Tryz.func84 rfl rfl rfl (.c (.c .n)) (Mem.nil _) fun a w hs => ?_
 refine go 2 [] [9, 1] hs .n ?_; clear hs w a; intro a w hs
 refine st_not_u32 (X := s) hs rfl rfl rfl ?_; clear hs w a; intro a w hs
 refine goL 5 [0] [12, 6, 5] hs .n (fun g1 => ⟨rfl, ?_⟩); clear hs w a; intro a w hs
 refine st_len hs rfl (hs.rd0 hb).isSl Tryz.underlying37 rfl ?_; clear hs w a; intro a w hs
 refine goL 1 [] [14, 13, 12, 6, 5] hs .n ?_; clear hs w a; intro a w hs
 refine loopG (fun mm_ a w => ∃ k : Nat, mm_ = m - k ∧ St 24 [(5, .pointer (some ⟨g1, 0, none⟩)), (6, .func (.func 106) #[] #[.pointer (some ⟨g1, 0, none⟩)]), (12, v), (13, .int .i64 ((m : Int))), (14, .int .i64 ((k : Int)))] w0 [] [blk g1 [.int .u32 ((((foldC (~~~s) (bs.take k)).toNat : Nat) : Int))] 114] a w ∧ k ≤ m) ⟨0, rfl, hs.sub (.c rfl (.c rfl (.c rfl (.c rfl (.c rfl .n))))), by omega⟩ ?_
 clear hs w a; rintro mm_ a w ⟨k, rfl, hs, hI1_0⟩
 refine go 1 [] [15, 5, 6, 12, 13, 14] hs .n ?_; clear hs w a; intro a w hs
 refine ifG hs rfl (fun c_2 => ?_) (fun c_2 => ?_)
 ·
  replace c_2 := of_decide_eq_true c_2
  refine go 0 [] [5, 6, 12, 13, 14] hs .n ?_; clear hs w a; intro a w hs
  refine st_ia1 (j := k) hs rfl rfl (hs.rd0 hb) rfl (by omega) Tryz.underlying37 Tryz.sizeOf5 rfl ?_; clear hs w a; intro a w hs
  refine st_ld hs rfl (hs.rd0 hb) (bytesV_getD bs (by first | omega | (simp; omega))) Tryz.isAgg5 rfl ?_; clear hs w a; intro a w hs
  refine goL 3 [] [19, 18, 5, 6, 12, 13, 14] hs .n ?_; clear hs w a; intro a w hs
  refine st_callV hs rfl (.c rfl .n) rfl Tryz.call106 (.c .z .n) (more1_ok (foldC (~~~s) (bs.take k)) (bs.getD k 0) g1 _ (hs.mem.del .z)) rfl ?_; clear hs w a; rintro _ _ a w ⟨rfl, rfl⟩ hs
  refine goL 2 [] [14, 5, 6, 12, 13] hs .n ⟨(by omega), ?_⟩; clear hs w a; intro a w hs
  rw [← foldC_succ _ _ _ (by omega)] at hs
  refine ⟨_, ?_, k + 1, rfl, hs.sub (.c rfl (.c rfl (.c rfl (.c rfl (.c rfl .n))))), by omega⟩
  omega
 replace c_2 := of_decide_eq_false c_2
 refine go 1 [0] [22] hs (.c .z .n) ⟨rfl, ?_⟩; clear hs w a; intro a w hs
 refine st_not_u32 (X := foldC (~~~s) (bs.take k)) hs rfl rfl rfl ?_; clear hs w a; intro a w hs
 refine goL 1 [] [4] hs .n ?_; clear hs w a; intro a w hs
 replace hs := hs.drop (.c .z .n)
 exact fin hs rfl rfl ⟨by have h : k = m := (by omega); subst h; rw [← hbl, List.take_length]; rfl, rfl⟩
theorem sum_ok (v : Value) (m : Nat) (bs : List Byte) (w0 : World) (hb : Rd w0 [] v 1 m (bytesV bs)) : Calls Tryz.prog 57 #[v] w0 (RetV w0 (.int .u32 ((crcSum bs).toNat : Int))) := by
 refine enterG (F0 := [(0, v)]) Tryz.func57 rfl rfl rfl (.c .n) (Mem.nil _) fun a w hs => ?_
 refine go 2 [] [3] hs .n ?_; clear hs w a; intro a w hs
 refine st_callP (v := .int .u32 ((((crcMore (0#32) bs).toNat : Nat) : Int))) hs (.c rfl (.c rfl .n)) Tryz.call84 (more_ok (0#32) _ _ bs _ (hs.rd0 hb)) rfl ?_; clear hs w a; intro a w hs
 refine goL 1 [] [2] hs .n ?_; clear hs w a; intro a w hs
 exact fin hs rfl rfl ⟨rfl, rfl⟩
theorem seal_ok (v : Value) (m : Nat) (bs : List Byte) (w0 : World) (hb : Rd w0 [] v 1 m (bytesV bs)) (hm : m ≤ 140737488351232) : Calls Tryz.prog 43 #[v] w0 (Ret w0 [] fun r N => N = [row r 5 1 (m + 4) (bytesV (seal_ bs))]) := by
 have hbl : bs.length = m := by have := hb.len; simpa [bytesV] using this
 have hle : m ≤ maxLen := hb.le
 simp only [maxLen] at hle
 refine enterG (F0 := [(0, v)]) Tryz.func43 rfl rfl rfl (.c .n) (Mem.nil _) fun a w hs => ?_
 refine go 2 [] [4, 0] hs .n ?_; clear hs w a; intro a w hs
 refine st_callP (v := .int .u32 ((((crcSum bs).toNat : Nat) : Int))) hs (.c rfl .n) Tryz.call57 (sum_ok _ _ bs _ (hs.rd0 hb)) rfl ?_; clear hs w a; intro a w hs
 refine goL 1 [] [3, 0] hs .n ?_; clear hs w a; intro a w hs
 refine st_bs0 hs Tryz.underlying37 rfl ?_ ⟨_, Tryz.sizeOf5⟩; clear hs w a; intro g1 a w hs
 refine goL 1 [] [7, 6, 3] hs .n ?_; clear hs w a; intro a w hs
 replace hs := hs.toRow (size := 1) (m := 0) .z rfl (by decide)
 refine st_app (size := 1) (bytes := 1) hs rfl rfl .z (hs.rd0 hb) (oneCell_bytesV _) Tryz.underlying37 (i := Tryz.t5) rfl rfl rfl rfl rfl (by decide) (by omega) (by simp only [maxLen]; omega) rfl ?_; clear hs w a; intro v2 a w hs
 refine goL 1 [] [9, 8, 3] hs .n ?_; clear hs w a; intro a w hs
 refine st_shr_u32 (X := crcSum bs) (m := 24) hs rfl rfl rfl (by decide) rfl ?_; clear hs w a; intro a w hs
 refine st_cv_u32_u8 (X := (crcSum bs) >>> 24) hs rfl rfl Tryz.underlying114 Tryz.underlying5 rfl ?_; clear hs w a; intro a w hs
 refine goL 1 [] [12, 11, 8, 3] hs .n ?_; clear hs w a; intro a w hs
 refine st_shr_u32 (X := crcSum bs) (m := 16) hs rfl rfl rfl (by decide) rfl ?_; clear hs w a; intro a w hs
 refine st_cv_u32_u8 (X := (crcSum bs) >>> 16) hs rfl rfl Tryz.underlying114 Tryz.underlying5 rfl ?_; clear hs w a; intro a w hs
 refine goL 1 [] [15, 14, 11, 8, 3] hs .n ?_; clear hs w a; intro a w hs
 refine st_shr_u32 (X := crcSum bs) (m := 8) hs rfl rfl rfl (by decide) rfl ?_; clear hs w a; intro a w hs
 refine st_cv_u32_u8 (X := (crcSum bs) >>> 8) hs rfl rfl Tryz.underlying114 Tryz.underlying5 rfl ?_; clear hs w a; intro a w hs
 refine goL 1 [] [18, 17, 14, 11, 8] hs .n ?_; clear hs w a; intro a w hs
 refine st_cv_u32_u8 (X := crcSum bs) hs rfl rfl Tryz.underlying114 Tryz.underlying5 rfl ?_; clear hs w a; intro a w hs
 refine goL 1 [] [20, 8] hs .n (fun g3 => ?_); clear hs w a; intro a w hs
 refine st_app (size := 1) (bytes := 1) hs rfl rfl (.s .z) (rd_blk (m := 4) (size := 1) (hs.mem.del .z) rfl (by decide)) (by simp [Value.oneCell']) Tryz.underlying37 (i := Tryz.t5) rfl rfl rfl rfl rfl (by decide) (by omega) (by simp only [maxLen]; omega) rfl ?_; clear hs w a; intro v4 a w hs
 replace hs := hs.drop (.c (.s .z) .n)
 refine goL 1 [] [2] hs .n ?_; clear hs w a; intro a w hs
 replace hs := hs.rerow .z (m' := m + 4) (xs' := bytesV (seal_ bs)) (by omega) (by rw [List.nil_append]; exact (bytesV_append bs (be4 (crcSum bs))).symm)
 exact fin hs rfl rfl rfl
def OpenPost (bs : List Byte) (v : Value) (N : List HA) : Prop := match open_ bs with
 | none => v = .tuple #[.slice none 0 0, .bool false] ∧ N = []
 | some x => ∃ r, v = .tuple #[r, .bool true] ∧ N = [row r 5 1 x.length (bytesV x)]
theorem openPost_none {bs : List Byte} (h : open_ bs = none) : OpenPost bs (.tuple #[.slice none 0 0, .bool false]) [] := by unfold OpenPost; rw [h]; exact ⟨rfl, rfl⟩
theorem openPost_some {bs x : List Byte} (h : open_ bs = some x) (r : Value) : OpenPost bs (.tuple #[r, .bool true]) [row r 5 1 x.length (bytesV x)] := by unfold OpenPost; rw [h]; exact ⟨r, rfl, rfl⟩
theorem open_short {bs : List Byte} (h : bs.length < 4) : open_ bs = none := by unfold open_; rw [if_pos h]
theorem open_no {bs : List Byte} (h : ¬ bs.length < 4) (h2 : beN (bs.drop (bs.length - 4)) ≠ crcSum (bs.take (bs.length - 4))) : open_ bs = none := by unfold open_; rw [if_neg h, if_neg h2]
theorem open_yes {bs : List Byte} (h : ¬ bs.length < 4) (h2 : beN (bs.drop (bs.length - 4)) = crcSum (bs.take (bs.length - 4))) : open_ bs = some (bs.take (bs.length - 4)) := by unfold open_; rw [if_neg h, if_pos h2]
theorem open_no2 {bs : List Byte} {m k : Nat} (hl : bs.length = m) (h4 : 4 ≤ m) (h : (((beN ((bs.drop (m - 4)).take k)).toNat : Nat) : Int) ≠ (((crcSum (bs.take (m - 4))).toNat : Nat) : Int)) (hk : k = m - (m - 4)) : open_ bs = none := by
 subst hl
 rw [List.take_of_length_le (by simp; omega)] at h
 exact open_no (by omega) (fun e => h (by rw [e]))
theorem open_yes2 {bs : List Byte} {m k : Nat} (hl : bs.length = m) (h4 : 4 ≤ m) (h : (((beN ((bs.drop (m - 4)).take k)).toNat : Nat) : Int) = (((crcSum (bs.take (m - 4))).toNat : Nat) : Int)) (hk : k = m - (m - 4)) : open_ bs = some (bs.take (m - 4)) := by
 subst hl
 rw [List.take_of_length_le (by simp; omega)] at h
 exact open_yes (by omega) (BitVec.eq_of_toNat_eq (by omega))
theorem open_ok (v : Value) (m : Nat) (bs : List Byte) (w0 : World) (hb : Rd w0 [] v 1 m (bytesV bs)) (hm : m ≤ 140737488351232) : Calls Tryz.prog 28 #[v] w0 (Ret w0 [] (OpenPost bs)) := by
 have hbl : bs.length = m := by have := hb.len; simpa [bytesV] using this
 have hle : m ≤ maxLen := hb.le
 simp only [maxLen] at hle
 refine enterG (F0 := [(0, v)]) Tryz.func28 rfl rfl rfl (.c .n) (Mem.nil _) fun a w hs => ?_
 refine go 3 [] [8, 0] hs .n ?_; clear hs w a; intro a w hs
 refine st_len hs rfl (hs.rd0 hb).isSl Tryz.underlying37 rfl ?_; clear hs w a; intro a w hs
 refine goL 4 [] [12, 4, 0] hs .n ⟨(by omega), ?_⟩; clear hs w a; intro a w hs
 refine ifG hs rfl (fun c_1 => ?_) (fun c_1 => ?_)
 ·
  replace c_1 := of_decide_eq_true c_1
  refine go 2 [] [3, 2] hs .n ?_; clear hs w a; intro a w hs
  first | exact fin2 hs rfl rfl rfl (openPost_none (open_short (by omega))) | exact fin2 hs rfl rfl rfl (openPost_none (open_no2 hbl (by omega) (by assumption) (by omega)))
 replace c_1 := of_decide_eq_false c_1
 have hv_ : ((m : Int) - 4 : Int) = (((m - 4 : Nat) : Int) : Int) := by omega
 rw [hv_] at hs; clear hv_
 refine go 3 [] [14, 13, 5, 4, 0] hs .n ?_; clear hs w a; intro a w hs
 refine st_slcL (j := (m - 4)) hs rfl rfl rfl (hs.rd0 hb).isSl (by omega) Tryz.underlying37 Tryz.sizeOf5 rfl ?_; clear hs w a; intro a w hs
 refine st_len hs rfl ((hs.rd0 hb).slcL (l := (m - 4)) (by omega)).isSl Tryz.underlying37 rfl ?_; clear hs w a; intro a w hs
 refine goL 1 [] [17, 16, 15, 5, 4, 0] hs .n ?_; clear hs w a; intro a w hs
 refine loopG (fun mm_ a w => ∃ k : Nat, mm_ = m - k ∧ St 38 [(0, v), (4, .int .i64 (((m - 4 : Nat) : Int))), (5, .int .u32 ((((beN ((bs.drop (m - 4)).take k)).toNat : Nat) : Int))), (15, slcV v 1 (m - 4) m), (16, .int .i64 (((m - (m - 4) : Nat) : Int))), (17, .int .i64 ((k : Int)))] w0 [] [] a w ∧ k ≤ m - (m - 4)) ⟨0, rfl, hs.sub (.c rfl (.c rfl (.c rfl (.c rfl (.c rfl (.c rfl .n)))))), by omega⟩ ?_
 clear hs w a; rintro mm_ a w ⟨k, rfl, hs, hI1_0⟩
 refine go 1 [] [18, 0, 4, 5, 15, 16, 17] hs .n ?_; clear hs w a; intro a w hs
 refine ifG hs rfl (fun c_2 => ?_) (fun c_2 => ?_)
 ·
  replace c_2 := of_decide_eq_true c_2
  refine go 0 [] [0, 4, 5, 15, 16, 17] hs .n ?_; clear hs w a; intro a w hs
  refine st_ia1 (j := k) hs rfl rfl ((hs.rd0 hb).slcL (l := (m - 4)) (by omega)) rfl (by omega) Tryz.underlying37 Tryz.sizeOf5 rfl ?_; clear hs w a; intro a w hs
  refine st_ld hs rfl ((hs.rd0 hb).slcL (l := (m - 4)) (by omega)) (bytesV_getD ((bs.drop (m - 4))) (by first | omega | (simp; omega))) Tryz.isAgg5 rfl ?_; clear hs w a; intro a w hs
  refine goL 2 [] [21, 7, 0, 4, 15, 16, 17] hs .n ?_; clear hs w a; intro a w hs
  refine st_shl_u32 (X := beN ((bs.drop (m - 4)).take k)) (m := 8) hs rfl rfl rfl (by decide) rfl ?_; clear hs w a; intro a w hs
  refine goL 1 [] [23, 22, 0, 4, 15, 16, 17] hs .n ?_; clear hs w a; intro a w hs
  refine st_cv_u8_u32 (X := ((bs.drop (m - 4))).getD k 0) hs rfl rfl Tryz.underlying5 Tryz.underlying114 rfl ?_; clear hs w a; intro a w hs
  refine st_or_u32 (X := (beN ((bs.drop (m - 4)).take k)) <<< 8) (Y := (((bs.drop (m - 4))).getD k 0).setWidth 32) hs rfl rfl rfl rfl rfl ?_; clear hs w a; intro a w hs
  refine goL 3 [] [17, 5, 0, 4, 15, 16] hs .n ⟨(by omega), ?_⟩; clear hs w a; intro a w hs
  rw [← beN_succ _ _ (by simp; omega)] at hs
  refine ⟨_, ?_, k + 1, rfl, hs.sub (.c rfl (.c rfl (.c rfl (.c rfl (.c rfl (.c rfl .n)))))), by omega⟩
  omega
 replace c_2 := of_decide_eq_false c_2
 refine go 3 [] [29, 28, 27, 0, 4] hs .n ?_; clear hs w a; intro a w hs
 refine st_slcH (j := (m - 4)) hs rfl rfl rfl (hs.rd0 hb) (by omega) Tryz.underlying37 Tryz.sizeOf5 rfl ?_; clear hs w a; intro a w hs
 refine st_callP (v := .int .u32 ((((crcSum ((bs.take (m - 4)))).toNat : Nat) : Int))) hs (.c rfl .n) Tryz.call57 (sum_ok _ _ ((bs.take (m - 4))) _ ((hs.rd0 hb).slcT (h := (m - 4)) (by omega))) rfl ?_; clear hs w a; intro a w hs
 refine goL 1 [] [32, 0, 4] hs .n ?_; clear hs w a; intro a w hs
 refine ifG hs rfl (fun c_3 => ?_) (fun c_3 => ?_)
 ·
  replace c_3 := not_t c_3
  replace c_3 := ne_of_beq_f c_3
  refine go 2 [] [3, 2] hs .n ?_; clear hs w a; intro a w hs
  first | exact fin2 hs rfl rfl rfl (openPost_none (open_short (by omega))) | exact fin2 hs rfl rfl rfl (openPost_none (open_no2 hbl (by omega) (by assumption) (by omega)))
 replace c_3 := not_f c_3
 replace c_3 := eq_of_beq c_3
 refine go 0 [] [0, 4] hs .n ?_; clear hs w a; intro a w hs
 refine st_bs0 hs Tryz.underlying37 rfl ?_ ⟨_, Tryz.sizeOf5⟩; clear hs w a; intro g4 a w hs
 refine goL 2 [] [35, 34, 33] hs .n ?_; clear hs w a; intro a w hs
 refine st_slcH (j := (m - 4)) hs rfl rfl rfl (hs.rd0 hb) (by omega) Tryz.underlying37 Tryz.sizeOf5 rfl ?_; clear hs w a; intro a w hs
 replace hs := hs.toRow (size := 1) (m := 0) .z rfl (by decide)
 refine st_app (size := 1) (bytes := 1) hs rfl rfl .z ((hs.rd0 hb).slcT (h := (m - 4)) (by omega)) (oneCell_bytesV _) Tryz.underlying37 (i := Tryz.t5) rfl rfl rfl rfl rfl (by decide) (by omega) (by simp only [maxLen]; omega) rfl ?_; clear hs w a; intro v5 a w hs
 refine goL 2 [] [3, 2] hs .n ?_; clear hs w a; intro a w hs
 replace hs := hs.rerow .z (m' := (bs.take (m - 4)).length) (xs' := bytesV (bs.take (m - 4))) (by simp; omega) (by rw [List.nil_append])
 exact fin2 hs rfl rfl rfl (openPost_some (open_yes2 hbl (by omega) (by assumption) (by omega)) _)
theorem open_none (v : Value) (m : Nat) (bs : List Byte) (w0 : World) (hb : Rd w0 [] v 1 m (bytesV bs)) (hm : m ≤ 140737488351232) (h : open_ bs = none) : Calls Tryz.prog 28 #[v] w0 (RetV w0 (.tuple #[.slice none 0 0, .bool false])) :=
 (open_ok v m bs w0 hb hm).mono fun e w' ⟨u, N, he, hp, hM⟩ => ⟨u, N, he, by unfold OpenPost at hp; rw [h] at hp; exact hp, hM⟩
theorem open_some (v : Value) (m : Nat) (bs : List Byte) (w0 : World) (hb : Rd w0 [] v 1 m (bytesV bs)) (x : List Byte) (hm : m ≤ 140737488351232) (h : open_ bs = some x) : Calls Tryz.prog 28 #[v] w0 (Ret w0 [] fun u N => ∃ r, u = .tuple #[r, .bool true] ∧ N = [row r 5 1 x.length (bytesV x)]) :=
 (open_ok v m bs w0 hb hm).mono fun e w' ⟨u, N, he, hp, hM⟩ => ⟨u, N, he, by unfold OpenPost at hp; rw [h] at hp; exact hp, hM⟩
end Go.Proofs.YtbioemaipghagaaGreat
