/- Walks of crc: what each function does, over the program of this seat. Printed by a program of this session. -/
import Derived.Test.YtbacobmcfelmkaaGreatQSxBasB
import Derived.Test.YtbacobmcfelmkaaGreatQSxGrams
import Derived.KernelRfl
import Derived.Test.YtbacobmcfelmkaaGreatProg
namespace Go.Proofs.YtbacobmcfelmkaaGreat
open Tryz
open Go Go.Sx Go.RowKit
set_option linter.unusedVariables false
set_option linter.unusedSimpArgs false
set_option maxRecDepth 4000
set_option maxHeartbeats 1000000

theorem zTt (s : BitVec 32) (c : zR) (w0 : World) : Calls Tryz.prog 121 #[.int .u32 (s.toNat : Int), .int .u8 (c.toNat : Int)] w0 (zCn w0 (.int .u32 ((zNc s c).toNat : Int))) := by
 refine zT (F0 := [(0, .int .u32 (((s).toNat : Nat) : Int)), (1, bI c)]) func121 rfl rfl rfl (.c (.c .n)) (Mem.nil _) ?_
 refine go 3 [] [6, 5] .n ?_
 intro a w hs; refine zEs (X := c) hs rfl rfl underlying5 underlying141 rfl ?_
 intro a w hs; refine zD3 (X := s) (Y := (c).setWidth 32) hs rfl rfl rfl rfl rfl ?_
 refine goL 2 [] [9, 0] .n ?_
 intro a w hs; refine zCA (fun mm_ a w => ∃ k : Nat, mm_ = 8 - k ∧ St 20 [(0, .int .u32 (((zGo k (s ^^^ c.setWidth 32)).toNat : Nat) : Int)), (9, zI (k : Int))] w0 [] [] a w ∧ k ≤ 8) ⟨0, rfl, hs.sub (.c rfl (.c rfl .n)), by omega⟩ ?_
 clear hs w a; rintro mm_ a w ⟨k, rfl, hs, hI1_0⟩
 revert a w hs
 refine go 1 [] [10, 0, 9] .n ?_
 refine ifG rfl (fun c_1 => ?_) (fun c_1 => ?_)
 ·
  refine go 1 [] [11, 0, 9] .n ?_
  intro a w hs; refine zEx (X := zGo k (s ^^^ c.setWidth 32)) (m := 1) hs rfl rfl rfl (by decide) rfl ?_
  refine goL 1 [] [13, 12, 9] .n ?_
  intro a w hs; refine zIr (X := zGo k (s ^^^ c.setWidth 32)) (Y := 1#32) hs rfl rfl rfl (by decide) rfl ?_
  intro a w hs; refine zNr (X := (zGo k (s ^^^ c.setWidth 32)) &&& (1#32)) hs rfl rfl rfl ?_
  intro a w hs; refine zIr (X := 3988292384#32) (Y := -((zGo k (s ^^^ c.setWidth 32)) &&& (1#32))) hs rfl (by decide) rfl rfl rfl ?_
  intro a w hs; refine zD3 (X := (zGo k (s ^^^ c.setWidth 32)) >>> 1) (Y := (3988292384#32) &&& (-((zGo k (s ^^^ c.setWidth 32)) &&& (1#32)))) hs rfl rfl rfl rfl rfl ?_
  refine goL 3 [] [9, 0] .n ⟨(by omega), ?_⟩
  intro a w hs; refine ⟨_, ?_, k + 1, rfl, hs.sub (.c rfl (.c rfl .n)), by omega⟩
  omega
 refine go 2 [] [4] .n ?_
 intro a w hs; exact fin hs rfl rfl ⟨by have h : k = 8 := (by omega); subst h; rfl, rfl⟩
theorem zRj (s : BitVec 32) (c : zR) (g : Nat) (w0 : World) (hb : (blk g [.int .u32 (s.toNat : Int)] 141).p w0) : Calls Tryz.prog 120 #[.int .u8 (c.toNat : Int), pt g 0] w0 (Ret w0 (zX [blk g [.int .u32 (s.toNat : Int)] 141]) fun v N => v = .tuple #[] ∧ N = [blk g [.int .u32 ((zNc s c).toNat : Int)] 141]) := by
 refine zT (F0 := [(0, bI c), (1, pt g 0)]) func120 rfl rfl rfl (.c (.c .n)) (zBd hb) ?_
 refine go 2 [0] [4, 3, 1] (.c .z .n) ⟨rfl, ?_⟩
 intro a w hs; refine zH (v := .int .u32 (((zNc s c).toNat : Nat) : Int)) hs (.c rfl (.c rfl .n)) call121 (zTt s c _) rfl ?_
 refine goL 1 [0] [] (.c .z .n) ⟨rfl, ?_⟩
 intro a w hs; exact zHE hs rfl ⟨rfl, rfl⟩
theorem zTZ (s : BitVec 32) (v : Value) (m : Nat) (bs : List zR) (w0 : World) (hb : Rd w0 [] v 1 m (zF bs)) : Calls Tryz.prog 98 #[.int .u32 (s.toNat : Int), v] w0 (zCn w0 (.int .u32 ((zJl s bs).toNat : Int))) := by
 have hbl : bs.length = m := by have := hb.len; simpa [zF] using this
 have hle : m ≤ maxLen := hb.le
 simp only [maxLen] at hle
 refine zT (F0 := [(0, .int .u32 (((s).toNat : Nat) : Int)), (1, v)]) func98 rfl rfl rfl (.c (.c .n)) (Mem.nil _) ?_
 refine go 2 [] [9, 1] .n ?_
 intro a w hs; refine zI6 (X := s) hs rfl rfl rfl ?_
 refine goL 5 [0] [12, 6, 5] .n (fun g1 => ⟨rfl, ?_⟩)
 intro a w hs; refine zAG hs rfl (hs.rd0 hb).isSl underlying32 rfl ?_
 refine goL 1 [] [14, 13, 12, 6, 5] .n ?_
 intro a w hs; refine zCA (fun mm_ a w => ∃ k : Nat, mm_ = m - k ∧ St 24 [(5, pt g1 0), (6, .func (.func 120) #[] #[pt g1 0]), (12, v), (13, zI (m : Int)), (14, zI (k : Int))] w0 [] [blk g1 [.int .u32 (((zFd (~~~s) (bs.take k)).toNat : Nat) : Int)] 141] a w ∧ k ≤ m) ⟨0, rfl, hs.sub (.c rfl (.c rfl (.c rfl (.c rfl (.c rfl .n))))), by omega⟩ ?_
 clear hs w a; rintro mm_ a w ⟨k, rfl, hs, hI1_0⟩
 revert a w hs
 refine go 1 [] [15, 5, 6, 12, 13, 14] .n ?_
 refine ifG rfl (fun c_2 => ?_) (fun c_2 => ?_)
 ·
  refine go 0 [] [5, 6, 12, 13, 14] .n ?_
  intro a w hs; refine zA9 (j := k) hs rfl rfl (hs.rd0 hb) rfl (by omega) underlying32 sizeOf5 rfl ?_
  intro a w hs; refine zA7 hs rfl (hs.rd0 hb) (zA5 bs (by first | omega | (simp; omega))) isAgg5 rfl ?_
  refine goL 3 [] [19, 18, 5, 6, 12, 13, 14] .n ?_
  intro a w hs; refine zQI hs rfl (.c rfl .n) rfl call120 (.c .z .n) (zRj (zFd (~~~s) (bs.take k)) (bs.getD k 0) g1 _ (hs.mem.del .z)) rfl ?_
  refine goL 2 [] [14, 5, 6, 12, 13] .n ⟨(by omega), ?_⟩
  intro a w hs; rw [← zI5 _ _ _ (by omega)] at hs
  refine ⟨_, ?_, k + 1, rfl, hs.sub (.c rfl (.c rfl (.c rfl (.c rfl (.c rfl .n))))), by omega⟩
  omega
 refine go 1 [0] [22] (.c .z .n) ⟨rfl, ?_⟩
 intro a w hs; refine zI6 (X := zFd (~~~s) (bs.take k)) hs rfl rfl rfl ?_
 refine goL 1 [] [4] .n ?_
 refine cl (·.drop (.c .z .n)) ?_
 intro a w hs; exact fin hs rfl rfl ⟨by have h : k = m := (by omega); subst h; rw [← hbl, List.take_length]; rfl, rfl⟩
theorem zSS (v : Value) (m : Nat) (bs : List zR) (w0 : World) (hb : Rd w0 [] v 1 m (zF bs)) : Calls Tryz.prog 72 #[v] w0 (zCn w0 (.int .u32 ((zBc bs).toNat : Int))) := by
 refine zT (F0 := [(0, v)]) func72 rfl rfl rfl (.c .n) (Mem.nil _) ?_
 refine go 2 [] [3] .n ?_
 intro a w hs; refine zH (v := .int .u32 (((zJl (0#32) bs).toNat : Nat) : Int)) hs (.c rfl (.c rfl .n)) call98 (zTZ (0#32) _ _ bs _ (hs.rd0 hb)) rfl ?_
 refine goL 1 [] [2] .n ?_
 intro a w hs; exact fin hs rfl rfl ⟨rfl, rfl⟩
theorem zTz (v : Value) (m : Nat) (bs : List zR) (w0 : World) (hb : Rd w0 [] v 1 m (zF bs)) (hm : m ≤ 140737488351232) : Calls Tryz.prog 38 #[v] w0 (Ret w0 [] fun r N => N = [row r 5 1 (m + 4) (zF (zDe bs))]) := by
 have hbl : bs.length = m := by have := hb.len; simpa [zF] using this
 have hle : m ≤ maxLen := hb.le
 simp only [maxLen] at hle
 refine zT (F0 := [(0, v)]) func38 rfl rfl rfl (.c .n) (Mem.nil _) ?_
 refine go 2 [] [4, 0] .n ?_
 intro a w hs; refine zH (v := .int .u32 (((zBc bs).toNat : Nat) : Int)) hs (.c rfl .n) call72 (zSS _ _ bs _ (hs.rd0 hb)) rfl ?_
 refine goL 1 [] [3, 0] .n ?_
 intro a w hs; refine zIi hs underlying32 rfl ?_ ⟨_, sizeOf5⟩; intro g1
 refine goL 1 [] [7, 6, 3] .n ?_
 refine cl (·.toRow (size := 1) (m := 0) .z rfl (by decide)) ?_
 intro a w hs; refine zAj (size := 1) (bytes := 1) hs rfl rfl .z (hs.rd0 hb) (zQ _) underlying32 (i := Tryz.t5) rfl rfl rfl rfl rfl (by decide) (by omega) (by simp only [maxLen]; omega) rfl ?_; intro v2
 refine goL 1 [] [9, 8, 3] .n ?_
 intro a w hs; refine zEx (X := zBc bs) (m := 24) hs rfl rfl rfl (by decide) rfl ?_
 intro a w hs; refine zB3 (X := (zBc bs) >>> 24) hs rfl rfl underlying141 underlying5 rfl ?_
 refine goL 1 [] [12, 11, 8, 3] .n ?_
 intro a w hs; refine zEx (X := zBc bs) (m := 16) hs rfl rfl rfl (by decide) rfl ?_
 intro a w hs; refine zB3 (X := (zBc bs) >>> 16) hs rfl rfl underlying141 underlying5 rfl ?_
 refine goL 1 [] [15, 14, 11, 8, 3] .n ?_
 intro a w hs; refine zEx (X := zBc bs) (m := 8) hs rfl rfl rfl (by decide) rfl ?_
 intro a w hs; refine zB3 (X := (zBc bs) >>> 8) hs rfl rfl underlying141 underlying5 rfl ?_
 refine goL 1 [] [18, 17, 14, 11, 8] .n ?_
 intro a w hs; refine zB3 (X := zBc bs) hs rfl rfl underlying141 underlying5 rfl ?_
 refine goL 1 [] [20, 8] .n (fun g3 => ?_)
 intro a w hs; refine zAj (size := 1) (bytes := 1) hs rfl rfl (.s .z) (zAa (m := 4) (size := 1) (hs.mem.del .z) rfl (by decide)) (by simp [Value.oneCell']) underlying32 (i := Tryz.t5) rfl rfl rfl rfl rfl (by decide) (by omega) (by simp only [maxLen]; omega) rfl ?_; intro v4
 refine cl (·.drop (.c (.s .z) .n)) ?_
 refine goL 1 [] [2] .n ?_
 intro a w hs; replace hs := hs.rerow .z (m' := m + 4) (xs' := zF (zDe bs)) (by omega) (by rw [List.nil_append]; exact (zAi bs (be4 (zBc bs))).symm)
 exact fin hs rfl rfl rfl
theorem zUP (v : Value) (m : Nat) (bs : List zR) (w0 : World) (hb : Rd w0 [] v 1 m (zF bs)) : Calls Tryz.prog 108 #[v] w0 (zCn w0 (.int .u32 ((zBc bs).toNat : Int))) := by
 have hbl : bs.length = m := by have := hb.len; simpa [zF] using this
 have hle : m ≤ maxLen := hb.le
 simp only [maxLen] at hle
 refine zT (F0 := [(0, v)]) func108 rfl rfl rfl (.c .n) (Mem.nil _) ?_
 refine go 3 [] [4, 3, 0] .n ?_
 intro a w hs; refine zCA (fun mm_ a w => ∃ k : Nat, mm_ = m - k ∧ St 34 [(0, v), (3, .int .u32 (((zFd 4294967295#32 (bs.take k)).toNat : Nat) : Int)), (4, zI (k : Int))] w0 [] [] a w ∧ k ≤ m) ⟨0, rfl, hs.sub (.c rfl (.c rfl (.c rfl .n))), by omega⟩ ?_
 clear hs w a; rintro mm_ a w ⟨k, rfl, hs, hI1_0⟩
 revert a w hs
 refine go 2 [] [8, 7, 0, 3, 4] .n ?_
 intro a w hs; refine zAG hs rfl (hs.rd0 hb).isSl underlying32 rfl ?_
 refine goL 1 [] [10, 0, 3, 4] .n ?_
 refine ifG rfl (fun c_1 => ?_) (fun c_1 => ?_)
 ·
  refine go 3 [] [15, 14, 13, 0, 4] .n ?_
  intro a w hs; refine zA9 (j := k) hs rfl rfl (hs.rd0 hb) rfl (by omega) underlying32 sizeOf5 rfl ?_
  intro a w hs; refine zA7 hs rfl (hs.rd0 hb) (zA5 bs (by first | omega | (simp; omega))) isAgg5 rfl ?_
  intro a w hs; refine zEs (X := bs.getD k 0) hs rfl rfl underlying5 underlying141 rfl ?_
  intro a w hs; refine zD3 (X := zFd 4294967295#32 (bs.take k)) (Y := (bs.getD k 0).setWidth 32) hs rfl rfl rfl rfl rfl ?_
  refine goL 2 [] [5, 3, 0, 4] .n ?_
  intro a w hs; refine zCA (fun mm_ a w => ∃ j : Nat, mm_ = 8 - j ∧ St 34 [(0, v), (3, .int .u32 (((zGo j ((zFd 4294967295#32 (bs.take k)) ^^^ ((bs.getD k 0).setWidth 32))).toNat : Nat) : Int)), (4, zI (k : Int)), (5, zI (j : Int))] w0 [] [] a w ∧ j ≤ 8) ⟨0, rfl, hs.sub (.c rfl (.c rfl (.c rfl (.c rfl .n)))), by omega⟩ ?_
  clear hs w a; rintro mm_ a w ⟨j, rfl, hs, hI2_0⟩
  revert a w hs
  refine go 2 [] [21, 0, 3, 4, 5] .n ?_
  refine ifG rfl (fun c_2 => ?_) (fun c_2 => ?_)
  ·
   refine go 1 [] [24, 0, 3, 4, 5] .n ?_
   intro a w hs; refine zFI (X := zGo j ((zFd 4294967295#32 (bs.take k)) ^^^ ((bs.getD k 0).setWidth 32))) (Y := 2#32) hs rfl rfl rfl (by decide) (by decide) rfl ?_
   refine goL 3 [] [27, 6, 0, 4, 5] .n ?_
   intro a w hs; refine zFB (X := zGo j ((zFd 4294967295#32 (bs.take k)) ^^^ ((bs.getD k 0).setWidth 32))) (Y := 2#32) hs rfl rfl rfl (by decide) (by decide) rfl ?_
   refine goL 2 [] [29, 3, 0, 4, 5] .n ?_
   refine ifG rfl (fun c_3 => ?_) (fun c_3 => ?_)
   ·
    refine go 1 [] [30, 0, 4, 5] .n ?_
    intro a w hs; refine zD3 (X := (zGo j ((zFd 4294967295#32 (bs.take k)) ^^^ ((bs.getD k 0).setWidth 32))) / (2#32)) (Y := 3988292384#32) hs rfl rfl rfl (by decide) rfl ?_
    refine goL 4 [] [5, 3, 0, 4] .n ⟨(by omega), ?_⟩
    intro a w hs; first | rw [zPY (by assumption)] at hs | rw [zMK (by assumption)] at hs
    refine ⟨_, ?_, j + 1, rfl, hs.sub (.c rfl (.c rfl (.c rfl (.c rfl .n)))), by omega⟩
    omega
   refine go 3 [] [5, 3, 0, 4] .n ⟨(by omega), ?_⟩
   intro a w hs; first | rw [zPY (by assumption)] at hs | rw [zMK (by assumption)] at hs
   refine ⟨_, ?_, j + 1, rfl, hs.sub (.c rfl (.c rfl (.c rfl (.c rfl .n)))), by omega⟩
   omega
  refine go 3 [] [4, 0, 3] .n ⟨(by omega), ?_⟩
  obtain rfl : j = 8 := by omega
  have e8_ := zI5 4294967295#32 bs k (by omega)
  intro a w hs; unfold zNc at e8_; rw [← e8_] at hs; clear e8_
  refine ⟨_, ?_, k + 1, rfl, hs.sub (.c rfl (.c rfl (.c rfl .n))), by omega⟩
  omega
 refine go 1 [] [32] .n ?_
 intro a w hs; refine zD3 (X := 4294967295#32) (Y := zFd 4294967295#32 (bs.take k)) hs rfl (by decide) rfl rfl rfl ?_
 refine goL 1 [] [2] .n ?_
 intro a w hs; exact fin hs rfl rfl ⟨by have h : k = m := (by omega); subst h; rw [← hbl, List.take_length, zNJ], rfl⟩
theorem zR6 (v : Value) (m : Nat) (bs : List zR) (w0 : World) (hb : Rd w0 [] v 1 m (zF bs)) (hm : m ≤ 140737488351232) : Calls Tryz.prog 87 #[v] w0 (Ret w0 [] fun r N => N = [row r 5 1 (m + 4) (zF (zDe bs))]) := by
 have hbl : bs.length = m := by have := hb.len; simpa [zF] using this
 have hle : m ≤ maxLen := hb.le
 simp only [maxLen] at hle
 refine zT (F0 := [(0, v)]) func87 rfl rfl rfl (.c .n) (Mem.nil _) ?_
 refine go 2 [] [4, 0] .n ?_
 intro a w hs; refine zH (v := .int .u32 (((zBc bs).toNat : Nat) : Int)) hs (.c rfl .n) call108 (zUP _ _ bs _ (hs.rd0 hb)) rfl ?_
 refine goL 1 [] [3, 0] .n ?_
 intro a w hs; refine zIi hs underlying32 rfl ?_ ⟨_, sizeOf5⟩; intro g1
 refine goL 1 [] [7, 6, 3] .n ?_
 refine cl (·.toRow (size := 1) (m := 0) .z rfl (by decide)) ?_
 intro a w hs; refine zAj (size := 1) (bytes := 1) hs rfl rfl .z (hs.rd0 hb) (zQ _) underlying32 (i := Tryz.t5) rfl rfl rfl rfl rfl (by decide) (by omega) (by simp only [maxLen]; omega) rfl ?_; intro v2
 refine goL 1 [] [9, 8, 3] .n ?_
 intro a w hs; refine zFB (X := zBc bs) (Y := 16777216#32) hs rfl rfl rfl (by decide) (by decide) rfl ?_
 intro a w hs; refine zB3 (X := (zBc bs) / (16777216#32)) hs rfl rfl underlying141 underlying5 rfl ?_
 refine goL 1 [] [12, 11, 8, 3] .n ?_
 intro a w hs; refine zFB (X := zBc bs) (Y := 65536#32) hs rfl rfl rfl (by decide) (by decide) rfl ?_
 intro a w hs; refine zFI (X := (zBc bs) / (65536#32)) (Y := 256#32) hs rfl rfl rfl (by decide) (by decide) rfl ?_
 intro a w hs; refine zB3 (X := ((zBc bs) / (65536#32)) % (256#32)) hs rfl rfl underlying141 underlying5 rfl ?_
 refine goL 1 [] [16, 15, 11, 8, 3] .n ?_
 intro a w hs; refine zFB (X := zBc bs) (Y := 256#32) hs rfl rfl rfl (by decide) (by decide) rfl ?_
 intro a w hs; refine zFI (X := (zBc bs) / (256#32)) (Y := 256#32) hs rfl rfl rfl (by decide) (by decide) rfl ?_
 intro a w hs; refine zB3 (X := ((zBc bs) / (256#32)) % (256#32)) hs rfl rfl underlying141 underlying5 rfl ?_
 refine goL 1 [] [20, 19, 15, 11, 8] .n ?_
 intro a w hs; refine zFI (X := zBc bs) (Y := 256#32) hs rfl rfl rfl (by decide) (by decide) rfl ?_
 intro a w hs; refine zB3 (X := (zBc bs) % (256#32)) hs rfl rfl underlying141 underlying5 rfl ?_
 refine goL 1 [] [23, 8] .n (fun g3 => ?_)
 intro a w hs; refine zAj (size := 1) (bytes := 1) hs rfl rfl (.s .z) (zAa (m := 4) (size := 1) (hs.mem.del .z) rfl (by decide)) (by simp [Value.oneCell']) underlying32 (i := Tryz.t5) rfl rfl rfl rfl rfl (by decide) (by omega) (by simp only [maxLen]; omega) rfl ?_; intro v4
 refine cl (·.drop (.c (.s .z) .n)) ?_
 refine goL 1 [] [2] .n ?_
 intro a w hs; replace hs := hs.rerow .z (m' := m + 4) (xs' := zF (zDe bs)) (by omega) (by rw [List.nil_append]; refine Eq.trans ?_ (zAi bs (be4 (zBc bs))).symm; rw [← zTK]; rfl)
 exact fin hs rfl rfl rfl
def zCx (bs : List zR) (v : Value) (N : List HA) : Prop := match zCP bs with
 | none => v = .tuple #[.slice none 0 0, .bool false] ∧ N = []
 | some x => ∃ r, v = .tuple #[r, .bool true] ∧ N = [row r 5 1 x.length (zF x)]
theorem zBo {bs : List zR} (h : zCP bs = none) : zCx bs (.tuple #[.slice none 0 0, .bool false]) [] := by unfold zCx; rw [h]; exact ⟨rfl, rfl⟩
theorem zGC {bs x : List zR} (h : zCP bs = some x) (r : Value) : zCx bs (.tuple #[r, .bool true]) [row r 5 1 x.length (zF x)] := by unfold zCx; rw [h]; exact ⟨r, rfl, rfl⟩
theorem zE7 {bs : List zR} (h : bs.length < 4) : zCP bs = none := by unfold zCP; rw [if_pos h]
theorem zTv {bs : List zR} (h : ¬ bs.length < 4) (h2 : beN (bs.drop (bs.length - 4)) ≠ zBc (bs.take (bs.length - 4))) : zCP bs = none := by unfold zCP; rw [if_neg h, if_neg h2]
theorem zR7 {bs : List zR} (h : ¬ bs.length < 4) (h2 : beN (bs.drop (bs.length - 4)) = zBc (bs.take (bs.length - 4))) : zCP bs = some (bs.take (bs.length - 4)) := by unfold zCP; rw [if_neg h, if_pos h2]
theorem zMP {bs : List zR} {m k : Nat} (hl : bs.length = m) (h4 : 4 ≤ m) (h : (((beN ((bs.drop (m - 4)).take k)).toNat : Nat) : Int) ≠ (((zBc (bs.take (m - 4))).toNat : Nat) : Int)) (hk : k = m - (m - 4)) : zCP bs = none := by
 subst hl
 rw [List.take_of_length_le (by simp; omega)] at h
 exact zTv (by omega) (fun e => h (by rw [e]))
theorem zPw {bs : List zR} {m k : Nat} (hl : bs.length = m) (h4 : 4 ≤ m) (h : (((beN ((bs.drop (m - 4)).take k)).toNat : Nat) : Int) = (((zBc (bs.take (m - 4))).toNat : Nat) : Int)) (hk : k = m - (m - 4)) : zCP bs = some (bs.take (m - 4)) := by
 subst hl
 rw [List.take_of_length_le (by simp; omega)] at h
 exact zR7 (by omega) (BitVec.eq_of_toNat_eq (by omega))
theorem zP8 (v : Value) (m : Nat) (bs : List zR) (w0 : World) (hb : Rd w0 [] v 1 m (zF bs)) (hm : m ≤ 140737488351232) : Calls Tryz.prog 39 #[v] w0 (Ret w0 [] (zCx bs)) := by
 have hbl : bs.length = m := by have := hb.len; simpa [zF] using this
 have hle : m ≤ maxLen := hb.le
 simp only [maxLen] at hle
 refine zT (F0 := [(0, v)]) func39 rfl rfl rfl (.c .n) (Mem.nil _) ?_
 refine go 3 [] [8, 0] .n ?_
 intro a w hs; refine zAG hs rfl (hs.rd0 hb).isSl underlying32 rfl ?_
 refine goL 4 [] [12, 4, 0] .n ⟨(by omega), ?_⟩
 refine ifG rfl (fun c_1 => ?_) (fun c_1 => ?_)
 ·
  refine go 2 [] [3, 2] .n ?_
  intro a w hs; first | exact zCF hs rfl rfl rfl (zBo (zE7 (by omega))) | exact zCF hs rfl rfl rfl (zBo (zMP hbl (by omega) (by assumption) (by omega)))
 have hv_ : ((m : Int) - 4 : Int) = (((m - 4 : Nat) : Int) : Int) := by omega
 intro a w hs; rw [hv_] at hs; clear hv_
 revert a w hs
 refine go 3 [] [14, 13, 5, 4, 0] .n ?_
 intro a w hs; refine zEL (j := (m - 4)) hs rfl rfl rfl (hs.rd0 hb).isSl (by omega) underlying32 sizeOf5 rfl ?_
 intro a w hs; refine zAG hs rfl ((hs.rd0 hb).slcL (l := (m - 4)) (by omega)).isSl underlying32 rfl ?_
 refine goL 1 [] [17, 16, 15, 5, 4, 0] .n ?_
 intro a w hs; refine zCA (fun mm_ a w => ∃ k : Nat, mm_ = m - k ∧ St 38 [(0, v), (4, nI (m - 4)), (5, .int .u32 (((beN ((bs.drop (m - 4)).take k)).toNat : Nat) : Int)), (15, zHv v 1 (m - 4) m), (16, nI (m - (m - 4))), (17, zI (k : Int))] w0 [] [] a w ∧ k ≤ m - (m - 4)) ⟨0, rfl, hs.sub (.c rfl (.c rfl (.c rfl (.c rfl (.c rfl (.c rfl .n)))))), by omega⟩ ?_
 clear hs w a; rintro mm_ a w ⟨k, rfl, hs, hI1_0⟩
 revert a w hs
 refine go 1 [] [18, 0, 4, 5, 15, 16, 17] .n ?_
 refine ifG rfl (fun c_2 => ?_) (fun c_2 => ?_)
 ·
  refine go 0 [] [0, 4, 5, 15, 16, 17] .n ?_
  intro a w hs; refine zA9 (j := k) hs rfl rfl ((hs.rd0 hb).slcL (l := (m - 4)) (by omega)) rfl (by omega) underlying32 sizeOf5 rfl ?_
  intro a w hs; refine zA7 hs rfl ((hs.rd0 hb).slcL (l := (m - 4)) (by omega)) (zA5 (bs.drop (m - 4)) (by first | omega | (simp; omega))) isAgg5 rfl ?_
  refine goL 2 [] [21, 7, 0, 4, 15, 16, 17] .n ?_
  intro a w hs; refine zNn (X := beN ((bs.drop (m - 4)).take k)) (m := 8) hs rfl rfl rfl (by decide) rfl ?_
  refine goL 1 [] [23, 22, 0, 4, 15, 16, 17] .n ?_
  intro a w hs; refine zEs (X := (bs.drop (m - 4)).getD k 0) hs rfl rfl underlying5 underlying141 rfl ?_
  intro a w hs; refine zO7 (X := (beN ((bs.drop (m - 4)).take k)) <<< 8) (Y := ((bs.drop (m - 4)).getD k 0).setWidth 32) hs rfl rfl rfl rfl rfl ?_
  refine goL 3 [] [17, 5, 0, 4, 15, 16] .n ⟨(by omega), ?_⟩
  intro a w hs; rw [← zSG _ _ (by simp; omega)] at hs
  refine ⟨_, ?_, k + 1, rfl, hs.sub (.c rfl (.c rfl (.c rfl (.c rfl (.c rfl (.c rfl .n)))))), by omega⟩
  omega
 refine go 3 [] [29, 28, 27, 0, 4] .n ?_
 intro a w hs; refine zHZ (j := (m - 4)) hs rfl rfl rfl (hs.rd0 hb) (by omega) underlying32 sizeOf5 rfl ?_
 intro a w hs; refine zH (v := .int .u32 (((zBc (bs.take (m - 4))).toNat : Nat) : Int)) hs (.c rfl .n) call72 (zSS _ _ (bs.take (m - 4)) _ ((hs.rd0 hb).slcT (h := (m - 4)) (by omega))) rfl ?_
 refine goL 1 [] [32, 0, 4] .n ?_
 refine ifG rfl (fun c_3 => ?_) (fun c_3 => ?_)
 ·
  refine go 2 [] [3, 2] .n ?_
  intro a w hs; first | exact zCF hs rfl rfl rfl (zBo (zE7 (by omega))) | exact zCF hs rfl rfl rfl (zBo (zMP hbl (by omega) (by assumption) (by omega)))
 refine go 0 [] [0, 4] .n ?_
 intro a w hs; refine zIi hs underlying32 rfl ?_ ⟨_, sizeOf5⟩; intro g4
 refine goL 2 [] [35, 34, 33] .n ?_
 intro a w hs; refine zHZ (j := (m - 4)) hs rfl rfl rfl (hs.rd0 hb) (by omega) underlying32 sizeOf5 rfl ?_
 refine cl (·.toRow (size := 1) (m := 0) .z rfl (by decide)) ?_
 intro a w hs; refine zAj (size := 1) (bytes := 1) hs rfl rfl .z ((hs.rd0 hb).slcT (h := (m - 4)) (by omega)) (zQ _) underlying32 (i := Tryz.t5) rfl rfl rfl rfl rfl (by decide) (by omega) (by simp only [maxLen]; omega) rfl ?_; intro v5
 refine goL 2 [] [3, 2] .n ?_
 intro a w hs; replace hs := hs.rerow .z (m' := (bs.take (m - 4)).length) (xs' := zF (bs.take (m - 4))) (by simp; omega) (by rw [List.nil_append])
 exact zCF hs rfl rfl rfl (zGC (zPw hbl (by omega) (by assumption) (by omega)) _)
theorem zPA (v : Value) (m : Nat) (bs : List zR) (w0 : World) (hb : Rd w0 [] v 1 m (zF bs)) (hm : m ≤ 140737488351232) (h : zCP bs = none) : Calls Tryz.prog 39 #[v] w0 (zCn w0 (.tuple #[.slice none 0 0, .bool false])) :=
 (zP8 v m bs w0 hb hm).mono fun e w' ⟨u, N, he, hp, hM⟩ => ⟨u, N, he, by unfold zCx at hp; rw [h] at hp; exact hp, hM⟩
theorem zOF (v : Value) (m : Nat) (bs : List zR) (w0 : World) (hb : Rd w0 [] v 1 m (zF bs)) (x : List zR) (hm : m ≤ 140737488351232) (h : zCP bs = some x) : Calls Tryz.prog 39 #[v] w0 (Ret w0 [] fun u N => ∃ r, u = .tuple #[r, .bool true] ∧ N = [row r 5 1 x.length (zF x)]) :=
 (zP8 v m bs w0 hb hm).mono fun e w' ⟨u, N, he, hp, hM⟩ => ⟨u, N, he, by unfold zCx at hp; rw [h] at hp; exact hp, hM⟩
theorem zIe {bs : List zR} {m : Nat} (hl : bs.length = m) (h4 : 4 ≤ m) (h : zDe (bs.take (m - 4)) ≠ bs) : zCP bs = none := by
 cases ho : zCP bs with
 | none => rfl
 | some x =>
   exfalso
   have e := (zF3 bs x).1 ho
   have hx := zCr x
   rw [← e, hl] at hx
   apply h
   rw [e]
   congr 1
   rw [show m - 4 = x.length by omega]
   simp [zDe]
theorem zOk {bs x : List zR} (h : zDe x = bs) : zCP bs = some x := (zF3 bs x).2 h.symm
theorem zMo (v : Value) (m : Nat) (bs : List zR) (w0 : World) (hb : Rd w0 [] v 1 m (zF bs)) (hm : m ≤ 140737488351232) : Calls Tryz.prog 60 #[v] w0 (Ret w0 [] (zCx bs)) := by
 have hbl : bs.length = m := by have := hb.len; simpa [zF] using this
 have hle : m ≤ maxLen := hb.le
 simp only [maxLen] at hle
 refine zT (F0 := [(0, v)]) func60 rfl rfl rfl (.c .n) (Mem.nil _) ?_
 refine go 3 [] [5, 0] .n ?_
 intro a w hs; refine zAG hs rfl (hs.rd0 hb).isSl underlying32 rfl ?_
 refine goL 2 [] [4, 0] .n ⟨(by omega), ?_⟩
 by_cases hsp : m < 4
 ·
  intro a w hs
  refine zS [.p [] [], .v [0] (.bool (true)), .p [1] [], .p [2] [], .p [2] [], .p [4, 3, 2] [], .p [5, 2] [], .p [6, 2] [], .p [2] [], .p [8, 2] [], .p [9, 7, 2] [], .p [10, 2] []] [11] hs .n .n (by kernel_rfl) ⟨fun _ _ _ _ hm hs K => zCT hs rfl rfl rfl (fun a w hs => wpList_nil (K _ _ (by rw [show (decide (((m : Int) - 4) < 0)) = true from by first | (simp; done) | (simp; omega)] at hs; exact hs))), ⟨rfl, by kernel_rfl, fun _ => rfl, rfl, rfl, trivial⟩, fun _ => rfl, ?_⟩
  refine goE 3 [] [3, 2] .n ?_
  intro a w hs; first | exact zCF hs rfl rfl rfl (zBo (zE7 (by omega))) | exact zCF hs rfl rfl rfl (zBo (zIe hbl (by omega) (by assumption)))
 have hv_ : ((m : Int) - 4 : Int) = (((m - 4 : Nat) : Int) : Int) := by omega
 intro a w hs; rw [hv_] at hs; clear hv_
 refine zAx [.p [] [], .v [0] (.bool (false)), .p [1] [], .p [2] [], .p [2] [], .v [4, 3, 2] (zHv v 1 0 (m - 4)), .x [5, 2] ⟨[], [], [], fun vs2 => True, fun vs2 => [row (vs2 6) 5 1 ((m - 4) + 4) (zF (zDe (bs.take (m - 4))))], none⟩, .y [2] (.string (zMB (zDe (bs.take (m - 4))))) [] [] [] fun vs2 => [], .p [2] [], .v [8, 2] (.string (zMB bs)), .v [9, 7, 2] (.bool (!((zMB (zDe (bs.take (m - 4)))).toList == (zMB bs).toList))), .p [10, 2] []] [11] hs .n .n .n (by kernel_rfl) ⟨fun _ _ _ _ hm hs K => zCT hs rfl rfl rfl (fun a w hs => wpList_nil (K _ _ (by rw [show (decide (((m - 4 : Nat) : Int) < 0)) = false from by first | (simp; done) | (simp; omega)] at hs; exact hs))), fun _ _ _ _ hm hs K => zC hs rfl rfl rfl (zHZ (j := (m - 4)) hs rfl rfl rfl (hm.rd0 hb) (by omega) underlying32 sizeOf5 rfl (vk K)), fun _ _ _ _ hm hs K => zC hs rfl rfl rfl (zSs (bs := bs) hs rfl (hm.rd0 hb) underlying32 underlying5 underlying9 rfl (vk K)), fun _ _ _ _ hm hs K => zC hs rfl rfl rfl (zVR (p := zMB (zDe (bs.take (m - 4)))) (q := zMB bs) hs rfl rfl rfl (vk K)), ⟨.n, by kernel_rfl, fun _ => rfl, rfl, rfl⟩, ⟨?_, ?_, trivial⟩, ?_⟩
 ·
  intro a_ w_ R_ rest_ vs2 hm hs ht hx
  have hs0 := hs.bare
  refine zC hs rfl rfl rfl ?_
  refine zO hs (.c rfl .n) call87 .n (zR6 _ _ (bs.take (m - 4)) _ ((hm.rd0 hb).slcT (h := (m - 4)) (by omega)) (by omega)) rfl ?_; clear hs; rintro v3 _ a w rfl hs
  exact wpList_nil ⟨rfl, _, _, hs0, (.c (.c .r)), hs, trivial⟩
 ·
  intro a_ w_ R_ rest_ vs2 hm hs ht hx
  have t6 := ht 6 (zL 12 _ (by kernel_rfl))
  have e6 : _ = some (vs2 6) := t6.val rfl
  replace hs := hs.learn e6
  have hs0 := hs.bare
  refine zC hs rfl rfl rfl ?_
  refine zSs (bs := (zDe (bs.take (m - 4)))) hs rfl (zM (hm.own (List.mem_append.2 (.inr ((ht 6 (zL 12 _ (by kernel_rfl))).2.2 (zFR (n := 12) (by kernel_rfl)) _ (List.Mem.head _)))))) underlying32 underlying5 underlying9 rfl ?_; clear hs; intro a w hs
  exact wpList_nil ⟨rfl, _, _, hs0, (.c (.c .r)), hs, rfl⟩
 clear hs w a; intro vs2 a w hs hf
 generalize vs2 6 = v4 at hs
 clear hf
 revert a w hs
 refine goE 0 [] [19, 4, 0] .n ?_
 refine zS3 rfl (fun c_5 => ?_) (fun c_5 => ?_)
 ·
  replace c_5 := zHB c_5
  intro a w hs; rw [zOB] at c_5; replace c_5 := of_decide_eq_false c_5
  revert a w hs
  refine go 2 [] [3, 2] .n ?_
  refine cl (·.drop (.c .z .n)) ?_
  intro a w hs; first | exact zCF hs rfl rfl rfl (zBo (zE7 (by omega))) | exact zCF hs rfl rfl rfl (zBo (zIe hbl (by omega) (by assumption)))
 replace c_5 := zHC c_5
 intro a w hs; rw [zOB] at c_5; replace c_5 := of_decide_eq_true c_5
 revert a w hs
 refine go 0 [] [4, 0] .n ?_
 intro a w hs; refine zIi hs underlying32 rfl ?_ ⟨_, sizeOf5⟩; intro g6
 refine goL 2 [] [22, 21, 20] .n ?_
 intro a w hs; refine zHZ (j := (m - 4)) hs rfl rfl rfl (hs.rd0 hb) (by omega) underlying32 sizeOf5 rfl ?_
 refine cl (·.toRow (size := 1) (m := 0) .z rfl (by decide)) ?_
 intro a w hs; refine zAj (size := 1) (bytes := 1) hs rfl rfl .z ((hs.rd0 hb).slcT (h := (m - 4)) (by omega)) (zQ _) underlying32 (i := Tryz.t5) rfl rfl rfl rfl rfl (by decide) (by omega) (by simp only [maxLen]; omega) rfl ?_; intro v7
 refine goL 2 [] [3, 2] .n ?_
 refine cl (·.drop (.c (.s .z) .n)) ?_
 intro a w hs; replace hs := hs.rerow .z (m' := (bs.take (m - 4)).length) (xs' := zF (bs.take (m - 4))) (by simp; omega) (by rw [List.nil_append])
 exact zCF hs rfl rfl rfl (zGC (zOk (by assumption)) _)
theorem zNP (v : Value) (m : Nat) (bs : List zR) (w0 : World) (hb : Rd w0 [] v 1 m (zF bs)) (hm : m ≤ 140737488351232) (h : zCP bs = none) : Calls Tryz.prog 60 #[v] w0 (zCn w0 (.tuple #[.slice none 0 0, .bool false])) :=
 (zMo v m bs w0 hb hm).mono fun e w' ⟨u, N, he, hp, hM⟩ => ⟨u, N, he, by unfold zCx at hp; rw [h] at hp; exact hp, hM⟩
theorem zNv (v : Value) (m : Nat) (bs : List zR) (w0 : World) (hb : Rd w0 [] v 1 m (zF bs)) (x : List zR) (hm : m ≤ 140737488351232) (h : zCP bs = some x) : Calls Tryz.prog 60 #[v] w0 (Ret w0 [] fun u N => ∃ r, u = .tuple #[r, .bool true] ∧ N = [row r 5 1 x.length (zF x)]) :=
 (zMo v m bs w0 hb hm).mono fun e w' ⟨u, N, he, hp, hM⟩ => ⟨u, N, he, by unfold zCx at hp; rw [h] at hp; exact hp, hM⟩
end Go.Proofs.YtbacobmcfelmkaaGreat
