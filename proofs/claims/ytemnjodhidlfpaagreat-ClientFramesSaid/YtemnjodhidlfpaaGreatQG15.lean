import Derived.Test.YtemnjodhidlfpaaGreatQSxBasB
import Derived.Test.YtemnjodhidlfpaaGreatQSxGrams
import Derived.KernelRfl
import Derived.Test.YtemnjodhidlfpaaGreatProg
import Derived.Test.YtemnjodhidlfpaaGreatQG13
import Derived.Test.YtemnjodhidlfpaaGreatQWrec
import Derived.Test.YtemnjodhidlfpaaGreatQSxRecs
/- Walks of crc: what each function does, over the program of this seat. Printed by a program of this session. -/
namespace Go.Proofs.YtemnjodhidlfpaaGreat
open Tryz
open Go Go.Sx Go.RowKit
set_option linter.unusedVariables false
set_option linter.unusedSimpArgs false
set_option maxRecDepth 4000
set_option maxHeartbeats 1000000

theorem zVo (s : BitVec 32) (c : zP) (w0 : World) : Calls Tryz.prog 160 #[.int .u32 (s.toNat : Int), .int .u8 (c.toNat : Int)] w0 (zAa w0 (.int .u32 ((zRu s c).toNat : Int))) := by
 refine zD (F0 := [(0, .int .u32 (((s).toNat : Nat) : Int)), (1, bI c)]) func160 rfl rfl rfl (.c (.c .n)) (Mem.nil _) ?_
 refine go 3 [] [6, 5] .n ?_
 intro a w hs; refine zGq (X := c) hs rfl rfl underlying5 underlying161 rfl ?_
 intro a w hs; refine zI3 (X := s) (Y := (c).setWidth 32) hs rfl rfl rfl rfl rfl ?_
 refine goL 2 [] [9, 0] .n ?_
 intro a w hs; refine zCh (fun mm_ a w => ∃ k : Nat, mm_ = 8 - k ∧ St 20 [(0, .int .u32 (((zJ0 k (s ^^^ c.setWidth 32)).toNat : Nat) : Int)), (9, zI (k : Int))] w0 [] [] a w ∧ k ≤ 8) ⟨0, rfl, hs.sub (.c rfl (.c rfl .n)), by omega⟩ ?_
 clear hs w a; rintro mm_ a w ⟨k, rfl, hs, hI1_0⟩
 revert a w hs
 refine go 1 [] [10, 0, 9] .n ?_
 refine ifG rfl (fun c_1 => ?_) (fun c_1 => ?_)
 ·
  refine go 1 [] [11, 0, 9] .n ?_
  intro a w hs; refine zEt (X := zJ0 k (s ^^^ c.setWidth 32)) (m := 1) hs rfl rfl rfl (by decide) rfl ?_
  refine goL 1 [] [13, 12, 9] .n ?_
  intro a w hs; refine zIl (X := zJ0 k (s ^^^ c.setWidth 32)) (Y := 1#32) hs rfl rfl rfl (by decide) rfl ?_
  intro a w hs; refine zOm (X := (zJ0 k (s ^^^ c.setWidth 32)) &&& (1#32)) hs rfl rfl rfl ?_
  intro a w hs; refine zIl (X := 3988292384#32) (Y := -((zJ0 k (s ^^^ c.setWidth 32)) &&& (1#32))) hs rfl (by decide) rfl rfl rfl ?_
  intro a w hs; refine zI3 (X := (zJ0 k (s ^^^ c.setWidth 32)) >>> 1) (Y := (3988292384#32) &&& (-((zJ0 k (s ^^^ c.setWidth 32)) &&& (1#32)))) hs rfl rfl rfl rfl rfl ?_
  refine goL 3 [] [9, 0] .n ⟨(by omega), ?_⟩
  intro a w hs; refine ⟨_, ?_, k + 1, rfl, hs.sub (.c rfl (.c rfl .n)), by omega⟩
  omega
 refine go 2 [] [4] .n ?_
 intro a w hs; exact fin hs rfl rfl ⟨by have h : k = 8 := (by omega); subst h; rfl, rfl⟩
theorem zUA (s : BitVec 32) (c : zP) (g : Nat) (w0 : World) (hb : (blk g [.int .u32 (s.toNat : Int)] 161).p w0) : Calls Tryz.prog 159 #[.int .u8 (c.toNat : Int), pt g 0] w0 (Ret w0 (zM [blk g [.int .u32 (s.toNat : Int)] 161]) fun v N => v = .tuple #[] ∧ N = [blk g [.int .u32 ((zRu s c).toNat : Int)] 161]) := by
 refine zD (F0 := [(0, bI c), (1, pt g 0)]) func159 rfl rfl rfl (.c (.c .n)) (zAm hb) ?_
 refine go 2 [0] [4, 3, 1] (.c .z .n) ⟨rfl, ?_⟩
 intro a w hs; refine zB (v := .int .u32 (((zRu s c).toNat : Nat) : Int)) hs (.c rfl (.c rfl .n)) call160 (zVo s c _) rfl ?_
 refine goL 1 [0] [] (.c .z .n) ⟨rfl, ?_⟩
 intro a w hs; exact zIK hs rfl ⟨rfl, rfl⟩
theorem zXg (s : BitVec 32) (v : Value) (m : Nat) (bs : List zP) (w0 : World) (hb : Rd w0 [] v 1 m (zC bs)) : Calls Tryz.prog 126 #[.int .u32 (s.toNat : Int), v] w0 (zAa w0 (.int .u32 ((zMR s bs).toNat : Int))) := by
 have hbl : bs.length = m := by have := hb.len; simpa [zC] using this
 have hle : m ≤ maxLen := hb.le
 simp only [maxLen] at hle
 refine zD (F0 := [(0, .int .u32 (((s).toNat : Nat) : Int)), (1, v)]) func126 rfl rfl rfl (.c (.c .n)) (Mem.nil _) ?_
 refine go 2 [] [9, 1] .n ?_
 intro a w hs; refine zIc (X := s) hs rfl rfl rfl ?_
 refine goL 5 [0] [12, 6, 5] .n (fun g1 => ⟨rfl, ?_⟩)
 intro a w hs; refine zAE hs rfl (hs.rd0 hb).isSl underlying31 rfl ?_
 refine goL 1 [] [14, 13, 12, 6, 5] .n ?_
 intro a w hs; refine zCh (fun mm_ a w => ∃ k : Nat, mm_ = m - k ∧ St 24 [(5, pt g1 0), (6, .func (.func 159) #[] #[pt g1 0]), (12, v), (13, zI (m : Int)), (14, zI (k : Int))] w0 [] [blk g1 [.int .u32 (((zLy (~~~s) (bs.take k)).toNat : Nat) : Int)] 161] a w ∧ k ≤ m) ⟨0, rfl, hs.sub (.c rfl (.c rfl (.c rfl (.c rfl (.c rfl .n))))), by omega⟩ ?_
 clear hs w a; rintro mm_ a w ⟨k, rfl, hs, hI1_0⟩
 revert a w hs
 refine go 1 [] [15, 5, 6, 12, 13, 14] .n ?_
 refine ifG rfl (fun c_2 => ?_) (fun c_2 => ?_)
 ·
  refine go 0 [] [5, 6, 12, 13, 14] .n ?_
  intro a w hs; refine zAw (j := k) hs rfl rfl (hs.rd0 hb) rfl (by omega) underlying31 sizeOf5 rfl ?_
  intro a w hs; refine zBY hs rfl (hs.rd0 hb) (zBy bs (by first | omega | (simp; omega))) isAgg5 rfl ?_
  refine goL 3 [] [19, 18, 5, 6, 12, 13, 14] .n ?_
  intro a w hs; refine zQG hs rfl (.c rfl .n) rfl call159 (.c .z .n) (zUA (zLy (~~~s) (bs.take k)) (bs.getD k 0) g1 _ (hs.mem.del .z)) rfl ?_
  refine goL 2 [] [14, 5, 6, 12, 13] .n ⟨(by omega), ?_⟩
  intro a w hs; rw [← zOB _ _ _ (by omega)] at hs
  refine ⟨_, ?_, k + 1, rfl, hs.sub (.c rfl (.c rfl (.c rfl (.c rfl (.c rfl .n))))), by omega⟩
  omega
 refine go 1 [0] [22] (.c .z .n) ⟨rfl, ?_⟩
 intro a w hs; refine zIc (X := zLy (~~~s) (bs.take k)) hs rfl rfl rfl ?_
 refine goL 1 [] [4] .n ?_
 refine cl (·.drop (.c .z .n)) ?_
 intro a w hs; exact fin hs rfl rfl ⟨by have h : k = m := (by omega); subst h; rw [← hbl, List.take_length]; rfl, rfl⟩
theorem zUz (v : Value) (m : Nat) (bs : List zP) (w0 : World) (hb : Rd w0 [] v 1 m (zC bs)) : Calls Tryz.prog 83 #[v] w0 (zAa w0 (.int .u32 ((zCL bs).toNat : Int))) := by
 refine zD (F0 := [(0, v)]) func83 rfl rfl rfl (.c .n) (Mem.nil _) ?_
 refine go 2 [] [3] .n ?_
 intro a w hs; refine zB (v := .int .u32 (((zMR (0#32) bs).toNat : Nat) : Int)) hs (.c rfl (.c rfl .n)) call126 (zXg (0#32) _ _ bs _ (hs.rd0 hb)) rfl ?_
 refine goL 1 [] [2] .n ?_
 intro a w hs; exact fin hs rfl rfl ⟨rfl, rfl⟩
theorem zVx (v : Value) (m : Nat) (bs : List zP) (w0 : World) (hb : Rd w0 [] v 1 m (zC bs)) (hm : m ≤ 140737488351232) : Calls Tryz.prog 100 #[v] w0 (Ret w0 [] fun r N => N = [row r 5 1 (m + 4) (zC (zGT bs))]) := by
 have hbl : bs.length = m := by have := hb.len; simpa [zC] using this
 have hle : m ≤ maxLen := hb.le
 simp only [maxLen] at hle
 refine zD (F0 := [(0, v)]) func100 rfl rfl rfl (.c .n) (Mem.nil _) ?_
 refine go 2 [] [4, 0] .n ?_
 intro a w hs; refine zB (v := .int .u32 (((zCL bs).toNat : Nat) : Int)) hs (.c rfl .n) call83 (zUz _ _ bs _ (hs.rd0 hb)) rfl ?_
 refine goL 1 [] [3, 0] .n ?_
 intro a w hs; refine zRI hs underlying31 rfl ?_ ⟨_, sizeOf5⟩; intro g1
 refine goL 1 [] [7, 6, 3] .n ?_
 refine cl (·.toRow (size := 1) (m := 0) .z rfl (by decide)) ?_
 intro a w hs; refine zBI (size := 1) (bytes := 1) hs rfl rfl .z (hs.rd0 hb) (zAG _) underlying31 (i := Tryz.t5) rfl rfl rfl rfl rfl (by decide) (by omega) (by simp only [maxLen]; omega) rfl ?_; intro v2
 refine goL 1 [] [9, 8, 3] .n ?_
 intro a w hs; refine zEt (X := zCL bs) (m := 24) hs rfl rfl rfl (by decide) rfl ?_
 intro a w hs; refine zDS (X := (zCL bs) >>> 24) hs rfl rfl underlying161 underlying5 rfl ?_
 refine goL 1 [] [12, 11, 8, 3] .n ?_
 intro a w hs; refine zEt (X := zCL bs) (m := 16) hs rfl rfl rfl (by decide) rfl ?_
 intro a w hs; refine zDS (X := (zCL bs) >>> 16) hs rfl rfl underlying161 underlying5 rfl ?_
 refine goL 1 [] [15, 14, 11, 8, 3] .n ?_
 intro a w hs; refine zEt (X := zCL bs) (m := 8) hs rfl rfl rfl (by decide) rfl ?_
 intro a w hs; refine zDS (X := (zCL bs) >>> 8) hs rfl rfl underlying161 underlying5 rfl ?_
 refine goL 1 [] [18, 17, 14, 11, 8] .n ?_
 intro a w hs; refine zDS (X := zCL bs) hs rfl rfl underlying161 underlying5 rfl ?_
 refine goL 1 [] [20, 8] .n (fun g3 => ?_)
 intro a w hs; refine zBI (size := 1) (bytes := 1) hs rfl rfl (.s .z) (zAI (m := 4) (size := 1) (hs.mem.del .z) rfl (by decide)) (by simp [Value.oneCell']) underlying31 (i := Tryz.t5) rfl rfl rfl rfl rfl (by decide) (by omega) (by simp only [maxLen]; omega) rfl ?_; intro v4
 refine cl (·.drop (.c (.s .z) .n)) ?_
 refine goL 1 [] [2] .n ?_
 intro a w hs; replace hs := hs.rerow .z (m' := m + 4) (xs' := zC (zGT bs)) (by omega) (by rw [List.nil_append]; exact (zBL bs (be4 (zCL bs))).symm)
 exact fin hs rfl rfl rfl
def zDt (bs : List zP) (v : Value) (N : List HA) : Prop := match zCj bs with
 | none => v = .tuple #[.slice none 0 0, .bool false] ∧ N = []
 | some x => ∃ r, v = .tuple #[r, .bool true] ∧ N = [row r 5 1 x.length (zC x)]
theorem zCy {bs : List zP} (h : zCj bs = none) : zDt bs (.tuple #[.slice none 0 0, .bool false]) [] := by unfold zDt; rw [h]; exact ⟨rfl, rfl⟩
theorem zJy {bs x : List zP} (h : zCj bs = some x) (r : Value) : zDt bs (.tuple #[r, .bool true]) [row r 5 1 x.length (zC x)] := by unfold zDt; rw [h]; exact ⟨r, rfl, rfl⟩
theorem zIy {bs : List zP} (h : bs.length < 4) : zCj bs = none := by unfold zCj; rw [if_pos h]
theorem zV0 {bs : List zP} (h : ¬ bs.length < 4) (h2 : beN (bs.drop (bs.length - 4)) ≠ zCL (bs.take (bs.length - 4))) : zCj bs = none := by unfold zCj; rw [if_neg h, if_neg h2]
theorem zUI {bs : List zP} (h : ¬ bs.length < 4) (h2 : beN (bs.drop (bs.length - 4)) = zCL (bs.take (bs.length - 4))) : zCj bs = some (bs.take (bs.length - 4)) := by unfold zCj; rw [if_neg h, if_pos h2]
theorem zND {bs : List zP} {m k : Nat} (hl : bs.length = m) (h4 : 4 ≤ m) (h : (((beN ((bs.drop (m - 4)).take k)).toNat : Nat) : Int) ≠ (((zCL (bs.take (m - 4))).toNat : Nat) : Int)) (hk : k = m - (m - 4)) : zCj bs = none := by
 subst hl
 rw [List.take_of_length_le (by simp; omega)] at h
 exact zV0 (by omega) (fun e => h (by rw [e]))
theorem zRo {bs : List zP} {m k : Nat} (hl : bs.length = m) (h4 : 4 ≤ m) (h : (((beN ((bs.drop (m - 4)).take k)).toNat : Nat) : Int) = (((zCL (bs.take (m - 4))).toNat : Nat) : Int)) (hk : k = m - (m - 4)) : zCj bs = some (bs.take (m - 4)) := by
 subst hl
 rw [List.take_of_length_le (by simp; omega)] at h
 exact zUI (by omega) (BitVec.eq_of_toNat_eq (by omega))
theorem zQ0 (v : Value) (m : Nat) (bs : List zP) (w0 : World) (hb : Rd w0 [] v 1 m (zC bs)) (hm : m ≤ 140737488351232) : Calls Tryz.prog 40 #[v] w0 (Ret w0 [] (zDt bs)) := by
 have hbl : bs.length = m := by have := hb.len; simpa [zC] using this
 have hle : m ≤ maxLen := hb.le
 simp only [maxLen] at hle
 refine zD (F0 := [(0, v)]) func40 rfl rfl rfl (.c .n) (Mem.nil _) ?_
 refine go 3 [] [8, 0] .n ?_
 intro a w hs; refine zAE hs rfl (hs.rd0 hb).isSl underlying31 rfl ?_
 refine goL 4 [] [12, 4, 0] .n ⟨(by omega), ?_⟩
 refine ifG rfl (fun c_1 => ?_) (fun c_1 => ?_)
 ·
  refine go 2 [] [3, 2] .n ?_
  intro a w hs; first | exact zBH hs rfl rfl rfl (zCy (zIy (by omega))) | exact zBH hs rfl rfl rfl (zCy (zND hbl (by omega) (by assumption) (by omega)))
 have hv_ : ((m : Int) - 4 : Int) = (((m - 4 : Nat) : Int) : Int) := by omega
 intro a w hs; rw [hv_] at hs; clear hv_
 revert a w hs
 refine go 3 [] [14, 13, 5, 4, 0] .n ?_
 intro a w hs; refine zIC (j := (m - 4)) hs rfl rfl rfl (hs.rd0 hb).isSl (by omega) underlying31 sizeOf5 rfl ?_
 intro a w hs; refine zAE hs rfl ((hs.rd0 hb).slcL (l := (m - 4)) (by omega)).isSl underlying31 rfl ?_
 refine goL 1 [] [17, 16, 15, 5, 4, 0] .n ?_
 intro a w hs; refine zCh (fun mm_ a w => ∃ k : Nat, mm_ = m - k ∧ St 38 [(0, v), (4, nI (m - 4)), (5, .int .u32 (((beN ((bs.drop (m - 4)).take k)).toNat : Nat) : Int)), (15, zFX v 1 (m - 4) m), (16, nI (m - (m - 4))), (17, zI (k : Int))] w0 [] [] a w ∧ k ≤ m - (m - 4)) ⟨0, rfl, hs.sub (.c rfl (.c rfl (.c rfl (.c rfl (.c rfl (.c rfl .n)))))), by omega⟩ ?_
 clear hs w a; rintro mm_ a w ⟨k, rfl, hs, hI1_0⟩
 revert a w hs
 refine go 1 [] [18, 0, 4, 5, 15, 16, 17] .n ?_
 refine ifG rfl (fun c_2 => ?_) (fun c_2 => ?_)
 ·
  refine go 0 [] [0, 4, 5, 15, 16, 17] .n ?_
  intro a w hs; refine zAw (j := k) hs rfl rfl ((hs.rd0 hb).slcL (l := (m - 4)) (by omega)) rfl (by omega) underlying31 sizeOf5 rfl ?_
  intro a w hs; refine zBY hs rfl ((hs.rd0 hb).slcL (l := (m - 4)) (by omega)) (zBy (bs.drop (m - 4)) (by first | omega | (simp; omega))) isAgg5 rfl ?_
  refine goL 2 [] [21, 7, 0, 4, 15, 16, 17] .n ?_
  intro a w hs; refine zOo (X := beN ((bs.drop (m - 4)).take k)) (m := 8) hs rfl rfl rfl (by decide) rfl ?_
  refine goL 1 [] [23, 22, 0, 4, 15, 16, 17] .n ?_
  intro a w hs; refine zGq (X := (bs.drop (m - 4)).getD k 0) hs rfl rfl underlying5 underlying161 rfl ?_
  intro a w hs; refine zR6 (X := (beN ((bs.drop (m - 4)).take k)) <<< 8) (Y := ((bs.drop (m - 4)).getD k 0).setWidth 32) hs rfl rfl rfl rfl rfl ?_
  refine goL 3 [] [17, 5, 0, 4, 15, 16] .n ⟨(by omega), ?_⟩
  intro a w hs; rw [← zUh _ _ (by simp; omega)] at hs
  refine ⟨_, ?_, k + 1, rfl, hs.sub (.c rfl (.c rfl (.c rfl (.c rfl (.c rfl (.c rfl .n)))))), by omega⟩
  omega
 refine go 3 [] [29, 28, 27, 0, 4] .n ?_
 intro a w hs; refine zME (j := (m - 4)) hs rfl rfl rfl (hs.rd0 hb) (by omega) underlying31 sizeOf5 rfl ?_
 intro a w hs; refine zB (v := .int .u32 (((zCL (bs.take (m - 4))).toNat : Nat) : Int)) hs (.c rfl .n) call83 (zUz _ _ (bs.take (m - 4)) _ ((hs.rd0 hb).slcT (h := (m - 4)) (by omega))) rfl ?_
 refine goL 1 [] [32, 0, 4] .n ?_
 refine ifG rfl (fun c_3 => ?_) (fun c_3 => ?_)
 ·
  refine go 2 [] [3, 2] .n ?_
  intro a w hs; first | exact zBH hs rfl rfl rfl (zCy (zIy (by omega))) | exact zBH hs rfl rfl rfl (zCy (zND hbl (by omega) (by assumption) (by omega)))
 refine go 0 [] [0, 4] .n ?_
 intro a w hs; refine zRI hs underlying31 rfl ?_ ⟨_, sizeOf5⟩; intro g4
 refine goL 2 [] [35, 34, 33] .n ?_
 intro a w hs; refine zME (j := (m - 4)) hs rfl rfl rfl (hs.rd0 hb) (by omega) underlying31 sizeOf5 rfl ?_
 refine cl (·.toRow (size := 1) (m := 0) .z rfl (by decide)) ?_
 intro a w hs; refine zBI (size := 1) (bytes := 1) hs rfl rfl .z ((hs.rd0 hb).slcT (h := (m - 4)) (by omega)) (zAG _) underlying31 (i := Tryz.t5) rfl rfl rfl rfl rfl (by decide) (by omega) (by simp only [maxLen]; omega) rfl ?_; intro v5
 refine goL 2 [] [3, 2] .n ?_
 intro a w hs; replace hs := hs.rerow .z (m' := (bs.take (m - 4)).length) (xs' := zC (bs.take (m - 4))) (by simp; omega) (by rw [List.nil_append])
 exact zBH hs rfl rfl rfl (zJy (zRo hbl (by omega) (by assumption) (by omega)) _)
theorem zQl (v : Value) (m : Nat) (bs : List zP) (w0 : World) (hb : Rd w0 [] v 1 m (zC bs)) (hm : m ≤ 140737488351232) (h : zCj bs = none) : Calls Tryz.prog 40 #[v] w0 (zAa w0 (.tuple #[.slice none 0 0, .bool false])) :=
 (zQ0 v m bs w0 hb hm).mono fun e w' ⟨u, N, he, hp, hM⟩ => ⟨u, N, he, by unfold zDt at hp; rw [h] at hp; exact hp, hM⟩
theorem zRv (v : Value) (m : Nat) (bs : List zP) (w0 : World) (hb : Rd w0 [] v 1 m (zC bs)) (x : List zP) (hm : m ≤ 140737488351232) (h : zCj bs = some x) : Calls Tryz.prog 40 #[v] w0 (Ret w0 [] fun u N => ∃ r, u = .tuple #[r, .bool true] ∧ N = [row r 5 1 x.length (zC x)]) :=
 (zQ0 v m bs w0 hb hm).mono fun e w' ⟨u, N, he, hp, hM⟩ => ⟨u, N, he, by unfold zDt at hp; rw [h] at hp; exact hp, hM⟩
end Go.Proofs.YtemnjodhidlfpaaGreat
/- Walks of datagrams: what each function does, over the program of this seat. Printed by a program of this session. -/
namespace Go.Proofs.YtemnjodhidlfpaaGreat
open Tryz
open Go Go.Sx Go.RowKit
set_option linter.unusedVariables false
set_option linter.unusedSimpArgs false
set_option maxRecDepth 4000
set_option maxHeartbeats 1000000

theorem zSb (t tm b : Int) (u : Value) (l : List zAA) (w0 : World) (ht_ : -9223372036854775808 ≤ t ∧ t ≤ 9223372036854775807) (htm_ : -9223372036854775808 ≤ tm ∧ tm ≤ 9223372036854775807) (hb_ : -9223372036854775808 ≤ b ∧ b ≤ 9223372036854775807) (hc : Rd w0 [] u 9 l.length (l.flatMap zJD)) : Calls Tryz.prog 139 #[.agg #[.int .i64 t, .int .i64 tm, .int .i64 b, u]] w0 (Ret w0 [] fun x N => ∃ v, x = .tuple #[v, nI (zEv t tm b l.length)] ∧ N = [row v 5 1 (zBb t tm b l.length).length (zC (zBb t tm b l.length))]) := by
 have hce := hc.le
 simp only [maxLen] at hce
 have hv1 := zCq (BitVec.ofInt 64 t).toNat
 have hv2 := zCq (zGG tm).toNat
 have hv3 := zCq (BitVec.ofInt 64 (t - b)).toNat
 have hv4 := zCq (BitVec.ofInt 64 (l.length : Int)).toNat
 have hv5 := zCq (0#64).toNat
 refine zD (F0 := [(0, .agg #[zI t, zI tm, zI b, u])]) func139 rfl rfl rfl (.c .n) (Mem.nil _) ?_
 refine go 7 [0, 0] [12, 1] .n (fun g1 => ⟨rfl, ?_⟩)
 intro a w hs; refine zV (b := decide (t < 0)) (fun c_2 => ?_) (fun c_2 => ?_)
 ·
  rw [c_2] at hs
  replace c_2 := of_decide_eq_true c_2
  revert a w hs
  refine go 19 [] [3, 2] .n ?_
  have hge : zEv t tm b l.length = 3 := by first | exact zDP (by omega) | exact zCD (by omega) (by omega) | exact zDU (by omega) (by omega) (by omega) | exact zGs (by omega) (by omega) (by omega)
  refine cl (·.drop (.c .z .n)) ?_
  refine cl (·.addNil 5 1) ?_
  intro a w hs; replace hs := hs.rerow .z (m' := (zBb t tm b l.length).length) (xs' := zC (zBb t tm b l.length)) (by rw [zBb, if_pos (by omega)]; rfl) (by rw [zBb, if_pos (by omega)]; rfl)
  exact zBH hs rfl rfl rfl ⟨_, congrArg (fun z : Nat => Value.tuple #[.slice none 0 0, zI (z : Int)]) hge.symm, rfl⟩
 rw [c_2] at hs
 replace c_2 := of_decide_eq_false c_2
 revert a w hs
 refine go 5 [0] [17, 1] (.c .z .n) ⟨rfl, ?_⟩
 intro a w hs; refine zV (b := decide (4294967295 < t)) (fun c_3 => ?_) (fun c_3 => ?_)
 ·
  rw [c_3] at hs
  replace c_3 := of_decide_eq_true c_3
  revert a w hs
  refine go 14 [] [3, 2] .n ?_
  have hge : zEv t tm b l.length = 3 := by first | exact zDP (by omega) | exact zCD (by omega) (by omega) | exact zDU (by omega) (by omega) (by omega) | exact zGs (by omega) (by omega) (by omega)
  refine cl (·.drop (.c .z .n)) ?_
  refine cl (·.addNil 5 1) ?_
  intro a w hs; replace hs := hs.rerow .z (m' := (zBb t tm b l.length).length) (xs' := zC (zBb t tm b l.length)) (by rw [zBb, if_pos (by omega)]; rfl) (by rw [zBb, if_pos (by omega)]; rfl)
  exact zBH hs rfl rfl rfl ⟨_, congrArg (fun z : Nat => Value.tuple #[.slice none 0 0, zI (z : Int)]) hge.symm, rfl⟩
 rw [c_3] at hs
 replace c_3 := of_decide_eq_false c_3
 revert a w hs
 refine go 2 [0] [19, 17, 1] (.c .z .n) ⟨rfl, ?_⟩
 intro a w hs; refine zF hs rfl rfl rfl ?_
 refine zB (v := .bool (decide (-2305843009213693952 ≤ tm ∧ tm ≤ 2305843009213693952))) hs (.c rfl .n) call87 (zLB tm _) rfl ?_
 refine goL 3 [] [23, 1] .n ?_
 intro a w hs; refine zV (b := !(decide (-2305843009213693952 ≤ tm ∧ tm ≤ 2305843009213693952))) (fun c_4 => ?_) (fun c_4 => ?_)
 ·
  rw [c_4] at hs
  replace c_4 := zFh c_4
  replace c_4 := of_decide_eq_false c_4
  revert a w hs
  refine go 8 [] [3, 2] .n ?_
  have hge : zEv t tm b l.length = 3 := by first | exact zDP (by omega) | exact zCD (by omega) (by omega) | exact zDU (by omega) (by omega) (by omega) | exact zGs (by omega) (by omega) (by omega)
  refine cl (·.drop (.c .z .n)) ?_
  refine cl (·.addNil 5 1) ?_
  intro a w hs; replace hs := hs.rerow .z (m' := (zBb t tm b l.length).length) (xs' := zC (zBb t tm b l.length)) (by rw [zBb, if_pos (by omega)]; rfl) (by rw [zBb, if_pos (by omega)]; rfl)
  exact zBH hs rfl rfl rfl ⟨_, congrArg (fun z : Nat => Value.tuple #[.slice none 0 0, zI (z : Int)]) hge.symm, rfl⟩
 rw [c_4] at hs
 replace c_4 := zGD c_4
 replace c_4 := of_decide_eq_true c_4
 revert a w hs
 refine go 5 [0] [8, 1] (.c .z .n) ⟨rfl, ?_⟩
 refine ifG rfl (fun c_5 => ?_) (fun c_5 => ?_)
 ·
  refine go 2 [] [3, 2] .n ?_
  have hge : zEv t tm b l.length = 3 := by first | exact zDP (by omega) | exact zCD (by omega) (by omega) | exact zDU (by omega) (by omega) (by omega) | exact zGs (by omega) (by omega) (by omega)
  refine cl (·.drop (.c .z .n)) ?_
  refine cl (·.addNil 5 1) ?_
  intro a w hs; replace hs := hs.rerow .z (m' := (zBb t tm b l.length).length) (xs' := zC (zBb t tm b l.length)) (by rw [zBb, if_pos (by omega)]; rfl) (by rw [zBb, if_pos (by omega)]; rfl)
  exact zBH hs rfl rfl rfl ⟨_, congrArg (fun z : Nat => Value.tuple #[.slice none 0 0, zI (z : Int)]) hge.symm, rfl⟩
 refine go 6 [0, 0] [28, 1] (.c .z .n) ⟨rfl, rfl, ?_⟩
 refine ifG rfl (fun c_6 => ?_) (fun c_6 => ?_)
 ·
  refine go 2 [] [3, 2] .n ?_
  have hge : zEv t tm b l.length = 10 := by first | exact zDP (by omega) | exact zCD (by omega) (by omega) | exact zDU (by omega) (by omega) (by omega) | exact zGs (by omega) (by omega) (by omega)
  refine cl (·.drop (.c .z .n)) ?_
  refine cl (·.addNil 5 1) ?_
  intro a w hs; replace hs := hs.rerow .z (m' := (zBb t tm b l.length).length) (xs' := zC (zBb t tm b l.length)) (by rw [zBb, if_pos (by omega)]; rfl) (by rw [zBb, if_pos (by omega)]; rfl)
  exact zBH hs rfl rfl rfl ⟨_, congrArg (fun z : Nat => Value.tuple #[.slice none 0 0, zI (z : Int)]) hge.symm, rfl⟩
 refine go 2 [0] [36, 1] (.c .z .n) ⟨rfl, ?_⟩
 intro a w hs; refine zAE hs rfl (hs.rd0 hc).isSl underlying58 rfl ?_
 refine goL 2 [] [34, 1] .n ?_
 refine ifG rfl (fun c_7 => ?_) (fun c_7 => ?_)
 ·
  refine go 2 [] [3, 2] .n ?_
  have hge : zEv t tm b l.length = 8 := by first | exact zDP (by omega) | exact zCD (by omega) (by omega) | exact zDU (by omega) (by omega) (by omega) | exact zGs (by omega) (by omega) (by omega)
  refine cl (·.drop (.c .z .n)) ?_
  refine cl (·.addNil 5 1) ?_
  intro a w hs; replace hs := hs.rerow .z (m' := (zBb t tm b l.length).length) (xs' := zC (zBb t tm b l.length)) (by rw [zBb, if_pos (by omega)]; rfl) (by rw [zBb, if_pos (by omega)]; rfl)
  exact zBH hs rfl rfl rfl ⟨_, congrArg (fun z : Nat => Value.tuple #[.slice none 0 0, zI (z : Int)]) hge.symm, rfl⟩
 refine go 4 [0] [41, 4, 1] (.c .z .n) ⟨rfl, ?_⟩
 refine ifG rfl (fun c_8 => ?_) (fun c_8 => ?_)
 ·
  refine go 5 [0, 0] [46, 1] (.c .z .n) ⟨rfl, rfl, (by omega), ?_⟩
  intro a w hs; refine zAV hs rfl underlying2 underlying167 rfl ?_
  refine goL 3 [] [5, 4, 1] .n (fun g9 => ?_)
  intro a w hs
  refine zAO [.p [] [], .p [0] [0], .v [1] (qI (BitVec.ofInt 64 t)), .p [] [], .p [3] [0], .v [4] (qI (zGG tm)), .p [] [], .p [] [], .p [7] [0], .v [8] (nI l.length), .v [9] (qI (BitVec.ofInt 64 ((l.length : Nat) : Int))), .x [10, 6, 5, 2] ⟨[], [], [], fun vs10 => vs10 11 = .slice (some ⟨(zCn (vs10 11)), 0, none⟩) 4 4, fun vs10 => [blk (zCn (vs10 11)) [qI (BitVec.ofInt 64 t), qI (zGG tm), qI (BitVec.ofInt 64 (t - b)), qI (BitVec.ofInt 64 ((l.length : Nat) : Int))] 167], none⟩, .y [] (zI 4) [] [] [] fun vs10 => [], .p [] []] [12, 13] hs .n .n (.c (.s .z) .n) (by kernel_rfl) ⟨rfl, fun _ _ _ _ hm hs K => zAV hs rfl underlying2 underlying167 rfl (vk K), rfl, fun _ _ _ _ hm hs K => zB (v := qI (zGG tm)) hs (.c rfl .n) call173 (zR1 tm _ (by omega)) rfl (vk K), rfl, fun _ _ _ _ hm hs K => zAE hs rfl (hm.rd0 hc).isSl underlying58 rfl (vk K), fun _ _ _ _ hm hs K => zAV hs rfl underlying3 underlying167 rfl (vk K), ⟨.n, by kernel_rfl, fun _ => rfl, rfl, rfl⟩, ⟨?_, ?_, trivial⟩, ?_⟩
  ·
   intro a_ w_ R_ rest_ vs10 hm hs ht hx
   have hs0 := hs.bare
   refine zHz (cs := [qI (BitVec.ofInt 64 t), qI (zGG tm), qI (BitVec.ofInt 64 (t - b)), qI (BitVec.ofInt 64 ((l.length : Nat) : Int))]) hs (.c (.c (.c (.c .n)))) (.c rfl (.c rfl (.c rfl (.c rfl .n)))) underlying268 (ie := Tryz.t167) rfl rfl rfl rfl (by decide) (by decide) rfl (by decide) rfl rfl rfl ?_; clear hs; intro g11 a w hs
   exact wpList_nil ⟨rfl, _, _, hs0, (.c (.c (.c (.c .r)))), hs, rfl⟩
  ·
   intro a_ w_ R_ rest_ vs10 hm hs ht hx
   have t11 := ht 11 (zH 14 _ (by kernel_rfl))
   have e11 : _ = some (vs10 11) := t11.val rfl
   rw [show vs10 11 = .slice (some ⟨(zCn (vs10 11)), 0, none⟩) 4 4 from t11.2.1] at e11
   replace hs := hs.learn e11
   have hs0 := hs.bare
   refine zAE hs rfl (zAI (m := 4) (size := 1) (hm.own (List.mem_append.2 (.inr ((ht 11 (zH 14 _ (by kernel_rfl))).2.2 (zIJ (n := 14) (by kernel_rfl)) _ (List.Mem.head _))))) rfl (by decide)).isSl underlying268 rfl ?_; clear hs; intro a w hs
   replace hs := hs.recell (v' := zI 4) (Option.some.inj rfl)
   exact wpList_nil ⟨rfl, _, _, hs0, (.c .r), hs, rfl⟩
  clear hs w a; intro vs10 a w hs hf
  obtain ⟨e11, q11⟩ := hf 11 (by decide)
  replace e11 : _ = some (vs10 11) := e11.val rfl
  rw [show vs10 11 = .slice (some ⟨(zCn (vs10 11)), 0, none⟩) 4 4 from q11] at e11
  replace hs := hs.learn e11; clear e11 q11
  generalize zCn (vs10 11) = g12 at hs
  clear hf
  revert a w hs
  refine goE 0 [] [60, 62, 61, 5] .n ?_
  intro a w hs; refine zCs 4 ?_
  revert a w hs
  refine go 2 [] [60, 62, 61, 5] .n ?_
  intro a w hs; refine zAw (j := 0) hs rfl rfl (zAI (m := 4) (size := 1) (hs.mem.del (.s (.s .z))) rfl (by decide)) (by decide) (by omega) underlying268 sizeOf167 rfl ?_
  intro a w hs; refine zBY (u := qI (BitVec.ofInt 64 t)) hs rfl (zAI (m := 4) (size := 1) (hs.mem.del (.s (.s .z))) rfl (by decide)) (by rfl) isAgg167 rfl ?_
  refine goL 3 [] [67, 66, 60, 62, 61] .n ?_
  intro a w hs; refine zK hs (.c rfl .n) call174 .n (zED (BitVec.ofInt 64 t) _) rfl ?_; clear hs w a; rintro v13 _ a w rfl hs
  replace hs := hs.toRow (size := 1) (m := 2) (.s .z) rfl (by decide)
  refine zBI (size := 1) (bytes := 1) hs rfl rfl .z (zO (hs.mem.del (.s .z))) (zAG _) underlying31 (i := Tryz.t5) rfl rfl rfl rfl rfl (by decide) (by omega) (by simp only [maxLen]; omega) rfl ?_; intro v14
  refine goL 3 [] [62, 5, 60, 61] .n ⟨by decide, ?_⟩
  intro a w hs; refine zAX ?_
  revert a w hs
  refine go 2 [] [62, 5, 60, 61] .n ?_
  intro a w hs; refine zAw (j := 1) hs rfl rfl (zAI (m := 4) (size := 1) (hs.mem.del (.s (.s (.s .z)))) rfl (by decide)) (by decide) (by omega) underlying268 sizeOf167 rfl ?_
  intro a w hs; refine zBY (u := qI (zGG tm)) hs rfl (zAI (m := 4) (size := 1) (hs.mem.del (.s (.s (.s .z)))) rfl (by decide)) (by rfl) isAgg167 rfl ?_
  refine goL 3 [] [67, 66, 62, 60, 61] .n ?_
  intro a w hs; refine zK hs (.c rfl .n) call174 .n (zED (zGG tm) _) rfl ?_; clear hs w a; rintro v15 _ a w rfl hs
  refine zBI (size := 1) (bytes := 1) hs rfl rfl (.s .z) (zO (hs.mem.del .z)) (zAG _) underlying31 (i := Tryz.t5) rfl rfl rfl rfl rfl (by decide) (by omega) (by simp only [maxLen]; omega) rfl ?_; intro v16
  refine goL 3 [] [62, 5, 60, 61] .n ⟨by decide, ?_⟩
  intro a w hs; refine zAX ?_
  revert a w hs
  refine go 2 [] [62, 5, 60, 61] .n ?_
  intro a w hs; refine zAw (j := 2) hs rfl rfl (zAI (m := 4) (size := 1) (hs.mem.del (.s (.s (.s (.s .z))))) rfl (by decide)) (by decide) (by omega) underlying268 sizeOf167 rfl ?_
  intro a w hs; refine zBY (u := qI (BitVec.ofInt 64 (t - b))) hs rfl (zAI (m := 4) (size := 1) (hs.mem.del (.s (.s (.s (.s .z))))) rfl (by decide)) (by rfl) isAgg167 rfl ?_
  refine goL 3 [] [67, 66, 62, 60, 61] .n ?_
  intro a w hs; refine zK hs (.c rfl .n) call174 .n (zED (BitVec.ofInt 64 (t - b)) _) rfl ?_; clear hs w a; rintro v17 _ a w rfl hs
  refine zBI (size := 1) (bytes := 1) hs rfl rfl (.s .z) (zO (hs.mem.del .z)) (zAG _) underlying31 (i := Tryz.t5) rfl rfl rfl rfl rfl (by decide) (by omega) (by simp only [maxLen]; omega) rfl ?_; intro v18
  refine goL 3 [] [62, 5, 60, 61] .n ⟨by decide, ?_⟩
  intro a w hs; refine zAX ?_
  revert a w hs
  refine go 2 [] [62, 5, 60, 61] .n ?_
  intro a w hs; refine zAw (j := 3) hs rfl rfl (zAI (m := 4) (size := 1) (hs.mem.del (.s (.s (.s (.s (.s .z)))))) rfl (by decide)) (by decide) (by omega) underlying268 sizeOf167 rfl ?_
  intro a w hs; refine zBY (u := qI (BitVec.ofInt 64 ((l.length : Nat) : Int))) hs rfl (zAI (m := 4) (size := 1) (hs.mem.del (.s (.s (.s (.s (.s .z)))))) rfl (by decide)) (by rfl) isAgg167 rfl ?_
  refine goL 3 [] [67, 66, 62, 60, 61] .n ?_
  intro a w hs; refine zK hs (.c rfl .n) call174 .n (zED (BitVec.ofInt 64 ((l.length : Nat) : Int)) _) rfl ?_; clear hs w a; rintro v19 _ a w rfl hs
  refine zBI (size := 1) (bytes := 1) hs rfl rfl (.s .z) (zO (hs.mem.del .z)) (zAG _) underlying31 (i := Tryz.t5) rfl rfl rfl rfl rfl (by decide) (by omega) (by simp only [maxLen]; omega) rfl ?_; intro v20
  refine goL 3 [] [62, 5, 60, 61] .n ⟨by decide, ?_⟩
  intro a w hs; refine zAX ?_
  revert a w hs
  refine go 5 [] [3, 2] .n ?_
  have hge : zEv t tm b l.length = 0 := by first | exact zDP (by omega) | exact zCD (by omega) (by omega) | exact zDU (by omega) (by omega) (by omega) | exact zGs (by omega) (by omega) (by omega)
  refine cl (·.drop (.c (.s (.s (.s (.s (.s (.s .z)))))) (.c (.s (.s (.s (.s (.s .z))))) (.c (.s (.s (.s (.s .z)))) (.c (.s (.s (.s .z))) (.c (.s (.s .z)) (.c (.s .z) .n))))))) ?_
  intro a w hs; replace hs := hs.rerow .z (m' := (zBb t tm b l.length).length) (xs' := zC (zBb t tm b l.length)) (by rw [zBb, if_neg (by omega), zA7, zGy]; (first | rw [if_pos (by omega)] | rw [if_neg (by omega)]); simp only [List.length_append, List.length_cons, List.length_nil, zBP]) (by rw [zBb, if_neg (by omega), zA7, zGy]; (first | rw [if_pos (by omega)] | rw [if_neg (by omega)]); simp [zC, zKv])
  exact zBH hs rfl rfl rfl ⟨_, congrArg (fun z : Nat => Value.tuple #[v20, zI (z : Int)]) hge.symm, rfl⟩
 refine go 2 [] [5, 4, 1] .n (fun g21 => ?_)
 intro a w hs
 refine zAO [.p [] [], .p [0] [0], .v [1] (qI (BitVec.ofInt 64 t)), .p [] [], .p [3] [0], .v [4] (qI (zGG tm)), .p [] [], .p [] [], .p [7] [0], .v [8] (nI l.length), .v [9] (qI (BitVec.ofInt 64 ((l.length : Nat) : Int))), .x [10, 6, 5, 2] ⟨[], [], [], fun vs22 => vs22 11 = .slice (some ⟨(zCn (vs22 11)), 0, none⟩) 4 4, fun vs22 => [blk (zCn (vs22 11)) [qI (BitVec.ofInt 64 t), qI (zGG tm), .int .u64 (0), qI (BitVec.ofInt 64 ((l.length : Nat) : Int))] 167], none⟩, .y [] (zI 4) [] [] [] fun vs22 => [], .p [] []] [12, 13] hs .n .n (.c (.s .z) .n) (by kernel_rfl) ⟨rfl, fun _ _ _ _ hm hs K => zAV hs rfl underlying2 underlying167 rfl (vk K), rfl, fun _ _ _ _ hm hs K => zB (v := qI (zGG tm)) hs (.c rfl .n) call173 (zR1 tm _ (by omega)) rfl (vk K), rfl, fun _ _ _ _ hm hs K => zAE hs rfl (hm.rd0 hc).isSl underlying58 rfl (vk K), fun _ _ _ _ hm hs K => zAV hs rfl underlying3 underlying167 rfl (vk K), ⟨.n, by kernel_rfl, fun _ => rfl, rfl, rfl⟩, ⟨?_, ?_, trivial⟩, ?_⟩
 ·
  intro a_ w_ R_ rest_ vs22 hm hs ht hx
  have hs0 := hs.bare
  refine zHz (cs := [qI (BitVec.ofInt 64 t), qI (zGG tm), .int .u64 (0), qI (BitVec.ofInt 64 ((l.length : Nat) : Int))]) hs (.c (.c (.c (.c .n)))) (.c rfl (.c rfl (.c rfl (.c rfl .n)))) underlying268 (ie := Tryz.t167) rfl rfl rfl rfl (by decide) (by decide) rfl (by decide) rfl rfl rfl ?_; clear hs; intro g23 a w hs
  exact wpList_nil ⟨rfl, _, _, hs0, (.c (.c (.c (.c .r)))), hs, rfl⟩
 ·
  intro a_ w_ R_ rest_ vs22 hm hs ht hx
  have t11 := ht 11 (zH 14 _ (by kernel_rfl))
  have e11 : _ = some (vs22 11) := t11.val rfl
  rw [show vs22 11 = .slice (some ⟨(zCn (vs22 11)), 0, none⟩) 4 4 from t11.2.1] at e11
  replace hs := hs.learn e11
  have hs0 := hs.bare
  refine zAE hs rfl (zAI (m := 4) (size := 1) (hm.own (List.mem_append.2 (.inr ((ht 11 (zH 14 _ (by kernel_rfl))).2.2 (zIJ (n := 14) (by kernel_rfl)) _ (List.Mem.head _))))) rfl (by decide)).isSl underlying268 rfl ?_; clear hs; intro a w hs
  replace hs := hs.recell (v' := zI 4) (Option.some.inj rfl)
  exact wpList_nil ⟨rfl, _, _, hs0, (.c .r), hs, rfl⟩
 clear hs w a; intro vs22 a w hs hf
 obtain ⟨e11, q11⟩ := hf 11 (by decide)
 replace e11 : _ = some (vs22 11) := e11.val rfl
 rw [show vs22 11 = .slice (some ⟨(zCn (vs22 11)), 0, none⟩) 4 4 from q11] at e11
 replace hs := hs.learn e11; clear e11 q11
 generalize zCn (vs22 11) = g24 at hs
 clear hf
 revert a w hs
 refine goE 0 [] [60, 62, 61, 5] .n ?_
 intro a w hs; refine zCs 4 ?_
 revert a w hs
 refine go 2 [] [60, 62, 61, 5] .n ?_
 intro a w hs; refine zAw (j := 0) hs rfl rfl (zAI (m := 4) (size := 1) (hs.mem.del (.s (.s .z))) rfl (by decide)) (by decide) (by omega) underlying268 sizeOf167 rfl ?_
 intro a w hs; refine zBY (u := qI (BitVec.ofInt 64 t)) hs rfl (zAI (m := 4) (size := 1) (hs.mem.del (.s (.s .z))) rfl (by decide)) (by rfl) isAgg167 rfl ?_
 refine goL 3 [] [67, 66, 60, 62, 61] .n ?_
 intro a w hs; refine zK hs (.c rfl .n) call174 .n (zED (BitVec.ofInt 64 t) _) rfl ?_; clear hs w a; rintro v25 _ a w rfl hs
 replace hs := hs.toRow (size := 1) (m := 2) (.s .z) rfl (by decide)
 refine zBI (size := 1) (bytes := 1) hs rfl rfl .z (zO (hs.mem.del (.s .z))) (zAG _) underlying31 (i := Tryz.t5) rfl rfl rfl rfl rfl (by decide) (by omega) (by simp only [maxLen]; omega) rfl ?_; intro v26
 refine goL 3 [] [62, 5, 60, 61] .n ⟨by decide, ?_⟩
 intro a w hs; refine zAX ?_
 revert a w hs
 refine go 2 [] [62, 5, 60, 61] .n ?_
 intro a w hs; refine zAw (j := 1) hs rfl rfl (zAI (m := 4) (size := 1) (hs.mem.del (.s (.s (.s .z)))) rfl (by decide)) (by decide) (by omega) underlying268 sizeOf167 rfl ?_
 intro a w hs; refine zBY (u := qI (zGG tm)) hs rfl (zAI (m := 4) (size := 1) (hs.mem.del (.s (.s (.s .z)))) rfl (by decide)) (by rfl) isAgg167 rfl ?_
 refine goL 3 [] [67, 66, 62, 60, 61] .n ?_
 intro a w hs; refine zK hs (.c rfl .n) call174 .n (zED (zGG tm) _) rfl ?_; clear hs w a; rintro v27 _ a w rfl hs
 refine zBI (size := 1) (bytes := 1) hs rfl rfl (.s .z) (zO (hs.mem.del .z)) (zAG _) underlying31 (i := Tryz.t5) rfl rfl rfl rfl rfl (by decide) (by omega) (by simp only [maxLen]; omega) rfl ?_; intro v28
 refine goL 3 [] [62, 5, 60, 61] .n ⟨by decide, ?_⟩
 intro a w hs; refine zAX ?_
 revert a w hs
 refine go 2 [] [62, 5, 60, 61] .n ?_
 intro a w hs; refine zAw (j := 2) hs rfl rfl (zAI (m := 4) (size := 1) (hs.mem.del (.s (.s (.s (.s .z))))) rfl (by decide)) (by decide) (by omega) underlying268 sizeOf167 rfl ?_
 intro a w hs; refine zBY (u := .int .u64 (0)) hs rfl (zAI (m := 4) (size := 1) (hs.mem.del (.s (.s (.s (.s .z))))) rfl (by decide)) (by rfl) isAgg167 rfl ?_
 refine goL 3 [] [67, 66, 62, 60, 61] .n ?_
 intro a w hs; refine zK hs (.c rfl .n) call174 .n (zED (0#64) _) rfl ?_; clear hs w a; rintro v29 _ a w rfl hs
 refine zBI (size := 1) (bytes := 1) hs rfl rfl (.s .z) (zO (hs.mem.del .z)) (zAG _) underlying31 (i := Tryz.t5) rfl rfl rfl rfl rfl (by decide) (by omega) (by simp only [maxLen]; omega) rfl ?_; intro v30
 refine goL 3 [] [62, 5, 60, 61] .n ⟨by decide, ?_⟩
 intro a w hs; refine zAX ?_
 revert a w hs
 refine go 2 [] [62, 5, 60, 61] .n ?_
 intro a w hs; refine zAw (j := 3) hs rfl rfl (zAI (m := 4) (size := 1) (hs.mem.del (.s (.s (.s (.s (.s .z)))))) rfl (by decide)) (by decide) (by omega) underlying268 sizeOf167 rfl ?_
 intro a w hs; refine zBY (u := qI (BitVec.ofInt 64 ((l.length : Nat) : Int))) hs rfl (zAI (m := 4) (size := 1) (hs.mem.del (.s (.s (.s (.s (.s .z)))))) rfl (by decide)) (by rfl) isAgg167 rfl ?_
 refine goL 3 [] [67, 66, 62, 60, 61] .n ?_
 intro a w hs; refine zK hs (.c rfl .n) call174 .n (zED (BitVec.ofInt 64 ((l.length : Nat) : Int)) _) rfl ?_; clear hs w a; rintro v31 _ a w rfl hs
 refine zBI (size := 1) (bytes := 1) hs rfl rfl (.s .z) (zO (hs.mem.del .z)) (zAG _) underlying31 (i := Tryz.t5) rfl rfl rfl rfl rfl (by decide) (by omega) (by simp only [maxLen]; omega) rfl ?_; intro v32
 refine goL 3 [] [62, 5, 60, 61] .n ⟨by decide, ?_⟩
 intro a w hs; refine zAX ?_
 revert a w hs
 refine go 5 [] [3, 2] .n ?_
 have hge : zEv t tm b l.length = 0 := by first | exact zDP (by omega) | exact zCD (by omega) (by omega) | exact zDU (by omega) (by omega) (by omega) | exact zGs (by omega) (by omega) (by omega)
 refine cl (·.drop (.c (.s (.s (.s (.s (.s (.s .z)))))) (.c (.s (.s (.s (.s (.s .z))))) (.c (.s (.s (.s (.s .z)))) (.c (.s (.s (.s .z))) (.c (.s (.s .z)) (.c (.s .z) .n))))))) ?_
 intro a w hs; replace hs := hs.rerow .z (m' := (zBb t tm b l.length).length) (xs' := zC (zBb t tm b l.length)) (by rw [zBb, if_neg (by omega), zA7, zGy]; (first | rw [if_pos (by omega)] | rw [if_neg (by omega)]); simp only [List.length_append, List.length_cons, List.length_nil, zBP]) (by rw [zBb, if_neg (by omega), zA7, zGy]; (first | rw [if_pos (by omega)] | rw [if_neg (by omega)]); simp [zC, zKv])
 exact zBH hs rfl rfl rfl ⟨_, congrArg (fun z : Nat => Value.tuple #[v32, zI (z : Int)]) hge.symm, rfl⟩
theorem zNm (t tm b : Int) (u : Value) (l : List zAA) (w0 : World) (ht_ : -9223372036854775808 ≤ t ∧ t ≤ 9223372036854775807) (htm_ : -9223372036854775808 ≤ tm ∧ tm ≤ 9223372036854775807) (hb_ : -9223372036854775808 ≤ b ∧ b ≤ 9223372036854775807) (hc : Rd w0 [] u 9 l.length (l.flatMap zJD)) (hl : ∀ x ∈ l, x.wf) : Calls Tryz.prog 99 #[.agg #[.int .i64 t, .int .i64 tm, .int .i64 b, u]] w0 (Ret w0 [] fun x N => ∃ v, x = .tuple #[v, nI (zAR t tm b l)] ∧ N = [row v 5 1 (zDM t tm b l).length (zC (zDM t tm b l))]) := by
 have hce := hc.le
 simp only [maxLen] at hce
 refine zD (F0 := [(0, .agg #[zI t, zI tm, zI b, u])]) func99 rfl rfl rfl (.c .n) (Mem.nil _) ?_
 refine go 4 [0, 0] [12, 1] .n (fun g1 => ⟨rfl, ?_⟩)
 intro a w hs; refine zK hs (.c rfl .n) call139 .n (zSb t tm b _ l _ (by omega) (by omega) (by omega) (hs.rd0 hc)) rfl ?_; clear hs w a; rintro _ _ a w ⟨v2, rfl, rfl⟩ hs
 have hk3 := zFp t tm b l.length
 revert a w hs
 refine goL 7 [] [17, 5, 4, 1] .n ?_
 refine ifG rfl (fun c_4 => ?_) (fun c_4 => ?_)
 ·
  refine go 3 [] [3, 2] .n ?_
  have hbe : zAR t tm b l = zEv t tm b l.length := by first | exact zB7 (by omega) | exact (zB7 (by rw [(show zEv t tm b l.length = _ by first | exact zDP (by omega) | exact zCD (by omega) (by omega) | exact zDU (by omega) (by omega) (by omega))]; decide)).trans (show zEv t tm b l.length = _ by first | exact zDP (by omega) | exact zCD (by omega) (by omega) | exact zDU (by omega) (by omega) (by omega)) | (rw [zB0 (by omega)]; exact zGK (by omega) hI1_1 (by unfold zFC; omega)) | (rw [zB0 (by omega)]; unfold zCQ; rw [← show j = l.length by omega]; exact hI1_1)
  refine cl (·.drop (.c (.s .z) (.c .z .n))) ?_
  refine cl (·.addNil 5 1) ?_
  intro a w hs; replace hs := hs.rerow .z (m' := (zDM t tm b l).length) (xs' := zC (zDM t tm b l)) (by rw [zFc (by omega)]; rfl) (by rw [zFc (by omega)]; rfl)
  exact zBH hs rfl rfl rfl ⟨_, congrArg (fun z : Nat => Value.tuple #[.slice none 0 0, zI (z : Int)]) hbe.symm, rfl⟩
 have hgp := zGO (t := t) (tm := tm) (b := b) (m := l.length) (by omega)
 refine cl (·.rerow .z (m' := (zA7 t tm b l.length).length) (xs' := zC (zA7 t tm b l.length)) (by rw [zBb, if_neg (by omega)]) (by rw [zBb, if_neg (by omega)])) ?_
 refine go 3 [0] [20, 6, 4] (.c (.s .z) .n) ⟨rfl, ?_⟩
 intro a w hs; refine zAE hs rfl (hs.rd0 hc).isSl underlying58 rfl ?_
 refine goL 1 [] [22, 21, 20, 6, 4] .n ?_
 refine cl (·.drop (.c .z .n)) ?_
 intro a w hs; replace hs := hs.rerow .z (m' := (zA7 t tm b l.length).length + (zCU (l.take 0)).1.length) (xs' := zC (zA7 t tm b l.length ++ (zCU (l.take 0)).1)) (by show _ = _ + 0; first | rfl | (simp only [zBP, zA7, List.length_append, List.length_cons, List.length_nil]; omega)) (by show _ = zC (_ ++ []); rw [List.append_nil])
 refine zCh (fun mm_ a w => ∃ j : Nat, ∃ p : Value, mm_ = l.length - j ∧ St 42 [(4, p), (6, zI ((zCU (l.take j)).2)), (20, u), (21, nI l.length), (22, zI (j : Int))] w0 [] [row p 5 1 ((zA7 t tm b l.length).length + (zCU (l.take j)).1.length) (zC (zA7 t tm b l.length ++ (zCU (l.take j)).1))] a w ∧ j ≤ l.length ∧ zB3 l j = 0) ⟨0, v2, rfl, hs.sub (.c rfl (.c rfl (.c rfl (.c rfl (.c rfl .n))))), by omega, rfl⟩ ?_
 clear hs w a; rintro mm_ a w ⟨j, p, rfl, hs, hI1_0, hI1_1⟩
 have hll := zLu hI1_0 hI1_1
 have hrl := zM8 (l.take j)
 have htl : (l.take j).length ≤ j := by rw [List.length_take]; omega
 revert a w hs
 refine go 1 [] [23, 4, 6, 20, 21, 22] .n ?_
 refine ifG rfl (fun c_5 => ?_) (fun c_5 => ?_)
 ·
  refine go 0 [] [4, 6, 20, 21, 22] .n ?_
  intro a w hs; refine zBq (j := j) hs rfl rfl (hs.rd0 hc) rfl (by omega) underlying58 sizeOf131 rfl ?_
  intro a w hs; refine zBa (cs := zJD (l.getD j default)) hs rfl (hs.rd0 hc) (zAi zHQ l j (by omega)) (by rw [zAb zHQ]; omega) (by omega) isAgg131 sizeOf131 rfl ?_
  refine goL 4 [0, 0] [28, 27, 8, 4, 20, 21, 22] .n (fun g6 => ⟨rfl, rfl, ?_⟩)
  intro a w hs; refine zK hs (.c rfl (.c rfl .n)) call140 .n (zUj (l.getD j default) ((zCU (l.take j)).2) _ (zKn hl (by omega)) (by omega)) rfl ?_; clear hs w a; rintro _ _ a w ⟨v7, rfl, rfl⟩ hs
  have hk8 := zHs (l.getD j default) ((zCU (l.take j)).2)
  revert a w hs
  refine goL 7 [] [33, 10, 9, 8, 4, 20, 21, 22] .n ?_
  refine ifG rfl (fun c_9 => ?_) (fun c_9 => ?_)
  ·
   refine go 3 [] [3, 2] .n ?_
   have hbe : zAR t tm b l = zAy (l.getD j default) ((zCU (l.take j)).2) := by first | exact zB7 (by omega) | exact (zB7 (by rw [(show zEv t tm b l.length = _ by first | exact zDP (by omega) | exact zCD (by omega) (by omega) | exact zDU (by omega) (by omega) (by omega))]; decide)).trans (show zEv t tm b l.length = _ by first | exact zDP (by omega) | exact zCD (by omega) (by omega) | exact zDU (by omega) (by omega) (by omega)) | (rw [zB0 (by omega)]; exact zGK (by omega) hI1_1 (by unfold zFC; omega)) | (rw [zB0 (by omega)]; unfold zCQ; rw [← show j = l.length by omega]; exact hI1_1)
   refine cl (·.drop (.c (.s (.s .z)) (.c (.s .z) (.c .z .n)))) ?_
   refine cl (·.addNil 5 1) ?_
   intro a w hs; replace hs := hs.rerow .z (m' := (zDM t tm b l).length) (xs' := zC (zDM t tm b l)) (by rw [zFc (by omega)]; rfl) (by rw [zFc (by omega)]; rfl)
   exact zBH hs rfl rfl rfl ⟨_, congrArg (fun z : Nat => Value.tuple #[.slice none 0 0, zI (z : Int)]) hbe.symm, rfl⟩
  refine go 0 [] [9, 8, 4, 20, 21, 22] .n ?_
  refine cl (·.sub (F' := [(9, v7), (8, pt g6 0), (4, p), (20, u), (21, nI l.length), (22, zI (j : Int))]) (.c rfl (.c rfl (.c rfl (.c rfl (.c rfl (.c rfl .n))))))) ?_
  intro a w hs
  have hs1 := hs
  replace hs := hs.sub (F' := [(9, v7), (8, pt g6 0), (20, u), (21, nI l.length), (22, zI (j : Int))]) (.c rfl (.c rfl (.c rfl (.c rfl (.c rfl .n)))))
  refine zPw (M0 := [row v7 5 1 ((zCV (l.getD j default) ((zCU (l.take j)).2)).length) (zC (zCV (l.getD j default) ((zCU (l.take j)).2))), blk g6 [zI ((l.getD j default).k), zI ((l.getD j default).id), zI ((l.getD j default).p0), zI ((l.getD j default).p1), zI ((l.getD j default).p2), zI ((l.getD j default).v0), zI ((l.getD j default).v1), zI ((l.getD j default).v2), .int .u16 ((((l.getD j default).a).toNat : Nat) : Int)] 131]) (Ds := [Pv 0 p, Pv 1 v7, ⟨[row p 5 1 ((zA7 t tm b l.length).length + (zCU (l.take j)).1.length) (zC (zA7 t tm b l.length ++ (zCU (l.take j)).1))], [], [], fun vs10 => True, fun vs10 => [row (vs10 2) 5 1 (((zA7 t tm b l.length).length + (zCU (l.take j)).1.length) + ((zCV (l.getD j default) ((zCU (l.take j)).2)).length)) ((zC (zA7 t tm b l.length ++ (zCU (l.take j)).1)) ++ (zC (zCV (l.getD j default) ((zCU (l.take j)).2))))], none⟩, Pv 3 (pt g6 1), Pv 4 (zI ((l.getD j default).id)), ⟨[], [], [2], fun vs10 => vs10 5 = (vs10 2), fun vs10 => [], some (p)⟩, Pv 6 (zI ((l.getD j default).id))]) (by kernel_rfl) hs rfl (.c (.s (.s .z)) .n) (by kernel_rfl) (by kernel_rfl) ?_ (zU4.get (.z rfl (.z rfl (.z rfl (.z rfl (.z rfl (.s rfl rfl rfl (.z rfl .n))))))) hs1) ?_
  all_goals clear hs1
  ·
   refine (.c ?_ (.c ?_ (.c ?_ (.c ?_ (.c ?_ (.c ?_ (.c ?_ .n)))))))
   · exact zAl (m := 7) (.o (j := 5) (by kernel_rfl) rfl rfl .n) (fun hm0 hm hx => .n) (by kernel_rfl) (by kernel_rfl) rfl
   · exact zAl (m := 7) .n (fun hm0 hm hx => .n) (by kernel_rfl) (by kernel_rfl) rfl
   ·
    intro a_ w_ R_ rest_ vs10 hm hs ht hx
    replace hs : St _ _ _ (zM [row p 5 1 ((zA7 t tm b l.length).length + (zCU (l.take j)).1.length) (zC (zA7 t tm b l.length ++ (zCU (l.take j)).1))]) [row p 5 1 ((zA7 t tm b l.length).length + (zCU (l.take j)).1.length) (zC (zA7 t tm b l.length ++ (zCU (l.take j)).1))] _ _ := hs
    have hm0 := hm.mid
    replace hs := hs.lrn (ht 0 (zH 7 _ (by kernel_rfl))) rfl rfl
    replace hs := hs.lrn (ht 1 (zH 7 _ (by kernel_rfl))) rfl rfl
    have hs0 := hs.bare
    refine zBI (size := 1) (bytes := 1) hs rfl rfl .z (zO (hm0.del .z)) (zAG _) underlying31 (i := Tryz.t5) rfl rfl rfl rfl rfl (by decide) (by omega) (by simp only [maxLen]; omega) rfl ?_; clear hs; intro v11 a w hs
    exact wpList_nil ⟨rfl, _, _, hs0, (.c (.c .r)), hs, trivial⟩
   · exact zAl (m := 7) .n (fun hm0 hm hx => .n) (by kernel_rfl) (by kernel_rfl) rfl
   · exact zAl (m := 7) (.c (k := 3) (by kernel_rfl) rfl rfl .n) (fun hm0 hm hx => (.c (hm0.del (.s .z)))) (by kernel_rfl) (by kernel_rfl) rfl
   ·
    intro a_ w_ R_ rest_ vs10 hm hs ht hx
    have hm0 := hm.mid
    have t2 := ht 2 (zH 7 _ (by kernel_rfl))
    have e2 : _ = some (vs10 2) := t2.val rfl
    replace hs := hs.learn e2
    have hs0 := hs.bare
    refine zEJ hs rfl rfl ?_; clear hs; intro a w hs
    exact wpList_nil ⟨rfl, _, _, hs0, (.c .r), hs, rfl⟩
   exact zAl (m := 7) (.c (k := 4) (by kernel_rfl) rfl rfl .n) (fun hm0 hm hx => .n) (by kernel_rfl) (by kernel_rfl) rfl
  clear hs w a; intro a w vs10 hs hf
  replace hs : St _ _ _ _ [row v7 5 1 ((zCV (l.getD j default) ((zCU (l.take j)).2)).length) (zC (zCV (l.getD j default) ((zCU (l.take j)).2))), blk g6 [zI ((l.getD j default).k), zI ((l.getD j default).id), zI ((l.getD j default).p0), zI ((l.getD j default).p1), zI ((l.getD j default).p2), zI ((l.getD j default).v0), zI ((l.getD j default).v1), zI ((l.getD j default).v2), .int .u16 ((((l.getD j default).a).toNat : Nat) : Int)] 131, row (vs10 2) 5 1 (((zA7 t tm b l.length).length + (zCU (l.take j)).1.length) + ((zCV (l.getD j default) ((zCU (l.take j)).2)).length)) ((zC (zA7 t tm b l.length ++ (zCU (l.take j)).1)) ++ (zC (zCV (l.getD j default) ((zCU (l.take j)).2))))] _ _ := hs
  obtain ⟨e5, q5⟩ := hf 5 (by decide)
  replace e5 : _ = some (vs10 5) := e5.val rfl
  rw [show vs10 5 = (vs10 2) from q5] at e5
  replace hs := hs.learn e5; clear e5 q5
  obtain ⟨e6, q6⟩ := hf 6 (by decide)
  replace e6 : _ = some (vs10 6) := e6.val rfl
  rw [show vs10 6 = zI ((l.getD j default).id) from q6] at e6
  replace hs := hs.learn e6; clear e6 q6
  generalize vs10 2 = v12 at hs
  clear hf
  revert a w hs
  refine goE 2 [] [22, 6, 4, 20, 21] .n ⟨(by omega), ?_⟩
  have he0 : zFC l j = 0 := by unfold zFC; omega
  intro a w hs; replace hs := hs.rerow (.s (.s .z)) (m' := (zA7 t tm b l.length).length + (zCU (l.take (j + 1))).1.length) (xs' := zC (zA7 t tm b l.length ++ (zCU (l.take (j + 1))).1)) (by rw [zCa (by omega)]; simp only [List.length_append]; omega) (by rw [zCa (by omega)]; simp [zC])
  replace hs := hs.reslot (d := 6) (v := zI ((l.getD j default).id)) (v' := zI ((zCU (l.take (j + 1))).2)) rfl (Option.some.inj (by rw [zCa (by omega)]))
  replace hs := hs.drop (.c (.s (.s .z)) (.c (.s .z) .n))
  refine ⟨_, ?_, j + 1, v12, rfl, hs.sub (.c rfl (.c rfl (.c rfl (.c rfl (.c rfl .n))))), by omega, zP4 hI1_1 he0⟩
  omega
 refine go 3 [] [3, 2] .n ?_
 have hbe : zAR t tm b l = 0 := by first | exact zB7 (by omega) | exact (zB7 (by rw [(show zEv t tm b l.length = _ by first | exact zDP (by omega) | exact zCD (by omega) (by omega) | exact zDU (by omega) (by omega) (by omega))]; decide)).trans (show zEv t tm b l.length = _ by first | exact zDP (by omega) | exact zCD (by omega) (by omega) | exact zDU (by omega) (by omega) (by omega)) | (rw [zB0 (by omega)]; exact zGK (by omega) hI1_1 (by unfold zFC; omega)) | (rw [zB0 (by omega)]; unfold zCQ; rw [← show j = l.length by omega]; exact hI1_1)
 have hta : l.take j = l := List.take_of_length_le (by omega)
 intro a w hs; replace hs := hs.rerow .z (m' := (zDM t tm b l).length) (xs' := zC (zDM t tm b l)) (by rw [zJH hbe, hta]; simp only [List.length_append]) (by rw [zJH hbe, hta])
 exact zBH hs rfl rfl rfl ⟨_, congrArg (fun z : Nat => Value.tuple #[p, zI (z : Int)]) hbe.symm, rfl⟩
theorem zP0 (t tm b : Int) (u : Value) (l : List zAA) (w0 : World) (ht_ : -9223372036854775808 ≤ t ∧ t ≤ 9223372036854775807) (htm_ : -9223372036854775808 ≤ tm ∧ tm ≤ 9223372036854775807) (hb_ : -9223372036854775808 ≤ b ∧ b ≤ 9223372036854775807) (hc : Rd w0 [] u 9 l.length (l.flatMap zJD)) (hl : ∀ x ∈ l, x.wf) : Calls Tryz.prog 60 #[.agg #[.int .i64 t, .int .i64 tm, .int .i64 b, u]] w0 (Ret w0 [] fun x N => ∃ v, x = .tuple #[v, nI (zFW t tm b l)] ∧ N = [row v 5 1 (gwB t tm b l).length (zC (gwB t tm b l))]) := by
 have hce := hc.le
 simp only [maxLen] at hce
 refine zD (F0 := [(0, .agg #[zI t, zI tm, zI b, u])]) func60 rfl rfl rfl (.c .n) (Mem.nil _) ?_
 refine go 4 [0, 0] [7] .n (fun g1 => ⟨rfl, ?_⟩)
 intro a w hs; refine zK hs (.c rfl .n) call99 .n (zNm t tm b _ l _ (by omega) (by omega) (by omega) (hs.rd0 hc) hl) rfl ?_; clear hs w a; rintro _ _ a w ⟨v2, rfl, rfl⟩ hs
 have hk3 := zGp t tm b l
 revert a w hs
 refine goL 8 [] [11, 5, 4] .n ?_
 refine ifG rfl (fun c_4 => ?_) (fun c_4 => ?_)
 ·
  refine go 3 [] [3, 2] .n ?_
  have hwe : zFW t tm b l = zAR t tm b l := by unfold zFW; (repeat' split) <;> omega
  refine cl (·.drop (.c (.s .z) (.c .z .n))) ?_
  refine cl (·.addNil 5 1) ?_
  intro a w hs; replace hs := hs.rerow .z (m' := (gwB t tm b l).length) (xs' := zC (gwB t tm b l)) (by rw [gwB, if_pos (by omega)]; rfl) (by rw [gwB, if_pos (by omega)]; rfl)
  exact zBH hs rfl rfl rfl ⟨_, congrArg (fun z : Nat => Value.tuple #[.slice none 0 0, zI (z : Int)]) hwe.symm, rfl⟩
 refine go 1 [] [16, 4] .n ?_
 intro a w hs; refine zAE hs rfl (zO (hs.mem.del .z)).isSl underlying31 rfl ?_
 refine goL 2 [] [15, 4] .n ?_
 refine ifG rfl (fun c_5 => ?_) (fun c_5 => ?_)
 ·
  refine go 2 [] [3, 2] .n ?_
  have hwe : zFW t tm b l = 8 := by unfold zFW; (repeat' split) <;> omega
  refine cl (·.drop (.c (.s .z) (.c .z .n))) ?_
  refine cl (·.addNil 5 1) ?_
  intro a w hs; replace hs := hs.rerow .z (m' := (gwB t tm b l).length) (xs' := zC (gwB t tm b l)) (by rw [gwB, if_pos (by omega)]; rfl) (by rw [gwB, if_pos (by omega)]; rfl)
  exact zBH hs rfl rfl rfl ⟨_, congrArg (fun z : Nat => Value.tuple #[.slice none 0 0, zI (z : Int)]) hwe.symm, rfl⟩
 refine go 1 [] [19] .n ?_
 intro a w hs; refine zK hs (.c rfl .n) call100 .n (zVx _ _ (zDM t tm b l) _ (zO (hs.mem.del .z)) (by omega)) rfl ?_; clear hs w a; rintro v6 _ a w rfl hs
 revert a w hs
 refine goL 2 [] [3, 2] .n ?_
 have hwe : zFW t tm b l = 0 := by unfold zFW; (repeat' split) <;> omega
 refine cl (·.drop (.c (.s (.s .z)) (.c (.s .z) .n))) ?_
 refine cl (·.rerow .z (m' := (gwB t tm b l).length) (xs' := zC (gwB t tm b l)) (by rw [gwB, if_neg (by omega), zD1]) (by rw [gwB, if_neg (by omega)])) ?_
 intro a w hs; exact zBH hs rfl rfl rfl ⟨_, congrArg (fun z : Nat => Value.tuple #[v6, zI (z : Int)]) hwe.symm, rfl⟩
theorem zPp (t tm b : Int) (u : Value) (l : List zAA) (w0 : World) (ht_ : -9223372036854775808 ≤ t ∧ t ≤ 9223372036854775807) (htm_ : -9223372036854775808 ≤ tm ∧ tm ≤ 9223372036854775807) (hb_ : -9223372036854775808 ≤ b ∧ b ≤ 9223372036854775807) (hc : Rd w0 [] u 9 l.length (l.flatMap zJD)) (hl : ∀ x ∈ l, x.wf) : Calls Tryz.prog 150 #[.agg #[.int .i64 t, .int .i64 tm, .int .i64 b, u]] w0 (zAa w0 (nI (zAR t tm b l))) := by
 have hce := hc.le
 simp only [maxLen] at hce
 refine zD (F0 := [(0, .agg #[zI t, zI tm, zI b, u])]) func150 rfl rfl rfl (.c .n) (Mem.nil _) ?_
 refine go 3 [0, 0] [6] .n (fun g1 => ⟨rfl, ?_⟩)
 intro a w hs; refine zK hs (.c rfl .n) call99 .n (zNm t tm b _ l _ (by omega) (by omega) (by omega) (hs.rd0 hc) hl) rfl ?_; clear hs w a; rintro _ _ a w ⟨v2, rfl, rfl⟩ hs
 have hk3 := zGp t tm b l
 revert a w hs
 refine goL 7 [] [2] .n ?_
 refine cl (·.drop (.c (.s .z) (.c .z .n))) ?_
 intro a w hs; exact fin hs rfl rfl ⟨rfl, rfl⟩
end Go.Proofs.YtemnjodhidlfpaaGreat
/- Walks of what is others with an entity: what each function does, over the program of this seat. Printed by a program of this session. -/
namespace Go.Proofs.YtemnjodhidlfpaaGreat
open Tryz
open Go Go.Sx Go.RowKit
set_option linter.unusedVariables false
set_option linter.unusedSimpArgs false
set_option maxRecDepth 4000
set_option maxHeartbeats 1000000

theorem zST (ea : zX) (r : zAA) (w0 : World) : Calls Tryz.prog 152 #[.agg #[zI ea.id, zI ea.p0, zI ea.p1, zI ea.p2, zI ea.v0, zI ea.v1, zI ea.v2, .int .u16 (((ea.a).toNat : Nat) : Int), bI ea.g], .agg #[zI r.k, zI r.id, zI r.p0, zI r.p1, zI r.p2, zI r.v0, zI r.v1, zI r.v2, .int .u16 (((r.a).toNat : Nat) : Int)]] w0 (zAa w0 (.tuple #[.agg #[zI (((zS ea r).1).id), zI (((zS ea r).1).p0), zI (((zS ea r).1).p1), zI (((zS ea r).1).p2), zI (((zS ea r).1).v0), zI (((zS ea r).1).v1), zI (((zS ea r).1).v2), .int .u16 (((((zS ea r).1).a).toNat : Nat) : Int), bI (((zS ea r).1).g)], nI ((zS ea r).2)])) := by
 refine zD (F0 := [(0, .agg #[zI ea.id, zI ea.p0, zI ea.p1, zI ea.p2, zI ea.v0, zI ea.v1, zI ea.v2, .int .u16 (((ea.a).toNat : Nat) : Int), bI ea.g]), (1, .agg #[zI r.k, zI r.id, zI r.p0, zI r.p1, zI r.p2, zI r.v0, zI r.v1, zI r.v2, .int .u16 (((r.a).toNat : Nat) : Int)])]) func152 rfl rfl rfl (.c (.c .n)) (Mem.nil _) ?_
 refine go 5 [0, 0, 1] [8, 4, 3, 2] .n (fun g1 => fun g2 => fun g3 => ⟨rfl, ?_⟩)
 intro a w hs; refine zB (v := nI (zAc r)) hs (.c rfl .n) call175 (zVK r _) rfl ?_
 refine goL 3 [] [11, 6, 4, 3, 2] .n ?_
 refine ifG rfl (fun c_4 => ?_) (fun c_4 => ?_)
 ·
  refine go 4 [0] [5, 4] (.c .z .n) ⟨rfl, ?_⟩
  intro a w hs; exact zBd hs rfl rfl rfl .z (.z (.c (.c (.c (.c (.c (.c (.c (.c (.c .n)))))))))) isAgg142 sizeOf142 (.c .z (.c .z (.c .z .n))) (by first | (rw [zB4 (by omega)]; exact ⟨rfl, rfl⟩) | (rw [zCR (by omega) (by omega)]; exact ⟨rfl, rfl⟩) | (rw [zBj (by omega) (by omega) (by omega)]; exact ⟨rfl, rfl⟩) | (rw [zBg (by omega) (by omega) (by omega)]; exact ⟨rfl, rfl⟩))
 refine go 6 [0, 1] [20, 4, 3, 2] (.c (.s .z) (.c (.s .z) .n)) ⟨rfl, rfl, ?_⟩
 intro a w hs; refine zV (b := !((r.id : Int) == ea.id)) (fun c_5 => ?_) (fun c_5 => ?_)
 ·
  rw [c_5] at hs
  replace c_5 := zFh c_5
  replace c_5 := zAP c_5
  revert a w hs
  refine go 14 [0] [5, 4] (.c (.s (.s .z)) .n) ⟨rfl, ?_⟩
  intro a w hs; exact zBd hs rfl rfl rfl .z (.z (.c (.c (.c (.c (.c (.c (.c (.c (.c .n)))))))))) isAgg142 sizeOf142 (.c .z (.c .z (.c .z .n))) (by first | (rw [zB4 (by omega)]; exact ⟨rfl, rfl⟩) | (rw [zCR (by omega) (by omega)]; exact ⟨rfl, rfl⟩) | (rw [zBj (by omega) (by omega) (by omega)]; exact ⟨rfl, rfl⟩) | (rw [zBg (by omega) (by omega) (by omega)]; exact ⟨rfl, rfl⟩))
 rw [c_5] at hs
 replace c_5 := zGD c_5
 replace c_5 := eq_of_beq c_5
 revert a w hs
 refine go 5 [0] [25, 4, 3, 2] (.c .z .n) ⟨rfl, ?_⟩
 intro a w hs; refine zV (b := (r.k : Int) == 0) (fun c_6 => ?_) (fun c_6 => ?_)
 ·
  rw [c_6] at hs
  replace c_6 := eq_of_beq c_6
  revert a w hs
  refine go 9 [0] [5, 4] (.c (.s (.s .z)) .n) ⟨rfl, ?_⟩
  intro a w hs; exact zBd hs rfl rfl rfl .z (.z (.c (.c (.c (.c (.c (.c (.c (.c (.c .n)))))))))) isAgg142 sizeOf142 (.c .z (.c .z (.c .z .n))) (by first | (rw [zB4 (by omega)]; exact ⟨rfl, rfl⟩) | (rw [zCR (by omega) (by omega)]; exact ⟨rfl, rfl⟩) | (rw [zBj (by omega) (by omega) (by omega)]; exact ⟨rfl, rfl⟩) | (rw [zBg (by omega) (by omega) (by omega)]; exact ⟨rfl, rfl⟩))
 rw [c_6] at hs
 replace c_6 := zAP c_6
 revert a w hs
 refine go 5 [0] [14, 4, 3, 2] (.c .z .n) ⟨rfl, ?_⟩
 refine ifG rfl (fun c_7 => ?_) (fun c_7 => ?_)
 ·
  refine go 3 [0] [5, 4] (.c (.s (.s .z)) .n) ⟨rfl, ?_⟩
  intro a w hs; exact zBd hs rfl rfl rfl .z (.z (.c (.c (.c (.c (.c (.c (.c (.c (.c .n)))))))))) isAgg142 sizeOf142 (.c .z (.c .z (.c .z .n))) (by first | (rw [zB4 (by omega)]; exact ⟨rfl, rfl⟩) | (rw [zCR (by omega) (by omega)]; exact ⟨rfl, rfl⟩) | (rw [zBj (by omega) (by omega) (by omega)]; exact ⟨rfl, rfl⟩) | (rw [zBg (by omega) (by omega) (by omega)]; exact ⟨rfl, rfl⟩))
 refine go 4 [0] [31, 4, 3, 2] (.c .z .n) ⟨rfl, ?_⟩
 refine ifG rfl (fun c_8 => ?_) (fun c_8 => ?_)
 ·
  refine go 10 [0, 1, 1, 1, 0] [44, 42, 40, 38, 36, 4] (.c (.s .z) (.c .z .n)) ⟨rfl, rfl, rfl, rfl, rfl, ?_⟩
  intro a w hs; refine zRW (X := ea.g) (Y := 1#8) hs rfl rfl rfl (by decide) rfl ?_
  refine goL 3 [0] [5, 4] (.c (.s (.s .z)) .n) ⟨rfl, ?_⟩
  intro a w hs; exact zBd hs rfl rfl rfl .z (.z (.c (.c (.c (.c (.c (.c (.c (.c (.c .n)))))))))) isAgg142 sizeOf142 (.c .z (.c .z (.c .z .n))) (by first | (rw [zB4 (by omega)]; exact ⟨rfl, rfl⟩) | (rw [zCR (by omega) (by omega)]; exact ⟨rfl, rfl⟩) | (rw [zBj (by omega) (by omega) (by omega)]; exact ⟨rfl, rfl⟩) | (rw [zBg (by omega) (by omega) (by omega)]; exact ⟨rfl, rfl⟩))
 refine go 1 [] [47, 4, 3, 2] .n ?_
 intro a w hs; refine zCs 3 ?_
 revert a w hs
 refine go 4 [] [7, 47, 4, 3, 2] .n ?_
 intro a w hs
 refine zR [.p [] [], .p [] [], .p [1, 0] [], .l [2] [0] [11] [], .p [] [], .p [] [], .p [5, 4] [], .p [6] [0], .v [7, 3] (zI (IntKind.i64.wrap (ea.p0 + r.p0))), .p [] [], .p [9, 0] [], .s [10, 8] [0] [0] []] [] hs (.c (.s .z) .n) (.c .z .n) (by kernel_rfl) ⟨rfl, rfl, fun _ _ _ _ hm hs K => zEh hs rfl rfl rfl (vk K), rfl, ⟨rfl, by kernel_rfl, fun _ => rfl, rfl, rfl, trivial⟩, fun _ => rfl, ?_⟩
 refine goE 0 [] [7, 47, 4, 3, 2] .n ?_
 intro a w hs
 refine zR [.p [] [], .p [] [], .p [1, 0] [], .l [2] [0] [11] [], .p [] [], .p [] [], .p [5, 4] [], .p [6] [0], .v [7, 3] (zI (IntKind.i64.wrap (ea.v0 + r.v0))), .p [] [], .p [9, 0] [], .s [10, 8] [0] [0] []] [] hs (.c (.s (.s .z)) .n) (.c .z .n) (by kernel_rfl) ⟨rfl, rfl, fun _ _ _ _ hm hs K => zEh hs rfl rfl rfl (vk K), rfl, ⟨rfl, by kernel_rfl, fun _ => rfl, rfl, rfl, trivial⟩, fun _ => rfl, ?_⟩
 refine goE 2 [] [47, 4, 3, 2] .n ⟨by decide, ?_⟩
 intro a w hs; refine zAX ?_
 revert a w hs
 refine go 4 [] [7, 47, 4, 3, 2] .n ?_
 intro a w hs
 refine zR [.p [] [], .p [] [], .p [1, 0] [], .l [2] [0] [11] [], .p [] [], .p [] [], .p [5, 4] [], .p [6] [0], .v [7, 3] (zI (IntKind.i64.wrap (ea.p1 + r.p1))), .p [] [], .p [9, 0] [], .s [10, 8] [0] [0] []] [] hs (.c (.s (.s .z)) .n) (.c .z .n) (by kernel_rfl) ⟨rfl, rfl, fun _ _ _ _ hm hs K => zEh hs rfl rfl rfl (vk K), rfl, ⟨rfl, by kernel_rfl, fun _ => rfl, rfl, rfl, trivial⟩, fun _ => rfl, ?_⟩
 refine goE 0 [] [7, 47, 4, 3, 2] .n ?_
 intro a w hs
 refine zR [.p [] [], .p [] [], .p [1, 0] [], .l [2] [0] [11] [], .p [] [], .p [] [], .p [5, 4] [], .p [6] [0], .v [7, 3] (zI (IntKind.i64.wrap (ea.v1 + r.v1))), .p [] [], .p [9, 0] [], .s [10, 8] [0] [0] []] [] hs (.c (.s (.s .z)) .n) (.c .z .n) (by kernel_rfl) ⟨rfl, rfl, fun _ _ _ _ hm hs K => zEh hs rfl rfl rfl (vk K), rfl, ⟨rfl, by kernel_rfl, fun _ => rfl, rfl, rfl, trivial⟩, fun _ => rfl, ?_⟩
 refine goE 2 [] [47, 4, 3, 2] .n ⟨by decide, ?_⟩
 intro a w hs; refine zAX ?_
 revert a w hs
 refine go 4 [] [7, 47, 4, 3, 2] .n ?_
 intro a w hs
 refine zR [.p [] [], .p [] [], .p [1, 0] [], .l [2] [0] [11] [], .p [] [], .p [] [], .p [5, 4] [], .p [6] [0], .v [7, 3] (zI (IntKind.i64.wrap (ea.p2 + r.p2))), .p [] [], .p [9, 0] [], .s [10, 8] [0] [0] []] [] hs (.c (.s (.s .z)) .n) (.c .z .n) (by kernel_rfl) ⟨rfl, rfl, fun _ _ _ _ hm hs K => zEh hs rfl rfl rfl (vk K), rfl, ⟨rfl, by kernel_rfl, fun _ => rfl, rfl, rfl, trivial⟩, fun _ => rfl, ?_⟩
 refine goE 0 [] [7, 47, 4, 3, 2] .n ?_
 intro a w hs
 refine zR [.p [] [], .p [] [], .p [1, 0] [], .l [2] [0] [11] [], .p [] [], .p [] [], .p [5, 4] [], .p [6] [0], .v [7, 3] (zI (IntKind.i64.wrap (ea.v2 + r.v2))), .p [] [], .p [9, 0] [], .s [10, 8] [0] [0] []] [] hs (.c (.s (.s .z)) .n) (.c .z .n) (by kernel_rfl) ⟨rfl, rfl, fun _ _ _ _ hm hs K => zEh hs rfl rfl rfl (vk K), rfl, ⟨rfl, by kernel_rfl, fun _ => rfl, rfl, rfl, trivial⟩, fun _ => rfl, ?_⟩
 refine goE 2 [] [47, 4, 3, 2] .n ⟨by decide, ?_⟩
 intro a w hs; refine zAX ?_
 revert a w hs
 refine go 6 [0, 1] [76, 74, 4, 2] (.c (.s (.s .z)) (.c .z .n)) ⟨rfl, rfl, ?_⟩
 intro a w hs; refine zIp (X := ea.a) (Y := r.a) hs rfl rfl rfl rfl rfl ?_
 refine goL 5 [0, 0, 1] [5, 4] (.c .z (.c (.s .z) .n)) ⟨rfl, rfl, rfl, ?_⟩
 intro a w hs; exact zBd hs rfl rfl rfl (.s .z) (.z (.c (.c (.c (.c (.c (.c (.c (.c (.c .n)))))))))) isAgg142 sizeOf142 (.c .z (.c .z (.c .z .n))) (by first | (rw [zB4 (by omega)]; exact ⟨rfl, rfl⟩) | (rw [zCR (by omega) (by omega)]; exact ⟨rfl, rfl⟩) | (rw [zBj (by omega) (by omega) (by omega)]; exact ⟨rfl, rfl⟩) | (rw [zBg (by omega) (by omega) (by omega)]; exact ⟨rfl, rfl⟩))
end Go.Proofs.YtemnjodhidlfpaaGreat
