import Derived.Test.YtemnjodhidlfpaaGreatQSxBasB
import Derived.Test.YtemnjodhidlfpaaGreatQSxGrams
import Derived.KernelRfl
import Derived.Test.YtemnjodhidlfpaaGreatProg
import Derived.Test.YtemnjodhidlfpaaGreatQG13
import Derived.Test.YtemnjodhidlfpaaGreatQWrec
import Derived.Test.YtemnjodhidlfpaaGreatQSxRecs
/- Walks of crc: what each function does, over the program of this seat. Printed by a program of this session. -/
namespace Go.Proofs.YtemnjodhidlfpaaGreat
open Tryz
open Go Go.Sx Go.RowKit
set_option linter.unusedVariables false
set_option linter.unusedSimpArgs false
set_option maxRecDepth 4000
set_option maxHeartbeats 1000000

theorem zVW (s : BitVec 32) (c : zO) (w0 : World) : Calls Tryz.prog 160 #[.int .u32 (s.toNat : Int), .int .u8 (c.toNat : Int)] w0 (zAZ w0 (.int .u32 ((zOu s c).toNat : Int))) := by
 refine zF (F0 := [(0, .int .u32 (((s).toNat : Nat) : Int)), (1, bI c)]) func160 rfl rfl rfl (.c (.c .n)) (Mem.nil _) ?_
 refine go 3 [] [6, 5] .n ?_
 intro a w hs; refine zGn (X := c) hs rfl rfl underlying5 underlying161 rfl ?_
 intro a w hs; refine zI4 (X := s) (Y := (c).setWidth 32) hs rfl rfl rfl rfl rfl ?_
 refine goL 2 [] [9, 0] .n ?_
 intro a w hs; refine zDG (fun mm_ a w => ∃ k : Nat, mm_ = 8 - k ∧ St 20 [(0, .int .u32 (((zJi k (s ^^^ c.setWidth 32)).toNat : Nat) : Int)), (9, zI (k : Int))] w0 [] [] a w ∧ k ≤ 8) ⟨0, rfl, hs.sub (.c rfl (.c rfl .n)), by omega⟩ ?_
 clear hs w a; rintro mm_ a w ⟨k, rfl, hs, hI1_0⟩
 revert a w hs
 refine go 1 [] [10, 0, 9] .n ?_
 refine ifG rfl (fun c_1 => ?_) (fun c_1 => ?_)
 ·
  refine go 1 [] [11, 0, 9] .n ?_
  intro a w hs; refine zE3 (X := zJi k (s ^^^ c.setWidth 32)) (m := 1) hs rfl rfl rfl (by decide) rfl ?_
  refine goL 1 [] [13, 12, 9] .n ?_
  intro a w hs; refine zIn (X := zJi k (s ^^^ c.setWidth 32)) (Y := 1#32) hs rfl rfl rfl (by decide) rfl ?_
  intro a w hs; refine zOF (X := (zJi k (s ^^^ c.setWidth 32)) &&& (1#32)) hs rfl rfl rfl ?_
  intro a w hs; refine zIn (X := 3988292384#32) (Y := -((zJi k (s ^^^ c.setWidth 32)) &&& (1#32))) hs rfl (by decide) rfl rfl rfl ?_
  intro a w hs; refine zI4 (X := (zJi k (s ^^^ c.setWidth 32)) >>> 1) (Y := (3988292384#32) &&& (-((zJi k (s ^^^ c.setWidth 32)) &&& (1#32)))) hs rfl rfl rfl rfl rfl ?_
  refine goL 3 [] [9, 0] .n ⟨(by omega), ?_⟩
  intro a w hs; refine ⟨_, ?_, k + 1, rfl, hs.sub (.c rfl (.c rfl .n)), by omega⟩
  omega
 refine go 2 [] [4] .n ?_
 intro a w hs; exact fin hs rfl rfl ⟨by have h : k = 8 := (by omega); subst h; rfl, rfl⟩
theorem zSZ (s : BitVec 32) (c : zO) (g : Nat) (w0 : World) (hb : (blk g [.int .u32 (s.toNat : Int)] 161).p w0) : Calls Tryz.prog 159 #[.int .u8 (c.toNat : Int), pt g 0] w0 (Ret w0 (zM [blk g [.int .u32 (s.toNat : Int)] 161]) fun v N => v = .tuple #[] ∧ N = [blk g [.int .u32 ((zOu s c).toNat : Int)] 161]) := by
 refine zF (F0 := [(0, bI c), (1, pt g 0)]) func159 rfl rfl rfl (.c (.c .n)) (zA6 hb) ?_
 refine go 2 [0] [4, 3, 1] (.c .z .n) ⟨rfl, ?_⟩
 intro a w hs; refine zB (v := .int .u32 (((zOu s c).toNat : Nat) : Int)) hs (.c rfl (.c rfl .n)) call160 (zVW s c _) rfl ?_
 refine goL 1 [0] [] (.c .z .n) ⟨rfl, ?_⟩
 intro a w hs; exact zIF hs rfl ⟨rfl, rfl⟩
theorem zWF (s : BitVec 32) (v : Value) (m : Nat) (bs : List zO) (w0 : World) (hb : Rd w0 [] v 1 m (zC bs)) : Calls Tryz.prog 126 #[.int .u32 (s.toNat : Int), v] w0 (zAZ w0 (.int .u32 ((zL7 s bs).toNat : Int))) := by
 have hbl : bs.length = m := by have := hb.len; simpa [zC] using this
 have hle : m ≤ maxLen := hb.le
 simp only [maxLen] at hle
 refine zF (F0 := [(0, .int .u32 (((s).toNat : Nat) : Int)), (1, v)]) func126 rfl rfl rfl (.c (.c .n)) (Mem.nil _) ?_
 refine go 2 [] [9, 1] .n ?_
 intro a w hs; refine zIY (X := s) hs rfl rfl rfl ?_
 refine goL 5 [0] [12, 6, 5] .n (fun g1 => ⟨rfl, ?_⟩)
 intro a w hs; refine zAK hs rfl (hs.rd0 hb).isSl underlying31 rfl ?_
 refine goL 1 [] [14, 13, 12, 6, 5] .n ?_
 intro a w hs; refine zDG (fun mm_ a w => ∃ k : Nat, mm_ = m - k ∧ St 24 [(5, pt g1 0), (6, .func (.func 159) #[] #[pt g1 0]), (12, v), (13, zI (m : Int)), (14, zI (k : Int))] w0 [] [blk g1 [.int .u32 (((zML (~~~s) (bs.take k)).toNat : Nat) : Int)] 161] a w ∧ k ≤ m) ⟨0, rfl, hs.sub (.c rfl (.c rfl (.c rfl (.c rfl (.c rfl .n))))), by omega⟩ ?_
 clear hs w a; rintro mm_ a w ⟨k, rfl, hs, hI1_0⟩
 revert a w hs
 refine go 1 [] [15, 5, 6, 12, 13, 14] .n ?_
 refine ifG rfl (fun c_2 => ?_) (fun c_2 => ?_)
 ·
  refine go 0 [] [5, 6, 12, 13, 14] .n ?_
  intro a w hs; refine zA1 (j := k) hs rfl rfl (hs.rd0 hb) rfl (by omega) underlying31 sizeOf5 rfl ?_
  intro a w hs; refine zBi hs rfl (hs.rd0 hb) (zBw bs (by first | omega | (simp; omega))) isAgg5 rfl ?_
  refine goL 3 [] [19, 18, 5, 6, 12, 13, 14] .n ?_
  intro a w hs; refine zQ0 hs rfl (.c rfl .n) rfl call159 (.c .z .n) (zSZ (zML (~~~s) (bs.take k)) (bs.getD k 0) g1 _ (hs.mem.del .z)) rfl ?_
  refine goL 2 [] [14, 5, 6, 12, 13] .n ⟨(by omega), ?_⟩
  intro a w hs; rw [← zOZ _ _ _ (by omega)] at hs
  refine ⟨_, ?_, k + 1, rfl, hs.sub (.c rfl (.c rfl (.c rfl (.c rfl (.c rfl .n))))), by omega⟩
  omega
 refine go 1 [0] [22] (.c .z .n) ⟨rfl, ?_⟩
 intro a w hs; refine zIY (X := zML (~~~s) (bs.take k)) hs rfl rfl rfl ?_
 refine goL 1 [] [4] .n ?_
 refine cl (·.drop (.c .z .n)) ?_
 intro a w hs; exact fin hs rfl rfl ⟨by have h : k = m := (by omega); subst h; rw [← hbl, List.take_length]; rfl, rfl⟩
theorem zUp (v : Value) (m : Nat) (bs : List zO) (w0 : World) (hb : Rd w0 [] v 1 m (zC bs)) : Calls Tryz.prog 83 #[v] w0 (zAZ w0 (.int .u32 ((zCK bs).toNat : Int))) := by
 refine zF (F0 := [(0, v)]) func83 rfl rfl rfl (.c .n) (Mem.nil _) ?_
 refine go 2 [] [3] .n ?_
 intro a w hs; refine zB (v := .int .u32 (((zL7 (0#32) bs).toNat : Nat) : Int)) hs (.c rfl (.c rfl .n)) call126 (zWF (0#32) _ _ bs _ (hs.rd0 hb)) rfl ?_
 refine goL 1 [] [2] .n ?_
 intro a w hs; exact fin hs rfl rfl ⟨rfl, rfl⟩
theorem zVg (v : Value) (m : Nat) (bs : List zO) (w0 : World) (hb : Rd w0 [] v 1 m (zC bs)) (hm : m ≤ 140737488351232) : Calls Tryz.prog 100 #[v] w0 (Ret w0 [] fun r N => N = [row r 5 1 (m + 4) (zC (zGL bs))]) := by
 have hbl : bs.length = m := by have := hb.len; simpa [zC] using this
 have hle : m ≤ maxLen := hb.le
 simp only [maxLen] at hle
 refine zF (F0 := [(0, v)]) func100 rfl rfl rfl (.c .n) (Mem.nil _) ?_
 refine go 2 [] [4, 0] .n ?_
 intro a w hs; refine zB (v := .int .u32 (((zCK bs).toNat : Nat) : Int)) hs (.c rfl .n) call83 (zUp _ _ bs _ (hs.rd0 hb)) rfl ?_
 refine goL 1 [] [3, 0] .n ?_
 intro a w hs; refine zQP hs underlying31 rfl ?_ ⟨_, sizeOf5⟩; intro g1
 refine goL 1 [] [7, 6, 3] .n ?_
 refine cl (·.toRow (size := 1) (m := 0) .z rfl (by decide)) ?_
 intro a w hs; refine zBI (size := 1) (bytes := 1) hs rfl rfl .z (hs.rd0 hb) (zAE _) underlying31 (i := Tryz.t5) rfl rfl rfl rfl rfl (by decide) (by omega) (by simp only [maxLen]; omega) rfl ?_; intro v2
 refine goL 1 [] [9, 8, 3] .n ?_
 intro a w hs; refine zE3 (X := zCK bs) (m := 24) hs rfl rfl rfl (by decide) rfl ?_
 intro a w hs; refine zDT (X := (zCK bs) >>> 24) hs rfl rfl underlying161 underlying5 rfl ?_
 refine goL 1 [] [12, 11, 8, 3] .n ?_
 intro a w hs; refine zE3 (X := zCK bs) (m := 16) hs rfl rfl rfl (by decide) rfl ?_
 intro a w hs; refine zDT (X := (zCK bs) >>> 16) hs rfl rfl underlying161 underlying5 rfl ?_
 refine goL 1 [] [15, 14, 11, 8, 3] .n ?_
 intro a w hs; refine zE3 (X := zCK bs) (m := 8) hs rfl rfl rfl (by decide) rfl ?_
 intro a w hs; refine zDT (X := (zCK bs) >>> 8) hs rfl rfl underlying161 underlying5 rfl ?_
 refine goL 1 [] [18, 17, 14, 11, 8] .n ?_
 intro a w hs; refine zDT (X := zCK bs) hs rfl rfl underlying161 underlying5 rfl ?_
 refine goL 1 [] [20, 8] .n (fun g3 => ?_)
 intro a w hs; refine zBI (size := 1) (bytes := 1) hs rfl rfl (.s .z) (zAF (m := 4) (size := 1) (hs.mem.del .z) rfl (by decide)) (by simp [Value.oneCell']) underlying31 (i := Tryz.t5) rfl rfl rfl rfl rfl (by decide) (by omega) (by simp only [maxLen]; omega) rfl ?_; intro v4
 refine cl (·.drop (.c (.s .z) .n)) ?_
 refine goL 1 [] [2] .n ?_
 intro a w hs; replace hs := hs.rerow .z (m' := m + 4) (xs' := zC (zGL bs)) (by omega) (by rw [List.nil_append]; exact (zBN bs (be4 (zCK bs))).symm)
 exact fin hs rfl rfl rfl
def zDx (bs : List zO) (v : Value) (N : List HA) : Prop := match zCa bs with
 | none => v = .tuple #[.slice none 0 0, .bool false] ∧ N = []
 | some x => ∃ r, v = .tuple #[r, .bool true] ∧ N = [row r 5 1 x.length (zC x)]
theorem zCu {bs : List zO} (h : zCa bs = none) : zDx bs (.tuple #[.slice none 0 0, .bool false]) [] := by unfold zDx; rw [h]; exact ⟨rfl, rfl⟩
theorem zJ6 {bs x : List zO} (h : zCa bs = some x) (r : Value) : zDx bs (.tuple #[r, .bool true]) [row r 5 1 x.length (zC x)] := by unfold zDx; rw [h]; exact ⟨r, rfl, rfl⟩
theorem zIu {bs : List zO} (h : bs.length < 4) : zCa bs = none := by unfold zCa; rw [if_pos h]
theorem zVu {bs : List zO} (h : ¬ bs.length < 4) (h2 : beN (bs.drop (bs.length - 4)) ≠ zCK (bs.take (bs.length - 4))) : zCa bs = none := by unfold zCa; rw [if_neg h, if_neg h2]
theorem zUN {bs : List zO} (h : ¬ bs.length < 4) (h2 : beN (bs.drop (bs.length - 4)) = zCK (bs.take (bs.length - 4))) : zCa bs = some (bs.take (bs.length - 4)) := by unfold zCa; rw [if_neg h, if_pos h2]
theorem zMR {bs : List zO} {m k : Nat} (hl : bs.length = m) (h4 : 4 ≤ m) (h : (((beN ((bs.drop (m - 4)).take k)).toNat : Nat) : Int) ≠ (((zCK (bs.take (m - 4))).toNat : Nat) : Int)) (hk : k = m - (m - 4)) : zCa bs = none := by
 subst hl
 rw [List.take_of_length_le (by simp; omega)] at h
 exact zVu (by omega) (fun e => h (by rw [e]))
theorem zRr {bs : List zO} {m k : Nat} (hl : bs.length = m) (h4 : 4 ≤ m) (h : (((beN ((bs.drop (m - 4)).take k)).toNat : Nat) : Int) = (((zCK (bs.take (m - 4))).toNat : Nat) : Int)) (hk : k = m - (m - 4)) : zCa bs = some (bs.take (m - 4)) := by
 subst hl
 rw [List.take_of_length_le (by simp; omega)] at h
 exact zUN (by omega) (BitVec.eq_of_toNat_eq (by omega))
theorem zO3 (v : Value) (m : Nat) (bs : List zO) (w0 : World) (hb : Rd w0 [] v 1 m (zC bs)) (hm : m ≤ 140737488351232) : Calls Tryz.prog 40 #[v] w0 (Ret w0 [] (zDx bs)) := by
 have hbl : bs.length = m := by have := hb.len; simpa [zC] using this
 have hle : m ≤ maxLen := hb.le
 simp only [maxLen] at hle
 refine zF (F0 := [(0, v)]) func40 rfl rfl rfl (.c .n) (Mem.nil _) ?_
 refine go 3 [] [8, 0] .n ?_
 intro a w hs; refine zAK hs rfl (hs.rd0 hb).isSl underlying31 rfl ?_
 refine goL 4 [] [12, 4, 0] .n ⟨(by omega), ?_⟩
 refine ifG rfl (fun c_1 => ?_) (fun c_1 => ?_)
 ·
  refine go 2 [] [3, 2] .n ?_
  intro a w hs; first | exact zBH hs rfl rfl rfl (zCu (zIu (by omega))) | exact zBH hs rfl rfl rfl (zCu (zMR hbl (by omega) (by assumption) (by omega)))
 have hv_ : ((m : Int) - 4 : Int) = (((m - 4 : Nat) : Int) : Int) := by omega
 intro a w hs; rw [hv_] at hs; clear hv_
 revert a w hs
 refine go 3 [] [14, 13, 5, 4, 0] .n ?_
 intro a w hs; refine zHR (j := (m - 4)) hs rfl rfl rfl (hs.rd0 hb).isSl (by omega) underlying31 sizeOf5 rfl ?_
 intro a w hs; refine zAK hs rfl ((hs.rd0 hb).slcL (l := (m - 4)) (by omega)).isSl underlying31 rfl ?_
 refine goL 1 [] [17, 16, 15, 5, 4, 0] .n ?_
 intro a w hs; refine zDG (fun mm_ a w => ∃ k : Nat, mm_ = m - k ∧ St 38 [(0, v), (4, nI (m - 4)), (5, .int .u32 (((beN ((bs.drop (m - 4)).take k)).toNat : Nat) : Int)), (15, zFW v 1 (m - 4) m), (16, nI (m - (m - 4))), (17, zI (k : Int))] w0 [] [] a w ∧ k ≤ m - (m - 4)) ⟨0, rfl, hs.sub (.c rfl (.c rfl (.c rfl (.c rfl (.c rfl (.c rfl .n)))))), by omega⟩ ?_
 clear hs w a; rintro mm_ a w ⟨k, rfl, hs, hI1_0⟩
 revert a w hs
 refine go 1 [] [18, 0, 4, 5, 15, 16, 17] .n ?_
 refine ifG rfl (fun c_2 => ?_) (fun c_2 => ?_)
 ·
  refine go 0 [] [0, 4, 5, 15, 16, 17] .n ?_
  intro a w hs; refine zA1 (j := k) hs rfl rfl ((hs.rd0 hb).slcL (l := (m - 4)) (by omega)) rfl (by omega) underlying31 sizeOf5 rfl ?_
  intro a w hs; refine zBi hs rfl ((hs.rd0 hb).slcL (l := (m - 4)) (by omega)) (zBw (bs.drop (m - 4)) (by first | omega | (simp; omega))) isAgg5 rfl ?_
  refine goL 2 [] [21, 7, 0, 4, 15, 16, 17] .n ?_
  intro a w hs; refine zN4 (X := beN ((bs.drop (m - 4)).take k)) (m := 8) hs rfl rfl rfl (by decide) rfl ?_
  refine goL 1 [] [23, 22, 0, 4, 15, 16, 17] .n ?_
  intro a w hs; refine zGn (X := (bs.drop (m - 4)).getD k 0) hs rfl rfl underlying5 underlying161 rfl ?_
  intro a w hs; refine zRb (X := (beN ((bs.drop (m - 4)).take k)) <<< 8) (Y := ((bs.drop (m - 4)).getD k 0).setWidth 32) hs rfl rfl rfl rfl rfl ?_
  refine goL 3 [] [17, 5, 0, 4, 15, 16] .n ⟨(by omega), ?_⟩
  intro a w hs; rw [← zUG _ _ (by simp; omega)] at hs
  refine ⟨_, ?_, k + 1, rfl, hs.sub (.c rfl (.c rfl (.c rfl (.c rfl (.c rfl (.c rfl .n)))))), by omega⟩
  omega
 refine go 3 [] [29, 28, 27, 0, 4] .n ?_
 intro a w hs; refine zL5 (j := (m - 4)) hs rfl rfl rfl (hs.rd0 hb) (by omega) underlying31 sizeOf5 rfl ?_
 intro a w hs; refine zB (v := .int .u32 (((zCK (bs.take (m - 4))).toNat : Nat) : Int)) hs (.c rfl .n) call83 (zUp _ _ (bs.take (m - 4)) _ ((hs.rd0 hb).slcT (h := (m - 4)) (by omega))) rfl ?_
 refine goL 1 [] [32, 0, 4] .n ?_
 refine ifG rfl (fun c_3 => ?_) (fun c_3 => ?_)
 ·
  refine go 2 [] [3, 2] .n ?_
  intro a w hs; first | exact zBH hs rfl rfl rfl (zCu (zIu (by omega))) | exact zBH hs rfl rfl rfl (zCu (zMR hbl (by omega) (by assumption) (by omega)))
 refine go 0 [] [0, 4] .n ?_
 intro a w hs; refine zQP hs underlying31 rfl ?_ ⟨_, sizeOf5⟩; intro g4
 refine goL 2 [] [35, 34, 33] .n ?_
 intro a w hs; refine zL5 (j := (m - 4)) hs rfl rfl rfl (hs.rd0 hb) (by omega) underlying31 sizeOf5 rfl ?_
 refine cl (·.toRow (size := 1) (m := 0) .z rfl (by decide)) ?_
 intro a w hs; refine zBI (size := 1) (bytes := 1) hs rfl rfl .z ((hs.rd0 hb).slcT (h := (m - 4)) (by omega)) (zAE _) underlying31 (i := Tryz.t5) rfl rfl rfl rfl rfl (by decide) (by omega) (by simp only [maxLen]; omega) rfl ?_; intro v5
 refine goL 2 [] [3, 2] .n ?_
 intro a w hs; replace hs := hs.rerow .z (m' := (bs.take (m - 4)).length) (xs' := zC (bs.take (m - 4))) (by simp; omega) (by rw [List.nil_append])
 exact zBH hs rfl rfl rfl (zJ6 (zRr hbl (by omega) (by assumption) (by omega)) _)
theorem zRB (v : Value) (m : Nat) (bs : List zO) (w0 : World) (hb : Rd w0 [] v 1 m (zC bs)) (hm : m ≤ 140737488351232) (h : zCa bs = none) : Calls Tryz.prog 40 #[v] w0 (zAZ w0 (.tuple #[.slice none 0 0, .bool false])) :=
 (zO3 v m bs w0 hb hm).mono fun e w' ⟨u, N, he, hp, hM⟩ => ⟨u, N, he, by unfold zDx at hp; rw [h] at hp; exact hp, hM⟩
theorem zRH (v : Value) (m : Nat) (bs : List zO) (w0 : World) (hb : Rd w0 [] v 1 m (zC bs)) (x : List zO) (hm : m ≤ 140737488351232) (h : zCa bs = some x) : Calls Tryz.prog 40 #[v] w0 (Ret w0 [] fun u N => ∃ r, u = .tuple #[r, .bool true] ∧ N = [row r 5 1 x.length (zC x)]) :=
 (zO3 v m bs w0 hb hm).mono fun e w' ⟨u, N, he, hp, hM⟩ => ⟨u, N, he, by unfold zDx at hp; rw [h] at hp; exact hp, hM⟩
end Go.Proofs.YtemnjodhidlfpaaGreat
/- Walks of datagrams: what each function does, over the program of this seat. Printed by a program of this session. -/
namespace Go.Proofs.YtemnjodhidlfpaaGreat
open Tryz
open Go Go.Sx Go.RowKit
set_option linter.unusedVariables false
set_option linter.unusedSimpArgs false
set_option maxRecDepth 4000
set_option maxHeartbeats 1000000

theorem zUH (t tm b : Int) (u : Value) (l : List zAA) (w0 : World) (ht_ : -9223372036854775808 ≤ t ∧ t ≤ 9223372036854775807) (htm_ : -9223372036854775808 ≤ tm ∧ tm ≤ 9223372036854775807) (hb_ : -9223372036854775808 ≤ b ∧ b ≤ 9223372036854775807) (hc : Rd w0 [] u 9 l.length (l.flatMap zJA)) : Calls Tryz.prog 139 #[.agg #[.int .i64 t, .int .i64 tm, .int .i64 b, u]] w0 (Ret w0 [] fun x N => ∃ v, x = .tuple #[v, nI (zE5 t tm b l.length)] ∧ N = [row v 5 1 (zBa t tm b l.length).length (zC (zBa t tm b l.length))]) := by
 have hce := hc.le
 simp only [maxLen] at hce
 have hv1 := zCq (BitVec.ofInt 64 t).toNat
 have hv2 := zCq (zF8 tm).toNat
 have hv3 := zCq (BitVec.ofInt 64 (t - b)).toNat
 have hv4 := zCq (BitVec.ofInt 64 (l.length : Int)).toNat
 have hv5 := zCq (0#64).toNat
 refine zF (F0 := [(0, .agg #[zI t, zI tm, zI b, u])]) func139 rfl rfl rfl (.c .n) (Mem.nil _) ?_
 refine go 7 [0, 0] [12, 1] .n (fun g1 => ⟨rfl, ?_⟩)
 intro a w hs; refine zT (b := decide (t < 0)) (fun c_2 => ?_) (fun c_2 => ?_)
 ·
  rw [c_2] at hs
  replace c_2 := of_decide_eq_true c_2
  revert a w hs
  refine go 19 [] [3, 2] .n ?_
  have hge : zE5 t tm b l.length = 3 := by first | exact zDR (by omega) | exact zCC (by omega) (by omega) | exact zDU (by omega) (by omega) (by omega) | exact zGp (by omega) (by omega) (by omega)
  refine cl (·.drop (.c .z .n)) ?_
  refine cl (·.addNil 5 1) ?_
  intro a w hs; replace hs := hs.rerow .z (m' := (zBa t tm b l.length).length) (xs' := zC (zBa t tm b l.length)) (by rw [zBa, if_pos (by omega)]; rfl) (by rw [zBa, if_pos (by omega)]; rfl)
  exact zBH hs rfl rfl rfl ⟨_, congrArg (fun z : Nat => Value.tuple #[.slice none 0 0, zI (z : Int)]) hge.symm, rfl⟩
 rw [c_2] at hs
 replace c_2 := of_decide_eq_false c_2
 revert a w hs
 refine go 5 [0] [17, 1] (.c .z .n) ⟨rfl, ?_⟩
 intro a w hs; refine zT (b := decide (4294967295 < t)) (fun c_3 => ?_) (fun c_3 => ?_)
 ·
  rw [c_3] at hs
  replace c_3 := of_decide_eq_true c_3
  revert a w hs
  refine go 14 [] [3, 2] .n ?_
  have hge : zE5 t tm b l.length = 3 := by first | exact zDR (by omega) | exact zCC (by omega) (by omega) | exact zDU (by omega) (by omega) (by omega) | exact zGp (by omega) (by omega) (by omega)
  refine cl (·.drop (.c .z .n)) ?_
  refine cl (·.addNil 5 1) ?_
  intro a w hs; replace hs := hs.rerow .z (m' := (zBa t tm b l.length).length) (xs' := zC (zBa t tm b l.length)) (by rw [zBa, if_pos (by omega)]; rfl) (by rw [zBa, if_pos (by omega)]; rfl)
  exact zBH hs rfl rfl rfl ⟨_, congrArg (fun z : Nat => Value.tuple #[.slice none 0 0, zI (z : Int)]) hge.symm, rfl⟩
 rw [c_3] at hs
 replace c_3 := of_decide_eq_false c_3
 revert a w hs
 refine go 2 [0] [19, 17, 1] (.c .z .n) ⟨rfl, ?_⟩
 intro a w hs; refine zD hs rfl rfl rfl ?_
 refine zB (v := .bool (decide (-2305843009213693952 ≤ tm ∧ tm ≤ 2305843009213693952))) hs (.c rfl .n) call87 (zKm tm _) rfl ?_
 refine goL 3 [] [23, 1] .n ?_
 intro a w hs; refine zT (b := !(decide (-2305843009213693952 ≤ tm ∧ tm ≤ 2305843009213693952))) (fun c_4 => ?_) (fun c_4 => ?_)
 ·
  rw [c_4] at hs
  replace c_4 := zEA c_4
  replace c_4 := of_decide_eq_false c_4
  revert a w hs
  refine go 8 [] [3, 2] .n ?_
  have hge : zE5 t tm b l.length = 3 := by first | exact zDR (by omega) | exact zCC (by omega) (by omega) | exact zDU (by omega) (by omega) (by omega) | exact zGp (by omega) (by omega) (by omega)
  refine cl (·.drop (.c .z .n)) ?_
  refine cl (·.addNil 5 1) ?_
  intro a w hs; replace hs := hs.rerow .z (m' := (zBa t tm b l.length).length) (xs' := zC (zBa t tm b l.length)) (by rw [zBa, if_pos (by omega)]; rfl) (by rw [zBa, if_pos (by omega)]; rfl)
  exact zBH hs rfl rfl rfl ⟨_, congrArg (fun z : Nat => Value.tuple #[.slice none 0 0, zI (z : Int)]) hge.symm, rfl⟩
 rw [c_4] at hs
 replace c_4 := zD5 c_4
 replace c_4 := of_decide_eq_true c_4
 revert a w hs
 refine go 5 [0] [8, 1] (.c .z .n) ⟨rfl, ?_⟩
 refine ifG rfl (fun c_5 => ?_) (fun c_5 => ?_)
 ·
  refine go 2 [] [3, 2] .n ?_
  have hge : zE5 t tm b l.length = 3 := by first | exact zDR (by omega) | exact zCC (by omega) (by omega) | exact zDU (by omega) (by omega) (by omega) | exact zGp (by omega) (by omega) (by omega)
  refine cl (·.drop (.c .z .n)) ?_
  refine cl (·.addNil 5 1) ?_
  intro a w hs; replace hs := hs.rerow .z (m' := (zBa t tm b l.length).length) (xs' := zC (zBa t tm b l.length)) (by rw [zBa, if_pos (by omega)]; rfl) (by rw [zBa, if_pos (by omega)]; rfl)
  exact zBH hs rfl rfl rfl ⟨_, congrArg (fun z : Nat => Value.tuple #[.slice none 0 0, zI (z : Int)]) hge.symm, rfl⟩
 refine go 6 [0, 0] [28, 1] (.c .z .n) ⟨rfl, rfl, ?_⟩
 refine ifG rfl (fun c_6 => ?_) (fun c_6 => ?_)
 ·
  refine go 2 [] [3, 2] .n ?_
  have hge : zE5 t tm b l.length = 10 := by first | exact zDR (by omega) | exact zCC (by omega) (by omega) | exact zDU (by omega) (by omega) (by omega) | exact zGp (by omega) (by omega) (by omega)
  refine cl (·.drop (.c .z .n)) ?_
  refine cl (·.addNil 5 1) ?_
  intro a w hs; replace hs := hs.rerow .z (m' := (zBa t tm b l.length).length) (xs' := zC (zBa t tm b l.length)) (by rw [zBa, if_pos (by omega)]; rfl) (by rw [zBa, if_pos (by omega)]; rfl)
  exact zBH hs rfl rfl rfl ⟨_, congrArg (fun z : Nat => Value.tuple #[.slice none 0 0, zI (z : Int)]) hge.symm, rfl⟩
 refine go 2 [0] [36, 1] (.c .z .n) ⟨rfl, ?_⟩
 intro a w hs; refine zAK hs rfl (hs.rd0 hc).isSl underlying58 rfl ?_
 refine goL 2 [] [34, 1] .n ?_
 refine ifG rfl (fun c_7 => ?_) (fun c_7 => ?_)
 ·
  refine go 2 [] [3, 2] .n ?_
  have hge : zE5 t tm b l.length = 8 := by first | exact zDR (by omega) | exact zCC (by omega) (by omega) | exact zDU (by omega) (by omega) (by omega) | exact zGp (by omega) (by omega) (by omega)
  refine cl (·.drop (.c .z .n)) ?_
  refine cl (·.addNil 5 1) ?_
  intro a w hs; replace hs := hs.rerow .z (m' := (zBa t tm b l.length).length) (xs' := zC (zBa t tm b l.length)) (by rw [zBa, if_pos (by omega)]; rfl) (by rw [zBa, if_pos (by omega)]; rfl)
  exact zBH hs rfl rfl rfl ⟨_, congrArg (fun z : Nat => Value.tuple #[.slice none 0 0, zI (z : Int)]) hge.symm, rfl⟩
 refine go 4 [0] [41, 4, 1] (.c .z .n) ⟨rfl, ?_⟩
 refine ifG rfl (fun c_8 => ?_) (fun c_8 => ?_)
 ·
  refine go 5 [0, 0] [46, 1] (.c .z .n) ⟨rfl, rfl, (by omega), ?_⟩
  intro a w hs; refine zAU hs rfl underlying2 underlying167 rfl ?_
  refine goL 3 [] [5, 4, 1] .n (fun g9 => ?_)
  intro a w hs
  refine zAN [.p [] [], .p [0] [0], .v [1] (qI (BitVec.ofInt 64 t)), .p [] [], .p [3] [0], .v [4] (qI (zF8 tm)), .p [] [], .p [] [], .p [7] [0], .v [8] (nI l.length), .v [9] (qI (BitVec.ofInt 64 ((l.length : Nat) : Int))), .x [10, 6, 5, 2] ⟨[], [], [], fun vs10 => vs10 11 = .slice (some ⟨(zCl (vs10 11)), 0, none⟩) 4 4, fun vs10 => [blk (zCl (vs10 11)) [qI (BitVec.ofInt 64 t), qI (zF8 tm), qI (BitVec.ofInt 64 (t - b)), qI (BitVec.ofInt 64 ((l.length : Nat) : Int))] 167], none⟩, .y [] (zI 4) [] [] [] fun vs10 => [], .p [] []] [12, 13] hs .n .n (.c (.s .z) .n) (by kernel_rfl) ⟨rfl, fun _ _ _ _ hm hs K => zAU hs rfl underlying2 underlying167 rfl (vk K), rfl, fun _ _ _ _ hm hs K => zB (v := qI (zF8 tm)) hs (.c rfl .n) call173 (zQq tm _ (by omega)) rfl (vk K), rfl, fun _ _ _ _ hm hs K => zAK hs rfl (hm.rd0 hc).isSl underlying58 rfl (vk K), fun _ _ _ _ hm hs K => zAU hs rfl underlying3 underlying167 rfl (vk K), ⟨.n, by kernel_rfl, fun _ => rfl, rfl, rfl⟩, ⟨?_, ?_, trivial⟩, ?_⟩
  ·
   intro a_ w_ R_ rest_ vs10 hm hs ht hx
   have hs0 := hs.bare
   refine zHO (cs := [qI (BitVec.ofInt 64 t), qI (zF8 tm), qI (BitVec.ofInt 64 (t - b)), qI (BitVec.ofInt 64 ((l.length : Nat) : Int))]) hs (.c (.c (.c (.c .n)))) (.c rfl (.c rfl (.c rfl (.c rfl .n)))) underlying268 (ie := Tryz.t167) rfl rfl rfl rfl (by decide) (by decide) rfl (by decide) rfl rfl rfl ?_; clear hs; intro g11 a w hs
   exact wpList_nil ⟨rfl, _, _, hs0, (.c (.c (.c (.c .r)))), hs, rfl⟩
  ·
   intro a_ w_ R_ rest_ vs10 hm hs ht hx
   have t11 := ht 11 (zH 14 _ (by kernel_rfl))
   have e11 : _ = some (vs10 11) := t11.val rfl
   rw [show vs10 11 = .slice (some ⟨(zCl (vs10 11)), 0, none⟩) 4 4 from t11.2.1] at e11
   replace hs := hs.learn e11
   have hs0 := hs.bare
   refine zAK hs rfl (zAF (m := 4) (size := 1) (hm.own (List.mem_append.2 (.inr ((ht 11 (zH 14 _ (by kernel_rfl))).2.2 (zHY (n := 14) (by kernel_rfl)) _ (List.Mem.head _))))) rfl (by decide)).isSl underlying268 rfl ?_; clear hs; intro a w hs
   replace hs := hs.recell (v' := zI 4) (Option.some.inj rfl)
   exact wpList_nil ⟨rfl, _, _, hs0, (.c .r), hs, rfl⟩
  clear hs w a; intro vs10 a w hs hf
  obtain ⟨e11, q11⟩ := hf 11 (by decide)
  replace e11 : _ = some (vs10 11) := e11.val rfl
  rw [show vs10 11 = .slice (some ⟨(zCl (vs10 11)), 0, none⟩) 4 4 from q11] at e11
  replace hs := hs.learn e11; clear e11 q11
  generalize zCl (vs10 11) = g12 at hs
  clear hf
  revert a w hs
  refine goE 0 [] [60, 62, 61, 5] .n ?_
  intro a w hs; refine zCn 4 ?_
  revert a w hs
  refine go 2 [] [60, 62, 61, 5] .n ?_
  intro a w hs; refine zA1 (j := 0) hs rfl rfl (zAF (m := 4) (size := 1) (hs.mem.del (.s (.s .z))) rfl (by decide)) (by decide) (by omega) underlying268 sizeOf167 rfl ?_
  intro a w hs; refine zBi (u := qI (BitVec.ofInt 64 t)) hs rfl (zAF (m := 4) (size := 1) (hs.mem.del (.s (.s .z))) rfl (by decide)) (by rfl) isAgg167 rfl ?_
  refine goL 3 [] [67, 66, 60, 62, 61] .n ?_
  intro a w hs; refine zK hs (.c rfl .n) call174 .n (zED (BitVec.ofInt 64 t) _) rfl ?_; clear hs w a; rintro v13 _ a w rfl hs
  replace hs := hs.toRow (size := 1) (m := 2) (.s .z) rfl (by decide)
  refine zBI (size := 1) (bytes := 1) hs rfl rfl .z (zQ (hs.mem.del (.s .z))) (zAE _) underlying31 (i := Tryz.t5) rfl rfl rfl rfl rfl (by decide) (by omega) (by simp only [maxLen]; omega) rfl ?_; intro v14
  refine goL 3 [] [62, 5, 60, 61] .n ⟨by decide, ?_⟩
  intro a w hs; refine zAX ?_
  revert a w hs
  refine go 2 [] [62, 5, 60, 61] .n ?_
  intro a w hs; refine zA1 (j := 1) hs rfl rfl (zAF (m := 4) (size := 1) (hs.mem.del (.s (.s (.s .z)))) rfl (by decide)) (by decide) (by omega) underlying268 sizeOf167 rfl ?_
  intro a w hs; refine zBi (u := qI (zF8 tm)) hs rfl (zAF (m := 4) (size := 1) (hs.mem.del (.s (.s (.s .z)))) rfl (by decide)) (by rfl) isAgg167 rfl ?_
  refine goL 3 [] [67, 66, 62, 60, 61] .n ?_
  intro a w hs; refine zK hs (.c rfl .n) call174 .n (zED (zF8 tm) _) rfl ?_; clear hs w a; rintro v15 _ a w rfl hs
  refine zBI (size := 1) (bytes := 1) hs rfl rfl (.s .z) (zQ (hs.mem.del .z)) (zAE _) underlying31 (i := Tryz.t5) rfl rfl rfl rfl rfl (by decide) (by omega) (by simp only [maxLen]; omega) rfl ?_; intro v16
  refine goL 3 [] [62, 5, 60, 61] .n ⟨by decide, ?_⟩
  intro a w hs; refine zAX ?_
  revert a w hs
  refine go 2 [] [62, 5, 60, 61] .n ?_
  intro a w hs; refine zA1 (j := 2) hs rfl rfl (zAF (m := 4) (size := 1) (hs.mem.del (.s (.s (.s (.s .z))))) rfl (by decide)) (by decide) (by omega) underlying268 sizeOf167 rfl ?_
  intro a w hs; refine zBi (u := qI (BitVec.ofInt 64 (t - b))) hs rfl (zAF (m := 4) (size := 1) (hs.mem.del (.s (.s (.s (.s .z))))) rfl (by decide)) (by rfl) isAgg167 rfl ?_
  refine goL 3 [] [67, 66, 62, 60, 61] .n ?_
  intro a w hs; refine zK hs (.c rfl .n) call174 .n (zED (BitVec.ofInt 64 (t - b)) _) rfl ?_; clear hs w a; rintro v17 _ a w rfl hs
  refine zBI (size := 1) (bytes := 1) hs rfl rfl (.s .z) (zQ (hs.mem.del .z)) (zAE _) underlying31 (i := Tryz.t5) rfl rfl rfl rfl rfl (by decide) (by omega) (by simp only [maxLen]; omega) rfl ?_; intro v18
  refine goL 3 [] [62, 5, 60, 61] .n ⟨by decide, ?_⟩
  intro a w hs; refine zAX ?_
  revert a w hs
  refine go 2 [] [62, 5, 60, 61] .n ?_
  intro a w hs; refine zA1 (j := 3) hs rfl rfl (zAF (m := 4) (size := 1) (hs.mem.del (.s (.s (.s (.s (.s .z)))))) rfl (by decide)) (by decide) (by omega) underlying268 sizeOf167 rfl ?_
  intro a w hs; refine zBi (u := qI (BitVec.ofInt 64 ((l.length : Nat) : Int))) hs rfl (zAF (m := 4) (size := 1) (hs.mem.del (.s (.s (.s (.s (.s .z)))))) rfl (by decide)) (by rfl) isAgg167 rfl ?_
  refine goL 3 [] [67, 66, 62, 60, 61] .n ?_
  intro a w hs; refine zK hs (.c rfl .n) call174 .n (zED (BitVec.ofInt 64 ((l.length : Nat) : Int)) _) rfl ?_; clear hs w a; rintro v19 _ a w rfl hs
  refine zBI (size := 1) (bytes := 1) hs rfl rfl (.s .z) (zQ (hs.mem.del .z)) (zAE _) underlying31 (i := Tryz.t5) rfl rfl rfl rfl rfl (by decide) (by omega) (by simp only [maxLen]; omega) rfl ?_; intro v20
  refine goL 3 [] [62, 5, 60, 61] .n ⟨by decide, ?_⟩
  intro a w hs; refine zAX ?_
  revert a w hs
  refine go 5 [] [3, 2] .n ?_
  have hge : zE5 t tm b l.length = 0 := by first | exact zDR (by omega) | exact zCC (by omega) (by omega) | exact zDU (by omega) (by omega) (by omega) | exact zGp (by omega) (by omega) (by omega)
  refine cl (·.drop (.c (.s (.s (.s (.s (.s (.s .z)))))) (.c (.s (.s (.s (.s (.s .z))))) (.c (.s (.s (.s (.s .z)))) (.c (.s (.s (.s .z))) (.c (.s (.s .z)) (.c (.s .z) .n))))))) ?_
  intro a w hs; replace hs := hs.rerow .z (m' := (zBa t tm b l.length).length) (xs' := zC (zBa t tm b l.length)) (by rw [zBa, if_neg (by omega), zA7, zG1]; (first | rw [if_pos (by omega)] | rw [if_neg (by omega)]); simp only [List.length_append, List.length_cons, List.length_nil, zBP]) (by rw [zBa, if_neg (by omega), zA7, zG1]; (first | rw [if_pos (by omega)] | rw [if_neg (by omega)]); simp [zC, zLB])
  exact zBH hs rfl rfl rfl ⟨_, congrArg (fun z : Nat => Value.tuple #[v20, zI (z : Int)]) hge.symm, rfl⟩
 refine go 2 [] [5, 4, 1] .n (fun g21 => ?_)
 intro a w hs
 refine zAN [.p [] [], .p [0] [0], .v [1] (qI (BitVec.ofInt 64 t)), .p [] [], .p [3] [0], .v [4] (qI (zF8 tm)), .p [] [], .p [] [], .p [7] [0], .v [8] (nI l.length), .v [9] (qI (BitVec.ofInt 64 ((l.length : Nat) : Int))), .x [10, 6, 5, 2] ⟨[], [], [], fun vs22 => vs22 11 = .slice (some ⟨(zCl (vs22 11)), 0, none⟩) 4 4, fun vs22 => [blk (zCl (vs22 11)) [qI (BitVec.ofInt 64 t), qI (zF8 tm), .int .u64 (0), qI (BitVec.ofInt 64 ((l.length : Nat) : Int))] 167], none⟩, .y [] (zI 4) [] [] [] fun vs22 => [], .p [] []] [12, 13] hs .n .n (.c (.s .z) .n) (by kernel_rfl) ⟨rfl, fun _ _ _ _ hm hs K => zAU hs rfl underlying2 underlying167 rfl (vk K), rfl, fun _ _ _ _ hm hs K => zB (v := qI (zF8 tm)) hs (.c rfl .n) call173 (zQq tm _ (by omega)) rfl (vk K), rfl, fun _ _ _ _ hm hs K => zAK hs rfl (hm.rd0 hc).isSl underlying58 rfl (vk K), fun _ _ _ _ hm hs K => zAU hs rfl underlying3 underlying167 rfl (vk K), ⟨.n, by kernel_rfl, fun _ => rfl, rfl, rfl⟩, ⟨?_, ?_, trivial⟩, ?_⟩
 ·
  intro a_ w_ R_ rest_ vs22 hm hs ht hx
  have hs0 := hs.bare
  refine zHO (cs := [qI (BitVec.ofInt 64 t), qI (zF8 tm), .int .u64 (0), qI (BitVec.ofInt 64 ((l.length : Nat) : Int))]) hs (.c (.c (.c (.c .n)))) (.c rfl (.c rfl (.c rfl (.c rfl .n)))) underlying268 (ie := Tryz.t167) rfl rfl rfl rfl (by decide) (by decide) rfl (by decide) rfl rfl rfl ?_; clear hs; intro g23 a w hs
  exact wpList_nil ⟨rfl, _, _, hs0, (.c (.c (.c (.c .r)))), hs, rfl⟩
 ·
  intro a_ w_ R_ rest_ vs22 hm hs ht hx
  have t11 := ht 11 (zH 14 _ (by kernel_rfl))
  have e11 : _ = some (vs22 11) := t11.val rfl
  rw [show vs22 11 = .slice (some ⟨(zCl (vs22 11)), 0, none⟩) 4 4 from t11.2.1] at e11
  replace hs := hs.learn e11
  have hs0 := hs.bare
  refine zAK hs rfl (zAF (m := 4) (size := 1) (hm.own (List.mem_append.2 (.inr ((ht 11 (zH 14 _ (by kernel_rfl))).2.2 (zHY (n := 14) (by kernel_rfl)) _ (List.Mem.head _))))) rfl (by decide)).isSl underlying268 rfl ?_; clear hs; intro a w hs
  replace hs := hs.recell (v' := zI 4) (Option.some.inj rfl)
  exact wpList_nil ⟨rfl, _, _, hs0, (.c .r), hs, rfl⟩
 clear hs w a; intro vs22 a w hs hf
 obtain ⟨e11, q11⟩ := hf 11 (by decide)
 replace e11 : _ = some (vs22 11) := e11.val rfl
 rw [show vs22 11 = .slice (some ⟨(zCl (vs22 11)), 0, none⟩) 4 4 from q11] at e11
 replace hs := hs.learn e11; clear e11 q11
 generalize zCl (vs22 11) = g24 at hs
 clear hf
 revert a w hs
 refine goE 0 [] [60, 62, 61, 5] .n ?_
 intro a w hs; refine zCn 4 ?_
 revert a w hs
 refine go 2 [] [60, 62, 61, 5] .n ?_
 intro a w hs; refine zA1 (j := 0) hs rfl rfl (zAF (m := 4) (size := 1) (hs.mem.del (.s (.s .z))) rfl (by decide)) (by decide) (by omega) underlying268 sizeOf167 rfl ?_
 intro a w hs; refine zBi (u := qI (BitVec.ofInt 64 t)) hs rfl (zAF (m := 4) (size := 1) (hs.mem.del (.s (.s .z))) rfl (by decide)) (by rfl) isAgg167 rfl ?_
 refine goL 3 [] [67, 66, 60, 62, 61] .n ?_
 intro a w hs; refine zK hs (.c rfl .n) call174 .n (zED (BitVec.ofInt 64 t) _) rfl ?_; clear hs w a; rintro v25 _ a w rfl hs
 replace hs := hs.toRow (size := 1) (m := 2) (.s .z) rfl (by decide)
 refine zBI (size := 1) (bytes := 1) hs rfl rfl .z (zQ (hs.mem.del (.s .z))) (zAE _) underlying31 (i := Tryz.t5) rfl rfl rfl rfl rfl (by decide) (by omega) (by simp only [maxLen]; omega) rfl ?_; intro v26
 refine goL 3 [] [62, 5, 60, 61] .n ⟨by decide, ?_⟩
 intro a w hs; refine zAX ?_
 revert a w hs
 refine go 2 [] [62, 5, 60, 61] .n ?_
 intro a w hs; refine zA1 (j := 1) hs rfl rfl (zAF (m := 4) (size := 1) (hs.mem.del (.s (.s (.s .z)))) rfl (by decide)) (by decide) (by omega) underlying268 sizeOf167 rfl ?_
 intro a w hs; refine zBi (u := qI (zF8 tm)) hs rfl (zAF (m := 4) (size := 1) (hs.mem.del (.s (.s (.s .z)))) rfl (by decide)) (by rfl) isAgg167 rfl ?_
 refine goL 3 [] [67, 66, 62, 60, 61] .n ?_
 intro a w hs; refine zK hs (.c rfl .n) call174 .n (zED (zF8 tm) _) rfl ?_; clear hs w a; rintro v27 _ a w rfl hs
 refine zBI (size := 1) (bytes := 1) hs rfl rfl (.s .z) (zQ (hs.mem.del .z)) (zAE _) underlying31 (i := Tryz.t5) rfl rfl rfl rfl rfl (by decide) (by omega) (by simp only [maxLen]; omega) rfl ?_; intro v28
 refine goL 3 [] [62, 5, 60, 61] .n ⟨by decide, ?_⟩
 intro a w hs; refine zAX ?_
 revert a w hs
 refine go 2 [] [62, 5, 60, 61] .n ?_
 intro a w hs; refine zA1 (j := 2) hs rfl rfl (zAF (m := 4) (size := 1) (hs.mem.del (.s (.s (.s (.s .z))))) rfl (by decide)) (by decide) (by omega) underlying268 sizeOf167 rfl ?_
 intro a w hs; refine zBi (u := .int .u64 (0)) hs rfl (zAF (m := 4) (size := 1) (hs.mem.del (.s (.s (.s (.s .z))))) rfl (by decide)) (by rfl) isAgg167 rfl ?_
 refine goL 3 [] [67, 66, 62, 60, 61] .n ?_
 intro a w hs; refine zK hs (.c rfl .n) call174 .n (zED (0#64) _) rfl ?_; clear hs w a; rintro v29 _ a w rfl hs
 refine zBI (size := 1) (bytes := 1) hs rfl rfl (.s .z) (zQ (hs.mem.del .z)) (zAE _) underlying31 (i := Tryz.t5) rfl rfl rfl rfl rfl (by decide) (by omega) (by simp only [maxLen]; omega) rfl ?_; intro v30
 refine goL 3 [] [62, 5, 60, 61] .n ⟨by decide, ?_⟩
 intro a w hs; refine zAX ?_
 revert a w hs
 refine go 2 [] [62, 5, 60, 61] .n ?_
 intro a w hs; refine zA1 (j := 3) hs rfl rfl (zAF (m := 4) (size := 1) (hs.mem.del (.s (.s (.s (.s (.s .z)))))) rfl (by decide)) (by decide) (by omega) underlying268 sizeOf167 rfl ?_
 intro a w hs; refine zBi (u := qI (BitVec.ofInt 64 ((l.length : Nat) : Int))) hs rfl (zAF (m := 4) (size := 1) (hs.mem.del (.s (.s (.s (.s (.s .z)))))) rfl (by decide)) (by rfl) isAgg167 rfl ?_
 refine goL 3 [] [67, 66, 62, 60, 61] .n ?_
 intro a w hs; refine zK hs (.c rfl .n) call174 .n (zED (BitVec.ofInt 64 ((l.length : Nat) : Int)) _) rfl ?_; clear hs w a; rintro v31 _ a w rfl hs
 refine zBI (size := 1) (bytes := 1) hs rfl rfl (.s .z) (zQ (hs.mem.del .z)) (zAE _) underlying31 (i := Tryz.t5) rfl rfl rfl rfl rfl (by decide) (by omega) (by simp only [maxLen]; omega) rfl ?_; intro v32
 refine goL 3 [] [62, 5, 60, 61] .n ⟨by decide, ?_⟩
 intro a w hs; refine zAX ?_
 revert a w hs
 refine go 5 [] [3, 2] .n ?_
 have hge : zE5 t tm b l.length = 0 := by first | exact zDR (by omega) | exact zCC (by omega) (by omega) | exact zDU (by omega) (by omega) (by omega) | exact zGp (by omega) (by omega) (by omega)
 refine cl (·.drop (.c (.s (.s (.s (.s (.s (.s .z)))))) (.c (.s (.s (.s (.s (.s .z))))) (.c (.s (.s (.s (.s .z)))) (.c (.s (.s (.s .z))) (.c (.s (.s .z)) (.c (.s .z) .n))))))) ?_
 intro a w hs; replace hs := hs.rerow .z (m' := (zBa t tm b l.length).length) (xs' := zC (zBa t tm b l.length)) (by rw [zBa, if_neg (by omega), zA7, zG1]; (first | rw [if_pos (by omega)] | rw [if_neg (by omega)]); simp only [List.length_append, List.length_cons, List.length_nil, zBP]) (by rw [zBa, if_neg (by omega), zA7, zG1]; (first | rw [if_pos (by omega)] | rw [if_neg (by omega)]); simp [zC, zLB])
 exact zBH hs rfl rfl rfl ⟨_, congrArg (fun z : Nat => Value.tuple #[v32, zI (z : Int)]) hge.symm, rfl⟩
theorem zMs (t tm b : Int) (u : Value) (l : List zAA) (w0 : World) (ht_ : -9223372036854775808 ≤ t ∧ t ≤ 9223372036854775807) (htm_ : -9223372036854775808 ≤ tm ∧ tm ≤ 9223372036854775807) (hb_ : -9223372036854775808 ≤ b ∧ b ≤ 9223372036854775807) (hc : Rd w0 [] u 9 l.length (l.flatMap zJA)) (hl : ∀ x ∈ l, x.wf) : Calls Tryz.prog 99 #[.agg #[.int .i64 t, .int .i64 tm, .int .i64 b, u]] w0 (Ret w0 [] fun x N => ∃ v, x = .tuple #[v, nI (zAQ t tm b l)] ∧ N = [row v 5 1 (zDL t tm b l).length (zC (zDL t tm b l))]) := by
 have hce := hc.le
 simp only [maxLen] at hce
 refine zF (F0 := [(0, .agg #[zI t, zI tm, zI b, u])]) func99 rfl rfl rfl (.c .n) (Mem.nil _) ?_
 refine go 4 [0, 0] [12, 1] .n (fun g1 => ⟨rfl, ?_⟩)
 intro a w hs; refine zK hs (.c rfl .n) call139 .n (zUH t tm b _ l _ (by omega) (by omega) (by omega) (hs.rd0 hc)) rfl ?_; clear hs w a; rintro _ _ a w ⟨v2, rfl, rfl⟩ hs
 have hk3 := zFw t tm b l.length
 revert a w hs
 refine goL 7 [] [17, 5, 4, 1] .n ?_
 refine ifG rfl (fun c_4 => ?_) (fun c_4 => ?_)
 ·
  refine go 3 [] [3, 2] .n ?_
  have hbe : zAQ t tm b l = zE5 t tm b l.length := by first | exact zB3 (by omega) | exact (zB3 (by rw [(show zE5 t tm b l.length = _ by first | exact zDR (by omega) | exact zCC (by omega) (by omega) | exact zDU (by omega) (by omega) (by omega))]; decide)).trans (show zE5 t tm b l.length = _ by first | exact zDR (by omega) | exact zCC (by omega) (by omega) | exact zDU (by omega) (by omega) (by omega)) | (rw [zBz (by omega)]; exact zGQ (by omega) hI1_1 (by unfold zE7; omega)) | (rw [zBz (by omega)]; unfold zCR; rw [← show j = l.length by omega]; exact hI1_1)
  refine cl (·.drop (.c (.s .z) (.c .z .n))) ?_
  refine cl (·.addNil 5 1) ?_
  intro a w hs; replace hs := hs.rerow .z (m' := (zDL t tm b l).length) (xs' := zC (zDL t tm b l)) (by rw [zFp (by omega)]; rfl) (by rw [zFp (by omega)]; rfl)
  exact zBH hs rfl rfl rfl ⟨_, congrArg (fun z : Nat => Value.tuple #[.slice none 0 0, zI (z : Int)]) hbe.symm, rfl⟩
 have hgp := zGM (t := t) (tm := tm) (b := b) (m := l.length) (by omega)
 refine cl (·.rerow .z (m' := (zA7 t tm b l.length).length) (xs' := zC (zA7 t tm b l.length)) (by rw [zBa, if_neg (by omega)]) (by rw [zBa, if_neg (by omega)])) ?_
 refine go 3 [0] [20, 6, 4] (.c (.s .z) .n) ⟨rfl, ?_⟩
 intro a w hs; refine zAK hs rfl (hs.rd0 hc).isSl underlying58 rfl ?_
 refine goL 1 [] [22, 21, 20, 6, 4] .n ?_
 refine cl (·.drop (.c .z .n)) ?_
 intro a w hs; replace hs := hs.rerow .z (m' := (zA7 t tm b l.length).length + (zCW (l.take 0)).1.length) (xs' := zC (zA7 t tm b l.length ++ (zCW (l.take 0)).1)) (by show _ = _ + 0; first | rfl | (simp only [zBP, zA7, List.length_append, List.length_cons, List.length_nil]; omega)) (by show _ = zC (_ ++ []); rw [List.append_nil])
 refine zDG (fun mm_ a w => ∃ j : Nat, ∃ p : Value, mm_ = l.length - j ∧ St 42 [(4, p), (6, zI ((zCW (l.take j)).2)), (20, u), (21, nI l.length), (22, zI (j : Int))] w0 [] [row p 5 1 ((zA7 t tm b l.length).length + (zCW (l.take j)).1.length) (zC (zA7 t tm b l.length ++ (zCW (l.take j)).1))] a w ∧ j ≤ l.length ∧ zB4 l j = 0) ⟨0, v2, rfl, hs.sub (.c rfl (.c rfl (.c rfl (.c rfl (.c rfl .n))))), by omega, rfl⟩ ?_
 clear hs w a; rintro mm_ a w ⟨j, p, rfl, hs, hI1_0, hI1_1⟩
 have hll := zLi hI1_0 hI1_1
 have hrl := zMv (l.take j)
 have htl : (l.take j).length ≤ j := by rw [List.length_take]; omega
 revert a w hs
 refine go 1 [] [23, 4, 6, 20, 21, 22] .n ?_
 refine ifG rfl (fun c_5 => ?_) (fun c_5 => ?_)
 ·
  refine go 0 [] [4, 6, 20, 21, 22] .n ?_
  intro a w hs; refine zBy (j := j) hs rfl rfl (hs.rd0 hc) rfl (by omega) underlying58 sizeOf131 rfl ?_
  intro a w hs; refine zBm (cs := zJA (l.getD j default)) hs rfl (hs.rd0 hc) (zAo zHC l j (by omega)) (by rw [zAd zHC]; omega) (by omega) isAgg131 sizeOf131 rfl ?_
  refine goL 4 [0, 0] [28, 27, 8, 4, 20, 21, 22] .n (fun g6 => ⟨rfl, rfl, ?_⟩)
  intro a w hs; refine zK hs (.c rfl (.c rfl .n)) call140 .n (zTb (l.getD j default) ((zCW (l.take j)).2) _ (zLL hl (by omega)) (by omega)) rfl ?_; clear hs w a; rintro _ _ a w ⟨v7, rfl, rfl⟩ hs
  have hk8 := zH3 (l.getD j default) ((zCW (l.take j)).2)
  revert a w hs
  refine goL 7 [] [33, 10, 9, 8, 4, 20, 21, 22] .n ?_
  refine ifG rfl (fun c_9 => ?_) (fun c_9 => ?_)
  ·
   refine go 3 [] [3, 2] .n ?_
   have hbe : zAQ t tm b l = zAv (l.getD j default) ((zCW (l.take j)).2) := by first | exact zB3 (by omega) | exact (zB3 (by rw [(show zE5 t tm b l.length = _ by first | exact zDR (by omega) | exact zCC (by omega) (by omega) | exact zDU (by omega) (by omega) (by omega))]; decide)).trans (show zE5 t tm b l.length = _ by first | exact zDR (by omega) | exact zCC (by omega) (by omega) | exact zDU (by omega) (by omega) (by omega)) | (rw [zBz (by omega)]; exact zGQ (by omega) hI1_1 (by unfold zE7; omega)) | (rw [zBz (by omega)]; unfold zCR; rw [← show j = l.length by omega]; exact hI1_1)
   refine cl (·.drop (.c (.s (.s .z)) (.c (.s .z) (.c .z .n)))) ?_
   refine cl (·.addNil 5 1) ?_
   intro a w hs; replace hs := hs.rerow .z (m' := (zDL t tm b l).length) (xs' := zC (zDL t tm b l)) (by rw [zFp (by omega)]; rfl) (by rw [zFp (by omega)]; rfl)
   exact zBH hs rfl rfl rfl ⟨_, congrArg (fun z : Nat => Value.tuple #[.slice none 0 0, zI (z : Int)]) hbe.symm, rfl⟩
  refine go 0 [] [9, 8, 4, 20, 21, 22] .n ?_
  refine cl (·.sub (F' := [(9, v7), (8, pt g6 0), (4, p), (20, u), (21, nI l.length), (22, zI (j : Int))]) (.c rfl (.c rfl (.c rfl (.c rfl (.c rfl (.c rfl .n))))))) ?_
  intro a w hs
  have hs1 := hs
  replace hs := hs.sub (F' := [(9, v7), (8, pt g6 0), (20, u), (21, nI l.length), (22, zI (j : Int))]) (.c rfl (.c rfl (.c rfl (.c rfl (.c rfl .n)))))
  refine zRk (M0 := [row v7 5 1 ((zCY (l.getD j default) ((zCW (l.take j)).2)).length) (zC (zCY (l.getD j default) ((zCW (l.take j)).2))), blk g6 [zI ((l.getD j default).k), zI ((l.getD j default).id), zI ((l.getD j default).p0), zI ((l.getD j default).p1), zI ((l.getD j default).p2), zI ((l.getD j default).v0), zI ((l.getD j default).v1), zI ((l.getD j default).v2), .int .u16 ((((l.getD j default).a).toNat : Nat) : Int)] 131]) (Ds := [Pv 0 p, Pv 1 v7, ⟨[row p 5 1 ((zA7 t tm b l.length).length + (zCW (l.take j)).1.length) (zC (zA7 t tm b l.length ++ (zCW (l.take j)).1))], [], [], fun vs10 => True, fun vs10 => [row (vs10 2) 5 1 (((zA7 t tm b l.length).length + (zCW (l.take j)).1.length) + ((zCY (l.getD j default) ((zCW (l.take j)).2)).length)) ((zC (zA7 t tm b l.length ++ (zCW (l.take j)).1)) ++ (zC (zCY (l.getD j default) ((zCW (l.take j)).2))))], none⟩, Pv 3 (pt g6 1), Pv 4 (zI ((l.getD j default).id)), ⟨[], [], [2], fun vs10 => vs10 5 = (vs10 2), fun vs10 => [], some (p)⟩, Pv 6 (zI ((l.getD j default).id))]) (by kernel_rfl) hs rfl (.c (.s (.s .z)) .n) (by kernel_rfl) (by kernel_rfl) ?_ (zVA.get (.z rfl (.z rfl (.z rfl (.z rfl (.z rfl (.s rfl rfl rfl (.z rfl .n))))))) hs1) ?_
  all_goals clear hs1
  ·
   refine (.c ?_ (.c ?_ (.c ?_ (.c ?_ (.c ?_ (.c ?_ (.c ?_ .n)))))))
   · exact zAh (m := 7) (.o (j := 5) (by kernel_rfl) rfl rfl .n) (fun hm0 hm hx => .n) (by kernel_rfl) (by kernel_rfl) rfl
   · exact zAh (m := 7) .n (fun hm0 hm hx => .n) (by kernel_rfl) (by kernel_rfl) rfl
   ·
    intro a_ w_ R_ rest_ vs10 hm hs ht hx
    replace hs : St _ _ _ (zM [row p 5 1 ((zA7 t tm b l.length).length + (zCW (l.take j)).1.length) (zC (zA7 t tm b l.length ++ (zCW (l.take j)).1))]) [row p 5 1 ((zA7 t tm b l.length).length + (zCW (l.take j)).1.length) (zC (zA7 t tm b l.length ++ (zCW (l.take j)).1))] _ _ := hs
    have hm0 := hm.mid
    replace hs := hs.lrn (ht 0 (zH 7 _ (by kernel_rfl))) rfl rfl
    replace hs := hs.lrn (ht 1 (zH 7 _ (by kernel_rfl))) rfl rfl
    have hs0 := hs.bare
    refine zBI (size := 1) (bytes := 1) hs rfl rfl .z (zQ (hm0.del .z)) (zAE _) underlying31 (i := Tryz.t5) rfl rfl rfl rfl rfl (by decide) (by omega) (by simp only [maxLen]; omega) rfl ?_; clear hs; intro v11 a w hs
    exact wpList_nil ⟨rfl, _, _, hs0, (.c (.c .r)), hs, trivial⟩
   · exact zAh (m := 7) .n (fun hm0 hm hx => .n) (by kernel_rfl) (by kernel_rfl) rfl
   · exact zAh (m := 7) (.c (k := 3) (by kernel_rfl) rfl rfl .n) (fun hm0 hm hx => (.c (hm0.del (.s .z)))) (by kernel_rfl) (by kernel_rfl) rfl
   ·
    intro a_ w_ R_ rest_ vs10 hm hs ht hx
    have hm0 := hm.mid
    have t2 := ht 2 (zH 7 _ (by kernel_rfl))
    have e2 : _ = some (vs10 2) := t2.val rfl
    replace hs := hs.learn e2
    have hs0 := hs.bare
    refine zEL hs rfl rfl ?_; clear hs; intro a w hs
    exact wpList_nil ⟨rfl, _, _, hs0, (.c .r), hs, rfl⟩
   exact zAh (m := 7) (.c (k := 4) (by kernel_rfl) rfl rfl .n) (fun hm0 hm hx => .n) (by kernel_rfl) (by kernel_rfl) rfl
  clear hs w a; intro a w vs10 hs hf
  replace hs : St _ _ _ _ [row v7 5 1 ((zCY (l.getD j default) ((zCW (l.take j)).2)).length) (zC (zCY (l.getD j default) ((zCW (l.take j)).2))), blk g6 [zI ((l.getD j default).k), zI ((l.getD j default).id), zI ((l.getD j default).p0), zI ((l.getD j default).p1), zI ((l.getD j default).p2), zI ((l.getD j default).v0), zI ((l.getD j default).v1), zI ((l.getD j default).v2), .int .u16 ((((l.getD j default).a).toNat : Nat) : Int)] 131, row (vs10 2) 5 1 (((zA7 t tm b l.length).length + (zCW (l.take j)).1.length) + ((zCY (l.getD j default) ((zCW (l.take j)).2)).length)) ((zC (zA7 t tm b l.length ++ (zCW (l.take j)).1)) ++ (zC (zCY (l.getD j default) ((zCW (l.take j)).2))))] _ _ := hs
  obtain ⟨e5, q5⟩ := hf 5 (by decide)
  replace e5 : _ = some (vs10 5) := e5.val rfl
  rw [show vs10 5 = (vs10 2) from q5] at e5
  replace hs := hs.learn e5; clear e5 q5
  obtain ⟨e6, q6⟩ := hf 6 (by decide)
  replace e6 : _ = some (vs10 6) := e6.val rfl
  rw [show vs10 6 = zI ((l.getD j default).id) from q6] at e6
  replace hs := hs.learn e6; clear e6 q6
  generalize vs10 2 = v12 at hs
  clear hf
  revert a w hs
  refine goE 2 [] [22, 6, 4, 20, 21] .n ⟨(by omega), ?_⟩
  have he0 : zE7 l j = 0 := by unfold zE7; omega
  intro a w hs; replace hs := hs.rerow (.s (.s .z)) (m' := (zA7 t tm b l.length).length + (zCW (l.take (j + 1))).1.length) (xs' := zC (zA7 t tm b l.length ++ (zCW (l.take (j + 1))).1)) (by rw [zCk (by omega)]; simp only [List.length_append]; omega) (by rw [zCk (by omega)]; simp [zC])
  replace hs := hs.reslot (d := 6) (v := zI ((l.getD j default).id)) (v' := zI ((zCW (l.take (j + 1))).2)) rfl (Option.some.inj (by rw [zCk (by omega)]))
  replace hs := hs.drop (.c (.s (.s .z)) (.c (.s .z) .n))
  refine ⟨_, ?_, j + 1, v12, rfl, hs.sub (.c rfl (.c rfl (.c rfl (.c rfl (.c rfl .n))))), by omega, zQc hI1_1 he0⟩
  omega
 refine go 3 [] [3, 2] .n ?_
 have hbe : zAQ t tm b l = 0 := by first | exact zB3 (by omega) | exact (zB3 (by rw [(show zE5 t tm b l.length = _ by first | exact zDR (by omega) | exact zCC (by omega) (by omega) | exact zDU (by omega) (by omega) (by omega))]; decide)).trans (show zE5 t tm b l.length = _ by first | exact zDR (by omega) | exact zCC (by omega) (by omega) | exact zDU (by omega) (by omega) (by omega)) | (rw [zBz (by omega)]; exact zGQ (by omega) hI1_1 (by unfold zE7; omega)) | (rw [zBz (by omega)]; unfold zCR; rw [← show j = l.length by omega]; exact hI1_1)
 have hta : l.take j = l := List.take_of_length_le (by omega)
 intro a w hs; replace hs := hs.rerow .z (m' := (zDL t tm b l).length) (xs' := zC (zDL t tm b l)) (by rw [zJs hbe, hta]; simp only [List.length_append]) (by rw [zJs hbe, hta])
 exact zBH hs rfl rfl rfl ⟨_, congrArg (fun z : Nat => Value.tuple #[p, zI (z : Int)]) hbe.symm, rfl⟩
theorem zPV (t tm b : Int) (u : Value) (l : List zAA) (w0 : World) (ht_ : -9223372036854775808 ≤ t ∧ t ≤ 9223372036854775807) (htm_ : -9223372036854775808 ≤ tm ∧ tm ≤ 9223372036854775807) (hb_ : -9223372036854775808 ≤ b ∧ b ≤ 9223372036854775807) (hc : Rd w0 [] u 9 l.length (l.flatMap zJA)) (hl : ∀ x ∈ l, x.wf) : Calls Tryz.prog 60 #[.agg #[.int .i64 t, .int .i64 tm, .int .i64 b, u]] w0 (Ret w0 [] fun x N => ∃ v, x = .tuple #[v, nI (zFK t tm b l)] ∧ N = [row v 5 1 (gwB t tm b l).length (zC (gwB t tm b l))]) := by
 have hce := hc.le
 simp only [maxLen] at hce
 refine zF (F0 := [(0, .agg #[zI t, zI tm, zI b, u])]) func60 rfl rfl rfl (.c .n) (Mem.nil _) ?_
 refine go 4 [0, 0] [7] .n (fun g1 => ⟨rfl, ?_⟩)
 intro a w hs; refine zK hs (.c rfl .n) call99 .n (zMs t tm b _ l _ (by omega) (by omega) (by omega) (hs.rd0 hc) hl) rfl ?_; clear hs w a; rintro _ _ a w ⟨v2, rfl, rfl⟩ hs
 have hk3 := zGd t tm b l
 revert a w hs
 refine goL 8 [] [11, 5, 4] .n ?_
 refine ifG rfl (fun c_4 => ?_) (fun c_4 => ?_)
 ·
  refine go 3 [] [3, 2] .n ?_
  have hwe : zFK t tm b l = zAQ t tm b l := by unfold zFK; (repeat' split) <;> omega
  refine cl (·.drop (.c (.s .z) (.c .z .n))) ?_
  refine cl (·.addNil 5 1) ?_
  intro a w hs; replace hs := hs.rerow .z (m' := (gwB t tm b l).length) (xs' := zC (gwB t tm b l)) (by rw [gwB, if_pos (by omega)]; rfl) (by rw [gwB, if_pos (by omega)]; rfl)
  exact zBH hs rfl rfl rfl ⟨_, congrArg (fun z : Nat => Value.tuple #[.slice none 0 0, zI (z : Int)]) hwe.symm, rfl⟩
 refine go 1 [] [16, 4] .n ?_
 intro a w hs; refine zAK hs rfl (zQ (hs.mem.del .z)).isSl underlying31 rfl ?_
 refine goL 2 [] [15, 4] .n ?_
 refine ifG rfl (fun c_5 => ?_) (fun c_5 => ?_)
 ·
  refine go 2 [] [3, 2] .n ?_
  have hwe : zFK t tm b l = 8 := by unfold zFK; (repeat' split) <;> omega
  refine cl (·.drop (.c (.s .z) (.c .z .n))) ?_
  refine cl (·.addNil 5 1) ?_
  intro a w hs; replace hs := hs.rerow .z (m' := (gwB t tm b l).length) (xs' := zC (gwB t tm b l)) (by rw [gwB, if_pos (by omega)]; rfl) (by rw [gwB, if_pos (by omega)]; rfl)
  exact zBH hs rfl rfl rfl ⟨_, congrArg (fun z : Nat => Value.tuple #[.slice none 0 0, zI (z : Int)]) hwe.symm, rfl⟩
 refine go 1 [] [19] .n ?_
 intro a w hs; refine zK hs (.c rfl .n) call100 .n (zVg _ _ (zDL t tm b l) _ (zQ (hs.mem.del .z)) (by omega)) rfl ?_; clear hs w a; rintro v6 _ a w rfl hs
 revert a w hs
 refine goL 2 [] [3, 2] .n ?_
 have hwe : zFK t tm b l = 0 := by unfold zFK; (repeat' split) <;> omega
 refine cl (·.drop (.c (.s (.s .z)) (.c (.s .z) .n))) ?_
 refine cl (·.rerow .z (m' := (gwB t tm b l).length) (xs' := zC (gwB t tm b l)) (by rw [gwB, if_neg (by omega), zD2]) (by rw [gwB, if_neg (by omega)])) ?_
 intro a w hs; exact zBH hs rfl rfl rfl ⟨_, congrArg (fun z : Nat => Value.tuple #[v6, zI (z : Int)]) hwe.symm, rfl⟩
theorem zRL (t tm b : Int) (u : Value) (l : List zAA) (w0 : World) (ht_ : -9223372036854775808 ≤ t ∧ t ≤ 9223372036854775807) (htm_ : -9223372036854775808 ≤ tm ∧ tm ≤ 9223372036854775807) (hb_ : -9223372036854775808 ≤ b ∧ b ≤ 9223372036854775807) (hc : Rd w0 [] u 9 l.length (l.flatMap zJA)) (hl : ∀ x ∈ l, x.wf) : Calls Tryz.prog 150 #[.agg #[.int .i64 t, .int .i64 tm, .int .i64 b, u]] w0 (zAZ w0 (nI (zAQ t tm b l))) := by
 have hce := hc.le
 simp only [maxLen] at hce
 refine zF (F0 := [(0, .agg #[zI t, zI tm, zI b, u])]) func150 rfl rfl rfl (.c .n) (Mem.nil _) ?_
 refine go 3 [0, 0] [6] .n (fun g1 => ⟨rfl, ?_⟩)
 intro a w hs; refine zK hs (.c rfl .n) call99 .n (zMs t tm b _ l _ (by omega) (by omega) (by omega) (hs.rd0 hc) hl) rfl ?_; clear hs w a; rintro _ _ a w ⟨v2, rfl, rfl⟩ hs
 have hk3 := zGd t tm b l
 revert a w hs
 refine goL 7 [] [2] .n ?_
 refine cl (·.drop (.c (.s .z) (.c .z .n))) ?_
 intro a w hs; exact fin hs rfl rfl ⟨rfl, rfl⟩
end Go.Proofs.YtemnjodhidlfpaaGreat
/- Walks of what is others with an entity: what each function does, over the program of this seat. Printed by a program of this session. -/
namespace Go.Proofs.YtemnjodhidlfpaaGreat
open Tryz
open Go Go.Sx Go.RowKit
set_option linter.unusedVariables false
set_option linter.unusedSimpArgs false
set_option maxRecDepth 4000
set_option maxHeartbeats 1000000

theorem zTL (ea : zX) (r : zAA) (w0 : World) : Calls Tryz.prog 152 #[.agg #[zI ea.id, zI ea.p0, zI ea.p1, zI ea.p2, zI ea.v0, zI ea.v1, zI ea.v2, .int .u16 (((ea.a).toNat : Nat) : Int), bI ea.g], .agg #[zI r.k, zI r.id, zI r.p0, zI r.p1, zI r.p2, zI r.v0, zI r.v1, zI r.v2, .int .u16 (((r.a).toNat : Nat) : Int)]] w0 (zAZ w0 (.tuple #[.agg #[zI (((zR ea r).1).id), zI (((zR ea r).1).p0), zI (((zR ea r).1).p1), zI (((zR ea r).1).p2), zI (((zR ea r).1).v0), zI (((zR ea r).1).v1), zI (((zR ea r).1).v2), .int .u16 (((((zR ea r).1).a).toNat : Nat) : Int), bI (((zR ea r).1).g)], nI ((zR ea r).2)])) := by
 refine zF (F0 := [(0, .agg #[zI ea.id, zI ea.p0, zI ea.p1, zI ea.p2, zI ea.v0, zI ea.v1, zI ea.v2, .int .u16 (((ea.a).toNat : Nat) : Int), bI ea.g]), (1, .agg #[zI r.k, zI r.id, zI r.p0, zI r.p1, zI r.p2, zI r.v0, zI r.v1, zI r.v2, .int .u16 (((r.a).toNat : Nat) : Int)])]) func152 rfl rfl rfl (.c (.c .n)) (Mem.nil _) ?_
 refine go 5 [0, 0, 1] [8, 4, 3, 2] .n (fun g1 => fun g2 => fun g3 => ⟨rfl, ?_⟩)
 intro a w hs; refine zB (v := nI (zAb r)) hs (.c rfl .n) call175 (zUg r _) rfl ?_
 refine goL 3 [] [11, 6, 4, 3, 2] .n ?_
 refine ifG rfl (fun c_4 => ?_) (fun c_4 => ?_)
 ·
  refine go 4 [0] [5, 4] (.c .z .n) ⟨rfl, ?_⟩
  intro a w hs; exact zBo hs rfl rfl rfl .z (.z (.c (.c (.c (.c (.c (.c (.c (.c (.c .n)))))))))) isAgg142 sizeOf142 (.c .z (.c .z (.c .z .n))) (by first | (rw [zB2 (by omega)]; exact ⟨rfl, rfl⟩) | (rw [zCO (by omega) (by omega)]; exact ⟨rfl, rfl⟩) | (rw [zBd (by omega) (by omega) (by omega)]; exact ⟨rfl, rfl⟩) | (rw [zBf (by omega) (by omega) (by omega)]; exact ⟨rfl, rfl⟩))
 refine go 6 [0, 1] [20, 4, 3, 2] (.c (.s .z) (.c (.s .z) .n)) ⟨rfl, rfl, ?_⟩
 intro a w hs; refine zT (b := !((r.id : Int) == ea.id)) (fun c_5 => ?_) (fun c_5 => ?_)
 ·
  rw [c_5] at hs
  replace c_5 := zEA c_5
  replace c_5 := zAO c_5
  revert a w hs
  refine go 14 [0] [5, 4] (.c (.s (.s .z)) .n) ⟨rfl, ?_⟩
  intro a w hs; exact zBo hs rfl rfl rfl .z (.z (.c (.c (.c (.c (.c (.c (.c (.c (.c .n)))))))))) isAgg142 sizeOf142 (.c .z (.c .z (.c .z .n))) (by first | (rw [zB2 (by omega)]; exact ⟨rfl, rfl⟩) | (rw [zCO (by omega) (by omega)]; exact ⟨rfl, rfl⟩) | (rw [zBd (by omega) (by omega) (by omega)]; exact ⟨rfl, rfl⟩) | (rw [zBf (by omega) (by omega) (by omega)]; exact ⟨rfl, rfl⟩))
 rw [c_5] at hs
 replace c_5 := zD5 c_5
 replace c_5 := eq_of_beq c_5
 revert a w hs
 refine go 5 [0] [25, 4, 3, 2] (.c .z .n) ⟨rfl, ?_⟩
 intro a w hs; refine zT (b := (r.k : Int) == 0) (fun c_6 => ?_) (fun c_6 => ?_)
 ·
  rw [c_6] at hs
  replace c_6 := eq_of_beq c_6
  revert a w hs
  refine go 9 [0] [5, 4] (.c (.s (.s .z)) .n) ⟨rfl, ?_⟩
  intro a w hs; exact zBo hs rfl rfl rfl .z (.z (.c (.c (.c (.c (.c (.c (.c (.c (.c .n)))))))))) isAgg142 sizeOf142 (.c .z (.c .z (.c .z .n))) (by first | (rw [zB2 (by omega)]; exact ⟨rfl, rfl⟩) | (rw [zCO (by omega) (by omega)]; exact ⟨rfl, rfl⟩) | (rw [zBd (by omega) (by omega) (by omega)]; exact ⟨rfl, rfl⟩) | (rw [zBf (by omega) (by omega) (by omega)]; exact ⟨rfl, rfl⟩))
 rw [c_6] at hs
 replace c_6 := zAO c_6
 revert a w hs
 refine go 5 [0] [14, 4, 3, 2] (.c .z .n) ⟨rfl, ?_⟩
 refine ifG rfl (fun c_7 => ?_) (fun c_7 => ?_)
 ·
  refine go 3 [0] [5, 4] (.c (.s (.s .z)) .n) ⟨rfl, ?_⟩
  intro a w hs; exact zBo hs rfl rfl rfl .z (.z (.c (.c (.c (.c (.c (.c (.c (.c (.c .n)))))))))) isAgg142 sizeOf142 (.c .z (.c .z (.c .z .n))) (by first | (rw [zB2 (by omega)]; exact ⟨rfl, rfl⟩) | (rw [zCO (by omega) (by omega)]; exact ⟨rfl, rfl⟩) | (rw [zBd (by omega) (by omega) (by omega)]; exact ⟨rfl, rfl⟩) | (rw [zBf (by omega) (by omega) (by omega)]; exact ⟨rfl, rfl⟩))
 refine go 4 [0] [31, 4, 3, 2] (.c .z .n) ⟨rfl, ?_⟩
 refine ifG rfl (fun c_8 => ?_) (fun c_8 => ?_)
 ·
  refine go 10 [0, 1, 1, 1, 0] [44, 42, 40, 38, 36, 4] (.c (.s .z) (.c .z .n)) ⟨rfl, rfl, rfl, rfl, rfl, ?_⟩
  intro a w hs; refine zQB (X := ea.g) (Y := 1#8) hs rfl rfl rfl (by decide) rfl ?_
  refine goL 3 [0] [5, 4] (.c (.s (.s .z)) .n) ⟨rfl, ?_⟩
  intro a w hs; exact zBo hs rfl rfl rfl .z (.z (.c (.c (.c (.c (.c (.c (.c (.c (.c .n)))))))))) isAgg142 sizeOf142 (.c .z (.c .z (.c .z .n))) (by first | (rw [zB2 (by omega)]; exact ⟨rfl, rfl⟩) | (rw [zCO (by omega) (by omega)]; exact ⟨rfl, rfl⟩) | (rw [zBd (by omega) (by omega) (by omega)]; exact ⟨rfl, rfl⟩) | (rw [zBf (by omega) (by omega) (by omega)]; exact ⟨rfl, rfl⟩))
 refine go 1 [] [47, 4, 3, 2] .n ?_
 intro a w hs; refine zCn 3 ?_
 revert a w hs
 refine go 4 [] [7, 47, 4, 3, 2] .n ?_
 intro a w hs
 refine zS [.p [] [], .p [] [], .p [1, 0] [], .l [2] [0] [11] [], .p [] [], .p [] [], .p [5, 4] [], .p [6] [0], .v [7, 3] (zI (IntKind.i64.wrap (ea.p0 + r.p0))), .p [] [], .p [9, 0] [], .s [10, 8] [0] [0] []] [] hs (.c (.s .z) .n) (.c .z .n) (by kernel_rfl) ⟨rfl, rfl, fun _ _ _ _ hm hs K => zFE hs rfl rfl rfl (vk K), rfl, ⟨rfl, by kernel_rfl, fun _ => rfl, rfl, rfl, trivial⟩, fun _ => rfl, ?_⟩
 refine goE 0 [] [7, 47, 4, 3, 2] .n ?_
 intro a w hs
 refine zS [.p [] [], .p [] [], .p [1, 0] [], .l [2] [0] [11] [], .p [] [], .p [] [], .p [5, 4] [], .p [6] [0], .v [7, 3] (zI (IntKind.i64.wrap (ea.v0 + r.v0))), .p [] [], .p [9, 0] [], .s [10, 8] [0] [0] []] [] hs (.c (.s (.s .z)) .n) (.c .z .n) (by kernel_rfl) ⟨rfl, rfl, fun _ _ _ _ hm hs K => zFE hs rfl rfl rfl (vk K), rfl, ⟨rfl, by kernel_rfl, fun _ => rfl, rfl, rfl, trivial⟩, fun _ => rfl, ?_⟩
 refine goE 2 [] [47, 4, 3, 2] .n ⟨by decide, ?_⟩
 intro a w hs; refine zAX ?_
 revert a w hs
 refine go 4 [] [7, 47, 4, 3, 2] .n ?_
 intro a w hs
 refine zS [.p [] [], .p [] [], .p [1, 0] [], .l [2] [0] [11] [], .p [] [], .p [] [], .p [5, 4] [], .p [6] [0], .v [7, 3] (zI (IntKind.i64.wrap (ea.p1 + r.p1))), .p [] [], .p [9, 0] [], .s [10, 8] [0] [0] []] [] hs (.c (.s (.s .z)) .n) (.c .z .n) (by kernel_rfl) ⟨rfl, rfl, fun _ _ _ _ hm hs K => zFE hs rfl rfl rfl (vk K), rfl, ⟨rfl, by kernel_rfl, fun _ => rfl, rfl, rfl, trivial⟩, fun _ => rfl, ?_⟩
 refine goE 0 [] [7, 47, 4, 3, 2] .n ?_
 intro a w hs
 refine zS [.p [] [], .p [] [], .p [1, 0] [], .l [2] [0] [11] [], .p [] [], .p [] [], .p [5, 4] [], .p [6] [0], .v [7, 3] (zI (IntKind.i64.wrap (ea.v1 + r.v1))), .p [] [], .p [9, 0] [], .s [10, 8] [0] [0] []] [] hs (.c (.s (.s .z)) .n) (.c .z .n) (by kernel_rfl) ⟨rfl, rfl, fun _ _ _ _ hm hs K => zFE hs rfl rfl rfl (vk K), rfl, ⟨rfl, by kernel_rfl, fun _ => rfl, rfl, rfl, trivial⟩, fun _ => rfl, ?_⟩
 refine goE 2 [] [47, 4, 3, 2] .n ⟨by decide, ?_⟩
 intro a w hs; refine zAX ?_
 revert a w hs
 refine go 4 [] [7, 47, 4, 3, 2] .n ?_
 intro a w hs
 refine zS [.p [] [], .p [] [], .p [1, 0] [], .l [2] [0] [11] [], .p [] [], .p [] [], .p [5, 4] [], .p [6] [0], .v [7, 3] (zI (IntKind.i64.wrap (ea.p2 + r.p2))), .p [] [], .p [9, 0] [], .s [10, 8] [0] [0] []] [] hs (.c (.s (.s .z)) .n) (.c .z .n) (by kernel_rfl) ⟨rfl, rfl, fun _ _ _ _ hm hs K => zFE hs rfl rfl rfl (vk K), rfl, ⟨rfl, by kernel_rfl, fun _ => rfl, rfl, rfl, trivial⟩, fun _ => rfl, ?_⟩
 refine goE 0 [] [7, 47, 4, 3, 2] .n ?_
 intro a w hs
 refine zS [.p [] [], .p [] [], .p [1, 0] [], .l [2] [0] [11] [], .p [] [], .p [] [], .p [5, 4] [], .p [6] [0], .v [7, 3] (zI (IntKind.i64.wrap (ea.v2 + r.v2))), .p [] [], .p [9, 0] [], .s [10, 8] [0] [0] []] [] hs (.c (.s (.s .z)) .n) (.c .z .n) (by kernel_rfl) ⟨rfl, rfl, fun _ _ _ _ hm hs K => zFE hs rfl rfl rfl (vk K), rfl, ⟨rfl, by kernel_rfl, fun _ => rfl, rfl, rfl, trivial⟩, fun _ => rfl, ?_⟩
 refine goE 2 [] [47, 4, 3, 2] .n ⟨by decide, ?_⟩
 intro a w hs; refine zAX ?_
 revert a w hs
 refine go 6 [0, 1] [76, 74, 4, 2] (.c (.s (.s .z)) (.c .z .n)) ⟨rfl, rfl, ?_⟩
 intro a w hs; refine zIV (X := ea.a) (Y := r.a) hs rfl rfl rfl rfl rfl ?_
 refine goL 5 [0, 0, 1] [5, 4] (.c .z (.c (.s .z) .n)) ⟨rfl, rfl, rfl, ?_⟩
 intro a w hs; exact zBo hs rfl rfl rfl (.s .z) (.z (.c (.c (.c (.c (.c (.c (.c (.c (.c .n)))))))))) isAgg142 sizeOf142 (.c .z (.c .z (.c .z .n))) (by first | (rw [zB2 (by omega)]; exact ⟨rfl, rfl⟩) | (rw [zCO (by omega) (by omega)]; exact ⟨rfl, rfl⟩) | (rw [zBd (by omega) (by omega) (by omega)]; exact ⟨rfl, rfl⟩) | (rw [zBf (by omega) (by omega) (by omega)]; exact ⟨rfl, rfl⟩))
end Go.Proofs.YtemnjodhidlfpaaGreat
