/- Walks of what a store tells: what each function does, over the program of this seat. Printed by a program of this session. -/
import Derived.Test.YtbioemaipghagaaGreatQWsto
import Derived.Test.YtbioemaipghagaaGreatQSxBasB
namespace Go.Proofs.YtbioemaipghagaaGreat
open Go Go.Sx Go.RowKit
set_option linter.unusedVariables false
set_option linter.unusedSimpArgs false
set_option maxRecDepth 4000
set_option maxHeartbeats 1000000

def stoM (p g : Nat) (u : Value) (l : List RI) (most : Nat) (fl : Int) (gone : Bool) (N : Nat → Nat) : List HA := [blk p [.pointer (some ⟨g, 0, none⟩), .int .i64 (((most : Nat) : Int)), .int .i64 (((N 0 : Nat) : Int)), .int .i64 (((N 1 : Nat) : Int)), .int .i64 (((N 2 : Nat) : Int)), .int .i64 (((N 3 : Nat) : Int)), .int .i64 (((N 4 : Nat) : Int)), .int .i64 (((N 5 : Nat) : Int)), .int .i64 (((N 6 : Nat) : Int)), .int .i64 (((N 7 : Nat) : Int)), .int .i64 (((N 8 : Nat) : Int)), .int .i64 (((N 9 : Nat) : Int)), .int .i64 (((N 10 : Nat) : Int)), .int .i64 (((N 11 : Nat) : Int)), .int .i64 (((N 12 : Nat) : Int)), .int .i64 (((N 13 : Nat) : Int)), .int .i64 (((N 14 : Nat) : Int)), .int .i64 (((N 15 : Nat) : Int)), .int .i64 (((N 16 : Nat) : Int)), .int .i64 (((N 17 : Nat) : Int))] 105, blk g [u, .int .i64 (((most : Nat) : Int)), .int .i64 (fl), .bool (gone)] 138, row u 140 4 l.length (l.flatMap riV), rws 73 l]
def Sto (p most : Nat) (σ : Stt) (X : HA) : Prop := ∃ (g : Nat) (u : Value) (l : List RI), σ.l = sns l ∧ Oks σ.l most ∧ X = sepL (stoM p g u l most σ.floor σ.gone σ.n)
theorem slen_in (p g : Nat) (u : Value) (l : List RI) (most : Nat) (fl : Int) (gone : Bool) (N : Nat → Nat) (w0 : World) (hp : (blk p [.pointer (some ⟨g, 0, none⟩), .int .i64 (((most : Nat) : Int)), .int .i64 (((N 0 : Nat) : Int)), .int .i64 (((N 1 : Nat) : Int)), .int .i64 (((N 2 : Nat) : Int)), .int .i64 (((N 3 : Nat) : Int)), .int .i64 (((N 4 : Nat) : Int)), .int .i64 (((N 5 : Nat) : Int)), .int .i64 (((N 6 : Nat) : Int)), .int .i64 (((N 7 : Nat) : Int)), .int .i64 (((N 8 : Nat) : Int)), .int .i64 (((N 9 : Nat) : Int)), .int .i64 (((N 10 : Nat) : Int)), .int .i64 (((N 11 : Nat) : Int)), .int .i64 (((N 12 : Nat) : Int)), .int .i64 (((N 13 : Nat) : Int)), .int .i64 (((N 14 : Nat) : Int)), .int .i64 (((N 15 : Nat) : Int)), .int .i64 (((N 16 : Nat) : Int)), .int .i64 (((N 17 : Nat) : Int))] 105).p w0) (hg : (blk g [u, .int .i64 (((most : Nat) : Int)), .int .i64 (fl), .bool (gone)] 138).p w0) (hu : Rd w0 [] u 4 l.length (l.flatMap riV)) (hrw : (rws 73 l).p w0) (ho : Oks (sns l) most) : Calls Tryz.prog 25 #[.pointer (some ⟨p, 0, none⟩)] w0 (RetV w0 (.int .i64 ((l.length : Nat) : Int))) := by
 have hiv := rws_isl hrw
 have hsr := ho.srt
 have hll : l.length ≤ 100000 := by have := ho.le; have := ho.m64; rw [sns_len] at *; omega
 have hm64 := ho.m64
 refine enterG (F0 := [(0, .pointer (some ⟨p, 0, none⟩))]) Tryz.func25 rfl rfl rfl (.c .n) (Mem.nil _) fun a w hs => ?_
 refine go 7 [] [7] hs .n ?_; clear hs w a; intro a w hs
 refine st_ldE hs rfl (hs.mem.keep hp (by simp [feet, blk])) .z Tryz.isAgg101 rfl ?_; clear hs w a; intro a w hs
 refine st_callP (v := .int .i64 (((l.length : Nat) : Int))) hs (.c rfl .n) Tryz.call52 (ringlen_ok g _ l most fl gone _ (hs.rd0 hu) (hs.mem.keep hg (by simp [feet, blk])) hsr (by omega) hiv) rfl ?_; clear hs w a; intro a w hs
 refine goL 1 [] [2] hs .n ?_; clear hs w a; intro a w hs
 exact fin hs rfl rfl ⟨rfl, rfl⟩
theorem staken_in (p g : Nat) (u : Value) (l : List RI) (most : Nat) (fl : Int) (gone : Bool) (N : Nat → Nat) (w0 : World) (hp : (blk p [.pointer (some ⟨g, 0, none⟩), .int .i64 (((most : Nat) : Int)), .int .i64 (((N 0 : Nat) : Int)), .int .i64 (((N 1 : Nat) : Int)), .int .i64 (((N 2 : Nat) : Int)), .int .i64 (((N 3 : Nat) : Int)), .int .i64 (((N 4 : Nat) : Int)), .int .i64 (((N 5 : Nat) : Int)), .int .i64 (((N 6 : Nat) : Int)), .int .i64 (((N 7 : Nat) : Int)), .int .i64 (((N 8 : Nat) : Int)), .int .i64 (((N 9 : Nat) : Int)), .int .i64 (((N 10 : Nat) : Int)), .int .i64 (((N 11 : Nat) : Int)), .int .i64 (((N 12 : Nat) : Int)), .int .i64 (((N 13 : Nat) : Int)), .int .i64 (((N 14 : Nat) : Int)), .int .i64 (((N 15 : Nat) : Int)), .int .i64 (((N 16 : Nat) : Int)), .int .i64 (((N 17 : Nat) : Int))] 105).p w0) (hg : (blk g [u, .int .i64 (((most : Nat) : Int)), .int .i64 (fl), .bool (gone)] 138).p w0) (hu : Rd w0 [] u 4 l.length (l.flatMap riV)) (hrw : (rws 73 l).p w0) (ho : Oks (sns l) most) : Calls Tryz.prog 30 #[.pointer (some ⟨p, 0, none⟩)] w0 (RetV w0 (.int .i64 ((N 0 : Nat) : Int))) := by
 have hiv := rws_isl hrw
 have hsr := ho.srt
 have hll : l.length ≤ 100000 := by have := ho.le; have := ho.m64; rw [sns_len] at *; omega
 have hm64 := ho.m64
 refine enterG (F0 := [(0, .pointer (some ⟨p, 0, none⟩))]) Tryz.func30 rfl rfl rfl (.c .n) (Mem.nil _) fun a w hs => ?_
 refine go 8 [] [8] hs .n ?_; clear hs w a; intro a w hs
 refine st_ldE hs rfl (hs.mem.keep hp (by simp [feet, blk])) (.s (.s .z)) Tryz.isAgg3 rfl ?_; clear hs w a; intro a w hs
 refine goL 1 [] [2] hs .n ?_; clear hs w a; intro a w hs
 exact fin hs rfl rfl ⟨rfl, rfl⟩
theorem srefused_in (p g : Nat) (u : Value) (l : List RI) (most : Nat) (fl : Int) (gone : Bool) (N : Nat → Nat) (e : Int) (w0 : World) (hp : (blk p [.pointer (some ⟨g, 0, none⟩), .int .i64 (((most : Nat) : Int)), .int .i64 (((N 0 : Nat) : Int)), .int .i64 (((N 1 : Nat) : Int)), .int .i64 (((N 2 : Nat) : Int)), .int .i64 (((N 3 : Nat) : Int)), .int .i64 (((N 4 : Nat) : Int)), .int .i64 (((N 5 : Nat) : Int)), .int .i64 (((N 6 : Nat) : Int)), .int .i64 (((N 7 : Nat) : Int)), .int .i64 (((N 8 : Nat) : Int)), .int .i64 (((N 9 : Nat) : Int)), .int .i64 (((N 10 : Nat) : Int)), .int .i64 (((N 11 : Nat) : Int)), .int .i64 (((N 12 : Nat) : Int)), .int .i64 (((N 13 : Nat) : Int)), .int .i64 (((N 14 : Nat) : Int)), .int .i64 (((N 15 : Nat) : Int)), .int .i64 (((N 16 : Nat) : Int)), .int .i64 (((N 17 : Nat) : Int))] 105).p w0) (hg : (blk g [u, .int .i64 (((most : Nat) : Int)), .int .i64 (fl), .bool (gone)] 138).p w0) (hu : Rd w0 [] u 4 l.length (l.flatMap riV)) (hrw : (rws 73 l).p w0) (ho : Oks (sns l) most) (he : -9223372036854775808 ≤ e ∧ e ≤ 9223372036854775807) : Calls Tryz.prog 29 #[.pointer (some ⟨p, 0, none⟩), .int .i64 e] w0 (RetV w0 (.int .i64 ((nref N e : Nat) : Int))) := by
 refine enterG (F0 := [(0, .pointer (some ⟨p, 0, none⟩)), (1, .int .i64 (e))]) Tryz.func29 rfl rfl rfl (.c (.c .n)) (Mem.nil _) fun a w hs => ?_
 refine go 8 [] [11, 0, 1] hs .n ?_; clear hs w a; intro a w hs
 refine st_part (b := decide (e ≤ 0)) (fun c_1 => ?_) (fun c_1 => ?_)
 ·
  rw [c_1] at hs
  replace c_1 := of_decide_eq_true c_1
  refine go 5 [] [4] hs .n ?_; clear hs w a; intro a w hs
  exact fin hs rfl rfl ⟨by rw [show nref N e = 0 from if_neg (by omega)]; rfl, rfl⟩
 rw [c_1] at hs
 replace c_1 := of_decide_eq_false c_1
 refine go 3 [] [14, 0, 1] hs .n ?_; clear hs w a; intro a w hs
 refine ifG hs rfl (fun c_2 => ?_) (fun c_2 => ?_)
 ·
  replace c_2 := of_decide_eq_true c_2
  refine go 1 [] [4] hs .n ?_; clear hs w a; intro a w hs
  exact fin hs rfl rfl ⟨by rw [show nref N e = 0 from if_neg (by omega)]; rfl, rfl⟩
 replace c_2 := of_decide_eq_false c_2
 replace hs := hs.sub (F' := [(0, .pointer (some ⟨p, 0, none⟩)), (1, .int .i64 (e))]) (.c rfl (.c rfl .n))
 refine go 0 [] [0, 1] hs .n ?_; clear hs w a; intro a w hs
 rcases (show e = 1 ∨ e = 2 ∨ e = 3 ∨ e = 4 ∨ e = 5 ∨ e = 6 ∨ e = 7 ∨ e = 8 ∨ e = 9 ∨ e = 10 ∨ e = 11 ∨ e = 12 ∨ e = 13 ∨ e = 14 ∨ e = 15 ∨ e = 16 ∨ e = 17 from by omega) with hk3 | hk3 | hk3 | hk3 | hk3 | hk3 | hk3 | hk3 | hk3 | hk3 | hk3 | hk3 | hk3 | hk3 | hk3 | hk3 | hk3
 ·
  rw [hk3] at hs
  refine go 5 [] [19] hs .n ?_; clear hs w a; intro a w hs
  refine st_ldE hs rfl (hs.mem.keep hp (by simp [feet, blk])) (.s (.s (.s .z))) Tryz.isAgg3 rfl ?_; clear hs w a; intro a w hs
  refine goL 1 [] [4] hs .n ?_; clear hs w a; intro a w hs
  exact fin hs rfl rfl ⟨by rw [show nref N e = N 1 from by rw [hk3]; rfl], rfl⟩
 ·
  rw [hk3] at hs
  refine go 5 [] [19] hs .n ?_; clear hs w a; intro a w hs
  refine st_ldE hs rfl (hs.mem.keep hp (by simp [feet, blk])) (.s (.s (.s (.s .z)))) Tryz.isAgg3 rfl ?_; clear hs w a; intro a w hs
  refine goL 1 [] [4] hs .n ?_; clear hs w a; intro a w hs
  exact fin hs rfl rfl ⟨by rw [show nref N e = N 2 from by rw [hk3]; rfl], rfl⟩
 ·
  rw [hk3] at hs
  refine go 5 [] [19] hs .n ?_; clear hs w a; intro a w hs
  refine st_ldE hs rfl (hs.mem.keep hp (by simp [feet, blk])) (.s (.s (.s (.s (.s .z))))) Tryz.isAgg3 rfl ?_; clear hs w a; intro a w hs
  refine goL 1 [] [4] hs .n ?_; clear hs w a; intro a w hs
  exact fin hs rfl rfl ⟨by rw [show nref N e = N 3 from by rw [hk3]; rfl], rfl⟩
 ·
  rw [hk3] at hs
  refine go 5 [] [19] hs .n ?_; clear hs w a; intro a w hs
  refine st_ldE hs rfl (hs.mem.keep hp (by simp [feet, blk])) (.s (.s (.s (.s (.s (.s .z)))))) Tryz.isAgg3 rfl ?_; clear hs w a; intro a w hs
  refine goL 1 [] [4] hs .n ?_; clear hs w a; intro a w hs
  exact fin hs rfl rfl ⟨by rw [show nref N e = N 4 from by rw [hk3]; rfl], rfl⟩
 ·
  rw [hk3] at hs
  refine go 5 [] [19] hs .n ?_; clear hs w a; intro a w hs
  refine st_ldE hs rfl (hs.mem.keep hp (by simp [feet, blk])) (.s (.s (.s (.s (.s (.s (.s .z))))))) Tryz.isAgg3 rfl ?_; clear hs w a; intro a w hs
  refine goL 1 [] [4] hs .n ?_; clear hs w a; intro a w hs
  exact fin hs rfl rfl ⟨by rw [show nref N e = N 5 from by rw [hk3]; rfl], rfl⟩
 ·
  rw [hk3] at hs
  refine go 5 [] [19] hs .n ?_; clear hs w a; intro a w hs
  refine st_ldE hs rfl (hs.mem.keep hp (by simp [feet, blk])) (.s (.s (.s (.s (.s (.s (.s (.s .z)))))))) Tryz.isAgg3 rfl ?_; clear hs w a; intro a w hs
  refine goL 1 [] [4] hs .n ?_; clear hs w a; intro a w hs
  exact fin hs rfl rfl ⟨by rw [show nref N e = N 6 from by rw [hk3]; rfl], rfl⟩
 ·
  rw [hk3] at hs
  refine go 5 [] [19] hs .n ?_; clear hs w a; intro a w hs
  refine st_ldE hs rfl (hs.mem.keep hp (by simp [feet, blk])) (.s (.s (.s (.s (.s (.s (.s (.s (.s .z))))))))) Tryz.isAgg3 rfl ?_; clear hs w a; intro a w hs
  refine goL 1 [] [4] hs .n ?_; clear hs w a; intro a w hs
  exact fin hs rfl rfl ⟨by rw [show nref N e = N 7 from by rw [hk3]; rfl], rfl⟩
 ·
  rw [hk3] at hs
  refine go 5 [] [19] hs .n ?_; clear hs w a; intro a w hs
  refine st_ldE hs rfl (hs.mem.keep hp (by simp [feet, blk])) (.s (.s (.s (.s (.s (.s (.s (.s (.s (.s .z)))))))))) Tryz.isAgg3 rfl ?_; clear hs w a; intro a w hs
  refine goL 1 [] [4] hs .n ?_; clear hs w a; intro a w hs
  exact fin hs rfl rfl ⟨by rw [show nref N e = N 8 from by rw [hk3]; rfl], rfl⟩
 ·
  rw [hk3] at hs
  refine go 5 [] [19] hs .n ?_; clear hs w a; intro a w hs
  refine st_ldE hs rfl (hs.mem.keep hp (by simp [feet, blk])) (.s (.s (.s (.s (.s (.s (.s (.s (.s (.s (.s .z))))))))))) Tryz.isAgg3 rfl ?_; clear hs w a; intro a w hs
  refine goL 1 [] [4] hs .n ?_; clear hs w a; intro a w hs
  exact fin hs rfl rfl ⟨by rw [show nref N e = N 9 from by rw [hk3]; rfl], rfl⟩
 ·
  rw [hk3] at hs
  refine go 5 [] [19] hs .n ?_; clear hs w a; intro a w hs
  refine st_ldE hs rfl (hs.mem.keep hp (by simp [feet, blk])) (.s (.s (.s (.s (.s (.s (.s (.s (.s (.s (.s (.s .z)))))))))))) Tryz.isAgg3 rfl ?_; clear hs w a; intro a w hs
  refine goL 1 [] [4] hs .n ?_; clear hs w a; intro a w hs
  exact fin hs rfl rfl ⟨by rw [show nref N e = N 10 from by rw [hk3]; rfl], rfl⟩
 ·
  rw [hk3] at hs
  refine go 5 [] [19] hs .n ?_; clear hs w a; intro a w hs
  refine st_ldE hs rfl (hs.mem.keep hp (by simp [feet, blk])) (.s (.s (.s (.s (.s (.s (.s (.s (.s (.s (.s (.s (.s .z))))))))))))) Tryz.isAgg3 rfl ?_; clear hs w a; intro a w hs
  refine goL 1 [] [4] hs .n ?_; clear hs w a; intro a w hs
  exact fin hs rfl rfl ⟨by rw [show nref N e = N 11 from by rw [hk3]; rfl], rfl⟩
 ·
  rw [hk3] at hs
  refine go 5 [] [19] hs .n ?_; clear hs w a; intro a w hs
  refine st_ldE hs rfl (hs.mem.keep hp (by simp [feet, blk])) (.s (.s (.s (.s (.s (.s (.s (.s (.s (.s (.s (.s (.s (.s .z)))))))))))))) Tryz.isAgg3 rfl ?_; clear hs w a; intro a w hs
  refine goL 1 [] [4] hs .n ?_; clear hs w a; intro a w hs
  exact fin hs rfl rfl ⟨by rw [show nref N e = N 12 from by rw [hk3]; rfl], rfl⟩
 ·
  rw [hk3] at hs
  refine go 5 [] [19] hs .n ?_; clear hs w a; intro a w hs
  refine st_ldE hs rfl (hs.mem.keep hp (by simp [feet, blk])) (.s (.s (.s (.s (.s (.s (.s (.s (.s (.s (.s (.s (.s (.s (.s .z))))))))))))))) Tryz.isAgg3 rfl ?_; clear hs w a; intro a w hs
  refine goL 1 [] [4] hs .n ?_; clear hs w a; intro a w hs
  exact fin hs rfl rfl ⟨by rw [show nref N e = N 13 from by rw [hk3]; rfl], rfl⟩
 ·
  rw [hk3] at hs
  refine go 5 [] [19] hs .n ?_; clear hs w a; intro a w hs
  refine st_ldE hs rfl (hs.mem.keep hp (by simp [feet, blk])) (.s (.s (.s (.s (.s (.s (.s (.s (.s (.s (.s (.s (.s (.s (.s (.s .z)))))))))))))))) Tryz.isAgg3 rfl ?_; clear hs w a; intro a w hs
  refine goL 1 [] [4] hs .n ?_; clear hs w a; intro a w hs
  exact fin hs rfl rfl ⟨by rw [show nref N e = N 14 from by rw [hk3]; rfl], rfl⟩
 ·
  rw [hk3] at hs
  refine go 5 [] [19] hs .n ?_; clear hs w a; intro a w hs
  refine st_ldE hs rfl (hs.mem.keep hp (by simp [feet, blk])) (.s (.s (.s (.s (.s (.s (.s (.s (.s (.s (.s (.s (.s (.s (.s (.s (.s .z))))))))))))))))) Tryz.isAgg3 rfl ?_; clear hs w a; intro a w hs
  refine goL 1 [] [4] hs .n ?_; clear hs w a; intro a w hs
  exact fin hs rfl rfl ⟨by rw [show nref N e = N 15 from by rw [hk3]; rfl], rfl⟩
 ·
  rw [hk3] at hs
  refine go 5 [] [19] hs .n ?_; clear hs w a; intro a w hs
  refine st_ldE hs rfl (hs.mem.keep hp (by simp [feet, blk])) (.s (.s (.s (.s (.s (.s (.s (.s (.s (.s (.s (.s (.s (.s (.s (.s (.s (.s .z)))))))))))))))))) Tryz.isAgg3 rfl ?_; clear hs w a; intro a w hs
  refine goL 1 [] [4] hs .n ?_; clear hs w a; intro a w hs
  exact fin hs rfl rfl ⟨by rw [show nref N e = N 16 from by rw [hk3]; rfl], rfl⟩
 rw [hk3] at hs
 refine go 5 [] [19] hs .n ?_; clear hs w a; intro a w hs
 refine st_ldE hs rfl (hs.mem.keep hp (by simp [feet, blk])) (.s (.s (.s (.s (.s (.s (.s (.s (.s (.s (.s (.s (.s (.s (.s (.s (.s (.s (.s .z))))))))))))))))))) Tryz.isAgg3 rfl ?_; clear hs w a; intro a w hs
 refine goL 1 [] [4] hs .n ?_; clear hs w a; intro a w hs
 exact fin hs rfl rfl ⟨by rw [show nref N e = N 17 from by rw [hk3]; rfl], rfl⟩
theorem sat_in (p g : Nat) (u : Value) (l : List RI) (most : Nat) (fl : Int) (gone : Bool) (N : Nat → Nat) (i : Int) (w0 : World) (hp : (blk p [.pointer (some ⟨g, 0, none⟩), .int .i64 (((most : Nat) : Int)), .int .i64 (((N 0 : Nat) : Int)), .int .i64 (((N 1 : Nat) : Int)), .int .i64 (((N 2 : Nat) : Int)), .int .i64 (((N 3 : Nat) : Int)), .int .i64 (((N 4 : Nat) : Int)), .int .i64 (((N 5 : Nat) : Int)), .int .i64 (((N 6 : Nat) : Int)), .int .i64 (((N 7 : Nat) : Int)), .int .i64 (((N 8 : Nat) : Int)), .int .i64 (((N 9 : Nat) : Int)), .int .i64 (((N 10 : Nat) : Int)), .int .i64 (((N 11 : Nat) : Int)), .int .i64 (((N 12 : Nat) : Int)), .int .i64 (((N 13 : Nat) : Int)), .int .i64 (((N 14 : Nat) : Int)), .int .i64 (((N 15 : Nat) : Int)), .int .i64 (((N 16 : Nat) : Int)), .int .i64 (((N 17 : Nat) : Int))] 105).p w0) (hg : (blk g [u, .int .i64 (((most : Nat) : Int)), .int .i64 (fl), .bool (gone)] 138).p w0) (hu : Rd w0 [] u 4 l.length (l.flatMap riV)) (hrw : (rws 73 l).p w0) (ho : Oks (sns l) most) : Calls Tryz.prog 26 #[.pointer (some ⟨p, 0, none⟩), .int .i64 (i)] w0 (Ret w0 [] fun z Nn => ∃ v, z = .tuple #[.agg #[.int .i64 (rat l i).t, .int .i64 (rat l i).tm, v], .int .i64 ((ratE (sns l) i : Nat) : Int)] ∧ Nn = [row v 73 9 ((rat l i).l.length) ((rat l i).l.flatMap entV)]) := by
 have hiv := rws_isl hrw
 have hsr := ho.srt
 have hll : l.length ≤ 100000 := by have := ho.le; have := ho.m64; rw [sns_len] at *; omega
 have hm64 := ho.m64
 have hrl := rat_rng ho i
 refine enterG (F0 := [(0, .pointer (some ⟨p, 0, none⟩)), (1, .int .i64 (i))]) Tryz.func26 rfl rfl rfl (.c (.c .n)) (Mem.nil _) fun a w hs => ?_
 refine go 8 [] [15, 4, 1] hs .n (fun g1 => ?_); clear hs w a; intro a w hs
 refine st_ldE hs rfl (hs.mem.keep hp (by simp [feet, blk])) .z Tryz.isAgg101 rfl ?_; clear hs w a; intro a w hs
 refine goL 1 [] [17, 16, 4] hs .n ?_; clear hs w a; intro a w hs
 refine st_callP (v := .tuple #[.int .i64 ((rat l i).t), .agg #[.int .i64 ((rat l i).t), .int .i64 ((rat l i).tm), (rat l i).v], .int .i64 (((ratE (sns l) i : Nat) : Int))]) hs (.c rfl (.c rfl .n)) Tryz.call53 (ringat_ok g _ l most fl gone i _ (hs.rd0 hu) (hs.mem.keep hg (by simp [feet, blk])) hsr (by omega) hiv) rfl ?_; clear hs w a; intro a w hs
 refine goL 6 [] [7, 21, 20, 4] hs .n (fun g2 => ?_); clear hs w a; intro a w hs
 refine st_stBA hs rfl rfl .z (.z (.c (.c (.c .n)))) (ones_c rfl (ones_c rfl (ones_c (rws_rd (hs.mem.keepH hrw (by simp)) (rat_mem l i)).isSl.one ones_n))) Tryz.sizeOf24 rfl ?_; clear hs w a; intro a w hs
 refine goL 2 [0] [22, 8, 4] hs (.c .z .n) ⟨rfl, ?_⟩; clear hs w a; intro a w hs
 refine st_call hs (.c rfl .n) Tryz.call54 .n (own_ok ((rat l i).t) ((rat l i).tm) _ ((rat l i).l) _ (rws_rd (hs.mem.keepH hrw (by simp)) (rat_mem l i)) (by omega)) rfl ?_; clear hs w a; rintro _ _ a w ⟨v3, rfl, rfl⟩ hs; simp only [List.cons_append, List.nil_append] at hs
 refine goL 1 [] [24, 23, 4] hs .n ?_; clear hs w a; intro a w hs
 refine st_stBA hs rfl rfl (.s (.s .z)) (.z (.c (.c (.c .n)))) (ones_c rfl (ones_c rfl (ones_c (rd_row (hs.mem.del .z)).isSl.one ones_n))) Tryz.sizeOf24 rfl ?_; clear hs w a; intro a w hs
 refine goL 1 [] [5, 4] hs .n ?_; clear hs w a; intro a w hs
 exact finC2 hs rfl rfl rfl .z (.z (.c (.c (.c .n)))) Tryz.isAgg24 Tryz.sizeOf24 (.c (.s (.s .z)) (.c .z .n)) ⟨_, rfl, rfl⟩
theorem rnew_good (k : Nat) (w0 : World) (h : 1 ≤ k ∧ k ≤ 64) : Calls Tryz.prog 50 #[.int .i64 ((k : Nat) : Int)] w0 (Ret w0 [] fun z N => ∃ g, z = .tuple #[.pointer (some ⟨g, 0, none⟩), .int .i64 0] ∧ N = [blk g [.slice none 0 0, .int .i64 (((k : Nat) : Int)), .int .i64 (0), .bool (false)] 138]) := by
 refine enterG (F0 := [(0, .int .i64 (((k : Nat) : Int)))]) Tryz.func50 rfl rfl rfl (.c .n) (Mem.nil _) fun a w hs => ?_
 refine go 4 [] [5, 0] hs .n ?_; clear hs w a; intro a w hs
 have hb_ : (decide ((((k : Nat) : Int)) < 1)) = false := decide_eq_false (by omega)
 rw [hb_] at hs; clear hb_
 refine go 3 [] [8, 6, 0] hs .n ?_; clear hs w a; intro a w hs
 have hb_ : (decide (64 < (((k : Nat) : Int)))) = false := decide_eq_false (by omega)
 rw [hb_] at hs; clear hb_
 refine go 7 [0] [3, 2] hs .n (fun g1 => ?_); clear hs w a; intro a w hs
 exact fin2 hs rfl rfl rfl ⟨_, rfl, rfl⟩
theorem snew_in (k : Nat) (w0 : World) (hk : 1 ≤ k ∧ k ≤ 64) : Calls Tryz.prog 21 #[.int .i64 ((k : Nat) : Int)] w0 (Ret w0 [] fun z N => ∃ p g, z = .tuple #[.pointer (some ⟨p, 0, none⟩), .int .i64 0] ∧ N = stoM p g (.slice none 0 0) [] k 0 false (fun _ => 0)) := by
 refine enterG (F0 := [(0, .int .i64 (((k : Nat) : Int)))]) Tryz.func21 rfl rfl rfl (.c .n) (Mem.nil _) fun a w hs => ?_
 refine go 3 [] [7, 0] hs .n ?_; clear hs w a; intro a w hs
 refine st_call hs (.c rfl .n) Tryz.call50 .n (rnew_good k _ hk) rfl ?_; clear hs w a; rintro _ _ a w ⟨g1, rfl, rfl⟩ hs; simp only [List.cons_append, List.nil_append] at hs
 refine goL 14 [0] [3, 2] hs .n (fun g2 => ?_); clear hs w a; intro a w hs
 replace hs := hs.addNil 140 4
 replace hs := hs.addRws 73
 replace hs := hs.reorder (.c (.s (.s .z)) (.c (.s (.s .z)) (.c (.s .z) (.c .z .n))))
 exact fin2 hs rfl rfl rfl ⟨_, _, rfl, rfl⟩
end Go.Proofs.YtbioemaipghagaaGreat
