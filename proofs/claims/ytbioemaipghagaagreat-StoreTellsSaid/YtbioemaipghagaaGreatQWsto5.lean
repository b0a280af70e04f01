/- Walks of stores, seen from without: what each function does, over the program of this seat. Printed by a program of this session. -/
import Derived.Test.YtbioemaipghagaaGreatQWsto3
import Derived.Test.YtbioemaipghagaaGreatQWsto4
import Derived.Test.YtbioemaipghagaaGreatQSxBasB
namespace Go.Proofs.YtbioemaipghagaaGreat
open Go Go.Sx Go.RowKit
set_option linter.unusedVariables false
set_option linter.unusedSimpArgs false
set_option maxRecDepth 4000
set_option maxHeartbeats 1000000

theorem sto_open {p most : Nat} {σ : Stt} {X : HA} {w : World} (hX : Sto p most σ X) (hp : X.p w) : ∃ (g : Nat) (u : Value) (l : List RI), σ.l = sns l ∧ Oks (sns l) most ∧ (blk p [.pointer (some ⟨g, 0, none⟩), .int .i64 (((most : Nat) : Int)), .int .i64 (((σ.n 0 : Nat) : Int)), .int .i64 (((σ.n 1 : Nat) : Int)), .int .i64 (((σ.n 2 : Nat) : Int)), .int .i64 (((σ.n 3 : Nat) : Int)), .int .i64 (((σ.n 4 : Nat) : Int)), .int .i64 (((σ.n 5 : Nat) : Int)), .int .i64 (((σ.n 6 : Nat) : Int)), .int .i64 (((σ.n 7 : Nat) : Int)), .int .i64 (((σ.n 8 : Nat) : Int)), .int .i64 (((σ.n 9 : Nat) : Int)), .int .i64 (((σ.n 10 : Nat) : Int)), .int .i64 (((σ.n 11 : Nat) : Int)), .int .i64 (((σ.n 12 : Nat) : Int)), .int .i64 (((σ.n 13 : Nat) : Int)), .int .i64 (((σ.n 14 : Nat) : Int)), .int .i64 (((σ.n 15 : Nat) : Int)), .int .i64 (((σ.n 16 : Nat) : Int)), .int .i64 (((σ.n 17 : Nat) : Int))] 105).p w ∧ (blk g [u, .int .i64 (((most : Nat) : Int)), .int .i64 (σ.floor), .bool (σ.gone)] 138).p w ∧ Rd w [] u 4 l.length (l.flatMap riV) ∧ (rws 73 l).p w := by
 obtain ⟨g, u, l, hl, ho, rfl⟩ := hX
 refine ⟨g, u, l, hl, hl ▸ ho, hp.1 _ (by simp [stoM]), hp.1 _ (by simp [stoM]), rd_row (hp.1 (row u 140 4 l.length (l.flatMap riV)) (by simp [stoM])), hp.1 _ (by simp [stoM])⟩
theorem len_st {p most : Nat} {σ : Stt} {X : HA} (hX : Sto p most σ X) (w0 : World) (hp : X.p w0) : Calls Tryz.prog 25 #[.pointer (some ⟨p, 0, none⟩)] w0 (RetV w0 (.int .i64 ((σ.l.length : Nat) : Int))) := by
 obtain ⟨g, u, l, hl, ho, h1, h2, h3, h4⟩ := sto_open hX hp
 rw [hl, sns_len]
 exact slen_in p g u l most σ.floor σ.gone σ.n w0 h1 h2 h3 h4 ho
theorem taken_st {p most : Nat} {σ : Stt} {X : HA} (hX : Sto p most σ X) (w0 : World) (hp : X.p w0) : Calls Tryz.prog 30 #[.pointer (some ⟨p, 0, none⟩)] w0 (RetV w0 (.int .i64 ((σ.n 0 : Nat) : Int))) := by
 obtain ⟨g, u, l, hl, ho, h1, h2, h3, h4⟩ := sto_open hX hp
 exact staken_in p g u l most σ.floor σ.gone σ.n w0 h1 h2 h3 h4 ho
theorem refused_st {p most : Nat} {σ : Stt} {X : HA} (hX : Sto p most σ X) (e : Int) (w0 : World) (hp : X.p w0) (he : -9223372036854775808 ≤ e ∧ e ≤ 9223372036854775807) : Calls Tryz.prog 29 #[.pointer (some ⟨p, 0, none⟩), .int .i64 e] w0 (RetV w0 (.int .i64 ((nref σ.n e : Nat) : Int))) := by
 obtain ⟨g, u, l, hl, ho, h1, h2, h3, h4⟩ := sto_open hX hp
 exact srefused_in p g u l most σ.floor σ.gone σ.n e w0 h1 h2 h3 h4 ho he
theorem at_st {p most : Nat} {σ : Stt} {X : HA} (hX : Sto p most σ X) (i : Int) (w0 : World) (hp : X.p w0) : Calls Tryz.prog 26 #[.pointer (some ⟨p, 0, none⟩), .int .i64 i] w0 (Ret w0 [] fun z N => ∃ v, z = .tuple #[.agg #[.int .i64 (sat σ.l i).t, .int .i64 (sat σ.l i).tm, v], .int .i64 ((ratE σ.l i : Nat) : Int)] ∧ N = [row v 73 9 (sat σ.l i).l.length ((sat σ.l i).l.flatMap entV)]) := by
 obtain ⟨g, u, l, hl, ho, h1, h2, h3, h4⟩ := sto_open hX hp
 rw [hl, ← rat_sn l i]
 exact sat_in p g u l most σ.floor σ.gone σ.n i w0 h1 h2 h3 h4 ho
theorem accept_st {p most : Nat} {σ : Stt} {X : HA} (hX : Sto p most σ X) (hN : ∀ i, σ.n i ≤ 1000000) {v : Value} {m : Nat} {bs : List Byte} (w0 : World) (hp : X.p w0) (hb : Rd w0 (feet [X]) v 1 m (bytesV bs)) : Calls Tryz.prog 27 #[.pointer (some ⟨p, 0, none⟩), v] w0 (Ret w0 (feet [X]) fun z Nn => z = .tuple #[.int .i64 (accT σ.l most σ.floor σ.gone (gRead bs)), .int .i64 ((accE σ.l most σ.floor σ.gone (gRead bs) : Nat) : Int)] ∧ ∃ X', Nn = [X'] ∧ Sto p most (accS most σ (gRead bs)) X') := by
 have hok := hX.imp fun g h => h
 obtain ⟨g, u, l, hl, ho, rfl⟩ := hX
 obtain ⟨L, fl, gone, N⟩ := σ
 simp only at hl ho hN
 subst hl
 obtain ⟨hall, hnd⟩ := hp
 rw [feet_sep] at hb ⊢
 refine (accept_in p g u l most fl gone N v m bs w0 hall hnd ho hN hb).mono ?_
 rintro e w' ⟨z, Nn, rfl, ⟨rfl, u', l', hl', rfl⟩, hM⟩
 exact ⟨_, _, rfl, ⟨rfl, _, rfl, g, u', l', hl', oks_acc (σ := ⟨sns l, fl, gone, N⟩) ho, rfl⟩, hM.sep⟩
theorem new_st (k : Nat) (w0 : World) (hk : 1 ≤ k ∧ k ≤ 64) : Calls Tryz.prog 21 #[.int .i64 ((k : Nat) : Int)] w0 (Ret w0 [] fun z N => ∃ p X, z = .tuple #[.pointer (some ⟨p, 0, none⟩), .int .i64 0] ∧ N = [X] ∧ Sto p k stt0 X) := by
 refine (snew_in k w0 hk).mono ?_
 rintro e w' ⟨z, Nn, rfl, ⟨p, g, rfl, rfl⟩, hM⟩
 exact ⟨_, _, rfl, ⟨p, _, rfl, rfl, g, _, [], rfl, oks_0 hk, rfl⟩, hM.sep⟩

end Go.Proofs.YtbioemaipghagaaGreat
