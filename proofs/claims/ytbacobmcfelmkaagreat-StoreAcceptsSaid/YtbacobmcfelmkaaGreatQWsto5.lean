/- Walks of stores, seen from without: what each function does, over the program of this seat. Printed by a program of this session. -/
import Derived.Test.YtbacobmcfelmkaaGreatQWsto3
import Derived.Test.YtbacobmcfelmkaaGreatQWsto4
import Derived.Test.YtbacobmcfelmkaaGreatQSxBasB
namespace Go.Proofs.YtbacobmcfelmkaaGreat
open Tryz
open Go Go.Sx Go.RowKit
set_option linter.unusedVariables false
set_option linter.unusedSimpArgs false
set_option maxRecDepth 4000
set_option maxHeartbeats 1000000

theorem zGU {p most : Nat} {σ : Stt} {X : HA} {w : World} (hX : Sto p most σ X) (hp : X.p w) : ∃ (g : Nat) (u : Value) (l : List RI), σ.l = sns l ∧ Oks (sns l) most ∧ (blk p [pt g 0, nI most, nI (σ.n 0), nI (σ.n 1), nI (σ.n 2), nI (σ.n 3), nI (σ.n 4), nI (σ.n 5), nI (σ.n 6), nI (σ.n 7), nI (σ.n 8), nI (σ.n 9), nI (σ.n 10), nI (σ.n 11), nI (σ.n 12), nI (σ.n 13), nI (σ.n 14), nI (σ.n 15), nI (σ.n 16), nI (σ.n 17)] 56).p w ∧ (blk g [u, nI most, zI σ.floor, .bool (σ.gone)] 75).p w ∧ Rd w [] u 4 l.length (l.flatMap riV) ∧ (rws 72 l).p w := by
 obtain ⟨g, u, l, hl, ho, rfl⟩ := hX
 refine ⟨g, u, l, hl, hl ▸ ho, hp.1 _ (by simp [zUa]), hp.1 _ (by simp [zUa]), zM (hp.1 (row u 88 4 l.length (l.flatMap riV)) (by simp [zUa])), hp.1 _ (by simp [zUa])⟩
theorem zPU {p most : Nat} {σ : Stt} {X : HA} (hX : Sto p most σ X) (w0 : World) (hp : X.p w0) : Calls Tryz.prog 11 #[pt p 0] w0 (zCn w0 (nI σ.l.length)) := by
 obtain ⟨g, u, l, hl, ho, h1, h2, h3, h4⟩ := zGU hX hp
 rw [hl, zAJ]
 exact zUQ p g u l most σ.floor σ.gone σ.n w0 h1 h2 h3 h4 ho
theorem zJv {p most : Nat} {σ : Stt} {X : HA} (hX : Sto p most σ X) (w0 : World) (hp : X.p w0) : Calls Tryz.prog 12 #[pt p 0] w0 (zCn w0 (nI (σ.n 0))) := by
 obtain ⟨g, u, l, hl, ho, h1, h2, h3, h4⟩ := zGU hX hp
 exact zPx p g u l most σ.floor σ.gone σ.n w0 h1 h2 h3 h4 ho
theorem zD6 {p most : Nat} {σ : Stt} {X : HA} (hX : Sto p most σ X) (e : Int) (w0 : World) (hp : X.p w0) (he : -9223372036854775808 ≤ e ∧ e ≤ 9223372036854775807) : Calls Tryz.prog 13 #[pt p 0, .int .i64 e] w0 (zCn w0 (nI (zDv σ.n e))) := by
 obtain ⟨g, u, l, hl, ho, h1, h2, h3, h4⟩ := zGU hX hp
 exact zLA p g u l most σ.floor σ.gone σ.n e w0 h1 h2 h3 h4 ho he
theorem zVD {p most : Nat} {σ : Stt} {X : HA} (hX : Sto p most σ X) (i : Int) (w0 : World) (hp : X.p w0) : Calls Tryz.prog 14 #[pt p 0, .int .i64 i] w0 (Ret w0 [] fun z N => ∃ v, z = .tuple #[.agg #[zI (sat σ.l i).t, zI (sat σ.l i).tm, v], nI (zH5 σ.l i)] ∧ N = [row v 72 9 (sat σ.l i).l.length ((sat σ.l i).l.flatMap zBQ)]) := by
 obtain ⟨g, u, l, hl, ho, h1, h2, h3, h4⟩ := zGU hX hp
 rw [hl, ← zEU l i]
 exact zVZ p g u l most σ.floor σ.gone σ.n i w0 h1 h2 h3 h4 ho
theorem zVU {p most : Nat} {σ : Stt} {X : HA} (hX : Sto p most σ X) (k : Int) (w0 : World) (hp : X.p w0) : Calls Tryz.prog 15 #[pt p 0, .int .i64 k] w0 (Ret w0 [] fun z N => ∃ v, z = .tuple #[.agg #[zI (zFz σ.l k).t, zI (zFz σ.l k).tm, v], .bool (zB9 σ.l k)] ∧ N = [row v 72 9 (zFz σ.l k).l.length ((zFz σ.l k).l.flatMap zBQ)]) := by
 obtain ⟨g, u, l, hl, ho, h1, h2, h3, h4⟩ := zGU hX hp
 rw [hl, ← zJG l k ho.srt]
 exact zS9 p g u l most σ.floor σ.gone σ.n k w0 h1 h2 h3 h4 ho
theorem zEv {p most : Nat} {σ : Stt} {X : HA} (hX : Sto p most σ X) (hN : ∀ i, σ.n i ≤ 1000000) {v : Value} {m : Nat} {bs : List zR} (w0 : World) (hp : X.p w0) (hb : Rd w0 (zX [X]) v 1 m (zF bs)) : Calls Tryz.prog 9 #[pt p 0, v] w0 (Ret w0 (zX [X]) fun z Nn => z = .tuple #[zI (zGW σ.l most σ.floor σ.gone (zA bs)), nI (zAT σ.l most σ.floor σ.gone (zA bs))] ∧ ∃ X', Nn = [X'] ∧ Sto p most (zAX most σ (zA bs)) X') := by
 have hok := hX.imp fun g h => h
 obtain ⟨g, u, l, hl, ho, rfl⟩ := hX
 obtain ⟨L, fl, gone, N⟩ := σ
 simp only at hl ho hN
 subst hl
 obtain ⟨hall, hnd⟩ := hp
 rw [zFL] at hb ⊢
 refine (zQD p g u l most fl gone N v m bs w0 hall hnd ho hN hb).mono ?_
 rintro e w' ⟨z, Nn, rfl, ⟨rfl, u', l', hl', rfl⟩, hM⟩
 exact ⟨_, _, rfl, ⟨rfl, _, rfl, g, u', l', hl', zFm (σ := ⟨sns l, fl, gone, N⟩) ho, rfl⟩, hM.sep⟩
theorem zSp (k : Nat) (w0 : World) (hk : 1 ≤ k ∧ k ≤ 64) : Calls Tryz.prog 4 #[nI k] w0 (Ret w0 [] fun z N => ∃ p X, z = .tuple #[pt p 0, .int .i64 0] ∧ N = [X] ∧ Sto p k zCZ X) := by
 refine (zUJ k w0 hk).mono ?_
 rintro e w' ⟨z, Nn, rfl, ⟨p, g, rfl, rfl⟩, hM⟩
 exact ⟨_, _, rfl, ⟨p, _, rfl, rfl, g, _, [], rfl, zRY hk, rfl⟩, hM.sep⟩

end Go.Proofs.YtbacobmcfelmkaaGreat
