import Derived.Test.YtemnjodhidlfpaaGreatQG8
import Derived.Test.YtemnjodhidlfpaaGreatQWpose
import Derived.Test.YtemnjodhidlfpaaGreatQG18
import Derived.Test.YtemnjodhidlfpaaGreatQG22
import Derived.Test.YtemnjodhidlfpaaGreatQSxBasB
import Derived.Test.YtemnjodhidlfpaaGreatQG15
import Derived.Test.YtemnjodhidlfpaaGreatQG7
import Derived.Test.YtemnjodhidlfpaaGreatProg
import Derived.Test.YtemnjodhidlfpaaGreatQSxGrams
/- Walks of the client: what each function does, over the program of this seat. Printed by a program of this session. -/
namespace Go.Proofs.YtemnjodhidlfpaaGreat
open Tryz
open Go Go.Sx Go.RowKit
set_option linter.unusedVariables false
set_option linter.unusedSimpArgs false
set_option maxRecDepth 4000
set_option maxHeartbeats 1000000

theorem Sto.oks {p most : Nat} {σ : Stt} {X : HA} (h : Sto p most σ X) : Oks σ.l most := by obtain ⟨_, _, _, _, h, _⟩ := h; exact h
theorem zKe (c : zAa) (cg sp : Nat) (p : KP) (fr : Nat) (σ : Stt) (X : HA) (hX : Sto sp c.keep σ X) (w0 : World) (hcg : (blk cg [zI c.ring, zI c.window, zI c.base, zI c.gain, zI c.least, zI c.most, zI c.slack, zI c.num, zI c.den, zI c.extra, .bool (c.curve), pt sp 0, pt p.k 0, nI fr] 77).p w0) (hXp : X.p w0) : Calls Tryz.prog 30 #[pt cg 0] w0 (Ret w0 [] fun u N => ∃ L : List RI, sns L = σ.l ∧ N = [row u 44 3 L.length (L.flatMap snV), rws 142 L]) := by
 have ho := hX.oks; have ho1 := ho.le; have ho2 := ho.m64
 refine zF (F0 := [(0, pt cg 0)]) func30 rfl rfl rfl (.c .n) (Mem.nil _) ?_
 refine go 5 [] [9, 3, 0] .n ?_
 intro a w hs; refine zV hs rfl (hs.mem.keep hcg (by simp [zM, blk])) (.s (.s (.s (.s (.s (.s (.s (.s (.s (.s (.s .z))))))))))) isAgg73 rfl ?_
 intro a w hs; refine zB (v := nI σ.l.length) hs (.c rfl .n) call61 (zZO hX _ (hs.mem.keepH hXp (by simp))) rfl ?_
 refine goL 1 [] [12, 11, 3, 0] .n ?_
 refine cl (·.addNil 44 3) ?_
 refine cl (·.rerow .z (m' := ([] : List RI).length) (xs' := (([] : List RI).flatMap snV)) (rfl) (rfl)) ?_
 refine cl (·.addRws 142) ?_
 refine cl (·.reorder (.c (.s .z) (.c .z .n))) ?_
 intro a w hs; refine zDG (fun mm_ a w => ∃ j : Nat, ∃ u : Value, ∃ L : List RI, mm_ = σ.l.length - j ∧ St 30 [(0, pt cg 0), (3, u), (11, nI σ.l.length), (12, zI (j : Int))] w0 [] [row u 44 3 L.length (L.flatMap snV), rws 142 L] a w ∧ j ≤ σ.l.length ∧ sns L = σ.l.take j) ⟨0, .slice none 0 0, [], rfl, hs.sub (.c rfl (.c rfl (.c rfl (.c rfl .n)))), by omega, rfl⟩ ?_
 clear hs w a; rintro mm_ a w ⟨j, u, L, rfl, hs, hI1_0, hI1_1⟩
 revert a w hs
 refine go 1 [] [13, 0, 3, 11, 12] .n ?_
 refine ifG rfl (fun c_1 => ?_) (fun c_1 => ?_)
 ·
  refine go 1 [] [14, 0, 3, 11, 12] .n ?_
  have hLl : L.length = j := by rw [← zAJ L, hI1_1, List.length_take]; omega
  refine go 4 [] [18, 4, 0, 3, 11, 12] .n ?_
  intro a w hs; refine zV hs rfl (hs.mem.keep hcg (by simp [zM, blk])) (.s (.s (.s (.s (.s (.s (.s (.s (.s (.s (.s .z))))))))))) isAgg73 rfl ?_
  refine goL 1 [] [20, 19, 0, 3, 11, 12] .n ?_
  intro a w hs; refine zK hs (.c rfl (.c rfl .n)) call62 .n (zaT hX (j : Int) _ (hs.mem.keepH hXp (by simp))) rfl ?_; clear hs w a; rintro _ _ a w ⟨v2, rfl, rfl⟩ hs
  revert a w hs
  refine goL 4 [] [5, 23, 22, 0, 3, 11, 12] .n (fun g3 => ?_)
  intro a w hs; refine zAl hs rfl rfl .z (.z (.c (.c (.c .n)))) (zN rfl (zN rfl (zN (zQ (hs.mem.del (.s .z))).isSl.one zAt))) sizeOf44 rfl ?_
  refine goL 4 [0] [26, 24, 0, 11, 12] (.c .z .n) ⟨rfl, fun g4 => ?_⟩
  intro a w hs; refine zBI (size := 3) (bytes := 40) hs rfl rfl (.s (.s (.s .z))) (zAF (m := 1) (size := 3) (hs.mem.del .z) rfl (by decide)) (zN rfl (zN rfl (zN (zQ (hs.mem.del (.s (.s .z)))).isSl.one zAt))) underlying39 (i := Tryz.t44) rfl rfl rfl rfl rfl (by decide) (by omega) (by simp only [maxLen]; omega) rfl ?_; intro v5
  refine cl (·.drop (.c (.s .z) .n)) ?_
  refine goL 3 [] [12, 3, 0, 11] .n ⟨(by omega), ?_⟩
  intro a w hs; replace hs := hs.rerow .z (m' := (L ++ [(⟨(sat σ.l (j : Int)).t, (sat σ.l (j : Int)).tm, (sat σ.l (j : Int)).l, v2⟩ : RI)]).length) (xs' := ((L ++ [(⟨(sat σ.l (j : Int)).t, (sat σ.l (j : Int)).tm, (sat σ.l (j : Int)).l, v2⟩ : RI)]).flatMap snV)) (by rw [List.length_append]; rfl) (by rw [List.flatMap_append]; rfl)
  replace hs := hs.rwsSnoc (x := (⟨(sat σ.l (j : Int)).t, (sat σ.l (j : Int)).tm, (sat σ.l (j : Int)).l, v2⟩ : RI)) (.c (.s (.s (.s .z))) (.c (.s (.s .z)) .n))
  replace hs := hs.drop (.c (.s (.s .z)) .n)
  replace hs := hs.reorder (.c (.s .z) (.c .z .n))
  refine ⟨_, ?_, (j + 1), v5, (L ++ [(⟨(sat σ.l (j : Int)).t, (sat σ.l (j : Int)).tm, (sat σ.l (j : Int)).l, v2⟩ : RI)]), rfl, hs.sub (.c rfl (.c rfl (.c rfl (.c rfl .n)))), by omega, zWi hI1_1 (by omega)⟩
  omega
 refine go 2 [] [2] .n ?_
 intro a w hs; exact fin hs rfl rfl ⟨L, by rw [hI1_1, List.take_of_length_le (by omega)], rfl⟩
theorem zT9 (c : zAa) (cg sp : Nat) (p : KP) (fr : Nat) (σ : Stt) (Kc : KS) (X : HA) (x : Int) (v : Value) (m : Nat) (bs : List zO) (hk : zCp c = 0) (hC : CS.ok c ⟨σ, Kc, fr⟩) (hX : Sto sp c.keep σ X) (hn : ∀ i, σ.n i ≤ 1000000) (hfr : fr ≤ 1000000) (hx : -9223372036854775808 ≤ x ∧ x ≤ 9223372036854775807) (w0 : World) (hM : ∀ h ∈ ([blk cg [zI c.ring, zI c.window, zI c.base, zI c.gain, zI c.least, zI c.most, zI c.slack, zI c.num, zI c.den, zI c.extra, .bool (c.curve), pt sp 0, pt p.k 0, nI fr] 77, X, zF9 c p Kc] : List HA), h.p w0) (hnd : (zM [blk cg [zI c.ring, zI c.window, zI c.base, zI c.gain, zI c.least, zI c.most, zI c.slack, zI c.num, zI c.den, zI c.extra, .bool (c.curve), pt sp 0, pt p.k 0, nI fr] 77, X, zF9 c p Kc]).Nodup) (hb : Rd w0 (zM [blk cg [zI c.ring, zI c.window, zI c.base, zI c.gain, zI c.least, zI c.most, zI c.slack, zI c.num, zI c.den, zI c.extra, .bool (c.curve), pt sp 0, pt p.k 0, nI fr] 77, X, zF9 c p Kc]) v 1 m (zC bs)) : Calls Tryz.prog 15 #[pt cg 0, .int .i64 x, v] w0 (Ret w0 (zM [blk cg [zI c.ring, zI c.window, zI c.base, zI c.gain, zI c.least, zI c.most, zI c.slack, zI c.num, zI c.den, zI c.extra, .bool (c.curve), pt sp 0, pt p.k 0, nI fr] 77, X, zF9 c p Kc]) fun u N => u = nI (zJD c (⟨σ, Kc, fr⟩ : CS) (zA bs)) ∧ ∃ (X' : HA) (p' : KP), N = [blk cg [zI c.ring, zI c.window, zI c.base, zI c.gain, zI c.least, zI c.most, zI c.slack, zI c.num, zI c.den, zI c.extra, .bool (c.curve), pt sp 0, pt p.k 0, nI fr] 77, X', zF9 c p' (zTV c (⟨σ, Kc, fr⟩ : CS) x (zA bs)).K] ∧ p'.k = p.k ∧ Sto sp c.keep (zCw c.keep σ (zA bs)) X') := by
 have ho := hX.oks; have hkk := hC.k; have hwf := hC.wf; dsimp only at hkk hwf
 refine zF (F0 := [(0, pt cg 0), (1, zI x), (2, v)]) func15 rfl rfl rfl (.c (.c (.c .n))) (Mem.start hM rfl hnd) ?_
 refine go 9 [0] [18, 17, 0, 1] (.c .z .n) ⟨rfl, ?_⟩
 intro a w hs; refine zK hs (.c rfl (.c rfl .n)) call36 (.c (.s .z) .n) (zPz hX hn _ (hs.mem.del (.s .z)) (hs.mem.rd1 hb (.c (.s .z) .n))) rfl ?_; clear hs w a; rintro _ _ a w ⟨rfl, X1, rfl, hX2⟩ hs
 revert a w hs
 refine goL 7 [] [23, 8, 7, 0, 1] .n ?_
 refine ifG rfl (fun c_3 => ?_) (fun c_3 => ?_)
 ·
  have hz1 : ¬ zJD c (⟨σ, Kc, fr⟩ : CS) (zA bs) = 0 := fun h => (by assumption : ((zBb σ.l c.keep σ.floor σ.gone (zA bs) : Nat) : Int) ≠ 0) (by rw [show zBb σ.l c.keep σ.floor σ.gone (zA bs) = 0 from h]; rfl)
  refine go 2 [] [6] .n ?_
  refine cl (·.reorder (.c (.s .z) (.c .z (.c .z .n)))) ?_
  have hK2 : (zTV c (⟨σ, Kc, fr⟩ : CS) x (zA bs)).K = Kc := if_neg hz1
  intro a w hs; exact fin hs rfl rfl ⟨rfl, X1, p, by rw [hK2], rfl, hX2⟩
 have hz0 : zJD c (⟨σ, Kc, fr⟩ : CS) (zA bs) = 0 := zCf (by assumption : ((zBb σ.l c.keep σ.floor σ.gone (zA bs) : Nat) : Int) = 0)
 refine go 5 [0] [30, 29, 0, 1] (.c (.s .z) .n) ⟨rfl, ?_⟩
 intro a w hs; refine zK hs (.c rfl (.c rfl .n)) call31 .n (zZn hX2 (zI2 σ.l c.keep σ.floor σ.gone (zA bs)) _ (hs.mem.del (.s .z))) rfl ?_; clear hs w a; rintro _ _ a w ⟨v4, rfl, rfl⟩ hs
 have hk5 := zND (l := (zCw c.keep σ (zA bs)).l) hX2.oks (zI2 σ.l c.keep σ.floor σ.gone (zA bs))
 revert a w hs
 refine goL 4 [] [9, 33, 32, 0, 1] .n (fun g6 => ?_)
 intro a w hs; refine zAl hs rfl rfl .z (.z (.c (.c (.c .n)))) (zN rfl (zN rfl (zN (zQ (hs.mem.del (.s .z))).isSl.one zAt))) sizeOf44 rfl ?_
 refine goL 1 [] [9, 0, 1] .n ?_
 intro a w hs
 refine zHT (Γ := KP) (M0 := [blk g6 [zI ((zEy (zCw c.keep σ (zA bs)).l (zI2 σ.l c.keep σ.floor σ.gone (zA bs))).t), zI ((zEy (zCw c.keep σ (zA bs)).l (zI2 σ.l c.keep σ.floor σ.gone (zA bs))).tm), v4] 44, row v4 142 9 ((zEy (zCw c.keep σ (zA bs)).l (zI2 σ.l c.keep σ.floor σ.gone (zA bs))).l.length) ((zEy (zCw c.keep σ (zA bs)).l (zI2 σ.l c.keep σ.floor σ.gone (zA bs))).l.flatMap zBK), blk cg [zI c.ring, zI c.window, zI c.base, zI c.gain, zI c.least, zI c.most, zI c.slack, zI c.num, zI c.den, zI c.extra, .bool (c.curve), pt sp 0, pt p.k 0, nI fr] 77, X1]) (Ds := fun gs => [Pv 0 (pt cg 0), Pv 1 (pt cg 0), Pv 2 (pt cg 12), Pv 3 (pt p.k 0), Pv 4 (zI x), Pv 5 (pt g6 1), Pv 6 (zI ((zEy (zCw c.keep σ (zA bs)).l (zI2 σ.l c.keep σ.floor σ.gone (zA bs))).tm)), ⟨[zF9 c p Kc], [], [], fun vs7 => vs7 7 = zI 0, fun vs7 => [zF9 c ((gs 7).on p.k) (zWe c Kc x ((zEy (zCw c.keep σ (zA bs)).l (zI2 σ.l c.keep σ.floor σ.gone (zA bs))).tm))], none⟩, Pv 8 (zI 0)]) [[], [], [], [], [], [], [], [7], []] (default : KP) (by kernel_rfl) hs rfl (.c (.s (.s (.s (.s .z)))) .n) (by kernel_rfl) (fun _ => by kernel_rfl) (fun _ _ => rfl) (fun us_ us'_ => (.c (fun _ => rfl) (.c (fun _ => rfl) (.c (fun _ => rfl) (.c (fun _ => rfl) (.c (fun _ => rfl) (.c (fun _ => rfl) (.c (fun _ => rfl) (.c (fun h => by have e7 := h 7 (by simp); simp only [e7]) (.c (fun _ => rfl) .n)))))))))) (by kernel_rfl) rfl (by kernel_rfl) (fun gs => ?_) ?_
 ·
  refine (.c ?_ (.c ?_ (.c ?_ (.c ?_ (.c ?_ (.c ?_ (.c ?_ (.g ?_ (.c ?_ .n)))))))))
  · exact zAh (m := 9) .n (fun hm0 hm hx => .n) (by kernel_rfl) (by kernel_rfl) rfl
  · exact zAh (m := 9) (.c (k := 0) (by kernel_rfl) rfl rfl .n) (fun hm0 hm hx => .n) (by kernel_rfl) (by kernel_rfl) rfl
  · exact zAh (m := 9) (.c (k := 1) (by kernel_rfl) rfl rfl .n) (fun hm0 hm hx => .n) (by kernel_rfl) (by kernel_rfl) rfl
  · exact zAh (m := 9) (.c (k := 2) (by kernel_rfl) rfl rfl .n) (fun hm0 hm hx => (.c (hm0.del (.s (.s .z))))) (by kernel_rfl) (by kernel_rfl) rfl
  · exact zAh (m := 9) .n (fun hm0 hm hx => .n) (by kernel_rfl) (by kernel_rfl) rfl
  · exact zAh (m := 9) .n (fun hm0 hm hx => .n) (by kernel_rfl) (by kernel_rfl) rfl
  · exact zAh (m := 9) (.c (k := 5) (by kernel_rfl) rfl rfl .n) (fun hm0 hm hx => (.c (hm0.del .z))) (by kernel_rfl) (by kernel_rfl) rfl
  ·
   intro a_ w_ R_ rest_ vs7 hm hs ht hx
   replace hs : St _ _ _ (zM [zF9 c p Kc]) [zF9 c p Kc] _ _ := hs
   have hm0 := hm.mid
   replace hs := hs.lrn (ht 3 (zH 9 _ (by kernel_rfl))) rfl rfl
   replace hs := hs.lrn (ht 4 (zH 9 _ (by kernel_rfl))) rfl rfl
   replace hs := hs.lrn (ht 6 (zH 9 _ (by kernel_rfl))) rfl rfl
   have hs0 := hs.bare
   refine zK hs (.c rfl (.c rfl (.c rfl .n))) call37 (.c .z .n) (zX1 c p Kc x ((zEy (zCw c.keep σ (zA bs)).l (zI2 σ.l c.keep σ.floor σ.gone (zA bs))).tm) hk hkk ⟨by omega, by omega⟩ ⟨by omega, by omega⟩ _ (hs.mem.del .z)) rfl ?_; clear hs; rintro _ _ a w ⟨rfl, kp8, rfl⟩ hs
   exact wpList_nil ⟨rfl, (kp8), _, _, hs0, (.c (.c (.c .r))), hs, rfl⟩
  intro a_ w_ R_ rest_ vs7 hm hs ht hx
  have hm0 := hm.mid
  have t7 := ht 7 (zH 9 _ (by kernel_rfl))
  have e7 : _ = some (vs7 7) := t7.val rfl
  rw [show vs7 7 = zI 0 from t7.2.1] at e7
  replace hs := hs.learn e7
  have hs0 := hs.bare
  refine zEL hs rfl rfl ?_; clear hs; intro a w hs
  exact wpList_nil ⟨rfl, _, _, hs0, (.c .r), hs, rfl⟩
 clear hs w a; intro a w vs7 gs hs hf
 replace hs : St _ _ _ _ [blk g6 [zI ((zEy (zCw c.keep σ (zA bs)).l (zI2 σ.l c.keep σ.floor σ.gone (zA bs))).t), zI ((zEy (zCw c.keep σ (zA bs)).l (zI2 σ.l c.keep σ.floor σ.gone (zA bs))).tm), v4] 44, row v4 142 9 ((zEy (zCw c.keep σ (zA bs)).l (zI2 σ.l c.keep σ.floor σ.gone (zA bs))).l.length) ((zEy (zCw c.keep σ (zA bs)).l (zI2 σ.l c.keep σ.floor σ.gone (zA bs))).l.flatMap zBK), blk cg [zI c.ring, zI c.window, zI c.base, zI c.gain, zI c.least, zI c.most, zI c.slack, zI c.num, zI c.den, zI c.extra, .bool (c.curve), pt sp 0, pt p.k 0, nI fr] 77, X1, zF9 c ((gs 7).on p.k) (zWe c Kc x ((zEy (zCw c.keep σ (zA bs)).l (zI2 σ.l c.keep σ.floor σ.gone (zA bs))).tm))] _ _ := hs
 obtain ⟨e8, q8⟩ := hf 8 (by decide)
 replace e8 : _ = some (vs7 8) := e8.val rfl
 rw [show vs7 8 = zI 0 from q8] at e8
 replace hs := hs.learn e8; clear e8 q8
 generalize (gs 7) = z9 at hs
 clear hf
 revert a w hs
 refine goE 0 [] [6] .n ?_
 refine cl (·.drop (.c (.s .z) (.c .z .n))) ?_
 have hK2 : (zTV c (⟨σ, Kc, fr⟩ : CS) x (zA bs)).K = zWe c Kc x ((zEy (zCw c.keep σ (zA bs)).l (zI2 σ.l c.keep σ.floor σ.gone (zA bs))).tm) := if_pos hz0
 intro a w hs; exact fin hs rfl rfl ⟨by rw [hz0]; rfl, X1, (z9.on p.k), by rw [hK2], rfl, hX2⟩
theorem zUR (c : zAa) (L : List RI) (u : Value) (l : List zAH) (t : Int) (ht : R64 t) (most : Nat) (hl : sns L = l) (ho : Oks l most) (hw : Wfs l) (w0 : World) (hM : ∀ h ∈ ([row u 44 3 L.length (L.flatMap snV), rws 142 L] : List HA), h.p w0) : Calls Tryz.prog 14 #[.agg #[zI c.ring, zI c.window, zI c.base, zI c.gain, zI c.least, zI c.most, zI c.slack, zI c.num, zI c.den, zI c.extra, .bool (c.curve)], .int .i64 t, u] w0 (Ret w0 (zM [row u 44 3 L.length (L.flatMap snV), rws 142 L]) fun z N => ∃ v, z = .tuple #[v, nI ((zCL c l t).2)] ∧ N = [row v 52 6 (zCL c l t).1.length ((zCL c l t).1.flatMap zCJ)]) := by
 subst hl
 have h := zTU c L u t ht w0 (zZz (hM (rws 142 L) (by simp)) ho hw) (zQ (hM (row u 44 3 L.length (L.flatMap snV)) (by simp)))
 rw [zTP] at h
 exact h.mono (fun e w ⟨z, N, h1, h2, h3⟩ => ⟨z, N, h1, h2, h3.wide⟩)
theorem zTz (c : zAa) (cg sp : Nat) (p : KP) (fr : Nat) (σ : Stt) (Kc : KS) (X : HA) (x : Int) (hk : zCp c = 0) (hC : CS.ok c ⟨σ, Kc, fr⟩) (hX : Sto sp c.keep σ X) (hn : ∀ i, σ.n i ≤ 1000000) (hfr : fr ≤ 1000000) (hx : -9223372036854775808 ≤ x ∧ x ≤ 9223372036854775807) (w0 : World) (hM : ∀ h ∈ ([blk cg [zI c.ring, zI c.window, zI c.base, zI c.gain, zI c.least, zI c.most, zI c.slack, zI c.num, zI c.den, zI c.extra, .bool (c.curve), pt sp 0, pt p.k 0, nI fr] 77, X, zF9 c p Kc] : List HA), h.p w0) (hnd : (zM [blk cg [zI c.ring, zI c.window, zI c.base, zI c.gain, zI c.least, zI c.most, zI c.slack, zI c.num, zI c.den, zI c.extra, .bool (c.curve), pt sp 0, pt p.k 0, nI fr] 77, X, zF9 c p Kc]).Nodup) : Calls Tryz.prog 22 #[pt cg 0, .int .i64 x] w0 (Ret w0 (zM [blk cg [zI c.ring, zI c.window, zI c.base, zI c.gain, zI c.least, zI c.most, zI c.slack, zI c.num, zI c.den, zI c.extra, .bool (c.curve), pt sp 0, pt p.k 0, nI fr] 77, X, zF9 c p Kc]) fun u N => ∃ (v : Value) (p' : KP), u = .agg #[.bool (zE9 c (⟨σ, Kc, fr⟩ : CS) x).ready, zI (zE9 c (⟨σ, Kc, fr⟩ : CS) x).time, v] ∧ N = [row v 52 6 (zE9 c (⟨σ, Kc, fr⟩ : CS) x).l.length ((zE9 c (⟨σ, Kc, fr⟩ : CS) x).l.flatMap zCJ), blk cg [zI c.ring, zI c.window, zI c.base, zI c.gain, zI c.least, zI c.most, zI c.slack, zI c.num, zI c.den, zI c.extra, .bool (c.curve), pt sp 0, pt p.k 0, nI (fr + 1)] 77, X, zF9 c p' (zP8 c Kc x)] ∧ p'.k = p.k) := by
 have ho := hX.oks; have hkk := hC.k; have hwf := hC.wf; dsimp only at hkk hwf
 refine zF (F0 := [(0, pt cg 0), (1, zI x)]) func22 rfl rfl rfl (.c (.c .n)) (Mem.start hM rfl hnd) ?_
 refine go 7 [] [14, 12, 4, 0, 1] .n (fun g1 => ?_)
 refine go 2 [0] [16, 12, 4, 0, 1] (.c (.s .z) .n) ⟨rfl, (by omega), ?_⟩
 have hv_ : (((fr : Nat) : Int) + 1 : Int) = (((fr + 1 : Nat) : Int) : Int) := by omega
 intro a w hs; rw [hv_] at hs; clear hv_
 revert a w hs
 refine go 8 [0, 0] [24, 23, 4, 0] (.c .z .n) ⟨rfl, rfl, ?_⟩
 intro a w hs; refine zK hs (.c rfl (.c rfl .n)) call51 (.c (.s (.s (.s .z))) .n) (zVe c p Kc x hk hkk ⟨by omega, by omega⟩ _ (hs.mem.del (.s (.s (.s .z))))) rfl ?_; clear hs w a; rintro _ _ a w ⟨rfl, kp2, rfl⟩ hs
 revert a w hs
 refine goL 7 [] [29, 5, 4, 0] .n ?_
 refine ifG rfl (fun c_3 => ?_) (fun c_3 => ?_)
 ·
  refine go 2 [0] [4] (.c (.s (.s .z)) .n) ⟨rfl, ?_⟩
  have hS : (zE9 c (⟨σ, Kc, fr⟩ : CS) x) = ⟨false, 0, []⟩ := if_neg (show ¬ 0 < Kc.l2.length by assumption)
  refine cl (·.addNil 52 6) ?_
  intro a w hs; replace hs := hs.rerow .z (m' := (zE9 c (⟨σ, Kc, fr⟩ : CS) x).l.length) (xs' := ((zE9 c (⟨σ, Kc, fr⟩ : CS) x).l.flatMap zCJ)) (by rw [hS]; rfl) (by rw [hS]; rfl)
  replace hs := hs.reorder (.c .z (.c (.s (.s .z)) (.c (.s (.s .z)) (.c (.s .z) (.c .z .n)))))
  exact zKE hs rfl rfl (.s (.s (.s (.s .z)))) (.z (.c (.c (.c .n)))) isAgg36 sizeOf36 (.c (.s (.s (.s (.s .z)))) .n) ⟨.slice none 0 0, (kp2.on p.k), by rw [hS], rfl, rfl⟩
 have htr := zaY (c := c) (K := Kc) hx hkk
 refine go 0 [] [5, 4, 0] .n ?_
 intro a w hs
 refine zHT (Γ := Value × List RI) (M0 := [zF9 c (kp2.on p.k) (zP8 c Kc x), blk cg [zI c.ring, zI c.window, zI c.base, zI c.gain, zI c.least, zI c.most, zI c.slack, zI c.num, zI c.den, zI c.extra, .bool (c.curve), pt sp 0, pt p.k 0, zI (((fr : Nat) : Int) + 1)] 77, blk g1 [.bool (false), zI 0, .slice none 0 0] 36, X]) (Ds := fun gs => [Pv 0 (pt cg 0), Pv 1 (pt cg 0), Pv 2 (pt cg 0), Pv 3 (.agg #[zI c.ring, zI c.window, zI c.base, zI c.gain, zI c.least, zI c.most, zI c.slack, zI c.num, zI c.den, zI c.extra, .bool (c.curve)]), Pv 4 (zI (kTm c Kc x)), Pv 5 (pt cg 0), ⟨[], [], [], fun vs4 => vs4 6 = ((gs 6).1) ∧ sns ((gs 6).2) = σ.l, fun vs4 => [row ((gs 6).1) 44 3 (((gs 6).2).length) (((gs 6).2).flatMap snV), rws 142 ((gs 6).2)], none⟩, ⟨[], [6], [], fun vs4 => vs4 7 = .tuple #[(zFV (vs4 7)), nI ((zCL c σ.l (kTm c Kc x)).2)], fun vs4 => [row (zFV (vs4 7)) 52 6 ((zCL c σ.l (kTm c Kc x)).1.length) ((zCL c σ.l (kTm c Kc x)).1.flatMap zCJ)], none⟩, ⟨[], [], [7], fun vs4 => vs4 8 = .tuple #[(zFV (vs4 7)), nI ((zCL c σ.l (kTm c Kc x)).2)], fun vs4 => [], none⟩, ⟨[], [], [7], fun vs4 => vs4 9 = (zFV (vs4 7)), fun vs4 => [], none⟩, Pv 10 (nI ((zCL c σ.l (kTm c Kc x)).2)), ⟨[], [], [7], fun vs4 => vs4 11 = (zFV (vs4 7)), fun vs4 => [], none⟩, Pv 12 (nI ((zCL c σ.l (kTm c Kc x)).2))]) [[], [], [], [], [], [], [6], [], [], [], [], [], []] ((.slice none 0 0 : Value), (default : List RI)) (by kernel_rfl) hs rfl .n (by kernel_rfl) (fun _ => by kernel_rfl) (fun _ _ => rfl) (fun us_ us'_ => (.c (fun _ => rfl) (.c (fun _ => rfl) (.c (fun _ => rfl) (.c (fun _ => rfl) (.c (fun _ => rfl) (.c (fun _ => rfl) (.c (fun h => by have e6 := h 6 (by simp); simp only [e6]) (.c (fun _ => rfl) (.c (fun _ => rfl) (.c (fun _ => rfl) (.c (fun _ => rfl) (.c (fun _ => rfl) (.c (fun _ => rfl) .n)))))))))))))) (by kernel_rfl) rfl (by kernel_rfl) (fun gs => ?_) ?_
 ·
  refine (.c ?_ (.c ?_ (.c ?_ (.c ?_ (.c ?_ (.c ?_ (.g ?_ (.c ?_ (.c ?_ (.c ?_ (.c ?_ (.c ?_ (.c ?_ .n)))))))))))))
  · exact zAh (m := 13) .n (fun hm0 hm hx => .n) (by kernel_rfl) (by kernel_rfl) rfl
  · exact zAh (m := 13) (.c (k := 0) (by kernel_rfl) rfl rfl .n) (fun hm0 hm hx => .n) (by kernel_rfl) (by kernel_rfl) rfl
  · exact zAh (m := 13) (.c (k := 1) (by kernel_rfl) rfl rfl .n) (fun hm0 hm hx => .n) (by kernel_rfl) (by kernel_rfl) rfl
  · exact zAh (m := 13) (.c (k := 2) (by kernel_rfl) rfl rfl .n) (fun hm0 hm hx => (.c (hm0.del (.s .z)))) (by kernel_rfl) (by kernel_rfl) rfl
  · exact zAh (m := 13) .n (fun hm0 hm hx => .n) (by kernel_rfl) (by kernel_rfl) rfl
  · exact zAh (m := 13) .n (fun hm0 hm hx => .n) (by kernel_rfl) (by kernel_rfl) rfl
  ·
   intro a_ w_ R_ rest_ vs4 hm hs ht hx
   have hm0 := hm.mid
   replace hs := hs.lrn (ht 5 (zH 13 _ (by kernel_rfl))) rfl rfl
   have hs0 := hs.bare
   refine zK hs (.c rfl .n) call30 .n (zKe c cg sp p _ σ _ hX _ (hm0.del (.s .z)) (hm0.del (.s (.s (.s .z))))) rfl ?_; clear hs; rintro u5 _ a w ⟨L6, hL7, rfl⟩ hs
   exact wpList_nil ⟨rfl, (u5, L6), _, _, hs0, (.c .r), hs, ⟨rfl, hL7⟩⟩
  ·
   intro a_ w_ R_ rest_ vs4 hm hs ht hx
   replace hs : St _ _ _ (zM [row ((gs 6).1) 44 3 (((gs 6).2).length) (((gs 6).2).flatMap snV), rws 142 ((gs 6).2)]) [row ((gs 6).1) 44 3 (((gs 6).2).length) (((gs 6).2).flatMap snV), rws 142 ((gs 6).2)] _ _ := hs
   have hm0 := hm.mid
   replace hs := hs.lrn (ht 3 (zH 13 _ (by kernel_rfl))) rfl rfl
   replace hs := hs.lrn (ht 4 (zH 13 _ (by kernel_rfl))) rfl rfl
   have t6 := ht 6 (zH 13 _ (by kernel_rfl))
   have e6 : _ = some (vs4 6) := t6.val rfl
   rw [show vs4 6 = ((gs 6).1) from t6.2.1.1] at e6
   have hL7 : sns ((gs 6).2) = σ.l := t6.2.1.2
   replace hs := hs.learn e6
   have hs0 := hs.bare
   refine zK hs (.c rfl (.c rfl (.c rfl .n))) call14 (.c .z (.c .z .n)) (zUR c ((gs 6).2) ((gs 6).1) σ.l (kTm c Kc x) htr _ (by assumption) ho hwf _ (hs.mem.allX (.c .z (.c .z .n)))) rfl ?_; clear hs; rintro _ _ a w ⟨v8, rfl, rfl⟩ hs
   exact wpList_nil ⟨rfl, _, _, hs0, (.c (.c (.c .r))), hs, rfl⟩
  ·
   intro a_ w_ R_ rest_ vs4 hm hs ht hx
   have hm0 := hm.mid
   have t7 := ht 7 (zH 13 _ (by kernel_rfl))
   have e7 : _ = some (vs4 7) := t7.val rfl
   rw [show vs4 7 = .tuple #[(zFV (vs4 7)), nI ((zCL c σ.l (kTm c Kc x)).2)] from t7.2.1] at e7
   replace hs := hs.learn e7
   have hs0 := hs.bare
   refine zFa hs rfl rfl ?_; clear hs; intro a w hs
   exact wpList_nil ⟨rfl, _, _, hs0, (.c .r), hs, rfl⟩
  ·
   intro a_ w_ R_ rest_ vs4 hm hs ht hx
   have hm0 := hm.mid
   have t8 := ht 8 (zH 13 _ (by kernel_rfl))
   have e8 : _ = some (vs4 8) := t8.val rfl
   rw [show vs4 8 = .tuple #[(zFV (vs4 7)), nI ((zCL c σ.l (kTm c Kc x)).2)] from t8.2.1] at e8
   replace hs := hs.learn e8
   have hs0 := hs.bare
   refine zGy hs rfl .z rfl ?_; clear hs; intro a w hs
   exact wpList_nil ⟨rfl, _, _, hs0, (.c .r), hs, rfl⟩
  ·
   intro a_ w_ R_ rest_ vs4 hm hs ht hx
   have hm0 := hm.mid
   have t8 := ht 8 (zH 13 _ (by kernel_rfl))
   have e8 : _ = some (vs4 8) := t8.val rfl
   rw [show vs4 8 = .tuple #[(zFV (vs4 7)), nI ((zCL c σ.l (kTm c Kc x)).2)] from t8.2.1] at e8
   replace hs := hs.learn e8
   have hs0 := hs.bare
   refine zGy hs rfl (.s .z) rfl ?_; clear hs; intro a w hs
   exact wpList_nil ⟨rfl, _, _, hs0, (.c .r), hs, rfl⟩
  ·
   intro a_ w_ R_ rest_ vs4 hm hs ht hx
   have hm0 := hm.mid
   have t9 := ht 9 (zH 13 _ (by kernel_rfl))
   have e9 : _ = some (vs4 9) := t9.val rfl
   rw [show vs4 9 = (zFV (vs4 7)) from t9.2.1] at e9
   replace hs := hs.learn e9
   have hs0 := hs.bare
   refine zEL hs rfl rfl ?_; clear hs; intro a w hs
   exact wpList_nil ⟨rfl, _, _, hs0, (.c .r), hs, rfl⟩
  exact zAh (m := 13) (.c (k := 10) (by kernel_rfl) rfl rfl .n) (fun hm0 hm hx => .n) (by kernel_rfl) (by kernel_rfl) rfl
 clear hs w a; intro a w vs4 gs hs hf
 replace hs : St _ _ _ _ [zF9 c (kp2.on p.k) (zP8 c Kc x), blk cg [zI c.ring, zI c.window, zI c.base, zI c.gain, zI c.least, zI c.most, zI c.slack, zI c.num, zI c.den, zI c.extra, .bool (c.curve), pt sp 0, pt p.k 0, zI (((fr : Nat) : Int) + 1)] 77, blk g1 [.bool (false), zI 0, .slice none 0 0] 36, X, row (zFV (vs4 7)) 52 6 ((zCL c σ.l (kTm c Kc x)).1.length) ((zCL c σ.l (kTm c Kc x)).1.flatMap zCJ)] _ _ := hs
 obtain ⟨e6, q6⟩ := hf 6 (by decide)
 replace e6 : _ = some (vs4 6) := e6.val rfl
 obtain ⟨q6, hL7⟩ := q6
 rw [show vs4 6 = ((gs 6).1) from q6] at e6
 replace hs := hs.learn e6; clear e6 q6
 obtain ⟨e11, q11⟩ := hf 11 (by decide)
 replace e11 : _ = some (vs4 11) := e11.val rfl
 rw [show vs4 11 = (zFV (vs4 7)) from q11] at e11
 replace hs := hs.learn e11; clear e11 q11
 generalize ((gs 6).1) = v9 at hs
 generalize ((gs 6).2) = z10 at hs hL7
 generalize zFV (vs4 7) = v11 at hs
 clear hf
 revert a w hs
 refine goE 2 [] [43, 42, 4] .n ?_
 intro a w hs; refine zG9 (it := Tryz.t36) (zs := [.bool (false), zI 0, .slice none 0 0]) (places := [(0, 1), (1, 1), (2, 1)]) hs (.c rfl (.c rfl (.c rfl .n))) underlying36 rfl rfl rfl rfl (.c rfl rfl (.z (.c .n)) (.c rfl rfl (.s (.z (.c .n))) (.c rfl (zQ (hs.mem.del (.s (.s (.s (.s .z)))))).isSl.lcells (.s (.s (.z (.c .n)))) .n))) rfl ?_
 intro a w hs; refine zAl hs rfl rfl (.s (.s .z)) (.z (.c (.c (.c .n)))) (zN rfl (zN rfl (zN (zQ (hs.mem.del (.s (.s (.s (.s .z)))))).isSl.one zAt))) sizeOf36 rfl ?_
 refine goL 0 [] [4] .n ?_
 have hS : (zE9 c (⟨σ, Kc, fr⟩ : CS) x) = ⟨true, kTm c Kc x, (zCL c σ.l (kTm c Kc x)).1⟩ := if_pos (show 0 < Kc.l2.length by assumption)
 refine cl (·.rerow (.s (.s (.s (.s .z)))) (m' := (zE9 c (⟨σ, Kc, fr⟩ : CS) x).l.length) (xs' := ((zE9 c (⟨σ, Kc, fr⟩ : CS) x).l.flatMap zCJ)) (by rw [hS]) (by rw [hS])) ?_
 refine cl (·.reorder (.c .z (.c (.s (.s .z)) (.c (.s (.s .z)) (.c (.s .z) (.c .z .n)))))) ?_
 intro a w hs; exact zKE hs rfl rfl (.s (.s (.s (.s .z)))) (.z (.c (.c (.c .n)))) isAgg36 sizeOf36 (.c (.s (.s (.s (.s .z)))) .n) ⟨v11, (kp2.on p.k), by rw [hS], rfl, rfl⟩
def Cli (g : Nat) (c : zAa) (C : CS) (Y : HA) : Prop := ∃ (sp : Nat) (p : KP) (X : HA), Sto sp c.keep C.σ X ∧ Y = zFX [(blk g [zI c.ring, zI c.window, zI c.base, zI c.gain, zI c.least, zI c.most, zI c.slack, zI c.num, zI c.den, zI c.extra, .bool (c.curve), pt sp 0, pt p.k 0, nI C.fr] 77), X, zF9 c p C.K]
theorem zRc (c : zAa) (hk : zCp c = 0) (w0 : World) : Calls Tryz.prog 25 #[.int .i64 c.ring] w0 (Ret w0 [] fun z N => ∃ p X, z = .tuple #[pt p 0, .int .i64 0] ∧ N = [X] ∧ Sto p c.keep zYt X) := by
 obtain ⟨h1, h2, h3⟩ := zQs hk
 have h := zY2 c.keep w0 ⟨h2, h3⟩
 rw [show nI c.keep = .int .i64 c.ring from congrArg (Value.int .i64) h1] at h
 exact h
theorem zR7 (c : zAa) (hk : zCp c ≠ 0) (w0 : World) : Calls Tryz.prog 8 #[.agg #[zI c.ring, zI c.window, zI c.base, zI c.gain, zI c.least, zI c.most, zI c.slack, zI c.num, zI c.den, zI c.extra, .bool (c.curve)]] w0 (zAZ w0 (.tuple #[.pointer none, nI (zCp c)])) := by
 refine zF (F0 := [(0, .agg #[zI c.ring, zI c.window, zI c.base, zI c.gain, zI c.least, zI c.most, zI c.slack, zI c.num, zI c.den, zI c.extra, .bool (c.curve)])]) func8 rfl rfl rfl (.c .n) (Mem.nil _) ?_
 refine go 4 [0, 0] [8, 1] .n (fun g1 => ⟨rfl, ?_⟩)
 intro a w hs; refine zB (v := .tuple #[.pointer none, nI (zCp c)]) hs (.c rfl .n) call24 (zS1 c hk _) rfl ?_
 refine goL 7 [] [13, 5, 4, 1] .n ?_
 refine ifG rfl (fun c_2 => ?_) (fun c_2 => ?_)
 ·
  refine go 3 [] [3, 2] .n ?_
  refine cl (·.drop (.c .z .n)) ?_
  intro a w hs; exact zBH hs rfl rfl rfl ⟨rfl, rfl⟩
 exfalso; omega
theorem zPv (c : zAa) (hk : zCp c = 0) (w0 : World) : Calls Tryz.prog 8 #[.agg #[zI c.ring, zI c.window, zI c.base, zI c.gain, zI c.least, zI c.most, zI c.slack, zI c.num, zI c.den, zI c.extra, .bool (c.curve)]] w0 (Ret w0 [] fun u N => ∃ (g : Nat) (Y : HA), u = .tuple #[pt g 0, .int .i64 0] ∧ N = [Y] ∧ Cli g c (C0 c) Y) := by
 refine zF (F0 := [(0, .agg #[zI c.ring, zI c.window, zI c.base, zI c.gain, zI c.least, zI c.most, zI c.slack, zI c.num, zI c.den, zI c.extra, .bool (c.curve)])]) func8 rfl rfl rfl (.c .n) (Mem.nil _) ?_
 refine go 4 [0, 0] [8, 1] .n (fun g1 => ⟨rfl, ?_⟩)
 intro a w hs; refine zK hs (.c rfl .n) call24 .n (zWS c hk _) rfl ?_; clear hs w a; rintro _ _ a w ⟨kp2, rfl, rfl⟩ hs
 revert a w hs
 refine goL 10 [0] [17, 4, 1] (.c (.s .z) .n) ⟨rfl, ?_⟩
 intro a w hs; refine zK hs (.c rfl .n) call25 .n (zRc c hk _) rfl ?_; clear hs w a; rintro _ _ a w ⟨g3, X4, rfl, rfl, hX5⟩ hs
 revert a w hs
 refine goL 15 [0, 0] [3, 2] (.c (.s .z) .n) ⟨rfl, fun g6 => ?_⟩
 refine cl (·.drop (.c (.s .z) .n)) ?_
 intro a w hs; replace hs := hs.memTo hs.mem.sep
 exact zBH hs rfl rfl rfl ⟨g6, _, rfl, rfl, g3, kp2, X4, hX5, rfl⟩
theorem zLd (c : zAa) (cg sp : Nat) (p : KP) (fr : Nat) (σ : Stt) (Kc : KS) (X : HA) (hX : Sto sp c.keep σ X)  (w0 : World) (hcg : (blk cg [zI c.ring, zI c.window, zI c.base, zI c.gain, zI c.least, zI c.most, zI c.slack, zI c.num, zI c.den, zI c.extra, .bool (c.curve), pt sp 0, pt p.k 0, nI fr] 77).p w0) (hXp : X.p w0) (hKp : (zF9 c p Kc).p w0) : Calls Tryz.prog 21 #[pt cg 0] w0 (zAZ w0 (nI fr)) := by
 refine zF (F0 := [(0, pt cg 0)]) func21 rfl rfl rfl (.c .n) (Mem.nil _) ?_
 refine go 7 [] [7] .n ?_
 intro a w hs; refine zV hs rfl (hs.mem.keep hcg (by simp [zM, blk])) (.s (.s (.s (.s (.s (.s (.s (.s (.s (.s (.s (.s (.s .z))))))))))))) isAgg3 rfl ?_
 refine goL 1 [] [2] .n ?_
 intro a w hs; exact fin hs rfl rfl ⟨rfl, rfl⟩
theorem zPh (c : zAa) (cg sp : Nat) (p : KP) (fr : Nat) (σ : Stt) (Kc : KS) (X : HA) (hX : Sto sp c.keep σ X) (w0 : World) (hcg : (blk cg [zI c.ring, zI c.window, zI c.base, zI c.gain, zI c.least, zI c.most, zI c.slack, zI c.num, zI c.den, zI c.extra, .bool (c.curve), pt sp 0, pt p.k 0, nI fr] 77).p w0) (hXp : X.p w0) (hKp : (zF9 c p Kc).p w0) : Calls Tryz.prog 12 #[pt cg 0] w0 (Ret w0 [] fun z N => N = [row z 2 1 σ.l.length (iV (σ.l.map zAH.t))]) := by
 have ho := hX.oks; have ho1 := ho.le; have ho2 := ho.m64
 refine zF (F0 := [(0, pt cg 0)]) func12 rfl rfl rfl (.c .n) (Mem.nil _) ?_
 refine go 6 [] [8, 3] .n ?_
 intro a w hs; refine zK hs (.c rfl .n) call30 .n (zKe c cg sp p _ σ _ hX _ (hs.mem.keep hcg (by simp [zM, blk])) (hs.mem.keepH hXp (by simp))) rfl ?_; clear hs w a; rintro u1 _ a w ⟨L2, hL3, rfl⟩ hs
 refine zAK hs rfl (zQ (hs.mem.del .z)).isSl underlying39 rfl ?_
 refine goL 1 [] [11, 10, 9, 3] .n ?_
 intro a w hs; have hivL := zEl (hs.mem.del (.s .z))
 have hlL : L2.length = σ.l.length := by rw [← zAJ, (by assumption : sns L2 = σ.l)]
 replace hs := hs.addNil 2 1
 replace hs := hs.rerow .z (m' := 0) (xs' := (iV ((L2.take 0).map RI.t))) (rfl) (rfl)
 refine zDG (fun mm_ a w => ∃ j : Nat, ∃ z : Value, mm_ = L2.length - j ∧ St 22 [(3, z), (9, u1), (10, nI L2.length), (11, zI (j : Int))] w0 [] [row z 2 1 j (iV ((L2.take j).map RI.t)), row u1 44 3 L2.length (L2.flatMap snV), rws 142 L2] a w ∧ j ≤ L2.length) ⟨0, .slice none 0 0, rfl, hs.sub (.c rfl (.c rfl (.c rfl (.c rfl .n)))), by omega⟩ ?_
 clear hs w a; rintro mm_ a w ⟨j, z, rfl, hs, hI1_0⟩
 revert a w hs
 refine go 1 [] [12, 3, 9, 10, 11] .n ?_
 refine ifG rfl (fun c_4 => ?_) (fun c_4 => ?_)
 ·
  refine go 0 [] [3, 9, 10, 11] .n ?_
  intro a w hs; refine zBy (j := j) hs rfl rfl (zQ (hs.mem.del (.s .z))) rfl (by omega) underlying39 sizeOf44 rfl ?_
  intro a w hs; refine zBm (cs := snV (L2.getD j default)) hs rfl (zQ (hs.mem.del (.s .z))) (zAo zBv L2 j (by omega)) (by rw [zAd zBv]; omega) (by omega) isAgg44 sizeOf44 rfl ?_
  refine goL 6 [50, 0] [18, 15, 9, 10, 11] .n (fun g5 => ⟨rfl, (zN rfl (zN rfl (zN (hivL _ (zFJ (by omega))).one zAt))), rfl, fun g6 => ?_⟩)
  intro a w hs; refine zBI (size := 1) (bytes := 8) hs rfl rfl (.s (.s .z)) (zAF (m := 1) (size := 1) (hs.mem.del .z) rfl (by decide)) (by simp [Value.oneCell']) underlying40 (i := Tryz.t2) rfl rfl rfl rfl rfl (by decide) (by omega) (by simp only [maxLen]; omega) rfl ?_; intro v7
  refine cl (·.drop (.c (.s .z) .n)) ?_
  refine goL 3 [] [11, 3, 9, 10] .n ⟨(by omega), ?_⟩
  refine cl (·.rerow .z (m' := (j + 1)) (xs' := (iV ((L2.take (j + 1)).map RI.t))) (rfl) (zSU (by omega))) ?_
  refine cl (·.drop (.c (.s .z) .n)) ?_
  intro a w hs; refine ⟨_, ?_, (j + 1), v7, rfl, hs.sub (.c rfl (.c rfl (.c rfl (.c rfl .n)))), by omega⟩
  omega
 refine go 2 [] [2] .n ?_
 refine cl (·.drop (.c (.s (.s .z)) (.c (.s .z) .n))) ?_
 refine cl (·.rerow .z (m' := σ.l.length) (xs' := (iV (σ.l.map zAH.t))) (by omega) (by rw [← zSJ (by assumption : sns L2 = σ.l), List.take_of_length_le (by omega)])) ?_
 intro a w hs; exact fin hs rfl rfl rfl
theorem zRf {g : Nat} {c : zAa} {C : CS} {Y : HA} (hY : Cli g c C Y) (hk : zCp c = 0) (hC : C.ok c) (hn : ∀ i, C.σ.n i ≤ 1000000) (hfr : C.fr ≤ 1000000) (x : Int) (hx : R64 x) {v : Value} {m : Nat} {bs : List zO} (w0 : World) (hp : Y.p w0) (hb : Rd w0 (zM [Y]) v 1 m (zC bs)) : Calls Tryz.prog 15 #[pt g 0, .int .i64 x, v] w0 (Ret w0 (zM [Y]) fun u N => u = nI (zJD c C (zA bs)) ∧ ∃ Y', N = [Y'] ∧ Cli g c (zTV c C x (zA bs)) Y') := by
 obtain ⟨sp, p, X, hX, rfl⟩ := hY; obtain ⟨σ, Kc, fr⟩ := C; obtain ⟨hall, hnd⟩ := hp
 rw [zBu] at hb ⊢
 refine (zT9 c g sp p fr σ Kc X x v m bs hk hC hX hn hfr hx w0 hall hnd hb).mono ?_
 rintro e w ⟨u, N, rfl, ⟨rfl, X', p', rfl, h1, h2⟩, hM⟩
 exact ⟨_, _, rfl, ⟨rfl, _, rfl, sp, p', X', h2, by rw [h1]; rfl⟩, hM.sep⟩
theorem zQL {g : Nat} {c : zAa} {C : CS} {Y : HA} (hY : Cli g c C Y) (hk : zCp c = 0) (hC : C.ok c) (hn : ∀ i, C.σ.n i ≤ 1000000) (hfr : C.fr ≤ 1000000) (x : Int) (hx : R64 x) (w0 : World) (hp : Y.p w0) : Calls Tryz.prog 22 #[pt g 0, .int .i64 x] w0 (Ret w0 (zM [Y]) fun u N => ∃ v, u = .agg #[.bool (zE9 c C x).ready, zI (zE9 c C x).time, v] ∧ ∃ Y', N = [row v 52 6 (zE9 c C x).l.length ((zE9 c C x).l.flatMap zCJ), Y'] ∧ Cli g c (zZ4 c C x) Y') := by
 obtain ⟨sp, p, X, hX, rfl⟩ := hY; obtain ⟨σ, Kc, fr⟩ := C; obtain ⟨hall, hnd⟩ := hp
 rw [zBu]
 refine (zTz c g sp p fr σ Kc X x hk hC hX hn hfr hx w0 hall hnd).mono ?_
 rintro e w ⟨u, N, rfl, ⟨v, p', rfl, rfl, h1⟩, hM⟩
 exact ⟨_, _, rfl, ⟨v, rfl, _, rfl, sp, p', X, hX, by rw [h1]; rfl⟩, Mem.resep (A := [row v 52 6 _ _]) hM⟩
theorem zOR {g : Nat} {c : zAa} {C : CS} {Y : HA} (hY : Cli g c C Y)  (w0 : World) (hp : Y.p w0) : Calls Tryz.prog 21 #[pt g 0] w0 (zAZ w0 (nI C.fr)) := by
 obtain ⟨sp, p, X, hX, rfl⟩ := hY; obtain ⟨σ, Kc, fr⟩ := C; obtain ⟨hall, hnd⟩ := hp
 exact zLd c g sp p fr σ Kc X hX w0 (hall _ (by simp)) (hall _ (by simp)) (hall _ (by simp))
theorem zTO {g : Nat} {c : zAa} {C : CS} {Y : HA} (hY : Cli g c C Y) (w0 : World) (hp : Y.p w0) : Calls Tryz.prog 12 #[pt g 0] w0 (Ret w0 [] fun z N => N = [row z 2 1 C.σ.l.length (iV (C.σ.l.map zAH.t))]) := by
 obtain ⟨sp, p, X, hX, rfl⟩ := hY; obtain ⟨σ, Kc, fr⟩ := C; obtain ⟨hall, hnd⟩ := hp
 exact zPh c g sp p fr σ Kc X hX w0 (hall _ (by simp)) (hall _ (by simp)) (hall _ (by simp))
theorem zIr  (w0 : World) : Calls Tryz.prog 17 #[.pointer (none)] w0 (zAZ w0 (zI 0)) := by
 refine zF (F0 := [(0, .pointer (none))]) func17 rfl rfl rfl (.c .n) (Mem.nil _) ?_
 refine go 5 [] [2] .n ?_
 intro a w hs; exact fin hs rfl rfl ⟨rfl, rfl⟩
theorem zGr (e : Int) (w0 : World) : Calls Tryz.prog 16 #[.pointer (none), zI e] w0 (zAZ w0 (zI 0)) := by
 refine zF (F0 := [(0, .pointer (none)), (1, zI e)]) func16 rfl rfl rfl (.c (.c .n)) (Mem.nil _) ?_
 refine go 5 [] [4] .n ?_
 intro a w hs; exact fin hs rfl rfl ⟨rfl, rfl⟩
theorem zHt  (w0 : World) : Calls Tryz.prog 21 #[.pointer (none)] w0 (zAZ w0 (zI 0)) := by
 refine zF (F0 := [(0, .pointer (none))]) func21 rfl rfl rfl (.c .n) (Mem.nil _) ?_
 refine go 5 [] [2] .n ?_
 intro a w hs; exact fin hs rfl rfl ⟨rfl, rfl⟩
theorem zIZ  (w0 : World) : Calls Tryz.prog 19 #[.pointer (none)] w0 (zAZ w0 (.tuple #[zI 0, zI 0, zI 0])) := by
 refine zF (F0 := [(0, .pointer (none))]) func19 rfl rfl rfl (.c .n) (Mem.nil _) ?_
 refine go 9 [] [4, 3, 2] .n ?_
 intro a w hs; exact zEQ hs rfl rfl rfl rfl ⟨rfl, rfl⟩
theorem zKR  (w0 : World) : Calls Tryz.prog 12 #[.pointer (none)] w0 (zAZ w0 (.slice none 0 0)) := by
 refine zF (F0 := [(0, .pointer (none))]) func12 rfl rfl rfl (.c .n) (Mem.nil _) ?_
 refine go 5 [] [2] .n ?_
 intro a w hs; exact fin hs rfl rfl ⟨rfl, rfl⟩
theorem zLW (k : Int) (w0 : World) : Calls Tryz.prog 13 #[.pointer (none), zI k] w0 (zAZ w0 (.tuple #[.agg #[zI 0, zI 0, .slice none 0 0], .bool (false)])) := by
 refine zF (F0 := [(0, .pointer (none)), (1, zI k)]) func13 rfl rfl rfl (.c (.c .n)) (Mem.nil _) ?_
 refine go 8 [0] [5, 4] .n (fun g1 => ⟨rfl, ?_⟩)
 intro a w hs; exact zBo hs rfl rfl rfl .z (.z (.c (.c (.c .n)))) isAgg44 sizeOf44 (.c .z .n) ⟨rfl, rfl⟩
theorem zHy (x : Int) (v : Value) (w0 : World) : Calls Tryz.prog 15 #[.pointer (none), zI x, v] w0 (zAZ w0 (zI 1)) := by
 refine zF (F0 := [(0, .pointer (none)), (1, zI x), (2, v)]) func15 rfl rfl rfl (.c (.c (.c .n))) (Mem.nil _) ?_
 refine go 5 [] [6] .n ?_
 intro a w hs; exact fin hs rfl rfl ⟨rfl, rfl⟩
theorem zIS (x : Int) (w0 : World) : Calls Tryz.prog 22 #[.pointer (none), zI x] w0 (zAZ w0 (.agg #[.bool (false), zI 0, .slice none 0 0])) := by
 refine zF (F0 := [(0, .pointer (none)), (1, zI x)]) func22 rfl rfl rfl (.c (.c .n)) (Mem.nil _) ?_
 refine go 6 [0] [4] .n (fun g1 => ⟨rfl, ?_⟩)
 intro a w hs; exact zKE hs rfl rfl .z (.z (.c (.c (.c .n)))) isAgg36 sizeOf36 (.c .z .n) ⟨rfl, rfl⟩
theorem zPd (ek ea : Int) (ev : Value) (m : Nat) (hev : zDV ev m) (w0 : World) : Calls Tryz.prog 11 #[.pointer (none), .agg #[zI ek, zI ea, ev]] w0 (zAZ w0 (.tuple #[.agg #[.bool (false), zI 0, .slice none 0 0], zI 1])) := by
 refine zF (F0 := [(0, .pointer (none)), (1, .agg #[zI ek, zI ea, ev])]) func11 rfl rfl rfl (.c (.c .n)) (Mem.nil _) ?_
 refine go 9 [0, 0] [5, 4] .n (fun g1 => fun g2 => ⟨rfl, ?_⟩)
 intro a w hs; exact zBo hs rfl rfl rfl .z (.z (.c (.c (.c .n)))) isAgg36 sizeOf36 (.c (.s .z) (.c .z .n)) ⟨rfl, rfl⟩
end Go.Proofs.YtemnjodhidlfpaaGreat
/- Walks of the client's example: what each function does, over the program of this seat. Printed by a program of this session. -/
namespace Go.Proofs.YtemnjodhidlfpaaGreat
open Tryz
open Go Go.Sx Go.RowKit
set_option linter.unusedVariables false
set_option linter.unusedSimpArgs false
set_option maxRecDepth 4000
set_option maxHeartbeats 1000000

theorem zXW (w0 : World) : Calls Tryz.prog 26 #[] w0 (zAZ w0 (.agg #[zI exC.ring, zI exC.window, zI exC.base, zI exC.gain, zI exC.least, zI exC.most, zI exC.slack, zI exC.num, zI exC.den, zI exC.extra, .bool (exC.curve)])) := by
 refine zF (F0 := []) func26 rfl rfl rfl .n (Mem.nil _) ?_
 refine go 3 [0] [0] .n (fun g1 => ⟨rfl, ?_⟩)
 intro a w hs; exact zKE hs rfl rfl .z (.z (.c (.c (.c (.c (.c (.c (.c (.c (.c (.c (.c .n)))))))))))) isAgg23 sizeOf23 (.c .z .n) ⟨rfl, rfl⟩
theorem zIh (t tm pl : Int) (ht : -9223372036854775808 ≤ t ∧ t ≤ 9223372036854775807) (htm : -9223372036854775808 ≤ tm ∧ tm ≤ 9223372036854775807) (hpl : -9223372036854775808 ≤ pl ∧ pl ≤ 9223372036854775807) (w0 : World) : Calls Tryz.prog 27 #[.int .i64 t, .int .i64 tm, .int .i64 pl] w0 (Ret w0 [] fun v N => N = [row v 5 1 (exB t tm pl).length (zC (exB t tm pl))]) := by
 refine zF (F0 := [(0, zI t), (1, zI tm), (2, zI pl)]) func27 rfl rfl rfl (.c (.c (.c .n))) (Mem.nil _) ?_
 refine go 8 [] [16] .n (fun g1 => ?_)
 intro a w hs; refine zK hs (.c rfl .n) call60 .n (zPV t tm (-1) _ ([exR pl]) _ (by omega) (by omega) (by omega) (zAF (m := 1) (size := 9) (hs.mem.del .z) rfl (by decide)) (zOr hpl)) rfl ?_; clear hs w a; rintro _ _ a w ⟨v2, rfl, rfl⟩ hs
 have hk3 := zIl t tm (-1) ([exR pl])
 revert a w hs
 refine goL 7 [] [6] .n ?_
 refine cl (·.drop (.c (.s .z) .n)) ?_
 intro a w hs; exact fin hs rfl rfl rfl
theorem zIw (w0 : World) : Calls Tryz.prog 10 #[] w0 (zAZ w0 (.bool true)) := by
 have e1 := zav; have e2 := zaw; have e3 := zau
 unfold zZ1 at e3; unfold zV8 at e2 e3
 refine zF (F0 := []) func10 rfl rfl rfl .n (Mem.nil _) ?_
 refine go 1 [] [] .n ?_
 intro a w hs; refine zB (v := .agg #[zI exC.ring, zI exC.window, zI exC.base, zI exC.gain, zI exC.least, zI exC.most, zI exC.slack, zI exC.num, zI exC.den, zI exC.extra, .bool (exC.curve)]) hs .n call26 (zXW _) rfl ?_
 intro a w hs; refine zK hs (.c rfl .n) call8 .n (zPv exC zV7 _) rfl ?_; clear hs w a; rintro _ _ a w ⟨g1, Y2, rfl, rfl, hY3⟩ hs
 revert a w hs
 refine goL 13 [] [17, 1] .n ?_
 intro a w hs; refine zK hs (.c rfl (.c rfl (.c rfl .n))) call27 .n (zIh 1 0 0 (by decide) (by decide) (by decide) _) rfl ?_; clear hs w a; rintro v4 _ a w rfl hs
 refine zK hs (.c rfl (.c rfl (.c rfl .n))) call15 (.c (.s .z) .n) (zRf hY3 zV7 zU8 (fun i => Nat.le_trans (Nat.le_refl 0) (by decide : 0 ≤ 1000000)) (by decide : 0 ≤ 1000000) 0 (by decide) _ (hs.mem.del (.s .z)) (hs.mem.rdrow .z (.c .z .n))) rfl ?_; clear hs w a; rintro _ _ a w ⟨rfl, Y5, rfl, hY6⟩ hs
 revert a w hs
 refine goL 1 [] [20, 19, 1] .n ?_
 intro a w hs; refine zK hs (.c rfl (.c rfl (.c rfl .n))) call27 .n (zIh 2 10 10 (by decide) (by decide) (by decide) _) rfl ?_; clear hs w a; rintro v7 _ a w rfl hs
 refine zK hs (.c rfl (.c rfl (.c rfl .n))) call15 (.c (.s .z) .n) (zRf hY6 zV7 zU6 (fun i => Nat.le_trans (zQx _ (C0 exC) _ _ i) (by decide : 1 ≤ 1000000)) (by decide : 0 ≤ 1000000) 10 (by decide) _ (hs.mem.del (.s .z)) (hs.mem.rdrow .z (.c .z .n))) rfl ?_; clear hs w a; rintro _ _ a w ⟨rfl, Y8, rfl, hY9⟩ hs
 revert a w hs
 refine goL 3 [] [23, 4, 3] .n ?_
 intro a w hs; refine zK hs (.c rfl (.c rfl .n)) call22 (.c .z .n) (zQL hY9 zV7 zY0 (fun i => Nat.le_trans (Nat.le_trans (zQx _ zV8 _ _ i) (Nat.succ_le_succ (zQx _ (C0 exC) _ _ i))) (by decide : 2 ≤ 1000000)) (by decide : 0 ≤ 1000000) 5 (by decide) _ (hs.mem.del .z)) rfl ?_; clear hs w a; rintro _ _ a w ⟨v12, rfl, Y10, rfl, hY11⟩ hs
 rw [e3] at hs
 replace hs := hs.rerow .z (m' := 1) (xs' := [zI 1, zI 5, zI 0, zI 0, .int .u16 (((0#16).toNat : Nat) : Int), zI 1]) rfl rfl
 revert a w hs
 refine goL 1 [] [5, 24, 4, 3] .n (fun g13 => ?_)
 intro a w hs; refine zAl hs rfl rfl .z (.z (.c (.c (.c .n)))) (zN rfl (zN rfl (zN (zQ (hs.mem.del (.s .z))).isSl.one zAt))) sizeOf36 rfl ?_
 refine goL 2 [] [26, 5, 4] .n ?_
 have hb_ : ((((zJD exC (C0 exC) (zA (exB 1 0 0)) : Nat) : Int) : Int) == 0) = true := by rw [e1] <;> rfl
 intro a w hs; rw [hb_] at hs; clear hb_
 revert a w hs
 refine go 3 [] [29, 27, 5] .n ?_
 have hb_ : ((((zJD exC (zTV exC (C0 exC) 0 (zA (exB 1 0 0))) (zA (exB 2 10 10)) : Nat) : Int) : Int) == 0) = true := by rw [e2] <;> rfl
 intro a w hs; rw [hb_] at hs; clear hb_
 revert a w hs
 refine go 9 [0, 0] [38, 35, 5] (.c .z .n) ⟨rfl, rfl, ?_⟩
 refine go 4 [0] [42, 40, 5] (.c .z .n) ⟨rfl, ?_⟩
 intro a w hs; refine zD hs rfl rfl rfl ?_
 refine zAK hs rfl (zQ (hs.mem.del (.s .z))).isSl underlying34 rfl ?_
 refine cl (·.recell (v' := zI 1) (Option.some.inj rfl)) ?_
 refine goL 1 [] [44, 40, 5] .n ?_
 refine go 4 [0] [48, 46, 5] (.c .z .n) ⟨rfl, ?_⟩
 intro a w hs; refine zD hs rfl rfl rfl ?_
 refine zBy (j := 0) hs rfl rfl (zQ (hs.mem.del (.s .z))) (by decide) (by omega) underlying34 sizeOf52 rfl ?_
 intro a w hs; refine zD hs rfl rfl rfl ?_
 refine zFD hs rfl (zQ (hs.mem.del (.s .z))) (by omega) underlying52 rfl sizeOf49 (by decide) (o := 0 * 6 + 1) rfl rfl ?_
 intro a w hs; refine zD hs rfl rfl rfl ?_
 refine zY8 hs rfl rfl (zQ (hs.mem.del (.s .z))) (by omega) underlying49 (by decide) (by decide) sizeOf2 (o := 0 * 6 + 1 + 0) rfl rfl ?_
 intro a w hs; refine zD hs rfl rfl rfl ?_
 refine zBi (u := zI 5) hs rfl (zQ (hs.mem.del (.s .z))) (by rfl) isAgg2 rfl ?_
 refine goL 1 [] [53, 46, 5] .n ?_
 have hb_ : ((5 : Int) == 5) = true := by decide
 intro a w hs; rw [hb_] at hs; clear hb_
 revert a w hs
 refine go 4 [0] [57, 55] (.c .z .n) ⟨rfl, ?_⟩
 intro a w hs; refine zD hs rfl rfl rfl ?_
 refine zBy (j := 0) hs rfl rfl (zQ (hs.mem.del (.s .z))) (by decide) (by omega) underlying34 sizeOf52 rfl ?_
 intro a w hs; refine zD hs rfl rfl rfl ?_
 refine zFD hs rfl (zQ (hs.mem.del (.s .z))) (by omega) underlying52 rfl sizeOf3 (by decide) (o := 0 * 6 + 5) rfl rfl ?_
 intro a w hs; refine zD hs rfl rfl rfl ?_
 refine zBi (u := zI 1) hs rfl (zQ (hs.mem.del (.s .z))) (by rfl) isAgg3 rfl ?_
 refine goL 1 [] [61, 55] .n ?_
 have hb_ : ((1 : Int) == 1) = true := by decide
 intro a w hs; rw [hb_] at hs; clear hb_
 revert a w hs
 refine go 2 [] [0] .n ?_
 refine cl (·.drop (.c (.s (.s (.s (.s .z)))) (.c (.s (.s (.s .z))) (.c (.s (.s .z)) (.c (.s .z) (.c .z .n)))))) ?_
 intro a w hs; exact fin hs rfl rfl ⟨rfl, rfl⟩
end Go.Proofs.YtemnjodhidlfpaaGreat
/- Ratios that may be, told in two ways. -/
namespace Go.Sx
theorem zS7 (c : zAa) : ((zGa c.num c.den : Nat) : Int) = 0 ↔ 1 ≤ c.num ∧ c.num ≤ 1048576 ∧ 1 ≤ c.den ∧ c.den ≤ 1048576 := by
 unfold zGa
 split <;> constructor <;> intro h <;> omega
end Go.Sx
/- Walks of the document's configs: what each function does, over the program of this seat. Printed by a program of this session. -/
namespace Go.Proofs.YtemnjodhidlfpaaGreat
open Tryz
open Go Go.Sx Go.RowKit
set_option linter.unusedVariables false
set_option linter.unusedSimpArgs false
set_option maxRecDepth 4000
set_option maxHeartbeats 1000000

theorem zHK (x : Int) (w0 : World) : Calls Tryz.prog 94 #[zI x] w0 (zAZ w0 (.bool (decide (0 ≤ x ∧ x ≤ 2305843009213693952)))) := by
 refine zF (F0 := [(0, zI x)]) func94 rfl rfl rfl (.c .n) (Mem.nil _) ?_
 refine go 4 [] [5, 0] .n ?_
 intro a w hs; refine zT (b := decide (0 ≤ x)) (fun c_1 => ?_) (fun c_1 => ?_)
 ·
  rw [c_1] at hs
  replace c_1 := of_decide_eq_true c_1
  revert a w hs
  refine go 4 [] [2] .n ?_
  intro a w hs; exact fin hs rfl rfl ⟨congrArg Value.bool (by first | (rw [decide_eq_decide]; omega) | (symm; rw [decide_eq_false_iff_not]; omega) | (symm; rw [decide_eq_true_iff]; omega)), rfl⟩
 rw [c_1] at hs
 replace c_1 := of_decide_eq_false c_1
 revert a w hs
 refine go 4 [] [2] .n ?_
 intro a w hs; exact fin hs rfl rfl ⟨congrArg Value.bool (by first | (rw [decide_eq_decide]; omega) | (symm; rw [decide_eq_false_iff_not]; omega) | (symm; rw [decide_eq_true_iff]; omega)), rfl⟩
theorem zO7 (x y : Int) (w0 : World) : Calls Tryz.prog 53 #[zI x, zI y] w0 (zAZ w0 (.bool (decide (1 ≤ x ∧ x ≤ 1048576 ∧ 1 ≤ y ∧ y ≤ 1048576)))) := by
 refine zF (F0 := [(0, zI x), (1, zI y)]) func53 rfl rfl rfl (.c (.c .n)) (Mem.nil _) ?_
 refine go 4 [] [7, 0, 1] .n ?_
 intro a w hs; refine zT (b := decide (1 ≤ x)) (fun c_1 => ?_) (fun c_1 => ?_)
 ·
  rw [c_1] at hs
  replace c_1 := of_decide_eq_true c_1
  revert a w hs
  refine go 4 [] [11, 1] .n ?_
  intro a w hs; refine zT (b := decide (x ≤ 1048576)) (fun c_2 => ?_) (fun c_2 => ?_)
  ·
   rw [c_2] at hs
   replace c_2 := of_decide_eq_true c_2
   revert a w hs
   refine go 4 [] [15, 1] .n ?_
   intro a w hs; refine zT (b := decide (1 ≤ y)) (fun c_3 => ?_) (fun c_3 => ?_)
   ·
    rw [c_3] at hs
    replace c_3 := of_decide_eq_true c_3
    revert a w hs
    refine go 4 [] [4] .n ?_
    intro a w hs; exact fin hs rfl rfl ⟨congrArg Value.bool (by first | (rw [decide_eq_decide]; omega) | (symm; rw [decide_eq_false_iff_not]; omega) | (symm; rw [decide_eq_true_iff]; omega)), rfl⟩
   rw [c_3] at hs
   replace c_3 := of_decide_eq_false c_3
   revert a w hs
   refine go 4 [] [4] .n ?_
   intro a w hs; exact fin hs rfl rfl ⟨congrArg Value.bool (by first | (rw [decide_eq_decide]; omega) | (symm; rw [decide_eq_false_iff_not]; omega) | (symm; rw [decide_eq_true_iff]; omega)), rfl⟩
  rw [c_2] at hs
  replace c_2 := of_decide_eq_false c_2
  revert a w hs
  refine go 8 [] [4] .n ?_
  intro a w hs; exact fin hs rfl rfl ⟨congrArg Value.bool (by first | (rw [decide_eq_decide]; omega) | (symm; rw [decide_eq_false_iff_not]; omega) | (symm; rw [decide_eq_true_iff]; omega)), rfl⟩
 rw [c_1] at hs
 replace c_1 := of_decide_eq_false c_1
 revert a w hs
 refine go 12 [] [4] .n ?_
 intro a w hs; exact fin hs rfl rfl ⟨congrArg Value.bool (by first | (rw [decide_eq_decide]; omega) | (symm; rw [decide_eq_false_iff_not]; omega) | (symm; rw [decide_eq_true_iff]; omega)), rfl⟩
theorem zUK (c : zAa) (w0 : World) : Calls Tryz.prog 52 #[.agg #[zI c.ring, zI c.window, zI c.base, zI c.gain, zI c.least, zI c.most, zI c.slack, zI c.num, zI c.den, zI c.extra, .bool (c.curve)]] w0 (zAZ w0 (nI (zGC c))) := by
 refine zF (F0 := [(0, .agg #[zI c.ring, zI c.window, zI c.base, zI c.gain, zI c.least, zI c.most, zI c.slack, zI c.num, zI c.den, zI c.extra, .bool (c.curve)])]) func52 rfl rfl rfl (.c .n) (Mem.nil _) ?_
 refine go 4 [0, 0] [4, 1] .n (fun g1 => ⟨rfl, ?_⟩)
 intro a w hs; refine zB (v := .bool (decide (0 ≤ c.base ∧ c.base ≤ 2305843009213693952))) hs (.c rfl .n) call94 (zHK c.base _) rfl ?_
 refine goL 2 [] [7, 1] .n ?_
 intro a w hs; refine zT (b := !(decide (0 ≤ c.base ∧ c.base ≤ 2305843009213693952))) (fun c_2 => ?_) (fun c_2 => ?_)
 ·
  rw [c_2] at hs
  replace c_2 := zEA c_2
  replace c_2 := of_decide_eq_false c_2
  revert a w hs
  refine go 29 [] [2] .n ?_
  refine cl (·.drop (.c .z .n)) ?_
  intro a w hs; exact fin hs rfl rfl ⟨congrArg (fun n : Nat => Value.int .i64 (n : Int)) (zCs (by unfold zGc; omega)), rfl⟩
 rw [c_2] at hs
 replace c_2 := zD5 c_2
 replace c_2 := of_decide_eq_true c_2
 revert a w hs
 refine go 2 [0] [9, 7, 1] (.c .z .n) ⟨rfl, ?_⟩
 intro a w hs; refine zD hs rfl rfl rfl ?_
 refine zB (v := .bool (decide (0 ≤ c.least ∧ c.least ≤ 2305843009213693952))) hs (.c rfl .n) call94 (zHK c.least _) rfl ?_
 refine goL 3 [] [13, 1] .n ?_
 intro a w hs; refine zT (b := !(decide (0 ≤ c.least ∧ c.least ≤ 2305843009213693952))) (fun c_3 => ?_) (fun c_3 => ?_)
 ·
  rw [c_3] at hs
  replace c_3 := zEA c_3
  replace c_3 := of_decide_eq_false c_3
  revert a w hs
  refine go 23 [] [2] .n ?_
  refine cl (·.drop (.c .z .n)) ?_
  intro a w hs; exact fin hs rfl rfl ⟨congrArg (fun n : Nat => Value.int .i64 (n : Int)) (zCs (by unfold zGc; omega)), rfl⟩
 rw [c_3] at hs
 replace c_3 := zD5 c_3
 replace c_3 := of_decide_eq_true c_3
 revert a w hs
 refine go 2 [0] [15, 13, 1] (.c .z .n) ⟨rfl, ?_⟩
 intro a w hs; refine zD hs rfl rfl rfl ?_
 refine zB (v := .bool (decide (0 ≤ c.most ∧ c.most ≤ 2305843009213693952))) hs (.c rfl .n) call94 (zHK c.most _) rfl ?_
 refine goL 3 [] [19, 1] .n ?_
 intro a w hs; refine zT (b := !(decide (0 ≤ c.most ∧ c.most ≤ 2305843009213693952))) (fun c_4 => ?_) (fun c_4 => ?_)
 ·
  rw [c_4] at hs
  replace c_4 := zEA c_4
  replace c_4 := of_decide_eq_false c_4
  revert a w hs
  refine go 17 [] [2] .n ?_
  refine cl (·.drop (.c .z .n)) ?_
  intro a w hs; exact fin hs rfl rfl ⟨congrArg (fun n : Nat => Value.int .i64 (n : Int)) (zCs (by unfold zGc; omega)), rfl⟩
 rw [c_4] at hs
 replace c_4 := zD5 c_4
 replace c_4 := of_decide_eq_true c_4
 revert a w hs
 refine go 2 [0] [21, 19, 1] (.c .z .n) ⟨rfl, ?_⟩
 intro a w hs; refine zD hs rfl rfl rfl ?_
 refine zB (v := .bool (decide (0 ≤ c.slack ∧ c.slack ≤ 2305843009213693952))) hs (.c rfl .n) call94 (zHK c.slack _) rfl ?_
 refine goL 3 [] [25, 1] .n ?_
 intro a w hs; refine zT (b := !(decide (0 ≤ c.slack ∧ c.slack ≤ 2305843009213693952))) (fun c_5 => ?_) (fun c_5 => ?_)
 ·
  rw [c_5] at hs
  replace c_5 := zEA c_5
  replace c_5 := of_decide_eq_false c_5
  revert a w hs
  refine go 11 [] [2] .n ?_
  refine cl (·.drop (.c .z .n)) ?_
  intro a w hs; exact fin hs rfl rfl ⟨congrArg (fun n : Nat => Value.int .i64 (n : Int)) (zCs (by unfold zGc; omega)), rfl⟩
 rw [c_5] at hs
 replace c_5 := zD5 c_5
 replace c_5 := of_decide_eq_true c_5
 revert a w hs
 refine go 5 [0] [30, 1] (.c .z .n) ⟨rfl, ?_⟩
 intro a w hs; refine zT (b := decide (c.gain < 0)) (fun c_6 => ?_) (fun c_6 => ?_)
 ·
  rw [c_6] at hs
  replace c_6 := of_decide_eq_true c_6
  revert a w hs
  refine go 6 [] [2] .n ?_
  refine cl (·.drop (.c .z .n)) ?_
  intro a w hs; exact fin hs rfl rfl ⟨congrArg (fun n : Nat => Value.int .i64 (n : Int)) (zCs (by unfold zGc; omega)), rfl⟩
 rw [c_6] at hs
 replace c_6 := of_decide_eq_false c_6
 revert a w hs
 refine go 4 [0] [34, 1] (.c .z .n) ⟨rfl, ?_⟩
 refine ifG rfl (fun c_7 => ?_) (fun c_7 => ?_)
 ·
  refine go 1 [] [2] .n ?_
  refine cl (·.drop (.c .z .n)) ?_
  intro a w hs; exact fin hs rfl rfl ⟨congrArg (fun n : Nat => Value.int .i64 (n : Int)) (zCs (by unfold zGc; omega)), rfl⟩
 refine go 5 [0, 0] [39] (.c .z .n) ⟨rfl, rfl, ?_⟩
 refine ifG rfl (fun c_8 => ?_) (fun c_8 => ?_)
 ·
  refine go 1 [] [2] .n ?_
  refine cl (·.drop (.c .z .n)) ?_
  intro a w hs; exact fin hs rfl rfl ⟨congrArg (fun n : Nat => Value.int .i64 (n : Int)) (zPq (by unfold zGc; omega) (by omega)), rfl⟩
 refine go 1 [] [2] .n ?_
 refine cl (·.drop (.c .z .n)) ?_
 intro a w hs; exact fin hs rfl rfl ⟨congrArg (fun n : Nat => Value.int .i64 (n : Int)) (zUn (by unfold zGc; omega) (by omega)), rfl⟩
theorem zTn (c : zAa) (w0 : World) : Calls Tryz.prog 23 #[.agg #[zI c.ring, zI c.window, zI c.base, zI c.gain, zI c.least, zI c.most, zI c.slack, zI c.num, zI c.den, zI c.extra, .bool (c.curve)]] w0 (zAZ w0 (nI (zCp c))) := by
 refine zF (F0 := [(0, .agg #[zI c.ring, zI c.window, zI c.base, zI c.gain, zI c.least, zI c.most, zI c.slack, zI c.num, zI c.den, zI c.extra, .bool (c.curve)])]) func23 rfl rfl rfl (.c .n) (Mem.nil _) ?_
 refine go 6 [0, 0] [7, 1] .n (fun g1 => ⟨rfl, ?_⟩)
 intro a w hs; refine zT (b := decide (c.ring < 1)) (fun c_2 => ?_) (fun c_2 => ?_)
 ·
  rw [c_2] at hs
  replace c_2 := of_decide_eq_true c_2
  revert a w hs
  refine go 16 [] [2] .n ?_
  refine cl (·.drop (.c .z .n)) ?_
  intro a w hs; exact fin hs rfl rfl ⟨congrArg (fun n : Nat => Value.int .i64 (n : Int)) (zGm (by unfold zGk; omega)), rfl⟩
 rw [c_2] at hs
 replace c_2 := of_decide_eq_false c_2
 revert a w hs
 refine go 5 [0] [12, 1] (.c .z .n) ⟨rfl, ?_⟩
 intro a w hs; refine zT (b := decide (64 < c.ring)) (fun c_3 => ?_) (fun c_3 => ?_)
 ·
  rw [c_3] at hs
  replace c_3 := of_decide_eq_true c_3
  revert a w hs
  refine go 11 [] [2] .n ?_
  refine cl (·.drop (.c .z .n)) ?_
  intro a w hs; exact fin hs rfl rfl ⟨congrArg (fun n : Nat => Value.int .i64 (n : Int)) (zGm (by unfold zGk; omega)), rfl⟩
 rw [c_3] at hs
 replace c_3 := of_decide_eq_false c_3
 revert a w hs
 refine go 5 [0] [17, 1] (.c .z .n) ⟨rfl, ?_⟩
 intro a w hs; refine zT (b := decide (c.window < 1)) (fun c_4 => ?_) (fun c_4 => ?_)
 ·
  rw [c_4] at hs
  replace c_4 := of_decide_eq_true c_4
  revert a w hs
  refine go 6 [] [2] .n ?_
  refine cl (·.drop (.c .z .n)) ?_
  intro a w hs; exact fin hs rfl rfl ⟨congrArg (fun n : Nat => Value.int .i64 (n : Int)) (zGm (by unfold zGk; omega)), rfl⟩
 rw [c_4] at hs
 replace c_4 := of_decide_eq_false c_4
 revert a w hs
 refine go 4 [0] [21, 1] (.c .z .n) ⟨rfl, ?_⟩
 refine ifG rfl (fun c_5 => ?_) (fun c_5 => ?_)
 ·
  refine go 1 [] [2] .n ?_
  refine cl (·.drop (.c .z .n)) ?_
  intro a w hs; exact fin hs rfl rfl ⟨congrArg (fun n : Nat => Value.int .i64 (n : Int)) (zGm (by unfold zGk; omega)), rfl⟩
 refine go 1 [0] [22, 1] (.c .z .n) ⟨rfl, ?_⟩
 intro a w hs; refine zB (v := nI (zGC c)) hs (.c rfl .n) call52 (zUK c _) rfl ?_
 refine goL 3 [] [25, 3, 1] .n ?_
 refine ifG rfl (fun c_6 => ?_) (fun c_6 => ?_)
 ·
  refine go 2 [] [2] .n ?_
  refine cl (·.drop (.c .z .n)) ?_
  intro a w hs; exact fin hs rfl rfl ⟨congrArg (fun n : Nat => Value.int .i64 (n : Int)) (zUm (by unfold zGk; omega) (by assumption)), rfl⟩
 refine go 4 [0, 0] [30, 28, 1] (.c .z .n) ⟨rfl, rfl, ?_⟩
 intro a w hs; refine zB (v := .bool (decide (1 ≤ c.num ∧ c.num ≤ 1048576 ∧ 1 ≤ c.den ∧ c.den ≤ 1048576))) hs (.c rfl (.c rfl .n)) call53 (zO7 c.num c.den _) rfl ?_
 refine goL 2 [] [33, 1] .n ?_
 intro a w hs; refine zT (b := !(decide (1 ≤ c.num ∧ c.num ≤ 1048576 ∧ 1 ≤ c.den ∧ c.den ≤ 1048576))) (fun c_7 => ?_) (fun c_7 => ?_)
 ·
  rw [c_7] at hs
  replace c_7 := zEA c_7
  replace c_7 := of_decide_eq_false c_7
  revert a w hs
  refine go 11 [] [2] .n ?_
  refine cl (·.drop (.c .z .n)) ?_
  intro a w hs; exact fin hs rfl rfl ⟨congrArg (fun n : Nat => Value.int .i64 (n : Int)) (zIk (by unfold zGk; omega) (by assumption) (by have := zS7 c; omega)), rfl⟩
 rw [c_7] at hs
 replace c_7 := zD5 c_7
 replace c_7 := of_decide_eq_true c_7
 revert a w hs
 refine go 5 [0] [38, 1] (.c .z .n) ⟨rfl, ?_⟩
 intro a w hs; refine zT (b := decide (c.extra < 0)) (fun c_8 => ?_) (fun c_8 => ?_)
 ·
  rw [c_8] at hs
  replace c_8 := of_decide_eq_true c_8
  revert a w hs
  refine go 6 [] [2] .n ?_
  refine cl (·.drop (.c .z .n)) ?_
  intro a w hs; exact fin hs rfl rfl ⟨congrArg (fun n : Nat => Value.int .i64 (n : Int)) (zIk (by unfold zGk; omega) (by assumption) (by have := zS7 c; omega)), rfl⟩
 rw [c_8] at hs
 replace c_8 := of_decide_eq_false c_8
 revert a w hs
 refine go 4 [0] [42] (.c .z .n) ⟨rfl, ?_⟩
 refine ifG rfl (fun c_9 => ?_) (fun c_9 => ?_)
 ·
  refine go 1 [] [2] .n ?_
  refine cl (·.drop (.c .z .n)) ?_
  intro a w hs; exact fin hs rfl rfl ⟨congrArg (fun n : Nat => Value.int .i64 (n : Int)) (zIk (by unfold zGk; omega) (by assumption) (by have := zS7 c; omega)), rfl⟩
 refine go 1 [] [2] .n ?_
 refine cl (·.drop (.c .z .n)) ?_
 intro a w hs; exact fin hs rfl rfl ⟨congrArg (fun n : Nat => Value.int .i64 (n : Int)) (zVF (by unfold zGk; omega) (by assumption) (by have := zS7 c; omega)), rfl⟩
end Go.Proofs.YtemnjodhidlfpaaGreat
/- Rows' arguments: configs, events. -/
set_option linter.unusedVariables false
set_option linter.unusedSimpArgs false
namespace Go.Sx
open Go.RowKit Go.ChangeShapes Go.WideShapes
variable {W : World}
theorem zaK {c : List Value} (h : AllK W c [.i .u8]) : ∃ b : zO, c = [zLB b] := by
 obtain ⟨u, us, rfl, h1, h2⟩ := h.split
 rw [h2.none]
 cases h1 with
 | i w =>
   obtain ⟨X, hX⟩ := zHk w
   exact ⟨X, by rw [hX]; rfl⟩
theorem zQj {α : Type} (f : α → Value) : ∀ (l : List α), (l.flatMap fun x => [f x]) = l.map f
 | [] => rfl
 | a :: l => by simp [zQj f l]
def zax (c : zAa) : List Value := [.int .i64 c.ring, .int .i64 c.window, .int .i64 c.base, .int .i64 c.gain, .int .i64 c.least, .int .i64 c.most, .int .i64 c.slack, .int .i64 c.num, .int .i64 c.den, .int .i64 c.extra, .bool c.curve]
theorem OneK.boo {v : Value} (h : OneK W v .b) : ∃ b : Bool, v = .bool b := by cases h; exact ⟨_, rfl⟩
theorem zYm {cs : List Value} (h : AllK W cs [.i .i64, .i .i64, .i .i64, .i .i64, .i .i64, .i .i64, .i .i64, .i .i64, .i .i64, .i .i64, .b]) : ∃ c : zAa, cs = zax c := by
 obtain ⟨_, _, rfl, h1, h⟩ := h.split
 obtain ⟨_, _, rfl, h2, h⟩ := h.split
 obtain ⟨_, _, rfl, h3, h⟩ := h.split
 obtain ⟨_, _, rfl, h4, h⟩ := h.split
 obtain ⟨_, _, rfl, h5, h⟩ := h.split
 obtain ⟨_, _, rfl, h6, h⟩ := h.split
 obtain ⟨_, _, rfl, h7, h⟩ := h.split
 obtain ⟨_, _, rfl, h8, h⟩ := h.split
 obtain ⟨_, _, rfl, h9, h⟩ := h.split
 obtain ⟨_, _, rfl, h10, h⟩ := h.split
 obtain ⟨_, _, rfl, h11, h⟩ := h.split
 obtain rfl := h.none
 obtain ⟨z1, rfl, _⟩ := h1.i64
 obtain ⟨z2, rfl, _⟩ := h2.i64
 obtain ⟨z3, rfl, _⟩ := h3.i64
 obtain ⟨z4, rfl, _⟩ := h4.i64
 obtain ⟨z5, rfl, _⟩ := h5.i64
 obtain ⟨z6, rfl, _⟩ := h6.i64
 obtain ⟨z7, rfl, _⟩ := h7.i64
 obtain ⟨z8, rfl, _⟩ := h8.i64
 obtain ⟨z9, rfl, _⟩ := h9.i64
 obtain ⟨z10, rfl, _⟩ := h10.i64
 obtain ⟨b, rfl⟩ := h11.boo
 exact ⟨⟨z1, z2, z3, z4, z5, z6, z7, z8, z9, z10, b⟩, rfl⟩
structure EvR where
 k : Int
 at_ : Int
 v : Value
 bs : List zO
instance : Inhabited EvR := ⟨⟨0, 0, .slice none 0 0, []⟩⟩
def evV (x : EvR) : List Value := [.int .i64 x.k, .int .i64 x.at_, x.v]
structure EvR.ok (W : World) (x : EvR) : Prop where
 k : R64 x.k
 at_ : R64 x.at_
 rd : Rd W [] x.v 1 x.bs.length (zC x.bs)
theorem zaJ {c : List Value} (h : AllK W c [.i .i64, .i .i64, .s 1 [.i .u8]]) : ∃ x : EvR, c = evV x ∧ x.ok W := by
 obtain ⟨_, _, rfl, h1, h⟩ := h.split
 obtain ⟨_, _, rfl, h2, h⟩ := h.split
 obtain ⟨_, _, rfl, h3, h⟩ := h.split
 obtain rfl := h.none
 obtain ⟨z1, rfl, w1⟩ := h1.i64
 obtain ⟨z2, rfl, w2⟩ := h2.i64
 obtain ⟨len, f, hf, hr⟩ := h3.sl
 obtain ⟨bs, hl, he⟩ := zPt (g := fun b : zO => [zLB b]) len fun i hi => zaK (hf i hi)
 rw [he, zQj] at hr
 rw [← hl] at hr
 exact ⟨⟨z1, z2, _, bs⟩, rfl, ⟨w1, w2, hr⟩⟩
end Go.Sx
