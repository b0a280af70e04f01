import Derived.Test.YtemnjodhidlfpaaGreatQG8
import Derived.Test.YtemnjodhidlfpaaGreatQG23
import Derived.Test.YtemnjodhidlfpaaGreatQG15
import Derived.Test.YtemnjodhidlfpaaGreatQSxBasB
import Derived.Test.YtemnjodhidlfpaaGreatQSxGrams
/- Walks of the client's example: what each function does, over the program of this seat. Printed by a program of this session. -/
namespace Go.Proofs.YtemnjodhidlfpaaGreat
open Tryz
open Go Go.Sx Go.RowKit
set_option linter.unusedVariables false
set_option linter.unusedSimpArgs false
set_option maxRecDepth 4000
set_option maxHeartbeats 1000000

theorem zX6 (w0 : World) : Calls Tryz.prog 26 #[] w0 (zAc w0 (.agg #[zI exC.ring, zI exC.window, zI exC.base, zI exC.gain, zI exC.least, zI exC.most, zI exC.slack, zI exC.num, zI exC.den, zI exC.extra, .bool (exC.curve)])) := by
 refine zF (F0 := []) func26 rfl rfl rfl .n (Mem.nil _) ?_
 refine go 3 [0] [0] .n (fun g1 => ⟨rfl, ?_⟩)
 intro a w hs; exact zKM hs rfl rfl .z (.z (.c (.c (.c (.c (.c (.c (.c (.c (.c (.c (.c .n)))))))))))) isAgg23 sizeOf23 (.c .z .n) ⟨rfl, rfl⟩
theorem zIx (t tm pl : Int) (ht : -9223372036854775808 ≤ t ∧ t ≤ 9223372036854775807) (htm : -9223372036854775808 ≤ tm ∧ tm ≤ 9223372036854775807) (hpl : -9223372036854775808 ≤ pl ∧ pl ≤ 9223372036854775807) (w0 : World) : Calls Tryz.prog 27 #[.int .i64 t, .int .i64 tm, .int .i64 pl] w0 (Ret w0 [] fun v N => N = [row v 5 1 (exB t tm pl).length (zC (exB t tm pl))]) := by
 refine zF (F0 := [(0, zI t), (1, zI tm), (2, zI pl)]) func27 rfl rfl rfl (.c (.c (.c .n))) (Mem.nil _) ?_
 refine go 8 [] [16] .n (fun g1 => ?_)
 intro a w hs; refine zL hs (.c rfl .n) call60 .n (zQV t tm (-1) _ ([exR pl]) _ (by omega) (by omega) (by omega) (zAH (m := 1) (size := 9) (hs.mem.del .z) rfl (by decide)) (zRD hpl)) rfl ?_; clear hs w a; rintro _ _ a w ⟨v2, rfl, rfl⟩ hs
 have hk3 := zIk t tm (-1) ([exR pl])
 revert a w hs
 refine goL 7 [] [6] .n ?_
 refine cl (·.drop (.c (.s .z) .n)) ?_
 intro a w hs; exact fin hs rfl rfl rfl
theorem zGg (w0 : World) : Calls Tryz.prog 10 #[] w0 (zAc w0 (.bool true)) := by
 have e1 := za2; have e2 := zax; have e3 := zay
 unfold zZ6 at e3; unfold zVr at e2 e3
 refine zF (F0 := []) func10 rfl rfl rfl .n (Mem.nil _) ?_
 refine go 1 [] [] .n ?_
 intro a w hs; refine zB (v := .agg #[zI exC.ring, zI exC.window, zI exC.base, zI exC.gain, zI exC.least, zI exC.most, zI exC.slack, zI exC.num, zI exC.den, zI exC.extra, .bool (exC.curve)]) hs .n call26 (zX6 _) rfl ?_
 intro a w hs; refine zL hs (.c rfl .n) call8 .n (zRd exC zXI _) rfl ?_; clear hs w a; rintro _ _ a w ⟨g1, Y2, rfl, rfl, hY3⟩ hs
 revert a w hs
 refine goL 13 [] [17, 1] .n ?_
 intro a w hs; refine zL hs (.c rfl (.c rfl (.c rfl .n))) call27 .n (zIx 1 0 0 (by decide) (by decide) (by decide) _) rfl ?_; clear hs w a; rintro v4 _ a w rfl hs
 refine zL hs (.c rfl (.c rfl (.c rfl .n))) call15 (.c (.s .z) .n) (zL7 hY3 zXI zU5 (fun i => Nat.le_trans (Nat.le_refl 0) (by decide : 0 ≤ 1000000)) (by decide : 0 ≤ 1000000) 0 (by decide) _ (hs.mem.del (.s .z)) (hs.mem.rdrow .z (.c .z .n))) rfl ?_; clear hs w a; rintro _ _ a w ⟨rfl, Y5, rfl, hY6⟩ hs
 revert a w hs
 refine goL 1 [] [20, 19, 1] .n ?_
 intro a w hs; refine zL hs (.c rfl (.c rfl (.c rfl .n))) call27 .n (zIx 2 10 10 (by decide) (by decide) (by decide) _) rfl ?_; clear hs w a; rintro v7 _ a w rfl hs
 refine zL hs (.c rfl (.c rfl (.c rfl .n))) call15 (.c (.s .z) .n) (zL7 hY6 zXI zUn (fun i => Nat.le_trans (zNZ _ (C0 exC) _ _ i) (by decide : 1 ≤ 1000000)) (by decide : 0 ≤ 1000000) 10 (by decide) _ (hs.mem.del (.s .z)) (hs.mem.rdrow .z (.c .z .n))) rfl ?_; clear hs w a; rintro _ _ a w ⟨rfl, Y8, rfl, hY9⟩ hs
 revert a w hs
 refine goL 3 [] [23, 4, 3] .n ?_
 intro a w hs; refine zL hs (.c rfl (.c rfl .n)) call22 (.c .z .n) (zYA hY9 zXI zZj (fun i => Nat.le_trans (Nat.le_trans (zNZ _ zVr _ _ i) (Nat.succ_le_succ (zNZ _ (C0 exC) _ _ i))) (by decide : 2 ≤ 1000000)) (by decide : 0 ≤ 1000000) 5 (by decide) _ (hs.mem.del .z)) rfl ?_; clear hs w a; rintro _ _ a w ⟨v12, rfl, Y10, rfl, hY11⟩ hs
 rw [e3] at hs
 replace hs := hs.rerow .z (m' := 1) (xs' := [zI 1, zI 5, zI 0, zI 0, .int .u16 (((0#16).toNat : Nat) : Int), zI 1]) rfl rfl
 revert a w hs
 refine goL 1 [] [5, 24, 4, 3] .n (fun g13 => ?_)
 intro a w hs; refine zAv hs rfl rfl .z (.z (.c (.c (.c .n)))) (zN rfl (zN rfl (zN (zQ (hs.mem.del (.s .z))).isSl.one zAn))) sizeOf36 rfl ?_
 refine goL 2 [] [26, 5, 4] .n ?_
 have hb_ : ((((zBb exC (C0 exC) (zA (exB 1 0 0)) : Nat) : Int) : Int) == 0) = true := by rw [e1] <;> rfl
 intro a w hs; rw [hb_] at hs; clear hb_
 revert a w hs
 refine go 3 [] [29, 27, 5] .n ?_
 have hb_ : ((((zBb exC (zOQ exC (C0 exC) 0 (zA (exB 1 0 0))) (zA (exB 2 10 10)) : Nat) : Int) : Int) == 0) = true := by rw [e2] <;> rfl
 intro a w hs; rw [hb_] at hs; clear hb_
 revert a w hs
 refine go 9 [0, 0] [38, 35, 5] (.c .z .n) ⟨rfl, rfl, ?_⟩
 refine go 4 [0] [42, 40, 5] (.c .z .n) ⟨rfl, ?_⟩
 intro a w hs; refine zD hs rfl rfl rfl ?_
 refine zAI hs rfl (zQ (hs.mem.del (.s .z))).isSl underlying34 rfl ?_
 refine cl (·.recell (v' := zI 1) (Option.some.inj rfl)) ?_
 refine goL 1 [] [44, 40, 5] .n ?_
 refine go 4 [0] [48, 46, 5] (.c .z .n) ⟨rfl, ?_⟩
 intro a w hs; refine zD hs rfl rfl rfl ?_
 refine zBo (j := 0) hs rfl rfl (zQ (hs.mem.del (.s .z))) (by decide) (by omega) underlying34 sizeOf52 rfl ?_
 intro a w hs; refine zD hs rfl rfl rfl ?_
 refine zFA hs rfl (zQ (hs.mem.del (.s .z))) (by omega) underlying52 rfl sizeOf49 (by decide) (o := 0 * 6 + 1) rfl rfl ?_
 intro a w hs; refine zD hs rfl rfl rfl ?_
 refine zYv hs rfl rfl (zQ (hs.mem.del (.s .z))) (by omega) underlying49 (by decide) (by decide) sizeOf2 (o := 0 * 6 + 1 + 0) rfl rfl ?_
 intro a w hs; refine zD hs rfl rfl rfl ?_
 refine zBk (u := zI 5) hs rfl (zQ (hs.mem.del (.s .z))) (by rfl) isAgg2 rfl ?_
 refine goL 1 [] [53, 46, 5] .n ?_
 have hb_ : ((5 : Int) == 5) = true := by decide
 intro a w hs; rw [hb_] at hs; clear hb_
 revert a w hs
 refine go 4 [0] [57, 55] (.c .z .n) ⟨rfl, ?_⟩
 intro a w hs; refine zD hs rfl rfl rfl ?_
 refine zBo (j := 0) hs rfl rfl (zQ (hs.mem.del (.s .z))) (by decide) (by omega) underlying34 sizeOf52 rfl ?_
 intro a w hs; refine zD hs rfl rfl rfl ?_
 refine zFA hs rfl (zQ (hs.mem.del (.s .z))) (by omega) underlying52 rfl sizeOf3 (by decide) (o := 0 * 6 + 5) rfl rfl ?_
 intro a w hs; refine zD hs rfl rfl rfl ?_
 refine zBk (u := zI 1) hs rfl (zQ (hs.mem.del (.s .z))) (by rfl) isAgg3 rfl ?_
 refine goL 1 [] [61, 55] .n ?_
 have hb_ : ((1 : Int) == 1) = true := by decide
 intro a w hs; rw [hb_] at hs; clear hb_
 revert a w hs
 refine go 2 [] [0] .n ?_
 refine cl (·.drop (.c (.s (.s (.s (.s .z)))) (.c (.s (.s (.s .z))) (.c (.s (.s .z)) (.c (.s .z) (.c .z .n)))))) ?_
 intro a w hs; exact fin hs rfl rfl ⟨rfl, rfl⟩
end Go.Proofs.YtemnjodhidlfpaaGreat
/- Rows' arguments: configs, events. -/
set_option linter.unusedVariables false
set_option linter.unusedSimpArgs false
namespace Go.Sx
open Go.RowKit Go.ChangeShapes Go.WideShapes
variable {W : World}
theorem zaW {c : List Value} (h : AllK W c [.i .u8]) : ∃ b : zO, c = [zKT b] := by
 obtain ⟨u, us, rfl, h1, h2⟩ := h.split
 rw [h2.none]
 cases h1 with
 | i w =>
   obtain ⟨X, hX⟩ := zH4 w
   exact ⟨X, by rw [hX]; rfl⟩
theorem zPB {α : Type} (f : α → Value) : ∀ (l : List α), (l.flatMap fun x => [f x]) = l.map f
 | [] => rfl
 | a :: l => by simp [zPB f l]
def za3 (c : zAV) : List Value := [.int .i64 c.ring, .int .i64 c.window, .int .i64 c.base, .int .i64 c.gain, .int .i64 c.least, .int .i64 c.most, .int .i64 c.slack, .int .i64 c.num, .int .i64 c.den, .int .i64 c.extra, .bool c.curve]
theorem OneK.boo {v : Value} (h : OneK W v .b) : ∃ b : Bool, v = .bool b := by cases h; exact ⟨_, rfl⟩
theorem zYd {cs : List Value} (h : AllK W cs [.i .i64, .i .i64, .i .i64, .i .i64, .i .i64, .i .i64, .i .i64, .i .i64, .i .i64, .i .i64, .b]) : ∃ c : zAV, cs = za3 c := by
 obtain ⟨_, _, rfl, h1, h⟩ := h.split
 obtain ⟨_, _, rfl, h2, h⟩ := h.split
 obtain ⟨_, _, rfl, h3, h⟩ := h.split
 obtain ⟨_, _, rfl, h4, h⟩ := h.split
 obtain ⟨_, _, rfl, h5, h⟩ := h.split
 obtain ⟨_, _, rfl, h6, h⟩ := h.split
 obtain ⟨_, _, rfl, h7, h⟩ := h.split
 obtain ⟨_, _, rfl, h8, h⟩ := h.split
 obtain ⟨_, _, rfl, h9, h⟩ := h.split
 obtain ⟨_, _, rfl, h10, h⟩ := h.split
 obtain ⟨_, _, rfl, h11, h⟩ := h.split
 obtain rfl := h.none
 obtain ⟨z1, rfl, _⟩ := h1.i64
 obtain ⟨z2, rfl, _⟩ := h2.i64
 obtain ⟨z3, rfl, _⟩ := h3.i64
 obtain ⟨z4, rfl, _⟩ := h4.i64
 obtain ⟨z5, rfl, _⟩ := h5.i64
 obtain ⟨z6, rfl, _⟩ := h6.i64
 obtain ⟨z7, rfl, _⟩ := h7.i64
 obtain ⟨z8, rfl, _⟩ := h8.i64
 obtain ⟨z9, rfl, _⟩ := h9.i64
 obtain ⟨z10, rfl, _⟩ := h10.i64
 obtain ⟨b, rfl⟩ := h11.boo
 exact ⟨⟨z1, z2, z3, z4, z5, z6, z7, z8, z9, z10, b⟩, rfl⟩
structure EvR where
 k : Int
 at_ : Int
 v : Value
 bs : List zO
instance : Inhabited EvR := ⟨⟨0, 0, .slice none 0 0, []⟩⟩
def evV (x : EvR) : List Value := [.int .i64 x.k, .int .i64 x.at_, x.v]
theorem zJU (x : EvR) : (evV x).length = 3 := rfl
structure EvR.ok (W : World) (x : EvR) : Prop where
 k : R64 x.k
 at_ : R64 x.at_
 rd : Rd W [] x.v 1 x.bs.length (zC x.bs)
theorem zah {c : List Value} (h : AllK W c [.i .i64, .i .i64, .s 1 [.i .u8]]) : ∃ x : EvR, c = evV x ∧ x.ok W := by
 obtain ⟨_, _, rfl, h1, h⟩ := h.split
 obtain ⟨_, _, rfl, h2, h⟩ := h.split
 obtain ⟨_, _, rfl, h3, h⟩ := h.split
 obtain rfl := h.none
 obtain ⟨z1, rfl, w1⟩ := h1.i64
 obtain ⟨z2, rfl, w2⟩ := h2.i64
 obtain ⟨len, f, hf, hr⟩ := h3.sl
 obtain ⟨bs, hl, he⟩ := zQT (g := fun b : zO => [zKT b]) len fun i hi => zaW (hf i hi)
 rw [he, zPB] at hr
 rw [← hl] at hr
 exact ⟨⟨z1, z2, _, bs⟩, rfl, ⟨w1, w2, hr⟩⟩
theorem zSC {H : Type} {enc : TypeId × Value → H} {P : Program} {t e : TypeId} {a : Option Addr} {len cap m : Nat} {dd : DataW H} {p : List MemPlace} (hu : P.underlying t = some (.slice e)) (hk : zFj P m t = some [.s 3 [.i .i64, .i .i64, .s 1 [.i .u8]]]) (h : DataW.Trod enc P W 0 (fun _ => true) true t (.slice a len cap) dd p) :
   ∃ L : List EvR, Rd W [] (.slice a len cap) 3 L.length (L.flatMap evV) ∧ ∀ x ∈ L, x.ok W := by
 obtain ⟨f, hf, hr⟩ := zLs hu hk h
 obtain ⟨l, hl, he, hp⟩ := zNO (g := evV) (p := fun x : EvR => x.ok W) len fun i hi => zah (hf i hi)
 subst hl
 rw [he] at hr
 exact ⟨l, hr, hp⟩
end Go.Sx
/- A client's counts: plain mathematics. -/
set_option linter.unusedVariables false
namespace Go.Sx
theorem zTe (c : zAV) (C : CS) (x : Int) (G : zCw) : (zOQ c C x G).σ.n = zAe C.σ.n (zBb c C G) := by
 show (zCV _ _ _).n = zAe _ (zBd _ _ _ _ _)
 unfold zCV
 split
 · rename_i h; rw [h]
 · rfl
theorem zSb {c : zAV} {C : CS} {bs : List zO} : zBb c C (zA bs) ≤ 17 := zPg
theorem zSH {c : zAV} {C : CS} {x : Int} {G : zCw} (h : C.σ.l.length ≤ C.σ.n 0) : (zOQ c C x G).σ.l.length ≤ (zOQ c C x G).σ.n 0 := by
 show (zCV _ _ _).l.length ≤ (zCV _ _ _).n 0
 unfold zCV
 split
 · show (zJR _ _ _).length ≤ zAe _ 0 0
   have hb : zAe C.σ.n 0 0 = C.σ.n 0 + 1 := if_pos rfl
   have hk : ∀ (l : List zAE) (i : Nat) (y : zAE), (zB8 l i y).length ≤ l.length + 1 := fun l i y => by
     unfold zB8; simp only [List.length_append, List.length_cons, List.length_take, List.length_drop]; omega
   rw [hb]
   unfold zJR
   split
   · exact Nat.le_trans (hk _ _ _) (Nat.succ_le_succ h)
   · rw [List.length_drop]
     exact Nat.le_trans (Nat.sub_le _ _) (Nat.le_trans (hk _ _ _) (Nat.succ_le_succ h))
 · show C.σ.l.length ≤ zAe _ _ 0
   unfold zAe
   split <;> omega
theorem zZV {n : Nat → Nat} {i : Nat} (h1 : 1 ≤ i) (h2 : i ≤ 17) : zE6 n (i : Int) = n i := by
 unfold zE6; rw [if_pos (by omega), Int.toNat_natCast]
theorem zZO (n : Nat → Nat) : zE6 n 0 = 0 := if_neg (by omega)
theorem zNT {N : Nat → Nat} {e : Nat} (h : e < 18) : ([nI (N 0), nI (N 1), nI (N 2), nI (N 3), nI (N 4), nI (N 5), nI (N 6), nI (N 7), nI (N 8), nI (N 9), nI (N 10), nI (N 11), nI (N 12), nI (N 13), nI (N 14), nI (N 15), nI (N 16), nI (N 17)] : List Value)[0 + e]? = some (nI (N e)) := by
 rcases zZ9 h with rfl | rfl | rfl | rfl | rfl | rfl | rfl | rfl | rfl | rfl | rfl | rfl | rfl | rfl | rfl | rfl | rfl | rfl <;> rfl
theorem zR5 {N : Nat → Nat} {e : Nat} (h : e < 18) : ([nI (N 0), nI (N 1), nI (N 2), nI (N 3), nI (N 4), nI (N 5), nI (N 6), nI (N 7), nI (N 8), nI (N 9), nI (N 10), nI (N 11), nI (N 12), nI (N 13), nI (N 14), nI (N 15), nI (N 16), nI (N 17)] : List Value).set (0 + e) (zI (((N e : Nat) : Int) + 1)) = [nI (zAe N e 0), nI (zAe N e 1), nI (zAe N e 2), nI (zAe N e 3), nI (zAe N e 4), nI (zAe N e 5), nI (zAe N e 6), nI (zAe N e 7), nI (zAe N e 8), nI (zAe N e 9), nI (zAe N e 10), nI (zAe N e 11), nI (zAe N e 12), nI (zAe N e 13), nI (zAe N e 14), nI (zAe N e 15), nI (zAe N e 16), nI (zAe N e 17)] := by
 rcases zZ9 h with rfl | rfl | rfl | rfl | rfl | rfl | rfl | rfl | rfl | rfl | rfl | rfl | rfl | rfl | rfl | rfl | rfl | rfl <;> rfl
theorem zPw {l : List EvR} {i : Nat} (h : i < l.length) : l.getD i default ∈ l := by
 rw [List.getD_eq_getElem?_getD, List.getElem?_eq_getElem h]; exact List.getElem_mem h
end Go.Sx
/- Walks of events: what each function does, over the program of this seat. Printed by a program of this session. -/
namespace Go.Proofs.YtemnjodhidlfpaaGreat
open Tryz
open Go Go.Sx Go.RowKit
set_option linter.unusedVariables false
set_option linter.unusedSimpArgs false
set_option maxRecDepth 4000
set_option maxHeartbeats 1000000

theorem Cli.oks {g : Nat} {c : zAV} {C : CS} {Y : HA} (h : Cli g c C Y) : Oks C.σ.l c.keep := by obtain ⟨_, _, _, h, _⟩ := h; exact h.oks
theorem zNs (u : Value) (L : List EvR) (w0 : World) (hu : Rd w0 [] u 3 L.length (L.flatMap evV)) (hL : ∀ x ∈ L, x.ok w0) : Calls Tryz.prog 9 #[u] w0 (Ret w0 [] fun z N => ∃ g : Int, z = .int .i64 g ∧ (¬ 0 < g → L.length ≤ 60) ∧ N = []) := by
 have hue := hu.le
 simp only [maxLen] at hue
 refine zF (F0 := [(0, u)]) func9 rfl rfl rfl (.c .n) (Mem.nil _) ?_
 refine go 3 [] [6, 3, 0] .n ?_
 intro a w hs; refine zAI hs rfl (hs.rd0 hu).isSl underlying24 rfl ?_
 refine goL 1 [] [8, 7, 6, 3, 0] .n ?_
 intro a w hs; refine zCf (fun mm_ a w => ∃ j : Nat, ∃ cc : Int, mm_ = L.length - j ∧ St 25 [(0, u), (3, zI cc), (6, u), (7, nI L.length), (8, nI j)] w0 [] [] a w ∧ j ≤ L.length) ⟨0, 0, rfl, hs.sub (.c rfl (.c rfl (.c rfl (.c rfl (.c rfl .n))))), by omega⟩ ?_
 clear hs w a; rintro mm_ a w ⟨j, cc, rfl, hs, hI1_0⟩
 revert a w hs
 refine go 1 [] [9, 0, 3, 6, 7, 8] .n ?_
 refine ifG rfl (fun c_1 => ?_) (fun c_1 => ?_)
 ·
  refine go 0 [] [0, 3, 6, 7, 8] .n ?_
  intro a w hs; refine zBo (j := j) hs rfl rfl (hs.rd0 hu) rfl (by omega) underlying24 sizeOf33 rfl ?_
  intro a w hs; refine zBY (cs := evV (L.getD j default)) hs rfl (hs.rd0 hu) (zAh zJU L j (by omega)) (by rw [zAa zJU]; omega) (by omega) isAgg33 sizeOf33 rfl ?_
  refine goL 5 [50, 0] [14, 12, 0, 6, 7, 8] .n (fun g2 => ⟨rfl, (zN rfl (zN rfl (zN (hL _ (zPw (by omega))).rd.isSl.one zAn))), rfl, ?_⟩)
  intro a w hs; refine zAI hs rfl (hs.rd0 (hL _ (zPw (by omega))).rd).isSl underlying31 rfl ?_
  intro a w hs; refine zEh hs rfl rfl rfl ?_
  refine goL 3 [] [8, 3, 0, 6, 7] .n ⟨(by omega), ?_⟩
  refine cl (·.drop (.c .z .n)) ?_
  intro a w hs; refine ⟨_, ?_, (j + 1), IntKind.i64.wrap (cc + (((L.getD j default).bs.length : Nat) : Int)), rfl, hs.sub (.c rfl (.c rfl (.c rfl (.c rfl (.c rfl .n))))), by omega⟩
  omega
 refine go 1 [] [18, 3] .n ?_
 intro a w hs; refine zAI hs rfl (hs.rd0 hu).isSl underlying24 rfl ?_
 refine goL 2 [] [21, 3] .n ?_
 intro a w hs; refine zV (b := decide (60 < ((L.length : Nat) : Int))) (fun c_3 => ?_) (fun c_3 => ?_)
 ·
  rw [c_3] at hs
  replace c_3 := of_decide_eq_true c_3
  revert a w hs
  refine go 5 [] [2] .n ?_
  intro a w hs; exact fin hs rfl rfl ⟨_, rfl, (by first | (intro _; omega) | (intro h_; exact absurd (by decide) h_)), rfl⟩
 rw [c_3] at hs
 replace c_3 := of_decide_eq_false c_3
 revert a w hs
 refine go 3 [] [24] .n ?_
 refine ifG rfl (fun c_4 => ?_) (fun c_4 => ?_)
 ·
  refine go 1 [] [2] .n ?_
  intro a w hs; exact fin hs rfl rfl ⟨_, rfl, (by first | (intro _; omega) | (intro h_; exact absurd (by decide) h_)), rfl⟩
 refine go 1 [] [2] .n ?_
 intro a w hs; exact fin hs rfl rfl ⟨_, rfl, (by first | (intro _; omega) | (intro h_; exact absurd (by decide) h_)), rfl⟩
end Go.Proofs.YtemnjodhidlfpaaGreat
/- Walks of ClientCounts: what each function does, over the program of this seat. Printed by a program of this session. -/
namespace Go.Proofs.YtemnjodhidlfpaaGreat
open Tryz
open Go Go.Sx Go.RowKit
set_option linter.unusedVariables false
set_option linter.unusedSimpArgs false
set_option maxRecDepth 4000
set_option maxHeartbeats 1000000

theorem zGz (c : zAV) (u : Value) (L : List EvR) (w0 : World) (hu : Rd w0 [] u 3 L.length (L.flatMap evV)) (hL : ∀ x ∈ L, x.ok w0) (hk : zDK c ≠ 0) : Calls Tryz.prog 4 #[.agg #[zI c.ring, zI c.window, zI c.base, zI c.gain, zI c.least, zI c.most, zI c.slack, zI c.num, zI c.den, zI c.extra, .bool (c.curve)], u] w0 (zAc w0 (.bool true)) := by
 have hue := hu.le
 simp only [maxLen] at hue
 refine zF (F0 := [(0, .agg #[zI c.ring, zI c.window, zI c.base, zI c.gain, zI c.least, zI c.most, zI c.slack, zI c.num, zI c.den, zI c.extra, .bool (c.curve)]), (1, u)]) func4 rfl rfl rfl (.c (.c .n)) (Mem.nil _) ?_
 refine go 3 [0, 0] [13, 2, 1] .n (fun g1 => ⟨rfl, ?_⟩)
 intro a w hs; refine zB (v := .tuple #[.pointer (none), nI (zDK c)]) hs (.c rfl .n) call8 (zTv c hk _) rfl ?_
 refine goL 7 [] [18, 5, 2, 1] .n ?_
 have hb_ : (!((((zDK c : Nat) : Int) : Int) == 0)) = true := by simpa using hk
 intro a w hs; rw [hb_] at hs; clear hb_
 revert a w hs
 refine go 4 [] [22, 5, 2, 1] .n ?_
 refine goF 5 5 [] [27, 5, 2, 1] .n ?_
 refine go 1 [] [] .n ?_
 intro a w hs; refine zB (v := .bool (true)) hs .n call10 (zGg _) rfl ?_
 refine goL 1 [] [4] .n ?_
 refine cl (·.drop (.c .z .n)) ?_
 intro a w hs; exact fin hs rfl rfl ⟨rfl, rfl⟩
theorem zGT (c : zAV) (u : Value) (L : List EvR) (w0 : World) (hu : Rd w0 [] u 3 L.length (L.flatMap evV)) (hL : ∀ x ∈ L, x.ok w0) (hk : zDK c = 0) : Calls Tryz.prog 4 #[.agg #[zI c.ring, zI c.window, zI c.base, zI c.gain, zI c.least, zI c.most, zI c.slack, zI c.num, zI c.den, zI c.extra, .bool (c.curve)], u] w0 (zAc w0 (.bool true)) := by
 have hue := hu.le
 simp only [maxLen] at hue
 have hkr := zKk hk
 refine zF (F0 := [(0, .agg #[zI c.ring, zI c.window, zI c.base, zI c.gain, zI c.least, zI c.most, zI c.slack, zI c.num, zI c.den, zI c.extra, .bool (c.curve)]), (1, u)]) func4 rfl rfl rfl (.c (.c .n)) (Mem.nil _) ?_
 refine go 3 [0, 0] [13, 2, 1] .n (fun g1 => ⟨rfl, ?_⟩)
 intro a w hs; refine zL hs (.c rfl .n) call8 .n (zRd c hk _) rfl ?_; clear hs w a; rintro _ _ a w ⟨g2, Y3, rfl, rfl, hY4⟩ hs
 revert a w hs
 refine goL 13 [] [24, 23, 5, 2, 1] .n ?_
 intro a w hs; refine zD hs rfl rfl rfl ?_
 refine zL hs (.c rfl .n) call9 .n (zNs _ L _ (hs.rd0 hu) (fun x hx => ⟨(hL x hx).k, (hL x hx).at_, hs.rd0 (hL x hx).rd⟩)) rfl ?_; clear hs w a; rintro _ _ a w ⟨gz5, rfl, hg6, rfl⟩ hs
 revert a w hs
 refine goL 2 [] [27, 5, 2, 1] .n ?_
 refine ifG rfl (fun c_7 => ?_) (fun c_7 => ?_)
 ·
  refine go 0 [] [] .n ?_
  intro a w hs; refine zB (v := .bool (true)) hs .n call10 (zGg _) rfl ?_
  refine goL 1 [] [4] .n ?_
  refine cl (·.drop (.c (.s .z) (.c .z .n))) ?_
  intro a w hs; exact fin hs rfl rfl ⟨rfl, rfl⟩
 have hL60 := hg6 (by assumption)
 refine go 2 [] [29, 7, 5, 2] .n (fun g8 => ?_)
 intro a w hs; refine zAI hs rfl (hs.rd0 hu).isSl underlying24 rfl ?_
 refine goL 1 [] [31, 30, 29, 7, 5, 2] .n ?_
 refine cl (·.reorder (.c (.s .z) (.c .z (.c .z .n)))) ?_
 intro a w hs; refine zCf (fun mm_ a w => ∃ j : Nat, ∃ Y : HA, ∃ C : CS, mm_ = L.length - j ∧ St 91 [(2, pt g1 0), (5, pt g2 0), (7, pt g8 0), (29, u), (30, nI L.length), (31, nI j)] w0 [] [Y, blk g8 [nI (C.σ.n 0), nI (C.σ.n 1), nI (C.σ.n 2), nI (C.σ.n 3), nI (C.σ.n 4), nI (C.σ.n 5), nI (C.σ.n 6), nI (C.σ.n 7), nI (C.σ.n 8), nI (C.σ.n 9), nI (C.σ.n 10), nI (C.σ.n 11), nI (C.σ.n 12), nI (C.σ.n 13), nI (C.σ.n 14), nI (C.σ.n 15), nI (C.σ.n 16), nI (C.σ.n 17)] 54, blk g1 [zI c.ring, zI c.window, zI c.base, zI c.gain, zI c.least, zI c.most, zI c.slack, zI c.num, zI c.den, zI c.extra, .bool (c.curve)] 23] a w ∧ j ≤ L.length ∧ Cli g2 c C Y ∧ C.ok c ∧ (∀ i, C.σ.n i ≤ j) ∧ C.fr = 0 ∧ C.σ.l.length ≤ C.σ.n 0) ⟨0, Y3, (C0 c), rfl, hs.sub (.c rfl (.c rfl (.c rfl (.c rfl (.c rfl (.c rfl .n)))))), by omega, hY4, (zYe hk), (fun i => Nat.le_refl 0), rfl, (Nat.le_refl 0)⟩ ?_
 clear hs w a; rintro mm_ a w ⟨j, Y, C, rfl, hs, hI1_0, hI1_1, hI1_2, hI1_3, hI1_4, hI1_5⟩
 revert a w hs
 refine go 1 [] [32, 2, 5, 7, 29, 30, 31] .n ?_
 refine ifG rfl (fun c_9 => ?_) (fun c_9 => ?_)
 ·
  refine go 0 [] [2, 5, 7, 29, 30, 31] .n ?_
  intro a w hs; refine zBo (j := j) hs rfl rfl (hs.rd0 hu) rfl (by omega) underlying24 sizeOf33 rfl ?_
  intro a w hs; refine zBY (cs := evV (L.getD j default)) hs rfl (hs.rd0 hu) (zAh zJU L j (by omega)) (by rw [zAa zJU]; omega) (by omega) isAgg33 sizeOf33 rfl ?_
  have hxo := hL _ (zPw (l := L) (i := j) (by omega)); have hxk := hxo.k; have hxa := hxo.at_
  refine goL 5 [50, 0] [37, 9, 2, 5, 7, 29, 30, 31] .n (fun g10 => ⟨rfl, (zN rfl (zN rfl (zN (hL _ (zPw (by omega))).rd.isSl.one zAn))), rfl, ?_⟩)
  refine ifG rfl (fun c_11 => ?_) (fun c_11 => ?_)
  ·
   refine go 2 [] [31, 2, 5, 7, 29, 30] .n ⟨(by omega), ?_⟩
   refine cl (·.drop (.c .z .n)) ?_
   intro a w hs; refine ⟨_, ?_, (j + 1), Y, C, rfl, hs.sub (.c rfl (.c rfl (.c rfl (.c rfl (.c rfl (.c rfl .n)))))), by omega, hI1_1, hI1_2, (fun i => Nat.le_succ_of_le (hI1_3 i)), hI1_4, hI1_5⟩
   omega
  refine go 5 [0, 0] [42, 40, 38, 2, 5, 7, 29, 30, 31] (.c .z .n) ⟨rfl, rfl, ?_⟩
  intro a w hs; refine zL hs (.c rfl (.c rfl (.c rfl .n))) call15 (.c (.s .z) .n) (zL7 hI1_1 hk hI1_2 (fun i => Nat.le_trans (hI1_3 i) (by omega)) (by omega) ((L.getD j default).at_) ⟨by omega, by omega⟩ _ (hs.mem.del (.s .z)) (hs.mem.rd1 (hL _ (zPw (by omega))).rd (.c (.s .z) .n))) rfl ?_; clear hs w a; rintro _ _ a w ⟨rfl, Y12, rfl, hY13⟩ hs
  have he17 := zSb (c := c) (C := C) (bs := (L.getD j default).bs); have hcn := hI1_3 (zBb c C (zA (L.getD j default).bs))
  revert a w hs
  refine goL 3 [] [45, 10, 2, 5, 7, 29, 30, 31] .n ?_
  have hb_ : (decide (((zBb c C (zA ((L.getD j default).bs)) : Nat) : Int) < 0)) = false := decide_eq_false (by omega)
  intro a w hs; rw [hb_] at hs; clear hb_
  revert a w hs
  refine go 3 [] [48, 46, 10, 2, 5, 7, 29, 30, 31] .n ?_
  have hb_ : (decide (18 ≤ ((zBb c C (zA ((L.getD j default).bs)) : Nat) : Int))) = false := decide_eq_false (by omega)
  intro a w hs; rw [hb_] at hs; clear hb_
  revert a w hs
  refine go 3 [] [50, 2, 5, 7, 29, 30, 31] .n ?_
  intro a w hs; refine zHa (j := zBb c C (zA ((L.getD j default).bs))) hs rfl rfl underlying54 (by omega) sizeOf3 rfl ?_
  intro a w hs; refine zGJ (v := nI (C.σ.n (zBb c C (zA ((L.getD j default).bs))))) hs rfl (hs.mem.del (.s (.s .z))) (zNT (by omega)) isAgg3 rfl ?_
  refine goL 1 [] [53, 50, 2, 5, 7, 29, 30, 31] .n ⟨(by omega), ?_⟩
  intro a w hs; refine zHa (j := zBb c C (zA ((L.getD j default).bs))) hs rfl rfl underlying54 (by omega) sizeOf3 rfl ?_
  intro a w hs; refine zLp (cs' := [nI (zAe C.σ.n (zBb c C (zA ((L.getD j default).bs))) 0), nI (zAe C.σ.n (zBb c C (zA ((L.getD j default).bs))) 1), nI (zAe C.σ.n (zBb c C (zA ((L.getD j default).bs))) 2), nI (zAe C.σ.n (zBb c C (zA ((L.getD j default).bs))) 3), nI (zAe C.σ.n (zBb c C (zA ((L.getD j default).bs))) 4), nI (zAe C.σ.n (zBb c C (zA ((L.getD j default).bs))) 5), nI (zAe C.σ.n (zBb c C (zA ((L.getD j default).bs))) 6), nI (zAe C.σ.n (zBb c C (zA ((L.getD j default).bs))) 7), nI (zAe C.σ.n (zBb c C (zA ((L.getD j default).bs))) 8), nI (zAe C.σ.n (zBb c C (zA ((L.getD j default).bs))) 9), nI (zAe C.σ.n (zBb c C (zA ((L.getD j default).bs))) 10), nI (zAe C.σ.n (zBb c C (zA ((L.getD j default).bs))) 11), nI (zAe C.σ.n (zBb c C (zA ((L.getD j default).bs))) 12), nI (zAe C.σ.n (zBb c C (zA ((L.getD j default).bs))) 13), nI (zAe C.σ.n (zBb c C (zA ((L.getD j default).bs))) 14), nI (zAe C.σ.n (zBb c C (zA ((L.getD j default).bs))) 15), nI (zAe C.σ.n (zBb c C (zA ((L.getD j default).bs))) 16), nI (zAe C.σ.n (zBb c C (zA ((L.getD j default).bs))) 17)]) hs rfl rfl (.s (.s .z)) (by show 0 + zBb c C (zA ((L.getD j default).bs)) < 18; omega) (zR5 (by omega)) rfl sizeOf3 ?_
  refine goL 2 [] [31, 2, 5, 7, 29, 30] .n ⟨(by omega), ?_⟩
  intro a w hs; rw [← zTe c C (L.getD j default).at_] at hs
  replace hs := hs.drop (.c (.s (.s .z)) .n)
  replace hs := hs.reorder (.c (.s .z) (.c .z (.c .z .n)))
  refine ⟨_, ?_, (j + 1), Y12, (zOQ c C ((L.getD j default).at_) (zA ((L.getD j default).bs))), rfl, hs.sub (.c rfl (.c rfl (.c rfl (.c rfl (.c rfl (.c rfl .n)))))), by omega, hY13, (zMN hk hI1_2), (fun i => Nat.le_trans (zNZ _ _ _ _ i) (Nat.succ_le_succ (hI1_3 i))), hI1_4, (zSH hI1_5)⟩
  omega
 refine go 1 [] [11, 2, 5, 7] .n ?_
 intro a w hs; refine zCf (fun mm_ a w => ∃ e : Nat, mm_ = 18 - e ∧ St 91 [(2, pt g1 0), (5, pt g2 0), (7, pt g8 0), (11, nI e)] w0 [] [Y, blk g8 [nI (C.σ.n 0), nI (C.σ.n 1), nI (C.σ.n 2), nI (C.σ.n 3), nI (C.σ.n 4), nI (C.σ.n 5), nI (C.σ.n 6), nI (C.σ.n 7), nI (C.σ.n 8), nI (C.σ.n 9), nI (C.σ.n 10), nI (C.σ.n 11), nI (C.σ.n 12), nI (C.σ.n 13), nI (C.σ.n 14), nI (C.σ.n 15), nI (C.σ.n 16), nI (C.σ.n 17)] 54, blk g1 [zI c.ring, zI c.window, zI c.base, zI c.gain, zI c.least, zI c.most, zI c.slack, zI c.num, zI c.den, zI c.extra, .bool (c.curve)] 23] a w ∧ 1 ≤ e ∧ e ≤ 18) ⟨1, rfl, hs.sub (.c rfl (.c rfl (.c rfl (.c rfl .n)))), by omega, by omega⟩ ?_
 clear hs w a; rintro mm_ a w ⟨e, rfl, hs, hI2_0, hI2_1⟩
 revert a w hs
 refine go 2 [] [57, 2, 5, 7, 11] .n ?_
 refine ifG rfl (fun c_14 => ?_) (fun c_14 => ?_)
 ·
  refine go 0 [] [2, 5, 7, 11] .n ?_
  intro a w hs
  refine zR [.p [] [], .p [] [], .v [1, 0] (nI (zE6 C.σ.n ((e : Nat) : Int))), .p [] [], .v [3] (pt g8 (0 + e)), .v [4] (nI (C.σ.n e)), .v [5, 2] (.bool (false))] [6] hs .n .n (by kernel_rfl) ⟨fun _ _ _ _ hm hs K => zB (v := nI (zE6 C.σ.n ((e : Nat) : Int))) hs (.c rfl (.c rfl .n)) call16 (zHo hI1_1 ((e : Nat) : Int) ⟨by omega, by omega⟩ _ (hm.del .z)) rfl (vk K), fun _ _ _ _ hm hs K => zHa (j := e) hs rfl rfl underlying54 (by omega) sizeOf3 rfl (vk K), fun _ _ _ _ hm hs K => zGJ (v := nI (C.σ.n e)) hs rfl (hm.del (.s .z)) (zNT (by omega)) isAgg3 rfl (vk K), fun _ _ _ _ hm hs K => zRC hs rfl rfl rfl (fun a w hs => wpList_nil (K _ _ (by rw [show (!((((zE6 C.σ.n ((e : Nat) : Int) : Nat) : Int) : Int) == ((C.σ.n e : Nat) : Int))) = false from by rw [zZV (by omega) (by omega)]; simp] at hs; exact hs))), ⟨rfl, by kernel_rfl, fun _ => rfl, rfl, rfl, trivial⟩, fun _ => rfl, ?_⟩
  refine goE 3 [] [59, 2, 5, 7] .n ⟨(by omega), ?_⟩
  have hv_ : (((e : Nat) : Int) + 1 : Int) = (((e + 1 : Nat) : Int) : Int) := by omega
  intro a w hs; rw [hv_] at hs; clear hv_
  revert a w hs
  refine go 1 [] [11, 2, 5, 7] .n ?_
  intro a w hs; refine ⟨_, ?_, (e + 1), rfl, hs.sub (.c rfl (.c rfl (.c rfl (.c rfl .n)))), by omega, by omega⟩
  omega
 refine go 0 [] [2, 5, 7] .n ?_
 intro a w hs
 refine zAN [.v [] (.bool (true)), .p [0] [], .p [1] [], .v [2, 1] (nI (C.σ.n 0)), .p [1] [], .p [4, 1] [0], .v [5, 3, 1] (.bool (true)), .p [6, 1] [], .p [7] [], .p [8] [], .v [9, 8] (nI (zE6 C.σ.n 0)), .v [10, 8] (.bool (true)), .p [11, 8] [], .p [12] [], .p [13] [], .x [14, 13] ⟨[], [], [], fun vs16 => True, fun vs16 => [row (vs16 15) 2 1 C.σ.l.length (iV (C.σ.l.map zAE.t))], none⟩, .y [13] (nI C.σ.l.length) [] [] [] fun vs16 => [], .p [13] [], .p [17, 13] [1], .p [13] [], .p [19, 13] [0], .p [20, 18, 13] [], .v [21, 16, 13] (.bool (true)), .p [22, 13] [], .p [23] []] [24] hs .n .n (.c (.s .z) (.c (.s .z) .n)) (by kernel_rfl) ⟨fun _ _ _ _ hm hs K => zB (v := .bool (true)) hs .n call10 (zGg _) rfl (vk K), fun _ _ _ _ hm hs K => zD hs rfl rfl rfl (zB (v := nI (C.σ.n 0)) hs (.c rfl .n) call17 (zRZ hI1_1  _ (hm.del .z)) rfl (vk K)), rfl, fun _ _ _ _ hm hs K => zD hs rfl rfl rfl (zCE hs rfl rfl rfl (fun a w hs => wpList_nil (K _ _ (by rw [show ((((C.σ.n 0 : Nat) : Int) : Int) == ((C.σ.n 0 : Nat) : Int)) = true from by simp] at hs; exact hs)))), fun _ _ _ _ hm hs K => zD hs rfl rfl rfl (zB (v := nI (zE6 C.σ.n 0)) hs (.c rfl (.c rfl .n)) call16 (zHo hI1_1 0 ⟨by decide, by decide⟩ _ (hm.del .z)) rfl (vk K)), fun _ _ _ _ hm hs K => zD hs rfl rfl rfl (zCE hs rfl rfl rfl (fun a w hs => wpList_nil (K _ _ (by rw [show ((((zE6 C.σ.n 0 : Nat) : Int) : Int) == 0) = true from by rw [zZO]; rfl] at hs; exact hs)))), rfl, rfl, fun _ _ _ _ hm hs K => zD hs rfl rfl rfl (zIG hs rfl rfl rfl (fun a w hs => wpList_nil (K _ _ (by rw [show (decide (((C.σ.l.length : Nat) : Int) ≤ (min c.ring ((C.σ.n 0 : Nat) : Int)))) = true from decide_eq_true (by have h1 := hI1_1.oks.le; have h2 := hkr.1; omega)] at hs; exact hs)))), ⟨.n, by kernel_rfl, fun _ => rfl, rfl, rfl⟩, ⟨?_, ?_, trivial⟩, ?_⟩
 ·
  intro a_ w_ R_ rest_ vs16 hm hs ht hx
  have hm0 := hm.mid
  have hs0 := hs.bare
  refine zD hs rfl rfl rfl ?_
  refine zL hs (.c rfl .n) call12 .n (zTw hI1_1 _ (hm0.del .z)) rfl ?_; clear hs; rintro v17 _ a w rfl hs
  exact wpList_nil ⟨rfl, _, _, hs0, (.c (.c .r)), hs, trivial⟩
 ·
  intro a_ w_ R_ rest_ vs16 hm hs ht hx
  have t15 := ht 15 (zH 25 _ (by kernel_rfl))
  have e15 : _ = some (vs16 15) := t15.val rfl
  replace hs := hs.learn e15
  have hs0 := hs.bare
  refine zD hs rfl rfl rfl ?_
  refine zAI hs rfl (zQ (hm.own (List.mem_append.2 (.inr ((ht 15 (zH 25 _ (by kernel_rfl))).2.2 (zG5 (n := 25) (by kernel_rfl)) _ (List.Mem.head _)))))).isSl underlying40 rfl ?_; clear hs; intro a w hs
  exact wpList_nil ⟨rfl, _, _, hs0, (.c (.c .r)), hs, rfl⟩
 clear hs w a; intro vs16 a w hs hf
 generalize vs16 15 = v18 at hs
 clear hf
 revert a w hs
 refine goE 0 [] [4] .n ?_
 refine cl (·.drop (.c (.s (.s (.s .z))) (.c (.s (.s .z)) (.c (.s .z) (.c .z .n))))) ?_
 intro a w hs; exact fin hs rfl rfl ⟨rfl, rfl⟩
theorem zHk (c : zAV) (u : Value) (L : List EvR) (w0 : World) (hu : Rd w0 [] u 3 L.length (L.flatMap evV)) (hL : ∀ x ∈ L, x.ok w0) : Calls Tryz.prog 4 #[.agg #[zI c.ring, zI c.window, zI c.base, zI c.gain, zI c.least, zI c.most, zI c.slack, zI c.num, zI c.den, zI c.extra, .bool (c.curve)], u] w0 (zAc w0 (.bool true)) := by
 by_cases hk : zDK c = 0
 · exact zGT c u L w0 hu hL hk
 · exact zGz c u L w0 hu hL hk
end Go.Proofs.YtemnjodhidlfpaaGreat
