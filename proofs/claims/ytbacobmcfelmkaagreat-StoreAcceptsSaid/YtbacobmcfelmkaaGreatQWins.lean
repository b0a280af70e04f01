/- Walks of rows of things: what each function does, over the program of this seat. Printed by a program of this session. -/
import Derived.Test.YtbacobmcfelmkaaGreatQSxStos
import Derived.Test.YtbacobmcfelmkaaGreatProg
import Derived.Test.YtbacobmcfelmkaaGreatQSxBasB
namespace Go.Proofs.YtbacobmcfelmkaaGreat
open Tryz
open Go Go.Sx Go.RowKit
set_option linter.unusedVariables false
set_option linter.unusedSimpArgs false
set_option maxRecDepth 4000
set_option maxHeartbeats 1000000

theorem zTI {v : Value} {n vb : Nat} {xs vs : List Value} {tv : Nat} {w : World} (hr : (row v 88 4 n xs).p w) (hb : (blk vb vs tv).p w) (hv : vs.length = 4) (h1v : ∀ u ∈ vs, u.oneCell' = true) (hn : n ≤ 100000) :
   Calls Tryz.prog 33 #[v, .int .i64 n, .slice (some ⟨vb, 0, none⟩) 1 1] w (Ret w (zX [row v 88 4 n xs]) fun u N => N = [row u 88 4 (n + 1) (xs ++ vs)]) := by
 have hsrc := zD8 hb 0 vs (fun j u hj => by simpa using hj)
 have hne : ¬ ((1 : Int) = 0) := by omega
 have fin : ∀ (v' : Value) (w' : World), w'.ownsRow 0 88 4 v' (n + 1) (xs ++ vs) → w.grownBy w' v.ownBlock → (v'.ownBlock = v.ownBlock ∨ v'.ownBlock = some w.heap.size) → Ret w (zX [row v 88 4 n xs]) (fun u N => N = [row u 88 4 (n + 1) (xs ++ vs)]) (.returned v') w' :=
   fun v' w' hown hg hat => ⟨_, _, rfl, rfl, Go.Sx.mem_grown hg hown (hat.imp id fun h => ⟨_, h, Nat.le_refl _⟩) (xs := xs) (n := n)⟩
 have F : Aside _ := fin
 have how := hr
 have HR : Aside _ := hr
 clear fin hr
 obtain ⟨hl, hcs⟩ := how
 rcases hcs with ⟨rfl, rfl⟩ | ⟨g, cap, cur, rfl, _, hg, hc, hm, hs, ht⟩
 · go_enter func33, Tryz.ntmps33
   go_wp2_with (at_builtin; refine wpList_append_own_at _ rfl _ _ 73 rfl 0 88 Tryz.t88 _ 4 48 underlying73 rfl rfl rfl rfl (by decide) (by decide) _ _ xs rfl HR.out ⟨vb, 0, none⟩ 1 1 vs rfl hv hsrc h1v (by simp only [maxLen]; omega) (by omega) (Nat.zero_le _) ?_; intro v' w' hown hgr _ hat)
   go_ret
   exact F.out _ _ hown hgr hat
 · simp only [maxLen] at hm
   clear hg hs ht hl
   go_enter func33, Tryz.ntmps33
   go_wp2_with (at_builtin; refine wpList_append_own_at _ rfl _ _ 73 rfl 0 88 Tryz.t88 _ 4 48 underlying73 rfl rfl rfl rfl (by decide) (by decide) _ _ xs rfl HR.out ⟨vb, 0, none⟩ 1 1 vs rfl hv hsrc h1v (by simp only [maxLen]; omega) (by omega) (Nat.zero_le _) ?_; intro v' w' hown hgr _ hat)
   all_goals (go_ret; exact F.out _ _ hown hgr hat)
theorem zQ7 {b n i c vb tv : Nat} {xs sp vs : List Value} {w : World} (hg : (blk b (xs ++ sp) 88).p w) (hl : xs.length = n * 4) (hi : i < n) (hnc : n ≤ c) (hroom : c < n + 1) (hb : (blk vb vs tv).p w) (hv : vs.length = 4) (h1c : ∀ u ∈ xs, u.oneCell' = true) (h1v : ∀ u ∈ vs, u.oneCell' = true) (hn : n ≤ 100000) :
   Calls Tryz.prog 33 #[.slice (some ⟨b, 0, none⟩) n c, .int .i64 i, .slice (some ⟨vb, 0, none⟩) 1 1] w (Ret w [] fun u N => N = [row u 88 4 (n + 1) (xs.take (i * 4) ++ (vs ++ xs.drop (i * 4)))]) := by
 have hne : ¬ ((1 : Int) = 0) := by omega
 have hz2 : ¬ ((i : Int) = (n : Int)) := by omega
 have hz3 : (c : Int) < (n : Int) + 1 := by omega
 have hbw : b < w.heap.size := (Array.getElem?_eq_some_iff.1 hg).1
 have hvw : vb < w.heap.size := (Array.getElem?_eq_some_iff.1 hb).1
 have hold : (Builtin.firstCells 4 i (.slice (some ⟨b, 0, none⟩) i c)).run Tryz.prog w.drew = .ok (xs.take (i * 4)).toArray w.drew :=
   run_firstCells_some w.drew 4 i ⟨b, 0, none⟩ i c (xs.take (i * 4)) (by rw [List.length_take]; omega) (fun j v hj => by
     rw [List.getElem?_take] at hj
     split at hj
     · exact zD8 (w := w) hg 0 xs (fun j u hj => by rw [Nat.zero_add, List.getElem?_append_left (List.getElem?_eq_some_iff.1 hj).1]; exact hj) j v hj
     · cases hj)
 obtain ⟨G, hG⟩ : ∃ G, G = grownCap w (n + 1) c 88 := ⟨_, rfl⟩
 have hik : i + (n + 1 - i) = n + 1 := by omega
 have hrz : ∀ ty, (Builtin.append_ #[73, 3] ty #[.slice (some ⟨b, 0, none⟩) i c, zI ((n : Int) + 1 - (i : Int))]).run Tryz.prog w = .ok (.slice (some ⟨w.heap.size, 0, none⟩) (n + 1) G) (w.drew.alloc (.cells ((xs.take (i * 4)).toArray ++ Builtin.zeroCells (.agg #[.int .i64 0, .int .i64 0, .int .i64 0, .slice none 0 0] : Value).cells (n + 1 - i) ++ Builtin.zeroCells (.agg #[.int .i64 0, .int .i64 0, .int .i64 0, .slice none 0 0] : Value).cells (G - (n + 1))) 88)) := fun ty => by
   have h := Lib.run_append_grow_zeros (P := Tryz.prog) w 73 3 ty 88 Tryz.t88 (.agg #[.int .i64 0, .int .i64 0, .int .i64 0, .slice none 0 0] : Value) .i64 .i64 underlying73 underlying3 rfl rfl (some ⟨b, 0, none⟩) i c (xs.take (i * 4)) hold (n + 1 - i) (by omega) (by decide) (by omega) (by omega) (by show _ * 48 ≤ _; omega) (by show _ * 48 ≤ _; rw [hik]; exact growslice_fits hroom (by omega))
   rw [hik, ← hG] at h
   rw [show (n : Int) + 1 - (i : Int) = ((n + 1 - i : Nat) : Int) by omega]
   exact h
 have hGn : n + 1 ≤ G := by rw [hG]; exact grownCap_ge w _ _ _
 have hG63 : G ≤ maxLen := by rw [hG]; exact grownCap_le_maxLen w (n + 1) c 88 (by unfold maxLen; omega)
 obtain ⟨R1, hR1⟩ : ∃ R1 : List Value, (xs.take (i * 4)).toArray ++ Builtin.zeroCells (.agg #[.int .i64 0, .int .i64 0, .int .i64 0, .slice none 0 0] : Value).cells (n + 1 - i) ++ Builtin.zeroCells (.agg #[.int .i64 0, .int .i64 0, .int .i64 0, .slice none 0 0] : Value).cells (G - (n + 1)) = R1.toArray := ⟨_, (Array.toArray_toList).symm⟩
 rw [hR1] at hrz
 obtain ⟨Zs, hZs, hZl⟩ : ∃ Zs : List Value, R1 = xs.take (i * 4) ++ Zs ∧ Zs.length = (G - i) * 4 := by
   refine ⟨(Builtin.zeroCells (.agg #[.int .i64 0, .int .i64 0, .int .i64 0, .slice none 0 0] : Value).cells (n + 1 - i)).toList ++ (Builtin.zeroCells (.agg #[.int .i64 0, .int .i64 0, .int .i64 0, .slice none 0 0] : Value).cells (G - (n + 1))).toList, ?_, ?_⟩
   · have := congrArg Array.toList hR1
     simpa using this.symm
   · have e4 : (.agg #[.int .i64 0, .int .i64 0, .int .i64 0, .slice none 0 0] : Value).cells.size = 4 := rfl
     rw [List.length_append, Array.length_toList, Array.length_toList, size_zeroCells, size_zeroCells, e4]; omega
 clear hR1 hG hold
 have e1 : R1 = xs.take (i * 4) ++ (Zs.take 4 ++ ((Zs.drop 4).take ((n - i) * 4) ++ (Zs.drop 4).drop ((n - i) * 4))) := by rw [List.take_append_drop, List.take_append_drop]; exact hZs
 obtain ⟨C, hC⟩ : ∃ C, C = (Zs.drop 4).drop ((n - i) * 4) := ⟨_, rfl⟩
 have hCl : C.length = (G - (n + 1)) * 4 := by rw [hC]; simp only [List.length_drop]; omega
 rw [← hC] at e1
 have hAl : (xs.take (i * 4)).length = i * 4 := by rw [List.length_take]; omega
 have hDl : (xs.drop (i * 4)).length = (n - i) * 4 := by rw [List.length_drop]; omega
 obtain ⟨A, hA⟩ : ∃ A, A = xs.take (i * 4) := ⟨_, rfl⟩
 obtain ⟨D, hD⟩ : ∃ D, D = xs.drop (i * 4) := ⟨_, rfl⟩
 have hAD : xs = A ++ D := by rw [hA, hD, List.take_append_drop]
 rw [← hA] at e1 hAl ⊢
 rw [← hD] at hDl ⊢
 have h1d : ∀ u ∈ D, u.oneCell' = true := fun u hu => h1c u (by rw [hAD]; simp [hu])
 obtain ⟨R2, hR2⟩ : ∃ R2, R2 = A ++ (vs ++ ((Zs.drop 4).take ((n - i) * 4) ++ C)) := ⟨_, rfl⟩
 obtain ⟨R3, hR3⟩ : ∃ R3, R3 = (A ++ (vs ++ D)) ++ C := ⟨_, rfl⟩
 have s2 : zLy R1 (i * 4) vs = R2 := by rw [e1, hR2]; exact zGp _ _ _ _ _ hAl (by rw [List.length_take]; omega)
 have s3 : zLy R2 ((i + 1) * 4) D = R3 := by
   rw [hR2, hR3, ← List.append_assoc A vs]
   rw [zGp (A ++ vs) _ C _ D (by rw [List.length_append]; omega) (by rw [List.length_take, List.length_drop]; omega)]
   simp only [List.append_assoc]
 have hR1l : R1.length = G * 4 := by rw [hZs, List.length_append, hZl, ← hA]; omega
 have hR2l : R2.length = G * 4 := by rw [hR2]; simp only [List.length_append, List.length_take, List.length_drop]; omega
 have hcpA : ∀ W : World, W.heap[w.heap.size]? = some (.cells R1.toArray 88 (0, 0)) → W.heap[vb]? = some (.cells vs.toArray tv (0, 0)) → ∀ ty dc, (Builtin.copy_ #[73, 73] ty #[.slice (some ⟨w.heap.size, i * 4, none⟩) (n + 1 - i) dc, .slice (some ⟨vb, 0, none⟩) 1 1]).run Tryz.prog W = .ok (goInt 1) (W.setRow w.heap.size R2.toArray) := fun W h1 h2 ty dc => by
   have hm : Nat.min 1 (n + 1 - i) = 1 := Nat.min_eq_left (by omega)
   have h := zF4 (P := Tryz.prog) W 73 73 ty 88 4 w.heap.size (i * 4) (n + 1 - i) dc ⟨vb, 0, none⟩ 1 1 R1 88 vs Tryz.t88 underlying73 rfl rfl h1 (by rw [hm]; omega) (zD8 h2 0 vs (fun j u hj => by simpa using hj)) (by omega) h1v
   rw [hm, s2] at h
   exact h
 have hcpB : ∀ W : World, W.heap[w.heap.size]? = some (.cells R2.toArray 88 (0, 0)) → W.heap[b]? = some (.cells (xs ++ sp).toArray 88 (0, 0)) → ∀ ty dc sc, (Builtin.copy_ #[73, 73] ty #[.slice (some ⟨w.heap.size, (i + 1) * 4, none⟩) (n + 1 - (i + 1)) dc, .slice (some ⟨b, i * 4, none⟩) (n - i) sc]).run Tryz.prog W = .ok (goInt ((n - i : Nat) : Int)) (W.setRow w.heap.size R3.toArray) := fun W h1 h2 ty dc sc => by
   have hm : Nat.min (n - i) (n + 1 - (i + 1)) = n - i := Nat.min_eq_left (by omega)
   have h := zF4 (P := Tryz.prog) W 73 73 ty 88 4 w.heap.size ((i + 1) * 4) (n + 1 - (i + 1)) dc ⟨b, i * 4, none⟩ (n - i) sc R2 88 D Tryz.t88 underlying73 rfl rfl h1 (by rw [hm]; exact hDl)
     (zD8 h2 (i * 4) D (fun j u hj => by rw [hAD, List.append_assoc, ← hAl, List.getElem?_append_right (by omega), Nat.add_sub_cancel_left, List.getElem?_append_left (List.getElem?_eq_some_iff.1 hj).1]; exact hj)) (by omega) h1d
   rw [hm, s3] at h
   exact h
 have w1 : w.grownBy (w.drew.alloc (.cells R1.toArray 88)) none := (zNM w).alloc' _
 have a1 : (w.drew.alloc (.cells R1.toArray 88)).heap[w.heap.size]? = some (.cells R1.toArray 88 (0, 0)) := heap_alloc_new w.drew _
 have a2 : (w.drew.alloc (.cells R1.toArray 88)).heap[vb]? = some (.cells vs.toArray tv (0, 0)) := (w1.block vb hvw (by simp)).trans hb
 have w2 := w1.setRow' (Nat.le_refl _) R2.toArray
 have a3 : ((w.drew.alloc (.cells R1.toArray 88)).setRow w.heap.size R2.toArray).heap[w.heap.size]? = some (.cells R2.toArray 88 (0, 0)) := setRow_heap _ _ _ _ _ _ a1
 have a4 : ((w.drew.alloc (.cells R1.toArray 88)).setRow w.heap.size R2.toArray).heap[b]? = some (.cells (xs ++ sp).toArray 88 (0, 0)) := (w2.block b hbw (by simp)).trans hg
 have w3 := (w2.drew').setRow' (Nat.le_refl _) R3.toArray
 have a5 : ((w.drew.alloc (.cells R1.toArray 88)).setRow w.heap.size R2.toArray).drew.heap[w.heap.size]? = some (.cells R2.toArray 88 (0, 0)) := a3
 have fin := Go.Sx.mem_new (n' := n + 1) (xs' := A ++ (vs ++ D)) (size := 4) (e := 88) (v' := .slice (some ⟨w.heap.size, 0, none⟩) (n + 1) G) w3 (zGc (sp := C) (by show _ = _; rw [← hR3]; exact setRow_heap _ _ _ _ _ _ a5) (by simp only [List.length_append]; omega) (by simp only [List.length_append]; omega) hGn hG63) (fun k hk => by simp [Value.ownBlock] at hk; omega)
 have FIN : Aside _ := fin
 have HZ : Aside _ := hrz
 have HA : Aside _ := hcpA
 have HB : Aside _ := hcpB
 have A1 : Aside _ := a1
 have A2 : Aside _ := a2
 have A3 : Aside _ := a3
 have A4 : Aside _ := a4
 simp only [maxLen] at hG63
 have hGi : ¬ (G = i) := by omega
 have hGim : ¬ (G = i + 1) := by omega
 have hci : ¬ (c = i) := by omega
 have hin : i ≤ n := by omega
 have htn : ((i : Int) + 1).toNat = i + 1 := by omega
 have hb1 : (0 : Int) ≤ (i : Int) + 1 := by omega
 have hb3 : (i : Int) ≤ (n : Int) := by omega
 have hw1 : IntKind.i64.wrap ((i : Int) + 1) = (i : Int) + 1 := by rw [IntKind.wrap_i64]; omega
 have mixed : Tryz.prog.follows Departure.mixedOrders = true := by kernel_rfl
 clear fin hrz hcpA hcpB a1 a2 a3 a4 a5 w1 w2 w3 hg hb hAD hA hD e1 hZs hZl s2 s3 hR1l hR2l hR2 hR3 hC hCl hAl hDl h1c h1v h1d hik hl hv
 go_enter func33, Tryz.ntmps33
 go_wp2_with (first
   | (at_builtin; refine Lib.wpList_append_run _ rfl _ _ _ _ rfl _ _ rfl rfl _ _ (HZ.out _) ?_)
   | (refine Go.Proofs.wpList_copy_runI _ rfl _ _ 73 73 rfl _ _ rfl rfl (HA.out _ (by exact A1.out) (by exact A2.out) _ _) ?_)
   | (refine Go.Proofs.wpList_copy_runI _ rfl _ _ 73 73 rfl _ _ rfl rfl (HB.out _ (by exact A3.out) (by exact A4.out) _ _ _) ?_))
 go_region_law_o (refine Go.Proofs.step_copy_runI rfl _ _ 73 73 rfl (.slice (some ⟨w.heap.size, (i + 1) * 4, none⟩) (n + 1 - (i + 1)) (G - (i + 1))) (.slice (some ⟨b, i * 4, none⟩) (n - i) (c - i)) (by simp [Act.eval, Act.put]) (by simp [Act.eval, Act.put]) (HB.out _ (by exact A3.out) (by exact A4.out) _ (G - (i + 1)) (c - i)) ?_)
 go_wp2
 go_ret
 exact ⟨_, _, rfl, rfl, FIN.out⟩
theorem zOf {b n i c vb tv : Nat} {xs sp vs : List Value} {w : World} (hg : (blk b (xs ++ sp) 88).p w) (hl : xs.length = n * 4) (hlc : (xs ++ sp).length = c * 4) (hcm : c ≤ maxLen) (hi : i < n) (hroom : n + 1 ≤ c) (hb : (blk vb vs tv).p w) (hvb : vb ≠ b) (hv : vs.length = 4) (h1c : ∀ u ∈ xs, u.oneCell' = true) (h1v : ∀ u ∈ vs, u.oneCell' = true) (hn : n ≤ 100000) :
   Calls Tryz.prog 33 #[.slice (some ⟨b, 0, none⟩) n c, .int .i64 i, .slice (some ⟨vb, 0, none⟩) 1 1] w (Ret w [b] fun u N => N = [row u 88 4 (n + 1) (xs.take (i * 4) ++ (vs ++ xs.drop (i * 4)))]) := by
 have hne : ¬ ((1 : Int) = 0) := by omega
 have hz2 : ¬ ((i : Int) = (n : Int)) := by omega
 have hz3 : ¬ (c : Int) < (n : Int) + 1 := by omega
 have hov : ∀ lb cb, (callFunc 58 #[.slice (some ⟨vb, 0, none⟩) 1 1, .slice (some ⟨b, (i + 1) * 4, none⟩) lb cb]).run Tryz.prog w = .ok (.value (.bool false)) w := fun lb cb => by
   rw [run_callFunc_extern func58 (by kernel_rfl) (by kernel_rfl) (by kernel_rfl) (e := Extern.SlicesOverlaps.overlaps #[73, 73] #[4]) (by kernel_rfl),
     Lib.run_overlaps_apart w 73 4 88 underlying73 4 sizeOf88 ⟨vb, 0, none⟩ ⟨b, (i + 1) * 4, none⟩ 1 1 lb cb hvb tv 88 4 (c * 4) (by simp [World.shape?, (show w.heap[vb]? = _ from hb), hv]) (by simp [World.shape?, (show w.heap[b]? = _ from hg), ← hlc]) (by omega) (by simp [World.frozen?, (show w.heap[vb]? = _ from hb)]) (by simp [World.frozen?, (show w.heap[vb]? = _ from hb)])]
   rfl
 obtain ⟨S1, S2, rfl, hS1⟩ : ∃ S1 S2, sp = S1 ++ S2 ∧ S1.length = 4 := ⟨sp.take 4, sp.drop 4, (List.take_append_drop _ _).symm, by rw [List.length_append] at hlc; rw [List.length_take]; omega⟩
 obtain ⟨A, hA⟩ : ∃ A, A = xs.take (i * 4) := ⟨_, rfl⟩
 obtain ⟨D, hD⟩ : ∃ D, D = xs.drop (i * 4) := ⟨_, rfl⟩
 have hAD : xs = A ++ D := by rw [hA, hD, List.take_append_drop]
 have hAl : A.length = i * 4 := by rw [hA, List.length_take]; omega
 have hDl : D.length = (n - i) * 4 := by rw [hD, List.length_drop]; omega
 rw [← hA, ← hD]
 have h1d : ∀ u ∈ D, u.oneCell' = true := fun u hu => h1c u (by rw [hAD]; simp [hu])
 obtain ⟨D1, D2, hDD, hD1⟩ : ∃ D1 D2, D = D1 ++ D2 ∧ D1.length = 4 := ⟨D.take 4, D.drop 4, (List.take_append_drop _ _).symm, by rw [List.length_take]; omega⟩
 obtain ⟨R1, hR1⟩ : ∃ R1, R1 = xs ++ (S1 ++ S2) := ⟨_, rfl⟩
 obtain ⟨R2, hR2⟩ : ∃ R2, R2 = A ++ (D1 ++ (D ++ S2)) := ⟨_, rfl⟩
 obtain ⟨R3, hR3⟩ : ∃ R3, R3 = (A ++ (vs ++ D)) ++ S2 := ⟨_, rfl⟩
 have s2 : zLy R1 ((i + 1) * 4) D = R2 := by
   have e : R1 = (A ++ D1) ++ ((D2 ++ S1) ++ S2) := by rw [hR1, hAD, hDD]; simp only [List.append_assoc]
   have hD2 : D2.length = (n - i) * 4 - 4 := by have := hDl; rw [hDD, List.length_append] at this; omega
   rw [e, zGp (A ++ D1) (D2 ++ S1) S2 _ D (by rw [List.length_append]; omega) (by rw [List.length_append]; omega), hR2]
   simp only [List.append_assoc]
 have s3 : zLy R2 (i * 4) vs = R3 := by
   rw [hR2, hR3, zGp A D1 (D ++ S2) _ vs hAl (by omega)]
   simp only [List.append_assoc]
 have hR1l : R1.length = c * 4 := by rw [hR1]; exact hlc
 have hR2l : R2.length = c * 4 := by rw [← hR1l, hR1, hR2, hAD]; simp only [List.length_append]; omega
 have hR3l : ((A ++ (vs ++ D)) ++ S2).length = c * 4 := by rw [← hR1l, hR1, hAD]; simp only [List.length_append]; omega
 rw [← hR1] at hg
 have hcpA : ∀ W : World, W.heap[b]? = some (.cells R1.toArray 88 (0, 0)) → ∀ ty dc sc, (Builtin.copy_ #[73, 73] ty #[.slice (some ⟨b, (i + 1) * 4, none⟩) (n + 1 - (i + 1)) dc, .slice (some ⟨b, i * 4, none⟩) (n + 1 - i) sc]).run Tryz.prog W = .ok (goInt ((n - i : Nat) : Int)) (W.setRow b R2.toArray) := fun W h1 ty dc sc => by
   have hm : Nat.min (n + 1 - i) (n + 1 - (i + 1)) = n - i := by rw [show n + 1 - (i + 1) = n - i by omega]; exact Nat.min_eq_right (by omega)
   have h := zF4 (P := Tryz.prog) W 73 73 ty 88 4 b ((i + 1) * 4) (n + 1 - (i + 1)) dc ⟨b, i * 4, none⟩ (n + 1 - i) sc R1 88 D Tryz.t88 underlying73 rfl rfl h1 (by rw [hm]; exact hDl)
     (zD8 h1 (i * 4) D (fun j u hj => by rw [hR1, hAD, List.append_assoc, ← hAl, List.getElem?_append_right (by omega), Nat.add_sub_cancel_left, List.getElem?_append_left (List.getElem?_eq_some_iff.1 hj).1]; exact hj)) (by omega) h1d
   rw [hm, s2] at h
   exact h
 have hcpB : ∀ W : World, W.heap[b]? = some (.cells R2.toArray 88 (0, 0)) → W.heap[vb]? = some (.cells vs.toArray tv (0, 0)) → ∀ ty dc, (Builtin.copy_ #[73, 73] ty #[.slice (some ⟨b, i * 4, none⟩) (n + 1 - i) dc, .slice (some ⟨vb, 0, none⟩) 1 1]).run Tryz.prog W = .ok (goInt 1) (W.setRow b R3.toArray) := fun W h1 h2 ty dc => by
   have hm : Nat.min 1 (n + 1 - i) = 1 := Nat.min_eq_left (by omega)
   have h := zF4 (P := Tryz.prog) W 73 73 ty 88 4 b (i * 4) (n + 1 - i) dc ⟨vb, 0, none⟩ 1 1 R2 88 vs Tryz.t88 underlying73 rfl rfl h1 (by rw [hm]; omega) (zD8 h2 0 vs (fun j u hj => by simpa using hj)) (by omega) h1v
   rw [hm, s3] at h
   exact h
 have a0 : w.drew.heap[b]? = some (.cells R1.toArray 88 (0, 0)) := hg
 have a1 : (w.drew.setRow b R2.toArray).heap[b]? = some (.cells R2.toArray 88 (0, 0)) := setRow_heap _ _ _ _ _ _ a0
 have a2 : (w.drew.setRow b R2.toArray).heap[vb]? = some (.cells vs.toArray tv (0, 0)) := (setRow_other _ _ _ _ hvb).trans hb
 have fin : Mem w [b] [row (.slice (some ⟨b, 0, none⟩) (n + 1) c) 88 4 (n + 1) (A ++ (vs ++ D))] ((w.drew.setRow b R2.toArray).setRow b R3.toArray) := by
   refine ⟨⟨rfl, rfl, rfl, by simp [World.setRow], fun k _ hk => ?_⟩, fun h hh => ?_, by simp [zX, row, Value.ownBlock], fun k hk => .inl (by simpa [zX, row, Value.ownBlock] using hk)⟩
   · rw [setRow_other _ b k _ (by simpa using hk), setRow_other _ b k _ (by simpa using hk)]; rfl
   · simp only [List.mem_singleton] at hh
     subst hh
     exact zGc (sp := S2) (by show _ = _; rw [← hR3]; exact setRow_heap _ _ _ _ _ _ a1) (by simp only [List.length_append]; omega) hR3l hroom hcm
 have FIN : Aside _ := fin
 have OV : Aside _ := hov
 have HA : Aside _ := hcpA
 have HB : Aside _ := hcpB
 have A0 : Aside _ := a0
 have A1 : Aside _ := a1
 have A2 : Aside _ := a2
 simp only [maxLen] at hcm
 have hci : ¬ (c = i) := by omega
 have hcim : ¬ (c = i + 1) := by omega
 have hin : i ≤ n := by omega
 have htn : ((i : Int) + 1).toNat = i + 1 := by omega
 have htm : ((n : Int) + 1).toNat = n + 1 := by omega
 have hb1 : (0 : Int) ≤ (i : Int) + 1 := by omega
 have hb3 : (i : Int) ≤ (n : Int) := by omega
 have hb4 : (i : Int) ≤ (n : Int) + 1 := by omega
 have hb5 : (n : Int) + 1 ≤ (c : Int) := by omega
 have hw1 : IntKind.i64.wrap ((i : Int) + 1) = (i : Int) + 1 := by rw [IntKind.wrap_i64]; omega
 have hw2 : IntKind.i64.wrap ((n : Int) + 1) = (n : Int) + 1 := by rw [IntKind.wrap_i64]; omega
 have mixed : Tryz.prog.follows Departure.mixedOrders = true := by kernel_rfl
 clear fin hov hcpA hcpB a0 a1 a2 hg hb hAD hA hD hDD s2 s3 hR1l hR2l hR3l hR1 hR2 hR3 hAl hDl h1c h1v h1d hl hlc hv hD1 hS1
 go_enter func33, Tryz.ntmps33
 go_wp2_with (simp only [OV.out])
 go_region_law_o (refine Go.Proofs.step_copy_runI rfl _ _ 73 73 rfl (.slice (some ⟨b, (i + 1) * 4, none⟩) (n + 1 - (i + 1)) (c - (i + 1))) (.slice (some ⟨b, i * 4, none⟩) (n + 1 - i) (c - i)) (by simp [Act.eval, Act.put]) (by simp [Act.eval, Act.put]) (HA.out _ (by exact A0.out) _ (c - (i + 1)) (c - i)) ?_)
 go_wp2_with (refine Go.Proofs.wpList_copy_runI _ rfl _ _ 73 73 rfl _ _ rfl rfl (HB.out _ (by exact A1.out) (by exact A2.out) _ _) ?_)
 go_ret
 exact ⟨_, _, rfl, rfl, FIN.out⟩
theorem zOn {b n c : Nat} {xs sp : List Value} {w : World} (hg : (blk b (xs ++ sp) 88).p w) (hl : xs.length = n * 4) (hlc : (xs ++ sp).length = c * 4) (hcm : c ≤ maxLen) (hn2 : 2 ≤ n) (hnc : n ≤ c) (h1c : ∀ u ∈ xs, u.oneCell' = true) (hn : n ≤ 100001) :
   Calls Tryz.prog 34 #[.slice (some ⟨b, 0, none⟩) n c, .int .i64 0, .int .i64 1] w (Ret w [b] fun u N => N = [row u 88 4 (n - 1) (xs.drop 4)]) := by
 obtain ⟨X, Y, hXY, hX⟩ : ∃ X Y, xs = X ++ Y ∧ X.length = (n - 1) * 4 := ⟨xs.take ((n - 1) * 4), xs.drop ((n - 1) * 4), (List.take_append_drop _ _).symm, by rw [List.length_take]; omega⟩
 have hY : Y.length = 4 := by have := hl; rw [hXY, List.length_append] at this; omega
 obtain ⟨D, hD⟩ : ∃ D, D = xs.drop 4 := ⟨_, rfl⟩
 have hDl : D.length = (n - 1) * 4 := by rw [hD, List.length_drop]; omega
 rw [← hD]
 have h1d : ∀ u ∈ D, u.oneCell' = true := fun u hu => h1c u (List.mem_of_mem_drop (by rw [← hD]; exact hu))
 obtain ⟨R1, hR1⟩ : ∃ R1, R1 = xs ++ sp := ⟨_, rfl⟩
 obtain ⟨R2, hR2⟩ : ∃ R2, R2 = D ++ (Y ++ sp) := ⟨_, rfl⟩
 obtain ⟨zs, hzs, hzl, h1z⟩ : ∃ zs : List Value, (Builtin.zeroCells (.agg #[.int .i64 0, .int .i64 0, .int .i64 0, .slice none 0 0] : Value).cells 1).toList = zs ∧ zs.length = 4 ∧ ∀ u ∈ zs, u.oneCell' = true :=
   ⟨[.int .i64 0, .int .i64 0, .int .i64 0, .slice none 0 0], by kernel_rfl, rfl, by intro u hu; simp only [List.mem_cons, List.not_mem_nil, or_false] at hu; rcases hu with rfl | rfl | rfl | rfl <;> rfl⟩
 obtain ⟨R3, hR3⟩ : ∃ R3, R3 = D ++ (zs ++ sp) := ⟨_, rfl⟩
 have s2 : zLy R1 0 D = R2 := by
   rw [hR1, hR2, hXY]
   have := zGp [] X (Y ++ sp) 0 D rfl (by omega)
   simpa using this
 have s3 : zLy R2 ((n - 1) * 4) zs = R3 := by rw [hR2, hR3, zGp D Y sp _ zs hDl (by omega)]
 have hR1l : R1.length = c * 4 := by rw [hR1]; exact hlc
 have hsp : sp.length = (c - n) * 4 := by rw [List.length_append] at hlc; omega
 have hR2l : R2.length = c * 4 := by rw [hR2]; simp only [List.length_append]; omega
 have hR3l : (D ++ (zs ++ sp)).length = c * 4 := by simp only [List.length_append]; omega
 rw [← hR1] at hg
 have hap : ∀ W : World, W.heap[b]? = some (.cells R1.toArray 88 (0, 0)) → ∀ ty sc, (Builtin.append_ #[73, 73] ty #[.slice (some ⟨b, 0, none⟩) 0 c, .slice (some ⟨b, 4, none⟩) (n - 1) sc]).run Tryz.prog W = .ok (.slice (some ⟨b, 0, none⟩) (n - 1) c) (W.setRow b R2.toArray) := fun W h1 ty sc => by
   have h := zLV (P := Tryz.prog) W 73 ty 88 4 b 0 0 c ⟨b, 4, none⟩ (n - 1) sc R1 88 D Tryz.t88 underlying73 rfl rfl h1 hDl (by omega)
     (zD8 h1 4 D (fun j u hj => by rw [hR1]; rw [hD, List.getElem?_drop] at hj; rw [List.getElem?_append_left (List.getElem?_eq_some_iff.1 hj).1]; exact hj)) (by omega) h1d
   rw [Nat.zero_add, show 0 + 0 * 4 = 0 from rfl, s2] at h
   exact h
 have hcl : ∀ W : World, W.heap[b]? = some (.cells R2.toArray 88 (0, 0)) → ∀ ty sc, (Builtin.clear_ #[73] ty #[.slice (some ⟨b, (n - 1) * 4, none⟩) (n - (n - 1)) sc]).run Tryz.prog W = .ok (.tuple #[]) (W.setRow b R3.toArray) := fun W h1 ty sc => by
   have h := zNt (P := Tryz.prog) W 73 ty 88 b ((n - 1) * 4) 1 sc R2 88 zs Tryz.t88 (.agg #[.int .i64 0, .int .i64 0, .int .i64 0, .slice none 0 0] : Value) underlying73 rfl rfl hzs (by omega) h1 (by omega) h1z
   rw [s3] at h
   rw [show n - (n - 1) = 1 by omega]
   exact h
 have a0 : w.drew.heap[b]? = some (.cells R1.toArray 88 (0, 0)) := hg
 have a1 : (w.drew.setRow b R2.toArray).heap[b]? = some (.cells R2.toArray 88 (0, 0)) := setRow_heap _ _ _ _ _ _ a0
 have fin : Mem w [b] [row (.slice (some ⟨b, 0, none⟩) (n - 1) c) 88 4 (n - 1) D] ((w.drew.setRow b R2.toArray).setRow b R3.toArray) := by
   refine ⟨⟨rfl, rfl, rfl, by simp [World.setRow], fun k _ hk => ?_⟩, fun h hh => ?_, by simp [zX, row, Value.ownBlock], fun k hk => .inl (by simpa [zX, row, Value.ownBlock] using hk)⟩
   · rw [setRow_other _ b k _ (by simpa using hk), setRow_other _ b k _ (by simpa using hk)]; rfl
   · simp only [List.mem_singleton] at hh
     subst hh
     exact zGc (sp := zs ++ sp) (by show _ = _; rw [← hR3]; exact setRow_heap _ _ _ _ _ _ a1) hDl hR3l (by omega) hcm
 have FIN : Aside _ := fin
 have HA : Aside _ := hap
 have HC : Aside _ := hcl
 have A0 : Aside _ := a0
 have A1 : Aside _ := a1
 simp only [maxLen] at hcm
 have hc1 : ¬ (c = 1) := by omega
 have hcn : ¬ (c = n - 1) := by omega
 have hne : ¬ ((0 : Int) = 1) := by omega
 have hb1 : (1 : Int) ≤ (n : Int) := by omega
 have hb2 : ((n - 1 : Nat) : Int) ≤ (n : Int) := by omega
 have hb3 : (n : Int) ≤ (c : Int) := by omega
 have hb4 : (1 : Int) ≤ (c : Int) := by omega
 have hb5 : (0 : Int) ≤ ((n - 1 : Nat) : Int) := by omega
 have mixed : Tryz.prog.follows Departure.mixedOrders = true := by kernel_rfl
 clear fin hap hcl a0 a1 hg hXY hX hY hD hDl h1d s2 s3 hR1l hR2l hR3l hR1 hR2 hR3 hsp h1c hl hlc hzs hzl h1z
 go_enter func34, Tryz.ntmps34
 go_wp2
 go_region_law_o (refine zHH rfl _ _ 73 73 rfl (.slice (some ⟨b, 0, none⟩) 0 c) (.slice (some ⟨b, 4, none⟩) (n - 1) (c - 1)) (by simp [Act.eval, Act.put]) (by simp [Act.eval, Act.put]) (HA.out _ (by exact A0.out) _ (c - 1)) ?_)
 go_wp2_with (refine zG7 _ rfl _ 73 rfl _ rfl (HC.out _ (by exact A1.out) _ _) ?_)
 go_ret
 exact ⟨_, _, rfl, rfl, FIN.out⟩

end Go.Proofs.YtbacobmcfelmkaaGreat
