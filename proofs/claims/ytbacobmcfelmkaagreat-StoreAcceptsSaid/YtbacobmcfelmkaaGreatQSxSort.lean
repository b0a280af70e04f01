/- The library's sort by a function, at structs: a row of the call's own comes out as a sorted permutation. -/
import Derived.Test.YtbacobmcfelmkaaGreatQSxRecs
import Derived.Shelf.SlSortCmp.NoneTotal
set_option linter.unusedVariables false
set_option linter.unusedSimpArgs false
namespace Go.Sx
open Go.RowKit Go.Shelf Go.Sort Go.Proofs
variable {P : Program} {ρ : Ren} {α : Type} [Inhabited α]
theorem zG4 {enc : α → List Value} {k : Nat} (hk : ∀ x, (enc x).length = k) (l : List α) : (Sort.flatK enc k l.toArray).toList = l.flatMap enc := by
 apply List.ext_getElem?
 intro j
 by_cases hj : j < l.length * k
 · have k0 : 0 < k := by
     rcases Nat.eq_zero_or_pos k with h | h
     · subst h; simp at hj
     · exact h
   have hd : j / k < l.length := Nat.div_lt_of_lt_mul (by rwa [Nat.mul_comm] at hj)
   have hm : j % k < k := Nat.mod_lt _ k0
   have e : j = j / k * k + j % k := by rw [Nat.mul_comm]; exact (Nat.div_add_mod j k).symm
   have h1 := zAf hk l (j / k) (j % k) hd hm
   rw [← e] at h1
   rw [h1]
   have h2 : j < (Sort.flatK enc k l.toArray).size := by rw [size_flatK]; simpa using hj
   rw [Array.getElem?_toList, Array.getElem?_eq_getElem h2]
   have h3 := get_flatK enc k l.toArray j (by simpa using hj)
   rw [getElem!_pos _ j h2] at h3
   rw [h3]
   have h4 : l.toArray[j / k]! = l.getD (j / k) default := by
     rw [getElem!_pos _ _ (by simpa using hd), List.getD_eq_getElem?_getD, List.getElem?_eq_getElem hd]
     simp
   rw [h4, List.getElem?_eq_getElem (by rw [hk]; exact hm), getElem!_pos _ _ (by rw [hk]; exact hm)]
 · rw [List.getElem?_eq_none (by simp; omega), List.getElem?_eq_none (by rw [zBH hk]; omega)]
theorem zUX (L : SlLaysF0.n6 P ρ) (k : Nat) (aE : ∀ w, (isAgg (ρ.t 24)).run P w = .ok true w) (zE : ∀ w, (Go.sizeOf (ρ.t 24)).run P w = .ok k w) (enc : α → List Value) (hk : ∀ x, (enc x).length = k) (h1 : ∀ x, ∀ v ∈ enc x, v.oneCell' = true) (cf : α → α → Int) (hO : SWO (ltOf cf)) (g : Nat)
   (eg : ∀ args w, (callFunc g args).run P w = .ok (.enter g args) w)
   (hcmp : ∀ (W : World) (x y : α), Calls P g #[.agg (enc x).toArray, .agg (enc y).toArray] W fun e w' => e = .returned (.int .i64 (cf x y)) ∧ ∃ q os', w' = grow (W.drewN q) os')
   {w : World} {v : Value} {e m : Nat} {l : List α} (hr : (row v e k m (l.flatMap enc)).p w) (hl : l.length = m) (hm : m ≤ 1000000) :
   Calls P (ρ.f 6) #[v, .func (.func g) #[] #[]] w (Ret w (zX [row v e k m (l.flatMap enc)]) fun u N => u = .tuple #[] ∧ ∃ l' : List α, l'.Perm l ∧ l'.Pairwise (fun x y => ltOf cf y x = false) ∧ N = [row v e k m (l'.flatMap enc)]) := by
 have hr0 := hr
 obtain ⟨hlen, hr⟩ := hr
 rcases hr with ⟨rfl, rfl⟩ | ⟨g', cap, cur, rfl, _, hb, hmc, hcl, hcs, hcur⟩
 · obtain rfl : l = [] := List.length_eq_zero_iff.1 hl
   refine (AnyF.slices_SortFunc_none L none 0 _ w).mono ?_
   rintro e' w' ⟨rfl, rfl⟩
   exact ⟨_, _, rfl, ⟨rfl, [], List.Perm.refl _, List.Pairwise.nil, rfl⟩, zBd hr0 (by simp [row, Value.ownBlock])⟩
 · have hsz : l.toArray.size = m := by simpa using hl
   have hlt : g' < w.heap.size := (Array.getElem?_eq_some_iff.1 hb).1
   have hft := zG4 hk l
   have hH : HoldsK enc k w g' 0 l.toArray := by
     intro j hj
     rw [size_flatK, hsz] at hj
     have hj2 : j < cur.toList.length := by
       have := Nat.mul_le_mul_right k hmc
       simp; omega
     refine ⟨?_, by simp [World.frozen?, hb]⟩
     have h2 : (Sort.flatK enc k l.toArray)[j]? = cur[j]? := by
       rw [← Array.getElem?_toList, hft, ← hcur, List.getElem?_take, if_pos hj, Array.getElem?_toList]
     have h3 : j < (Sort.flatK enc k l.toArray).size := by rw [size_flatK, hsz]; exact hj
     rw [getElem!_pos _ j h3]
     rw [Array.getElem?_eq_getElem h3] at h2
     simp [World.cell?, hb, ← h2]
   have hcon := AnyQ.slices_SortFunc L k aE zE enc hk h1 cf hO g #[] g' 0 cap l.toArray w eg (fun _ _ _ _ x y => by simpa using hcmp _ x y) hH hlt (by rw [hsz]; omega)
   rw [hsz] at hcon
   refine hcon.mono ?_
   rintro e' w' ⟨rfl, d', n, os, hp, hs, rfl⟩
   obtain ⟨hd1, _, hd2⟩ := hp
   have hd : d'.size = m := by rw [hd1, hsz]
   have hex : ∀ d : Array α, d.size = m → d.extract 0 m = d := fun d h => by rw [← h]; exact Array.extract_size
   rw [hex _ hd, hex _ hsz] at hd2
   have hd3 : d' = d'.toList.toArray := by simp
   have hfd := zG4 hk d'.toList
   rw [← hd3] at hfd
   have hnew : (sortWorldK enc k w g' 0 n d' os).heap[g']? = some (.cells (putCells id 0 (Sort.flatK enc k d') cur) e (0, 0)) := by
     unfold sortWorldK putRowK putRow mapBlock grow
     simp only [ahead]
     rw [Array.getElem?_append_left (by simpa using hlt), Array.getElem?_modify, if_pos rfl]
     show (w.heap[g']?).map _ = _
     rw [hb]
     rfl
   refine ⟨_, _, rfl, ⟨rfl, d'.toList, by simpa using hd2, ?_, rfl⟩, ⟨rfl, rfl, rfl, by simp [sortWorldK, putRowK, putRow, mapBlock, grow, ahead], fun j hj hS => ?_⟩, ?_, ?_, ?_⟩
   · refine List.pairwise_iff_getElem.2 fun i j hi hj hij => ?_
     have := hs i j (Nat.zero_le _) hij (by simpa [hd] using hj)
     rwa [getElem!_pos _ i (by simpa using hi), getElem!_pos _ j (by simpa using hj)] at this
   · have hne : j ≠ g' := by simpa [zX, row, Value.ownBlock] using hS
     unfold sortWorldK putRowK putRow mapBlock grow
     simp only [ahead]
     rw [Array.getElem?_append_left (by simpa using hj), Array.getElem?_modify, if_neg (Ne.symm hne)]
     rfl
   · intro h hh
     simp only [List.mem_singleton] at hh
     subst hh
     refine ⟨by rw [zBH hk, Array.length_toList, hd], .inr ⟨g', cap, _, rfl, Nat.zero_le _, hnew, hmc, hcl, by simp [putCells, hcs], ?_⟩⟩
     apply List.ext_getElem?
     intro j
     rw [List.getElem?_take, ← hfd]
     by_cases hj : j < m * k
     · rw [if_pos hj]
       have h3 : j < (Sort.flatK enc k d').size := by rw [size_flatK, hd]; exact hj
       have h5 : j < cur.size := by
         have := Nat.mul_le_mul_right k hmc
         omega
       rw [Array.getElem?_toList, Array.getElem?_toList, Array.getElem?_eq_getElem h3, putCells, Array.getElem?_mapIdx, Array.getElem?_eq_getElem h5]
       simp only [Option.map_some, Nat.zero_le, Nat.zero_add, true_and, Nat.sub_zero, h3, if_true, id]
       rw [getElem!_pos _ j h3]
     · rw [if_neg hj, List.getElem?_eq_none (by simp [hd]; omega)]
   · simp [zX, row, Value.ownBlock]
   · intro j hj
     exact .inl (by simpa [zX, row, Value.ownBlock] using hj)
omit [Inhabited α] in
theorem zMp {f : α → Int} (x y : α) : ltOf (fun x y : α => Lib.compareInt (f x) (f y)) x y = decide (f x < f y) := by
 unfold ltOf Lib.compareInt
 by_cases h1 : f x < f y
 · simp [h1]
 · by_cases h2 : f y < f x <;> simp [h1, h2]
omit [Inhabited α] in
theorem zTR (f : α → Int) : SWO (ltOf fun x y : α => Lib.compareInt (f x) (f y)) where
 irrefl x := by rw [zMp]; simp
 trans x y z h1 h2 := by rw [zMp] at *; simp at *; omega
 ntrans x y z h1 h2 := by rw [zMp] at *; simp at *; omega
end Go.Sx
