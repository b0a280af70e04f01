/- The document's stores: rows that are read, what a list of snapshots tells. -/
import Derived.Test.YtbacobmcfelmkaaGreatQSxStos
set_option linter.unusedVariables false
set_option linter.unusedSimpArgs false
namespace Go.Sx
open Go.RowKit
section
variable {n : Nat} {F : List (Nat × Value)} {w0 w : World} {S : List Nat} {M : List HA} {a : Act} {P : Program}
def zC8 (v : Value) (size n : Nat) (xs : List Value) : HA where
 foot := v.ownBlock.toList
 p w := (∀ k ∈ v.ownBlock.toList, k < w.heap.size) ∧ Rd w [] v size n xs
 loc w w' h hp := by
   have hlt : ∀ k ∈ v.ownBlock.toList, k < w'.heap.size := fun k hk => by
     have h1 := h k hk
     rw [Array.getElem?_eq_getElem (hp.1 k hk)] at h1
     exact (Array.getElem?_eq_some_iff.1 h1).1
   refine ⟨hlt, hp.2.form, hp.2.len, fun h0 => ?_⟩
   obtain ⟨ad, c, e, h1, h2, h3⟩ := hp.2.at_ h0
   have hk : ad.block ∈ v.ownBlock.toList := by rw [e]; simp [Value.ownBlock]
   refine ⟨ad, c, e, by simp, hlt _ hk, fun j u hu => ?_⟩
   have hb : (ad.add j).block = ad.block := by unfold Addr.add; split <;> rfl
   rw [World.cell?_of_block (w := w) (by rw [hb]; exact h _ hk)]
   exact h3 j u hu
 lt w hp k hk := hp.1 k hk
theorem zAC {v : Value} {size m : Nat} {xs : List Value} (h : (zC8 v size m xs).p w) : Rd w [] v size m xs := h.2
theorem zFf (v : Value) : v.ownBlock.toList.Nodup := by cases v.ownBlock <;> simp
theorem zR4 {v : Value} {e size m : Nat} {xs : List Value} (h : (row v e size m xs).p w) : Mem w (zX [row v e size m xs]) [zC8 v size m xs] w := by
 refine ⟨Chg.refl _ _, ?_, by simpa [zX, zC8] using zFf v, fun k hk => .inl (by simpa [zX, zC8, row] using hk)⟩
 intro x hx
 simp only [List.mem_singleton] at hx
 subst hx
 exact ⟨fun k hk => (row v e size m xs).lt w h k hk, zM h⟩
theorem zN0 {v : Value} {m : Nat} (h : zFu v m) (size j k : Nat) : (zHv v size j k).ownBlock = v.ownBlock := by
 obtain ⟨A, c, rfl⟩ := h
 unfold zHv
 cases A with
 | none => simp only [Option.map_none]; split <;> rfl
 | some ad =>
   simp only [Option.map_some]
   split
   · rfl
   · show some (ad.add _).block = some ad.block
     unfold Addr.add; split <;> rfl
theorem zRP {v : Value} {e size m j : Nat} {xs : List Value} (h : (row v e size m xs).p w) (hj : j ≤ m) : Mem w (zX [row v e size m xs]) [zC8 (zHv v size j m) size (m - j) (xs.drop (j * size))] w := by
 have hr := zM h
 have hb := zN0 hr.isSl size j m
 have hs := hr.slc hj (Nat.le_refl m)
 have hl := hr.len
 rw [List.take_of_length_le (by rw [List.length_drop, hl, ← Nat.sub_mul]; exact Nat.le_refl _)] at hs
 refine ⟨Chg.refl _ _, ?_, by simpa [zX, zC8] using zFf _, fun k hk => .inl ?_⟩
 · intro x hx
   simp only [List.mem_singleton] at hx
   subst hx
   refine ⟨fun k hk => ?_, hs⟩
   rw [hb] at hk
   exact (row v e size m xs).lt w h k hk
 · have : k ∈ (zHv v size j m).ownBlock.toList := by simpa [zX, zC8] using hk
   rw [hb] at this
   simpa [zX, row] using this
theorem St.toRowR {v : Value} {e size m : Nat} {xs : List Value} {M' : List HA} (hs : St n F w0 S M a w) (d : Del M (row v e size m xs) M') : St n F w0 S (zC8 v size m xs :: M') a w := hs.frame (.c d .n) (zR4 (hs.mem.del d))
theorem St.toRowT {v : Value} {e size m : Nat} {xs : List Value} {M' : List HA} (hs : St n F w0 S M a w) (d : Del M (row v e size m xs) M') (j : Nat) (hj : j ≤ m) : St n F w0 S (zC8 (zHv v size j m) size (m - j) (xs.drop (j * size)) :: M') a w := hs.frame (.c d .n) (zRP (hs.mem.del d) hj)
theorem zOH (w : World) (size : Nat) : Mem w (zX []) [zC8 (.slice none 0 0) size 0 []] w := by
 refine ⟨Chg.refl _ _, ?_, by simp [zX, zC8, Value.ownBlock], fun k hk => by simp [zX, zC8, Value.ownBlock] at hk⟩
 intro x hx
 simp only [List.mem_singleton] at hx
 subst hx
 exact ⟨by simp [Value.ownBlock], zIL w [] size⟩
theorem St.addRowR (hs : St n F w0 S M a w) (size : Nat) : St n F w0 S (zC8 (.slice none 0 0) size 0 [] :: M) a w := hs.frame (zDQ.n (M := M)) (zOH w size)
theorem St.rerowR {v : Value} {size m m' : Nat} {xs xs' : List Value} {M' : List HA} (hs : St n F w0 S M a w) (d : Del M (zC8 v size m xs) M') (hm : m = m') (hx : xs = xs') : St n F w0 S (zC8 v size m' xs' :: M') a w := by
 subst hm hx
 refine hs.frame (N := [zC8 v size m xs]) (.c d .n) ⟨Chg.refl _ _, ?_, by simpa [zX, zC8] using zFf v, fun k hk => .inl hk⟩
 intro x hx
 simp only [List.mem_singleton] at hx
 subst hx
 exact hs.mem.del d
end
theorem zPi {x : RI} {m : Nat} (h : zFu x.v m) : ∀ u ∈ snV x, u.oneCell' = true := by
 intro u hu
 simp only [snV, List.mem_cons, List.not_mem_nil, or_false] at hu
 rcases hu with rfl | rfl | rfl
 · rfl
 · rfl
 · exact h.one
theorem zL4 {l : List RI} (h : ∀ x ∈ l, zFu x.v x.l.length) : ∀ u ∈ l.flatMap snV, u.oneCell' = true := by
 intro u hu
 obtain ⟨x, hx, hu⟩ := List.mem_flatMap.1 hu
 exact zPi (h x hx) u hu
theorem zOY {l : List Value} (h : ∀ u ∈ l, u.oneCell' = true) (i j : Nat) : ∀ u ∈ (l.drop i).take j, u.oneCell' = true := fun u hu => h u (List.mem_of_mem_drop (List.mem_of_mem_take hu))
theorem zOx {t tm : Int} {v : Value} {m : Nat} (h : zFu v m) : ∀ u ∈ [Value.int .i64 t, .int .i64 tm, v], u.oneCell' = true := zPi (x := ⟨t, tm, [], v⟩) h
/-! ### Looking for the base -/
def dfl (fl : Int) (gone : Bool) : Int := if gone = true then fl else -1
def zIz (l : List RI) (b : Int) (k : Nat) : RI := if zB9 (sns l) b = true ∧ zU (sns l) b < k then l.getD (zU (sns l) b) default else default
def zK4 (l : List RI) (b : Int) (k : Nat) : Bool := decide (b < 0) || (zB9 (sns l) b && decide (zU (sns l) b < k))
theorem zVY (l : List RI) (b : Int) : zIz l b 0 = default := if_neg (by omega)
theorem zUo (l : List RI) (b : Int) : zK4 l b 0 = decide (b < 0) := by unfold zK4; simp
theorem zV4 {l : List RI} {b : Int} {k : Nat} (h : srt (sns l)) (hk : k < l.length) (ht : (l.getD k default).t = b) : zB9 (sns l) b = true ∧ zU (sns l) b = k := by
 have hk' : k < (sns l).length := by rw [zAJ]; exact hk
 have e := zCH l hk
 have h1 : zB9 (sns l) b = true := by
   unfold zB9
   rw [List.any_eq_true]
   refine ⟨(sns l).getD k default, ?_, ?_⟩
   · rw [List.getD_eq_getElem?_getD, List.getElem?_eq_getElem hk']; exact List.getElem_mem hk'
   · rw [e]; simpa [RI.sn] using ht
 refine ⟨h1, ?_⟩
 have h2 : ¬ k < zU (sns l) b := fun hc => by
   have := zIE h hc; rw [e] at this
   have : (l.getD k default).t < b := this
   omega
 have h3 : ¬ zU (sns l) b < k := fun hc => by
   have h4 := zOh h hc hk'
   have h5 := ((zCj h).1 h1).2
   rw [e] at h4
   have : ((sns l).getD (zU (sns l) b) default).t < (l.getD k default).t := h4
   omega
 omega
theorem zMd {l : List RI} {b : Int} {k : Nat} (h : srt (sns l)) (hk : k < l.length) (ht : (l.getD k default).t = b) : zIz l b (k + 1) = l.getD k default ∧ zK4 l b (k + 1) = true := by
 obtain ⟨h1, h2⟩ := zV4 h hk ht
 constructor
 · unfold zIz; rw [if_pos ⟨h1, by omega⟩, h2]
 · unfold zK4; rw [h1, h2]; simp
theorem zJ9 {l : List RI} {b : Int} {k : Nat} (h : srt (sns l)) (hk : k < l.length) (ht : (l.getD k default).t ≠ b) : zIz l b (k + 1) = zIz l b k ∧ zK4 l b (k + 1) = zK4 l b k := by
 have hne : zB9 (sns l) b = true → zU (sns l) b ≠ k := fun hb e => by
   have h1 := ((zCj h).1 hb).2
   rw [e, zCH l hk] at h1
   exact ht h1
 constructor
 · unfold zIz
   by_cases hb : zB9 (sns l) b = true
   · have := hne hb
     by_cases h2 : zU (sns l) b < k
     · rw [if_pos ⟨hb, by omega⟩, if_pos ⟨hb, h2⟩]
     · rw [if_neg (by omega), if_neg (by omega)]
   · rw [if_neg (fun h => hb h.1), if_neg (fun h => hb h.1)]
 · unfold zK4
   by_cases hb : zB9 (sns l) b = true
   · have := hne hb
     have e : decide (zU (sns l) b < k + 1) = decide (zU (sns l) b < k) := decide_eq_decide.2 (by omega)
     rw [e]
   · rw [Bool.not_eq_true] at hb; rw [hb]; simp
theorem zLz {l : List RI} {b : Int} (h : srt (sns l)) : zIz l b l.length = zK l b ∧ zK4 l b l.length = !(zEK (sns l) b) := by
 have hlt : zB9 (sns l) b = true → zU (sns l) b < l.length := fun hb => by
   have := ((zCj h).1 hb).1; rwa [zAJ] at this
 constructor
 · unfold zIz zK
   by_cases hb : zB9 (sns l) b = true
   · rw [if_pos ⟨hb, hlt hb⟩, if_pos hb]
   · rw [if_neg (fun h => hb h.1), if_neg hb]
 · unfold zK4 zEK
   by_cases hb : zB9 (sns l) b = true
   · rw [hb]; simp [hlt hb]
   · rw [Bool.not_eq_true] at hb; rw [hb]; simp
     by_cases h0 : b < 0 <;> simp [h0] <;> omega
section
variable {l : List zAl} {most : Nat} {fl : Int} {gone : Bool} {G : zCa}
theorem zLd (h : G.e = 0) (hk : zB9 l G.t = false) (hs : stl l most fl gone G.t = false) (hb : zEK l G.b = false) : zDq l most fl gone G = 0 := by
 unfold zDq
 rw [zEq hb, zEq hs, zEq hk, h]
theorem zTb (h : G.e = 0) (hk : zB9 l G.t = true) : zAT l most fl gone G = 12 := by
 have e : zDq l most fl gone G = 12 := by
   unfold zDq
   rw [zGG h hk, zEV (e := 12) (by decide), zEV (e := 12) (by decide)]
 rw [zGM h (by omega), e]
theorem zKM (h : G.e = 0) (hk : zB9 l G.t = false) (hs : stl l most fl gone G.t = true) : zAT l most fl gone G = 13 := by
 have e : zDq l most fl gone G = 13 := by
   unfold zDq
   rw [zEq hk, zGG h hs, zEV (e := 13) (by decide)]
 rw [zGM h (by omega), e]
theorem zRv (h : G.e = 0) (hk : zB9 l G.t = false) (hs : stl l most fl gone G.t = false) (hb : zEK l G.b = true) : zAT l most fl gone G = 14 := by
 have e : zDq l most fl gone G = 14 := by
   unfold zDq
   rw [zEq hk, zEq hs, zGG h hb]
 rw [zGM h (by omega), e]
theorem zUR (h : G.e = 0) (hk : zB9 l G.t = false) (hs : stl l most fl gone G.t = false) (hb : zEK l G.b = false) (ha : zGI l G ≠ 0) : zAT l most fl gone G = zGI l G := by
 rw [zKC h (zLd h hk hs hb), zEV ha]
theorem zJn (h : G.e = 0) (hk : zB9 l G.t = false) (hs : stl l most fl gone G.t = false) (hb : zEK l G.b = false) (ha : zGI l G = 0) (ht : ¬ tml l (zAe l G).t (zAe l G).tm = true) : zAT l most fl gone G = 16 := by
 rw [zKC h (zLd h hk hs hb), zGG ha (by rw [Bool.eq_false_iff.2 ht]; rfl)]
theorem zMD (h : G.e = 0) (hk : zB9 l G.t = false) (hs : stl l most fl gone G.t = false) (hb : zEK l G.b = false) (ha : zGI l G = 0) (ht : tml l (zAe l G).t (zAe l G).tm = true) : zAT l most fl gone G = 0 := by
 rw [zKC h (zLd h hk hs hb), zEq (by rw [ht]; rfl), ha]
end
/-! ### The same in other words -/
theorem zER {l : List zAl} {most : Nat} {fl k : Int} {gone : Bool} (hk : 0 ≤ k) (h : zB9 l k = false) : stl l most fl gone k = true ↔ (k ≤ dfl fl gone ∨ (zU l k = 0 ∧ l.length = most)) := by
 unfold stl dfl
 rw [zKG h]
 cases gone <;> simp <;> omega
theorem zRN {l : List RI} {t tm : Int} (h : zB9 (sns l) t = false) : tml (sns l) t tm = true ↔ (0 < zU (sns l) t → (l.getD (zU (sns l) t - 1) default).tm < tm) ∧ (zU (sns l) t < l.length → tm < (l.getD (zU (sns l) t) default).tm) := by
 have hle : zU (sns l) t ≤ l.length := by have := zCN (sns l) t; rwa [zAJ] at this
 rw [zPG h, zAJ]
 constructor
 · rintro ⟨h2, h3⟩
   refine ⟨fun h4 => ?_, fun h4 => ?_⟩
   · have h5 := h2 h4; rw [zCH l (by omega)] at h5; exact h5
   · have h5 := h3 h4; rw [zCH l (by omega)] at h5; exact h5
 · rintro ⟨h2, h3⟩
   refine ⟨fun h4 => ?_, fun h4 => ?_⟩
   · rw [zCH l (by omega)]; exact h2 h4
   · rw [zCH l (by omega)]; exact h3 h4
theorem zVl {l : List RI} {i : Nat} {x : RI} (h : i ≤ l.length) : (([] ++ ((l.flatMap snV).drop (0 * 3)).take ((i - 0) * 3)) ++ [.int .i64 x.t, .int .i64 x.tm, x.v]) ++ ((l.flatMap snV).drop (i * 3)).take ((l.length - i) * 3) = (zB2 l i x).flatMap snV := by
 have hl := zBH zBq l
 rw [← zKB zBq l i x, List.nil_append, Nat.zero_mul, List.drop_zero, Nat.sub_zero, List.append_assoc]
 congr 1
 show [_, _, _] ++ _ = snV x ++ _
 rw [List.take_of_length_le (by rw [List.length_drop, hl, ← Nat.sub_mul]; exact Nat.le_refl _)]
 rfl
theorem zRa {l : List RI} {most : Nat} {fl k : Int} {gone : Bool} {A : zAl} {v : Value} (hk : A.t = k) (h : (zB2 l (zU (sns l) k) (⟨A.t, A.tm, A.l, v⟩ : RI)).length ≤ most) :
   zEY l most ⟨A.t, A.tm, A.l, v⟩ = zB2 l (zU (sns l) k) ⟨A.t, A.tm, A.l, v⟩ ∧ zGO (sns l) most A = sns (zEY l most ⟨A.t, A.tm, A.l, v⟩) ∧ dfl (zFy (sns l) most fl A) (zGP (sns l) most gone A) = dfl fl gone := by
 subst hk
 have hle : zU (sns l) A.t ≤ l.length := by have := zCN (sns l) A.t; rwa [zAJ] at this
 have h1 := zJz l most ⟨A.t, A.tm, A.l, v⟩
 have h2 := zJM l most fl ⟨A.t, A.tm, A.l, v⟩ hle
 have h3 := zJX l most gone ⟨A.t, A.tm, A.l, v⟩
 rw [zPX] at h1 h2 h3
 refine ⟨if_pos h, h1.symm, ?_⟩
 rw [← h2, ← h3]
 show dfl (if _ then fl else _) (if _ then gone else _) = _
 rw [if_pos h, if_pos h]
theorem zRw {l : List RI} {most : Nat} {fl k : Int} {gone : Bool} {A : zAl} {v : Value} (hk : A.t = k) (h : ¬ (zB2 l (zU (sns l) k) (⟨A.t, A.tm, A.l, v⟩ : RI)).length ≤ most) :
   zEY l most ⟨A.t, A.tm, A.l, v⟩ = (zB2 l (zU (sns l) k) ⟨A.t, A.tm, A.l, v⟩).drop 1 ∧ zGO (sns l) most A = sns (zEY l most ⟨A.t, A.tm, A.l, v⟩) ∧ dfl (zFy (sns l) most fl A) (zGP (sns l) most gone A) = ((zB2 l (zU (sns l) k) (⟨A.t, A.tm, A.l, v⟩ : RI)).getD 0 default).t := by
 subst hk
 have hle : zU (sns l) A.t ≤ l.length := by have := zCN (sns l) A.t; rwa [zAJ] at this
 have h1 := zJz l most ⟨A.t, A.tm, A.l, v⟩
 have h2 := zJM l most fl ⟨A.t, A.tm, A.l, v⟩ hle
 have h3 := zJX l most gone ⟨A.t, A.tm, A.l, v⟩
 rw [zPX] at h1 h2 h3
 refine ⟨if_neg h, h1.symm, ?_⟩
 rw [← h2, ← h3]
 show dfl (if _ then fl else _) (if _ then gone else _) = _
 rw [if_neg h, if_neg h]
 rfl
theorem Mem.allX {w0 w : World} {S : List Nat} {M X M' : List HA} (h : Mem w0 S M w) (d : zDQ M X M') : ∀ y ∈ X, y.p w := fun y hy => h.all y ((d.mem y).2 (.inl hy))
theorem zHT {a b c : Value} {N : Nat → Nat} {e : Nat} (h : e < 18) : ([a, b, c, nI (N 0), nI (N 1), nI (N 2), nI (N 3), nI (N 4), nI (N 5), nI (N 6), nI (N 7), nI (N 8), nI (N 9), nI (N 10), nI (N 11), nI (N 12), nI (N 13), nI (N 14), nI (N 15), nI (N 16), nI (N 17)] : List Value)[3 + e]? = some (nI (N e)) := by
 rcases zVe h with rfl | rfl | rfl | rfl | rfl | rfl | rfl | rfl | rfl | rfl | rfl | rfl | rfl | rfl | rfl | rfl | rfl | rfl <;> rfl
theorem zQ2 {a b c : Value} {N : Nat → Nat} {e : Nat} (h : e < 18) : ([a, b, c, nI (N 0), nI (N 1), nI (N 2), nI (N 3), nI (N 4), nI (N 5), nI (N 6), nI (N 7), nI (N 8), nI (N 9), nI (N 10), nI (N 11), nI (N 12), nI (N 13), nI (N 14), nI (N 15), nI (N 16), nI (N 17)] : List Value).set (3 + e) (zI (((N e : Nat) : Int) + 1)) = [a, b, c, nI (zAy N e 0), nI (zAy N e 1), nI (zAy N e 2), nI (zAy N e 3), nI (zAy N e 4), nI (zAy N e 5), nI (zAy N e 6), nI (zAy N e 7), nI (zAy N e 8), nI (zAy N e 9), nI (zAy N e 10), nI (zAy N e 11), nI (zAy N e 12), nI (zAy N e 13), nI (zAy N e 14), nI (zAy N e 15), nI (zAy N e 16), nI (zAy N e 17)] := by
 rcases zVe h with rfl | rfl | rfl | rfl | rfl | rfl | rfl | rfl | rfl | rfl | rfl | rfl | rfl | rfl | rfl | rfl | rfl | rfl <;> rfl
theorem zWA {most : Nat} {l : List zAl} {fl : Int} {gone : Bool} {N : Nat → Nat} {G : zCa} : (zAX most ⟨l, fl, gone, N⟩ G).l = (if zAT l most fl gone G = 0 then zGO l most (zAe l G) else l) ∧
   (if zAT l most fl gone G = 0 then dfl (zFy l most fl (zAe l G)) (zGP l most gone (zAe l G)) else dfl fl gone) = dfl (zAX most ⟨l, fl, gone, N⟩ G).floor (zAX most ⟨l, fl, gone, N⟩ G).gone ∧ zAy N (zAT l most fl gone G) = (zAX most ⟨l, fl, gone, N⟩ G).n := by
 unfold zAX
 dsimp only
 by_cases h : zAT l most fl gone G = 0
 · rw [if_pos h, if_pos h, if_pos h, h]; exact ⟨rfl, rfl, rfl⟩
 · rw [if_neg h, if_neg h, if_neg h]; exact ⟨rfl, rfl, rfl⟩
/-! ### Program and document side by side -/
theorem zL8 {n : Nat → Nat} {i : Nat} (h1 : 1 ≤ i) (h2 : i ≤ 17) : zDv n (i : Int) = n i := by
 unfold zDv; rw [if_pos (by omega)]; simp
theorem zTP {most : Nat} {σ : Stt} {G : zCa} (h : zAT σ.l most σ.floor σ.gone G = 0) : (!((((zDv (zAX most σ G).n ((zAT σ.l most σ.floor σ.gone G : Nat) : Int)) : Nat) : Int) == (((zAX most σ G).n (zAT σ.l most σ.floor σ.gone G) : Nat) : Int))) = true := by
 have e : (zAX most σ G).n = zAy σ.n 0 := by unfold zAX; rw [if_pos h]
 have e2 : zAy σ.n 0 0 = σ.n 0 + 1 := if_pos rfl
 have e3 : zDv (zAy σ.n 0) ((0 : Nat) : Int) = 0 := if_neg (by decide)
 rw [e, h, e2, e3, Bool.not_eq_true', beq_eq_false_iff_ne]
 omega
theorem zVb {most : Nat} {σ : Stt} {G : zCa} (h : zAT σ.l most σ.floor σ.gone G ≠ 0) (h2 : zAT σ.l most σ.floor σ.gone G ≤ 17) : (!((((zDv (zAX most σ G).n ((zAT σ.l most σ.floor σ.gone G : Nat) : Int)) : Nat) : Int) == (((zAX most σ G).n (zAT σ.l most σ.floor σ.gone G) : Nat) : Int))) = false := by
 rw [zL8 (by omega) h2]; exact congrArg (!·) (beq_self_eq_true _)
theorem zR2 {L : List zAl} {l : List RI} {most i : Nat} (h : L = sns l) (ho : Oks L most) (hi : i < l.length) : zH5 L i = 0 ∧ sat L i = (l.getD i default).sn ∧ zB9 L (l.getD i default).t = true ∧ zFz L (l.getD i default).t = (l.getD i default).sn := by
 subst h
 have hl := zAJ l
 have e := zCH l hi
 obtain ⟨h1, h2⟩ := zV4 ho.srt hi rfl
 refine ⟨if_pos ⟨by omega, by omega⟩, ?_, h1, ?_⟩
 · unfold sat; rw [if_pos ⟨by omega, by omega⟩, Int.toNat_natCast]; exact e
 · unfold zFz; rw [if_pos h1, h2]; exact e
end Go.Sx
