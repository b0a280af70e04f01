/- Texts of the small logic, one behind the other: SxPdelta, SxPdeltaD, SxPdeltaE, SxPdeltaL. -/
import Derived.Test.YtbacobmcfelmkaaGreatQSxRecs
import Derived.Test.YtbacobmcfelmkaaGreatQSxGrams
import Derived.Test.YtbacobmcfelmkaaGreatQSxMap
set_option linter.unusedVariables false
set_option linter.unusedSimpArgs false
namespace Go.Sx
def Srt (l : List zAU) : Prop := l.Pairwise (fun x y => x.id < y.id)
def zDd (l : List zAU) : Nat → Int
 | 0 => -1
 | k + 1 => (l.getD k default).id
def zEb (l : List zAU) (k : Nat) : Nat := if (l.getD k default).id < 0 ∨ 65535 < (l.getD k default).id then 3 else if (l.getD k default).id ≤ zDd l k then 10 else 0
def zDm (l : List zAU) : Nat → Nat
 | 0 => 0
 | j + 1 => if zDm l j ≠ 0 then zDm l j else zEb l j
def zBW (l : List zAU) : Nat := zDm l l.length
def zAP (t tm : Int) (l : List zAU) : Nat := if t < 0 ∨ 4294967295 < t ∨ tm < -2305843009213693952 ∨ 2305843009213693952 < tm then 3 else if 64 < l.length then 4 else zBW l
theorem zHQ {l : List zAU} {j : Nat} (h : zDm l j = 0) (h2 : zEb l j = 0) : zDm l (j + 1) = 0 := by unfold zDm; rw [if_neg (by omega), h2]
theorem zOo {l : List zAU} {j : Nat} (h : zDm l j = 0) : zDm l (j + 1) = zEb l j := by unfold zDm; rw [if_neg (by omega)]
theorem zId {l : List zAU} {j e : Nat} (h : zDm l j = e) (he : e ≠ 0) : ∀ k, zDm l (j + k) = e
 | 0 => h
 | k + 1 => by
   have := zId h he k
   show (if zDm l (j + k) ≠ 0 then zDm l (j + k) else zEb l (j + k)) = e
   rw [if_pos (by omega), this]
theorem zAF {l : List zAU} {j : Nat} (hj : j < l.length) (h : zDm l j = 0) (he : zEb l j ≠ 0) : zBW l = zEb l j := by
 have := zId (zOo h) he (l.length - (j + 1))
 rwa [show j + 1 + (l.length - (j + 1)) = l.length by omega] at this
theorem zHo {l : List zAU} {j : Nat} (h : zDm l j = 0) : ∀ k, k < j → zEb l k = 0 := by
 induction j with
 | zero => intro k hk; omega
 | succ j ih =>
   unfold zDm at h
   split at h
   · omega
   · intro k hk
     by_cases e : k = j
     · subst e; exact h
     · exact ih (by omega) k (by omega)
theorem zAt {l : List zAU} {k : Nat} (h : (l.getD k default).id < 0 ∨ 65535 < (l.getD k default).id) : zEb l k = 3 := by unfold zEb; rw [if_pos h]
theorem zAY {l : List zAU} {k : Nat} (h : ¬ ((l.getD k default).id < 0 ∨ 65535 < (l.getD k default).id)) (h2 : (l.getD k default).id ≤ zDd l k) : zEb l k = 10 := by unfold zEb; rw [if_neg h, if_pos h2]
theorem zJe {l : List zAU} {k : Nat} (h : ¬ ((l.getD k default).id < 0 ∨ 65535 < (l.getD k default).id)) (h2 : ¬ (l.getD k default).id ≤ zDd l k) : zEb l k = 0 := by unfold zEb; rw [if_neg h, if_neg h2]
theorem zFi {l : List zAU} {k : Nat} (h : zEb l k = 0) : 0 ≤ (l.getD k default).id ∧ (l.getD k default).id ≤ 65535 ∧ zDd l k < (l.getD k default).id := by
 unfold zEb at h
 split at h
 · cases h
 · split at h
   · cases h
   · omega
theorem zB5 {l : List zAU} {k : Nat} (h : k < l.length) : l.getD k default = l[k] := by rw [List.getD_eq_getElem?_getD, List.getElem?_eq_getElem h]; rfl
theorem zRt {l : List zAU} (h : zBW l = 0) : ∀ x ∈ l, 0 ≤ x.id ∧ x.id ≤ 65535 := by
 intro x hx
 obtain ⟨k, hk, rfl⟩ := List.mem_iff_getElem.1 hx
 have := zFi (zHo h k hk)
 rw [zB5 hk] at this
 omega
theorem zML {l : List zAU} (h : zBW l = 0) : Srt l := by
 refine List.pairwise_iff_getElem.2 ?_
 have key : ∀ d i (hi : i < l.length) (hj : i + d + 1 < l.length), l[i].id < l[i + d + 1].id := by
   intro d
   induction d with
   | zero =>
     intro i hi hj
     have := (zFi (zHo h (i + 1) hj)).2.2
     rw [zB5 hj] at this
     have e : zDd l (i + 1) = l[i].id := by show (l.getD i default).id = _; rw [zB5 hi]
     rw [e] at this
     exact this
   | succ d ih =>
     intro i hi hj
     have h1 := ih i hi (by omega)
     have := (zFi (zHo h (i + (d + 1) + 1) hj)).2.2
     rw [zB5 hj] at this
     have e : zDd l (i + (d + 1) + 1) = l[i + d + 1].id := by show (l.getD (i + (d + 1)) default).id = _; rw [zB5 (by omega)]; rfl
     rw [e] at this
     omega
 intro i j hi hj hij
 have := key (j - i - 1) i hi (by omega)
 simpa [show i + (j - i - 1) + 1 = j by omega] using this
theorem zS0 {l : List zAU} (hs : Srt l) (hr : ∀ x ∈ l, 0 ≤ x.id ∧ x.id ≤ 65535) : zBW l = 0 := by
 have key : ∀ j, j ≤ l.length → zDm l j = 0 := by
   intro j
   induction j with
   | zero => intro _; rfl
   | succ j ih =>
     intro hj
     have hg := zB5 (l := l) (k := j) (by omega)
     have hm := hr l[j] (List.getElem_mem (by omega))
     refine zHQ (ih (by omega)) (zJe (by rw [hg]; omega) ?_)
     rw [hg]
     cases j with
     | zero => show ¬ l[0].id ≤ -1; omega
     | succ i =>
       have := List.pairwise_iff_getElem.1 hs i (i + 1) (by omega) (by omega) (by omega)
       show ¬ l[i + 1].id ≤ (l.getD i default).id
       rw [zB5 (by omega)]
       omega
 exact key _ (Nat.le_refl _)
theorem zBO {t tm : Int} {l : List zAU} (h : t < 0 ∨ 4294967295 < t ∨ tm < -2305843009213693952 ∨ 2305843009213693952 < tm) : zAP t tm l = 3 := by unfold zAP; rw [if_pos h]
theorem zBP {t tm : Int} {l : List zAU} (h : ¬ (t < 0 ∨ 4294967295 < t ∨ tm < -2305843009213693952 ∨ 2305843009213693952 < tm)) (h2 : 64 < l.length) : zAP t tm l = 4 := by unfold zAP; rw [if_neg h, if_pos h2]
theorem zBK {t tm : Int} {l : List zAU} (h : ¬ (t < 0 ∨ 4294967295 < t ∨ tm < -2305843009213693952 ∨ 2305843009213693952 < tm)) (h2 : ¬ 64 < l.length) : zAP t tm l = zBW l := by unfold zAP; rw [if_neg h, if_neg h2]
theorem zC9 {t tm : Int} {l : List zAU} (h : zAP t tm l = 0) : 0 ≤ t ∧ t ≤ 4294967295 ∧ -2305843009213693952 ≤ tm ∧ tm ≤ 2305843009213693952 ∧ l.length ≤ 64 ∧ zBW l = 0 := by
 unfold zAP at h
 split at h
 · cases h
 · split at h
   · cases h
   · omega
/-! ### A map of entities -/
def ekv (l : List zAU) : List (Int × Value) := l.map fun e => (e.id, .agg (zBQ e).toArray)
def zET (k : Int) : List zAU → Option zAU
 | [] => none
 | x :: l => if x.id = k then some x else zET k l
def zIN (x : zAU) : List zAU → List zAU
 | [] => [x]
 | y :: l => if y.id = x.id then x :: l else y :: zIN x l
def zL7 (k : Int) : List zAU → List zAU
 | [] => []
 | y :: l => if y.id = k then l else y :: zL7 k l
theorem zMj (k : Int) : ∀ l, zIo k (ekv l) = (zET k l).map fun e => .agg (zBQ e).toArray
 | [] => rfl
 | x :: l => by
   show (if x.id = k then some _ else zIo k (ekv l)) = _
   unfold zET
   split
   · rfl
   · exact zMj k l
theorem zMc {k : Int} {x : zAU} (hk : x.id = k) : ∀ l, zNV k (.agg (zBQ x).toArray) (ekv l) = ekv (zIN x l)
 | [] => by show [(k, _)] = [(x.id, _)]; rw [hk]
 | y :: l => by
   show (if y.id = k then _ :: ekv l else _ :: zNV k _ (ekv l)) = _
   unfold zIN
   rw [hk]
   split
   · show _ = (x.id, _) :: ekv l; rw [hk]
   · rw [zMc hk l]; rfl
theorem zMq (k : Int) : ∀ l, zQW k (ekv l) = ekv (zL7 k l)
 | [] => rfl
 | y :: l => by
   show (if y.id = k then ekv l else _ :: zQW k (ekv l)) = _
   unfold zL7
   split
   · rfl
   · rw [zMq k l]; rfl
theorem zK9 (l : List zAU) : (ekv l).length = l.length := by simp [ekv]
def zK3 (l : List zAU) : Prop := (l.map (·.id)).Nodup
theorem Srt.uniq {l : List zAU} (h : Srt l) : zK3 l := by
 unfold zK3
 rw [List.nodup_iff_pairwise_ne, List.pairwise_map]
 exact h.imp fun h => by omega
theorem zDz {k : Int} : ∀ {l : List zAU}, zET k l = none ↔ ∀ e ∈ l, e.id ≠ k
 | [] => by simp [zET]
 | x :: l => by
   unfold zET
   split
   · simp_all
   · rename_i h
     rw [zDz]
     simp [h]
theorem zHY {k : Int} {e : zAU} : ∀ {l : List zAU}, zET k l = some e → e ∈ l ∧ e.id = k
 | [], h => by cases h
 | x :: l, h => by
   unfold zET at h
   split at h
   · rename_i hx
     cases h
     exact ⟨by simp, hx⟩
   · have := zHY h
     exact ⟨by simp [this.1], this.2⟩
theorem zFq {e : zAU} : ∀ {l : List zAU}, zK3 l → e ∈ l → zET e.id l = some e
 | [], _, h => by cases h
 | x :: l, hu, h => by
   unfold zK3 at hu
   rw [List.map_cons, List.nodup_cons] at hu
   unfold zET
   rcases List.mem_cons.1 h with h | h
   · rw [h, if_pos rfl]
   · rw [if_neg (fun e' : x.id = e.id => hu.1 (by rw [e']; exact List.mem_map_of_mem h)), zFq hu.2 h]
theorem zK3.perm {l l' : List zAU} (h : zK3 l) (p : l.Perm l') : zK3 l' := (p.map _).nodup_iff.1 h
theorem zPh {k : Int} {l l' : List zAU} (hu : zK3 l) (p : l.Perm l') : zET k l = zET k l' := by
 cases h : zET k l with
 | none => exact (zDz.2 fun e he => zDz.1 h e (p.mem_iff.2 he)).symm
 | some e =>
   obtain ⟨h1, rfl⟩ := zHY h
   exact (zFq (hu.perm p) (p.mem_iff.1 h1)).symm
theorem zDN {k : Int} : ∀ {l : List zAU}, zK3 l → zL7 k l = l.filter (fun e => decide (e.id ≠ k))
 | [], _ => rfl
 | x :: l, hu => by
   unfold zK3 at hu
   rw [List.map_cons, List.nodup_cons] at hu
   unfold zL7
   by_cases h : x.id = k
   · rw [if_pos h, List.filter_cons_of_neg (by simp [h])]
     refine (List.filter_eq_self.2 fun e he => ?_).symm
     simp only [ne_eq, decide_eq_true_eq]
     intro e'
     exact hu.1 (by rw [h, ← e']; exact List.mem_map_of_mem he)
   · rw [if_neg h, List.filter_cons_of_pos (by simp [h]), zDN hu.2]
theorem zH4 {x : zAU} : ∀ {l : List zAU}, zK3 l → (zIN x l).Perm (x :: l.filter (fun e => decide (e.id ≠ x.id)))
 | [], _ => List.Perm.refl _
 | y :: l, hu => by
   have hu' := hu
   unfold zK3 at hu
   rw [List.map_cons, List.nodup_cons] at hu
   unfold zIN
   by_cases h : y.id = x.id
   · rw [if_pos h, ← zDN hu', zL7, if_pos h]
   · rw [if_neg h, List.filter_cons_of_pos (by simp [h])]
     exact ((zH4 hu.2).cons y).trans (List.Perm.swap _ _ _)
theorem zPb {k : Int} {l l' : List zAU} (hu : zK3 l) (p : l.Perm l') : (zL7 k l).Perm (zL7 k l') := by rw [zDN hu, zDN (hu.perm p)]; exact p.filter _
theorem zKA {x : zAU} {l l' : List zAU} (hu : zK3 l) (p : l.Perm l') : (zIN x l).Perm (x :: l'.filter (fun e => decide (e.id ≠ x.id))) := (zH4 hu).trans ((p.filter _).cons x)
theorem zLx {x : zAU} : ∀ {l : List zAU}, zET x.id l = none → zIN x l = l ++ [x]
 | [], _ => rfl
 | y :: l, h => by
   unfold zET at h
   split at h
   · cases h
   · rename_i hy
     unfold zIN
     rw [if_neg hy, zLx h]
     rfl
theorem zRX {l : List zAU} (hs : Srt l) {j : Nat} (hj : j < l.length) : zIN (l.getD j default) (l.take j) = l.take (j + 1) := by
 rw [zLx, zKx hj]
 refine zDz.2 fun e he => ?_
 obtain ⟨i, hi, rfl⟩ := List.mem_iff_getElem.1 he
 rw [zB5 hj, List.getElem_take]
 have := List.pairwise_iff_getElem.1 hs i j (by simp at hi; omega) hj (by simp at hi; omega)
 omega
/-! ### What is made of a snapshot -/
def zDZ (r : zAd) : zAU := ⟨r.id, r.p0, r.p1, r.p2, r.v0, r.v1, r.v2, r.a, 0#8⟩
def apl : List zAU → List zAd → Option (List zAU)
 | was, [] => some was
 | [], r :: l => if r.k = 0 then (apl [] l).map (zDZ r :: ·) else none
 | x :: was, r :: l =>
   if x.id < r.id then (apl was (r :: l)).map (x :: ·)
   else if x.id = r.id then (if r.k = 0 then none else if r.k = 2 then apl was l else (apl was l).map ((zG x r).1 :: ·))
   else if r.k = 0 then (apl (x :: was) l).map (zDZ r :: ·) else none
termination_by a b => a.length + b.length
theorem zLX (was : List zAU) : apl was [] = some was := by unfold apl; rfl
theorem zLj (r : zAd) (l : List zAd) : apl [] (r :: l) = if r.k = 0 then (apl [] l).map (zDZ r :: ·) else none := by rw [apl]
theorem zC0 (x : zAU) (was : List zAU) (r : zAd) (l : List zAd) : apl (x :: was) (r :: l) =
 if x.id < r.id then (apl was (r :: l)).map (x :: ·)
 else if x.id = r.id then (if r.k = 0 then none else if r.k = 2 then apl was l else (apl was l).map ((zG x r).1 :: ·))
 else if r.k = 0 then (apl (x :: was) l).map (zDZ r :: ·) else none := by rw [apl]
def zCl (m : List zAU) (r : zAd) : Option (List zAU) :=
 match zET r.id m with
 | none => if r.k = 0 then some (zIN (zDZ r) m) else none
 | some x => if r.k = 0 then none else if r.k = 2 then some (zL7 r.id m) else some (zIN (zG x r).1 m)
def zCt (m : List zAU) : List zAd → Option (List zAU)
 | [] => some m
 | r :: l => (zCl m r).bind (zCt · l)
theorem zFt {x : zAU} {r : zAd} (h : zAk r = 0) (hi : r.id = x.id) (h0 : r.k ≠ 0) (h2 : r.k ≠ 2) : (zG x r).1.id = x.id ∧ (zG x r).2 = 0 := by
 by_cases h3 : r.k = 3
 · rw [zA8 h (by simp [hi, h0, h2]) h3]; exact ⟨rfl, rfl⟩
 · rw [zBD h (by simp [hi, h0, h2]) h3]; exact ⟨rfl, rfl⟩
theorem zIn {out b : List zAU} {x : zAU} (ho : ∀ e ∈ out, e.id < x.id) (hb : ∀ e ∈ b, x.id < e.id) : (out ++ x :: b).filter (fun e => decide (e.id ≠ x.id)) = out ++ b := by
 rw [List.filter_append, List.filter_cons_of_neg (by simp), List.filter_eq_self.2 (fun e he => by have := ho e he; simp; omega), List.filter_eq_self.2 (fun e he => by have := hb e he; simp; omega)]
theorem zLr {l : List zAU} {k : Int} (h : ∀ e ∈ l, e.id ≠ k) : l.filter (fun e => decide (e.id ≠ k)) = l := List.filter_eq_self.2 fun e he => by simpa using h e he
theorem zSI {out b : List zAU} {x : zAU} (hu : zK3 (out ++ x :: b)) : zET x.id (out ++ x :: b) = some x := zFq hu (by simp)
theorem Srt.mid {out b : List zAU} {x : zAU} (h : Srt (out ++ x :: b)) : (∀ e ∈ out, e.id < x.id) ∧ (∀ e ∈ b, x.id < e.id) ∧ Srt (out ++ b) ∧ (∀ e ∈ out, ∀ e' ∈ b, e.id < e'.id) := by
 unfold Srt at h ⊢
 rw [List.pairwise_append] at h ⊢
 obtain ⟨h1, h2, h3⟩ := h
 rw [List.pairwise_cons] at h2
 exact ⟨fun e he => h3 e he x (by simp), h2.1, ⟨h1, h2.2, fun a ha b hb => h3 a ha b (by simp [hb])⟩, fun a ha b hb => h3 a ha b (by simp [hb])⟩
theorem Srt.ins {out b : List zAU} {x : zAU} (h : Srt (out ++ b)) (ho : ∀ e ∈ out, e.id < x.id) (hb : ∀ e ∈ b, x.id < e.id) : Srt (out ++ x :: b) := by
 unfold Srt at h ⊢
 rw [List.pairwise_append] at h ⊢
 obtain ⟨h1, h2, h3⟩ := h
 exact ⟨h1, List.pairwise_cons.2 ⟨hb, h2⟩, fun a ha c hc => by
   rcases List.mem_cons.1 hc with e | e
   · rw [e]; exact ho a ha
   · exact h3 a ha c e⟩
def zVx (l : List zAd) : Prop := l.Pairwise (fun x y => x.id < y.id)
theorem zJE : ∀ (n : Nat) (wi : List zAU) (rs : List zAd), wi.length + rs.length ≤ n → ∀ (out m : List zAU), m.Perm (out ++ wi) → Srt (out ++ wi) → (∀ e ∈ out, ∀ r ∈ rs, e.id < r.id) → zVx rs → (∀ r ∈ rs, zAk r = 0) →
   (apl wi rs = none → zCt m rs = none) ∧ (∀ l, apl wi rs = some l → Srt (out ++ l) ∧ ∃ m', zCt m rs = some m' ∧ m'.Perm (out ++ l)) := by
 intro n
 induction n with
 | zero =>
   intro wi rs hn out m hp hs ho hr hc
   obtain rfl : wi = [] := List.length_eq_zero_iff.1 (by omega)
   obtain rfl : rs = [] := List.length_eq_zero_iff.1 (by omega)
   rw [zLX]
   exact ⟨fun h => (by cases h), fun l h => by cases h; exact ⟨hs, m, rfl, hp⟩⟩
 | succ n ih =>
   intro wi rs hn out m hp hs ho hr hc
   cases rs with
   | nil =>
     rw [zLX]
     exact ⟨fun h => (by cases h), fun l h => by cases h; exact ⟨hs, m, rfl, hp⟩⟩
   | cons r rs =>
     have hum : zK3 m := hs.uniq.perm hp.symm
     have hr' := List.pairwise_cons.1 hr
     have hc0 := hc r (by simp)
     have hget : zET r.id m = zET r.id (out ++ wi) := zPh hum hp
     have new : (∀ e ∈ wi, r.id < e.id) → (apl wi (r :: rs) = if r.k = 0 then (apl wi rs).map (zDZ r :: ·) else none) →
         (apl wi (r :: rs) = none → zCt m (r :: rs) = none) ∧ (∀ l, apl wi (r :: rs) = some l → Srt (out ++ l) ∧ ∃ m', zCt m (r :: rs) = some m' ∧ m'.Perm (out ++ l)) := by
       intro hw he
       have hng : zET r.id m = none := by
         rw [hget]
         refine zDz.2 fun e hm => ?_
         rcases List.mem_append.1 hm with h | h
         · have := ho e h r (by simp); omega
         · have := hw e h; omega
       rw [he]
       by_cases hk : r.k = 0
       · rw [if_pos hk]
         have hstep : zCl m r = some (zIN (zDZ r) m) := by unfold zCl; rw [hng]; exact if_pos hk
         have hp2 : (zIN (zDZ r) m).Perm ((out ++ [zDZ r]) ++ wi) := by
           refine (zKA hum hp).trans ?_
           show (zDZ r :: (out ++ wi).filter (fun e => decide (e.id ≠ r.id))).Perm _
           rw [zLr (by rw [hget] at hng; exact zDz.1 hng)]
           rw [List.append_assoc]
           exact List.perm_middle.symm
         have hs2 : Srt ((out ++ [zDZ r]) ++ wi) := by
           rw [List.append_assoc]
           exact hs.ins (x := zDZ r) (fun e h => ho e h r (by simp)) hw
         obtain ⟨i1, i2⟩ := ih wi rs (by simp at hn; omega) _ _ hp2 hs2 (fun e h r' hr2 => by
           rcases List.mem_append.1 h with h | h
           · exact ho e h r' (by simp [hr2])
           · rw [List.mem_singleton.1 h]; exact hr'.1 r' hr2) hr'.2 (fun r' h => hc r' (by simp [h]))
         have hf : zCt m (r :: rs) = zCt (zIN (zDZ r) m) rs := by show (zCl m r).bind _ = _; rw [hstep]; rfl
         rw [hf]
         refine ⟨fun h => i1 (by cases ha : apl wi rs with | none => rfl | some l => rw [ha] at h; cases h), fun l h => ?_⟩
         cases ha : apl wi rs with
         | none => rw [ha] at h; cases h
         | some l' =>
           rw [ha] at h
           cases h
           have := i2 l' ha
           simpa [List.append_assoc] using this
       · rw [if_neg hk]
         have hf : zCt m (r :: rs) = none := by
           show (zCl m r).bind _ = _
           have : zCl m r = none := by unfold zCl; rw [hng]; exact if_neg hk
           rw [this]; rfl
         exact ⟨fun _ => hf, fun l h => by cases h⟩
     cases wi with
     | nil => exact new (by simp) (zLj r rs)
     | cons x wi =>
       have hmid := hs.mid
       by_cases h1 : x.id < r.id
       · have he : apl (x :: wi) (r :: rs) = (apl wi (r :: rs)).map (x :: ·) := by rw [zC0, if_pos h1]
         have hs2 : Srt ((out ++ [x]) ++ wi) := by rw [List.append_assoc]; exact hs
         obtain ⟨i1, i2⟩ := ih wi (r :: rs) (by simp at hn ⊢; omega) (out ++ [x]) m (by rw [List.append_assoc]; exact hp) hs2 (fun e h r' hr2 => by
           rcases List.mem_append.1 h with h | h
           · exact ho e h r' hr2
           · rw [List.mem_singleton.1 h]
             rcases List.mem_cons.1 hr2 with e' | e'
             · rw [e']; exact h1
             · have := hr'.1 r' e'; omega) hr hc
         rw [he]
         refine ⟨fun h => i1 (by cases ha : apl wi (r :: rs) with | none => rfl | some l => rw [ha] at h; cases h), fun l h => ?_⟩
         cases ha : apl wi (r :: rs) with
         | none => rw [ha] at h; cases h
         | some l' =>
           rw [ha] at h
           cases h
           have := i2 l' ha
           simpa [List.append_assoc] using this
       · by_cases h2 : x.id = r.id
         · have hg : zET r.id m = some x := by rw [hget, ← h2]; exact zSI hs.uniq
           have ho' : ∀ e ∈ out ++ ([] : List zAU), ∀ r' ∈ rs, e.id < r'.id := fun e h r' hr2 => ho e (by simpa using h) r' (by simp [hr2])
           by_cases hk0 : r.k = 0
           · have he : apl (x :: wi) (r :: rs) = none := by rw [zC0, if_neg h1, if_pos h2, if_pos hk0]
             have hf : zCt m (r :: rs) = none := by
               show (zCl m r).bind _ = _
               have : zCl m r = none := by unfold zCl; rw [hg]; exact if_pos hk0
               rw [this]; rfl
             rw [he]
             exact ⟨fun _ => hf, fun l h => by cases h⟩
           · by_cases hk2 : r.k = 2
             · have he : apl (x :: wi) (r :: rs) = apl wi rs := by rw [zC0, if_neg h1, if_pos h2, if_neg hk0, if_pos hk2]
               have hf : zCt m (r :: rs) = zCt (zL7 r.id m) rs := by
                 show (zCl m r).bind _ = _
                 have : zCl m r = some (zL7 r.id m) := by unfold zCl; rw [hg]; exact (if_neg hk0).trans (if_pos hk2)
                 rw [this]; rfl
               rw [he, hf]
               refine ih wi rs (by simp at hn ⊢; omega) out _ ?_ hmid.2.2.1 (fun e h r' hr2 => ho e h r' (by simp [hr2])) hr'.2 (fun r' h => hc r' (by simp [h]))
               refine (zPb hum hp).trans ?_
               rw [zDN hs.uniq, ← h2, zIn hmid.1 hmid.2.1]
             · have hid := (zFt (x := x) hc0 h2.symm hk0 hk2).1
               have he : apl (x :: wi) (r :: rs) = (apl wi rs).map ((zG x r).1 :: ·) := by rw [zC0, if_neg h1, if_pos h2, if_neg hk0, if_neg hk2]
               have hf : zCt m (r :: rs) = zCt (zIN (zG x r).1 m) rs := by
                 show (zCl m r).bind _ = _
                 have : zCl m r = some (zIN (zG x r).1 m) := by unfold zCl; rw [hg]; exact (if_neg hk0).trans (if_neg hk2)
                 rw [this]; rfl
               have hp2 : (zIN (zG x r).1 m).Perm ((out ++ [(zG x r).1]) ++ wi) := by
                 refine (zKA hum hp).trans ?_
                 rw [hid, zIn hmid.1 hmid.2.1, List.append_assoc]
                 exact List.perm_middle.symm
               have hs2 : Srt ((out ++ [(zG x r).1]) ++ wi) := by
                 rw [List.append_assoc]
                 exact hmid.2.2.1.ins (by rw [hid]; exact hmid.1) (by rw [hid]; exact hmid.2.1)
               obtain ⟨i1, i2⟩ := ih wi rs (by simp at hn; omega) _ _ hp2 hs2 (fun e h r' hr2 => by
                 rcases List.mem_append.1 h with h | h
                 · exact ho e h r' (by simp [hr2])
                 · rw [List.mem_singleton.1 h, hid, h2]; exact hr'.1 r' hr2) hr'.2 (fun r' h => hc r' (by simp [h]))
               rw [he, hf]
               refine ⟨fun h => i1 (by cases ha : apl wi rs with | none => rfl | some l => rw [ha] at h; cases h), fun l h => ?_⟩
               cases ha : apl wi rs with
               | none => rw [ha] at h; cases h
               | some l' =>
                 rw [ha] at h
                 cases h
                 have := i2 l' ha
                 simpa [List.append_assoc] using this
         · refine new (fun e h => ?_) (by rw [zC0, if_neg h1, if_neg h2])
           rcases List.mem_cons.1 h with e' | e'
           · rw [e']; omega
           · have := hmid.2.1 e e'; omega
theorem zL5 {α : Type} (f : α → Int) : ∀ {l l' : List α}, l.Perm l' → l.Pairwise (fun x y => f x ≤ f y) → l'.Pairwise (fun x y => f x < f y) → l = l'
 | [], l', p, _, _ => (List.nil_perm.1 p).symm
 | x :: l, [], p, _, _ => by simpa using p.length_eq
 | x :: l, y :: l', p, h, h' => by
   rw [List.pairwise_cons] at h h'
   have e : x = y := by
     rcases List.mem_cons.1 (p.mem_iff.1 (List.mem_cons_self (a := x))) with e | e
     · exact e
     · have h1 := h'.1 x e
       rcases List.mem_cons.1 (p.mem_iff.2 (List.mem_cons_self (a := y))) with e2 | e2
       · exact e2.symm
       · have h2 := h.1 y e2; omega
   subst e
   rw [zL5 f (List.Perm.cons_inv p) h.2 h'.2]
end Go.Sx

set_option linter.unusedVariables false
set_option linter.unusedSimpArgs false
namespace Go.Sx
/-! ### What a telling consists of -/
structure Two (a b : List zAU) : Prop where
 sa : Srt a
 sb : Srt b
 ra : ∀ x ∈ a, 0 ≤ x.id ∧ x.id ≤ 65535
 rb : ∀ x ∈ b, 0 ≤ x.id ∧ x.id ≤ 65535
 wa : ∀ x ∈ a, x.wf
 wb : ∀ x ∈ b, x.wf
theorem Two.tl {x : zAU} {a b : List zAU} (h : Two (x :: a) b) : Two a b := ⟨(List.pairwise_cons.1 h.sa).2, h.sb, fun z hz => h.ra z (by simp [hz]), h.rb, fun z hz => h.wa z (by simp [hz]), h.wb⟩
theorem zFH {L : List zAd} (h : zBg L = 0) : zVx L ∧ ∀ r ∈ L, zAk r = 0 ∧ 0 ≤ r.id ∧ r.id ≤ 65535 := by
 have hat : ∀ k, k < L.length → zCc L k = 0 := zIq h
 have hg : ∀ k (hk : k < L.length), L.getD k default = L[k] := fun k hk => by rw [List.getD_eq_getElem?_getD, List.getElem?_eq_getElem hk]; rfl
 refine ⟨List.pairwise_iff_getElem.2 ?_, fun r hr => ?_⟩
 · have key : ∀ d i (hi : i < L.length) (hj : i + d + 1 < L.length), L[i].id < L[i + d + 1].id := by
     intro d
     induction d with
     | zero =>
       intro i hi hj
       have := zDA (hat (i + 1) hj)
       rw [zB6 hi, hg _ hj] at this
       dsimp only at this
       rw [hg _ hi] at this
       exact this.2.2.2
     | succ d ih =>
       intro i hi hj
       have h1 := ih i hi (by omega)
       have := zDA (hat (i + (d + 1) + 1) hj)
       rw [zB6 (by omega), hg _ hj] at this
       dsimp only at this
       rw [hg _ (by omega)] at this
       have h2 := this.2.2.2
       have e : L[i + (d + 1)].id = L[i + d + 1].id := rfl
       omega
   intro i j hi hj hij
   have := key (j - i - 1) i hi (by omega)
   simpa [show i + (j - i - 1) + 1 = j by omega] using this
 · obtain ⟨k, hk, rfl⟩ := List.mem_iff_getElem.1 hr
   have h1 := hat k hk
   have h2 := zDA h1
   rw [hg k hk] at h2
   refine ⟨?_, h2.1, h2.2.1⟩
   unfold zCc zBG at h1
   rw [hg k hk] at h1
   split at h1
   · omega
   · omega
/-! ### The program's loop -/
end Go.Sx

set_option linter.unusedVariables false
set_option linter.unusedSimpArgs false
namespace Go.Sx
structure zAl where
 t : Int
 tm : Int
 l : List zAU
/-! ### Finding -/
/-! ### Telling -/
section
variable {at_ atm bt btm : Int} {a b : List zAU}
/-! ### Making -/
variable {gt gtm gb : Int} {rl : List zAd}
def zEF (gb : Int) (a : List zAU) : List zAU := if 0 ≤ gb then a else []
def aM (was : List zAU) (rl : List zAd) : Nat := match apl was rl with | none => 15 | some l => if 64 < l.length then 4 else 0
def aE (at_ atm : Int) (a : List zAU) (gt gtm gb : Int) (rl : List zAd) : Nat :=
 if zAV gt gtm gb rl ≠ 0 then zAV gt gtm gb rl else if 0 ≤ gb ∧ zAP at_ atm a ≠ 0 then zAP at_ atm a else if 0 ≤ gb ∧ at_ ≠ gb then 14 else aM (zEF gb a) rl
def aS (at_ atm : Int) (a : List zAU) (gt gtm gb : Int) (rl : List zAd) : zAl := if aE at_ atm a gt gtm gb rl = 0 then ⟨gt, gtm, (apl (zEF gb a) rl).getD []⟩ else ⟨0, 0, []⟩
theorem zN8 (h : zAV gt gtm gb rl ≠ 0) : aE at_ atm a gt gtm gb rl = zAV gt gtm gb rl := by unfold aE; rw [if_pos h]
theorem zN7 (h : zAV gt gtm gb rl = 0) (h1 : 0 ≤ gb) (h2 : zAP at_ atm a ≠ 0) : aE at_ atm a gt gtm gb rl = zAP at_ atm a := by unfold aE; rw [if_neg (by omega), if_pos ⟨h1, h2⟩]
theorem zN4 (h : zAV gt gtm gb rl = 0) (h1 : 0 ≤ gb) (h2 : zAP at_ atm a = 0) (h3 : at_ ≠ gb) : aE at_ atm a gt gtm gb rl = 14 := by unfold aE; rw [if_neg (by omega), if_neg (by omega), if_pos ⟨h1, h3⟩]
theorem zJJ (h : zAV gt gtm gb rl = 0) (h1 : 0 ≤ gb → zAP at_ atm a = 0 ∧ at_ = gb) : aE at_ atm a gt gtm gb rl = aM (zEF gb a) rl := by
 unfold aE
 rw [if_neg (by omega), if_neg (fun ⟨h2, h3⟩ => h3 (h1 h2).1), if_neg (fun ⟨h2, h3⟩ => h3 (h1 h2).2)]
theorem zN3 (h : aE at_ atm a gt gtm gb rl ≠ 0) : aS at_ atm a gt gtm gb rl = ⟨0, 0, []⟩ := by unfold aS; rw [if_neg h]
theorem zUp (h : aE at_ atm a gt gtm gb rl = 0) : aS at_ atm a gt gtm gb rl = ⟨gt, gtm, (apl (zEF gb a) rl).getD []⟩ := by unfold aS; rw [if_pos h]
theorem zDc {was : List zAU} (h : apl was rl = none) : aM was rl = 15 := by unfold aM; rw [h]
theorem zDW {was l : List zAU} (h : apl was rl = some l) (h2 : 64 < l.length) : aM was rl = 4 := by unfold aM; rw [h]; exact if_pos h2
theorem zVS {was l : List zAU} (h : apl was rl = some l) (h2 : ¬ 64 < l.length) : aM was rl = 0 := by unfold aM; rw [h]; exact if_neg h2
theorem zMz (h : aE at_ atm a gt gtm gb rl = 0) : zAV gt gtm gb rl = 0 ∧ (0 ≤ gb → zAP at_ atm a = 0 ∧ at_ = gb) ∧ ∃ l, apl (zEF gb a) rl = some l ∧ l.length ≤ 64 := by
 have h0 : zAV gt gtm gb rl = 0 := by
   cases hb : zAV gt gtm gb rl with
   | zero => rfl
   | succ n => rw [zN8 (by omega)] at h; omega
 have h1 : 0 ≤ gb → zAP at_ atm a = 0 ∧ at_ = gb := by
   intro hg
   by_cases e : zAP at_ atm a = 0
   · by_cases e2 : at_ = gb
     · exact ⟨e, e2⟩
     · rw [zN4 h0 hg e e2] at h; cases h
   · rw [zN7 h0 hg e] at h; omega
 refine ⟨h0, h1, ?_⟩
 rw [zJJ h0 h1] at h
 unfold aM at h
 cases ha : apl (zEF gb a) rl with
 | none => rw [ha] at h; cases h
 | some l =>
   rw [ha] at h
   dsimp only at h
   split at h
   · cases h
   · exact ⟨l, rfl, by omega⟩
end
theorem zJ8 {gb t tm : Int} {a : List zAU} (h : 0 ≤ gb → zAP t tm a = 0 ∧ t = gb) : Srt (zEF gb a) := by
 unfold zEF
 split
 · rename_i hg; exact zML (zC9 (h hg).1).2.2.2.2.2
 · exact List.Pairwise.nil
theorem zIR {was mm m' : List zAU} {rl : List zAd} {k : Nat} (hk : k < rl.length) (h : zCt was rl = zCt mm (rl.drop k)) (hs : zCl mm (rl.getD k default) = some m') : zCt was rl = zCt m' (rl.drop (k + 1)) := by
 rw [h, List.drop_eq_getElem_cons hk]
 have e : rl.getD k default = rl[k] := by rw [List.getD_eq_getElem?_getD, List.getElem?_eq_getElem hk]; rfl
 rw [e] at hs
 show (zCl mm rl[k]).bind _ = _
 rw [hs]
 rfl
theorem zGQ {was mm : List zAU} {rl : List zAd} {k : Nat} (hk : k < rl.length) (h : zCt was rl = zCt mm (rl.drop k)) (hs : zCl mm (rl.getD k default) = none) : zCt was rl = none := by
 rw [h, List.drop_eq_getElem_cons hk]
 have e : rl.getD k default = rl[k] := by rw [List.getD_eq_getElem?_getD, List.getElem?_eq_getElem hk]; rfl
 rw [e] at hs
 show (zCl mm rl[k]).bind _ = _
 rw [hs]
 rfl
theorem zE5 {was mm : List zAU} {rl : List zAd} {k : Nat} (hk : rl.length ≤ k) (h : zCt was rl = zCt mm (rl.drop k)) : zCt was rl = some mm := by
 rw [h, List.drop_of_length_le hk]
 rfl
theorem zEu {m : List zAU} {r : zAd} (h : ((zET r.id m).isSome == (r.k == 0)) = true) : zCl m r = none := by
 unfold zCl
 cases hg : zET r.id m with
 | none =>
   rw [hg] at h
   have : r.k ≠ 0 := by simpa using h
   exact if_neg this
 | some x =>
   rw [hg] at h
   have : r.k = 0 := by simpa using h
   exact if_pos this
theorem zPe {m : List zAU} {r : zAd} (h : ((zET r.id m).isSome == (r.k == 0)) = false) (h2 : (zET r.id m).isSome = false) : zCl m r = some (zIN (zDZ r) m) := by
 rw [h2] at h
 have : r.k = 0 := by simpa using h
 unfold zCl
 rw [show zET r.id m = none by cases h : zET r.id m <;> simp_all]
 exact if_pos this
theorem zTL {m : List zAU} {r : zAd} {x : zAU} (h : ((zET r.id m).isSome == (r.k == 0)) = false) (hx : zET r.id m = some x) : r.k ≠ 0 := by
 rw [hx] at h
 simpa using h
theorem zOL {m : List zAU} {r : zAd} {x : zAU} (hx : zET r.id m = some x) (h2 : r.k = 2) : zCl m r = some (zL7 r.id m) := by
 unfold zCl
 rw [hx]
 exact (if_neg (by omega)).trans (if_pos h2)
theorem zOZ {m : List zAU} {r : zAd} {x : zAU} (hx : zET r.id m = some x) (h0 : r.k ≠ 0) (h2 : r.k ≠ 2) : zCl m r = some (zIN (zG x r).1 m) := by
 unfold zCl
 rw [hx]
 exact (if_neg h0).trans (if_neg h2)
theorem zFC {l : List zAd} {k : Nat} (h : k < l.length) : l.getD k default = l[k] := by rw [List.getD_eq_getElem?_getD, List.getElem?_eq_getElem h]; rfl
theorem zUk {m : List zAU} {rl : List zAd} {k : Nat} {x : zAU} (hr : zBg rl = 0) (hk : k < rl.length) (hx : zET (rl.getD k default).id m = some x) (h0 : (rl.getD k default).k ≠ 0) (h2 : (rl.getD k default).k ≠ 2) : (zG x (rl.getD k default)).1.id = (rl.getD k default).id := by
 have hc : zAk (rl.getD k default) = 0 := by rw [zFC hk]; exact ((zFH hr).2 _ (List.getElem_mem hk)).1
 have hid := (zHY hx).2
 rw [(zFt hc hid.symm h0 h2).1, hid]
theorem zD4 {was : List zAU} {rl : List zAd} (hw : Srt was) (hr : zBg rl = 0) (h : zCt was rl = none) : apl was rl = none := by
 have := zJE _ was rl (Nat.le_refl _) [] was (List.Perm.refl _) hw (by simp) (zFH hr).1 (fun r h => ((zFH hr).2 r h).1)
 cases ha : apl was rl with
 | none => rfl
 | some l =>
   obtain ⟨_, m', h1, _⟩ := this.2 l ha
   rw [h] at h1
   cases h1
theorem zDK {was mm : List zAU} {rl : List zAd} (hw : Srt was) (hr : zBg rl = 0) (h : zCt was rl = some mm) : ∃ l, apl was rl = some l ∧ mm.Perm l ∧ Srt l := by
 have := zJE _ was rl (Nat.le_refl _) [] was (List.Perm.refl _) hw (by simp) (zFH hr).1 (fun r h => ((zFH hr).2 r h).1)
 cases ha : apl was rl with
 | none => rw [this.1 ha] at h; cases h
 | some l =>
   obtain ⟨h0, m', h1, h2⟩ := this.2 l ha
   rw [h] at h1
   cases h1
   exact ⟨l, rfl, by simpa using h2, by simpa using h0⟩
theorem zQc {l l' : List zAU} (p : l.Perm l') (h : l.Pairwise (fun x y => x.id ≤ y.id)) (h' : Srt l') : l = l' := zL5 (fun e : zAU => e.id) p h h'
end Go.Sx

set_option linter.unusedVariables false
set_option linter.unusedSimpArgs false
namespace Go.Sx
section
variable {at_ atm bt btm : Int} {a b : List zAU}
theorem zKX {gt gtm gb : Int} {rl : List zAd} : ((aS at_ atm a gt gtm gb rl).t = gt ∨ (aS at_ atm a gt gtm gb rl).t = 0) ∧ ((aS at_ atm a gt gtm gb rl).tm = gtm ∨ (aS at_ atm a gt gtm gb rl).tm = 0) ∧ (aS at_ atm a gt gtm gb rl).l.length ≤ 64 := by
 by_cases h : aE at_ atm a gt gtm gb rl = 0
 · rw [zUp h]
   obtain ⟨_, _, l, hl, hn⟩ := zMz h
   rw [hl]
   simpa using hn
 · rw [zN3 h]; simp
end
/-! ### The example -/
abbrev e7 : zAU := ⟨7, 0, 0, 0, 0, 0, 0, 5#16, 0#8⟩
end Go.Sx
