/- Texts of the small logic, one behind the other: SxPdelta, SxPdeltaD, SxPdeltaE, SxPdeltaL. -/
import Derived.Test.YtbioemaipghagaaGreatQSxRecs
import Derived.Test.YtbioemaipghagaaGreatQSxGrams
import Derived.Test.YtbioemaipghagaaGreatQSxMap
set_option linter.unusedVariables false
set_option linter.unusedSimpArgs false
namespace Go.Sx
def Srt (l : List EntR) : Prop := l.Pairwise (fun x y => x.id < y.id)
def entLast (l : List EntR) : Nat → Int
 | 0 => -1
 | k + 1 => (l.getD k default).id
def entAt (l : List EntR) (k : Nat) : Nat := if (l.getD k default).id < 0 ∨ 65535 < (l.getD k default).id then 3 else if (l.getD k default).id ≤ entLast l k then 10 else 0
def entTo (l : List EntR) : Nat → Nat
 | 0 => 0
 | j + 1 => if entTo l j ≠ 0 then entTo l j else entAt l j
def entsErr (l : List EntR) : Nat := entTo l l.length
def snapErr (t tm : Int) (l : List EntR) : Nat := if t < 0 ∨ 4294967295 < t ∨ tm < -2305843009213693952 ∨ 2305843009213693952 < tm then 3 else if 64 < l.length then 4 else entsErr l
theorem entTo_ok {l : List EntR} {j : Nat} (h : entTo l j = 0) (h2 : entAt l j = 0) : entTo l (j + 1) = 0 := by unfold entTo; rw [if_neg (by omega), h2]
theorem entTo_err {l : List EntR} {j : Nat} (h : entTo l j = 0) : entTo l (j + 1) = entAt l j := by unfold entTo; rw [if_neg (by omega)]
theorem entTo_stay {l : List EntR} {j e : Nat} (h : entTo l j = e) (he : e ≠ 0) : ∀ k, entTo l (j + k) = e
 | 0 => h
 | k + 1 => by
   have := entTo_stay h he k
   show (if entTo l (j + k) ≠ 0 then entTo l (j + k) else entAt l (j + k)) = e
   rw [if_pos (by omega), this]
theorem entsErr_at {l : List EntR} {j : Nat} (hj : j < l.length) (h : entTo l j = 0) (he : entAt l j ≠ 0) : entsErr l = entAt l j := by
 have := entTo_stay (entTo_err h) he (l.length - (j + 1))
 rwa [show j + 1 + (l.length - (j + 1)) = l.length by omega] at this
theorem entTo_all {l : List EntR} {j : Nat} (h : entTo l j = 0) : ∀ k, k < j → entAt l k = 0 := by
 induction j with
 | zero => intro k hk; omega
 | succ j ih =>
   unfold entTo at h
   split at h
   · omega
   · intro k hk
     by_cases e : k = j
     · subst e; exact h
     · exact ih (by omega) k (by omega)
theorem entAt_3 {l : List EntR} {k : Nat} (h : (l.getD k default).id < 0 ∨ 65535 < (l.getD k default).id) : entAt l k = 3 := by unfold entAt; rw [if_pos h]
theorem entAt_10 {l : List EntR} {k : Nat} (h : ¬ ((l.getD k default).id < 0 ∨ 65535 < (l.getD k default).id)) (h2 : (l.getD k default).id ≤ entLast l k) : entAt l k = 10 := by unfold entAt; rw [if_neg h, if_pos h2]
theorem entAt_0 {l : List EntR} {k : Nat} (h : ¬ ((l.getD k default).id < 0 ∨ 65535 < (l.getD k default).id)) (h2 : ¬ (l.getD k default).id ≤ entLast l k) : entAt l k = 0 := by unfold entAt; rw [if_neg h, if_neg h2]
theorem entAt_parts {l : List EntR} {k : Nat} (h : entAt l k = 0) : 0 ≤ (l.getD k default).id ∧ (l.getD k default).id ≤ 65535 ∧ entLast l k < (l.getD k default).id := by
 unfold entAt at h
 split at h
 · cases h
 · split at h
   · cases h
   · omega
theorem ent_getD {l : List EntR} {k : Nat} (h : k < l.length) : l.getD k default = l[k] := by rw [List.getD_eq_getElem?_getD, List.getElem?_eq_getElem h]; rfl
theorem ents_rng {l : List EntR} (h : entsErr l = 0) : ∀ x ∈ l, 0 ≤ x.id ∧ x.id ≤ 65535 := by
 intro x hx
 obtain ⟨k, hk, rfl⟩ := List.mem_iff_getElem.1 hx
 have := entAt_parts (entTo_all h k hk)
 rw [ent_getD hk] at this
 omega
theorem ents_srt {l : List EntR} (h : entsErr l = 0) : Srt l := by
 refine List.pairwise_iff_getElem.2 ?_
 have key : ∀ d i (hi : i < l.length) (hj : i + d + 1 < l.length), l[i].id < l[i + d + 1].id := by
   intro d
   induction d with
   | zero =>
     intro i hi hj
     have := (entAt_parts (entTo_all h (i + 1) hj)).2.2
     rw [ent_getD hj] at this
     have e : entLast l (i + 1) = l[i].id := by show (l.getD i default).id = _; rw [ent_getD hi]
     rw [e] at this
     exact this
   | succ d ih =>
     intro i hi hj
     have h1 := ih i hi (by omega)
     have := (entAt_parts (entTo_all h (i + (d + 1) + 1) hj)).2.2
     rw [ent_getD hj] at this
     have e : entLast l (i + (d + 1) + 1) = l[i + d + 1].id := by show (l.getD (i + (d + 1)) default).id = _; rw [ent_getD (by omega)]; rfl
     rw [e] at this
     omega
 intro i j hi hj hij
 have := key (j - i - 1) i hi (by omega)
 simpa [show i + (j - i - 1) + 1 = j by omega] using this
theorem ents_ok {l : List EntR} (hs : Srt l) (hr : ∀ x ∈ l, 0 ≤ x.id ∧ x.id ≤ 65535) : entsErr l = 0 := by
 have key : ∀ j, j ≤ l.length → entTo l j = 0 := by
   intro j
   induction j with
   | zero => intro _; rfl
   | succ j ih =>
     intro hj
     have hg := ent_getD (l := l) (k := j) (by omega)
     have hm := hr l[j] (List.getElem_mem (by omega))
     refine entTo_ok (ih (by omega)) (entAt_0 (by rw [hg]; omega) ?_)
     rw [hg]
     cases j with
     | zero => show ¬ l[0].id ≤ -1; omega
     | succ i =>
       have := List.pairwise_iff_getElem.1 hs i (i + 1) (by omega) (by omega) (by omega)
       show ¬ l[i + 1].id ≤ (l.getD i default).id
       rw [ent_getD (by omega)]
       omega
 exact key _ (Nat.le_refl _)
theorem snapErr_3 {t tm : Int} {l : List EntR} (h : t < 0 ∨ 4294967295 < t ∨ tm < -2305843009213693952 ∨ 2305843009213693952 < tm) : snapErr t tm l = 3 := by unfold snapErr; rw [if_pos h]
theorem snapErr_4 {t tm : Int} {l : List EntR} (h : ¬ (t < 0 ∨ 4294967295 < t ∨ tm < -2305843009213693952 ∨ 2305843009213693952 < tm)) (h2 : 64 < l.length) : snapErr t tm l = 4 := by unfold snapErr; rw [if_neg h, if_pos h2]
theorem snapErr_e {t tm : Int} {l : List EntR} (h : ¬ (t < 0 ∨ 4294967295 < t ∨ tm < -2305843009213693952 ∨ 2305843009213693952 < tm)) (h2 : ¬ 64 < l.length) : snapErr t tm l = entsErr l := by unfold snapErr; rw [if_neg h, if_neg h2]
theorem snapErr_parts {t tm : Int} {l : List EntR} (h : snapErr t tm l = 0) : 0 ≤ t ∧ t ≤ 4294967295 ∧ -2305843009213693952 ≤ tm ∧ tm ≤ 2305843009213693952 ∧ l.length ≤ 64 ∧ entsErr l = 0 := by
 unfold snapErr at h
 split at h
 · cases h
 · split at h
   · cases h
   · omega
/-! ### A map of entities -/
def ekv (l : List EntR) : List (Int × Value) := l.map fun e => (e.id, .agg (entV e).toArray)
def eget (k : Int) : List EntR → Option EntR
 | [] => none
 | x :: l => if x.id = k then some x else eget k l
def eput (x : EntR) : List EntR → List EntR
 | [] => [x]
 | y :: l => if y.id = x.id then x :: l else y :: eput x l
def edel (k : Int) : List EntR → List EntR
 | [] => []
 | y :: l => if y.id = k then l else y :: edel k l
theorem mget_ekv (k : Int) : ∀ l, mget k (ekv l) = (eget k l).map fun e => .agg (entV e).toArray
 | [] => rfl
 | x :: l => by
   show (if x.id = k then some _ else mget k (ekv l)) = _
   unfold eget
   split
   · rfl
   · exact mget_ekv k l
theorem mset_ekv {k : Int} {x : EntR} (hk : x.id = k) : ∀ l, mset k (.agg (entV x).toArray) (ekv l) = ekv (eput x l)
 | [] => by show [(k, _)] = [(x.id, _)]; rw [hk]
 | y :: l => by
   show (if y.id = k then _ :: ekv l else _ :: mset k _ (ekv l)) = _
   unfold eput
   rw [hk]
   split
   · show _ = (x.id, _) :: ekv l; rw [hk]
   · rw [mset_ekv hk l]; rfl
theorem mdel_ekv (k : Int) : ∀ l, mdel k (ekv l) = ekv (edel k l)
 | [] => rfl
 | y :: l => by
   show (if y.id = k then ekv l else _ :: mdel k (ekv l)) = _
   unfold edel
   split
   · rfl
   · rw [mdel_ekv k l]; rfl
theorem ekv_len (l : List EntR) : (ekv l).length = l.length := by simp [ekv]
def Uniq (l : List EntR) : Prop := (l.map (·.id)).Nodup
theorem Srt.uniq {l : List EntR} (h : Srt l) : Uniq l := by
 unfold Uniq
 rw [List.nodup_iff_pairwise_ne, List.pairwise_map]
 exact h.imp fun h => by omega
theorem eget_none {k : Int} : ∀ {l : List EntR}, eget k l = none ↔ ∀ e ∈ l, e.id ≠ k
 | [] => by simp [eget]
 | x :: l => by
   unfold eget
   split
   · simp_all
   · rename_i h
     rw [eget_none]
     simp [h]
theorem eget_some {k : Int} {e : EntR} : ∀ {l : List EntR}, eget k l = some e → e ∈ l ∧ e.id = k
 | [], h => by cases h
 | x :: l, h => by
   unfold eget at h
   split at h
   · rename_i hx
     cases h
     exact ⟨by simp, hx⟩
   · have := eget_some h
     exact ⟨by simp [this.1], this.2⟩
theorem eget_of_mem {e : EntR} : ∀ {l : List EntR}, Uniq l → e ∈ l → eget e.id l = some e
 | [], _, h => by cases h
 | x :: l, hu, h => by
   unfold Uniq at hu
   rw [List.map_cons, List.nodup_cons] at hu
   unfold eget
   rcases List.mem_cons.1 h with h | h
   · rw [h, if_pos rfl]
   · rw [if_neg (fun e' : x.id = e.id => hu.1 (by rw [e']; exact List.mem_map_of_mem h)), eget_of_mem hu.2 h]
theorem Uniq.perm {l l' : List EntR} (h : Uniq l) (p : l.Perm l') : Uniq l' := (p.map _).nodup_iff.1 h
theorem eget_perm {k : Int} {l l' : List EntR} (hu : Uniq l) (p : l.Perm l') : eget k l = eget k l' := by
 cases h : eget k l with
 | none => exact (eget_none.2 fun e he => eget_none.1 h e (p.mem_iff.2 he)).symm
 | some e =>
   obtain ⟨h1, rfl⟩ := eget_some h
   exact (eget_of_mem (hu.perm p) (p.mem_iff.1 h1)).symm
theorem edel_filter {k : Int} : ∀ {l : List EntR}, Uniq l → edel k l = l.filter (fun e => decide (e.id ≠ k))
 | [], _ => rfl
 | x :: l, hu => by
   unfold Uniq at hu
   rw [List.map_cons, List.nodup_cons] at hu
   unfold edel
   by_cases h : x.id = k
   · rw [if_pos h, List.filter_cons_of_neg (by simp [h])]
     refine (List.filter_eq_self.2 fun e he => ?_).symm
     simp only [ne_eq, decide_eq_true_eq]
     intro e'
     exact hu.1 (by rw [h, ← e']; exact List.mem_map_of_mem he)
   · rw [if_neg h, List.filter_cons_of_pos (by simp [h]), edel_filter hu.2]
theorem eput_filter {x : EntR} : ∀ {l : List EntR}, Uniq l → (eput x l).Perm (x :: l.filter (fun e => decide (e.id ≠ x.id)))
 | [], _ => List.Perm.refl _
 | y :: l, hu => by
   have hu' := hu
   unfold Uniq at hu
   rw [List.map_cons, List.nodup_cons] at hu
   unfold eput
   by_cases h : y.id = x.id
   · rw [if_pos h, ← edel_filter hu', edel, if_pos h]
   · rw [if_neg h, List.filter_cons_of_pos (by simp [h])]
     exact ((eput_filter hu.2).cons y).trans (List.Perm.swap _ _ _)
theorem edel_perm {k : Int} {l l' : List EntR} (hu : Uniq l) (p : l.Perm l') : (edel k l).Perm (edel k l') := by rw [edel_filter hu, edel_filter (hu.perm p)]; exact p.filter _
theorem eput_perm {x : EntR} {l l' : List EntR} (hu : Uniq l) (p : l.Perm l') : (eput x l).Perm (x :: l'.filter (fun e => decide (e.id ≠ x.id))) := (eput_filter hu).trans ((p.filter _).cons x)
theorem eput_new {x : EntR} : ∀ {l : List EntR}, eget x.id l = none → eput x l = l ++ [x]
 | [], _ => rfl
 | y :: l, h => by
   unfold eget at h
   split at h
   · cases h
   · rename_i hy
     unfold eput
     rw [if_neg hy, eput_new h]
     rfl
theorem take_put {l : List EntR} (hs : Srt l) {j : Nat} (hj : j < l.length) : eput (l.getD j default) (l.take j) = l.take (j + 1) := by
 rw [eput_new, take_next hj]
 refine eget_none.2 fun e he => ?_
 obtain ⟨i, hi, rfl⟩ := List.mem_iff_getElem.1 he
 rw [ent_getD hj, List.getElem_take]
 have := List.pairwise_iff_getElem.1 hs i j (by simp at hi; omega) hj (by simp at hi; omega)
 omega
/-! ### What is made of a snapshot -/
def entOf (r : RecR) : EntR := ⟨r.id, r.p0, r.p1, r.p2, r.v0, r.v1, r.v2, r.a, 0#8⟩
def putOf (x : EntR) : RecR := ⟨0, x.id, x.p0, x.p1, x.p2, x.v0, x.v1, x.v2, x.a⟩
def remOf (x : EntR) : RecR := ⟨2, x.id, 0, 0, 0, 0, 0, 0, 0#16⟩
def apl : List EntR → List RecR → Option (List EntR)
 | was, [] => some was
 | [], r :: l => if r.k = 0 then (apl [] l).map (entOf r :: ·) else none
 | x :: was, r :: l =>
   if x.id < r.id then (apl was (r :: l)).map (x :: ·)
   else if x.id = r.id then (if r.k = 0 then none else if r.k = 2 then apl was l else (apl was l).map ((entApply x r).1 :: ·))
   else if r.k = 0 then (apl (x :: was) l).map (entOf r :: ·) else none
termination_by a b => a.length + b.length
theorem apl_nil (was : List EntR) : apl was [] = some was := by unfold apl; rfl
theorem apl_new (r : RecR) (l : List RecR) : apl [] (r :: l) = if r.k = 0 then (apl [] l).map (entOf r :: ·) else none := by rw [apl]
theorem apl_cons (x : EntR) (was : List EntR) (r : RecR) (l : List RecR) : apl (x :: was) (r :: l) =
 if x.id < r.id then (apl was (r :: l)).map (x :: ·)
 else if x.id = r.id then (if r.k = 0 then none else if r.k = 2 then apl was l else (apl was l).map ((entApply x r).1 :: ·))
 else if r.k = 0 then (apl (x :: was) l).map (entOf r :: ·) else none := by rw [apl]
def pStep (m : List EntR) (r : RecR) : Option (List EntR) :=
 match eget r.id m with
 | none => if r.k = 0 then some (eput (entOf r) m) else none
 | some x => if r.k = 0 then none else if r.k = 2 then some (edel r.id m) else some (eput (entApply x r).1 m)
def pFold (m : List EntR) : List RecR → Option (List EntR)
 | [] => some m
 | r :: l => (pStep m r).bind (pFold · l)
theorem entApply_id {x : EntR} {r : RecR} (h : recChk r = 0) (hi : r.id = x.id) (h0 : r.k ≠ 0) (h2 : r.k ≠ 2) : (entApply x r).1.id = x.id ∧ (entApply x r).2 = 0 := by
 by_cases h3 : r.k = 3
 · rw [entApply_tel h (by simp [hi, h0, h2]) h3]; exact ⟨rfl, rfl⟩
 · rw [entApply_upd h (by simp [hi, h0, h2]) h3]; exact ⟨rfl, rfl⟩
theorem filter_mid {out b : List EntR} {x : EntR} (ho : ∀ e ∈ out, e.id < x.id) (hb : ∀ e ∈ b, x.id < e.id) : (out ++ x :: b).filter (fun e => decide (e.id ≠ x.id)) = out ++ b := by
 rw [List.filter_append, List.filter_cons_of_neg (by simp), List.filter_eq_self.2 (fun e he => by have := ho e he; simp; omega), List.filter_eq_self.2 (fun e he => by have := hb e he; simp; omega)]
theorem filter_none {l : List EntR} {k : Int} (h : ∀ e ∈ l, e.id ≠ k) : l.filter (fun e => decide (e.id ≠ k)) = l := List.filter_eq_self.2 fun e he => by simpa using h e he
theorem eget_mid {out b : List EntR} {x : EntR} (hu : Uniq (out ++ x :: b)) : eget x.id (out ++ x :: b) = some x := eget_of_mem hu (by simp)
theorem Srt.mid {out b : List EntR} {x : EntR} (h : Srt (out ++ x :: b)) : (∀ e ∈ out, e.id < x.id) ∧ (∀ e ∈ b, x.id < e.id) ∧ Srt (out ++ b) ∧ (∀ e ∈ out, ∀ e' ∈ b, e.id < e'.id) := by
 unfold Srt at h ⊢
 rw [List.pairwise_append] at h ⊢
 obtain ⟨h1, h2, h3⟩ := h
 rw [List.pairwise_cons] at h2
 exact ⟨fun e he => h3 e he x (by simp), h2.1, ⟨h1, h2.2, fun a ha b hb => h3 a ha b (by simp [hb])⟩, fun a ha b hb => h3 a ha b (by simp [hb])⟩
theorem Srt.ins {out b : List EntR} {x : EntR} (h : Srt (out ++ b)) (ho : ∀ e ∈ out, e.id < x.id) (hb : ∀ e ∈ b, x.id < e.id) : Srt (out ++ x :: b) := by
 unfold Srt at h ⊢
 rw [List.pairwise_append] at h ⊢
 obtain ⟨h1, h2, h3⟩ := h
 exact ⟨h1, List.pairwise_cons.2 ⟨hb, h2⟩, fun a ha c hc => by
   rcases List.mem_cons.1 hc with e | e
   · rw [e]; exact ho a ha
   · exact h3 a ha c e⟩
def RSrt (l : List RecR) : Prop := l.Pairwise (fun x y => x.id < y.id)
theorem apl_fold : ∀ (n : Nat) (wi : List EntR) (rs : List RecR), wi.length + rs.length ≤ n → ∀ (out m : List EntR), m.Perm (out ++ wi) → Srt (out ++ wi) → (∀ e ∈ out, ∀ r ∈ rs, e.id < r.id) → RSrt rs → (∀ r ∈ rs, recChk r = 0) →
   (apl wi rs = none → pFold m rs = none) ∧ (∀ l, apl wi rs = some l → Srt (out ++ l) ∧ ∃ m', pFold m rs = some m' ∧ m'.Perm (out ++ l)) := by
 intro n
 induction n with
 | zero =>
   intro wi rs hn out m hp hs ho hr hc
   obtain rfl : wi = [] := List.length_eq_zero_iff.1 (by omega)
   obtain rfl : rs = [] := List.length_eq_zero_iff.1 (by omega)
   rw [apl_nil]
   exact ⟨fun h => (by cases h), fun l h => by cases h; exact ⟨hs, m, rfl, hp⟩⟩
 | succ n ih =>
   intro wi rs hn out m hp hs ho hr hc
   cases rs with
   | nil =>
     rw [apl_nil]
     exact ⟨fun h => (by cases h), fun l h => by cases h; exact ⟨hs, m, rfl, hp⟩⟩
   | cons r rs =>
     have hum : Uniq m := hs.uniq.perm hp.symm
     have hr' := List.pairwise_cons.1 hr
     have hc0 := hc r (by simp)
     have hget : eget r.id m = eget r.id (out ++ wi) := eget_perm hum hp
     have new : (∀ e ∈ wi, r.id < e.id) → (apl wi (r :: rs) = if r.k = 0 then (apl wi rs).map (entOf r :: ·) else none) →
         (apl wi (r :: rs) = none → pFold m (r :: rs) = none) ∧ (∀ l, apl wi (r :: rs) = some l → Srt (out ++ l) ∧ ∃ m', pFold m (r :: rs) = some m' ∧ m'.Perm (out ++ l)) := by
       intro hw he
       have hng : eget r.id m = none := by
         rw [hget]
         refine eget_none.2 fun e hm => ?_
         rcases List.mem_append.1 hm with h | h
         · have := ho e h r (by simp); omega
         · have := hw e h; omega
       rw [he]
       by_cases hk : r.k = 0
       · rw [if_pos hk]
         have hstep : pStep m r = some (eput (entOf r) m) := by unfold pStep; rw [hng]; exact if_pos hk
         have hp2 : (eput (entOf r) m).Perm ((out ++ [entOf r]) ++ wi) := by
           refine (eput_perm hum hp).trans ?_
           show (entOf r :: (out ++ wi).filter (fun e => decide (e.id ≠ r.id))).Perm _
           rw [filter_none (by rw [hget] at hng; exact eget_none.1 hng)]
           rw [List.append_assoc]
           exact List.perm_middle.symm
         have hs2 : Srt ((out ++ [entOf r]) ++ wi) := by
           rw [List.append_assoc]
           exact hs.ins (x := entOf r) (fun e h => ho e h r (by simp)) hw
         obtain ⟨i1, i2⟩ := ih wi rs (by simp at hn; omega) _ _ hp2 hs2 (fun e h r' hr2 => by
           rcases List.mem_append.1 h with h | h
           · exact ho e h r' (by simp [hr2])
           · rw [List.mem_singleton.1 h]; exact hr'.1 r' hr2) hr'.2 (fun r' h => hc r' (by simp [h]))
         have hf : pFold m (r :: rs) = pFold (eput (entOf r) m) rs := by show (pStep m r).bind _ = _; rw [hstep]; rfl
         rw [hf]
         refine ⟨fun h => i1 (by cases ha : apl wi rs with | none => rfl | some l => rw [ha] at h; cases h), fun l h => ?_⟩
         cases ha : apl wi rs with
         | none => rw [ha] at h; cases h
         | some l' =>
           rw [ha] at h
           cases h
           have := i2 l' ha
           simpa [List.append_assoc] using this
       · rw [if_neg hk]
         have hf : pFold m (r :: rs) = none := by
           show (pStep m r).bind _ = _
           have : pStep m r = none := by unfold pStep; rw [hng]; exact if_neg hk
           rw [this]; rfl
         exact ⟨fun _ => hf, fun l h => by cases h⟩
     cases wi with
     | nil => exact new (by simp) (apl_new r rs)
     | cons x wi =>
       have hmid := hs.mid
       by_cases h1 : x.id < r.id
       · have he : apl (x :: wi) (r :: rs) = (apl wi (r :: rs)).map (x :: ·) := by rw [apl_cons, if_pos h1]
         have hs2 : Srt ((out ++ [x]) ++ wi) := by rw [List.append_assoc]; exact hs
         obtain ⟨i1, i2⟩ := ih wi (r :: rs) (by simp at hn ⊢; omega) (out ++ [x]) m (by rw [List.append_assoc]; exact hp) hs2 (fun e h r' hr2 => by
           rcases List.mem_append.1 h with h | h
           · exact ho e h r' hr2
           · rw [List.mem_singleton.1 h]
             rcases List.mem_cons.1 hr2 with e' | e'
             · rw [e']; exact h1
             · have := hr'.1 r' e'; omega) hr hc
         rw [he]
         refine ⟨fun h => i1 (by cases ha : apl wi (r :: rs) with | none => rfl | some l => rw [ha] at h; cases h), fun l h => ?_⟩
         cases ha : apl wi (r :: rs) with
         | none => rw [ha] at h; cases h
         | some l' =>
           rw [ha] at h
           cases h
           have := i2 l' ha
           simpa [List.append_assoc] using this
       · by_cases h2 : x.id = r.id
         · have hg : eget r.id m = some x := by rw [hget, ← h2]; exact eget_mid hs.uniq
           have ho' : ∀ e ∈ out ++ ([] : List EntR), ∀ r' ∈ rs, e.id < r'.id := fun e h r' hr2 => ho e (by simpa using h) r' (by simp [hr2])
           by_cases hk0 : r.k = 0
           · have he : apl (x :: wi) (r :: rs) = none := by rw [apl_cons, if_neg h1, if_pos h2, if_pos hk0]
             have hf : pFold m (r :: rs) = none := by
               show (pStep m r).bind _ = _
               have : pStep m r = none := by unfold pStep; rw [hg]; exact if_pos hk0
               rw [this]; rfl
             rw [he]
             exact ⟨fun _ => hf, fun l h => by cases h⟩
           · by_cases hk2 : r.k = 2
             · have he : apl (x :: wi) (r :: rs) = apl wi rs := by rw [apl_cons, if_neg h1, if_pos h2, if_neg hk0, if_pos hk2]
               have hf : pFold m (r :: rs) = pFold (edel r.id m) rs := by
                 show (pStep m r).bind _ = _
                 have : pStep m r = some (edel r.id m) := by unfold pStep; rw [hg]; exact (if_neg hk0).trans (if_pos hk2)
                 rw [this]; rfl
               rw [he, hf]
               refine ih wi rs (by simp at hn ⊢; omega) out _ ?_ hmid.2.2.1 (fun e h r' hr2 => ho e h r' (by simp [hr2])) hr'.2 (fun r' h => hc r' (by simp [h]))
               refine (edel_perm hum hp).trans ?_
               rw [edel_filter hs.uniq, ← h2, filter_mid hmid.1 hmid.2.1]
             · have hid := (entApply_id (x := x) hc0 h2.symm hk0 hk2).1
               have he : apl (x :: wi) (r :: rs) = (apl wi rs).map ((entApply x r).1 :: ·) := by rw [apl_cons, if_neg h1, if_pos h2, if_neg hk0, if_neg hk2]
               have hf : pFold m (r :: rs) = pFold (eput (entApply x r).1 m) rs := by
                 show (pStep m r).bind _ = _
                 have : pStep m r = some (eput (entApply x r).1 m) := by unfold pStep; rw [hg]; exact (if_neg hk0).trans (if_neg hk2)
                 rw [this]; rfl
               have hp2 : (eput (entApply x r).1 m).Perm ((out ++ [(entApply x r).1]) ++ wi) := by
                 refine (eput_perm hum hp).trans ?_
                 rw [hid, filter_mid hmid.1 hmid.2.1, List.append_assoc]
                 exact List.perm_middle.symm
               have hs2 : Srt ((out ++ [(entApply x r).1]) ++ wi) := by
                 rw [List.append_assoc]
                 exact hmid.2.2.1.ins (by rw [hid]; exact hmid.1) (by rw [hid]; exact hmid.2.1)
               obtain ⟨i1, i2⟩ := ih wi rs (by simp at hn; omega) _ _ hp2 hs2 (fun e h r' hr2 => by
                 rcases List.mem_append.1 h with h | h
                 · exact ho e h r' (by simp [hr2])
                 · rw [List.mem_singleton.1 h, hid, h2]; exact hr'.1 r' hr2) hr'.2 (fun r' h => hc r' (by simp [h]))
               rw [he, hf]
               refine ⟨fun h => i1 (by cases ha : apl wi rs with | none => rfl | some l => rw [ha] at h; cases h), fun l h => ?_⟩
               cases ha : apl wi rs with
               | none => rw [ha] at h; cases h
               | some l' =>
                 rw [ha] at h
                 cases h
                 have := i2 l' ha
                 simpa [List.append_assoc] using this
         · refine new (fun e h => ?_) (by rw [apl_cons, if_neg h1, if_neg h2])
           rcases List.mem_cons.1 h with e' | e'
           · rw [e']; omega
           · have := hmid.2.1 e e'; omega
theorem srt_uniq {α : Type} (f : α → Int) : ∀ {l l' : List α}, l.Perm l' → l.Pairwise (fun x y => f x ≤ f y) → l'.Pairwise (fun x y => f x < f y) → l = l'
 | [], l', p, _, _ => (List.nil_perm.1 p).symm
 | x :: l, [], p, _, _ => by simpa using p.length_eq
 | x :: l, y :: l', p, h, h' => by
   rw [List.pairwise_cons] at h h'
   have e : x = y := by
     rcases List.mem_cons.1 (p.mem_iff.1 (List.mem_cons_self (a := x))) with e | e
     · exact e
     · have h1 := h'.1 x e
       rcases List.mem_cons.1 (p.mem_iff.2 (List.mem_cons_self (a := y))) with e2 | e2
       · exact e2.symm
       · have h2 := h.1 y e2; omega
   subst e
   rw [srt_uniq f (List.Perm.cons_inv p) h.2 h'.2]
end Go.Sx

set_option linter.unusedVariables false
set_option linter.unusedSimpArgs false
namespace Go.Sx
def stepR (x y : EntR) : List RecR := if (recDiff x y).2 = true then [(recDiff x y).1] else []
def mrg : List EntR → List EntR → Option (List RecR)
 | [], [] => some []
 | x :: a, [] => (mrg a []).map (remOf x :: ·)
 | [], y :: b => if y.g = 0#8 then (mrg [] b).map (putOf y :: ·) else none
 | x :: a, y :: b =>
   if x.id < y.id then (mrg a (y :: b)).map (remOf x :: ·)
   else if y.id < x.id then (if y.g = 0#8 then (mrg (x :: a) b).map (putOf y :: ·) else none)
   else if y.g = x.g ∨ y.g = x.g + 1#8 then (mrg a b).map (stepR x y ++ ·) else none
termination_by a b => a.length + b.length
theorem mrg_nn : mrg [] [] = some [] := by rw [mrg]
theorem mrg_cn (x : EntR) (a : List EntR) : mrg (x :: a) [] = (mrg a []).map (remOf x :: ·) := by rw [mrg]
theorem mrg_nc (y : EntR) (b : List EntR) : mrg [] (y :: b) = if y.g = 0#8 then (mrg [] b).map (putOf y :: ·) else none := by rw [mrg]
theorem mrg_cc (x : EntR) (a : List EntR) (y : EntR) (b : List EntR) : mrg (x :: a) (y :: b) =
 if x.id < y.id then (mrg a (y :: b)).map (remOf x :: ·)
 else if y.id < x.id then (if y.g = 0#8 then (mrg (x :: a) b).map (putOf y :: ·) else none)
 else if y.g = x.g ∨ y.g = x.g + 1#8 then (mrg a b).map (stepR x y ++ ·) else none := by rw [mrg]
def tStep (m : List EntR) (y : EntR) : Option (List RecR) :=
 match eget y.id m with
 | none => if y.g = 0#8 then some [putOf y] else none
 | some x => if y.g = x.g ∨ y.g = x.g + 1#8 then some (stepR x y) else none
def tFold (m : List EntR) : List EntR → Option (List RecR × List EntR)
 | [] => some ([], m)
 | y :: b => (tStep m y).bind fun o => (tFold (edel y.id m) b).map fun s => (o ++ s.1, s.2)
theorem tFold_skip {x : EntR} {a : List EntR} : ∀ (b : List EntR), (∀ y ∈ b, y.id ≠ x.id) → tFold (x :: a) b = (tFold a b).map fun s => (s.1, x :: s.2)
 | [], _ => rfl
 | y :: b, h => by
   have hy := h y (by simp)
   have h1 : tStep (x :: a) y = tStep a y := by unfold tStep; rw [eget, if_neg (Ne.symm hy)]
   have h2 : edel y.id (x :: a) = x :: edel y.id a := by rw [edel, if_neg (Ne.symm hy)]
   show (tStep (x :: a) y).bind _ = _
   rw [h1, h2]
   show _ = Option.map _ ((tStep a y).bind _)
   cases tStep a y with
   | none => rfl
   | some o =>
     show Option.map _ (tFold (x :: edel y.id a) b) = Option.map _ (Option.map _ _)
     rw [tFold_skip b fun z hz => h z (by simp [hz])]
     cases tFold (edel y.id a) b <;> rfl
theorem edel_none {k : Int} : ∀ {l : List EntR}, (∀ e ∈ l, e.id ≠ k) → edel k l = l
 | [], _ => rfl
 | x :: l, h => by
   unfold edel
   rw [if_neg (h x (by simp)), edel_none fun e he => h e (by simp [he])]
theorem tFold_put {m b : List EntR} {y : EntR} (h : ∀ e ∈ m, e.id ≠ y.id) : tFold m (y :: b) = if y.g = 0#8 then (tFold m b).map fun s => (putOf y :: s.1, s.2) else none := by
 show (tStep m y).bind _ = _
 have : tStep m y = if y.g = 0#8 then some [putOf y] else none := by unfold tStep; rw [eget_none.2 h]
 rw [this, edel_none h]
 split <;> rfl
theorem mrg_fold : ∀ (n : Nat) (a b : List EntR), a.length + b.length ≤ n → Srt a → Srt b →
   (mrg a b = none → tFold a b = none) ∧ (∀ L, mrg a b = some L → ∃ s, tFold a b = some s ∧ (s.1 ++ s.2.map remOf).Perm L) := by
 intro n
 induction n with
 | zero =>
   intro a b hn ha hb
   obtain rfl : a = [] := List.length_eq_zero_iff.1 (by omega)
   obtain rfl : b = [] := List.length_eq_zero_iff.1 (by omega)
   rw [mrg_nn]
   exact ⟨fun h => (by cases h), fun L h => by cases h; exact ⟨_, rfl, List.Perm.refl _⟩⟩
 | succ n ih =>
   intro a b hn ha hb
   cases a with
   | nil =>
     cases b with
     | nil =>
       rw [mrg_nn]
       exact ⟨fun h => (by cases h), fun L h => by cases h; exact ⟨_, rfl, List.Perm.refl _⟩⟩
     | cons y b =>
       obtain ⟨i1, i2⟩ := ih [] b (by simp at hn ⊢; omega) List.Pairwise.nil (List.pairwise_cons.1 hb).2
       rw [mrg_nc, tFold_put (by simp)]
       by_cases hg : y.g = 0#8
       · rw [if_pos hg, if_pos hg]
         refine ⟨fun h => ?_, fun L h => ?_⟩
         · cases hm : mrg [] b with
           | none => rw [i1 hm]; rfl
           | some l => rw [hm] at h; cases h
         · cases hm : mrg [] b with
           | none => rw [hm] at h; cases h
           | some l =>
             rw [hm] at h
             cases h
             obtain ⟨s, h1, h2⟩ := i2 l hm
             rw [h1]
             exact ⟨_, rfl, h2.cons _⟩
       · rw [if_neg hg, if_neg hg]
         exact ⟨fun _ => rfl, fun L h => by cases h⟩
   | cons x a =>
     have ha' := List.pairwise_cons.1 ha
     cases b with
     | nil =>
       obtain ⟨i1, i2⟩ := ih a [] (by simp at hn ⊢; omega) ha'.2 List.Pairwise.nil
       rw [mrg_cn, tFold_skip [] (by simp)]
       refine ⟨fun h => ?_, fun L h => ?_⟩
       · cases hm : mrg a [] with
         | none => rw [i1 hm]; rfl
         | some l => rw [hm] at h; cases h
       · cases hm : mrg a [] with
         | none => rw [hm] at h; cases h
         | some l =>
           rw [hm] at h
           cases h
           obtain ⟨s, h1, h2⟩ := i2 l hm
           rw [h1]
           exact ⟨_, rfl, List.perm_middle.trans (h2.cons _)⟩
     | cons y b =>
       have hb' := List.pairwise_cons.1 hb
       rw [mrg_cc]
       by_cases h1 : x.id < y.id
       · obtain ⟨i1, i2⟩ := ih a (y :: b) (by simp at hn ⊢; omega) ha'.2 hb
         rw [if_pos h1, tFold_skip (y :: b) (fun z hz => by
           rcases List.mem_cons.1 hz with e | e
           · rw [e]; omega
           · have := hb'.1 z e; omega)]
         refine ⟨fun h => ?_, fun L h => ?_⟩
         · cases hm : mrg a (y :: b) with
           | none => rw [i1 hm]; rfl
           | some l => rw [hm] at h; cases h
         · cases hm : mrg a (y :: b) with
           | none => rw [hm] at h; cases h
           | some l =>
             rw [hm] at h
             cases h
             obtain ⟨s, h1, h2⟩ := i2 l hm
             rw [h1]
             exact ⟨_, rfl, List.perm_middle.trans (h2.cons _)⟩
       · rw [if_neg h1]
         by_cases h2 : y.id < x.id
         · obtain ⟨i1, i2⟩ := ih (x :: a) b (by simp at hn ⊢; omega) ha hb'.2
           rw [if_pos h2, tFold_put (fun e he => by
             rcases List.mem_cons.1 he with e' | e'
             · rw [e']; omega
             · have := ha'.1 e e'; omega)]
           by_cases hg : y.g = 0#8
           · rw [if_pos hg, if_pos hg]
             refine ⟨fun h => ?_, fun L h => ?_⟩
             · cases hm : mrg (x :: a) b with
               | none => rw [i1 hm]; rfl
               | some l => rw [hm] at h; cases h
             · cases hm : mrg (x :: a) b with
               | none => rw [hm] at h; cases h
               | some l =>
                 rw [hm] at h
                 cases h
                 obtain ⟨s, h1, h2⟩ := i2 l hm
                 rw [h1]
                 exact ⟨_, rfl, h2.cons _⟩
           · rw [if_neg hg, if_neg hg]
             exact ⟨fun _ => rfl, fun L h => by cases h⟩
         · have h3 : x.id = y.id := by omega
           obtain ⟨i1, i2⟩ := ih a b (by simp at hn ⊢; omega) ha'.2 hb'.2
           rw [if_neg h2]
           have hf : tFold (x :: a) (y :: b) = if y.g = x.g ∨ y.g = x.g + 1#8 then (tFold a b).map fun s => (stepR x y ++ s.1, s.2) else none := by
             show (tStep (x :: a) y).bind _ = _
             have e1 : tStep (x :: a) y = if y.g = x.g ∨ y.g = x.g + 1#8 then some (stepR x y) else none := by unfold tStep; rw [eget, if_pos h3]
             rw [e1, edel, if_pos h3]
             split <;> rfl
           rw [hf]
           by_cases hg : y.g = x.g ∨ y.g = x.g + 1#8
           · rw [if_pos hg, if_pos hg]
             refine ⟨fun h => ?_, fun L h => ?_⟩
             · cases hm : mrg a b with
               | none => rw [i1 hm]; rfl
               | some l => rw [hm] at h; cases h
             · cases hm : mrg a b with
               | none => rw [hm] at h; cases h
               | some l =>
                 rw [hm] at h
                 cases h
                 obtain ⟨s, h1, h2⟩ := i2 l hm
                 rw [h1]
                 refine ⟨_, rfl, ?_⟩
                 show ((stepR x y ++ s.1) ++ _).Perm _
                 rw [List.append_assoc]
                 exact h2.append_left _
           · rw [if_neg hg, if_neg hg]
             exact ⟨fun _ => rfl, fun L h => by cases h⟩
/-! ### What a telling consists of -/
structure ToldR (a b : List EntR) (r : RecR) : Prop where
 chk : recChk r = 0
 rng : 0 ≤ r.id ∧ r.id ≤ 65535
 of : (r.k = 2 ∧ (∃ x ∈ a, x.id = r.id) ∧ ∀ y ∈ b, y.id ≠ r.id) ∨ (r.k = 0 ∧ (∃ y ∈ b, y.id = r.id) ∧ ∀ x ∈ a, x.id ≠ r.id) ∨ (r.k ≠ 0 ∧ r.k ≠ 2 ∧ ∃ x ∈ a, ∃ y ∈ b, x.id = r.id ∧ y.id = r.id ∧ x ≠ y)
 wf : r.wf
theorem remOf_chk {x : EntR} (h : 0 ≤ x.id ∧ x.id ≤ 65535) : recChk (remOf x) = 0 := by
 unfold recChk remOf
 dsimp only
 rw [if_neg (by omega), if_neg (by omega), if_neg (by simp [recEmpty])]
theorem putOf_chk {x : EntR} (h : 0 ≤ x.id ∧ x.id ≤ 65535) : recChk (putOf x) = 0 := by
 unfold recChk putOf
 dsimp only
 rw [if_neg (by omega), if_neg (by omega), if_neg (by simp)]
theorem remOf_wf {x : EntR} (h : x.wf) : (remOf x).wf := ⟨(by show -9223372036854775808 ≤ (2 : Int) ∧ (2 : Int) ≤ 9223372036854775807; decide), h.id, (by show -9223372036854775808 ≤ (0 : Int) ∧ (0 : Int) ≤ 9223372036854775807; decide), (by show -9223372036854775808 ≤ (0 : Int) ∧ (0 : Int) ≤ 9223372036854775807; decide), (by show -9223372036854775808 ≤ (0 : Int) ∧ (0 : Int) ≤ 9223372036854775807; decide), (by show -9223372036854775808 ≤ (0 : Int) ∧ (0 : Int) ≤ 9223372036854775807; decide), (by show -9223372036854775808 ≤ (0 : Int) ∧ (0 : Int) ≤ 9223372036854775807; decide), (by show -9223372036854775808 ≤ (0 : Int) ∧ (0 : Int) ≤ 9223372036854775807; decide)⟩
theorem putOf_wf {x : EntR} (h : x.wf) : (putOf x).wf := ⟨(by show -9223372036854775808 ≤ (0 : Int) ∧ (0 : Int) ≤ 9223372036854775807; decide), h.id, h.p0, h.p1, h.p2, h.v0, h.v1, h.v2⟩
structure Two (a b : List EntR) : Prop where
 sa : Srt a
 sb : Srt b
 ra : ∀ x ∈ a, 0 ≤ x.id ∧ x.id ≤ 65535
 rb : ∀ x ∈ b, 0 ≤ x.id ∧ x.id ≤ 65535
 wa : ∀ x ∈ a, x.wf
 wb : ∀ x ∈ b, x.wf
theorem Two.tl {x : EntR} {a b : List EntR} (h : Two (x :: a) b) : Two a b := ⟨(List.pairwise_cons.1 h.sa).2, h.sb, fun z hz => h.ra z (by simp [hz]), h.rb, fun z hz => h.wa z (by simp [hz]), h.wb⟩
theorem Two.tr {y : EntR} {a b : List EntR} (h : Two a (y :: b)) : Two a b := ⟨h.sa, (List.pairwise_cons.1 h.sb).2, h.ra, fun z hz => h.rb z (by simp [hz]), h.wa, fun z hz => h.wb z (by simp [hz])⟩
theorem apl_skip {x : EntR} {a : List EntR} {l : List RecR} (h : ∀ r ∈ l, x.id < r.id) : apl (x :: a) l = (apl a l).map (x :: ·) := by
 cases l with
 | nil => rw [apl_nil, apl_nil]; rfl
 | cons r l => rw [apl_cons, if_pos (h r (by simp))]
theorem mrg_all : ∀ (n : Nat) (a b : List EntR), a.length + b.length ≤ n → Two a b → ∀ L, mrg a b = some L →
   RSrt L ∧ (∀ r ∈ L, ToldR a b r) ∧ apl a L = some b ∧ L.length ≤ a.length + b.length ∧ (∀ y ∈ b, (∃ r ∈ L, r.id = y.id) ∨ y ∈ a) := by
 intro n
 induction n with
 | zero =>
   intro a b hn ht L h
   obtain rfl : a = [] := List.length_eq_zero_iff.1 (by omega)
   obtain rfl : b = [] := List.length_eq_zero_iff.1 (by omega)
   rw [mrg_nn] at h
   cases h
   exact ⟨List.Pairwise.nil, by simp, apl_nil _, by simp, by simp⟩
 | succ n ih =>
   intro a b hn ht L h
   have rem : ∀ x a', a = x :: a' → (∀ y ∈ b, x.id < y.id) → ∀ l, mrg a' b = some l → L = remOf x :: l → RSrt L ∧ (∀ r ∈ L, ToldR a b r) ∧ apl a L = some b ∧ L.length ≤ a.length + b.length ∧ (∀ y ∈ b, (∃ r ∈ L, r.id = y.id) ∨ y ∈ a) := by
     rintro x a rfl hxb l hl rfl
     obtain ⟨j1, j2, j3, j4, j5⟩ := ih a b (by simp at hn ⊢; omega) ht.tl l hl
     have hxa := (List.pairwise_cons.1 ht.sa).1
     refine ⟨List.pairwise_cons.2 ⟨fun r hr => ?_, j1⟩, fun r hr => ?_, ?_, by simp only [List.length_cons]; omega, fun y hy => ?_⟩
     · show x.id < r.id
       rcases (j2 r hr).of with ⟨_, ⟨z, hz, e⟩, _⟩ | ⟨_, ⟨z, hz, e⟩, _⟩ | ⟨_, _, z, hz, _, _, e, _⟩
       · have := hxa z hz; omega
       · have := hxb z hz; omega
       · have := hxa z hz; omega
     · rcases List.mem_cons.1 hr with e | e
       · subst e
         exact ⟨remOf_chk (ht.ra x (by simp)), ht.ra x (by simp), .inl ⟨rfl, ⟨x, by simp, rfl⟩, fun y hy => by have := hxb y hy; show y.id ≠ x.id; omega⟩, remOf_wf (ht.wa x (by simp))⟩
       · have := j2 r e
         refine ⟨this.chk, this.rng, ?_, this.wf⟩
         rcases this.of with ⟨h1, ⟨z, hz, e'⟩, h2⟩ | ⟨h1, ⟨z, hz, e'⟩, h2⟩ | ⟨h1, h2, z, hz, h3⟩
         · exact .inl ⟨h1, ⟨z, by simp [hz], e'⟩, h2⟩
         · refine .inr (.inl ⟨h1, ⟨z, hz, e'⟩, fun x' hx' => ?_⟩)
           rcases List.mem_cons.1 hx' with e2 | e2
           · rw [e2]; have := hxb z hz; omega
           · exact h2 x' e2
         · exact .inr (.inr ⟨h1, h2, z, by simp [hz], h3⟩)
     · rw [apl_cons, if_neg (by show ¬ x.id < x.id; omega), if_pos (by show x.id = x.id; rfl), if_neg (by show ¬ (2 : Int) = 0; omega), if_pos (by show (2 : Int) = 2; rfl)]
       exact j3
     · rcases j5 y hy with ⟨r, hr, e⟩ | h5
       · exact .inl ⟨r, by simp [hr], e⟩
       · exact .inr (by simp [h5])
   have put : ∀ y b', b = y :: b' → (∀ x ∈ a, y.id < x.id) → y.g = 0#8 → ∀ l, mrg a b' = some l → L = putOf y :: l → RSrt L ∧ (∀ r ∈ L, ToldR a b r) ∧ apl a L = some b ∧ L.length ≤ a.length + b.length ∧ (∀ y ∈ b, (∃ r ∈ L, r.id = y.id) ∨ y ∈ a) := by
     rintro y b rfl hya hg l hl rfl
     obtain ⟨j1, j2, j3, j4, j5⟩ := ih a b (by simp at hn ⊢; omega) ht.tr l hl
     have hyb := (List.pairwise_cons.1 ht.sb).1
     have he : entOf (putOf y) = y := by cases y; simp only [entOf, putOf]; dsimp only at hg; rw [hg]
     refine ⟨List.pairwise_cons.2 ⟨fun r hr => ?_, j1⟩, fun r hr => ?_, ?_, by simp only [List.length_cons]; omega, fun z hz => ?_⟩
     · show y.id < r.id
       rcases (j2 r hr).of with ⟨_, ⟨z, hz, e⟩, _⟩ | ⟨_, ⟨z, hz, e⟩, _⟩ | ⟨_, _, z, hz, _, _, e, _⟩
       · have := hya z hz; omega
       · have := hyb z hz; omega
       · have := hya z hz; omega
     · rcases List.mem_cons.1 hr with e | e
       · subst e
         exact ⟨putOf_chk (ht.rb y (by simp)), ht.rb y (by simp), .inr (.inl ⟨rfl, ⟨y, by simp, rfl⟩, fun x hx => by have := hya x hx; show x.id ≠ y.id; omega⟩), putOf_wf (ht.wb y (by simp))⟩
       · have := j2 r e
         refine ⟨this.chk, this.rng, ?_, this.wf⟩
         rcases this.of with ⟨h1, ⟨z, hz, e'⟩, h2⟩ | ⟨h1, ⟨z, hz, e'⟩, h2⟩ | ⟨h1, h2, z, hz, z', hz', h3⟩
         · refine .inl ⟨h1, ⟨z, hz, e'⟩, fun x' hx' => ?_⟩
           rcases List.mem_cons.1 hx' with e2 | e2
           · rw [e2]; have := hya z hz; omega
           · exact h2 x' e2
         · exact .inr (.inl ⟨h1, ⟨z, by simp [hz], e'⟩, h2⟩)
         · exact .inr (.inr ⟨h1, h2, z, hz, z', by simp [hz'], h3⟩)
     · cases a with
       | nil => rw [apl_new, if_pos (by rfl), j3, he]; rfl
       | cons x a =>
         have := hya x (by simp)
         rw [apl_cons, if_neg (by show ¬ x.id < y.id; omega), if_neg (by show ¬ x.id = y.id; omega), if_pos (by rfl), j3, he]; rfl
     · rcases List.mem_cons.1 hz with e | e
       · rw [e]; exact .inl ⟨putOf y, by simp, rfl⟩
       · rcases j5 z e with ⟨r, hr, e'⟩ | h5
         · exact .inl ⟨r, by simp [hr], e'⟩
         · exact .inr h5
   cases a with
   | nil =>
     cases b with
     | nil =>
       rw [mrg_nn] at h
       cases h
       exact ⟨List.Pairwise.nil, by simp, apl_nil _, by simp, by simp⟩
     | cons y b =>
       rw [mrg_nc] at h
       by_cases hg : y.g = 0#8
       · rw [if_pos hg] at h
         cases hm : mrg [] b with
         | none => rw [hm] at h; cases h
         | some l => rw [hm] at h; cases h; exact put y b rfl (by simp) hg l hm rfl
       · rw [if_neg hg] at h; cases h
   | cons x a =>
     cases b with
     | nil =>
       rw [mrg_cn] at h
       cases hm : mrg a [] with
       | none => rw [hm] at h; cases h
       | some l => rw [hm] at h; cases h; exact rem x a rfl (by simp) l hm rfl
     | cons y b =>
       have hxa := (List.pairwise_cons.1 ht.sa).1
       have hyb := (List.pairwise_cons.1 ht.sb).1
       rw [mrg_cc] at h
       by_cases h1 : x.id < y.id
       · rw [if_pos h1] at h
         cases hm : mrg a (y :: b) with
         | none => rw [hm] at h; cases h
         | some l =>
           rw [hm] at h; cases h
           exact rem x a rfl (fun z hz => by
             rcases List.mem_cons.1 hz with e | e
             · rw [e]; exact h1
             · have := hyb z e; omega) l hm rfl
       · rw [if_neg h1] at h
         by_cases h2 : y.id < x.id
         · rw [if_pos h2] at h
           by_cases hg : y.g = 0#8
           · rw [if_pos hg] at h
             cases hm : mrg (x :: a) b with
             | none => rw [hm] at h; cases h
             | some l =>
               rw [hm] at h; cases h
               exact put y b rfl (fun z hz => by
                 rcases List.mem_cons.1 hz with e | e
                 · rw [e]; exact h2
                 · have := hxa z e; omega) hg l hm rfl
           · rw [if_neg hg] at h; cases h
         · rw [if_neg h2] at h
           have h3 : y.id = x.id := by omega
           by_cases hg : y.g = x.g ∨ y.g = x.g + 1#8
           · rw [if_pos hg] at h
             cases hm : mrg a b with
             | none => rw [hm] at h; cases h
             | some l =>
               rw [hm] at h
               cases h
               obtain ⟨j1, j2, j3, j4, j5⟩ := ih a b (by simp at hn ⊢; omega) ht.tl.tr l hm
               have hlo : ∀ r ∈ l, x.id < r.id := fun r hr => by
                 rcases (j2 r hr).of with ⟨_, ⟨z, hz, e⟩, _⟩ | ⟨_, ⟨z, hz, e⟩, _⟩ | ⟨_, _, z, hz, _, _, e, _⟩
                 · have := hxa z hz; omega
                 · have := hyb z hz; omega
                 · have := hxa z hz; omega
               have hold : ∀ r ∈ l, ToldR (x :: a) (y :: b) r := fun r hr => by
                 have := j2 r hr
                 have hx := hlo r hr
                 refine ⟨this.chk, this.rng, ?_, this.wf⟩
                 rcases this.of with ⟨h1, ⟨z, hz, e'⟩, h2⟩ | ⟨h1, ⟨z, hz, e'⟩, h2⟩ | ⟨h1, h2, z, hz, z', hz', h3'⟩
                 · refine .inl ⟨h1, ⟨z, by simp [hz], e'⟩, fun x' hx' => ?_⟩
                   rcases List.mem_cons.1 hx' with e2 | e2
                   · rw [e2]; omega
                   · exact h2 x' e2
                 · refine .inr (.inl ⟨h1, ⟨z, by simp [hz], e'⟩, fun x' hx' => ?_⟩)
                   rcases List.mem_cons.1 hx' with e2 | e2
                   · rw [e2]; omega
                   · exact h2 x' e2
                 · exact .inr (.inr ⟨h1, h2, z, by simp [hz], z', by simp [hz'], h3'⟩)
               cases hd : (recDiff x y).2 with
               | true =>
                 have hst : stepR x y = [(recDiff x y).1] := by unfold stepR; rw [if_pos hd]
                 have hdm := diff_makes (ht.wa x (by simp)) (ht.wb y (by simp)) (ht.ra x (by simp)) h3 hg hd
                 rw [hst]
                 refine ⟨List.pairwise_cons.2 ⟨fun r hr => ?_, j1⟩, fun r hr => ?_, ?_, by simp only [List.singleton_append, List.length_cons]; omega, fun z hz => ?_⟩
                 · rw [hdm.2.2.2.2.2, h3]; exact hlo r hr
                 · rcases List.mem_cons.1 hr with e | e
                   · rw [e]
                     refine ⟨hdm.2.1, by rw [hdm.2.2.2.2.2]; exact ht.rb y (by simp), .inr (.inr ⟨?_, ?_, x, by simp, y, by simp, by rw [hdm.2.2.2.2.2, h3], hdm.2.2.2.2.2.symm, fun e' => ?_⟩), recDiff_wf (ht.wb y (by simp))⟩
                     · rcases hdm.2.2.2.2.1 with e' | e' <;> rw [e'] <;> decide
                     · rcases hdm.2.2.2.2.1 with e' | e' <;> rw [e'] <;> decide
                     · have := hdm.2.2.1
                       rw [show entEq x y = true from entV_eq.2 e'] at this
                       cases this
                   · exact hold r e
                 · show apl (x :: a) ((recDiff x y).1 :: l) = _
                   rw [apl_cons, if_neg (by rw [hdm.2.2.2.2.2]; omega), if_pos (by rw [hdm.2.2.2.2.2, h3]), if_neg (by rcases hdm.2.2.2.2.1 with e' | e' <;> rw [e'] <;> decide), if_neg (by rcases hdm.2.2.2.2.1 with e' | e' <;> rw [e'] <;> decide), j3, hdm.1]
                   rfl
                 · rcases List.mem_cons.1 hz with e | e
                   · rw [e]; exact .inl ⟨(recDiff x y).1, by simp, hdm.2.2.2.2.2⟩
                   · rcases j5 z e with ⟨r, hr, e'⟩ | h5
                     · exact .inl ⟨r, by simp [hr], e'⟩
                     · exact .inr (by simp [h5])
               | false =>
                 have hst : stepR x y = [] := by unfold stepR; rw [if_neg (by rw [hd]; decide)]
                 have hxy := diff_same hd
                 rw [hst]
                 show RSrt l ∧ _
                 refine ⟨j1, hold, ?_, by simp only [List.nil_append, List.length_cons]; omega, fun z hz => ?_⟩
                 · show apl (x :: a) l = _
                   rw [apl_skip hlo, j3, hxy]; rfl
                 · rcases List.mem_cons.1 hz with e | e
                   · rw [e, ← hxy]; exact .inr (by simp)
                   · rcases j5 z e with ⟨r, hr, e'⟩ | h5
                     · exact .inl ⟨r, by simpa using hr, e'⟩
                     · exact .inr (by simp [h5])
           · rw [if_neg hg] at h; cases h
theorem recsErr_ok {L : List RecR} (hs : RSrt L) (hc : ∀ r ∈ L, recChk r = 0) : recsErr L = 0 := by
 have key : ∀ j, j ≤ L.length → recsTo L j = 0 := by
   intro j
   induction j with
   | zero => intro _; rfl
   | succ j ih =>
     intro hj
     have h0 := ih (by omega)
     have hl := recsTo_last (by omega) h0
     have hg : L.getD j default = L[j] := by rw [List.getD_eq_getElem?_getD, List.getElem?_eq_getElem (by omega)]; rfl
     have hm := hc L[j] (List.getElem_mem (by omega))
     have hr := recChk_0 hm
     refine recsTo_ok h0 ?_
     unfold errAt
     rw [hg]
     refine recErr_ok hm (by omega) ?_
     cases j with
     | zero => show ¬ L[0].id ≤ -1; omega
     | succ i =>
       rw [rowE_next (by omega)]
       dsimp only
       have hg2 : L.getD i default = L[i] := by rw [List.getD_eq_getElem?_getD, List.getElem?_eq_getElem (by omega)]; rfl
       rw [hg2]
       have := List.pairwise_iff_getElem.1 hs i (i + 1) (by omega) (by omega) (by omega)
       omega
 exact key _ (Nat.le_refl _)
theorem recs_srt {L : List RecR} (h : recsErr L = 0) : RSrt L ∧ ∀ r ∈ L, recChk r = 0 ∧ 0 ≤ r.id ∧ r.id ≤ 65535 := by
 have hat : ∀ k, k < L.length → errAt L k = 0 := recsTo_all h
 have hg : ∀ k (hk : k < L.length), L.getD k default = L[k] := fun k hk => by rw [List.getD_eq_getElem?_getD, List.getElem?_eq_getElem hk]; rfl
 refine ⟨List.pairwise_iff_getElem.2 ?_, fun r hr => ?_⟩
 · have key : ∀ d i (hi : i < L.length) (hj : i + d + 1 < L.length), L[i].id < L[i + d + 1].id := by
     intro d
     induction d with
     | zero =>
       intro i hi hj
       have := recErr_parts' (hat (i + 1) hj)
       rw [rowE_next hi, hg _ hj] at this
       dsimp only at this
       rw [hg _ hi] at this
       exact this.2.2.2
     | succ d ih =>
       intro i hi hj
       have h1 := ih i hi (by omega)
       have := recErr_parts' (hat (i + (d + 1) + 1) hj)
       rw [rowE_next (by omega), hg _ hj] at this
       dsimp only at this
       rw [hg _ (by omega)] at this
       have h2 := this.2.2.2
       have e : L[i + (d + 1)].id = L[i + d + 1].id := rfl
       omega
   intro i j hi hj hij
   have := key (j - i - 1) i hi (by omega)
   simpa [show i + (j - i - 1) + 1 = j by omega] using this
 · obtain ⟨k, hk, rfl⟩ := List.mem_iff_getElem.1 hr
   have h1 := hat k hk
   have h2 := recErr_parts' h1
   rw [hg k hk] at h2
   refine ⟨?_, h2.1, h2.2.1⟩
   unfold errAt recErr at h1
   rw [hg k hk] at h1
   split at h1
   · omega
   · omega
/-! ### The program's loop -/
theorem tInv0 (m l : List EntR) : tFold m l = (tFold m (l.drop 0)).map fun s => (([] : List RecR) ++ s.1, s.2) := by
 rw [List.drop_zero]
 cases tFold m l <;> simp
theorem tInv_next {m l mm : List EntR} {out o : List RecR} {j : Nat} (hj : j < l.length) (h : tFold m l = (tFold mm (l.drop j)).map fun s => (out ++ s.1, s.2)) (hs : tStep mm (l.getD j default) = some o) :
   tFold m l = (tFold (edel (l.getD j default).id mm) (l.drop (j + 1))).map fun s => ((out ++ o) ++ s.1, s.2) := by
 rw [h, List.drop_eq_getElem_cons hj]
 rw [ent_getD hj] at hs ⊢
 show Option.map _ ((tStep mm l[j]).bind _) = _
 rw [hs]
 show Option.map _ (Option.map _ (tFold (edel l[j].id mm) (l.drop (j + 1)))) = _
 cases tFold (edel l[j].id mm) (l.drop (j + 1)) <;> simp
theorem tInv_err {m l mm : List EntR} {out : List RecR} {j : Nat} (hj : j < l.length) (h : tFold m l = (tFold mm (l.drop j)).map fun s => (out ++ s.1, s.2)) (hs : tStep mm (l.getD j default) = none) : tFold m l = none := by
 rw [h, List.drop_eq_getElem_cons hj]
 rw [ent_getD hj] at hs
 show Option.map _ ((tStep mm l[j]).bind _) = _
 rw [hs]
 rfl
theorem tInv_end {m l mm : List EntR} {out : List RecR} {j : Nat} (hj : l.length ≤ j) (h : tFold m l = (tFold mm (l.drop j)).map fun s => (out ++ s.1, s.2)) : tFold m l = some (out, mm) := by
 rw [h, List.drop_of_length_le hj]
 simp [tFold]
theorem bvs (X Y : BitVec 8) : (X - Y).toNat ≤ 1 ↔ X = Y ∨ X = Y + 1#8 := by
 constructor
 · intro h
   by_cases e : (X - Y).toNat = 0
   · left
     have h1 : X - Y = 0#8 := BitVec.eq_of_toNat_eq (by simpa using e)
     apply BitVec.eq_of_toNat_eq
     have := congrArg BitVec.toNat h1
     simp only [BitVec.toNat_sub] at this
     have := X.isLt
     have := Y.isLt
     simp at *
     omega
   · right
     apply BitVec.eq_of_toNat_eq
     have h1 : (X - Y).toNat = 1 := by omega
     simp only [BitVec.toNat_sub] at h1
     rw [BitVec.toNat_add]
     have := X.isLt
     have := Y.isLt
     simp at *
     omega
 · rintro (rfl | rfl)
   · simp
   · have e : Y + 1#8 - Y = 1#8 := by
       apply BitVec.eq_of_toNat_eq
       simp only [BitVec.toNat_sub, BitVec.toNat_add]
       have := Y.isLt
       simp
       omega
     rw [e]; decide
theorem tStep_n0 {m : List EntR} {y : EntR} (hn : eget y.id m = none) (h : ¬ (0 : Int) < (((y.g - 0#8).toNat : Nat) : Int)) : tStep m y = some [putOf y] := by
 unfold tStep
 rw [hn]
 have : y.g = 0#8 := BitVec.eq_of_toNat_eq (by simp at h; simpa using h)
 exact if_pos this
theorem tStep_n1 {m : List EntR} {y : EntR} (hn : eget y.id m = none) (h : (0 : Int) < (((y.g - 0#8).toNat : Nat) : Int)) : tStep m y = none := by
 unfold tStep
 rw [hn]
 exact if_neg fun e => by rw [e] at h; simp at h
theorem tStep_s0 {m : List EntR} {y o : EntR} (hn : eget y.id m = some o) (h : ¬ (1 : Int) < (((y.g - o.g).toNat : Nat) : Int)) : tStep m y = some (stepR o y) := by
 unfold tStep
 rw [hn]
 exact if_pos ((bvs _ _).1 (by omega))
theorem tStep_s1 {m : List EntR} {y o : EntR} (hn : eget y.id m = some o) (h : (1 : Int) < (((y.g - o.g).toNat : Nat) : Int)) : tStep m y = none := by
 unfold tStep
 rw [hn]
 exact if_neg fun e => by have := (bvs _ _).2 e; omega
theorem stepR_len (o y : EntR) : (stepR o y).length ≤ 1 := by unfold stepR; split <;> simp
theorem stepR_t {o y : EntR} (h : (recDiff o y).2 = true) : stepR o y = [(recDiff o y).1] := by unfold stepR; rw [if_pos h]
theorem stepR_f {o y : EntR} (h : (recDiff o y).2 = false) : stepR o y = [] := by unfold stepR; rw [if_neg (by rw [h]; decide)]
theorem edel_len (k : Int) : ∀ l, (edel k l).length ≤ l.length
 | [] => Nat.le_refl _
 | x :: l => by
   unfold edel
   split
   · simp
   · have := edel_len k l; simp; omega
def mL (m l : List EntR) : List RecR := (mrg m l).getD []
def mE (m l : List EntR) : Nat := if (mrg m l).isSome = true then 0 else 15
theorem tell_none {m l : List EntR} (ht : Two m l) (h : tFold m l = none) : mE m l = 15 ∧ mL m l = [] := by
 have hf := mrg_fold _ m l (Nat.le_refl _) ht.sa ht.sb
 cases hm : mrg m l with
 | none => exact ⟨by unfold mE; rw [hm]; rfl, by unfold mL; rw [hm]; rfl⟩
 | some L =>
   obtain ⟨s, h1, _⟩ := hf.2 L hm
   rw [h1] at h
   cases h
theorem tell_some {m l mm : List EntR} {out L : List RecR} (ht : Two m l) (h : tFold m l = some (out, mm)) (hp : L.Perm (out ++ mm.map remOf)) (hs : L.Pairwise (fun x y => x.id ≤ y.id)) : mE m l = 0 ∧ mL m l = L := by
 have hf := mrg_fold _ m l (Nat.le_refl _) ht.sa ht.sb
 cases hm : mrg m l with
 | none => rw [hf.1 hm] at h; cases h
 | some L' =>
   obtain ⟨s, h1, h2⟩ := hf.2 L' hm
   rw [h] at h1
   cases h1
   have ha := (mrg_all _ m l (Nat.le_refl _) ht L' hm).1
   exact ⟨by unfold mE; rw [hm]; rfl, by unfold mL; rw [hm]; exact (srt_uniq (fun r : RecR => r.id) (hp.trans h2) hs ha).symm⟩
theorem mL_len {m l : List EntR} (ht : Two m l) : (mL m l).length ≤ m.length + l.length := by
 unfold mL
 cases hm : mrg m l with
 | none => simp
 | some L => exact (mrg_all _ m l (Nat.le_refl _) ht L hm).2.2.2.1
theorem mL_wf {m l : List EntR} (ht : Two m l) : ∀ r ∈ mL m l, r.wf := by
 unfold mL
 cases hm : mrg m l with
 | none => simp
 | some L => exact fun r hr => ((mrg_all _ m l (Nat.le_refl _) ht L hm).2.1 r hr).wf
theorem mE_0 {m l : List EntR} (h : mE m l = 0) : mrg m l = some (mL m l) := by
 unfold mE at h
 unfold mL
 cases hm : mrg m l with
 | none => rw [hm] at h; simp at h
 | some L => rfl
theorem two_nil {l : List EntR} (hs : Srt l) (hr : ∀ x ∈ l, 0 ≤ x.id ∧ x.id ≤ 65535) (hw : ∀ x ∈ l, x.wf) : Two [] l := ⟨List.Pairwise.nil, hs, by simp, hr, by simp, hw⟩
theorem two_of {a b : List EntR} (ha : entsErr a = 0) (hb : entsErr b = 0) (hwa : ∀ x ∈ a, x.wf) (hwb : ∀ x ∈ b, x.wf) : Two a b := ⟨ents_srt ha, ents_srt hb, ents_rng ha, ents_rng hb, hwa, hwb⟩
def dErr (at_ atm : Int) (a : List EntR) (bt btm : Int) (b : List EntR) : Nat :=
 if snapErr at_ atm a ≠ 0 then snapErr at_ atm a else if snapErr bt btm b ≠ 0 then snapErr bt btm b else if bt ≤ at_ then 10 else mE a b
def fErr (bt btm : Int) (b : List EntR) : Nat := if snapErr bt btm b ≠ 0 then snapErr bt btm b else mE [] b
end Go.Sx

set_option linter.unusedVariables false
set_option linter.unusedSimpArgs false
namespace Go.Sx
structure SnapR where
 t : Int
 tm : Int
 l : List EntR
structure GramR where
 t : Int
 tm : Int
 b : Int
 l : List RecR
/-! ### Finding -/
/-! ### Telling -/
def fG (t tm : Int) (l : List EntR) : GramR := if fErr t tm l = 0 then ⟨t, tm, -1, mL [] l⟩ else ⟨0, 0, 0, []⟩
def dG (at_ atm : Int) (a : List EntR) (bt btm : Int) (b : List EntR) : GramR := if dErr at_ atm a bt btm b = 0 then ⟨bt, btm, at_, mL a b⟩ else ⟨0, 0, 0, []⟩
theorem fErr_1 {t tm : Int} {l : List EntR} (h : snapErr t tm l ≠ 0) : fErr t tm l = snapErr t tm l := by unfold fErr; rw [if_pos h]
theorem fErr_2 {t tm : Int} {l : List EntR} (h : snapErr t tm l = 0) : fErr t tm l = mE [] l := by unfold fErr; rw [if_neg (by omega)]
theorem fG_e {t tm : Int} {l : List EntR} (h : fErr t tm l ≠ 0) : fG t tm l = ⟨0, 0, 0, []⟩ := by unfold fG; rw [if_neg h]
theorem fG_0 {t tm : Int} {l : List EntR} (h : fErr t tm l = 0) : fG t tm l = ⟨t, tm, -1, mL [] l⟩ := by unfold fG; rw [if_pos h]
section
variable {at_ atm bt btm : Int} {a b : List EntR}
theorem dErr_1 (h : snapErr at_ atm a ≠ 0) : dErr at_ atm a bt btm b = snapErr at_ atm a := by unfold dErr; rw [if_pos h]
theorem dErr_2 (h : snapErr at_ atm a = 0) (h2 : snapErr bt btm b ≠ 0) : dErr at_ atm a bt btm b = snapErr bt btm b := by unfold dErr; rw [if_neg (by omega), if_pos h2]
theorem dErr_3 (h : snapErr at_ atm a = 0) (h2 : snapErr bt btm b = 0) (h3 : bt ≤ at_) : dErr at_ atm a bt btm b = 10 := by unfold dErr; rw [if_neg (by omega), if_neg (by omega), if_pos h3]
theorem dErr_4 (h : snapErr at_ atm a = 0) (h2 : snapErr bt btm b = 0) (h3 : ¬ bt ≤ at_) : dErr at_ atm a bt btm b = mE a b := by unfold dErr; rw [if_neg (by omega), if_neg (by omega), if_neg h3]
theorem dG_e (h : dErr at_ atm a bt btm b ≠ 0) : dG at_ atm a bt btm b = ⟨0, 0, 0, []⟩ := by unfold dG; rw [if_neg h]
theorem dG_0 (h : dErr at_ atm a bt btm b = 0) : dG at_ atm a bt btm b = ⟨bt, btm, at_, mL a b⟩ := by unfold dG; rw [if_pos h]
theorem dErr_parts (h : dErr at_ atm a bt btm b = 0) : snapErr at_ atm a = 0 ∧ snapErr bt btm b = 0 ∧ at_ < bt ∧ mE a b = 0 := by
 unfold dErr at h
 split at h
 · omega
 · split at h
   · omega
   · split at h
     · cases h
     · omega
/-! ### Making -/
variable {gt gtm gb : Int} {rl : List RecR}
def wasOf (gb : Int) (a : List EntR) : List EntR := if 0 ≤ gb then a else []
def aM (was : List EntR) (rl : List RecR) : Nat := match apl was rl with | none => 15 | some l => if 64 < l.length then 4 else 0
def aE (at_ atm : Int) (a : List EntR) (gt gtm gb : Int) (rl : List RecR) : Nat :=
 if bodyErr gt gtm gb rl ≠ 0 then bodyErr gt gtm gb rl else if 0 ≤ gb ∧ snapErr at_ atm a ≠ 0 then snapErr at_ atm a else if 0 ≤ gb ∧ at_ ≠ gb then 14 else aM (wasOf gb a) rl
def aS (at_ atm : Int) (a : List EntR) (gt gtm gb : Int) (rl : List RecR) : SnapR := if aE at_ atm a gt gtm gb rl = 0 then ⟨gt, gtm, (apl (wasOf gb a) rl).getD []⟩ else ⟨0, 0, []⟩
theorem aE_1 (h : bodyErr gt gtm gb rl ≠ 0) : aE at_ atm a gt gtm gb rl = bodyErr gt gtm gb rl := by unfold aE; rw [if_pos h]
theorem aE_2 (h : bodyErr gt gtm gb rl = 0) (h1 : 0 ≤ gb) (h2 : snapErr at_ atm a ≠ 0) : aE at_ atm a gt gtm gb rl = snapErr at_ atm a := by unfold aE; rw [if_neg (by omega), if_pos ⟨h1, h2⟩]
theorem aE_3 (h : bodyErr gt gtm gb rl = 0) (h1 : 0 ≤ gb) (h2 : snapErr at_ atm a = 0) (h3 : at_ ≠ gb) : aE at_ atm a gt gtm gb rl = 14 := by unfold aE; rw [if_neg (by omega), if_neg (by omega), if_pos ⟨h1, h3⟩]
theorem aE_4 (h : bodyErr gt gtm gb rl = 0) (h1 : 0 ≤ gb → snapErr at_ atm a = 0 ∧ at_ = gb) : aE at_ atm a gt gtm gb rl = aM (wasOf gb a) rl := by
 unfold aE
 rw [if_neg (by omega), if_neg (fun ⟨h2, h3⟩ => h3 (h1 h2).1), if_neg (fun ⟨h2, h3⟩ => h3 (h1 h2).2)]
theorem aS_e (h : aE at_ atm a gt gtm gb rl ≠ 0) : aS at_ atm a gt gtm gb rl = ⟨0, 0, []⟩ := by unfold aS; rw [if_neg h]
theorem aS_0 (h : aE at_ atm a gt gtm gb rl = 0) : aS at_ atm a gt gtm gb rl = ⟨gt, gtm, (apl (wasOf gb a) rl).getD []⟩ := by unfold aS; rw [if_pos h]
theorem aM_none {was : List EntR} (h : apl was rl = none) : aM was rl = 15 := by unfold aM; rw [h]
theorem aM_full {was l : List EntR} (h : apl was rl = some l) (h2 : 64 < l.length) : aM was rl = 4 := by unfold aM; rw [h]; exact if_pos h2
theorem aM_ok {was l : List EntR} (h : apl was rl = some l) (h2 : ¬ 64 < l.length) : aM was rl = 0 := by unfold aM; rw [h]; exact if_neg h2
theorem aE_parts (h : aE at_ atm a gt gtm gb rl = 0) : bodyErr gt gtm gb rl = 0 ∧ (0 ≤ gb → snapErr at_ atm a = 0 ∧ at_ = gb) ∧ ∃ l, apl (wasOf gb a) rl = some l ∧ l.length ≤ 64 := by
 have h0 : bodyErr gt gtm gb rl = 0 := by
   cases hb : bodyErr gt gtm gb rl with
   | zero => rfl
   | succ n => rw [aE_1 (by omega)] at h; omega
 have h1 : 0 ≤ gb → snapErr at_ atm a = 0 ∧ at_ = gb := by
   intro hg
   by_cases e : snapErr at_ atm a = 0
   · by_cases e2 : at_ = gb
     · exact ⟨e, e2⟩
     · rw [aE_3 h0 hg e e2] at h; cases h
   · rw [aE_2 h0 hg e] at h; omega
 refine ⟨h0, h1, ?_⟩
 rw [aE_4 h0 h1] at h
 unfold aM at h
 cases ha : apl (wasOf gb a) rl with
 | none => rw [ha] at h; cases h
 | some l =>
   rw [ha] at h
   dsimp only at h
   split at h
   · cases h
   · exact ⟨l, rfl, by omega⟩
end
theorem wasOf_srt {gb t tm : Int} {a : List EntR} (h : 0 ≤ gb → snapErr t tm a = 0 ∧ t = gb) : Srt (wasOf gb a) := by
 unfold wasOf
 split
 · rename_i hg; exact ents_srt (snapErr_parts (h hg).1).2.2.2.2.2
 · exact List.Pairwise.nil
theorem pInv_next {was mm m' : List EntR} {rl : List RecR} {k : Nat} (hk : k < rl.length) (h : pFold was rl = pFold mm (rl.drop k)) (hs : pStep mm (rl.getD k default) = some m') : pFold was rl = pFold m' (rl.drop (k + 1)) := by
 rw [h, List.drop_eq_getElem_cons hk]
 have e : rl.getD k default = rl[k] := by rw [List.getD_eq_getElem?_getD, List.getElem?_eq_getElem hk]; rfl
 rw [e] at hs
 show (pStep mm rl[k]).bind _ = _
 rw [hs]
 rfl
theorem pInv_err {was mm : List EntR} {rl : List RecR} {k : Nat} (hk : k < rl.length) (h : pFold was rl = pFold mm (rl.drop k)) (hs : pStep mm (rl.getD k default) = none) : pFold was rl = none := by
 rw [h, List.drop_eq_getElem_cons hk]
 have e : rl.getD k default = rl[k] := by rw [List.getD_eq_getElem?_getD, List.getElem?_eq_getElem hk]; rfl
 rw [e] at hs
 show (pStep mm rl[k]).bind _ = _
 rw [hs]
 rfl
theorem pInv_end {was mm : List EntR} {rl : List RecR} {k : Nat} (hk : rl.length ≤ k) (h : pFold was rl = pFold mm (rl.drop k)) : pFold was rl = some mm := by
 rw [h, List.drop_of_length_le hk]
 rfl
theorem pStep_err {m : List EntR} {r : RecR} (h : ((eget r.id m).isSome == (r.k == 0)) = true) : pStep m r = none := by
 unfold pStep
 cases hg : eget r.id m with
 | none =>
   rw [hg] at h
   have : r.k ≠ 0 := by simpa using h
   exact if_neg this
 | some x =>
   rw [hg] at h
   have : r.k = 0 := by simpa using h
   exact if_pos this
theorem pStep_new {m : List EntR} {r : RecR} (h : ((eget r.id m).isSome == (r.k == 0)) = false) (h2 : (eget r.id m).isSome = false) : pStep m r = some (eput (entOf r) m) := by
 rw [h2] at h
 have : r.k = 0 := by simpa using h
 unfold pStep
 rw [show eget r.id m = none by cases h : eget r.id m <;> simp_all]
 exact if_pos this
theorem pStep_k {m : List EntR} {r : RecR} {x : EntR} (h : ((eget r.id m).isSome == (r.k == 0)) = false) (hx : eget r.id m = some x) : r.k ≠ 0 := by
 rw [hx] at h
 simpa using h
theorem pStep_del {m : List EntR} {r : RecR} {x : EntR} (hx : eget r.id m = some x) (h2 : r.k = 2) : pStep m r = some (edel r.id m) := by
 unfold pStep
 rw [hx]
 exact (if_neg (by omega)).trans (if_pos h2)
theorem pStep_upd {m : List EntR} {r : RecR} {x : EntR} (hx : eget r.id m = some x) (h0 : r.k ≠ 0) (h2 : r.k ≠ 2) : pStep m r = some (eput (entApply x r).1 m) := by
 unfold pStep
 rw [hx]
 exact (if_neg h0).trans (if_neg h2)
theorem rec_getD {l : List RecR} {k : Nat} (h : k < l.length) : l.getD k default = l[k] := by rw [List.getD_eq_getElem?_getD, List.getElem?_eq_getElem h]; rfl
theorem upd_id {m : List EntR} {rl : List RecR} {k : Nat} {x : EntR} (hr : recsErr rl = 0) (hk : k < rl.length) (hx : eget (rl.getD k default).id m = some x) (h0 : (rl.getD k default).k ≠ 0) (h2 : (rl.getD k default).k ≠ 2) : (entApply x (rl.getD k default)).1.id = (rl.getD k default).id := by
 have hc : recChk (rl.getD k default) = 0 := by rw [rec_getD hk]; exact ((recs_srt hr).2 _ (List.getElem_mem hk)).1
 have hid := (eget_some hx).2
 rw [(entApply_id hc hid.symm h0 h2).1, hid]
theorem apply_none {was : List EntR} {rl : List RecR} (hw : Srt was) (hr : recsErr rl = 0) (h : pFold was rl = none) : apl was rl = none := by
 have := apl_fold _ was rl (Nat.le_refl _) [] was (List.Perm.refl _) hw (by simp) (recs_srt hr).1 (fun r h => ((recs_srt hr).2 r h).1)
 cases ha : apl was rl with
 | none => rfl
 | some l =>
   obtain ⟨_, m', h1, _⟩ := this.2 l ha
   rw [h] at h1
   cases h1
theorem apply_some {was mm : List EntR} {rl : List RecR} (hw : Srt was) (hr : recsErr rl = 0) (h : pFold was rl = some mm) : ∃ l, apl was rl = some l ∧ mm.Perm l ∧ Srt l := by
 have := apl_fold _ was rl (Nat.le_refl _) [] was (List.Perm.refl _) hw (by simp) (recs_srt hr).1 (fun r h => ((recs_srt hr).2 r h).1)
 cases ha : apl was rl with
 | none => rw [this.1 ha] at h; cases h
 | some l =>
   obtain ⟨h0, m', h1, h2⟩ := this.2 l ha
   rw [h] at h1
   cases h1
   exact ⟨l, rfl, by simpa using h2, by simpa using h0⟩
theorem srt_same {l l' : List EntR} (p : l.Perm l') (h : l.Pairwise (fun x y => x.id ≤ y.id)) (h' : Srt l') : l = l' := srt_uniq (fun e : EntR => e.id) p h h'
end Go.Sx

set_option linter.unusedVariables false
set_option linter.unusedSimpArgs false
namespace Go.Sx
section
variable {at_ atm bt btm : Int} {a b : List EntR}
theorem mL_told (ht : Two a b) (h : mE a b = 0) : RSrt (mL a b) ∧ (∀ r ∈ mL a b, ToldR a b r) ∧ apl a (mL a b) = some b ∧ (mL a b).length ≤ a.length + b.length ∧ (∀ y ∈ b, (∃ r ∈ mL a b, r.id = y.id) ∨ y ∈ a) := mrg_all _ a b (Nat.le_refl _) ht _ (mE_0 h)
theorem diff_two (h : dErr at_ atm a bt btm b = 0) (hwa : ∀ x ∈ a, x.wf) (hwb : ∀ x ∈ b, x.wf) : Two a b := by
 obtain ⟨h1, h2, _, _⟩ := dErr_parts h
 exact two_of (snapErr_parts h1).2.2.2.2.2 (snapErr_parts h2).2.2.2.2.2 hwa hwb
theorem body_diff (h : dErr at_ atm a bt btm b = 0) (hwa : ∀ x ∈ a, x.wf) (hwb : ∀ x ∈ b, x.wf) : bodyErr bt btm at_ (mL a b) = 0 := by
 obtain ⟨h1, h2, h3, h4⟩ := dErr_parts h
 have p1 := snapErr_parts h1
 have p2 := snapErr_parts h2
 have hm := mL_told (diff_two h hwa hwb) h4
 rw [bodyErr_recs (gErr_0 (by omega) (by omega) (by omega))]
 exact recsErr_ok hm.1 fun r hr => (hm.2.1 r hr).chk
theorem diff_apply (h : dErr at_ atm a bt btm b = 0) (hwa : ∀ x ∈ a, x.wf) (hwb : ∀ x ∈ b, x.wf) :
   aE at_ atm a (dG at_ atm a bt btm b).t (dG at_ atm a bt btm b).tm (dG at_ atm a bt btm b).b (dG at_ atm a bt btm b).l = 0 ∧ aS at_ atm a (dG at_ atm a bt btm b).t (dG at_ atm a bt btm b).tm (dG at_ atm a bt btm b).b (dG at_ atm a bt btm b).l = ⟨bt, btm, b⟩ := by
 obtain ⟨h1, h2, h3, h4⟩ := dErr_parts h
 have p1 := snapErr_parts h1
 have p2 := snapErr_parts h2
 have hm := mL_told (diff_two h hwa hwb) h4
 rw [dG_0 h]
 dsimp only
 have hw : wasOf at_ a = a := by unfold wasOf; rw [if_pos p1.1]
 have he : aE at_ atm a bt btm at_ (mL a b) = 0 := by
   rw [aE_4 (body_diff h hwa hwb) (fun _ => ⟨h1, rfl⟩), hw]
   exact aM_ok hm.2.2.1 (by omega)
 refine ⟨he, ?_⟩
 rw [aS_0 he, hw, hm.2.2.1]
 rfl
theorem full_two (h : fErr bt btm b = 0) (hwb : ∀ x ∈ b, x.wf) : snapErr bt btm b = 0 ∧ mE [] b = 0 ∧ Two [] b := by
 have h1 : snapErr bt btm b = 0 := by
   cases hs : snapErr bt btm b with
   | zero => rfl
   | succ n => rw [fErr_1 (by omega)] at h; omega
 have p := snapErr_parts h1
 exact ⟨h1, by rw [← fErr_2 h1]; exact h, two_nil (ents_srt p.2.2.2.2.2) (ents_rng p.2.2.2.2.2) hwb⟩
theorem full_apply (h : fErr bt btm b = 0) (hwb : ∀ x ∈ b, x.wf) :
   aE at_ atm a (fG bt btm b).t (fG bt btm b).tm (fG bt btm b).b (fG bt btm b).l = 0 ∧ aS at_ atm a (fG bt btm b).t (fG bt btm b).tm (fG bt btm b).b (fG bt btm b).l = ⟨bt, btm, b⟩ := by
 obtain ⟨h1, h2, ht⟩ := full_two h hwb
 have p := snapErr_parts h1
 have hm := mL_told ht h2
 rw [fG_0 h]
 dsimp only
 have hw : wasOf (-1) a = [] := by unfold wasOf; rw [if_neg (by omega)]
 have hl := hm.2.2.2.1
 have he : aE at_ atm a bt btm (-1) (mL [] b) = 0 := by
   rw [aE_4 ?_ (fun h => by omega), hw]
   · exact aM_ok hm.2.2.1 (by omega)
   · rw [bodyErr_recs (gErr_0 (by omega) (by omega) (by simp at hl; omega))]
     exact recsErr_ok hm.1 fun r hr => (hm.2.1 r hr).chk
 refine ⟨he, ?_⟩
 rw [aS_0 he, hw, hm.2.2.1]
 rfl
theorem dG_wf (hwa : ∀ x ∈ a, x.wf) (hwb : ∀ x ∈ b, x.wf) : ∀ r ∈ (dG at_ atm a bt btm b).l, r.wf := by
 by_cases h : dErr at_ atm a bt btm b = 0
 · rw [dG_0 h]
   exact mL_wf (diff_two h hwa hwb)
 · rw [dG_e h]; simp
theorem fG_wf (hwb : ∀ x ∈ b, x.wf) : ∀ r ∈ (fG bt btm b).l, r.wf := by
 by_cases h : fErr bt btm b = 0
 · rw [fG_0 h]
   exact mL_wf (full_two h hwb).2.2
 · rw [fG_e h]; simp
theorem dG_rng : ((dG at_ atm a bt btm b).t = bt ∨ (dG at_ atm a bt btm b).t = 0) ∧ ((dG at_ atm a bt btm b).tm = btm ∨ (dG at_ atm a bt btm b).tm = 0) ∧ ((dG at_ atm a bt btm b).b = at_ ∨ (dG at_ atm a bt btm b).b = 0) := by
 by_cases h : dErr at_ atm a bt btm b = 0
 · rw [dG_0 h]; simp
 · rw [dG_e h]; simp
theorem fG_rng : ((fG bt btm b).t = bt ∨ (fG bt btm b).t = 0) ∧ ((fG bt btm b).tm = btm ∨ (fG bt btm b).tm = 0) ∧ ((fG bt btm b).b = -1 ∨ (fG bt btm b).b = 0) := by
 by_cases h : fErr bt btm b = 0
 · rw [fG_0 h]; simp
 · rw [fG_e h]; simp
theorem aS_rng {gt gtm gb : Int} {rl : List RecR} : ((aS at_ atm a gt gtm gb rl).t = gt ∨ (aS at_ atm a gt gtm gb rl).t = 0) ∧ ((aS at_ atm a gt gtm gb rl).tm = gtm ∨ (aS at_ atm a gt gtm gb rl).tm = 0) ∧ (aS at_ atm a gt gtm gb rl).l.length ≤ 64 := by
 by_cases h : aE at_ atm a gt gtm gb rl = 0
 · rw [aS_0 h]
   obtain ⟨_, _, l, hl, hn⟩ := aE_parts h
   rw [hl]
   simpa using hn
 · rw [aS_e h]; simp
end
/-! ### The example -/
abbrev e7 : EntR := ⟨7, 0, 0, 0, 0, 0, 0, 5#16, 0#8⟩
end Go.Sx
