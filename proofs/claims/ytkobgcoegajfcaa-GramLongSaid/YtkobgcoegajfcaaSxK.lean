/- Regions that draw their order, where each operation may own memory: what it takes, what it takes over from those that it waits for, and what it leaves. -/
import Derived.Test.YtkobgcoegajfcaaSxG
set_option linter.unusedVariables false
set_option linter.unusedSimpArgs false
namespace Go.Sx
open Go.RowKit
variable {P : Program} {ops : Array Oper} {Q : Exit → Act → World → Prop} {n : Nat} {F : List (Nat × Value)} {w0 : World} {S : List Nat} {M M0 : List HA} {a : Act} {w : World}

theorem Mem.perm {M M' : List HA} (h : Mem w0 S M w) (hp : M.Perm M') : Mem w0 S M' w := by
  have hf : (feet M).Perm (feet M') := hp.flatMap_right _
  exact ⟨h.chg, fun y hy => h.all y (hp.mem_iff.2 hy), hf.nodup_iff.1 h.nd, fun k hk => h.ge k (hf.mem_iff.2 hk)⟩
theorem Dels.app : ∀ (X M : List HA), Dels (X ++ M) X M
  | [], M => .n
  | x :: X, M => .c .z (Dels.app X M)
/-- The pile, by place. -/
theorem flat_out {c : Nat → List HA} {k : Nat} : ∀ (L : List Nat), L.Nodup → k ∈ L → (L.flatMap c).Perm (c k ++ L.flatMap fun i => if i = k then [] else c i)
  | [], _, h => by simp at h
  | x :: L, hn, h => by
    obtain ⟨hx, hn⟩ := List.nodup_cons.1 hn
    by_cases e : x = k
    · subst e
      have : (L.flatMap fun i => if i = x then [] else c i) = L.flatMap c := by
        rw [List.flatMap_def, List.flatMap_def]
        congr 1
        refine List.map_congr_left fun i hi => ?_
        rw [if_neg (show ¬ i = x from fun e => hx (by rw [← e]; exact hi))]
      simp only [List.flatMap_cons, if_pos, List.nil_append, this]
      exact List.Perm.refl _
    · have hk : k ∈ L := by simpa [Ne.symm e] using h
      simp only [List.flatMap_cons, if_neg e]
      refine (List.Perm.append_left _ (flat_out L hn hk)).trans ?_
      rw [← List.append_assoc, ← List.append_assoc]
      exact List.Perm.append_right _ List.perm_append_comm
theorem flat_outs {L : List Nat} (hL : L.Nodup) : ∀ (ks : List Nat) (c : Nat → List HA), ks.Nodup → (∀ k ∈ ks, k ∈ L) → (L.flatMap c).Perm (ks.flatMap c ++ L.flatMap fun i => if i ∈ ks then [] else c i)
  | [], c, _, _ => by simp
  | k :: ks, c, hn, hs => by
    obtain ⟨hk, hn⟩ := List.nodup_cons.1 hn
    refine (flat_out L hL (hs k (by simp))).trans ?_
    simp only [List.flatMap_cons, List.append_assoc]
    refine List.Perm.append_left _ ?_
    refine (flat_outs hL ks (fun i => if i = k then [] else c i) hn fun i hi => hs i (by simp [hi])).trans ?_
    have e1 : (ks.flatMap fun i => if i = k then [] else c i) = ks.flatMap c := by
      rw [List.flatMap_def, List.flatMap_def]
      congr 1
      refine List.map_congr_left fun i hi => ?_
      rw [if_neg (show ¬ i = k from fun e => hk (by rw [← e]; exact hi))]
    have e2 : (fun i => if i ∈ ks then [] else if i = k then [] else c i) = fun i => if i ∈ k :: ks then [] else c i := by
      funext i
      by_cases h1 : i = k
      · simp [h1]
      · by_cases h2 : i ∈ ks <;> simp [h1, h2]
    rw [e1, e2]

/-- What one operation does with memory. -/
structure OS where
  X : List HA
  use : List Nat
  dep : List Nat
  vp : (Nat → Value) → Prop
  N : (Nat → Value) → List HA
  was : Option Value
def OS.nil : OS := ⟨[], [], [], fun _ => True, fun _ => [], none⟩
/-- An operation that touches no memory, and whose value is v. -/
abbrev Pv (i : Nat) (v : Value) : OS := ⟨[], [], [], fun vs => vs i = v, fun _ => [], none⟩
/-- The values that it may speak of: its own, and those of the ones it names. -/
def OS.m (D : OS) (i : Nat) (vs : Nat → Value) : Nat → Value := fun k => bif k == i || D.dep.elem k then vs k else undef
def osAt (Ds : List OS) (i : Nat) : OS := (Ds[i]?).getD OS.nil
def taken (Ds : List OS) (ls : Nat → Bool) (i : Nat) : Prop := ∃ j, ls j = true ∧ i ∈ (osAt Ds j).use
open Classical in
noncomputable def cont (Ds : List OS) (ls : Nat → Bool) (vs : Nat → Value) (i : Nat) : List HA := if ls i = true then (if taken Ds ls i then [] else (osAt Ds i).N ((osAt Ds i).m i vs)) else (osAt Ds i).X
def SlotIs (l : List Oper) (i : Nat) (v : Value) (a : Act) : Prop := ∀ o d, l[i]? = some o → o.dst = some d → a.tmps[d]? = some v
def Waits (l : List Oper) (j i : Nat) : Prop := ∃ o, l[j]? = some o ∧ ∃ e ∈ o.after, Region.binds .any e = true ∧ e.on = i
/-- The values, one of them anew. -/
def setv (vs : Nat → Value) (i : Nat) (v : Value) : Nat → Value := fun k => bif k == i then v else vs k
def RG (n : Nat) (F : List (Nat × Value)) (a : Act) (w : World) (o : Oper) (own : List HA) (D : OS) (i : Nat) (vs : Nat → Value) (a' : Act) (w' : World) : Prop :=
  ∃ v G, St n G w [] [] a w ∧ Covers F G ∧ St n ((o.dst.toList.map fun d => (d, v)) ++ G) w (feet own) (D.N (D.m i (setv vs i v))) a' w' ∧ D.vp (D.m i (setv vs i v))
def QG (n : Nat) (F : List (Nat × Value)) (a : Act) (w : World) (o : Oper) (own : List HA) (D : OS) (i : Nat) (vs : Nat → Value) : Exit → Act → World → Prop :=
  fun e a' w' => e = .normal ∧ RG n F a w o own D i vs a' w'
def ownOf (D : OS) (Ds : List OS) (vs : Nat → Value) : List HA := D.X ++ D.use.flatMap fun k => (osAt Ds k).N ((osAt Ds k).m k vs)
inductive TW (l : List Oper) : Nat → Nat → Prop
  | one {j k} : Waits l j k → TW l j k
  | more {j m k} : Waits l j m → TW l m k → TW l j k
def twB (l : List Oper) (k : Nat) : Nat → Nat → Bool
  | 0, _ => false
  | f + 1, j => match l[j]? with
    | none => false
    | some o => o.after.any fun e => Region.binds .any e && (Nat.beq e.on k || (Nat.blt k e.on && twB l k f e.on))
theorem twB_spec {l : List Oper} {k : Nat} : ∀ (f j : Nat), twB l k f j = true → TW l j k := by
  intro f
  induction f with
  | zero => intro j h; simp [twB] at h
  | succ f ih =>
    intro j h
    simp only [twB] at h
    split at h
    · cases h
    · rename_i o ho
      rw [← Array.any_toList, List.any_eq_true] at h
      obtain ⟨e, he, h2⟩ := h
      simp only [Bool.and_eq_true, Bool.or_eq_true] at h2
      have hw : Waits l j e.on := ⟨o, ho, e, Array.mem_toList_iff.1 he, h2.1, rfl⟩
      rcases h2.2 with h3 | h3
      · have := Nat.eq_of_beq_eq_true h3
        subst this
        exact .one hw
      · exact .more hw (ih _ h3.2)
/-- What an operation is told of one that it waits for. -/
def Told (l : List Oper) (Ds : List OS) (rest : List HA) (vs : Nat → Value) (i k : Nat) (a : Act) : Prop := SlotIs l k (vs k) a ∧ (osAt Ds k).vp ((osAt Ds k).m k vs) ∧ ((∀ j, k ∈ (osAt Ds j).use → TW l j i) → ∀ h ∈ (osAt Ds k).N ((osAt Ds k).m k vs), h ∈ rest)
/-- Whoever takes over from k waits for i. -/
def laterB (l : List Oper) (i k n : Nat) : Nat → List OS → Bool
  | _, [] => true
  | j, D :: Ds => (!(D.use.elem k) || twB l i n j) && laterB l i k n (j + 1) Ds
theorem laterB_spec {l : List Oper} {i k n : Nat} : ∀ (Ds : List OS) (j0 : Nat), laterB l i k n j0 Ds = true → ∀ j, k ∈ (osAt Ds j).use → TW l (j0 + j) i := by
  intro Ds
  induction Ds with
  | nil => intro j0 _ j hj; unfold osAt at hj; simp [OS.nil] at hj
  | cons D Ds ih =>
    intro j0 h j hj
    simp only [laterB, Bool.and_eq_true, Bool.or_eq_true, Bool.not_eq_true'] at h
    cases j with
    | zero =>
      have hj' : k ∈ D.use := by simpa [osAt] using hj
      rcases h.1 with h1 | h1
      · rw [show List.elem k D.use = true from List.elem_iff.2 hj'] at h1; cases h1
      · exact twB_spec _ _ h1
    | succ j =>
      have := ih (j0 + 1) h.2 j (by simpa [osAt] using hj)
      rwa [show j0 + 1 + j = j0 + (j + 1) by omega] at this
theorem later {l : List Oper} {Ds : List OS} {i k n : Nat} (h : laterB l i k n 0 Ds = true) : ∀ j, k ∈ (osAt Ds j).use → TW l j i := fun j hj => by
  have := laterB_spec Ds 0 h j hj
  rwa [Nat.zero_add] at this
def Trip (P : Program) (l : List Oper) (n : Nat) (F : List (Nat × Value)) (w0 : World) (S : List Nat) (M0 : List HA) (Ds : List OS) (i : Nat) (o : Oper) (D : OS) : Prop :=
  ∀ a w R rest vs, Mem w0 S (ownOf D Ds vs ++ (M0 ++ rest)) w → St n (F ++ R) w (feet (ownOf D Ds vs)) (ownOf D Ds vs) a w → (∀ k, TW l i k → Told l Ds rest vs i k a) → (∀ j, TW l j i → (∀ h ∈ (osAt Ds j).X, h ∈ rest) ∧ ∀ u, (osAt Ds j).was = some u → SlotIs l j u a) →
    wpList P l.toArray (QG n (F ++ R) a w o (ownOf D Ds vs) D i vs) [o] a w
inductive Trips (P : Program) (l : List Oper) (n : Nat) (F : List (Nat × Value)) (w0 : World) (S : List Nat) (M0 : List HA) (Ds : List OS) : Nat → List Oper → List OS → Prop
  | n {i} : Trips P l n F w0 S M0 Ds i [] []
  | c {i o r D ds} : Trip P l n F w0 S M0 Ds i o D → Trips P l n F w0 S M0 Ds (i + 1) r ds → Trips P l n F w0 S M0 Ds i (o :: r) (D :: ds)
theorem Trips.get {l : List Oper} {Ds : List OS} {r : List Oper} {ds : List OS} {j : Nat} (h : Trips P l n F w0 S M0 Ds j r ds) : r.length = ds.length ∧ ∀ (i : Nat) (o : Oper), r[i]? = some o → Trip P l n F w0 S M0 Ds (j + i) o (osAt ds i) := by
  induction h with
  | n => exact ⟨rfl, fun i o h => by simp at h⟩
  | @c j o' r D ds h _ ih =>
    refine ⟨by simp [ih.1], fun i o hi => ?_⟩
    cases i with
    | zero => simp only [List.getElem?_cons_zero, Option.some.injEq] at hi; subst hi; exact h
    | succ i => have := ih.2 i o (by simpa using hi); rw [show j + (i + 1) = j + 1 + i by omega]; exact this
/-- Edges lead back; the slots are each written once, and none is the base's; what is taken over is waited for, and by one alone. -/
def goodG (F : List (Nat × Value)) (l : List Oper) : Bool :=
  (l.zipIdx.all fun x => x.1.after.all fun e => !(Region.binds .any e) || Nat.blt e.on x.2) && (l.all fun o => F.all fun p => !(o.dst == some p.1)) && (l.zipIdx.all fun x => l.zipIdx.all fun y => Nat.beq x.2 y.2 || x.1.dst.isNone || !(x.1.dst == y.1.dst))
def goodU (l : List Oper) (us ds : List (List Nat)) : Bool :=
  (us.zipIdx.all fun x => x.1.all fun k => twB l k l.length x.2) && (ds.zipIdx.all fun x => x.1.all fun k => twB l k l.length x.2) && us.flatten.Nodup
theorem goodG_spec {l : List Oper} (h : goodG F l = true) : (∀ (i : Nat) (o : Oper), l[i]? = some o → ∀ e ∈ o.after, Region.binds .any e = true → e.on < i) ∧ (∀ (i : Nat) (o : Oper), l[i]? = some o → ∀ d, o.dst = some d → ∀ p ∈ F, d ≠ p.1) ∧
    (∀ (i j : Nat) (o o' : Oper), l[i]? = some o → l[j]? = some o' → i ≠ j → ∀ d, o.dst = some d → o'.dst ≠ some d) := by
  simp only [goodG, Bool.and_eq_true, List.all_eq_true] at h
  have hz : ∀ (i : Nat) (o : Oper), l[i]? = some o → (o, i) ∈ l.zipIdx := fun i o hi => by
    rw [List.mem_zipIdx_iff_getElem?]; exact hi
  refine ⟨fun i o hi e he hb => ?_, fun i o hi d hd p hp e => ?_, fun i j o o' hi hj hne d hd hd' => ?_⟩
  · have h1 := h.1.1 _ (hz i o hi)
    rw [Array.all_eq_true_iff_forall_mem] at h1
    have := h1 e he
    simpa [hb] using this
  · have h1 := h.1.2 o (List.mem_of_getElem? hi) p hp
    simp [hd, e] at h1
  · have h1 := h.2 _ (hz i o hi) _ (hz j o' hj)
    simp only [Bool.or_eq_true] at h1
    rcases h1 with (h1 | h1) | h1
    · exact absurd (Nat.eq_of_beq_eq_true h1) hne
    · simp [hd] at h1
    · simp [hd, hd'] at h1
theorem goodU_spec {l : List Oper} {Ds : List OS} (h : goodU l (Ds.map (·.use)) (Ds.map (·.dep)) = true) : (∀ j k, k ∈ (osAt Ds j).use → TW l j k) ∧ (∀ j, (osAt Ds j).use.Nodup) ∧ (∀ i j k, k ∈ (osAt Ds i).use → k ∈ (osAt Ds j).use → i = j) ∧ (∀ j k, k ∈ (osAt Ds j).dep → TW l j k) := by
  simp only [goodU, Bool.and_eq_true, List.all_eq_true] at h
  have hn : ((Ds.map (·.use)).flatten).Nodup := of_decide_eq_true h.2
  have hget : ∀ (f : OS → List Nat), f OS.nil = [] → ∀ j k, k ∈ f (osAt Ds j) → ∃ hj : j < Ds.length, k ∈ f (Ds[j]) := fun f hf j k hk => by
    unfold osAt at hk
    rcases Nat.lt_or_ge j Ds.length with hj | hj
    · rw [List.getElem?_eq_getElem hj] at hk; exact ⟨hj, hk⟩
    · rw [List.getElem?_eq_none hj] at hk; simp [hf] at hk
  rw [List.Nodup, List.pairwise_flatten] at hn
  refine ⟨fun j k hk => ?_, fun j => ?_, fun i j k hi hj => ?_, fun j k hk => ?_⟩
  · obtain ⟨hj, hk⟩ := hget (·.use) rfl j k hk
    exact twB_spec _ _ (h.1.1 ((Ds[j]).use, j) (by rw [List.mem_zipIdx_iff_getElem?]; simp [hj]) k hk)
  · unfold osAt
    rcases Nat.lt_or_ge j Ds.length with hj | hj
    · rw [List.getElem?_eq_getElem hj]
      exact hn.1 _ (List.mem_map.2 ⟨Ds[j], List.getElem_mem hj, rfl⟩)
    · rw [List.getElem?_eq_none hj]; simp [OS.nil]
  · obtain ⟨hi', hi⟩ := hget (·.use) rfl i k hi
    obtain ⟨hj', hj⟩ := hget (·.use) rfl j k hj
    have hp := hn.2
    rw [List.pairwise_iff_getElem] at hp
    rcases Nat.lt_trichotomy i j with h1 | h1 | h1
    · have := hp i j (by simpa using hi') (by simpa using hj') h1
      simp only [List.getElem_map] at this
      exact absurd rfl (this k hi k hj)
    · exact h1
    · have := hp j i (by simpa using hj') (by simpa using hi') h1
      simp only [List.getElem_map] at this
      exact absurd rfl (this k hj k hi)
  · obtain ⟨hj, hk⟩ := hget (·.dep) rfl j k hk
    exact twB_spec _ _ (h.1.2 ((Ds[j]).dep, j) (by rw [List.mem_zipIdx_iff_getElem?]; simp [hj]) k hk)
theorem wp_of_norm {o : Oper} {R : Act → World → Prop} {a : Act} {w : World} {K : Act → World → Prop} (h : wpList P ops (fun e a w => e = .normal ∧ R a w) [o] a w) (hK : ∀ a' w', R a' w' → K a' w') :
    if Region.wanted o (yielded ops a.tmps) then o.wp P a w K Q ∨ (o.asks P a w ∧ LetsOut Q) else K (a.put o.dst undef) w := by
  unfold wpList at h
  split
  · rename_i hw
    rw [if_pos hw] at h
    rcases h with h | ⟨_, a₀, w₀, hq, _⟩
    · left
      unfold Oper.wp at *
      generalize (execOp a.eval o).run P w = r at *
      cases r with
      | ok nx w' =>
        cases nx <;> simp only [Oper.upon] at h ⊢ <;>
          first
            | exact hK _ _ h.2
            | exact Calls.mono h (fun e w'' he => by
                cases e with
                | returned v => exact hK _ _ he.2
                | panicked c => exact absurd he.1 (by simp)
                | outgrown => obtain ⟨_, _, he, _⟩ := he; exact absurd he (by simp))
            | exact Rows.mono h (fun _ _ he => hK _ _ he.2)
      | halt hh w' =>
        cases hh <;> simp only [Oper.upon] at h ⊢
        exact absurd h.1 (by simp)
    · exact absurd hq (by simp)
  · rename_i hw
    rw [if_neg hw] at h
    exact hK _ _ h.2
theorem keepsG {F' G' H : List (Nat × Value)} {SS : List Nat} {N : List HA} {a' : Act} {w' : World} (h0 : St n G' w [] [] a w) (hc : Covers (F' ++ allOf n a) G') (hs' : St n (H ++ G') w SS N a' w') : ∀ t, lk H t = none → a'.tmps[t]? = a.tmps[t]? := by
  intro t ht
  rcases Nat.lt_or_ge t n with hlt | hge
  · have hcov : ∃ u, lk (F' ++ allOf n a) t = some u := by
      rw [lk_append, lk_allOf, if_pos hlt]
      cases lk F' t <;> simp
    obtain ⟨u, hu⟩ := hcov
    obtain ⟨u', hu'⟩ := hc.get t u hu
    rw [h0.agr t u' hu', hs'.agr t u' (by rw [lk_append, ht, Option.none_or]; exact hu')]
  · rw [Array.getElem?_eq_none (by rw [hs'.size]; exact hge), Array.getElem?_eq_none (by rw [h0.size]; exact hge)]
structure InvG (l : List Oper) (n : Nat) (F : List (Nat × Value)) (w0 : World) (S : List Nat) (M0 : List HA) (Ds : List OS) (listed : Array Bool) (vs : Nat → Value) (a : Act) (w : World) : Prop where
  st : St n F w0 S (M0 ++ (List.range l.length).flatMap (cont Ds (fun i => listed.getD i false) vs)) a w
  sz : listed.size = l.length
  fact : ∀ i, i < l.length → listed.getD i false = true → SlotIs l i (vs i) a ∧ (osAt Ds i).vp ((osAt Ds i).m i vs)
  closed : ∀ i, listed.getD i false = true → ∀ k, TW l i k → listed.getD k false = true
  old : ∀ j, j < l.length → listed.getD j false = false → ∀ u, (osAt Ds j).was = some u → SlotIs l j u a
theorem InvG.own {l : List Oper} {Ds : List OS} {listed : Array Bool} {vs : Nat → Value} {i : Nat} {o : Oper} (hg : goodG F l = true) (hu : goodU l (Ds.map (·.use)) (Ds.map (·.dep)) = true) (h : InvG l n F w0 S M0 Ds listed vs a w) (ho : l[i]? = some o)
    (hno : listed.getD i false = false) (hall : ∀ k, TW l i k → listed.getD k false = true) : (∀ i k, TW l i k → k < i) ∧ (i :: (osAt Ds i).use).Nodup ∧ (∀ k ∈ i :: (osAt Ds i).use, k ∈ List.range l.length) ∧
    (i :: (osAt Ds i).use).flatMap (cont Ds (fun i => listed.getD i false) vs) = ownOf (osAt Ds i) Ds vs := by
  obtain ⟨hfw, _, _⟩ := goodG_spec hg
  obtain ⟨hw, hnd, huq, hdp⟩ := goodU_spec hu
  have hil : i < l.length := (List.getElem?_eq_some_iff.1 ho).1
  have hback1 : ∀ i k, Waits l i k → k < i := by
    rintro i k ⟨o', ho', e, he, hb, rfl⟩
    exact hfw i o' ho' e he hb
  have hback : ∀ i k, TW l i k → k < i := by
    intro i k h
    induction h with
    | one h => exact hback1 _ _ h
    | more h _ ih => exact Nat.lt_trans ih (hback1 _ _ h)
  refine ⟨hback, List.nodup_cons.2 ⟨fun hi => Nat.lt_irrefl _ (hback i i (hw i i hi)), hnd i⟩, fun k hk => ?_, ?_⟩
  · rw [List.mem_range]
    rcases List.mem_cons.1 hk with rfl | hk
    · exact hil
    · exact Nat.lt_trans (hback i k (hw i k hk)) hil
  · unfold ownOf
    rw [List.flatMap_cons]
    congr 1
    · unfold cont
      rw [if_neg (by show ¬ listed.getD i false = true; rw [hno]; simp)]
    · rw [List.flatMap_def, List.flatMap_def]
      congr 1
      refine List.map_congr_left fun k hk => ?_
      have hlk := hall k (hw i k hk)
      unfold cont
      rw [if_pos hlk, if_neg]
      rintro ⟨j, hj, hkj⟩
      have := huq j i k hkj hk
      subst this
      have hj : listed.getD j false = true := hj
      rw [hno] at hj
      cases hj
theorem swap_perm {A B C : List HA} : (A ++ (B ++ C)).Perm (B ++ (A ++ C)) := by
  rw [← List.append_assoc, ← List.append_assoc]
  exact List.Perm.append_right _ List.perm_append_comm
theorem InvG.step {l : List Oper} {Ds : List OS} {listed : Array Bool} {vs : Nat → Value} {i : Nat} {o : Oper} (hg : goodG F l = true) (hu : goodU l (Ds.map (·.use)) (Ds.map (·.dep)) = true) (h : InvG l n F w0 S M0 Ds listed vs a w) (ho : l[i]? = some o)
    (hno : listed.getD i false = false) (hall : ∀ k, TW l i k → listed.getD k false = true) {a' : Act} {w' : World} (hr : RG n (F ++ allOf n a) a w o (ownOf (osAt Ds i) Ds vs) (osAt Ds i) i vs a' w') :
    ∃ vs', InvG l n F w0 S M0 Ds (listed.setIfInBounds i true) vs' a' w' := by
  obtain ⟨hback, hknd, hkr, hown⟩ := h.own hg hu ho hno hall
  obtain ⟨hfw, hbase, hdis⟩ := goodG_spec hg
  obtain ⟨hw, hnd, huq, hdp⟩ := goodU_spec hu
  obtain ⟨v, G, hs0, hcov, hs', hvp⟩ := hr
  have hk := keepsG hs0 hcov hs'
  have hil : i < l.length := (List.getElem?_eq_some_iff.1 ho).1
  have hsz : i < listed.size := by rw [h.sz]; exact hil
  have hls : ∀ k, (listed.setIfInBounds i true).getD k false = if k = i then true else listed.getD k false := fun k => by
    by_cases e : k = i
    · subst e; simp [Array.getD_eq_getD_getElem?, Array.getElem?_setIfInBounds, hsz]
    · have hne : ¬ i = k := fun e' => e e'.symm
      simp [Array.getD_eq_getD_getElem?, Array.getElem?_setIfInBounds, e, hne]
  have hdn : ∀ t, (∀ d, o.dst = some d → t ≠ d) → lk (o.dst.toList.map fun d => (d, v)) t = none := fun t ht => by
    cases hd : o.dst with
    | none => rfl
    | some d =>
      have := ht d hd
      simp only [Option.toList_some, List.map_cons, List.map_nil]
      rw [lk_cons, if_neg (fun e => this e.symm)]
      rfl
  let vs' : Nat → Value := setv vs i v
  have hvi : vs' i = v := by simp [vs', setv]
  have hvo : ∀ k, k ≠ i → vs' k = vs k := fun k hk => by
    have : (k == i) = false := beq_eq_false_iff_ne.2 hk
    simp [vs', setv, this]
  have hmo : ∀ k, k ≠ i → listed.getD k false = true → (osAt Ds k).m k vs' = (osAt Ds k).m k vs := fun k hki hlk => by
    funext j
    unfold OS.m
    cases hb : j == k || (osAt Ds k).dep.elem j with
    | false => rfl
    | true =>
      simp only [cond_true]
      refine hvo j fun e => ?_
      subst e
      rw [Bool.or_eq_true] at hb
      rcases hb with hb | hb
      · exact hki (by simpa using (eq_of_beq hb).symm)
      · have := h.closed k hlk j (hdp k j (List.elem_iff.1 hb))
        rw [hno] at this
        cases this
  have hmem := h.st.mem.perm ((List.Perm.append_left M0 ((flat_outs List.nodup_range (i :: (osAt Ds i).use) _ hknd hkr).trans (List.Perm.append_right _ (by rw [hown])))).trans swap_perm)
  have hfr := hmem.frame (Dels.app _ _) hs'.mem
  refine ⟨vs', ⟨hs'.size, hs'.dfr, fun t u hu => ?_, ?_⟩, by simp [h.sz], fun j hj hl => ?_, fun j hj k hwk => ?_, fun j hj hl u hu => ?_⟩
  · rw [hk t (hdn t fun d hd e => ?_)]
    · exact h.st.agr t u hu
    · obtain ⟨q, hq, e'⟩ := lk_mem hu
      exact hbase i o ho d hd q hq (e.symm.trans e'.symm)
  · refine hfr.perm ?_
    have hp := flat_outs List.nodup_range (i :: (osAt Ds i).use) (cont Ds (fun i_1 => (listed.setIfInBounds i true).getD i_1 false) vs') hknd hkr
    have hi : cont Ds (fun i_1 => (listed.setIfInBounds i true).getD i_1 false) vs' i = (osAt Ds i).N ((osAt Ds i).m i vs') := by
      unfold cont
      rw [if_pos ((hls i).trans (if_pos rfl)), if_neg]
      · rintro ⟨j, hj, hij⟩
        have hwj := hw j i hij
        replace hj := (hls j).symm.trans hj
        by_cases e : j = i
        · subst e
          exact Nat.lt_irrefl _ (hback j j hwj)
        · rw [if_neg e] at hj
          have := h.closed j hj i hwj
          rw [hno] at this
          cases this
    have huse : (osAt Ds i).use.flatMap (cont Ds (fun i_1 => (listed.setIfInBounds i true).getD i_1 false) vs') = [] := by
      rw [List.flatMap_eq_nil_iff]
      intro k hk
      unfold cont
      have hki : k ≠ i := fun e => by subst e; exact Nat.lt_irrefl _ (hback k k (hw k k hk))
      rw [if_pos ((hls k).trans ((if_neg hki).trans (hall k (hw i k hk)))), if_pos ⟨i, (hls i).trans (if_pos rfl), hk⟩]
    have hrest : (fun k => if k ∈ i :: (osAt Ds i).use then [] else cont Ds (fun i_1 => (listed.setIfInBounds i true).getD i_1 false) vs' k) = fun k => if k ∈ i :: (osAt Ds i).use then [] else cont Ds (fun i => listed.getD i false) vs k := by
      funext k
      by_cases hm : k ∈ i :: (osAt Ds i).use
      · rw [if_pos hm, if_pos hm]
      · rw [if_neg hm, if_neg hm]
        have hki : ¬ k = i := fun e => hm (by simp [e])
        have hku : k ∉ (osAt Ds i).use := fun e => hm (by simp [e])
        have ht : taken Ds (fun i_1 => (listed.setIfInBounds i true).getD i_1 false) k ↔ taken Ds (fun i => listed.getD i false) k := by
          constructor
          · rintro ⟨j, hj, hkj⟩
            replace hj := (hls j).symm.trans hj
            by_cases e : j = i
            · subst e; exact absurd hkj hku
            · rw [if_neg e] at hj; exact ⟨j, hj, hkj⟩
          · rintro ⟨j, hj, hkj⟩
            exact ⟨j, (hls j).trans (by split <;> simp_all), hkj⟩
        unfold cont
        simp only [hls, if_neg hki]
        by_cases hlk : listed.getD k false = true
        case neg => rw [if_neg hlk, if_neg hlk]
        rw [if_pos hlk, if_pos hlk, hmo k hki hlk]
        by_cases ht1 : taken Ds (fun i => listed.getD i false) k
        · rw [if_pos (ht.2 ht1), if_pos ht1]
        · rw [if_neg (fun h => ht1 (ht.1 h)), if_neg ht1]
    rw [List.flatMap_cons, hi, huse, List.append_nil, hrest] at hp
    exact swap_perm.trans (List.Perm.append_left M0 hp.symm)
  · by_cases e : j = i
    · subst e
      refine ⟨fun o' d h1 h2 => ?_, hvp⟩
      rw [ho] at h1
      injection h1 with h1
      subst h1
      have := hs'.agr d v (by rw [h2]; simp [lk_cons])
      rw [hvi]
      exact this
    · rw [hls, if_neg e] at hl
      obtain ⟨h1, h2⟩ := h.fact j hj hl
      refine ⟨fun o' d h3 h4 => ?_, by rw [hmo j e hl]; exact h2⟩
      rw [hk d (hdn d fun d' hd' e' => ?_)]
      · rw [hvo j e]; exact h1 o' d h3 h4
      · subst e'
        exact hdis j i o' o h3 ho e d h4 hd'
  · rw [hls] at hj ⊢
    split
    · rfl
    · by_cases e : j = i
      · subst e; exact hall k hwk
      · rw [if_neg e] at hj; exact h.closed j hj k hwk
  · rw [hls] at hl
    by_cases e : j = i
    · rw [if_pos e] at hl; cases hl
    · rw [if_neg e] at hl
      have h1 := h.old j hj hl u hu
      intro o' d h3 h4
      rw [hk d (hdn d fun d' hd' e' => ?_)]
      · exact h1 o' d h3 h4
      · subst e'
        exact hdis j i o' o h3 ho e d h4 hd'
theorem all_listedB {l : List Oper} {listed : Array Bool} (hfw : ∀ (i : Nat) (o : Oper), l[i]? = some o → ∀ e ∈ o.after, Region.binds .any e = true → e.on < i) (hsz : listed.size = l.toArray.size) (hr : Region.ready .any l.toArray listed = []) : ∀ i, i < l.length → listed.getD i false = true := by
  intro i
  induction i using Nat.strongRecOn with
  | _ i ih =>
    intro hi
    cases hb : listed.getD i false with
    | true => rfl
    | false =>
      exfalso
      have hmem : i ∈ Region.ready .any l.toArray listed := by
        rw [mem_ready]
        refine ⟨?_, l[i], by simp, fun e he hbi => ih e.on (hfw i l[i] (by simp) e he hbi) (Nat.lt_trans (hfw i l[i] (by simp) e he hbi) hi)⟩
        have : i < listed.size := by rw [hsz]; simpa using hi
        simp only [Array.getD_eq_getD_getElem?, Array.getElem?_eq_getElem this] at hb ⊢
        exact hb
      rw [hr] at hmem
      cases hmem
theorem wpAny_invG {l : List Oper} {Ds : List OS} (hg : goodG F l = true) (hu : goodU l (Ds.map (·.use)) (Ds.map (·.dep)) = true) (hst : Trips P l n F w0 S M0 Ds 0 l Ds)
    (hfin : ∀ listed vs a w, InvG l n F w0 S M0 Ds listed vs a w → (∀ i, i < l.length → listed.getD i false = true) → Q .normal a w) :
    ∀ (fuel : Nat) (listed : Array Bool) (vs : Nat → Value) (a : Act) (w : World), listed.toList.count false ≤ fuel → InvG l n F w0 S M0 Ds listed vs a w → wpAny P .any l.toArray Q fuel listed a w := by
  obtain ⟨hfw, hbase, hdis⟩ := goodG_spec hg
  have hend : ∀ (listed : Array Bool) (vs : Nat → Value) (a : Act) (w : World), InvG l n F w0 S M0 Ds listed vs a w → Region.ready .any l.toArray listed = [] → Q .normal a w := fun listed vs a w h hr =>
    hfin listed vs a w h fun i hi => all_listedB hfw (by simpa using h.sz) hr i hi
  intro fuel
  induction fuel with
  | zero =>
    intro listed vs a w hc h
    have hr : Region.ready .any l.toArray listed = [] := by
      rw [List.eq_nil_iff_forall_not_mem]
      intro j hj
      obtain ⟨h1, o, ho, _⟩ := mem_ready.1 hj
      have hlt : j < listed.size := by rw [h.sz]; simpa using (Array.getElem?_eq_some_iff.1 ho).1
      have h2 : listed[j] = false := by simpa [Array.getD_eq_getD_getElem?, Array.getElem?_eq_getElem hlt] using h1
      have h3 : false ∈ listed.toList := by rw [← h2]; simp
      have := List.count_pos_iff.2 h3
      omega
    exact ⟨hr, hend listed vs a w h hr⟩
  | succ fuel ih =>
    intro listed vs a w hc h
    refine ⟨hend listed vs a w h, fun i hi => ?_⟩
    obtain ⟨h1, o, ho, hall⟩ := mem_ready.1 hi
    have ho' : l[i]? = some o := by simpa using ho
    have hlt : i < listed.size := by rw [h.sz]; simpa using (Array.getElem?_eq_some_iff.1 ho).1
    have h2 : listed[i] = false := by simpa [Array.getD_eq_getD_getElem?, Array.getElem?_eq_getElem hlt] using h1
    have hno : listed.getD i false = false := by simp [Array.getD_eq_getD_getElem?, Array.getElem?_eq_getElem hlt, h2]
    have hall1 : ∀ k, Waits l i k → listed.getD k false = true := by
      rintro k ⟨o', ho2, e, he, hb, rfl⟩
      rw [ho'] at ho2
      injection ho2 with ho2
      subst ho2
      exact hall e he hb
    have hall' : ∀ k, TW l i k → listed.getD k false = true := by
      intro k hk
      cases hk with
      | one h1 => exact hall1 _ h1
      | more h1 h2 => exact h.closed _ (hall1 _ h1) _ h2
    obtain ⟨hback, hknd, hkr, hown⟩ := h.own hg hu ho' hno hall'
    have hmem := h.st.mem.perm ((List.Perm.append_left M0 ((flat_outs List.nodup_range (i :: (osAt Ds i).use) _ hknd hkr).trans (List.Perm.append_right _ (by rw [hown])))).trans swap_perm)
    have hil : i < l.length := by simpa using (Array.getElem?_eq_some_iff.1 ho).1
    have hnd := hmem.nd
    rw [feet_append] at hnd
    have htr := hst.get.2 i o ho'
    rw [Nat.zero_add] at htr
    have hq := htr a w (allOf n a) _ vs hmem ⟨h.st.size, h.st.dfr, h.st.full.agr, ⟨Chg.refl _ _, fun y hy => hmem.all y (by simp [hy]), (List.nodup_append.1 hnd).1, fun k hk => .inl hk⟩⟩ (fun k hwk => by
      have hlk := hall' _ hwk
      have hke : k < i := hback i _ hwk
      obtain ⟨f1, f2⟩ := h.fact k (by omega) hlk
      refine ⟨f1, f2, fun hfree y hy => ?_⟩
      have hii : ¬ TW l i i := fun h1 => Nat.lt_irrefl _ (hback i i h1)
      refine List.mem_flatMap.2 ⟨k, by rw [List.mem_range]; omega, ?_⟩
      rw [if_neg (by
        rintro hm
        rcases List.mem_cons.1 hm with hm | hm
        · omega
        · exact hii (hfree i hm))]
      unfold cont
      rw [if_pos hlk, if_neg (by
        rintro ⟨j, hlj, hj⟩
        have := h.closed j hlj i (hfree j hj)
        rw [hno] at this
        cases this)]
      exact hy) (fun j hj => by
      have hij : i < j := hback j i hj
      have hlj : listed.getD j false = false := by
        cases hb : listed.getD j false with
        | false => rfl
        | true =>
          have := h.closed j hb i hj
          rw [hno] at this
          cases this
      have hjl : j < l.length := by
        rcases hj with ⟨o', ho2, _⟩ | ⟨⟨o', ho2, _⟩, _⟩ <;> exact (List.getElem?_eq_some_iff.1 ho2).1
      refine ⟨fun y hy => ?_, fun u hu => h.old j hjl hlj u hu⟩
      refine List.mem_flatMap.2 ⟨j, by rw [List.mem_range]; exact hjl, ?_⟩
      rw [if_neg (by
        rintro hm
        rcases List.mem_cons.1 hm with hm | hm
        · omega
        · have := hback i j ((goodU_spec hu).1 i j hm)
          omega)]
      unfold cont
      rw [if_neg (by show ¬ listed.getD j false = true; rw [hlj]; simp)]
      exact hy)
    unfold wpOp
    rw [ho]
    refine wp_of_norm hq fun a' w' hn => ?_
    obtain ⟨vs', h'⟩ := h.step hg hu ho' hno hall' hn
    refine ih _ vs' a' w' ?_ h'
    have hcount : (listed.setIfInBounds i true).toList.count false + 1 = listed.toList.count false := by
      rw [Array.toList_setIfInBounds]
      have hi2 : i < listed.toList.length := by simpa using hlt
      have h3 : listed.toList[i] = false := by simpa using h2
      exact count_set listed.toList i hi2 h3
    omega
/-- What is left at the end. -/
def endP (us : List Nat) (vs : Nat → Value) : Nat → List OS → List HA
  | _, [] => []
  | i, D :: Ds => (if us.elem i then [] else D.N (D.m i vs)) ++ endP us vs (i + 1) Ds
theorem endP_eq {us : List Nat} {vs : Nat → Value} : ∀ (Ds : List OS) (i : Nat), endP us vs i Ds = (List.range' i Ds.length).flatMap fun k => if us.elem k then [] else (osAt Ds (k - i)).N ((osAt Ds (k - i)).m k vs)
  | [], i => by simp [endP]
  | D :: Ds, i => by
    simp only [endP, List.length_cons, List.range'_succ, List.flatMap_cons]
    congr 1
    · simp [osAt]
    · rw [endP_eq Ds (i + 1), List.flatMap_def, List.flatMap_def]
      congr 1
      refine List.map_congr_left fun k hk => ?_
      rw [List.mem_range'_1] at hk
      have : k - i = (k - (i + 1)) + 1 := by omega
      simp [osAt, this]
inductive DelsL : List HA → List HA → List HA → Prop
  | n {L} : DelsL L [] L
  | c {L x L1 X L2} : Del L x L1 → DelsL L1 X L2 → DelsL L (x :: X) L2
theorem Del.permL {L : List HA} {x : HA} {L' : List HA} (h : Del L x L') : L.Perm (x :: L') := by
  induction h with
  | z => exact List.Perm.refl _
  | @s u r x r' _ ih => exact (List.Perm.cons u ih).trans (List.Perm.swap x u r')
theorem DelsL.permL {L X L' : List HA} (h : DelsL L X L') : L.Perm (X ++ L') := by
  induction h with
  | n => exact List.Perm.refl _
  | c h _ ih => exact h.permL.trans (List.Perm.cons _ ih)
inductive WasL (F1 : List (Nat × Value)) : List Oper → List OS → Prop
  | n : WasL F1 [] []
  | z {o r D ds} : D.was = none → WasL F1 r ds → WasL F1 (o :: r) (D :: ds)
  | s {o r D ds d u} : o.dst = some d → D.was = some u → lk F1 d = some u → WasL F1 r ds → WasL F1 (o :: r) (D :: ds)
theorem WasL.get {F1 : List (Nat × Value)} {l : List Oper} {Ds : List OS} (h : WasL F1 l Ds) {M1 : List HA} (hs : St n F1 w0 S M1 a w) : ∀ j, j < l.length → ∀ u, (osAt Ds j).was = some u → SlotIs l j u a := by
  induction h with
  | n => intro j hj; simp at hj
  | @z o r D ds h1 _ ih =>
    intro j hj u hu
    cases j with
    | zero => rw [show osAt (D :: ds) 0 = D from rfl, h1] at hu; cases hu
    | succ j =>
      intro o' d h3 h4
      exact ih j (by simpa using hj) u hu o' d (by simpa using h3) h4
  | @s o r D ds d u' h1 h2 h3 _ ih =>
    intro j hj u hu
    cases j with
    | zero =>
      rw [show osAt (D :: ds) 0 = D from rfl, h2] at hu
      injection hu with hu
      subst hu
      intro o' d' h4 h5
      have h4' : o = o' := by simpa using h4
      subst h4'
      rw [h1] at h5
      injection h5 with h5
      subst h5
      exact hs.agr _ _ h3
    | succ j =>
      intro o' d' h4 h5
      exact ih j (by simpa using hj) u hu o' d' (by simpa using h4) h5
theorem wp_drawGw {id : Nat} {Ds : List OS} {l : List Oper} {X : List HA} (hm : P.follows .mixedOrders = true) (hs : St n F w0 S M a w) (hX : Ds.flatMap (·.X) = X) (hd : DelsL M X M0) (hg : goodG F l = true) (hu : goodU l (Ds.map (·.use)) (Ds.map (·.dep)) = true) (hst : Trips P l n F w0 S M0 Ds 0 l Ds)
    (hwas : ∀ j, j < l.length → ∀ u, (osAt Ds j).was = some u → SlotIs l j u a)
    (hfin : ∀ a w vs, St n F w0 S (M0 ++ endP (Ds.flatMap (·.use)) vs 0 Ds) a w → (∀ i, i < l.length → SlotIs l i (vs i) a ∧ (osAt Ds i).vp ((osAt Ds i).m i vs)) → Q .normal a w) : (Code.region id l.toArray true).wp P Q a w := by
  have hlen : l.length = Ds.length := hst.get.1
  refine wp_region_any hm (wpAny_invG (Ds := Ds) hg hu hst ?_ _ _ (fun _ => undef) _ _ (by simp) ⟨?_, by simp, ?_, ?_, fun j hj _ u hu => hwas j hj u hu⟩)
  · intro listed vs a w h hall
    have hst := h.st
    refine hfin a w vs ?_ fun i hi => h.fact i hi (hall i hi)
    have e : (List.range l.length).flatMap (cont Ds (fun i => listed.getD i false) vs) = endP (Ds.flatMap (·.use)) vs 0 Ds := by
      rw [endP_eq, ← hlen, List.range_eq_range', List.flatMap_def, List.flatMap_def]
      congr 1
      refine List.map_congr_left fun k hk => ?_
      rw [List.mem_range'_1] at hk
      unfold cont
      rw [if_pos (hall k (by omega)), Nat.sub_zero]
      have ht : taken Ds (fun i => listed.getD i false) k ↔ (Ds.flatMap (·.use)).elem k = true := by
        rw [List.elem_iff, List.mem_flatMap]
        constructor
        · rintro ⟨j, hj, hkj⟩
          unfold osAt at hkj
          rcases Nat.lt_or_ge j Ds.length with hj | hj
          · rw [List.getElem?_eq_getElem hj] at hkj; exact ⟨Ds[j], List.getElem_mem hj, hkj⟩
          · rw [List.getElem?_eq_none hj] at hkj; simp [OS.nil] at hkj
        · rintro ⟨D, hD, hkD⟩
          obtain ⟨j, hj, rfl⟩ := List.mem_iff_getElem.1 hD
          exact ⟨j, hall j (by omega), by unfold osAt; rw [List.getElem?_eq_getElem hj]; exact hkD⟩
      by_cases h1 : taken Ds (fun i => listed.getD i false) k
      · rw [if_pos h1, if_pos (ht.1 h1)]
      · rw [if_neg h1, if_neg (fun h => h1 (ht.2 h))]
    rw [← e]
    exact hst
  · have h1 := hs.frame (Dels.n (M := M)) (mem_drew w (w.drawn + 1))
    simp only [List.nil_append] at h1
    refine ⟨h1.size, h1.dfr, h1.agr, h1.mem.perm (hd.permL.trans (List.perm_append_comm.trans (List.Perm.append_left M0 ?_)))⟩
    have e : (List.range l.length).flatMap (cont Ds (fun i => (Array.replicate l.toArray.size false).getD i false) fun _ => undef) = Ds.flatMap (·.X) := by
      have hc : (cont Ds (fun i => (Array.replicate l.toArray.size false).getD i false) fun _ => undef) = fun i => (osAt Ds i).X := by
        funext i
        unfold cont
        rw [if_neg]
        simp [Array.getD_eq_getD_getElem?, Array.getElem?_replicate]
        split <;> simp
      rw [hc, hlen]
      clear hc hst hg hu hfin hX hlen hwas
      induction Ds with
      | nil => rfl
      | cons D Ds ih =>
        rw [List.length_cons, List.range_succ_eq_map, List.flatMap_cons, List.flatMap_cons, List.flatMap_map]
        congr 1
    rw [e, hX]
  · intro i hi hl
    simp [Array.getD_eq_getD_getElem?, Array.getElem?_replicate] at hl
    split at hl <;> simp at hl
  · intro i hl
    simp [Array.getD_eq_getD_getElem?, Array.getElem?_replicate] at hl
    split at hl <;> simp at hl
/-- The block that a pointer, or a slice, is of. -/
theorem wp_drawG {id : Nat} {Ds : List OS} {l : List Oper} {X : List HA} (hm : P.follows .mixedOrders = true) (hs : St n F w0 S M a w) (hX : Ds.flatMap (·.X) = X) (hd : DelsL M X M0) (hg : goodG F l = true) (hu : goodU l (Ds.map (·.use)) (Ds.map (·.dep)) = true) (hn : (Ds.all fun D => D.was.isNone) = true) (hst : Trips P l n F w0 S M0 Ds 0 l Ds)
    (hfin : ∀ a w vs, St n F w0 S (M0 ++ endP (Ds.flatMap (·.use)) vs 0 Ds) a w → (∀ i, i < l.length → SlotIs l i (vs i) a ∧ (osAt Ds i).vp ((osAt Ds i).m i vs)) → Q .normal a w) : (Code.region id l.toArray true).wp P Q a w :=
  wp_drawGw hm hs hX hd hg hu hst (fun j hj u hu => by
    exfalso
    rw [List.all_eq_true] at hn
    unfold osAt at hu
    rcases Nat.lt_or_ge j Ds.length with h | h
    · rw [List.getElem?_eq_getElem h] at hu
      have := hn _ (List.getElem_mem h)
      rw [show (Ds[j]).was = some u from hu] at this
      cases this
    · rw [List.getElem?_eq_none h] at hu
      simp [OS.nil] at hu) hfin
def ptrG : Value → Nat
  | .pointer (some a) => a.block
  | .slice (some a) _ _ => a.block
  | _ => 0
theorem Mem.mid {A B C : List HA} (h : Mem w0 S (A ++ (B ++ C)) w) : Mem w0 S B w := by
  have h1 : Mem w0 S (A ++ (C ++ B)) w := h.perm (List.Perm.append_left A List.perm_append_comm)
  have h2 : Mem w0 S ((A ++ C) ++ B) w := by rw [List.append_assoc]; exact h1
  exact h2.drop (Dels.app _ _)
theorem Mem.own {A B : List HA} (h : Mem w0 S (A ++ B) w) {y : HA} (hy : y ∈ B) : y.p w := h.all y (by simp [hy])
theorem St.bare {G : List (Nat × Value)} {SS : List Nat} {N : List HA} (h : St n G w SS N a w) : St n G w [] [] a w := ⟨h.size, h.dfr, h.agr, Mem.nil w⟩
theorem Mem.midrow {A B B' C : List HA} {v : Value} {e size m : Nat} {xs : List Value} (h : Mem w0 S (A ++ (B ++ C)) w) (d : Del B (row v e size m xs) B') : Rd w (feet A) v size m xs := by
  have hp : (A ++ (B ++ C)).Perm (row v e size m xs :: (A ++ (B' ++ C))) := by
    refine (List.Perm.append_left A (List.Perm.append_right C d.permL)).trans ?_
    simp only [List.cons_append]
    exact List.perm_middle
  exact (h.perm hp).rdrow .z (Dels.app _ _)
theorem Told.val {l : List Oper} {Ds : List OS} {rest : List HA} {vs : Nat → Value} {i k : Nat} {d : Nat} (h : Told l Ds rest vs i k a) (hd : (l[k]?).bind (·.dst) = some d) : a.tmps[d]? = some (vs k) := by
  cases ho : l[k]? with
  | none => rw [ho] at hd; cases hd
  | some o => rw [ho] at hd; exact h.1 o d ho hd
theorem SlotIs.val {l : List Oper} {k : Nat} {d : Nat} {v : Value} (h : SlotIs l k v a) (hd : (l[k]?).bind (·.dst) = some d) : a.tmps[d]? = some v := by
  cases ho : l[k]? with
  | none => rw [ho] at hd; cases hd
  | some o => rw [ho] at hd; exact h o d ho hd
theorem St.reorder {M X : List HA} (hs : St n F w0 S M a w) (d : DelsL M X []) : St n F w0 S X a w := hs.memTo (by
  have := hs.mem.perm d.permL
  rwa [List.append_nil] at this)
end Go.Sx
