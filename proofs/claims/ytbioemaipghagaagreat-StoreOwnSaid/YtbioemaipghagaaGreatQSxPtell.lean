/- Stores: snapshots that rise, told each by the one ahead, or by none. Plain mathematics. -/
import Derived.Test.YtbioemaipghagaaGreatQSxPsto
set_option linter.unusedVariables false
set_option linter.unusedSimpArgs false
namespace Go.Sx
/-- A store that was told of K, one behind the other. -/
structure Tells (most : Nat) (σ : Stt) (K : List SnapR) : Prop where
  l : σ.l = K.drop (K.length - most)
  ut : K.Pairwise fun x y => x.t < y.t
  um : K.Pairwise fun x y => x.tm < y.tm
  ok : Oks σ.l most
  fl : σ.gone = true → ∃ y ∈ K, σ.floor = y.t
  num : σ.n 0 = K.length
theorem Tells.start {most : Nat} (h : 1 ≤ most ∧ most ≤ 64) : Tells most stt0 [] := ⟨by simp [stt0], List.Pairwise.nil, List.Pairwise.nil, oks_0 h, fun hh => (by cases hh), rfl⟩
theorem Tells.mem {most : Nat} {σ : Stt} {K : List SnapR} (h : Tells most σ K) {y : SnapR} (hy : y ∈ σ.l) : y ∈ K := by
  rw [h.l] at hy; exact List.mem_of_mem_drop hy
theorem Tells.len {most : Nat} {σ : Stt} {K : List SnapR} (h : Tells most σ K) : σ.l.length = min K.length most := by
  have := congrArg List.length h.l
  rw [List.length_drop] at this
  omega
theorem kpos_all {l : List SnapR} {k : Int} (h : ∀ y ∈ l, y.t < k) : kpos l k = l.length := by
  unfold kpos
  exact List.countP_eq_length.2 fun y hy => by simpa using h y hy
theorem khas_none {l : List SnapR} {k : Int} (h : ∀ y ∈ l, y.t < k) : khas l k = false := by
  rw [Bool.eq_false_iff]
  intro hc
  obtain ⟨y, hy, e⟩ := khas_mem.1 hc
  have := h y hy; omega
/-- What is told behind all that is kept is accepted. -/
theorem Tells.next {most : Nat} {σ : Stt} {K : List SnapR} {x : SnapR} {G : GramD} (h : Tells most σ K) (hx : ∀ y ∈ K, y.t < x.t ∧ y.tm < x.tm) (h0 : G.e = 0) (ht : G.t = x.t) (hb : bad14 σ.l G.b = false) (ha : accAE σ.l G = 0) (hA : accA σ.l G = x)
    (hr : 0 ≤ x.t ∧ x.t ≤ 4294967295 ∧ -9223372036854775808 ≤ x.tm ∧ x.tm ≤ 9223372036854775807 ∧ x.l.length ≤ 64) :
    accE σ.l most σ.floor σ.gone G = 0 ∧ accT σ.l most σ.floor σ.gone G = x.t ∧ Tells most (accS most σ G) (K ++ [x]) := by
  have hl : ∀ y ∈ σ.l, y.t < x.t := fun y hy => (hx y (h.mem hy)).1
  have hk := khas_none hl
  have hp := kpos_all hl
  have hm1 := h.ok.m1
  have hn := h.len
  have hs : stl σ.l most σ.floor σ.gone G.t = false := by
    rw [Bool.eq_false_iff]
    intro hc
    unfold stl at hc
    rw [ht, kuntil_no hk, hp] at hc
    simp only [Bool.or_eq_true, Bool.and_eq_true, decide_eq_true_eq] at hc
    rcases hc with ⟨hg, hf⟩ | ⟨h1, h2⟩
    · obtain ⟨y, hy, e⟩ := h.fl hg
      have := (hx y hy).1; omega
    · omega
  have htm : tml σ.l (accA σ.l G).t (accA σ.l G).tm = true := by
    rw [hA]
    refine (tml_doc hk).2 ⟨fun h1 => ?_, fun h1 => ?_⟩
    · rw [hp] at h1 ⊢
      have hi : σ.l.length - 1 < σ.l.length := by omega
      rw [List.getD_eq_getElem?_getD, List.getElem?_eq_getElem hi]
      exact (hx _ (h.mem (List.getElem_mem hi))).2
    · rw [hp] at h1; omega
  have hkG : khas σ.l G.t = false := by rw [ht]; exact hk
  have hE1 : accE1 σ.l most σ.floor σ.gone G = 0 := by
    unfold accE1
    rw [refu_f hb, refu_f hs, refu_f hkG, h0]
  have hE : accE σ.l most σ.floor σ.gone G = 0 := by
    rw [accE_3 h0 hE1, refu_f (by rw [htm]; rfl), ha]
  have hK : kins σ.l (kpos σ.l x.t) x = σ.l ++ [x] := by rw [hp]; simp [kins]
  have hS : accS most σ G = ⟨slayL σ.l most x, slayF σ.l most σ.floor x, slayG σ.l most σ.gone x, bump σ.n 0⟩ := by
    have := (acc_ok (σ := σ) hE).2.2.2.2.2
    rw [hA] at this
    exact this
  refine ⟨hE, by unfold accT; rw [if_pos hE, hA], ?_⟩
  have hok : Oks (slayL σ.l most x) most := oks_lay h.ok hk hr
  refine ⟨?_, ?_, ?_, by rw [hS]; exact hok, ?_, ?_⟩
  · rw [hS]
    show slayL σ.l most x = _
    unfold slayL
    rw [hK, List.length_append, List.length_append, List.length_singleton]
    by_cases hc : σ.l.length + 1 ≤ most
    · rw [if_pos hc, h.l, show K.length - most = 0 by omega, show K.length + 1 - most = 0 by omega]; simp
    · rw [if_neg hc, h.l, show K.drop (K.length - most) ++ [x] = (K ++ [x]).drop (K.length - most) from (List.drop_append_of_le_length (by omega)).symm, List.drop_drop, show K.length - most + 1 = K.length + 1 - most by omega]
  · refine List.pairwise_append.2 ⟨h.ut, List.pairwise_singleton _ _, fun a ha b hb => ?_⟩
    rw [List.mem_singleton.1 hb]; exact (hx a ha).1
  · refine List.pairwise_append.2 ⟨h.um, List.pairwise_singleton _ _, fun a ha b hb => ?_⟩
    rw [List.mem_singleton.1 hb]; exact (hx a ha).2
  · rw [hS]
    show slayG σ.l most σ.gone x = true → ∃ y ∈ K ++ [x], slayF σ.l most σ.floor x = y.t
    rcases slay_cases (fl := σ.floor) (gone := σ.gone) h.ok hk (by rw [hp]; omega) with ⟨_, _, e2, e3⟩ | ⟨_, y, r, e0, _, _, e2, _⟩
    · rw [e2, e3]
      intro hg
      obtain ⟨y, hy, e⟩ := h.fl hg
      exact ⟨y, by simp [hy], e⟩
    · intro _
      exact ⟨y, List.mem_append.2 (.inl (h.mem (by rw [e0]; simp))), e2⟩
  · rw [hS]
    show bump σ.n 0 0 = _
    unfold bump
    rw [if_pos rfl, h.num, List.length_append]; rfl
/-- A store of one. -/
theorem one_get {l : List SnapR} {x : SnapR} {t : Int} (h : l = [x]) (ht : x.t = t) : sget l t = x ∧ khas l t = true ∧ sat l 0 = x ∧ ratE l 0 = 0 := by
  subst h; subst ht
  have h1 : khas [x] x.t = true := by simp [khas]
  exact ⟨by unfold sget; rw [if_pos h1]; simp [kpos], h1, by simp [sat], by simp [ratE]⟩
/-- Told by none. -/
theorem Tells.full {most : Nat} {σ : Stt} {K : List SnapR} {x : SnapR} (h : Tells most σ K) (hx : ∀ y ∈ K, y.t < x.t ∧ y.tm < x.tm) (hf : fErr x.t x.tm x.l = 0) (hw : ∀ e ∈ x.l, e.wf) (hg : gwErr (fG x.t x.tm x.l).t (fG x.t x.tm x.l).tm (fG x.t x.tm x.l).b (fG x.t x.tm x.l).l = 0) :
    let B := gwB (fG x.t x.tm x.l).t (fG x.t x.tm x.l).tm (fG x.t x.tm x.l).b (fG x.t x.tm x.l).l
    accE σ.l most σ.floor σ.gone (gRead B) = 0 ∧ accT σ.l most σ.floor σ.gone (gRead B) = x.t ∧ Tells most (accS most σ (gRead B)) (K ++ [x]) := by
  dsimp only
  obtain ⟨hs, _, _⟩ := full_two hf hw
  have hp := snapErr_parts hs
  have hG : gRead (gwB (fG x.t x.tm x.l).t (fG x.t x.tm x.l).tm (fG x.t x.tm x.l).b (fG x.t x.tm x.l).l) = ⟨x.t, x.tm, -1, (fG x.t x.tm x.l).l, 0⟩ := by
    rw [gread_forth (fG_wf hw) hg, fG_0 hf]
  have hfa : ∀ (a b : Int) (c : List EntR), aE a b c x.t x.tm (-1) (fG x.t x.tm x.l).l = 0 ∧ aS a b c x.t x.tm (-1) (fG x.t x.tm x.l).l = ⟨x.t, x.tm, x.l⟩ := fun a b c => by
    have := full_apply (at_ := a) (atm := b) (a := c) hf hw
    rw [fG_0 hf] at this ⊢
    exact this
  rw [hG]
  refine h.next hx rfl rfl ?_ ?_ ?_ ⟨hp.1, hp.2.1, by omega, by omega, hp.2.2.2.2.1⟩
  · unfold bad14; simp
  · exact (hfa _ _ _).1
  · exact (hfa _ _ _).2
end Go.Sx
