/- Stores: the example; what is refused changes a count alone; order. Plain mathematics. -/
import Derived.Test.YtbioemaipghagaaGreatQSxStos
import Derived.Test.YtbioemaipghagaaGreatQSxGrams
set_option linter.unusedVariables false
set_option linter.unusedSimpArgs false
namespace Go.Sx
theorem rnone_wf : ∀ x ∈ ([] : List RecR), x.wf := by simp
theorem al_g1 : gRead (gwB 1 10 (-1) []) = ⟨1, 10, -1, [], 0⟩ := gread_forth rnone_wf (by decide +kernel)
theorem al_g2 : gRead (gwB 3 30 1 []) = ⟨3, 30, 1, [], 0⟩ := gread_forth rnone_wf (by decide +kernel)
theorem al_g3 : gRead (gwB 2 20 1 []) = ⟨2, 20, 1, [], 0⟩ := gread_forth rnone_wf (by decide +kernel)
def als1 : Stt := accS 4 stt0 (gRead (gwB 1 10 (-1) []))
def als2 : Stt := accS 4 als1 (gRead (gwB 3 30 1 []))
def als3 : Stt := accS 4 als2 (gRead (gwB 2 20 1 []))
def als4 : Stt := accS 4 als3 (gRead (gwB 3 30 1 []))
theorem al_1 : accE stt0.l 4 stt0.floor stt0.gone (gRead (gwB 1 10 (-1) [])) = 0 ∧ accT stt0.l 4 stt0.floor stt0.gone (gRead (gwB 1 10 (-1) [])) = 1 := by
 rw [al_g1]; decide +kernel
theorem al_2 : accE als1.l 4 als1.floor als1.gone (gRead (gwB 3 30 1 [])) = 0 ∧ accT als1.l 4 als1.floor als1.gone (gRead (gwB 3 30 1 [])) = 3 := by
 unfold als1; rw [al_g1, al_g2]; decide +kernel
theorem al_3 : accE als2.l 4 als2.floor als2.gone (gRead (gwB 2 20 1 [])) = 0 ∧ accT als2.l 4 als2.floor als2.gone (gRead (gwB 2 20 1 [])) = 2 := by
 unfold als2 als1; rw [al_g1, al_g2, al_g3]; decide +kernel
theorem al_4 : accE als3.l 4 als3.floor als3.gone (gRead (gwB 3 30 1 [])) = 12 := by
 unfold als3 als2 als1; rw [al_g1, al_g2, al_g3]; decide +kernel
theorem al_5 : ratE als4.l 1 = 0 ∧ (sat als4.l 1).t = 2 ∧ als4.l.length = 3 ∧ als4.n 0 = 3 ∧ nref als4.n 12 = 1 := by
 unfold als4 als3 als2 als1; rw [al_g1, al_g2, al_g3]; decide +kernel
/-! ### What a store keeps to, told more closely -/
def held (σ : Stt) (t : Int) : Prop := khas σ.l t = true ∨ (σ.gone = true ∧ t ≤ σ.floor)
def above (σ : Stt) : Prop := σ.gone = true → ∀ x ∈ σ.l, σ.floor < x.t
theorem khas_mem {l : List SnapR} {k : Int} : khas l k = true ↔ ∃ x ∈ l, x.t = k := by
 unfold khas
 rw [List.any_eq_true]
 constructor
 · rintro ⟨x, h, e⟩; exact ⟨x, h, by simpa using e⟩
 · rintro ⟨x, h, e⟩; exact ⟨x, h, by simpa using e⟩
theorem mem_kins {α : Type} {l : List α} {i : Nat} {x y : α} : y ∈ kins l i x ↔ y = x ∨ y ∈ l := by
 constructor
 · exact kins_mem
 · unfold kins
   rintro (rfl | h)
   · simp
   · rw [← List.take_append_drop i l] at h
     simp only [List.mem_append, List.mem_cons] at h ⊢
     rcases h with h | h <;> simp [h]
theorem slay_cases {l : List SnapR} {most : Nat} {fl : Int} {gone : Bool} {x : SnapR} (ho : Oks l most) (hk : khas l x.t = false) (hz : ¬ (kpos l x.t = 0 ∧ l.length = most)) :
   (l.length < most ∧ slayL l most x = kins l (kpos l x.t) x ∧ slayF l most fl x = fl ∧ slayG l most gone x = gone) ∨
   (l.length = most ∧ ∃ y r, l = y :: r ∧ y.t < x.t ∧ kins l (kpos l x.t) x = y :: slayL l most x ∧ slayF l most fl x = y.t ∧ slayG l most gone x = true) := by
 have hl := kins_len l x (kpos_le l x.t)
 have hle := ho.le
 unfold slayL slayF slayG
 by_cases h : (kins l (kpos l x.t) x).length ≤ most
 · left
   rw [if_pos h, if_pos h, if_pos h]
   exact ⟨by omega, rfl, rfl, rfl⟩
 · right
   rw [if_neg h, if_neg h, if_neg h]
   have hlm : l.length = most := by omega
   have hp : 0 < kpos l x.t := by
     rcases Nat.eq_zero_or_pos (kpos l x.t) with h0 | h0
     · exact absurd ⟨h0, hlm⟩ hz
     · exact h0
   cases l with
   | nil => simp [kpos] at hp
   | cons y r =>
     have hy := kpos_lt ho.srt hp
     have hy : y.t < x.t := by simpa using hy
     have e : kins (y :: r) (kpos (y :: r) x.t) x = y :: (kins (y :: r) (kpos (y :: r) x.t) x).drop 1 := by
       obtain ⟨p, hpe⟩ : ∃ p, kpos (y :: r) x.t = p + 1 := ⟨kpos (y :: r) x.t - 1, by omega⟩
       rw [hpe]
       simp [kins]
     refine ⟨hlm, y, r, rfl, hy, e, ?_, rfl⟩
     rw [e]; rfl
theorem acc_ok {σ : Stt} {most : Nat} {G : GramD} (h : accE σ.l most σ.floor σ.gone G = 0) : khas σ.l (accA σ.l G).t = false ∧ ¬ (kpos σ.l (accA σ.l G).t = 0 ∧ σ.l.length = most) ∧ ¬ (σ.gone = true ∧ (accA σ.l G).t ≤ σ.floor) ∧ (accA σ.l G).t = G.t ∧ (accA σ.l G).tm = G.tm ∧ accS most σ G = ⟨slayL σ.l most (accA σ.l G), slayF σ.l most σ.floor (accA σ.l G), slayG σ.l most σ.gone (accA σ.l G), bump σ.n 0⟩ := by
 obtain ⟨_, h2, h3, _, h5, _⟩ := accE_0 h
 have h7 := accA_t h5
 refine ⟨by rw [h7.1]; exact h2, fun hc => ?_, fun hc => ?_, h7.1, h7.2, if_pos h⟩
 · rw [h7.1] at hc
   unfold stl at h3
   rw [kuntil_no' h2, hc.1, hc.2] at h3
   simp at h3
 · rw [h7.1] at hc
   unfold stl at h3
   rw [hc.1] at h3
   simp [hc.2] at h3
where kuntil_no' {l : List SnapR} {k : Int} (h : khas l k = false) : kuntil l k = kpos l k := by unfold kuntil; rw [h]; rfl
theorem acc_no {σ : Stt} {most : Nat} {G : GramD} (h : accE σ.l most σ.floor σ.gone G ≠ 0) : accS most σ G = ⟨σ.l, σ.floor, σ.gone, bump σ.n (accE σ.l most σ.floor σ.gone G)⟩ := if_neg h
theorem above_acc {σ : Stt} {most : Nat} {G : GramD} (ho : Oks σ.l most) (ha : above σ) : above (accS most σ G) := by
 by_cases h : accE σ.l most σ.floor σ.gone G = 0
 · obtain ⟨h1, h2, h3, _, _, h4⟩ := acc_ok h
   rw [h4]
   rcases slay_cases (fl := σ.floor) (gone := σ.gone) ho h1 h2 with ⟨_, e1, e2, e3⟩ | ⟨_, y, r, e0, hy, e1, e2, e3⟩
   · unfold above
     rw [e1, e2, e3]
     intro hg x hx
     rcases mem_kins.1 hx with rfl | hx
     · dsimp only at hg ⊢; have : ¬ _ := fun hc => h3 ⟨hg, hc⟩; omega
     · exact ha hg x hx
   · unfold above
     dsimp only
     rw [e2]
     intro _ x hx
     have hs := srt_kins (x := accA σ.l G) ho.srt h1
     rw [e1] at hs
     exact (List.pairwise_cons.1 hs).1 x hx
 · rw [acc_no h]; exact ha
theorem held_acc {σ : Stt} {most : Nat} {G : GramD} {t : Int} (ho : Oks σ.l most) (ha : above σ) (hh : held σ t) : held (accS most σ G) t := by
 by_cases h : accE σ.l most σ.floor σ.gone G = 0
 · obtain ⟨h1, h2, h3, _, _, h4⟩ := acc_ok h
   rw [h4]
   rcases slay_cases (fl := σ.floor) (gone := σ.gone) ho h1 h2 with ⟨_, e1, e2, e3⟩ | ⟨_, y, r, e0, hy, e1, e2, e3⟩
   · unfold held
     dsimp only
     rw [e1, e2, e3]
     rcases hh with hh | hh
     · left
       obtain ⟨x, hx, he⟩ := khas_mem.1 hh
       exact khas_mem.2 ⟨x, mem_kins.2 (.inr hx), he⟩
     · exact .inr hh
   · unfold held
     dsimp only
     rw [e2, e3]
     rcases hh with hh | hh
     · obtain ⟨x, hx, he⟩ := khas_mem.1 hh
       have hm : x ∈ kins σ.l (kpos σ.l (accA σ.l G).t) (accA σ.l G) := mem_kins.2 (.inr hx)
       rw [e1] at hm
       rcases List.mem_cons.1 hm with rfl | hm
       · right; exact ⟨rfl, by omega⟩
       · left; exact khas_mem.2 ⟨x, hm, he⟩
     · right
       have := ha hh.1 y (by rw [e0]; simp)
       exact ⟨rfl, by omega⟩
 · rw [acc_no h]; exact hh
theorem has_acc {σ : Stt} {most : Nat} {G : GramD} (ho : Oks σ.l most) (h : accE σ.l most σ.floor σ.gone G = 0) : khas (accS most σ G).l G.t = true := by
 obtain ⟨h1, h2, h3, h5, _, h4⟩ := acc_ok h
 rw [h4, ← h5]
 dsimp only
 rcases slay_cases (fl := σ.floor) (gone := σ.gone) ho h1 h2 with ⟨_, e1, e2, e3⟩ | ⟨_, y, r, e0, hy, e1, e2, e3⟩
 · rw [e1]; exact khas_mem.2 ⟨_, mem_kins.2 (.inl rfl), rfl⟩
 · have hm : accA σ.l G ∈ kins σ.l (kpos σ.l (accA σ.l G).t) (accA σ.l G) := mem_kins.2 (.inl rfl)
   rw [e1] at hm
   rcases List.mem_cons.1 hm with he | hm
   · rw [← he] at hy; omega
   · exact khas_mem.2 ⟨_, hm, rfl⟩
theorem acc_dup' {l : List SnapR} {most : Nat} {fl : Int} {gone : Bool} {G : GramD} (h : G.e = 0) (hk : khas l G.t = true) : accE l most fl gone G = 12 := by
 have e : accE1 l most fl gone G = 12 := by
   unfold accE1
   rw [refu_t h hk, refu_n (e := 12) (by decide), refu_n (e := 12) (by decide)]
 rw [accE_2 h (by omega), e]
theorem acc_old {σ : Stt} {most : Nat} {G : GramD} (h : G.e = 0) (hk : khas σ.l G.t = false) (hh : held σ G.t) : accE σ.l most σ.floor σ.gone G = 13 := by
 have hs : stl σ.l most σ.floor σ.gone G.t = true := by
   rcases hh with hh | ⟨h1, h2⟩
   · rw [hk] at hh; cases hh
   · unfold stl; rw [h1]; simp [h2]
 have e : accE1 σ.l most σ.floor σ.gone G = 13 := by
   unfold accE1
   rw [refu_f hk, refu_t h hs, refu_n (e := 13) (by decide)]
 rw [accE_2 h (by omega), e]
structure Twice (most : Nat) (σ : Stt) (K : List (List Byte)) : Prop where
 ok : Oks σ.l most
 ab : above σ
 got : ∀ b ∈ K, (gRead b).e = 0 ∧ held σ (gRead b).t
 num : σ.n 0 = K.length
theorem Twice.start {most : Nat} (h : 1 ≤ most ∧ most ≤ 64) : Twice most stt0 [] := ⟨oks_0 h, fun hh => (by cases hh), by simp, rfl⟩
theorem Twice.no {most : Nat} {σ : Stt} {K : List (List Byte)} {b : List Byte} (h : Twice most σ K) (he : accE σ.l most σ.floor σ.gone (gRead b) ≠ 0) : Twice most (accS most σ (gRead b)) K := by
 refine ⟨oks_acc h.ok, above_acc h.ok h.ab, fun c hc => ⟨(h.got c hc).1, held_acc h.ok h.ab (h.got c hc).2⟩, ?_⟩
 rw [acc_no he]
 show bump σ.n _ 0 = _
 unfold bump
 rw [if_neg (fun e => he e.symm), h.num]
theorem Twice.yes {most : Nat} {σ : Stt} {K : List (List Byte)} {b : List Byte} (h : Twice most σ K) (he : accE σ.l most σ.floor σ.gone (gRead b) = 0) :
   accE (accS most σ (gRead b)).l most (accS most σ (gRead b)).floor (accS most σ (gRead b)).gone (gRead b) = 12 ∧ Twice most (accS most (accS most σ (gRead b)) (gRead b)) (K ++ [b]) := by
 have h0 := (accE_0 he).1
 have hh := has_acc h.ok he
 have hd := acc_dup' (most := most) (fl := (accS most σ (gRead b)).floor) (gone := (accS most σ (gRead b)).gone) h0 hh
 have hok := oks_acc (bs := b) h.ok
 have hab := above_acc (G := gRead b) h.ok h.ab
 refine ⟨hd, oks_acc hok, above_acc hok hab, fun c hc => ?_, ?_⟩
 · rcases List.mem_append.1 hc with hc | hc
   · exact ⟨(h.got c hc).1, held_acc hok hab (held_acc h.ok h.ab (h.got c hc).2)⟩
   · rw [List.mem_singleton.1 hc]
     exact ⟨h0, held_acc hok hab (.inl hh)⟩
 · rw [acc_no (by rw [hd]; decide)]
   show bump (accS most σ (gRead b)).n _ 0 = _
   rw [hd]
   unfold bump
   rw [if_neg (by decide), (acc_ok he).2.2.2.2.2]
   show bump σ.n 0 0 = _
   unfold bump
   rw [if_pos rfl, h.num, List.length_append]; rfl
theorem Twice.again {most : Nat} {σ : Stt} {K : List (List Byte)} {b : List Byte} (h : Twice most σ K) (hb : b ∈ K) : (gRead b).e = 0 ∧ accE σ.l most σ.floor σ.gone (gRead b) = (if khas σ.l (gRead b).t = true then 12 else 13) ∧ Twice most (accS most σ (gRead b)) K := by
 obtain ⟨h1, h2⟩ := h.got b hb
 have e : accE σ.l most σ.floor σ.gone (gRead b) = (if khas σ.l (gRead b).t = true then 12 else 13) := by
   split
   · next hk => exact acc_dup' h1 hk
   · next hk => exact acc_old h1 (by simpa using hk) h2
 exact ⟨h1, e, h.no (by rw [e]; split <;> decide)⟩
/-! ### Order -/
theorem apl_ids : ∀ (n : Nat) (was : List EntR) (rl : List RecR), was.length + rl.length ≤ n → (∀ r ∈ rl, recChk r = 0) → ∀ l, apl was rl = some l → ∀ x ∈ l, (∃ y ∈ was, y.id = x.id) ∨ (∃ r ∈ rl, r.id = x.id)
 | _, was, [], _, _, l, h, x, hx => by
   unfold apl at h
   injection h with h
   subst h
   exact .inl ⟨x, hx, rfl⟩
 | 0, was, r :: rl, hn, _, _, _, _, _ => by simp at hn
 | n + 1, [], r :: rl, hn, hc, l, h, x, hx => by
   unfold apl at h
   split at h
   · obtain ⟨l', h1, rfl⟩ := Option.map_eq_some_iff.1 h
     rcases List.mem_cons.1 hx with rfl | hx
     · exact .inr ⟨r, by simp, rfl⟩
     · rcases apl_ids n [] rl (by simp at hn ⊢; omega) (fun r hr => hc r (by simp [hr])) l' h1 x hx with ⟨y, hy, _⟩ | ⟨r', hr, e⟩
       · cases hy
       · exact .inr ⟨r', by simp [hr], e⟩
   · cases h
 | n + 1, y :: was, r :: rl, hn, hc, l, h, x, hx => by
   have up : ∀ {was' : List EntR} {rl' : List RecR}, ((∃ y ∈ was', y.id = x.id) ∨ (∃ r ∈ rl', r.id = x.id)) → (∀ z ∈ was', z ∈ y :: was) → (∀ z ∈ rl', z ∈ r :: rl) → ((∃ z ∈ y :: was, z.id = x.id) ∨ (∃ z ∈ r :: rl, z.id = x.id)) := fun h h1 h2 => by
     rcases h with ⟨z, hz, e⟩ | ⟨z, hz, e⟩
     · exact .inl ⟨z, h1 z hz, e⟩
     · exact .inr ⟨z, h2 z hz, e⟩
   have hc' : ∀ z ∈ rl, recChk z = 0 := fun r hr => hc r (by simp [hr])
   unfold apl at h
   split at h
   · obtain ⟨l', h1, rfl⟩ := Option.map_eq_some_iff.1 h
     rcases List.mem_cons.1 hx with rfl | hx
     · exact .inl ⟨x, by simp, rfl⟩
     · exact up (apl_ids n was (r :: rl) (by simp at hn ⊢; omega) hc l' h1 x hx) (by simp +contextual) (by simp)
   · split at h
     · rename_i hid
       split at h
       · cases h
       · rename_i hk0
         split at h
         · exact up (apl_ids n was rl (by simp at hn ⊢; omega) hc' l h x hx) (by simp +contextual) (by simp +contextual)
         · rename_i hk2
           obtain ⟨l', h1, rfl⟩ := Option.map_eq_some_iff.1 h
           rcases List.mem_cons.1 hx with rfl | hx
           · refine .inl ⟨y, by simp, ?_⟩
             exact (entApply_id (hc r (by simp)) hid.symm hk0 hk2).1.symm
           · exact up (apl_ids n was rl (by simp at hn ⊢; omega) hc' l' h1 x hx) (by simp +contextual) (by simp +contextual)
     · split at h
       · obtain ⟨l', h1, rfl⟩ := Option.map_eq_some_iff.1 h
         rcases List.mem_cons.1 hx with rfl | hx
         · exact .inr ⟨r, by simp, rfl⟩
         · exact up (apl_ids n (y :: was) rl (by simp at hn ⊢; omega) hc' l' h1 x hx) (by simp) (by simp +contextual)
       · cases h
theorem apply_snap {at_ atm gt gtm gb : Int} {a : List EntR} {rl : List RecR} (h : aE at_ atm a gt gtm gb rl = 0) : snapErr (aS at_ atm a gt gtm gb rl).t (aS at_ atm a gt gtm gb rl).tm (aS at_ atm a gt gtm gb rl).l = 0 := by
 obtain ⟨h1, h2, l, h3, h4⟩ := aE_parts h
 obtain ⟨hg, hr⟩ := bodyErr_parts h1
 obtain ⟨g1, g2, g3, g4, _⟩ := gErr_parts hg
 obtain ⟨hs, hc⟩ := recs_srt hr
 have hw := wasOf_srt h2
 rw [aS_0 h, h3]
 dsimp only [Option.getD_some]
 have hS : Srt l := (apl_fold _ (wasOf gb a) rl (Nat.le_refl _) [] (wasOf gb a) (List.Perm.refl _) hw (by simp) hs (fun r hr => (hc r hr).1)).2 l h3 |>.1
 have hR : ∀ x ∈ l, 0 ≤ x.id ∧ x.id ≤ 65535 := fun x hx => by
   rcases apl_ids _ (wasOf gb a) rl (Nat.le_refl _) (fun r hr => (hc r hr).1) l h3 x hx with ⟨y, hy, e⟩ | ⟨r, hr, e⟩
   · unfold wasOf at hy
     split at hy
     · rename_i hg
       have := ents_rng (snapErr_parts (h2 hg).1).2.2.2.2.2 y hy
       omega
     · cases hy
   · have := (hc r hr).2; omega
 rw [snapErr_e (by omega) (by omega)]
 exact ents_ok hS hR
structure GoodS (σ : Stt) (most : Nat) : Prop where
 ok : Oks σ.l most
 sn : ∀ x ∈ σ.l, snapErr x.t x.tm x.l = 0
 up : σ.l.Pairwise fun x y => x.tm < y.tm
theorem rise_kins {l : List SnapR} {x : SnapR} {i : Nat} (h : l.Pairwise fun x y => x.tm < y.tm) (hi : i ≤ l.length) (h1 : 0 < i → (l.getD (i - 1) default).tm < x.tm) (h2 : i < l.length → x.tm < (l.getD i default).tm) : (kins l i x).Pairwise fun x y => x.tm < y.tm := by
 have hp := List.pairwise_iff_getElem.1 h
 have b1 : ∀ y ∈ l.take i, y.tm < x.tm := fun y hy => by
   obtain ⟨j, hj, rfl⟩ := List.getElem_of_mem hy
   rw [List.length_take] at hj
   rw [List.getElem_take]
   have h3 := h1 (by omega)
   rw [List.getD_eq_getElem?_getD, List.getElem?_eq_getElem (show i - 1 < l.length by omega)] at h3
   change (l[i - 1]).tm < x.tm at h3
   by_cases e : j = i - 1
   · subst e; exact h3
   · have := hp j (i - 1) (by omega) (by omega) (by omega); omega
 have b2 : ∀ y ∈ l.drop i, x.tm < y.tm := fun y hy => by
   obtain ⟨j, hj, rfl⟩ := List.getElem_of_mem hy
   rw [List.length_drop] at hj
   rw [List.getElem_drop]
   have h3 := h2 (by omega)
   rw [List.getD_eq_getElem?_getD, List.getElem?_eq_getElem (show i < l.length by omega)] at h3
   change x.tm < (l[i]).tm at h3
   by_cases e : j = 0
   · subst e; simpa using h3
   · have := hp i (i + j) (by omega) (by omega) (by omega); omega
 unfold kins
 refine List.pairwise_append.2 ⟨h.take, List.pairwise_cons.2 ⟨b2, h.drop⟩, fun a ha b hb => ?_⟩
 rcases List.mem_cons.1 hb with rfl | hb
 · exact b1 a ha
 · have := b1 a ha; have := b2 b hb; omega
theorem GoodS.start {most : Nat} (h : 1 ≤ most ∧ most ≤ 64) : GoodS stt0 most := ⟨oks_0 h, by simp [stt0], List.Pairwise.nil⟩
theorem GoodS.acc {σ : Stt} {most : Nat} {bs : List Byte} (h : GoodS σ most) : GoodS (accS most σ (gRead bs)) most := by
 refine ⟨oks_acc h.ok, ?_, ?_⟩
 all_goals
   by_cases he : accE σ.l most σ.floor σ.gone (gRead bs) = 0
   · obtain ⟨h1, h2, h3, h5, h6, h4⟩ := acc_ok he
     rw [h4]
     have h7 := accE_0 he
     have hA : snapErr (accA σ.l (gRead bs)).t (accA σ.l (gRead bs)).tm (accA σ.l (gRead bs)).l = 0 := apply_snap h7.2.2.2.2.1
     have ht := (tml_doc h1).1 h7.2.2.2.2.2
     have hr := rise_kins (x := accA σ.l (gRead bs)) h.up (kpos_le _ _) ht.1 ht.2
     have hm : ∀ x ∈ kins σ.l (kpos σ.l (accA σ.l (gRead bs)).t) (accA σ.l (gRead bs)), snapErr x.t x.tm x.l = 0 := fun x hx => by
       rcases mem_kins.1 hx with rfl | hx
       · exact hA
       · exact h.sn x hx
     dsimp only
     unfold slayL
     split
     · first | exact hm | exact hr
     · first | exact fun x hx => hm x (List.mem_of_mem_drop hx) | exact hr.drop
   · rw [acc_no he]
     first | exact h.sn | exact h.up
theorem GoodS.at_ {σ : Stt} {most i : Nat} (h : GoodS σ most) (hi : i < σ.l.length) : ratE σ.l ((i : Nat) : Int) = 0 ∧ sat σ.l ((i : Nat) : Int) = σ.l.getD i default ∧ snapErr (σ.l.getD i default).t (σ.l.getD i default).tm (σ.l.getD i default).l = 0 ∧ (0 < i → (σ.l.getD (i - 1) default).t < (σ.l.getD i default).t ∧ (σ.l.getD (i - 1) default).tm < (σ.l.getD i default).tm) := by
 have hg : σ.l.getD i default = σ.l[i] := by rw [List.getD_eq_getElem?_getD, List.getElem?_eq_getElem hi]; rfl
 refine ⟨if_pos ⟨by omega, by omega⟩, if_pos ⟨by omega, by omega⟩, ?_, fun h0 => ?_⟩
 · rw [hg]; exact h.sn _ (List.getElem_mem hi)
 · have hg' : σ.l.getD (i - 1) default = σ.l[i - 1] := by rw [List.getD_eq_getElem?_getD, List.getElem?_eq_getElem (by omega)]; rfl
   rw [hg, hg']
   exact ⟨List.pairwise_iff_getElem.1 h.ok.srt _ _ (by omega) hi (by omega), List.pairwise_iff_getElem.1 h.up _ _ (by omega) hi (by omega)⟩
/-! ### Bytes that came in, several -/
structure BR where
 v : Value
 bs : List Byte
instance : Inhabited BR := ⟨⟨.slice none 0 0, []⟩⟩
def mostN (n : Int) : Nat := 1 + (BitVec.ofInt 64 n % 64#64).toNat
theorem mostN_rng (n : Int) : 1 ≤ mostN n ∧ mostN n ≤ 64 := by
 unfold mostN
 rw [BitVec.toNat_umod]
 have : (BitVec.ofInt 64 n).toNat % (64#64).toNat < 64 := Nat.mod_lt _ (by decide)
 omega
theorem mostN_int (n : Int) : (1 : Int) + (BitVec.ofInt 64 n % 64#64).toInt = ((mostN n : Nat) : Int) := by
 have h := mostN_rng n
 unfold mostN at *
 rw [BitVec.toInt_eq_toNat_of_lt (by omega)]
 omega
end Go.Sx
