/- Stores: the example; what is refused changes a count alone; order. Plain mathematics. -/
import Derived.Test.YtbacobmcfelmkaaGreatQSxStos
import Derived.Test.YtbacobmcfelmkaaGreatQSxGrams
set_option linter.unusedVariables false
set_option linter.unusedSimpArgs false
namespace Go.Sx
theorem zJB : ∀ x ∈ ([] : List zAd), x.wf := by simp
theorem zJg {bs : List zR} {t tm b : Int} (h : ((zA bs).t == t && (zA bs).tm == tm && (zA bs).b == b && (zA bs).l.isEmpty && (zA bs).e == 0) = true) : zA bs = ⟨t, tm, b, [], 0⟩ := by
 generalize zA bs = G at h ⊢
 obtain ⟨t', tm', b', l', e'⟩ := G
 simp only [Bool.and_eq_true, beq_iff_eq, List.isEmpty_iff] at h
 obtain ⟨⟨⟨⟨rfl, rfl⟩, rfl⟩, rfl⟩, rfl⟩ := h
 rfl
theorem zQK : zA (gwB 1 10 (-1) []) = ⟨1, 10, -1, [], 0⟩ := zJg (by decide +kernel)
theorem zSM : zA (gwB 3 30 1 []) = ⟨3, 30, 1, [], 0⟩ := zJg (by decide +kernel)
theorem zUH : zA (gwB 2 20 1 []) = ⟨2, 20, 1, [], 0⟩ := zJg (by decide +kernel)
def zN5 : Stt := zAX 4 zCZ (zA (gwB 1 10 (-1) []))
def zOI : Stt := zAX 4 zN5 (zA (gwB 3 30 1 []))
def zTj : Stt := zAX 4 zOI (zA (gwB 2 20 1 []))
def zTN : Stt := zAX 4 zTj (zA (gwB 3 30 1 []))
theorem zWB : zAT zCZ.l 4 zCZ.floor zCZ.gone (zA (gwB 1 10 (-1) [])) = 0 ∧ zGW zCZ.l 4 zCZ.floor zCZ.gone (zA (gwB 1 10 (-1) [])) = 1 := by
 rw [zQK]; decide +kernel
theorem zWC : zAT zN5.l 4 zN5.floor zN5.gone (zA (gwB 3 30 1 [])) = 0 ∧ zGW zN5.l 4 zN5.floor zN5.gone (zA (gwB 3 30 1 [])) = 3 := by
 unfold zN5; rw [zQK, zSM]; decide +kernel
theorem zWE : zAT zOI.l 4 zOI.floor zOI.gone (zA (gwB 2 20 1 [])) = 0 ∧ zGW zOI.l 4 zOI.floor zOI.gone (zA (gwB 2 20 1 [])) = 2 := by
 unfold zOI zN5; rw [zQK, zSM, zUH]; decide +kernel
theorem zV6 : zAT zTj.l 4 zTj.floor zTj.gone (zA (gwB 3 30 1 [])) = 12 := by
 unfold zTj zOI zN5; rw [zQK, zSM, zUH]; decide +kernel
theorem zV7 : zH5 zTN.l 1 = 0 ∧ (sat zTN.l 1).t = 2 ∧ zTN.l.length = 3 ∧ zTN.n 0 = 3 ∧ zDv zTN.n 12 = 1 := by
 unfold zTN zTj zOI zN5; rw [zQK, zSM, zUH]; decide +kernel
/-! ### What a store keeps to, told more closely -/
def zT2 (σ : Stt) (t : Int) : Prop := zB9 σ.l t = true ∨ (σ.gone = true ∧ t ≤ σ.floor)
def zNy (σ : Stt) : Prop := σ.gone = true → ∀ x ∈ σ.l, σ.floor < x.t
theorem zE0 {l : List zAl} {k : Int} : zB9 l k = true ↔ ∃ x ∈ l, x.t = k := by
 unfold zB9
 rw [List.any_eq_true]
 constructor
 · rintro ⟨x, h, e⟩; exact ⟨x, h, by simpa using e⟩
 · rintro ⟨x, h, e⟩; exact ⟨x, h, by simpa using e⟩
theorem zFN {α : Type} {l : List α} {i : Nat} {x y : α} : y ∈ zB2 l i x ↔ y = x ∨ y ∈ l := by
 constructor
 · exact zMr
 · unfold zB2
   rintro (rfl | h)
   · simp
   · rw [← List.take_append_drop i l] at h
     simp only [List.mem_append, List.mem_cons] at h ⊢
     rcases h with h | h <;> simp [h]
theorem zGZ {l : List zAl} {most : Nat} {fl : Int} {gone : Bool} {x : zAl} (ho : Oks l most) (hk : zB9 l x.t = false) (hz : ¬ (zU l x.t = 0 ∧ l.length = most)) :
   (l.length < most ∧ zGO l most x = zB2 l (zU l x.t) x ∧ zFy l most fl x = fl ∧ zGP l most gone x = gone) ∨
   (l.length = most ∧ ∃ y r, l = y :: r ∧ y.t < x.t ∧ zB2 l (zU l x.t) x = y :: zGO l most x ∧ zFy l most fl x = y.t ∧ zGP l most gone x = true) := by
 have hl := zEy l x (zCN l x.t)
 have hle := ho.le
 unfold zGO zFy zGP
 by_cases h : (zB2 l (zU l x.t) x).length ≤ most
 · left
   rw [if_pos h, if_pos h, if_pos h]
   exact ⟨by omega, rfl, rfl, rfl⟩
 · right
   rw [if_neg h, if_neg h, if_neg h]
   have hlm : l.length = most := by omega
   have hp : 0 < zU l x.t := by
     rcases Nat.eq_zero_or_pos (zU l x.t) with h0 | h0
     · exact absurd ⟨h0, hlm⟩ hz
     · exact h0
   cases l with
   | nil => simp [zU] at hp
   | cons y r =>
     have hy := zIE ho.srt hp
     have hy : y.t < x.t := by simpa using hy
     have e : zB2 (y :: r) (zU (y :: r) x.t) x = y :: (zB2 (y :: r) (zU (y :: r) x.t) x).drop 1 := by
       obtain ⟨p, hpe⟩ : ∃ p, zU (y :: r) x.t = p + 1 := ⟨zU (y :: r) x.t - 1, by omega⟩
       rw [hpe]
       simp [zB2]
     refine ⟨hlm, y, r, rfl, hy, e, ?_, rfl⟩
     rw [e]; rfl
theorem zKa {σ : Stt} {most : Nat} {G : zCa} (h : zAT σ.l most σ.floor σ.gone G = 0) : zB9 σ.l (zAe σ.l G).t = false ∧ ¬ (zU σ.l (zAe σ.l G).t = 0 ∧ σ.l.length = most) ∧ ¬ (σ.gone = true ∧ (zAe σ.l G).t ≤ σ.floor) ∧ (zAe σ.l G).t = G.t ∧ (zAe σ.l G).tm = G.tm ∧ zAX most σ G = ⟨zGO σ.l most (zAe σ.l G), zFy σ.l most σ.floor (zAe σ.l G), zGP σ.l most σ.gone (zAe σ.l G), zAy σ.n 0⟩ := by
 obtain ⟨_, h2, h3, _, h5, _⟩ := zIg h
 have h7 := zKn h5
 refine ⟨by rw [h7.1]; exact h2, fun hc => ?_, fun hc => ?_, h7.1, h7.2, if_pos h⟩
 · rw [h7.1] at hc
   unfold stl at h3
   rw [kuntil_no' h2, hc.1, hc.2] at h3
   simp at h3
 · rw [h7.1] at hc
   unfold stl at h3
   rw [hc.1] at h3
   simp [hc.2] at h3
where kuntil_no' {l : List zAl} {k : Int} (h : zB9 l k = false) : zAO l k = zU l k := by unfold zAO; rw [h]; rfl
theorem zKd {σ : Stt} {most : Nat} {G : zCa} (h : zAT σ.l most σ.floor σ.gone G ≠ 0) : zAX most σ G = ⟨σ.l, σ.floor, σ.gone, zAy σ.n (zAT σ.l most σ.floor σ.gone G)⟩ := if_neg h
theorem zIK {σ : Stt} {most : Nat} {G : zCa} (ho : Oks σ.l most) (ha : zNy σ) : zNy (zAX most σ G) := by
 by_cases h : zAT σ.l most σ.floor σ.gone G = 0
 · obtain ⟨h1, h2, h3, _, _, h4⟩ := zKa h
   rw [h4]
   rcases zGZ (fl := σ.floor) (gone := σ.gone) ho h1 h2 with ⟨_, e1, e2, e3⟩ | ⟨_, y, r, e0, hy, e1, e2, e3⟩
   · unfold zNy
     rw [e1, e2, e3]
     intro hg x hx
     rcases zFN.1 hx with rfl | hx
     · dsimp only at hg ⊢; have : ¬ _ := fun hc => h3 ⟨hg, hc⟩; omega
     · exact ha hg x hx
   · unfold zNy
     dsimp only
     rw [e2]
     intro _ x hx
     have hs := zMC (x := zAe σ.l G) ho.srt h1
     rw [e1] at hs
     exact (List.pairwise_cons.1 hs).1 x hx
 · rw [zKd h]; exact ha
theorem zHP {σ : Stt} {most : Nat} {G : zCa} {t : Int} (ho : Oks σ.l most) (ha : zNy σ) (hh : zT2 σ t) : zT2 (zAX most σ G) t := by
 by_cases h : zAT σ.l most σ.floor σ.gone G = 0
 · obtain ⟨h1, h2, h3, _, _, h4⟩ := zKa h
   rw [h4]
   rcases zGZ (fl := σ.floor) (gone := σ.gone) ho h1 h2 with ⟨_, e1, e2, e3⟩ | ⟨_, y, r, e0, hy, e1, e2, e3⟩
   · unfold zT2
     dsimp only
     rw [e1, e2, e3]
     rcases hh with hh | hh
     · left
       obtain ⟨x, hx, he⟩ := zE0.1 hh
       exact zE0.2 ⟨x, zFN.2 (.inr hx), he⟩
     · exact .inr hh
   · unfold zT2
     dsimp only
     rw [e2, e3]
     rcases hh with hh | hh
     · obtain ⟨x, hx, he⟩ := zE0.1 hh
       have hm : x ∈ zB2 σ.l (zU σ.l (zAe σ.l G).t) (zAe σ.l G) := zFN.2 (.inr hx)
       rw [e1] at hm
       rcases List.mem_cons.1 hm with rfl | hm
       · right; exact ⟨rfl, by omega⟩
       · left; exact zE0.2 ⟨x, hm, he⟩
     · right
       have := ha hh.1 y (by rw [e0]; simp)
       exact ⟨rfl, by omega⟩
 · rw [zKd h]; exact hh
theorem zTX {σ : Stt} {most : Nat} {G : zCa} (ho : Oks σ.l most) (h : zAT σ.l most σ.floor σ.gone G = 0) : zB9 (zAX most σ G).l G.t = true := by
 obtain ⟨h1, h2, h3, h5, _, h4⟩ := zKa h
 rw [h4, ← h5]
 dsimp only
 rcases zGZ (fl := σ.floor) (gone := σ.gone) ho h1 h2 with ⟨_, e1, e2, e3⟩ | ⟨_, y, r, e0, hy, e1, e2, e3⟩
 · rw [e1]; exact zE0.2 ⟨_, zFN.2 (.inl rfl), rfl⟩
 · have hm : zAe σ.l G ∈ zB2 σ.l (zU σ.l (zAe σ.l G).t) (zAe σ.l G) := zFN.2 (.inl rfl)
   rw [e1] at hm
   rcases List.mem_cons.1 hm with he | hm
   · rw [← he] at hy; omega
   · exact zE0.2 ⟨_, hm, rfl⟩
theorem zMJ {l : List zAl} {most : Nat} {fl : Int} {gone : Bool} {G : zCa} (h : G.e = 0) (hk : zB9 l G.t = true) : zAT l most fl gone G = 12 := by
 have e : zDq l most fl gone G = 12 := by
   unfold zDq
   rw [zGG h hk, zEV (e := 12) (by decide), zEV (e := 12) (by decide)]
 rw [zGM h (by omega), e]
theorem zTH {σ : Stt} {most : Nat} {G : zCa} (h : G.e = 0) (hk : zB9 σ.l G.t = false) (hh : zT2 σ G.t) : zAT σ.l most σ.floor σ.gone G = 13 := by
 have hs : stl σ.l most σ.floor σ.gone G.t = true := by
   rcases hh with hh | ⟨h1, h2⟩
   · rw [hk] at hh; cases hh
   · unfold stl; rw [h1]; simp [h2]
 have e : zDq σ.l most σ.floor σ.gone G = 13 := by
   unfold zDq
   rw [zEq hk, zGG h hs, zEV (e := 13) (by decide)]
 rw [zGM h (by omega), e]
structure zH3 (most : Nat) (σ : Stt) (K : List (List zR)) : Prop where
 ok : Oks σ.l most
 ab : zNy σ
 got : ∀ b ∈ K, (zA b).e = 0 ∧ zT2 σ (zA b).t
 num : σ.n 0 = K.length
theorem zH3.start {most : Nat} (h : 1 ≤ most ∧ most ≤ 64) : zH3 most zCZ [] := ⟨zRY h, fun hh => (by cases hh), by simp, rfl⟩
theorem zH3.no {most : Nat} {σ : Stt} {K : List (List zR)} {b : List zR} (h : zH3 most σ K) (he : zAT σ.l most σ.floor σ.gone (zA b) ≠ 0) : zH3 most (zAX most σ (zA b)) K := by
 refine ⟨zFm h.ok, zIK h.ok h.ab, fun c hc => ⟨(h.got c hc).1, zHP h.ok h.ab (h.got c hc).2⟩, ?_⟩
 rw [zKd he]
 show zAy σ.n _ 0 = _
 unfold zAy
 rw [if_neg (fun e => he e.symm), h.num]
theorem zH3.yes {most : Nat} {σ : Stt} {K : List (List zR)} {b : List zR} (h : zH3 most σ K) (he : zAT σ.l most σ.floor σ.gone (zA b) = 0) :
   zAT (zAX most σ (zA b)).l most (zAX most σ (zA b)).floor (zAX most σ (zA b)).gone (zA b) = 12 ∧ zH3 most (zAX most (zAX most σ (zA b)) (zA b)) (K ++ [b]) := by
 have h0 := (zIg he).1
 have hh := zTX h.ok he
 have hd := zMJ (most := most) (fl := (zAX most σ (zA b)).floor) (gone := (zAX most σ (zA b)).gone) h0 hh
 have hok := zFm (bs := b) h.ok
 have hab := zIK (G := zA b) h.ok h.ab
 refine ⟨hd, zFm hok, zIK hok hab, fun c hc => ?_, ?_⟩
 · rcases List.mem_append.1 hc with hc | hc
   · exact ⟨(h.got c hc).1, zHP hok hab (zHP h.ok h.ab (h.got c hc).2)⟩
   · rw [List.mem_singleton.1 hc]
     exact ⟨h0, zHP hok hab (.inl hh)⟩
 · rw [zKd (by rw [hd]; decide)]
   show zAy (zAX most σ (zA b)).n _ 0 = _
   rw [hd]
   unfold zAy
   rw [if_neg (by decide), (zKa he).2.2.2.2.2]
   show zAy σ.n 0 0 = _
   unfold zAy
   rw [if_pos rfl, h.num, List.length_append]; rfl
theorem zH3.again {most : Nat} {σ : Stt} {K : List (List zR)} {b : List zR} (h : zH3 most σ K) (hb : b ∈ K) : (zA b).e = 0 ∧ zAT σ.l most σ.floor σ.gone (zA b) = (if zB9 σ.l (zA b).t = true then 12 else 13) ∧ zH3 most (zAX most σ (zA b)) K := by
 obtain ⟨h1, h2⟩ := h.got b hb
 have e : zAT σ.l most σ.floor σ.gone (zA b) = (if zB9 σ.l (zA b).t = true then 12 else 13) := by
   split
   · next hk => exact zMJ h1 hk
   · next hk => exact zTH h1 (by simpa using hk) h2
 exact ⟨h1, e, h.no (by rw [e]; split <;> decide)⟩
/-! ### Order -/
theorem zGd : ∀ (n : Nat) (was : List zAU) (rl : List zAd), was.length + rl.length ≤ n → (∀ r ∈ rl, zAk r = 0) → ∀ l, apl was rl = some l → ∀ x ∈ l, (∃ y ∈ was, y.id = x.id) ∨ (∃ r ∈ rl, r.id = x.id)
 | _, was, [], _, _, l, h, x, hx => by
   unfold apl at h
   injection h with h
   subst h
   exact .inl ⟨x, hx, rfl⟩
 | 0, was, r :: rl, hn, _, _, _, _, _ => by simp at hn
 | n + 1, [], r :: rl, hn, hc, l, h, x, hx => by
   unfold apl at h
   split at h
   · obtain ⟨l', h1, rfl⟩ := Option.map_eq_some_iff.1 h
     rcases List.mem_cons.1 hx with rfl | hx
     · exact .inr ⟨r, by simp, rfl⟩
     · rcases zGd n [] rl (by simp at hn ⊢; omega) (fun r hr => hc r (by simp [hr])) l' h1 x hx with ⟨y, hy, _⟩ | ⟨r', hr, e⟩
       · cases hy
       · exact .inr ⟨r', by simp [hr], e⟩
   · cases h
 | n + 1, y :: was, r :: rl, hn, hc, l, h, x, hx => by
   have up : ∀ {was' : List zAU} {rl' : List zAd}, ((∃ y ∈ was', y.id = x.id) ∨ (∃ r ∈ rl', r.id = x.id)) → (∀ z ∈ was', z ∈ y :: was) → (∀ z ∈ rl', z ∈ r :: rl) → ((∃ z ∈ y :: was, z.id = x.id) ∨ (∃ z ∈ r :: rl, z.id = x.id)) := fun h h1 h2 => by
     rcases h with ⟨z, hz, e⟩ | ⟨z, hz, e⟩
     · exact .inl ⟨z, h1 z hz, e⟩
     · exact .inr ⟨z, h2 z hz, e⟩
   have hc' : ∀ z ∈ rl, zAk z = 0 := fun r hr => hc r (by simp [hr])
   unfold apl at h
   split at h
   · obtain ⟨l', h1, rfl⟩ := Option.map_eq_some_iff.1 h
     rcases List.mem_cons.1 hx with rfl | hx
     · exact .inl ⟨x, by simp, rfl⟩
     · exact up (zGd n was (r :: rl) (by simp at hn ⊢; omega) hc l' h1 x hx) (by simp +contextual) (by simp)
   · split at h
     · rename_i hid
       split at h
       · cases h
       · rename_i hk0
         split at h
         · exact up (zGd n was rl (by simp at hn ⊢; omega) hc' l h x hx) (by simp +contextual) (by simp +contextual)
         · rename_i hk2
           obtain ⟨l', h1, rfl⟩ := Option.map_eq_some_iff.1 h
           rcases List.mem_cons.1 hx with rfl | hx
           · refine .inl ⟨y, by simp, ?_⟩
             exact (zFt (hc r (by simp)) hid.symm hk0 hk2).1.symm
           · exact up (zGd n was rl (by simp at hn ⊢; omega) hc' l' h1 x hx) (by simp +contextual) (by simp +contextual)
     · split at h
       · obtain ⟨l', h1, rfl⟩ := Option.map_eq_some_iff.1 h
         rcases List.mem_cons.1 hx with rfl | hx
         · exact .inr ⟨r, by simp, rfl⟩
         · exact up (zGd n (y :: was) rl (by simp at hn ⊢; omega) hc' l' h1 x hx) (by simp) (by simp +contextual)
       · cases h
theorem zNW {at_ atm gt gtm gb : Int} {a : List zAU} {rl : List zAd} (h : aE at_ atm a gt gtm gb rl = 0) : zAP (aS at_ atm a gt gtm gb rl).t (aS at_ atm a gt gtm gb rl).tm (aS at_ atm a gt gtm gb rl).l = 0 := by
 obtain ⟨h1, h2, l, h3, h4⟩ := zMz h
 obtain ⟨hg, hr⟩ := zDD h1
 obtain ⟨g1, g2, g3, g4, _⟩ := zE3 hg
 obtain ⟨hs, hc⟩ := zFH hr
 have hw := zJ8 h2
 rw [zUp h, h3]
 dsimp only [Option.getD_some]
 have hS : Srt l := (zJE _ (zEF gb a) rl (Nat.le_refl _) [] (zEF gb a) (List.Perm.refl _) hw (by simp) hs (fun r hr => (hc r hr).1)).2 l h3 |>.1
 have hR : ∀ x ∈ l, 0 ≤ x.id ∧ x.id ≤ 65535 := fun x hx => by
   rcases zGd _ (zEF gb a) rl (Nat.le_refl _) (fun r hr => (hc r hr).1) l h3 x hx with ⟨y, hy, e⟩ | ⟨r, hr, e⟩
   · unfold zEF at hy
     split at hy
     · rename_i hg
       have := zRt (zC9 (h2 hg).1).2.2.2.2.2 y hy
       omega
     · cases hy
   · have := (hc r hr).2; omega
 rw [zBK (by omega) (by omega)]
 exact zS0 hS hR
structure zLD (σ : Stt) (most : Nat) : Prop where
 ok : Oks σ.l most
 sn : ∀ x ∈ σ.l, zAP x.t x.tm x.l = 0
 up : σ.l.Pairwise fun x y => x.tm < y.tm
theorem zOV {l : List zAl} {x : zAl} {i : Nat} (h : l.Pairwise fun x y => x.tm < y.tm) (hi : i ≤ l.length) (h1 : 0 < i → (l.getD (i - 1) default).tm < x.tm) (h2 : i < l.length → x.tm < (l.getD i default).tm) : (zB2 l i x).Pairwise fun x y => x.tm < y.tm := by
 have hp := List.pairwise_iff_getElem.1 h
 have b1 : ∀ y ∈ l.take i, y.tm < x.tm := fun y hy => by
   obtain ⟨j, hj, rfl⟩ := List.getElem_of_mem hy
   rw [List.length_take] at hj
   rw [List.getElem_take]
   have h3 := h1 (by omega)
   rw [List.getD_eq_getElem?_getD, List.getElem?_eq_getElem (show i - 1 < l.length by omega)] at h3
   change (l[i - 1]).tm < x.tm at h3
   by_cases e : j = i - 1
   · subst e; exact h3
   · have := hp j (i - 1) (by omega) (by omega) (by omega); omega
 have b2 : ∀ y ∈ l.drop i, x.tm < y.tm := fun y hy => by
   obtain ⟨j, hj, rfl⟩ := List.getElem_of_mem hy
   rw [List.length_drop] at hj
   rw [List.getElem_drop]
   have h3 := h2 (by omega)
   rw [List.getD_eq_getElem?_getD, List.getElem?_eq_getElem (show i < l.length by omega)] at h3
   change x.tm < (l[i]).tm at h3
   by_cases e : j = 0
   · subst e; simpa using h3
   · have := hp i (i + j) (by omega) (by omega) (by omega); omega
 unfold zB2
 refine List.pairwise_append.2 ⟨h.take, List.pairwise_cons.2 ⟨b2, h.drop⟩, fun a ha b hb => ?_⟩
 rcases List.mem_cons.1 hb with rfl | hb
 · exact b1 a ha
 · have := b1 a ha; have := b2 b hb; omega
theorem zLD.start {most : Nat} (h : 1 ≤ most ∧ most ≤ 64) : zLD zCZ most := ⟨zRY h, by simp [zCZ], List.Pairwise.nil⟩
theorem zLD.acc {σ : Stt} {most : Nat} {bs : List zR} (h : zLD σ most) : zLD (zAX most σ (zA bs)) most := by
 refine ⟨zFm h.ok, ?_, ?_⟩
 all_goals
   by_cases he : zAT σ.l most σ.floor σ.gone (zA bs) = 0
   · obtain ⟨h1, h2, h3, h5, h6, h4⟩ := zKa he
     rw [h4]
     have h7 := zIg he
     have hA : zAP (zAe σ.l (zA bs)).t (zAe σ.l (zA bs)).tm (zAe σ.l (zA bs)).l = 0 := zNW h7.2.2.2.2.1
     have ht := (zPG h1).1 h7.2.2.2.2.2
     have hr := zOV (x := zAe σ.l (zA bs)) h.up (zCN _ _) ht.1 ht.2
     have hm : ∀ x ∈ zB2 σ.l (zU σ.l (zAe σ.l (zA bs)).t) (zAe σ.l (zA bs)), zAP x.t x.tm x.l = 0 := fun x hx => by
       rcases zFN.1 hx with rfl | hx
       · exact hA
       · exact h.sn x hx
     dsimp only
     unfold zGO
     split
     · first | exact hm | exact hr
     · first | exact fun x hx => hm x (List.mem_of_mem_drop hx) | exact hr.drop
   · rw [zKd he]
     first | exact h.sn | exact h.up
theorem zLD.at_ {σ : Stt} {most i : Nat} (h : zLD σ most) (hi : i < σ.l.length) : zH5 σ.l ((i : Nat) : Int) = 0 ∧ sat σ.l ((i : Nat) : Int) = σ.l.getD i default ∧ zAP (σ.l.getD i default).t (σ.l.getD i default).tm (σ.l.getD i default).l = 0 ∧ (0 < i → (σ.l.getD (i - 1) default).t < (σ.l.getD i default).t ∧ (σ.l.getD (i - 1) default).tm < (σ.l.getD i default).tm) := by
 have hg : σ.l.getD i default = σ.l[i] := by rw [List.getD_eq_getElem?_getD, List.getElem?_eq_getElem hi]; rfl
 refine ⟨if_pos ⟨by omega, by omega⟩, if_pos ⟨by omega, by omega⟩, ?_, fun h0 => ?_⟩
 · rw [hg]; exact h.sn _ (List.getElem_mem hi)
 · have hg' : σ.l.getD (i - 1) default = σ.l[i - 1] := by rw [List.getD_eq_getElem?_getD, List.getElem?_eq_getElem (by omega)]; rfl
   rw [hg, hg']
   exact ⟨List.pairwise_iff_getElem.1 h.ok.srt _ _ (by omega) hi (by omega), List.pairwise_iff_getElem.1 h.up _ _ (by omega) hi (by omega)⟩
/-! ### Bytes that came in, several -/
structure BR where
 v : Value
 bs : List zR
instance : Inhabited BR := ⟨⟨.slice none 0 0, []⟩⟩
theorem zT8 {L : List BR} {j : Nat} (h : j < L.length) : L.getD j default ∈ L := by
 rw [List.getD_eq_getElem?_getD, List.getElem?_eq_getElem h]
 exact List.getElem_mem h
theorem zOe {L : List BR} {j : Nat} (h : j < L.length) : (L.map BR.v)[j]? = some (L.getD j default).v := by
 rw [List.getElem?_map, List.getD_eq_getElem?_getD, List.getElem?_eq_getElem h]; rfl
def zAu (n : Int) : Nat := 1 + (BitVec.ofInt 64 n % 64#64).toNat
theorem zEo (n : Int) : 1 ≤ zAu n ∧ zAu n ≤ 64 := by
 unfold zAu
 rw [BitVec.toNat_umod]
 have : (BitVec.ofInt 64 n).toNat % (64#64).toNat < 64 := Nat.mod_lt _ (by decide)
 omega
theorem zPg (n : Int) : (1 : Int) + (BitVec.ofInt 64 n % 64#64).toInt = ((zAu n : Nat) : Int) := by
 have h := zEo n
 unfold zAu at *
 rw [BitVec.toInt_eq_toNat_of_lt (by omega)]
 omega
end Go.Sx
