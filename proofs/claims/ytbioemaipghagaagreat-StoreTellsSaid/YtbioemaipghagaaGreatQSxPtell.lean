/- Stores: snapshots that rise, told each by the one ahead, or by none. Plain mathematics. -/
import Derived.Test.YtbioemaipghagaaGreatQSxPsto
set_option linter.unusedVariables false
set_option linter.unusedSimpArgs false
namespace Go.Sx
structure Tells (most : Nat) (σ : Stt) (K : List SnapR) : Prop where
 l : σ.l = K.drop (K.length - most)
 ut : K.Pairwise fun x y => x.t < y.t
 um : K.Pairwise fun x y => x.tm < y.tm
 ok : Oks σ.l most
 fl : σ.gone = true → ∃ y ∈ K, σ.floor = y.t
 num : σ.n 0 = K.length
theorem Tells.start {most : Nat} (h : 1 ≤ most ∧ most ≤ 64) : Tells most stt0 [] := ⟨by simp [stt0], List.Pairwise.nil, List.Pairwise.nil, oks_0 h, fun hh => (by cases hh), rfl⟩
theorem Tells.mem {most : Nat} {σ : Stt} {K : List SnapR} (h : Tells most σ K) {y : SnapR} (hy : y ∈ σ.l) : y ∈ K := by
 rw [h.l] at hy; exact List.mem_of_mem_drop hy
theorem Tells.len {most : Nat} {σ : Stt} {K : List SnapR} (h : Tells most σ K) : σ.l.length = min K.length most := by
 have := congrArg List.length h.l
 rw [List.length_drop] at this
 omega
theorem kpos_all {l : List SnapR} {k : Int} (h : ∀ y ∈ l, y.t < k) : kpos l k = l.length := by
 unfold kpos
 exact List.countP_eq_length.2 fun y hy => by simpa using h y hy
theorem khas_none {l : List SnapR} {k : Int} (h : ∀ y ∈ l, y.t < k) : khas l k = false := by
 rw [Bool.eq_false_iff]
 intro hc
 obtain ⟨y, hy, e⟩ := khas_mem.1 hc
 have := h y hy; omega
theorem Tells.next {most : Nat} {σ : Stt} {K : List SnapR} {x : SnapR} {G : GramD} (h : Tells most σ K) (hx : ∀ y ∈ K, y.t < x.t ∧ y.tm < x.tm) (h0 : G.e = 0) (ht : G.t = x.t) (hb : bad14 σ.l G.b = false) (ha : accAE σ.l G = 0) (hA : accA σ.l G = x)
   (hr : 0 ≤ x.t ∧ x.t ≤ 4294967295 ∧ -9223372036854775808 ≤ x.tm ∧ x.tm ≤ 9223372036854775807 ∧ x.l.length ≤ 64) :
   accE σ.l most σ.floor σ.gone G = 0 ∧ accT σ.l most σ.floor σ.gone G = x.t ∧ Tells most (accS most σ G) (K ++ [x]) := by
 have hl : ∀ y ∈ σ.l, y.t < x.t := fun y hy => (hx y (h.mem hy)).1
 have hk := khas_none hl
 have hp := kpos_all hl
 have hm1 := h.ok.m1
 have hn := h.len
 have hs : stl σ.l most σ.floor σ.gone G.t = false := by
   rw [Bool.eq_false_iff]
   intro hc
   unfold stl at hc
   rw [ht, kuntil_no hk, hp] at hc
   simp only [Bool.or_eq_true, Bool.and_eq_true, decide_eq_true_eq] at hc
   rcases hc with ⟨hg, hf⟩ | ⟨h1, h2⟩
   · obtain ⟨y, hy, e⟩ := h.fl hg
     have := (hx y hy).1; omega
   · omega
 have htm : tml σ.l (accA σ.l G).t (accA σ.l G).tm = true := by
   rw [hA]
   refine (tml_doc hk).2 ⟨fun h1 => ?_, fun h1 => ?_⟩
   · rw [hp] at h1 ⊢
     have hi : σ.l.length - 1 < σ.l.length := by omega
     rw [List.getD_eq_getElem?_getD, List.getElem?_eq_getElem hi]
     exact (hx _ (h.mem (List.getElem_mem hi))).2
   · rw [hp] at h1; omega
 have hkG : khas σ.l G.t = false := by rw [ht]; exact hk
 have hE1 : accE1 σ.l most σ.floor σ.gone G = 0 := by
   unfold accE1
   rw [refu_f hb, refu_f hs, refu_f hkG, h0]
 have hE : accE σ.l most σ.floor σ.gone G = 0 := by
   rw [accE_3 h0 hE1, refu_f (by rw [htm]; rfl), ha]
 have hK : kins σ.l (kpos σ.l x.t) x = σ.l ++ [x] := by rw [hp]; simp [kins]
 have hS : accS most σ G = ⟨slayL σ.l most x, slayF σ.l most σ.floor x, slayG σ.l most σ.gone x, bump σ.n 0⟩ := by
   have := (acc_ok (σ := σ) hE).2.2.2.2.2
   rw [hA] at this
   exact this
 refine ⟨hE, by unfold accT; rw [if_pos hE, hA], ?_⟩
 have hok : Oks (slayL σ.l most x) most := oks_lay h.ok hk hr
 refine ⟨?_, ?_, ?_, by rw [hS]; exact hok, ?_, ?_⟩
 · rw [hS]
   show slayL σ.l most x = _
   unfold slayL
   rw [hK, List.length_append, List.length_append, List.length_singleton]
   by_cases hc : σ.l.length + 1 ≤ most
   · rw [if_pos hc, h.l, show K.length - most = 0 by omega, show K.length + 1 - most = 0 by omega]; simp
   · rw [if_neg hc, h.l, show K.drop (K.length - most) ++ [x] = (K ++ [x]).drop (K.length - most) from (List.drop_append_of_le_length (by omega)).symm, List.drop_drop, show K.length - most + 1 = K.length + 1 - most by omega]
 · refine List.pairwise_append.2 ⟨h.ut, List.pairwise_singleton _ _, fun a ha b hb => ?_⟩
   rw [List.mem_singleton.1 hb]; exact (hx a ha).1
 · refine List.pairwise_append.2 ⟨h.um, List.pairwise_singleton _ _, fun a ha b hb => ?_⟩
   rw [List.mem_singleton.1 hb]; exact (hx a ha).2
 · rw [hS]
   show slayG σ.l most σ.gone x = true → ∃ y ∈ K ++ [x], slayF σ.l most σ.floor x = y.t
   rcases slay_cases (fl := σ.floor) (gone := σ.gone) h.ok hk (by rw [hp]; omega) with ⟨_, _, e2, e3⟩ | ⟨_, y, r, e0, _, _, e2, _⟩
   · rw [e2, e3]
     intro hg
     obtain ⟨y, hy, e⟩ := h.fl hg
     exact ⟨y, by simp [hy], e⟩
   · intro _
     exact ⟨y, List.mem_append.2 (.inl (h.mem (by rw [e0]; simp))), e2⟩
 · rw [hS]
   show bump σ.n 0 0 = _
   unfold bump
   rw [if_pos rfl, h.num, List.length_append]; rfl
theorem Tells.full {most : Nat} {σ : Stt} {K : List SnapR} {x : SnapR} (h : Tells most σ K) (hx : ∀ y ∈ K, y.t < x.t ∧ y.tm < x.tm) (hf : fErr x.t x.tm x.l = 0) (hw : ∀ e ∈ x.l, e.wf) (hg : gwErr (fG x.t x.tm x.l).t (fG x.t x.tm x.l).tm (fG x.t x.tm x.l).b (fG x.t x.tm x.l).l = 0) :
   let B := gwB (fG x.t x.tm x.l).t (fG x.t x.tm x.l).tm (fG x.t x.tm x.l).b (fG x.t x.tm x.l).l
   accE σ.l most σ.floor σ.gone (gRead B) = 0 ∧ accT σ.l most σ.floor σ.gone (gRead B) = x.t ∧ Tells most (accS most σ (gRead B)) (K ++ [x]) := by
 dsimp only
 obtain ⟨hs, _, _⟩ := full_two hf hw
 have hp := snapErr_parts hs
 have hG : gRead (gwB (fG x.t x.tm x.l).t (fG x.t x.tm x.l).tm (fG x.t x.tm x.l).b (fG x.t x.tm x.l).l) = ⟨x.t, x.tm, -1, (fG x.t x.tm x.l).l, 0⟩ := by
   rw [gread_forth (fG_wf hw) hg, fG_0 hf]
 have hfa : ∀ (a b : Int) (c : List EntR), aE a b c x.t x.tm (-1) (fG x.t x.tm x.l).l = 0 ∧ aS a b c x.t x.tm (-1) (fG x.t x.tm x.l).l = ⟨x.t, x.tm, x.l⟩ := fun a b c => by
   have := full_apply (at_ := a) (atm := b) (a := c) hf hw
   rw [fG_0 hf] at this ⊢
   exact this
 rw [hG]
 refine h.next hx rfl rfl ?_ ?_ ?_ ⟨hp.1, hp.2.1, by omega, by omega, hp.2.2.2.2.1⟩
 · unfold bad14; simp
 · exact (hfa _ _ _).1
 · exact (hfa _ _ _).2
theorem Tells.diff {most : Nat} {σ : Stt} {K : List SnapR} {x z : SnapR} (h : Tells most σ (K ++ [z])) (hx : z.t < x.t ∧ z.tm < x.tm) (hd : dErr z.t z.tm z.l x.t x.tm x.l = 0) (hwz : ∀ e ∈ z.l, e.wf) (hw : ∀ e ∈ x.l, e.wf)
   (hg : gwErr (dG z.t z.tm z.l x.t x.tm x.l).t (dG z.t z.tm z.l x.t x.tm x.l).tm (dG z.t z.tm z.l x.t x.tm x.l).b (dG z.t z.tm z.l x.t x.tm x.l).l = 0) :
   let B := gwB (dG z.t z.tm z.l x.t x.tm x.l).t (dG z.t z.tm z.l x.t x.tm x.l).tm (dG z.t z.tm z.l x.t x.tm x.l).b (dG z.t z.tm z.l x.t x.tm x.l).l
   accE σ.l most σ.floor σ.gone (gRead B) = 0 ∧ accT σ.l most σ.floor σ.gone (gRead B) = x.t ∧ Tells most (accS most σ (gRead B)) (K ++ [z] ++ [x]) := by
 dsimp only
 obtain ⟨h1, h2, _, _⟩ := dErr_parts hd
 have hp := snapErr_parts h2
 have hG : gRead (gwB (dG z.t z.tm z.l x.t x.tm x.l).t (dG z.t z.tm z.l x.t x.tm x.l).tm (dG z.t z.tm z.l x.t x.tm x.l).b (dG z.t z.tm z.l x.t x.tm x.l).l) = ⟨x.t, x.tm, z.t, (dG z.t z.tm z.l x.t x.tm x.l).l, 0⟩ := by
   rw [gread_forth (dG_wf hwz hw) hg, dG_0 hd]
 have hda : aE z.t z.tm z.l x.t x.tm z.t (dG z.t z.tm z.l x.t x.tm x.l).l = 0 ∧ aS z.t z.tm z.l x.t x.tm z.t (dG z.t z.tm z.l x.t x.tm x.l).l = ⟨x.t, x.tm, x.l⟩ := by
   have := diff_apply hd hwz hw
   rw [dG_0 hd] at this ⊢
   exact this
 have hm1 := h.ok.m1
 have hlast : σ.l = (K ++ [z]).dropLast.drop ((K ++ [z]).length - most) ++ [z] := by
   rw [h.l, List.dropLast_concat, List.drop_append_of_le_length (by rw [List.length_append, List.length_singleton]; omega)]
 have hall : ∀ y ∈ K ++ [z], y.t < x.t ∧ y.tm < x.tm := fun y hy => by
   rcases List.mem_append.1 hy with hy | hy
   · have h3 := (List.pairwise_append.1 h.ut).2.2 y hy z (by simp)
     have h4 := (List.pairwise_append.1 h.um).2.2 y hy z (by simp)
     omega
   · rw [List.mem_singleton.1 hy]; exact hx
 have hkz : khas σ.l z.t = true := khas_mem.2 ⟨z, by rw [hlast]; simp, rfl⟩
 have hgz : sget σ.l z.t = z := by
   unfold sget
   rw [if_pos hkz]
   obtain ⟨h5, h6⟩ := (khas_iff h.ok.srt).1 hkz
   have hlt : ∀ y ∈ σ.l.dropLast, y.t < z.t := fun y hy => by
     rw [hlast, List.dropLast_concat, List.dropLast_concat] at hy
     exact (List.pairwise_append.1 h.ut).2.2 y (List.mem_of_mem_drop hy) z (by simp)
   have hne : kpos σ.l z.t = σ.l.length - 1 := by
     refine kpos_eq (fun t ht => ?_) (fun t ht hl => ?_) (by omega)
     · have hi : t < σ.l.dropLast.length := by rw [List.length_dropLast]; exact ht
       have := hlt _ (List.getElem_mem hi)
       rw [List.getElem_dropLast] at this
       rw [List.getD_eq_getElem?_getD, List.getElem?_eq_getElem (by omega)]
       exact this
     · have e : t = σ.l.length - 1 := by omega
       subst e
       have : σ.l.getD (σ.l.length - 1) default = z := by
         rw [hlast]; simp [List.getD_eq_getElem?_getD]
       rw [this]; omega
   rw [hne]
   rw [hlast]; simp [List.getD_eq_getElem?_getD]
 rw [hG]
 refine h.next hall rfl rfl ?_ ?_ ?_ ⟨hp.1, hp.2.1, by omega, by omega, hp.2.2.2.2.1⟩
 · show bad14 σ.l z.t = false
   unfold bad14; rw [hkz]; rfl
 · show aE (sget σ.l z.t).t (sget σ.l z.t).tm (sget σ.l z.t).l x.t x.tm z.t _ = 0
   rw [hgz]; exact hda.1
 · show aS (sget σ.l z.t).t (sget σ.l z.t).tm (sget σ.l z.t).l x.t x.tm z.t _ = _
   rw [hgz]; exact hda.2
structure SnOk (w0 : World) (x : RI) : Prop where
 t : -9223372036854775808 ≤ x.t ∧ x.t ≤ 9223372036854775807
 tm : -9223372036854775808 ≤ x.tm ∧ x.tm ≤ 9223372036854775807
 wf : ∀ e ∈ x.l, e.wf
 rd : Rd w0 [] x.v 9 x.l.length (x.l.flatMap entV)
theorem sns_snoc1 (K : List RI) (x : RI) : sns (K ++ [x]) = sns K ++ [x.sn] := by simp [sns]
theorem last_snoc {K : List RI} (h : 0 < K.length) : K = K.dropLast ++ [K.getD (K.length - 1) default] := by
 have hne : K ≠ [] := by intro e; subst e; simp at h
 have := List.dropLast_concat_getLast hne
 rw [List.getD_eq_getElem?_getD, List.getElem?_eq_getElem (by omega)]
 rw [List.getLast_eq_getElem] at this
 exact this.symm
theorem Tells.rise {most : Nat} {σ : Stt} {K : List RI} {x : RI} (h : Tells most σ (sns K)) (hK : 0 < K.length → (K.getD (K.length - 1) default).t < x.t ∧ (K.getD (K.length - 1) default).tm < x.tm) : ∀ y ∈ sns K, y.t < x.sn.t ∧ y.tm < x.sn.tm := by
 intro y hy
 rcases Nat.eq_zero_or_pos K.length with h0 | h0
 · rw [List.length_eq_zero_iff.1 h0] at hy; simp [sns] at hy
 have hz := hK h0
 have h1 := h.ut
 have h2 := h.um
 have e1 := last_snoc h0
 generalize K.getD (K.length - 1) default = z at e1 hz
 rw [e1, sns_snoc1] at hy h1 h2
 rcases List.mem_append.1 hy with hy | hy
 · have h3 := (List.pairwise_append.1 h1).2.2 y hy z.sn (List.mem_singleton.2 rfl)
   have h4 := (List.pairwise_append.1 h2).2.2 y hy z.sn (List.mem_singleton.2 rfl)
   exact ⟨Int.lt_trans h3 hz.1, Int.lt_trans h4 hz.2⟩
 · rw [List.mem_singleton.1 hy]; exact hz
theorem Tells.fullR {most : Nat} {σ : Stt} {K : List RI} {x : RI} (h : Tells most σ (sns K)) (hK : 0 < K.length → (K.getD (K.length - 1) default).t < x.t ∧ (K.getD (K.length - 1) default).tm < x.tm) (hf : fErr x.t x.tm x.l = 0) (hw : ∀ e ∈ x.l, e.wf) (hg : gwErr (fG x.t x.tm x.l).t (fG x.t x.tm x.l).tm (fG x.t x.tm x.l).b (fG x.t x.tm x.l).l = 0) :
   accE σ.l most σ.floor σ.gone (gRead (gwB (fG x.t x.tm x.l).t (fG x.t x.tm x.l).tm (fG x.t x.tm x.l).b (fG x.t x.tm x.l).l)) = 0 ∧ accT σ.l most σ.floor σ.gone (gRead (gwB (fG x.t x.tm x.l).t (fG x.t x.tm x.l).tm (fG x.t x.tm x.l).b (fG x.t x.tm x.l).l)) = x.t ∧
     Tells most (accS most σ (gRead (gwB (fG x.t x.tm x.l).t (fG x.t x.tm x.l).tm (fG x.t x.tm x.l).b (fG x.t x.tm x.l).l))) (sns (K ++ [x])) := by
 rw [sns_snoc1]
 exact h.full (x := x.sn) (h.rise hK) hf hw hg
theorem Tells.diffR {most : Nat} {σ : Stt} {K : List RI} {x : RI} (h : Tells most σ (sns K)) (h0 : 0 < K.length) (hz : (K.getD (K.length - 1) default).t < x.t ∧ (K.getD (K.length - 1) default).tm < x.tm)
   (hd : dErr (K.getD (K.length - 1) default).t (K.getD (K.length - 1) default).tm (K.getD (K.length - 1) default).l x.t x.tm x.l = 0) (hwz : ∀ e ∈ (K.getD (K.length - 1) default).l, e.wf) (hw : ∀ e ∈ x.l, e.wf)
   (hg : gwErr (dG (K.getD (K.length - 1) default).t (K.getD (K.length - 1) default).tm (K.getD (K.length - 1) default).l x.t x.tm x.l).t (dG (K.getD (K.length - 1) default).t (K.getD (K.length - 1) default).tm (K.getD (K.length - 1) default).l x.t x.tm x.l).tm (dG (K.getD (K.length - 1) default).t (K.getD (K.length - 1) default).tm (K.getD (K.length - 1) default).l x.t x.tm x.l).b (dG (K.getD (K.length - 1) default).t (K.getD (K.length - 1) default).tm (K.getD (K.length - 1) default).l x.t x.tm x.l).l = 0)
   {B : List Byte} (hB : B = gwB (dG (K.getD (K.length - 1) default).t (K.getD (K.length - 1) default).tm (K.getD (K.length - 1) default).l x.t x.tm x.l).t (dG (K.getD (K.length - 1) default).t (K.getD (K.length - 1) default).tm (K.getD (K.length - 1) default).l x.t x.tm x.l).tm (dG (K.getD (K.length - 1) default).t (K.getD (K.length - 1) default).tm (K.getD (K.length - 1) default).l x.t x.tm x.l).b (dG (K.getD (K.length - 1) default).t (K.getD (K.length - 1) default).tm (K.getD (K.length - 1) default).l x.t x.tm x.l).l) :
   accE σ.l most σ.floor σ.gone (gRead B) = 0 ∧ accT σ.l most σ.floor σ.gone (gRead B) = x.t ∧ Tells most (accS most σ (gRead B)) (sns (K ++ [x])) := by
 subst hB
 generalize hzz : K.getD (K.length - 1) default = z at *
 have hK := last_snoc h0
 rw [hzz] at hK
 rw [hK, sns_snoc1] at h
 rw [hK, sns_snoc1, sns_snoc1]
 exact h.diff (x := x.sn) (z := z.sn) hz hd hwz hw hg
theorem Tells.kept {most : Nat} {σ : Stt} {K : List RI} (h : Tells most σ (sns K)) {i : Nat} (hi : i < σ.l.length) :
   sat σ.l (i : Int) = ((K.drop (K.length - σ.l.length)).getD i default).sn ∧ ratE σ.l (i : Int) = 0 := by
 have hn := h.len
 rw [sns_len] at hn
 have hl : σ.l = sns (K.drop (K.length - σ.l.length)) := by
   have := h.l
   rw [sns_len] at this
   rw [show K.length - σ.l.length = K.length - most by omega, this]
   unfold sns
   rw [List.map_drop]
 have hlen : (K.drop (K.length - σ.l.length)).length = σ.l.length := by rw [List.length_drop]; omega
 constructor
 · unfold sat
   rw [if_pos (by omega), Int.toNat_natCast]
   conv => lhs; rw [hl]
   exact sns_get _ (by omega)
 · unfold ratE; rw [if_pos (by omega)]
theorem rd_dropS {w : World} {T : List Nat} {v : Value} {K : List RI} (d : Nat) (hd : d ≤ K.length) (h : Rd w T v 3 K.length (K.flatMap snV)) : Rd w T (slcV v 3 d K.length) 3 (K.drop d).length ((K.drop d).flatMap snV) := by
 have h1 := h.slc (l := d) (h := K.length) (by omega) (by omega)
 rw [List.length_drop]
 have e : ∀ (K : List RI) (d : Nat), (K.flatMap snV).drop (d * 3) = (K.drop d).flatMap snV := fun K => by
   induction K with
   | nil => intro d; simp
   | cons x r ih =>
     intro d
     cases d with
     | zero => simp
     | succ d =>
       rw [List.flatMap_cons, List.drop_succ_cons, ← ih d, show (d + 1) * 3 = (snV x).length + d * 3 by show _ = 3 + d * 3; omega, List.drop_append]
       simp
 rw [e K d] at h1
 rwa [List.take_of_length_le (by rw [flat_len snV_len, List.length_drop]; omega)] at h1
theorem rd_dropV {T : List Nat} {K : List RI} {d : Nat} (hd : d ≤ K.length) (w : World) (v : Value) (h : Rd w T v 3 K.length (K.flatMap snV)) : Rd w T (slcV v 3 d K.length) 3 (K.drop d).length ((K.drop d).flatMap snV) := rd_dropS d hd h
theorem bools_get {B : List Bool} {i : Nat} (h : i < B.length) : (B.map Value.bool)[i]? = some (.bool (B.getD i false)) := by
 rw [List.getElem?_map, List.getD_eq_getElem?_getD, List.getElem?_eq_getElem h]; rfl
end Go.Sx
