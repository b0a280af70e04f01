import Derived.Test.YtajjkegcfmhghaaGreatQSxStos
import Derived.Test.YtajjkegcfmhghaaGreatQSxGrams
import Derived.Test.YtajjkegcfmhghaaGreatQG8
import Derived.Test.YtajjkegcfmhghaaGreatQSxBasB
import Derived.Defers
import Derived.OrdersIn
import Derived.Test.YtajjkegcfmhghaaGreatQSxDel
import Derived.Test.YtajjkegcfmhghaaGreatQSxRecs
/- Stores: the example; what is refused changes a count alone; order. Plain mathematics. -/
set_option linter.unusedVariables false
set_option linter.unusedSimpArgs false
namespace Go.Sx
/-! ### What a store keeps to, told more closely -/
def zPz (σ:Stt) (t:Int):Prop:=zCR σ.l t = true ∨ (σ.gone = true ∧ t ≤ σ.floor)
def zM5 (σ:Stt):Prop:=σ.gone = true → ∀ x ∈ σ.l,σ.floor < x.t
theorem zDf {l:List zAC} {k:Int}:zCR l k = true ↔ ∃ x ∈ l,x.t = k:=by
 unfold zCR
 rw [List.any_eq_true]
 constructor
 · rintro ⟨x,h,e⟩;exact ⟨x,h,by simpa using e⟩
 · rintro ⟨x,h,e⟩;exact ⟨x,h,by simpa using e⟩
theorem zFS {α:Type} {l:List α} {i:Nat} {x y:α}:y ∈ zBj l i x ↔ y = x ∨ y ∈ l:=by
 constructor
 · exact zOD
 · unfold zBj
   rintro (rfl | h)
   · simp
   · rw [← List.take_append_drop i l] at h
     simp only [List.mem_append,List.mem_cons] at h ⊢
     rcases h with h | h <;> simp [h]
theorem zG6 {l : List zAC} {most : Nat} {fl : Int} {gone : Bool} {x : zAC} (ho : Oks l most) (hk : zCR l x.t = false) (hz : ¬ (zAT l x.t = 0 ∧ l.length = most)) :
   (l.length < most ∧ zHR l most x = zBj l (zAT l x.t) x ∧ zND l most fl x = fl ∧ zMZ l most gone x = gone) ∨
   (l.length = most ∧ ∃ y r,l = y :: r ∧ y.t < x.t ∧ zBj l (zAT l x.t) x = y :: zHR l most x ∧ zND l most fl x = y.t ∧ zMZ l most gone x = true):=by
 have hl:=zGW l x (zC1 l x.t)
 have hle:=ho.le
 unfold zHR zND zMZ
 by_cases h:(zBj l (zAT l x.t) x).length ≤ most
 · left
   rw [if_pos h,if_pos h,if_pos h]
   exact ⟨by omega,rfl,rfl,rfl⟩
 · right
   rw [if_neg h,if_neg h,if_neg h]
   have hlm:l.length = most:=by omega
   have hp:0 < zAT l x.t:=by
     rcases Nat.eq_zero_or_pos (zAT l x.t) with h0 | h0
     · exact absurd ⟨h0,hlm⟩ hz
     · exact h0
   cases l with
   | nil=>simp [zAT] at hp
   | cons y r =>
     have hy:=zMb ho.srt hp
     have hy:y.t < x.t:=by simpa using hy
     have e:zBj (y :: r) (zAT (y :: r) x.t) x = y :: (zBj (y :: r) (zAT (y :: r) x.t) x).drop 1:=by
       obtain ⟨p,hpe⟩ : ∃ p,zAT (y :: r) x.t = p + 1:=⟨zAT (y :: r) x.t - 1,by omega⟩
       rw [hpe]
       simp [zBj]
     refine ⟨hlm,y,r,rfl,hy,e,?_,rfl⟩
     rw [e];rfl
theorem zK0 {σ:Stt} {most:Nat} {G:zBx} (h:zBF σ.l most σ.floor σ.gone G = 0):zCR σ.l (zAP σ.l G).t = false ∧ ¬ (zAT σ.l (zAP σ.l G).t = 0 ∧ σ.l.length = most) ∧ ¬ (σ.gone = true ∧ (zAP σ.l G).t ≤ σ.floor) ∧ (zAP σ.l G).t = G.t ∧ (zAP σ.l G).tm = G.tm ∧ zBp most σ G = ⟨zHR σ.l most (zAP σ.l G),zND σ.l most σ.floor (zAP σ.l G),zMZ σ.l most σ.gone (zAP σ.l G),zBG σ.n 0⟩:=by
 obtain ⟨_,h2,h3,_,h5,_⟩:=zI9 h
 have h7:=zNb h5
 refine ⟨by rw [h7.1];exact h2,fun hc=>?_,fun hc=>?_,h7.1,h7.2,if_pos h⟩
 · rw [h7.1] at hc
   unfold stl at h3
   rw [kuntil_no' h2,hc.1,hc.2] at h3
   simp at h3
 · rw [h7.1] at hc
   unfold stl at h3
   rw [hc.1] at h3
   simp [hc.2] at h3
where kuntil_no' {l:List zAC} {k:Int} (h:zCR l k = false):zAA l k = zAT l k:=by unfold zAA;rw [h];rfl
theorem zJM {σ:Stt} {most:Nat} {G:zBx} (h:zBF σ.l most σ.floor σ.gone G ≠ 0):zBp most σ G = ⟨σ.l,σ.floor,σ.gone,zBG σ.n (zBF σ.l most σ.floor σ.gone G)⟩:=if_neg h
theorem zGA {σ:Stt} {most:Nat} {G:zBx} (ho:Oks σ.l most) (ha:zM5 σ):zM5 (zBp most σ G):=by
 by_cases h:zBF σ.l most σ.floor σ.gone G = 0
 · obtain ⟨h1,h2,h3,_,_,h4⟩:=zK0 h
   rw [h4]
   rcases zG6 (fl:=σ.floor) (gone:=σ.gone) ho h1 h2 with ⟨_,e1,e2,e3⟩ | ⟨_,y,r,e0,hy,e1,e2,e3⟩
   · unfold zM5
     rw [e1,e2,e3]
     intro hg x hx
     rcases zFS.1 hx with rfl | hx
     · dsimp only at hg ⊢;have:¬ _:=fun hc=>h3 ⟨hg,hc⟩;omega
     · exact ha hg x hx
   · unfold zM5
     dsimp only
     rw [e2]
     intro _ x hx
     have hs:=zN0 (x:=zAP σ.l G) ho.srt h1
     rw [e1] at hs
     exact (List.pairwise_cons.1 hs).1 x hx
 · rw [zJM h];exact ha
theorem zHg {σ:Stt} {most:Nat} {G:zBx} {t:Int} (ho:Oks σ.l most) (ha:zM5 σ) (hh:zPz σ t):zPz (zBp most σ G) t:=by
 by_cases h:zBF σ.l most σ.floor σ.gone G = 0
 · obtain ⟨h1,h2,h3,_,_,h4⟩:=zK0 h
   rw [h4]
   rcases zG6 (fl:=σ.floor) (gone:=σ.gone) ho h1 h2 with ⟨_,e1,e2,e3⟩ | ⟨_,y,r,e0,hy,e1,e2,e3⟩
   · unfold zPz
     dsimp only
     rw [e1,e2,e3]
     rcases hh with hh | hh
     · left
       obtain ⟨x,hx,he⟩:=zDf.1 hh
       exact zDf.2 ⟨x,zFS.2 (.inr hx),he⟩
     · exact .inr hh
   · unfold zPz
     dsimp only
     rw [e2,e3]
     rcases hh with hh | hh
     · obtain ⟨x,hx,he⟩:=zDf.1 hh
       have hm:x ∈ zBj σ.l (zAT σ.l (zAP σ.l G).t) (zAP σ.l G):=zFS.2 (.inr hx)
       rw [e1] at hm
       rcases List.mem_cons.1 hm with rfl | hm
       · right;exact ⟨rfl,by omega⟩
       · left;exact zDf.2 ⟨x,hm,he⟩
     · right
       have:=ha hh.1 y (by rw [e0];simp)
       exact ⟨rfl,by omega⟩
 · rw [zJM h];exact hh
theorem zS3 {σ:Stt} {most:Nat} {G:zBx} (ho:Oks σ.l most) (h:zBF σ.l most σ.floor σ.gone G = 0):zCR (zBp most σ G).l G.t = true:=by
 obtain ⟨h1,h2,h3,h5,_,h4⟩:=zK0 h
 rw [h4,← h5]
 dsimp only
 rcases zG6 (fl:=σ.floor) (gone:=σ.gone) ho h1 h2 with ⟨_,e1,e2,e3⟩ | ⟨_,y,r,e0,hy,e1,e2,e3⟩
 · rw [e1];exact zDf.2 ⟨_,zFS.2 (.inl rfl),rfl⟩
 · have hm:zAP σ.l G ∈ zBj σ.l (zAT σ.l (zAP σ.l G).t) (zAP σ.l G):=zFS.2 (.inl rfl)
   rw [e1] at hm
   rcases List.mem_cons.1 hm with he | hm
   · rw [← he] at hy;omega
   · exact zDf.2 ⟨_,hm,rfl⟩
theorem zNc {l:List zAC} {most:Nat} {fl:Int} {gone:Bool} {G:zBx} (h:G.e = 0) (hk:zCR l G.t = true):zBF l most fl gone G = 12:=by
 have e:zGE l most fl gone G = 12:=by
   unfold zGE
   rw [zJH h hk,zHC (e:=12) (by decide),zHC (e:=12) (by decide)]
 rw [zIq h (by omega),e]
theorem zXD {σ:Stt} {most:Nat} {G:zBx} (h:G.e = 0) (hk:zCR σ.l G.t = false) (hh:zPz σ G.t):zBF σ.l most σ.floor σ.gone G = 13:=by
 have hs:stl σ.l most σ.floor σ.gone G.t = true:=by
   rcases hh with hh | ⟨h1,h2⟩
   · rw [hk] at hh;cases hh
   · unfold stl;rw [h1];simp [h2]
 have e:zGE σ.l most σ.floor σ.gone G = 13:=by
   unfold zGE
   rw [zJJ hk,zJH h hs,zHC (e:=13) (by decide)]
 rw [zIq h (by omega),e]
structure zIr (most:Nat) (σ:Stt) (K:List (List zP)):Prop where
 ok:Oks σ.l most
 ab:zM5 σ
 got:∀ b ∈ K,(zA b).e = 0 ∧ zPz σ (zA b).t
 num:σ.n 0 = K.length
theorem zIr.start {most:Nat} (h:1 ≤ most ∧ most ≤ 64):zIr most zWa []:=⟨zYS h,fun hh=>(by cases hh),by simp,rfl⟩
theorem zIr.no {most:Nat} {σ:Stt} {K:List (List zP)} {b:List zP} (h:zIr most σ K) (he:zBF σ.l most σ.floor σ.gone (zA b) ≠ 0):zIr most (zBp most σ (zA b)) K:=by
 refine ⟨zHy h.ok,zGA h.ok h.ab,fun c hc=>⟨(h.got c hc).1,zHg h.ok h.ab (h.got c hc).2⟩,?_⟩
 rw [zJM he]
 show zBG σ.n _ 0 = _
 unfold zBG
 rw [if_neg (fun e=>he e.symm),h.num]
theorem zIr.yes {most : Nat} {σ : Stt} {K : List (List zP)} {b : List zP} (h : zIr most σ K) (he : zBF σ.l most σ.floor σ.gone (zA b) = 0) :
   zBF (zBp most σ (zA b)).l most (zBp most σ (zA b)).floor (zBp most σ (zA b)).gone (zA b) = 12 ∧ zIr most (zBp most (zBp most σ (zA b)) (zA b)) (K ++ [b]):=by
 have h0:=(zI9 he).1
 have hh:=zS3 h.ok he
 have hd:=zNc (most:=most) (fl:=(zBp most σ (zA b)).floor) (gone:=(zBp most σ (zA b)).gone) h0 hh
 have hok:=zHy (bs:=b) h.ok
 have hab:=zGA (G:=zA b) h.ok h.ab
 refine ⟨hd,zHy hok,zGA hok hab,fun c hc=>?_,?_⟩
 · rcases List.mem_append.1 hc with hc | hc
   · exact ⟨(h.got c hc).1,zHg hok hab (zHg h.ok h.ab (h.got c hc).2)⟩
   · rw [List.mem_singleton.1 hc]
     exact ⟨h0,zHg hok hab (.inl hh)⟩
 · rw [zJM (by rw [hd];decide)]
   show zBG (zBp most σ (zA b)).n _ 0 = _
   rw [hd]
   unfold zBG
   rw [if_neg (by decide),(zK0 he).2.2.2.2.2]
   show zBG σ.n 0 0 = _
   unfold zBG
   rw [if_pos rfl,h.num,List.length_append];rfl
theorem zIr.again {most:Nat} {σ:Stt} {K:List (List zP)} {b:List zP} (h:zIr most σ K) (hb:b ∈ K):(zA b).e = 0 ∧ zBF σ.l most σ.floor σ.gone (zA b) = (if zCR σ.l (zA b).t = true then 12 else 13) ∧ zIr most (zBp most σ (zA b)) K:=by
 obtain ⟨h1,h2⟩:=h.got b hb
 have e:zBF σ.l most σ.floor σ.gone (zA b) = (if zCR σ.l (zA b).t = true then 12 else 13):=by
   split
   · next hk=>exact zNc h1 hk
   · next hk=>exact zXD h1 (by simpa using hk) h2
 exact ⟨h1,e,h.no (by rw [e];split <;> decide)⟩
/-! ### Order -/
theorem zGq : ∀ (n:Nat) (was:List zS) (rl:List zX),was.length + rl.length ≤ n → (∀ r ∈ rl,zAJ r = 0) → ∀ l,apl was rl = some l → ∀ x ∈ l,(∃ y ∈ was,y.id = x.id) ∨ (∃ r ∈ rl,r.id = x.id)
 | _,was,[],_,_,l,h,x,hx=>by
   unfold apl at h
   injection h with h
   subst h
   exact .inl ⟨x,hx,rfl⟩
 | 0,was,r :: rl,hn,_,_,_,_,_=>by simp at hn
 | n + 1,[],r :: rl,hn,hc,l,h,x,hx=>by
   unfold apl at h
   split at h
   · obtain ⟨l',h1,rfl⟩:=Option.map_eq_some_iff.1 h
     rcases List.mem_cons.1 hx with rfl | hx
     · exact .inr ⟨r,by simp,rfl⟩
     · rcases zGq n [] rl (by simp at hn ⊢;omega) (fun r hr=>hc r (by simp [hr])) l' h1 x hx with ⟨y,hy,_⟩ | ⟨r',hr,e⟩
       · cases hy
       · exact .inr ⟨r',by simp [hr],e⟩
   · cases h
 | n + 1,y :: was,r :: rl,hn,hc,l,h,x,hx=>by
   have up:∀ {was':List zS} {rl':List zX},((∃ y ∈ was',y.id = x.id) ∨ (∃ r ∈ rl',r.id = x.id)) → (∀ z ∈ was',z ∈ y :: was) → (∀ z ∈ rl',z ∈ r :: rl) → ((∃ z ∈ y :: was,z.id = x.id) ∨ (∃ z ∈ r :: rl,z.id = x.id)):=fun h h1 h2=>by
     rcases h with ⟨z,hz,e⟩ | ⟨z,hz,e⟩
     · exact .inl ⟨z,h1 z hz,e⟩
     · exact .inr ⟨z,h2 z hz,e⟩
   have hc':∀ z ∈ rl,zAJ z = 0:=fun r hr=>hc r (by simp [hr])
   unfold apl at h
   split at h
   · obtain ⟨l',h1,rfl⟩:=Option.map_eq_some_iff.1 h
     rcases List.mem_cons.1 hx with rfl | hx
     · exact .inl ⟨x,by simp,rfl⟩
     · exact up (zGq n was (r :: rl) (by simp at hn ⊢;omega) hc l' h1 x hx) (by simp +contextual) (by simp)
   · split at h
     · rename_i hid
       split at h
       · cases h
       · rename_i hk0
         split at h
         · exact up (zGq n was rl (by simp at hn ⊢;omega) hc' l h x hx) (by simp +contextual) (by simp +contextual)
         · rename_i hk2
           obtain ⟨l',h1,rfl⟩:=Option.map_eq_some_iff.1 h
           rcases List.mem_cons.1 hx with rfl | hx
           · refine .inl ⟨y,by simp,?_⟩
             exact (zFt (hc r (by simp)) hid.symm hk0 hk2).1.symm
           · exact up (zGq n was rl (by simp at hn ⊢;omega) hc' l' h1 x hx) (by simp +contextual) (by simp +contextual)
     · split at h
       · obtain ⟨l',h1,rfl⟩:=Option.map_eq_some_iff.1 h
         rcases List.mem_cons.1 hx with rfl | hx
         · exact .inr ⟨r,by simp,rfl⟩
         · exact up (zGq n (y :: was) rl (by simp at hn ⊢;omega) hc' l' h1 x hx) (by simp) (by simp +contextual)
       · cases h
theorem zO3 {at_ atm gt gtm gb:Int} {a:List zS} {rl:List zX} (h:aE at_ atm a gt gtm gb rl = 0):zW (aS at_ atm a gt gtm gb rl).t (aS at_ atm a gt gtm gb rl).tm (aS at_ atm a gt gtm gb rl).l = 0:=by
 obtain ⟨h1,h2,l,h3,h4⟩:=zOK h
 obtain ⟨hg,hr⟩:=zC7 h1
 obtain ⟨g1,g2,g3,g4,_⟩:=zFL hg
 obtain ⟨hs,hc⟩:=zFF hr
 have hw:=zL8 h2
 rw [zb2 h,h3]
 dsimp only [Option.getD_some]
 have hS:Srt l:=(zJz _ (zEz gb a) rl (Nat.le_refl _) [] (zEz gb a) (List.Perm.refl _) hw (by simp) hs (fun r hr=>(hc r hr).1)).2 l h3 |>.1
 have hR:∀ x ∈ l,0 ≤ x.id ∧ x.id ≤ 65535:=fun x hx=>by
   rcases zGq _ (zEz gb a) rl (Nat.le_refl _) (fun r hr=>(hc r hr).1) l h3 x hx with ⟨y,hy,e⟩ | ⟨r,hr,e⟩
   · unfold zEz at hy
     split at hy
     · rename_i hg
       have:=zJu (zCG (h2 hg).1).2.2.2.2.2 y hy
       omega
     · cases hy
   · have:=(hc r hr).2;omega
 rw [zBy (by omega) (by omega)]
 exact zZM hS hR
structure zMV (σ:Stt) (most:Nat):Prop where
 ok:Oks σ.l most
 sn:∀ x ∈ σ.l,zW x.t x.tm x.l = 0
 up:σ.l.Pairwise fun x y=>x.tm < y.tm
theorem zR2 {l:List zAC} {x:zAC} {i:Nat} (h:l.Pairwise fun x y=>x.tm < y.tm) (hi:i ≤ l.length) (h1:0 < i → (l.getD (i - 1) default).tm < x.tm) (h2:i < l.length → x.tm < (l.getD i default).tm):(zBj l i x).Pairwise fun x y=>x.tm < y.tm:=by
 have hp:=List.pairwise_iff_getElem.1 h
 have b1:∀ y ∈ l.take i,y.tm < x.tm:=fun y hy=>by
   obtain ⟨j,hj,rfl⟩:=List.getElem_of_mem hy
   rw [List.length_take] at hj
   rw [List.getElem_take]
   have h3:=h1 (by omega)
   rw [List.getD_eq_getElem?_getD,List.getElem?_eq_getElem (show i - 1 < l.length by omega)] at h3
   change (l[i - 1]).tm < x.tm at h3
   by_cases e:j = i - 1
   · subst e;exact h3
   · have:=hp j (i - 1) (by omega) (by omega) (by omega);omega
 have b2:∀ y ∈ l.drop i,x.tm < y.tm:=fun y hy=>by
   obtain ⟨j,hj,rfl⟩:=List.getElem_of_mem hy
   rw [List.length_drop] at hj
   rw [List.getElem_drop]
   have h3:=h2 (by omega)
   rw [List.getD_eq_getElem?_getD,List.getElem?_eq_getElem (show i < l.length by omega)] at h3
   change x.tm < (l[i]).tm at h3
   by_cases e:j = 0
   · subst e;simpa using h3
   · have:=hp i (i + j) (by omega) (by omega) (by omega);omega
 unfold zBj
 refine List.pairwise_append.2 ⟨h.take,List.pairwise_cons.2 ⟨b2,h.drop⟩,fun a ha b hb=>?_⟩
 rcases List.mem_cons.1 hb with rfl | hb
 · exact b1 a ha
 · have:=b1 a ha;have:=b2 b hb;omega
theorem zMV.start {most:Nat} (h:1 ≤ most ∧ most ≤ 64):zMV zWa most:=⟨zYS h,by simp [zWa],List.Pairwise.nil⟩
theorem zMV.acc {σ:Stt} {most:Nat} {bs:List zP} (h:zMV σ most):zMV (zBp most σ (zA bs)) most:=by
 refine ⟨zHy h.ok,?_,?_⟩
 all_goals
   by_cases he:zBF σ.l most σ.floor σ.gone (zA bs) = 0
   · obtain ⟨h1,h2,h3,h5,h6,h4⟩:=zK0 he
     rw [h4]
     have h7:=zI9 he
     have hA:zW (zAP σ.l (zA bs)).t (zAP σ.l (zA bs)).tm (zAP σ.l (zA bs)).l = 0:=zO3 h7.2.2.2.2.1
     have ht:=(zZo h1).1 h7.2.2.2.2.2
     have hr:=zR2 (x:=zAP σ.l (zA bs)) h.up (zC1 _ _) ht.1 ht.2
     have hm:∀ x ∈ zBj σ.l (zAT σ.l (zAP σ.l (zA bs)).t) (zAP σ.l (zA bs)),zW x.t x.tm x.l = 0:=fun x hx=>by
       rcases zFS.1 hx with rfl | hx
       · exact hA
       · exact h.sn x hx
     dsimp only
     unfold zHR
     split
     · first | exact hm | exact hr
     · first | exact fun x hx=>hm x (List.mem_of_mem_drop hx) | exact hr.drop
   · rw [zJM he]
     first | exact h.sn | exact h.up
theorem zMV.at_ {σ:Stt} {most i:Nat} (h:zMV σ most) (hi:i < σ.l.length):zKf σ.l ((i:Nat):Int) = 0 ∧ sat σ.l ((i:Nat):Int) = σ.l.getD i default ∧ zW (σ.l.getD i default).t (σ.l.getD i default).tm (σ.l.getD i default).l = 0 ∧ (0 < i → (σ.l.getD (i - 1) default).t < (σ.l.getD i default).t ∧ (σ.l.getD (i - 1) default).tm < (σ.l.getD i default).tm):=by
 have hg:σ.l.getD i default = σ.l[i]:=by rw [List.getD_eq_getElem?_getD,List.getElem?_eq_getElem hi];rfl
 refine ⟨if_pos ⟨by omega,by omega⟩,if_pos ⟨by omega,by omega⟩,?_,fun h0=>?_⟩
 · rw [hg];exact h.sn _ (List.getElem_mem hi)
 · have hg':σ.l.getD (i - 1) default = σ.l[i - 1]:=by rw [List.getD_eq_getElem?_getD,List.getElem?_eq_getElem (by omega)];rfl
   rw [hg,hg']
   exact ⟨List.pairwise_iff_getElem.1 h.ok.srt _ _ (by omega) hi (by omega),List.pairwise_iff_getElem.1 h.up _ _ (by omega) hi (by omega)⟩
/-! ### Bytes that came in, several -/
structure BR where
 v:Value
 bs:List zP
instance : Inhabited BR:=⟨⟨.slice none 0 0,[]⟩⟩
end Go.Sx
/- A datagram whose base isn't kept is refused: plain mathematics. -/
set_option linter.unusedVariables false
namespace Go.Sx
def Abv (C:CS):Prop:=zM5 C.σ ∧ (C.σ.gone = true → 0 < C.σ.l.length)
theorem Abv.zero (c:zAO):Abv (C0 c):=And.intro (fun (h:false = true)=>absurd h (by decide)) (fun (h:false = true)=>absurd h (by decide))
theorem Abv.acc {c:zAO} {C:CS} {x:Int} {G:zBx} (ho:Oks C.σ.l c.keep) (h:Abv C):Abv (zIw c C x G):=by
 refine ⟨zGA (G:=G) ho h.1,?_⟩
 show (zBp c.keep C.σ G).gone = true → 0 < (zBp c.keep C.σ G).l.length
 by_cases he:zBF C.σ.l c.keep C.σ.floor C.σ.gone G = 0
 · intro _
   obtain ⟨y,hy,_⟩:=zDf.1 (zS3 ho he)
   exact List.length_pos_of_mem hy
 · rw [zJM he];exact h.2
theorem Abv.do_ {c:zAO} {C:CS} {e:EvR} (ho:Oks C.σ.l c.keep) (h:Abv C):Abv (cDo c C e):=by
 unfold cDo
 split
 · exact h.acc ho
 · split
   · exact h
   · exact h
theorem zVH {l:List zAC} {k:Int} (h:∀ x ∈ l,x.t < k):zAT l k = l.length:=by
 unfold zAT;rw [List.countP_eq_length];intro x hx;simpa using h x hx
theorem zQO {l:List zAC} {k:Int} (h:∀ x ∈ l,x.t ≠ k):zCR l k = false:=by
 cases hk:zCR l k with
 | false=>rfl
 | true=>obtain ⟨x,hx,he⟩:=zDf.1 hk;exact absurd he (h x hx)
theorem zZU {c:zAO} {C:CS} {top:Int} {G:zBx} (ho:Oks C.σ.l c.keep) (ha:Abv C) (h0:0 ≤ top) (ht:∀ x ∈ C.σ.l,x.t ≤ top) (hG:G.e = 0) (hGt:G.t = top + 9) (hGb:G.b = top + 8):zEN c C G = 14:=by
 have hk:zCR C.σ.l G.t = false:=zQO fun x hx e=>by have:=ht x hx;omega
 have hb:zHc C.σ.l G.b = true:=by
   unfold zHc
   rw [zQO (fun x hx e=>by have:=ht x hx;omega)]
   simp;omega
 have hs:stl C.σ.l c.keep C.σ.floor C.σ.gone G.t = false:=by
   unfold stl
   rw [Bool.or_eq_false_iff]
   constructor
   · rw [Bool.and_eq_false_iff]
     cases hg:C.σ.gone with
     | false=>exact .inl rfl
     | true =>
       right
       obtain ⟨x,hx⟩:=List.exists_mem_of_length_pos (ha.2 hg)
       have h1:=ha.1 hg x hx
       have h2:=ht x hx
       exact decide_eq_false (by omega)
   · rw [Bool.and_eq_false_iff]
     by_cases hl:C.σ.l.length = c.keep
     · right
       have hm:=ho.m1
       refine decide_eq_false ?_
       unfold zAA
       rw [zVH (fun x hx=>by have:=ht x hx;omega)]
       omega
     · exact .inl (decide_eq_false hl)
 have e:zGE C.σ.l c.keep C.σ.floor C.σ.gone G = 14:=by
   unfold zGE
   rw [zJJ hk,zJJ hs,zJH hG hb]
 unfold zEN
 rw [zIq hG (by omega),e]
theorem zac {l:List zAC} {top:Int} (h:∀ e,e < l.length → (l.map zAC.t).getD e 0 ≤ top):∀ x ∈ l,x.t ≤ top:=by
 intro x hx
 obtain ⟨i,hi,rfl⟩:=List.getElem_of_mem hx
 have:=h i hi
 rwa [List.getD_eq_getElem?_getD,List.getElem?_map,List.getElem?_eq_getElem hi] at this
theorem zUm {l:List Int} {i:Nat} {top:Int} (h:∀ e,e < i → l.getD e 0 ≤ top):∀ e,e < i + 1 → l.getD e 0 ≤ max top (l.getD i 0):=by
 intro e he
 rcases Nat.lt_succ_iff_lt_or_eq.1 he with h1 | rfl
 · have:=h e h1;omega
 · omega
theorem zcT {c:zAO} {C:CS} {x:Int} {G:zBx} (h:zEN c C G = 14):zFY (zIw c C x G).σ.n 14 = zFY C.σ.n 14 + 1 ∧ (zIw c C x G).σ.n 0 = C.σ.n 0:=by
 have h1:=zSh (n:=C.σ.n) (i:=14) (by decide) (by decide)
 have h2:=zSh (n:=(zIw c C x G).σ.n) (i:=14) (by decide) (by decide)
 rw [show ((14:Nat):Int) = 14 from rfl] at h1 h2
 rw [h1,h2,zUt,h]
 exact ⟨rfl,rfl⟩
theorem zVF {l:List zAC} {most:Nat} (ho:Oks l most) {i:Nat} (h:i < l.length):0 ≤ (l.map zAC.t).getD i 0 ∧ (l.map zAC.t).getD i 0 ≤ 4294967295:=by
 rw [List.getD_eq_getElem?_getD,List.getElem?_map,List.getElem?_eq_getElem h]
 have:=ho.rng l[i] (List.getElem_mem h)
 exact ⟨this.1,this.2.1⟩
end Go.Sx
/- Ranges over a function whose rounds may leave the loop; deferred calls. -/
set_option linter.unusedVariables false
set_option linter.unusedSimpArgs false
namespace Go.Sx
open Go.RowKit
variable {P : Program} {ops : Array Oper} {Q : Exit → Act → World → Prop} {rest : List Oper} {n : Nat} {F : List (Nat × Value)} {w0 : World} {S : List Nat} {M : List HA} {a : Act} {w : World}
variable {d : Nat} {ty : TypeId} {pos : String} {af : Array Edge}
/-! ### Rounds that may leave -/
theorem zRj {m L : Nat} {x : Operand} {xs : List Operand} {ats : Array TypeId} {vs : List Value} {X M' : List HA} {post : Bool → List HA → Prop} (hs : St n F w0 S M a w) (hx : evo F x = some (.func (.yield L) #[] #[])) (hv : Evs F xs vs) (hX : zC4 M X M')
   (hy:∀ W:World,(∀ h ∈ X,h.p W) → (zL X).Nodup → YieldAt Fence.wide (m - 1) P L vs.toArray W fun e W'=>∃ b,e = .returned (.bool b) ∧ ∃ N,post b N ∧ Mem W (zL X) N W') (hd:Nat.blt d n = true)
   (k:∀ b N a w,post b N → St n ((d,.bool b) :: F) w0 S (N ++ M') a w → wpListIn (Fw none) m P ops Q rest a w):wpListIn (Fw none) m P ops Q (⟨some d,.call { callee:=.value x,args:=xs.toArray,argTypes:=ats },ty,pos,af,none⟩ :: rest) a w:=by
 have hall:∀ h ∈ X,h.p w:=fun h hh=>hs.mem.all h ((hX.mem h).2 (.inl hh))
 have hnd:(zL X).Nodup:=(List.nodup_append.1 (hX.perm.nodup_iff.1 hs.mem.nd)).1
 obtain ⟨fn,tmps,assign,body,hy1,hy2⟩:=hy w hall hnd
 have hr:(execOp a.eval ⟨some d,.call { callee:=.value x,args:=xs.toArray,argTypes:=ats },ty,pos,af,none⟩).run P w = .ok (.round L fn tmps assign body) w:=by
   simp [execOp,resolve,invoke,Deferred.ofValue,hs.ev hx,hs.evs hv,hy1]
 simp only [wpListIn]
 rw [if_pos (by simp [Region.wanted])]
 refine ⟨fun _ _=>trivial,?_⟩
 have hr':(Oper.semAt (Fw none).round a.eval ⟨some d,.call { callee:=.value x,args:=xs.toArray,argTypes:=ats },ty,pos,af,none⟩).run P w = .ok (.round L fn tmps assign body) w:=hr
 rw [hr',Oper.uponIn_round]
 refine ⟨fun hx=>(by cases hx),RoundIn.mono hy2 ?_⟩
 rintro e W' ⟨b,rfl,N,hp,hm⟩
 exact k b N _ _ hp ((hs.frame hX hm).put hd _)
def zTT (rec:LoopState → Loop):Loop:={ rec .done with pending:=some .ret }
def zcJ (rec:LoopState → Loop):Loop:={ rec .exhausted with pending:=some .ret }
theorem St.round2 {p p2:Nat} (hs:St n F w0 S M a w) (hd:Nat.blt p n = true) (hd2:Nat.blt p2 n = true) (v v2:Value) {W:World} {S':List Nat} {M':List HA} (hm:Mem W S' M' W):St n ((p2,v2) :: (p,v) :: F) W S' M' { tmps:=(a.tmps.setIfInBounds p v).setIfInBounds p2 v2,defers:=[] } W :=
 ⟨((hs.put hd v).put hd2 v2).size,rfl,((hs.put hd v).put hd2 v2).agr,hm⟩
theorem zQX {L D fn p p2 : Nat} {assign body : Code} {rec : LoopState → Loop} {ps : Array Tmp} {v v2 : Value} {W : World} {S' : List Nat} {Mr : List HA} {post postJ : List HA → Prop} (hs : St n F w0 S M a w) (hrec : Rec rec fn a.tmps ps assign body D) (hps : ps = #[p, p2]) (hd : Nat.blt p n = true) (hd2 : Nat.blt p2 n = true)
   (hM:Mem W S' (obj L (.loop (rec .ready)) :: Mr) W)
   (walk:∀ a1 w1,St n ((p2,v2) :: (p,v) :: F) W S' (obj L (.loop (rec .ready)) :: Mr) a1 w1 → assign.wpIn (Fw (some L)) 0 P (Exit.then (fun a2 w2=>∃ F2 M2,St n F2 W S' (obj L (.loop (rec .ready)) :: M2) a2 w2 ∧
     ∀ w3,St n F2 W S' (obj L (.loop (rec .busy)) :: M2) a2 w3 → body.wpIn (Fw (some L)) 0 P (fun e _ w4=>(e = .normal ∧ ∃ N,post N ∧ Mem W S' (obj L (.loop (rec .busy)) :: N) w4) ∨ (e = .ret ∧ ∃ N,postJ N ∧ Mem W S' (obj L (.loop (rec .busy)) :: N) w4)) a2 w3) (fun _ _ _=>False)) a1 w1) :
   YieldAt Fence.wide 0 P L #[v,v2] W fun e W'=>(e = .returned (.bool true) ∧ ∃ N,post N ∧ Mem W S' (obj L (.loop (rec .ready)) :: N) W') ∨ (e = .returned (.bool false) ∧ ∃ N,postJ N ∧ Mem W S' (obj L (.loop (zTT rec)) :: N) W'):=by
 subst hps
 have hL:W.heap[L]? = some (.loop (rec .ready)):=hM.all _ (List.mem_cons_self)
 have hy:=run_yield (P:=P) (args:=#[v,v2]) hL (by rw [hrec];rfl)
 rw [hrec] at hy
 have e1:(((#[p,p2]:Array Tmp).zip #[v,v2]).foldl (fun tmps (t,a)=>tmps.setIfInBounds t a) a.tmps) = (a.tmps.setIfInBounds p v).setIfInBounds p2 v2:=by simp
 dsimp only at hy
 rw [e1] at hy
 refine ⟨_,_,_,_,hy,roundIn_of_wpIn trivial ?_⟩
 refine wpIn_mono (walk _ _ (hs.round2 hd hd2 v v2 hM)) ?_
 intro e a2 w2 he
 cases e with
 | normal =>
   obtain ⟨F2,M2,hst,hb⟩:=he
   have hL2:w2.heap[L]? = some (.loop (rec .ready)):=hst.mem.all _ (List.mem_cons_self)
   have hbr:=run_beginRound (P:=P) hL2 (by rw [hrec])
   have ex:({ rec .ready with state:=.busy }:Loop) = rec .busy:=by rw [hrec,hrec]
   rw [ex] at hbr
   refine ⟨_,hbr,wpIn_mono (hb _ (hst.frame (.c .z .n) (zDG hL2))) ?_⟩
   rintro e a4 w4 (⟨rfl,N,hp,hm⟩ | ⟨rfl,N,hp,hm⟩)
   · have hL4:w4.heap[L]? = some (.loop (rec .busy)):=hm.all _ (List.mem_cons_self)
     have her:=run_endRound (P:=P) none hL4
     have ey:({ rec .busy with state:=if (none:Option Code).isNone = true then .ready else .done,pending:=none }:Loop) = rec .ready:=by rw [hrec,hrec];rfl
     rw [ey] at her
     exact ⟨_,_,her,.inl ⟨rfl,N,hp,hm.frame (.c .z .n) (zDG hL4)⟩⟩
   · have hL4:w4.heap[L]? = some (.loop (rec .busy)):=hm.all _ (List.mem_cons_self)
     have her:=run_endRound (P:=P) (some .ret) hL4
     have ey:({ rec .busy with state:=if (some Code.ret:Option Code).isNone = true then .ready else .done,pending:=some .ret }:Loop) = zTT rec:=by rw [zTT,hrec,hrec];rfl
     rw [ey] at her
     exact ⟨_,_,her,.inr ⟨rfl,N,hp,hm.frame (.c .z .n) (zDG hL4)⟩⟩
 | exit id=>exact he.elim
 | goto t=>exact he.elim
 | ret=>exact he.elim
 | panic ch=>exact he.elim
 | outgrown=>exact he.elim
theorem zKi {m gf : Nat} {g : Operand} {ps : Array Tmp} {assign body : Code} {lb : List Value} (hs : St n F w0 S M a w) (hg : evo F g = some (.func (.func gf) #[] lb.toArray)) (eg : ∀ args w, (callFunc gf args).run P w = .ok (.enter gf args) w)
   (h:∀ fn D L W rec,Rec rec fn a.tmps ps assign body D → Mem w0 S (obj L (.loop (rec .ready)) :: obj D (.deferred (some [])) :: M) W →
     Calls P gf (.func (.yield L) #[] #[] :: lb).toArray W fun e W'=>(∃ v,e = .returned v) ∧ ((∃ M2,Mem w0 S (obj L (.loop (rec .ready)) :: obj D (.deferred (some [])) :: M2) W' ∧
       ∀ W'',Mem w0 S (obj L (.loop (rec .exhausted)) :: obj D (.deferred (some [])) :: M2) W'' → Q .normal { a with defers:={ target:=.collected D,args:=#[] } :: a.defers } W'') ∨
       (∃ M2,Mem w0 S (obj L (.loop (zTT rec)) :: obj D (.deferred (some [])) :: M2) W' ∧
       ∀ W'',Mem w0 S (obj L (.loop (zcJ rec)) :: obj D (.deferred (some [])) :: M2) W'' → Q .ret { a with defers:={ target:=.collected D,args:=#[] } :: a.defers } W''))) :
   (Code.rangeFunc g ps assign body).wpIn (Fw none) m P Q a w:=by
 refine wpIn_rangeFunc fun fn _=>?_
 have h1:=hs.mem.frame (zC4.n (M:=M)) (zFG w (.deferred (some [])))
 have h2:=h1.frame (zC4.n (M:=[obj w.heap.size (.deferred (some []))] ++ M)) (zFG (w.alloc (.deferred (some []))) (.loop { state:=.ready,pending:=none,fn,tmps:=a.tmps,params:=ps,assign,body,defers:=w.heap.size }))
 rw [World.size_alloc] at h2
 have he:=run_enterLoop_outer (P:=P) (w:=w) fn a.tmps ps assign body
 generalize (w.alloc (.deferred (some []))).alloc (.loop { state:=.ready,pending:=none,fn:=fn,tmps:=a.tmps,params:=ps,assign:=assign,body:=body,defers:=w.heap.size }) = W1 at h2 he
 obtain ⟨rec,hrec⟩ : ∃ rec:LoopState → Loop,Rec rec fn a.tmps ps assign body w.heap.size:=⟨fun s=>{ state:=s,pending:=none,fn,tmps:=a.tmps,params:=ps,assign,body,defers:=w.heap.size },fun _=>rfl⟩
 rw [← hrec .ready] at h2
 have hc:=h fn w.heap.size (w.heap.size + 1) _ rec hrec h2
 refine ⟨w.heap.size + 1,[{ target:=.collected w.heap.size,args:=#[] }],W1,{ target:=.fn (.func gf) lb.toArray,args:=#[.func (.yield (w.heap.size + 1)) #[] #[]] },W1,gf,(.func (.yield (w.heap.size + 1)) #[] #[] :: lb).toArray,W1,he,?_,fun _ _=>trivial,?_,fun hx=>(by cases hx),?_⟩
 · have hge:=hs.ev hg
   have hce:a.eval (.const (.func (.yield (w.heap.size + 1)) #[] #[])) = .func (.yield (w.heap.size + 1)) #[] #[]:=rfl
   simp [resolve,Deferred.ofValue,hge,hce]
 · simp [invoke,eg]
 · refine CallsIn.mono (callsIn_wide.2 hc) ?_
   rintro e W' ⟨⟨v,rfl⟩,⟨M2,hm,hq⟩ | ⟨M2,hm,hq⟩⟩
   · have hl:=hm.all _ (List.mem_cons_self)
     have hr:=run_endLoop (P:=P) hl (by rw [hrec];simp)
     have hx:({ rec .ready with state:=.exhausted }:Loop) = rec .exhausted:=by rw [hrec,hrec]
     rw [hx] at hr
     have hp:(rec .ready).pending = none:=by rw [hrec]
     rw [hp] at hr
     exact ⟨none,_,hr,hq _ (hm.frame (.c .z .n) (zDG hl))⟩
   · have hl:=hm.all _ (List.mem_cons_self)
     have hr:=run_endLoop (P:=P) hl (by rw [zTT,hrec];simp)
     have hx:({ zTT rec with state:=.exhausted }:Loop) = zcJ rec:=by rw [zTT,zcJ,hrec,hrec]
     rw [hx] at hr
     have hp:(zTT rec).pending = some .ret:=rfl
     rw [hp] at hr
     exact ⟨some .ret,_,hr,wpIn_ret (hq _ (hm.frame (.c .z .n) (zDG hl)))⟩
theorem zRr {m:Nat} {F':Fence} {c:Operand} {x y:Code} {t:Bool} (hs:St n F w0 S M a w) (hc:evo F c = some (.bool t)) (ht:t = true → x.wpIn F' m P Q a w) (hf:t = false → y.wpIn F' m P Q a w):(Code.cond c x y).wpIn F' m P Q a w:=by
 cases t with
 | true=>exact wpIn_cond_true (hs.ev hc) (ht rfl)
 | false=>exact wpIn_cond_false (hs.ev hc) (hf rfl)
theorem zWX {fn:Func} {R:Ending → World → Prop} {D:Nat} {tmps:Array Value} {v:Value} (hr:(results fn tmps).run P (w.putObj D (.deferred none)) = .ok v (w.putObj D (.deferred none))) (hD:w.heap[D]? = some (.deferred (some []))) (hR:R (.returned v) (w.putObj D (.deferred none))):bodyPostM (Fw none) 1 P fn R .ret { tmps:=tmps,defers:=[{ target:=.collected D,args:=#[] }] } w:=by
 refine ⟨by simp,.inl ⟨_,_,rfl,run_takeDeferred hD,?_⟩⟩
 exact ⟨_,hr,hR⟩
theorem zb8 {r:Option Nat} {m:Nat} {md:Region.Mode} (hQ:∀ a w,¬ Q .outgrown a w) (hd:∀ (i:Nat) (o:Oper),ops[i]? = some o → ∀ c,o.op ≠ .defer c):∀ (fuel:Nat) (listed:Array Bool) (a:Act) (w:World),wpAny P md ops Q fuel listed a w → wpAnyIn (Fw r) m P md ops Q fuel listed a w:=by
 intro fuel
 induction fuel with
 | zero=>intro listed a w h;exact h
 | succ fuel ih =>
   intro listed a w h
   refine ⟨fun hr=>h.1 hr,fun i hi=>?_⟩
   have h:=h.2 i hi
   unfold wpOp at h
   unfold wpOpIn
   have ih':=fun a w=>ih (listed.setIfInBounds i true) a w
   cases ho:ops[i]? with
   | none=>rw [ho] at h;exact ih _ _ _ h
   | some o =>
     rw [ho] at h
     dsimp only at h ⊢
     by_cases hw:Region.wanted o (yielded ops a.tmps) = true
     · rw [if_pos hw] at h ⊢
       rcases h with h | ⟨_,a0,w0,h0⟩
       · refine ⟨fun _ _=>trivial,?_⟩
         rw [Oper.semAt_eq _ _ _ (hd i o ho)]
         unfold Oper.wp at h
         generalize (execOp a.eval o).run P w = x at h
         cases x with
         | ok nx w' =>
           cases nx with
           | value v=>exact ih' _ _ h
           | skip=>exact ih' _ _ h
           | defer dd=>exact ih' _ _ h
           | enter f args =>
             have h:Calls P f args w' _:=h
             refine ⟨fun hx=>(by cases hx),?_⟩
             refine CallsIn.mono (callsIn_wide.2 h) ?_
             intro e w'' he
             cases e with
             | returned v=>exact ih' _ _ he
             | panicked ch=>exact he
             | outgrown=>obtain ⟨a1,w1,h1⟩:=he;exact absurd h1 (hQ a1 w1)
           | row row args =>
             have h:Rows P row args w' _:=h
             refine ⟨fun hx=>(by cases hx),fun c cs _=>?_⟩
             obtain ⟨v,w'',hv,hs⟩:=h c cs
             exact ⟨v,w'',ih' _ _ hv,stepsIn_wide.2 hs⟩
           | _=>exact h.elim
         | halt hl w' =>
           cases hl with
           | panic v=>exact h
           | _=>exact h.elim
       · exact absurd h0 (hQ a0 w0)
     · rw [if_neg hw] at h ⊢
       exact ⟨fun _ _=>trivial,ih' _ _ h⟩
theorem zQ4 {r:Option Nat} {m id:Nat} {l:List Oper} (hm:P.follows .mixedOrders = true) (hQ:∀ a w,¬ Q .outgrown a w) (hd:zPk l) (h:zcg P Q l.toArray a w):(Code.region id l.toArray true).wpIn (Fw r) m P Q a w :=
 wpIn_region_any hm (zb8 hQ (fun i o ho=>hd o (List.mem_of_getElem? (by simpa using ho))) _ _ _ _ h)
theorem zSv {r : Option Nat} {m id : Nat} {l : List Oper} {Mp M1 : List HA} {B Xp : BL} (hQ : ∀ a w, ¬ Q .outgrown a w) (hnd : zPk l) (cs : List DC) (live : List Nat) (hs : St n F w0 S M a w) (tx : zD8 M Xp Mp) (tk : zD8 Mp B M1) (hb : zMM P F l cs = true)
   (h:zEb P n F w0 S Mp l B Xp cs 0 l cs [] [] [] fun E R=>zZ3 R [] fun Ds=>(Ds.flatMap (·.X) = bls Xp ∧ zLC l Ds = true ∧ (∀ vs,Nsm vs 0 Ds = Ds.map (·.N vs)) ∧ Ds.map (·.X) = cs.map (·.X Xp) ∧ Ds.map (·.use) = cs.map (·.use) ∧ zDS P l n F w0 S Mp Ds E 0 l cs) ∧
     pvF l live E F fun G=>zG2 (Mp ++ zTP (Ds.flatMap (·.use)) (fun _=>undef) 0 Ds) fun M'=>(∀ vs,Mp ++ zTP (Ds.flatMap (·.use)) vs 0 Ds = M') ∧ ∀ a w,St n G w0 S M' a w → Q .normal a w):(Code.region id l.toArray true).wpIn (Fw r) m P Q a w:=by
 simp only [zMM,Bool.and_eq_true] at hb
 obtain ⟨hm,hb⟩:=hb
 obtain ⟨E',R',h1,_,h3,h4⟩:=zF3 tk l 0 cs [] [] [] _ h rfl rfl hb.2
 rw [List.append_nil] at h1 h4
 have h1:=zIl h1
 rw [List.append_nil] at h1
 obtain ⟨⟨hX,hu,hN,hx1,hx2,hT⟩,hfin⟩:=h1
 simp only [zLC,Bool.and_eq_true] at hu
 obtain ⟨hE,htr⟩:=h4 _ rfl ⟨(fun k d v hk=>by cases hk),fun k B hk=>by cases hk⟩
 replace htr:=htr (zNw hN) (zNZ hx1 hx2) hT
 obtain ⟨GF,hg1,hg2⟩:=zJQ (vs:=fun _=>undef) hfin
 obtain ⟨he,hg1⟩:=zBW.1 hg1
 have hp:M.Perm ((R'.reverse.flatMap (·.X)) ++ Mp):=by rw [hX,zEe];exact tx.perm
 refine zQ4 hm hQ hnd (zIB (Q:=Q) hm (hs.permM hp) rfl (zEi _ _) hb.1 hu.1 hu.2 htr fun a w vs hs hf=>?_)
 rw [zIK (hN vs),he vs] at hs
 refine hg1 a w (hg2 (fun k d v hk=>?_) hs)
 obtain ⟨e1,e2,e3⟩:=hE.ok k d v hk
 obtain ⟨f1,f2⟩:=hf k e1
 rw [← e3 vs f2]
 exact f1.at_ e2
theorem zKt {fn : Func} {tmps : Array Value} {t1 t2 t3 : Nat} {r1 r2 r3 c1 c2 c3 : TypeId} {g1 g2 g3 : Nat} {v1 v2 v3 : Value} (hr : fn.results = #[.cell t1 r1, .cell t2 r2, .cell t3 r3]) (h1 : tmps[t1]? = some (pt g1 0)) (h2 : tmps[t2]? = some (pt g2 0)) (h3 : tmps[t3]? = some (pt g3 0)) (b1 : (blk g1 [v1] c1).p w) (b2 : (blk g2 [v2] c2).p w) (b3 : (blk g3 [v3] c3).p w)
   (a1:∀ w,(isAgg r1).run P w = .ok false w) (a2:∀ w,(isAgg r2).run P w = .ok false w) (a3:∀ w,(isAgg r3).run P w = .ok false w):(results fn tmps).run P w = .ok (.tuple #[v1,v2,v3]) w:=by
 have e1:=(zBE (i:=0) b1).trans (Nth.get .z)
 have e2:=(zBE (i:=0) b2).trans (Nth.get .z)
 have e3:=(zBE (i:=0) b3).trans (Nth.get .z)
 simp [results,hr,Array.getD_eq_getD_getElem?,h1,h2,h3,asAddr,loadVar,a1,a2,a3,run_load,e1,e2,e3]
theorem zch {fn : Func} {post : Value → List HA → Prop} {t1 t2 t3 : Nat} {r1 r2 r3 c1 c2 c3 : TypeId} {g1 g2 g3 : Nat} {v1 v2 v3 : Value} {M1 M2 M3 : List HA} (hs : St n F w0 S M a w) (hr : fn.results = #[.cell t1 r1, .cell t2 r2, .cell t3 r3]) (h1 : lk F t1 = some (pt g1 0)) (h2 : lk F t2 = some (pt g2 0)) (h3 : lk F t3 = some (pt g3 0)) (b1 : Del M (blk g1 [v1] c1) M1) (b2 : Del M (blk g2 [v2] c2) M2) (b3 : Del M (blk g3 [v3] c3) M3)
   (a1:∀ w,(isAgg r1).run P w = .ok false w) (a2:∀ w,(isAgg r2).run P w = .ok false w) (a3:∀ w,(isAgg r3).run P w = .ok false w) {X N:List HA} (hD:zC4 M X N) (hp:post (.tuple #[v1,v2,v3]) N):bodyPost P fn (Ret w0 S post) .ret a w :=
 bodyPost_ret (zKt hr (hs.agr _ _ h1) (hs.agr _ _ h2) (hs.agr _ _ h3) (hs.mem.del b1) (hs.mem.del b2) (hs.mem.del b3) a1 a2 a3) hs.dfr ⟨_,N,rfl,hp,hs.mem.drop hD⟩
theorem zNY {a:Act} (d:Deferred) (h:a.defers = []):({ a with defers:=d :: a.defers }:Act) = { tmps:=a.tmps,defers:=[d] }:=by rw [h]
/-! ### Deferred calls -/
theorem zYN {f : FuncId} {fn : Func} {c : Code} {args : List Value} {F0 : List (Nat × Value)} {R : Ending → World → Prop} {u : FrameMode} (hf : P.funcs[f]? = some fn) (hb : fn.body = some c) (hn : fn.ntmps = n) (hle : Nat.ble args.length n = true) (hini : Ini 0 args F0) (hM : Mem w S M w)
   (h:∀ a w',St n F0 w S M a w' → G P (bodyPost P fn R) (.code c []) a w'):CallsD P f args.toArray u w fun e u' w'=>u' = u ∧ R e w':=by
 refine callsD_of_wp hf hb (h _ _ ?_)
 have hle':args.length ≤ n:=by simpa using hle
 subst hn
 refine ⟨by simp;omega,rfl,fun t v hv=>?_,hM⟩
 obtain ⟨_,h2⟩:=hini.get t v hv
 simp only [Nat.sub_zero] at h2
 have hlt:t < args.length:=by
   rcases Nat.lt_or_ge t args.length with h | h
   · exact h
   · simp [List.getElem?_eq_none h] at h2
 rw [Array.getElem?_append_left (by simpa using hlt)]
 simpa using h2
theorem zZG {f : FuncId} {fn : Func} {c : Code} {args : List Value} {F0 : List (Nat × Value)} {R : Ending → World → Prop} (hf : P.funcs[f]? = some fn) (hb : fn.body = some c) (hn : fn.ntmps = n) (hle : Nat.ble args.length n = true) (hini : Ini 0 args F0) (hM : Mem w S M w)
   (h:∀ a w',St n F0 w S M a w' → G P (bodyPostD P fn R) (.code c []) a w'):Calls P f args.toArray w R:=by
 refine calls_of_wp_defers hf hb (h _ _ ?_)
 have hle':args.length ≤ n:=by simpa using hle
 subst hn
 refine ⟨by simp;omega,rfl,fun t v hv=>?_,hM⟩
 obtain ⟨_,h2⟩:=hini.get t v hv
 simp only [Nat.sub_zero] at h2
 have hlt:t < args.length:=by
   rcases Nat.lt_or_ge t args.length with h | h
   · exact h
   · simp [List.getElem?_eq_none h] at h2
 rw [Array.getElem?_append_left (by simpa using hlt)]
 simpa using h2
def wDf (D:List Deferred) (a:Act):Act:={ a with defers:=a.defers ++ D }
def dfQ (D:List Deferred) (Q:Exit → Act → World → Prop):Exit → Act → World → Prop:=fun e a w=>Q e (wDf D a) w
theorem zRO {D:List Deferred} (d:Option Nat) (v:Value):wDf D (a.put d v) = (wDf D a).put d v:=by cases d <;> rfl
theorem zNg {D:List Deferred} (hQ:∀ a w,¬ Q .outgrown a w):∀ (l:List Oper) (a:Act) (w:World),wpList P ops (dfQ D Q) l a w → wpList P ops Q l (wDf D a) w:=by
 intro l
 induction l with
 | nil=>intro a w h;exact h
 | cons o l ih =>
   intro a w h
   have ih':∀ (d:Option Nat) (v:Value) (a:Act) (w:World),wpList P ops (dfQ D Q) l (a.put d v) w → wpList P ops Q l ((wDf D a).put d v) w:=fun d v a w h=>by rw [← zRO];exact ih _ _ h
   simp only [wpList] at h ⊢
   by_cases hw:Region.wanted o (yielded ops a.tmps) = true
   · rw [if_pos hw] at h
     rw [if_pos (show Region.wanted o (yielded ops (wDf D a).tmps) = true from hw)]
     rcases h with h | ⟨_,a0,w0,h0⟩
     · left
       unfold Oper.wp at h ⊢
       have ev:(wDf D a).eval = a.eval:=rfl
       rw [ev]
       generalize (execOp a.eval o).run P w = x at h
       cases x with
       | ok nx w' =>
         cases nx with
         | value v=>exact ih' _ _ _ _ h
         | skip=>exact ih' _ _ _ _ h
         | defer dd=>exact ih' _ _ { a with defers:=dd :: a.defers } _ h
         | enter f args =>
           have h:Calls P f args w' _:=h
           refine Calls.mono h ?_
           intro e w'' he
           cases e with
           | returned v=>exact ih' _ _ _ _ he
           | panicked ch=>exact he
           | outgrown=>obtain ⟨a1,w1,h1⟩:=he;exact absurd h1 (hQ _ _)
         | row row args =>
           have h:Rows P row args w' _:=h
           refine fun c cs=>?_
           obtain ⟨v,w'',hv,hs⟩:=h c cs
           exact ⟨v,w'',ih' _ _ _ _ hv,hs⟩
         | _=>exact h.elim
       | halt hl w' =>
         cases hl with
         | panic v=>exact h
         | _=>exact h.elim
     · exact absurd h0 (hQ _ _)
   · rw [if_neg hw] at h
     rw [if_neg (show ¬ Region.wanted o (yielded ops (wDf D a).tmps) = true from hw)]
     exact ih' _ _ _ _ h
theorem zUn {x:Operand} {f:FuncId} {cap:Array Value} (hs:St n F w0 S M a w) (hx:evo F x = some (.func (.func f) #[] cap)) (k:wpList P ops Q rest (wDf [{ target:=.fn (.func f) cap,args:=#[] }] a) w):wpList P ops Q (⟨none,.defer { callee:=.value x,args:=#[],argTypes:=#[] },ty,pos,af,none⟩ :: rest) a w:=by
 simp only [wpList]
 rw [if_pos (by simp [Region.wanted])]
 left
 have hr:(execOp a.eval (⟨none,.defer { callee:=.value x,args:=#[],argTypes:=#[] },ty,pos,af,none⟩ : Oper)).run P w = .ok (.defer { target:=.fn (.func f) cap,args:=#[] }) w:=by
   simp [execOp,resolve,Deferred.ofValue,hs.ev hx]
 unfold Oper.wp
 rw [hr,Oper.upon_defer]
 have e:({ a with defers:={ target:=.fn (.func f) cap,args:=#[] } :: a.defers }:Act) = wDf [{ target:=.fn (.func f) cap,args:=#[] }] a:=by unfold wDf;rw [hs.dfr];rfl
 rw [e]
 exact k
theorem zSa {fn : Func} {R : Ending → World → Prop} {fv : Fn} {cap : Array Value} {f : FuncId} {args : Array Value} {t : Nat} {v : Value} (hs : St n F w0 S M a w) (hi : (invoke (.fn fv cap) #[]).run P w = .ok (.enter f args) w) (hr : fn.results = #[.tmp t]) (hv : lk F t = some v)
   (h:CallsD P f args .returning w fun e u' w'=>u' = .returning ∧ (∃ u,e = .returned u) ∧ R (.returned v) w'):bodyPostD P fn R .ret (wDf [{ target:=.fn fv cap,args:=#[] }] a) w:=by
 show Leaves P fn a.tmps R (a.defers ++ _) .returning w
 rw [hs.dfr]
 refine leaves_cons (by simp) hi (h.mono ?_)
 rintro e u' w' ⟨rfl,⟨u,rfl⟩,hR⟩
 have hg:=hs.agr t v hv
 exact ⟨v,by rw [show v = a.tmps.getD t undef by simp [Array.getD_eq_getD_getElem?,hg]];exact results_tmp hr _ _ _,hR⟩
theorem zal {f:FuncId} {fn:Func} {c:Code} {args:List Value} {F0:List (Nat × Value)} {R:Ending → World → Prop} (hf:P.funcs[f]? = some fn) (hb:fn.body = some c) (hn:fn.ntmps = n) (hle:Nat.ble args.length n = true) (hini:Ini 0 args F0) (hM:Mem w S M w)
 (h:∀ a w',St n F0 w S M a w' → c.wp P (bodyPostD P fn R) a w'):Calls P f args.toArray w R:=zZG hf hb hn hle hini hM h
theorem zXu {D:List Deferred} {md:Region.Mode} (hQ:∀ a w,¬ Q .outgrown a w):∀ (fuel:Nat) (listed:Array Bool) (a:Act) (w:World),wpAny P md ops (dfQ D Q) fuel listed a w → wpAny P md ops Q fuel listed (wDf D a) w:=by
 intro fuel
 induction fuel with
 | zero=>intro listed a w h;exact h
 | succ fuel ih =>
   intro listed a w h
   refine ⟨fun hr=>h.1 hr,fun i hi=>?_⟩
   have h:=h.2 i hi
   unfold wpOp at h ⊢
   have ih':∀ (d:Option Nat) (v:Value) (a:Act) (w:World),wpAny P md ops (dfQ D Q) fuel (listed.setIfInBounds i true) (a.put d v) w → wpAny P md ops Q fuel (listed.setIfInBounds i true) ((wDf D a).put d v) w:=fun d v a w h=>by rw [← zRO];exact ih _ _ _ h
   cases ho:ops[i]? with
   | none=>rw [ho] at h;exact ih _ _ _ h
   | some o =>
     rw [ho] at h
     dsimp only at h ⊢
     by_cases hw:Region.wanted o (yielded ops a.tmps) = true
     · rw [if_pos hw] at h
       rw [if_pos (show Region.wanted o (yielded ops (wDf D a).tmps) = true from hw)]
       rcases h with h | ⟨_,a0,w0,h0⟩
       · left
         unfold Oper.wp at h ⊢
         have ev:(wDf D a).eval = a.eval:=rfl
         rw [ev]
         generalize (execOp a.eval o).run P w = x at h
         cases x with
         | ok nx w' =>
           cases nx with
           | value v=>exact ih' _ _ _ _ h
           | skip=>exact ih' _ _ _ _ h
           | defer dd=>exact ih' _ _ { a with defers:=dd :: a.defers } _ h
           | enter f args =>
             have h:Calls P f args w' _:=h
             refine Calls.mono h ?_
             intro e w'' he
             cases e with
             | returned v=>exact ih' _ _ _ _ he
             | panicked ch=>exact he
             | outgrown=>obtain ⟨a1,w1,h1⟩:=he;exact absurd h1 (hQ _ _)
           | row row args =>
             have h:Rows P row args w' _:=h
             refine fun c cs=>?_
             obtain ⟨v,w'',hv,hs⟩:=h c cs
             exact ⟨v,w'',ih' _ _ _ _ hv,hs⟩
           | _=>exact h.elim
         | halt hl w' =>
           cases hl with
           | panic v=>exact h
           | _=>exact h.elim
       · exact absurd h0 (hQ _ _)
     · rw [if_neg hw] at h
       rw [if_neg (show ¬ Region.wanted o (yielded ops (wDf D a).tmps) = true from hw)]
       exact ih' _ _ _ _ h
theorem zQ5 {D : List Deferred} {id : Nat} {l : List Oper} {Mp M1 : List HA} {B Xp : BL} (hQ : ∀ a w, ¬ Q .outgrown a w) (cs : List DC) (live : List Nat) (hs : St n F w0 S M a w) (tx : zD8 M Xp Mp) (tk : zD8 Mp B M1) (hb : zMM P F l cs = true)
   (h:zEb P n F w0 S Mp l B Xp cs 0 l cs [] [] [] fun E R=>zZ3 R [] fun Ds=>(Ds.flatMap (·.X) = bls Xp ∧ zLC l Ds = true ∧ (∀ vs,Nsm vs 0 Ds = Ds.map (·.N vs)) ∧ Ds.map (·.X) = cs.map (·.X Xp) ∧ Ds.map (·.use) = cs.map (·.use) ∧ zDS P l n F w0 S Mp Ds E 0 l cs) ∧
     pvF l live E F fun G=>zG2 (Mp ++ zTP (Ds.flatMap (·.use)) (fun _=>undef) 0 Ds) fun M'=>(∀ vs,Mp ++ zTP (Ds.flatMap (·.use)) vs 0 Ds = M') ∧ ∀ a w,St n G w0 S M' a w → Q .normal (wDf D a) w):(Code.region id l.toArray true).wp P Q (wDf D a) w:=by
 simp only [zMM,Bool.and_eq_true] at hb
 obtain ⟨hm,hb⟩:=hb
 obtain ⟨E',R',h1,_,h3,h4⟩:=zF3 tk l 0 cs [] [] [] _ h rfl rfl hb.2
 rw [List.append_nil] at h1 h4
 have h1:=zIl h1
 rw [List.append_nil] at h1
 obtain ⟨⟨hX,hu,hN,hx1,hx2,hT⟩,hfin⟩:=h1
 simp only [zLC,Bool.and_eq_true] at hu
 obtain ⟨hE,htr⟩:=h4 _ rfl ⟨(fun k d v hk=>by cases hk),fun k B hk=>by cases hk⟩
 replace htr:=htr (zNw hN) (zNZ hx1 hx2) hT
 obtain ⟨GF,hg1,hg2⟩:=zJQ (vs:=fun _=>undef) hfin
 obtain ⟨he,hg1⟩:=zBW.1 hg1
 have hp:M.Perm ((R'.reverse.flatMap (·.X)) ++ Mp):=by rw [hX,zEe];exact tx.perm
 refine wp_region_any hm (zXu hQ _ _ _ _ (zIB (Q:=dfQ D Q) hm (hs.permM hp) rfl (zEi _ _) hb.1 hu.1 hu.2 htr fun a w vs hs hf=>?_))
 rw [zIK (hN vs),he vs] at hs
 refine hg1 a w (hg2 (fun k d v hk=>?_) hs)
 obtain ⟨e1,e2,e3⟩:=hE.ok k d v hk
 obtain ⟨f1,f2⟩:=hf k e1
 rw [← e3 vs f2]
 exact f1.at_ e2
/-! ### Values of interfaces -/
theorem zWh {x:Operand} {v:Value} {t:TypeId} (hs:St n F w0 S M a w) (hx:evo F x = some v) (hm:∀ w,(Instr.makeInterface t v).run P w = .ok (.iface t v) w) (hd:Nat.blt d n = true) (k:∀ a w,St n ((d,.iface t v) :: F) w0 S M a w → wpList P ops Q rest a w):wpList P ops Q (⟨some d,.makeInterface t x,ty,pos,af,none⟩ :: rest) a w :=
 zM hs (by simp [execOp,hs.ev hx,hm]) hd k
theorem zLp {x : Operand} {t : TypeId} {u r : Value} {name : String} {f : FuncId} {xs : List Operand} {ats : Array TypeId} {vs : List Value} {v : Value} (hs : St n F w0 S M a w) (hx : evo F x = some (.iface t u)) (hv : Evs F xs vs) (hm : ∀ w, (method (P.types.size + Made.depth) t u name).run P w = .ok (f, r) w) (hcall : ∀ args w, (callFunc f args).run P w = .ok (.enter f args) w)
   (hc:Calls P f (r :: vs).toArray w (zAe w v)) (hd:Nat.blt d n = true)
   (k:∀ a w,St n ((d,v) :: F) w0 S M a w → wpList P ops Q rest a w):wpList P ops Q (⟨some d,.call { callee:=.invoke x name,args:=xs.toArray,argTypes:=ats },ty,pos,af,none⟩ :: rest) a w:=by
 have hr:(execOp a.eval (⟨some d,.call { callee:=.invoke x name,args:=xs.toArray,argTypes:=ats },ty,pos,af,none⟩ : Oper)).run P w = .ok (.enter f (r :: vs).toArray) w:=by
   have he:(xs.toArray.map a.eval) = vs.toArray:=by rw [← hs.evs hv];simp
   simp [execOp,resolve,invoke,callMethod,hs.ev hx,he,hm,hcall]
 refine zHt rfl hr (post:=fun v' N=>v' = v ∧ N = []) (X:=[]) hc ?_
 rintro v' N w' ⟨hv',rfl⟩ hm'
 rw [hv']
 exact k _ _ ((hs.frame .n hm').put hd v)
end Go.Sx
/- Plain law of the statements about one record, and about one entity less. -/
set_option linter.unusedVariables false
set_option linter.unusedSimpArgs false
namespace Go.Sx
theorem zLK {α:Type} [Inhabited α] {g:α → List Value} {size:Nat} (hg:∀ a,(g a).length = size) (l:List α) (j o sz:Nat) (h:j < l.length ∧ o + sz ≤ size):((l.flatMap g).drop (j * size + o)).take sz = ((g (l.getD j default)).drop o).take sz:=by
 rw [← zAi hg l j h.1,List.drop_take,List.drop_drop,List.take_take,Nat.min_eq_left (by omega)]
/-! ### One record -/
/-! ### One entity less -/
end Go.Sx
