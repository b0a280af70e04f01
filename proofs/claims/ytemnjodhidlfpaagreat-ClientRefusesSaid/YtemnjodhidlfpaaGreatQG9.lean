import Derived.Test.YtemnjodhidlfpaaGreatQSxStos
import Derived.Test.YtemnjodhidlfpaaGreatQSxGrams
import Derived.Test.YtemnjodhidlfpaaGreatQG8
import Derived.Test.YtemnjodhidlfpaaGreatProg
import Derived.Test.YtemnjodhidlfpaaGreatQSxBasB
import Derived.Defers
import Derived.OrdersIn
import Derived.Test.YtemnjodhidlfpaaGreatQSxDel
import Derived.Test.YtemnjodhidlfpaaGreatQSxRecs
/- Stores: the example; what is refused changes a count alone; order. Plain mathematics. -/
set_option linter.unusedVariables false
set_option linter.unusedSimpArgs false
namespace Go.Sx
/-! ### What a store keeps to, told more closely -/
def zWY (σ:Stt) (t:Int):Prop:=zCl σ.l t = true ∨ (σ.gone = true ∧ t ≤ σ.floor)
def zPS (σ:Stt):Prop:=σ.gone = true → ∀ x ∈ σ.l,σ.floor < x.t
theorem zFI {l:List zAE} {k:Int}:zCl l k = true ↔ ∃ x ∈ l,x.t = k:=by
 unfold zCl
 rw [List.any_eq_true]
 constructor
 · rintro ⟨x,h,e⟩;exact ⟨x,h,by simpa using e⟩
 · rintro ⟨x,h,e⟩;exact ⟨x,h,by simpa using e⟩
theorem zFA {α:Type} {l:List α} {i:Nat} {x y:α}:y ∈ zBl l i x ↔ y = x ∨ y ∈ l:=by
 constructor
 · exact zN7
 · unfold zBl
   rintro (rfl | h)
   · simp
   · rw [← List.take_append_drop i l] at h
     simp only [List.mem_append,List.mem_cons] at h ⊢
     rcases h with h | h <;> simp [h]
theorem zG5 {l : List zAE} {most : Nat} {fl : Int} {gone : Bool} {x : zAE} (ho : Oks l most) (hk : zCl l x.t = false) (hz : ¬ (zAR l x.t = 0 ∧ l.length = most)) :
   (l.length < most ∧ zF6 l most x = zBl l (zAR l x.t) x ∧ zKB l most fl x = fl ∧ zKY l most gone x = gone) ∨
   (l.length = most ∧ ∃ y r,l = y :: r ∧ y.t < x.t ∧ zBl l (zAR l x.t) x = y :: zF6 l most x ∧ zKB l most fl x = y.t ∧ zKY l most gone x = true):=by
 have hl:=zGT l x (zC3 l x.t)
 have hle:=ho.le
 unfold zF6 zKB zKY
 by_cases h:(zBl l (zAR l x.t) x).length ≤ most
 · left
   rw [if_pos h,if_pos h,if_pos h]
   exact ⟨by omega,rfl,rfl,rfl⟩
 · right
   rw [if_neg h,if_neg h,if_neg h]
   have hlm:l.length = most:=by omega
   have hp:0 < zAR l x.t:=by
     rcases Nat.eq_zero_or_pos (zAR l x.t) with h0 | h0
     · exact absurd ⟨h0,hlm⟩ hz
     · exact h0
   cases l with
   | nil=>simp [zAR] at hp
   | cons y r =>
     have hy:=zMX ho.srt hp
     have hy:y.t < x.t:=by simpa using hy
     have e:zBl (y :: r) (zAR (y :: r) x.t) x = y :: (zBl (y :: r) (zAR (y :: r) x.t) x).drop 1:=by
       obtain ⟨p,hpe⟩ : ∃ p,zAR (y :: r) x.t = p + 1:=⟨zAR (y :: r) x.t - 1,by omega⟩
       rw [hpe]
       simp [zBl]
     refine ⟨hlm,y,r,rfl,hy,e,?_,rfl⟩
     rw [e];rfl
theorem zK3 {σ:Stt} {most:Nat} {G:zBk} (h:zBG σ.l most σ.floor σ.gone G = 0):zCl σ.l (zAL σ.l G).t = false ∧ ¬ (zAR σ.l (zAL σ.l G).t = 0 ∧ σ.l.length = most) ∧ ¬ (σ.gone = true ∧ (zAL σ.l G).t ≤ σ.floor) ∧ (zAL σ.l G).t = G.t ∧ (zAL σ.l G).tm = G.tm ∧ zBU most σ G = ⟨zF6 σ.l most (zAL σ.l G),zKB σ.l most σ.floor (zAL σ.l G),zKY σ.l most σ.gone (zAL σ.l G),zA8 σ.n 0⟩:=by
 obtain ⟨_,h2,h3,_,h5,_⟩:=zIa h
 have h7:=zNV h5
 refine ⟨by rw [h7.1];exact h2,fun hc=>?_,fun hc=>?_,h7.1,h7.2,if_pos h⟩
 · rw [h7.1] at hc
   unfold stl at h3
   rw [kuntil_no' h2,hc.1,hc.2] at h3
   simp at h3
 · rw [h7.1] at hc
   unfold stl at h3
   rw [hc.1] at h3
   simp [hc.2] at h3
where kuntil_no' {l:List zAE} {k:Int} (h:zCl l k = false):zZ l k = zAR l k:=by unfold zZ;rw [h];rfl
theorem zLk {σ:Stt} {most:Nat} {G:zBk} (h:zBG σ.l most σ.floor σ.gone G ≠ 0):zBU most σ G = ⟨σ.l,σ.floor,σ.gone,zA8 σ.n (zBG σ.l most σ.floor σ.gone G)⟩:=if_neg h
theorem zIT {σ:Stt} {most:Nat} {G:zBk} (ho:Oks σ.l most) (ha:zPS σ):zPS (zBU most σ G):=by
 by_cases h:zBG σ.l most σ.floor σ.gone G = 0
 · obtain ⟨h1,h2,h3,_,_,h4⟩:=zK3 h
   rw [h4]
   rcases zG5 (fl:=σ.floor) (gone:=σ.gone) ho h1 h2 with ⟨_,e1,e2,e3⟩ | ⟨_,y,r,e0,hy,e1,e2,e3⟩
   · unfold zPS
     rw [e1,e2,e3]
     intro hg x hx
     rcases zFA.1 hx with rfl | hx
     · dsimp only at hg ⊢;have:¬ _:=fun hc=>h3 ⟨hg,hc⟩;omega
     · exact ha hg x hx
   · unfold zPS
     dsimp only
     rw [e2]
     intro _ x hx
     have hs:=zNg (x:=zAL σ.l G) ho.srt h1
     rw [e1] at hs
     exact (List.pairwise_cons.1 hs).1 x hx
 · rw [zLk h];exact ha
theorem zHe {σ:Stt} {most:Nat} {G:zBk} {t:Int} (ho:Oks σ.l most) (ha:zPS σ) (hh:zWY σ t):zWY (zBU most σ G) t:=by
 by_cases h:zBG σ.l most σ.floor σ.gone G = 0
 · obtain ⟨h1,h2,h3,_,_,h4⟩:=zK3 h
   rw [h4]
   rcases zG5 (fl:=σ.floor) (gone:=σ.gone) ho h1 h2 with ⟨_,e1,e2,e3⟩ | ⟨_,y,r,e0,hy,e1,e2,e3⟩
   · unfold zWY
     dsimp only
     rw [e1,e2,e3]
     rcases hh with hh | hh
     · left
       obtain ⟨x,hx,he⟩:=zFI.1 hh
       exact zFI.2 ⟨x,zFA.2 (.inr hx),he⟩
     · exact .inr hh
   · unfold zWY
     dsimp only
     rw [e2,e3]
     rcases hh with hh | hh
     · obtain ⟨x,hx,he⟩:=zFI.1 hh
       have hm:x ∈ zBl σ.l (zAR σ.l (zAL σ.l G).t) (zAL σ.l G):=zFA.2 (.inr hx)
       rw [e1] at hm
       rcases List.mem_cons.1 hm with rfl | hm
       · right;exact ⟨rfl,by omega⟩
       · left;exact zFI.2 ⟨x,hm,he⟩
     · right
       have:=ha hh.1 y (by rw [e0];simp)
       exact ⟨rfl,by omega⟩
 · rw [zLk h];exact hh
theorem zRw {σ:Stt} {most:Nat} {G:zBk} (ho:Oks σ.l most) (h:zBG σ.l most σ.floor σ.gone G = 0):zCl (zBU most σ G).l G.t = true:=by
 obtain ⟨h1,h2,h3,h5,_,h4⟩:=zK3 h
 rw [h4,← h5]
 dsimp only
 rcases zG5 (fl:=σ.floor) (gone:=σ.gone) ho h1 h2 with ⟨_,e1,e2,e3⟩ | ⟨_,y,r,e0,hy,e1,e2,e3⟩
 · rw [e1];exact zFI.2 ⟨_,zFA.2 (.inl rfl),rfl⟩
 · have hm:zAL σ.l G ∈ zBl σ.l (zAR σ.l (zAL σ.l G).t) (zAL σ.l G):=zFA.2 (.inl rfl)
   rw [e1] at hm
   rcases List.mem_cons.1 hm with he | hm
   · rw [← he] at hy;omega
   · exact zFI.2 ⟨_,hm,rfl⟩
theorem zKO {l:List zAE} {most:Nat} {fl:Int} {gone:Bool} {G:zBk} (h:G.e = 0) (hk:zCl l G.t = true):zBG l most fl gone G = 12:=by
 have e:zHQ l most fl gone G = 12:=by
   unfold zHQ
   rw [zLq h hk,zHA (e:=12) (by decide),zHA (e:=12) (by decide)]
 rw [zJF h (by omega),e]
theorem zXH {σ:Stt} {most:Nat} {G:zBk} (h:G.e = 0) (hk:zCl σ.l G.t = false) (hh:zWY σ G.t):zBG σ.l most σ.floor σ.gone G = 13:=by
 have hs:stl σ.l most σ.floor σ.gone G.t = true:=by
   rcases hh with hh | ⟨h1,h2⟩
   · rw [hk] at hh;cases hh
   · unfold stl;rw [h1];simp [h2]
 have e:zHQ σ.l most σ.floor σ.gone G = 13:=by
   unfold zHQ
   rw [zN6 hk,zLq h hs,zHA (e:=13) (by decide)]
 rw [zJF h (by omega),e]
structure zID (most:Nat) (σ:Stt) (K:List (List zP)):Prop where
 ok:Oks σ.l most
 ab:zPS σ
 got:∀ b ∈ K,(zA b).e = 0 ∧ zWY σ (zA b).t
 num:σ.n 0 = K.length
theorem zID.start {most:Nat} (h:1 ≤ most ∧ most ≤ 64):zID most zVZ []:=⟨zYH h,fun hh=>(by cases hh),by simp,rfl⟩
theorem zID.no {most:Nat} {σ:Stt} {K:List (List zP)} {b:List zP} (h:zID most σ K) (he:zBG σ.l most σ.floor σ.gone (zA b) ≠ 0):zID most (zBU most σ (zA b)) K:=by
 refine ⟨zIU h.ok,zIT h.ok h.ab,fun c hc=>⟨(h.got c hc).1,zHe h.ok h.ab (h.got c hc).2⟩,?_⟩
 rw [zLk he]
 show zA8 σ.n _ 0 = _
 unfold zA8
 rw [if_neg (fun e=>he e.symm),h.num]
theorem zID.yes {most : Nat} {σ : Stt} {K : List (List zP)} {b : List zP} (h : zID most σ K) (he : zBG σ.l most σ.floor σ.gone (zA b) = 0) :
   zBG (zBU most σ (zA b)).l most (zBU most σ (zA b)).floor (zBU most σ (zA b)).gone (zA b) = 12 ∧ zID most (zBU most (zBU most σ (zA b)) (zA b)) (K ++ [b]):=by
 have h0:=(zIa he).1
 have hh:=zRw h.ok he
 have hd:=zKO (most:=most) (fl:=(zBU most σ (zA b)).floor) (gone:=(zBU most σ (zA b)).gone) h0 hh
 have hok:=zIU (bs:=b) h.ok
 have hab:=zIT (G:=zA b) h.ok h.ab
 refine ⟨hd,zIU hok,zIT hok hab,fun c hc=>?_,?_⟩
 · rcases List.mem_append.1 hc with hc | hc
   · exact ⟨(h.got c hc).1,zHe hok hab (zHe h.ok h.ab (h.got c hc).2)⟩
   · rw [List.mem_singleton.1 hc]
     exact ⟨h0,zHe hok hab (.inl hh)⟩
 · rw [zLk (by rw [hd];decide)]
   show zA8 (zBU most σ (zA b)).n _ 0 = _
   rw [hd]
   unfold zA8
   rw [if_neg (by decide),(zK3 he).2.2.2.2.2]
   show zA8 σ.n 0 0 = _
   unfold zA8
   rw [if_pos rfl,h.num,List.length_append];rfl
theorem zID.again {most:Nat} {σ:Stt} {K:List (List zP)} {b:List zP} (h:zID most σ K) (hb:b ∈ K):(zA b).e = 0 ∧ zBG σ.l most σ.floor σ.gone (zA b) = (if zCl σ.l (zA b).t = true then 12 else 13) ∧ zID most (zBU most σ (zA b)) K:=by
 obtain ⟨h1,h2⟩:=h.got b hb
 have e:zBG σ.l most σ.floor σ.gone (zA b) = (if zCl σ.l (zA b).t = true then 12 else 13):=by
   split
   · next hk=>exact zKO h1 hk
   · next hk=>exact zXH h1 (by simpa using hk) h2
 exact ⟨h1,e,h.no (by rw [e];split <;> decide)⟩
/-! ### Order -/
theorem zG1 : ∀ (n:Nat) (was:List zX) (rl:List zAB),was.length + rl.length ≤ n → (∀ r ∈ rl,zAc r = 0) → ∀ l,apl was rl = some l → ∀ x ∈ l,(∃ y ∈ was,y.id = x.id) ∨ (∃ r ∈ rl,r.id = x.id)
 | _,was,[],_,_,l,h,x,hx=>by
   unfold apl at h
   injection h with h
   subst h
   exact .inl ⟨x,hx,rfl⟩
 | 0,was,r :: rl,hn,_,_,_,_,_=>by simp at hn
 | n + 1,[],r :: rl,hn,hc,l,h,x,hx=>by
   unfold apl at h
   split at h
   · obtain ⟨l',h1,rfl⟩:=Option.map_eq_some_iff.1 h
     rcases List.mem_cons.1 hx with rfl | hx
     · exact .inr ⟨r,by simp,rfl⟩
     · rcases zG1 n [] rl (by simp at hn ⊢;omega) (fun r hr=>hc r (by simp [hr])) l' h1 x hx with ⟨y,hy,_⟩ | ⟨r',hr,e⟩
       · cases hy
       · exact .inr ⟨r',by simp [hr],e⟩
   · cases h
 | n + 1,y :: was,r :: rl,hn,hc,l,h,x,hx=>by
   have up:∀ {was':List zX} {rl':List zAB},((∃ y ∈ was',y.id = x.id) ∨ (∃ r ∈ rl',r.id = x.id)) → (∀ z ∈ was',z ∈ y :: was) → (∀ z ∈ rl',z ∈ r :: rl) → ((∃ z ∈ y :: was,z.id = x.id) ∨ (∃ z ∈ r :: rl,z.id = x.id)):=fun h h1 h2=>by
     rcases h with ⟨z,hz,e⟩ | ⟨z,hz,e⟩
     · exact .inl ⟨z,h1 z hz,e⟩
     · exact .inr ⟨z,h2 z hz,e⟩
   have hc':∀ z ∈ rl,zAc z = 0:=fun r hr=>hc r (by simp [hr])
   unfold apl at h
   split at h
   · obtain ⟨l',h1,rfl⟩:=Option.map_eq_some_iff.1 h
     rcases List.mem_cons.1 hx with rfl | hx
     · exact .inl ⟨x,by simp,rfl⟩
     · exact up (zG1 n was (r :: rl) (by simp at hn ⊢;omega) hc l' h1 x hx) (by simp +contextual) (by simp)
   · split at h
     · rename_i hid
       split at h
       · cases h
       · rename_i hk0
         split at h
         · exact up (zG1 n was rl (by simp at hn ⊢;omega) hc' l h x hx) (by simp +contextual) (by simp +contextual)
         · rename_i hk2
           obtain ⟨l',h1,rfl⟩:=Option.map_eq_some_iff.1 h
           rcases List.mem_cons.1 hx with rfl | hx
           · refine .inl ⟨y,by simp,?_⟩
             exact (zFr (hc r (by simp)) hid.symm hk0 hk2).1.symm
           · exact up (zG1 n was rl (by simp at hn ⊢;omega) hc' l' h1 x hx) (by simp +contextual) (by simp +contextual)
     · split at h
       · obtain ⟨l',h1,rfl⟩:=Option.map_eq_some_iff.1 h
         rcases List.mem_cons.1 hx with rfl | hx
         · exact .inr ⟨r,by simp,rfl⟩
         · exact up (zG1 n (y :: was) rl (by simp at hn ⊢;omega) hc' l' h1 x hx) (by simp) (by simp +contextual)
       · cases h
theorem zO2 {at_ atm gt gtm gb:Int} {a:List zX} {rl:List zAB} (h:aE at_ atm a gt gtm gb rl = 0):zAC (aS at_ atm a gt gtm gb rl).t (aS at_ atm a gt gtm gb rl).tm (aS at_ atm a gt gtm gb rl).l = 0:=by
 obtain ⟨h1,h2,l,h3,h4⟩:=zND h
 obtain ⟨hg,hr⟩:=zDA h1
 obtain ⟨g1,g2,g3,g4,_⟩:=zFE hg
 obtain ⟨hs,hc⟩:=zFM hr
 have hw:=zLT h2
 rw [zav h,h3]
 dsimp only [Option.getD_some]
 have hS:Srt l:=(zJ7 _ (zEg gb a) rl (Nat.le_refl _) [] (zEg gb a) (List.Perm.refl _) hw (by simp) hs (fun r hr=>(hc r hr).1)).2 l h3 |>.1
 have hR:∀ x ∈ l,0 ≤ x.id ∧ x.id ≤ 65535:=fun x hx=>by
   rcases zG1 _ (zEg gb a) rl (Nat.le_refl _) (fun r hr=>(hc r hr).1) l h3 x hx with ⟨y,hy,e⟩ | ⟨r,hr,e⟩
   · unfold zEg at hy
     split at hy
     · rename_i hg
       have:=zTE (zED (h2 hg).1).2.2.2.2.2 y hy
       omega
     · cases hy
   · have:=(hc r hr).2;omega
 rw [zB2 (by omega) (by omega)]
 exact zX6 hS hR
structure zME (σ:Stt) (most:Nat):Prop where
 ok:Oks σ.l most
 sn:∀ x ∈ σ.l,zAC x.t x.tm x.l = 0
 up:σ.l.Pairwise fun x y=>x.tm < y.tm
theorem zQy {l:List zAE} {x:zAE} {i:Nat} (h:l.Pairwise fun x y=>x.tm < y.tm) (hi:i ≤ l.length) (h1:0 < i → (l.getD (i - 1) default).tm < x.tm) (h2:i < l.length → x.tm < (l.getD i default).tm):(zBl l i x).Pairwise fun x y=>x.tm < y.tm:=by
 have hp:=List.pairwise_iff_getElem.1 h
 have b1:∀ y ∈ l.take i,y.tm < x.tm:=fun y hy=>by
   obtain ⟨j,hj,rfl⟩:=List.getElem_of_mem hy
   rw [List.length_take] at hj
   rw [List.getElem_take]
   have h3:=h1 (by omega)
   rw [List.getD_eq_getElem?_getD,List.getElem?_eq_getElem (show i - 1 < l.length by omega)] at h3
   change (l[i - 1]).tm < x.tm at h3
   by_cases e:j = i - 1
   · subst e;exact h3
   · have:=hp j (i - 1) (by omega) (by omega) (by omega);omega
 have b2:∀ y ∈ l.drop i,x.tm < y.tm:=fun y hy=>by
   obtain ⟨j,hj,rfl⟩:=List.getElem_of_mem hy
   rw [List.length_drop] at hj
   rw [List.getElem_drop]
   have h3:=h2 (by omega)
   rw [List.getD_eq_getElem?_getD,List.getElem?_eq_getElem (show i < l.length by omega)] at h3
   change x.tm < (l[i]).tm at h3
   by_cases e:j = 0
   · subst e;simpa using h3
   · have:=hp i (i + j) (by omega) (by omega) (by omega);omega
 unfold zBl
 refine List.pairwise_append.2 ⟨h.take,List.pairwise_cons.2 ⟨b2,h.drop⟩,fun a ha b hb=>?_⟩
 rcases List.mem_cons.1 hb with rfl | hb
 · exact b1 a ha
 · have:=b1 a ha;have:=b2 b hb;omega
theorem zME.start {most:Nat} (h:1 ≤ most ∧ most ≤ 64):zME zVZ most:=⟨zYH h,by simp [zVZ],List.Pairwise.nil⟩
theorem zME.acc {σ:Stt} {most:Nat} {bs:List zP} (h:zME σ most):zME (zBU most σ (zA bs)) most:=by
 refine ⟨zIU h.ok,?_,?_⟩
 all_goals
   by_cases he:zBG σ.l most σ.floor σ.gone (zA bs) = 0
   · obtain ⟨h1,h2,h3,h5,h6,h4⟩:=zK3 he
     rw [h4]
     have h7:=zIa he
     have hA:zAC (zAL σ.l (zA bs)).t (zAL σ.l (zA bs)).tm (zAL σ.l (zA bs)).l = 0:=zO2 h7.2.2.2.2.1
     have ht:=(zWw h1).1 h7.2.2.2.2.2
     have hr:=zQy (x:=zAL σ.l (zA bs)) h.up (zC3 _ _) ht.1 ht.2
     have hm:∀ x ∈ zBl σ.l (zAR σ.l (zAL σ.l (zA bs)).t) (zAL σ.l (zA bs)),zAC x.t x.tm x.l = 0:=fun x hx=>by
       rcases zFA.1 hx with rfl | hx
       · exact hA
       · exact h.sn x hx
     dsimp only
     unfold zF6
     split
     · first | exact hm | exact hr
     · first | exact fun x hx=>hm x (List.mem_of_mem_drop hx) | exact hr.drop
   · rw [zLk he]
     first | exact h.sn | exact h.up
theorem zME.at_ {σ:Stt} {most i:Nat} (h:zME σ most) (hi:i < σ.l.length):zKL σ.l ((i:Nat):Int) = 0 ∧ sat σ.l ((i:Nat):Int) = σ.l.getD i default ∧ zAC (σ.l.getD i default).t (σ.l.getD i default).tm (σ.l.getD i default).l = 0 ∧ (0 < i → (σ.l.getD (i - 1) default).t < (σ.l.getD i default).t ∧ (σ.l.getD (i - 1) default).tm < (σ.l.getD i default).tm):=by
 have hg:σ.l.getD i default = σ.l[i]:=by rw [List.getD_eq_getElem?_getD,List.getElem?_eq_getElem hi];rfl
 refine ⟨if_pos ⟨by omega,by omega⟩,if_pos ⟨by omega,by omega⟩,?_,fun h0=>?_⟩
 · rw [hg];exact h.sn _ (List.getElem_mem hi)
 · have hg':σ.l.getD (i - 1) default = σ.l[i - 1]:=by rw [List.getD_eq_getElem?_getD,List.getElem?_eq_getElem (by omega)];rfl
   rw [hg,hg']
   exact ⟨List.pairwise_iff_getElem.1 h.ok.srt _ _ (by omega) hi (by omega),List.pairwise_iff_getElem.1 h.up _ _ (by omega) hi (by omega)⟩
/-! ### Bytes that came in, several -/
structure BR where
 v:Value
 bs:List zP
instance : Inhabited BR:=⟨⟨.slice none 0 0,[]⟩⟩
end Go.Sx
/- A client with datagrams that are refused, beside one without: plain mathematics. -/
set_option linter.unusedVariables false
namespace Go.Sx
structure zIV (C D:CS):Prop where
 l:D.σ.l = C.σ.l
 floor:D.σ.floor = C.σ.floor
 gone:D.σ.gone = C.σ.gone
 n0:C.σ.n 0 = D.σ.n 0
 K:C.K = D.K
 fr:D.fr = C.fr
theorem zIV.refl (C:CS):zIV C C:=⟨rfl,rfl,rfl,rfl,rfl,rfl⟩
theorem zIV.err {C D:CS} (h:zIV C D) (c:zAF) (G:zBk):zBz c D G = zBz c C G:=by unfold zBz;rw [h.l,h.floor,h.gone]
theorem zIV.no {C D:CS} (h:zIV C D) {c:zAF} {x:Int} {G:zBk} (hne:zBz c D G ≠ 0):zIV C (zBC c D x G):=by
 have hs:zBU c.keep D.σ G = ⟨D.σ.l,D.σ.floor,D.σ.gone,zA8 D.σ.n (zBz c D G)⟩:=if_neg hne
 unfold zBC
 rw [if_neg hne,hs]
 refine ⟨h.l,h.floor,h.gone,?_,h.K,h.fr⟩
 rw [h.n0]
 exact (if_neg (fun e=>hne e.symm)).symm
theorem zIV.arr {C D:CS} (h:zIV C D) (c:zAF) (x:Int) (G:zBk):zIV (zBC c C x G) (zBC c D x G):=by
 by_cases he:zBz c C G = 0
 · have he2:zBz c D G = 0:=(h.err c G).trans he
   have h1:zBU c.keep C.σ G = ⟨zF6 C.σ.l c.keep (zAL C.σ.l G),zKB C.σ.l c.keep C.σ.floor (zAL C.σ.l G),zKY C.σ.l c.keep C.σ.gone (zAL C.σ.l G),zA8 C.σ.n 0⟩:=if_pos he
   have h2:zBU c.keep D.σ G = ⟨zF6 C.σ.l c.keep (zAL C.σ.l G),zKB C.σ.l c.keep C.σ.floor (zAL C.σ.l G),zKY C.σ.l c.keep C.σ.gone (zAL C.σ.l G),zA8 D.σ.n 0⟩:=by rw [show zBU c.keep D.σ G = _ from if_pos he2,h.l,h.floor,h.gone]
   have ht:zMp c D G = zMp c C G:=by unfold zMp;rw [h1,h2,h.l,h.floor,h.gone]
   unfold zBC
   rw [if_pos he,if_pos he2,ht,h1,h2,← h.K]
   refine ⟨rfl,rfl,rfl,?_,rfl,h.fr⟩
   show zA8 C.σ.n 0 0 = zA8 D.σ.n 0 0
   unfold zA8
   rw [if_pos rfl,if_pos rfl,h.n0]
 · have hn:zBz c D G ≠ 0:=by rw [h.err];exact he
   have h2:=h.no (x:=x) hn
   have hs:zBU c.keep C.σ G = ⟨C.σ.l,C.σ.floor,C.σ.gone,zA8 C.σ.n (zBz c C G)⟩:=if_neg he
   have h3:(zBC c C x G).σ.n 0 = C.σ.n 0:=by
     show (zBU c.keep C.σ G).n 0 = _
     rw [hs];exact if_neg (fun e=>he e.symm)
   have h4:(zBC c C x G).K = C.K:=if_neg he
   have h5:(zBC c C x G).σ.l = C.σ.l ∧ (zBC c C x G).σ.floor = C.σ.floor ∧ (zBC c C x G).σ.gone = C.σ.gone:=by
     show (zBU c.keep C.σ G).l = _ ∧ (zBU c.keep C.σ G).floor = _ ∧ (zBU c.keep C.σ G).gone = _
     rw [hs];exact ⟨rfl,rfl,rfl⟩
   exact ⟨h2.l.trans h5.1.symm,h2.floor.trans h5.2.1.symm,h2.gone.trans h5.2.2.symm,h3.trans h2.n0,h4.trans h2.K,h2.fr⟩
theorem zIV.frm {C D:CS} (h:zIV C D) (c:zAF) (x:Int):zIV (zQn c C x) (zQn c D x) :=
 ⟨h.l,h.floor,h.gone,h.n0,by show zJZ c C.K x = zJZ c D.K x;rw [h.K],by show D.fr + 1 = C.fr + 1;rw [h.fr]⟩
theorem zIV.do_ {C D:CS} (h:zIV C D) (c:zAF) (e:EvR):zIV (cDo c C e) (cDo c D e):=by
 unfold cDo
 split
 · exact h.arr c _ _
 · split
   · exact h.frm c _
   · exact h
theorem zIV.doE {C D:CS} (h:zIV C D) (c:zAF) (e:EvR):zFS c D e = zFS c C e:=by unfold zFS;rw [h.err]
theorem zIV.doS {C D:CS} (h:zIV C D) (c:zAF) (e:EvR):zIx c D e = zIx c C e:=by unfold zIx zCX;rw [h.K,h.l]
theorem zVh {c:zAF} {C:CS} {G:zBk} (h:((G.e:Nat):Int) ≠ 0):zBz c C G ≠ 0:=by
 unfold zBz zBG
 rw [if_pos (by omega)]
 omega
theorem zQt {c:zAF} {C D:CS} {e:EvR} (h:zIV C D) (ho:Oks D.σ.l c.keep) (hk:e.k = 0) (h0:((zFS c C e:Nat):Int) = 0):zBz c (cDo c D e) (zA e.bs) ≠ 0:=by
 have h1:zBz c D (zA e.bs) = 0:=by
   rw [h.err]
   unfold zFS at h0
   rw [if_pos hk] at h0
   omega
 have h2:cDo c D e = zBC c D e.at_ (zA e.bs):=if_pos hk
 rw [h2]
 have h3:=zRw ho h1
 have h4:=zKO (most:=c.keep) (fl:=(zBU c.keep D.σ (zA e.bs)).floor) (gone:=(zBU c.keep D.σ (zA e.bs)).gone) (zIa h1).1 h3
 intro hz
 have h5:zBG (zBU c.keep D.σ (zA e.bs)).l c.keep (zBU c.keep D.σ (zA e.bs)).floor (zBU c.keep D.σ (zA e.bs)).gone (zA e.bs) = 0:=hz
 rw [h4] at h5
 exact absurd h5 (by decide)
theorem zaw {a:Nat} (h:a ≠ 0):((((a:Nat):Int)) == 0) = false:=by rw [beq_eq_false_iff_ne];omega
end Go.Sx
/- What is shown, by and by: plain mathematics. -/
set_option linter.unusedVariables false
namespace Go.Sx
/-! ### Times never go back -/
theorem zZj {c:zAF} {K:KS} {x:Int} (hq:0 < K.l2.length) (hb:K.b ≠ 0):K.s ≤ kTm c K x:=by
 unfold kTm sS sS1
 rw [if_pos hq,show sP K.b (zRA K x) K.s = K.s from if_neg hb]
 omega
theorem zZJ {c:zAF} {K:KS} {x:Int} (hq:0 < K.l2.length):(zJZ c K x).b = 1 ∧ (zJZ c K x).s = kTm c K x:=by
 unfold zJZ kTm;rw [if_pos hq,if_pos hq];exact ⟨rfl,rfl⟩
def ShI (K:KS) (bg:Bool) (last:Int):Prop:=bg = true → K.b = 1 ∧ K.s = last
theorem ShI.arr {c:zAF} {C:CS} {bg:Bool} {last x:Int} {G:zBk} (h:ShI C.K bg last):ShI (zBC c C x G).K bg last:=by
 intro hb
 have:=h hb
 show (if _ then _ else _:KS).b = 1 ∧ (if _ then _ else _:KS).s = last
 split <;> exact this
theorem ShI.other {c:zAF} {C:CS} {bg:Bool} {last:Int} {e:EvR} (h:ShI C.K bg last) (hr:(zIx c C e).ready = false):ShI (cDo c C e).K bg last:=by
 unfold cDo
 split
 · exact h.arr
 · split
   · rename_i hk
     unfold zIx at hr;rw [if_pos hk] at hr
     intro hb
     show (zJZ c C.K e.at_).b = 1 ∧ (zJZ c C.K e.at_).s = last
     unfold zCX at hr
     unfold zJZ
     split at hr
     · cases hr
     · rename_i hq;rw [if_neg hq];exact h hb
   · exact h
theorem ShI.shown {c:zAF} {C:CS} {x:Int} (hq:0 < C.K.l2.length):ShI (zQn c C x).K true (kTm c C.K x):=fun _=>zZJ hq
theorem ShI.ge {c:zAF} {C:CS} {bg:Bool} {last x:Int} (h:ShI C.K bg last) (hq:0 < C.K.l2.length) (hb:bg = true):¬ kTm c C.K x < last:=by
 obtain ⟨h1,h2⟩:=h hb
 have:=zZj (c:=c) (x:=x) hq (by rw [h1];decide)
 omega
/-! ### What is kept, one by one -/
/-! ### Ids rise -/
theorem zZR (p:zFq):zAO (zBB p) (zBB p) = true:=by
 simp [zAO,vEq,zBB]
end Go.Sx
/- Walks of what is shown, twice: what each function does, over the program of this seat. Printed by a program of this session. -/
namespace Go.Proofs.YtemnjodhidlfpaaGreat
open Tryz
open Go Go.Sx Go.RowKit
set_option linter.unusedVariables false
set_option linter.unusedSimpArgs false
set_option maxRecDepth 4000
set_option maxHeartbeats 1000000

theorem zRT (l:List zFq) (v v2:Value) (w0:World) (h1:Rd w0 [] v 6 l.length (l.flatMap zBB)) (h2:Rd w0 [] v2 6 l.length (l.flatMap zBB)):Calls Tryz.prog 50 #[v,v2] w0 (zAf w0 (.bool true)):=by
 have hle:=h1.le
 simp only [maxLen] at hle
 refine zF (F0:=[(0,v),(1,v2)]) func50 rfl rfl rfl (.c (.c .n)) (Mem.nil _) ?_
 refine go 2 [] [6,0,1] .n ?_
 intro a w hs;refine zW hs rfl (hs.rd0 h1).isSl underlying34 rfl ?_
 refine goL 1 [] [8,7,0,1] .n ?_
 intro a w hs;refine zW hs rfl (hs.rd0 h2).isSl underlying34 rfl ?_
 refine zPb 1 1 [] [10,0,1] .n ?_
 have hb_:(!((((l.length:Nat):Int):Int) == ((l.length:Nat):Int))) = false:=zGe rfl
 intro a w hs;rw [hb_] at hs;clear hb_
 revert a w hs
 refine go 2 [] [5,0,1] .n ?_
 intro a w hs;refine zCr (fun mm_ a w=>∃ j:Nat,mm_ = l.length - j ∧ St 26 [(0,v),(1,v2),(5,nI j)] w0 [] [] a w ∧ j ≤ l.length) ⟨0,rfl,hs.sub (.c rfl (.c rfl (.c rfl .n))),by omega⟩ ?_
 clear hs w a;rintro mm_ a w ⟨j,rfl,hs,hI1_0⟩
 revert a w hs
 refine go 2 [] [12,11,0,1,5] .n ?_
 intro a w hs;refine zW hs rfl (hs.rd0 h1).isSl underlying34 rfl ?_
 refine goL 1 [] [14,0,1,5] .n ?_
 refine ifG rfl (fun c_1=>?_) (fun c_1=>?_)
 ·
  refine go 0 [] [0,1,5] .n ?_
  intro a w hs
  refine zR [.p [] [],.p [] [],.v [1,0] (.pointer (some (adr v (j * 6)))),.v [2] (.agg #[zI ((l.getD j default).id),zI ((l.getD j default).p0),zI ((l.getD j default).p1),zI ((l.getD j default).p2),.int .u16 ((((l.getD j default).a).toNat:Nat):Int),zI ((l.getD j default).m)]),.p [] [],.p [] [],.v [5,4] (.pointer (some (adr v2 (j * 6)))),.v [6] (.agg #[zI ((l.getD j default).id),zI ((l.getD j default).p0),zI ((l.getD j default).p1),zI ((l.getD j default).p2),.int .u16 ((((l.getD j default).a).toNat:Nat):Int),zI ((l.getD j default).m)]),.v [7,3] (.bool (false))] [8] hs .n .n (by kernel_rfl) ⟨fun _ _ _ _ hm hs K=>zBt (j:=j) hs rfl rfl (hm.rd0 h1) rfl (by omega) underlying34 sizeOf52 rfl (vk K),fun _ _ _ _ hm hs K=>zBQ (cs:=zBB (l.getD j default)) hs rfl (hm.rd0 h1) (zAh zGH l j (by omega)) (by rw [zAX zGH];omega) (by omega) isAgg52 sizeOf52 rfl (vk K),fun _ _ _ _ hm hs K=>zBt (j:=j) hs rfl rfl (hm.rd0 h2) rfl (by omega) underlying34 sizeOf52 rfl (vk K),fun _ _ _ _ hm hs K=>zBQ (cs:=zBB (l.getD j default)) hs rfl (hm.rd0 h2) (zAh zGH l j (by omega)) (by rw [zAX zGH];omega) (by omega) isAgg52 sizeOf52 rfl (vk K),fun _ _ _ _ hm hs K=>zRm (xs:=[zI ((l.getD j default).id),zI ((l.getD j default).p0),zI ((l.getD j default).p1),zI ((l.getD j default).p2),.int .u16 ((((l.getD j default).a).toNat:Nat):Int),zI ((l.getD j default).m)]) (ys:=[zI ((l.getD j default).id),zI ((l.getD j default).p0),zI ((l.getD j default).p1),zI ((l.getD j default).p2),.int .u16 ((((l.getD j default).a).toNat:Nat):Int),zI ((l.getD j default).m)]) (ks:=[.i .i64,.i .i64,.i .i64,.i .i64,.i .u16,.i .i64]) 6 hs rfl rfl (by kernel_rfl) (by kernel_rfl) (by kernel_rfl) (by decide) (.i (.i (.i (.i (.i (.i .n)))))) (.i (.i (.i (.i (.i (.i .n)))))) rfl (fun a w hs=>wpList_nil (K _ _ (by rw [show (!(zAO [zI ((l.getD j default).id),zI ((l.getD j default).p0),zI ((l.getD j default).p1),zI ((l.getD j default).p2),.int .u16 ((((l.getD j default).a).toNat:Nat):Int),zI ((l.getD j default).m)] [zI ((l.getD j default).id),zI ((l.getD j default).p0),zI ((l.getD j default).p1),zI ((l.getD j default).p2),.int .u16 ((((l.getD j default).a).toNat:Nat):Int),zI ((l.getD j default).m)])) = false from congrArg Bool.not (zZR (l.getD j default))] at hs;exact hs))),⟨rfl,by kernel_rfl,fun _=>rfl,rfl,rfl,trivial⟩,fun _=>rfl,?_⟩
  refine goE 4 [] [5,0,1] .n ⟨(by omega),?_⟩
  intro a w hs;refine ⟨_,?_,(j + 1),rfl,hs.sub (.c rfl (.c rfl (.c rfl .n))),by omega⟩
  omega
 refine go 1 [] [4] .n ?_
 intro a w hs;exact fin hs rfl rfl ⟨rfl,rfl⟩
theorem zCN (s:ShR) (v v2:Value) (w0:World) (h1:Rd w0 [] v 6 s.l.length (s.l.flatMap zBB)) (h2:Rd w0 [] v2 6 s.l.length (s.l.flatMap zBB)):Calls Tryz.prog 20 #[.agg #[.bool (s.ready),zI s.time,v],.agg #[.bool (s.ready),zI s.time,v2]] w0 (zAf w0 (.bool true)):=by
 refine zF (F0:=[(0,.agg #[.bool (s.ready),zI s.time,v]),(1,.agg #[.bool (s.ready),zI s.time,v2])]) func20 rfl rfl rfl (.c (.c .n)) (Mem.nil _) ?_
 refine go 8 [0,0,1,0] [9,3,2] .n (fun g1=>fun g2=>⟨rfl,rfl,?_⟩)
 have hb_:((s.ready:Bool) == s.ready) = true:=by simp
 intro a w hs;rw [hb_] at hs;clear hb_
 revert a w hs
 refine go 6 [0,1] [15,10,3,2] (.c (.s .z) (.c .z .n)) ⟨rfl,rfl,?_⟩
 have hb_:((s.time:Int) == s.time) = true:=by simp
 intro a w hs;rw [hb_] at hs;clear hb_
 revert a w hs
 refine go 6 [0,1] [21,19,17] (.c .z (.c .z .n)) ⟨rfl,rfl,?_⟩
 intro a w hs;refine zC hs rfl rfl rfl ?_
 refine zB (v:=.bool true) hs (.c rfl (.c rfl .n)) call50 (zRT s.l _ _ _ (hs.rd0 h1) (hs.rd0 h2)) rfl ?_
 refine goL 2 [] [4] .n ?_
 refine cl (·.drop (.c (.s .z) (.c .z .n))) ?_
 intro a w hs;exact fin hs rfl rfl ⟨rfl,rfl⟩
end Go.Proofs.YtemnjodhidlfpaaGreat
/- Ranges over a function whose rounds may leave the loop; deferred calls. -/
set_option linter.unusedVariables false
set_option linter.unusedSimpArgs false
namespace Go.Sx
open Go.RowKit
variable {P : Program} {ops : Array Oper} {Q : Exit → Act → World → Prop} {rest : List Oper} {n : Nat} {F : List (Nat × Value)} {w0 : World} {S : List Nat} {M : List HA} {a : Act} {w : World}
variable {d : Nat} {ty : TypeId} {pos : String} {af : Array Edge}
/-! ### Rounds that may leave -/
theorem zRB {m L : Nat} {x : Operand} {xs : List Operand} {ats : Array TypeId} {vs : List Value} {X M' : List HA} {post : Bool → List HA → Prop} (hs : St n F w0 S M a w) (hx : evo F x = some (.func (.yield L) #[] #[])) (hv : Evs F xs vs) (hX : zC5 M X M')
   (hy:∀ W:World,(∀ h ∈ X,h.p W) → (zN X).Nodup → YieldAt Fence.wide (m - 1) P L vs.toArray W fun e W'=>∃ b,e = .returned (.bool b) ∧ ∃ N,post b N ∧ Mem W (zN X) N W') (hd:Nat.blt d n = true)
   (k:∀ b N a w,post b N → St n ((d,.bool b) :: F) w0 S (N ++ M') a w → wpListIn (Fw none) m P ops Q rest a w):wpListIn (Fw none) m P ops Q (⟨some d,.call { callee:=.value x,args:=xs.toArray,argTypes:=ats },ty,pos,af,none⟩ :: rest) a w:=by
 have hall:∀ h ∈ X,h.p w:=fun h hh=>hs.mem.all h ((hX.mem h).2 (.inl hh))
 have hnd:(zN X).Nodup:=(List.nodup_append.1 (hX.perm.nodup_iff.1 hs.mem.nd)).1
 obtain ⟨fn,tmps,assign,body,hy1,hy2⟩:=hy w hall hnd
 have hr:(execOp a.eval ⟨some d,.call { callee:=.value x,args:=xs.toArray,argTypes:=ats },ty,pos,af,none⟩).run P w = .ok (.round L fn tmps assign body) w:=by
   simp [execOp,resolve,invoke,Deferred.ofValue,hs.ev hx,hs.evs hv,hy1]
 simp only [wpListIn]
 rw [if_pos (by simp [Region.wanted])]
 refine ⟨fun _ _=>trivial,?_⟩
 have hr':(Oper.semAt (Fw none).round a.eval ⟨some d,.call { callee:=.value x,args:=xs.toArray,argTypes:=ats },ty,pos,af,none⟩).run P w = .ok (.round L fn tmps assign body) w:=hr
 rw [hr',Oper.uponIn_round]
 refine ⟨fun hx=>(by cases hx),RoundIn.mono hy2 ?_⟩
 rintro e W' ⟨b,rfl,N,hp,hm⟩
 exact k b N _ _ hp ((hs.frame hX hm).put hd _)
def zSq (rec:LoopState → Loop):Loop:={ rec .done with pending:=some .ret }
def zbM (rec:LoopState → Loop):Loop:={ rec .exhausted with pending:=some .ret }
theorem St.round2 {p p2:Nat} (hs:St n F w0 S M a w) (hd:Nat.blt p n = true) (hd2:Nat.blt p2 n = true) (v v2:Value) {W:World} {S':List Nat} {M':List HA} (hm:Mem W S' M' W):St n ((p2,v2) :: (p,v) :: F) W S' M' { tmps:=(a.tmps.setIfInBounds p v).setIfInBounds p2 v2,defers:=[] } W :=
 ⟨((hs.put hd v).put hd2 v2).size,rfl,((hs.put hd v).put hd2 v2).agr,hm⟩
theorem zQY {L D fn p p2 : Nat} {assign body : Code} {rec : LoopState → Loop} {ps : Array Tmp} {v v2 : Value} {W : World} {S' : List Nat} {Mr : List HA} {post postJ : List HA → Prop} (hs : St n F w0 S M a w) (hrec : Rec rec fn a.tmps ps assign body D) (hps : ps = #[p, p2]) (hd : Nat.blt p n = true) (hd2 : Nat.blt p2 n = true)
   (hM:Mem W S' (obj L (.loop (rec .ready)) :: Mr) W)
   (walk:∀ a1 w1,St n ((p2,v2) :: (p,v) :: F) W S' (obj L (.loop (rec .ready)) :: Mr) a1 w1 → assign.wpIn (Fw (some L)) 0 P (Exit.then (fun a2 w2=>∃ F2 M2,St n F2 W S' (obj L (.loop (rec .ready)) :: M2) a2 w2 ∧
     ∀ w3,St n F2 W S' (obj L (.loop (rec .busy)) :: M2) a2 w3 → body.wpIn (Fw (some L)) 0 P (fun e _ w4=>(e = .normal ∧ ∃ N,post N ∧ Mem W S' (obj L (.loop (rec .busy)) :: N) w4) ∨ (e = .ret ∧ ∃ N,postJ N ∧ Mem W S' (obj L (.loop (rec .busy)) :: N) w4)) a2 w3) (fun _ _ _=>False)) a1 w1) :
   YieldAt Fence.wide 0 P L #[v,v2] W fun e W'=>(e = .returned (.bool true) ∧ ∃ N,post N ∧ Mem W S' (obj L (.loop (rec .ready)) :: N) W') ∨ (e = .returned (.bool false) ∧ ∃ N,postJ N ∧ Mem W S' (obj L (.loop (zSq rec)) :: N) W'):=by
 subst hps
 have hL:W.heap[L]? = some (.loop (rec .ready)):=hM.all _ (List.mem_cons_self)
 have hy:=run_yield (P:=P) (args:=#[v,v2]) hL (by rw [hrec];rfl)
 rw [hrec] at hy
 have e1:(((#[p,p2]:Array Tmp).zip #[v,v2]).foldl (fun tmps (t,a)=>tmps.setIfInBounds t a) a.tmps) = (a.tmps.setIfInBounds p v).setIfInBounds p2 v2:=by simp
 dsimp only at hy
 rw [e1] at hy
 refine ⟨_,_,_,_,hy,roundIn_of_wpIn trivial ?_⟩
 refine wpIn_mono (walk _ _ (hs.round2 hd hd2 v v2 hM)) ?_
 intro e a2 w2 he
 cases e with
 | normal =>
   obtain ⟨F2,M2,hst,hb⟩:=he
   have hL2:w2.heap[L]? = some (.loop (rec .ready)):=hst.mem.all _ (List.mem_cons_self)
   have hbr:=run_beginRound (P:=P) hL2 (by rw [hrec])
   have ex:({ rec .ready with state:=.busy }:Loop) = rec .busy:=by rw [hrec,hrec]
   rw [ex] at hbr
   refine ⟨_,hbr,wpIn_mono (hb _ (hst.frame (.c .z .n) (zDO hL2))) ?_⟩
   rintro e a4 w4 (⟨rfl,N,hp,hm⟩ | ⟨rfl,N,hp,hm⟩)
   · have hL4:w4.heap[L]? = some (.loop (rec .busy)):=hm.all _ (List.mem_cons_self)
     have her:=run_endRound (P:=P) none hL4
     have ey:({ rec .busy with state:=if (none:Option Code).isNone = true then .ready else .done,pending:=none }:Loop) = rec .ready:=by rw [hrec,hrec];rfl
     rw [ey] at her
     exact ⟨_,_,her,.inl ⟨rfl,N,hp,hm.frame (.c .z .n) (zDO hL4)⟩⟩
   · have hL4:w4.heap[L]? = some (.loop (rec .busy)):=hm.all _ (List.mem_cons_self)
     have her:=run_endRound (P:=P) (some .ret) hL4
     have ey:({ rec .busy with state:=if (some Code.ret:Option Code).isNone = true then .ready else .done,pending:=some .ret }:Loop) = zSq rec:=by rw [zSq,hrec,hrec];rfl
     rw [ey] at her
     exact ⟨_,_,her,.inr ⟨rfl,N,hp,hm.frame (.c .z .n) (zDO hL4)⟩⟩
 | exit id=>exact he.elim
 | goto t=>exact he.elim
 | ret=>exact he.elim
 | panic ch=>exact he.elim
 | outgrown=>exact he.elim
theorem zKA {m gf : Nat} {g : Operand} {ps : Array Tmp} {assign body : Code} {lb : List Value} (hs : St n F w0 S M a w) (hg : evo F g = some (.func (.func gf) #[] lb.toArray)) (eg : ∀ args w, (callFunc gf args).run P w = .ok (.enter gf args) w)
   (h:∀ fn D L W rec,Rec rec fn a.tmps ps assign body D → Mem w0 S (obj L (.loop (rec .ready)) :: obj D (.deferred (some [])) :: M) W →
     Calls P gf (.func (.yield L) #[] #[] :: lb).toArray W fun e W'=>(∃ v,e = .returned v) ∧ ((∃ M2,Mem w0 S (obj L (.loop (rec .ready)) :: obj D (.deferred (some [])) :: M2) W' ∧
       ∀ W'',Mem w0 S (obj L (.loop (rec .exhausted)) :: obj D (.deferred (some [])) :: M2) W'' → Q .normal { a with defers:={ target:=.collected D,args:=#[] } :: a.defers } W'') ∨
       (∃ M2,Mem w0 S (obj L (.loop (zSq rec)) :: obj D (.deferred (some [])) :: M2) W' ∧
       ∀ W'',Mem w0 S (obj L (.loop (zbM rec)) :: obj D (.deferred (some [])) :: M2) W'' → Q .ret { a with defers:={ target:=.collected D,args:=#[] } :: a.defers } W''))) :
   (Code.rangeFunc g ps assign body).wpIn (Fw none) m P Q a w:=by
 refine wpIn_rangeFunc fun fn _=>?_
 have h1:=hs.mem.frame (zC5.n (M:=M)) (zFJ w (.deferred (some [])))
 have h2:=h1.frame (zC5.n (M:=[obj w.heap.size (.deferred (some []))] ++ M)) (zFJ (w.alloc (.deferred (some []))) (.loop { state:=.ready,pending:=none,fn,tmps:=a.tmps,params:=ps,assign,body,defers:=w.heap.size }))
 rw [World.size_alloc] at h2
 have he:=run_enterLoop_outer (P:=P) (w:=w) fn a.tmps ps assign body
 generalize (w.alloc (.deferred (some []))).alloc (.loop { state:=.ready,pending:=none,fn:=fn,tmps:=a.tmps,params:=ps,assign:=assign,body:=body,defers:=w.heap.size }) = W1 at h2 he
 obtain ⟨rec,hrec⟩ : ∃ rec:LoopState → Loop,Rec rec fn a.tmps ps assign body w.heap.size:=⟨fun s=>{ state:=s,pending:=none,fn,tmps:=a.tmps,params:=ps,assign,body,defers:=w.heap.size },fun _=>rfl⟩
 rw [← hrec .ready] at h2
 have hc:=h fn w.heap.size (w.heap.size + 1) _ rec hrec h2
 refine ⟨w.heap.size + 1,[{ target:=.collected w.heap.size,args:=#[] }],W1,{ target:=.fn (.func gf) lb.toArray,args:=#[.func (.yield (w.heap.size + 1)) #[] #[]] },W1,gf,(.func (.yield (w.heap.size + 1)) #[] #[] :: lb).toArray,W1,he,?_,fun _ _=>trivial,?_,fun hx=>(by cases hx),?_⟩
 · have hge:=hs.ev hg
   have hce:a.eval (.const (.func (.yield (w.heap.size + 1)) #[] #[])) = .func (.yield (w.heap.size + 1)) #[] #[]:=rfl
   simp [resolve,Deferred.ofValue,hge,hce]
 · simp [invoke,eg]
 · refine CallsIn.mono (callsIn_wide.2 hc) ?_
   rintro e W' ⟨⟨v,rfl⟩,⟨M2,hm,hq⟩ | ⟨M2,hm,hq⟩⟩
   · have hl:=hm.all _ (List.mem_cons_self)
     have hr:=run_endLoop (P:=P) hl (by rw [hrec];simp)
     have hx:({ rec .ready with state:=.exhausted }:Loop) = rec .exhausted:=by rw [hrec,hrec]
     rw [hx] at hr
     have hp:(rec .ready).pending = none:=by rw [hrec]
     rw [hp] at hr
     exact ⟨none,_,hr,hq _ (hm.frame (.c .z .n) (zDO hl))⟩
   · have hl:=hm.all _ (List.mem_cons_self)
     have hr:=run_endLoop (P:=P) hl (by rw [zSq,hrec];simp)
     have hx:({ zSq rec with state:=.exhausted }:Loop) = zbM rec:=by rw [zSq,zbM,hrec,hrec]
     rw [hx] at hr
     have hp:(zSq rec).pending = some .ret:=rfl
     rw [hp] at hr
     exact ⟨some .ret,_,hr,wpIn_ret (hq _ (hm.frame (.c .z .n) (zDO hl)))⟩
theorem zQm {m:Nat} {F':Fence} {c:Operand} {x y:Code} {t:Bool} (hs:St n F w0 S M a w) (hc:evo F c = some (.bool t)) (ht:t = true → x.wpIn F' m P Q a w) (hf:t = false → y.wpIn F' m P Q a w):(Code.cond c x y).wpIn F' m P Q a w:=by
 cases t with
 | true=>exact wpIn_cond_true (hs.ev hc) (ht rfl)
 | false=>exact wpIn_cond_false (hs.ev hc) (hf rfl)
theorem zV5 {fn:Func} {R:Ending → World → Prop} {D:Nat} {tmps:Array Value} {v:Value} (hr:(results fn tmps).run P (w.putObj D (.deferred none)) = .ok v (w.putObj D (.deferred none))) (hD:w.heap[D]? = some (.deferred (some []))) (hR:R (.returned v) (w.putObj D (.deferred none))):bodyPostM (Fw none) 1 P fn R .ret { tmps:=tmps,defers:=[{ target:=.collected D,args:=#[] }] } w:=by
 refine ⟨by simp,.inl ⟨_,_,rfl,run_takeDeferred hD,?_⟩⟩
 exact ⟨_,hr,hR⟩
theorem za3 {r:Option Nat} {m:Nat} {md:Region.Mode} (hQ:∀ a w,¬ Q .outgrown a w) (hd:∀ (i:Nat) (o:Oper),ops[i]? = some o → ∀ c,o.op ≠ .defer c):∀ (fuel:Nat) (listed:Array Bool) (a:Act) (w:World),wpAny P md ops Q fuel listed a w → wpAnyIn (Fw r) m P md ops Q fuel listed a w:=by
 intro fuel
 induction fuel with
 | zero=>intro listed a w h;exact h
 | succ fuel ih =>
   intro listed a w h
   refine ⟨fun hr=>h.1 hr,fun i hi=>?_⟩
   have h:=h.2 i hi
   unfold wpOp at h
   unfold wpOpIn
   have ih':=fun a w=>ih (listed.setIfInBounds i true) a w
   cases ho:ops[i]? with
   | none=>rw [ho] at h;exact ih _ _ _ h
   | some o =>
     rw [ho] at h
     dsimp only at h ⊢
     by_cases hw:Region.wanted o (yielded ops a.tmps) = true
     · rw [if_pos hw] at h ⊢
       rcases h with h | ⟨_,a0,w0,h0⟩
       · refine ⟨fun _ _=>trivial,?_⟩
         rw [Oper.semAt_eq _ _ _ (hd i o ho)]
         unfold Oper.wp at h
         generalize (execOp a.eval o).run P w = x at h
         cases x with
         | ok nx w' =>
           cases nx with
           | value v=>exact ih' _ _ h
           | skip=>exact ih' _ _ h
           | defer dd=>exact ih' _ _ h
           | enter f args =>
             have h:Calls P f args w' _:=h
             refine ⟨fun hx=>(by cases hx),?_⟩
             refine CallsIn.mono (callsIn_wide.2 h) ?_
             intro e w'' he
             cases e with
             | returned v=>exact ih' _ _ he
             | panicked ch=>exact he
             | outgrown=>obtain ⟨a1,w1,h1⟩:=he;exact absurd h1 (hQ a1 w1)
           | row row args =>
             have h:Rows P row args w' _:=h
             refine ⟨fun hx=>(by cases hx),fun c cs _=>?_⟩
             obtain ⟨v,w'',hv,hs⟩:=h c cs
             exact ⟨v,w'',ih' _ _ hv,stepsIn_wide.2 hs⟩
           | _=>exact h.elim
         | halt hl w' =>
           cases hl with
           | panic v=>exact h
           | _=>exact h.elim
       · exact absurd h0 (hQ a0 w0)
     · rw [if_neg hw] at h ⊢
       exact ⟨fun _ _=>trivial,ih' _ _ h⟩
theorem zSn {r:Option Nat} {m id:Nat} {l:List Oper} (hm:P.follows .mixedOrders = true) (hQ:∀ a w,¬ Q .outgrown a w) (hd:zOc l) (h:zbN P Q l.toArray a w):(Code.region id l.toArray true).wpIn (Fw r) m P Q a w :=
 wpIn_region_any hm (za3 hQ (fun i o ho=>hd o (List.mem_of_getElem? (by simpa using ho))) _ _ _ _ h)
theorem zPm {r : Option Nat} {m id : Nat} {l : List Oper} {Mp M1 : List HA} {B Xp : BL} (hQ : ∀ a w, ¬ Q .outgrown a w) (hnd : zOc l) (cs : List DC) (live : List Nat) (hs : St n F w0 S M a w) (tx : zDr M Xp Mp) (tk : zDr Mp B M1) (hb : zL6 P F l cs = true)
   (h:zEY P n F w0 S Mp l B Xp cs 0 l cs [] [] [] fun E R=>zY6 R [] fun Ds=>(Ds.flatMap (·.X) = bls Xp ∧ zLg l Ds = true ∧ (∀ vs,Nsm vs 0 Ds = Ds.map (·.N vs)) ∧ Ds.map (·.X) = cs.map (·.X Xp) ∧ Ds.map (·.use) = cs.map (·.use) ∧ zDR P l n F w0 S Mp Ds E 0 l cs) ∧
     pvF l live E F fun G=>zGi (Mp ++ zSv (Ds.flatMap (·.use)) (fun _=>undef) 0 Ds) fun M'=>(∀ vs,Mp ++ zSv (Ds.flatMap (·.use)) vs 0 Ds = M') ∧ ∀ a w,St n G w0 S M' a w → Q .normal a w):(Code.region id l.toArray true).wpIn (Fw r) m P Q a w:=by
 simp only [zL6,Bool.and_eq_true] at hb
 obtain ⟨hm,hb⟩:=hb
 obtain ⟨E',R',h1,_,h3,h4⟩:=zGQ tk l 0 cs [] [] [] _ h rfl rfl hb.2
 rw [List.append_nil] at h1 h4
 have h1:=zIX h1
 rw [List.append_nil] at h1
 obtain ⟨⟨hX,hu,hN,hx1,hx2,hT⟩,hfin⟩:=h1
 simp only [zLg,Bool.and_eq_true] at hu
 obtain ⟨hE,htr⟩:=h4 _ rfl ⟨(fun k d v hk=>by cases hk),fun k B hk=>by cases hk⟩
 replace htr:=htr (zNA hN) (zNm hx1 hx2) hT
 obtain ⟨GF,hg1,hg2⟩:=zI3 (vs:=fun _=>undef) hfin
 obtain ⟨he,hg1⟩:=zBV.1 hg1
 have hp:M.Perm ((R'.reverse.flatMap (·.X)) ++ Mp):=by rw [hX,zEw];exact tx.perm
 refine zSn hm hQ hnd (zH8 (Q:=Q) hm (hs.permM hp) rfl (zEs _ _) hb.1 hu.1 hu.2 htr fun a w vs hs hf=>?_)
 rw [zIM (hN vs),he vs] at hs
 refine hg1 a w (hg2 (fun k d v hk=>?_) hs)
 obtain ⟨e1,e2,e3⟩:=hE.ok k d v hk
 obtain ⟨f1,f2⟩:=hf k e1
 rw [← e3 vs f2]
 exact f1.at_ e2
theorem zKI {fn : Func} {tmps : Array Value} {t1 t2 t3 : Nat} {r1 r2 r3 c1 c2 c3 : TypeId} {g1 g2 g3 : Nat} {v1 v2 v3 : Value} (hr : fn.results = #[.cell t1 r1, .cell t2 r2, .cell t3 r3]) (h1 : tmps[t1]? = some (pt g1 0)) (h2 : tmps[t2]? = some (pt g2 0)) (h3 : tmps[t3]? = some (pt g3 0)) (b1 : (blk g1 [v1] c1).p w) (b2 : (blk g2 [v2] c2).p w) (b3 : (blk g3 [v3] c3).p w)
   (a1:∀ w,(isAgg r1).run P w = .ok false w) (a2:∀ w,(isAgg r2).run P w = .ok false w) (a3:∀ w,(isAgg r3).run P w = .ok false w):(results fn tmps).run P w = .ok (.tuple #[v1,v2,v3]) w:=by
 have e1:=(zBF (i:=0) b1).trans (Nth.get .z)
 have e2:=(zBF (i:=0) b2).trans (Nth.get .z)
 have e3:=(zBF (i:=0) b3).trans (Nth.get .z)
 simp [results,hr,Array.getD_eq_getD_getElem?,h1,h2,h3,asAddr,loadVar,a1,a2,a3,run_load,e1,e2,e3]
theorem za9 {fn : Func} {post : Value → List HA → Prop} {t1 t2 t3 : Nat} {r1 r2 r3 c1 c2 c3 : TypeId} {g1 g2 g3 : Nat} {v1 v2 v3 : Value} {M1 M2 M3 : List HA} (hs : St n F w0 S M a w) (hr : fn.results = #[.cell t1 r1, .cell t2 r2, .cell t3 r3]) (h1 : lk F t1 = some (pt g1 0)) (h2 : lk F t2 = some (pt g2 0)) (h3 : lk F t3 = some (pt g3 0)) (b1 : Del M (blk g1 [v1] c1) M1) (b2 : Del M (blk g2 [v2] c2) M2) (b3 : Del M (blk g3 [v3] c3) M3)
   (a1:∀ w,(isAgg r1).run P w = .ok false w) (a2:∀ w,(isAgg r2).run P w = .ok false w) (a3:∀ w,(isAgg r3).run P w = .ok false w) {X N:List HA} (hD:zC5 M X N) (hp:post (.tuple #[v1,v2,v3]) N):bodyPost P fn (Ret w0 S post) .ret a w :=
 bodyPost_ret (zKI hr (hs.agr _ _ h1) (hs.agr _ _ h2) (hs.agr _ _ h3) (hs.mem.del b1) (hs.mem.del b2) (hs.mem.del b3) a1 a2 a3) hs.dfr ⟨_,N,rfl,hp,hs.mem.drop hD⟩
theorem zOO {a:Act} (d:Deferred) (h:a.defers = []):({ a with defers:=d :: a.defers }:Act) = { tmps:=a.tmps,defers:=[d] }:=by rw [h]
/-! ### Deferred calls -/
theorem zXW {f : FuncId} {fn : Func} {c : Code} {args : List Value} {F0 : List (Nat × Value)} {R : Ending → World → Prop} {u : FrameMode} (hf : P.funcs[f]? = some fn) (hb : fn.body = some c) (hn : fn.ntmps = n) (hle : Nat.ble args.length n = true) (hini : Ini 0 args F0) (hM : Mem w S M w)
   (h:∀ a w',St n F0 w S M a w' → G P (bodyPost P fn R) (.code c []) a w'):CallsD P f args.toArray u w fun e u' w'=>u' = u ∧ R e w':=by
 refine callsD_of_wp hf hb (h _ _ ?_)
 have hle':args.length ≤ n:=by simpa using hle
 subst hn
 refine ⟨by simp;omega,rfl,fun t v hv=>?_,hM⟩
 obtain ⟨_,h2⟩:=hini.get t v hv
 simp only [Nat.sub_zero] at h2
 have hlt:t < args.length:=by
   rcases Nat.lt_or_ge t args.length with h | h
   · exact h
   · simp [List.getElem?_eq_none h] at h2
 rw [Array.getElem?_append_left (by simpa using hlt)]
 simpa using h2
theorem zX3 {f : FuncId} {fn : Func} {c : Code} {args : List Value} {F0 : List (Nat × Value)} {R : Ending → World → Prop} (hf : P.funcs[f]? = some fn) (hb : fn.body = some c) (hn : fn.ntmps = n) (hle : Nat.ble args.length n = true) (hini : Ini 0 args F0) (hM : Mem w S M w)
   (h:∀ a w',St n F0 w S M a w' → G P (bodyPostD P fn R) (.code c []) a w'):Calls P f args.toArray w R:=by
 refine calls_of_wp_defers hf hb (h _ _ ?_)
 have hle':args.length ≤ n:=by simpa using hle
 subst hn
 refine ⟨by simp;omega,rfl,fun t v hv=>?_,hM⟩
 obtain ⟨_,h2⟩:=hini.get t v hv
 simp only [Nat.sub_zero] at h2
 have hlt:t < args.length:=by
   rcases Nat.lt_or_ge t args.length with h | h
   · exact h
   · simp [List.getElem?_eq_none h] at h2
 rw [Array.getElem?_append_left (by simpa using hlt)]
 simpa using h2
def wDf (D:List Deferred) (a:Act):Act:={ a with defers:=a.defers ++ D }
def dfQ (D:List Deferred) (Q:Exit → Act → World → Prop):Exit → Act → World → Prop:=fun e a w=>Q e (wDf D a) w
theorem zSM {D:List Deferred} (d:Option Nat) (v:Value):wDf D (a.put d v) = (wDf D a).put d v:=by cases d <;> rfl
theorem zNf {D:List Deferred} (hQ:∀ a w,¬ Q .outgrown a w):∀ (l:List Oper) (a:Act) (w:World),wpList P ops (dfQ D Q) l a w → wpList P ops Q l (wDf D a) w:=by
 intro l
 induction l with
 | nil=>intro a w h;exact h
 | cons o l ih =>
   intro a w h
   have ih':∀ (d:Option Nat) (v:Value) (a:Act) (w:World),wpList P ops (dfQ D Q) l (a.put d v) w → wpList P ops Q l ((wDf D a).put d v) w:=fun d v a w h=>by rw [← zSM];exact ih _ _ h
   simp only [wpList] at h ⊢
   by_cases hw:Region.wanted o (yielded ops a.tmps) = true
   · rw [if_pos hw] at h
     rw [if_pos (show Region.wanted o (yielded ops (wDf D a).tmps) = true from hw)]
     rcases h with h | ⟨_,a0,w0,h0⟩
     · left
       unfold Oper.wp at h ⊢
       have ev:(wDf D a).eval = a.eval:=rfl
       rw [ev]
       generalize (execOp a.eval o).run P w = x at h
       cases x with
       | ok nx w' =>
         cases nx with
         | value v=>exact ih' _ _ _ _ h
         | skip=>exact ih' _ _ _ _ h
         | defer dd=>exact ih' _ _ { a with defers:=dd :: a.defers } _ h
         | enter f args =>
           have h:Calls P f args w' _:=h
           refine Calls.mono h ?_
           intro e w'' he
           cases e with
           | returned v=>exact ih' _ _ _ _ he
           | panicked ch=>exact he
           | outgrown=>obtain ⟨a1,w1,h1⟩:=he;exact absurd h1 (hQ _ _)
         | row row args =>
           have h:Rows P row args w' _:=h
           refine fun c cs=>?_
           obtain ⟨v,w'',hv,hs⟩:=h c cs
           exact ⟨v,w'',ih' _ _ _ _ hv,hs⟩
         | _=>exact h.elim
       | halt hl w' =>
         cases hl with
         | panic v=>exact h
         | _=>exact h.elim
     · exact absurd h0 (hQ _ _)
   · rw [if_neg hw] at h
     rw [if_neg (show ¬ Region.wanted o (yielded ops (wDf D a).tmps) = true from hw)]
     exact ih' _ _ _ _ h
theorem zVB {x:Operand} {f:FuncId} {cap:Array Value} (hs:St n F w0 S M a w) (hx:evo F x = some (.func (.func f) #[] cap)) (k:wpList P ops Q rest (wDf [{ target:=.fn (.func f) cap,args:=#[] }] a) w):wpList P ops Q (⟨none,.defer { callee:=.value x,args:=#[],argTypes:=#[] },ty,pos,af,none⟩ :: rest) a w:=by
 simp only [wpList]
 rw [if_pos (by simp [Region.wanted])]
 left
 have hr:(execOp a.eval (⟨none,.defer { callee:=.value x,args:=#[],argTypes:=#[] },ty,pos,af,none⟩ : Oper)).run P w = .ok (.defer { target:=.fn (.func f) cap,args:=#[] }) w:=by
   simp [execOp,resolve,Deferred.ofValue,hs.ev hx]
 unfold Oper.wp
 rw [hr,Oper.upon_defer]
 have e:({ a with defers:={ target:=.fn (.func f) cap,args:=#[] } :: a.defers }:Act) = wDf [{ target:=.fn (.func f) cap,args:=#[] }] a:=by unfold wDf;rw [hs.dfr];rfl
 rw [e]
 exact k
theorem zQc {fn : Func} {R : Ending → World → Prop} {fv : Fn} {cap : Array Value} {f : FuncId} {args : Array Value} {t : Nat} {v : Value} (hs : St n F w0 S M a w) (hi : (invoke (.fn fv cap) #[]).run P w = .ok (.enter f args) w) (hr : fn.results = #[.tmp t]) (hv : lk F t = some v)
   (h:CallsD P f args .returning w fun e u' w'=>u' = .returning ∧ (∃ u,e = .returned u) ∧ R (.returned v) w'):bodyPostD P fn R .ret (wDf [{ target:=.fn fv cap,args:=#[] }] a) w:=by
 show Leaves P fn a.tmps R (a.defers ++ _) .returning w
 rw [hs.dfr]
 refine leaves_cons (by simp) hi (h.mono ?_)
 rintro e u' w' ⟨rfl,⟨u,rfl⟩,hR⟩
 have hg:=hs.agr t v hv
 exact ⟨v,by rw [show v = a.tmps.getD t undef by simp [Array.getD_eq_getD_getElem?,hg]];exact results_tmp hr _ _ _,hR⟩
theorem zai {f:FuncId} {fn:Func} {c:Code} {args:List Value} {F0:List (Nat × Value)} {R:Ending → World → Prop} (hf:P.funcs[f]? = some fn) (hb:fn.body = some c) (hn:fn.ntmps = n) (hle:Nat.ble args.length n = true) (hini:Ini 0 args F0) (hM:Mem w S M w)
 (h:∀ a w',St n F0 w S M a w' → c.wp P (bodyPostD P fn R) a w'):Calls P f args.toArray w R:=zX3 hf hb hn hle hini hM h
theorem zXx {D:List Deferred} {md:Region.Mode} (hQ:∀ a w,¬ Q .outgrown a w):∀ (fuel:Nat) (listed:Array Bool) (a:Act) (w:World),wpAny P md ops (dfQ D Q) fuel listed a w → wpAny P md ops Q fuel listed (wDf D a) w:=by
 intro fuel
 induction fuel with
 | zero=>intro listed a w h;exact h
 | succ fuel ih =>
   intro listed a w h
   refine ⟨fun hr=>h.1 hr,fun i hi=>?_⟩
   have h:=h.2 i hi
   unfold wpOp at h ⊢
   have ih':∀ (d:Option Nat) (v:Value) (a:Act) (w:World),wpAny P md ops (dfQ D Q) fuel (listed.setIfInBounds i true) (a.put d v) w → wpAny P md ops Q fuel (listed.setIfInBounds i true) ((wDf D a).put d v) w:=fun d v a w h=>by rw [← zSM];exact ih _ _ _ h
   cases ho:ops[i]? with
   | none=>rw [ho] at h;exact ih _ _ _ h
   | some o =>
     rw [ho] at h
     dsimp only at h ⊢
     by_cases hw:Region.wanted o (yielded ops a.tmps) = true
     · rw [if_pos hw] at h
       rw [if_pos (show Region.wanted o (yielded ops (wDf D a).tmps) = true from hw)]
       rcases h with h | ⟨_,a0,w0,h0⟩
       · left
         unfold Oper.wp at h ⊢
         have ev:(wDf D a).eval = a.eval:=rfl
         rw [ev]
         generalize (execOp a.eval o).run P w = x at h
         cases x with
         | ok nx w' =>
           cases nx with
           | value v=>exact ih' _ _ _ _ h
           | skip=>exact ih' _ _ _ _ h
           | defer dd=>exact ih' _ _ { a with defers:=dd :: a.defers } _ h
           | enter f args =>
             have h:Calls P f args w' _:=h
             refine Calls.mono h ?_
             intro e w'' he
             cases e with
             | returned v=>exact ih' _ _ _ _ he
             | panicked ch=>exact he
             | outgrown=>obtain ⟨a1,w1,h1⟩:=he;exact absurd h1 (hQ _ _)
           | row row args =>
             have h:Rows P row args w' _:=h
             refine fun c cs=>?_
             obtain ⟨v,w'',hv,hs⟩:=h c cs
             exact ⟨v,w'',ih' _ _ _ _ hv,hs⟩
           | _=>exact h.elim
         | halt hl w' =>
           cases hl with
           | panic v=>exact h
           | _=>exact h.elim
       · exact absurd h0 (hQ _ _)
     · rw [if_neg hw] at h
       rw [if_neg (show ¬ Region.wanted o (yielded ops (wDf D a).tmps) = true from hw)]
       exact ih' _ _ _ _ h
theorem zR3 {D : List Deferred} {id : Nat} {l : List Oper} {Mp M1 : List HA} {B Xp : BL} (hQ : ∀ a w, ¬ Q .outgrown a w) (cs : List DC) (live : List Nat) (hs : St n F w0 S M a w) (tx : zDr M Xp Mp) (tk : zDr Mp B M1) (hb : zL6 P F l cs = true)
   (h:zEY P n F w0 S Mp l B Xp cs 0 l cs [] [] [] fun E R=>zY6 R [] fun Ds=>(Ds.flatMap (·.X) = bls Xp ∧ zLg l Ds = true ∧ (∀ vs,Nsm vs 0 Ds = Ds.map (·.N vs)) ∧ Ds.map (·.X) = cs.map (·.X Xp) ∧ Ds.map (·.use) = cs.map (·.use) ∧ zDR P l n F w0 S Mp Ds E 0 l cs) ∧
     pvF l live E F fun G=>zGi (Mp ++ zSv (Ds.flatMap (·.use)) (fun _=>undef) 0 Ds) fun M'=>(∀ vs,Mp ++ zSv (Ds.flatMap (·.use)) vs 0 Ds = M') ∧ ∀ a w,St n G w0 S M' a w → Q .normal (wDf D a) w):(Code.region id l.toArray true).wp P Q (wDf D a) w:=by
 simp only [zL6,Bool.and_eq_true] at hb
 obtain ⟨hm,hb⟩:=hb
 obtain ⟨E',R',h1,_,h3,h4⟩:=zGQ tk l 0 cs [] [] [] _ h rfl rfl hb.2
 rw [List.append_nil] at h1 h4
 have h1:=zIX h1
 rw [List.append_nil] at h1
 obtain ⟨⟨hX,hu,hN,hx1,hx2,hT⟩,hfin⟩:=h1
 simp only [zLg,Bool.and_eq_true] at hu
 obtain ⟨hE,htr⟩:=h4 _ rfl ⟨(fun k d v hk=>by cases hk),fun k B hk=>by cases hk⟩
 replace htr:=htr (zNA hN) (zNm hx1 hx2) hT
 obtain ⟨GF,hg1,hg2⟩:=zI3 (vs:=fun _=>undef) hfin
 obtain ⟨he,hg1⟩:=zBV.1 hg1
 have hp:M.Perm ((R'.reverse.flatMap (·.X)) ++ Mp):=by rw [hX,zEw];exact tx.perm
 refine wp_region_any hm (zXx hQ _ _ _ _ (zH8 (Q:=dfQ D Q) hm (hs.permM hp) rfl (zEs _ _) hb.1 hu.1 hu.2 htr fun a w vs hs hf=>?_))
 rw [zIM (hN vs),he vs] at hs
 refine hg1 a w (hg2 (fun k d v hk=>?_) hs)
 obtain ⟨e1,e2,e3⟩:=hE.ok k d v hk
 obtain ⟨f1,f2⟩:=hf k e1
 rw [← e3 vs f2]
 exact f1.at_ e2
/-! ### Values of interfaces -/
theorem zVq {x:Operand} {v:Value} {t:TypeId} (hs:St n F w0 S M a w) (hx:evo F x = some v) (hm:∀ w,(Instr.makeInterface t v).run P w = .ok (.iface t v) w) (hd:Nat.blt d n = true) (k:∀ a w,St n ((d,.iface t v) :: F) w0 S M a w → wpList P ops Q rest a w):wpList P ops Q (⟨some d,.makeInterface t x,ty,pos,af,none⟩ :: rest) a w :=
 zM hs (by simp [execOp,hs.ev hx,hm]) hd k
theorem zKq {x : Operand} {t : TypeId} {u r : Value} {name : String} {f : FuncId} {xs : List Operand} {ats : Array TypeId} {vs : List Value} {v : Value} (hs : St n F w0 S M a w) (hx : evo F x = some (.iface t u)) (hv : Evs F xs vs) (hm : ∀ w, (method (P.types.size + Made.depth) t u name).run P w = .ok (f, r) w) (hcall : ∀ args w, (callFunc f args).run P w = .ok (.enter f args) w)
   (hc:Calls P f (r :: vs).toArray w (zAf w v)) (hd:Nat.blt d n = true)
   (k:∀ a w,St n ((d,v) :: F) w0 S M a w → wpList P ops Q rest a w):wpList P ops Q (⟨some d,.call { callee:=.invoke x name,args:=xs.toArray,argTypes:=ats },ty,pos,af,none⟩ :: rest) a w:=by
 have hr:(execOp a.eval (⟨some d,.call { callee:=.invoke x name,args:=xs.toArray,argTypes:=ats },ty,pos,af,none⟩ : Oper)).run P w = .ok (.enter f (r :: vs).toArray) w:=by
   have he:(xs.toArray.map a.eval) = vs.toArray:=by rw [← hs.evs hv];simp
   simp [execOp,resolve,invoke,callMethod,hs.ev hx,he,hm,hcall]
 refine zHh rfl hr (post:=fun v' N=>v' = v ∧ N = []) (X:=[]) hc ?_
 rintro v' N w' ⟨hv',rfl⟩ hm'
 rw [hv']
 exact k _ _ ((hs.frame .n hm').put hd v)
end Go.Sx
/- Plain law of the statements about one record, and about one entity less. -/
set_option linter.unusedVariables false
set_option linter.unusedSimpArgs false
namespace Go.Sx
theorem zK4 {α:Type} [Inhabited α] {g:α → List Value} {size:Nat} (hg:∀ a,(g a).length = size) (l:List α) (j o sz:Nat) (h:j < l.length ∧ o + sz ≤ size):((l.flatMap g).drop (j * size + o)).take sz = ((g (l.getD j default)).drop o).take sz:=by
 rw [← zAh hg l j h.1,List.drop_take,List.drop_drop,List.take_take,Nat.min_eq_left (by omega)]
/-! ### One record -/
/-! ### One entity less -/
end Go.Sx
