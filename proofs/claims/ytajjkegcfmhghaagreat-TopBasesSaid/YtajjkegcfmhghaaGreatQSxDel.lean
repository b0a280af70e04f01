import Derived.Test.YtajjkegcfmhghaaGreatQSxRecs
import Derived.Test.YtajjkegcfmhghaaGreatQSxGrams
import Derived.Test.YtajjkegcfmhghaaGreatQSxMap
/- Texts of the small logic, one behind the other: SxPdelta, SxPdeltaD, SxPdeltaE, SxPdeltaL. -/
set_option linter.unusedVariables false
set_option linter.unusedSimpArgs false
namespace Go.Sx
def Srt (l:List zS):Prop:=l.Pairwise (fun x y=>x.id < y.id)
def zED (l:List zS):Nat → Int
 | 0=>-1
 | k + 1=>(l.getD k default).id
def zEn (l:List zS) (k:Nat):Nat:=if (l.getD k default).id < 0 ∨ 65535 < (l.getD k default).id then 3 else if (l.getD k default).id ≤ zED l k then 10 else 0
def zD0 (l:List zS):Nat → Nat
 | 0=>0
 | j + 1=>if zD0 l j ≠ 0 then zD0 l j else zEn l j
def zBo (l:List zS):Nat:=zD0 l l.length
def zW (t tm:Int) (l:List zS):Nat:=if t < 0 ∨ 4294967295 < t ∨ tm < -2305843009213693952 ∨ 2305843009213693952 < tm then 3 else if 64 < l.length then 4 else zBo l
theorem zOt {l:List zS} {j:Nat} (h:zD0 l j = 0) (h2:zEn l j = 0):zD0 l (j + 1) = 0:=by unfold zD0;rw [if_neg (by omega),h2]
theorem zRK {l:List zS} {j:Nat} (h:zD0 l j = 0):zD0 l (j + 1) = zEn l j:=by unfold zD0;rw [if_neg (by omega)]
theorem zJY {l:List zS} {j e:Nat} (h:zD0 l j = e) (he:e ≠ 0):∀ k,zD0 l (j + k) = e
 | 0=>h
 | k + 1=>by
   have:=zJY h he k
   show (if zD0 l (j + k) ≠ 0 then zD0 l (j + k) else zEn l (j + k)) = e
   rw [if_pos (by omega),this]
theorem zAd {l:List zS} {j:Nat} (hj:j < l.length) (h:zD0 l j = 0) (he:zEn l j ≠ 0):zBo l = zEn l j:=by
 have:=zJY (zRK h) he (l.length - (j + 1))
 rwa [show j + 1 + (l.length - (j + 1)) = l.length by omega] at this
theorem zHw {l:List zS} {j:Nat} (h:zD0 l j = 0):∀ k,k < j → zEn l k = 0:=by
 induction j with
 | zero=>intro k hk;omega
 | succ j ih =>
   unfold zD0 at h
   split at h
   · omega
   · intro k hk
     by_cases e:k = j
     · subst e;exact h
     · exact ih (by omega) k (by omega)
theorem zBe {l:List zS} {k:Nat} (h:(l.getD k default).id < 0 ∨ 65535 < (l.getD k default).id):zEn l k = 3:=by unfold zEn;rw [if_pos h]
theorem zA7 {l:List zS} {k:Nat} (h:¬ ((l.getD k default).id < 0 ∨ 65535 < (l.getD k default).id)) (h2:(l.getD k default).id ≤ zED l k):zEn l k = 10:=by unfold zEn;rw [if_neg h,if_pos h2]
theorem zTC {l:List zS} {k:Nat} (h:¬ ((l.getD k default).id < 0 ∨ 65535 < (l.getD k default).id)) (h2:¬ (l.getD k default).id ≤ zED l k):zEn l k = 0:=by unfold zEn;rw [if_neg h,if_neg h2]
theorem zFo {l:List zS} {k:Nat} (h:zEn l k = 0):0 ≤ (l.getD k default).id ∧ (l.getD k default).id ≤ 65535 ∧ zED l k < (l.getD k default).id:=by
 unfold zEn at h
 split at h
 · cases h
 · split at h
   · cases h
   · omega
theorem zCj {l:List zS} {k:Nat} (h:k < l.length):l.getD k default = l[k]:=by rw [List.getD_eq_getElem?_getD,List.getElem?_eq_getElem h];rfl
theorem zJu {l:List zS} (h:zBo l = 0):∀ x ∈ l,0 ≤ x.id ∧ x.id ≤ 65535:=by
 intro x hx
 obtain ⟨k,hk,rfl⟩:=List.mem_iff_getElem.1 hx
 have:=zFo (zHw h k hk)
 rw [zCj hk] at this
 omega
theorem zHo {l:List zS} (h:zBo l = 0):Srt l:=by
 refine List.pairwise_iff_getElem.2 ?_
 have key:∀ d i (hi:i < l.length) (hj:i + d + 1 < l.length),l[i].id < l[i + d + 1].id:=by
   intro d
   induction d with
   | zero =>
     intro i hi hj
     have:=(zFo (zHw h (i + 1) hj)).2.2
     rw [zCj hj] at this
     have e:zED l (i + 1) = l[i].id:=by show (l.getD i default).id = _;rw [zCj hi]
     rw [e] at this
     exact this
   | succ d ih =>
     intro i hi hj
     have h1:=ih i hi (by omega)
     have:=(zFo (zHw h (i + (d + 1) + 1) hj)).2.2
     rw [zCj hj] at this
     have e:zED l (i + (d + 1) + 1) = l[i + d + 1].id:=by show (l.getD (i + (d + 1)) default).id = _;rw [zCj (by omega)];rfl
     rw [e] at this
     omega
 intro i j hi hj hij
 have:=key (j - i - 1) i hi (by omega)
 simpa [show i + (j - i - 1) + 1 = j by omega] using this
theorem zZM {l:List zS} (hs:Srt l) (hr:∀ x ∈ l,0 ≤ x.id ∧ x.id ≤ 65535):zBo l = 0:=by
 have key:∀ j,j ≤ l.length → zD0 l j = 0:=by
   intro j
   induction j with
   | zero=>intro _;rfl
   | succ j ih =>
     intro hj
     have hg:=zCj (l:=l) (k:=j) (by omega)
     have hm:=hr l[j] (List.getElem_mem (by omega))
     refine zOt (ih (by omega)) (zTC (by rw [hg];omega) ?_)
     rw [hg]
     cases j with
     | zero=>show ¬ l[0].id ≤ -1;omega
     | succ i =>
       have:=List.pairwise_iff_getElem.1 hs i (i + 1) (by omega) (by omega) (by omega)
       show ¬ l[i + 1].id ≤ (l.getD i default).id
       rw [zCj (by omega)]
       omega
 exact key _ (Nat.le_refl _)
theorem zCM {t tm:Int} {l:List zS} (h:t < 0 ∨ 4294967295 < t ∨ tm < -2305843009213693952 ∨ 2305843009213693952 < tm):zW t tm l = 3:=by unfold zW;rw [if_pos h]
theorem zCL {t tm:Int} {l:List zS} (h:¬ (t < 0 ∨ 4294967295 < t ∨ tm < -2305843009213693952 ∨ 2305843009213693952 < tm)) (h2:64 < l.length):zW t tm l = 4:=by unfold zW;rw [if_neg h,if_pos h2]
theorem zBy {t tm:Int} {l:List zS} (h:¬ (t < 0 ∨ 4294967295 < t ∨ tm < -2305843009213693952 ∨ 2305843009213693952 < tm)) (h2:¬ 64 < l.length):zW t tm l = zBo l:=by unfold zW;rw [if_neg h,if_neg h2]
theorem zCG {t tm:Int} {l:List zS} (h:zW t tm l = 0):0 ≤ t ∧ t ≤ 4294967295 ∧ -2305843009213693952 ≤ tm ∧ tm ≤ 2305843009213693952 ∧ l.length ≤ 64 ∧ zBo l = 0:=by
 unfold zW at h
 split at h
 · cases h
 · split at h
   · cases h
   · omega
/-! ### A map of entities -/
def ekv (l:List zS):List (Int × Value):=l.map fun e=>(e.id,.agg (zA9 e).toArray)
def zAz (k:Int):List zS → Option zS
 | []=>none
 | x :: l=>if x.id = k then some x else zAz k l
def zIc (x:zS):List zS → List zS
 | []=>[x]
 | y :: l=>if y.id = x.id then x :: l else y :: zIc x l
def zFm (k:Int):List zS → List zS
 | []=>[]
 | y :: l=>if y.id = k then l else y :: zFm k l
theorem zOA (k:Int):∀ l,zHj k (ekv l) = (zAz k l).map fun e=>.agg (zA9 e).toArray
 | []=>rfl
 | x :: l=>by
   show (if x.id = k then some _ else zHj k (ekv l)) = _
   unfold zAz
   split
   · rfl
   · exact zOA k l
theorem zN8 {k:Int} {x:zS} (hk:x.id = k):∀ l,zNe k (.agg (zA9 x).toArray) (ekv l) = ekv (zIc x l)
 | []=>by show [(k,_)] = [(x.id,_)];rw [hk]
 | y :: l=>by
   show (if y.id = k then _ :: ekv l else _ :: zNe k _ (ekv l)) = _
   unfold zIc
   rw [hk]
   split
   · show _ = (x.id,_) :: ekv l;rw [hk]
   · rw [zN8 hk l];rfl
theorem zOl (k:Int):∀ l,zTV k (ekv l) = ekv (zFm k l)
 | []=>rfl
 | y :: l=>by
   show (if y.id = k then ekv l else _ :: zTV k (ekv l)) = _
   unfold zFm
   split
   · rfl
   · rw [zOl k l];rfl
theorem zNN (l:List zS):(ekv l).length = l.length:=by simp [ekv]
def zMS (l:List zS):Prop:=(l.map (·.id)).Nodup
theorem Srt.uniq {l:List zS} (h:Srt l):zMS l:=by
 unfold zMS
 rw [List.nodup_iff_pairwise_ne,List.pairwise_map]
 exact h.imp fun h=>by omega
theorem zDI {k:Int}:∀ {l:List zS},zAz k l = none ↔ ∀ e ∈ l,e.id ≠ k
 | []=>by simp [zAz]
 | x :: l=>by
   unfold zAz
   split
   · simp_all
   · rename_i h
     rw [zDI]
     simp [h]
theorem zGa {k:Int} {e:zS}:∀ {l:List zS},zAz k l = some e → e ∈ l ∧ e.id = k
 | [],h=>by cases h
 | x :: l,h=>by
   unfold zAz at h
   split at h
   · rename_i hx
     cases h
     exact ⟨by simp,hx⟩
   · have:=zGa h
     exact ⟨by simp [this.1],this.2⟩
theorem zFg {e:zS}:∀ {l:List zS},zMS l → e ∈ l → zAz e.id l = some e
 | [],_,h=>by cases h
 | x :: l,hu,h=>by
   unfold zMS at hu
   rw [List.map_cons,List.nodup_cons] at hu
   unfold zAz
   rcases List.mem_cons.1 h with h | h
   · rw [h,if_pos rfl]
   · rw [if_neg (fun e':x.id = e.id=>hu.1 (by rw [e'];exact List.mem_map_of_mem h)),zFg hu.2 h]
theorem zMS.perm {l l':List zS} (h:zMS l) (p:l.Perm l'):zMS l':=(p.map _).nodup_iff.1 h
theorem zSE {k:Int} {l l':List zS} (hu:zMS l) (p:l.Perm l'):zAz k l = zAz k l':=by
 cases h:zAz k l with
 | none=>exact (zDI.2 fun e he=>zDI.1 h e (p.mem_iff.2 he)).symm
 | some e =>
   obtain ⟨h1,rfl⟩:=zGa h
   exact (zFg (hu.perm p) (p.mem_iff.1 h1)).symm
theorem zDV {k:Int}:∀ {l:List zS},zMS l → zFm k l = l.filter (fun e=>decide (e.id ≠ k))
 | [],_=>rfl
 | x :: l,hu=>by
   unfold zMS at hu
   rw [List.map_cons,List.nodup_cons] at hu
   unfold zFm
   by_cases h:x.id = k
   · rw [if_pos h,List.filter_cons_of_neg (by simp [h])]
     refine (List.filter_eq_self.2 fun e he=>?_).symm
     simp only [ne_eq,decide_eq_true_eq]
     intro e'
     exact hu.1 (by rw [h,← e'];exact List.mem_map_of_mem he)
   · rw [if_neg h,List.filter_cons_of_pos (by simp [h]),zDV hu.2]
theorem zIs {x:zS}:∀ {l:List zS},zMS l → (zIc x l).Perm (x :: l.filter (fun e=>decide (e.id ≠ x.id)))
 | [],_=>List.Perm.refl _
 | y :: l,hu=>by
   have hu':=hu
   unfold zMS at hu
   rw [List.map_cons,List.nodup_cons] at hu
   unfold zIc
   by_cases h:y.id = x.id
   · rw [if_pos h,← zDV hu',zFm,if_pos h]
   · rw [if_neg h,List.filter_cons_of_pos (by simp [h])]
     exact ((zIs hu.2).cons y).trans (List.Perm.swap _ _ _)
theorem zSp {k:Int} {l l':List zS} (hu:zMS l) (p:l.Perm l'):(zFm k l).Perm (zFm k l'):=by rw [zDV hu,zDV (hu.perm p)];exact p.filter _
theorem zMJ {x:zS} {l l':List zS} (hu:zMS l) (p:l.Perm l'):(zIc x l).Perm (x :: l'.filter (fun e=>decide (e.id ≠ x.id))):=(zIs hu).trans ((p.filter _).cons x)
theorem zNR {x:zS}:∀ {l:List zS},zAz x.id l = none → zIc x l = l ++ [x]
 | [],_=>rfl
 | y :: l,h=>by
   unfold zAz at h
   split at h
   · cases h
   · rename_i hy
     unfold zIc
     rw [if_neg hy,zNR h]
     rfl
theorem zT0 {l:List zS} (hs:Srt l) {j:Nat} (hj:j < l.length):zIc (l.getD j default) (l.take j) = l.take (j + 1):=by
 rw [zNR,zIT hj]
 refine zDI.2 fun e he=>?_
 obtain ⟨i,hi,rfl⟩:=List.mem_iff_getElem.1 he
 rw [zCj hj,List.getElem_take]
 have:=List.pairwise_iff_getElem.1 hs i j (by simp at hi;omega) hj (by simp at hi;omega)
 omega
/-! ### What is made of a snapshot -/
def zEu (r:zX):zS:=⟨r.id,r.p0,r.p1,r.p2,r.v0,r.v1,r.v2,r.a,0#8⟩
def zDp (x:zS):zX:=⟨0,x.id,x.p0,x.p1,x.p2,x.v0,x.v1,x.v2,x.a⟩
def zFv (x:zS):zX:=⟨2,x.id,0,0,0,0,0,0,0#16⟩
def apl : List zS → List zX → Option (List zS)
 | was,[]=>some was
 | [],r :: l=>if r.k = 0 then (apl [] l).map (zEu r :: ·) else none
 | x :: was,r :: l =>
   if x.id < r.id then (apl was (r :: l)).map (x :: ·)
   else if x.id = r.id then (if r.k = 0 then none else if r.k = 2 then apl was l else (apl was l).map ((zT x r).1 :: ·))
   else if r.k = 0 then (apl (x :: was) l).map (zEu r :: ·) else none
termination_by a b=>a.length + b.length
theorem zEv (was:List zS):apl was [] = some was:=by unfold apl;rfl
theorem zTJ (r:zX) (l:List zX):apl [] (r :: l) = if r.k = 0 then (apl [] l).map (zEu r :: ·) else none:=by rw [apl]
theorem zC5 (x:zS) (was:List zS) (r:zX) (l:List zX):apl (x :: was) (r :: l) =
 if x.id < r.id then (apl was (r :: l)).map (x :: ·)
 else if x.id = r.id then (if r.k = 0 then none else if r.k = 2 then apl was l else (apl was l).map ((zT x r).1 :: ·))
 else if r.k = 0 then (apl (x :: was) l).map (zEu r :: ·) else none:=by rw [apl]
def zCP (m:List zS) (r:zX):Option (List zS) :=
 match zAz r.id m with
 | none=>if r.k = 0 then some (zIc (zEu r) m) else none
 | some x=>if r.k = 0 then none else if r.k = 2 then some (zFm r.id m) else some (zIc (zT x r).1 m)
def zCc (m:List zS):List zX → Option (List zS)
 | []=>some m
 | r :: l=>(zCP m r).bind (zCc · l)
theorem zFt {x:zS} {r:zX} (h:zAJ r = 0) (hi:r.id = x.id) (h0:r.k ≠ 0) (h2:r.k ≠ 2):(zT x r).1.id = x.id ∧ (zT x r).2 = 0:=by
 by_cases h3:r.k = 3
 · rw [zBP h (by simp [hi,h0,h2]) h3];exact ⟨rfl,rfl⟩
 · rw [zBR h (by simp [hi,h0,h2]) h3];exact ⟨rfl,rfl⟩
theorem zJX {out b:List zS} {x:zS} (ho:∀ e ∈ out,e.id < x.id) (hb:∀ e ∈ b,x.id < e.id):(out ++ x :: b).filter (fun e=>decide (e.id ≠ x.id)) = out ++ b:=by
 rw [List.filter_append,List.filter_cons_of_neg (by simp),List.filter_eq_self.2 (fun e he=>by have:=ho e he;simp;omega),List.filter_eq_self.2 (fun e he=>by have:=hb e he;simp;omega)]
theorem zMe {l:List zS} {k:Int} (h:∀ e ∈ l,e.id ≠ k):l.filter (fun e=>decide (e.id ≠ k)) = l:=List.filter_eq_self.2 fun e he=>by simpa using h e he
theorem zU2 {out b:List zS} {x:zS} (hu:zMS (out ++ x :: b)):zAz x.id (out ++ x :: b) = some x:=zFg hu (by simp)
theorem Srt.mid {out b:List zS} {x:zS} (h:Srt (out ++ x :: b)):(∀ e ∈ out,e.id < x.id) ∧ (∀ e ∈ b,x.id < e.id) ∧ Srt (out ++ b) ∧ (∀ e ∈ out,∀ e' ∈ b,e.id < e'.id):=by
 unfold Srt at h ⊢
 rw [List.pairwise_append] at h ⊢
 obtain ⟨h1,h2,h3⟩:=h
 rw [List.pairwise_cons] at h2
 exact ⟨fun e he=>h3 e he x (by simp),h2.1,⟨h1,h2.2,fun a ha b hb=>h3 a ha b (by simp [hb])⟩,fun a ha b hb=>h3 a ha b (by simp [hb])⟩
theorem Srt.ins {out b:List zS} {x:zS} (h:Srt (out ++ b)) (ho:∀ e ∈ out,e.id < x.id) (hb:∀ e ∈ b,x.id < e.id):Srt (out ++ x :: b):=by
 unfold Srt at h ⊢
 rw [List.pairwise_append] at h ⊢
 obtain ⟨h1,h2,h3⟩:=h
 exact ⟨h1,List.pairwise_cons.2 ⟨hb,h2⟩,fun a ha c hc=>by
   rcases List.mem_cons.1 hc with e | e
   · rw [e];exact ho a ha
   · exact h3 a ha c e⟩
def zZx (l:List zX):Prop:=l.Pairwise (fun x y=>x.id < y.id)
theorem zJz : ∀ (n : Nat) (wi : List zS) (rs : List zX), wi.length + rs.length ≤ n → ∀ (out m : List zS), m.Perm (out ++ wi) → Srt (out ++ wi) → (∀ e ∈ out, ∀ r ∈ rs, e.id < r.id) → zZx rs → (∀ r ∈ rs, zAJ r = 0) →
   (apl wi rs = none → zCc m rs = none) ∧ (∀ l,apl wi rs = some l → Srt (out ++ l) ∧ ∃ m',zCc m rs = some m' ∧ m'.Perm (out ++ l)):=by
 intro n
 induction n with
 | zero =>
   intro wi rs hn out m hp hs ho hr hc
   obtain rfl:wi = []:=List.length_eq_zero_iff.1 (by omega)
   obtain rfl:rs = []:=List.length_eq_zero_iff.1 (by omega)
   rw [zEv]
   exact ⟨fun h=>(by cases h),fun l h=>by cases h;exact ⟨hs,m,rfl,hp⟩⟩
 | succ n ih =>
   intro wi rs hn out m hp hs ho hr hc
   cases rs with
   | nil =>
     rw [zEv]
     exact ⟨fun h=>(by cases h),fun l h=>by cases h;exact ⟨hs,m,rfl,hp⟩⟩
   | cons r rs =>
     have hum:zMS m:=hs.uniq.perm hp.symm
     have hr':=List.pairwise_cons.1 hr
     have hc0:=hc r (by simp)
     have hget:zAz r.id m = zAz r.id (out ++ wi):=zSE hum hp
     have new : (∀ e ∈ wi, r.id < e.id) → (apl wi (r :: rs) = if r.k = 0 then (apl wi rs).map (zEu r :: ·) else none) →
         (apl wi (r :: rs) = none → zCc m (r :: rs) = none) ∧ (∀ l,apl wi (r :: rs) = some l → Srt (out ++ l) ∧ ∃ m',zCc m (r :: rs) = some m' ∧ m'.Perm (out ++ l)):=by
       intro hw he
       have hng:zAz r.id m = none:=by
         rw [hget]
         refine zDI.2 fun e hm=>?_
         rcases List.mem_append.1 hm with h | h
         · have:=ho e h r (by simp);omega
         · have:=hw e h;omega
       rw [he]
       by_cases hk:r.k = 0
       · rw [if_pos hk]
         have hstep:zCP m r = some (zIc (zEu r) m):=by unfold zCP;rw [hng];exact if_pos hk
         have hp2:(zIc (zEu r) m).Perm ((out ++ [zEu r]) ++ wi):=by
           refine (zMJ hum hp).trans ?_
           show (zEu r :: (out ++ wi).filter (fun e=>decide (e.id ≠ r.id))).Perm _
           rw [zMe (by rw [hget] at hng;exact zDI.1 hng)]
           rw [List.append_assoc]
           exact List.perm_middle.symm
         have hs2:Srt ((out ++ [zEu r]) ++ wi):=by
           rw [List.append_assoc]
           exact hs.ins (x:=zEu r) (fun e h=>ho e h r (by simp)) hw
         obtain ⟨i1,i2⟩:=ih wi rs (by simp at hn;omega) _ _ hp2 hs2 (fun e h r' hr2=>by
           rcases List.mem_append.1 h with h | h
           · exact ho e h r' (by simp [hr2])
           · rw [List.mem_singleton.1 h];exact hr'.1 r' hr2) hr'.2 (fun r' h=>hc r' (by simp [h]))
         have hf:zCc m (r :: rs) = zCc (zIc (zEu r) m) rs:=by show (zCP m r).bind _ = _;rw [hstep];rfl
         rw [hf]
         refine ⟨fun h=>i1 (by cases ha:apl wi rs with | none=>rfl | some l=>rw [ha] at h;cases h),fun l h=>?_⟩
         cases ha:apl wi rs with
         | none=>rw [ha] at h;cases h
         | some l' =>
           rw [ha] at h
           cases h
           have:=i2 l' ha
           simpa [List.append_assoc] using this
       · rw [if_neg hk]
         have hf:zCc m (r :: rs) = none:=by
           show (zCP m r).bind _ = _
           have:zCP m r = none:=by unfold zCP;rw [hng];exact if_neg hk
           rw [this];rfl
         exact ⟨fun _=>hf,fun l h=>by cases h⟩
     cases wi with
     | nil=>exact new (by simp) (zTJ r rs)
     | cons x wi =>
       have hmid:=hs.mid
       by_cases h1:x.id < r.id
       · have he:apl (x :: wi) (r :: rs) = (apl wi (r :: rs)).map (x :: ·):=by rw [zC5,if_pos h1]
         have hs2:Srt ((out ++ [x]) ++ wi):=by rw [List.append_assoc];exact hs
         obtain ⟨i1,i2⟩:=ih wi (r :: rs) (by simp at hn ⊢;omega) (out ++ [x]) m (by rw [List.append_assoc];exact hp) hs2 (fun e h r' hr2=>by
           rcases List.mem_append.1 h with h | h
           · exact ho e h r' hr2
           · rw [List.mem_singleton.1 h]
             rcases List.mem_cons.1 hr2 with e' | e'
             · rw [e'];exact h1
             · have:=hr'.1 r' e';omega) hr hc
         rw [he]
         refine ⟨fun h=>i1 (by cases ha:apl wi (r :: rs) with | none=>rfl | some l=>rw [ha] at h;cases h),fun l h=>?_⟩
         cases ha:apl wi (r :: rs) with
         | none=>rw [ha] at h;cases h
         | some l' =>
           rw [ha] at h
           cases h
           have:=i2 l' ha
           simpa [List.append_assoc] using this
       · by_cases h2:x.id = r.id
         · have hg:zAz r.id m = some x:=by rw [hget,← h2];exact zU2 hs.uniq
           have ho':∀ e ∈ out ++ ([]:List zS),∀ r' ∈ rs,e.id < r'.id:=fun e h r' hr2=>ho e (by simpa using h) r' (by simp [hr2])
           by_cases hk0:r.k = 0
           · have he:apl (x :: wi) (r :: rs) = none:=by rw [zC5,if_neg h1,if_pos h2,if_pos hk0]
             have hf:zCc m (r :: rs) = none:=by
               show (zCP m r).bind _ = _
               have:zCP m r = none:=by unfold zCP;rw [hg];exact if_pos hk0
               rw [this];rfl
             rw [he]
             exact ⟨fun _=>hf,fun l h=>by cases h⟩
           · by_cases hk2:r.k = 2
             · have he:apl (x :: wi) (r :: rs) = apl wi rs:=by rw [zC5,if_neg h1,if_pos h2,if_neg hk0,if_pos hk2]
               have hf:zCc m (r :: rs) = zCc (zFm r.id m) rs:=by
                 show (zCP m r).bind _ = _
                 have:zCP m r = some (zFm r.id m):=by unfold zCP;rw [hg];exact (if_neg hk0).trans (if_pos hk2)
                 rw [this];rfl
               rw [he,hf]
               refine ih wi rs (by simp at hn ⊢;omega) out _ ?_ hmid.2.2.1 (fun e h r' hr2=>ho e h r' (by simp [hr2])) hr'.2 (fun r' h=>hc r' (by simp [h]))
               refine (zSp hum hp).trans ?_
               rw [zDV hs.uniq,← h2,zJX hmid.1 hmid.2.1]
             · have hid:=(zFt (x:=x) hc0 h2.symm hk0 hk2).1
               have he:apl (x :: wi) (r :: rs) = (apl wi rs).map ((zT x r).1 :: ·):=by rw [zC5,if_neg h1,if_pos h2,if_neg hk0,if_neg hk2]
               have hf:zCc m (r :: rs) = zCc (zIc (zT x r).1 m) rs:=by
                 show (zCP m r).bind _ = _
                 have:zCP m r = some (zIc (zT x r).1 m):=by unfold zCP;rw [hg];exact (if_neg hk0).trans (if_neg hk2)
                 rw [this];rfl
               have hp2:(zIc (zT x r).1 m).Perm ((out ++ [(zT x r).1]) ++ wi):=by
                 refine (zMJ hum hp).trans ?_
                 rw [hid,zJX hmid.1 hmid.2.1,List.append_assoc]
                 exact List.perm_middle.symm
               have hs2:Srt ((out ++ [(zT x r).1]) ++ wi):=by
                 rw [List.append_assoc]
                 exact hmid.2.2.1.ins (by rw [hid];exact hmid.1) (by rw [hid];exact hmid.2.1)
               obtain ⟨i1,i2⟩:=ih wi rs (by simp at hn;omega) _ _ hp2 hs2 (fun e h r' hr2=>by
                 rcases List.mem_append.1 h with h | h
                 · exact ho e h r' (by simp [hr2])
                 · rw [List.mem_singleton.1 h,hid,h2];exact hr'.1 r' hr2) hr'.2 (fun r' h=>hc r' (by simp [h]))
               rw [he,hf]
               refine ⟨fun h=>i1 (by cases ha:apl wi rs with | none=>rfl | some l=>rw [ha] at h;cases h),fun l h=>?_⟩
               cases ha:apl wi rs with
               | none=>rw [ha] at h;cases h
               | some l' =>
                 rw [ha] at h
                 cases h
                 have:=i2 l' ha
                 simpa [List.append_assoc] using this
         · refine new (fun e h=>?_) (by rw [zC5,if_neg h1,if_neg h2])
           rcases List.mem_cons.1 h with e' | e'
           · rw [e'];omega
           · have:=hmid.2.1 e e';omega
theorem zKF {α:Type} (f:α → Int):∀ {l l':List α},l.Perm l' → l.Pairwise (fun x y=>f x ≤ f y) → l'.Pairwise (fun x y=>f x < f y) → l = l'
 | [],l',p,_,_=>(List.nil_perm.1 p).symm
 | x :: l,[],p,_,_=>by simpa using p.length_eq
 | x :: l,y :: l',p,h,h'=>by
   rw [List.pairwise_cons] at h h'
   have e:x = y:=by
     rcases List.mem_cons.1 (p.mem_iff.1 (List.mem_cons_self (a:=x))) with e | e
     · exact e
     · have h1:=h'.1 x e
       rcases List.mem_cons.1 (p.mem_iff.2 (List.mem_cons_self (a:=y))) with e2 | e2
       · exact e2.symm
       · have h2:=h.1 y e2;omega
   subst e
   rw [zKF f (List.Perm.cons_inv p) h.2 h'.2]
end Go.Sx

set_option linter.unusedVariables false
set_option linter.unusedSimpArgs false
namespace Go.Sx
def zC0 (x y:zS):List zX:=if (zAD x y).2 = true then [(zAD x y).1] else []
def mrg : List zS → List zS → Option (List zX)
 | [],[]=>some []
 | x :: a,[]=>(mrg a []).map (zFv x :: ·)
 | [],y :: b=>if y.g = 0#8 then (mrg [] b).map (zDp y :: ·) else none
 | x :: a,y :: b =>
   if x.id < y.id then (mrg a (y :: b)).map (zFv x :: ·)
   else if y.id < x.id then (if y.g = 0#8 then (mrg (x :: a) b).map (zDp y :: ·) else none)
   else if y.g = x.g ∨ y.g = x.g + 1#8 then (mrg a b).map (zC0 x y ++ ·) else none
termination_by a b=>a.length + b.length
theorem zN9 : mrg [] [] = some []:=by rw [mrg]
theorem zWn (x:zS) (a:List zS):mrg (x :: a) [] = (mrg a []).map (zFv x :: ·):=by rw [mrg]
theorem zWu (y:zS) (b:List zS):mrg [] (y :: b) = if y.g = 0#8 then (mrg [] b).map (zDp y :: ·) else none:=by rw [mrg]
theorem zWL (x:zS) (a:List zS) (y:zS) (b:List zS):mrg (x :: a) (y :: b) =
 if x.id < y.id then (mrg a (y :: b)).map (zFv x :: ·)
 else if y.id < x.id then (if y.g = 0#8 then (mrg (x :: a) b).map (zDp y :: ·) else none)
 else if y.g = x.g ∨ y.g = x.g + 1#8 then (mrg a b).map (zC0 x y ++ ·) else none:=by rw [mrg]
def zCz (m:List zS) (y:zS):Option (List zX) :=
 match zAz y.id m with
 | none=>if y.g = 0#8 then some [zDp y] else none
 | some x=>if y.g = x.g ∨ y.g = x.g + 1#8 then some (zC0 x y) else none
def zB5 (m:List zS):List zS → Option (List zX × List zS)
 | []=>some ([],m)
 | y :: b=>(zCz m y).bind fun o=>(zB5 (zFm y.id m) b).map fun s=>(o ++ s.1,s.2)
theorem zGy {x:zS} {a:List zS}:∀ (b:List zS),(∀ y ∈ b,y.id ≠ x.id) → zB5 (x :: a) b = (zB5 a b).map fun s=>(s.1,x :: s.2)
 | [],_=>rfl
 | y :: b,h=>by
   have hy:=h y (by simp)
   have h1:zCz (x :: a) y = zCz a y:=by unfold zCz;rw [zAz,if_neg (Ne.symm hy)]
   have h2:zFm y.id (x :: a) = x :: zFm y.id a:=by rw [zFm,if_neg (Ne.symm hy)]
   show (zCz (x :: a) y).bind _ = _
   rw [h1,h2]
   show _ = Option.map _ ((zCz a y).bind _)
   cases zCz a y with
   | none=>rfl
   | some o =>
     show Option.map _ (zB5 (x :: zFm y.id a) b) = Option.map _ (Option.map _ _)
     rw [zGy b fun z hz=>h z (by simp [hz])]
     cases zB5 (zFm y.id a) b <;> rfl
theorem zL6 {k:Int}:∀ {l:List zS},(∀ e ∈ l,e.id ≠ k) → zFm k l = l
 | [],_=>rfl
 | x :: l,h=>by
   unfold zFm
   rw [if_neg (h x (by simp)),zL6 fun e he=>h e (by simp [he])]
theorem zMK {m b:List zS} {y:zS} (h:∀ e ∈ m,e.id ≠ y.id):zB5 m (y :: b) = if y.g = 0#8 then (zB5 m b).map fun s=>(zDp y :: s.1,s.2) else none:=by
 show (zCz m y).bind _ = _
 have:zCz m y = if y.g = 0#8 then some [zDp y] else none:=by unfold zCz;rw [zDI.2 h]
 rw [this,zL6 h]
 split <;> rfl
theorem zN2 : ∀ (n : Nat) (a b : List zS), a.length + b.length ≤ n → Srt a → Srt b →
   (mrg a b = none → zB5 a b = none) ∧ (∀ L,mrg a b = some L → ∃ s,zB5 a b = some s ∧ (s.1 ++ s.2.map zFv).Perm L):=by
 intro n
 induction n with
 | zero =>
   intro a b hn ha hb
   obtain rfl:a = []:=List.length_eq_zero_iff.1 (by omega)
   obtain rfl:b = []:=List.length_eq_zero_iff.1 (by omega)
   rw [zN9]
   exact ⟨fun h=>(by cases h),fun L h=>by cases h;exact ⟨_,rfl,List.Perm.refl _⟩⟩
 | succ n ih =>
   intro a b hn ha hb
   cases a with
   | nil =>
     cases b with
     | nil =>
       rw [zN9]
       exact ⟨fun h=>(by cases h),fun L h=>by cases h;exact ⟨_,rfl,List.Perm.refl _⟩⟩
     | cons y b =>
       obtain ⟨i1,i2⟩:=ih [] b (by simp at hn ⊢;omega) List.Pairwise.nil (List.pairwise_cons.1 hb).2
       rw [zWu,zMK (by simp)]
       by_cases hg:y.g = 0#8
       · rw [if_pos hg,if_pos hg]
         refine ⟨fun h=>?_,fun L h=>?_⟩
         · cases hm:mrg [] b with
           | none=>rw [i1 hm];rfl
           | some l=>rw [hm] at h;cases h
         · cases hm:mrg [] b with
           | none=>rw [hm] at h;cases h
           | some l =>
             rw [hm] at h
             cases h
             obtain ⟨s,h1,h2⟩:=i2 l hm
             rw [h1]
             exact ⟨_,rfl,h2.cons _⟩
       · rw [if_neg hg,if_neg hg]
         exact ⟨fun _=>rfl,fun L h=>by cases h⟩
   | cons x a =>
     have ha':=List.pairwise_cons.1 ha
     cases b with
     | nil =>
       obtain ⟨i1,i2⟩:=ih a [] (by simp at hn ⊢;omega) ha'.2 List.Pairwise.nil
       rw [zWn,zGy [] (by simp)]
       refine ⟨fun h=>?_,fun L h=>?_⟩
       · cases hm:mrg a [] with
         | none=>rw [i1 hm];rfl
         | some l=>rw [hm] at h;cases h
       · cases hm:mrg a [] with
         | none=>rw [hm] at h;cases h
         | some l =>
           rw [hm] at h
           cases h
           obtain ⟨s,h1,h2⟩:=i2 l hm
           rw [h1]
           exact ⟨_,rfl,List.perm_middle.trans (h2.cons _)⟩
     | cons y b =>
       have hb':=List.pairwise_cons.1 hb
       rw [zWL]
       by_cases h1:x.id < y.id
       · obtain ⟨i1,i2⟩:=ih a (y :: b) (by simp at hn ⊢;omega) ha'.2 hb
         rw [if_pos h1,zGy (y :: b) (fun z hz=>by
           rcases List.mem_cons.1 hz with e | e
           · rw [e];omega
           · have:=hb'.1 z e;omega)]
         refine ⟨fun h=>?_,fun L h=>?_⟩
         · cases hm:mrg a (y :: b) with
           | none=>rw [i1 hm];rfl
           | some l=>rw [hm] at h;cases h
         · cases hm:mrg a (y :: b) with
           | none=>rw [hm] at h;cases h
           | some l =>
             rw [hm] at h
             cases h
             obtain ⟨s,h1,h2⟩:=i2 l hm
             rw [h1]
             exact ⟨_,rfl,List.perm_middle.trans (h2.cons _)⟩
       · rw [if_neg h1]
         by_cases h2:y.id < x.id
         · obtain ⟨i1,i2⟩:=ih (x :: a) b (by simp at hn ⊢;omega) ha hb'.2
           rw [if_pos h2,zMK (fun e he=>by
             rcases List.mem_cons.1 he with e' | e'
             · rw [e'];omega
             · have:=ha'.1 e e';omega)]
           by_cases hg:y.g = 0#8
           · rw [if_pos hg,if_pos hg]
             refine ⟨fun h=>?_,fun L h=>?_⟩
             · cases hm:mrg (x :: a) b with
               | none=>rw [i1 hm];rfl
               | some l=>rw [hm] at h;cases h
             · cases hm:mrg (x :: a) b with
               | none=>rw [hm] at h;cases h
               | some l =>
                 rw [hm] at h
                 cases h
                 obtain ⟨s,h1,h2⟩:=i2 l hm
                 rw [h1]
                 exact ⟨_,rfl,h2.cons _⟩
           · rw [if_neg hg,if_neg hg]
             exact ⟨fun _=>rfl,fun L h=>by cases h⟩
         · have h3:x.id = y.id:=by omega
           obtain ⟨i1,i2⟩:=ih a b (by simp at hn ⊢;omega) ha'.2 hb'.2
           rw [if_neg h2]
           have hf:zB5 (x :: a) (y :: b) = if y.g = x.g ∨ y.g = x.g + 1#8 then (zB5 a b).map fun s=>(zC0 x y ++ s.1,s.2) else none:=by
             show (zCz (x :: a) y).bind _ = _
             have e1:zCz (x :: a) y = if y.g = x.g ∨ y.g = x.g + 1#8 then some (zC0 x y) else none:=by unfold zCz;rw [zAz,if_pos h3]
             rw [e1,zFm,if_pos h3]
             split <;> rfl
           rw [hf]
           by_cases hg:y.g = x.g ∨ y.g = x.g + 1#8
           · rw [if_pos hg,if_pos hg]
             refine ⟨fun h=>?_,fun L h=>?_⟩
             · cases hm:mrg a b with
               | none=>rw [i1 hm];rfl
               | some l=>rw [hm] at h;cases h
             · cases hm:mrg a b with
               | none=>rw [hm] at h;cases h
               | some l =>
                 rw [hm] at h
                 cases h
                 obtain ⟨s,h1,h2⟩:=i2 l hm
                 rw [h1]
                 refine ⟨_,rfl,?_⟩
                 show ((zC0 x y ++ s.1) ++ _).Perm _
                 rw [List.append_assoc]
                 exact h2.append_left _
           · rw [if_neg hg,if_neg hg]
             exact ⟨fun _=>rfl,fun L h=>by cases h⟩
/-! ### What a telling consists of -/
structure zUR (a b:List zS) (r:zX):Prop where
 chk:zAJ r = 0
 rng:0 ≤ r.id ∧ r.id ≤ 65535
 of:(r.k = 2 ∧ (∃ x ∈ a,x.id = r.id) ∧ ∀ y ∈ b,y.id ≠ r.id) ∨ (r.k = 0 ∧ (∃ y ∈ b,y.id = r.id) ∧ ∀ x ∈ a,x.id ≠ r.id) ∨ (r.k ≠ 0 ∧ r.k ≠ 2 ∧ ∃ x ∈ a,∃ y ∈ b,x.id = r.id ∧ y.id = r.id ∧ x ≠ y)
 wf:r.wf
theorem zQl {x:zS} (h:0 ≤ x.id ∧ x.id ≤ 65535):zAJ (zFv x) = 0:=by
 unfold zAJ zFv
 dsimp only
 rw [if_neg (by omega),if_neg (by omega),if_neg (by simp [zAw])]
theorem zRt {x:zS} (h:0 ≤ x.id ∧ x.id ≤ 65535):zAJ (zDp x) = 0:=by
 unfold zAJ zDp
 dsimp only
 rw [if_neg (by omega),if_neg (by omega),if_neg (by simp)]
theorem zUz {x:zS} (h:x.wf):(zFv x).wf:=⟨(by show -9223372036854775808 ≤ (2:Int) ∧ (2:Int) ≤ 9223372036854775807;decide),h.id,(by show -9223372036854775808 ≤ (0:Int) ∧ (0:Int) ≤ 9223372036854775807;decide),(by show -9223372036854775808 ≤ (0:Int) ∧ (0:Int) ≤ 9223372036854775807;decide),(by show -9223372036854775808 ≤ (0:Int) ∧ (0:Int) ≤ 9223372036854775807;decide),(by show -9223372036854775808 ≤ (0:Int) ∧ (0:Int) ≤ 9223372036854775807;decide),(by show -9223372036854775808 ≤ (0:Int) ∧ (0:Int) ≤ 9223372036854775807;decide),(by show -9223372036854775808 ≤ (0:Int) ∧ (0:Int) ≤ 9223372036854775807;decide)⟩
theorem zUU {x:zS} (h:x.wf):(zDp x).wf:=⟨(by show -9223372036854775808 ≤ (0:Int) ∧ (0:Int) ≤ 9223372036854775807;decide),h.id,h.p0,h.p1,h.p2,h.v0,h.v1,h.v2⟩
structure Two (a b:List zS):Prop where
 sa:Srt a
 sb:Srt b
 ra:∀ x ∈ a,0 ≤ x.id ∧ x.id ≤ 65535
 rb:∀ x ∈ b,0 ≤ x.id ∧ x.id ≤ 65535
 wa:∀ x ∈ a,x.wf
 wb:∀ x ∈ b,x.wf
theorem Two.tl {x:zS} {a b:List zS} (h:Two (x :: a) b):Two a b:=⟨(List.pairwise_cons.1 h.sa).2,h.sb,fun z hz=>h.ra z (by simp [hz]),h.rb,fun z hz=>h.wa z (by simp [hz]),h.wb⟩
theorem Two.tr {y:zS} {a b:List zS} (h:Two a (y :: b)):Two a b:=⟨h.sa,(List.pairwise_cons.1 h.sb).2,h.ra,fun z hz=>h.rb z (by simp [hz]),h.wa,fun z hz=>h.wb z (by simp [hz])⟩
theorem zVK {x:zS} {a:List zS} {l:List zX} (h:∀ r ∈ l,x.id < r.id):apl (x :: a) l = (apl a l).map (x :: ·):=by
 cases l with
 | nil=>rw [zEv,zEv];rfl
 | cons r l=>rw [zC5,if_pos (h r (by simp))]
theorem zMT : ∀ (n : Nat) (a b : List zS), a.length + b.length ≤ n → Two a b → ∀ L, mrg a b = some L →
   zZx L ∧ (∀ r ∈ L,zUR a b r) ∧ apl a L = some b ∧ L.length ≤ a.length + b.length ∧ (∀ y ∈ b,(∃ r ∈ L,r.id = y.id) ∨ y ∈ a):=by
 intro n
 induction n with
 | zero =>
   intro a b hn ht L h
   obtain rfl:a = []:=List.length_eq_zero_iff.1 (by omega)
   obtain rfl:b = []:=List.length_eq_zero_iff.1 (by omega)
   rw [zN9] at h
   cases h
   exact ⟨List.Pairwise.nil,by simp,zEv _,by simp,by simp⟩
 | succ n ih =>
   intro a b hn ht L h
   have rem:∀ x a',a = x :: a' → (∀ y ∈ b,x.id < y.id) → ∀ l,mrg a' b = some l → L = zFv x :: l → zZx L ∧ (∀ r ∈ L,zUR a b r) ∧ apl a L = some b ∧ L.length ≤ a.length + b.length ∧ (∀ y ∈ b,(∃ r ∈ L,r.id = y.id) ∨ y ∈ a):=by
     rintro x a rfl hxb l hl rfl
     obtain ⟨j1,j2,j3,j4,j5⟩:=ih a b (by simp at hn ⊢;omega) ht.tl l hl
     have hxa:=(List.pairwise_cons.1 ht.sa).1
     refine ⟨List.pairwise_cons.2 ⟨fun r hr=>?_,j1⟩,fun r hr=>?_,?_,by simp only [List.length_cons];omega,fun y hy=>?_⟩
     · show x.id < r.id
       rcases (j2 r hr).of with ⟨_,⟨z,hz,e⟩,_⟩ | ⟨_,⟨z,hz,e⟩,_⟩ | ⟨_,_,z,hz,_,_,e,_⟩
       · have:=hxa z hz;omega
       · have:=hxb z hz;omega
       · have:=hxa z hz;omega
     · rcases List.mem_cons.1 hr with e | e
       · subst e
         exact ⟨zQl (ht.ra x (by simp)),ht.ra x (by simp),.inl ⟨rfl,⟨x,by simp,rfl⟩,fun y hy=>by have:=hxb y hy;show y.id ≠ x.id;omega⟩,zUz (ht.wa x (by simp))⟩
       · have:=j2 r e
         refine ⟨this.chk,this.rng,?_,this.wf⟩
         rcases this.of with ⟨h1,⟨z,hz,e'⟩,h2⟩ | ⟨h1,⟨z,hz,e'⟩,h2⟩ | ⟨h1,h2,z,hz,h3⟩
         · exact .inl ⟨h1,⟨z,by simp [hz],e'⟩,h2⟩
         · refine .inr (.inl ⟨h1,⟨z,hz,e'⟩,fun x' hx'=>?_⟩)
           rcases List.mem_cons.1 hx' with e2 | e2
           · rw [e2];have:=hxb z hz;omega
           · exact h2 x' e2
         · exact .inr (.inr ⟨h1,h2,z,by simp [hz],h3⟩)
     · rw [zC5,if_neg (by show ¬ x.id < x.id;omega),if_pos (by show x.id = x.id;rfl),if_neg (by show ¬ (2:Int) = 0;omega),if_pos (by show (2:Int) = 2;rfl)]
       exact j3
     · rcases j5 y hy with ⟨r,hr,e⟩ | h5
       · exact .inl ⟨r,by simp [hr],e⟩
       · exact .inr (by simp [h5])
   have put:∀ y b',b = y :: b' → (∀ x ∈ a,y.id < x.id) → y.g = 0#8 → ∀ l,mrg a b' = some l → L = zDp y :: l → zZx L ∧ (∀ r ∈ L,zUR a b r) ∧ apl a L = some b ∧ L.length ≤ a.length + b.length ∧ (∀ y ∈ b,(∃ r ∈ L,r.id = y.id) ∨ y ∈ a):=by
     rintro y b rfl hya hg l hl rfl
     obtain ⟨j1,j2,j3,j4,j5⟩:=ih a b (by simp at hn ⊢;omega) ht.tr l hl
     have hyb:=(List.pairwise_cons.1 ht.sb).1
     have he:zEu (zDp y) = y:=by cases y;simp only [zEu,zDp];dsimp only at hg;rw [hg]
     refine ⟨List.pairwise_cons.2 ⟨fun r hr=>?_,j1⟩,fun r hr=>?_,?_,by simp only [List.length_cons];omega,fun z hz=>?_⟩
     · show y.id < r.id
       rcases (j2 r hr).of with ⟨_,⟨z,hz,e⟩,_⟩ | ⟨_,⟨z,hz,e⟩,_⟩ | ⟨_,_,z,hz,_,_,e,_⟩
       · have:=hya z hz;omega
       · have:=hyb z hz;omega
       · have:=hya z hz;omega
     · rcases List.mem_cons.1 hr with e | e
       · subst e
         exact ⟨zRt (ht.rb y (by simp)),ht.rb y (by simp),.inr (.inl ⟨rfl,⟨y,by simp,rfl⟩,fun x hx=>by have:=hya x hx;show x.id ≠ y.id;omega⟩),zUU (ht.wb y (by simp))⟩
       · have:=j2 r e
         refine ⟨this.chk,this.rng,?_,this.wf⟩
         rcases this.of with ⟨h1,⟨z,hz,e'⟩,h2⟩ | ⟨h1,⟨z,hz,e'⟩,h2⟩ | ⟨h1,h2,z,hz,z',hz',h3⟩
         · refine .inl ⟨h1,⟨z,hz,e'⟩,fun x' hx'=>?_⟩
           rcases List.mem_cons.1 hx' with e2 | e2
           · rw [e2];have:=hya z hz;omega
           · exact h2 x' e2
         · exact .inr (.inl ⟨h1,⟨z,by simp [hz],e'⟩,h2⟩)
         · exact .inr (.inr ⟨h1,h2,z,hz,z',by simp [hz'],h3⟩)
     · cases a with
       | nil=>rw [zTJ,if_pos (by rfl),j3,he];rfl
       | cons x a =>
         have:=hya x (by simp)
         rw [zC5,if_neg (by show ¬ x.id < y.id;omega),if_neg (by show ¬ x.id = y.id;omega),if_pos (by rfl),j3,he];rfl
     · rcases List.mem_cons.1 hz with e | e
       · rw [e];exact .inl ⟨zDp y,by simp,rfl⟩
       · rcases j5 z e with ⟨r,hr,e'⟩ | h5
         · exact .inl ⟨r,by simp [hr],e'⟩
         · exact .inr h5
   cases a with
   | nil =>
     cases b with
     | nil =>
       rw [zN9] at h
       cases h
       exact ⟨List.Pairwise.nil,by simp,zEv _,by simp,by simp⟩
     | cons y b =>
       rw [zWu] at h
       by_cases hg:y.g = 0#8
       · rw [if_pos hg] at h
         cases hm:mrg [] b with
         | none=>rw [hm] at h;cases h
         | some l=>rw [hm] at h;cases h;exact put y b rfl (by simp) hg l hm rfl
       · rw [if_neg hg] at h;cases h
   | cons x a =>
     cases b with
     | nil =>
       rw [zWn] at h
       cases hm:mrg a [] with
       | none=>rw [hm] at h;cases h
       | some l=>rw [hm] at h;cases h;exact rem x a rfl (by simp) l hm rfl
     | cons y b =>
       have hxa:=(List.pairwise_cons.1 ht.sa).1
       have hyb:=(List.pairwise_cons.1 ht.sb).1
       rw [zWL] at h
       by_cases h1:x.id < y.id
       · rw [if_pos h1] at h
         cases hm:mrg a (y :: b) with
         | none=>rw [hm] at h;cases h
         | some l =>
           rw [hm] at h;cases h
           exact rem x a rfl (fun z hz=>by
             rcases List.mem_cons.1 hz with e | e
             · rw [e];exact h1
             · have:=hyb z e;omega) l hm rfl
       · rw [if_neg h1] at h
         by_cases h2:y.id < x.id
         · rw [if_pos h2] at h
           by_cases hg:y.g = 0#8
           · rw [if_pos hg] at h
             cases hm:mrg (x :: a) b with
             | none=>rw [hm] at h;cases h
             | some l =>
               rw [hm] at h;cases h
               exact put y b rfl (fun z hz=>by
                 rcases List.mem_cons.1 hz with e | e
                 · rw [e];exact h2
                 · have:=hxa z e;omega) hg l hm rfl
           · rw [if_neg hg] at h;cases h
         · rw [if_neg h2] at h
           have h3:y.id = x.id:=by omega
           by_cases hg:y.g = x.g ∨ y.g = x.g + 1#8
           · rw [if_pos hg] at h
             cases hm:mrg a b with
             | none=>rw [hm] at h;cases h
             | some l =>
               rw [hm] at h
               cases h
               obtain ⟨j1,j2,j3,j4,j5⟩:=ih a b (by simp at hn ⊢;omega) ht.tl.tr l hm
               have hlo:∀ r ∈ l,x.id < r.id:=fun r hr=>by
                 rcases (j2 r hr).of with ⟨_,⟨z,hz,e⟩,_⟩ | ⟨_,⟨z,hz,e⟩,_⟩ | ⟨_,_,z,hz,_,_,e,_⟩
                 · have:=hxa z hz;omega
                 · have:=hyb z hz;omega
                 · have:=hxa z hz;omega
               have hold:∀ r ∈ l,zUR (x :: a) (y :: b) r:=fun r hr=>by
                 have:=j2 r hr
                 have hx:=hlo r hr
                 refine ⟨this.chk,this.rng,?_,this.wf⟩
                 rcases this.of with ⟨h1,⟨z,hz,e'⟩,h2⟩ | ⟨h1,⟨z,hz,e'⟩,h2⟩ | ⟨h1,h2,z,hz,z',hz',h3'⟩
                 · refine .inl ⟨h1,⟨z,by simp [hz],e'⟩,fun x' hx'=>?_⟩
                   rcases List.mem_cons.1 hx' with e2 | e2
                   · rw [e2];omega
                   · exact h2 x' e2
                 · refine .inr (.inl ⟨h1,⟨z,by simp [hz],e'⟩,fun x' hx'=>?_⟩)
                   rcases List.mem_cons.1 hx' with e2 | e2
                   · rw [e2];omega
                   · exact h2 x' e2
                 · exact .inr (.inr ⟨h1,h2,z,by simp [hz],z',by simp [hz'],h3'⟩)
               cases hd:(zAD x y).2 with
               | true =>
                 have hst:zC0 x y = [(zAD x y).1]:=by unfold zC0;rw [if_pos hd]
                 have hdm:=zPR (ht.wa x (by simp)) (ht.wb y (by simp)) (ht.ra x (by simp)) h3 hg hd
                 rw [hst]
                 refine ⟨List.pairwise_cons.2 ⟨fun r hr=>?_,j1⟩,fun r hr=>?_,?_,by simp only [List.singleton_append,List.length_cons];omega,fun z hz=>?_⟩
                 · rw [hdm.2.2.2.2.2,h3];exact hlo r hr
                 · rcases List.mem_cons.1 hr with e | e
                   · rw [e]
                     refine ⟨hdm.2.1,by rw [hdm.2.2.2.2.2];exact ht.rb y (by simp),.inr (.inr ⟨?_,?_,x,by simp,y,by simp,by rw [hdm.2.2.2.2.2,h3],hdm.2.2.2.2.2.symm,fun e'=>?_⟩),zPU (ht.wb y (by simp))⟩
                     · rcases hdm.2.2.2.2.1 with e' | e' <;> rw [e'] <;> decide
                     · rcases hdm.2.2.2.2.1 with e' | e' <;> rw [e'] <;> decide
                     · have:=hdm.2.2.1
                       rw [show zI2 x y = true from zNL.2 e'] at this
                       cases this
                   · exact hold r e
                 · show apl (x :: a) ((zAD x y).1 :: l) = _
                   rw [zC5,if_neg (by rw [hdm.2.2.2.2.2];omega),if_pos (by rw [hdm.2.2.2.2.2,h3]),if_neg (by rcases hdm.2.2.2.2.1 with e' | e' <;> rw [e'] <;> decide),if_neg (by rcases hdm.2.2.2.2.1 with e' | e' <;> rw [e'] <;> decide),j3,hdm.1]
                   rfl
                 · rcases List.mem_cons.1 hz with e | e
                   · rw [e];exact .inl ⟨(zAD x y).1,by simp,hdm.2.2.2.2.2⟩
                   · rcases j5 z e with ⟨r,hr,e'⟩ | h5
                     · exact .inl ⟨r,by simp [hr],e'⟩
                     · exact .inr (by simp [h5])
               | false =>
                 have hst:zC0 x y = []:=by unfold zC0;rw [if_neg (by rw [hd];decide)]
                 have hxy:=zR3 hd
                 rw [hst]
                 show zZx l ∧ _
                 refine ⟨j1,hold,?_,by simp only [List.nil_append,List.length_cons];omega,fun z hz=>?_⟩
                 · show apl (x :: a) l = _
                   rw [zVK hlo,j3,hxy];rfl
                 · rcases List.mem_cons.1 hz with e | e
                   · rw [e,← hxy];exact .inr (by simp)
                   · rcases j5 z e with ⟨r,hr,e'⟩ | h5
                     · exact .inl ⟨r,by simpa using hr,e'⟩
                     · exact .inr (by simp [h5])
           · rw [if_neg hg] at h;cases h
theorem zFF {L:List zX} (h:zCb L = 0):zZx L ∧ ∀ r ∈ L,zAJ r = 0 ∧ 0 ≤ r.id ∧ r.id ≤ 65535:=by
 have hat:∀ k,k < L.length → zFW L k = 0:=zGv h
 have hg:∀ k (hk:k < L.length),L.getD k default = L[k]:=fun k hk=>by rw [List.getD_eq_getElem?_getD,List.getElem?_eq_getElem hk];rfl
 refine ⟨List.pairwise_iff_getElem.2 ?_,fun r hr=>?_⟩
 · have key : ∀ d i (hi : i < L.length) (hj : i + d + 1 < L.length), L[i].id < L[i + d + 1].id := by
     intro d
     induction d with
     | zero =>
       intro i hi hj
       have:=zC6 (hat (i + 1) hj)
       rw [zCm hi,hg _ hj] at this
       dsimp only at this
       rw [hg _ hi] at this
       exact this.2.2.2
     | succ d ih =>
       intro i hi hj
       have h1:=ih i hi (by omega)
       have:=zC6 (hat (i + (d + 1) + 1) hj)
       rw [zCm (by omega),hg _ hj] at this
       dsimp only at this
       rw [hg _ (by omega)] at this
       have h2:=this.2.2.2
       have e:L[i + (d + 1)].id = L[i + d + 1].id:=rfl
       omega
   intro i j hi hj hij
   have:=key (j - i - 1) i hi (by omega)
   simpa [show i + (j - i - 1) + 1 = j by omega] using this
 · obtain ⟨k,hk,rfl⟩:=List.mem_iff_getElem.1 hr
   have h1:=hat k hk
   have h2:=zC6 h1
   rw [hg k hk] at h2
   refine ⟨?_,h2.1,h2.2.1⟩
   unfold zFW zA0 at h1
   rw [hg k hk] at h1
   split at h1
   · omega
   · omega
/-! ### The program's loop -/
theorem zcH (m l:List zS):zB5 m l = (zB5 m (l.drop 0)).map fun s=>(([]:List zX) ++ s.1,s.2):=by
 rw [List.drop_zero]
 cases zB5 m l <;> simp
theorem zIQ {m l mm : List zS} {out o : List zX} {j : Nat} (hj : j < l.length) (h : zB5 m l = (zB5 mm (l.drop j)).map fun s => (out ++ s.1, s.2)) (hs : zCz mm (l.getD j default) = some o) :
   zB5 m l = (zB5 (zFm (l.getD j default).id mm) (l.drop (j + 1))).map fun s=>((out ++ o) ++ s.1,s.2):=by
 rw [h,List.drop_eq_getElem_cons hj]
 rw [zCj hj] at hs ⊢
 show Option.map _ ((zCz mm l[j]).bind _) = _
 rw [hs]
 show Option.map _ (Option.map _ (zB5 (zFm l[j].id mm) (l.drop (j + 1)))) = _
 cases zB5 (zFm l[j].id mm) (l.drop (j + 1)) <;> simp
theorem zKC {m l mm:List zS} {out:List zX} {j:Nat} (hj:j < l.length) (h:zB5 m l = (zB5 mm (l.drop j)).map fun s=>(out ++ s.1,s.2)) (hs:zCz mm (l.getD j default) = none):zB5 m l = none:=by
 rw [h,List.drop_eq_getElem_cons hj]
 rw [zCj hj] at hs
 show Option.map _ ((zCz mm l[j]).bind _) = _
 rw [hs]
 rfl
theorem zVp {m l mm:List zS} {out:List zX} {j:Nat} (hj:l.length ≤ j) (h:zB5 m l = (zB5 mm (l.drop j)).map fun s=>(out ++ s.1,s.2)):zB5 m l = some (out,mm):=by
 rw [h,List.drop_of_length_le hj]
 simp [zB5]
theorem bvs (X Y:BitVec 8):(X - Y).toNat ≤ 1 ↔ X = Y ∨ X = Y + 1#8:=by
 constructor
 · intro h
   by_cases e:(X - Y).toNat = 0
   · left
     have h1:X - Y = 0#8:=BitVec.eq_of_toNat_eq (by simpa using e)
     apply BitVec.eq_of_toNat_eq
     have:=congrArg BitVec.toNat h1
     simp only [BitVec.toNat_sub] at this
     have:=X.isLt
     have:=Y.isLt
     simp at *
     omega
   · right
     apply BitVec.eq_of_toNat_eq
     have h1:(X - Y).toNat = 1:=by omega
     simp only [BitVec.toNat_sub] at h1
     rw [BitVec.toNat_add]
     have:=X.isLt
     have:=Y.isLt
     simp at *
     omega
 · rintro (rfl | rfl)
   · simp
   · have e : Y + 1#8 - Y = 1#8 := by
       apply BitVec.eq_of_toNat_eq
       simp only [BitVec.toNat_sub,BitVec.toNat_add]
       have:=Y.isLt
       simp
       omega
     rw [e];decide
theorem zVo {m:List zS} {y:zS} (hn:zAz y.id m = none) (h:¬ (0:Int) < (((y.g - 0#8).toNat:Nat):Int)):zCz m y = some [zDp y]:=by
 unfold zCz
 rw [hn]
 have:y.g = 0#8:=BitVec.eq_of_toNat_eq (by simp at h;simpa using h)
 exact if_pos this
theorem zOW {m:List zS} {y:zS} (hn:zAz y.id m = none) (h:(0:Int) < (((y.g - 0#8).toNat:Nat):Int)):zCz m y = none:=by
 unfold zCz
 rw [hn]
 exact if_neg fun e=>by rw [e] at h;simp at h
theorem zNl {m:List zS} {y o:zS} (hn:zAz y.id m = some o) (h:¬ (1:Int) < (((y.g - o.g).toNat:Nat):Int)):zCz m y = some (zC0 o y):=by
 unfold zCz
 rw [hn]
 exact if_pos ((bvs _ _).1 (by omega))
theorem zTz {m:List zS} {y o:zS} (hn:zAz y.id m = some o) (h:(1:Int) < (((y.g - o.g).toNat:Nat):Int)):zCz m y = none:=by
 unfold zCz
 rw [hn]
 exact if_neg fun e=>by have:=(bvs _ _).2 e;omega
theorem zLY (o y:zS):(zC0 o y).length ≤ 1:=by unfold zC0;split <;> simp
theorem zQ9 {o y:zS} (h:(zAD o y).2 = true):zC0 o y = [(zAD o y).1]:=by unfold zC0;rw [if_pos h]
theorem zSk {o y:zS} (h:(zAD o y).2 = false):zC0 o y = []:=by unfold zC0;rw [if_neg (by rw [h];decide)]
theorem zHq (k:Int):∀ l,(zFm k l).length ≤ l.length
 | []=>Nat.le_refl _
 | x :: l=>by
   unfold zFm
   split
   · simp
   · have:=zHq k l;simp;omega
def mL (m l:List zS):List zX:=(mrg m l).getD []
def mE (m l:List zS):Nat:=if (mrg m l).isSome = true then 0 else 15
theorem zIC {m l:List zS} (ht:Two m l) (h:zB5 m l = none):mE m l = 15 ∧ mL m l = []:=by
 have hf:=zN2 _ m l (Nat.le_refl _) ht.sa ht.sb
 cases hm:mrg m l with
 | none=>exact ⟨by unfold mE;rw [hm];rfl,by unfold mL;rw [hm];rfl⟩
 | some L =>
   obtain ⟨s,h1,_⟩:=hf.2 L hm
   rw [h1] at h
   cases h
theorem zSY {m l mm:List zS} {out L:List zX} (ht:Two m l) (h:zB5 m l = some (out,mm)) (hp:L.Perm (out ++ mm.map zFv)) (hs:L.Pairwise (fun x y=>x.id ≤ y.id)):mE m l = 0 ∧ mL m l = L:=by
 have hf:=zN2 _ m l (Nat.le_refl _) ht.sa ht.sb
 cases hm:mrg m l with
 | none=>rw [hf.1 hm] at h;cases h
 | some L' =>
   obtain ⟨s,h1,h2⟩:=hf.2 L' hm
   rw [h] at h1
   cases h1
   have ha:=(zMT _ m l (Nat.le_refl _) ht L' hm).1
   exact ⟨by unfold mE;rw [hm];rfl,by unfold mL;rw [hm];exact (zKF (fun r:zX=>r.id) (hp.trans h2) hs ha).symm⟩
theorem zby {m l:List zS} (ht:Two m l):(mL m l).length ≤ m.length + l.length:=by
 unfold mL
 cases hm:mrg m l with
 | none=>simp
 | some L=>exact (zMT _ m l (Nat.le_refl _) ht L hm).2.2.2.1
theorem zcZ {m l:List zS} (ht:Two m l):∀ r ∈ mL m l,r.wf:=by
 unfold mL
 cases hm:mrg m l with
 | none=>simp
 | some L=>exact fun r hr=>((zMT _ m l (Nat.le_refl _) ht L hm).2.1 r hr).wf
theorem zSD {l:List zS} (hs:Srt l) (hr:∀ x ∈ l,0 ≤ x.id ∧ x.id ≤ 65535) (hw:∀ x ∈ l,x.wf):Two [] l:=⟨List.Pairwise.nil,hs,by simp,hr,by simp,hw⟩
def zMQ (bt btm:Int) (b:List zS):Nat:=if zW bt btm b ≠ 0 then zW bt btm b else mE [] b
end Go.Sx

set_option linter.unusedVariables false
set_option linter.unusedSimpArgs false
namespace Go.Sx
structure zAC where
 t:Int
 tm:Int
 l:List zS
structure zcM where
 t:Int
 tm:Int
 b:Int
 l:List zX
/-! ### Finding -/
def zPg (k:Int):List zS → Nat
 | []=>0
 | x :: l=>if x.id = k then 0 else zPg k l + 1
def zMR (k:Int) (l:List zS):Int:=if zPg k l < l.length then ((zPg k l:Nat):Int) else -1
theorem zSb {k:Int}:∀ {l:List zS} {j:Nat},j < l.length → (∀ i,i < j → (l.getD i default).id ≠ k) → (l.getD j default).id = k → zPg k l = j
 | x :: l,0,_,_,h=>by
   unfold zPg
   exact if_pos h
 | x :: l,j + 1,hj,h1,h2=>by
   have h0:x.id ≠ k:=h1 0 (by omega)
   unfold zPg
   rw [if_neg h0,zSb (l:=l) (j:=j) (by simpa using hj) (fun i hi=>h1 (i + 1) (by omega)) h2]
theorem zLo {k:Int}:∀ {l:List zS},(∀ i,i < l.length → (l.getD i default).id ≠ k) → zPg k l = l.length ∧ zAz k l = none
 | [],_=>⟨rfl,rfl⟩
 | x :: l,h=>by
   have h0:x.id ≠ k:=h 0 (by simp)
   have ih:=zLo (l:=l) fun i hi=>h (i + 1) (by simpa using hi)
   unfold zPg zAz
   rw [if_neg h0,if_neg h0,ih.1]
   exact ⟨rfl,ih.2⟩
theorem zOI {k:Int}:∀ {l:List zS},zPg k l < l.length → zAz k l = some (l.getD (zPg k l) default)
 | [],h=>by simp at h
 | x :: l,h=>by
   unfold zPg at h ⊢
   unfold zAz
   by_cases e:x.id = k
   · rw [if_pos e,if_pos e];rfl
   · rw [if_neg e] at h ⊢
     rw [if_neg e,zOI (by simpa using h)]
     rfl
theorem zTL {k:Int}:∀ {l:List zS},¬ zPg k l < l.length → zAz k l = none
 | [],_=>rfl
 | x :: l,h=>by
   unfold zPg at h
   unfold zAz
   by_cases e:x.id = k
   · rw [if_pos e] at h;simp at h
   · rw [if_neg e] at h
     rw [if_neg e]
     exact zTL (by simpa using h)
theorem zQs {k:Int} {l:List zS} {j:Nat} (hj:j < l.length) (h:∀ i,i < j → (l.getD i default).id ≠ k) (h2:(l.getD j default).id = k):zMR k l = j:=by
 unfold zMR
 rw [zSb hj h h2,if_pos hj]
theorem zMG {k:Int} {l:List zS} (h:∀ i,i < l.length → (l.getD i default).id ≠ k):zMR k l = -1:=by
 unfold zMR
 rw [(zLo h).1,if_neg (by omega)]
theorem zQ3 {k:Int} {l:List zS} (h:zMR k l < 0):zAz k l = none:=by
 unfold zMR at h
 split at h
 · omega
 · rename_i h2;exact zTL h2
theorem zMy {k:Int} {l:List zS} (h:¬ zMR k l < 0):(zMR k l).toNat < l.length ∧ zAz k l = some (l.getD (zMR k l).toNat default):=by
 unfold zMR at h ⊢
 split at h
 · rename_i h2
   rw [if_pos h2]
   exact ⟨by omega,by rw [zOI h2];rfl⟩
 · omega
theorem zTs {k:Int} {l:List zS} {j:Nat} (h:∀ i,i < j → (l.getD i default).id ≠ k) (h2:(l.getD j default).id ≠ k):∀ i,i < j + 1 → (l.getD i default).id ≠ k:=by
 intro i hi
 by_cases e:i = j
 · rw [e];exact h2
 · exact h i (by omega)
/-! ### Telling -/
def fG (t tm:Int) (l:List zS):zcM:=if zMQ t tm l = 0 then ⟨t,tm,-1,mL [] l⟩ else ⟨0,0,0,[]⟩
theorem zRl {t tm:Int} {l:List zS} (h:zW t tm l ≠ 0):zMQ t tm l = zW t tm l:=by unfold zMQ;rw [if_pos h]
theorem zJh {t tm:Int} {l:List zS} (h:zW t tm l = 0):zMQ t tm l = mE [] l:=by unfold zMQ;rw [if_neg (by omega)]
theorem zb3 {t tm:Int} {l:List zS} (h:zMQ t tm l ≠ 0):fG t tm l = ⟨0,0,0,[]⟩:=by unfold fG;rw [if_neg h]
theorem zaT {t tm:Int} {l:List zS} (h:zMQ t tm l = 0):fG t tm l = ⟨t,tm,-1,mL [] l⟩:=by unfold fG;rw [if_pos h]
section
variable {at_ atm bt btm : Int} {a b : List zS}
/-! ### Making -/
variable {gt gtm gb : Int} {rl : List zX}
def zEz (gb:Int) (a:List zS):List zS:=if 0 ≤ gb then a else []
def aM (was:List zS) (rl:List zX):Nat:=match apl was rl with | none=>15 | some l=>if 64 < l.length then 4 else 0
def aE (at_ atm:Int) (a:List zS) (gt gtm gb:Int) (rl:List zX):Nat :=
 if zAV gt gtm gb rl ≠ 0 then zAV gt gtm gb rl else if 0 ≤ gb ∧ zW at_ atm a ≠ 0 then zW at_ atm a else if 0 ≤ gb ∧ at_ ≠ gb then 14 else aM (zEz gb a) rl
def aS (at_ atm:Int) (a:List zS) (gt gtm gb:Int) (rl:List zX):zAC:=if aE at_ atm a gt gtm gb rl = 0 then ⟨gt,gtm,(apl (zEz gb a) rl).getD []⟩ else ⟨0,0,[]⟩
theorem zZ8 (h:zAV gt gtm gb rl ≠ 0):aE at_ atm a gt gtm gb rl = zAV gt gtm gb rl:=by unfold aE;rw [if_pos h]
theorem zZ0 (h:zAV gt gtm gb rl = 0) (h1:0 ≤ gb) (h2:zW at_ atm a ≠ 0):aE at_ atm a gt gtm gb rl = zW at_ atm a:=by unfold aE;rw [if_neg (by omega),if_pos ⟨h1,h2⟩]
theorem zZy (h:zAV gt gtm gb rl = 0) (h1:0 ≤ gb) (h2:zW at_ atm a = 0) (h3:at_ ≠ gb):aE at_ atm a gt gtm gb rl = 14:=by unfold aE;rw [if_neg (by omega),if_neg (by omega),if_pos ⟨h1,h3⟩]
theorem zP0 (h:zAV gt gtm gb rl = 0) (h1:0 ≤ gb → zW at_ atm a = 0 ∧ at_ = gb):aE at_ atm a gt gtm gb rl = aM (zEz gb a) rl:=by
 unfold aE
 rw [if_neg (by omega),if_neg (fun ⟨h2,h3⟩=>h3 (h1 h2).1),if_neg (fun ⟨h2,h3⟩=>h3 (h1 h2).2)]
theorem zZ2 (h:aE at_ atm a gt gtm gb rl ≠ 0):aS at_ atm a gt gtm gb rl = ⟨0,0,[]⟩:=by unfold aS;rw [if_neg h]
theorem zb2 (h:aE at_ atm a gt gtm gb rl = 0):aS at_ atm a gt gtm gb rl = ⟨gt,gtm,(apl (zEz gb a) rl).getD []⟩:=by unfold aS;rw [if_pos h]
theorem zIO {was:List zS} (h:apl was rl = none):aM was rl = 15:=by unfold aM;rw [h]
theorem zH6 {was l:List zS} (h:apl was rl = some l) (h2:64 < l.length):aM was rl = 4:=by unfold aM;rw [h];exact if_pos h2
theorem zcX {was l:List zS} (h:apl was rl = some l) (h2:¬ 64 < l.length):aM was rl = 0:=by unfold aM;rw [h];exact if_neg h2
theorem zOK (h:aE at_ atm a gt gtm gb rl = 0):zAV gt gtm gb rl = 0 ∧ (0 ≤ gb → zW at_ atm a = 0 ∧ at_ = gb) ∧ ∃ l,apl (zEz gb a) rl = some l ∧ l.length ≤ 64:=by
 have h0:zAV gt gtm gb rl = 0:=by
   cases hb:zAV gt gtm gb rl with
   | zero=>rfl
   | succ n=>rw [zZ8 (by omega)] at h;omega
 have h1:0 ≤ gb → zW at_ atm a = 0 ∧ at_ = gb:=by
   intro hg
   by_cases e:zW at_ atm a = 0
   · by_cases e2:at_ = gb
     · exact ⟨e,e2⟩
     · rw [zZy h0 hg e e2] at h;cases h
   · rw [zZ0 h0 hg e] at h;omega
 refine ⟨h0,h1,?_⟩
 rw [zP0 h0 h1] at h
 unfold aM at h
 cases ha:apl (zEz gb a) rl with
 | none=>rw [ha] at h;cases h
 | some l =>
   rw [ha] at h
   dsimp only at h
   split at h
   · cases h
   · exact ⟨l,rfl,by omega⟩
end
theorem zL8 {gb t tm:Int} {a:List zS} (h:0 ≤ gb → zW t tm a = 0 ∧ t = gb):Srt (zEz gb a):=by
 unfold zEz
 split
 · rename_i hg;exact zHo (zCG (h hg).1).2.2.2.2.2
 · exact List.Pairwise.nil
theorem zIk {was mm m':List zS} {rl:List zX} {k:Nat} (hk:k < rl.length) (h:zCc was rl = zCc mm (rl.drop k)) (hs:zCP mm (rl.getD k default) = some m'):zCc was rl = zCc m' (rl.drop (k + 1)):=by
 rw [h,List.drop_eq_getElem_cons hk]
 have e:rl.getD k default = rl[k]:=by rw [List.getD_eq_getElem?_getD,List.getElem?_eq_getElem hk];rfl
 rw [e] at hs
 show (zCP mm rl[k]).bind _ = _
 rw [hs]
 rfl
theorem zGe {was mm:List zS} {rl:List zX} {k:Nat} (hk:k < rl.length) (h:zCc was rl = zCc mm (rl.drop k)) (hs:zCP mm (rl.getD k default) = none):zCc was rl = none:=by
 rw [h,List.drop_eq_getElem_cons hk]
 have e:rl.getD k default = rl[k]:=by rw [List.getD_eq_getElem?_getD,List.getElem?_eq_getElem hk];rfl
 rw [e] at hs
 show (zCP mm rl[k]).bind _ = _
 rw [hs]
 rfl
theorem zFI {was mm:List zS} {rl:List zX} {k:Nat} (hk:rl.length ≤ k) (h:zCc was rl = zCc mm (rl.drop k)):zCc was rl = some mm:=by
 rw [h,List.drop_of_length_le hk]
 rfl
theorem zEp {m:List zS} {r:zX} (h:((zAz r.id m).isSome == (r.k == 0)) = true):zCP m r = none:=by
 unfold zCP
 cases hg:zAz r.id m with
 | none =>
   rw [hg] at h
   have:r.k ≠ 0:=by simpa using h
   exact if_neg this
 | some x =>
   rw [hg] at h
   have:r.k = 0:=by simpa using h
   exact if_pos this
theorem zSi {m:List zS} {r:zX} (h:((zAz r.id m).isSome == (r.k == 0)) = false) (h2:(zAz r.id m).isSome = false):zCP m r = some (zIc (zEu r) m):=by
 rw [h2] at h
 have:r.k = 0:=by simpa using h
 unfold zCP
 rw [show zAz r.id m = none by cases h:zAz r.id m <;> simp_all]
 exact if_pos this
theorem zXE {m:List zS} {r:zX} {x:zS} (h:((zAz r.id m).isSome == (r.k == 0)) = false) (hx:zAz r.id m = some x):r.k ≠ 0:=by
 rw [hx] at h
 simpa using h
theorem zQG {m:List zS} {r:zX} {x:zS} (hx:zAz r.id m = some x) (h2:r.k = 2):zCP m r = some (zFm r.id m):=by
 unfold zCP
 rw [hx]
 exact (if_neg (by omega)).trans (if_pos h2)
theorem zRi {m:List zS} {r:zX} {x:zS} (hx:zAz r.id m = some x) (h0:r.k ≠ 0) (h2:r.k ≠ 2):zCP m r = some (zIc (zT x r).1 m):=by
 unfold zCP
 rw [hx]
 exact (if_neg h0).trans (if_neg h2)
theorem zVh {l:List zX} {k:Nat} (h:k < l.length):l.getD k default = l[k]:=by rw [List.getD_eq_getElem?_getD,List.getElem?_eq_getElem h];rfl
theorem zbB {m:List zS} {rl:List zX} {k:Nat} {x:zS} (hr:zCb rl = 0) (hk:k < rl.length) (hx:zAz (rl.getD k default).id m = some x) (h0:(rl.getD k default).k ≠ 0) (h2:(rl.getD k default).k ≠ 2):(zT x (rl.getD k default)).1.id = (rl.getD k default).id:=by
 have hc:zAJ (rl.getD k default) = 0:=by rw [zVh hk];exact ((zFF hr).2 _ (List.getElem_mem hk)).1
 have hid:=(zGa hx).2
 rw [(zFt hc hid.symm h0 h2).1,hid]
theorem zDs {was:List zS} {rl:List zX} (hw:Srt was) (hr:zCb rl = 0) (h:zCc was rl = none):apl was rl = none:=by
 have:=zJz _ was rl (Nat.le_refl _) [] was (List.Perm.refl _) hw (by simp) (zFF hr).1 (fun r h=>((zFF hr).2 r h).1)
 cases ha:apl was rl with
 | none=>rfl
 | some l =>
   obtain ⟨_,m',h1,_⟩:=this.2 l ha
   rw [h] at h1
   cases h1
theorem zDB {was mm:List zS} {rl:List zX} (hw:Srt was) (hr:zCb rl = 0) (h:zCc was rl = some mm):∃ l,apl was rl = some l ∧ mm.Perm l ∧ Srt l:=by
 have:=zJz _ was rl (Nat.le_refl _) [] was (List.Perm.refl _) hw (by simp) (zFF hr).1 (fun r h=>((zFF hr).2 r h).1)
 cases ha:apl was rl with
 | none=>rw [this.1 ha] at h;cases h
 | some l =>
   obtain ⟨h0,m',h1,h2⟩:=this.2 l ha
   rw [h] at h1
   cases h1
   exact ⟨l,rfl,by simpa using h2,by simpa using h0⟩
theorem zVw {l l':List zS} (p:l.Perm l') (h:l.Pairwise (fun x y=>x.id ≤ y.id)) (h':Srt l'):l = l':=zKF (fun e:zS=>e.id) p h h'
end Go.Sx

set_option linter.unusedVariables false
set_option linter.unusedSimpArgs false
namespace Go.Sx
section
variable {at_ atm bt btm : Int} {a b : List zS}
theorem zV6 (h:zMQ bt btm b = 0) (hwb:∀ x ∈ b,x.wf):zW bt btm b = 0 ∧ mE [] b = 0 ∧ Two [] b:=by
 have h1:zW bt btm b = 0:=by
   cases hs:zW bt btm b with
   | zero=>rfl
   | succ n=>rw [zRl (by omega)] at h;omega
 have p:=zCG h1
 exact ⟨h1,by rw [← zJh h1];exact h,zSD (zHo p.2.2.2.2.2) (zJu p.2.2.2.2.2) hwb⟩
theorem zZr (hwb:∀ x ∈ b,x.wf):∀ r ∈ (fG bt btm b).l,r.wf:=by
 by_cases h:zMQ bt btm b = 0
 · rw [zaT h]
   exact zcZ (zV6 h hwb).2.2
 · rw [zb3 h];simp
theorem zan : ((fG bt btm b).t = bt ∨ (fG bt btm b).t = 0) ∧ ((fG bt btm b).tm = btm ∨ (fG bt btm b).tm = 0) ∧ ((fG bt btm b).b = -1 ∨ (fG bt btm b).b = 0):=by
 by_cases h:zMQ bt btm b = 0
 · rw [zaT h];simp
 · rw [zb3 h];simp
theorem zN1 {gt gtm gb:Int} {rl:List zX}:((aS at_ atm a gt gtm gb rl).t = gt ∨ (aS at_ atm a gt gtm gb rl).t = 0) ∧ ((aS at_ atm a gt gtm gb rl).tm = gtm ∨ (aS at_ atm a gt gtm gb rl).tm = 0) ∧ (aS at_ atm a gt gtm gb rl).l.length ≤ 64:=by
 by_cases h:aE at_ atm a gt gtm gb rl = 0
 · rw [zb2 h]
   obtain ⟨_,_,l,hl,hn⟩:=zOK h
   rw [hl]
   simpa using hn
 · rw [zZ2 h];simp
end
/-! ### The example -/
abbrev e7 : zS:=⟨7,0,0,0,0,0,0,5#16,0#8⟩
end Go.Sx
