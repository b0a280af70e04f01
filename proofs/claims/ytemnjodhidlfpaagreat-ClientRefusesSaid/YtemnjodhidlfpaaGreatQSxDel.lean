import Derived.Test.YtemnjodhidlfpaaGreatQSxRecs
import Derived.Test.YtemnjodhidlfpaaGreatQSxGrams
import Derived.Test.YtemnjodhidlfpaaGreatQSxMap
/- Texts of the small logic, one behind the other: SxPdelta, SxPdeltaD, SxPdeltaE, SxPdeltaL. -/
set_option linter.unusedVariables false
set_option linter.unusedSimpArgs false
namespace Go.Sx
def Srt (l:List zX):Prop:=l.Pairwise (fun x y=>x.id < y.id)
def zEM (l:List zX):Nat → Int
 | 0=>-1
 | k + 1=>(l.getD k default).id
def zEv (l:List zX) (k:Nat):Nat:=if (l.getD k default).id < 0 ∨ 65535 < (l.getD k default).id then 3 else if (l.getD k default).id ≤ zEM l k then 10 else 0
def zDu (l:List zX):Nat → Nat
 | 0=>0
 | j + 1=>if zDu l j ≠ 0 then zDu l j else zEv l j
def zBm (l:List zX):Nat:=zDu l l.length
def zAC (t tm:Int) (l:List zX):Nat:=if t < 0 ∨ 4294967295 < t ∨ tm < -2305843009213693952 ∨ 2305843009213693952 < tm then 3 else if 64 < l.length then 4 else zBm l
theorem zNi {l:List zX} {j:Nat} (h:zDu l j = 0) (h2:zEv l j = 0):zDu l (j + 1) = 0:=by unfold zDu;rw [if_neg (by omega),h2]
theorem zP4 {l:List zX} {j:Nat} (h:zDu l j = 0):zDu l (j + 1) = zEv l j:=by unfold zDu;rw [if_neg (by omega)]
theorem zI8 {l:List zX} {j e:Nat} (h:zDu l j = e) (he:e ≠ 0):∀ k,zDu l (j + k) = e
 | 0=>h
 | k + 1=>by
   have:=zI8 h he k
   show (if zDu l (j + k) ≠ 0 then zDu l (j + k) else zEv l (j + k)) = e
   rw [if_pos (by omega),this]
theorem zAe {l:List zX} {j:Nat} (hj:j < l.length) (h:zDu l j = 0) (he:zEv l j ≠ 0):zBm l = zEv l j:=by
 have:=zI8 (zP4 h) he (l.length - (j + 1))
 rwa [show j + 1 + (l.length - (j + 1)) = l.length by omega] at this
theorem zIJ {l:List zX} {j:Nat} (h:zDu l j = 0):∀ k,k < j → zEv l k = 0:=by
 induction j with
 | zero=>intro k hk;omega
 | succ j ih =>
   unfold zDu at h
   split at h
   · omega
   · intro k hk
     by_cases e:k = j
     · subst e;exact h
     · exact ih (by omega) k (by omega)
theorem zBf {l:List zX} {k:Nat} (h:(l.getD k default).id < 0 ∨ 65535 < (l.getD k default).id):zEv l k = 3:=by unfold zEv;rw [if_pos h]
theorem zA5 {l:List zX} {k:Nat} (h:¬ ((l.getD k default).id < 0 ∨ 65535 < (l.getD k default).id)) (h2:(l.getD k default).id ≤ zEM l k):zEv l k = 10:=by unfold zEv;rw [if_neg h,if_pos h2]
theorem zQQ {l:List zX} {k:Nat} (h:¬ ((l.getD k default).id < 0 ∨ 65535 < (l.getD k default).id)) (h2:¬ (l.getD k default).id ≤ zEM l k):zEv l k = 0:=by unfold zEv;rw [if_neg h,if_neg h2]
theorem zFk {l:List zX} {k:Nat} (h:zEv l k = 0):0 ≤ (l.getD k default).id ∧ (l.getD k default).id ≤ 65535 ∧ zEM l k < (l.getD k default).id:=by
 unfold zEv at h
 split at h
 · cases h
 · split at h
   · cases h
   · omega
theorem zDd {l:List zX} {k:Nat} (h:k < l.length):l.getD k default = l[k]:=by rw [List.getD_eq_getElem?_getD,List.getElem?_eq_getElem h];rfl
theorem zTE {l:List zX} (h:zBm l = 0):∀ x ∈ l,0 ≤ x.id ∧ x.id ≤ 65535:=by
 intro x hx
 obtain ⟨k,hk,rfl⟩:=List.mem_iff_getElem.1 hx
 have:=zFk (zIJ h k hk)
 rw [zDd hk] at this
 omega
theorem zOF {l:List zX} (h:zBm l = 0):Srt l:=by
 refine List.pairwise_iff_getElem.2 ?_
 have key:∀ d i (hi:i < l.length) (hj:i + d + 1 < l.length),l[i].id < l[i + d + 1].id:=by
   intro d
   induction d with
   | zero =>
     intro i hi hj
     have:=(zFk (zIJ h (i + 1) hj)).2.2
     rw [zDd hj] at this
     have e:zEM l (i + 1) = l[i].id:=by show (l.getD i default).id = _;rw [zDd hi]
     rw [e] at this
     exact this
   | succ d ih =>
     intro i hi hj
     have h1:=ih i hi (by omega)
     have:=(zFk (zIJ h (i + (d + 1) + 1) hj)).2.2
     rw [zDd hj] at this
     have e:zEM l (i + (d + 1) + 1) = l[i + d + 1].id:=by show (l.getD (i + (d + 1)) default).id = _;rw [zDd (by omega)];rfl
     rw [e] at this
     omega
 intro i j hi hj hij
 have:=key (j - i - 1) i hi (by omega)
 simpa [show i + (j - i - 1) + 1 = j by omega] using this
theorem zX6 {l:List zX} (hs:Srt l) (hr:∀ x ∈ l,0 ≤ x.id ∧ x.id ≤ 65535):zBm l = 0:=by
 have key:∀ j,j ≤ l.length → zDu l j = 0:=by
   intro j
   induction j with
   | zero=>intro _;rfl
   | succ j ih =>
     intro hj
     have hg:=zDd (l:=l) (k:=j) (by omega)
     have hm:=hr l[j] (List.getElem_mem (by omega))
     refine zNi (ih (by omega)) (zQQ (by rw [hg];omega) ?_)
     rw [hg]
     cases j with
     | zero=>show ¬ l[0].id ≤ -1;omega
     | succ i =>
       have:=List.pairwise_iff_getElem.1 hs i (i + 1) (by omega) (by omega) (by omega)
       show ¬ l[i + 1].id ≤ (l.getD i default).id
       rw [zDd (by omega)]
       omega
 exact key _ (Nat.le_refl _)
theorem zCQ {t tm:Int} {l:List zX} (h:t < 0 ∨ 4294967295 < t ∨ tm < -2305843009213693952 ∨ 2305843009213693952 < tm):zAC t tm l = 3:=by unfold zAC;rw [if_pos h]
theorem zCK {t tm:Int} {l:List zX} (h:¬ (t < 0 ∨ 4294967295 < t ∨ tm < -2305843009213693952 ∨ 2305843009213693952 < tm)) (h2:64 < l.length):zAC t tm l = 4:=by unfold zAC;rw [if_neg h,if_pos h2]
theorem zB2 {t tm:Int} {l:List zX} (h:¬ (t < 0 ∨ 4294967295 < t ∨ tm < -2305843009213693952 ∨ 2305843009213693952 < tm)) (h2:¬ 64 < l.length):zAC t tm l = zBm l:=by unfold zAC;rw [if_neg h,if_neg h2]
theorem zED {t tm:Int} {l:List zX} (h:zAC t tm l = 0):0 ≤ t ∧ t ≤ 4294967295 ∧ -2305843009213693952 ≤ tm ∧ tm ≤ 2305843009213693952 ∧ l.length ≤ 64 ∧ zBm l = 0:=by
 unfold zAC at h
 split at h
 · cases h
 · split at h
   · cases h
   · omega
/-! ### A map of entities -/
def ekv (l:List zX):List (Int × Value):=l.map fun e=>(e.id,.agg (zBR e).toArray)
def zA9 (k:Int):List zX → Option zX
 | []=>none
 | x :: l=>if x.id = k then some x else zA9 k l
def zIf (x:zX):List zX → List zX
 | []=>[x]
 | y :: l=>if y.id = x.id then x :: l else y :: zIf x l
def zOK (k:Int):List zX → List zX
 | []=>[]
 | y :: l=>if y.id = k then l else y :: zOK k l
theorem zNk (k:Int):∀ l,zHm k (ekv l) = (zA9 k l).map fun e=>.agg (zBR e).toArray
 | []=>rfl
 | x :: l=>by
   show (if x.id = k then some _ else zHm k (ekv l)) = _
   unfold zA9
   split
   · rfl
   · exact zNk k l
theorem zNp {k:Int} {x:zX} (hk:x.id = k):∀ l,zNH k (.agg (zBR x).toArray) (ekv l) = ekv (zIf x l)
 | []=>by show [(k,_)] = [(x.id,_)];rw [hk]
 | y :: l=>by
   show (if y.id = k then _ :: ekv l else _ :: zNH k _ (ekv l)) = _
   unfold zIf
   rw [hk]
   split
   · show _ = (x.id,_) :: ekv l;rw [hk]
   · rw [zNp hk l];rfl
theorem zM3 (k:Int):∀ l,zSr k (ekv l) = ekv (zOK k l)
 | []=>rfl
 | y :: l=>by
   show (if y.id = k then ekv l else _ :: zSr k (ekv l)) = _
   unfold zOK
   split
   · rfl
   · rw [zM3 k l];rfl
theorem zMH (l:List zX):(ekv l).length = l.length:=by simp [ekv]
def zL8 (l:List zX):Prop:=(l.map (·.id)).Nodup
theorem Srt.uniq {l:List zX} (h:Srt l):zL8 l:=by
 unfold zL8
 rw [List.nodup_iff_pairwise_ne,List.pairwise_map]
 exact h.imp fun h=>by omega
theorem zDs {k:Int}:∀ {l:List zX},zA9 k l = none ↔ ∀ e ∈ l,e.id ≠ k
 | []=>by simp [zA9]
 | x :: l=>by
   unfold zA9
   split
   · simp_all
   · rename_i h
     rw [zDs]
     simp [h]
theorem zF5 {k:Int} {e:zX}:∀ {l:List zX},zA9 k l = some e → e ∈ l ∧ e.id = k
 | [],h=>by cases h
 | x :: l,h=>by
   unfold zA9 at h
   split at h
   · rename_i hx
     cases h
     exact ⟨by simp,hx⟩
   · have:=zF5 h
     exact ⟨by simp [this.1],this.2⟩
theorem zFs {e:zX}:∀ {l:List zX},zL8 l → e ∈ l → zA9 e.id l = some e
 | [],_,h=>by cases h
 | x :: l,hu,h=>by
   unfold zL8 at hu
   rw [List.map_cons,List.nodup_cons] at hu
   unfold zA9
   rcases List.mem_cons.1 h with h | h
   · rw [h,if_pos rfl]
   · rw [if_neg (fun e':x.id = e.id=>hu.1 (by rw [e'];exact List.mem_map_of_mem h)),zFs hu.2 h]
theorem zL8.perm {l l':List zX} (h:zL8 l) (p:l.Perm l'):zL8 l':=(p.map _).nodup_iff.1 h
theorem zRg {k:Int} {l l':List zX} (hu:zL8 l) (p:l.Perm l'):zA9 k l = zA9 k l':=by
 cases h:zA9 k l with
 | none=>exact (zDs.2 fun e he=>zDs.1 h e (p.mem_iff.2 he)).symm
 | some e =>
   obtain ⟨h1,rfl⟩:=zF5 h
   exact (zFs (hu.perm p) (p.mem_iff.1 h1)).symm
theorem zDN {k:Int}:∀ {l:List zX},zL8 l → zOK k l = l.filter (fun e=>decide (e.id ≠ k))
 | [],_=>rfl
 | x :: l,hu=>by
   unfold zL8 at hu
   rw [List.map_cons,List.nodup_cons] at hu
   unfold zOK
   by_cases h:x.id = k
   · rw [if_pos h,List.filter_cons_of_neg (by simp [h])]
     refine (List.filter_eq_self.2 fun e he=>?_).symm
     simp only [ne_eq,decide_eq_true_eq]
     intro e'
     exact hu.1 (by rw [h,← e'];exact List.mem_map_of_mem he)
   · rw [if_neg h,List.filter_cons_of_pos (by simp [h]),zDN hu.2]
theorem zIO {x:zX}:∀ {l:List zX},zL8 l → (zIf x l).Perm (x :: l.filter (fun e=>decide (e.id ≠ x.id)))
 | [],_=>List.Perm.refl _
 | y :: l,hu=>by
   have hu':=hu
   unfold zL8 at hu
   rw [List.map_cons,List.nodup_cons] at hu
   unfold zIf
   by_cases h:y.id = x.id
   · rw [if_pos h,← zDN hu',zOK,if_pos h]
   · rw [if_neg h,List.filter_cons_of_pos (by simp [h])]
     exact ((zIO hu.2).cons y).trans (List.Perm.swap _ _ _)
theorem zQ9 {k:Int} {l l':List zX} (hu:zL8 l) (p:l.Perm l'):(zOK k l).Perm (zOK k l'):=by rw [zDN hu,zDN (hu.perm p)];exact p.filter _
theorem zK8 {x:zX} {l l':List zX} (hu:zL8 l) (p:l.Perm l'):(zIf x l).Perm (x :: l'.filter (fun e=>decide (e.id ≠ x.id))):=(zIO hu).trans ((p.filter _).cons x)
theorem zNe {x:zX}:∀ {l:List zX},zA9 x.id l = none → zIf x l = l ++ [x]
 | [],_=>rfl
 | y :: l,h=>by
   unfold zA9 at h
   split at h
   · cases h
   · rename_i hy
     unfold zIf
     rw [if_neg hy,zNe h]
     rfl
theorem zTf {l:List zX} (hs:Srt l) {j:Nat} (hj:j < l.length):zIf (l.getD j default) (l.take j) = l.take (j + 1):=by
 rw [zNe,zH5 hj]
 refine zDs.2 fun e he=>?_
 obtain ⟨i,hi,rfl⟩:=List.mem_iff_getElem.1 he
 rw [zDd hj,List.getElem_take]
 have:=List.pairwise_iff_getElem.1 hs i j (by simp at hi;omega) hj (by simp at hi;omega)
 omega
/-! ### What is made of a snapshot -/
def zFt (r:zAB):zX:=⟨r.id,r.p0,r.p1,r.p2,r.v0,r.v1,r.v2,r.a,0#8⟩
def apl : List zX → List zAB → Option (List zX)
 | was,[]=>some was
 | [],r :: l=>if r.k = 0 then (apl [] l).map (zFt r :: ·) else none
 | x :: was,r :: l =>
   if x.id < r.id then (apl was (r :: l)).map (x :: ·)
   else if x.id = r.id then (if r.k = 0 then none else if r.k = 2 then apl was l else (apl was l).map ((zS x r).1 :: ·))
   else if r.k = 0 then (apl (x :: was) l).map (zFt r :: ·) else none
termination_by a b=>a.length + b.length
theorem zKS (was:List zX):apl was [] = some was:=by unfold apl;rfl
theorem zYt (r:zAB) (l:List zAB):apl [] (r :: l) = if r.k = 0 then (apl [] l).map (zFt r :: ·) else none:=by rw [apl]
theorem zGI (x:zX) (was:List zX) (r:zAB) (l:List zAB):apl (x :: was) (r :: l) =
 if x.id < r.id then (apl was (r :: l)).map (x :: ·)
 else if x.id = r.id then (if r.k = 0 then none else if r.k = 2 then apl was l else (apl was l).map ((zS x r).1 :: ·))
 else if r.k = 0 then (apl (x :: was) l).map (zFt r :: ·) else none:=by rw [apl]
def zCT (m:List zX) (r:zAB):Option (List zX) :=
 match zA9 r.id m with
 | none=>if r.k = 0 then some (zIf (zFt r) m) else none
 | some x=>if r.k = 0 then none else if r.k = 2 then some (zOK r.id m) else some (zIf (zS x r).1 m)
def zCZ (m:List zX):List zAB → Option (List zX)
 | []=>some m
 | r :: l=>(zCT m r).bind (zCZ · l)
theorem zFr {x:zX} {r:zAB} (h:zAc r = 0) (hi:r.id = x.id) (h0:r.k ≠ 0) (h2:r.k ≠ 2):(zS x r).1.id = x.id ∧ (zS x r).2 = 0:=by
 by_cases h3:r.k = 3
 · rw [zBu h (by simp [hi,h0,h2]) h3];exact ⟨rfl,rfl⟩
 · rw [zBr h (by simp [hi,h0,h2]) h3];exact ⟨rfl,rfl⟩
theorem zJG {out b:List zX} {x:zX} (ho:∀ e ∈ out,e.id < x.id) (hb:∀ e ∈ b,x.id < e.id):(out ++ x :: b).filter (fun e=>decide (e.id ≠ x.id)) = out ++ b:=by
 rw [List.filter_append,List.filter_cons_of_neg (by simp),List.filter_eq_self.2 (fun e he=>by have:=ho e he;simp;omega),List.filter_eq_self.2 (fun e he=>by have:=hb e he;simp;omega)]
theorem zMW {l:List zX} {k:Int} (h:∀ e ∈ l,e.id ≠ k):l.filter (fun e=>decide (e.id ≠ k)) = l:=List.filter_eq_self.2 fun e he=>by simpa using h e he
theorem zTj {out b:List zX} {x:zX} (hu:zL8 (out ++ x :: b)):zA9 x.id (out ++ x :: b) = some x:=zFs hu (by simp)
theorem Srt.mid {out b:List zX} {x:zX} (h:Srt (out ++ x :: b)):(∀ e ∈ out,e.id < x.id) ∧ (∀ e ∈ b,x.id < e.id) ∧ Srt (out ++ b) ∧ (∀ e ∈ out,∀ e' ∈ b,e.id < e'.id):=by
 unfold Srt at h ⊢
 rw [List.pairwise_append] at h ⊢
 obtain ⟨h1,h2,h3⟩:=h
 rw [List.pairwise_cons] at h2
 exact ⟨fun e he=>h3 e he x (by simp),h2.1,⟨h1,h2.2,fun a ha b hb=>h3 a ha b (by simp [hb])⟩,fun a ha b hb=>h3 a ha b (by simp [hb])⟩
theorem Srt.ins {out b:List zX} {x:zX} (h:Srt (out ++ b)) (ho:∀ e ∈ out,e.id < x.id) (hb:∀ e ∈ b,x.id < e.id):Srt (out ++ x :: b):=by
 unfold Srt at h ⊢
 rw [List.pairwise_append] at h ⊢
 obtain ⟨h1,h2,h3⟩:=h
 exact ⟨h1,List.pairwise_cons.2 ⟨hb,h2⟩,fun a ha c hc=>by
   rcases List.mem_cons.1 hc with e | e
   · rw [e];exact ho a ha
   · exact h3 a ha c e⟩
def zbZ (l:List zAB):Prop:=l.Pairwise (fun x y=>x.id < y.id)
theorem zJ7 : ∀ (n : Nat) (wi : List zX) (rs : List zAB), wi.length + rs.length ≤ n → ∀ (out m : List zX), m.Perm (out ++ wi) → Srt (out ++ wi) → (∀ e ∈ out, ∀ r ∈ rs, e.id < r.id) → zbZ rs → (∀ r ∈ rs, zAc r = 0) →
   (apl wi rs = none → zCZ m rs = none) ∧ (∀ l,apl wi rs = some l → Srt (out ++ l) ∧ ∃ m',zCZ m rs = some m' ∧ m'.Perm (out ++ l)):=by
 intro n
 induction n with
 | zero =>
   intro wi rs hn out m hp hs ho hr hc
   obtain rfl:wi = []:=List.length_eq_zero_iff.1 (by omega)
   obtain rfl:rs = []:=List.length_eq_zero_iff.1 (by omega)
   rw [zKS]
   exact ⟨fun h=>(by cases h),fun l h=>by cases h;exact ⟨hs,m,rfl,hp⟩⟩
 | succ n ih =>
   intro wi rs hn out m hp hs ho hr hc
   cases rs with
   | nil =>
     rw [zKS]
     exact ⟨fun h=>(by cases h),fun l h=>by cases h;exact ⟨hs,m,rfl,hp⟩⟩
   | cons r rs =>
     have hum:zL8 m:=hs.uniq.perm hp.symm
     have hr':=List.pairwise_cons.1 hr
     have hc0:=hc r (by simp)
     have hget:zA9 r.id m = zA9 r.id (out ++ wi):=zRg hum hp
     have new : (∀ e ∈ wi, r.id < e.id) → (apl wi (r :: rs) = if r.k = 0 then (apl wi rs).map (zFt r :: ·) else none) →
         (apl wi (r :: rs) = none → zCZ m (r :: rs) = none) ∧ (∀ l,apl wi (r :: rs) = some l → Srt (out ++ l) ∧ ∃ m',zCZ m (r :: rs) = some m' ∧ m'.Perm (out ++ l)):=by
       intro hw he
       have hng:zA9 r.id m = none:=by
         rw [hget]
         refine zDs.2 fun e hm=>?_
         rcases List.mem_append.1 hm with h | h
         · have:=ho e h r (by simp);omega
         · have:=hw e h;omega
       rw [he]
       by_cases hk:r.k = 0
       · rw [if_pos hk]
         have hstep:zCT m r = some (zIf (zFt r) m):=by unfold zCT;rw [hng];exact if_pos hk
         have hp2:(zIf (zFt r) m).Perm ((out ++ [zFt r]) ++ wi):=by
           refine (zK8 hum hp).trans ?_
           show (zFt r :: (out ++ wi).filter (fun e=>decide (e.id ≠ r.id))).Perm _
           rw [zMW (by rw [hget] at hng;exact zDs.1 hng)]
           rw [List.append_assoc]
           exact List.perm_middle.symm
         have hs2:Srt ((out ++ [zFt r]) ++ wi):=by
           rw [List.append_assoc]
           exact hs.ins (x:=zFt r) (fun e h=>ho e h r (by simp)) hw
         obtain ⟨i1,i2⟩:=ih wi rs (by simp at hn;omega) _ _ hp2 hs2 (fun e h r' hr2=>by
           rcases List.mem_append.1 h with h | h
           · exact ho e h r' (by simp [hr2])
           · rw [List.mem_singleton.1 h];exact hr'.1 r' hr2) hr'.2 (fun r' h=>hc r' (by simp [h]))
         have hf:zCZ m (r :: rs) = zCZ (zIf (zFt r) m) rs:=by show (zCT m r).bind _ = _;rw [hstep];rfl
         rw [hf]
         refine ⟨fun h=>i1 (by cases ha:apl wi rs with | none=>rfl | some l=>rw [ha] at h;cases h),fun l h=>?_⟩
         cases ha:apl wi rs with
         | none=>rw [ha] at h;cases h
         | some l' =>
           rw [ha] at h
           cases h
           have:=i2 l' ha
           simpa [List.append_assoc] using this
       · rw [if_neg hk]
         have hf:zCZ m (r :: rs) = none:=by
           show (zCT m r).bind _ = _
           have:zCT m r = none:=by unfold zCT;rw [hng];exact if_neg hk
           rw [this];rfl
         exact ⟨fun _=>hf,fun l h=>by cases h⟩
     cases wi with
     | nil=>exact new (by simp) (zYt r rs)
     | cons x wi =>
       have hmid:=hs.mid
       by_cases h1:x.id < r.id
       · have he:apl (x :: wi) (r :: rs) = (apl wi (r :: rs)).map (x :: ·):=by rw [zGI,if_pos h1]
         have hs2:Srt ((out ++ [x]) ++ wi):=by rw [List.append_assoc];exact hs
         obtain ⟨i1,i2⟩:=ih wi (r :: rs) (by simp at hn ⊢;omega) (out ++ [x]) m (by rw [List.append_assoc];exact hp) hs2 (fun e h r' hr2=>by
           rcases List.mem_append.1 h with h | h
           · exact ho e h r' hr2
           · rw [List.mem_singleton.1 h]
             rcases List.mem_cons.1 hr2 with e' | e'
             · rw [e'];exact h1
             · have:=hr'.1 r' e';omega) hr hc
         rw [he]
         refine ⟨fun h=>i1 (by cases ha:apl wi (r :: rs) with | none=>rfl | some l=>rw [ha] at h;cases h),fun l h=>?_⟩
         cases ha:apl wi (r :: rs) with
         | none=>rw [ha] at h;cases h
         | some l' =>
           rw [ha] at h
           cases h
           have:=i2 l' ha
           simpa [List.append_assoc] using this
       · by_cases h2:x.id = r.id
         · have hg:zA9 r.id m = some x:=by rw [hget,← h2];exact zTj hs.uniq
           have ho':∀ e ∈ out ++ ([]:List zX),∀ r' ∈ rs,e.id < r'.id:=fun e h r' hr2=>ho e (by simpa using h) r' (by simp [hr2])
           by_cases hk0:r.k = 0
           · have he:apl (x :: wi) (r :: rs) = none:=by rw [zGI,if_neg h1,if_pos h2,if_pos hk0]
             have hf:zCZ m (r :: rs) = none:=by
               show (zCT m r).bind _ = _
               have:zCT m r = none:=by unfold zCT;rw [hg];exact if_pos hk0
               rw [this];rfl
             rw [he]
             exact ⟨fun _=>hf,fun l h=>by cases h⟩
           · by_cases hk2:r.k = 2
             · have he:apl (x :: wi) (r :: rs) = apl wi rs:=by rw [zGI,if_neg h1,if_pos h2,if_neg hk0,if_pos hk2]
               have hf:zCZ m (r :: rs) = zCZ (zOK r.id m) rs:=by
                 show (zCT m r).bind _ = _
                 have:zCT m r = some (zOK r.id m):=by unfold zCT;rw [hg];exact (if_neg hk0).trans (if_pos hk2)
                 rw [this];rfl
               rw [he,hf]
               refine ih wi rs (by simp at hn ⊢;omega) out _ ?_ hmid.2.2.1 (fun e h r' hr2=>ho e h r' (by simp [hr2])) hr'.2 (fun r' h=>hc r' (by simp [h]))
               refine (zQ9 hum hp).trans ?_
               rw [zDN hs.uniq,← h2,zJG hmid.1 hmid.2.1]
             · have hid:=(zFr (x:=x) hc0 h2.symm hk0 hk2).1
               have he:apl (x :: wi) (r :: rs) = (apl wi rs).map ((zS x r).1 :: ·):=by rw [zGI,if_neg h1,if_pos h2,if_neg hk0,if_neg hk2]
               have hf:zCZ m (r :: rs) = zCZ (zIf (zS x r).1 m) rs:=by
                 show (zCT m r).bind _ = _
                 have:zCT m r = some (zIf (zS x r).1 m):=by unfold zCT;rw [hg];exact (if_neg hk0).trans (if_neg hk2)
                 rw [this];rfl
               have hp2:(zIf (zS x r).1 m).Perm ((out ++ [(zS x r).1]) ++ wi):=by
                 refine (zK8 hum hp).trans ?_
                 rw [hid,zJG hmid.1 hmid.2.1,List.append_assoc]
                 exact List.perm_middle.symm
               have hs2:Srt ((out ++ [(zS x r).1]) ++ wi):=by
                 rw [List.append_assoc]
                 exact hmid.2.2.1.ins (by rw [hid];exact hmid.1) (by rw [hid];exact hmid.2.1)
               obtain ⟨i1,i2⟩:=ih wi rs (by simp at hn;omega) _ _ hp2 hs2 (fun e h r' hr2=>by
                 rcases List.mem_append.1 h with h | h
                 · exact ho e h r' (by simp [hr2])
                 · rw [List.mem_singleton.1 h,hid,h2];exact hr'.1 r' hr2) hr'.2 (fun r' h=>hc r' (by simp [h]))
               rw [he,hf]
               refine ⟨fun h=>i1 (by cases ha:apl wi rs with | none=>rfl | some l=>rw [ha] at h;cases h),fun l h=>?_⟩
               cases ha:apl wi rs with
               | none=>rw [ha] at h;cases h
               | some l' =>
                 rw [ha] at h
                 cases h
                 have:=i2 l' ha
                 simpa [List.append_assoc] using this
         · refine new (fun e h=>?_) (by rw [zGI,if_neg h1,if_neg h2])
           rcases List.mem_cons.1 h with e' | e'
           · rw [e'];omega
           · have:=hmid.2.1 e e';omega
theorem zNx {α:Type} (f:α → Int):∀ {l l':List α},l.Perm l' → l.Pairwise (fun x y=>f x ≤ f y) → l'.Pairwise (fun x y=>f x < f y) → l = l'
 | [],l',p,_,_=>(List.nil_perm.1 p).symm
 | x :: l,[],p,_,_=>by simpa using p.length_eq
 | x :: l,y :: l',p,h,h'=>by
   rw [List.pairwise_cons] at h h'
   have e:x = y:=by
     rcases List.mem_cons.1 (p.mem_iff.1 (List.mem_cons_self (a:=x))) with e | e
     · exact e
     · have h1:=h'.1 x e
       rcases List.mem_cons.1 (p.mem_iff.2 (List.mem_cons_self (a:=y))) with e2 | e2
       · exact e2.symm
       · have h2:=h.1 y e2;omega
   subst e
   rw [zNx f (List.Perm.cons_inv p) h.2 h'.2]
end Go.Sx

set_option linter.unusedVariables false
set_option linter.unusedSimpArgs false
namespace Go.Sx
/-! ### What a telling consists of -/
structure Two (a b:List zX):Prop where
 sa:Srt a
 sb:Srt b
 ra:∀ x ∈ a,0 ≤ x.id ∧ x.id ≤ 65535
 rb:∀ x ∈ b,0 ≤ x.id ∧ x.id ≤ 65535
 wa:∀ x ∈ a,x.wf
 wb:∀ x ∈ b,x.wf
theorem Two.tl {x:zX} {a b:List zX} (h:Two (x :: a) b):Two a b:=⟨(List.pairwise_cons.1 h.sa).2,h.sb,fun z hz=>h.ra z (by simp [hz]),h.rb,fun z hz=>h.wa z (by simp [hz]),h.wb⟩
theorem zFM {L:List zAB} (h:zCd L = 0):zbZ L ∧ ∀ r ∈ L,zAc r = 0 ∧ 0 ≤ r.id ∧ r.id ≤ 65535:=by
 have hat:∀ k,k < L.length → zFR L k = 0:=zGw h
 have hg:∀ k (hk:k < L.length),L.getD k default = L[k]:=fun k hk=>by rw [List.getD_eq_getElem?_getD,List.getElem?_eq_getElem hk];rfl
 refine ⟨List.pairwise_iff_getElem.2 ?_,fun r hr=>?_⟩
 · have key : ∀ d i (hi : i < L.length) (hj : i + d + 1 < L.length), L[i].id < L[i + d + 1].id := by
     intro d
     induction d with
     | zero =>
       intro i hi hj
       have:=zC9 (hat (i + 1) hj)
       rw [zCw hi,hg _ hj] at this
       dsimp only at this
       rw [hg _ hi] at this
       exact this.2.2.2
     | succ d ih =>
       intro i hi hj
       have h1:=ih i hi (by omega)
       have:=zC9 (hat (i + (d + 1) + 1) hj)
       rw [zCw (by omega),hg _ hj] at this
       dsimp only at this
       rw [hg _ (by omega)] at this
       have h2:=this.2.2.2
       have e:L[i + (d + 1)].id = L[i + d + 1].id:=rfl
       omega
   intro i j hi hj hij
   have:=key (j - i - 1) i hi (by omega)
   simpa [show i + (j - i - 1) + 1 = j by omega] using this
 · obtain ⟨k,hk,rfl⟩:=List.mem_iff_getElem.1 hr
   have h1:=hat k hk
   have h2:=zC9 h1
   rw [hg k hk] at h2
   refine ⟨?_,h2.1,h2.2.1⟩
   unfold zFR zAy at h1
   rw [hg k hk] at h1
   split at h1
   · omega
   · omega
/-! ### The program's loop -/
end Go.Sx

set_option linter.unusedVariables false
set_option linter.unusedSimpArgs false
namespace Go.Sx
structure zAE where
 t:Int
 tm:Int
 l:List zX
/-! ### Finding -/
def zOW (k:Int):List zX → Nat
 | []=>0
 | x :: l=>if x.id = k then 0 else zOW k l + 1
def zMA (k:Int) (l:List zX):Int:=if zOW k l < l.length then ((zOW k l:Nat):Int) else -1
theorem zQ1 {k:Int}:∀ {l:List zX} {j:Nat},j < l.length → (∀ i,i < j → (l.getD i default).id ≠ k) → (l.getD j default).id = k → zOW k l = j
 | x :: l,0,_,_,h=>by
   unfold zOW
   exact if_pos h
 | x :: l,j + 1,hj,h1,h2=>by
   have h0:x.id ≠ k:=h1 0 (by omega)
   unfold zOW
   rw [if_neg h0,zQ1 (l:=l) (j:=j) (by simpa using hj) (fun i hi=>h1 (i + 1) (by omega)) h2]
theorem zLi {k:Int}:∀ {l:List zX},(∀ i,i < l.length → (l.getD i default).id ≠ k) → zOW k l = l.length ∧ zA9 k l = none
 | [],_=>⟨rfl,rfl⟩
 | x :: l,h=>by
   have h0:x.id ≠ k:=h 0 (by simp)
   have ih:=zLi (l:=l) fun i hi=>h (i + 1) (by simpa using hi)
   unfold zOW zA9
   rw [if_neg h0,if_neg h0,ih.1]
   exact ⟨rfl,ih.2⟩
theorem zM9 {k:Int}:∀ {l:List zX},zOW k l < l.length → zA9 k l = some (l.getD (zOW k l) default)
 | [],h=>by simp at h
 | x :: l,h=>by
   unfold zOW at h ⊢
   unfold zA9
   by_cases e:x.id = k
   · rw [if_pos e,if_pos e];rfl
   · rw [if_neg e] at h ⊢
     rw [if_neg e,zM9 (by simpa using h)]
     rfl
theorem zRn {k:Int}:∀ {l:List zX},¬ zOW k l < l.length → zA9 k l = none
 | [],_=>rfl
 | x :: l,h=>by
   unfold zOW at h
   unfold zA9
   by_cases e:x.id = k
   · rw [if_pos e] at h;simp at h
   · rw [if_neg e] at h
     rw [if_neg e]
     exact zRn (by simpa using h)
theorem zRl {k:Int} {l:List zX} {j:Nat} (hj:j < l.length) (h:∀ i,i < j → (l.getD i default).id ≠ k) (h2:(l.getD j default).id = k):zMA k l = j:=by
 unfold zMA
 rw [zQ1 hj h h2,if_pos hj]
theorem zLD {k:Int} {l:List zX} (h:∀ i,i < l.length → (l.getD i default).id ≠ k):zMA k l = -1:=by
 unfold zMA
 rw [(zLi h).1,if_neg (by omega)]
theorem zRN {k:Int} {l:List zX} (h:zMA k l < 0):zA9 k l = none:=by
 unfold zMA at h
 split at h
 · omega
 · rename_i h2;exact zRn h2
theorem zMm {k:Int} {l:List zX} (h:¬ zMA k l < 0):(zMA k l).toNat < l.length ∧ zA9 k l = some (l.getD (zMA k l).toNat default):=by
 unfold zMA at h ⊢
 split at h
 · rename_i h2
   rw [if_pos h2]
   exact ⟨by omega,by rw [zM9 h2];rfl⟩
 · omega
theorem zUa {k:Int} {l:List zX} {j:Nat} (h:∀ i,i < j → (l.getD i default).id ≠ k) (h2:(l.getD j default).id ≠ k):∀ i,i < j + 1 → (l.getD i default).id ≠ k:=by
 intro i hi
 by_cases e:i = j
 · rw [e];exact h2
 · exact h i (by omega)
/-! ### Telling -/
section
variable {at_ atm bt btm : Int} {a b : List zX}
/-! ### Making -/
variable {gt gtm gb : Int} {rl : List zAB}
def zEg (gb:Int) (a:List zX):List zX:=if 0 ≤ gb then a else []
def aM (was:List zX) (rl:List zAB):Nat:=match apl was rl with | none=>15 | some l=>if 64 < l.length then 4 else 0
def aE (at_ atm:Int) (a:List zX) (gt gtm gb:Int) (rl:List zAB):Nat :=
 if zAT gt gtm gb rl ≠ 0 then zAT gt gtm gb rl else if 0 ≤ gb ∧ zAC at_ atm a ≠ 0 then zAC at_ atm a else if 0 ≤ gb ∧ at_ ≠ gb then 14 else aM (zEg gb a) rl
def aS (at_ atm:Int) (a:List zX) (gt gtm gb:Int) (rl:List zAB):zAE:=if aE at_ atm a gt gtm gb rl = 0 then ⟨gt,gtm,(apl (zEg gb a) rl).getD []⟩ else ⟨0,0,[]⟩
theorem zY7 (h:zAT gt gtm gb rl ≠ 0):aE at_ atm a gt gtm gb rl = zAT gt gtm gb rl:=by unfold aE;rw [if_pos h]
theorem zY5 (h:zAT gt gtm gb rl = 0) (h1:0 ≤ gb) (h2:zAC at_ atm a ≠ 0):aE at_ atm a gt gtm gb rl = zAC at_ atm a:=by unfold aE;rw [if_neg (by omega),if_pos ⟨h1,h2⟩]
theorem zYz (h:zAT gt gtm gb rl = 0) (h1:0 ≤ gb) (h2:zAC at_ atm a = 0) (h3:at_ ≠ gb):aE at_ atm a gt gtm gb rl = 14:=by unfold aE;rw [if_neg (by omega),if_neg (by omega),if_pos ⟨h1,h3⟩]
theorem zPY (h:zAT gt gtm gb rl = 0) (h1:0 ≤ gb → zAC at_ atm a = 0 ∧ at_ = gb):aE at_ atm a gt gtm gb rl = aM (zEg gb a) rl:=by
 unfold aE
 rw [if_neg (by omega),if_neg (fun ⟨h2,h3⟩=>h3 (h1 h2).1),if_neg (fun ⟨h2,h3⟩=>h3 (h1 h2).2)]
theorem zY3 (h:aE at_ atm a gt gtm gb rl ≠ 0):aS at_ atm a gt gtm gb rl = ⟨0,0,[]⟩:=by unfold aS;rw [if_neg h]
theorem zav (h:aE at_ atm a gt gtm gb rl = 0):aS at_ atm a gt gtm gb rl = ⟨gt,gtm,(apl (zEg gb a) rl).getD []⟩:=by unfold aS;rw [if_pos h]
theorem zHz {was:List zX} (h:apl was rl = none):aM was rl = 15:=by unfold aM;rw [h]
theorem zHt {was l:List zX} (h:apl was rl = some l) (h2:64 < l.length):aM was rl = 4:=by unfold aM;rw [h];exact if_pos h2
theorem zbI {was l:List zX} (h:apl was rl = some l) (h2:¬ 64 < l.length):aM was rl = 0:=by unfold aM;rw [h];exact if_neg h2
theorem zND (h:aE at_ atm a gt gtm gb rl = 0):zAT gt gtm gb rl = 0 ∧ (0 ≤ gb → zAC at_ atm a = 0 ∧ at_ = gb) ∧ ∃ l,apl (zEg gb a) rl = some l ∧ l.length ≤ 64:=by
 have h0:zAT gt gtm gb rl = 0:=by
   cases hb:zAT gt gtm gb rl with
   | zero=>rfl
   | succ n=>rw [zY7 (by omega)] at h;omega
 have h1:0 ≤ gb → zAC at_ atm a = 0 ∧ at_ = gb:=by
   intro hg
   by_cases e:zAC at_ atm a = 0
   · by_cases e2:at_ = gb
     · exact ⟨e,e2⟩
     · rw [zYz h0 hg e e2] at h;cases h
   · rw [zY5 h0 hg e] at h;omega
 refine ⟨h0,h1,?_⟩
 rw [zPY h0 h1] at h
 unfold aM at h
 cases ha:apl (zEg gb a) rl with
 | none=>rw [ha] at h;cases h
 | some l =>
   rw [ha] at h
   dsimp only at h
   split at h
   · cases h
   · exact ⟨l,rfl,by omega⟩
end
theorem zLT {gb t tm:Int} {a:List zX} (h:0 ≤ gb → zAC t tm a = 0 ∧ t = gb):Srt (zEg gb a):=by
 unfold zEg
 split
 · rename_i hg;exact zOF (zED (h hg).1).2.2.2.2.2
 · exact List.Pairwise.nil
theorem zIc {was mm m':List zX} {rl:List zAB} {k:Nat} (hk:k < rl.length) (h:zCZ was rl = zCZ mm (rl.drop k)) (hs:zCT mm (rl.getD k default) = some m'):zCZ was rl = zCZ m' (rl.drop (k + 1)):=by
 rw [h,List.drop_eq_getElem_cons hk]
 have e:rl.getD k default = rl[k]:=by rw [List.getD_eq_getElem?_getD,List.getElem?_eq_getElem hk];rfl
 rw [e] at hs
 show (zCT mm rl[k]).bind _ = _
 rw [hs]
 rfl
theorem zF0 {was mm:List zX} {rl:List zAB} {k:Nat} (hk:k < rl.length) (h:zCZ was rl = zCZ mm (rl.drop k)) (hs:zCT mm (rl.getD k default) = none):zCZ was rl = none:=by
 rw [h,List.drop_eq_getElem_cons hk]
 have e:rl.getD k default = rl[k]:=by rw [List.getD_eq_getElem?_getD,List.getElem?_eq_getElem hk];rfl
 rw [e] at hs
 show (zCT mm rl[k]).bind _ = _
 rw [hs]
 rfl
theorem zE6 {was mm:List zX} {rl:List zAB} {k:Nat} (hk:rl.length ≤ k) (h:zCZ was rl = zCZ mm (rl.drop k)):zCZ was rl = some mm:=by
 rw [h,List.drop_of_length_le hk]
 rfl
theorem zEo {m:List zX} {r:zAB} (h:((zA9 r.id m).isSome == (r.k == 0)) = true):zCT m r = none:=by
 unfold zCT
 cases hg:zA9 r.id m with
 | none =>
   rw [hg] at h
   have:r.k ≠ 0:=by simpa using h
   exact if_neg this
 | some x =>
   rw [hg] at h
   have:r.k = 0:=by simpa using h
   exact if_pos this
theorem zRE {m:List zX} {r:zAB} (h:((zA9 r.id m).isSome == (r.k == 0)) = false) (h2:(zA9 r.id m).isSome = false):zCT m r = some (zIf (zFt r) m):=by
 rw [h2] at h
 have:r.k = 0:=by simpa using h
 unfold zCT
 rw [show zA9 r.id m = none by cases h:zA9 r.id m <;> simp_all]
 exact if_pos this
theorem zWe {m:List zX} {r:zAB} {x:zX} (h:((zA9 r.id m).isSome == (r.k == 0)) = false) (hx:zA9 r.id m = some x):r.k ≠ 0:=by
 rw [hx] at h
 simpa using h
theorem zSP {m:List zX} {r:zAB} {x:zX} (hx:zA9 r.id m = some x) (h2:r.k = 2):zCT m r = some (zOK r.id m):=by
 unfold zCT
 rw [hx]
 exact (if_neg (by omega)).trans (if_pos h2)
theorem zR7 {m:List zX} {r:zAB} {x:zX} (hx:zA9 r.id m = some x) (h0:r.k ≠ 0) (h2:r.k ≠ 2):zCT m r = some (zIf (zS x r).1 m):=by
 unfold zCT
 rw [hx]
 exact (if_neg h0).trans (if_neg h2)
theorem zTS {l:List zAB} {k:Nat} (h:k < l.length):l.getD k default = l[k]:=by rw [List.getD_eq_getElem?_getD,List.getElem?_eq_getElem h];rfl
theorem zZf {m:List zX} {rl:List zAB} {k:Nat} {x:zX} (hr:zCd rl = 0) (hk:k < rl.length) (hx:zA9 (rl.getD k default).id m = some x) (h0:(rl.getD k default).k ≠ 0) (h2:(rl.getD k default).k ≠ 2):(zS x (rl.getD k default)).1.id = (rl.getD k default).id:=by
 have hc:zAc (rl.getD k default) = 0:=by rw [zTS hk];exact ((zFM hr).2 _ (List.getElem_mem hk)).1
 have hid:=(zF5 hx).2
 rw [(zFr hc hid.symm h0 h2).1,hid]
theorem zDx {was:List zX} {rl:List zAB} (hw:Srt was) (hr:zCd rl = 0) (h:zCZ was rl = none):apl was rl = none:=by
 have:=zJ7 _ was rl (Nat.le_refl _) [] was (List.Perm.refl _) hw (by simp) (zFM hr).1 (fun r h=>((zFM hr).2 r h).1)
 cases ha:apl was rl with
 | none=>rfl
 | some l =>
   obtain ⟨_,m',h1,_⟩:=this.2 l ha
   rw [h] at h1
   cases h1
theorem zDD {was mm:List zX} {rl:List zAB} (hw:Srt was) (hr:zCd rl = 0) (h:zCZ was rl = some mm):∃ l,apl was rl = some l ∧ mm.Perm l ∧ Srt l:=by
 have:=zJ7 _ was rl (Nat.le_refl _) [] was (List.Perm.refl _) hw (by simp) (zFM hr).1 (fun r h=>((zFM hr).2 r h).1)
 cases ha:apl was rl with
 | none=>rw [this.1 ha] at h;cases h
 | some l =>
   obtain ⟨h0,m',h1,h2⟩:=this.2 l ha
   rw [h] at h1
   cases h1
   exact ⟨l,rfl,by simpa using h2,by simpa using h0⟩
theorem zUu {l l':List zX} (p:l.Perm l') (h:l.Pairwise (fun x y=>x.id ≤ y.id)) (h':Srt l'):l = l':=zNx (fun e:zX=>e.id) p h h'
end Go.Sx

set_option linter.unusedVariables false
set_option linter.unusedSimpArgs false
namespace Go.Sx
section
variable {at_ atm bt btm : Int} {a b : List zX}
theorem zNQ {gt gtm gb:Int} {rl:List zAB}:((aS at_ atm a gt gtm gb rl).t = gt ∨ (aS at_ atm a gt gtm gb rl).t = 0) ∧ ((aS at_ atm a gt gtm gb rl).tm = gtm ∨ (aS at_ atm a gt gtm gb rl).tm = 0) ∧ (aS at_ atm a gt gtm gb rl).l.length ≤ 64:=by
 by_cases h:aE at_ atm a gt gtm gb rl = 0
 · rw [zav h]
   obtain ⟨_,_,l,hl,hn⟩:=zND h
   rw [hl]
   simpa using hn
 · rw [zY3 h];simp
end
/-! ### The example -/
abbrev e7 : zX:=⟨7,0,0,0,0,0,0,5#16,0#8⟩
end Go.Sx
