import Derived.Test.YtemnjodhidlfpaaGreatQSxRecs
import Derived.Test.YtemnjodhidlfpaaGreatQSxGrams
import Derived.Test.YtemnjodhidlfpaaGreatQSxMap
/- Texts of the small logic, one behind the other: SxPdelta, SxPdeltaD, SxPdeltaE, SxPdeltaL. -/
set_option linter.unusedVariables false
set_option linter.unusedSimpArgs false
namespace Go.Sx
def Srt (l:List zZ):Prop:=l.Pairwise (fun x y=>x.id < y.id)
def zD0 (l:List zZ):Nat → Int
 | 0=>-1
 | k + 1=>(l.getD k default).id
def zET (l:List zZ) (k:Nat):Nat:=if (l.getD k default).id < 0 ∨ 65535 < (l.getD k default).id then 3 else if (l.getD k default).id ≤ zD0 l k then 10 else 0
def zD8 (l:List zZ):Nat → Nat
 | 0=>0
 | j + 1=>if zD8 l j ≠ 0 then zD8 l j else zET l j
def zB1 (l:List zZ):Nat:=zD8 l l.length
def zAE (t tm:Int) (l:List zZ):Nat:=if t < 0 ∨ 4294967295 < t ∨ tm < -2305843009213693952 ∨ 2305843009213693952 < tm then 3 else if 64 < l.length then 4 else zB1 l
theorem zUO {l:List zZ} {j:Nat} (h:zD8 l j = 0) (h2:zET l j = 0):zD8 l (j + 1) = 0:=by unfold zD8;rw [if_neg (by omega),h2]
theorem zQu {l:List zZ} {j:Nat} (h:zD8 l j = 0):zD8 l (j + 1) = zET l j:=by unfold zD8;rw [if_neg (by omega)]
theorem zIk {l:List zZ} {j e:Nat} (h:zD8 l j = e) (he:e ≠ 0):∀ k,zD8 l (j + k) = e
 | 0=>h
 | k + 1=>by
   have:=zIk h he k
   show (if zD8 l (j + k) ≠ 0 then zD8 l (j + k) else zET l (j + k)) = e
   rw [if_pos (by omega),this]
theorem zAd {l:List zZ} {j:Nat} (hj:j < l.length) (h:zD8 l j = 0) (he:zET l j ≠ 0):zB1 l = zET l j:=by
 have:=zIk (zQu h) he (l.length - (j + 1))
 rwa [show j + 1 + (l.length - (j + 1)) = l.length by omega] at this
theorem zKg {l:List zZ} {j:Nat} (h:zD8 l j = 0):∀ k,k < j → zET l k = 0:=by
 induction j with
 | zero=>intro k hk;omega
 | succ j ih =>
   unfold zD8 at h
   split at h
   · omega
   · intro k hk
     by_cases e:k = j
     · subst e;exact h
     · exact ih (by omega) k (by omega)
theorem zBe {l:List zZ} {k:Nat} (h:(l.getD k default).id < 0 ∨ 65535 < (l.getD k default).id):zET l k = 3:=by unfold zET;rw [if_pos h]
theorem zA5 {l:List zZ} {k:Nat} (h:¬ ((l.getD k default).id < 0 ∨ 65535 < (l.getD k default).id)) (h2:(l.getD k default).id ≤ zD0 l k):zET l k = 10:=by unfold zET;rw [if_neg h,if_pos h2]
theorem zXA {l:List zZ} {k:Nat} (h:¬ ((l.getD k default).id < 0 ∨ 65535 < (l.getD k default).id)) (h2:¬ (l.getD k default).id ≤ zD0 l k):zET l k = 0:=by unfold zET;rw [if_neg h,if_neg h2]
theorem zHW {l:List zZ} {k:Nat} (h:zET l k = 0):0 ≤ (l.getD k default).id ∧ (l.getD k default).id ≤ 65535 ∧ zD0 l k < (l.getD k default).id:=by
 unfold zET at h
 split at h
 · cases h
 · split at h
   · cases h
   · omega
theorem zFd {l:List zZ} {k:Nat} (h:k < l.length):l.getD k default = l[k]:=by rw [List.getD_eq_getElem?_getD,List.getElem?_eq_getElem h];rfl
theorem zHO {l:List zZ} (h:zB1 l = 0):Srt l:=by
 refine List.pairwise_iff_getElem.2 ?_
 have key:∀ d i (hi:i < l.length) (hj:i + d + 1 < l.length),l[i].id < l[i + d + 1].id:=by
   intro d
   induction d with
   | zero =>
     intro i hi hj
     have:=(zHW (zKg h (i + 1) hj)).2.2
     rw [zFd hj] at this
     have e:zD0 l (i + 1) = l[i].id:=by show (l.getD i default).id = _;rw [zFd hi]
     rw [e] at this
     exact this
   | succ d ih =>
     intro i hi hj
     have h1:=ih i hi (by omega)
     have:=(zHW (zKg h (i + (d + 1) + 1) hj)).2.2
     rw [zFd hj] at this
     have e:zD0 l (i + (d + 1) + 1) = l[i + d + 1].id:=by show (l.getD (i + (d + 1)) default).id = _;rw [zFd (by omega)];rfl
     rw [e] at this
     omega
 intro i j hi hj hij
 have:=key (j - i - 1) i hi (by omega)
 simpa [show i + (j - i - 1) + 1 = j by omega] using this
theorem zCF {t tm:Int} {l:List zZ} (h:t < 0 ∨ 4294967295 < t ∨ tm < -2305843009213693952 ∨ 2305843009213693952 < tm):zAE t tm l = 3:=by unfold zAE;rw [if_pos h]
theorem zCM {t tm:Int} {l:List zZ} (h:¬ (t < 0 ∨ 4294967295 < t ∨ tm < -2305843009213693952 ∨ 2305843009213693952 < tm)) (h2:64 < l.length):zAE t tm l = 4:=by unfold zAE;rw [if_neg h,if_pos h2]
theorem zCG {t tm:Int} {l:List zZ} (h:¬ (t < 0 ∨ 4294967295 < t ∨ tm < -2305843009213693952 ∨ 2305843009213693952 < tm)) (h2:¬ 64 < l.length):zAE t tm l = zB1 l:=by unfold zAE;rw [if_neg h,if_neg h2]
theorem zC1 {t tm:Int} {l:List zZ} (h:zAE t tm l = 0):0 ≤ t ∧ t ≤ 4294967295 ∧ -2305843009213693952 ≤ tm ∧ tm ≤ 2305843009213693952 ∧ l.length ≤ 64 ∧ zB1 l = 0:=by
 unfold zAE at h
 split at h
 · cases h
 · split at h
   · cases h
   · omega
/-! ### A map of entities -/
def ekv (l:List zZ):List (Int × Value):=l.map fun e=>(e.id,.agg (zBN e).toArray)
def zA9 (k:Int):List zZ → Option zZ
 | []=>none
 | x :: l=>if x.id = k then some x else zA9 k l
def zID (x:zZ):List zZ → List zZ
 | []=>[x]
 | y :: l=>if y.id = x.id then x :: l else y :: zID x l
def zNs (k:Int):List zZ → List zZ
 | []=>[]
 | y :: l=>if y.id = k then l else y :: zNs k l
theorem zN0 (k:Int):∀ l,zHH k (ekv l) = (zA9 k l).map fun e=>.agg (zBN e).toArray
 | []=>rfl
 | x :: l=>by
   show (if x.id = k then some _ else zHH k (ekv l)) = _
   unfold zA9
   split
   · rfl
   · exact zN0 k l
theorem zNx {k:Int} {x:zZ} (hk:x.id = k):∀ l,zNn k (.agg (zBN x).toArray) (ekv l) = ekv (zID x l)
 | []=>by show [(k,_)] = [(x.id,_)];rw [hk]
 | y :: l=>by
   show (if y.id = k then _ :: ekv l else _ :: zNn k _ (ekv l)) = _
   unfold zID
   rw [hk]
   split
   · show _ = (x.id,_) :: ekv l;rw [hk]
   · rw [zNx hk l];rfl
theorem zM1 (k:Int):∀ l,zSK k (ekv l) = ekv (zNs k l)
 | []=>rfl
 | y :: l=>by
   show (if y.id = k then ekv l else _ :: zSK k (ekv l)) = _
   unfold zNs
   split
   · rfl
   · rw [zM1 k l];rfl
theorem zMS (l:List zZ):(ekv l).length = l.length:=by simp [ekv]
def zLj (l:List zZ):Prop:=(l.map (·.id)).Nodup
theorem Srt.uniq {l:List zZ} (h:Srt l):zLj l:=by
 unfold zLj
 rw [List.nodup_iff_pairwise_ne,List.pairwise_map]
 exact h.imp fun h=>by omega
theorem zDp {k:Int}:∀ {l:List zZ},zA9 k l = none ↔ ∀ e ∈ l,e.id ≠ k
 | []=>by simp [zA9]
 | x :: l=>by
   unfold zA9
   split
   · simp_all
   · rename_i h
     rw [zDp]
     simp [h]
theorem zFc {k:Int} {e:zZ}:∀ {l:List zZ},zA9 k l = some e → e ∈ l ∧ e.id = k
 | [],h=>by cases h
 | x :: l,h=>by
   unfold zA9 at h
   split at h
   · rename_i hx
     cases h
     exact ⟨by simp,hx⟩
   · have:=zFc h
     exact ⟨by simp [this.1],this.2⟩
theorem zFU {e:zZ}:∀ {l:List zZ},zLj l → e ∈ l → zA9 e.id l = some e
 | [],_,h=>by cases h
 | x :: l,hu,h=>by
   unfold zLj at hu
   rw [List.map_cons,List.nodup_cons] at hu
   unfold zA9
   rcases List.mem_cons.1 h with h | h
   · rw [h,if_pos rfl]
   · rw [if_neg (fun e':x.id = e.id=>hu.1 (by rw [e'];exact List.mem_map_of_mem h)),zFU hu.2 h]
theorem zLj.perm {l l':List zZ} (h:zLj l) (p:l.Perm l'):zLj l':=(p.map _).nodup_iff.1 h
theorem zRt {k:Int} {l l':List zZ} (hu:zLj l) (p:l.Perm l'):zA9 k l = zA9 k l':=by
 cases h:zA9 k l with
 | none=>exact (zDp.2 fun e he=>zDp.1 h e (p.mem_iff.2 he)).symm
 | some e =>
   obtain ⟨h1,rfl⟩:=zFc h
   exact (zFU (hu.perm p) (p.mem_iff.1 h1)).symm
theorem zDR {k:Int}:∀ {l:List zZ},zLj l → zNs k l = l.filter (fun e=>decide (e.id ≠ k))
 | [],_=>rfl
 | x :: l,hu=>by
   unfold zLj at hu
   rw [List.map_cons,List.nodup_cons] at hu
   unfold zNs
   by_cases h:x.id = k
   · rw [if_pos h,List.filter_cons_of_neg (by simp [h])]
     refine (List.filter_eq_self.2 fun e he=>?_).symm
     simp only [ne_eq,decide_eq_true_eq]
     intro e'
     exact hu.1 (by rw [h,← e'];exact List.mem_map_of_mem he)
   · rw [if_neg h,List.filter_cons_of_pos (by simp [h]),zDR hu.2]
theorem zHq {x:zZ}:∀ {l:List zZ},zLj l → (zID x l).Perm (x :: l.filter (fun e=>decide (e.id ≠ x.id)))
 | [],_=>List.Perm.refl _
 | y :: l,hu=>by
   have hu':=hu
   unfold zLj at hu
   rw [List.map_cons,List.nodup_cons] at hu
   unfold zID
   by_cases h:y.id = x.id
   · rw [if_pos h,← zDR hu',zNs,if_pos h]
   · rw [if_neg h,List.filter_cons_of_pos (by simp [h])]
     exact ((zHq hu.2).cons y).trans (List.Perm.swap _ _ _)
theorem zQc {k:Int} {l l':List zZ} (hu:zLj l) (p:l.Perm l'):(zNs k l).Perm (zNs k l'):=by rw [zDR hu,zDR (hu.perm p)];exact p.filter _
theorem zK1 {x:zZ} {l l':List zZ} (hu:zLj l) (p:l.Perm l'):(zID x l).Perm (x :: l'.filter (fun e=>decide (e.id ≠ x.id))):=(zHq hu).trans ((p.filter _).cons x)
theorem zNe {x:zZ}:∀ {l:List zZ},zA9 x.id l = none → zID x l = l ++ [x]
 | [],_=>rfl
 | y :: l,h=>by
   unfold zA9 at h
   split at h
   · cases h
   · rename_i hy
     unfold zID
     rw [if_neg hy,zNe h]
     rfl
theorem zTU {l:List zZ} (hs:Srt l) {j:Nat} (hj:j < l.length):zID (l.getD j default) (l.take j) = l.take (j + 1):=by
 rw [zNe,zIL hj]
 refine zDp.2 fun e he=>?_
 obtain ⟨i,hi,rfl⟩:=List.mem_iff_getElem.1 he
 rw [zFd hj,List.getElem_take]
 have:=List.pairwise_iff_getElem.1 hs i j (by simp at hi;omega) hj (by simp at hi;omega)
 omega
/-! ### What is made of a snapshot -/
def zFS (r:zAC):zZ:=⟨r.id,r.p0,r.p1,r.p2,r.v0,r.v1,r.v2,r.a,0#8⟩
def apl : List zZ → List zAC → Option (List zZ)
 | was,[]=>some was
 | [],r :: l=>if r.k = 0 then (apl [] l).map (zFS r :: ·) else none
 | x :: was,r :: l =>
   if x.id < r.id then (apl was (r :: l)).map (x :: ·)
   else if x.id = r.id then (if r.k = 0 then none else if r.k = 2 then apl was l else (apl was l).map ((zT x r).1 :: ·))
   else if r.k = 0 then (apl (x :: was) l).map (zFS r :: ·) else none
termination_by a b=>a.length + b.length
theorem zJn (was:List zZ):apl was [] = some was:=by unfold apl;rfl
theorem zWg (r:zAC) (l:List zAC):apl [] (r :: l) = if r.k = 0 then (apl [] l).map (zFS r :: ·) else none:=by rw [apl]
theorem zF0 (x:zZ) (was:List zZ) (r:zAC) (l:List zAC):apl (x :: was) (r :: l) =
 if x.id < r.id then (apl was (r :: l)).map (x :: ·)
 else if x.id = r.id then (if r.k = 0 then none else if r.k = 2 then apl was l else (apl was l).map ((zT x r).1 :: ·))
 else if r.k = 0 then (apl (x :: was) l).map (zFS r :: ·) else none:=by rw [apl]
def zCO (m:List zZ) (r:zAC):Option (List zZ) :=
 match zA9 r.id m with
 | none=>if r.k = 0 then some (zID (zFS r) m) else none
 | some x=>if r.k = 0 then none else if r.k = 2 then some (zNs r.id m) else some (zID (zT x r).1 m)
def zCU (m:List zZ):List zAC → Option (List zZ)
 | []=>some m
 | r :: l=>(zCO m r).bind (zCU · l)
theorem zHh {x:zZ} {r:zAC} (h:zAf r = 0) (hi:r.id = x.id) (h0:r.k ≠ 0) (h2:r.k ≠ 2):(zT x r).1.id = x.id ∧ (zT x r).2 = 0:=by
 by_cases h3:r.k = 3
 · rw [zBk h (by simp [hi,h0,h2]) h3];exact ⟨rfl,rfl⟩
 · rw [zBn h (by simp [hi,h0,h2]) h3];exact ⟨rfl,rfl⟩
theorem zId {out b:List zZ} {x:zZ} (ho:∀ e ∈ out,e.id < x.id) (hb:∀ e ∈ b,x.id < e.id):(out ++ x :: b).filter (fun e=>decide (e.id ≠ x.id)) = out ++ b:=by
 rw [List.filter_append,List.filter_cons_of_neg (by simp),List.filter_eq_self.2 (fun e he=>by have:=ho e he;simp;omega),List.filter_eq_self.2 (fun e he=>by have:=hb e he;simp;omega)]
theorem zMP {l:List zZ} {k:Int} (h:∀ e ∈ l,e.id ≠ k):l.filter (fun e=>decide (e.id ≠ k)) = l:=List.filter_eq_self.2 fun e he=>by simpa using h e he
theorem zUB {out b:List zZ} {x:zZ} (hu:zLj (out ++ x :: b)):zA9 x.id (out ++ x :: b) = some x:=zFU hu (by simp)
theorem Srt.mid {out b:List zZ} {x:zZ} (h:Srt (out ++ x :: b)):(∀ e ∈ out,e.id < x.id) ∧ (∀ e ∈ b,x.id < e.id) ∧ Srt (out ++ b) ∧ (∀ e ∈ out,∀ e' ∈ b,e.id < e'.id):=by
 unfold Srt at h ⊢
 rw [List.pairwise_append] at h ⊢
 obtain ⟨h1,h2,h3⟩:=h
 rw [List.pairwise_cons] at h2
 exact ⟨fun e he=>h3 e he x (by simp),h2.1,⟨h1,h2.2,fun a ha b hb=>h3 a ha b (by simp [hb])⟩,fun a ha b hb=>h3 a ha b (by simp [hb])⟩
theorem Srt.ins {out b:List zZ} {x:zZ} (h:Srt (out ++ b)) (ho:∀ e ∈ out,e.id < x.id) (hb:∀ e ∈ b,x.id < e.id):Srt (out ++ x :: b):=by
 unfold Srt at h ⊢
 rw [List.pairwise_append] at h ⊢
 obtain ⟨h1,h2,h3⟩:=h
 exact ⟨h1,List.pairwise_cons.2 ⟨hb,h2⟩,fun a ha c hc=>by
   rcases List.mem_cons.1 hc with e | e
   · rw [e];exact ho a ha
   · exact h3 a ha c e⟩
def zbI (l:List zAC):Prop:=l.Pairwise (fun x y=>x.id < y.id)
theorem zNL : ∀ (n : Nat) (wi : List zZ) (rs : List zAC), wi.length + rs.length ≤ n → ∀ (out m : List zZ), m.Perm (out ++ wi) → Srt (out ++ wi) → (∀ e ∈ out, ∀ r ∈ rs, e.id < r.id) → zbI rs → (∀ r ∈ rs, zAf r = 0) →
   (apl wi rs = none → zCU m rs = none) ∧ (∀ l,apl wi rs = some l → Srt (out ++ l) ∧ ∃ m',zCU m rs = some m' ∧ m'.Perm (out ++ l)):=by
 intro n
 induction n with
 | zero =>
   intro wi rs hn out m hp hs ho hr hc
   obtain rfl:wi = []:=List.length_eq_zero_iff.1 (by omega)
   obtain rfl:rs = []:=List.length_eq_zero_iff.1 (by omega)
   rw [zJn]
   exact ⟨fun h=>(by cases h),fun l h=>by cases h;exact ⟨hs,m,rfl,hp⟩⟩
 | succ n ih =>
   intro wi rs hn out m hp hs ho hr hc
   cases rs with
   | nil =>
     rw [zJn]
     exact ⟨fun h=>(by cases h),fun l h=>by cases h;exact ⟨hs,m,rfl,hp⟩⟩
   | cons r rs =>
     have hum:zLj m:=hs.uniq.perm hp.symm
     have hr':=List.pairwise_cons.1 hr
     have hc0:=hc r (by simp)
     have hget:zA9 r.id m = zA9 r.id (out ++ wi):=zRt hum hp
     have new : (∀ e ∈ wi, r.id < e.id) → (apl wi (r :: rs) = if r.k = 0 then (apl wi rs).map (zFS r :: ·) else none) →
         (apl wi (r :: rs) = none → zCU m (r :: rs) = none) ∧ (∀ l,apl wi (r :: rs) = some l → Srt (out ++ l) ∧ ∃ m',zCU m (r :: rs) = some m' ∧ m'.Perm (out ++ l)):=by
       intro hw he
       have hng:zA9 r.id m = none:=by
         rw [hget]
         refine zDp.2 fun e hm=>?_
         rcases List.mem_append.1 hm with h | h
         · have:=ho e h r (by simp);omega
         · have:=hw e h;omega
       rw [he]
       by_cases hk:r.k = 0
       · rw [if_pos hk]
         have hstep:zCO m r = some (zID (zFS r) m):=by unfold zCO;rw [hng];exact if_pos hk
         have hp2:(zID (zFS r) m).Perm ((out ++ [zFS r]) ++ wi):=by
           refine (zK1 hum hp).trans ?_
           show (zFS r :: (out ++ wi).filter (fun e=>decide (e.id ≠ r.id))).Perm _
           rw [zMP (by rw [hget] at hng;exact zDp.1 hng)]
           rw [List.append_assoc]
           exact List.perm_middle.symm
         have hs2:Srt ((out ++ [zFS r]) ++ wi):=by
           rw [List.append_assoc]
           exact hs.ins (x:=zFS r) (fun e h=>ho e h r (by simp)) hw
         obtain ⟨i1,i2⟩:=ih wi rs (by simp at hn;omega) _ _ hp2 hs2 (fun e h r' hr2=>by
           rcases List.mem_append.1 h with h | h
           · exact ho e h r' (by simp [hr2])
           · rw [List.mem_singleton.1 h];exact hr'.1 r' hr2) hr'.2 (fun r' h=>hc r' (by simp [h]))
         have hf:zCU m (r :: rs) = zCU (zID (zFS r) m) rs:=by show (zCO m r).bind _ = _;rw [hstep];rfl
         rw [hf]
         refine ⟨fun h=>i1 (by cases ha:apl wi rs with | none=>rfl | some l=>rw [ha] at h;cases h),fun l h=>?_⟩
         cases ha:apl wi rs with
         | none=>rw [ha] at h;cases h
         | some l' =>
           rw [ha] at h
           cases h
           have:=i2 l' ha
           simpa [List.append_assoc] using this
       · rw [if_neg hk]
         have hf:zCU m (r :: rs) = none:=by
           show (zCO m r).bind _ = _
           have:zCO m r = none:=by unfold zCO;rw [hng];exact if_neg hk
           rw [this];rfl
         exact ⟨fun _=>hf,fun l h=>by cases h⟩
     cases wi with
     | nil=>exact new (by simp) (zWg r rs)
     | cons x wi =>
       have hmid:=hs.mid
       by_cases h1:x.id < r.id
       · have he:apl (x :: wi) (r :: rs) = (apl wi (r :: rs)).map (x :: ·):=by rw [zF0,if_pos h1]
         have hs2:Srt ((out ++ [x]) ++ wi):=by rw [List.append_assoc];exact hs
         obtain ⟨i1,i2⟩:=ih wi (r :: rs) (by simp at hn ⊢;omega) (out ++ [x]) m (by rw [List.append_assoc];exact hp) hs2 (fun e h r' hr2=>by
           rcases List.mem_append.1 h with h | h
           · exact ho e h r' hr2
           · rw [List.mem_singleton.1 h]
             rcases List.mem_cons.1 hr2 with e' | e'
             · rw [e'];exact h1
             · have:=hr'.1 r' e';omega) hr hc
         rw [he]
         refine ⟨fun h=>i1 (by cases ha:apl wi (r :: rs) with | none=>rfl | some l=>rw [ha] at h;cases h),fun l h=>?_⟩
         cases ha:apl wi (r :: rs) with
         | none=>rw [ha] at h;cases h
         | some l' =>
           rw [ha] at h
           cases h
           have:=i2 l' ha
           simpa [List.append_assoc] using this
       · by_cases h2:x.id = r.id
         · have hg:zA9 r.id m = some x:=by rw [hget,← h2];exact zUB hs.uniq
           have ho':∀ e ∈ out ++ ([]:List zZ),∀ r' ∈ rs,e.id < r'.id:=fun e h r' hr2=>ho e (by simpa using h) r' (by simp [hr2])
           by_cases hk0:r.k = 0
           · have he:apl (x :: wi) (r :: rs) = none:=by rw [zF0,if_neg h1,if_pos h2,if_pos hk0]
             have hf:zCU m (r :: rs) = none:=by
               show (zCO m r).bind _ = _
               have:zCO m r = none:=by unfold zCO;rw [hg];exact if_pos hk0
               rw [this];rfl
             rw [he]
             exact ⟨fun _=>hf,fun l h=>by cases h⟩
           · by_cases hk2:r.k = 2
             · have he:apl (x :: wi) (r :: rs) = apl wi rs:=by rw [zF0,if_neg h1,if_pos h2,if_neg hk0,if_pos hk2]
               have hf:zCU m (r :: rs) = zCU (zNs r.id m) rs:=by
                 show (zCO m r).bind _ = _
                 have:zCO m r = some (zNs r.id m):=by unfold zCO;rw [hg];exact (if_neg hk0).trans (if_pos hk2)
                 rw [this];rfl
               rw [he,hf]
               refine ih wi rs (by simp at hn ⊢;omega) out _ ?_ hmid.2.2.1 (fun e h r' hr2=>ho e h r' (by simp [hr2])) hr'.2 (fun r' h=>hc r' (by simp [h]))
               refine (zQc hum hp).trans ?_
               rw [zDR hs.uniq,← h2,zId hmid.1 hmid.2.1]
             · have hid:=(zHh (x:=x) hc0 h2.symm hk0 hk2).1
               have he:apl (x :: wi) (r :: rs) = (apl wi rs).map ((zT x r).1 :: ·):=by rw [zF0,if_neg h1,if_pos h2,if_neg hk0,if_neg hk2]
               have hf:zCU m (r :: rs) = zCU (zID (zT x r).1 m) rs:=by
                 show (zCO m r).bind _ = _
                 have:zCO m r = some (zID (zT x r).1 m):=by unfold zCO;rw [hg];exact (if_neg hk0).trans (if_neg hk2)
                 rw [this];rfl
               have hp2:(zID (zT x r).1 m).Perm ((out ++ [(zT x r).1]) ++ wi):=by
                 refine (zK1 hum hp).trans ?_
                 rw [hid,zId hmid.1 hmid.2.1,List.append_assoc]
                 exact List.perm_middle.symm
               have hs2:Srt ((out ++ [(zT x r).1]) ++ wi):=by
                 rw [List.append_assoc]
                 exact hmid.2.2.1.ins (by rw [hid];exact hmid.1) (by rw [hid];exact hmid.2.1)
               obtain ⟨i1,i2⟩:=ih wi rs (by simp at hn;omega) _ _ hp2 hs2 (fun e h r' hr2=>by
                 rcases List.mem_append.1 h with h | h
                 · exact ho e h r' (by simp [hr2])
                 · rw [List.mem_singleton.1 h,hid,h2];exact hr'.1 r' hr2) hr'.2 (fun r' h=>hc r' (by simp [h]))
               rw [he,hf]
               refine ⟨fun h=>i1 (by cases ha:apl wi rs with | none=>rfl | some l=>rw [ha] at h;cases h),fun l h=>?_⟩
               cases ha:apl wi rs with
               | none=>rw [ha] at h;cases h
               | some l' =>
                 rw [ha] at h
                 cases h
                 have:=i2 l' ha
                 simpa [List.append_assoc] using this
         · refine new (fun e h=>?_) (by rw [zF0,if_neg h1,if_neg h2])
           rcases List.mem_cons.1 h with e' | e'
           · rw [e'];omega
           · have:=hmid.2.1 e e';omega
theorem zNy {α:Type} (f:α → Int):∀ {l l':List α},l.Perm l' → l.Pairwise (fun x y=>f x ≤ f y) → l'.Pairwise (fun x y=>f x < f y) → l = l'
 | [],l',p,_,_=>(List.nil_perm.1 p).symm
 | x :: l,[],p,_,_=>by simpa using p.length_eq
 | x :: l,y :: l',p,h,h'=>by
   rw [List.pairwise_cons] at h h'
   have e:x = y:=by
     rcases List.mem_cons.1 (p.mem_iff.1 (List.mem_cons_self (a:=x))) with e | e
     · exact e
     · have h1:=h'.1 x e
       rcases List.mem_cons.1 (p.mem_iff.2 (List.mem_cons_self (a:=y))) with e2 | e2
       · exact e2.symm
       · have h2:=h.1 y e2;omega
   subst e
   rw [zNy f (List.Perm.cons_inv p) h.2 h'.2]
end Go.Sx

set_option linter.unusedVariables false
set_option linter.unusedSimpArgs false
namespace Go.Sx
/-! ### What a telling consists of -/
structure Two (a b:List zZ):Prop where
 sa:Srt a
 sb:Srt b
 ra:∀ x ∈ a,0 ≤ x.id ∧ x.id ≤ 65535
 rb:∀ x ∈ b,0 ≤ x.id ∧ x.id ≤ 65535
 wa:∀ x ∈ a,x.wf
 wb:∀ x ∈ b,x.wf
theorem Two.tl {x:zZ} {a b:List zZ} (h:Two (x :: a) b):Two a b:=⟨(List.pairwise_cons.1 h.sa).2,h.sb,fun z hz=>h.ra z (by simp [hz]),h.rb,fun z hz=>h.wa z (by simp [hz]),h.wb⟩
theorem zF8 {L:List zAC} (h:zCW L = 0):zbI L ∧ ∀ r ∈ L,zAf r = 0 ∧ 0 ≤ r.id ∧ r.id ≤ 65535:=by
 have hat:∀ k,k < L.length → zFC L k = 0:=zGY h
 have hg:∀ k (hk:k < L.length),L.getD k default = L[k]:=fun k hk=>by rw [List.getD_eq_getElem?_getD,List.getElem?_eq_getElem hk];rfl
 refine ⟨List.pairwise_iff_getElem.2 ?_,fun r hr=>?_⟩
 · have key : ∀ d i (hi : i < L.length) (hj : i + d + 1 < L.length), L[i].id < L[i + d + 1].id := by
     intro d
     induction d with
     | zero =>
       intro i hi hj
       have:=zC3 (hat (i + 1) hj)
       rw [zCq hi,hg _ hj] at this
       dsimp only at this
       rw [hg _ hi] at this
       exact this.2.2.2
     | succ d ih =>
       intro i hi hj
       have h1:=ih i hi (by omega)
       have:=zC3 (hat (i + (d + 1) + 1) hj)
       rw [zCq (by omega),hg _ hj] at this
       dsimp only at this
       rw [hg _ (by omega)] at this
       have h2:=this.2.2.2
       have e:L[i + (d + 1)].id = L[i + d + 1].id:=rfl
       omega
   intro i j hi hj hij
   have:=key (j - i - 1) i hi (by omega)
   simpa [show i + (j - i - 1) + 1 = j by omega] using this
 · obtain ⟨k,hk,rfl⟩:=List.mem_iff_getElem.1 hr
   have h1:=hat k hk
   have h2:=zC3 h1
   rw [hg k hk] at h2
   refine ⟨?_,h2.1,h2.2.1⟩
   unfold zFC zAz at h1
   rw [hg k hk] at h1
   split at h1
   · omega
   · omega
/-! ### The program's loop -/
end Go.Sx

set_option linter.unusedVariables false
set_option linter.unusedSimpArgs false
namespace Go.Sx
structure zU where
 t:Int
 tm:Int
 l:List zZ
/-! ### Finding -/
def zOB (k:Int):List zZ → Nat
 | []=>0
 | x :: l=>if x.id = k then 0 else zOB k l + 1
def zLk (k:Int) (l:List zZ):Int:=if zOB k l < l.length then ((zOB k l:Nat):Int) else -1
theorem zRp {k:Int}:∀ {l:List zZ} {j:Nat},j < l.length → (∀ i,i < j → (l.getD i default).id ≠ k) → (l.getD j default).id = k → zOB k l = j
 | x :: l,0,_,_,h=>by
   unfold zOB
   exact if_pos h
 | x :: l,j + 1,hj,h1,h2=>by
   have h0:x.id ≠ k:=h1 0 (by omega)
   unfold zOB
   rw [if_neg h0,zRp (l:=l) (j:=j) (by simpa using hj) (fun i hi=>h1 (i + 1) (by omega)) h2]
theorem zK9 {k:Int}:∀ {l:List zZ},(∀ i,i < l.length → (l.getD i default).id ≠ k) → zOB k l = l.length ∧ zA9 k l = none
 | [],_=>⟨rfl,rfl⟩
 | x :: l,h=>by
   have h0:x.id ≠ k:=h 0 (by simp)
   have ih:=zK9 (l:=l) fun i hi=>h (i + 1) (by simpa using hi)
   unfold zOB zA9
   rw [if_neg h0,if_neg h0,ih.1]
   exact ⟨rfl,ih.2⟩
theorem zNq {k:Int}:∀ {l:List zZ},zOB k l < l.length → zA9 k l = some (l.getD (zOB k l) default)
 | [],h=>by simp at h
 | x :: l,h=>by
   unfold zOB at h ⊢
   unfold zA9
   by_cases e:x.id = k
   · rw [if_pos e,if_pos e];rfl
   · rw [if_neg e] at h ⊢
     rw [if_neg e,zNq (by simpa using h)]
     rfl
theorem zRu {k:Int}:∀ {l:List zZ},¬ zOB k l < l.length → zA9 k l = none
 | [],_=>rfl
 | x :: l,h=>by
   unfold zOB at h
   unfold zA9
   by_cases e:x.id = k
   · rw [if_pos e] at h;simp at h
   · rw [if_neg e] at h
     rw [if_neg e]
     exact zRu (by simpa using h)
theorem zRJ {k:Int} {l:List zZ} {j:Nat} (hj:j < l.length) (h:∀ i,i < j → (l.getD i default).id ≠ k) (h2:(l.getD j default).id = k):zLk k l = j:=by
 unfold zLk
 rw [zRp hj h h2,if_pos hj]
theorem zKf {k:Int} {l:List zZ} (h:∀ i,i < l.length → (l.getD i default).id ≠ k):zLk k l = -1:=by
 unfold zLk
 rw [(zK9 h).1,if_neg (by omega)]
theorem zQQ {k:Int} {l:List zZ} (h:zLk k l < 0):zA9 k l = none:=by
 unfold zLk at h
 split at h
 · omega
 · rename_i h2;exact zRu h2
theorem zLs {k:Int} {l:List zZ} (h:¬ zLk k l < 0):(zLk k l).toNat < l.length ∧ zA9 k l = some (l.getD (zLk k l).toNat default):=by
 unfold zLk at h ⊢
 split at h
 · rename_i h2
   rw [if_pos h2]
   exact ⟨by omega,by rw [zNq h2];rfl⟩
 · omega
theorem zT5 {k:Int} {l:List zZ} {j:Nat} (h:∀ i,i < j → (l.getD i default).id ≠ k) (h2:(l.getD j default).id ≠ k):∀ i,i < j + 1 → (l.getD i default).id ≠ k:=by
 intro i hi
 by_cases e:i = j
 · rw [e];exact h2
 · exact h i (by omega)
/-! ### Telling -/
section
variable {at_ atm bt btm : Int} {a b : List zZ}
/-! ### Making -/
variable {gt gtm gb : Int} {rl : List zAC}
def zGI (gb:Int) (a:List zZ):List zZ:=if 0 ≤ gb then a else []
def aM (was:List zZ) (rl:List zAC):Nat:=match apl was rl with | none=>15 | some l=>if 64 < l.length then 4 else 0
def aE (at_ atm:Int) (a:List zZ) (gt gtm gb:Int) (rl:List zAC):Nat :=
 if zAU gt gtm gb rl ≠ 0 then zAU gt gtm gb rl else if 0 ≤ gb ∧ zAE at_ atm a ≠ 0 then zAE at_ atm a else if 0 ≤ gb ∧ at_ ≠ gb then 14 else aM (zGI gb a) rl
def aS (at_ atm:Int) (a:List zZ) (gt gtm gb:Int) (rl:List zAC):zU:=if aE at_ atm a gt gtm gb rl = 0 then ⟨gt,gtm,(apl (zGI gb a) rl).getD []⟩ else ⟨0,0,[]⟩
theorem zYe (h:zAU gt gtm gb rl ≠ 0):aE at_ atm a gt gtm gb rl = zAU gt gtm gb rl:=by unfold aE;rw [if_pos h]
theorem zYf (h:zAU gt gtm gb rl = 0) (h1:0 ≤ gb) (h2:zAE at_ atm a ≠ 0):aE at_ atm a gt gtm gb rl = zAE at_ atm a:=by unfold aE;rw [if_neg (by omega),if_pos ⟨h1,h2⟩]
theorem zYY (h:zAU gt gtm gb rl = 0) (h1:0 ≤ gb) (h2:zAE at_ atm a = 0) (h3:at_ ≠ gb):aE at_ atm a gt gtm gb rl = 14:=by unfold aE;rw [if_neg (by omega),if_neg (by omega),if_pos ⟨h1,h3⟩]
theorem zO4 (h:zAU gt gtm gb rl = 0) (h1:0 ≤ gb → zAE at_ atm a = 0 ∧ at_ = gb):aE at_ atm a gt gtm gb rl = aM (zGI gb a) rl:=by
 unfold aE
 rw [if_neg (by omega),if_neg (fun ⟨h2,h3⟩=>h3 (h1 h2).1),if_neg (fun ⟨h2,h3⟩=>h3 (h1 h2).2)]
theorem zYZ (h:aE at_ atm a gt gtm gb rl ≠ 0):aS at_ atm a gt gtm gb rl = ⟨0,0,[]⟩:=by unfold aS;rw [if_neg h]
theorem zag (h:aE at_ atm a gt gtm gb rl = 0):aS at_ atm a gt gtm gb rl = ⟨gt,gtm,(apl (zGI gb a) rl).getD []⟩:=by unfold aS;rw [if_pos h]
theorem zHo {was:List zZ} (h:apl was rl = none):aM was rl = 15:=by unfold aM;rw [h]
theorem zHX {was l:List zZ} (h:apl was rl = some l) (h2:64 < l.length):aM was rl = 4:=by unfold aM;rw [h];exact if_pos h2
theorem zak {was l:List zZ} (h:apl was rl = some l) (h2:¬ 64 < l.length):aM was rl = 0:=by unfold aM;rw [h];exact if_neg h2
theorem zUr (h:aE at_ atm a gt gtm gb rl = 0):zAU gt gtm gb rl = 0 ∧ (0 ≤ gb → zAE at_ atm a = 0 ∧ at_ = gb) ∧ ∃ l,apl (zGI gb a) rl = some l ∧ l.length ≤ 64:=by
 have h0:zAU gt gtm gb rl = 0:=by
   cases hb:zAU gt gtm gb rl with
   | zero=>rfl
   | succ n=>rw [zYe (by omega)] at h;omega
 have h1:0 ≤ gb → zAE at_ atm a = 0 ∧ at_ = gb:=by
   intro hg
   by_cases e:zAE at_ atm a = 0
   · by_cases e2:at_ = gb
     · exact ⟨e,e2⟩
     · rw [zYY h0 hg e e2] at h;cases h
   · rw [zYf h0 hg e] at h;omega
 refine ⟨h0,h1,?_⟩
 rw [zO4 h0 h1] at h
 unfold aM at h
 cases ha:apl (zGI gb a) rl with
 | none=>rw [ha] at h;cases h
 | some l =>
   rw [ha] at h
   dsimp only at h
   split at h
   · cases h
   · exact ⟨l,rfl,by omega⟩
end
theorem zRb {gb t tm:Int} {a:List zZ} (h:0 ≤ gb → zAE t tm a = 0 ∧ t = gb):Srt (zGI gb a):=by
 unfold zGI
 split
 · rename_i hg;exact zHO (zC1 (h hg).1).2.2.2.2.2
 · exact List.Pairwise.nil
theorem zIC {was mm m':List zZ} {rl:List zAC} {k:Nat} (hk:k < rl.length) (h:zCU was rl = zCU mm (rl.drop k)) (hs:zCO mm (rl.getD k default) = some m'):zCU was rl = zCU m' (rl.drop (k + 1)):=by
 rw [h,List.drop_eq_getElem_cons hk]
 have e:rl.getD k default = rl[k]:=by rw [List.getD_eq_getElem?_getD,List.getElem?_eq_getElem hk];rfl
 rw [e] at hs
 show (zCO mm rl[k]).bind _ = _
 rw [hs]
 rfl
theorem zFy {was mm:List zZ} {rl:List zAC} {k:Nat} (hk:k < rl.length) (h:zCU was rl = zCU mm (rl.drop k)) (hs:zCO mm (rl.getD k default) = none):zCU was rl = none:=by
 rw [h,List.drop_eq_getElem_cons hk]
 have e:rl.getD k default = rl[k]:=by rw [List.getD_eq_getElem?_getD,List.getElem?_eq_getElem hk];rfl
 rw [e] at hs
 show (zCO mm rl[k]).bind _ = _
 rw [hs]
 rfl
theorem zE3 {was mm:List zZ} {rl:List zAC} {k:Nat} (hk:rl.length ≤ k) (h:zCU was rl = zCU mm (rl.drop k)):zCU was rl = some mm:=by
 rw [h,List.drop_of_length_le hk]
 rfl
theorem zES {m:List zZ} {r:zAC} (h:((zA9 r.id m).isSome == (r.k == 0)) = true):zCO m r = none:=by
 unfold zCO
 cases hg:zA9 r.id m with
 | none =>
   rw [hg] at h
   have:r.k ≠ 0:=by simpa using h
   exact if_neg this
 | some x =>
   rw [hg] at h
   have:r.k = 0:=by simpa using h
   exact if_pos this
theorem zQF {m:List zZ} {r:zAC} (h:((zA9 r.id m).isSome == (r.k == 0)) = false) (h2:(zA9 r.id m).isSome = false):zCO m r = some (zID (zFS r) m):=by
 rw [h2] at h
 have:r.k = 0:=by simpa using h
 unfold zCO
 rw [show zA9 r.id m = none by cases h:zA9 r.id m <;> simp_all]
 exact if_pos this
theorem zX5 {m:List zZ} {r:zAC} {x:zZ} (h:((zA9 r.id m).isSome == (r.k == 0)) = false) (hx:zA9 r.id m = some x):r.k ≠ 0:=by
 rw [hx] at h
 simpa using h
theorem zQq {m:List zZ} {r:zAC} {x:zZ} (hx:zA9 r.id m = some x) (h2:r.k = 2):zCO m r = some (zNs r.id m):=by
 unfold zCO
 rw [hx]
 exact (if_neg (by omega)).trans (if_pos h2)
theorem zPp {m:List zZ} {r:zAC} {x:zZ} (hx:zA9 r.id m = some x) (h0:r.k ≠ 0) (h2:r.k ≠ 2):zCO m r = some (zID (zT x r).1 m):=by
 unfold zCO
 rw [hx]
 exact (if_neg h0).trans (if_neg h2)
theorem zS5 {l:List zAC} {k:Nat} (h:k < l.length):l.getD k default = l[k]:=by rw [List.getD_eq_getElem?_getD,List.getElem?_eq_getElem h];rfl
theorem zaP {m:List zZ} {rl:List zAC} {k:Nat} {x:zZ} (hr:zCW rl = 0) (hk:k < rl.length) (hx:zA9 (rl.getD k default).id m = some x) (h0:(rl.getD k default).k ≠ 0) (h2:(rl.getD k default).k ≠ 2):(zT x (rl.getD k default)).1.id = (rl.getD k default).id:=by
 have hc:zAf (rl.getD k default) = 0:=by rw [zS5 hk];exact ((zF8 hr).2 _ (List.getElem_mem hk)).1
 have hid:=(zFc hx).2
 rw [(zHh hc hid.symm h0 h2).1,hid]
theorem zDu {was:List zZ} {rl:List zAC} (hw:Srt was) (hr:zCW rl = 0) (h:zCU was rl = none):apl was rl = none:=by
 have:=zNL _ was rl (Nat.le_refl _) [] was (List.Perm.refl _) hw (by simp) (zF8 hr).1 (fun r h=>((zF8 hr).2 r h).1)
 cases ha:apl was rl with
 | none=>rfl
 | some l =>
   obtain ⟨_,m',h1,_⟩:=this.2 l ha
   rw [h] at h1
   cases h1
theorem zC9 {was mm:List zZ} {rl:List zAC} (hw:Srt was) (hr:zCW rl = 0) (h:zCU was rl = some mm):∃ l,apl was rl = some l ∧ mm.Perm l ∧ Srt l:=by
 have:=zNL _ was rl (Nat.le_refl _) [] was (List.Perm.refl _) hw (by simp) (zF8 hr).1 (fun r h=>((zF8 hr).2 r h).1)
 cases ha:apl was rl with
 | none=>rw [this.1 ha] at h;cases h
 | some l =>
   obtain ⟨h0,m',h1,h2⟩:=this.2 l ha
   rw [h] at h1
   cases h1
   exact ⟨l,rfl,by simpa using h2,by simpa using h0⟩
theorem zTo {l l':List zZ} (p:l.Perm l') (h:l.Pairwise (fun x y=>x.id ≤ y.id)) (h':Srt l'):l = l':=zNy (fun e:zZ=>e.id) p h h'
end Go.Sx

set_option linter.unusedVariables false
set_option linter.unusedSimpArgs false
namespace Go.Sx
section
variable {at_ atm bt btm : Int} {a b : List zZ}
theorem zNA {gt gtm gb:Int} {rl:List zAC}:((aS at_ atm a gt gtm gb rl).t = gt ∨ (aS at_ atm a gt gtm gb rl).t = 0) ∧ ((aS at_ atm a gt gtm gb rl).tm = gtm ∨ (aS at_ atm a gt gtm gb rl).tm = 0) ∧ (aS at_ atm a gt gtm gb rl).l.length ≤ 64:=by
 by_cases h:aE at_ atm a gt gtm gb rl = 0
 · rw [zag h]
   obtain ⟨_,_,l,hl,hn⟩:=zUr h
   rw [hl]
   simpa using hn
 · rw [zYZ h];simp
end
/-! ### The example -/
abbrev e7 : zZ:=⟨7,0,0,0,0,0,0,5#16,0#8⟩
end Go.Sx
