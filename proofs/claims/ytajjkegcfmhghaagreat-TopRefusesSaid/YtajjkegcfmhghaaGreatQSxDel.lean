import Derived.Test.YtajjkegcfmhghaaGreatQSxRecs
import Derived.Test.YtajjkegcfmhghaaGreatQSxGrams
import Derived.Test.YtajjkegcfmhghaaGreatQSxMap
set_option linter.unusedVariables false
set_option linter.unusedSimpArgs false
namespace Go.Sx
def Srt (l:List zS):Prop:=l.Pairwise (λx y=>x.id<y.id)
def zEf (l:List zS):Nat→Int
 | 0=>-1
 | k+1=>(l.getD k default).id
def zFD (l:List zS) (k:Nat):Nat:=if (l.getD k default).id<0∨65535<(l.getD k default).id then 3 else if (l.getD k default).id≤zEf l k then 10 else 0
def zEN (l:List zS):Nat→Nat
 | 0=>0
 | j+1=>if zEN l j≠0 then zEN l j else zFD l j
def zB2 (l:List zS):Nat:=zEN l l.length
def zV (t tm:Int) (l:List zS):Nat:=if t<0∨4294967295<t∨tm < -2305843009213693952∨2305843009213693952<tm then 3 else if 64<l.length then 4 else zB2 l
theorem zOY {l:List zS} {j:Nat} (h:zEN l j=0) (h2:zFD l j=0):zEN l (j+1)=0:=by unfold zEN;rw [if_neg (by omega),h2]
theorem zTY {l:List zS} {j:Nat} (h:zEN l j=0):zEN l (j+1)=zFD l j:=by unfold zEN;rw [if_neg (by omega)]
theorem zKK {l:List zS} {j e:Nat} (h:zEN l j=e) (he:e≠0):∀ k,zEN l (j+k)=e
 | 0=>h
 | k+1=>by
  have:=zKK h he k
  show (if zEN l (j+k)≠0 then zEN l (j+k) else zFD l (j+k))=e
  rw [if_pos (by omega),this]
theorem zAi {l:List zS} {j:Nat} (hj:j<l.length) (h:zEN l j=0) (he:zFD l j≠0):zB2 l=zFD l j:=by
 have:=zKK (zTY h) he (l.length-(j+1))
 rwa [show j+1+(l.length-(j+1))=l.length by omega] at this
theorem zI0 {l:List zS} {j:Nat} (h:zEN l j=0):∀ k,k<j→zFD l k=0:=by
 induction j with
 | zero=>intro k hk;omega
 | succ j ih =>
  unfold zEN at h
  split at h
  ·omega
  ·intro k hk
   by_cases e:k=j
   ·subst e;exact h
   ·exact ih (by omega) k (by omega)
theorem zBs {l:List zS} {k:Nat} (h:(l.getD k default).id<0∨65535<(l.getD k default).id):zFD l k=3:=by unfold zFD;rw [if_pos h]
theorem zBF {l:List zS} {k:Nat} (h:¬ ((l.getD k default).id<0∨65535<(l.getD k default).id)) (h2:(l.getD k default).id≤zEf l k):zFD l k=10:=by unfold zFD;rw [if_neg h,if_pos h2]
theorem zRw {l:List zS} {k:Nat} (h:¬ ((l.getD k default).id<0∨65535<(l.getD k default).id)) (h2:¬ (l.getD k default).id≤zEf l k):zFD l k=0:=by unfold zFD;rw [if_neg h,if_neg h2]
theorem zGI {l:List zS} {k:Nat} (h:zFD l k=0):0≤(l.getD k default).id∧(l.getD k default).id≤65535∧zEf l k<(l.getD k default).id:=by
 unfold zFD at h
 split at h
 ·cases h
 ·split at h
  ·cases h
  ·omega
theorem zC2 {l:List zS} {k:Nat} (h:k<l.length):l.getD k default=l[k]:=by rw [List.getD_eq_getElem?_getD,List.getElem?_eq_getElem h];rfl
theorem zLE {l:List zS} (h:zB2 l=0):∀ x∈l,0≤x.id∧x.id≤65535:=by
 intro x hx
 obtain ⟨k,hk,rfl⟩:=List.mem_iff_getElem.1 hx
 have:=zGI (zI0 h k hk)
 rw [zC2 hk] at this
 omega
theorem zIO {l:List zS} (h:zB2 l=0):Srt l:=by
 refine List.pairwise_iff_getElem.2 ?_
 have key:∀ d i (hi:i<l.length) (hj:i+d+1<l.length),l[i].id<l[i+d+1].id:=by
  intro d
  induction d with
  | zero =>
   intro i hi hj
   have:=(zGI (zI0 h (i+1) hj)).2.2
   rw [zC2 hj] at this
   have e:zEf l (i+1)=l[i].id:=by show (l.getD i default).id=_;rw [zC2 hi]
   rw [e] at this
   exact this
  | succ d ih =>
   intro i hi hj
   have h1:=ih i hi (by omega)
   have:=(zGI (zI0 h (i+(d+1)+1) hj)).2.2
   rw [zC2 hj] at this
   have e:zEf l (i+(d+1)+1)=l[i+d+1].id:=by show (l.getD (i+(d+1)) default).id=_;rw [zC2 (by omega)];rfl
   rw [e] at this
   omega
 intro i j hi hj hij
 have:=key (j-i-1) i hi (by omega)
 simpa [show i+(j-i-1)+1=j by omega] using this
theorem zYL {l:List zS} (hs:Srt l) (hr:∀ x∈l,0≤x.id∧x.id≤65535):zB2 l=0:=by
 have key:∀ j,j≤l.length→zEN l j=0:=by
  intro j
  induction j with
  | zero=>intro _;rfl
  | succ j ih =>
   intro hj
   have hg:=zC2 (l:=l) (k:=j) (by omega)
   have hm:=hr l[j] (List.getElem_mem (by omega))
   refine zOY (ih (by omega)) (zRw (by rw [hg];omega) ?_)
   rw [hg]
   cases j with
   | zero=>show ¬ l[0].id ≤ -1;omega
   | succ i =>
    have:=List.pairwise_iff_getElem.1 hs i (i+1) (by omega) (by omega) (by omega)
    show ¬ l[i+1].id≤(l.getD i default).id
    rw [zC2 (by omega)]
    omega
 exact key _ (Nat.le_refl _)
theorem zCe {t tm:Int} {l:List zS} (h:t<0∨4294967295<t∨tm < -2305843009213693952∨2305843009213693952<tm):zV t tm l=3:=by unfold zV;rw [if_pos h]
theorem zCT {t tm:Int} {l:List zS} (h:¬ (t<0∨4294967295<t∨tm < -2305843009213693952∨2305843009213693952<tm)) (h2:64<l.length):zV t tm l=4:=by unfold zV;rw [if_neg h,if_pos h2]
theorem zCF {t tm:Int} {l:List zS} (h:¬ (t<0∨4294967295<t∨tm < -2305843009213693952∨2305843009213693952<tm)) (h2:¬ 64<l.length):zV t tm l=zB2 l:=by unfold zV;rw [if_neg h,if_neg h2]
theorem zCa {t tm:Int} {l:List zS} (h:zV t tm l=0):0≤t∧t≤4294967295 ∧ -2305843009213693952≤tm∧tm≤2305843009213693952∧l.length≤64∧zB2 l=0:=by
 unfold zV at h
 split at h
 ·cases h
 ·split at h
  ·cases h
  ·omega
def ekv (l:List zS):List (Int×Value):=l.map λe=>(e.id,.agg (zBJ e).toArray)
def zA2 (k:Int):List zS→Option zS
 | []=>none
 | x::l=>if x.id=k then some x else zA2 k l
def zIr (x:zS):List zS→List zS
 | []=>[x]
 | y::l=>if y.id=x.id then x::l else y::zIr x l
def zGO (k:Int):List zS→List zS
 | []=>[]
 | y::l=>if y.id=k then l else y::zGO k l
theorem zPZ (k:Int):∀ l,zIR k (ekv l)=(zA2 k l).map λe=>.agg (zBJ e).toArray
 | []=>rfl
 | x::l=>by
  show (if x.id=k then some _ else zIR k (ekv l))=_
  unfold zA2
  split
  ·rfl
  ·exact zPZ k l
theorem zPp {k:Int} {x:zS} (hk:x.id=k):∀ l,zOt k (.agg (zBJ x).toArray) (ekv l)=ekv (zIr x l)
 | []=>by show [(k,_)]=[(x.id,_)];rw [hk]
 | y::l=>by
  show (if y.id=k then _::ekv l else _::zOt k _ (ekv l))=_
  unfold zIr
  rw [hk]
  split
  ·show _=(x.id,_)::ekv l;rw [hk]
  ·rw [zPp hk l];rfl
theorem zPW (k:Int):∀ l,zUT k (ekv l)=ekv (zGO k l)
 | []=>rfl
 | y::l=>by
  show (if y.id=k then ekv l else _::zUT k (ekv l))=_
  unfold zGO
  split
  ·rfl
  ·rw [zPW k l];rfl
theorem zNa (l:List zS):(ekv l).length=l.length:=by simp [ekv]
def zNI (l:List zS):Prop:=(l.map (·.id)).Nodup
theorem Srt.uniq {l:List zS} (h:Srt l):zNI l:=by
 unfold zNI
 rw [List.nodup_iff_pairwise_ne,List.pairwise_map]
 exact h.imp λh=>by omega
theorem zDo {k:Int}:∀ {l:List zS},zA2 k l=none↔∀ e∈l,e.id≠k
 | []=>by simp [zA2]
 | x::l=>by
  unfold zA2
  split
  ·simp_all
  ·rename_i h
   rw [zDo]
   simp [h]
theorem zGa {k:Int} {e:zS}:∀ {l:List zS},zA2 k l=some e→e∈l∧e.id=k
 | [],h=>by cases h
 | x::l,h=>by
  unfold zA2 at h
  split at h
  ·rename_i hx
   cases h
   exact ⟨by simp,hx⟩
  ·have:=zGa h
   exact ⟨by simp [this.1],this.2⟩
theorem zF8 {e:zS}:∀ {l:List zS},zNI l→e∈l→zA2 e.id l=some e
 | [],_,h=>by cases h
 | x::l,hu,h=>by
  unfold zNI at hu
  rw [List.map_cons,List.nodup_cons] at hu
  unfold zA2
  rcases List.mem_cons.1 h with h | h
  ·rw [h,if_pos rfl]
  ·rw [if_neg (λe':x.id=e.id=>hu.1 (by rw [e'];exact List.mem_map_of_mem h)),zF8 hu.2 h]
theorem zNI.perm {l l':List zS} (h:zNI l) (p:l.Perm l'):zNI l':=(p.map _).nodup_iff.1 h
theorem zRZ {k:Int} {l l':List zS} (hu:zNI l) (p:l.Perm l'):zA2 k l=zA2 k l':=by
 cases h:zA2 k l with
 | none=>exact (zDo.2 λe he=>zDo.1 h e (p.mem_iff.2 he)).symm
 | some e =>
  obtain ⟨h1,rfl⟩:=zGa h
  exact (zF8 (hu.perm p) (p.mem_iff.1 h1)).symm
theorem zDV {k:Int}:∀ {l:List zS},zNI l→zGO k l=l.filter (λe=>decide (e.id≠k))
 | [],_=>rfl
 | x::l,hu=>by
  unfold zNI at hu
  rw [List.map_cons,List.nodup_cons] at hu
  unfold zGO
  by_cases h:x.id=k
  ·rw [if_pos h,List.filter_cons_of_neg (by simp [h])]
   refine (List.filter_eq_self.2 λe he=>?_).symm
   simp only [ne_eq,decide_eq_true_eq]
   intro e'
   exact hu.1 (by rw [h,← e'];exact List.mem_map_of_mem he)
  ·rw [if_neg h,List.filter_cons_of_pos (by simp [h]),zDV hu.2]
theorem zJD {x:zS}:∀ {l:List zS},zNI l→(zIr x l).Perm (x::l.filter (λe=>decide (e.id≠x.id)))
 | [],_=>List.Perm.refl _
 | y::l,hu=>by
  have hu':=hu
  unfold zNI at hu
  rw [List.map_cons,List.nodup_cons] at hu
  unfold zIr
  by_cases h:y.id=x.id
  ·rw [if_pos h,← zDV hu',zGO,if_pos h]
  ·rw [if_neg h,List.filter_cons_of_pos (by simp [h])]
   exact ((zJD hu.2).cons y).trans (List.Perm.swap _ _ _)
theorem zSf {k:Int} {l l':List zS} (hu:zNI l) (p:l.Perm l'):(zGO k l).Perm (zGO k l'):=by rw [zDV hu,zDV (hu.perm p)];exact p.filter _
theorem zLo {x:zS} {l l':List zS} (hu:zNI l) (p:l.Perm l'):(zIr x l).Perm (x::l'.filter (λe=>decide (e.id≠x.id))):=(zJD hu).trans ((p.filter _).cons x)
theorem zPL {x:zS}:∀ {l:List zS},zA2 x.id l=none→zIr x l=l++[x]
 | [],_=>rfl
 | y::l,h=>by
  unfold zA2 at h
  split at h
  ·cases h
  ·rename_i hy
   unfold zIr
   rw [if_neg hy,zPL h]
   rfl
theorem zVS {l:List zS} (hs:Srt l) {j:Nat} (hj:j<l.length):zIr (l.getD j default) (l.take j)=l.take (j+1):=by
 rw [zPL,zJC hj]
 refine zDo.2 λe he=>?_
 obtain ⟨i,hi,rfl⟩:=List.mem_iff_getElem.1 he
 rw [zC2 hj,List.getElem_take]
 have:=List.pairwise_iff_getElem.1 hs i j (by simp at hi;omega) hj (by simp at hi;omega)
 omega
def zE3 (r:zW):zS:=⟨r.id,r.p0,r.p1,r.p2,r.v0,r.v1,r.v2,r.a,0#8⟩
def zD6 (x:zS):zW:=⟨0,x.id,x.p0,x.p1,x.p2,x.v0,x.v1,x.v2,x.a⟩
def zGD (x:zS):zW:=⟨2,x.id,0,0,0,0,0,0,0#16⟩
def apl : List zS→List zW→Option (List zS)
 | was,[]=>some was
 | [],r::l=>if r.k=0 then (apl [] l).map (zE3 r :: ·) else none
 | x::was,r::l =>
  if x.id<r.id then (apl was (r::l)).map (x :: ·)
  else if x.id=r.id then (if r.k=0 then none else if r.k=2 then apl was l else (apl was l).map ((zU x r).1 :: ·))
  else if r.k=0 then (apl (x::was) l).map (zE3 r :: ·) else none
termination_by a b=>a.length+b.length
theorem zEx (was:List zS):apl was []=some was:=by unfold apl;rfl
theorem zUH (r:zW) (l:List zW):apl [] (r::l)=if r.k=0 then (apl [] l).map (zE3 r :: ·) else none:=by rw [apl]
theorem zDK (x:zS) (was:List zS) (r:zW) (l:List zW):apl (x::was) (r::l) =
 if x.id<r.id then (apl was (r::l)).map (x :: ·)
 else if x.id=r.id then (if r.k=0 then none else if r.k=2 then apl was l else (apl was l).map ((zU x r).1 :: ·))
 else if r.k=0 then (apl (x::was) l).map (zE3 r :: ·) else none:=by rw [apl]
def zCj (m:List zS) (r:zW):Option (List zS) :=
 match zA2 r.id m with
 | none=>if r.k=0 then some (zIr (zE3 r) m) else none
 | some x=>if r.k=0 then none else if r.k=2 then some (zGO r.id m) else some (zIr (zU x r).1 m)
def zCx (m:List zS):List zW→Option (List zS)
 | []=>some m
 | r::l=>(zCj m r).bind (zCx · l)
theorem zGK {x:zS} {r:zW} (h:zAK r=0) (hi:r.id=x.id) (h0:r.k≠0) (h2:r.k≠2):(zU x r).1.id=x.id∧(zU x r).2=0:=by
 by_cases h3:r.k=3
 · rw [zBX h (by simp [hi,h0,h2]) h3];exact ⟨rfl,rfl⟩
 · rw [zBa h (by simp [hi,h0,h2]) h3];exact ⟨rfl,rfl⟩
theorem zJ2 {out b:List zS} {x:zS} (ho:∀ e∈out,e.id<x.id) (hb:∀ e∈b,x.id<e.id):(out++x::b).filter (λe=>decide (e.id≠x.id))=out++b:=by
 rw [List.filter_append,List.filter_cons_of_neg (by simp),List.filter_eq_self.2 (λe he=>by have:=ho e he;simp;omega),List.filter_eq_self.2 (λe he=>by have:=hb e he;simp;omega)]
theorem zNR {l:List zS} {k:Int} (h:∀ e∈l,e.id≠k):l.filter (λe=>decide (e.id≠k))=l:=List.filter_eq_self.2 λe he=>by simpa using h e he
theorem zWB {out b:List zS} {x:zS} (hu:zNI (out++x::b)):zA2 x.id (out++x::b)=some x:=zF8 hu (by simp)
theorem Srt.mid {out b:List zS} {x:zS} (h:Srt (out++x::b)):(∀ e∈out,e.id<x.id)∧(∀ e∈b,x.id<e.id)∧Srt (out++b)∧(∀ e∈out,∀ e'∈b,e.id<e'.id):=by
 unfold Srt at h ⊢
 rw [List.pairwise_append] at h ⊢
 obtain ⟨h1,h2,h3⟩:=h
 rw [List.pairwise_cons] at h2
 exact ⟨λe he=>h3 e he x (by simp),h2.1,⟨h1,h2.2,λa ha b hb=>h3 a ha b (by simp [hb])⟩,λa ha b hb=>h3 a ha b (by simp [hb])⟩
theorem Srt.ins {out b:List zS} {x:zS} (h:Srt (out++b)) (ho:∀ e∈out,e.id<x.id) (hb:∀ e∈b,x.id<e.id):Srt (out++x::b):=by
 unfold Srt at h ⊢
 rw [List.pairwise_append] at h ⊢
 obtain ⟨h1,h2,h3⟩:=h
 exact ⟨h1,List.pairwise_cons.2 ⟨hb,h2⟩,λa ha c hc=>by
  rcases List.mem_cons.1 hc with e | e
  ·rw [e];exact ho a ha
  ·exact h3 a ha c e⟩
def zax (l:List zW):Prop:=l.Pairwise (λx y=>x.id<y.id)
theorem zLA : ∀ (n : Nat) (wi : List zS) (rs : List zW), wi.length + rs.length ≤ n → ∀ (out m : List zS), m.Perm (out ++ wi) → Srt (out ++ wi) → (∀ e ∈ out, ∀ r ∈ rs, e.id < r.id) → zax rs → (∀ r ∈ rs, zAK r = 0) →
   (apl wi rs=none→zCx m rs=none)∧(∀ l,apl wi rs=some l→Srt (out++l)∧∃ m',zCx m rs=some m'∧m'.Perm (out++l)):=by
 intro n
 induction n with
 | zero =>
   intro wi rs hn out m hp hs ho hr hc
   obtain rfl:wi=[]:=List.length_eq_zero_iff.1 (by omega)
   obtain rfl:rs=[]:=List.length_eq_zero_iff.1 (by omega)
   rw [zEx]
   exact ⟨λh=>(by cases h),λl h=>by cases h;exact ⟨hs,m,rfl,hp⟩⟩
 | succ n ih =>
   intro wi rs hn out m hp hs ho hr hc
   cases rs with
   | nil =>
     rw [zEx]
     exact ⟨λh=>(by cases h),λl h=>by cases h;exact ⟨hs,m,rfl,hp⟩⟩
   | cons r rs =>
     have hum:zNI m:=hs.uniq.perm hp.symm
     have hr':=List.pairwise_cons.1 hr
     have hc0:=hc r (by simp)
     have hget:zA2 r.id m=zA2 r.id (out++wi):=zRZ hum hp
     have new : (∀ e ∈ wi, r.id < e.id) → (apl wi (r :: rs) = if r.k = 0 then (apl wi rs).map (zE3 r :: ·) else none) →
         (apl wi (r::rs)=none→zCx m (r::rs)=none)∧(∀ l,apl wi (r::rs)=some l→Srt (out++l)∧∃ m',zCx m (r::rs)=some m'∧m'.Perm (out++l)):=by
       intro hw he
       have hng:zA2 r.id m=none:=by
         rw [hget]
         refine zDo.2 λe hm=>?_
         rcases List.mem_append.1 hm with h | h
         · have:=ho e h r (by simp);omega
         · have:=hw e h;omega
       rw [he]
       by_cases hk:r.k=0
       · rw [if_pos hk]
         have hstep:zCj m r=some (zIr (zE3 r) m):=by unfold zCj;rw [hng];exact if_pos hk
         have hp2:(zIr (zE3 r) m).Perm ((out++[zE3 r])++wi):=by
           refine (zLo hum hp).trans ?_
           show (zE3 r::(out++wi).filter (λe=>decide (e.id≠r.id))).Perm _
           rw [zNR (by rw [hget] at hng;exact zDo.1 hng)]
           rw [List.append_assoc]
           exact List.perm_middle.symm
         have hs2:Srt ((out++[zE3 r])++wi):=by
           rw [List.append_assoc]
           exact hs.ins (x:=zE3 r) (λe h=>ho e h r (by simp)) hw
         obtain ⟨i1,i2⟩:=ih wi rs (by simp at hn;omega) _ _ hp2 hs2 (λe h r' hr2=>by
           rcases List.mem_append.1 h with h | h
           · exact ho e h r' (by simp [hr2])
           · rw [List.mem_singleton.1 h];exact hr'.1 r' hr2) hr'.2 (λr' h=>hc r' (by simp [h]))
         have hf:zCx m (r::rs)=zCx (zIr (zE3 r) m) rs:=by show (zCj m r).bind _=_;rw [hstep];rfl
         rw [hf]
         refine ⟨λh=>i1 (by cases ha:apl wi rs with | none=>rfl | some l=>rw [ha] at h;cases h),λl h=>?_⟩
         cases ha:apl wi rs with
         | none=>rw [ha] at h;cases h
         | some l' =>
           rw [ha] at h
           cases h
           have:=i2 l' ha
           simpa [List.append_assoc] using this
       · rw [if_neg hk]
         have hf:zCx m (r::rs)=none:=by
           show (zCj m r).bind _=_
           have:zCj m r=none:=by unfold zCj;rw [hng];exact if_neg hk
           rw [this];rfl
         exact ⟨λ_=>hf,λl h=>by cases h⟩
     cases wi with
     | nil=>exact new (by simp) (zUH r rs)
     | cons x wi =>
       have hmid:=hs.mid
       by_cases h1:x.id<r.id
       · have he:apl (x::wi) (r::rs)=(apl wi (r::rs)).map (x :: ·):=by rw [zDK,if_pos h1]
         have hs2:Srt ((out++[x])++wi):=by rw [List.append_assoc];exact hs
         obtain ⟨i1,i2⟩:=ih wi (r::rs) (by simp at hn ⊢;omega) (out++[x]) m (by rw [List.append_assoc];exact hp) hs2 (λe h r' hr2=>by
           rcases List.mem_append.1 h with h | h
           · exact ho e h r' hr2
           · rw [List.mem_singleton.1 h]
             rcases List.mem_cons.1 hr2 with e' | e'
             · rw [e'];exact h1
             · have:=hr'.1 r' e';omega) hr hc
         rw [he]
         refine ⟨λh=>i1 (by cases ha:apl wi (r::rs) with | none=>rfl | some l=>rw [ha] at h;cases h),λl h=>?_⟩
         cases ha:apl wi (r::rs) with
         | none=>rw [ha] at h;cases h
         | some l' =>
           rw [ha] at h
           cases h
           have:=i2 l' ha
           simpa [List.append_assoc] using this
       · by_cases h2:x.id=r.id
         · have hg:zA2 r.id m=some x:=by rw [hget,← h2];exact zWB hs.uniq
           have ho':∀ e∈out++([]:List zS),∀ r'∈rs,e.id<r'.id:=λe h r' hr2=>ho e (by simpa using h) r' (by simp [hr2])
           by_cases hk0:r.k=0
           · have he:apl (x::wi) (r::rs)=none:=by rw [zDK,if_neg h1,if_pos h2,if_pos hk0]
             have hf:zCx m (r::rs)=none:=by
               show (zCj m r).bind _=_
               have:zCj m r=none:=by unfold zCj;rw [hg];exact if_pos hk0
               rw [this];rfl
             rw [he]
             exact ⟨λ_=>hf,λl h=>by cases h⟩
           · by_cases hk2:r.k=2
             · have he:apl (x::wi) (r::rs)=apl wi rs:=by rw [zDK,if_neg h1,if_pos h2,if_neg hk0,if_pos hk2]
               have hf:zCx m (r::rs)=zCx (zGO r.id m) rs:=by
                 show (zCj m r).bind _=_
                 have:zCj m r=some (zGO r.id m):=by unfold zCj;rw [hg];exact (if_neg hk0).trans (if_pos hk2)
                 rw [this];rfl
               rw [he,hf]
               refine ih wi rs (by simp at hn ⊢;omega) out _ ?_ hmid.2.2.1 (λe h r' hr2=>ho e h r' (by simp [hr2])) hr'.2 (λr' h=>hc r' (by simp [h]))
               refine (zSf hum hp).trans ?_
               rw [zDV hs.uniq,← h2,zJ2 hmid.1 hmid.2.1]
             · have hid:=(zGK (x:=x) hc0 h2.symm hk0 hk2).1
               have he:apl (x::wi) (r::rs)=(apl wi rs).map ((zU x r).1 :: ·):=by rw [zDK,if_neg h1,if_pos h2,if_neg hk0,if_neg hk2]
               have hf:zCx m (r::rs)=zCx (zIr (zU x r).1 m) rs:=by
                 show (zCj m r).bind _=_
                 have:zCj m r=some (zIr (zU x r).1 m):=by unfold zCj;rw [hg];exact (if_neg hk0).trans (if_neg hk2)
                 rw [this];rfl
               have hp2:(zIr (zU x r).1 m).Perm ((out++[(zU x r).1])++wi):=by
                 refine (zLo hum hp).trans ?_
                 rw [hid,zJ2 hmid.1 hmid.2.1,List.append_assoc]
                 exact List.perm_middle.symm
               have hs2:Srt ((out++[(zU x r).1])++wi):=by
                 rw [List.append_assoc]
                 exact hmid.2.2.1.ins (by rw [hid];exact hmid.1) (by rw [hid];exact hmid.2.1)
               obtain ⟨i1,i2⟩:=ih wi rs (by simp at hn;omega) _ _ hp2 hs2 (λe h r' hr2=>by
                 rcases List.mem_append.1 h with h | h
                 · exact ho e h r' (by simp [hr2])
                 · rw [List.mem_singleton.1 h,hid,h2];exact hr'.1 r' hr2) hr'.2 (λr' h=>hc r' (by simp [h]))
               rw [he,hf]
               refine ⟨λh=>i1 (by cases ha:apl wi rs with | none=>rfl | some l=>rw [ha] at h;cases h),λl h=>?_⟩
               cases ha:apl wi rs with
               | none=>rw [ha] at h;cases h
               | some l' =>
                 rw [ha] at h
                 cases h
                 have:=i2 l' ha
                 simpa [List.append_assoc] using this
         · refine new (λe h=>?_) (by rw [zDK,if_neg h1,if_neg h2])
           rcases List.mem_cons.1 h with e' | e'
           · rw [e'];omega
           · have:=hmid.2.1 e e';omega
theorem zKh {α:Type} (f:α→Int):∀ {l l':List α},l.Perm l'→l.Pairwise (λx y=>f x≤f y)→l'.Pairwise (λx y=>f x<f y)→l=l'
 | [],l',p,_,_=>(List.nil_perm.1 p).symm
 | x::l,[],p,_,_=>by simpa using p.length_eq
 | x::l,y::l',p,h,h'=>by
  rw [List.pairwise_cons] at h h'
  have e:x=y:=by
   rcases List.mem_cons.1 (p.mem_iff.1 (List.mem_cons_self (a:=x))) with e | e
   ·exact e
   ·have h1:=h'.1 x e
    rcases List.mem_cons.1 (p.mem_iff.2 (List.mem_cons_self (a:=y))) with e2 | e2
    ·exact e2.symm
    ·have h2:=h.1 y e2;omega
  subst e
  rw [zKh f (List.Perm.cons_inv p) h.2 h'.2]
def zDE (x y:zS):List zW:=if (zAE x y).2=true then [(zAE x y).1] else []
def mrg : List zS→List zS→Option (List zW)
 | [],[]=>some []
 | x::a,[]=>(mrg a []).map (zGD x :: ·)
 | [],y::b=>if y.g=0#8 then (mrg [] b).map (zD6 y :: ·) else none
 | x::a,y::b =>
  if x.id<y.id then (mrg a (y::b)).map (zGD x :: ·)
  else if y.id<x.id then (if y.g=0#8 then (mrg (x::a) b).map (zD6 y :: ·) else none)
  else if y.g=x.g∨y.g=x.g+1#8 then (mrg a b).map (zDE x y ++ ·) else none
termination_by a b=>a.length+b.length
theorem zO3 : mrg [] []=some []:=by rw [mrg]
theorem zXs (x:zS) (a:List zS):mrg (x::a) []=(mrg a []).map (zGD x :: ·):=by rw [mrg]
theorem zXi (y:zS) (b:List zS):mrg [] (y::b)=if y.g=0#8 then (mrg [] b).map (zD6 y :: ·) else none:=by rw [mrg]
theorem zXR (x:zS) (a:List zS) (y:zS) (b:List zS):mrg (x::a) (y::b) =
 if x.id<y.id then (mrg a (y::b)).map (zGD x :: ·)
 else if y.id<x.id then (if y.g=0#8 then (mrg (x::a) b).map (zD6 y :: ·) else none)
 else if y.g=x.g∨y.g=x.g+1#8 then (mrg a b).map (zDE x y ++ ·) else none:=by rw [mrg]
def zDI (m:List zS) (y:zS):Option (List zW) :=
 match zA2 y.id m with
 | none=>if y.g=0#8 then some [zD6 y] else none
 | some x=>if y.g=x.g∨y.g=x.g+1#8 then some (zDE x y) else none
def zCL (m:List zS):List zS→Option (List zW×List zS)
 | []=>some ([],m)
 | y::b=>(zDI m y).bind λo=>(zCL (zGO y.id m) b).map λs=>(o++s.1,s.2)
theorem zHN {x:zS} {a:List zS}:∀ (b:List zS),(∀ y∈b,y.id≠x.id)→zCL (x::a) b=(zCL a b).map λs=>(s.1,x::s.2)
 | [],_=>rfl
 | y::b,h=>by
  have hy:=h y (by simp)
  have h1:zDI (x::a) y=zDI a y:=by unfold zDI;rw [zA2,if_neg (Ne.symm hy)]
  have h2:zGO y.id (x::a)=x::zGO y.id a:=by rw [zGO,if_neg (Ne.symm hy)]
  show (zDI (x::a) y).bind _=_
  rw [h1,h2]
  show _=Option.map _ ((zDI a y).bind _)
  cases zDI a y with
  | none=>rfl
  | some o =>
   show Option.map _ (zCL (x::zGO y.id a) b)=Option.map _ (Option.map _ _)
   rw [zHN b λz hz=>h z (by simp [hz])]
   cases zCL (zGO y.id a) b<;>rfl
theorem zMg {k:Int}:∀ {l:List zS},(∀ e∈l,e.id≠k)→zGO k l=l
 | [],_=>rfl
 | x::l,h=>by
  unfold zGO
  rw [if_neg (h x (by simp)),zMg λe he=>h e (by simp [he])]
theorem zMq {m b:List zS} {y:zS} (h:∀ e∈m,e.id≠y.id):zCL m (y::b)=if y.g=0#8 then (zCL m b).map λs=>(zD6 y::s.1,s.2) else none:=by
 show (zDI m y).bind _=_
 have:zDI m y=if y.g=0#8 then some [zD6 y] else none:=by unfold zDI;rw [zDo.2 h]
 rw [this,zMg h]
 split<;>rfl
theorem zOL : ∀ (n : Nat) (a b : List zS), a.length + b.length ≤ n → Srt a → Srt b →
   (mrg a b=none→zCL a b=none)∧(∀ L,mrg a b=some L→∃ s,zCL a b=some s∧(s.1++s.2.map zGD).Perm L):=by
 intro n
 induction n with
 | zero =>
   intro a b hn ha hb
   obtain rfl:a=[]:=List.length_eq_zero_iff.1 (by omega)
   obtain rfl:b=[]:=List.length_eq_zero_iff.1 (by omega)
   rw [zO3]
   exact ⟨λh=>(by cases h),λL h=>by cases h;exact ⟨_,rfl,List.Perm.refl _⟩⟩
 | succ n ih =>
   intro a b hn ha hb
   cases a with
   | nil =>
     cases b with
     | nil =>
       rw [zO3]
       exact ⟨λh=>(by cases h),λL h=>by cases h;exact ⟨_,rfl,List.Perm.refl _⟩⟩
     | cons y b =>
       obtain ⟨i1,i2⟩:=ih [] b (by simp at hn ⊢;omega) List.Pairwise.nil (List.pairwise_cons.1 hb).2
       rw [zXi,zMq (by simp)]
       by_cases hg:y.g=0#8
       · rw [if_pos hg,if_pos hg]
         refine ⟨λh=>?_,λL h=>?_⟩
         · cases hm:mrg [] b with
           | none=>rw [i1 hm];rfl
           | some l=>rw [hm] at h;cases h
         · cases hm:mrg [] b with
           | none=>rw [hm] at h;cases h
           | some l =>
             rw [hm] at h
             cases h
             obtain ⟨s,h1,h2⟩:=i2 l hm
             rw [h1]
             exact ⟨_,rfl,h2.cons _⟩
       · rw [if_neg hg,if_neg hg]
         exact ⟨λ_=>rfl,λL h=>by cases h⟩
   | cons x a =>
     have ha':=List.pairwise_cons.1 ha
     cases b with
     | nil =>
       obtain ⟨i1,i2⟩:=ih a [] (by simp at hn ⊢;omega) ha'.2 List.Pairwise.nil
       rw [zXs,zHN [] (by simp)]
       refine ⟨λh=>?_,λL h=>?_⟩
       · cases hm:mrg a [] with
         | none=>rw [i1 hm];rfl
         | some l=>rw [hm] at h;cases h
       · cases hm:mrg a [] with
         | none=>rw [hm] at h;cases h
         | some l =>
           rw [hm] at h
           cases h
           obtain ⟨s,h1,h2⟩:=i2 l hm
           rw [h1]
           exact ⟨_,rfl,List.perm_middle.trans (h2.cons _)⟩
     | cons y b =>
       have hb':=List.pairwise_cons.1 hb
       rw [zXR]
       by_cases h1:x.id<y.id
       · obtain ⟨i1,i2⟩:=ih a (y::b) (by simp at hn ⊢;omega) ha'.2 hb
         rw [if_pos h1,zHN (y::b) (λz hz=>by
           rcases List.mem_cons.1 hz with e | e
           · rw [e];omega
           · have:=hb'.1 z e;omega)]
         refine ⟨λh=>?_,λL h=>?_⟩
         · cases hm:mrg a (y::b) with
           | none=>rw [i1 hm];rfl
           | some l=>rw [hm] at h;cases h
         · cases hm:mrg a (y::b) with
           | none=>rw [hm] at h;cases h
           | some l =>
             rw [hm] at h
             cases h
             obtain ⟨s,h1,h2⟩:=i2 l hm
             rw [h1]
             exact ⟨_,rfl,List.perm_middle.trans (h2.cons _)⟩
       · rw [if_neg h1]
         by_cases h2:y.id<x.id
         · obtain ⟨i1,i2⟩:=ih (x::a) b (by simp at hn ⊢;omega) ha hb'.2
           rw [if_pos h2,zMq (λe he=>by
             rcases List.mem_cons.1 he with e' | e'
             · rw [e'];omega
             · have:=ha'.1 e e';omega)]
           by_cases hg:y.g=0#8
           · rw [if_pos hg,if_pos hg]
             refine ⟨λh=>?_,λL h=>?_⟩
             · cases hm:mrg (x::a) b with
               | none=>rw [i1 hm];rfl
               | some l=>rw [hm] at h;cases h
             · cases hm:mrg (x::a) b with
               | none=>rw [hm] at h;cases h
               | some l =>
                 rw [hm] at h
                 cases h
                 obtain ⟨s,h1,h2⟩:=i2 l hm
                 rw [h1]
                 exact ⟨_,rfl,h2.cons _⟩
           · rw [if_neg hg,if_neg hg]
             exact ⟨λ_=>rfl,λL h=>by cases h⟩
         · have h3:x.id=y.id:=by omega
           obtain ⟨i1,i2⟩:=ih a b (by simp at hn ⊢;omega) ha'.2 hb'.2
           rw [if_neg h2]
           have hf:zCL (x::a) (y::b)=if y.g=x.g∨y.g=x.g+1#8 then (zCL a b).map λs=>(zDE x y++s.1,s.2) else none:=by
             show (zDI (x::a) y).bind _=_
             have e1:zDI (x::a) y=if y.g=x.g∨y.g=x.g+1#8 then some (zDE x y) else none:=by unfold zDI;rw [zA2,if_pos h3]
             rw [e1,zGO,if_pos h3]
             split<;>rfl
           rw [hf]
           by_cases hg:y.g=x.g∨y.g=x.g+1#8
           · rw [if_pos hg,if_pos hg]
             refine ⟨λh=>?_,λL h=>?_⟩
             · cases hm:mrg a b with
               | none=>rw [i1 hm];rfl
               | some l=>rw [hm] at h;cases h
             · cases hm:mrg a b with
               | none=>rw [hm] at h;cases h
               | some l =>
                 rw [hm] at h
                 cases h
                 obtain ⟨s,h1,h2⟩:=i2 l hm
                 rw [h1]
                 refine ⟨_,rfl,?_⟩
                 show ((zDE x y++s.1)++_).Perm _
                 rw [List.append_assoc]
                 exact h2.append_left _
           · rw [if_neg hg,if_neg hg]
             exact ⟨λ_=>rfl,λL h=>by cases h⟩
structure zUe (a b:List zS) (r:zW):Prop where
 chk:zAK r=0
 rng:0≤r.id∧r.id≤65535
 of:(r.k=2∧(∃ x∈a,x.id=r.id)∧∀ y∈b,y.id≠r.id)∨(r.k=0∧(∃ y∈b,y.id=r.id)∧∀ x∈a,x.id≠r.id)∨(r.k≠0∧r.k≠2∧∃ x∈a,∃ y∈b,x.id=r.id∧y.id=r.id∧x≠y)
 wf:r.wf
theorem zTv {x:zS} (h:0≤x.id∧x.id≤65535):zAK (zGD x)=0:=by
 unfold zAK zGD
 dsimp only
 rw [if_neg (by omega),if_neg (by omega),if_neg (by simp [zAm])]
theorem zT3 {x:zS} (h:0≤x.id∧x.id≤65535):zAK (zD6 x)=0:=by
 unfold zAK zD6
 dsimp only
 rw [if_neg (by omega),if_neg (by omega),if_neg (by simp)]
theorem zXG {x:zS} (h:x.wf):(zGD x).wf:=⟨(by show -9223372036854775808≤(2:Int)∧(2:Int)≤9223372036854775807;decide),h.id,(by show -9223372036854775808≤(0:Int)∧(0:Int)≤9223372036854775807;decide),(by show -9223372036854775808≤(0:Int)∧(0:Int)≤9223372036854775807;decide),(by show -9223372036854775808≤(0:Int)∧(0:Int)≤9223372036854775807;decide),(by show -9223372036854775808≤(0:Int)∧(0:Int)≤9223372036854775807;decide),(by show -9223372036854775808≤(0:Int)∧(0:Int)≤9223372036854775807;decide),(by show -9223372036854775808≤(0:Int)∧(0:Int)≤9223372036854775807;decide)⟩
theorem zUX {x:zS} (h:x.wf):(zD6 x).wf:=⟨(by show -9223372036854775808≤(0:Int)∧(0:Int)≤9223372036854775807;decide),h.id,h.p0,h.p1,h.p2,h.v0,h.v1,h.v2⟩
structure Two (a b:List zS):Prop where
 sa:Srt a
 sb:Srt b
 ra:∀ x∈a,0≤x.id∧x.id≤65535
 rb:∀ x∈b,0≤x.id∧x.id≤65535
 wa:∀ x∈a,x.wf
 wb:∀ x∈b,x.wf
theorem Two.tl {x:zS} {a b:List zS} (h:Two (x::a) b):Two a b:=⟨(List.pairwise_cons.1 h.sa).2,h.sb,λz hz=>h.ra z (by simp [hz]),h.rb,λz hz=>h.wa z (by simp [hz]),h.wb⟩
theorem Two.tr {y:zS} {a b:List zS} (h:Two a (y::b)):Two a b:=⟨h.sa,(List.pairwise_cons.1 h.sb).2,h.ra,λz hz=>h.rb z (by simp [hz]),h.wa,λz hz=>h.wb z (by simp [hz])⟩
theorem zWq {x:zS} {a:List zS} {l:List zW} (h:∀ r∈l,x.id<r.id):apl (x::a) l=(apl a l).map (x :: ·):=by
 cases l with
 | nil=>rw [zEx,zEx];rfl
 | cons r l=>rw [zDK,if_pos (h r (by simp))]
theorem zN7 : ∀ (n : Nat) (a b : List zS), a.length + b.length ≤ n → Two a b → ∀ L, mrg a b = some L →
   zax L∧(∀ r∈L,zUe a b r)∧apl a L=some b∧L.length≤a.length+b.length∧(∀ y∈b,(∃ r∈L,r.id=y.id)∨y∈a):=by
 intro n
 induction n with
 | zero =>
   intro a b hn ht L h
   obtain rfl:a=[]:=List.length_eq_zero_iff.1 (by omega)
   obtain rfl:b=[]:=List.length_eq_zero_iff.1 (by omega)
   rw [zO3] at h
   cases h
   exact ⟨List.Pairwise.nil,by simp,zEx _,by simp,by simp⟩
 | succ n ih =>
   intro a b hn ht L h
   have rem:∀ x a',a=x::a'→(∀ y∈b,x.id<y.id)→∀ l,mrg a' b=some l→L=zGD x::l→zax L∧(∀ r∈L,zUe a b r)∧apl a L=some b∧L.length≤a.length+b.length∧(∀ y∈b,(∃ r∈L,r.id=y.id)∨y∈a):=by
     rintro x a rfl hxb l hl rfl
     obtain ⟨j1,j2,j3,j4,j5⟩:=ih a b (by simp at hn ⊢;omega) ht.tl l hl
     have hxa:=(List.pairwise_cons.1 ht.sa).1
     refine ⟨List.pairwise_cons.2 ⟨λr hr=>?_,j1⟩,λr hr=>?_,?_,by simp only [List.length_cons];omega,λy hy=>?_⟩
     · show x.id<r.id
       rcases (j2 r hr).of with ⟨_,⟨z,hz,e⟩,_⟩ | ⟨_,⟨z,hz,e⟩,_⟩ | ⟨_,_,z,hz,_,_,e,_⟩
       · have:=hxa z hz;omega
       · have:=hxb z hz;omega
       · have:=hxa z hz;omega
     · rcases List.mem_cons.1 hr with e | e
       · subst e
         exact ⟨zTv (ht.ra x (by simp)),ht.ra x (by simp),.inl ⟨rfl,⟨x,by simp,rfl⟩,λy hy=>by have:=hxb y hy;show y.id≠x.id;omega⟩,zXG (ht.wa x (by simp))⟩
       · have:=j2 r e
         refine ⟨this.chk,this.rng,?_,this.wf⟩
         rcases this.of with ⟨h1,⟨z,hz,e'⟩,h2⟩ | ⟨h1,⟨z,hz,e'⟩,h2⟩ | ⟨h1,h2,z,hz,h3⟩
         · exact .inl ⟨h1,⟨z,by simp [hz],e'⟩,h2⟩
         · refine .inr (.inl ⟨h1,⟨z,hz,e'⟩,λx' hx'=>?_⟩)
           rcases List.mem_cons.1 hx' with e2 | e2
           · rw [e2];have:=hxb z hz;omega
           · exact h2 x' e2
         · exact .inr (.inr ⟨h1,h2,z,by simp [hz],h3⟩)
     · rw [zDK,if_neg (by show ¬ x.id<x.id;omega),if_pos (by show x.id=x.id;rfl),if_neg (by show ¬ (2:Int)=0;omega),if_pos (by show (2:Int)=2;rfl)]
       exact j3
     · rcases j5 y hy with ⟨r,hr,e⟩ | h5
       · exact .inl ⟨r,by simp [hr],e⟩
       · exact .inr (by simp [h5])
   have put:∀ y b',b=y::b'→(∀ x∈a,y.id<x.id)→y.g=0#8→∀ l,mrg a b'=some l→L=zD6 y::l→zax L∧(∀ r∈L,zUe a b r)∧apl a L=some b∧L.length≤a.length+b.length∧(∀ y∈b,(∃ r∈L,r.id=y.id)∨y∈a):=by
     rintro y b rfl hya hg l hl rfl
     obtain ⟨j1,j2,j3,j4,j5⟩:=ih a b (by simp at hn ⊢;omega) ht.tr l hl
     have hyb:=(List.pairwise_cons.1 ht.sb).1
     have he:zE3 (zD6 y)=y:=by cases y;simp only [zE3,zD6];dsimp only at hg;rw [hg]
     refine ⟨List.pairwise_cons.2 ⟨λr hr=>?_,j1⟩,λr hr=>?_,?_,by simp only [List.length_cons];omega,λz hz=>?_⟩
     · show y.id<r.id
       rcases (j2 r hr).of with ⟨_,⟨z,hz,e⟩,_⟩ | ⟨_,⟨z,hz,e⟩,_⟩ | ⟨_,_,z,hz,_,_,e,_⟩
       · have:=hya z hz;omega
       · have:=hyb z hz;omega
       · have:=hya z hz;omega
     · rcases List.mem_cons.1 hr with e | e
       · subst e
         exact ⟨zT3 (ht.rb y (by simp)),ht.rb y (by simp),.inr (.inl ⟨rfl,⟨y,by simp,rfl⟩,λx hx=>by have:=hya x hx;show x.id≠y.id;omega⟩),zUX (ht.wb y (by simp))⟩
       · have:=j2 r e
         refine ⟨this.chk,this.rng,?_,this.wf⟩
         rcases this.of with ⟨h1,⟨z,hz,e'⟩,h2⟩ | ⟨h1,⟨z,hz,e'⟩,h2⟩ | ⟨h1,h2,z,hz,z',hz',h3⟩
         · refine .inl ⟨h1,⟨z,hz,e'⟩,λx' hx'=>?_⟩
           rcases List.mem_cons.1 hx' with e2 | e2
           · rw [e2];have:=hya z hz;omega
           · exact h2 x' e2
         · exact .inr (.inl ⟨h1,⟨z,by simp [hz],e'⟩,h2⟩)
         · exact .inr (.inr ⟨h1,h2,z,hz,z',by simp [hz'],h3⟩)
     · cases a with
       | nil=>rw [zUH,if_pos (by rfl),j3,he];rfl
       | cons x a =>
         have:=hya x (by simp)
         rw [zDK,if_neg (by show ¬ x.id<y.id;omega),if_neg (by show ¬ x.id=y.id;omega),if_pos (by rfl),j3,he];rfl
     · rcases List.mem_cons.1 hz with e | e
       · rw [e];exact .inl ⟨zD6 y,by simp,rfl⟩
       · rcases j5 z e with ⟨r,hr,e'⟩ | h5
         · exact .inl ⟨r,by simp [hr],e'⟩
         · exact .inr h5
   cases a with
   | nil =>
     cases b with
     | nil =>
       rw [zO3] at h
       cases h
       exact ⟨List.Pairwise.nil,by simp,zEx _,by simp,by simp⟩
     | cons y b =>
       rw [zXi] at h
       by_cases hg:y.g=0#8
       · rw [if_pos hg] at h
         cases hm:mrg [] b with
         | none=>rw [hm] at h;cases h
         | some l=>rw [hm] at h;cases h;exact put y b rfl (by simp) hg l hm rfl
       · rw [if_neg hg] at h;cases h
   | cons x a =>
     cases b with
     | nil =>
       rw [zXs] at h
       cases hm:mrg a [] with
       | none=>rw [hm] at h;cases h
       | some l=>rw [hm] at h;cases h;exact rem x a rfl (by simp) l hm rfl
     | cons y b =>
       have hxa:=(List.pairwise_cons.1 ht.sa).1
       have hyb:=(List.pairwise_cons.1 ht.sb).1
       rw [zXR] at h
       by_cases h1:x.id<y.id
       · rw [if_pos h1] at h
         cases hm:mrg a (y::b) with
         | none=>rw [hm] at h;cases h
         | some l =>
           rw [hm] at h;cases h
           exact rem x a rfl (λz hz=>by
             rcases List.mem_cons.1 hz with e | e
             · rw [e];exact h1
             · have:=hyb z e;omega) l hm rfl
       · rw [if_neg h1] at h
         by_cases h2:y.id<x.id
         · rw [if_pos h2] at h
           by_cases hg:y.g=0#8
           · rw [if_pos hg] at h
             cases hm:mrg (x::a) b with
             | none=>rw [hm] at h;cases h
             | some l =>
               rw [hm] at h;cases h
               exact put y b rfl (λz hz=>by
                 rcases List.mem_cons.1 hz with e | e
                 · rw [e];exact h2
                 · have:=hxa z e;omega) hg l hm rfl
           · rw [if_neg hg] at h;cases h
         · rw [if_neg h2] at h
           have h3:y.id=x.id:=by omega
           by_cases hg:y.g=x.g∨y.g=x.g+1#8
           · rw [if_pos hg] at h
             cases hm:mrg a b with
             | none=>rw [hm] at h;cases h
             | some l =>
               rw [hm] at h
               cases h
               obtain ⟨j1,j2,j3,j4,j5⟩:=ih a b (by simp at hn ⊢;omega) ht.tl.tr l hm
               have hlo:∀ r∈l,x.id<r.id:=λr hr=>by
                 rcases (j2 r hr).of with ⟨_,⟨z,hz,e⟩,_⟩ | ⟨_,⟨z,hz,e⟩,_⟩ | ⟨_,_,z,hz,_,_,e,_⟩
                 · have:=hxa z hz;omega
                 · have:=hyb z hz;omega
                 · have:=hxa z hz;omega
               have hold:∀ r∈l,zUe (x::a) (y::b) r:=λr hr=>by
                 have:=j2 r hr
                 have hx:=hlo r hr
                 refine ⟨this.chk,this.rng,?_,this.wf⟩
                 rcases this.of with ⟨h1,⟨z,hz,e'⟩,h2⟩ | ⟨h1,⟨z,hz,e'⟩,h2⟩ | ⟨h1,h2,z,hz,z',hz',h3'⟩
                 · refine .inl ⟨h1,⟨z,by simp [hz],e'⟩,λx' hx'=>?_⟩
                   rcases List.mem_cons.1 hx' with e2 | e2
                   · rw [e2];omega
                   · exact h2 x' e2
                 · refine .inr (.inl ⟨h1,⟨z,by simp [hz],e'⟩,λx' hx'=>?_⟩)
                   rcases List.mem_cons.1 hx' with e2 | e2
                   · rw [e2];omega
                   · exact h2 x' e2
                 · exact .inr (.inr ⟨h1,h2,z,by simp [hz],z',by simp [hz'],h3'⟩)
               cases hd:(zAE x y).2 with
               | true =>
                 have hst:zDE x y=[(zAE x y).1]:=by unfold zDE;rw [if_pos hd]
                 have hdm:=zQP (ht.wa x (by simp)) (ht.wb y (by simp)) (ht.ra x (by simp)) h3 hg hd
                 rw [hst]
                 refine ⟨List.pairwise_cons.2 ⟨λr hr=>?_,j1⟩,λr hr=>?_,?_,by simp only [List.singleton_append,List.length_cons];omega,λz hz=>?_⟩
                 · rw [hdm.2.2.2.2.2,h3];exact hlo r hr
                 · rcases List.mem_cons.1 hr with e | e
                   · rw [e]
                     refine ⟨hdm.2.1,by rw [hdm.2.2.2.2.2];exact ht.rb y (by simp),.inr (.inr ⟨?_,?_,x,by simp,y,by simp,by rw [hdm.2.2.2.2.2,h3],hdm.2.2.2.2.2.symm,λe'=>?_⟩),zP3 (ht.wb y (by simp))⟩
                     · rcases hdm.2.2.2.2.1 with e' | e'<;>rw [e']<;>decide
                     · rcases hdm.2.2.2.2.1 with e' | e'<;>rw [e']<;>decide
                     · have:=hdm.2.2.1
                       rw [show zJf x y=true from zN0.2 e'] at this
                       cases this
                   · exact hold r e
                 · show apl (x::a) ((zAE x y).1::l)=_
                   rw [zDK,if_neg (by rw [hdm.2.2.2.2.2];omega),if_pos (by rw [hdm.2.2.2.2.2,h3]),if_neg (by rcases hdm.2.2.2.2.1 with e' | e'<;>rw [e']<;>decide),if_neg (by rcases hdm.2.2.2.2.1 with e' | e'<;>rw [e']<;>decide),j3,hdm.1]
                   rfl
                 · rcases List.mem_cons.1 hz with e | e
                   · rw [e];exact .inl ⟨(zAE x y).1,by simp,hdm.2.2.2.2.2⟩
                   · rcases j5 z e with ⟨r,hr,e'⟩ | h5
                     · exact .inl ⟨r,by simp [hr],e'⟩
                     · exact .inr (by simp [h5])
               | false =>
                 have hst:zDE x y=[]:=by unfold zDE;rw [if_neg (by rw [hd];decide)]
                 have hxy:=zQ6 hd
                 rw [hst]
                 show zax l∧_
                 refine ⟨j1,hold,?_,by simp only [List.nil_append,List.length_cons];omega,λz hz=>?_⟩
                 · show apl (x::a) l=_
                   rw [zWq hlo,j3,hxy];rfl
                 · rcases List.mem_cons.1 hz with e | e
                   · rw [e,← hxy];exact .inr (by simp)
                   · rcases j5 z e with ⟨r,hr,e'⟩ | h5
                     · exact .inl ⟨r,by simpa using hr,e'⟩
                     · exact .inr (by simp [h5])
           · rw [if_neg hg] at h;cases h
theorem zFk {L:List zW} (h:zB8 L=0):zax L∧∀ r∈L,zAK r=0∧0≤r.id∧r.id≤65535:=by
 have hat:∀ k,k<L.length→zEr L k=0:=zFb h
 have hg:∀ k (hk:k<L.length),L.getD k default=L[k]:=λk hk=>by rw [List.getD_eq_getElem?_getD,List.getElem?_eq_getElem hk];rfl
 refine ⟨List.pairwise_iff_getElem.2 ?_,λr hr=>?_⟩
 · have key : ∀ d i (hi : i < L.length) (hj : i + d + 1 < L.length), L[i].id < L[i + d + 1].id := by
     intro d
     induction d with
     | zero =>
       intro i hi hj
       have:=zDJ (hat (i+1) hj)
       rw [zC7 hi,hg _ hj] at this
       dsimp only at this
       rw [hg _ hi] at this
       exact this.2.2.2
     | succ d ih =>
       intro i hi hj
       have h1:=ih i hi (by omega)
       have:=zDJ (hat (i+(d+1)+1) hj)
       rw [zC7 (by omega),hg _ hj] at this
       dsimp only at this
       rw [hg _ (by omega)] at this
       have h2:=this.2.2.2
       have e:L[i+(d+1)].id=L[i+d+1].id:=rfl
       omega
   intro i j hi hj hij
   have:=key (j-i-1) i hi (by omega)
   simpa [show i+(j-i-1)+1=j by omega] using this
 · obtain ⟨k,hk,rfl⟩:=List.mem_iff_getElem.1 hr
   have h1:=hat k hk
   have h2:=zDJ h1
   rw [hg k hk] at h2
   refine ⟨?_,h2.1,h2.2.1⟩
   unfold zEr zAt at h1
   rw [hg k hk] at h1
   split at h1
   · omega
   · omega
theorem zc8 (m l:List zS):zCL m l=(zCL m (l.drop 0)).map λs=>(([]:List zW)++s.1,s.2):=by
 rw [List.drop_zero]
 cases zCL m l<;>simp
theorem zJM {m l mm : List zS} {out o : List zW} {j : Nat} (hj : j < l.length) (h : zCL m l = (zCL mm (l.drop j)).map fun s => (out ++ s.1, s.2)) (hs : zDI mm (l.getD j default) = some o) :
   zCL m l=(zCL (zGO (l.getD j default).id mm) (l.drop (j+1))).map λs=>((out++o)++s.1,s.2):=by
 rw [h,List.drop_eq_getElem_cons hj]
 rw [zC2 hj] at hs ⊢
 show Option.map _ ((zDI mm l[j]).bind _)=_
 rw [hs]
 show Option.map _ (Option.map _ (zCL (zGO l[j].id mm) (l.drop (j+1))))=_
 cases zCL (zGO l[j].id mm) (l.drop (j+1))<;>simp
theorem zLR {m l mm:List zS} {out:List zW} {j:Nat} (hj:j<l.length) (h:zCL m l=(zCL mm (l.drop j)).map λs=>(out++s.1,s.2)) (hs:zDI mm (l.getD j default)=none):zCL m l=none:=by
 rw [h,List.drop_eq_getElem_cons hj]
 rw [zC2 hj] at hs
 show Option.map _ ((zDI mm l[j]).bind _)=_
 rw [hs]
 rfl
theorem zUY {m l mm:List zS} {out:List zW} {j:Nat} (hj:l.length≤j) (h:zCL m l=(zCL mm (l.drop j)).map λs=>(out++s.1,s.2)):zCL m l=some (out,mm):=by
 rw [h,List.drop_of_length_le hj]
 simp [zCL]
theorem bvs (X Y:BitVec 8):(X-Y).toNat≤1↔X=Y∨X=Y+1#8:=by
 constructor
 · intro h
   by_cases e:(X-Y).toNat=0
   · left
     have h1:X-Y=0#8:=BitVec.eq_of_toNat_eq (by simpa using e)
     apply BitVec.eq_of_toNat_eq
     have:=congrArg BitVec.toNat h1
     simp only [BitVec.toNat_sub] at this
     have:=X.isLt
     have:=Y.isLt
     simp at *
     omega
   · right
     apply BitVec.eq_of_toNat_eq
     have h1:(X-Y).toNat=1:=by omega
     simp only [BitVec.toNat_sub] at h1
     rw [BitVec.toNat_add]
     have:=X.isLt
     have:=Y.isLt
     simp at *
     omega
 · rintro (rfl | rfl)
   · simp
   · have e : Y + 1#8 - Y = 1#8 := by
       apply BitVec.eq_of_toNat_eq
       simp only [BitVec.toNat_sub,BitVec.toNat_add]
       have:=Y.isLt
       simp
       omega
     rw [e];decide
theorem zVZ {m:List zS} {y:zS} (hn:zA2 y.id m=none) (h:¬ (0:Int)<(((y.g-0#8).toNat:Nat):Int)):zDI m y=some [zD6 y]:=by
 unfold zDI
 rw [hn]
 have:y.g=0#8:=BitVec.eq_of_toNat_eq (by simp at h;simpa using h)
 exact if_pos this
theorem zOS {m:List zS} {y:zS} (hn:zA2 y.id m=none) (h:(0:Int)<(((y.g-0#8).toNat:Nat):Int)):zDI m y=none:=by
 unfold zDI
 rw [hn]
 exact if_neg λe=>by rw [e] at h;simp at h
theorem zOe {m:List zS} {y o:zS} (hn:zA2 y.id m=some o) (h:¬ (1:Int)<(((y.g-o.g).toNat:Nat):Int)):zDI m y=some (zDE o y):=by
 unfold zDI
 rw [hn]
 exact if_pos ((bvs _ _).1 (by omega))
theorem zXC {m:List zS} {y o:zS} (hn:zA2 y.id m=some o) (h:(1:Int)<(((y.g-o.g).toNat:Nat):Int)):zDI m y=none:=by
 unfold zDI
 rw [hn]
 exact if_neg λe=>by have:=(bvs _ _).2 e;omega
theorem zMV (o y:zS):(zDE o y).length≤1:=by unfold zDE;split<;>simp
theorem zTp {o y:zS} (h:(zAE o y).2=true):zDE o y=[(zAE o y).1]:=by unfold zDE;rw [if_pos h]
theorem zTr {o y:zS} (h:(zAE o y).2=false):zDE o y=[]:=by unfold zDE;rw [if_neg (by rw [h];decide)]
theorem zIH (k:Int):∀ l,(zGO k l).length≤l.length
 | []=>Nat.le_refl _
 | x::l=>by
  unfold zGO
  split
  ·simp
  ·have:=zIH k l;simp;omega
def mL (m l:List zS):List zW:=(mrg m l).getD []
def mE (m l:List zS):Nat:=if (mrg m l).isSome=true then 0 else 15
theorem zIh {m l:List zS} (ht:Two m l) (h:zCL m l=none):mE m l=15∧mL m l=[]:=by
 have hf:=zOL _ m l (Nat.le_refl _) ht.sa ht.sb
 cases hm:mrg m l with
 | none=>exact ⟨by unfold mE;rw [hm];rfl,by unfold mL;rw [hm];rfl⟩
 | some L =>
  obtain ⟨s,h1,_⟩:=hf.2 L hm
  rw [h1] at h
  cases h
theorem zTt {m l mm:List zS} {out L:List zW} (ht:Two m l) (h:zCL m l=some (out,mm)) (hp:L.Perm (out++mm.map zGD)) (hs:L.Pairwise (λx y=>x.id≤y.id)):mE m l=0∧mL m l=L:=by
 have hf:=zOL _ m l (Nat.le_refl _) ht.sa ht.sb
 cases hm:mrg m l with
 | none=>rw [hf.1 hm] at h;cases h
 | some L' =>
  obtain ⟨s,h1,h2⟩:=hf.2 L' hm
  rw [h] at h1
  cases h1
  have ha:=(zN7 _ m l (Nat.le_refl _) ht L' hm).1
  exact ⟨by unfold mE;rw [hm];rfl,by unfold mL;rw [hm];exact (zKh (λr:zW=>r.id) (hp.trans h2) hs ha).symm⟩
theorem zbF {m l:List zS} (ht:Two m l):(mL m l).length≤m.length+l.length:=by
 unfold mL
 cases hm:mrg m l with
 | none=>simp
 | some L=>exact (zN7 _ m l (Nat.le_refl _) ht L hm).2.2.2.1
theorem zc2 {m l:List zS} (ht:Two m l):∀ r∈mL m l,r.wf:=by
 unfold mL
 cases hm:mrg m l with
 | none=>simp
 | some L=>exact λr hr=>((zN7 _ m l (Nat.le_refl _) ht L hm).2.1 r hr).wf
theorem zQ3 {l:List zS} (hs:Srt l) (hr:∀ x∈l,0≤x.id∧x.id≤65535) (hw:∀ x∈l,x.wf):Two [] l:=⟨List.Pairwise.nil,hs,by simp,hr,by simp,hw⟩
def zNK (bt btm:Int) (b:List zS):Nat:=if zV bt btm b≠0 then zV bt btm b else mE [] b
structure zAH where
 t:Int
 tm:Int
 l:List zS
structure zdT where
 t:Int
 tm:Int
 b:Int
 l:List zW
def zQc (k:Int):List zS→Nat
 | []=>0
 | x::l=>if x.id=k then 0 else zQc k l+1
def zNL (k:Int) (l:List zS):Int:=if zQc k l<l.length then ((zQc k l:Nat):Int) else -1
theorem zRK {k:Int}:∀ {l:List zS} {j:Nat},j<l.length→(∀ i,i<j→(l.getD i default).id≠k)→(l.getD j default).id=k→zQc k l=j
 | x::l,0,_,_,h=>by
  unfold zQc
  exact if_pos h
 | x::l,j+1,hj,h1,h2=>by
  have h0:x.id≠k:=h1 0 (by omega)
  unfold zQc
  rw [if_neg h0,zRK (l:=l) (j:=j) (by simpa using hj) (λi hi=>h1 (i+1) (by omega)) h2]
theorem zL4 {k:Int}:∀ {l:List zS},(∀ i,i<l.length→(l.getD i default).id≠k)→zQc k l=l.length∧zA2 k l=none
 | [],_=>⟨rfl,rfl⟩
 | x::l,h=>by
  have h0:x.id≠k:=h 0 (by simp)
  have ih:=zL4 (l:=l) λi hi=>h (i+1) (by simpa using hi)
  unfold zQc zA2
  rw [if_neg h0,if_neg h0,ih.1]
  exact ⟨rfl,ih.2⟩
theorem zPl {k:Int}:∀ {l:List zS},zQc k l<l.length→zA2 k l=some (l.getD (zQc k l) default)
 | [],h=>by simp at h
 | x::l,h=>by
  unfold zQc at h ⊢
  unfold zA2
  by_cases e:x.id=k
  ·rw [if_pos e,if_pos e];rfl
  ·rw [if_neg e] at h ⊢
   rw [if_neg e,zPl (by simpa using h)]
   rfl
theorem zRd {k:Int}:∀ {l:List zS},¬ zQc k l<l.length→zA2 k l=none
 | [],_=>rfl
 | x::l,h=>by
  unfold zQc at h
  unfold zA2
  by_cases e:x.id=k
  ·rw [if_pos e] at h;simp at h
  ·rw [if_neg e] at h
   rw [if_neg e]
   exact zRd (by simpa using h)
theorem zR2 {k:Int} {l:List zS} {j:Nat} (hj:j<l.length) (h:∀ i,i<j→(l.getD i default).id≠k) (h2:(l.getD j default).id=k):zNL k l=j:=by
 unfold zNL
 rw [zRK hj h h2,if_pos hj]
theorem zMe {k:Int} {l:List zS} (h:∀ i,i<l.length→(l.getD i default).id≠k):zNL k l = -1:=by
 unfold zNL
 rw [(zL4 h).1,if_neg (by omega)]
theorem zTi {k:Int} {l:List zS} (h:zNL k l<0):zA2 k l=none:=by
 unfold zNL at h
 split at h
 · omega
 · rename_i h2;exact zRd h2
theorem zNo {k:Int} {l:List zS} (h:¬ zNL k l<0):(zNL k l).toNat<l.length∧zA2 k l=some (l.getD (zNL k l).toNat default):=by
 unfold zNL at h ⊢
 split at h
 ·rename_i h2
  rw [if_pos h2]
  exact ⟨by omega,by rw [zPl h2];rfl⟩
 ·omega
theorem zV0 {k:Int} {l:List zS} {j:Nat} (h:∀ i,i<j→(l.getD i default).id≠k) (h2:(l.getD j default).id≠k):∀ i,i<j+1→(l.getD i default).id≠k:=by
 intro i hi
 by_cases e:i=j
 · rw [e];exact h2
 · exact h i (by omega)
def fG (t tm:Int) (l:List zS):zdT:=if zNK t tm l=0 then ⟨t,tm,-1,mL [] l⟩ else ⟨0,0,0,[]⟩
theorem zTL {t tm:Int} {l:List zS} (h:zV t tm l≠0):zNK t tm l=zV t tm l:=by unfold zNK;rw [if_pos h]
theorem zKM {t tm:Int} {l:List zS} (h:zV t tm l=0):zNK t tm l=mE [] l:=by unfold zNK;rw [if_neg (by omega)]
theorem zcz {t tm:Int} {l:List zS} (h:zNK t tm l≠0):fG t tm l=⟨0,0,0,[]⟩:=by unfold fG;rw [if_neg h]
theorem zbX {t tm:Int} {l:List zS} (h:zNK t tm l=0):fG t tm l=⟨t,tm,-1,mL [] l⟩:=by unfold fG;rw [if_pos h]
section
variable {at_ atm bt btm : Int} {a b : List zS}
variable {gt gtm gb : Int} {rl : List zW}
def zFA (gb:Int) (a:List zS):List zS:=if 0≤gb then a else []
def aM (was:List zS) (rl:List zW):Nat:=match apl was rl with | none=>15 | some l=>if 64<l.length then 4 else 0
def aE (at_ atm:Int) (a:List zS) (gt gtm gb:Int) (rl:List zW):Nat :=
 if zAV gt gtm gb rl≠0 then zAV gt gtm gb rl else if 0≤gb∧zV at_ atm a≠0 then zV at_ atm a else if 0≤gb∧at_≠gb then 14 else aM (zFA gb a) rl
def aS (at_ atm:Int) (a:List zS) (gt gtm gb:Int) (rl:List zW):zAH:=if aE at_ atm a gt gtm gb rl=0 then ⟨gt,gtm,(apl (zFA gb a) rl).getD []⟩ else ⟨0,0,[]⟩
theorem zay (h:zAV gt gtm gb rl≠0):aE at_ atm a gt gtm gb rl=zAV gt gtm gb rl:=by unfold aE;rw [if_pos h]
theorem za0 (h:zAV gt gtm gb rl=0) (h1:0≤gb) (h2:zV at_ atm a≠0):aE at_ atm a gt gtm gb rl=zV at_ atm a:=by unfold aE;rw [if_neg (by omega),if_pos ⟨h1,h2⟩]
theorem zau (h:zAV gt gtm gb rl=0) (h1:0≤gb) (h2:zV at_ atm a=0) (h3:at_≠gb):aE at_ atm a gt gtm gb rl=14:=by unfold aE;rw [if_neg (by omega),if_neg (by omega),if_pos ⟨h1,h3⟩]
theorem zQu (h:zAV gt gtm gb rl=0) (h1:0≤gb→zV at_ atm a=0∧at_=gb):aE at_ atm a gt gtm gb rl=aM (zFA gb a) rl:=by
 unfold aE
 rw [if_neg (by omega),if_neg (λ⟨h2,h3⟩=>h3 (h1 h2).1),if_neg (λ⟨h2,h3⟩=>h3 (h1 h2).2)]
theorem zas (h:aE at_ atm a gt gtm gb rl≠0):aS at_ atm a gt gtm gb rl=⟨0,0,[]⟩:=by unfold aS;rw [if_neg h]
theorem zcx (h:aE at_ atm a gt gtm gb rl=0):aS at_ atm a gt gtm gb rl=⟨gt,gtm,(apl (zFA gb a) rl).getD []⟩:=by unfold aS;rw [if_pos h]
theorem zJV {was:List zS} (h:apl was rl=none):aM was rl=15:=by unfold aM;rw [h]
theorem zIe {was l:List zS} (h:apl was rl=some l) (h2:64<l.length):aM was rl=4:=by unfold aM;rw [h];exact if_pos h2
theorem zdV {was l:List zS} (h:apl was rl=some l) (h2:¬ 64<l.length):aM was rl=0:=by unfold aM;rw [h];exact if_neg h2
theorem zPM (h:aE at_ atm a gt gtm gb rl=0):zAV gt gtm gb rl=0∧(0≤gb→zV at_ atm a=0∧at_=gb)∧∃ l,apl (zFA gb a) rl=some l∧l.length≤64:=by
 have h0:zAV gt gtm gb rl=0:=by
  cases hb:zAV gt gtm gb rl with
  | zero=>rfl
  | succ n=>rw [zay (by omega)] at h;omega
 have h1:0≤gb→zV at_ atm a=0∧at_=gb:=by
  intro hg
  by_cases e:zV at_ atm a=0
  ·by_cases e2:at_=gb
   ·exact ⟨e,e2⟩
   ·rw [zau h0 hg e e2] at h;cases h
  ·rw [za0 h0 hg e] at h;omega
 refine ⟨h0,h1,?_⟩
 rw [zQu h0 h1] at h
 unfold aM at h
 cases ha:apl (zFA gb a) rl with
 | none=>rw [ha] at h;cases h
 | some l =>
  rw [ha] at h
  dsimp only at h
  split at h
  ·cases h
  ·exact ⟨l,rfl,by omega⟩
end
theorem zML {gb t tm:Int} {a:List zS} (h:0≤gb→zV t tm a=0∧t=gb):Srt (zFA gb a):=by
 unfold zFA
 split
 · rename_i hg;exact zIO (zCa (h hg).1).2.2.2.2.2
 · exact List.Pairwise.nil
theorem zI8 {was mm m':List zS} {rl:List zW} {k:Nat} (hk:k<rl.length) (h:zCx was rl=zCx mm (rl.drop k)) (hs:zCj mm (rl.getD k default)=some m'):zCx was rl=zCx m' (rl.drop (k+1)):=by
 rw [h,List.drop_eq_getElem_cons hk]
 have e:rl.getD k default=rl[k]:=by rw [List.getD_eq_getElem?_getD,List.getElem?_eq_getElem hk];rfl
 rw [e] at hs
 show (zCj mm rl[k]).bind _=_
 rw [hs]
 rfl
theorem zG1 {was mm:List zS} {rl:List zW} {k:Nat} (hk:k<rl.length) (h:zCx was rl=zCx mm (rl.drop k)) (hs:zCj mm (rl.getD k default)=none):zCx was rl=none:=by
 rw [h,List.drop_eq_getElem_cons hk]
 have e:rl.getD k default=rl[k]:=by rw [List.getD_eq_getElem?_getD,List.getElem?_eq_getElem hk];rfl
 rw [e] at hs
 show (zCj mm rl[k]).bind _=_
 rw [hs]
 rfl
theorem zFr {was mm:List zS} {rl:List zW} {k:Nat} (hk:rl.length≤k) (h:zCx was rl=zCx mm (rl.drop k)):zCx was rl=some mm:=by
 rw [h,List.drop_of_length_le hk]
 rfl
theorem zE0 {m:List zS} {r:zW} (h:((zA2 r.id m).isSome==(r.k==0))=true):zCj m r=none:=by
 unfold zCj
 cases hg:zA2 r.id m with
 | none =>
  rw [hg] at h
  have:r.k≠0:=by simpa using h
  exact if_neg this
 | some x =>
  rw [hg] at h
  have:r.k=0:=by simpa using h
  exact if_pos this
theorem zSO {m:List zS} {r:zW} (h:((zA2 r.id m).isSome==(r.k==0))=false) (h2:(zA2 r.id m).isSome=false):zCj m r=some (zIr (zE3 r) m):=by
 rw [h2] at h
 have:r.k=0:=by simpa using h
 unfold zCj
 rw [show zA2 r.id m=none by cases h:zA2 r.id m<;>simp_all]
 exact if_pos this
theorem zYj {m:List zS} {r:zW} {x:zS} (h:((zA2 r.id m).isSome==(r.k==0))=false) (hx:zA2 r.id m=some x):r.k≠0:=by
 rw [hx] at h
 simpa using h
theorem zRQ {m:List zS} {r:zW} {x:zS} (hx:zA2 r.id m=some x) (h2:r.k=2):zCj m r=some (zGO r.id m):=by
 unfold zCj
 rw [hx]
 exact (if_neg (by omega)).trans (if_pos h2)
theorem zTM {m:List zS} {r:zW} {x:zS} (hx:zA2 r.id m=some x) (h0:r.k≠0) (h2:r.k≠2):zCj m r=some (zIr (zU x r).1 m):=by
 unfold zCj
 rw [hx]
 exact (if_neg h0).trans (if_neg h2)
theorem zVD {l:List zW} {k:Nat} (h:k<l.length):l.getD k default=l[k]:=by rw [List.getD_eq_getElem?_getD,List.getElem?_eq_getElem h];rfl
theorem zbA {m:List zS} {rl:List zW} {k:Nat} {x:zS} (hr:zB8 rl=0) (hk:k<rl.length) (hx:zA2 (rl.getD k default).id m=some x) (h0:(rl.getD k default).k≠0) (h2:(rl.getD k default).k≠2):(zU x (rl.getD k default)).1.id=(rl.getD k default).id:=by
 have hc:zAK (rl.getD k default)=0:=by rw [zVD hk];exact ((zFk hr).2 _ (List.getElem_mem hk)).1
 have hid:=(zGa hx).2
 rw [(zGK hc hid.symm h0 h2).1,hid]
theorem zEQ {was:List zS} {rl:List zW} (hw:Srt was) (hr:zB8 rl=0) (h:zCx was rl=none):apl was rl=none:=by
 have:=zLA _ was rl (Nat.le_refl _) [] was (List.Perm.refl _) hw (by simp) (zFk hr).1 (λr h=>((zFk hr).2 r h).1)
 cases ha:apl was rl with
 | none=>rfl
 | some l =>
  obtain ⟨_,m',h1,_⟩:=this.2 l ha
  rw [h] at h1
  cases h1
theorem zDP {was mm:List zS} {rl:List zW} (hw:Srt was) (hr:zB8 rl=0) (h:zCx was rl=some mm):∃ l,apl was rl=some l∧mm.Perm l∧Srt l:=by
 have:=zLA _ was rl (Nat.le_refl _) [] was (List.Perm.refl _) hw (by simp) (zFk hr).1 (λr h=>((zFk hr).2 r h).1)
 cases ha:apl was rl with
 | none=>rw [this.1 ha] at h;cases h
 | some l =>
  obtain ⟨h0,m',h1,h2⟩:=this.2 l ha
  rw [h] at h1
  cases h1
  exact ⟨l,rfl,by simpa using h2,by simpa using h0⟩
theorem zWp {l l':List zS} (p:l.Perm l') (h:l.Pairwise (λx y=>x.id≤y.id)) (h':Srt l'):l=l':=zKh (λe:zS=>e.id) p h h'
section
variable {at_ atm bt btm : Int} {a b : List zS}
theorem zWd (h:zNK bt btm b=0) (hwb:∀ x∈b,x.wf):zV bt btm b=0∧mE [] b=0∧Two [] b:=by
 have h1:zV bt btm b=0:=by
  cases hs:zV bt btm b with
  | zero=>rfl
  | succ n=>rw [zTL (by omega)] at h;omega
 have p:=zCa h1
 exact ⟨h1,by rw [← zKM h1];exact h,zQ3 (zIO p.2.2.2.2.2) (zLE p.2.2.2.2.2) hwb⟩
theorem zYZ (hwb:∀ x∈b,x.wf):∀ r∈(fG bt btm b).l,r.wf:=by
 by_cases h:zNK bt btm b=0
 ·rw [zbX h]
  exact zc2 (zWd h hwb).2.2
 ·rw [zcz h];simp
theorem zck : ((fG bt btm b).t=bt∨(fG bt btm b).t=0)∧((fG bt btm b).tm=btm∨(fG bt btm b).tm=0)∧((fG bt btm b).b = -1∨(fG bt btm b).b=0):=by
 by_cases h:zNK bt btm b=0
 · rw [zbX h];simp
 · rw [zcz h];simp
theorem zPT {gt gtm gb:Int} {rl:List zW}:((aS at_ atm a gt gtm gb rl).t=gt∨(aS at_ atm a gt gtm gb rl).t=0)∧((aS at_ atm a gt gtm gb rl).tm=gtm∨(aS at_ atm a gt gtm gb rl).tm=0)∧(aS at_ atm a gt gtm gb rl).l.length≤64:=by
 by_cases h:aE at_ atm a gt gtm gb rl=0
 ·rw [zcx h]
  obtain ⟨_,_,l,hl,hn⟩:=zPM h
  rw [hl]
  simpa using hn
 ·rw [zas h];simp
end
abbrev e7 : zS:=⟨7,0,0,0,0,0,0,5#16,0#8⟩
end Go.Sx
