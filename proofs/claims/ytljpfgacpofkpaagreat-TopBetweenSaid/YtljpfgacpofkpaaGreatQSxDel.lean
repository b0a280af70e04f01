import Derived.Test.YtljpfgacpofkpaaGreatQSxRecs
import Derived.Test.YtljpfgacpofkpaaGreatQSxGrams
import Derived.Test.YtljpfgacpofkpaaGreatQSxMap
set_option linter.unusedVariables false
set_option linter.unusedSimpArgs false
namespace Go.Sx
def Srt (l:List zS):Prop:=l.Pairwise (λx y=>x.id<y.id)
def zEG (l:List zS):Nat→Int
 | 0=>-1
 | k+1=>(l.getD k default).id
def zEm (l:List zS) (k:Nat):Nat:=if (l.getD k default).id<0∨65535<(l.getD k default).id then 3 else if (l.getD k default).id≤zEG l k then 10 else 0
def zET (l:List zS):Nat→Nat
 | 0=>0
 | j+1=>if zET l j≠0 then zET l j else zEm l j
def zB3 (l:List zS):Nat:=zET l l.length
def zAB (t tm:Int) (l:List zS):Nat:=if t<0∨4294967295<t∨tm < -2305843009213693952∨2305843009213693952<tm then 3 else if 64<l.length then 4 else zB3 l
theorem zTb {l:List zS} {j:Nat} (h:zET l j=0) (h2:zEm l j=0):zET l (j+1)=0:=by unfold zET;rw [if_neg (by omega),h2]
theorem zSu {l:List zS} {j:Nat} (h:zET l j=0):zET l (j+1)=zEm l j:=by unfold zET;rw [if_neg (by omega)]
theorem zJV {l:List zS} {j e:Nat} (h:zET l j=e) (he:e≠0):∀ k,zET l (j+k)=e
 | 0=>h
 | k+1=>by
  have:=zJV h he k
  show (if zET l (j+k)≠0 then zET l (j+k) else zEm l (j+k))=e
  rw [if_pos (by omega),this]
theorem zAk {l:List zS} {j:Nat} (hj:j<l.length) (h:zET l j=0) (he:zEm l j≠0):zB3 l=zEm l j:=by
 have:=zJV (zSu h) he (l.length-(j+1))
 rwa [show j+1+(l.length-(j+1))=l.length by omega] at this
theorem zIX {l:List zS} {j:Nat} (h:zET l j=0):∀ k,k<j→zEm l k=0:=by
 induction j with
 | zero=>intro k hk;omega
 | succ j ih =>
  unfold zET at h
  split at h
  ·omega
  ·intro k hk
   by_cases e:k=j
   ·subst e;exact h
   ·exact ih (by omega) k (by omega)
theorem zBl {l:List zS} {k:Nat} (h:(l.getD k default).id<0∨65535<(l.getD k default).id):zEm l k=3:=by unfold zEm;rw [if_pos h]
theorem zBE {l:List zS} {k:Nat} (h:¬ ((l.getD k default).id<0∨65535<(l.getD k default).id)) (h2:(l.getD k default).id≤zEG l k):zEm l k=10:=by unfold zEm;rw [if_neg h,if_pos h2]
theorem zXp {l:List zS} {k:Nat} (h:¬ ((l.getD k default).id<0∨65535<(l.getD k default).id)) (h2:¬ (l.getD k default).id≤zEG l k):zEm l k=0:=by unfold zEm;rw [if_neg h,if_neg h2]
theorem zFq {l:List zS} {k:Nat} (h:zEm l k=0):0≤(l.getD k default).id∧(l.getD k default).id≤65535∧zEG l k<(l.getD k default).id:=by
 unfold zEm at h
 split at h
 ·cases h
 ·split at h
  ·cases h
  ·omega
theorem zDh {l:List zS} {k:Nat} (h:k<l.length):l.getD k default=l[k]:=by rw [List.getD_eq_getElem?_getD,List.getElem?_eq_getElem h];rfl
theorem zOR {l:List zS} (h:zB3 l=0):∀ x∈l,0≤x.id∧x.id≤65535:=by
 intro x hx
 obtain ⟨k,hk,rfl⟩:=List.mem_iff_getElem.1 hx
 have:=zFq (zIX h k hk)
 rw [zDh hk] at this
 omega
theorem zGB {l:List zS} (h:zB3 l=0):Srt l:=by
 refine List.pairwise_iff_getElem.2 ?_
 have key:∀ d i (hi:i<l.length) (hj:i+d+1<l.length),l[i].id<l[i+d+1].id:=by
  intro d
  induction d with
  | zero =>
   intro i hi hj
   have:=(zFq (zIX h (i+1) hj)).2.2
   rw [zDh hj] at this
   have e:zEG l (i+1)=l[i].id:=by show (l.getD i default).id=_;rw [zDh hi]
   rw [e] at this
   exact this
  | succ d ih =>
   intro i hi hj
   have h1:=ih i hi (by omega)
   have:=(zFq (zIX h (i+(d+1)+1) hj)).2.2
   rw [zDh hj] at this
   have e:zEG l (i+(d+1)+1)=l[i+d+1].id:=by show (l.getD (i+(d+1)) default).id=_;rw [zDh (by omega)];rfl
   rw [e] at this
   omega
 intro i j hi hj hij
 have:=key (j-i-1) i hi (by omega)
 simpa [show i+(j-i-1)+1=j by omega] using this
theorem zCU {t tm:Int} {l:List zS} (h:t<0∨4294967295<t∨tm < -2305843009213693952∨2305843009213693952<tm):zAB t tm l=3:=by unfold zAB;rw [if_pos h]
theorem zCT {t tm:Int} {l:List zS} (h:¬ (t<0∨4294967295<t∨tm < -2305843009213693952∨2305843009213693952<tm)) (h2:64<l.length):zAB t tm l=4:=by unfold zAB;rw [if_neg h,if_pos h2]
theorem zCQ {t tm:Int} {l:List zS} (h:¬ (t<0∨4294967295<t∨tm < -2305843009213693952∨2305843009213693952<tm)) (h2:¬ 64<l.length):zAB t tm l=zB3 l:=by unfold zAB;rw [if_neg h,if_neg h2]
theorem zCR {t tm:Int} {l:List zS} (h:zAB t tm l=0):0≤t∧t≤4294967295 ∧ -2305843009213693952≤tm∧tm≤2305843009213693952∧l.length≤64∧zB3 l=0:=by
 unfold zAB at h
 split at h
 ·cases h
 ·split at h
  ·cases h
  ·omega
def ekv (l:List zS):List (Int×Value):=l.map λe=>(e.id,.agg (zBI e).toArray)
def zT (k:Int):List zS→Option zS
 | []=>none
 | x::l=>if x.id=k then some x else zT k l
def zIa (x:zS):List zS→List zS
 | []=>[x]
 | y::l=>if y.id=x.id then x::l else y::zIa x l
def zFp (k:Int):List zS→List zS
 | []=>[]
 | y::l=>if y.id=k then l else y::zFp k l
theorem zNt (k:Int):∀ l,zHf k (ekv l)=(zT k l).map λe=>.agg (zBI e).toArray
 | []=>rfl
 | x::l=>by
  show (if x.id=k then some _ else zHf k (ekv l))=_
  unfold zT
  split
  ·rfl
  ·exact zNt k l
theorem zOJ {k:Int} {x:zS} (hk:x.id=k):∀ l,zNr k (.agg (zBI x).toArray) (ekv l)=ekv (zIa x l)
 | []=>by show [(k,_)]=[(x.id,_)];rw [hk]
 | y::l=>by
  show (if y.id=k then _::ekv l else _::zNr k _ (ekv l))=_
  unfold zIa
  rw [hk]
  split
  ·show _=(x.id,_)::ekv l;rw [hk]
  ·rw [zOJ hk l];rfl
theorem zOd (k:Int):∀ l,zTW k (ekv l)=ekv (zFp k l)
 | []=>rfl
 | y::l=>by
  show (if y.id=k then ekv l else _::zTW k (ekv l))=_
  unfold zFp
  split
  ·rfl
  ·rw [zOd k l];rfl
theorem zMn (l:List zS):(ekv l).length=l.length:=by simp [ekv]
def zLm (l:List zS):Prop:=(l.map (·.id)).Nodup
theorem Srt.uniq {l:List zS} (h:Srt l):zLm l:=by
 unfold zLm
 rw [List.nodup_iff_pairwise_ne,List.pairwise_map]
 exact h.imp λh=>by omega
theorem zDP {k:Int}:∀ {l:List zS},zT k l=none↔∀ e∈l,e.id≠k
 | []=>by simp [zT]
 | x::l=>by
  unfold zT
  split
  ·simp_all
  ·rename_i h
   rw [zDP]
   simp [h]
theorem zGV {k:Int} {e:zS}:∀ {l:List zS},zT k l=some e→e∈l∧e.id=k
 | [],h=>by cases h
 | x::l,h=>by
  unfold zT at h
  split at h
  ·rename_i hx
   cases h
   exact ⟨by simp,hx⟩
  ·have:=zGV h
   exact ⟨by simp [this.1],this.2⟩
theorem zEQ {e:zS}:∀ {l:List zS},zLm l→e∈l→zT e.id l=some e
 | [],_,h=>by cases h
 | x::l,hu,h=>by
  unfold zLm at hu
  rw [List.map_cons,List.nodup_cons] at hu
  unfold zT
  rcases List.mem_cons.1 h with h | h
  ·rw [h,if_pos rfl]
  ·rw [if_neg (λe':x.id=e.id=>hu.1 (by rw [e'];exact List.mem_map_of_mem h)),zEQ hu.2 h]
theorem zLm.perm {l l':List zS} (h:zLm l) (p:l.Perm l'):zLm l':=(p.map _).nodup_iff.1 h
theorem zP3 {k:Int} {l l':List zS} (hu:zLm l) (p:l.Perm l'):zT k l=zT k l':=by
 cases h:zT k l with
 | none=>exact (zDP.2 λe he=>zDP.1 h e (p.mem_iff.2 he)).symm
 | some e =>
  obtain ⟨h1,rfl⟩:=zGV h
  exact (zEQ (hu.perm p) (p.mem_iff.1 h1)).symm
theorem zDb {k:Int}:∀ {l:List zS},zLm l→zFp k l=l.filter (λe=>decide (e.id≠k))
 | [],_=>rfl
 | x::l,hu=>by
  unfold zLm at hu
  rw [List.map_cons,List.nodup_cons] at hu
  unfold zFp
  by_cases h:x.id=k
  ·rw [if_pos h,List.filter_cons_of_neg (by simp [h])]
   refine (List.filter_eq_self.2 λe he=>?_).symm
   simp only [ne_eq,decide_eq_true_eq]
   intro e'
   exact hu.1 (by rw [h,← e'];exact List.mem_map_of_mem he)
  ·rw [if_neg h,List.filter_cons_of_pos (by simp [h]),zDb hu.2]
theorem zIE {x:zS}:∀ {l:List zS},zLm l→(zIa x l).Perm (x::l.filter (λe=>decide (e.id≠x.id)))
 | [],_=>List.Perm.refl _
 | y::l,hu=>by
  have hu':=hu
  unfold zLm at hu
  rw [List.map_cons,List.nodup_cons] at hu
  unfold zIa
  by_cases h:y.id=x.id
  ·rw [if_pos h,← zDb hu',zFp,if_pos h]
  ·rw [if_neg h,List.filter_cons_of_pos (by simp [h])]
   exact ((zIE hu.2).cons y).trans (List.Perm.swap _ _ _)
theorem zQk {k:Int} {l l':List zS} (hu:zLm l) (p:l.Perm l'):(zFp k l).Perm (zFp k l'):=by rw [zDb hu,zDb (hu.perm p)];exact p.filter _
theorem zKx {x:zS} {l l':List zS} (hu:zLm l) (p:l.Perm l'):(zIa x l).Perm (x::l'.filter (λe=>decide (e.id≠x.id))):=(zIE hu).trans ((p.filter _).cons x)
theorem zN2 {x:zS}:∀ {l:List zS},zT x.id l=none→zIa x l=l++[x]
 | [],_=>rfl
 | y::l,h=>by
  unfold zT at h
  split at h
  ·cases h
  ·rename_i hy
   unfold zIa
   rw [if_neg hy,zN2 h]
   rfl
theorem zUI {l:List zS} (hs:Srt l) {j:Nat} (hj:j<l.length):zIa (l.getD j default) (l.take j)=l.take (j+1):=by
 rw [zN2,zIJ hj]
 refine zDP.2 λe he=>?_
 obtain ⟨i,hi,rfl⟩:=List.mem_iff_getElem.1 he
 rw [zDh hj,List.getElem_take]
 have:=List.pairwise_iff_getElem.1 hs i j (by simp at hi;omega) hj (by simp at hi;omega)
 omega
def zE8 (r:zY):zS:=⟨r.id,r.p0,r.p1,r.p2,r.v0,r.v1,r.v2,r.a,0#8⟩
def zDq (x:zS):zY:=⟨0,x.id,x.p0,x.p1,x.p2,x.v0,x.v1,x.v2,x.a⟩
def zFl (x:zS):zY:=⟨2,x.id,0,0,0,0,0,0,0#16⟩
def apl : List zS→List zY→Option (List zS)
 | was,[]=>some was
 | [],r::l=>if r.k=0 then (apl [] l).map (zE8 r :: ·) else none
 | x::was,r::l =>
  if x.id<r.id then (apl was (r::l)).map (x :: ·)
  else if x.id=r.id then (if r.k=0 then none else if r.k=2 then apl was l else (apl was l).map ((zU x r).1 :: ·))
  else if r.k=0 then (apl (x::was) l).map (zE8 r :: ·) else none
termination_by a b=>a.length+b.length
theorem zEh (was:List zS):apl was []=some was:=by unfold apl;rfl
theorem zTJ (r:zY) (l:List zY):apl [] (r::l)=if r.k=0 then (apl [] l).map (zE8 r :: ·) else none:=by rw [apl]
theorem zDB (x:zS) (was:List zS) (r:zY) (l:List zY):apl (x::was) (r::l) =
 if x.id<r.id then (apl was (r::l)).map (x :: ·)
 else if x.id=r.id then (if r.k=0 then none else if r.k=2 then apl was l else (apl was l).map ((zU x r).1 :: ·))
 else if r.k=0 then (apl (x::was) l).map (zE8 r :: ·) else none:=by rw [apl]
def zCZ (m:List zS) (r:zY):Option (List zS) :=
 match zT r.id m with
 | none=>if r.k=0 then some (zIa (zE8 r) m) else none
 | some x=>if r.k=0 then none else if r.k=2 then some (zFp r.id m) else some (zIa (zU x r).1 m)
def zCe (m:List zS):List zY→Option (List zS)
 | []=>some m
 | r::l=>(zCZ m r).bind (zCe · l)
theorem zID {x:zS} {r:zY} (h:zAY r=0) (hi:r.id=x.id) (h0:r.k≠0) (h2:r.k≠2):(zU x r).1.id=x.id∧(zU x r).2=0:=by
 by_cases h3:r.k=3
 · rw [zBW h (by simp [hi,h0,h2]) h3];exact ⟨rfl,rfl⟩
 · rw [zBU h (by simp [hi,h0,h2]) h3];exact ⟨rfl,rfl⟩
theorem zJC {out b:List zS} {x:zS} (ho:∀ e∈out,e.id<x.id) (hb:∀ e∈b,x.id<e.id):(out++x::b).filter (λe=>decide (e.id≠x.id))=out++b:=by
 rw [List.filter_append,List.filter_cons_of_neg (by simp),List.filter_eq_self.2 (λe he=>by have:=ho e he;simp;omega),List.filter_eq_self.2 (λe he=>by have:=hb e he;simp;omega)]
theorem zM1 {l:List zS} {k:Int} (h:∀ e∈l,e.id≠k):l.filter (λe=>decide (e.id≠k))=l:=List.filter_eq_self.2 λe he=>by simpa using h e he
theorem zT5 {out b:List zS} {x:zS} (hu:zLm (out++x::b)):zT x.id (out++x::b)=some x:=zEQ hu (by simp)
theorem Srt.mid {out b:List zS} {x:zS} (h:Srt (out++x::b)):(∀ e∈out,e.id<x.id)∧(∀ e∈b,x.id<e.id)∧Srt (out++b)∧(∀ e∈out,∀ e'∈b,e.id<e'.id):=by
 unfold Srt at h ⊢
 rw [List.pairwise_append] at h ⊢
 obtain ⟨h1,h2,h3⟩:=h
 rw [List.pairwise_cons] at h2
 exact ⟨λe he=>h3 e he x (by simp),h2.1,⟨h1,h2.2,λa ha b hb=>h3 a ha b (by simp [hb])⟩,λa ha b hb=>h3 a ha b (by simp [hb])⟩
theorem Srt.ins {out b:List zS} {x:zS} (h:Srt (out++b)) (ho:∀ e∈out,e.id<x.id) (hb:∀ e∈b,x.id<e.id):Srt (out++x::b):=by
 unfold Srt at h ⊢
 rw [List.pairwise_append] at h ⊢
 obtain ⟨h1,h2,h3⟩:=h
 exact ⟨h1,List.pairwise_cons.2 ⟨hb,h2⟩,λa ha c hc=>by
  rcases List.mem_cons.1 hc with e | e
  ·rw [e];exact ho a ha
  ·exact h3 a ha c e⟩
def zZw (l:List zY):Prop:=l.Pairwise (λx y=>x.id<y.id)
theorem zOU : ∀ (n : Nat) (wi : List zS) (rs : List zY), wi.length + rs.length ≤ n → ∀ (out m : List zS), m.Perm (out ++ wi) → Srt (out ++ wi) → (∀ e ∈ out, ∀ r ∈ rs, e.id < r.id) → zZw rs → (∀ r ∈ rs, zAY r = 0) →
   (apl wi rs=none→zCe m rs=none)∧(∀ l,apl wi rs=some l→Srt (out++l)∧∃ m',zCe m rs=some m'∧m'.Perm (out++l)):=by
 intro n
 induction n with
 | zero =>
   intro wi rs hn out m hp hs ho hr hc
   obtain rfl:wi=[]:=List.length_eq_zero_iff.1 (by omega)
   obtain rfl:rs=[]:=List.length_eq_zero_iff.1 (by omega)
   rw [zEh]
   exact ⟨λh=>(by cases h),λl h=>by cases h;exact ⟨hs,m,rfl,hp⟩⟩
 | succ n ih =>
   intro wi rs hn out m hp hs ho hr hc
   cases rs with
   | nil =>
     rw [zEh]
     exact ⟨λh=>(by cases h),λl h=>by cases h;exact ⟨hs,m,rfl,hp⟩⟩
   | cons r rs =>
     have hum:zLm m:=hs.uniq.perm hp.symm
     have hr':=List.pairwise_cons.1 hr
     have hc0:=hc r (by simp)
     have hget:zT r.id m=zT r.id (out++wi):=zP3 hum hp
     have new : (∀ e ∈ wi, r.id < e.id) → (apl wi (r :: rs) = if r.k = 0 then (apl wi rs).map (zE8 r :: ·) else none) →
         (apl wi (r::rs)=none→zCe m (r::rs)=none)∧(∀ l,apl wi (r::rs)=some l→Srt (out++l)∧∃ m',zCe m (r::rs)=some m'∧m'.Perm (out++l)):=by
       intro hw he
       have hng:zT r.id m=none:=by
         rw [hget]
         refine zDP.2 λe hm=>?_
         rcases List.mem_append.1 hm with h | h
         · have:=ho e h r (by simp);omega
         · have:=hw e h;omega
       rw [he]
       by_cases hk:r.k=0
       · rw [if_pos hk]
         have hstep:zCZ m r=some (zIa (zE8 r) m):=by unfold zCZ;rw [hng];exact if_pos hk
         have hp2:(zIa (zE8 r) m).Perm ((out++[zE8 r])++wi):=by
           refine (zKx hum hp).trans ?_
           show (zE8 r::(out++wi).filter (λe=>decide (e.id≠r.id))).Perm _
           rw [zM1 (by rw [hget] at hng;exact zDP.1 hng)]
           rw [List.append_assoc]
           exact List.perm_middle.symm
         have hs2:Srt ((out++[zE8 r])++wi):=by
           rw [List.append_assoc]
           exact hs.ins (x:=zE8 r) (λe h=>ho e h r (by simp)) hw
         obtain ⟨i1,i2⟩:=ih wi rs (by simp at hn;omega) _ _ hp2 hs2 (λe h r' hr2=>by
           rcases List.mem_append.1 h with h | h
           · exact ho e h r' (by simp [hr2])
           · rw [List.mem_singleton.1 h];exact hr'.1 r' hr2) hr'.2 (λr' h=>hc r' (by simp [h]))
         have hf:zCe m (r::rs)=zCe (zIa (zE8 r) m) rs:=by show (zCZ m r).bind _=_;rw [hstep];rfl
         rw [hf]
         refine ⟨λh=>i1 (by cases ha:apl wi rs with | none=>rfl | some l=>rw [ha] at h;cases h),λl h=>?_⟩
         cases ha:apl wi rs with
         | none=>rw [ha] at h;cases h
         | some l' =>
           rw [ha] at h
           cases h
           have:=i2 l' ha
           simpa [List.append_assoc] using this
       · rw [if_neg hk]
         have hf:zCe m (r::rs)=none:=by
           show (zCZ m r).bind _=_
           have:zCZ m r=none:=by unfold zCZ;rw [hng];exact if_neg hk
           rw [this];rfl
         exact ⟨λ_=>hf,λl h=>by cases h⟩
     cases wi with
     | nil=>exact new (by simp) (zTJ r rs)
     | cons x wi =>
       have hmid:=hs.mid
       by_cases h1:x.id<r.id
       · have he:apl (x::wi) (r::rs)=(apl wi (r::rs)).map (x :: ·):=by rw [zDB,if_pos h1]
         have hs2:Srt ((out++[x])++wi):=by rw [List.append_assoc];exact hs
         obtain ⟨i1,i2⟩:=ih wi (r::rs) (by simp at hn ⊢;omega) (out++[x]) m (by rw [List.append_assoc];exact hp) hs2 (λe h r' hr2=>by
           rcases List.mem_append.1 h with h | h
           · exact ho e h r' hr2
           · rw [List.mem_singleton.1 h]
             rcases List.mem_cons.1 hr2 with e' | e'
             · rw [e'];exact h1
             · have:=hr'.1 r' e';omega) hr hc
         rw [he]
         refine ⟨λh=>i1 (by cases ha:apl wi (r::rs) with | none=>rfl | some l=>rw [ha] at h;cases h),λl h=>?_⟩
         cases ha:apl wi (r::rs) with
         | none=>rw [ha] at h;cases h
         | some l' =>
           rw [ha] at h
           cases h
           have:=i2 l' ha
           simpa [List.append_assoc] using this
       · by_cases h2:x.id=r.id
         · have hg:zT r.id m=some x:=by rw [hget,← h2];exact zT5 hs.uniq
           have ho':∀ e∈out++([]:List zS),∀ r'∈rs,e.id<r'.id:=λe h r' hr2=>ho e (by simpa using h) r' (by simp [hr2])
           by_cases hk0:r.k=0
           · have he:apl (x::wi) (r::rs)=none:=by rw [zDB,if_neg h1,if_pos h2,if_pos hk0]
             have hf:zCe m (r::rs)=none:=by
               show (zCZ m r).bind _=_
               have:zCZ m r=none:=by unfold zCZ;rw [hg];exact if_pos hk0
               rw [this];rfl
             rw [he]
             exact ⟨λ_=>hf,λl h=>by cases h⟩
           · by_cases hk2:r.k=2
             · have he:apl (x::wi) (r::rs)=apl wi rs:=by rw [zDB,if_neg h1,if_pos h2,if_neg hk0,if_pos hk2]
               have hf:zCe m (r::rs)=zCe (zFp r.id m) rs:=by
                 show (zCZ m r).bind _=_
                 have:zCZ m r=some (zFp r.id m):=by unfold zCZ;rw [hg];exact (if_neg hk0).trans (if_pos hk2)
                 rw [this];rfl
               rw [he,hf]
               refine ih wi rs (by simp at hn ⊢;omega) out _ ?_ hmid.2.2.1 (λe h r' hr2=>ho e h r' (by simp [hr2])) hr'.2 (λr' h=>hc r' (by simp [h]))
               refine (zQk hum hp).trans ?_
               rw [zDb hs.uniq,← h2,zJC hmid.1 hmid.2.1]
             · have hid:=(zID (x:=x) hc0 h2.symm hk0 hk2).1
               have he:apl (x::wi) (r::rs)=(apl wi rs).map ((zU x r).1 :: ·):=by rw [zDB,if_neg h1,if_pos h2,if_neg hk0,if_neg hk2]
               have hf:zCe m (r::rs)=zCe (zIa (zU x r).1 m) rs:=by
                 show (zCZ m r).bind _=_
                 have:zCZ m r=some (zIa (zU x r).1 m):=by unfold zCZ;rw [hg];exact (if_neg hk0).trans (if_neg hk2)
                 rw [this];rfl
               have hp2:(zIa (zU x r).1 m).Perm ((out++[(zU x r).1])++wi):=by
                 refine (zKx hum hp).trans ?_
                 rw [hid,zJC hmid.1 hmid.2.1,List.append_assoc]
                 exact List.perm_middle.symm
               have hs2:Srt ((out++[(zU x r).1])++wi):=by
                 rw [List.append_assoc]
                 exact hmid.2.2.1.ins (by rw [hid];exact hmid.1) (by rw [hid];exact hmid.2.1)
               obtain ⟨i1,i2⟩:=ih wi rs (by simp at hn;omega) _ _ hp2 hs2 (λe h r' hr2=>by
                 rcases List.mem_append.1 h with h | h
                 · exact ho e h r' (by simp [hr2])
                 · rw [List.mem_singleton.1 h,hid,h2];exact hr'.1 r' hr2) hr'.2 (λr' h=>hc r' (by simp [h]))
               rw [he,hf]
               refine ⟨λh=>i1 (by cases ha:apl wi rs with | none=>rfl | some l=>rw [ha] at h;cases h),λl h=>?_⟩
               cases ha:apl wi rs with
               | none=>rw [ha] at h;cases h
               | some l' =>
                 rw [ha] at h
                 cases h
                 have:=i2 l' ha
                 simpa [List.append_assoc] using this
         · refine new (λe h=>?_) (by rw [zDB,if_neg h1,if_neg h2])
           rcases List.mem_cons.1 h with e' | e'
           · rw [e'];omega
           · have:=hmid.2.1 e e';omega
theorem zKl {α:Type} (f:α→Int):∀ {l l':List α},l.Perm l'→l.Pairwise (λx y=>f x≤f y)→l'.Pairwise (λx y=>f x<f y)→l=l'
 | [],l',p,_,_=>(List.nil_perm.1 p).symm
 | x::l,[],p,_,_=>by simpa using p.length_eq
 | x::l,y::l',p,h,h'=>by
  rw [List.pairwise_cons] at h h'
  have e:x=y:=by
   rcases List.mem_cons.1 (p.mem_iff.1 (List.mem_cons_self (a:=x))) with e | e
   ·exact e
   ·have h1:=h'.1 x e
    rcases List.mem_cons.1 (p.mem_iff.2 (List.mem_cons_self (a:=y))) with e2 | e2
    ·exact e2.symm
    ·have h2:=h.1 y e2;omega
  subst e
  rw [zKl f (List.Perm.cons_inv p) h.2 h'.2]
def zC1 (x y:zS):List zY:=if (zAH x y).2=true then [(zAH x y).1] else []
def mrg : List zS→List zS→Option (List zY)
 | [],[]=>some []
 | x::a,[]=>(mrg a []).map (zFl x :: ·)
 | [],y::b=>if y.g=0#8 then (mrg [] b).map (zDq y :: ·) else none
 | x::a,y::b =>
  if x.id<y.id then (mrg a (y::b)).map (zFl x :: ·)
  else if y.id<x.id then (if y.g=0#8 then (mrg (x::a) b).map (zDq y :: ·) else none)
  else if y.g=x.g∨y.g=x.g+1#8 then (mrg a b).map (zC1 x y ++ ·) else none
termination_by a b=>a.length+b.length
theorem zNl : mrg [] []=some []:=by rw [mrg]
theorem zW2 (x:zS) (a:List zS):mrg (x::a) []=(mrg a []).map (zFl x :: ·):=by rw [mrg]
theorem zWz (y:zS) (b:List zS):mrg [] (y::b)=if y.g=0#8 then (mrg [] b).map (zDq y :: ·) else none:=by rw [mrg]
theorem zWa (x:zS) (a:List zS) (y:zS) (b:List zS):mrg (x::a) (y::b) =
 if x.id<y.id then (mrg a (y::b)).map (zFl x :: ·)
 else if y.id<x.id then (if y.g=0#8 then (mrg (x::a) b).map (zDq y :: ·) else none)
 else if y.g=x.g∨y.g=x.g+1#8 then (mrg a b).map (zC1 x y ++ ·) else none:=by rw [mrg]
def zC2 (m:List zS) (y:zS):Option (List zY) :=
 match zT y.id m with
 | none=>if y.g=0#8 then some [zDq y] else none
 | some x=>if y.g=x.g∨y.g=x.g+1#8 then some (zC1 x y) else none
def zCB (m:List zS):List zS→Option (List zY×List zS)
 | []=>some ([],m)
 | y::b=>(zC2 m y).bind λo=>(zCB (zFp y.id m) b).map λs=>(o++s.1,s.2)
theorem zGy {x:zS} {a:List zS}:∀ (b:List zS),(∀ y∈b,y.id≠x.id)→zCB (x::a) b=(zCB a b).map λs=>(s.1,x::s.2)
 | [],_=>rfl
 | y::b,h=>by
  have hy:=h y (by simp)
  have h1:zC2 (x::a) y=zC2 a y:=by unfold zC2;rw [zT,if_neg (Ne.symm hy)]
  have h2:zFp y.id (x::a)=x::zFp y.id a:=by rw [zFp,if_neg (Ne.symm hy)]
  show (zC2 (x::a) y).bind _=_
  rw [h1,h2]
  show _=Option.map _ ((zC2 a y).bind _)
  cases zC2 a y with
  | none=>rfl
  | some o =>
   show Option.map _ (zCB (x::zFp y.id a) b)=Option.map _ (Option.map _ _)
   rw [zGy b λz hz=>h z (by simp [hz])]
   cases zCB (zFp y.id a) b<;>rfl
theorem zLr {k:Int}:∀ {l:List zS},(∀ e∈l,e.id≠k)→zFp k l=l
 | [],_=>rfl
 | x::l,h=>by
  unfold zFp
  rw [if_neg (h x (by simp)),zLr λe he=>h e (by simp [he])]
theorem zLh {m b:List zS} {y:zS} (h:∀ e∈m,e.id≠y.id):zCB m (y::b)=if y.g=0#8 then (zCB m b).map λs=>(zDq y::s.1,s.2) else none:=by
 show (zC2 m y).bind _=_
 have:zC2 m y=if y.g=0#8 then some [zDq y] else none:=by unfold zC2;rw [zDP.2 h]
 rw [this,zLr h]
 split<;>rfl
theorem zOP : ∀ (n : Nat) (a b : List zS), a.length + b.length ≤ n → Srt a → Srt b →
   (mrg a b=none→zCB a b=none)∧(∀ L,mrg a b=some L→∃ s,zCB a b=some s∧(s.1++s.2.map zFl).Perm L):=by
 intro n
 induction n with
 | zero =>
   intro a b hn ha hb
   obtain rfl:a=[]:=List.length_eq_zero_iff.1 (by omega)
   obtain rfl:b=[]:=List.length_eq_zero_iff.1 (by omega)
   rw [zNl]
   exact ⟨λh=>(by cases h),λL h=>by cases h;exact ⟨_,rfl,List.Perm.refl _⟩⟩
 | succ n ih =>
   intro a b hn ha hb
   cases a with
   | nil =>
     cases b with
     | nil =>
       rw [zNl]
       exact ⟨λh=>(by cases h),λL h=>by cases h;exact ⟨_,rfl,List.Perm.refl _⟩⟩
     | cons y b =>
       obtain ⟨i1,i2⟩:=ih [] b (by simp at hn ⊢;omega) List.Pairwise.nil (List.pairwise_cons.1 hb).2
       rw [zWz,zLh (by simp)]
       by_cases hg:y.g=0#8
       · rw [if_pos hg,if_pos hg]
         refine ⟨λh=>?_,λL h=>?_⟩
         · cases hm:mrg [] b with
           | none=>rw [i1 hm];rfl
           | some l=>rw [hm] at h;cases h
         · cases hm:mrg [] b with
           | none=>rw [hm] at h;cases h
           | some l =>
             rw [hm] at h
             cases h
             obtain ⟨s,h1,h2⟩:=i2 l hm
             rw [h1]
             exact ⟨_,rfl,h2.cons _⟩
       · rw [if_neg hg,if_neg hg]
         exact ⟨λ_=>rfl,λL h=>by cases h⟩
   | cons x a =>
     have ha':=List.pairwise_cons.1 ha
     cases b with
     | nil =>
       obtain ⟨i1,i2⟩:=ih a [] (by simp at hn ⊢;omega) ha'.2 List.Pairwise.nil
       rw [zW2,zGy [] (by simp)]
       refine ⟨λh=>?_,λL h=>?_⟩
       · cases hm:mrg a [] with
         | none=>rw [i1 hm];rfl
         | some l=>rw [hm] at h;cases h
       · cases hm:mrg a [] with
         | none=>rw [hm] at h;cases h
         | some l =>
           rw [hm] at h
           cases h
           obtain ⟨s,h1,h2⟩:=i2 l hm
           rw [h1]
           exact ⟨_,rfl,List.perm_middle.trans (h2.cons _)⟩
     | cons y b =>
       have hb':=List.pairwise_cons.1 hb
       rw [zWa]
       by_cases h1:x.id<y.id
       · obtain ⟨i1,i2⟩:=ih a (y::b) (by simp at hn ⊢;omega) ha'.2 hb
         rw [if_pos h1,zGy (y::b) (λz hz=>by
           rcases List.mem_cons.1 hz with e | e
           · rw [e];omega
           · have:=hb'.1 z e;omega)]
         refine ⟨λh=>?_,λL h=>?_⟩
         · cases hm:mrg a (y::b) with
           | none=>rw [i1 hm];rfl
           | some l=>rw [hm] at h;cases h
         · cases hm:mrg a (y::b) with
           | none=>rw [hm] at h;cases h
           | some l =>
             rw [hm] at h
             cases h
             obtain ⟨s,h1,h2⟩:=i2 l hm
             rw [h1]
             exact ⟨_,rfl,List.perm_middle.trans (h2.cons _)⟩
       · rw [if_neg h1]
         by_cases h2:y.id<x.id
         · obtain ⟨i1,i2⟩:=ih (x::a) b (by simp at hn ⊢;omega) ha hb'.2
           rw [if_pos h2,zLh (λe he=>by
             rcases List.mem_cons.1 he with e' | e'
             · rw [e'];omega
             · have:=ha'.1 e e';omega)]
           by_cases hg:y.g=0#8
           · rw [if_pos hg,if_pos hg]
             refine ⟨λh=>?_,λL h=>?_⟩
             · cases hm:mrg (x::a) b with
               | none=>rw [i1 hm];rfl
               | some l=>rw [hm] at h;cases h
             · cases hm:mrg (x::a) b with
               | none=>rw [hm] at h;cases h
               | some l =>
                 rw [hm] at h
                 cases h
                 obtain ⟨s,h1,h2⟩:=i2 l hm
                 rw [h1]
                 exact ⟨_,rfl,h2.cons _⟩
           · rw [if_neg hg,if_neg hg]
             exact ⟨λ_=>rfl,λL h=>by cases h⟩
         · have h3:x.id=y.id:=by omega
           obtain ⟨i1,i2⟩:=ih a b (by simp at hn ⊢;omega) ha'.2 hb'.2
           rw [if_neg h2]
           have hf:zCB (x::a) (y::b)=if y.g=x.g∨y.g=x.g+1#8 then (zCB a b).map λs=>(zC1 x y++s.1,s.2) else none:=by
             show (zC2 (x::a) y).bind _=_
             have e1:zC2 (x::a) y=if y.g=x.g∨y.g=x.g+1#8 then some (zC1 x y) else none:=by unfold zC2;rw [zT,if_pos h3]
             rw [e1,zFp,if_pos h3]
             split<;>rfl
           rw [hf]
           by_cases hg:y.g=x.g∨y.g=x.g+1#8
           · rw [if_pos hg,if_pos hg]
             refine ⟨λh=>?_,λL h=>?_⟩
             · cases hm:mrg a b with
               | none=>rw [i1 hm];rfl
               | some l=>rw [hm] at h;cases h
             · cases hm:mrg a b with
               | none=>rw [hm] at h;cases h
               | some l =>
                 rw [hm] at h
                 cases h
                 obtain ⟨s,h1,h2⟩:=i2 l hm
                 rw [h1]
                 refine ⟨_,rfl,?_⟩
                 show ((zC1 x y++s.1)++_).Perm _
                 rw [List.append_assoc]
                 exact h2.append_left _
           · rw [if_neg hg,if_neg hg]
             exact ⟨λ_=>rfl,λL h=>by cases h⟩
structure zVl (a b:List zS) (r:zY):Prop where
 chk:zAY r=0
 rng:0≤r.id∧r.id≤65535
 of:(r.k=2∧(∃ x∈a,x.id=r.id)∧∀ y∈b,y.id≠r.id)∨(r.k=0∧(∃ y∈b,y.id=r.id)∧∀ x∈a,x.id≠r.id)∨(r.k≠0∧r.k≠2∧∃ x∈a,∃ y∈b,x.id=r.id∧y.id=r.id∧x≠y)
 wf:r.wf
theorem zSm {x:zS} (h:0≤x.id∧x.id≤65535):zAY (zFl x)=0:=by
 unfold zAY zFl
 dsimp only
 rw [if_neg (by omega),if_neg (by omega),if_neg (by simp [zA0])]
theorem zS1 {x:zS} (h:0≤x.id∧x.id≤65535):zAY (zDq x)=0:=by
 unfold zAY zDq
 dsimp only
 rw [if_neg (by omega),if_neg (by omega),if_neg (by simp)]
theorem zTY {x:zS} (h:x.wf):(zFl x).wf:=⟨(by show -9223372036854775808≤(2:Int)∧(2:Int)≤9223372036854775807;decide),h.id,(by show -9223372036854775808≤(0:Int)∧(0:Int)≤9223372036854775807;decide),(by show -9223372036854775808≤(0:Int)∧(0:Int)≤9223372036854775807;decide),(by show -9223372036854775808≤(0:Int)∧(0:Int)≤9223372036854775807;decide),(by show -9223372036854775808≤(0:Int)∧(0:Int)≤9223372036854775807;decide),(by show -9223372036854775808≤(0:Int)∧(0:Int)≤9223372036854775807;decide),(by show -9223372036854775808≤(0:Int)∧(0:Int)≤9223372036854775807;decide)⟩
theorem zU1 {x:zS} (h:x.wf):(zDq x).wf:=⟨(by show -9223372036854775808≤(0:Int)∧(0:Int)≤9223372036854775807;decide),h.id,h.p0,h.p1,h.p2,h.v0,h.v1,h.v2⟩
structure Two (a b:List zS):Prop where
 sa:Srt a
 sb:Srt b
 ra:∀ x∈a,0≤x.id∧x.id≤65535
 rb:∀ x∈b,0≤x.id∧x.id≤65535
 wa:∀ x∈a,x.wf
 wb:∀ x∈b,x.wf
theorem Two.tl {x:zS} {a b:List zS} (h:Two (x::a) b):Two a b:=⟨(List.pairwise_cons.1 h.sa).2,h.sb,λz hz=>h.ra z (by simp [hz]),h.rb,λz hz=>h.wa z (by simp [hz]),h.wb⟩
theorem Two.tr {y:zS} {a b:List zS} (h:Two a (y::b)):Two a b:=⟨h.sa,(List.pairwise_cons.1 h.sb).2,h.ra,λz hz=>h.rb z (by simp [hz]),h.wa,λz hz=>h.wb z (by simp [hz])⟩
theorem zVo {x:zS} {a:List zS} {l:List zY} (h:∀ r∈l,x.id<r.id):apl (x::a) l=(apl a l).map (x :: ·):=by
 cases l with
 | nil=>rw [zEh,zEh];rfl
 | cons r l=>rw [zDB,if_pos (h r (by simp))]
theorem zMP : ∀ (n : Nat) (a b : List zS), a.length + b.length ≤ n → Two a b → ∀ L, mrg a b = some L →
   zZw L∧(∀ r∈L,zVl a b r)∧apl a L=some b∧L.length≤a.length+b.length∧(∀ y∈b,(∃ r∈L,r.id=y.id)∨y∈a):=by
 intro n
 induction n with
 | zero =>
   intro a b hn ht L h
   obtain rfl:a=[]:=List.length_eq_zero_iff.1 (by omega)
   obtain rfl:b=[]:=List.length_eq_zero_iff.1 (by omega)
   rw [zNl] at h
   cases h
   exact ⟨List.Pairwise.nil,by simp,zEh _,by simp,by simp⟩
 | succ n ih =>
   intro a b hn ht L h
   have rem:∀ x a',a=x::a'→(∀ y∈b,x.id<y.id)→∀ l,mrg a' b=some l→L=zFl x::l→zZw L∧(∀ r∈L,zVl a b r)∧apl a L=some b∧L.length≤a.length+b.length∧(∀ y∈b,(∃ r∈L,r.id=y.id)∨y∈a):=by
     rintro x a rfl hxb l hl rfl
     obtain ⟨j1,j2,j3,j4,j5⟩:=ih a b (by simp at hn ⊢;omega) ht.tl l hl
     have hxa:=(List.pairwise_cons.1 ht.sa).1
     refine ⟨List.pairwise_cons.2 ⟨λr hr=>?_,j1⟩,λr hr=>?_,?_,by simp only [List.length_cons];omega,λy hy=>?_⟩
     · show x.id<r.id
       rcases (j2 r hr).of with ⟨_,⟨z,hz,e⟩,_⟩ | ⟨_,⟨z,hz,e⟩,_⟩ | ⟨_,_,z,hz,_,_,e,_⟩
       · have:=hxa z hz;omega
       · have:=hxb z hz;omega
       · have:=hxa z hz;omega
     · rcases List.mem_cons.1 hr with e | e
       · subst e
         exact ⟨zSm (ht.ra x (by simp)),ht.ra x (by simp),.inl ⟨rfl,⟨x,by simp,rfl⟩,λy hy=>by have:=hxb y hy;show y.id≠x.id;omega⟩,zTY (ht.wa x (by simp))⟩
       · have:=j2 r e
         refine ⟨this.chk,this.rng,?_,this.wf⟩
         rcases this.of with ⟨h1,⟨z,hz,e'⟩,h2⟩ | ⟨h1,⟨z,hz,e'⟩,h2⟩ | ⟨h1,h2,z,hz,h3⟩
         · exact .inl ⟨h1,⟨z,by simp [hz],e'⟩,h2⟩
         · refine .inr (.inl ⟨h1,⟨z,hz,e'⟩,λx' hx'=>?_⟩)
           rcases List.mem_cons.1 hx' with e2 | e2
           · rw [e2];have:=hxb z hz;omega
           · exact h2 x' e2
         · exact .inr (.inr ⟨h1,h2,z,by simp [hz],h3⟩)
     · rw [zDB,if_neg (by show ¬ x.id<x.id;omega),if_pos (by show x.id=x.id;rfl),if_neg (by show ¬ (2:Int)=0;omega),if_pos (by show (2:Int)=2;rfl)]
       exact j3
     · rcases j5 y hy with ⟨r,hr,e⟩ | h5
       · exact .inl ⟨r,by simp [hr],e⟩
       · exact .inr (by simp [h5])
   have put:∀ y b',b=y::b'→(∀ x∈a,y.id<x.id)→y.g=0#8→∀ l,mrg a b'=some l→L=zDq y::l→zZw L∧(∀ r∈L,zVl a b r)∧apl a L=some b∧L.length≤a.length+b.length∧(∀ y∈b,(∃ r∈L,r.id=y.id)∨y∈a):=by
     rintro y b rfl hya hg l hl rfl
     obtain ⟨j1,j2,j3,j4,j5⟩:=ih a b (by simp at hn ⊢;omega) ht.tr l hl
     have hyb:=(List.pairwise_cons.1 ht.sb).1
     have he:zE8 (zDq y)=y:=by cases y;simp only [zE8,zDq];dsimp only at hg;rw [hg]
     refine ⟨List.pairwise_cons.2 ⟨λr hr=>?_,j1⟩,λr hr=>?_,?_,by simp only [List.length_cons];omega,λz hz=>?_⟩
     · show y.id<r.id
       rcases (j2 r hr).of with ⟨_,⟨z,hz,e⟩,_⟩ | ⟨_,⟨z,hz,e⟩,_⟩ | ⟨_,_,z,hz,_,_,e,_⟩
       · have:=hya z hz;omega
       · have:=hyb z hz;omega
       · have:=hya z hz;omega
     · rcases List.mem_cons.1 hr with e | e
       · subst e
         exact ⟨zS1 (ht.rb y (by simp)),ht.rb y (by simp),.inr (.inl ⟨rfl,⟨y,by simp,rfl⟩,λx hx=>by have:=hya x hx;show x.id≠y.id;omega⟩),zU1 (ht.wb y (by simp))⟩
       · have:=j2 r e
         refine ⟨this.chk,this.rng,?_,this.wf⟩
         rcases this.of with ⟨h1,⟨z,hz,e'⟩,h2⟩ | ⟨h1,⟨z,hz,e'⟩,h2⟩ | ⟨h1,h2,z,hz,z',hz',h3⟩
         · refine .inl ⟨h1,⟨z,hz,e'⟩,λx' hx'=>?_⟩
           rcases List.mem_cons.1 hx' with e2 | e2
           · rw [e2];have:=hya z hz;omega
           · exact h2 x' e2
         · exact .inr (.inl ⟨h1,⟨z,by simp [hz],e'⟩,h2⟩)
         · exact .inr (.inr ⟨h1,h2,z,hz,z',by simp [hz'],h3⟩)
     · cases a with
       | nil=>rw [zTJ,if_pos (by rfl),j3,he];rfl
       | cons x a =>
         have:=hya x (by simp)
         rw [zDB,if_neg (by show ¬ x.id<y.id;omega),if_neg (by show ¬ x.id=y.id;omega),if_pos (by rfl),j3,he];rfl
     · rcases List.mem_cons.1 hz with e | e
       · rw [e];exact .inl ⟨zDq y,by simp,rfl⟩
       · rcases j5 z e with ⟨r,hr,e'⟩ | h5
         · exact .inl ⟨r,by simp [hr],e'⟩
         · exact .inr h5
   cases a with
   | nil =>
     cases b with
     | nil =>
       rw [zNl] at h
       cases h
       exact ⟨List.Pairwise.nil,by simp,zEh _,by simp,by simp⟩
     | cons y b =>
       rw [zWz] at h
       by_cases hg:y.g=0#8
       · rw [if_pos hg] at h
         cases hm:mrg [] b with
         | none=>rw [hm] at h;cases h
         | some l=>rw [hm] at h;cases h;exact put y b rfl (by simp) hg l hm rfl
       · rw [if_neg hg] at h;cases h
   | cons x a =>
     cases b with
     | nil =>
       rw [zW2] at h
       cases hm:mrg a [] with
       | none=>rw [hm] at h;cases h
       | some l=>rw [hm] at h;cases h;exact rem x a rfl (by simp) l hm rfl
     | cons y b =>
       have hxa:=(List.pairwise_cons.1 ht.sa).1
       have hyb:=(List.pairwise_cons.1 ht.sb).1
       rw [zWa] at h
       by_cases h1:x.id<y.id
       · rw [if_pos h1] at h
         cases hm:mrg a (y::b) with
         | none=>rw [hm] at h;cases h
         | some l =>
           rw [hm] at h;cases h
           exact rem x a rfl (λz hz=>by
             rcases List.mem_cons.1 hz with e | e
             · rw [e];exact h1
             · have:=hyb z e;omega) l hm rfl
       · rw [if_neg h1] at h
         by_cases h2:y.id<x.id
         · rw [if_pos h2] at h
           by_cases hg:y.g=0#8
           · rw [if_pos hg] at h
             cases hm:mrg (x::a) b with
             | none=>rw [hm] at h;cases h
             | some l =>
               rw [hm] at h;cases h
               exact put y b rfl (λz hz=>by
                 rcases List.mem_cons.1 hz with e | e
                 · rw [e];exact h2
                 · have:=hxa z e;omega) hg l hm rfl
           · rw [if_neg hg] at h;cases h
         · rw [if_neg h2] at h
           have h3:y.id=x.id:=by omega
           by_cases hg:y.g=x.g∨y.g=x.g+1#8
           · rw [if_pos hg] at h
             cases hm:mrg a b with
             | none=>rw [hm] at h;cases h
             | some l =>
               rw [hm] at h
               cases h
               obtain ⟨j1,j2,j3,j4,j5⟩:=ih a b (by simp at hn ⊢;omega) ht.tl.tr l hm
               have hlo:∀ r∈l,x.id<r.id:=λr hr=>by
                 rcases (j2 r hr).of with ⟨_,⟨z,hz,e⟩,_⟩ | ⟨_,⟨z,hz,e⟩,_⟩ | ⟨_,_,z,hz,_,_,e,_⟩
                 · have:=hxa z hz;omega
                 · have:=hyb z hz;omega
                 · have:=hxa z hz;omega
               have hold:∀ r∈l,zVl (x::a) (y::b) r:=λr hr=>by
                 have:=j2 r hr
                 have hx:=hlo r hr
                 refine ⟨this.chk,this.rng,?_,this.wf⟩
                 rcases this.of with ⟨h1,⟨z,hz,e'⟩,h2⟩ | ⟨h1,⟨z,hz,e'⟩,h2⟩ | ⟨h1,h2,z,hz,z',hz',h3'⟩
                 · refine .inl ⟨h1,⟨z,by simp [hz],e'⟩,λx' hx'=>?_⟩
                   rcases List.mem_cons.1 hx' with e2 | e2
                   · rw [e2];omega
                   · exact h2 x' e2
                 · refine .inr (.inl ⟨h1,⟨z,by simp [hz],e'⟩,λx' hx'=>?_⟩)
                   rcases List.mem_cons.1 hx' with e2 | e2
                   · rw [e2];omega
                   · exact h2 x' e2
                 · exact .inr (.inr ⟨h1,h2,z,by simp [hz],z',by simp [hz'],h3'⟩)
               cases hd:(zAH x y).2 with
               | true =>
                 have hst:zC1 x y=[(zAH x y).1]:=by unfold zC1;rw [if_pos hd]
                 have hdm:=zOn (ht.wa x (by simp)) (ht.wb y (by simp)) (ht.ra x (by simp)) h3 hg hd
                 rw [hst]
                 refine ⟨List.pairwise_cons.2 ⟨λr hr=>?_,j1⟩,λr hr=>?_,?_,by simp only [List.singleton_append,List.length_cons];omega,λz hz=>?_⟩
                 · rw [hdm.2.2.2.2.2,h3];exact hlo r hr
                 · rcases List.mem_cons.1 hr with e | e
                   · rw [e]
                     refine ⟨hdm.2.1,by rw [hdm.2.2.2.2.2];exact ht.rb y (by simp),.inr (.inr ⟨?_,?_,x,by simp,y,by simp,by rw [hdm.2.2.2.2.2,h3],hdm.2.2.2.2.2.symm,λe'=>?_⟩),zPn (ht.wb y (by simp))⟩
                     · rcases hdm.2.2.2.2.1 with e' | e'<;>rw [e']<;>decide
                     · rcases hdm.2.2.2.2.1 with e' | e'<;>rw [e']<;>decide
                     · have:=hdm.2.2.1
                       rw [show zIr x y=true from zNF.2 e'] at this
                       cases this
                   · exact hold r e
                 · show apl (x::a) ((zAH x y).1::l)=_
                   rw [zDB,if_neg (by rw [hdm.2.2.2.2.2];omega),if_pos (by rw [hdm.2.2.2.2.2,h3]),if_neg (by rcases hdm.2.2.2.2.1 with e' | e'<;>rw [e']<;>decide),if_neg (by rcases hdm.2.2.2.2.1 with e' | e'<;>rw [e']<;>decide),j3,hdm.1]
                   rfl
                 · rcases List.mem_cons.1 hz with e | e
                   · rw [e];exact .inl ⟨(zAH x y).1,by simp,hdm.2.2.2.2.2⟩
                   · rcases j5 z e with ⟨r,hr,e'⟩ | h5
                     · exact .inl ⟨r,by simp [hr],e'⟩
                     · exact .inr (by simp [h5])
               | false =>
                 have hst:zC1 x y=[]:=by unfold zC1;rw [if_neg (by rw [hd];decide)]
                 have hxy:=zQ4 hd
                 rw [hst]
                 show zZw l∧_
                 refine ⟨j1,hold,?_,by simp only [List.nil_append,List.length_cons];omega,λz hz=>?_⟩
                 · show apl (x::a) l=_
                   rw [zVo hlo,j3,hxy];rfl
                 · rcases List.mem_cons.1 hz with e | e
                   · rw [e,← hxy];exact .inr (by simp)
                   · rcases j5 z e with ⟨r,hr,e'⟩ | h5
                     · exact .inl ⟨r,by simpa using hr,e'⟩
                     · exact .inr (by simp [h5])
           · rw [if_neg hg] at h;cases h
theorem zGC {L:List zY} (h:zCg L=0):zZw L∧∀ r∈L,zAY r=0∧0≤r.id∧r.id≤65535:=by
 have hat:∀ k,k<L.length→zFV L k=0:=zG4 h
 have hg:∀ k (hk:k<L.length),L.getD k default=L[k]:=λk hk=>by rw [List.getD_eq_getElem?_getD,List.getElem?_eq_getElem hk];rfl
 refine ⟨List.pairwise_iff_getElem.2 ?_,λr hr=>?_⟩
 · have key : ∀ d i (hi : i < L.length) (hj : i + d + 1 < L.length), L[i].id < L[i + d + 1].id := by
     intro d
     induction d with
     | zero =>
       intro i hi hj
       have:=zC7 (hat (i+1) hj)
       rw [zCq hi,hg _ hj] at this
       dsimp only at this
       rw [hg _ hi] at this
       exact this.2.2.2
     | succ d ih =>
       intro i hi hj
       have h1:=ih i hi (by omega)
       have:=zC7 (hat (i+(d+1)+1) hj)
       rw [zCq (by omega),hg _ hj] at this
       dsimp only at this
       rw [hg _ (by omega)] at this
       have h2:=this.2.2.2
       have e:L[i+(d+1)].id=L[i+d+1].id:=rfl
       omega
   intro i j hi hj hij
   have:=key (j-i-1) i hi (by omega)
   simpa [show i+(j-i-1)+1=j by omega] using this
 · obtain ⟨k,hk,rfl⟩:=List.mem_iff_getElem.1 hr
   have h1:=hat k hk
   have h2:=zC7 h1
   rw [hg k hk] at h2
   refine ⟨?_,h2.1,h2.2.1⟩
   unfold zFV zA6 at h1
   rw [hg k hk] at h1
   split at h1
   · omega
   · omega
theorem zcH (m l:List zS):zCB m l=(zCB m (l.drop 0)).map λs=>(([]:List zY)++s.1,s.2):=by
 rw [List.drop_zero]
 cases zCB m l<;>simp
theorem zIR {m l mm : List zS} {out o : List zY} {j : Nat} (hj : j < l.length) (h : zCB m l = (zCB mm (l.drop j)).map fun s => (out ++ s.1, s.2)) (hs : zC2 mm (l.getD j default) = some o) :
   zCB m l=(zCB (zFp (l.getD j default).id mm) (l.drop (j+1))).map λs=>((out++o)++s.1,s.2):=by
 rw [h,List.drop_eq_getElem_cons hj]
 rw [zDh hj] at hs ⊢
 show Option.map _ ((zC2 mm l[j]).bind _)=_
 rw [hs]
 show Option.map _ (Option.map _ (zCB (zFp l[j].id mm) (l.drop (j+1))))=_
 cases zCB (zFp l[j].id mm) (l.drop (j+1))<;>simp
theorem zKa {m l mm:List zS} {out:List zY} {j:Nat} (hj:j<l.length) (h:zCB m l=(zCB mm (l.drop j)).map λs=>(out++s.1,s.2)) (hs:zC2 mm (l.getD j default)=none):zCB m l=none:=by
 rw [h,List.drop_eq_getElem_cons hj]
 rw [zDh hj] at hs
 show Option.map _ ((zC2 mm l[j]).bind _)=_
 rw [hs]
 rfl
theorem zUq {m l mm:List zS} {out:List zY} {j:Nat} (hj:l.length≤j) (h:zCB m l=(zCB mm (l.drop j)).map λs=>(out++s.1,s.2)):zCB m l=some (out,mm):=by
 rw [h,List.drop_of_length_le hj]
 simp [zCB]
theorem bvs (X Y:BitVec 8):(X-Y).toNat≤1↔X=Y∨X=Y+1#8:=by
 constructor
 · intro h
   by_cases e:(X-Y).toNat=0
   · left
     have h1:X-Y=0#8:=BitVec.eq_of_toNat_eq (by simpa using e)
     apply BitVec.eq_of_toNat_eq
     have:=congrArg BitVec.toNat h1
     simp only [BitVec.toNat_sub] at this
     have:=X.isLt
     have:=Y.isLt
     simp at *
     omega
   · right
     apply BitVec.eq_of_toNat_eq
     have h1:(X-Y).toNat=1:=by omega
     simp only [BitVec.toNat_sub] at h1
     rw [BitVec.toNat_add]
     have:=X.isLt
     have:=Y.isLt
     simp at *
     omega
 · rintro (rfl | rfl)
   · simp
   · have e : Y + 1#8 - Y = 1#8 := by
       apply BitVec.eq_of_toNat_eq
       simp only [BitVec.toNat_sub,BitVec.toNat_add]
       have:=Y.isLt
       simp
       omega
     rw [e];decide
theorem zVf {m:List zS} {y:zS} (hn:zT y.id m=none) (h:¬ (0:Int)<(((y.g-0#8).toNat:Nat):Int)):zC2 m y=some [zDq y]:=by
 unfold zC2
 rw [hn]
 have:y.g=0#8:=BitVec.eq_of_toNat_eq (by simp at h;simpa using h)
 exact if_pos this
theorem zOK {m:List zS} {y:zS} (hn:zT y.id m=none) (h:(0:Int)<(((y.g-0#8).toNat:Nat):Int)):zC2 m y=none:=by
 unfold zC2
 rw [hn]
 exact if_neg λe=>by rw [e] at h;simp at h
theorem zNK {m:List zS} {y o:zS} (hn:zT y.id m=some o) (h:¬ (1:Int)<(((y.g-o.g).toNat:Nat):Int)):zC2 m y=some (zC1 o y):=by
 unfold zC2
 rw [hn]
 exact if_pos ((bvs _ _).1 (by omega))
theorem zTf {m:List zS} {y o:zS} (hn:zT y.id m=some o) (h:(1:Int)<(((y.g-o.g).toNat:Nat):Int)):zC2 m y=none:=by
 unfold zC2
 rw [hn]
 exact if_neg λe=>by have:=(bvs _ _).2 e;omega
theorem zLd (o y:zS):(zC1 o y).length≤1:=by unfold zC1;split<;>simp
theorem zSq {o y:zS} (h:(zAH o y).2=true):zC1 o y=[(zAH o y).1]:=by unfold zC1;rw [if_pos h]
theorem zTE {o y:zS} (h:(zAH o y).2=false):zC1 o y=[]:=by unfold zC1;rw [if_neg (by rw [h];decide)]
theorem zHY (k:Int):∀ l,(zFp k l).length≤l.length
 | []=>Nat.le_refl _
 | x::l=>by
  unfold zFp
  split
  ·simp
  ·have:=zHY k l;simp;omega
def mL (m l:List zS):List zY:=(mrg m l).getD []
def mE (m l:List zS):Nat:=if (mrg m l).isSome=true then 0 else 15
theorem zIg {m l:List zS} (ht:Two m l) (h:zCB m l=none):mE m l=15∧mL m l=[]:=by
 have hf:=zOP _ m l (Nat.le_refl _) ht.sa ht.sb
 cases hm:mrg m l with
 | none=>exact ⟨by unfold mE;rw [hm];rfl,by unfold mL;rw [hm];rfl⟩
 | some L =>
  obtain ⟨s,h1,_⟩:=hf.2 L hm
  rw [h1] at h
  cases h
theorem zRj {m l mm:List zS} {out L:List zY} (ht:Two m l) (h:zCB m l=some (out,mm)) (hp:L.Perm (out++mm.map zFl)) (hs:L.Pairwise (λx y=>x.id≤y.id)):mE m l=0∧mL m l=L:=by
 have hf:=zOP _ m l (Nat.le_refl _) ht.sa ht.sb
 cases hm:mrg m l with
 | none=>rw [hf.1 hm] at h;cases h
 | some L' =>
  obtain ⟨s,h1,h2⟩:=hf.2 L' hm
  rw [h] at h1
  cases h1
  have ha:=(zMP _ m l (Nat.le_refl _) ht L' hm).1
  exact ⟨by unfold mE;rw [hm];rfl,by unfold mL;rw [hm];exact (zKl (λr:zY=>r.id) (hp.trans h2) hs ha).symm⟩
theorem zaS {m l:List zS} (ht:Two m l):(mL m l).length≤m.length+l.length:=by
 unfold mL
 cases hm:mrg m l with
 | none=>simp
 | some L=>exact (zMP _ m l (Nat.le_refl _) ht L hm).2.2.2.1
theorem zcC {m l:List zS} (ht:Two m l):∀ r∈mL m l,r.wf:=by
 unfold mL
 cases hm:mrg m l with
 | none=>simp
 | some L=>exact λr hr=>((zMP _ m l (Nat.le_refl _) ht L hm).2.1 r hr).wf
theorem zSX {l:List zS} (hs:Srt l) (hr:∀ x∈l,0≤x.id∧x.id≤65535) (hw:∀ x∈l,x.wf):Two [] l:=⟨List.Pairwise.nil,hs,by simp,hr,by simp,hw⟩
def zMI (bt btm:Int) (b:List zS):Nat:=if zAB bt btm b≠0 then zAB bt btm b else mE [] b
structure zAD where
 t:Int
 tm:Int
 l:List zS
structure zb6 where
 t:Int
 tm:Int
 b:Int
 l:List zY
def zO1 (k:Int):List zS→Nat
 | []=>0
 | x::l=>if x.id=k then 0 else zO1 k l+1
def zMJ (k:Int) (l:List zS):Int:=if zO1 k l<l.length then ((zO1 k l:Nat):Int) else -1
theorem zST {k:Int}:∀ {l:List zS} {j:Nat},j<l.length→(∀ i,i<j→(l.getD i default).id≠k)→(l.getD j default).id=k→zO1 k l=j
 | x::l,0,_,_,h=>by
  unfold zO1
  exact if_pos h
 | x::l,j+1,hj,h1,h2=>by
  have h0:x.id≠k:=h1 0 (by omega)
  unfold zO1
  rw [if_neg h0,zST (l:=l) (j:=j) (by simpa using hj) (λi hi=>h1 (i+1) (by omega)) h2]
theorem zLS {k:Int}:∀ {l:List zS},(∀ i,i<l.length→(l.getD i default).id≠k)→zO1 k l=l.length∧zT k l=none
 | [],_=>⟨rfl,rfl⟩
 | x::l,h=>by
  have h0:x.id≠k:=h 0 (by simp)
  have ih:=zLS (l:=l) λi hi=>h (i+1) (by simpa using hi)
  unfold zO1 zT
  rw [if_neg h0,if_neg h0,ih.1]
  exact ⟨rfl,ih.2⟩
theorem zNY {k:Int}:∀ {l:List zS},zO1 k l<l.length→zT k l=some (l.getD (zO1 k l) default)
 | [],h=>by simp at h
 | x::l,h=>by
  unfold zO1 at h ⊢
  unfold zT
  by_cases e:x.id=k
  ·rw [if_pos e,if_pos e];rfl
  ·rw [if_neg e] at h ⊢
   rw [if_neg e,zNY (by simpa using h)]
   rfl
theorem zSp {k:Int}:∀ {l:List zS},¬ zO1 k l<l.length→zT k l=none
 | [],_=>rfl
 | x::l,h=>by
  unfold zO1 at h
  unfold zT
  by_cases e:x.id=k
  ·rw [if_pos e] at h;simp at h
  ·rw [if_neg e] at h
   rw [if_neg e]
   exact zSp (by simpa using h)
theorem zSx {k:Int} {l:List zS} {j:Nat} (hj:j<l.length) (h:∀ i,i<j→(l.getD i default).id≠k) (h2:(l.getD j default).id=k):zMJ k l=j:=by
 unfold zMJ
 rw [zST hj h h2,if_pos hj]
theorem zKz {k:Int} {l:List zS} (h:∀ i,i<l.length→(l.getD i default).id≠k):zMJ k l = -1:=by
 unfold zMJ
 rw [(zLS h).1,if_neg (by omega)]
theorem zRF {k:Int} {l:List zS} (h:zMJ k l<0):zT k l=none:=by
 unfold zMJ at h
 split at h
 · omega
 · rename_i h2;exact zSp h2
theorem zMv {k:Int} {l:List zS} (h:¬ zMJ k l<0):(zMJ k l).toNat<l.length∧zT k l=some (l.getD (zMJ k l).toNat default):=by
 unfold zMJ at h ⊢
 split at h
 ·rename_i h2
  rw [if_pos h2]
  exact ⟨by omega,by rw [zNY h2];rfl⟩
 ·omega
theorem zUN {k:Int} {l:List zS} {j:Nat} (h:∀ i,i<j→(l.getD i default).id≠k) (h2:(l.getD j default).id≠k):∀ i,i<j+1→(l.getD i default).id≠k:=by
 intro i hi
 by_cases e:i=j
 · rw [e];exact h2
 · exact h i (by omega)
def fG (t tm:Int) (l:List zS):zb6:=if zMI t tm l=0 then ⟨t,tm,-1,mL [] l⟩ else ⟨0,0,0,[]⟩
theorem zQC {t tm:Int} {l:List zS} (h:zAB t tm l≠0):zMI t tm l=zAB t tm l:=by unfold zMI;rw [if_pos h]
theorem zI3 {t tm:Int} {l:List zS} (h:zAB t tm l=0):zMI t tm l=mE [] l:=by unfold zMI;rw [if_neg (by omega)]
theorem zbx {t tm:Int} {l:List zS} (h:zMI t tm l≠0):fG t tm l=⟨0,0,0,[]⟩:=by unfold fG;rw [if_neg h]
theorem zbn {t tm:Int} {l:List zS} (h:zMI t tm l=0):fG t tm l=⟨t,tm,-1,mL [] l⟩:=by unfold fG;rw [if_pos h]
section
variable {at_ atm bt btm : Int} {a b : List zS}
variable {gt gtm gb : Int} {rl : List zY}
def zGr (gb:Int) (a:List zS):List zS:=if 0≤gb then a else []
def aM (was:List zS) (rl:List zY):Nat:=match apl was rl with | none=>15 | some l=>if 64<l.length then 4 else 0
def aE (at_ atm:Int) (a:List zS) (gt gtm gb:Int) (rl:List zY):Nat :=
 if zAc gt gtm gb rl≠0 then zAc gt gtm gb rl else if 0≤gb∧zAB at_ atm a≠0 then zAB at_ atm a else if 0≤gb∧at_≠gb then 14 else aM (zGr gb a) rl
def aS (at_ atm:Int) (a:List zS) (gt gtm gb:Int) (rl:List zY):zAD:=if aE at_ atm a gt gtm gb rl=0 then ⟨gt,gtm,(apl (zGr gb a) rl).getD []⟩ else ⟨0,0,[]⟩
theorem zZv (h:zAc gt gtm gb rl≠0):aE at_ atm a gt gtm gb rl=zAc gt gtm gb rl:=by unfold aE;rw [if_pos h]
theorem zZy (h:zAc gt gtm gb rl=0) (h1:0≤gb) (h2:zAB at_ atm a≠0):aE at_ atm a gt gtm gb rl=zAB at_ atm a:=by unfold aE;rw [if_neg (by omega),if_pos ⟨h1,h2⟩]
theorem zZ3 (h:zAc gt gtm gb rl=0) (h1:0≤gb) (h2:zAB at_ atm a=0) (h3:at_≠gb):aE at_ atm a gt gtm gb rl=14:=by unfold aE;rw [if_neg (by omega),if_neg (by omega),if_pos ⟨h1,h3⟩]
theorem zPp (h:zAc gt gtm gb rl=0) (h1:0≤gb→zAB at_ atm a=0∧at_=gb):aE at_ atm a gt gtm gb rl=aM (zGr gb a) rl:=by
 unfold aE
 rw [if_neg (by omega),if_neg (λ⟨h2,h3⟩=>h3 (h1 h2).1),if_neg (λ⟨h2,h3⟩=>h3 (h1 h2).2)]
theorem zZ0 (h:aE at_ atm a gt gtm gb rl≠0):aS at_ atm a gt gtm gb rl=⟨0,0,[]⟩:=by unfold aS;rw [if_neg h]
theorem zcB (h:aE at_ atm a gt gtm gb rl=0):aS at_ atm a gt gtm gb rl=⟨gt,gtm,(apl (zGr gb a) rl).getD []⟩:=by unfold aS;rw [if_pos h]
theorem zIi {was:List zS} (h:apl was rl=none):aM was rl=15:=by unfold aM;rw [h]
theorem zH3 {was l:List zS} (h:apl was rl=some l) (h2:64<l.length):aM was rl=4:=by unfold aM;rw [h];exact if_pos h2
theorem zce {was l:List zS} (h:apl was rl=some l) (h2:¬ 64<l.length):aM was rl=0:=by unfold aM;rw [h];exact if_neg h2
theorem zUc (h:aE at_ atm a gt gtm gb rl=0):zAc gt gtm gb rl=0∧(0≤gb→zAB at_ atm a=0∧at_=gb)∧∃ l,apl (zGr gb a) rl=some l∧l.length≤64:=by
 have h0:zAc gt gtm gb rl=0:=by
  cases hb:zAc gt gtm gb rl with
  | zero=>rfl
  | succ n=>rw [zZv (by omega)] at h;omega
 have h1:0≤gb→zAB at_ atm a=0∧at_=gb:=by
  intro hg
  by_cases e:zAB at_ atm a=0
  ·by_cases e2:at_=gb
   ·exact ⟨e,e2⟩
   ·rw [zZ3 h0 hg e e2] at h;cases h
  ·rw [zZy h0 hg e] at h;omega
 refine ⟨h0,h1,?_⟩
 rw [zPp h0 h1] at h
 unfold aM at h
 cases ha:apl (zGr gb a) rl with
 | none=>rw [ha] at h;cases h
 | some l =>
  rw [ha] at h
  dsimp only at h
  split at h
  ·cases h
  ·exact ⟨l,rfl,by omega⟩
end
theorem zSD {gb t tm:Int} {a:List zS} (h:0≤gb→zAB t tm a=0∧t=gb):Srt (zGr gb a):=by
 unfold zGr
 split
 · rename_i hg;exact zGB (zCR (h hg).1).2.2.2.2.2
 · exact List.Pairwise.nil
theorem zIB {was mm m':List zS} {rl:List zY} {k:Nat} (hk:k<rl.length) (h:zCe was rl=zCe mm (rl.drop k)) (hs:zCZ mm (rl.getD k default)=some m'):zCe was rl=zCe m' (rl.drop (k+1)):=by
 rw [h,List.drop_eq_getElem_cons hk]
 have e:rl.getD k default=rl[k]:=by rw [List.getD_eq_getElem?_getD,List.getElem?_eq_getElem hk];rfl
 rw [e] at hs
 show (zCZ mm rl[k]).bind _=_
 rw [hs]
 rfl
theorem zGO {was mm:List zS} {rl:List zY} {k:Nat} (hk:k<rl.length) (h:zCe was rl=zCe mm (rl.drop k)) (hs:zCZ mm (rl.getD k default)=none):zCe was rl=none:=by
 rw [h,List.drop_eq_getElem_cons hk]
 have e:rl.getD k default=rl[k]:=by rw [List.getD_eq_getElem?_getD,List.getElem?_eq_getElem hk];rfl
 rw [e] at hs
 show (zCZ mm rl[k]).bind _=_
 rw [hs]
 rfl
theorem zFM {was mm:List zS} {rl:List zY} {k:Nat} (hk:rl.length≤k) (h:zCe was rl=zCe mm (rl.drop k)):zCe was rl=some mm:=by
 rw [h,List.drop_of_length_le hk]
 rfl
theorem zE2 {m:List zS} {r:zY} (h:((zT r.id m).isSome==(r.k==0))=true):zCZ m r=none:=by
 unfold zCZ
 cases hg:zT r.id m with
 | none =>
  rw [hg] at h
  have:r.k≠0:=by simpa using h
  exact if_neg this
 | some x =>
  rw [hg] at h
  have:r.k=0:=by simpa using h
  exact if_pos this
theorem zRb {m:List zS} {r:zY} (h:((zT r.id m).isSome==(r.k==0))=false) (h2:(zT r.id m).isSome=false):zCZ m r=some (zIa (zE8 r) m):=by
 rw [h2] at h
 have:r.k=0:=by simpa using h
 unfold zCZ
 rw [show zT r.id m=none by cases h:zT r.id m<;>simp_all]
 exact if_pos this
theorem zY5 {m:List zS} {r:zY} {x:zS} (h:((zT r.id m).isSome==(r.k==0))=false) (hx:zT r.id m=some x):r.k≠0:=by
 rw [hx] at h
 simpa using h
theorem zSP {m:List zS} {r:zY} {x:zS} (hx:zT r.id m=some x) (h2:r.k=2):zCZ m r=some (zFp r.id m):=by
 unfold zCZ
 rw [hx]
 exact (if_neg (by omega)).trans (if_pos h2)
theorem zTF {m:List zS} {r:zY} {x:zS} (hx:zT r.id m=some x) (h0:r.k≠0) (h2:r.k≠2):zCZ m r=some (zIa (zU x r).1 m):=by
 unfold zCZ
 rw [hx]
 exact (if_neg h0).trans (if_neg h2)
theorem zTZ {l:List zY} {k:Nat} (h:k<l.length):l.getD k default=l[k]:=by rw [List.getD_eq_getElem?_getD,List.getElem?_eq_getElem h];rfl
theorem zaP {m:List zS} {rl:List zY} {k:Nat} {x:zS} (hr:zCg rl=0) (hk:k<rl.length) (hx:zT (rl.getD k default).id m=some x) (h0:(rl.getD k default).k≠0) (h2:(rl.getD k default).k≠2):(zU x (rl.getD k default)).1.id=(rl.getD k default).id:=by
 have hc:zAY (rl.getD k default)=0:=by rw [zTZ hk];exact ((zGC hr).2 _ (List.getElem_mem hk)).1
 have hid:=(zGV hx).2
 rw [(zID hc hid.symm h0 h2).1,hid]
theorem zD5 {was:List zS} {rl:List zY} (hw:Srt was) (hr:zCg rl=0) (h:zCe was rl=none):apl was rl=none:=by
 have:=zOU _ was rl (Nat.le_refl _) [] was (List.Perm.refl _) hw (by simp) (zGC hr).1 (λr h=>((zGC hr).2 r h).1)
 cases ha:apl was rl with
 | none=>rfl
 | some l =>
  obtain ⟨_,m',h1,_⟩:=this.2 l ha
  rw [h] at h1
  cases h1
theorem zDD {was mm:List zS} {rl:List zY} (hw:Srt was) (hr:zCg rl=0) (h:zCe was rl=some mm):∃ l,apl was rl=some l∧mm.Perm l∧Srt l:=by
 have:=zOU _ was rl (Nat.le_refl _) [] was (List.Perm.refl _) hw (by simp) (zGC hr).1 (λr h=>((zGC hr).2 r h).1)
 cases ha:apl was rl with
 | none=>rw [this.1 ha] at h;cases h
 | some l =>
  obtain ⟨h0,m',h1,h2⟩:=this.2 l ha
  rw [h] at h1
  cases h1
  exact ⟨l,rfl,by simpa using h2,by simpa using h0⟩
theorem zVC {l l':List zS} (p:l.Perm l') (h:l.Pairwise (λx y=>x.id≤y.id)) (h':Srt l'):l=l':=zKl (λe:zS=>e.id) p h h'
section
variable {at_ atm bt btm : Int} {a b : List zS}
theorem zVG (h:zMI bt btm b=0) (hwb:∀ x∈b,x.wf):zAB bt btm b=0∧mE [] b=0∧Two [] b:=by
 have h1:zAB bt btm b=0:=by
  cases hs:zAB bt btm b with
  | zero=>rfl
  | succ n=>rw [zQC (by omega)] at h;omega
 have p:=zCR h1
 exact ⟨h1,by rw [← zI3 h1];exact h,zSX (zGB p.2.2.2.2.2) (zOR p.2.2.2.2.2) hwb⟩
theorem zXm (hwb:∀ x∈b,x.wf):∀ r∈(fG bt btm b).l,r.wf:=by
 by_cases h:zMI bt btm b=0
 ·rw [zbn h]
  exact zcC (zVG h hwb).2.2
 ·rw [zbx h];simp
theorem zaf : ((fG bt btm b).t=bt∨(fG bt btm b).t=0)∧((fG bt btm b).tm=btm∨(fG bt btm b).tm=0)∧((fG bt btm b).b = -1∨(fG bt btm b).b=0):=by
 by_cases h:zMI bt btm b=0
 · rw [zbn h];simp
 · rw [zbx h];simp
theorem zN7 {gt gtm gb:Int} {rl:List zY}:((aS at_ atm a gt gtm gb rl).t=gt∨(aS at_ atm a gt gtm gb rl).t=0)∧((aS at_ atm a gt gtm gb rl).tm=gtm∨(aS at_ atm a gt gtm gb rl).tm=0)∧(aS at_ atm a gt gtm gb rl).l.length≤64:=by
 by_cases h:aE at_ atm a gt gtm gb rl=0
 ·rw [zcB h]
  obtain ⟨_,_,l,hl,hn⟩:=zUc h
  rw [hl]
  simpa using hn
 ·rw [zZ0 h];simp
end
abbrev e7 : zS:=⟨7,0,0,0,0,0,0,5#16,0#8⟩
end Go.Sx
