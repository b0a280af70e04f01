import Derived.Test.YtajjkegcfmhghaaGreatQSxBasA
import Derived.Test.YtajjkegcfmhghaaGreatQSxRecs
import Derived.Test.YtajjkegcfmhghaaGreatQSxBasB
set_option linter.unusedVariables false
set_option linter.unusedSimpArgs false
namespace Go.Sx
def zCt (s:BitVec 32):BitVec 32:=(s>>>1)^^^(3988292384#32 &&& -(s&&&1#32))
def zJF : Nat→BitVec 32→BitVec 32
 | 0,s=>s
 | k+1,s=>zCt (zJF k s)
def zLD (s:BitVec 32) (c:zN):BitVec 32:=zJF 8 (s^^^c.setWidth 32)
def zEi (s:BitVec 32) (bs:List zN):BitVec 32:=bs.foldl zLD s
def zOB (s:BitVec 32) (bs:List zN):BitVec 32 := ~~~(zEi (~~~s) bs)
def zBn (bs:List zN):BitVec 32:=zOB 0#32 bs
theorem zHt (s:BitVec 32) (a b:List zN):zEi s (a++b)=zEi (zEi s a) b:=by simp [zEi]
theorem zQi (s:BitVec 32) (bs:List zN) (k:Nat) (h:k<bs.length):zEi s (bs.take (k+1))=zLD (zEi s (bs.take k)) (bs.getD k 0):=by
 unfold zEi
 rw [List.take_succ_eq_append_getElem h,List.foldl_append]
 simp [List.getD_eq_getElem?_getD,h]
def be4 (s:BitVec 32):List zN:=[(s>>>24).setWidth 8,(s>>>16).setWidth 8,(s>>>8).setWidth 8,s.setWidth 8]
def zCp (bs:List zN):List zN:=bs++be4 (zBn bs)
theorem zA6 (bs:List zN):(zCp bs).length=bs.length+4:=by simp [zCp,be4]
def beN (bs:List zN):BitVec 32:=bs.foldl (λs c=>(s<<<8)|||c.setWidth 32) 0#32
theorem zWh (bs:List zN) (k:Nat) (h:k<bs.length):beN (bs.take (k+1))=(beN (bs.take k)<<<8)|||(bs.getD k 0).setWidth 32:=by
 unfold beN
 rw [List.take_succ_eq_append_getElem h,List.foldl_append]
 simp [List.getD_eq_getElem?_getD,h]
theorem zcw (s:BitVec 32) (c:zN) (h:s.toNat<2 ^ 24):((s<<<8)|||c.setWidth 32).toNat=s.toNat*256+c.toNat:=by
 have hc:=c.isLt
 rw [BitVec.toNat_or,BitVec.toNat_shiftLeft,BitVec.toNat_setWidth,Nat.shiftLeft_eq,Nat.mod_eq_of_lt (by omega),Nat.mod_eq_of_lt (by omega)]
 rw [Nat.mul_comm,← Nat.two_pow_add_eq_or_of_lt hc]
theorem zdo (a b c d:zN):(beN [a,b,c,d]).toNat=a.toNat*16777216+b.toNat*65536+c.toNat*256+d.toNat:=by
 simp only [beN,List.foldl_cons,List.foldl_nil]
 have ha:=a.isLt
 have hb:=b.isLt
 have hc:=c.isLt
 have hd:=d.isLt
 have h0:(0#32:BitVec 32).toNat=0:=rfl
 have h1:=zcw 0#32 a (by omega)
 have h2:=zcw _ b (by rw [h1];omega)
 have h3:=zcw _ c (by rw [h2,h1];omega)
 have h4:=zcw _ d (by rw [h3,h2,h1];omega)
 rw [h4,h3,h2,h1]
 omega
theorem zNr (s:BitVec 32):beN (be4 s)=s:=by
 apply BitVec.eq_of_toNat_eq
 have:=s.isLt
 rw [be4,zdo]
 simp only [BitVec.toNat_setWidth,BitVec.toNat_ushiftRight,Nat.shiftRight_eq_div_pow]
 omega
theorem zUc (a b c d:zN):be4 (beN [a,b,c,d])=[a,b,c,d]:=by
 have h:=zdo a b c d
 have ha:=a.isLt
 have hb:=b.isLt
 have hc:=c.isLt
 have hd:=d.isLt
 simp only [be4,List.cons.injEq,and_true]
 refine ⟨?_,?_,?_,?_⟩<;>apply BitVec.eq_of_toNat_eq<;>simp only [BitVec.toNat_setWidth,BitVec.toNat_ushiftRight,Nat.shiftRight_eq_div_pow,h]<;>omega
theorem zaY : ∀ (l:List zN),l.length=4→be4 (beN l)=l
 | [a,b,c,d],_=>zUc a b c d
def zCX (bs:List zN):Option (List zN) :=
 if bs.length<4 then none else if beN (bs.drop (bs.length-4))=zBn (bs.take (bs.length-4)) then some (bs.take (bs.length-4)) else none
theorem zLu (bs:List zN):zCX (zCp bs)=some bs:=by
 unfold zCX
 have hl:=zA6 bs
 rw [if_neg (by omega),hl,show bs.length+4-4=bs.length by omega]
 have h1:(zCp bs).drop bs.length=be4 (zBn bs):=by simp [zCp]
 have h2:(zCp bs).take bs.length=bs:=by simp [zCp]
 rw [h1,h2,zNr,if_pos rfl]
theorem zJB (bs x:List zN):zCX bs=some x↔bs=zCp x:=by
 constructor
 ·intro h
  unfold zCX at h
  split at h
  ·cases h
  ·rename_i hl
   split at h
   ·rename_i he
    injection h with h
    subst h
    unfold zCp
    rw [← he,zaY _ (by simp;omega),List.take_append_drop]
   ·cases h
 ·rintro rfl
  exact zLu x
theorem zN2 : 3988292384#32 &&& -1#32=3988292384#32:=by decide
theorem zCJ {s:BitVec 32} (h:s&&&1#32=1#32):zCt s=(s>>>1)^^^3988292384#32:=by
 unfold zCt;rw [h,zN2]
theorem zBY {s:BitVec 32} (h:s&&&1#32=0#32):zCt s=s>>>1:=by
 unfold zCt;rw [h];simp
theorem zdK (x:BitVec 32):(zCt x).getLsbD 31=x.getLsbD 0:=by
 rcases Nat.mod_two_eq_zero_or_one x.toNat with h | h
 ·have h':x&&&1#32=0#32:=by apply BitVec.eq_of_toNat_eq;simp [Nat.and_one_is_mod,h]
  rw [zBY h',BitVec.getLsbD_ushiftRight,BitVec.getLsbD_of_ge x (1+31) (by omega)]
  simp [BitVec.getLsbD,Nat.testBit_zero,h]
 ·have h':x&&&1#32=1#32:=by apply BitVec.eq_of_toNat_eq;simp [Nat.and_one_is_mod,h]
  rw [zCJ h',BitVec.getLsbD_xor,BitVec.getLsbD_ushiftRight,BitVec.getLsbD_of_ge x (1+31) (by omega)]
  have:(3988292384#32:BitVec 32).getLsbD 31=true:=by decide
  rw [this]
  simp [BitVec.getLsbD,Nat.testBit_zero,h]
theorem zNM (x y:BitVec 32):zCt (x^^^y)=zCt x^^^zCt y:=by
 have hx:x&&&1#32=0#32∨x&&&1#32=1#32:=by
  rcases Nat.mod_two_eq_zero_or_one x.toNat with h | h
  ·left;apply BitVec.eq_of_toNat_eq;simp [Nat.and_one_is_mod,h]
  ·right;apply BitVec.eq_of_toNat_eq;simp [Nat.and_one_is_mod,h]
 have hy:y&&&1#32=0#32∨y&&&1#32=1#32:=by
  rcases Nat.mod_two_eq_zero_or_one y.toNat with h | h
  ·left;apply BitVec.eq_of_toNat_eq;simp [Nat.and_one_is_mod,h]
  ·right;apply BitVec.eq_of_toNat_eq;simp [Nat.and_one_is_mod,h]
 have hd:(x^^^y)&&&1#32=(x&&&1#32)^^^(y&&&1#32):=by
  ext i hi;simp [Bool.and_xor_distrib_right]
 have hs:(x^^^y)>>>1=(x>>>1)^^^(y>>>1):=BitVec.ushiftRight_xor_distrib x y 1
 rcases hx with hx | hx<;>rcases hy with hy | hy
 ·rw [zBY (by rw [hd,hx,hy];rfl),zBY hx,zBY hy,hs]
 ·rw [zCJ (by rw [hd,hx,hy];rfl),zBY hx,zCJ hy,hs,BitVec.xor_assoc]
 ·rw [zCJ (by rw [hd,hx,hy];rfl),zCJ hx,zBY hy,hs,BitVec.xor_assoc,BitVec.xor_assoc,BitVec.xor_comm (y>>>1)]
 ·rw [zBY (by rw [hd,hx,hy];rfl),zCJ hx,zCJ hy,hs]
  rw [BitVec.xor_assoc,← BitVec.xor_assoc 3988292384#32,BitVec.xor_comm 3988292384#32 (y>>>1),BitVec.xor_assoc (y>>>1),BitVec.xor_self,BitVec.xor_zero]
theorem zLm {x:BitVec 32} (h:zCt x=0#32):x=0#32:=by
 have h0:x.getLsbD 0=false:=by rw [← zdK,h];rfl
 have hm:x.toNat%2=0:=by
  rcases Nat.mod_two_eq_zero_or_one x.toNat with h | h
  ·exact h
  ·simp [BitVec.getLsbD,Nat.testBit_zero,h] at h0
 have h':x&&&1#32=0#32:=by apply BitVec.eq_of_toNat_eq;simp [Nat.and_one_is_mod,hm]
 rw [zBY h'] at h
 have:=congrArg BitVec.toNat h
 simp [Nat.shiftRight_eq_div_pow] at this
 apply BitVec.eq_of_toNat_eq
 simp
 omega
theorem zOH {x y:BitVec 32} (h:zCt x=zCt y):x=y:=by
 have:zCt (x^^^y)=0#32:=by rw [zNM,h,BitVec.xor_self]
 have:=zLm this
 exact BitVec.xor_eq_zero_iff.1 this
theorem zNA (k:Nat) {x y:BitVec 32} (h:zJF k x=zJF k y):x=y:=by
 induction k with
 | zero=>exact h
 | succ k ih=>exact ih (zOH h)
theorem zUP {x y:BitVec 32} {c:zN} (h:zLD x c=zLD y c):x=y:=by
 have:=zNA 8 h
 exact (BitVec.xor_left_inj (c.setWidth 32)).1 this
theorem zMz : ∀ (l:List zN) {x y:BitVec 32},zEi x l=zEi y l→x=y
 | [],_,_,h=>h
 | _::l,_,_,h=>zUP (zMz l h)
theorem zZE (p q:List zN) (a b:zN) (h:a≠b) (r:BitVec 32):zEi r (p++a::q)≠zEi r (p++b::q):=by
 rw [zHt,zHt]
 intro e
 have e2:=zMz q (show zEi (zLD (zEi r p) a) q=zEi (zLD (zEi r p) b) q from e)
 have e3:=(BitVec.xor_right_inj _).1 (zNA 8 e2)
 apply h
 have:=congrArg BitVec.toNat e3
 have ha:=a.isLt
 have hb:=b.isLt
 rw [BitVec.toNat_setWidth,BitVec.toNat_setWidth,Nat.mod_eq_of_lt (by omega),Nat.mod_eq_of_lt (by omega)] at this
 exact BitVec.eq_of_toNat_eq this
theorem zaf (x:BitVec 64) (n:Nat) (h0:0<n) (hn:n≤4611686018427387904):∃ k:Nat,k<n∧(x%BitVec.ofInt 64 (n:Int)).toInt=(k:Int):=by
 have e:(x%BitVec.ofInt 64 (n:Int)).toNat=x.toNat%n:=by
  rw [BitVec.toNat_umod,BitVec.ofInt_natCast,BitVec.toNat_ofNat,Nat.mod_eq_of_lt (show n<2 ^ 64 by omega)]
 refine ⟨x.toNat%n,Nat.mod_lt _ h0,?_⟩
 have hlt:=Nat.mod_lt x.toNat h0
 rw [BitVec.toInt_eq_toNat_of_lt (by rw [e];omega),e]
theorem zWI (n:Nat) (h0:0<n) (hn:n≤4611686018427387904):BitVec.ofInt 64 (n:Int)≠0:=by
 intro h
 have:=congrArg BitVec.toNat h
 rw [BitVec.ofInt_natCast,BitVec.toNat_ofNat,Nat.mod_eq_of_lt (show n<2 ^ 64 by omega)] at this
 simp at this
 omega
theorem zT6 (p q:List zN) (x:zN) (i:Nat) (h:p.length=i):(p++x::q).getD i 0=x:=by subst h;simp
theorem zUd (p q:List zN) (x y:zN) (i:Nat) (h:p.length=i):(p++x::q).set i y=p++y::q:=by subst h;simp
theorem zNS (bs:List zN) (i:Nat) (y:zN) (hi:i<(zCp bs).length) (hy:y≠0):zCX ((zCp bs).set i ((zCp bs).getD i 0^^^y))=none:=by
 cases ho:zCX ((zCp bs).set i ((zCp bs).getD i 0^^^y)) with
 | none=>rfl
 | some x =>
  exfalso
  have e:=(zJB _ _).1 ho
  have hl:x.length=bs.length:=by
   have:=congrArg List.length e
   rw [List.length_set,zA6,zA6] at this
   omega
  have hne:∀ c:zN,c^^^y≠c:=λc hc=>hy ((BitVec.xor_right_inj c).1 (by rw [hc];simp))
  rw [zA6] at hi
  rcases Nat.lt_or_ge i bs.length with hlt | hge
  ·-- among the bytes
   have h1:(zCp bs).set i ((zCp bs).getD i 0^^^y)=bs.set i (bs.getD i 0^^^y)++be4 (zBn bs):=by
    unfold zCp
    rw [List.set_append_left _ _ hlt]
    simp [List.getD_eq_getElem?_getD,List.getElem?_append_left hlt]
   rw [h1] at e
   have h2:=List.append_inj e (by simp [hl])
   have h3:zBn bs=zBn x:=by rw [← zNr (zBn bs),h2.2,zNr]
   rw [← h2.1] at h3
   obtain ⟨p,z,q,hb,hp⟩ : ∃ p z q,bs=p++z::q∧p.length=i :=
    ⟨bs.take i,bs[i],bs.drop (i+1),by rw [← List.drop_eq_getElem_cons hlt,List.take_append_drop],by simp;omega⟩
   rw [hb,zT6 _ _ _ i hp,zUd _ _ _ _ i hp] at h3
   exact zZE _ _ _ _ (λh=>hne _ h.symm) _ (BitVec.not_inj.1 h3)
  ·-- in the sum
   have h1:(zCp bs).set i ((zCp bs).getD i 0^^^y)=bs++(be4 (zBn bs)).set (i-bs.length) ((be4 (zBn bs)).getD (i-bs.length) 0^^^y):=by
    unfold zCp
    rw [List.set_append_right _ _ hge]
    simp [List.getD_eq_getElem?_getD,List.getElem?_append_right hge]
   rw [h1] at e
   have h2:=List.append_inj e (by omega)
   rw [← h2.1] at h2
   have h3:=h2.2
   have hlt:i-bs.length<(be4 (zBn bs)).length:=by simp [be4];omega
   have h4:=congrArg (λl=>l.getD (i-bs.length) 0) h3
   simp only [List.getD_eq_getElem?_getD,List.getElem?_set_self hlt,Option.getD_some] at h4
   exact hne _ h4
theorem zcn (k:Nat) (h:k<8):(1#8:zN)<<<k≠0:=by
 have:∀ j:Fin 8,(1#8:zN)<<<j.val≠0:=by decide
 exact this ⟨k,h⟩
theorem zGm (r:zW):(zEA r).length=9:=rfl
theorem zJC {α:Type} [Inhabited α] {l:List α} {j:Nat} (h:j<l.length):l.take (j+1)=l.take j++[l.getD j default]:=by
 rw [List.take_add_one,List.getD_eq_getElem?_getD,List.getElem?_eq_getElem h]
 rfl
theorem zM4 {l:List zW} (h:∀ x∈l,x.wf) {j:Nat} (hj:j<l.length):(l.getD j default).wf:=by
 rw [List.getD_eq_getElem?_getD,List.getElem?_eq_getElem hj]
 exact h _ (List.getElem_mem hj)
def zCM (O:List zW):List zN×Int:=O.foldl (λs r=>(s.1++zCb r s.2,r.id)) ([],-1)
theorem zC7 {O:List zW} {k:Nat} (h:k<O.length):zCM (O.take (k+1))=((zCM (O.take k)).1++zCb (O.getD k default) (zCM (O.take k)).2,(O.getD k default).id):=by
 unfold zCM
 rw [zJC h,List.foldl_append]
 rfl
theorem zPG : ∀ (O:List zW) (s:List zN×Int),∃ rest,(O.foldl (λs r=>(s.1++zCb r s.2,r.id)) s).1=s.1++rest
 | [],s=>⟨[],by simp⟩
 | r::O,s=>by
  obtain ⟨rest,h⟩:=zPG O (s.1++zCb r s.2,r.id)
  exact ⟨zCb r s.2++rest,by rw [List.foldl_cons,h];simp⟩
theorem zQM {O:List zW} (k:Nat):∃ rest,(zCM O).1=(zCM (O.take k)).1++rest:=by
 have:zCM O=(O.drop k).foldl (λs r=>(s.1++zCb r s.2,r.id)) (zCM (O.take k)):=by
  unfold zCM
  rw [← List.foldl_append,List.take_append_drop]
 rw [this]
 exact zPG _ _
theorem zIg (O:List zW) (r:zW):zCM (O++[r])=((zCM O).1++zCb r (zCM O).2,r.id):=by unfold zCM;rw [List.foldl_append];rfl
theorem zOQ : ∀ (O:List zW),(zCM O).1.length≤100*O.length:=by
 have key:∀ (O:List zW) (s:List zN×Int),(O.foldl (λs r=>(s.1++zCb r s.2,r.id)) s).1.length≤s.1.length+100*O.length:=by
  intro O
  induction O with
  | nil=>intro s;simp
  | cons r O ih =>
   intro s
   have h1:=ih (s.1++zCb r s.2,r.id)
   have h2:=zIc r s.2
   rw [List.foldl_cons]
   simp only [List.length_append,List.length_cons] at h1 ⊢
   omega
 intro O
 have:=key O ([],-1)
 simpa [zCM] using this
def zEr (l:List zW) (k:Nat):Nat:=zAt (l.getD k default) (zCM (l.take k)).2
def zCA (l:List zW):Nat→Nat
 | 0=>0
 | j+1=>if zCA l j≠0 then zCA l j else zEr l j
def zB8 (l:List zW):Nat:=zCA l l.length
theorem zL6 {l:List zW} {j:Nat} (h:zCA l j=0) (h2:zEr l j=0):zCA l (j+1)=0:=by unfold zCA;rw [if_neg (by omega),h2]
theorem zQK {l:List zW} {j:Nat} (h:zCA l j=0):zCA l (j+1)=zEr l j:=by unfold zCA;rw [if_neg (by omega)]
theorem zJL {l:List zW} {j e:Nat} (h:zCA l j=e) (he:e≠0):∀ k,zCA l (j+k)=e
 | 0=>h
 | k+1=>by
  have:=zJL h he k
  show (if zCA l (j+k)≠0 then zCA l (j+k) else zEr l (j+k))=e
  rw [if_pos (by omega),this]
theorem zHb {l:List zW} {j:Nat} (hj:j<l.length) (h:zCA l j=0) (he:zEr l j≠0):zB8 l=zEr l j:=by
 have:=zJL (zQK h) he (l.length-(j+1))
 rwa [show j+1+(l.length-(j+1))=l.length by omega] at this
theorem zFb {l:List zW} {j:Nat} (h:zCA l j=0):∀ k,k<j→zEr l k=0:=by
 induction j with
 | zero=>intro k hk;omega
 | succ j ih =>
  unfold zCA at h
  split at h
  ·omega
  ·intro k hk
   by_cases e:k=j
   ·subst e;exact h
   ·exact ih (by omega) k (by omega)
theorem zOE {l:List zW} {j:Nat} (hj:j≤l.length) (h:zCA l j=0) : -1≤(zCM (l.take j)).2∧(zCM (l.take j)).2≤65535:=by
 cases j with
 | zero=>exact ⟨(show -1≤(-1:Int) by decide),(show (-1:Int)≤65535 by decide)⟩
 | succ j =>
  have h1:=zDJ (zFb h j (by omega))
  rw [zC7 (by omega)]
  dsimp only
  omega
def zE2 (t tm b:Int) (m:Nat):Nat:=if t<0∨4294967295<t∨tm < -2305843009213693952∨2305843009213693952<tm∨b < -1 then 3 else if t≤b then 10 else if 128<m then 8 else 0
def zFw (t b:Int):BitVec 64:=if 0≤b then BitVec.ofInt 64 (t-b) else 0#64
def zBC (t tm b:Int) (m:Nat):List zN:=[71#8,1#8]++zBt (BitVec.ofInt 64 t).toNat++zBt (zFE tm).toNat++zBt (zFw t b).toNat++zBt (BitVec.ofInt 64 (m:Int)).toNat
def zBv (t tm b:Int) (m:Nat):List zN:=if zE2 t tm b m≠0 then [] else zBC t tm b m
def zAV (t tm b:Int) (l:List zW):Nat:=if zE2 t tm b l.length≠0 then zE2 t tm b l.length else zB8 l
def zBg (t tm b:Int) (l:List zW):List zN:=if zAV t tm b l≠0 then [] else zBC t tm b l.length++(zCM l).1
def zD2 (t tm b:Int) (l:List zW):Nat:=if zAV t tm b l≠0 then zAV t tm b l else if 4092<(zBg t tm b l).length then 8 else 0
def gwB (t tm b:Int) (l:List zW):List zN:=if zD2 t tm b l≠0 then [] else zCp (zBg t tm b l)
theorem zG5 (t tm b:Int) (m:Nat):(zBC t tm b m).length≤42:=by
 have h1:=zEm (BitVec.ofInt 64 t).toNat
 have h2:=zEm (zFE tm).toNat
 have h3:=zEm (zFw t b).toNat
 have h4:=zEm (BitVec.ofInt 64 (m:Int)).toNat
 unfold zBC
 simp only [List.length_append,List.length_cons,List.length_nil]
 omega
theorem zD1 {t tm b:Int} {m:Nat} (h:t<0∨4294967295<t∨tm < -2305843009213693952∨2305843009213693952<tm∨b < -1):zE2 t tm b m=3:=by unfold zE2;rw [if_pos h]
theorem zCh {t tm b:Int} {m:Nat} (h:¬ (t<0∨4294967295<t∨tm < -2305843009213693952∨2305843009213693952<tm∨b < -1)) (h2:t≤b):zE2 t tm b m=10:=by unfold zE2;rw [if_neg h,if_pos h2]
theorem zDz {t tm b:Int} {m:Nat} (h:¬ (t<0∨4294967295<t∨tm < -2305843009213693952∨2305843009213693952<tm∨b < -1)) (h2:¬ t≤b) (h3:128<m):zE2 t tm b m=8:=by unfold zE2;rw [if_neg h,if_neg h2,if_pos h3]
theorem zGh {t tm b:Int} {m:Nat} (h:¬ (t<0∨4294967295<t∨tm < -2305843009213693952∨2305843009213693952<tm∨b < -1)) (h2:¬ t≤b) (h3:¬ 128<m):zE2 t tm b m=0:=by unfold zE2;rw [if_neg h,if_neg h2,if_neg h3]
theorem zFl {t tm b:Int} {m:Nat} (h:zE2 t tm b m=0):0≤t∧t≤4294967295 ∧ -2305843009213693952≤tm∧tm≤2305843009213693952 ∧ -1≤b∧b<t∧m≤128:=by
 unfold zE2 at h
 split at h
 ·cases h
 ·split at h
  ·cases h
  ·split at h
   ·cases h
   ·omega
theorem zCQ {t tm b:Int} {l:List zW} (h:zE2 t tm b l.length≠0):zAV t tm b l=zE2 t tm b l.length:=by unfold zAV;rw [if_pos h]
theorem zBy {t tm b:Int} {l:List zW} (h:zE2 t tm b l.length=0):zAV t tm b l=zB8 l:=by unfold zAV;rw [if_neg (by omega)]
theorem zGq {t tm b:Int} {l:List zW} (h:zAV t tm b l≠0):zBg t tm b l=[]:=by unfold zBg;rw [if_pos h]
theorem zGp {t tm b:Int} {l:List zW} (h:zAV t tm b l=0):zBg t tm b l=zBC t tm b l.length++(zCM l).1:=by unfold zBg;rw [if_neg (by omega)]
theorem zDM {t tm b:Int} {l:List zW} (h:zAV t tm b l=0):zE2 t tm b l.length=0∧zB8 l=0:=by
 unfold zAV at h
 split at h
 · omega
 · exact ⟨by omega,h⟩
theorem zHx (t tm b:Int) (l:List zW):(zBg t tm b l).length≤12842:=by
 unfold zBg
 split
 ·simp
 ·rename_i h
  have h1:=zFl (zDM (by omega:zAV t tm b l=0)).1
  have h2:=zG5 t tm b l.length
  have h3:=zOQ l
  simp only [List.length_append]
  omega
theorem zDT (t tm b:Int) (l:List zW):(gwB t tm b l).length≤4096:=by
 unfold gwB
 split
 ·simp
 ·rename_i h
  have h1:zD2 t tm b l=0:=by omega
  unfold zD2 at h1
  rw [zA6]
  split at h1
  ·omega
  ·split at h1
   ·cases h1
   ·omega
theorem zEY {t tm b:Int} {l:List zW} (h:zD2 t tm b l=0):zAV t tm b l=0∧(zBg t tm b l).length≤4092:=by
 unfold zD2 at h
 split at h
 ·omega
 ·split at h
  ·cases h
  ·omega
theorem zFj {t tm b:Int} {l:List zW} (h:zD2 t tm b l=0):gwB t tm b l=zCp (zBg t tm b l):=by unfold gwB;rw [if_neg (by omega)]
theorem zaC {t tm b:Int} {l:List zW} (h:zD2 t tm b l=0):zCX (gwB t tm b l)=some (zBg t tm b l):=by rw [zFj h];exact zLu _
def zEC (c:zN) (bs:List zN) (R:Rs):Rs:=if (zH bs R).1.toNat=c.toNat then (zH bs R).2 else zBh 7 (zH bs R).2
def zMj (bs:List zN) (R:Rs):Rs:=zEC 1#8 bs (zEC 71#8 bs R)
def gT (bs:List zN) (R:Rs):Int×Rs:=((((zL bs 4294967295#64 R).1.toNat:Nat):Int),(zL bs 4294967295#64 R).2)
def gTm (bs:List zN) (R:Rs):Int×Rs:=((zAA bs R).1,if -2305843009213693952≤(zAA bs R).1∧(zAA bs R).1≤2305843009213693952 then (zAA bs R).2 else zBh 3 (zAA bs R).2)
def gB (bs:List zN) (t:Int) (R:Rs):Int×Rs:=(if 0<(zL bs (BitVec.ofInt 64 t) R).1.toNat then t-(((zL bs (BitVec.ofInt 64 t) R).1.toNat:Nat):Int) else -1,(zL bs (BitVec.ofInt 64 t) R).2)
def zKX (bs:List zN) (s:List zW×Int×Rs):List zW×Int×Rs :=
 if (zAF bs s.2.1 s.2.2).2.1≠0 then (s.1,s.2.1,(zAF bs s.2.1 s.2.2).2.2) else (s.1++[(zAF bs s.2.1 s.2.2).1],(zAF bs s.2.1 s.2.2).1.id,(zAF bs s.2.1 s.2.2).2.2)
def zJc (bs:List zN) (s:List zW×Int×Rs):Nat→List zW×Int×Rs
 | 0=>s
 | i+1=>if (zJc bs s i).2.2.e≠0 then zJc bs s i else zKX bs (zJc bs s i)
def zT (bs:List zN) (R:Rs) (i:Nat):List zW×Int×Rs:=zJc bs ([],-1,(zL bs 128#64 R).2) i
def gN (bs:List zN) (R:Rs):Nat:=(zL bs 128#64 R).1.toNat
def gR1 (x:List zN):Rs:=zMj x ⟨0,0⟩
def gTx (x:List zN):Int×Rs:=gT x (gR1 x)
def zDt (x:List zN):Int×Rs:=gTm x (gTx x).2
def gBx (x:List zN):Int×Rs:=gB x (gTx x).1 (zDt x).2
def gSx (x:List zN):List zW×Int×Rs:=zT x (gBx x).2 (gN x (gBx x).2)
def gEx (x:List zN):Nat:=zHZ x (gSx x).2.2
structure zBl where
 t:Int
 tm:Int
 b:Int
 l:List zW
 e:Nat
def zA (bs:List zN):zBl :=
 if 4096<bs.length then ⟨0,0,0,[],8⟩ else match zCX bs with
  | none=>⟨0,0,0,[],9⟩
  | some x=>if gEx x≠0 then ⟨0,0,0,[],gEx x⟩ else ⟨(gTx x).1,(zDt x).1,(gBx x).1,(gSx x).1,0⟩
theorem zL8 {X:BitVec 64} (h:X.toNat≤9223372036854775807):X.toInt=((X.toNat:Nat):Int):=by rw [BitVec.toInt_eq_toNat_cond,if_pos (by omega)]
theorem zLq (i:Nat):BitVec.ofNat 64 i+1#64=BitVec.ofNat 64 (i+1):=by
 apply BitVec.eq_of_toNat_eq
 simp
theorem zGu {c:zN} {bs:List zN} {R:Rs} (h:R.p≤bs.length):(zEC c bs R).p≤bs.length∧R.p≤(zEC c bs R).p:=by
 have h1:=zDL h
 have h2:=zBi (e:=7) h1.1
 unfold zEC
 split<;>omega
theorem zM3 {bs:List zN} {R:Rs} (h:R.p≤bs.length):(zMj bs R).p≤bs.length:=(zGu (zGu h).1).1
theorem zbW {bs:List zN} {R:Rs} (h:R.p≤bs.length):(gT bs R).2.p≤bs.length∧0≤(gT bs R).1∧(gT bs R).1≤4294967295:=by
 have h1:=zAl (X:=4294967295#64) h
 have h2:(4294967295#64).toNat=4294967295:=rfl
 unfold gT
 dsimp only
 omega
theorem zXU {bs:List zN} {R:Rs} (h:R.p≤bs.length):(gTm bs R).2.p≤bs.length ∧ -9223372036854775808≤(gTm bs R).1∧(gTm bs R).1≤9223372036854775807:=by
 have h1:=zDX h
 have h2:=zBi (e:=3) h1.1
 have h3 : -9223372036854775808≤(zAA bs R).1∧(zAA bs R).1≤9223372036854775807:=by unfold zAA;exact zE4 _
 unfold gTm
 dsimp only
 split<;>omega
theorem zcr {bs:List zN} {t:Int} {R:Rs} (h:R.p≤bs.length) (ht:0≤t∧t≤4294967295):(gB bs t R).2.p≤bs.length ∧ -1≤(gB bs t R).1∧(gB bs t R).1≤4294967295:=by
 have h1:=zAl (X:=BitVec.ofInt 64 t) h
 have h2:=zCu (x:=t) (by omega) (by omega)
 unfold gB
 dsimp only
 split<;>omega
structure zXr (bs:List zN) (i:Nat) (s:List zW×Int×Rs):Prop where
 p:s.2.2.p≤bs.length
 lo : -1≤s.2.1
 hi:s.2.1≤65535
 len:s.1.length≤i
theorem zNW {bs:List zN} {last:Int} {R:Rs} (h : -1≤last∧last≤65535):(zAF bs last R).2.1=(zAF bs last R).2.2.e:=by
 unfold zAF
 rw [if_neg (by omega)]
 split
 ·rfl
 ·split
  ·rfl
  ·rename_i h1
   exact (Decidable.not_not.1 h1).symm
theorem zWs (bs:List zN) (last:Int) (R:Rs):(zD4 bs last R).1.id=last+1+(((zIz bs last R).1.toNat:Nat):Int):=by
 unfold zD4 zBB zBW zAj
 dsimp only
 (repeat' split)<;>rfl
theorem zWb {bs:List zN} {last:Int} {R:Rs} (hp:R.p≤bs.length) (h : -1≤last∧last≤65535) (h0:(zAF bs last R).2.1=0):last<(zAF bs last R).1.id∧(zAF bs last R).1.id≤65535:=by
 unfold zAF at h0 ⊢
 rw [if_neg (by omega)] at h0 ⊢
 by_cases hl:last=65535
 ·rw [if_pos hl] at h0
  unfold zBh at h0
  split at h0
  ·simp at h0
  ·contradiction
 ·rw [if_neg hl] at h0 ⊢
  split at h0
  ·contradiction
  ·rename_i h1
   rw [if_neg h1]
   dsimp only
   rw [zWs]
   have h2:=zAl (X:=BitVec.ofInt 64 (65534-last)) hp
   have h3:=zCu (x:=65534-last) (by omega) (by omega)
   unfold zIz
   omega
theorem zTj {bs:List zN} {i:Nat} {s:List zW×Int×Rs} (h:zXr bs i s):zXr bs (i+1) (zKX bs s):=by
 have hp:=zK4 (last:=s.2.1) h.p
 have hl:=h.len
 unfold zKX
 split
 ·exact ⟨hp.1,h.lo,h.hi,by dsimp only;omega⟩
 ·rename_i h0
  have hi:=zWb h.p ⟨h.lo,h.hi⟩ (by omega)
  have hlo:=h.lo
  refine ⟨hp.1,by dsimp only;omega,by dsimp only;omega,by simp only [List.length_append,List.length_singleton];omega⟩
theorem zLZ {bs:List zN} {s:List zW×Int×Rs} (h:zXr bs 0 s):∀ i,zXr bs i (zJc bs s i)
 | 0=>h
 | i+1=>by
  unfold zJc
  have h1:=zLZ h i
  split
  ·exact ⟨h1.p,h1.lo,h1.hi,Nat.le_succ_of_le h1.len⟩
  ·exact zTj h1
theorem zXv {bs:List zN} {R:Rs} (hR:R.p≤bs.length):zXr bs 0 ([],-1,(zL bs 128#64 R).2):=⟨(zAl hR).1,Int.le_refl _,by show (-1:Int)≤65535;decide,Nat.le_refl 0⟩
theorem zCZ {bs:List zN} {R:Rs} (hR:R.p≤bs.length) (i:Nat):zXr bs i (zT bs R i):=zLZ (zXv hR) i
theorem zIy {bs:List zN} {s:List zW×Int×Rs} {i:Nat} (h:(zJc bs s i).2.2.e≠0):∀ k,zJc bs s (i+k)=zJc bs s i
 | 0=>rfl
 | k+1=>by
  have h1:=zIy h k
  show (if (zJc bs s (i+k)).2.2.e≠0 then zJc bs s (i+k) else _)=_
  rw [h1,if_pos h]
theorem zVU (bs:List zN) (R:Rs):gN bs R≤128:=by
 have h2:(128#64).toNat=128:=rfl
 unfold gN zL
 split
 ·exact Nat.zero_le _
 ·split
  ·exact Nat.zero_le _
  ·split
   ·exact Nat.zero_le _
   ·rename_i h
    have h1:=(zKV (Decidable.not_not.1 h)).2
    dsimp only
    omega
theorem zU5 {bs:List zN} {R:Rs}:gN bs R≤0∨(zT bs R 0).2.2.e=0:=by
 show (zL bs 128#64 R).1.toNat≤0∨(zL bs 128#64 R).2.e=0
 unfold zL
 (repeat' split)<;>first | exact .inl (Nat.le_refl 0) | exact .inr rfl
theorem zII {bs:List zN} {R:Rs} {i:Nat} (h:(zT bs R i).2.2.e=0) (h0:(zAF bs (zT bs R i).2.1 (zT bs R i).2.2).2.1=0):zT bs R (i+1)=((zT bs R i).1++[(zAF bs (zT bs R i).2.1 (zT bs R i).2.2).1],(zAF bs (zT bs R i).2.1 (zT bs R i).2.2).1.id,(zAF bs (zT bs R i).2.1 (zT bs R i).2.2).2.2):=by
 show zJc _ _ (i+1)=_
 unfold zJc
 rw [if_neg (by unfold zT at h;omega)]
 unfold zKX
 rw [if_neg (by unfold zT at h0;omega)]
 rfl
theorem zPx {bs:List zN} {R:Rs} {i:Nat} (hR:R.p≤bs.length) (h:(zT bs R i).2.2.e=0) (h0:(zAF bs (zT bs R i).2.1 (zT bs R i).2.2).2.1=0):(zT bs R (i+1)).2.2.e=0:=by
 have hi:=zCZ hR i
 rw [zII h h0,← h0]
 exact (zNW ⟨hi.lo,hi.hi⟩).symm
theorem zTT {bs:List zN} {R:Rs} {i:Nat} (hR:R.p≤bs.length) (hi:i<gN bs R) (h:(zT bs R i).2.2.e=0) (h0:(zAF bs (zT bs R i).2.1 (zT bs R i).2.2).2.1≠0):zT bs R (gN bs R)=((zT bs R i).1,(zT bs R i).2.1,(zAF bs (zT bs R i).2.1 (zT bs R i).2.2).2.2):=by
 have hv:=zCZ hR i
 have h1:zT bs R (i+1)=((zT bs R i).1,(zT bs R i).2.1,(zAF bs (zT bs R i).2.1 (zT bs R i).2.2).2.2):=by
  show zJc _ _ (i+1)=_
  unfold zJc
  rw [if_neg (by unfold zT at h;omega)]
  unfold zKX
  rw [if_pos (by unfold zT at h0;omega)]
  rfl
 have h2:=zNW (bs:=bs) (R:=(zT bs R i).2.2) ⟨hv.lo,hv.hi⟩
 have h3:=zIy (bs:=bs) (s:=([],-1,(zL bs 128#64 R).2)) (i:=i+1) (by
  show (zT bs R (i+1)).2.2.e≠0
  rw [h1]
  dsimp only
  omega) (gN bs R-(i+1))
 rw [show i+1+(gN bs R-(i+1))=gN bs R by omega] at h3
 exact h3.trans h1
theorem zHF {bs:List zN} (h:4096<bs.length):zA bs=⟨0,0,0,[],8⟩:=by unfold zA;rw [if_pos h]
theorem zFn {bs:List zN} (h:¬ 4096<bs.length) (ho:zCX bs=none):zA bs=⟨0,0,0,[],9⟩:=by unfold zA;rw [if_neg h,ho]
theorem zJU {bs x:List zN} (h:¬ 4096<bs.length) (ho:zCX bs=some x) (he:gEx x≠0):zA bs=⟨0,0,0,[],gEx x⟩:=by
 unfold zA
 rw [if_neg h,ho]
 dsimp only
 rw [if_pos he]
theorem zIJ {bs x:List zN} (h:¬ 4096<bs.length) (ho:zCX bs=some x) (he:gEx x=0):zA bs=⟨(gTx x).1,(zDt x).1,(gBx x).1,(gSx x).1,0⟩:=by
 unfold zA
 rw [if_neg h,ho]
 dsimp only
 rw [if_neg (by omega)]
theorem zS8 (x:List zN):(gR1 x).p≤x.length:=zM3 (Nat.zero_le _)
theorem zMb (x:List zN):(gTx x).2.p≤x.length∧0≤(gTx x).1∧(gTx x).1≤4294967295:=zbW (zS8 x)
theorem zKd (x:List zN):(zDt x).2.p≤x.length ∧ -9223372036854775808≤(zDt x).1∧(zDt x).1≤9223372036854775807:=zXU (zMb x).1
theorem zKN (x:List zN):(gBx x).2.p≤x.length ∧ -1≤(gBx x).1∧(gBx x).1≤4294967295:=zcr (zKd x).1 (zMb x).2
theorem zNv (x:List zN):(gSx x).1.length≤128:=by unfold gSx;exact Nat.le_trans (zCZ (zKN x).1 _).len (zVU _ _)
theorem zFR (x:List zN):zT x (gBx x).2 (gN x (gBx x).2)=gSx x:=rfl
theorem zLT (x:List zN):zHZ x (gSx x).2.2=gEx x:=rfl
theorem zda (x:List zN):(gSx x).2.2.p≤x.length:=by rw [← zFR];exact (zCZ (zKN x).1 _).p
theorem zIQ (bs:List zN):(zA bs).l.length≤128∧0≤(zA bs).t∧(zA bs).t≤4294967295 ∧ -9223372036854775808≤(zA bs).tm∧(zA bs).tm≤9223372036854775807 ∧ -1≤(zA bs).b∧(zA bs).b≤4294967295:=by
 unfold zA
 split
 ·simp
 ·split
  ·simp
  ·rename_i x _
   have h1:=zMb x
   have h2:=zKd x
   have h3:=zKN x
   have h4:=zNv x
   split
   ·simp
   ·dsimp only
    omega
theorem zQ0 (x:List zN):zEC 1#8 x (zEC 71#8 x ⟨0,0⟩)=gR1 x:=rfl
theorem zT9 (x:List zN):gTx x=((((zL x 4294967295#64 (gR1 x)).1.toNat:Nat):Int),(zL x 4294967295#64 (gR1 x)).2):=rfl
theorem zTD {x:List zN} (h : -2305843009213693952≤(zAA x (gTx x).2).1∧(zAA x (gTx x).2).1≤2305843009213693952):zDt x=((zAA x (gTx x).2).1,(zAA x (gTx x).2).2):=by unfold zDt gTm;rw [if_pos h]
theorem zXA {x:List zN} (h:¬ (-2305843009213693952≤(zAA x (gTx x).2).1∧(zAA x (gTx x).2).1≤2305843009213693952)):zDt x=((zAA x (gTx x).2).1,zBh 3 (zAA x (gTx x).2).2):=by unfold zDt gTm;rw [if_neg h]
theorem zNg {x:List zN} (h:0<(zL x (BitVec.ofInt 64 (gTx x).1) (zDt x).2).1.toNat):gBx x=((gTx x).1-(((zL x (BitVec.ofInt 64 (gTx x).1) (zDt x).2).1.toNat:Nat):Int),(zL x (BitVec.ofInt 64 (gTx x).1) (zDt x).2).2):=by unfold gBx gB;rw [if_pos h]
theorem zNf {x:List zN} (h:¬ 0<(zL x (BitVec.ofInt 64 (gTx x).1) (zDt x).2).1.toNat):gBx x=(-1,(zL x (BitVec.ofInt 64 (gTx x).1) (zDt x).2).2):=by unfold gBx gB;rw [if_neg h]
theorem zZX {x:List zN} {R:Rs} (h:zHZ x R=0):R.e=0:=by
 unfold zHZ at h
 split at h
 · exact h
 · contradiction
theorem zL1 {l:List zW}:∀ j,(∀ k,k<j→zEr l k=0)→zCA l j=0
 | 0,_=>rfl
 | j+1,h=>zL6 (zL1 j λk hk=>h k (by omega)) (h j (by omega))
theorem zSJ {l:List zW} {r:zW} (h:zB8 l=0) (hr:zAt r (zCM l).2=0):zB8 (l++[r])=0:=by
 refine zL1 _ λk hk=>?_
 rw [List.length_append,List.length_singleton] at hk
 unfold zEr
 by_cases e:k<l.length
 ·rw [List.take_append_of_le_length (by omega),List.getD_eq_getElem?_getD,List.getElem?_append_left e,← List.getD_eq_getElem?_getD]
  exact zFb h k e
 ·rw [show k=l.length by omega,List.take_left,List.getD_eq_getElem?_getD,List.getElem?_append_right (Nat.le_refl _),Nat.sub_self]
  exact hr
structure zdS (bs:List zN) (R':Rs) (i:Nat) (s:List zW×Int×Rs):Prop where
 len:s.1.length=i
 last:(zCM s.1).2=s.2.1
 err:zB8 s.1=0
 wf:∀ x∈s.1,x.wf
 e0:R'.e=0
 drop:bs.drop R'.p=(zCM s.1).1++bs.drop s.2.2.p
 at_:s.2.2.p=R'.p+(zCM s.1).1.length
theorem zKL {bs:List zN} {R:Rs} (hR:R.p≤bs.length):∀ i,(zT bs R i).2.2.e=0→zdS bs (zL bs 128#64 R).2 i (zT bs R i)
 | 0,h=>⟨rfl,rfl,rfl,(by intro x hx;cases hx),h,rfl,rfl⟩
 | i+1,h=>by
  have hv:=zCZ hR i
  by_cases h0:(zT bs R i).2.2.e=0
  ·have ih:=zKL hR i h0
   by_cases h1:(zAF bs (zT bs R i).2.1 (zT bs R i).2.2).2.1=0
   ·have hq:zAF bs (zT bs R i).2.1 (zT bs R i).2.2=((zAF bs (zT bs R i).2.1 (zT bs R i).2.2).1,0,(zAF bs (zT bs R i).2.1 (zT bs R i).2.2).2.2):=by rw [← h1]
    obtain ⟨k1,k2,k3,k4,k5,k6,k7⟩:=zZL hv.p hq
    rw [zII h0 h1]
    generalize zAF bs (zT bs R i).2.1 (zT bs R i).2.2=q at *
    refine ⟨by simp [ih.len],by rw [zIg],zSJ ih.err (by rw [ih.last];exact k1),?_,ih.e0,?_,?_⟩
    ·intro x hx
     rcases List.mem_append.1 hx with hx | hx
     ·exact ih.wf x hx
     ·rw [List.mem_singleton.1 hx];exact k2
    ·dsimp only
     rw [zIg,ih.last,ih.drop,k3]
     simp only [List.append_assoc]
    ·dsimp only
     rw [zIg,ih.last,k4,ih.at_]
     simp only [List.length_append]
     omega
   ·exfalso
    have he:=zNW (bs:=bs) (R:=(zT bs R i).2.2) ⟨hv.lo,hv.hi⟩
    have h3:zT bs R (i+1)=zKX bs (zT bs R i):=by
     show zJc _ _ (i+1)=_
     unfold zJc
     rw [if_neg (by unfold zT at h0;omega)]
     rfl
    rw [h3] at h
    unfold zKX at h
    rw [if_pos h1] at h
    dsimp only at h
    omega
  ·exfalso
   have h3:zT bs R (i+1)=zT bs R i:=zIy (bs:=bs) (s:=([],-1,(zL bs 128#64 R).2)) (i:=i) h0 1
   rw [h3] at h
   exact h0 h
theorem zMH {bs:List zN} {c:zN} {R:Rs} (hp:R.p≤bs.length) (h:(zEC c bs R).e=0):R.e=0∧bs.drop R.p=[c]++bs.drop (zEC c bs R).p:=by
 unfold zEC at h ⊢
 split at h
 ·rename_i h1
  rw [if_pos h1]
  obtain ⟨k1,k2,_⟩:=zIv R hp h
  rw [BitVec.eq_of_toNat_eq h1] at k2
  exact ⟨k1,k2⟩
 ·exact absurd h λh=>zEa h (by decide)
theorem zSP {x:List zN} (h:gEx x=0):zAV (gTx x).1 (zDt x).1 (gBx x).1 (gSx x).1=0∧zBg (gTx x).1 (zDt x).1 (gBx x).1 (gSx x).1=x∧∀ r∈(gSx x).1,r.wf:=by
 have hS0:(gSx x).2.2.e=0:=zZX (by rw [zLT];exact h)
 have hEnd:x.length≤(gSx x).2.2.p:=by
  rw [← zLT] at h
  unfold zHZ at h
  split at h
  ·rename_i h1
   exact h1.resolve_left (by omega)
  ·cases h
 have hB:=zKN x
 have hT:=zMb x
 have hTm:=zKd x
 have hb:=zKL (bs:=x) (R:=(gBx x).2) hB.1 (gN x (gBx x).2) (by rw [zFR];exact hS0)
 rw [zFR] at hb
 have hNm:=zVU x (gBx x).2
 obtain ⟨n1,n2,n3,n4⟩:=zDm (L:=128#64) (gBx x).2 hB.1 hb.e0
 have hBq:(gBx x).2=(zL x (BitVec.ofInt 64 (gTx x).1) (zDt x).2).2:=by
  by_cases h0:0<(zL x (BitVec.ofInt 64 (gTx x).1) (zDt x).2).1.toNat
  ·rw [zNg h0]
  ·rw [zNf h0]
 have hUb:=zAl (X:=BitVec.ofInt 64 (gTx x).1) hTm.1
 have hot:=zCu (x:=(gTx x).1) (by omega) (by omega)
 obtain ⟨b1,b2,b3,b4⟩:=zDm (L:=BitVec.ofInt 64 (gTx x).1) (zDt x).2 hTm.1 (by rw [← hBq];exact n1)
 have hTq : -2305843009213693952≤(zAA x (gTx x).2).1∧(zAA x (gTx x).2).1≤2305843009213693952:=by
  refine Decidable.by_contra λhc=>?_
  rw [zXA hc] at b1
  exact zEa b1 (by decide)
 have hTe:=zTD hTq
 obtain ⟨t1,t2,t3,t4⟩:=zKx (gTx x).2 hT.1 (by rw [hTe] at b1;exact b1)
 obtain ⟨u1,u2,u3,u4⟩:=zDm (L:=4294967295#64) (gR1 x) (zS8 x) (by rw [zT9] at t1;exact t1)
 have hm1:=(zGu (c:=71#8) (bs:=x) (R:=⟨0,0⟩) (Nat.zero_le _)).1
 obtain ⟨m1,m2⟩:=zMH (c:=1#8) hm1 (by rw [zQ0];exact u1)
 obtain ⟨s1,s2⟩:=zMH (bs:=x) (c:=71#8) (R:=⟨0,0⟩) (Nat.zero_le _) m1
 have hdz:x.drop (gSx x).2.2.p=[]:=List.drop_eq_nil_of_le hEnd
 have hlen:(gSx x).1.length=(zL x 128#64 (gBx x).2).1.toNat:=hb.len
 have hbk:(zFw (gTx x).1 (gBx x).1).toNat=(zL x (BitVec.ofInt 64 (gTx x).1) (zDt x).2).1.toNat ∧ -1≤(gBx x).1∧(gBx x).1<(gTx x).1:=by
  by_cases h0:0<(zL x (BitVec.ofInt 64 (gTx x).1) (zDt x).2).1.toNat
  ·rw [zNg h0]
   dsimp only
   unfold zFw
   rw [if_pos (by omega)]
   have:=zCu (x:=(gTx x).1-((gTx x).1-(((zL x (BitVec.ofInt 64 (gTx x).1) (zDt x).2).1.toNat:Nat):Int))) (by omega) (by omega)
   omega
  ·rw [zNf h0]
   dsimp only
   unfold zFw
   rw [if_neg (by omega)]
   refine ⟨?_,by omega,by omega⟩
   show 0=_
   omega
 have hNn:(gSx x).1.length≤128:=zNv x
 have hmm:=zCu (x:=(((gSx x).1.length:Nat):Int)) (by omega) (by omega)
 have hg:zE2 (gTx x).1 (zDt x).1 (gBx x).1 (gSx x).1.length=0:=zGh (by rw [hTe];dsimp only;omega) (by omega) (by omega)
 have hbe:zAV (gTx x).1 (zDt x).1 (gBx x).1 (gSx x).1=0:=(zBy hg).trans hb.err
 refine ⟨hbe,?_,hb.wf⟩
 have hd:=hb.drop
 rw [hdz,List.append_nil] at hd
 rw [zGp hbe,zBC,hbk.1,show (BitVec.ofInt 64 (((gSx x).1.length:Nat):Int)).toNat=(zL x 128#64 (gBx x).2).1.toNat by omega,← hd]
 have e0:x=x.drop 0:=rfl
 rw [zQ0] at m2
 rw [show (gR1 x)=gR1 x from rfl] at u2
 have hZ:zCf (zAA x (gTx x).2).1=zBt (zFE (zDt x).1).toNat:=by rw [hTe];rfl
 have hV:(BitVec.ofInt 64 (gTx x).1).toNat=(zL x 4294967295#64 (gR1 x)).1.toNat:=by
  have:(gTx x).1=(((zL x 4294967295#64 (gR1 x)).1.toNat:Nat):Int):=by rw [zT9]
  omega
 have u2':x.drop (gR1 x).p=zBt (BitVec.ofInt 64 (gTx x).1).toNat++x.drop (gTx x).2.p:=by rw [hV];exact u2
 have t2':x.drop (gTx x).2.p=zBt (zFE (zDt x).1).toNat++x.drop (zDt x).2.p:=by rw [← hZ,hTe];exact t2
 have b2':x.drop (zDt x).2.p=zBt (zL x (BitVec.ofInt 64 (gTx x).1) (zDt x).2).1.toNat++x.drop (gBx x).2.p:=by rw [hBq];exact b2
 have n2':x.drop (gBx x).2.p=zBt (zL x 128#64 (gBx x).2).1.toNat++x.drop (zL x 128#64 (gBx x).2).2.p:=n2
 have:x=[71#8]++([1#8]++(zBt (BitVec.ofInt 64 (gTx x).1).toNat++(zBt (zFE (zDt x).1).toNat++(zBt (zL x (BitVec.ofInt 64 (gTx x).1) (zDt x).2).1.toNat++(zBt (zL x 128#64 (gBx x).2).1.toNat++x.drop (zL x 128#64 (gBx x).2).2.p))))):=by
  rw [← n2',← b2',← t2',← u2',← m2]
  exact s2
 conv=>rhs;rw [this]
 simp only [List.append_assoc,List.cons_append,List.nil_append]
theorem zFh {bs:List zN} (h:(zA bs).e=0):zD2 (zA bs).t (zA bs).tm (zA bs).b (zA bs).l=0∧gwB (zA bs).t (zA bs).tm (zA bs).b (zA bs).l=bs∧∀ r∈(zA bs).l,r.wf:=by
 by_cases h1:4096<bs.length
 ·rw [zHF h1] at h;cases h
 ·cases ho:zCX bs with
  | none=>rw [zFn h1 ho] at h;cases h
  | some x =>
   by_cases he:gEx x=0
   ·rw [zIJ h1 ho he]
    obtain ⟨k1,k2,k3⟩:=zSP he
    have hbs:=(zJB bs x).1 ho
    have hls:=zA6 x
    rw [← hbs] at hls
    dsimp only
    have hw:zD2 (gTx x).1 (zDt x).1 (gBx x).1 (gSx x).1=0:=by
     unfold zD2
     rw [if_neg (by omega),k2,if_neg (by omega)]
    exact ⟨hw,by rw [zFj hw,k2,hbs],k3⟩
   ·rw [zJU h1 ho he] at h
    dsimp only at h
    exact absurd h he
theorem zRu {bs:List zN} {s:List zW×Int×Rs} (h:zXr bs 0 s) (hw:∀ r∈s.1,r.wf):∀ i,∀ r∈(zJc bs s i).1,r.wf
 | 0=>hw
 | i+1=>by
  have h1:=zLZ h i
  have h2:=zRu h hw i
  unfold zJc
  split
  ·exact h2
  ·unfold zKX
   split
   ·exact h2
   ·intro r hr
    rcases List.mem_append.1 hr with hr | hr
    ·exact h2 r hr
    ·rw [List.mem_singleton.1 hr];exact zPO h1.p
theorem zbY (x:List zN):∀ r∈(gSx x).1,r.wf:=by
 rw [← zFR]
 unfold zT
 exact zRu (zXv (zKN x).1) (λr hr=>by cases hr) _
theorem zK2 (bs:List zN):∀ r∈(zA bs).l,r.wf:=by
 unfold zA
 split
 ·simp
 ·split
  ·simp
  ·split
   ·simp
   ·dsimp only;exact zbY _
theorem zDb.full {α:Type} {bs c rest:List zN} {f:Rs→α×Rs} {v:α} {p:Nat} (h:zDb bs c f v) (hp:p≤bs.length) (hd:bs.drop p=c++rest):f ⟨p,0⟩=(v,⟨p+c.length,0⟩)∧bs.drop (p+c.length)=rest∧p+c.length≤bs.length:=by
 have hd':bs.drop p=(c++rest).take (c++rest).length:=by rw [List.take_length];exact hd
 have h2:=zN5 hd' (by simp) hp
 exact ⟨h.good ⟨p,0⟩ _ rest rfl hp hd' (by simp),by rw [h2.1,List.length_append,Nat.add_sub_cancel_left,List.take_length],h2.2⟩
theorem zNB {bs rest:List zN} {c:zN} {p:Nat} (hp:p≤bs.length) (hd:bs.drop p=[c]++rest):zEC c bs ⟨p,0⟩=⟨p+1,0⟩∧bs.drop (p+1)=rest∧p+1≤bs.length:=by
 obtain ⟨h1,h2,h3⟩:=(zHe (bs:=bs) (c:=c)).full hp hd
 refine ⟨?_,h2,h3⟩
 unfold zEC
 rw [h1,if_pos rfl]
 rfl
theorem zMn {bs : List zN} {l : List zW} {R : Rs} {p : Nat} (hl : ∀ x ∈ l, x.wf) (he : zB8 l = 0) (h0 : (zL bs 128#64 R).2 = ⟨p, 0⟩) (hp : p ≤ bs.length) (hR : R.p ≤ bs.length) {tail : List zN} (hd : bs.drop p = (zCM l).1 ++ tail) :
   ∀ i,i≤l.length→zT bs R i=(l.take i,(zCM (l.take i)).2,⟨p+(zCM (l.take i)).1.length,0⟩)
 | 0,_=>by
   show ([],(-1:Int),(zL bs 128#64 R).2)=_
   rw [h0]
   rfl
 | i+1,hi=>by
   have ih:=zMn hl he h0 hp hR hd i (by omega)
   obtain ⟨rest,hs⟩:=zQM (O:=l) (i+1)
   rw [zC7 (by omega)] at hs
   have hds:=hd
   rw [hs,List.append_assoc,List.append_assoc] at hds
   have hlen:=congrArg List.length hds
   simp only [List.length_drop,List.length_append] at hlen
   have h1:bs.drop (p+(zCM (l.take i)).1.length)=zCb (l.getD i default) (zCM (l.take i)).2++(rest++tail):=by
     rw [← List.drop_drop,hds,List.drop_left]
   have hq:=zZo (bs:=bs) (last:=(zCM (l.take i)).2) (zM4 hl (by omega)) (zFb he i (by omega)) (by omega) h1
   rw [zII (by rw [ih]) (by rw [ih];dsimp only;rw [hq]),ih]
   dsimp only
   rw [hq,zC7 (by omega),zJC (by omega)]
   dsimp only
   rw [List.length_append,Nat.add_assoc]
theorem zHP {t tm b:Int} {l:List zW} {x tail:List zN} (hl:∀ x∈l,x.wf) (hb:zAV t tm b l=0) (hx0:x=zBg t tm b l++tail):(gTx x).1=t∧(zDt x).1=tm∧(gBx x).1=b∧(gSx x).1=l∧gEx x=if tail=[] then 0 else 8:=by
 obtain ⟨hg,hr⟩:=zDM hb
 obtain ⟨g1,g2,g3,g4,g5,g6,g7⟩:=zFl hg
 have hx:x=[71#8]++([1#8]++(zBt (BitVec.ofInt 64 t).toNat++(zCf tm++(zBt (zFw t b).toNat++(zBt (BitVec.ofInt 64 (l.length:Int)).toNat++((zCM l).1++tail)))))):=by
  rw [hx0,zGp hb,zBC,zCf]
  simp only [List.append_assoc,List.cons_append,List.nil_append]
 have ht:=zCu (x:=t) (by omega) (by omega)
 have hm:=zCu (x:=(l.length:Int)) (by omega) (by omega)
 have hbk:((zFw t b).toNat:Int)=if 0≤b then t-b else 0:=by
  unfold zFw
  split
  ·exact zCu (by omega) (by omega)
  ·rfl
 obtain ⟨a1,a2,a3⟩:=zNB (bs:=x) (p:=0) (Nat.zero_le _) (by rw [List.drop_zero];exact hx)
 obtain ⟨b1,b2,b3⟩:=zNB a3 a2
 have e1:gR1 x=⟨0+1+1,0⟩:=by rw [← zQ0,a1,b1]
 obtain ⟨c1,c2,c3⟩:=(zCq (bs:=x) (L:=4294967295#64) (X:=BitVec.ofInt 64 t) (by show _≤4294967295;omega)).full b3 b2
 have e2:gTx x=(t,⟨0+1+1+(zBt (BitVec.ofInt 64 t).toNat).length,0⟩):=by rw [zT9,e1,c1,ht]
 obtain ⟨d1,d2,d3⟩:=(zDB (bs:=x) (x:=tm) (by omega)).full c3 c2
 generalize hp2:0+1+1+(zBt (BitVec.ofInt 64 t).toNat).length=p2 at *
 have e3:zDt x=(tm,⟨p2+(zCf tm).length,0⟩):=by
  have q:zAA x (gTx x).2=(tm,⟨p2+(zCf tm).length,0⟩):=by rw [e2];exact d1
  rw [zTD (by rw [q];dsimp only;omega),q]
 generalize hp3:p2+(zCf tm).length=p3 at *
 obtain ⟨f1,f2,f3⟩:=(zCq (bs:=x) (L:=BitVec.ofInt 64 t) (X:=zFw t b) (by split at hbk<;>omega)).full d3 d2
 generalize hp4:p3+(zBt (zFw t b).toNat).length=p4 at *
 have e4:gBx x=(b,⟨p4,0⟩):=by
  have q:zL x (BitVec.ofInt 64 (gTx x).1) (zDt x).2=(zFw t b,⟨p4,0⟩):=by rw [e2,e3];exact f1
  by_cases hb0:0≤b
  ·rw [if_pos hb0] at hbk
   rw [zNg (by rw [q];dsimp only;omega),q,e2]
   dsimp only
   rw [hbk,show t-(t-b)=b by omega]
  ·rw [if_neg hb0] at hbk
   rw [zNf (by rw [q];dsimp only;omega),q]
   dsimp only
   rw [show b = -1 by omega]
 obtain ⟨k1,k2,k3⟩:=(zCq (bs:=x) (L:=128#64) (X:=BitVec.ofInt 64 (l.length:Int)) (by show _≤128;omega)).full f3 f2
 have hn:gN x (gBx x).2=l.length:=by
  unfold gN
  rw [e4]
  dsimp only
  rw [k1]
  dsimp only
  omega
 have hrec:=zMn (R:=(gBx x).2) hl hr (by rw [e4];dsimp only;rw [k1]) k3 (by rw [e4];exact f3) k2 l.length (Nat.le_refl _)
 rw [List.take_length] at hrec
 have hS:gSx x=(l,(zCM l).2,⟨p4+(zBt (BitVec.ofInt 64 (l.length:Int)).toNat).length+(zCM l).1.length,0⟩):=by rw [← zFR,hn,hrec]
 have hlen:=congrArg List.length k2
 rw [List.length_drop,List.length_append] at hlen
 have hE:gEx x=if tail=[] then 0 else 8:=by
  rw [← zLT,hS]
  unfold zHZ
  cases tail with
  | nil =>
   rw [List.length_nil] at hlen
   rw [if_pos (.inr (by dsimp only;omega)),if_pos rfl]
  | cons c tl =>
   rw [List.length_cons] at hlen
   rw [if_neg (by dsimp only;omega),if_neg (by simp)]
 exact ⟨by rw [e2],by rw [e3],by rw [e4],by rw [hS],hE⟩
theorem zJJ {t tm b:Int} {l:List zW} (hl:∀ x∈l,x.wf) (h:zD2 t tm b l=0):zA (gwB t tm b l)=⟨t,tm,b,l,0⟩:=by
 have hw:=zDT t tm b l
 obtain ⟨h1,h2,h3,h4,h5⟩:=zHP (x:=zBg t tm b l) (tail:=[]) hl (zEY h).1 (by rw [List.append_nil])
 rw [zIJ (by omega) (zaC h) (by rw [h5];rfl),h1,h2,h3,h4]
theorem zNO {t tm b:Int} {l:List zW} (hl:∀ x∈l,x.wf) (h:zD2 t tm b l=0):(zA ((gwB t tm b l).take ((gwB t tm b l).length-1))).e≠0:=by
 intro he
 have hw:=zDT t tm b l
 obtain ⟨k1,k2,k3⟩:=zFh he
 have hs:=zFj h
 generalize zA ((gwB t tm b l).take ((gwB t tm b l).length-1))=D at *
 have hs2:=zFj k1
 rw [k2,hs] at hs2
 have hl1:=zA6 (zBg t tm b l)
 have hl2:=congrArg List.length hs2
 simp only [List.length_take,zA6] at hl2
 have hp:zBg t tm b l=zBg D.t D.tm D.b D.l++(zBg t tm b l).drop (zBg D.t D.tm D.b D.l).length:=by
  have e:zBg D.t D.tm D.b D.l=(zBg t tm b l).take (zBg D.t D.tm D.b D.l).length:=by
   have e1:zBg D.t D.tm D.b D.l=(zCp (zBg D.t D.tm D.b D.l)).take (zBg D.t D.tm D.b D.l).length:=by unfold zCp;rw [List.take_left]
   rw [← hs2,List.take_take,Nat.min_eq_left (by omega)] at e1
   rw [e1]
   unfold zCp
   rw [List.take_append_of_le_length (by omega),List.length_take,Nat.min_eq_left (by omega)]
  rw [e]
  simp only [List.length_take]
  rw [show min (zBg D.t D.tm D.b D.l).length (zBg t tm b l).length=(zBg D.t D.tm D.b D.l).length by omega,List.take_append_drop]
 obtain ⟨_,_,_,_,h5⟩:=zHP (x:=zBg t tm b l) k3 (zEY k1).1 hp
 obtain ⟨_,_,_,_,h6⟩:=zHP (x:=zBg t tm b l) (tail:=[]) hl (zEY h).1 (by rw [List.append_nil])
 rw [h6,if_pos rfl] at h5
 split at h5
 ·rename_i h7
  have:=congrArg List.length h7
  rw [List.length_drop,List.length_nil] at this
  omega
 ·cases h5
theorem zYT {t tm b:Int} {l:List zW} (h:zD2 t tm b l=0):10≤(gwB t tm b l).length:=by
 have hb:=(zEY h).1
 have h1:=zB6 (BitVec.ofInt 64 t).toNat
 have h2:=zB6 (zFE tm).toNat
 have h3:=zB6 (zFw t b).toNat
 have h4:=zB6 (BitVec.ofInt 64 (l.length:Int)).toNat
 rw [zFj h,zA6,zGp hb,zBC]
 simp only [List.length_append,List.length_cons,List.length_nil]
 unfold zBe at h1 h2 h3 h4
 omega
theorem zMD {t tm b:Int} {l:List zW} (h:zD2 t tm b l=0) (i:Nat) (y:zN) (hi:i<(gwB t tm b l).length) (hy:y≠0):zA ((gwB t tm b l).set i ((gwB t tm b l).getD i 0^^^y))=⟨0,0,0,[],9⟩:=by
 have hw:=zDT t tm b l
 refine zFn (by rw [List.length_set];omega) ?_
 rw [zFj h] at hi ⊢
 exact zNS _ i y hi hy
theorem zPe {α:Type} {f:Nat→List Value} {g:α→List Value} {p:α→Prop}:∀ (n:Nat),(∀ i,i<n→∃ a:α,f i=g a∧p a)→∃ l:List α,l.length=n∧(List.range n).flatMap f=l.flatMap g∧∀ x∈l,p x
 | 0,_=>⟨[],rfl,rfl,by simp⟩
 | n+1,h=>by
  obtain ⟨l,hl,he,hp⟩:=zPe n λi hi=>h i (by omega)
  obtain ⟨a,ha,hpa⟩:=h n (by omega)
  refine ⟨l++[a],by simp [hl],by rw [List.range_succ,List.flatMap_append,List.flatMap_append,he];simp [ha],λx hx=>?_⟩
  rcases List.mem_append.1 hx with hx | hx
  ·exact hp x hx
  ·rw [List.mem_singleton] at hx;subst hx;exact hpa
end Go.Sx
