import Derived.Test.YtljpfgacpofkpaaGreatQSxBasA
import Derived.Test.YtljpfgacpofkpaaGreatQSxRecs
import Derived.Test.YtljpfgacpofkpaaGreatQSxBasB
set_option linter.unusedVariables false
set_option linter.unusedSimpArgs false
namespace Go.Sx
def zYU (s:BitVec 32):BitVec 32:=(s>>>1)^^^(3988292384#32 &&& -(s&&&1#32))
def zKh : Nat→BitVec 32→BitVec 32
 | 0,s=>s
 | k+1,s=>zYU (zKh k s)
def zRC (s:BitVec 32) (c:zQ):BitVec 32:=zKh 8 (s^^^c.setWidth 32)
def zM0 (s:BitVec 32) (bs:List zQ):BitVec 32:=bs.foldl zRC s
def zMe (s:BitVec 32) (bs:List zQ):BitVec 32 := ~~~(zM0 (~~~s) bs)
def zCa (bs:List zQ):BitVec 32:=zMe 0#32 bs
theorem zPZ (s:BitVec 32) (bs:List zQ) (k:Nat) (h:k<bs.length):zM0 s (bs.take (k+1))=zRC (zM0 s (bs.take k)) (bs.getD k 0):=by
 unfold zM0
 rw [List.take_succ_eq_append_getElem h,List.foldl_append]
 simp [List.getD_eq_getElem?_getD,h]
def be4 (s:BitVec 32):List zQ:=[(s>>>24).setWidth 8,(s>>>16).setWidth 8,(s>>>8).setWidth 8,s.setWidth 8]
def zGx (bs:List zQ):List zQ:=bs++be4 (zCa bs)
theorem zER (bs:List zQ):(zGx bs).length=bs.length+4:=by simp [zGx,be4]
def beN (bs:List zQ):BitVec 32:=bs.foldl (λs c=>(s<<<8)|||c.setWidth 32) 0#32
theorem zUr (bs:List zQ) (k:Nat) (h:k<bs.length):beN (bs.take (k+1))=(beN (bs.take k)<<<8)|||(bs.getD k 0).setWidth 32:=by
 unfold beN
 rw [List.take_succ_eq_append_getElem h,List.foldl_append]
 simp [List.getD_eq_getElem?_getD,h]
theorem zbw (s:BitVec 32) (c:zQ) (h:s.toNat<2 ^ 24):((s<<<8)|||c.setWidth 32).toNat=s.toNat*256+c.toNat:=by
 have hc:=c.isLt
 rw [BitVec.toNat_or,BitVec.toNat_shiftLeft,BitVec.toNat_setWidth,Nat.shiftLeft_eq,Nat.mod_eq_of_lt (by omega),Nat.mod_eq_of_lt (by omega)]
 rw [Nat.mul_comm,← Nat.two_pow_add_eq_or_of_lt hc]
theorem zcm (a b c d:zQ):(beN [a,b,c,d]).toNat=a.toNat*16777216+b.toNat*65536+c.toNat*256+d.toNat:=by
 simp only [beN,List.foldl_cons,List.foldl_nil]
 have ha:=a.isLt
 have hb:=b.isLt
 have hc:=c.isLt
 have hd:=d.isLt
 have h0:(0#32:BitVec 32).toNat=0:=rfl
 have h1:=zbw 0#32 a (by omega)
 have h2:=zbw _ b (by rw [h1];omega)
 have h3:=zbw _ c (by rw [h2,h1];omega)
 have h4:=zbw _ d (by rw [h3,h2,h1];omega)
 rw [h4,h3,h2,h1]
 omega
theorem zZr (s:BitVec 32):beN (be4 s)=s:=by
 apply BitVec.eq_of_toNat_eq
 have:=s.isLt
 rw [be4,zcm]
 simp only [BitVec.toNat_setWidth,BitVec.toNat_ushiftRight,Nat.shiftRight_eq_div_pow]
 omega
theorem zTi (a b c d:zQ):be4 (beN [a,b,c,d])=[a,b,c,d]:=by
 have h:=zcm a b c d
 have ha:=a.isLt
 have hb:=b.isLt
 have hc:=c.isLt
 have hd:=d.isLt
 simp only [be4,List.cons.injEq,and_true]
 refine ⟨?_,?_,?_,?_⟩<;>apply BitVec.eq_of_toNat_eq<;>simp only [BitVec.toNat_setWidth,BitVec.toNat_ushiftRight,Nat.shiftRight_eq_div_pow,h]<;>omega
theorem zX6 : ∀ (l:List zQ),l.length=4→be4 (beN l)=l
 | [a,b,c,d],_=>zTi a b c d
def zCy (bs:List zQ):Option (List zQ) :=
 if bs.length<4 then none else if beN (bs.drop (bs.length-4))=zCa (bs.take (bs.length-4)) then some (bs.take (bs.length-4)) else none
theorem zLq (bs:List zQ):zCy (zGx bs)=some bs:=by
 unfold zCy
 have hl:=zER bs
 rw [if_neg (by omega),hl,show bs.length+4-4=bs.length by omega]
 have h1:(zGx bs).drop bs.length=be4 (zCa bs):=by simp [zGx]
 have h2:(zGx bs).take bs.length=bs:=by simp [zGx]
 rw [h1,h2,zZr,if_pos rfl]
theorem zQO (bs x:List zQ):zCy bs=some x↔bs=zGx x:=by
 constructor
 ·intro h
  unfold zCy at h
  split at h
  ·cases h
  ·rename_i hl
   split at h
   ·rename_i he
    injection h with h
    subst h
    unfold zGx
    rw [← he,zX6 _ (by simp;omega),List.take_append_drop]
   ·cases h
 ·rintro rfl
  exact zLq x
theorem zGI (r:zY):(zDv r).length=9:=rfl
theorem zIJ {α:Type} [Inhabited α] {l:List α} {j:Nat} (h:j<l.length):l.take (j+1)=l.take j++[l.getD j default]:=by
 rw [List.take_add_one,List.getD_eq_getElem?_getD,List.getElem?_eq_getElem h]
 rfl
theorem zL8 {l:List zY} (h:∀ x∈l,x.wf) {j:Nat} (hj:j<l.length):(l.getD j default).wf:=by
 rw [List.getD_eq_getElem?_getD,List.getElem?_eq_getElem hj]
 exact h _ (List.getElem_mem hj)
def zCn (O:List zY):List zQ×Int:=O.foldl (λs r=>(s.1++zCk r s.2,r.id)) ([],-1)
theorem zCq {O:List zY} {k:Nat} (h:k<O.length):zCn (O.take (k+1))=((zCn (O.take k)).1++zCk (O.getD k default) (zCn (O.take k)).2,(O.getD k default).id):=by
 unfold zCn
 rw [zIJ h,List.foldl_append]
 rfl
theorem zNP : ∀ (O:List zY) (s:List zQ×Int),∃ rest,(O.foldl (λs r=>(s.1++zCk r s.2,r.id)) s).1=s.1++rest
 | [],s=>⟨[],by simp⟩
 | r::O,s=>by
  obtain ⟨rest,h⟩:=zNP O (s.1++zCk r s.2,r.id)
  exact ⟨zCk r s.2++rest,by rw [List.foldl_cons,h];simp⟩
theorem zPf {O:List zY} (k:Nat):∃ rest,(zCn O).1=(zCn (O.take k)).1++rest:=by
 have:zCn O=(O.drop k).foldl (λs r=>(s.1++zCk r s.2,r.id)) (zCn (O.take k)):=by
  unfold zCn
  rw [← List.foldl_append,List.take_append_drop]
 rw [this]
 exact zNP _ _
theorem zNd : ∀ (O:List zY),(zCn O).1.length≤100*O.length:=by
 have key:∀ (O:List zY) (s:List zQ×Int),(O.foldl (λs r=>(s.1++zCk r s.2,r.id)) s).1.length≤s.1.length+100*O.length:=by
  intro O
  induction O with
  | nil=>intro s;simp
  | cons r O ih =>
   intro s
   have h1:=ih (s.1++zCk r s.2,r.id)
   have h2:=zIV r s.2
   rw [List.foldl_cons]
   simp only [List.length_append,List.length_cons] at h1 ⊢
   omega
 intro O
 have:=key O ([],-1)
 simpa [zCn] using this
def zFV (l:List zY) (k:Nat):Nat:=zA6 (l.getD k default) (zCn (l.take k)).2
def zCD (l:List zY):Nat→Nat
 | 0=>0
 | j+1=>if zCD l j≠0 then zCD l j else zFV l j
def zCg (l:List zY):Nat:=zCD l l.length
theorem zR8 {l:List zY} {j:Nat} (h:zCD l j=0) (h2:zFV l j=0):zCD l (j+1)=0:=by unfold zCD;rw [if_neg (by omega),h2]
theorem zPc {l:List zY} {j:Nat} (h:zCD l j=0):zCD l (j+1)=zFV l j:=by unfold zCD;rw [if_neg (by omega)]
theorem zIS {l:List zY} {j e:Nat} (h:zCD l j=e) (he:e≠0):∀ k,zCD l (j+k)=e
 | 0=>h
 | k+1=>by
  have:=zIS h he k
  show (if zCD l (j+k)≠0 then zCD l (j+k) else zFV l (j+k))=e
  rw [if_pos (by omega),this]
theorem zGo {l:List zY} {j:Nat} (hj:j<l.length) (h:zCD l j=0) (he:zFV l j≠0):zCg l=zFV l j:=by
 have:=zIS (zPc h) he (l.length-(j+1))
 rwa [show j+1+(l.length-(j+1))=l.length by omega] at this
theorem zG4 {l:List zY} {j:Nat} (h:zCD l j=0):∀ k,k<j→zFV l k=0:=by
 induction j with
 | zero=>intro k hk;omega
 | succ j ih =>
  unfold zCD at h
  split at h
  ·omega
  ·intro k hk
   by_cases e:k=j
   ·subst e;exact h
   ·exact ih (by omega) k (by omega)
theorem zMM {l:List zY} {j:Nat} (hj:j≤l.length) (h:zCD l j=0) : -1≤(zCn (l.take j)).2∧(zCn (l.take j)).2≤65535:=by
 cases j with
 | zero=>exact ⟨(show -1≤(-1:Int) by decide),(show (-1:Int)≤65535 by decide)⟩
 | succ j =>
  have h1:=zC7 (zG4 h j (by omega))
  rw [zCq (by omega)]
  dsimp only
  omega
def zFJ (t tm b:Int) (m:Nat):Nat:=if t<0∨4294967295<t∨tm < -2305843009213693952∨2305843009213693952<tm∨b < -1 then 3 else if t≤b then 10 else if 128<m then 8 else 0
def zHO (t b:Int):BitVec 64:=if 0≤b then BitVec.ofInt 64 (t-b) else 0#64
def zBK (t tm b:Int) (m:Nat):List zQ:=[71#8,1#8]++zCX (BitVec.ofInt 64 t).toNat++zCX (zGY tm).toNat++zCX (zHO t b).toNat++zCX (BitVec.ofInt 64 (m:Int)).toNat
def zBp (t tm b:Int) (m:Nat):List zQ:=if zFJ t tm b m≠0 then [] else zBK t tm b m
def zAc (t tm b:Int) (l:List zY):Nat:=if zFJ t tm b l.length≠0 then zFJ t tm b l.length else zCg l
def zDe (t tm b:Int) (l:List zY):List zQ:=if zAc t tm b l≠0 then [] else zBK t tm b l.length++(zCn l).1
def zFr (t tm b:Int) (l:List zY):Nat:=if zAc t tm b l≠0 then zAc t tm b l else if 4092<(zDe t tm b l).length then 8 else 0
def gwB (t tm b:Int) (l:List zY):List zQ:=if zFr t tm b l≠0 then [] else zGx (zDe t tm b l)
theorem zF5 (t tm b:Int) (m:Nat):(zBK t tm b m).length≤42:=by
 have h1:=zEV (BitVec.ofInt 64 t).toNat
 have h2:=zEV (zGY tm).toNat
 have h3:=zEV (zHO t b).toNat
 have h4:=zEV (BitVec.ofInt 64 (m:Int)).toNat
 unfold zBK
 simp only [List.length_append,List.length_cons,List.length_nil]
 omega
theorem zDi {t tm b:Int} {m:Nat} (h:t<0∨4294967295<t∨tm < -2305843009213693952∨2305843009213693952<tm∨b < -1):zFJ t tm b m=3:=by unfold zFJ;rw [if_pos h]
theorem zCO {t tm b:Int} {m:Nat} (h:¬ (t<0∨4294967295<t∨tm < -2305843009213693952∨2305843009213693952<tm∨b < -1)) (h2:t≤b):zFJ t tm b m=10:=by unfold zFJ;rw [if_neg h,if_pos h2]
theorem zDk {t tm b:Int} {m:Nat} (h:¬ (t<0∨4294967295<t∨tm < -2305843009213693952∨2305843009213693952<tm∨b < -1)) (h2:¬ t≤b) (h3:128<m):zFJ t tm b m=8:=by unfold zFJ;rw [if_neg h,if_neg h2,if_pos h3]
theorem zHC {t tm b:Int} {m:Nat} (h:¬ (t<0∨4294967295<t∨tm < -2305843009213693952∨2305843009213693952<tm∨b < -1)) (h2:¬ t≤b) (h3:¬ 128<m):zFJ t tm b m=0:=by unfold zFJ;rw [if_neg h,if_neg h2,if_neg h3]
theorem zGh {t tm b:Int} {m:Nat} (h:zFJ t tm b m=0):0≤t∧t≤4294967295 ∧ -2305843009213693952≤tm∧tm≤2305843009213693952 ∧ -1≤b∧b<t∧m≤128:=by
 unfold zFJ at h
 split at h
 ·cases h
 ·split at h
  ·cases h
  ·split at h
   ·cases h
   ·omega
theorem zCF {t tm b:Int} {l:List zY} (h:zFJ t tm b l.length≠0):zAc t tm b l=zFJ t tm b l.length:=by unfold zAc;rw [if_pos h]
theorem zCI {t tm b:Int} {l:List zY} (h:zFJ t tm b l.length=0):zAc t tm b l=zCg l:=by unfold zAc;rw [if_neg (by omega)]
theorem zFu {t tm b:Int} {l:List zY} (h:zAc t tm b l≠0):zDe t tm b l=[]:=by unfold zDe;rw [if_pos h]
theorem zJo {t tm b:Int} {l:List zY} (h:zAc t tm b l=0):zDe t tm b l=zBK t tm b l.length++(zCn l).1:=by unfold zDe;rw [if_neg (by omega)]
theorem zEL {t tm b:Int} {l:List zY} (h:zAc t tm b l=0):zFJ t tm b l.length=0∧zCg l=0:=by
 unfold zAc at h
 split at h
 · omega
 · exact ⟨by omega,h⟩
theorem zG8 (t tm b:Int) (l:List zY):(zDe t tm b l).length≤12842:=by
 unfold zDe
 split
 ·simp
 ·rename_i h
  have h1:=zGh (zEL (by omega:zAc t tm b l=0)).1
  have h2:=zF5 t tm b l.length
  have h3:=zNd l
  simp only [List.length_append]
  omega
theorem zGl (t tm b:Int) (l:List zY):(gwB t tm b l).length≤4096:=by
 unfold gwB
 split
 ·simp
 ·rename_i h
  have h1:zFr t tm b l=0:=by omega
  unfold zFr at h1
  rw [zER]
  split at h1
  ·omega
  ·split at h1
   ·cases h1
   ·omega
theorem zMj {t tm b:Int} {l:List zY} (h:zFr t tm b l=0):zAc t tm b l=0∧(zDe t tm b l).length≤4092:=by
 unfold zFr at h
 split at h
 ·omega
 ·split at h
  ·cases h
  ·omega
theorem zTw {t tm b:Int} {l:List zY} (h:zFr t tm b l=0):gwB t tm b l=zGx (zDe t tm b l):=by unfold gwB;rw [if_neg (by omega)]
theorem zYl {t tm b:Int} {l:List zY} (h:zFr t tm b l=0):zCy (gwB t tm b l)=some (zDe t tm b l):=by rw [zTw h];exact zLq _
def zEk (c:zQ) (bs:List zQ) (R:Rs):Rs:=if (zH bs R).1.toNat=c.toNat then (zH bs R).2 else zBo 7 (zH bs R).2
def zK7 (bs:List zQ) (R:Rs):Rs:=zEk 1#8 bs (zEk 71#8 bs R)
def gT (bs:List zQ) (R:Rs):Int×Rs:=((((zP bs 4294967295#64 R).1.toNat:Nat):Int),(zP bs 4294967295#64 R).2)
def gTm (bs:List zQ) (R:Rs):Int×Rs:=((zAE bs R).1,if -2305843009213693952≤(zAE bs R).1∧(zAE bs R).1≤2305843009213693952 then (zAE bs R).2 else zBo 3 (zAE bs R).2)
def gB (bs:List zQ) (t:Int) (R:Rs):Int×Rs:=(if 0<(zP bs (BitVec.ofInt 64 t) R).1.toNat then t-(((zP bs (BitVec.ofInt 64 t) R).1.toNat:Nat):Int) else -1,(zP bs (BitVec.ofInt 64 t) R).2)
def zM5 (bs:List zQ) (s:List zY×Int×Rs):List zY×Int×Rs :=
 if (zAM bs s.2.1 s.2.2).2.1≠0 then (s.1,s.2.1,(zAM bs s.2.1 s.2.2).2.2) else (s.1++[(zAM bs s.2.1 s.2.2).1],(zAM bs s.2.1 s.2.2).1.id,(zAM bs s.2.1 s.2.2).2.2)
def zKL (bs:List zQ) (s:List zY×Int×Rs):Nat→List zY×Int×Rs
 | 0=>s
 | i+1=>if (zKL bs s i).2.2.e≠0 then zKL bs s i else zM5 bs (zKL bs s i)
def zW (bs:List zQ) (R:Rs) (i:Nat):List zY×Int×Rs:=zKL bs ([],-1,(zP bs 128#64 R).2) i
def gN (bs:List zQ) (R:Rs):Nat:=(zP bs 128#64 R).1.toNat
def gR1 (x:List zQ):Rs:=zK7 x ⟨0,0⟩
def gTx (x:List zQ):Int×Rs:=gT x (gR1 x)
def zHA (x:List zQ):Int×Rs:=gTm x (gTx x).2
def gBx (x:List zQ):Int×Rs:=gB x (gTx x).1 (zHA x).2
def gSx (x:List zQ):List zY×Int×Rs:=zW x (gBx x).2 (gN x (gBx x).2)
def gEx (x:List zQ):Nat:=zIz x (gSx x).2.2
structure zDQ where
 t:Int
 tm:Int
 b:Int
 l:List zY
 e:Nat
def zA (bs:List zQ):zDQ :=
 if 4096<bs.length then ⟨0,0,0,[],8⟩ else match zCy bs with
  | none=>⟨0,0,0,[],9⟩
  | some x=>if gEx x≠0 then ⟨0,0,0,[],gEx x⟩ else ⟨(gTx x).1,(zHA x).1,(gBx x).1,(gSx x).1,0⟩
theorem zLO {X:BitVec 64} (h:X.toNat≤9223372036854775807):X.toInt=((X.toNat:Nat):Int):=by rw [BitVec.toInt_eq_toNat_cond,if_pos (by omega)]
theorem zMC (i:Nat):BitVec.ofNat 64 i+1#64=BitVec.ofNat 64 (i+1):=by
 apply BitVec.eq_of_toNat_eq
 simp
theorem zHl {c:zQ} {bs:List zQ} {R:Rs} (h:R.p≤bs.length):(zEk c bs R).p≤bs.length∧R.p≤(zEk c bs R).p:=by
 have h1:=zEF h
 have h2:=zBZ (e:=7) h1.1
 unfold zEk
 split<;>omega
theorem zKm {bs:List zQ} {R:Rs} (h:R.p≤bs.length):(zK7 bs R).p≤bs.length:=(zHl (zHl h).1).1
theorem zak {bs:List zQ} {R:Rs} (h:R.p≤bs.length):(gT bs R).2.p≤bs.length∧0≤(gT bs R).1∧(gT bs R).1≤4294967295:=by
 have h1:=zA8 (X:=4294967295#64) h
 have h2:(4294967295#64).toNat=4294967295:=rfl
 unfold gT
 dsimp only
 omega
theorem zWL {bs:List zQ} {R:Rs} (h:R.p≤bs.length):(gTm bs R).2.p≤bs.length ∧ -9223372036854775808≤(gTm bs R).1∧(gTm bs R).1≤9223372036854775807:=by
 have h1:=zDX h
 have h2:=zBZ (e:=3) h1.1
 have h3 : -9223372036854775808≤(zAE bs R).1∧(zAE bs R).1≤9223372036854775807:=by unfold zAE;exact zF7 _
 unfold gTm
 dsimp only
 split<;>omega
theorem za1 {bs:List zQ} {t:Int} {R:Rs} (h:R.p≤bs.length) (ht:0≤t∧t≤4294967295):(gB bs t R).2.p≤bs.length ∧ -1≤(gB bs t R).1∧(gB bs t R).1≤4294967295:=by
 have h1:=zA8 (X:=BitVec.ofInt 64 t) h
 have h2:=zEI (x:=t) (by omega) (by omega)
 unfold gB
 dsimp only
 split<;>omega
structure zWO (bs:List zQ) (i:Nat) (s:List zY×Int×Rs):Prop where
 p:s.2.2.p≤bs.length
 lo : -1≤s.2.1
 hi:s.2.1≤65535
 len:s.1.length≤i
theorem zQc {bs:List zQ} {last:Int} {R:Rs} (h : -1≤last∧last≤65535):(zAM bs last R).2.1=(zAM bs last R).2.2.e:=by
 unfold zAM
 rw [if_neg (by omega)]
 split
 ·rfl
 ·split
  ·rfl
  ·rename_i h1
   exact (Decidable.not_not.1 h1).symm
theorem zU6 (bs:List zQ) (last:Int) (R:Rs):(zEf bs last R).1.id=last+1+(((zQw bs last R).1.toNat:Nat):Int):=by
 unfold zEf zBG zCL zBC
 dsimp only
 (repeat' split)<;>rfl
theorem zVh {bs:List zQ} {last:Int} {R:Rs} (hp:R.p≤bs.length) (h : -1≤last∧last≤65535) (h0:(zAM bs last R).2.1=0):last<(zAM bs last R).1.id∧(zAM bs last R).1.id≤65535:=by
 unfold zAM at h0 ⊢
 rw [if_neg (by omega)] at h0 ⊢
 by_cases hl:last=65535
 ·rw [if_pos hl] at h0
  unfold zBo at h0
  split at h0
  ·simp at h0
  ·contradiction
 ·rw [if_neg hl] at h0 ⊢
  split at h0
  ·contradiction
  ·rename_i h1
   rw [if_neg h1]
   dsimp only
   rw [zU6]
   have h2:=zA8 (X:=BitVec.ofInt 64 (65534-last)) hp
   have h3:=zEI (x:=65534-last) (by omega) (by omega)
   unfold zQw
   omega
theorem zQv {bs:List zQ} {i:Nat} {s:List zY×Int×Rs} (h:zWO bs i s):zWO bs (i+1) (zM5 bs s):=by
 have hp:=zNJ (last:=s.2.1) h.p
 have hl:=h.len
 unfold zM5
 split
 ·exact ⟨hp.1,h.lo,h.hi,by dsimp only;omega⟩
 ·rename_i h0
  have hi:=zVh h.p ⟨h.lo,h.hi⟩ (by omega)
  have hlo:=h.lo
  refine ⟨hp.1,by dsimp only;omega,by dsimp only;omega,by simp only [List.length_append,List.length_singleton];omega⟩
theorem zKd {bs:List zQ} {s:List zY×Int×Rs} (h:zWO bs 0 s):∀ i,zWO bs i (zKL bs s i)
 | 0=>h
 | i+1=>by
  unfold zKL
  have h1:=zKd h i
  split
  ·exact ⟨h1.p,h1.lo,h1.hi,Nat.le_succ_of_le h1.len⟩
  ·exact zQv h1
theorem zWZ {bs:List zQ} {R:Rs} (hR:R.p≤bs.length):zWO bs 0 ([],-1,(zP bs 128#64 R).2):=⟨(zA8 hR).1,Int.le_refl _,by show (-1:Int)≤65535;decide,Nat.le_refl 0⟩
theorem zCw {bs:List zQ} {R:Rs} (hR:R.p≤bs.length) (i:Nat):zWO bs i (zW bs R i):=zKd (zWZ hR) i
theorem zLj {bs:List zQ} {s:List zY×Int×Rs} {i:Nat} (h:(zKL bs s i).2.2.e≠0):∀ k,zKL bs s (i+k)=zKL bs s i
 | 0=>rfl
 | k+1=>by
  have h1:=zLj h k
  show (if (zKL bs s (i+k)).2.2.e≠0 then zKL bs s (i+k) else _)=_
  rw [h1,if_pos h]
theorem zYy (bs:List zQ) (R:Rs):gN bs R≤128:=by
 have h2:(128#64).toNat=128:=rfl
 unfold gN zP
 split
 ·exact Nat.zero_le _
 ·split
  ·exact Nat.zero_le _
  ·split
   ·exact Nat.zero_le _
   ·rename_i h
    have h1:=(zMr (Decidable.not_not.1 h)).2
    dsimp only
    omega
theorem zTq {bs:List zQ} {R:Rs}:gN bs R≤0∨(zW bs R 0).2.2.e=0:=by
 show (zP bs 128#64 R).1.toNat≤0∨(zP bs 128#64 R).2.e=0
 unfold zP
 (repeat' split)<;>first | exact .inl (Nat.le_refl 0) | exact .inr rfl
theorem zKX {bs:List zQ} {R:Rs} {i:Nat} (h:(zW bs R i).2.2.e=0) (h0:(zAM bs (zW bs R i).2.1 (zW bs R i).2.2).2.1=0):zW bs R (i+1)=((zW bs R i).1++[(zAM bs (zW bs R i).2.1 (zW bs R i).2.2).1],(zAM bs (zW bs R i).2.1 (zW bs R i).2.2).1.id,(zAM bs (zW bs R i).2.1 (zW bs R i).2.2).2.2):=by
 show zKL _ _ (i+1)=_
 unfold zKL
 rw [if_neg (by unfold zW at h;omega)]
 unfold zM5
 rw [if_neg (by unfold zW at h0;omega)]
 rfl
theorem zPP {bs:List zQ} {R:Rs} {i:Nat} (hR:R.p≤bs.length) (h:(zW bs R i).2.2.e=0) (h0:(zAM bs (zW bs R i).2.1 (zW bs R i).2.2).2.1=0):(zW bs R (i+1)).2.2.e=0:=by
 have hi:=zCw hR i
 rw [zKX h h0,← h0]
 exact (zQc ⟨hi.lo,hi.hi⟩).symm
theorem zRl {bs:List zQ} {R:Rs} {i:Nat} (hR:R.p≤bs.length) (hi:i<gN bs R) (h:(zW bs R i).2.2.e=0) (h0:(zAM bs (zW bs R i).2.1 (zW bs R i).2.2).2.1≠0):zW bs R (gN bs R)=((zW bs R i).1,(zW bs R i).2.1,(zAM bs (zW bs R i).2.1 (zW bs R i).2.2).2.2):=by
 have hv:=zCw hR i
 have h1:zW bs R (i+1)=((zW bs R i).1,(zW bs R i).2.1,(zAM bs (zW bs R i).2.1 (zW bs R i).2.2).2.2):=by
  show zKL _ _ (i+1)=_
  unfold zKL
  rw [if_neg (by unfold zW at h;omega)]
  unfold zM5
  rw [if_pos (by unfold zW at h0;omega)]
  rfl
 have h2:=zQc (bs:=bs) (R:=(zW bs R i).2.2) ⟨hv.lo,hv.hi⟩
 have h3:=zLj (bs:=bs) (s:=([],-1,(zP bs 128#64 R).2)) (i:=i+1) (by
  show (zW bs R (i+1)).2.2.e≠0
  rw [h1]
  dsimp only
  omega) (gN bs R-(i+1))
 rw [show i+1+(gN bs R-(i+1))=gN bs R by omega] at h3
 exact h3.trans h1
theorem zJT {bs:List zQ} (h:4096<bs.length):zA bs=⟨0,0,0,[],8⟩:=by unfold zA;rw [if_pos h]
theorem zJa {bs:List zQ} (h:¬ 4096<bs.length) (ho:zCy bs=none):zA bs=⟨0,0,0,[],9⟩:=by unfold zA;rw [if_neg h,ho]
theorem zK6 {bs x:List zQ} (h:¬ 4096<bs.length) (ho:zCy bs=some x) (he:gEx x≠0):zA bs=⟨0,0,0,[],gEx x⟩:=by
 unfold zA
 rw [if_neg h,ho]
 dsimp only
 rw [if_pos he]
theorem zKD {bs x:List zQ} (h:¬ 4096<bs.length) (ho:zCy bs=some x) (he:gEx x=0):zA bs=⟨(gTx x).1,(zHA x).1,(gBx x).1,(gSx x).1,0⟩:=by
 unfold zA
 rw [if_neg h,ho]
 dsimp only
 rw [if_neg (by omega)]
theorem zW4 (x:List zQ):(gR1 x).p≤x.length:=zKm (Nat.zero_le _)
theorem zOI (x:List zQ):(gTx x).2.p≤x.length∧0≤(gTx x).1∧(gTx x).1≤4294967295:=zak (zW4 x)
theorem zM7 (x:List zQ):(zHA x).2.p≤x.length ∧ -9223372036854775808≤(zHA x).1∧(zHA x).1≤9223372036854775807:=zWL (zOI x).1
theorem zLt (x:List zQ):(gBx x).2.p≤x.length ∧ -1≤(gBx x).1∧(gBx x).1≤4294967295:=za1 (zM7 x).1 (zOI x).2
theorem zTM (x:List zQ):(gSx x).1.length≤128:=by unfold gSx;exact Nat.le_trans (zCw (zLt x).1 _).len (zYy _ _)
theorem zG0 (x:List zQ):zW x (gBx x).2 (gN x (gBx x).2)=gSx x:=rfl
theorem zP2 (x:List zQ):zIz x (gSx x).2.2=gEx x:=rfl
theorem zcV (x:List zQ):(gSx x).2.2.p≤x.length:=by rw [← zG0];exact (zCw (zLt x).1 _).p
theorem zHe (bs:List zQ):(zA bs).l.length≤128∧0≤(zA bs).t∧(zA bs).t≤4294967295 ∧ -9223372036854775808≤(zA bs).tm∧(zA bs).tm≤9223372036854775807 ∧ -1≤(zA bs).b∧(zA bs).b≤4294967295:=by
 unfold zA
 split
 ·simp
 ·split
  ·simp
  ·rename_i x _
   have h1:=zOI x
   have h2:=zM7 x
   have h3:=zLt x
   have h4:=zTM x
   split
   ·simp
   ·dsimp only
    omega
theorem zaT (x:List zQ):zEk 1#8 x (zEk 71#8 x ⟨0,0⟩)=gR1 x:=rfl
theorem zaa (x:List zQ):gTx x=((((zP x 4294967295#64 (gR1 x)).1.toNat:Nat):Int),(zP x 4294967295#64 (gR1 x)).2):=rfl
theorem zXG {x:List zQ} (h : -2305843009213693952≤(zAE x (gTx x).2).1∧(zAE x (gTx x).2).1≤2305843009213693952):zHA x=((zAE x (gTx x).2).1,(zAE x (gTx x).2).2):=by unfold zHA gTm;rw [if_pos h]
theorem zYu {x:List zQ} (h:0<(zP x (BitVec.ofInt 64 (gTx x).1) (zHA x).2).1.toNat):gBx x=((gTx x).1-(((zP x (BitVec.ofInt 64 (gTx x).1) (zHA x).2).1.toNat:Nat):Int),(zP x (BitVec.ofInt 64 (gTx x).1) (zHA x).2).2):=by unfold gBx gB;rw [if_pos h]
theorem zZc {x:List zQ} (h:¬ 0<(zP x (BitVec.ofInt 64 (gTx x).1) (zHA x).2).1.toNat):gBx x=(-1,(zP x (BitVec.ofInt 64 (gTx x).1) (zHA x).2).2):=by unfold gBx gB;rw [if_neg h]
theorem zRg {bs:List zQ} {s:List zY×Int×Rs} (h:zWO bs 0 s) (hw:∀ r∈s.1,r.wf):∀ i,∀ r∈(zKL bs s i).1,r.wf
 | 0=>hw
 | i+1=>by
  have h1:=zKd h i
  have h2:=zRg h hw i
  unfold zKL
  split
  ·exact h2
  ·unfold zM5
   split
   ·exact h2
   ·intro r hr
    rcases List.mem_append.1 hr with hr | hr
    ·exact h2 r hr
    ·rw [List.mem_singleton.1 hr];exact zTa h1.p
theorem zaw (x:List zQ):∀ r∈(gSx x).1,r.wf:=by
 rw [← zG0]
 unfold zW
 exact zRg (zWZ (zLt x).1) (λr hr=>by cases hr) _
theorem zKU (bs:List zQ):∀ r∈(zA bs).l,r.wf:=by
 unfold zA
 split
 ·simp
 ·split
  ·simp
  ·split
   ·simp
   ·dsimp only;exact zaw _
theorem zDL.full {α:Type} {bs c rest:List zQ} {f:Rs→α×Rs} {v:α} {p:Nat} (h:zDL bs c f v) (hp:p≤bs.length) (hd:bs.drop p=c++rest):f ⟨p,0⟩=(v,⟨p+c.length,0⟩)∧bs.drop (p+c.length)=rest∧p+c.length≤bs.length:=by
 have hd':bs.drop p=(c++rest).take (c++rest).length:=by rw [List.take_length];exact hd
 have h2:=zMY hd' (by simp) hp
 exact ⟨h.good ⟨p,0⟩ _ rest rfl hp hd' (by simp),by rw [h2.1,List.length_append,Nat.add_sub_cancel_left,List.take_length],h2.2⟩
theorem zL1 {bs rest:List zQ} {c:zQ} {p:Nat} (hp:p≤bs.length) (hd:bs.drop p=[c]++rest):zEk c bs ⟨p,0⟩=⟨p+1,0⟩∧bs.drop (p+1)=rest∧p+1≤bs.length:=by
 obtain ⟨h1,h2,h3⟩:=(zGd (bs:=bs) (c:=c)).full hp hd
 refine ⟨?_,h2,h3⟩
 unfold zEk
 rw [h1,if_pos rfl]
 rfl
theorem zLv {bs : List zQ} {l : List zY} {R : Rs} {p : Nat} (hl : ∀ x ∈ l, x.wf) (he : zCg l = 0) (h0 : (zP bs 128#64 R).2 = ⟨p, 0⟩) (hp : p ≤ bs.length) (hR : R.p ≤ bs.length) {tail : List zQ} (hd : bs.drop p = (zCn l).1 ++ tail) :
   ∀ i,i≤l.length→zW bs R i=(l.take i,(zCn (l.take i)).2,⟨p+(zCn (l.take i)).1.length,0⟩)
 | 0,_=>by
   show ([],(-1:Int),(zP bs 128#64 R).2)=_
   rw [h0]
   rfl
 | i+1,hi=>by
   have ih:=zLv hl he h0 hp hR hd i (by omega)
   obtain ⟨rest,hs⟩:=zPf (O:=l) (i+1)
   rw [zCq (by omega)] at hs
   have hds:=hd
   rw [hs,List.append_assoc,List.append_assoc] at hds
   have hlen:=congrArg List.length hds
   simp only [List.length_drop,List.length_append] at hlen
   have h1:bs.drop (p+(zCn (l.take i)).1.length)=zCk (l.getD i default) (zCn (l.take i)).2++(rest++tail):=by
     rw [← List.drop_drop,hds,List.drop_left]
   have hq:=zZX (bs:=bs) (last:=(zCn (l.take i)).2) (zL8 hl (by omega)) (zG4 he i (by omega)) (by omega) h1
   rw [zKX (by rw [ih]) (by rw [ih];dsimp only;rw [hq]),ih]
   dsimp only
   rw [hq,zCq (by omega),zIJ (by omega)]
   dsimp only
   rw [List.length_append,Nat.add_assoc]
theorem zPS {t tm b:Int} {l:List zY} {x tail:List zQ} (hl:∀ x∈l,x.wf) (hb:zAc t tm b l=0) (hx0:x=zDe t tm b l++tail):(gTx x).1=t∧(zHA x).1=tm∧(gBx x).1=b∧(gSx x).1=l∧gEx x=if tail=[] then 0 else 8:=by
 obtain ⟨hg,hr⟩:=zEL hb
 obtain ⟨g1,g2,g3,g4,g5,g6,g7⟩:=zGh hg
 have hx:x=[71#8]++([1#8]++(zCX (BitVec.ofInt 64 t).toNat++(zDd tm++(zCX (zHO t b).toNat++(zCX (BitVec.ofInt 64 (l.length:Int)).toNat++((zCn l).1++tail)))))):=by
  rw [hx0,zJo hb,zBK,zDd]
  simp only [List.append_assoc,List.cons_append,List.nil_append]
 have ht:=zEI (x:=t) (by omega) (by omega)
 have hm:=zEI (x:=(l.length:Int)) (by omega) (by omega)
 have hbk:((zHO t b).toNat:Int)=if 0≤b then t-b else 0:=by
  unfold zHO
  split
  ·exact zEI (by omega) (by omega)
  ·rfl
 obtain ⟨a1,a2,a3⟩:=zL1 (bs:=x) (p:=0) (Nat.zero_le _) (by rw [List.drop_zero];exact hx)
 obtain ⟨b1,b2,b3⟩:=zL1 a3 a2
 have e1:gR1 x=⟨0+1+1,0⟩:=by rw [← zaT,a1,b1]
 obtain ⟨c1,c2,c3⟩:=(zCh (bs:=x) (L:=4294967295#64) (X:=BitVec.ofInt 64 t) (by show _≤4294967295;omega)).full b3 b2
 have e2:gTx x=(t,⟨0+1+1+(zCX (BitVec.ofInt 64 t).toNat).length,0⟩):=by rw [zaa,e1,c1,ht]
 obtain ⟨d1,d2,d3⟩:=(zCs (bs:=x) (x:=tm) (by omega)).full c3 c2
 generalize hp2:0+1+1+(zCX (BitVec.ofInt 64 t).toNat).length=p2 at *
 have e3:zHA x=(tm,⟨p2+(zDd tm).length,0⟩):=by
  have q:zAE x (gTx x).2=(tm,⟨p2+(zDd tm).length,0⟩):=by rw [e2];exact d1
  rw [zXG (by rw [q];dsimp only;omega),q]
 generalize hp3:p2+(zDd tm).length=p3 at *
 obtain ⟨f1,f2,f3⟩:=(zCh (bs:=x) (L:=BitVec.ofInt 64 t) (X:=zHO t b) (by split at hbk<;>omega)).full d3 d2
 generalize hp4:p3+(zCX (zHO t b).toNat).length=p4 at *
 have e4:gBx x=(b,⟨p4,0⟩):=by
  have q:zP x (BitVec.ofInt 64 (gTx x).1) (zHA x).2=(zHO t b,⟨p4,0⟩):=by rw [e2,e3];exact f1
  by_cases hb0:0≤b
  ·rw [if_pos hb0] at hbk
   rw [zYu (by rw [q];dsimp only;omega),q,e2]
   dsimp only
   rw [hbk,show t-(t-b)=b by omega]
  ·rw [if_neg hb0] at hbk
   rw [zZc (by rw [q];dsimp only;omega),q]
   dsimp only
   rw [show b = -1 by omega]
 obtain ⟨k1,k2,k3⟩:=(zCh (bs:=x) (L:=128#64) (X:=BitVec.ofInt 64 (l.length:Int)) (by show _≤128;omega)).full f3 f2
 have hn:gN x (gBx x).2=l.length:=by
  unfold gN
  rw [e4]
  dsimp only
  rw [k1]
  dsimp only
  omega
 have hrec:=zLv (R:=(gBx x).2) hl hr (by rw [e4];dsimp only;rw [k1]) k3 (by rw [e4];exact f3) k2 l.length (Nat.le_refl _)
 rw [List.take_length] at hrec
 have hS:gSx x=(l,(zCn l).2,⟨p4+(zCX (BitVec.ofInt 64 (l.length:Int)).toNat).length+(zCn l).1.length,0⟩):=by rw [← zG0,hn,hrec]
 have hlen:=congrArg List.length k2
 rw [List.length_drop,List.length_append] at hlen
 have hE:gEx x=if tail=[] then 0 else 8:=by
  rw [← zP2,hS]
  unfold zIz
  cases tail with
  | nil =>
   rw [List.length_nil] at hlen
   rw [if_pos (.inr (by dsimp only;omega)),if_pos rfl]
  | cons c tl =>
   rw [List.length_cons] at hlen
   rw [if_neg (by dsimp only;omega),if_neg (by simp)]
 exact ⟨by rw [e2],by rw [e3],by rw [e4],by rw [hS],hE⟩
theorem zId {t tm b:Int} {l:List zY} (hl:∀ x∈l,x.wf) (h:zFr t tm b l=0):zA (gwB t tm b l)=⟨t,tm,b,l,0⟩:=by
 have hw:=zGl t tm b l
 obtain ⟨h1,h2,h3,h4,h5⟩:=zPS (x:=zDe t tm b l) (tail:=[]) hl (zMj h).1 (by rw [List.append_nil])
 rw [zKD (by omega) (zYl h) (by rw [h5];rfl),h1,h2,h3,h4]
theorem zNn {α:Type} {f:Nat→List Value} {g:α→List Value} {p:α→Prop}:∀ (n:Nat),(∀ i,i<n→∃ a:α,f i=g a∧p a)→∃ l:List α,l.length=n∧(List.range n).flatMap f=l.flatMap g∧∀ x∈l,p x
 | 0,_=>⟨[],rfl,rfl,by simp⟩
 | n+1,h=>by
  obtain ⟨l,hl,he,hp⟩:=zNn n λi hi=>h i (by omega)
  obtain ⟨a,ha,hpa⟩:=h n (by omega)
  refine ⟨l++[a],by simp [hl],by rw [List.range_succ,List.flatMap_append,List.flatMap_append,he];simp [ha],λx hx=>?_⟩
  rcases List.mem_append.1 hx with hx | hx
  ·exact hp x hx
  ·rw [List.mem_singleton] at hx;subst hx;exact hpa
end Go.Sx
